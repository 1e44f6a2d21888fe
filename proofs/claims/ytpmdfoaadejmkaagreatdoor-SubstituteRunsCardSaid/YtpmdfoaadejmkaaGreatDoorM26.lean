/-
  What is shown at the head of all laws.
-/
import Derived.Test.YtpmdfoaadejmkaaGreatDoorM25
import Derived.Test.YtpmdfoaadejmkaaGreatDoorM05
import Derived.Test.YtpmdfoaadejmkaaGreatDoorM12
import Derived.Test.YtpmdfoaadejmkaaGreatDoorM23
namespace Go.Proofs.YtpmdfoaadejmkaaGreatDoor
open Go.RowKit
attribute [local irreducible] AT bK AX AO Av Kt bh dw DA cK
def C6 (ls:List aO):Bool:=ls.all (y9 5) && (decide (ls.length≤1000000) && Cp ls)
theorem C7 {ls:List aO} (h:C6 ls=true):AC Tryz.prog 15 [bZ (fD ls)] [] fun c _=>∃E,lS E∧Dz (.iptr (ei E)) (cV km ls)∧c= .tup [.iptr (ei E),aF 0]:=by
 unfold C6 Cp at h
 simp only [Bool.and_eq_true,decide_eq_true_eq] at h
 refine AC.mono (zV h.1 h.2.1 (vl h.2.2)) fun c L ⟨E,h1,h2,h3,h4⟩=>⟨E,h1,?_,h4⟩
 have:=Hy h1
 rwa [h2,h3] at this
theorem Aj:C6 Df=true:=by decide+kernel
theorem Al:decide ((my (cV km Df) [0,1] [] (eV [0,1,0])).map aI.Glyph=[3,0])=true:=by decide+kernel
theorem Dg:AC Tryz.prog 13 [] [dP] fun c L=>c=dY true∧L=[dP]:=by
 refine aN Tryz.func13 rfl Tryz.ntmps13 rfl fun B=>?_
 repeat' (first|refine JU ?_|refine JG a5 JA ?_|refine bN a5 ?_|fail)
 refine b9 [] _ (AC.args (zU Df) ?_) rfl rfl (Jp _) rfl fun c L1 hc=>?_
 ·repeat' first | exact cY.refl _ | exact cY.nil _ | exact True.intro | refine cY.agg ?_ | refine cY.imm ?_ | refine And.intro ?_ ?_
 subst hc
 refine aJ (bA (List.sublist_append_right ..)) ?_
 repeat' (first|refine JU ?_|refine JG a5 JA ?_|(apply aM;first|refine JI 1 a5 0 JF ?_|refine JI 1 a5 1 JF ?_|refine JI 1 a5 2 JF ?_|refine JH a5 0 JE ?_|refine JH a5 1 JE ?_|refine JH a5 2 JE ?_|refine JH a5 3 JE ?_|fail)|refine bj a5 fun _=>?_|fail)
 refine b9 [] _ (C7 Aj) rfl rfl (Jp _) rfl fun c L1 hc=>?_
 obtain ⟨E,hE,hA,rfl⟩:=hc
 refine aJ (bA (List.sublist_append_right ..)) ?_
 repeat' (first|refine JU ?_|refine JG a5 JA ?_|refine JO JA ?_)
 refine bX [2] False rfl (fun Q' K=>?_) (fun hC=>hC.elim) (fun _=>?_)
 ·repeat' (first|fail)
  refine qP Tryz.underlying34 rfl rfl rfl rfl ?_
  repeat' (first|refine JU ?_|refine JG a5 JA ?_)
  exact K _ _ rfl rfl (by simp)
 repeat' (first|refine JU ?_|refine JG a5 JA ?_|refine bN a5 ?_|fail)
 refine b9 [] _ (zA [0,1,0] (by decide)) rfl rfl (Jp _) rfl fun c L1 hc=>?_
 subst hc
 refine aJ (bA (List.sublist_append_right ..)) ?_
 repeat' (first|fail)
 refine b9 [dP] [] (AC.args (yp (ei E) hA [0,1] [] (eV [0,1,0]) (by decide)) (a:=[.iptr (ei E),.imm 1 (aW [0,1]),.sc (.slice none 0 0),.imm 6 ((eV [0,1,0]).map aY)]) ⟨cY.refl _,cY.refl _,cY.nil 1,cY.refl _,trivial⟩) rfl rfl (Jp _) rfl fun c L1 ⟨hc,hL⟩=>?_
 subst hc;subst hL
 repeat' (first|refine bN a5 ?_|fail)
 refine b9 [] _ (wF _ [3,0] (by decide)) rfl rfl (Jp _) rfl fun c L1 hc=>?_
 subst hc
 rw [Al]
 refine aJ (bA (List.sublist_append_right ..)) ?_
 repeat' (first|refine JU ?_|refine JG a5 JA ?_)
 exact JM JA ⟨rfl,rfl⟩
def ym (m k:Nat):List Int:=(List.range k).map fun (j:Nat)=>if j=m then (1:Int) else 0
def EX (m k:Nat):List Int:=(List.range k).map fun (j:Nat)=>if (m:Int) - 1≤(j:Int) then (1:Int) else 0
def Ip (m:Nat):Bool:=decide ((cV km EW 0 (eV (ym m (m+1))) []).map aI.Glyph=List.replicate (m+1) 1) && decide ((cV km EW 1 (eV (ym m (m+1))) []).map aI.Glyph=EX m (m+1))
def n4 (x:aI):List Int:=[x.Glyph,x.Cluster,x.Form,x.Advance,x.X,x.Y]
theorem sn {a b:aI} (h:n4 a=n4 b):a=b:=by
 cases a;cases b
 simpa [n4] using h
instance:DecidableEq aI:=fun a b=>decidable_of_iff (n4 a=n4 b) ⟨sn,fun h=>by rw [h]⟩
theorem zy:xz Tryz.prog 67 6:=⟨⟨_,Tryz.underlying67,rfl,⟨by decide,rfl,Tryz.underlying3⟩,⟨by decide,rfl,Tryz.underlying3⟩,⟨by decide,rfl,Tryz.underlying3⟩,⟨by decide,rfl,Tryz.underlying3⟩,⟨by decide,rfl,Tryz.underlying3⟩,⟨by decide,rfl,Tryz.underlying3⟩,trivial⟩,by kernel_rfl,by kernel_rfl⟩
theorem Ex (l:List Int):bJ Tryz.prog 19 [.imm 1 (aW l)] (.imm 1 (aW (l.take 12))):=by
 refine aN Tryz.func19 rfl Tryz.ntmps19 rfl fun B=>?_
 refine cB 0 rfl rfl fun hl=>?_
 have hil:=aZ l
 repeat' (first|refine JU ?_|refine JG a5 JA ?_)
 refine tA a5 (min l.length 12) rfl rfl rfl rfl rfl (by omega) (by omega) rfl ?_
 have ht:l.take (min l.length 12)=l.take 12:=by
  rcases Nat.le_total l.length 12 with h | h
  ·rw [Nat.min_eq_left h,List.take_length,List.take_of_length_le h]
  ·rw [Nat.min_eq_right h]
 rw [show (aW l).take (min l.length 12)=aW (l.take 12) from by rw [←ht];unfold aW;rw [List.map_take]]
 repeat' (first|refine JU ?_|refine JG a5 JA ?_)
 exact JN JB
theorem Db (a b:List aI) (ha:a.length≤1000000):bJ Tryz.prog 17 [.imm 6 (a.map aY),.imm 6 (b.map aY)] (dY (decide (a=b))):=by
 refine aN Tryz.func17 rfl Tryz.ntmps17 rfl fun B=>?_
 have hal:(a.map aY).length=a.length:=Jv ..
 have hbl:(b.map aY).length=b.length:=Jv ..
 repeat' (first|refine JU ?_|refine JG a5 JA ?_)
 refine ar rfl (fun h1=>?_) (fun h1=>?_)
 ·have hne:¬a.length=b.length:=by have:=Jz h1;omega
  rw [decide_eq_false (fun e:a=b=>hne (by rw [e]))]
  repeat' (first|refine JU ?_|refine JG a5 JA ?_)
  exact JN JB
 ·have heq:a.length=b.length:=by have:=Jy h1;omega
  clear h1
  repeat' (first|refine JU ?_|refine am ?_|refine JG a5 JA ?_)
  refine aP [0,1] (α:=Nat) (fun i=>[(5,aF i)]) (fun i=>i≤a.length∧a.take i=b.take i) (fun _=>[]) (fun i=>a.length - i) 0 rfl ⟨rfl,trivial⟩ ⟨Nat.zero_le _,rfl⟩ (fun _ _ h=>h) ?_
  rintro i ⟨hi,hti⟩
  try dsimp only [Jt,Js,Jr,Kz]
  repeat' (first|refine JU ?_|refine JG a5 JA ?_)
  refine ar rfl (fun h1=>?_) (fun h1=>?_)
  ·have hi2:i < a.length:=by have:=Jz h1;omega
   obtain ⟨g,hg⟩:∃z,a[i]?=some z:=⟨_,Hb hi2⟩
   obtain ⟨x,hx⟩:∃z,b[i]?=some z:=⟨_,Hb (by omega)⟩
   have hgg:(a.map aY)[i]?=some (aY g):=by simp [hg]
   have hxg:(b.map aY)[i]?=some (aY x):=by simp [hx]
   clear h1
   repeat' (first|refine JU ?_|refine am ?_)
   refine br 8 [(0,.v),(1,.v),(2,.v),(3,.v),(4,.v),(5,.v),(6,.v),(7,.v)] none ?_ trivial rfl (by kernel_rfl) (by kernel_rfl) (by kernel_rfl) bQ (by kernel_rfl) rfl
   repeat' (first|refine aD ?_|refine b8 a5 ?_|(apply bW;refine ci a5 ?_)|fail)
   refine JQ [0,1,5,20,24] JA ?_
   refine cf (Gk (a:=n4 g) (b:=n4 x) zy rfl rfl rfl rfl) rfl rfl ?_
   repeat' (first|refine JU ?_|fail)
   refine ar rfl (fun h1=>?_) (fun h1=>?_)
   ·have hne:¬n4 g=n4 x:=by
     intro e
     rw [decide_eq_true e] at h1
     cases h1
    rw [decide_eq_false (fun e:a=b=>hne (by rw [e,hx] at hg;cases hg;rfl))]
    repeat' (first|refine JU ?_|refine JG a5 JA ?_)
    exact JN JB
   ·have hgx:g=x:=by
     refine sn (Classical.byContradiction fun e=>?_)
     rw [decide_eq_false e] at h1
     cases h1
    repeat' (first|refine JU ?_|refine JG a5 JA ?_|(apply aS;refine aQ ?_)|fail)
    exact aC (i+1) rfl ⟨by rw [Jw];rfl,trivial⟩ ⟨hi2,by rw [List.take_add_one,List.take_add_one,hti,hg,hx,hgx]⟩ (by omega) (fun _ _ h=>h)
  ·have hi2:i=a.length:=by have:=Jy h1;omega
   subst hi2
   rw [List.take_length,heq,List.take_length] at hti
   rw [decide_eq_true hti]
   repeat' (first|refine JU ?_|refine JG a5 JA ?_)
   exact JN JB
def EG (v:Int):Int:=bits .and .i64 v 65535
def GK (g:Int) (i:Nat) (v:Int):aI:=⟨(EG v).tmod (max g 1+1),i,(IntKind.wrap .i64 ((EG v).tdiv 16)).tmod 5,IntKind.wrap .i64 ((EG v).tdiv 7),0,0⟩
def j6 (g:Int):Nat→List Int→List aI
 | _,[]=>[]
 | i,v::l=>GK g i v::j6 g (i+1) l
def uT (g:Int) (l:List Int):List aI:=j6 g 0 (l.take 60)
theorem qx (g:Int):∀(l:List Int) (i:Nat) (v:Int),j6 g i (l++[v])=j6 g i l++[GK g (i+l.length) v]
 | [],i,v=>rfl
 | x::l,i,v=>by
  rw [Jt,j6,qx g l (i+1) v,j6,Jt,List.length_cons,show i+1+l.length=i+(l.length+1) by omega]
theorem o9 (g:Int):∀(l:List Int) (i:Nat),(j6 g i l).length=l.length
 | [],_=>rfl
 | x::l,i=>by rw [j6,List.length_cons,o9 g l,List.length_cons]
theorem Cf (l:List Int) (g:Int) (hg:0≤g∧g≤1000000000):bJ Tryz.prog 16 [.imm 1 (aW l),aF g] (.imm 6 ((uT g l).map aY)):=by
 refine aN Tryz.func16 rfl Tryz.ntmps16 rfl fun B=>?_
 refine cB 0 rfl rfl fun hl=>?_
 have hil:=aZ l
 repeat' (first|refine JU ?_|refine am ?_|refine JG a5 JA ?_|(apply aS;refine aQ ?_)|refine iL (n:=0) a5 fun _=>?_|fail)
 refine aP [0,6] (α:=Nat×Option (Nat×Nat)) (fun s=>[(7,aF s.1),(5,.vec s.2 6 ((j6 g 0 (l.take s.1)).map aY))]) (fun s=>s.1≤l.length∧s.1≤60) (fun s=>tok s.2 67 6 s.1) (fun s=>l.length - s.1) (0,some (_,0)) rfl ⟨rfl,rfl,trivial⟩ ⟨Nat.zero_le _,Nat.zero_le _⟩ (fun _ _ h=>h) ?_
 rintro ⟨i,q⟩ ⟨hi,hi60⟩
 dsimp only at hi hi60 ⊢
 try dsimp only [Jt,Js,Jr,Kz]
 repeat' (first|refine JU ?_|refine JG a5 JA ?_)
 refine bX [0,5,6,7] (i < l.length∧i < 60) rfl (fun Q' K=>?_) (fun hC=>?_) (fun hC=>?_)
 ·repeat' (first|refine JU ?_|refine JG a5 JA ?_|refine JO JA ?_|refine JP JC ?_|refine JS JB (fun _=>?_) (fun _=>?_))
  all_goals exact K _ _ rfl rfl (by simp_all <;> omega)
 ·obtain ⟨v,hv⟩:∃z,l[i]?=some z:=⟨_,Hb hC.1⟩
  have hgg:=bO hv
  repeat' (first|refine JU ?_|refine am ?_|refine JG a5 JA ?_|(apply aL;first|refine aK a5 ?_|refine aG a5 ?_)|fail)
  refine qO rfl rfl rfl ?_
  rw [show bits .and .i64 v 65535=EG v from rfl]
  repeat' (first|refine JU ?_|refine JG a5 JA ?_)
  refine cf (B5 rfl rfl (by omega)) rfl rfl ?_
  repeat' (first|refine JG a5 JA ?_)
  refine cf (xI rfl rfl (by decide)) rfl rfl ?_
  repeat' (first|fail)
  refine cf (B5 rfl rfl (by decide)) rfl rfl ?_
  repeat' (first|refine JG a5 JA ?_)
  refine cf (xI rfl rfl (by decide)) rfl rfl ?_
  have hml:((j6 g 0 (l.take i)).map aY).length=i:=by rw [Jv,o9,List.length_take];omega
  have hsn:(j6 g 0 (l.take i)).map aY++[aY (GK g i v)]=(j6 g 0 (l.take (i+1))).map aY:=by
   rw [List.take_add_one,hv]
   show _=(j6 g 0 (l.take i++[v])).map aY
   rw [qx,List.map_append,List.length_take,Nat.min_eq_left (by omega),Nat.zero_add]
   rfl
  generalize (j6 g 0 (l.take i)).map aY=A0 at *
  repeat' (first|refine JG a5 JA ?_|refine bN a5 ?_|fail)
  refine bI a5 [] rfl rfl rfl rfl (by rw [hml,List.append_nil]) (by rw [hml];simp;omega) (by rw [hml];simp;omega) rfl fun q'=>?_
  repeat' (first|refine JU ?_|refine JG a5 JA ?_|(apply aS;refine aQ ?_)|fail)
  refine aC (i+1,q') rfl ⟨by rw [Jw];rfl,by dsimp only;rw [←hsn];rfl,trivial⟩ ⟨hC.1,hC.2⟩ (by dsimp only;omega) (fun _ _ h=>?_)
  rw [List.length_append,hml,List.append_nil] at h
  exact h
 ·have hw:l.take i=l.take 60:=by
   rcases Nat.lt_or_ge i 60 with h | h
   ·have:i=l.length:=by omega
    rw [List.take_of_length_le (by omega),List.take_of_length_le (by omega)]
   ·rw [show i=60 by omega]
  repeat' (first|refine JU ?_|refine JG a5 JA ?_)
  refine bk (bL (t:=4) (c':= .imm 6 ((uT g l).map aY)) rfl fun σ v h=>?_) ?_
  ·have h':=VR.im h
   rw [hw] at h'
   exact h'
  refine dI (List.nil_sublist _) ?_
  exact JN JB
end Go.Proofs.YtpmdfoaadejmkaaGreatDoor
namespace Go.Proofs.YtpmdfoaadejmkaaGreatDoor
structure MS where
 a:Nat
 lo:Fin 3
abbrev DM (α:Type):=MS→α×MS
section
variable {α β:Type}
def ret (x:α):DM α:=fun m=>(x,m)
def c9 (g:DM α) (k:α→DM β):DM β:=fun m=>k (g m).1 (g m).2
def gX (g:Nat→β→DM β) (b:β):Nat→DM β
 | 0=>ret b
 | k+1=>c9 (gX g b k) (g k)
end
def t8 (s:List Int) (a:Nat) (n:Int):Int:=match s[a]? with
 | some x=>x % n
 | none=>0
def dr (s:List Int) (n:Int):DM Int:=fun m=>(t8 s m.a n,{ m with a:=m.a+1 })
def HO:DM Unit:=fun m=>((),{ m with lo:=⟨m.lo.val - 1,Nat.lt_of_le_of_lt (Nat.sub_le ..) m.lo.isLt⟩ })
def gU (z:Fin 3):DM Unit:=fun m=>((),{ m with lo:=z })
def qD:DM Int:=fun m=>((m.lo.val:Int),m)
section
variable (s:List Int)
def FT (p:Nat):DM eE:=c9 (dr s 21) fun x=>c9 (dr s 21) fun y=>if p=0 then ret ⟨x * 50 - 100,y * 50 - 200,true⟩ else c9 (dr s 4) fun z=>ret ⟨x * 50 - 100,y * 50 - 200,decide (0 < z)⟩
def oh (l:List eE) (k:Nat):DM (List eE):=gX (fun p l=>c9 (FT s p) fun t=>ret (l++[t])) l k
def i8 (n:Nat):DM (List eE×List Int):=gX (fun _ o=>c9 (dr s 4) fun k=>c9 (oh s o.1 (2+k).toNat) fun l=>ret (l,o.2++[(l.length:Int) - 1])) ([],[]) n
def jD:DM (List eE×List Int):=c9 (dr s 3) fun n=>i8 s n.toNat
def gJ (q:Int):DM (List g8):=ret [⟨39,0⟩,⟨1,16⟩,⟨17,0⟩,⟨36,2⟩,⟨1,q⟩,⟨2,0⟩]
def cF (n funcs:Int):DM (List g8):=c9 (dr s (n+1)) fun p=>c9 (dr s (n+1)) fun q=>c9 (dr s 2) fun a=>c9 (dr s 12) fun k=>
 if k=0 then ret [⟨22,a⟩,⟨23,a⟩]
 else if k=1 then c9 (dr s 6) fun z=>ret [⟨24,z⟩]
 else if k=2∨k=3 then ret [⟨1,p⟩,⟨1,p⟩,⟨29,0⟩,⟨15,0⟩,⟨32,0⟩]
 else if k=4 then c9 (dr s 200) fun z=>ret [⟨1,p⟩,⟨1,z - 100⟩,⟨31,0⟩]
 else if k=5 then ret [⟨1,p⟩,⟨1,q⟩,⟨33,0⟩]
 else if k=6 then ret [⟨34,a⟩]
 else if k=7 then ret [⟨1,a⟩,⟨1,q⟩,⟨25,0⟩,⟨1,3⟩,⟨5,0⟩,⟨26,0⟩]
 else if k=8 then (if 0 < funcs then c9 (dr s funcs) fun z=>ret [⟨37,z⟩] else gJ q)
 else if k=9 then (if 0 < funcs then c9 qD fun lo=>if 0 < lo then c9 HO fun _=>c9 (dr s 5) fun y=>c9 (dr s funcs) fun z=>ret [⟨1,y⟩,⟨38,z⟩] else gJ q else gJ q)
 else if k=10 then ret [⟨1,p⟩,⟨30,0⟩,⟨1,q⟩,⟨29,0⟩,⟨16,0⟩,⟨36,3⟩,⟨1,q⟩,⟨1,64⟩,⟨31,0⟩]
 else gJ q
def fz (n funcs:Int) (k:Nat):DM (List g8):=gX (fun _ l=>c9 (cF s n funcs) fun p=>ret (l++p)) [] k
def n3 (n funcs most:Int):DM (List g8):=c9 (dr s most) fun k=>fz s n funcs k.toNat
def fi (a:Int) (k:Nat):DM (List Int):=gX (fun j l=>if l.length < 4 then c9 (dr s 3) fun z=>ret (if z=0 then l++[a+1+j] else l) else ret l) [a] k
def nv (n:Int):DM (List Int):=c9 (dr s n) fun a=>fi s a (n - (a+1)).toNat
def i9 (n:Int) (k:Nat):DM (List (List Int)):=gX (fun _ l=>c9 (nv s n) fun x=>ret (l++[x])) [] k
def pi (n most:Int):DM (List (List Int)):=c9 (dr s (most+1)) fun k=>i9 s n k.toNat
def ga (n:Int) (k:Nat):DM (List Int):=gX (fun _ l=>c9 (dr s n) fun x=>ret (l++[x])) [] k
def f8 (n:Int) (calls:List Int) (k:Nat):DM (List gQ):=gX (fun _ l=>c9 (dr s n) fun a=>c9 (dr s calls.length) fun z=>ret (l++[⟨a,calls.getD z.toNat 0⟩])) [] k
def FS (n:Int) (a:List Int):DM bc:=c9 (nv s n) fun b=>c9 (dr s 41) fun x=>ret ⟨[],[a,b],[],[],[],x * 10 - 200⟩
def jj (n:Int):DM (List (List Int)×List (List Int)):=c9 (dr s 2) fun z=>if z=0 then c9 (pi s n 2) fun b=>c9 (pi s n 2) fun c=>ret (b,c) else ret ([],[])
def gC (n kind:Int) (calls:List Int):DM bc:=c9 (nv s n) fun a=>if kind=6 then FS s n a else c9 (jj s n) fun e=>
 if kind=1∨kind=5 then c9 (ga s n a.length) fun o=>ret ⟨e.1,[a],e.2,o,[],0⟩
 else if kind=2 then c9 (dr s 4) fun k=>c9 (ga s n k.toNat) fun o=>ret ⟨e.1,[a],e.2,o,[],0⟩
 else if kind=3 then c9 (pi s n 2) fun m=>c9 (dr s n) fun o=>ret ⟨e.1,a::m,e.2,[o],[],0⟩
 else c9 (pi s n 2) fun m=>c9 (dr s 3) fun k=>c9 (f8 s (a::m).length calls (if calls.length=0 then 0 else k.toNat)) fun c=>ret ⟨e.1,a::m,e.2,[],c,0⟩
def fC:List Int:=[1,2,3,4,4,5,6,7,8,1]
def ev (k:Nat):DM (List aO×List Int):=gX (fun i o=>c9 (dr s 10) fun z=>c9 (dr s 3) fun y=>ret (o.1++[⟨fC.getD z.toNat 0,decide (y=0),[]⟩],if fC.getD z.toNat 0≤4 then o.2++[(i:Int)] else o.2)) ([],[]) k
def eW (n kind:Int) (calls:List Int) (k:Nat):DM (List bc):=gX (fun _ l=>c9 (gC s n kind calls) fun r=>ret (l++[r])) [] k
def fb (n:Int) (calls:List Int) (l:List aO) (k:Nat):DM (List aO):=gX (fun i l=>match l[i]? with
 | none=>ret l
 | some q=>if q.Kind≥7 then ret l else c9 (dr s 3) fun k=>c9 (eW s n q.Kind calls (1+k).toNat) fun rs=>ret (l.set i { q with Rules:=rs })) l k
def iH (n:Int):DM (List aO):=c9 (dr s 7) fun k=>c9 (ev s k.toNat) fun o=>fb s n o.2 o.1 k.toNat
def bytes (l:List UInt8):ByteArray:=⟨l.toArray⟩
def jh (p:List UInt8) (n:Nat):ByteArray:=bytes (p++[(97+n).toUInt8])
def J0:List UInt8:=[103]
def uo:List UInt8:=[97,120]
def CN:ByteArray:=bytes [46,110,111,116,100,101,102]
def cJ (n:Nat):ByteArray:=if n=0 then CN else jh J0 n
def iN (n:Nat):DM (List dM):=if 1 < n then c9 (dr s 4) fun z=>if z=0 then c9 (dr s 9) fun x=>c9 (dr s 5) fun y=>ret [⟨1,x * 50 - 200,y * 50⟩] else ret [] else ret []
def gg (cl:Int):List (Int×Int):=[(1,0),(1,1),(3,0),(4,0),(2,cl)]
def eL (mark:Bool) (cl:Int) (k:Nat):DM (List dv):=gX (fun i l=>c9 (dr s 3) fun z=>if z=0∧(((gg cl).getD i (0,0)).1≠2∨mark=true) then c9 (dr s 21) fun x=>c9 (dr s 21) fun y=>ret (l++[⟨((gg cl).getD i (0,0)).1,((gg cl).getD i (0,0)).2,x * 50,y * 50 - 200⟩]) else ret l) [] k
def hQ (r:Nat) (l:List dH) (k:Nat):DM (List dH):=gX (fun p l=>c9 (dr s 3) fun z=>if z=0 then c9 (dr s 41) fun x=>if p=0 then ret (l++[⟨r,-1,x - 20,0⟩]) else c9 (dr s 41) fun y=>ret (l++[⟨r,(p:Int) - 1,x - 20,y - 20⟩]) else ret l) l k
def gj (pts:Nat) (R:Nat):DM (List dH):=gX (fun r l=>hQ s r l (pts+1)) [] R
def ke (R fn n:Nat):DM bz:=c9 (dr s 19) fun ad=>c9 (dr s 4) fun mk=>c9 (jD s) fun o=>c9 (iN s n) fun ps=>c9 (dr s 2) fun cl=>c9 (eL s (decide (mk=0) && decide (n≠0)) cl 5) fun an=>c9 (gj s o.1.length R) fun de=>c9 (gU 2) fun _=>c9 (n3 s o.1.length fn 6) fun h=>ret ⟨cJ n,100+ad * 50,decide (mk=0) && decide (n≠0),o.1,o.2,ps,an,de,h⟩
def gm (R fn k:Nat):DM (List bz):=gX (fun i l=>c9 (ke s R fn i) fun g=>ret (l++[g])) [] k
def kP (k:Nat):DM (List ez):=gX (fun i l=>c9 (dr s 3) fun a=>c9 (dr s 4) fun b=>ret (l++[⟨jh uo i,0 - a * 100,0,b * 100⟩])) [] k
def kr:List f0:=[⟨0,64,64⟩,⟨0,32,64⟩,⟨-64,-64,0⟩,⟨-1,0,5⟩,⟨10,32,50⟩]
def hZ (k:Nat):DM (List f0):=gX (fun _ l=>c9 (dr s 5) fun z=>ret (l++[kr.getD z.toNat ⟨0,0,0⟩])) [] k
def kE (axes k:Nat):DM (List (List f0)):=gX (fun _ l=>c9 (hZ s axes) fun r=>ret (l++[r])) [] k
def fF (axes:Nat):DM (List (List f0)):=if axes=0 then ret [] else c9 (dr s 4) fun n=>kE s axes n.toNat
def iF (k:Nat):DM (List (List g8)):=gX (fun i l=>c9 (gU 0) fun _=>c9 (n3 s 6 i 4) fun h=>ret (l++[h])) [] k
def q8 (k:Nat):DM (List Int):=gX (fun _ l=>c9 (dr s 500) fun z=>ret (l++[z - 100])) [] k
def fP:List Int:=[97,98,99,102,105,108,57345,57346,57601,57602,57603,57857,57861,58113,58114,58369]
def hH (n:Int) (k:Nat):DM (List gc):=gX (fun i l=>c9 (dr s 4) fun z=>if 0 < z then c9 (dr s n) fun g=>ret (l++[⟨fP.getD i 0,g⟩]) else ret l) [] k
def fO:List ByteArray:=[bytes [108,105,103,97],bytes [105,115,111,108],bytes [105,110,105,116],bytes [109,101,100,105],bytes [102,105,110,97],bytes [107,101,114,110],bytes [109,97,114,107],bytes [99,97,108,116]]
def nQ (k:Nat):DM (List Int):=gX (fun i l=>c9 (dr s 3) fun z=>ret (if z=0 then l++[(i:Int)] else l)) [] k
def hY (n:Nat) (k:Nat):DM (List c7):=gX (fun i l=>c9 (nQ s n) fun r=>c9 (dr s 2) fun z=>ret (if z=0 then l++[⟨fO.getD i ByteArray.empty,r⟩] else l)) [] k
def mD:List Int:=[1000,1024,100,2048]
def Cr:DM b7:=c9 (dr s 4) fun u=>c9 (dr s 3) fun k=>c9 (kP s k.toNat) fun ax=>c9 (fF s k.toNat) fun rg=>c9 (dr s 3) fun k2=>c9 (iF s k2.toNat) fun fu=>c9 (dr s 4) fun k3=>c9 (q8 s k3.toNat) fun cv=>c9 (dr s 9) fun k4=>c9 (gm s rg.length fu.length (2+k4).toNat) fun gl=>c9 (hH s gl.length 16) fun ch=>c9 (iH s gl.length) fun lk=>c9 (hY s lk.length 8) fun ft=>ret ⟨mD.getD u.toNat 0,gl,ch,lk,ft,ax,rg,fu,cv⟩
def kB:b7:=(Cr s ⟨0,0⟩).1
def Ie:List Int:=fP++[122]
def J5:List Int:=(s.take 20).map fun z=>Ie.getD (z % 17).toNat 0
end
end Go.Proofs.YtpmdfoaadejmkaaGreatDoor
namespace Go.Proofs.YtpmdfoaadejmkaaGreatDoor
open Go.RowKit
attribute [local irreducible] AT bK AX AO Av Kt bh dw DA cK
structure MF where
 u:AV
 gl:AV
 ch:AV
 lk:AV
 ft:AV
 ax:AV
 rg:AV
 fu:AV
 cv:AV
def HW (s:List Int) (F:MF) (m:MS):List AV:=[.imm 1 (aW s),aF (min m.a s.length:Nat),F.u,F.gl,F.ch,F.lk,F.ft,F.ax,F.rg,F.fu,F.cv,aF (m.lo.val:Nat)]
abbrev dT (b:Nat) (s:List Int) (F:MF) (m:MS):Nat×AB:=(b,.box (HW s F m) 177)
def rz (f:FuncId) (args:List AV) (s:List Int) (F:MF) {α:Type} (u:DM α) (out:α→AV):Prop:=∀(b:Nat) (m:MS),AC Tryz.prog f (DG b::args) [dT b s F m] fun c L=>c=out (u m).1∧L=[dT b s F (u m).2]
theorem EV {x n:Int} (hn:0 < n):(x.tmod n+n).tmod n=x % n:=by
 have h0:=Int.lt_tmod_of_pos x hn
 rw [Int.tmod_eq_emod_of_nonneg (by omega),Int.add_emod_right]
 have h2:(x.tmod n) % n=(x - n * x.tdiv n) % n:=by rw [Int.tmod_def]
 rw [h2,Int.sub_mul_emod_self_left]
set_option maxHeartbeats 1000000 in
theorem oe (s:List Int) (hs:s.length≤1000000) (F:MF) (n:Int) (hn:0 < n∧n≤1000000):rz 89 [aF n] s F (dr s n) aF:=by
 intro b m
 refine aN Tryz.func89 rfl Tryz.ntmps89 rfl fun B=>?_
 have hil:=aZ s
 unfold dT
 repeat' (first|refine JU ?_|refine JG a5 JA ?_)
 refine br 9 [(0,.v),(1,.v),(2,.v),(3,.l),(4,.v),(5,.v),(6,.v),(7,.l),(8,.v)] none ?_ trivial rfl (by kernel_rfl) (by kernel_rfl) (by kernel_rfl) bQ (by kernel_rfl) rfl
 repeat' (first|refine aD ?_|refine b8 a5 ?_|refine ce a5 0 rfl rfl rfl rfl (by first|trivial|rfl) ?_)
 refine JQ [0,1,9,14] JA ?_
 repeat' (first|refine JU ?_|refine a7 ?_|refine JG a5 JA ?_)
 refine ar rfl (fun h=>?_) (fun h=>?_)
 ·have h1:s.length≤min m.a s.length:=by have:=Jz h;rw [hil] at this;omega
  repeat' (first|refine JU ?_|refine JG a5 JA ?_)
  refine JM JA ⟨?_,?_⟩
  ·unfold dr t8
   rw [List.getElem?_eq_none (show s.length≤m.a by omega)]
  ·unfold dr HW
   rw [show min m.a s.length=min (m.a+1) s.length by omega]
 have h1:m.a < s.length:=by have:=Jy h;rw [hil] at this;omega
 have h2:min m.a s.length=m.a:=by omega
 obtain ⟨x,hx⟩:∃x,s[m.a]?=some x:=⟨_,Hb h1⟩
 have hxg:=bO hx
 unfold HW
 rw [h2]
 repeat' (first|refine JU ?_|fail)
 refine br 8 [(0,.v),(1,.v),(2,.v),(3,.l),(4,.v),(5,.v),(6,.v),(7,.l)] none ?_ trivial rfl (by kernel_rfl) (by kernel_rfl) (by kernel_rfl) bQ (by kernel_rfl) rfl
 repeat' (first|refine aD ?_|refine b8 a5 ?_|refine ce a5 0 rfl rfl rfl rfl (by first|trivial|rfl) ?_)
 refine JQ [0,1,19,23] JA ?_
 repeat' (first|refine JU ?_|refine a7 ?_|refine JG a5 JA ?_|(apply bF;first|refine JJ a5 0 JD ?_|refine JJ a5 1 JD ?_|refine JJ a5 2 JD ?_|refine JJ a5 3 JD ?_|refine JK a5 0 JD ?_|refine JK a5 1 JD ?_|refine JK a5 2 JD ?_|refine JL a5 1 JB (by assumption) rfl ?_|refine JL a5 0 JB (by assumption) rfl ?_|fail)|(apply aS;refine aQ ?_)|(apply aL;first|refine aK a5 ?_|refine aG a5 ?_)|(apply aM;first|refine JH a5 0 JE ?_|refine JH a5 1 JE ?_|refine JH a5 2 JE ?_|refine JH a5 3 JE ?_|fail))
 refine FQ ?_
 repeat' (first|refine JG a5 JA ?_)
 have hb:=Int.lt_tmod_of_pos x hn.1
 have hb2:=Int.tmod_lt_of_pos x hn.1
 refine aQ ?_
 repeat' (first|refine JG a5 JA ?_)
 refine FQ ?_
 repeat' (first|refine JU ?_|refine JG a5 JA ?_)
 refine JM JA ⟨?_,?_⟩
 ·unfold dr t8
  rw [hx,EV hn.1]
 ·unfold dr
  dsimp only
  rw [show min (m.a+1) s.length=m.a+1 by omega]
  rfl
section
variable {r:Option Nat} {ops:Array Oper} {Q:Exit→Act→World→Prop} {nt:Nat} {D:List Deferred} {fr:c8} {B:Bs} {rest:List Oper} {d:Nat} {ty:TypeId} {pos:String} {af:Array Edge} {s:List Int} {F:MF} {b:Nat} {m:MS} {Z:AL} {args:Array Operand} {ts:Array TypeId}
theorem v7 {f:FuncId} [bM Tryz.prog f] {α:Type} {u:DM α} {out:α→AV} {az ds:List AV} (hc:rz f az s F u out) (h:bK Tryz.prog r ops Q nt D rest ((d,out (u m).1)::fr) B (dT b s F (u m).2::Z)) (hv:eA fr args.toList=some ds:=by rfl) (hi:lQ ds=some (DG b::az):=by rfl) (hd:Nat.ble nt d=false:=by rfl):bK Tryz.prog r ops Q nt D (⟨some d,.call ⟨.value (.func f),args,ts⟩,ty,pos,af,none⟩::rest) fr B (dT b s F m::Z):=
 b9 [dT b s F m] Z (hc b m) hv hi (Jp _) hd fun c L1 ⟨h1,h2⟩=>by subst h1;subst h2;exact h
theorem cD {n:Int} (h:bK Tryz.prog r ops Q nt D rest ((d,aF (dr s n m).1)::fr) B (dT b s F (dr s n m).2::Z)) (hv:eA fr args.toList=some [DG b,aF n]:=by rfl) (hs:s.length≤1000000:=by assumption) (hn:0 < n∧n≤1000000:=by omega) (hd:Nat.ble nt d=false:=by rfl):bK Tryz.prog r ops Q nt D (⟨some d,.call ⟨.value (.func 89),args,ts⟩,ty,pos,af,none⟩::rest) fr B (dT b s F m::Z):=
 v7 (oe s hs F n hn) h hv rfl hd
end
section
variable {l:List Oper} {fr:c8} {fin:jO} {sk:mE} {acc:c8} {k:Nat} {dd:Option Tmp} {ty:TypeId} {pos:String} {af:Array Edge} {g:Option (Nat×Bool)} {s:List Int} {F:MF} {b:Nat} {m:MS} {Z:AL} {args:Array Operand} {ts:Array TypeId}
theorem c5 {L:AL}:eN [] L:=fun q hq=>by cases hq
theorem bP {q:Nat×Nat×AV} {gs:KpL} {L:AL} (i:Nat) {cs:List AV} {e:TypeId} (hL:L[i]?=some (q.1,.box cs e)) (hc:cs[q.2.1]?=some q.2.2) (h:eN gs L):eN (.cell q::gs) L:=fun p hp=>by
 rcases List.mem_cons.1 hp with rfl | hp
 ·exact show ∃cs e,(q.1,AB.box cs e)∈L∧cs[q.2.1]?=some q.2.2 from ⟨cs,e,Jx hL,hc⟩
 ·exact h p hp
theorem Iy {f:FuncId} [bM Tryz.prog f] {α:Type} {u:DM α} {out:α→AV} {az ds:List AV} (hc:rz f az s F u out) (h:DA Tryz.prog l fr fin sk ((k,out (u m).1)::acc) (dT b s F (u m).2::Z)) (hv:eA (cC l.toArray acc fr af.toList) args.toList=some ds:=by rfl) (hi:lQ ds=some (DG b::az):=by rfl) (hg:iV ⟨dd,.call ⟨.value (.func f),args,ts⟩,ty,pos,af,g⟩ acc:=by first | trivial | rfl):cK Tryz.prog l fr fin k .e ⟨dd,.call ⟨.value (.func f),args,ts⟩,ty,pos,af,g⟩ sk acc (dT b s F m::Z):=
 j4 [dT b s F m] Z (hc b m) hv hi (Jp _) hg fun c L1 ⟨h1,h2⟩=>by subst h1;subst h2;exact h
theorem rZ {f:FuncId} [bM Tryz.prog f] {α:Type} {u:DM α} {out:α→AV} {az ds:List AV} (hc:rz f az s F u out) (hK:eN fin.gs (dT b s F (u m).2::Z)) (h:DA Tryz.prog l fr fin sk ((k,out (u m).1)::acc) (dT b s F (u m).2::Z)) (hv:eA (cC l.toArray acc fr af.toList) args.toList=some ds:=by rfl) (hi:lQ ds=some (DG b::az):=by rfl) (hg:iV ⟨dd,.call ⟨.value (.func f),args,ts⟩,ty,pos,af,g⟩ acc:=by first | trivial | rfl):cK Tryz.prog l fr fin k .f ⟨dd,.call ⟨.value (.func f),args,ts⟩,ty,pos,af,g⟩ sk acc (dT b s F m::Z):=
 xQ [dT b s F m] Z (hc b m) hv hi (Jp _) hg (fun c L1 ⟨_,h2⟩ _=>by subst h2;exact hK) fun c L1 ⟨h1,h2⟩=>by subst h1;subst h2;exact h
theorem t6 {n:Int} (h:DA Tryz.prog l fr fin sk ((k,aF (dr s n m).1)::acc) (dT b s F (dr s n m).2::Z)) (hv:eA (cC l.toArray acc fr af.toList) args.toList=some [DG b,aF n]:=by rfl) (hs:s.length≤1000000:=by assumption) (hn:0 < n∧n≤1000000:=by omega) (hg:iV ⟨dd,.call ⟨.value (.func 89),args,ts⟩,ty,pos,af,g⟩ acc:=by first | trivial | rfl):cK Tryz.prog l fr fin k .e ⟨dd,.call ⟨.value (.func 89),args,ts⟩,ty,pos,af,g⟩ sk acc (dT b s F m::Z):=
 Iy (oe s hs F n hn) h hv rfl hg
theorem eF {n:Int} (hK:eN fin.gs (dT b s F (dr s n m).2::Z)) (h:DA Tryz.prog l fr fin sk ((k,aF (dr s n m).1)::acc) (dT b s F (dr s n m).2::Z)) (hv:eA (cC l.toArray acc fr af.toList) args.toList=some [DG b,aF n]:=by rfl) (hs:s.length≤1000000:=by assumption) (hn:0 < n∧n≤1000000:=by omega) (hg:iV ⟨dd,.call ⟨.value (.func 89),args,ts⟩,ty,pos,af,g⟩ acc:=by first | trivial | rfl):cK Tryz.prog l fr fin k .f ⟨dd,.call ⟨.value (.func 89),args,ts⟩,ty,pos,af,g⟩ sk acc (dT b s F m::Z):=
 rZ (oe s hs F n hn) hK h hv rfl hg
end
end Go.Proofs.YtpmdfoaadejmkaaGreatDoor
namespace Go.Proofs.YtpmdfoaadejmkaaGreatDoor
open Go.RowKit
attribute [local irreducible] AT bK AX AO Av Kt bh dw DA cK
variable (s:List Int) (hs:s.length≤1000000) (F:MF)
include hs
theorem cq (a:Nat) {n:Int} (hn:0 < n):0≤t8 s a n∧t8 s a n < n:=by
 have _:=hs
 clear hs
 unfold t8
 split
 ·rename_i x _
  exact ⟨Int.emod_nonneg x (by omega),Int.emod_lt_of_pos x hn⟩
 ·omega
def I1 (o:List eE×List Int):AV:= .agg [.imm 3 (o.1.map dA),.imm 1 (aW o.2)]
def ju (l:List g8):AV:= .imm 2 (l.map eU)
set_option maxHeartbeats 8000000 in
theorem x6 (n fn:Int) (hn:0≤n∧n≤10000) (hf:fn≤10000):rz 174 [aF n,aF fn] s F (cF s n fn) ju:=by
 intro b m
 refine aN Tryz.func174 rfl Tryz.ntmps174 rfl fun B=>?_
 repeat' (first|refine JU ?_|refine JG a5 JA ?_|(apply aS;refine aQ ?_)|fail)
 refine cD ?_
 repeat' (first|refine JU ?_|refine JG a5 JA ?_|(apply aS;refine aQ ?_)|fail)
 refine cD ?_
 repeat' (first|refine JU ?_|refine JG a5 JA ?_)
 refine cD ?_
 repeat' (first|refine JU ?_|refine JG a5 JA ?_)
 refine cD ?_
 generalize e1:dr s (n+1) m=p1
 generalize e2:dr s (n+1) p1.2=p2
 generalize e3:dr s 2 p2.2=p3
 have hk:=cq s hs p3.2.a (n:=12) (by omega)
 have hk:0≤(dr s 12 p3.2).1∧(dr s 12 p3.2).1 < 12:=hk
 generalize e4:dr s 12 p3.2=p4 at hk ⊢
 repeat' (first|refine JU ?_|refine am ?_|refine JG a5 JA ?_)
 refine ar rfl (fun h=>?_) (fun h=>?_)
 ·have h:=Jz h
  repeat' (first|refine JU ?_|refine JG a5 JA ?_|refine bN a5 ?_|fail)
  exact JM JA ⟨by simp [cF,c9,ret,e1,e2,e3,e4,ju,eU,h],by simp [cF,c9,ret,e1,e2,e3,e4,h]⟩
 have h0:=Jy h
 clear h
 repeat' (first|refine JU ?_|refine JG a5 JA ?_)
 refine ar rfl (fun h=>?_) (fun h=>?_)
 ·have h:=Jz h
  repeat' (first|refine JU ?_|refine JG a5 JA ?_)
  refine cD ?_
  repeat' (first|refine JU ?_|refine JG a5 JA ?_|refine bN a5 ?_|fail)
  exact JM JA ⟨by simp [cF,c9,ret,e1,e2,e3,e4,ju,eU,h],by simp [cF,c9,ret,e1,e2,e3,e4,h]⟩
 have h1:=Jy h
 clear h
 repeat' (first|refine JU ?_|refine JG a5 JA ?_)
 refine ar rfl (fun h=>?_) (fun h=>?_)
 ·have h:=Jz h
  rw [decide_eq_true h]
  repeat' (first|refine JU ?_|refine JG a5 JA ?_|refine bN a5 ?_|refine bD rfl ?_)
  exact JM JA ⟨by simp [cF,c9,ret,e1,e2,e3,e4,ju,eU,h],by simp [cF,c9,ret,e1,e2,e3,e4,h]⟩
 have h2:=Jy h
 clear h
 repeat' (first|refine JU ?_|refine JG a5 JA ?_)
 refine ar rfl (fun h=>?_) (fun h=>?_)
 ·have h:=Jz h
  repeat' (first|refine JU ?_|refine JG a5 JA ?_|refine bN a5 ?_|fail)
  exact JM JA ⟨by simp [cF,c9,ret,e1,e2,e3,e4,ju,eU,h],by simp [cF,c9,ret,e1,e2,e3,e4,h]⟩
 have h3:=Jy h
 clear h
 repeat' (first|refine JU ?_|refine JG a5 JA ?_)
 refine ar rfl (fun h=>?_) (fun h=>?_)
 ·have h:=Jz h
  repeat' (first|refine JU ?_|refine JG a5 JA ?_)
  refine cD ?_
  have hz:=cq s hs p4.2.a (n:=200) (by omega)
  have hz:0≤(dr s 200 p4.2).1∧(dr s 200 p4.2).1 < 200:=hz
  repeat' (first|refine JU ?_|refine JG a5 JA ?_|(apply aS;refine aQ ?_)|refine bN a5 ?_|fail)
  exact JM JA ⟨by simp [cF,c9,ret,e1,e2,e3,e4,ju,eU,h],by simp [cF,c9,ret,e1,e2,e3,e4,h]⟩
 have h4:=Jy h
 clear h
 repeat' (first|refine JU ?_|refine JG a5 JA ?_)
 refine ar rfl (fun h=>?_) (fun h=>?_)
 ·have h:=Jz h
  repeat' (first|refine JU ?_|refine JG a5 JA ?_|refine bN a5 ?_|fail)
  exact JM JA ⟨by simp [cF,c9,ret,e1,e2,e3,e4,ju,eU,h],by simp [cF,c9,ret,e1,e2,e3,e4,h]⟩
 have h5:=Jy h
 clear h
 repeat' (first|refine JU ?_|refine JG a5 JA ?_)
 refine ar rfl (fun h=>?_) (fun h=>?_)
 ·have h:=Jz h
  repeat' (first|refine JU ?_|refine JG a5 JA ?_|refine bN a5 ?_|fail)
  exact JM JA ⟨by simp [cF,c9,ret,e1,e2,e3,e4,ju,eU,h],by simp [cF,c9,ret,e1,e2,e3,e4,h]⟩
 have h6:=Jy h
 clear h
 repeat' (first|refine JU ?_|refine JG a5 JA ?_)
 refine ar rfl (fun h=>?_) (fun h=>?_)
 ·have h:=Jz h
  repeat' (first|refine JU ?_|refine JG a5 JA ?_|refine bN a5 ?_|fail)
  exact JM JA ⟨by simp [cF,c9,ret,e1,e2,e3,e4,ju,eU,h],by simp [cF,c9,ret,e1,e2,e3,e4,h]⟩
 have h7:=Jy h
 clear h
 repeat' (first|refine JU ?_|refine JG a5 JA ?_)
 refine ar rfl (fun h=>?_) (fun h=>?_)
 ·have h:=Jz h
  repeat' (first|refine JU ?_|refine JG a5 JA ?_)
  refine ar rfl (fun hf0=>?_) (fun hf0=>?_)
  ·have hf0:=Jz hf0
   repeat' (first|refine JU ?_|refine JG a5 JA ?_)
   refine cD ?_
   repeat' (first|refine JU ?_|refine JG a5 JA ?_|refine bN a5 ?_|fail)
   exact JM JA ⟨by simp [cF,c9,ret,e1,e2,e3,e4,ju,eU,h,hf0],by simp [cF,c9,ret,e1,e2,e3,e4,h,hf0]⟩
  ·have hf0:=Jy hf0
   repeat' (first|refine JU ?_|refine JG a5 JA ?_|refine bN a5 ?_|fail)
   exact JM JA ⟨by simp [cF,c9,ret,e1,e2,e3,e4,ju,eU,gJ,h,hf0],by simp [cF,c9,ret,e1,e2,e3,e4,gJ,h,hf0]⟩
 have h8:=Jy h
 clear h
 repeat' (first|refine JU ?_|refine JG a5 JA ?_)
 refine ar rfl (fun h=>?_) (fun h=>?_)
 ·have h:=Jz h
  by_cases hf0:0 < fn
  ·repeat' (first|refine JU ?_|refine JG a5 JA ?_)
   rw [decide_eq_true hf0]
   repeat' (first|refine JU ?_|refine JG a5 JA ?_|refine JO JA ?_|(apply bF;first|refine JJ a5 0 JD ?_|refine JJ a5 1 JD ?_|refine JJ a5 2 JD ?_|refine JJ a5 3 JD ?_|refine JK a5 0 JD ?_|refine JK a5 1 JD ?_|refine JK a5 2 JD ?_|refine JL a5 1 JB (by assumption) rfl ?_|refine JL a5 0 JB (by assumption) rfl ?_|fail)|fail)
   refine ar rfl (fun hl=>?_) (fun hl=>?_)
   ·have hl:=Jz hl
    repeat' (first|refine JU ?_|refine JG a5 JA ?_|(apply bF;first|refine JJ a5 0 JD ?_|refine JJ a5 1 JD ?_|refine JJ a5 2 JD ?_|refine JJ a5 3 JD ?_|refine JK a5 0 JD ?_|refine JK a5 1 JD ?_|refine JK a5 2 JD ?_|refine JL a5 1 JB (by assumption) rfl ?_|refine JL a5 0 JB (by assumption) rfl ?_|fail)|(apply aS;refine aQ ?_)|(apply aM;first|refine JH a5 0 JE ?_|refine JH a5 1 JE ?_|refine JH a5 2 JE ?_|refine JH a5 3 JE ?_|fail))
    have hlt:=p4.2.lo.isLt
    have hlz:0 < p4.2.lo.val:=by omega
    have hcell:((p4.2.lo.val:Nat):Int) - 1=((p4.2.lo.val - 1:Nat):Int):=by omega
    rw [hcell]
    change bK _ _ _ _ _ _ _ _ _ [dT b s F (HO p4.2).2]
    repeat' (first|fail)
    refine cD ?_
    repeat' (first|refine JG a5 JA ?_)
    refine cD ?_
    repeat' (first|refine JU ?_|refine JG a5 JA ?_|refine bN a5 ?_|fail)
    exact JM JA ⟨by simp [cF,c9,ret,e1,e2,e3,e4,ju,eU,h,hf0,qD,hlz],by simp [cF,c9,ret,e1,e2,e3,e4,h,hf0,qD,hlz]⟩
   ·have hl:=Jy hl
    have hl0:p4.2.lo.val=0:=by omega
    repeat' (first|refine JU ?_|refine JG a5 JA ?_|refine bN a5 ?_|fail)
    exact JM JA ⟨by simp [cF,c9,ret,e1,e2,e3,e4,ju,eU,gJ,h,hf0,qD,hl0],by simp [cF,c9,ret,e1,e2,e3,e4,gJ,h,hf0,qD,hl0]⟩
  ·repeat' (first|refine JU ?_|refine JG a5 JA ?_)
   rw [decide_eq_false hf0]
   repeat' (first|refine JU ?_|refine JG a5 JA ?_|refine JP JC ?_|refine bN a5 ?_|refine bC rfl ?_)
   exact JM JA ⟨by simp [cF,c9,ret,e1,e2,e3,e4,ju,eU,gJ,h,hf0],by simp [cF,c9,ret,e1,e2,e3,e4,gJ,h,hf0]⟩
 have h9:=Jy h
 clear h
 repeat' (first|refine JU ?_|refine JG a5 JA ?_)
 refine ar rfl (fun h=>?_) (fun h=>?_)
 ·have h:=Jz h
  repeat' (first|refine JU ?_|refine JG a5 JA ?_|refine bN a5 ?_|fail)
  exact JM JA ⟨by simp [cF,c9,ret,e1,e2,e3,e4,ju,eU,h],by simp [cF,c9,ret,e1,e2,e3,e4,h]⟩
 have h10:=Jy h
 clear h
 repeat' (first|refine JU ?_|refine JG a5 JA ?_|refine bN a5 ?_|fail)
 exact JM JA ⟨by simp [cF,c9,ret,e1,e2,e3,e4,ju,eU,gJ,h0,h1,h2,h3,h4,h5,h6,h7,h8,h9,h10],by simp [cF,c9,ret,e1,e2,e3,e4,gJ,h0,h1,h2,h3,h4,h5,h6,h7,h8,h9,h10]⟩
end Go.Proofs.YtpmdfoaadejmkaaGreatDoor
