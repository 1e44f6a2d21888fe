/-
  What is shown at the head of all laws.
-/
import Derived.Test.YtpmdfoaadejmkaaGreatDoorM25
import Derived.Test.YtpmdfoaadejmkaaGreatDoorM05
import Derived.Test.YtpmdfoaadejmkaaGreatDoorM12
import Derived.Test.YtpmdfoaadejmkaaGreatDoorM23
namespace Go.Proofs.YtpmdfoaadejmkaaGreatDoor
open Go.RowKit
attribute [local irreducible] AT bI AX AO Av Kt bi dx DA cK
def C1 (ls:List aL):Bool:=ls.all (y5 5) && (decide (ls.length≤1000000) && Cj ls)
theorem C2 {ls:List aL} (h:C1 ls=true):AC Tryz.prog 15 [bZ (fC ls)] [] fun c _=>∃E,lV E∧Ds (.iptr (ei E)) (d7 km ls)∧c= .tup [.iptr (ei E),aF 0]:=by
 unfold C1 Cj at h
 simp only [Bool.and_eq_true,decide_eq_true_eq] at h
 refine AC.mono (zQ h.1 h.2.1 (vm h.2.2)) fun c L ⟨E,h1,h2,h3,h4⟩=>⟨E,h1,?_,h4⟩
 have:=Ht h1
 rwa [h2,h3] at this
theorem Ab:C1 D9=true:=by decide+kernel
theorem Ac:decide ((xf (d7 km D9) [0,1] [] (eU [0,1,0])).map aJ.Glyph=[3,0])=true:=by decide+kernel
theorem Da:AC Tryz.prog 13 [] [dU] fun c L=>c=dV true∧L=[dU]:=by
 refine aM Tryz.func13 rfl Tryz.ntmps13 rfl fun B=>?_
 repeat' (first|refine Ji ?_|refine JF a5 H6 ?_|refine bM a5 ?_|fail)
 refine b8 [] _ (AC.args (zP D9) ?_) rfl rfl (Jo _) rfl fun c L1 hc=>?_
 ·repeat' first | exact cU.refl _ | exact cU.nil _ | exact True.intro | refine cU.agg ?_ | refine cU.imm ?_ | refine And.intro ?_ ?_
 subst hc
 refine aI (bH (List.sublist_append_right ..)) ?_
 repeat' (first|refine Ji ?_|refine JF a5 H6 ?_|(apply aK;first|refine JH 1 a5 0 JE ?_|refine JH 1 a5 1 JE ?_|refine JH 1 a5 2 JE ?_|refine JG a5 0 JD ?_|refine JG a5 1 JD ?_|refine JG a5 2 JD ?_|refine JG a5 3 JD ?_|fail)|refine bj a5 fun _=>?_|fail)
 refine b8 [] _ (C2 Ab) rfl rfl (Jo _) rfl fun c L1 hc=>?_
 obtain ⟨E,hE,hA,rfl⟩:=hc
 refine aI (bH (List.sublist_append_right ..)) ?_
 repeat' (first|refine Ji ?_|refine JF a5 H6 ?_|refine JN H6 ?_)
 refine bX [2] False rfl (fun Q' K=>?_) (fun hC=>hC.elim) (fun _=>?_)
 ·repeat' (first|fail)
  refine qT Tryz.underlying34 rfl rfl rfl rfl ?_
  repeat' (first|refine Ji ?_|refine JF a5 H6 ?_)
  exact K _ _ rfl rfl (by simp)
 repeat' (first|refine Ji ?_|refine JF a5 H6 ?_|refine bM a5 ?_|fail)
 refine b8 [] _ (zt [0,1,0] (by decide)) rfl rfl (Jo _) rfl fun c L1 hc=>?_
 subst hc
 refine aI (bH (List.sublist_append_right ..)) ?_
 repeat' (first|fail)
 refine b8 [dU] [] (AC.args (EU (ei E) hA [0,1] [] (eU [0,1,0]) (by decide)) (a:=[.iptr (ei E),.imm 1 (aX [0,1]),.sc (.slice none 0 0),.imm 6 ((eU [0,1,0]).map aY)]) ⟨cU.refl _,cU.refl _,cU.nil 1,cU.refl _,trivial⟩) rfl rfl (Jo _) rfl fun c L1 ⟨hc,hL⟩=>?_
 subst hc;subst hL
 repeat' (first|refine bM a5 ?_|fail)
 refine b8 [] _ (wF _ [3,0] (by decide)) rfl rfl (Jo _) rfl fun c L1 hc=>?_
 subst hc
 rw [Ac]
 refine aI (bH (List.sublist_append_right ..)) ?_
 repeat' (first|refine Ji ?_|refine JF a5 H6 ?_)
 exact JL H6 ⟨rfl,rfl⟩
def yi (m k:Nat):List Int:=(List.range k).map fun (j:Nat)=>if j=m then (1:Int) else 0
def ER (m k:Nat):List Int:=(List.range k).map fun (j:Nat)=>if (m:Int) - 1≤(j:Int) then (1:Int) else 0
def Ij (m:Nat):Bool:=decide ((d7 km EQ 0 (eU (yi m (m+1))) []).map aJ.Glyph=List.replicate (m+1) 1) && decide ((d7 km EQ 1 (eU (yi m (m+1))) []).map aJ.Glyph=ER m (m+1))
def n6 (x:aJ):List Int:=[x.Glyph,x.Cluster,x.Form,x.Advance,x.X,x.Y]
theorem sq {a b:aJ} (h:n6 a=n6 b):a=b:=by
 cases a;cases b
 simpa [n6] using h
instance:DecidableEq aJ:=fun a b=>decidable_of_iff (n6 a=n6 b) ⟨sq,fun h=>by rw [h]⟩
theorem zr:xu Tryz.prog 67 6:=⟨⟨_,Tryz.underlying67,rfl,⟨by decide,rfl,Tryz.underlying3⟩,⟨by decide,rfl,Tryz.underlying3⟩,⟨by decide,rfl,Tryz.underlying3⟩,⟨by decide,rfl,Tryz.underlying3⟩,⟨by decide,rfl,Tryz.underlying3⟩,⟨by decide,rfl,Tryz.underlying3⟩,trivial⟩,by kernel_rfl,by kernel_rfl⟩
theorem Er (l:List Int):bJ Tryz.prog 19 [.imm 1 (aX l)] (.imm 1 (aX (l.take 12))):=by
 refine aM Tryz.func19 rfl Tryz.ntmps19 rfl fun B=>?_
 refine cI 0 rfl rfl fun hl=>?_
 have hil:=aZ l
 repeat' (first|refine Ji ?_|refine JF a5 H6 ?_)
 refine tD a5 (min l.length 12) rfl rfl rfl rfl rfl (by omega) (by omega) rfl ?_
 have ht:l.take (min l.length 12)=l.take 12:=by
  rcases Nat.le_total l.length 12 with h | h
  ·rw [Nat.min_eq_left h,List.take_length,List.take_of_length_le h]
  ·rw [Nat.min_eq_right h]
 rw [show (aX l).take (min l.length 12)=aX (l.take 12) from by rw [←ht];unfold aX;rw [List.map_take]]
 repeat' (first|refine Ji ?_|refine JF a5 H6 ?_)
 exact JM JA
theorem vw (a b:List aJ) (ha:a.length≤1000000):bJ Tryz.prog 17 [.imm 6 (a.map aY),.imm 6 (b.map aY)] (dV (decide (a=b))):=by
 refine aM Tryz.func17 rfl Tryz.ntmps17 rfl fun B=>?_
 have hal:(a.map aY).length=a.length:=Ju ..
 have hbl:(b.map aY).length=b.length:=Ju ..
 repeat' (first|refine Ji ?_|refine JF a5 H6 ?_)
 refine ar rfl (fun h1=>?_) (fun h1=>?_)
 ·have hne:¬a.length=b.length:=by have:=Jy h1;omega
  rw [decide_eq_false (fun e:a=b=>hne (by rw [e]))]
  repeat' (first|refine Ji ?_|refine JF a5 H6 ?_)
  exact JM JA
 ·have heq:a.length=b.length:=by have:=Jx h1;omega
  clear h1
  repeat' (first|refine Ji ?_|refine am ?_|refine JF a5 H6 ?_)
  refine aP [0,1] (α:=Nat) (fun i=>[(5,aF i)]) (fun i=>i≤a.length∧a.take i=b.take i) (fun _=>[]) (fun i=>a.length - i) 0 rfl ⟨rfl,trivial⟩ ⟨Nat.zero_le _,rfl⟩ (fun _ _ h=>h) ?_
  rintro i ⟨hi,hti⟩
  try dsimp only [Js,Jr,Jq,Jl]
  repeat' (first|refine Ji ?_|refine JF a5 H6 ?_)
  refine ar rfl (fun h1=>?_) (fun h1=>?_)
  ·have hi2:i < a.length:=by have:=Jy h1;omega
   obtain ⟨g,hg⟩:∃z,a[i]?=some z:=⟨_,Jz hi2⟩
   obtain ⟨x,hx⟩:∃z,b[i]?=some z:=⟨_,Jz (by omega)⟩
   have hgg:(a.map aY)[i]?=some (aY g):=by simp [hg]
   have hxg:(b.map aY)[i]?=some (aY x):=by simp [hx]
   clear h1
   repeat' (first|refine Ji ?_|refine am ?_)
   refine bw 8 [(0,.v),(1,.v),(2,.v),(3,.v),(4,.v),(5,.v),(6,.v),(7,.v)] none ?_ trivial rfl (by kernel_rfl) (by kernel_rfl) (by kernel_rfl) bR (by kernel_rfl) rfl
   repeat' (first|refine aD ?_|refine b7 a5 ?_|(apply bV;refine cn a5 ?_)|fail)
   refine JQ [0,1,5,20,24] H6 ?_
   refine ce (Gf (a:=n6 g) (b:=n6 x) zr rfl rfl rfl rfl) rfl rfl ?_
   repeat' (first|refine Ji ?_|fail)
   refine ar rfl (fun h1=>?_) (fun h1=>?_)
   ·have hne:¬n6 g=n6 x:=by
     intro e
     rw [decide_eq_true e] at h1
     cases h1
    rw [decide_eq_false (fun e:a=b=>hne (by rw [e,hx] at hg;cases hg;rfl))]
    repeat' (first|refine Ji ?_|refine JF a5 H6 ?_)
    exact JM JA
   ·have hgx:g=x:=by
     refine sq (Classical.byContradiction fun e=>?_)
     rw [decide_eq_false e] at h1
     cases h1
    repeat' (first|refine Ji ?_|refine JF a5 H6 ?_|(apply aS;refine aR ?_)|fail)
    exact aC (i+1) rfl ⟨by rw [Jv];rfl,trivial⟩ ⟨hi2,by rw [List.take_add_one,List.take_add_one,hti,hg,hx,hgx]⟩ (by omega) (fun _ _ h=>h)
  ·have hi2:i=a.length:=by have:=Jx h1;omega
   subst hi2
   rw [List.take_length,heq,List.take_length] at hti
   rw [decide_eq_true hti]
   repeat' (first|refine Ji ?_|refine JF a5 H6 ?_)
   exact JM JA
def EA (v:Int):Int:=bits .and .i64 v 65535
def GF (g:Int) (i:Nat) (v:Int):aJ:=⟨(EA v).tmod (max g 1+1),i,(IntKind.wrap .i64 ((EA v).tdiv 16)).tmod 5,IntKind.wrap .i64 ((EA v).tdiv 7),0,0⟩
def j8 (g:Int):Nat→List Int→List aJ
 | _,[]=>[]
 | i,v::l=>GF g i v::j8 g (i+1) l
def uV (g:Int) (l:List Int):List aJ:=j8 g 0 (l.take 60)
theorem qA (g:Int):∀(l:List Int) (i:Nat) (v:Int),j8 g i (l++[v])=j8 g i l++[GF g (i+l.length) v]
 | [],i,v=>rfl
 | x::l,i,v=>by
  rw [Js,j8,qA g l (i+1) v,j8,Js,List.length_cons,show i+1+l.length=i+(l.length+1) by omega]
theorem oe (g:Int):∀(l:List Int) (i:Nat),(j8 g i l).length=l.length
 | [],_=>rfl
 | x::l,i=>by rw [j8,List.length_cons,oe g l,List.length_cons]
theorem Ca (l:List Int) (g:Int) (hg:0≤g∧g≤1000000000):bJ Tryz.prog 16 [.imm 1 (aX l),aF g] (.imm 6 ((uV g l).map aY)):=by
 refine aM Tryz.func16 rfl Tryz.ntmps16 rfl fun B=>?_
 refine cI 0 rfl rfl fun hl=>?_
 have hil:=aZ l
 repeat' (first|refine Ji ?_|refine am ?_|refine JF a5 H6 ?_|(apply aS;refine aR ?_)|refine lj (n:=0) a5 fun _=>?_|fail)
 refine aP [0,6] (α:=Nat×Option (Nat×Nat)) (fun s=>[(7,aF s.1),(5,.vec s.2 6 ((j8 g 0 (l.take s.1)).map aY))]) (fun s=>s.1≤l.length∧s.1≤60) (fun s=>tok s.2 67 6 s.1) (fun s=>l.length - s.1) (0,some (_,0)) rfl ⟨rfl,rfl,trivial⟩ ⟨Nat.zero_le _,Nat.zero_le _⟩ (fun _ _ h=>h) ?_
 rintro ⟨i,q⟩ ⟨hi,hi60⟩
 dsimp only at hi hi60 ⊢
 try dsimp only [Js,Jr,Jq,Jl]
 repeat' (first|refine Ji ?_|refine JF a5 H6 ?_)
 refine bX [0,5,6,7] (i < l.length∧i < 60) rfl (fun Q' K=>?_) (fun hC=>?_) (fun hC=>?_)
 ·repeat' (first|refine Ji ?_|refine JF a5 H6 ?_|refine JN H6 ?_|refine JO JB ?_|refine JR JA (fun _=>?_) (fun _=>?_))
  all_goals exact K _ _ rfl rfl (by simp_all <;> omega)
 ·obtain ⟨v,hv⟩:∃z,l[i]?=some z:=⟨_,Jz hC.1⟩
  have hgg:=bP hv
  repeat' (first|refine Ji ?_|refine am ?_|refine JF a5 H6 ?_|(apply aO;first|refine aN a5 ?_|refine aG a5 ?_)|fail)
  refine qS rfl rfl rfl ?_
  rw [show bits .and .i64 v 65535=EA v from rfl]
  repeat' (first|refine Ji ?_|refine JF a5 H6 ?_)
  refine ce (AZ rfl rfl (by omega)) rfl rfl ?_
  repeat' (first|refine JF a5 H6 ?_)
  refine ce (xD rfl rfl (by decide)) rfl rfl ?_
  repeat' (first|fail)
  refine ce (AZ rfl rfl (by decide)) rfl rfl ?_
  repeat' (first|refine JF a5 H6 ?_)
  refine ce (xD rfl rfl (by decide)) rfl rfl ?_
  have hml:((j8 g 0 (l.take i)).map aY).length=i:=by rw [Ju,oe,List.length_take];omega
  have hsn:(j8 g 0 (l.take i)).map aY++[aY (GF g i v)]=(j8 g 0 (l.take (i+1))).map aY:=by
   rw [List.take_add_one,hv]
   show _=(j8 g 0 (l.take i++[v])).map aY
   rw [qA,List.map_append,List.length_take,Nat.min_eq_left (by omega),Nat.zero_add]
   rfl
  generalize (j8 g 0 (l.take i)).map aY=A0 at *
  repeat' (first|refine JF a5 H6 ?_|refine bM a5 ?_|fail)
  refine bK a5 [] rfl rfl rfl rfl (by rw [hml,List.append_nil]) (by rw [hml];simp;omega) (by rw [hml];simp;omega) rfl fun q'=>?_
  repeat' (first|refine Ji ?_|refine JF a5 H6 ?_|(apply aS;refine aR ?_)|fail)
  refine aC (i+1,q') rfl ⟨by rw [Jv];rfl,by dsimp only;rw [←hsn];rfl,trivial⟩ ⟨hC.1,hC.2⟩ (by dsimp only;omega) (fun _ _ h=>?_)
  rw [List.length_append,hml,List.append_nil] at h
  exact h
 ·have hw:l.take i=l.take 60:=by
   rcases Nat.lt_or_ge i 60 with h | h
   ·have:i=l.length:=by omega
    rw [List.take_of_length_le (by omega),List.take_of_length_le (by omega)]
   ·rw [show i=60 by omega]
  repeat' (first|refine Ji ?_|refine JF a5 H6 ?_)
  refine bk (bQ (t:=4) (c':= .imm 6 ((uV g l).map aY)) rfl fun σ v h=>?_) ?_
  ·have h':=VR.im h
   rw [hw] at h'
   exact h'
  refine dT (List.nil_sublist _) ?_
  exact JM JA
end Go.Proofs.YtpmdfoaadejmkaaGreatDoor
namespace Go.Proofs.YtpmdfoaadejmkaaGreatDoor
structure MS where
 a:Nat
 lo:Fin 3
abbrev DM (α:Type):=MS→α×MS
section
variable {α β:Type}
def ret (x:α):DM α:=fun m=>(x,m)
def c8 (g:DM α) (k:α→DM β):DM β:=fun m=>k (g m).1 (g m).2
def gY (g:Nat→β→DM β) (b:β):Nat→DM β
 | 0=>ret b
 | k+1=>c8 (gY g b k) (g k)
end
def ta (s:List Int) (a:Nat) (n:Int):Int:=match s[a]? with
 | some x=>x % n
 | none=>0
def dr (s:List Int) (n:Int):DM Int:=fun m=>(ta s m.a n,{ m with a:=m.a+1 })
def HH:DM Unit:=fun m=>((),{ m with lo:=⟨m.lo.val - 1,Nat.lt_of_le_of_lt (Nat.sub_le ..) m.lo.isLt⟩ })
def gV (z:Fin 3):DM Unit:=fun m=>((),{ m with lo:=z })
def qG:DM Int:=fun m=>((m.lo.val:Int),m)
section
variable (s:List Int)
def FO (p:Nat):DM eE:=c8 (dr s 21) fun x=>c8 (dr s 21) fun y=>if p=0 then ret ⟨x * 50 - 100,y * 50 - 200,true⟩ else c8 (dr s 4) fun z=>ret ⟨x * 50 - 100,y * 50 - 200,decide (0 < z)⟩
def oo (l:List eE) (k:Nat):DM (List eE):=gY (fun p l=>c8 (FO s p) fun t=>ret (l++[t])) l k
def ic (n:Nat):DM (List eE×List Int):=gY (fun _ o=>c8 (dr s 4) fun k=>c8 (oo s o.1 (2+k).toNat) fun l=>ret (l,o.2++[(l.length:Int) - 1])) ([],[]) n
def jE:DM (List eE×List Int):=c8 (dr s 3) fun n=>ic s n.toNat
def gJ (q:Int):DM (List g7):=ret [⟨39,0⟩,⟨1,16⟩,⟨17,0⟩,⟨36,2⟩,⟨1,q⟩,⟨2,0⟩]
def cE (n funcs:Int):DM (List g7):=c8 (dr s (n+1)) fun p=>c8 (dr s (n+1)) fun q=>c8 (dr s 2) fun a=>c8 (dr s 12) fun k=>
 if k=0 then ret [⟨22,a⟩,⟨23,a⟩]
 else if k=1 then c8 (dr s 6) fun z=>ret [⟨24,z⟩]
 else if k=2∨k=3 then ret [⟨1,p⟩,⟨1,p⟩,⟨29,0⟩,⟨15,0⟩,⟨32,0⟩]
 else if k=4 then c8 (dr s 200) fun z=>ret [⟨1,p⟩,⟨1,z - 100⟩,⟨31,0⟩]
 else if k=5 then ret [⟨1,p⟩,⟨1,q⟩,⟨33,0⟩]
 else if k=6 then ret [⟨34,a⟩]
 else if k=7 then ret [⟨1,a⟩,⟨1,q⟩,⟨25,0⟩,⟨1,3⟩,⟨5,0⟩,⟨26,0⟩]
 else if k=8 then (if 0 < funcs then c8 (dr s funcs) fun z=>ret [⟨37,z⟩] else gJ q)
 else if k=9 then (if 0 < funcs then c8 qG fun lo=>if 0 < lo then c8 HH fun _=>c8 (dr s 5) fun y=>c8 (dr s funcs) fun z=>ret [⟨1,y⟩,⟨38,z⟩] else gJ q else gJ q)
 else if k=10 then ret [⟨1,p⟩,⟨30,0⟩,⟨1,q⟩,⟨29,0⟩,⟨16,0⟩,⟨36,3⟩,⟨1,q⟩,⟨1,64⟩,⟨31,0⟩]
 else gJ q
def fy (n funcs:Int) (k:Nat):DM (List g7):=gY (fun _ l=>c8 (cE s n funcs) fun p=>ret (l++p)) [] k
def n5 (n funcs most:Int):DM (List g7):=c8 (dr s most) fun k=>fy s n funcs k.toNat
def fh (a:Int) (k:Nat):DM (List Int):=gY (fun j l=>if l.length < 4 then c8 (dr s 3) fun z=>ret (if z=0 then l++[a+1+j] else l) else ret l) [a] k
def ny (n:Int):DM (List Int):=c8 (dr s n) fun a=>fh s a (n - (a+1)).toNat
def ie (n:Int) (k:Nat):DM (List (List Int)):=gY (fun _ l=>c8 (ny s n) fun x=>ret (l++[x])) [] k
def pk (n most:Int):DM (List (List Int)):=c8 (dr s (most+1)) fun k=>ie s n k.toNat
def g9 (n:Int) (k:Nat):DM (List Int):=gY (fun _ l=>c8 (dr s n) fun x=>ret (l++[x])) [] k
def f7 (n:Int) (calls:List Int) (k:Nat):DM (List gR):=gY (fun _ l=>c8 (dr s n) fun a=>c8 (dr s calls.length) fun z=>ret (l++[⟨a,calls.getD z.toNat 0⟩])) [] k
def FN (n:Int) (a:List Int):DM bc:=c8 (ny s n) fun b=>c8 (dr s 41) fun x=>ret ⟨[],[a,b],[],[],[],x * 10 - 200⟩
def jl (n:Int):DM (List (List Int)×List (List Int)):=c8 (dr s 2) fun z=>if z=0 then c8 (pk s n 2) fun b=>c8 (pk s n 2) fun c=>ret (b,c) else ret ([],[])
def gB (n kind:Int) (calls:List Int):DM bc:=c8 (ny s n) fun a=>if kind=6 then FN s n a else c8 (jl s n) fun e=>
 if kind=1∨kind=5 then c8 (g9 s n a.length) fun o=>ret ⟨e.1,[a],e.2,o,[],0⟩
 else if kind=2 then c8 (dr s 4) fun k=>c8 (g9 s n k.toNat) fun o=>ret ⟨e.1,[a],e.2,o,[],0⟩
 else if kind=3 then c8 (pk s n 2) fun m=>c8 (dr s n) fun o=>ret ⟨e.1,a::m,e.2,[o],[],0⟩
 else c8 (pk s n 2) fun m=>c8 (dr s 3) fun k=>c8 (f7 s (a::m).length calls (if calls.length=0 then 0 else k.toNat)) fun c=>ret ⟨e.1,a::m,e.2,[],c,0⟩
def fB:List Int:=[1,2,3,4,4,5,6,7,8,1]
def ev (k:Nat):DM (List aL×List Int):=gY (fun i o=>c8 (dr s 10) fun z=>c8 (dr s 3) fun y=>ret (o.1++[⟨fB.getD z.toNat 0,decide (y=0),[]⟩],if fB.getD z.toNat 0≤4 then o.2++[(i:Int)] else o.2)) ([],[]) k
def eV (n kind:Int) (calls:List Int) (k:Nat):DM (List bc):=gY (fun _ l=>c8 (gB s n kind calls) fun r=>ret (l++[r])) [] k
def fa (n:Int) (calls:List Int) (l:List aL) (k:Nat):DM (List aL):=gY (fun i l=>match l[i]? with
 | none=>ret l
 | some q=>if q.Kind≥7 then ret l else c8 (dr s 3) fun k=>c8 (eV s n q.Kind calls (1+k).toNat) fun rs=>ret (l.set i { q with Rules:=rs })) l k
def iK (n:Int):DM (List aL):=c8 (dr s 7) fun k=>c8 (ev s k.toNat) fun o=>fa s n o.2 o.1 k.toNat
def bytes (l:List UInt8):ByteArray:=⟨l.toArray⟩
def jj (p:List UInt8) (n:Nat):ByteArray:=bytes (p++[(97+n).toUInt8])
def IV:List UInt8:=[103]
def ur:List UInt8:=[97,120]
def CI:ByteArray:=bytes [46,110,111,116,100,101,102]
def cJ (n:Nat):ByteArray:=if n=0 then CI else jj IV n
def iP (n:Nat):DM (List dL):=if 1 < n then c8 (dr s 4) fun z=>if z=0 then c8 (dr s 9) fun x=>c8 (dr s 5) fun y=>ret [⟨1,x * 50 - 200,y * 50⟩] else ret [] else ret []
def ge (cl:Int):List (Int×Int):=[(1,0),(1,1),(3,0),(4,0),(2,cl)]
def eL (mark:Bool) (cl:Int) (k:Nat):DM (List dv):=gY (fun i l=>c8 (dr s 3) fun z=>if z=0∧(((ge cl).getD i (0,0)).1≠2∨mark=true) then c8 (dr s 21) fun x=>c8 (dr s 21) fun y=>ret (l++[⟨((ge cl).getD i (0,0)).1,((ge cl).getD i (0,0)).2,x * 50,y * 50 - 200⟩]) else ret l) [] k
def hY (r:Nat) (l:List dH) (k:Nat):DM (List dH):=gY (fun p l=>c8 (dr s 3) fun z=>if z=0 then c8 (dr s 41) fun x=>if p=0 then ret (l++[⟨r,-1,x - 20,0⟩]) else c8 (dr s 41) fun y=>ret (l++[⟨r,(p:Int) - 1,x - 20,y - 20⟩]) else ret l) l k
def gi (pts:Nat) (R:Nat):DM (List dH):=gY (fun r l=>hY s r l (pts+1)) [] R
def ke (R fn n:Nat):DM bv:=c8 (dr s 19) fun ad=>c8 (dr s 4) fun mk=>c8 (jE s) fun o=>c8 (iP s n) fun ps=>c8 (dr s 2) fun cl=>c8 (eL s (decide (mk=0) && decide (n≠0)) cl 5) fun an=>c8 (gi s o.1.length R) fun de=>c8 (gV 2) fun _=>c8 (n5 s o.1.length fn 6) fun h=>ret ⟨cJ n,100+ad * 50,decide (mk=0) && decide (n≠0),o.1,o.2,ps,an,de,h⟩
def gk (R fn k:Nat):DM (List bv):=gY (fun i l=>c8 (ke s R fn i) fun g=>ret (l++[g])) [] k
def kQ (k:Nat):DM (List ez):=gY (fun i l=>c8 (dr s 3) fun a=>c8 (dr s 4) fun b=>ret (l++[⟨jj ur i,0 - a * 100,0,b * 100⟩])) [] k
def ku:List eZ:=[⟨0,64,64⟩,⟨0,32,64⟩,⟨-64,-64,0⟩,⟨-1,0,5⟩,⟨10,32,50⟩]
def i6 (k:Nat):DM (List eZ):=gY (fun _ l=>c8 (dr s 5) fun z=>ret (l++[ku.getD z.toNat ⟨0,0,0⟩])) [] k
def kF (axes k:Nat):DM (List (List eZ)):=gY (fun _ l=>c8 (i6 s axes) fun r=>ret (l++[r])) [] k
def fE (axes:Nat):DM (List (List eZ)):=if axes=0 then ret [] else c8 (dr s 4) fun n=>kF s axes n.toNat
def iI (k:Nat):DM (List (List g7)):=gY (fun i l=>c8 (gV 0) fun _=>c8 (n5 s 6 i 4) fun h=>ret (l++[h])) [] k
def qb (k:Nat):DM (List Int):=gY (fun _ l=>c8 (dr s 500) fun z=>ret (l++[z - 100])) [] k
def fO:List Int:=[97,98,99,102,105,108,57345,57346,57601,57602,57603,57857,57861,58113,58114,58369]
def hQ (n:Int) (k:Nat):DM (List ga):=gY (fun i l=>c8 (dr s 4) fun z=>if 0 < z then c8 (dr s n) fun g=>ret (l++[⟨fO.getD i 0,g⟩]) else ret l) [] k
def fN:List ByteArray:=[bytes [108,105,103,97],bytes [105,115,111,108],bytes [105,110,105,116],bytes [109,101,100,105],bytes [102,105,110,97],bytes [107,101,114,110],bytes [109,97,114,107],bytes [99,97,108,116]]
def nT (k:Nat):DM (List Int):=gY (fun i l=>c8 (dr s 3) fun z=>ret (if z=0 then l++[(i:Int)] else l)) [] k
def hZ (n:Nat) (k:Nat):DM (List c6):=gY (fun i l=>c8 (nT s n) fun r=>c8 (dr s 2) fun z=>ret (if z=0 then l++[⟨fN.getD i ByteArray.empty,r⟩] else l)) [] k
def mF:List Int:=[1000,1024,100,2048]
def Cl:DM b6:=c8 (dr s 4) fun u=>c8 (dr s 3) fun k=>c8 (kQ s k.toNat) fun ax=>c8 (fE s k.toNat) fun rg=>c8 (dr s 3) fun k2=>c8 (iI s k2.toNat) fun fu=>c8 (dr s 4) fun k3=>c8 (qb s k3.toNat) fun cv=>c8 (dr s 9) fun k4=>c8 (gk s rg.length fu.length (2+k4).toNat) fun gl=>c8 (hQ s gl.length 16) fun ch=>c8 (iK s gl.length) fun lk=>c8 (hZ s lk.length 8) fun ft=>ret ⟨mF.getD u.toNat 0,gl,ch,lk,ft,ax,rg,fu,cv⟩
def kD:b6:=(Cl s ⟨0,0⟩).1
def I8:List Int:=fO++[122]
def J0:List Int:=(s.take 20).map fun z=>I8.getD (z % 17).toNat 0
end
end Go.Proofs.YtpmdfoaadejmkaaGreatDoor
namespace Go.Proofs.YtpmdfoaadejmkaaGreatDoor
open Go.RowKit
attribute [local irreducible] AT bI AX AO Av Kt bi dx DA cK
structure MF where
 u:AV
 gl:AV
 ch:AV
 lk:AV
 ft:AV
 ax:AV
 rg:AV
 fu:AV
 cv:AV
def HR (s:List Int) (F:MF) (m:MS):List AV:=[.imm 1 (aX s),aF (min m.a s.length:Nat),F.u,F.gl,F.ch,F.lk,F.ft,F.ax,F.rg,F.fu,F.cv,aF (m.lo.val:Nat)]
abbrev dR (b:Nat) (s:List Int) (F:MF) (m:MS):Nat×AB:=(b,.box (HR s F m) 177)
def rA (f:FuncId) (args:List AV) (s:List Int) (F:MF) {α:Type} (u:DM α) (out:α→AV):Prop:=∀(b:Nat) (m:MS),AC Tryz.prog f (Dy b::args) [dR b s F m] fun c L=>c=out (u m).1∧L=[dR b s F (u m).2]
theorem EP {x n:Int} (hn:0 < n):(x.tmod n+n).tmod n=x % n:=by
 have h0:=Int.lt_tmod_of_pos x hn
 rw [Int.tmod_eq_emod_of_nonneg (by omega),Int.add_emod_right]
 have h2:(x.tmod n) % n=(x - n * x.tdiv n) % n:=by rw [Int.tmod_def]
 rw [h2,Int.sub_mul_emod_self_left]
set_option maxHeartbeats 1000000 in
theorem oh (s:List Int) (hs:s.length≤1000000) (F:MF) (n:Int) (hn:0 < n∧n≤1000000):rA 89 [aF n] s F (dr s n) aF:=by
 intro b m
 refine aM Tryz.func89 rfl Tryz.ntmps89 rfl fun B=>?_
 have hil:=aZ s
 unfold dR
 repeat' (first|refine Ji ?_|refine JF a5 H6 ?_)
 refine bw 9 [(0,.v),(1,.v),(2,.v),(3,.l),(4,.v),(5,.v),(6,.v),(7,.l),(8,.v)] none ?_ trivial rfl (by kernel_rfl) (by kernel_rfl) (by kernel_rfl) bR (by kernel_rfl) rfl
 repeat' (first|refine aD ?_|refine b7 a5 ?_|refine ca a5 0 rfl rfl rfl rfl (by first|trivial|rfl) ?_)
 refine JQ [0,1,9,14] H6 ?_
 repeat' (first|refine Ji ?_|refine a7 ?_|refine JF a5 H6 ?_)
 refine ar rfl (fun h=>?_) (fun h=>?_)
 ·have h1:s.length≤min m.a s.length:=by have:=Jy h;rw [hil] at this;omega
  repeat' (first|refine Ji ?_|refine JF a5 H6 ?_)
  refine JL H6 ⟨?_,?_⟩
  ·unfold dr ta
   rw [List.getElem?_eq_none (show s.length≤m.a by omega)]
  ·unfold dr HR
   rw [show min m.a s.length=min (m.a+1) s.length by omega]
 have h1:m.a < s.length:=by have:=Jx h;rw [hil] at this;omega
 have h2:min m.a s.length=m.a:=by omega
 obtain ⟨x,hx⟩:∃x,s[m.a]?=some x:=⟨_,Jz h1⟩
 have hxg:=bP hx
 unfold HR
 rw [h2]
 repeat' (first|refine Ji ?_|fail)
 refine bw 8 [(0,.v),(1,.v),(2,.v),(3,.l),(4,.v),(5,.v),(6,.v),(7,.l)] none ?_ trivial rfl (by kernel_rfl) (by kernel_rfl) (by kernel_rfl) bR (by kernel_rfl) rfl
 repeat' (first|refine aD ?_|refine b7 a5 ?_|refine ca a5 0 rfl rfl rfl rfl (by first|trivial|rfl) ?_)
 refine JQ [0,1,19,23] H6 ?_
 repeat' (first|refine Ji ?_|refine a7 ?_|refine JF a5 H6 ?_|(apply bE;first|refine JI a5 0 JC ?_|refine JI a5 1 JC ?_|refine JI a5 2 JC ?_|refine JI a5 3 JC ?_|refine JJ a5 0 JC ?_|refine JJ a5 1 JC ?_|refine JJ a5 2 JC ?_|refine JK a5 1 JA (by assumption) rfl ?_|refine JK a5 0 JA (by assumption) rfl ?_|fail)|(apply aS;refine aR ?_)|(apply aO;first|refine aN a5 ?_|refine aG a5 ?_)|(apply aK;first|refine JG a5 0 JD ?_|refine JG a5 1 JD ?_|refine JG a5 2 JD ?_|refine JG a5 3 JD ?_|fail))
 refine FL ?_
 repeat' (first|refine JF a5 H6 ?_)
 have hb:=Int.lt_tmod_of_pos x hn.1
 have hb2:=Int.tmod_lt_of_pos x hn.1
 refine aR ?_
 repeat' (first|refine JF a5 H6 ?_)
 refine FL ?_
 repeat' (first|refine Ji ?_|refine JF a5 H6 ?_)
 refine JL H6 ⟨?_,?_⟩
 ·unfold dr ta
  rw [hx,EP hn.1]
 ·unfold dr
  dsimp only
  rw [show min (m.a+1) s.length=m.a+1 by omega]
  rfl
section
variable {r:Option Nat} {ops:Array Oper} {Q:Exit→Act→World→Prop} {nt:Nat} {D:List Deferred} {fr:c7} {B:Bs} {rest:List Oper} {d:Nat} {ty:TypeId} {pos:String} {af:Array Edge} {s:List Int} {F:MF} {b:Nat} {m:MS} {Z:AL} {args:Array Operand} {ts:Array TypeId}
theorem v9 {f:FuncId} [bL Tryz.prog f] {α:Type} {u:DM α} {out:α→AV} {az ds:List AV} (hc:rA f az s F u out) (h:bI Tryz.prog r ops Q nt D rest ((d,out (u m).1)::fr) B (dR b s F (u m).2::Z)) (hv:eA fr args.toList=some ds:=by rfl) (hi:lS ds=some (Dy b::az):=by rfl) (hd:Nat.ble nt d=false:=by rfl):bI Tryz.prog r ops Q nt D (⟨some d,.call ⟨.value (.func f),args,ts⟩,ty,pos,af,none⟩::rest) fr B (dR b s F m::Z):=
 b8 [dR b s F m] Z (hc b m) hv hi (Jo _) hd fun c L1 ⟨h1,h2⟩=>by subst h1;subst h2;exact h
theorem cC {n:Int} (h:bI Tryz.prog r ops Q nt D rest ((d,aF (dr s n m).1)::fr) B (dR b s F (dr s n m).2::Z)) (hv:eA fr args.toList=some [Dy b,aF n]:=by rfl) (hs:s.length≤1000000:=by assumption) (hn:0 < n∧n≤1000000:=by omega) (hd:Nat.ble nt d=false:=by rfl):bI Tryz.prog r ops Q nt D (⟨some d,.call ⟨.value (.func 89),args,ts⟩,ty,pos,af,none⟩::rest) fr B (dR b s F m::Z):=
 v9 (oh s hs F n hn) h hv rfl hd
end
section
variable {l:List Oper} {fr:c7} {fin:jO} {sk:mG} {acc:c7} {k:Nat} {dd:Option Tmp} {ty:TypeId} {pos:String} {af:Array Edge} {g:Option (Nat×Bool)} {s:List Int} {F:MF} {b:Nat} {m:MS} {Z:AL} {args:Array Operand} {ts:Array TypeId}
theorem bY {L:AL}:eN [] L:=fun q hq=>by cases hq
theorem bN {q:Nat×Nat×AV} {gs:KpL} {L:AL} (i:Nat) {cs:List AV} {e:TypeId} (hL:L[i]?=some (q.1,.box cs e)) (hc:cs[q.2.1]?=some q.2.2) (h:eN gs L):eN (.cell q::gs) L:=fun p hp=>by
 rcases List.mem_cons.1 hp with rfl | hp
 ·exact show ∃cs e,(q.1,AB.box cs e)∈L∧cs[q.2.1]?=some q.2.2 from ⟨cs,e,Jw hL,hc⟩
 ·exact h p hp
theorem It {f:FuncId} [bL Tryz.prog f] {α:Type} {u:DM α} {out:α→AV} {az ds:List AV} (hc:rA f az s F u out) (h:DA Tryz.prog l fr fin sk ((k,out (u m).1)::acc) (dR b s F (u m).2::Z)) (hv:eA (cB l.toArray acc fr af.toList) args.toList=some ds:=by rfl) (hi:lS ds=some (Dy b::az):=by rfl) (hg:iX ⟨dd,.call ⟨.value (.func f),args,ts⟩,ty,pos,af,g⟩ acc:=by first | trivial | rfl):cK Tryz.prog l fr fin k .e ⟨dd,.call ⟨.value (.func f),args,ts⟩,ty,pos,af,g⟩ sk acc (dR b s F m::Z):=
 il [dR b s F m] Z (hc b m) hv hi (Jo _) hg fun c L1 ⟨h1,h2⟩=>by subst h1;subst h2;exact h
theorem s4 {f:FuncId} [bL Tryz.prog f] {α:Type} {u:DM α} {out:α→AV} {az ds:List AV} (hc:rA f az s F u out) (hK:eN fin.gs (dR b s F (u m).2::Z)) (h:DA Tryz.prog l fr fin sk ((k,out (u m).1)::acc) (dR b s F (u m).2::Z)) (hv:eA (cB l.toArray acc fr af.toList) args.toList=some ds:=by rfl) (hi:lS ds=some (Dy b::az):=by rfl) (hg:iX ⟨dd,.call ⟨.value (.func f),args,ts⟩,ty,pos,af,g⟩ acc:=by first | trivial | rfl):cK Tryz.prog l fr fin k .f ⟨dd,.call ⟨.value (.func f),args,ts⟩,ty,pos,af,g⟩ sk acc (dR b s F m::Z):=
 xM [dR b s F m] Z (hc b m) hv hi (Jo _) hg (fun c L1 ⟨_,h2⟩ _=>by subst h2;exact hK) fun c L1 ⟨h1,h2⟩=>by subst h1;subst h2;exact h
theorem t8 {n:Int} (h:DA Tryz.prog l fr fin sk ((k,aF (dr s n m).1)::acc) (dR b s F (dr s n m).2::Z)) (hv:eA (cB l.toArray acc fr af.toList) args.toList=some [Dy b,aF n]:=by rfl) (hs:s.length≤1000000:=by assumption) (hn:0 < n∧n≤1000000:=by omega) (hg:iX ⟨dd,.call ⟨.value (.func 89),args,ts⟩,ty,pos,af,g⟩ acc:=by first | trivial | rfl):cK Tryz.prog l fr fin k .e ⟨dd,.call ⟨.value (.func 89),args,ts⟩,ty,pos,af,g⟩ sk acc (dR b s F m::Z):=
 It (oh s hs F n hn) h hv rfl hg
theorem eF {n:Int} (hK:eN fin.gs (dR b s F (dr s n m).2::Z)) (h:DA Tryz.prog l fr fin sk ((k,aF (dr s n m).1)::acc) (dR b s F (dr s n m).2::Z)) (hv:eA (cB l.toArray acc fr af.toList) args.toList=some [Dy b,aF n]:=by rfl) (hs:s.length≤1000000:=by assumption) (hn:0 < n∧n≤1000000:=by omega) (hg:iX ⟨dd,.call ⟨.value (.func 89),args,ts⟩,ty,pos,af,g⟩ acc:=by first | trivial | rfl):cK Tryz.prog l fr fin k .f ⟨dd,.call ⟨.value (.func 89),args,ts⟩,ty,pos,af,g⟩ sk acc (dR b s F m::Z):=
 s4 (oh s hs F n hn) hK h hv rfl hg
end
end Go.Proofs.YtpmdfoaadejmkaaGreatDoor
namespace Go.Proofs.YtpmdfoaadejmkaaGreatDoor
open Go.RowKit
attribute [local irreducible] AT bI AX AO Av Kt bi dx DA cK
variable (s:List Int) (hs:s.length≤1000000) (F:MF)
include hs
theorem co (a:Nat) {n:Int} (hn:0 < n):0≤ta s a n∧ta s a n < n:=by
 have _:=hs
 clear hs
 unfold ta
 split
 ·rename_i x _
  exact ⟨Int.emod_nonneg x (by omega),Int.emod_lt_of_pos x hn⟩
 ·omega
def HW (o:List eE×List Int):AV:= .agg [.imm 3 (o.1.map dA),.imm 1 (aX o.2)]
def jv (l:List g7):AV:= .imm 2 (l.map eT)
set_option maxHeartbeats 8000000 in
theorem x5 (n fn:Int) (hn:0≤n∧n≤10000) (hf:fn≤10000):rA 174 [aF n,aF fn] s F (cE s n fn) jv:=by
 intro b m
 refine aM Tryz.func174 rfl Tryz.ntmps174 rfl fun B=>?_
 repeat' (first|refine Ji ?_|refine JF a5 H6 ?_|(apply aS;refine aR ?_)|fail)
 refine cC ?_
 repeat' (first|refine Ji ?_|refine JF a5 H6 ?_|(apply aS;refine aR ?_)|fail)
 refine cC ?_
 repeat' (first|refine Ji ?_|refine JF a5 H6 ?_)
 refine cC ?_
 repeat' (first|refine Ji ?_|refine JF a5 H6 ?_)
 refine cC ?_
 generalize e1:dr s (n+1) m=p1
 generalize e2:dr s (n+1) p1.2=p2
 generalize e3:dr s 2 p2.2=p3
 have hk:=co s hs p3.2.a (n:=12) (by omega)
 have hk:0≤(dr s 12 p3.2).1∧(dr s 12 p3.2).1 < 12:=hk
 generalize e4:dr s 12 p3.2=p4 at hk ⊢
 repeat' (first|refine Ji ?_|refine am ?_|refine JF a5 H6 ?_)
 refine ar rfl (fun h=>?_) (fun h=>?_)
 ·have h:=Jy h
  repeat' (first|refine Ji ?_|refine JF a5 H6 ?_|refine bM a5 ?_|fail)
  exact JL H6 ⟨by simp [cE,c8,ret,e1,e2,e3,e4,jv,eT,h],by simp [cE,c8,ret,e1,e2,e3,e4,h]⟩
 have h0:=Jx h
 clear h
 repeat' (first|refine Ji ?_|refine JF a5 H6 ?_)
 refine ar rfl (fun h=>?_) (fun h=>?_)
 ·have h:=Jy h
  repeat' (first|refine Ji ?_|refine JF a5 H6 ?_)
  refine cC ?_
  repeat' (first|refine Ji ?_|refine JF a5 H6 ?_|refine bM a5 ?_|fail)
  exact JL H6 ⟨by simp [cE,c8,ret,e1,e2,e3,e4,jv,eT,h],by simp [cE,c8,ret,e1,e2,e3,e4,h]⟩
 have h1:=Jx h
 clear h
 repeat' (first|refine Ji ?_|refine JF a5 H6 ?_)
 refine ar rfl (fun h=>?_) (fun h=>?_)
 ·have h:=Jy h
  rw [decide_eq_true h]
  repeat' (first|refine Ji ?_|refine JF a5 H6 ?_|refine bM a5 ?_|refine bC rfl ?_)
  exact JL H6 ⟨by simp [cE,c8,ret,e1,e2,e3,e4,jv,eT,h],by simp [cE,c8,ret,e1,e2,e3,e4,h]⟩
 have h2:=Jx h
 clear h
 repeat' (first|refine Ji ?_|refine JF a5 H6 ?_)
 refine ar rfl (fun h=>?_) (fun h=>?_)
 ·have h:=Jy h
  repeat' (first|refine Ji ?_|refine JF a5 H6 ?_|refine bM a5 ?_|fail)
  exact JL H6 ⟨by simp [cE,c8,ret,e1,e2,e3,e4,jv,eT,h],by simp [cE,c8,ret,e1,e2,e3,e4,h]⟩
 have h3:=Jx h
 clear h
 repeat' (first|refine Ji ?_|refine JF a5 H6 ?_)
 refine ar rfl (fun h=>?_) (fun h=>?_)
 ·have h:=Jy h
  repeat' (first|refine Ji ?_|refine JF a5 H6 ?_)
  refine cC ?_
  have hz:=co s hs p4.2.a (n:=200) (by omega)
  have hz:0≤(dr s 200 p4.2).1∧(dr s 200 p4.2).1 < 200:=hz
  repeat' (first|refine Ji ?_|refine JF a5 H6 ?_|(apply aS;refine aR ?_)|refine bM a5 ?_|fail)
  exact JL H6 ⟨by simp [cE,c8,ret,e1,e2,e3,e4,jv,eT,h],by simp [cE,c8,ret,e1,e2,e3,e4,h]⟩
 have h4:=Jx h
 clear h
 repeat' (first|refine Ji ?_|refine JF a5 H6 ?_)
 refine ar rfl (fun h=>?_) (fun h=>?_)
 ·have h:=Jy h
  repeat' (first|refine Ji ?_|refine JF a5 H6 ?_|refine bM a5 ?_|fail)
  exact JL H6 ⟨by simp [cE,c8,ret,e1,e2,e3,e4,jv,eT,h],by simp [cE,c8,ret,e1,e2,e3,e4,h]⟩
 have h5:=Jx h
 clear h
 repeat' (first|refine Ji ?_|refine JF a5 H6 ?_)
 refine ar rfl (fun h=>?_) (fun h=>?_)
 ·have h:=Jy h
  repeat' (first|refine Ji ?_|refine JF a5 H6 ?_|refine bM a5 ?_|fail)
  exact JL H6 ⟨by simp [cE,c8,ret,e1,e2,e3,e4,jv,eT,h],by simp [cE,c8,ret,e1,e2,e3,e4,h]⟩
 have h6:=Jx h
 clear h
 repeat' (first|refine Ji ?_|refine JF a5 H6 ?_)
 refine ar rfl (fun h=>?_) (fun h=>?_)
 ·have h:=Jy h
  repeat' (first|refine Ji ?_|refine JF a5 H6 ?_|refine bM a5 ?_|fail)
  exact JL H6 ⟨by simp [cE,c8,ret,e1,e2,e3,e4,jv,eT,h],by simp [cE,c8,ret,e1,e2,e3,e4,h]⟩
 have h7:=Jx h
 clear h
 repeat' (first|refine Ji ?_|refine JF a5 H6 ?_)
 refine ar rfl (fun h=>?_) (fun h=>?_)
 ·have h:=Jy h
  repeat' (first|refine Ji ?_|refine JF a5 H6 ?_)
  refine ar rfl (fun hf0=>?_) (fun hf0=>?_)
  ·have hf0:=Jy hf0
   repeat' (first|refine Ji ?_|refine JF a5 H6 ?_)
   refine cC ?_
   repeat' (first|refine Ji ?_|refine JF a5 H6 ?_|refine bM a5 ?_|fail)
   exact JL H6 ⟨by simp [cE,c8,ret,e1,e2,e3,e4,jv,eT,h,hf0],by simp [cE,c8,ret,e1,e2,e3,e4,h,hf0]⟩
  ·have hf0:=Jx hf0
   repeat' (first|refine Ji ?_|refine JF a5 H6 ?_|refine bM a5 ?_|fail)
   exact JL H6 ⟨by simp [cE,c8,ret,e1,e2,e3,e4,jv,eT,gJ,h,hf0],by simp [cE,c8,ret,e1,e2,e3,e4,gJ,h,hf0]⟩
 have h8:=Jx h
 clear h
 repeat' (first|refine Ji ?_|refine JF a5 H6 ?_)
 refine ar rfl (fun h=>?_) (fun h=>?_)
 ·have h:=Jy h
  by_cases hf0:0 < fn
  ·repeat' (first|refine Ji ?_|refine JF a5 H6 ?_)
   rw [decide_eq_true hf0]
   repeat' (first|refine Ji ?_|refine JF a5 H6 ?_|refine JN H6 ?_|(apply bE;first|refine JI a5 0 JC ?_|refine JI a5 1 JC ?_|refine JI a5 2 JC ?_|refine JI a5 3 JC ?_|refine JJ a5 0 JC ?_|refine JJ a5 1 JC ?_|refine JJ a5 2 JC ?_|refine JK a5 1 JA (by assumption) rfl ?_|refine JK a5 0 JA (by assumption) rfl ?_|fail)|fail)
   refine ar rfl (fun hl=>?_) (fun hl=>?_)
   ·have hl:=Jy hl
    repeat' (first|refine Ji ?_|refine JF a5 H6 ?_|(apply bE;first|refine JI a5 0 JC ?_|refine JI a5 1 JC ?_|refine JI a5 2 JC ?_|refine JI a5 3 JC ?_|refine JJ a5 0 JC ?_|refine JJ a5 1 JC ?_|refine JJ a5 2 JC ?_|refine JK a5 1 JA (by assumption) rfl ?_|refine JK a5 0 JA (by assumption) rfl ?_|fail)|(apply aS;refine aR ?_)|(apply aK;first|refine JG a5 0 JD ?_|refine JG a5 1 JD ?_|refine JG a5 2 JD ?_|refine JG a5 3 JD ?_|fail))
    have hlt:=p4.2.lo.isLt
    have hlz:0 < p4.2.lo.val:=by omega
    have hcell:((p4.2.lo.val:Nat):Int) - 1=((p4.2.lo.val - 1:Nat):Int):=by omega
    rw [hcell]
    change bI _ _ _ _ _ _ _ _ _ [dR b s F (HH p4.2).2]
    repeat' (first|fail)
    refine cC ?_
    repeat' (first|refine JF a5 H6 ?_)
    refine cC ?_
    repeat' (first|refine Ji ?_|refine JF a5 H6 ?_|refine bM a5 ?_|fail)
    exact JL H6 ⟨by simp [cE,c8,ret,e1,e2,e3,e4,jv,eT,h,hf0,qG,hlz],by simp [cE,c8,ret,e1,e2,e3,e4,h,hf0,qG,hlz]⟩
   ·have hl:=Jx hl
    have hl0:p4.2.lo.val=0:=by omega
    repeat' (first|refine Ji ?_|refine JF a5 H6 ?_|refine bM a5 ?_|fail)
    exact JL H6 ⟨by simp [cE,c8,ret,e1,e2,e3,e4,jv,eT,gJ,h,hf0,qG,hl0],by simp [cE,c8,ret,e1,e2,e3,e4,gJ,h,hf0,qG,hl0]⟩
  ·repeat' (first|refine Ji ?_|refine JF a5 H6 ?_)
   rw [decide_eq_false hf0]
   repeat' (first|refine Ji ?_|refine JF a5 H6 ?_|refine JO JB ?_|refine bM a5 ?_|refine bA rfl ?_)
   exact JL H6 ⟨by simp [cE,c8,ret,e1,e2,e3,e4,jv,eT,gJ,h,hf0],by simp [cE,c8,ret,e1,e2,e3,e4,gJ,h,hf0]⟩
 have h9:=Jx h
 clear h
 repeat' (first|refine Ji ?_|refine JF a5 H6 ?_)
 refine ar rfl (fun h=>?_) (fun h=>?_)
 ·have h:=Jy h
  repeat' (first|refine Ji ?_|refine JF a5 H6 ?_|refine bM a5 ?_|fail)
  exact JL H6 ⟨by simp [cE,c8,ret,e1,e2,e3,e4,jv,eT,h],by simp [cE,c8,ret,e1,e2,e3,e4,h]⟩
 have h10:=Jx h
 clear h
 repeat' (first|refine Ji ?_|refine JF a5 H6 ?_|refine bM a5 ?_|fail)
 exact JL H6 ⟨by simp [cE,c8,ret,e1,e2,e3,e4,jv,eT,gJ,h0,h1,h2,h3,h4,h5,h6,h7,h8,h9,h10],by simp [cE,c8,ret,e1,e2,e3,e4,gJ,h0,h1,h2,h3,h4,h5,h6,h7,h8,h9,h10]⟩
end Go.Proofs.YtpmdfoaadejmkaaGreatDoor
