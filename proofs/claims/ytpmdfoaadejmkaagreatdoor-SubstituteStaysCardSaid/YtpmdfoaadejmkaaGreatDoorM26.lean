/-
  What is shown at the head of all laws.
-/
import Derived.Test.YtpmdfoaadejmkaaGreatDoorM25
import Derived.Test.YtpmdfoaadejmkaaGreatDoorM05
import Derived.Test.YtpmdfoaadejmkaaGreatDoorM12
import Derived.Test.YtpmdfoaadejmkaaGreatDoorM23
namespace Go.Proofs.YtpmdfoaadejmkaaGreatDoor
open Go.RowKit
attribute [local irreducible] AT bv AX AO Av Kt b9 dh DA cE
def B8 (ls:List aN):Bool:=ls.all (x6 5) && (decide (ls.length≤1000000) && Br ls)
theorem B9 {ls:List aN} (h:B8 ls=true):AC Tryz.prog 15 [cR (fp ls)] [] fun c _=>∃E,ki E∧xz (.iptr (dp E)) (da jM ls)∧c= .tup [.iptr (dp E),aF 0]:=by
 unfold B8 Br at h
 simp only [Bool.and_eq_true,decide_eq_true_eq] at h
 refine AC.mono (yQ h.1 h.2.1 (uw h.2.2)) fun c L ⟨E,h1,h2,h3,h4⟩=>⟨E,h1,?_,h4⟩
 have:=Fp h1
 rwa [h2,h3] at this
theorem z9:B8 Ck=true:=by decide+kernel
theorem za:decide ((mL (da jM Ck) [0,1] [] (eL [0,1,0])).map aM.Glyph=[3,0])=true:=by decide+kernel
theorem Cl:AC Tryz.prog 13 [] [cM] fun c L=>c=ec true∧L=[cM]:=by
 refine aL Tryz.func13 rfl Tryz.ntmps13 rfl fun B=>?_
 repeat' (first|refine IT ?_|refine IF a5 G9 ?_|refine bH a5 ?_|fail)
 refine aX [] _ (AC.args (yP Ck) ?_) rfl rfl (Jt _) rfl fun c L1 hc=>?_
 ·repeat' first | exact cx.refl _ | exact cx.nil _ | exact True.intro | refine cx.agg ?_ | refine cx.imm ?_ | refine And.intro ?_ ?_
 subst hc
 refine aJ (bO (List.sublist_append_right ..)) ?_
 repeat' (first|refine IT ?_|refine IF a5 G9 ?_|(apply aK;first|refine IH 1 a5 0 IE ?_|refine IH 1 a5 1 IE ?_|refine IH 1 a5 2 IE ?_|refine IG a5 0 ID ?_|refine IG a5 1 ID ?_|refine IG a5 2 ID ?_|refine IG a5 3 ID ?_|fail)|refine bi a5 fun _=>?_|fail)
 refine aX [] _ (B9 z9) rfl rfl (Jt _) rfl fun c L1 hc=>?_
 obtain ⟨E,hE,hA,rfl⟩:=hc
 refine aJ (bO (List.sublist_append_right ..)) ?_
 repeat' (first|refine IT ?_|refine IF a5 G9 ?_|refine IM G9 ?_)
 refine c7 [2] False rfl (fun Q' K=>?_) (fun hC=>hC.elim) (fun _=>?_)
 ·repeat' (first|fail)
  refine nC Tryz.underlying34 rfl rfl rfl rfl ?_
  repeat' (first|refine IT ?_|refine IF a5 G9 ?_)
  exact K _ _ rfl rfl (by simp)
 repeat' (first|refine IT ?_|refine IF a5 G9 ?_|refine bH a5 ?_|fail)
 refine aX [] _ (yt [0,1,0] (by decide)) rfl rfl (Jt _) rfl fun c L1 hc=>?_
 subst hc
 refine aJ (bO (List.sublist_append_right ..)) ?_
 repeat' (first|fail)
 refine aX [cM] [] (AC.args (xl (dp E) hA [0,1] [] (eL [0,1,0]) (by decide)) (a:=[.iptr (dp E),.imm 1 (aT [0,1]),.sc (.slice none 0 0),.imm 6 ((eL [0,1,0]).map bz)]) ⟨cx.refl _,cx.refl _,cx.nil 1,cx.refl _,trivial⟩) rfl rfl (Jt _) rfl fun c L1 ⟨hc,hL⟩=>?_
 subst hc;subst hL
 repeat' (first|refine bH a5 ?_|fail)
 refine aX [] _ (vM _ [3,0] (by decide)) rfl rfl (Jt _) rfl fun c L1 hc=>?_
 subst hc
 rw [za]
 refine aJ (bO (List.sublist_append_right ..)) ?_
 repeat' (first|refine IT ?_|refine IF a5 G9 ?_)
 exact IL G9 ⟨rfl,rfl⟩
def xj (m k:Nat):List Int:=(List.range k).map fun (j:Nat)=>if j=m then (1:Int) else 0
def DZ (m k:Nat):List Int:=(List.range k).map fun (j:Nat)=>if (m:Int) - 1≤(j:Int) then (1:Int) else 0
def Hk (m:Nat):Bool:=decide ((da jM DY 0 (eL (xj m (m+1))) []).map aM.Glyph=List.replicate (m+1) 1) && decide ((da jM DY 1 (eL (xj m (m+1))) []).map aM.Glyph=DZ m (m+1))
def mo (x:aM):List Int:=[x.Glyph,x.Cluster,x.Form,x.Advance,x.X,x.Y]
theorem rA {a b:aM} (h:mo a=mo b):a=b:=by
 cases a;cases b
 simpa [mo] using h
instance:DecidableEq aM:=fun a b=>decidable_of_iff (mo a=mo b) ⟨rA,fun h=>by rw [h]⟩
theorem yr:wy Tryz.prog 67 6:=⟨⟨_,Tryz.underlying67,rfl,⟨by decide,rfl,Tryz.underlying3⟩,⟨by decide,rfl,Tryz.underlying3⟩,⟨by decide,rfl,Tryz.underlying3⟩,⟨by decide,rfl,Tryz.underlying3⟩,⟨by decide,rfl,Tryz.underlying3⟩,⟨by decide,rfl,Tryz.underlying3⟩,trivial⟩,by kernel_rfl,by kernel_rfl⟩
theorem Cd (a b:List aM) (ha:a.length≤1000000):bN Tryz.prog 17 [.imm 6 (a.map bz),.imm 6 (b.map bz)] (ec (decide (a=b))):=by
 refine aL Tryz.func17 rfl Tryz.ntmps17 rfl fun B=>?_
 have hal:(a.map bz).length=a.length:=Jz ..
 have hbl:(b.map bz).length=b.length:=Jz ..
 repeat' (first|refine IT ?_|refine IF a5 G9 ?_)
 refine ar rfl (fun h1=>?_) (fun h1=>?_)
 ·have hne:¬a.length=b.length:=by have:=Iy h1;omega
  rw [decide_eq_false (fun e:a=b=>hne (by rw [e]))]
  repeat' (first|refine IT ?_|refine IF a5 G9 ?_)
  exact IN IA
 ·have heq:a.length=b.length:=by have:=Ix h1;omega
  clear h1
  repeat' (first|refine IT ?_|refine am ?_|refine IF a5 G9 ?_)
  refine aO [0,1] (α:=Nat) (fun i=>[(5,aF i)]) (fun i=>i≤a.length∧a.take i=b.take i) (fun _=>[]) (fun i=>a.length - i) 0 rfl ⟨rfl,trivial⟩ ⟨Nat.zero_le _,rfl⟩ (fun _ _ h=>h) ?_
  rintro i ⟨hi,hti⟩
  try dsimp only [Jx,Jw,Jv,Jq]
  repeat' (first|refine IT ?_|refine IF a5 G9 ?_)
  refine ar rfl (fun h1=>?_) (fun h1=>?_)
  ·have hi2:i < a.length:=by have:=Iy h1;omega
   obtain ⟨g,hg⟩:∃z,a[i]?=some z:=⟨_,Iz hi2⟩
   obtain ⟨x,hx⟩:∃z,b[i]?=some z:=⟨_,Iz (by omega)⟩
   have hgg:(a.map bz)[i]?=some (bz g):=by simp [hg]
   have hxg:(b.map bz)[i]?=some (bz x):=by simp [hx]
   clear h1
   repeat' (first|refine IT ?_|refine am ?_)
   refine bA 8 [(0,.v),(1,.v),(2,.v),(3,.v),(4,.v),(5,.v),(6,.v),(7,.v)] none ?_ trivial rfl (by kernel_rfl) (by kernel_rfl) (by kernel_rfl) bU (by kernel_rfl) rfl
   repeat' (first|refine aD ?_|refine b8 a5 ?_|(apply cB;refine cT a5 ?_)|fail)
   refine IQ [0,1,5,20,24] G9 ?_
   refine c9 (Ff (a:=mo g) (b:=mo x) yr rfl rfl rfl rfl) rfl rfl ?_
   repeat' (first|refine IT ?_|fail)
   refine ar rfl (fun h1=>?_) (fun h1=>?_)
   ·have hne:¬mo g=mo x:=by
     intro e
     rw [decide_eq_true e] at h1
     cases h1
    rw [decide_eq_false (fun e:a=b=>hne (by rw [e,hx] at hg;cases hg;rfl))]
    repeat' (first|refine IT ?_|refine IF a5 G9 ?_)
    exact IN IA
   ·have hgx:g=x:=by
     refine rA (Classical.byContradiction fun e=>?_)
     rw [decide_eq_false e] at h1
     cases h1
    repeat' (first|refine IT ?_|refine IF a5 G9 ?_|(apply aV;refine aU ?_)|fail)
    exact aC (i+1) rfl ⟨by rw [Iv];rfl,trivial⟩ ⟨hi2,by rw [List.take_add_one,List.take_add_one,hti,hg,hx,hgx]⟩ (by omega) (fun _ _ h=>h)
  ·have hi2:i=a.length:=by have:=Ix h1;omega
   subst hi2
   rw [List.take_length,heq,List.take_length] at hti
   rw [decide_eq_true hti]
   repeat' (first|refine IT ?_|refine IF a5 G9 ?_)
   exact IN IA
def mp (v:Int):Int:=bits .and .i64 v 65535
def FF (g:Int) (i:Nat) (v:Int):aM:=⟨(mp v).tmod (max g 1+1),i,(IntKind.wrap .i64 ((mp v).tdiv 16)).tmod 5,IntKind.wrap .i64 ((mp v).tdiv 7),0,0⟩
def gP (g:Int):Nat→List Int→List aM
 | _,[]=>[]
 | i,v::l=>FF g i v::gP g (i+1) l
def mq (g:Int) (l:List Int):List aM:=gP g 0 (l.take 60)
theorem pH (g:Int):∀(l:List Int) (i:Nat) (v:Int),gP g i (l++[v])=gP g i l++[FF g (i+l.length) v]
 | [],i,v=>rfl
 | x::l,i,v=>by
  rw [Jx,gP,pH g l (i+1) v,gP,Jx,List.length_cons,show i+1+l.length=i+(l.length+1) by omega]
theorem ny (g:Int):∀(l:List Int) (i:Nat),(gP g i l).length=l.length
 | [],_=>rfl
 | x::l,i=>by rw [gP,List.length_cons,ny g l,List.length_cons]
theorem Bj (l:List Int) (g:Int) (hg:0≤g∧g≤1000000000):bN Tryz.prog 16 [.imm 1 (aT l),aF g] (.imm 6 ((mq g l).map bz)):=by
 refine aL Tryz.func16 rfl Tryz.ntmps16 rfl fun B=>?_
 refine cJ 0 rfl rfl fun hl=>?_
 have hil:=b6 l
 repeat' (first|refine IT ?_|refine am ?_|refine IF a5 G9 ?_|(apply aV;refine aU ?_)|refine rG (n:=0) a5 fun _=>?_|fail)
 refine aO [0,6] (α:=Nat×Option (Nat×Nat)) (fun s=>[(7,aF s.1),(5,.vec s.2 6 ((gP g 0 (l.take s.1)).map bz))]) (fun s=>s.1≤l.length∧s.1≤60) (fun s=>tok s.2 67 6 s.1) (fun s=>l.length - s.1) (0,some (_,0)) rfl ⟨rfl,rfl,trivial⟩ ⟨Nat.zero_le _,Nat.zero_le _⟩ (fun _ _ h=>h) ?_
 rintro ⟨i,q⟩ ⟨hi,hi60⟩
 dsimp only at hi hi60 ⊢
 try dsimp only [Jx,Jw,Jv,Jq]
 repeat' (first|refine IT ?_|refine IF a5 G9 ?_)
 refine c7 [0,5,6,7] (i < l.length∧i < 60) rfl (fun Q' K=>?_) (fun hC=>?_) (fun hC=>?_)
 ·repeat' (first|refine IT ?_|refine IF a5 G9 ?_|refine IM G9 ?_|refine IP IB ?_|refine IR IA (fun _=>?_) (fun _=>?_))
  all_goals exact K _ _ rfl rfl (by simp_all <;> omega)
 ·obtain ⟨v,hv⟩:∃z,l[i]?=some z:=⟨_,Iz hC.1⟩
  have hgg:=bR hv
  repeat' (first|refine IT ?_|refine am ?_|refine IF a5 G9 ?_|(apply aS;first|refine aQ a5 ?_|refine aG a5 ?_)|fail)
  refine pX rfl rfl rfl ?_
  rw [show bits .and .i64 v 65535=mp v from rfl]
  repeat' (first|refine IT ?_|refine IF a5 G9 ?_)
  refine c9 (zO rfl rfl (by omega)) rfl rfl ?_
  repeat' (first|refine IF a5 G9 ?_)
  refine c9 (wG rfl rfl (by decide)) rfl rfl ?_
  repeat' (first|fail)
  refine c9 (zO rfl rfl (by decide)) rfl rfl ?_
  repeat' (first|refine IF a5 G9 ?_)
  refine c9 (wG rfl rfl (by decide)) rfl rfl ?_
  have hml:((gP g 0 (l.take i)).map bz).length=i:=by rw [Jz,ny,List.length_take];omega
  have hsn:(gP g 0 (l.take i)).map bz++[bz (FF g i v)]=(gP g 0 (l.take (i+1))).map bz:=by
   rw [List.take_add_one,hv]
   show _=(gP g 0 (l.take i++[v])).map bz
   rw [pH,List.map_append,List.length_take,Nat.min_eq_left (by omega),Nat.zero_add]
   rfl
  generalize (gP g 0 (l.take i)).map bz=A0 at *
  repeat' (first|refine IF a5 G9 ?_|refine bH a5 ?_|fail)
  refine bM a5 [] rfl rfl rfl rfl (by rw [hml,List.append_nil]) (by rw [hml];simp;omega) (by rw [hml];simp;omega) rfl fun q'=>?_
  repeat' (first|refine IT ?_|refine IF a5 G9 ?_|(apply aV;refine aU ?_)|fail)
  refine aC (i+1,q') rfl ⟨by rw [Iv];rfl,by dsimp only;rw [←hsn];rfl,trivial⟩ ⟨hC.1,hC.2⟩ (by dsimp only;omega) (fun _ _ h=>?_)
  rw [List.length_append,hml,List.append_nil] at h
  exact h
 ·have hw:l.take i=l.take 60:=by
   rcases Nat.lt_or_ge i 60 with h | h
   ·have:i=l.length:=by omega
    rw [List.take_of_length_le (by omega),List.take_of_length_le (by omega)]
   ·rw [show i=60 by omega]
  repeat' (first|refine IT ?_|refine IF a5 G9 ?_)
  refine bh (bS (t:=4) (c':= .imm 6 ((mq g l).map bz)) rfl fun σ v h=>?_) ?_
  ·have h':=VR.im h
   rw [hw] at h'
   exact h'
  refine eP (List.nil_sublist _) ?_
  exact IN IA
end Go.Proofs.YtpmdfoaadejmkaaGreatDoor
namespace Go.Proofs.YtpmdfoaadejmkaaGreatDoor
structure MS where
 a:Nat
 lo:Fin 3
abbrev DM (α:Type):=MS→α×MS
section
variable {α β:Type}
def ret (x:α):DM α:=fun m=>(x,m)
def bX (g:DM α) (k:α→DM β):DM β:=fun m=>k (g m).1 (g m).2
def gG (g:Nat→β→DM β) (b:β):Nat→DM β
 | 0=>ret b
 | k+1=>bX (gG g b k) (g k)
end
def sj (s:List Int) (a:Nat) (n:Int):Int:=match s[a]? with
 | some x=>x % n
 | none=>0
def dr (s:List Int) (n:Int):DM Int:=fun m=>(sj s m.a n,{ m with a:=m.a+1 })
def GM:DM Unit:=fun m=>((),{ m with lo:=⟨m.lo.val - 1,Nat.lt_of_le_of_lt (Nat.sub_le ..) m.lo.isLt⟩ })
def gD (z:Fin 3):DM Unit:=fun m=>((),{ m with lo:=z })
def pK:DM Int:=fun m=>((m.lo.val:Int),m)
section
variable (s:List Int)
def EO (p:Nat):DM er:=bX (dr s 21) fun x=>bX (dr s 21) fun y=>if p=0 then ret ⟨x * 50 - 100,y * 50 - 200,true⟩ else bX (dr s 4) fun z=>ret ⟨x * 50 - 100,y * 50 - 200,decide (0 < z)⟩
def nG (l:List er) (k:Nat):DM (List er):=gG (fun p l=>bX (EO s p) fun t=>ret (l++[t])) l k
def gT (n:Nat):DM (List er×List Int):=gG (fun _ o=>bX (dr s 4) fun k=>bX (nG s o.1 (2+k).toNat) fun l=>ret (l,o.2++[(l.length:Int) - 1])) ([],[]) n
def je:DM (List er×List Int):=bX (dr s 3) fun n=>gT s n.toNat
def gw (q:Int):DM (List fP):=ret [⟨39,0⟩,⟨1,16⟩,⟨17,0⟩,⟨36,2⟩,⟨1,q⟩,⟨2,0⟩]
def cy (n funcs:Int):DM (List fP):=bX (dr s (n+1)) fun p=>bX (dr s (n+1)) fun q=>bX (dr s 2) fun a=>bX (dr s 12) fun k=>
 if k=0 then ret [⟨22,a⟩,⟨23,a⟩]
 else if k=1 then bX (dr s 6) fun z=>ret [⟨24,z⟩]
 else if k=2∨k=3 then ret [⟨1,p⟩,⟨1,p⟩,⟨29,0⟩,⟨15,0⟩,⟨32,0⟩]
 else if k=4 then bX (dr s 200) fun z=>ret [⟨1,p⟩,⟨1,z - 100⟩,⟨31,0⟩]
 else if k=5 then ret [⟨1,p⟩,⟨1,q⟩,⟨33,0⟩]
 else if k=6 then ret [⟨34,a⟩]
 else if k=7 then ret [⟨1,a⟩,⟨1,q⟩,⟨25,0⟩,⟨1,3⟩,⟨5,0⟩,⟨26,0⟩]
 else if k=8 then (if 0 < funcs then bX (dr s funcs) fun z=>ret [⟨37,z⟩] else gw q)
 else if k=9 then (if 0 < funcs then bX pK fun lo=>if 0 < lo then bX GM fun _=>bX (dr s 5) fun y=>bX (dr s funcs) fun z=>ret [⟨1,y⟩,⟨38,z⟩] else gw q else gw q)
 else if k=10 then ret [⟨1,p⟩,⟨30,0⟩,⟨1,q⟩,⟨29,0⟩,⟨16,0⟩,⟨36,3⟩,⟨1,q⟩,⟨1,64⟩,⟨31,0⟩]
 else gw q
def fi (n funcs:Int) (k:Nat):DM (List fP):=gG (fun _ l=>bX (cy s n funcs) fun p=>ret (l++p)) [] k
def mn (n funcs most:Int):DM (List fP):=bX (dr s most) fun k=>fi s n funcs k.toNat
def f3 (a:Int) (k:Nat):DM (List Int):=gG (fun j l=>if l.length < 4 then bX (dr s 3) fun z=>ret (if z=0 then l++[a+1+j] else l) else ret l) [a] k
def mM (n:Int):DM (List Int):=bX (dr s n) fun a=>f3 s a (n - (a+1)).toNat
def gU (n:Int) (k:Nat):DM (List (List Int)):=gG (fun _ l=>bX (mM s n) fun x=>ret (l++[x])) [] k
def oF (n most:Int):DM (List (List Int)):=bX (dr s (most+1)) fun k=>gU s n k.toNat
def fR (n:Int) (k:Nat):DM (List Int):=gG (fun _ l=>bX (dr s n) fun x=>ret (l++[x])) [] k
def eU (n:Int) (calls:List Int) (k:Nat):DM (List gO):=gG (fun _ l=>bX (dr s n) fun a=>bX (dr s calls.length) fun z=>ret (l++[⟨a,calls.getD z.toNat 0⟩])) [] k
def EN (n:Int) (a:List Int):DM bb:=bX (mM s n) fun b=>bX (dr s 41) fun x=>ret ⟨[],[a,b],[],[],[],x * 10 - 200⟩
def iS (n:Int):DM (List (List Int)×List (List Int)):=bX (dr s 2) fun z=>if z=0 then bX (oF s n 2) fun b=>bX (oF s n 2) fun c=>ret (b,c) else ret ([],[])
def gm (n kind:Int) (calls:List Int):DM bb:=bX (mM s n) fun a=>if kind=6 then EN s n a else bX (iS s n) fun e=>
 if kind=1∨kind=5 then bX (fR s n a.length) fun o=>ret ⟨e.1,[a],e.2,o,[],0⟩
 else if kind=2 then bX (dr s 4) fun k=>bX (fR s n k.toNat) fun o=>ret ⟨e.1,[a],e.2,o,[],0⟩
 else if kind=3 then bX (oF s n 2) fun m=>bX (dr s n) fun o=>ret ⟨e.1,a::m,e.2,[o],[],0⟩
 else bX (oF s n 2) fun m=>bX (dr s 3) fun k=>bX (eU s (a::m).length calls (if calls.length=0 then 0 else k.toNat)) fun c=>ret ⟨e.1,a::m,e.2,[],c,0⟩
def fm:List Int:=[1,2,3,4,4,5,6,7,8,1]
def dW (k:Nat):DM (List aN×List Int):=gG (fun i o=>bX (dr s 10) fun z=>bX (dr s 3) fun y=>ret (o.1++[⟨fm.getD z.toNat 0,decide (y=0),[]⟩],if fm.getD z.toNat 0≤4 then o.2++[(i:Int)] else o.2)) ([],[]) k
def eM (n kind:Int) (calls:List Int) (k:Nat):DM (List bb):=gG (fun _ l=>bX (gm s n kind calls) fun r=>ret (l++[r])) [] k
def eX (n:Int) (calls:List Int) (l:List aN) (k:Nat):DM (List aN):=gG (fun i l=>match l[i]? with
 | none=>ret l
 | some q=>if q.Kind≥7 then ret l else bX (dr s 3) fun k=>bX (eM s n q.Kind calls (1+k).toNat) fun rs=>ret (l.set i { q with Rules:=rs })) l k
def ip (n:Int):DM (List aN):=bX (dr s 7) fun k=>bX (dW s k.toNat) fun o=>eX s n o.2 o.1 k.toNat
def bytes (l:List UInt8):ByteArray:=⟨l.toArray⟩
def iQ (p:List UInt8) (n:Nat):ByteArray:=bytes (p++[(97+n).toUInt8])
def I3:List UInt8:=[103]
def tz:List UInt8:=[97,120]
def BP:ByteArray:=bytes [46,110,111,116,100,101,102]
def cD (n:Nat):ByteArray:=if n=0 then BP else iQ I3 n
def iw (n:Nat):DM (List dC):=if 1 < n then bX (dr s 4) fun z=>if z=0 then bX (dr s 9) fun x=>bX (dr s 5) fun y=>ret [⟨1,x * 50 - 200,y * 50⟩] else ret [] else ret []
def fU (cl:Int):List (Int×Int):=[(1,0),(1,1),(3,0),(4,0),(2,cl)]
def eB (mark:Bool) (cl:Int) (k:Nat):DM (List di):=gG (fun i l=>bX (dr s 3) fun z=>if z=0∧(((fU cl).getD i (0,0)).1≠2∨mark=true) then bX (dr s 21) fun x=>bX (dr s 21) fun y=>ret (l++[⟨((fU cl).getD i (0,0)).1,((fU cl).getD i (0,0)).2,x * 50,y * 50 - 200⟩]) else ret l) [] k
def gK (r:Nat) (l:List dw) (k:Nat):DM (List dw):=gG (fun p l=>bX (dr s 3) fun z=>if z=0 then bX (dr s 41) fun x=>if p=0 then ret (l++[⟨r,-1,x - 20,0⟩]) else bX (dr s 41) fun y=>ret (l++[⟨r,(p:Int) - 1,x - 20,y - 20⟩]) else ret l) l k
def fW (pts:Nat) (R:Nat):DM (List dw):=gG (fun r l=>gK s r l (pts+1)) [] R
def jI (R fn n:Nat):DM bn:=bX (dr s 19) fun ad=>bX (dr s 4) fun mk=>bX (je s) fun o=>bX (iw s n) fun ps=>bX (dr s 2) fun cl=>bX (eB s (decide (mk=0) && decide (n≠0)) cl 5) fun an=>bX (fW s o.1.length R) fun de=>bX (gD 2) fun _=>bX (mn s o.1.length fn 6) fun h=>ret ⟨cD n,100+ad * 50,decide (mk=0) && decide (n≠0),o.1,o.2,ps,an,de,h⟩
def fY (R fn k:Nat):DM (List bn):=gG (fun i l=>bX (jI s R fn i) fun g=>ret (l++[g])) [] k
def kp (k:Nat):DM (List eh):=gG (fun i l=>bX (dr s 3) fun a=>bX (dr s 4) fun b=>ret (l++[⟨iQ tz i,0 - a * 100,0,b * 100⟩])) [] k
def jS:List eO:=[⟨0,64,64⟩,⟨0,32,64⟩,⟨-64,-64,0⟩,⟨-1,0,5⟩,⟨10,32,50⟩]
def gN (k:Nat):DM (List eO):=gG (fun _ l=>bX (dr s 5) fun z=>ret (l++[jS.getD z.toNat ⟨0,0,0⟩])) [] k
def k6 (axes k:Nat):DM (List (List eO)):=gG (fun _ l=>bX (gN s axes) fun r=>ret (l++[r])) [] k
def fv (axes:Nat):DM (List (List eO)):=if axes=0 then ret [] else bX (dr s 4) fun n=>k6 s axes n.toNat
def ij (k:Nat):DM (List (List fP)):=gG (fun i l=>bX (gD 0) fun _=>bX (mn s 6 i 4) fun h=>ret (l++[h])) [] k
def pu (k:Nat):DM (List Int):=gG (fun _ l=>bX (dr s 500) fun z=>ret (l++[z - 100])) [] k
def fE:List Int:=[97,98,99,102,105,108,57345,57346,57601,57602,57603,57857,57861,58113,58114,58369]
def gJ (n:Int) (k:Nat):DM (List fS):=gG (fun i l=>bX (dr s 4) fun z=>if 0 < z then bX (dr s n) fun g=>ret (l++[⟨fE.getD i 0,g⟩]) else ret l) [] k
def fD:List ByteArray:=[bytes [108,105,103,97],bytes [105,115,111,108],bytes [105,110,105,116],bytes [109,101,100,105],bytes [102,105,110,97],bytes [107,101,114,110],bytes [109,97,114,107],bytes [99,97,108,116]]
def na (k:Nat):DM (List Int):=gG (fun i l=>bX (dr s 3) fun z=>ret (if z=0 then l++[(i:Int)] else l)) [] k
def gL (n:Nat) (k:Nat):DM (List bV):=gG (fun i l=>bX (na s n) fun r=>bX (dr s 2) fun z=>ret (if z=0 then l++[⟨fD.getD i ByteArray.empty,r⟩] else l)) [] k
def lT:List Int:=[1000,1024,100,2048]
def Bu:DM aZ:=bX (dr s 4) fun u=>bX (dr s 3) fun k=>bX (kp s k.toNat) fun ax=>bX (fv s k.toNat) fun rg=>bX (dr s 3) fun k2=>bX (ij s k2.toNat) fun fu=>bX (dr s 4) fun k3=>bX (pu s k3.toNat) fun cv=>bX (dr s 9) fun k4=>bX (fY s rg.length fu.length (2+k4).toNat) fun gl=>bX (gJ s gl.length 16) fun ch=>bX (ip s gl.length) fun lk=>bX (gL s lk.length 8) fun ft=>ret ⟨lT.getD u.toNat 0,gl,ch,lk,ft,ax,rg,fu,cv⟩
def k5:aZ:=(Bu s ⟨0,0⟩).1
def Ha:List Int:=fE++[122]
def I9:List Int:=(s.take 20).map fun z=>Ha.getD (z % 17).toNat 0
end
end Go.Proofs.YtpmdfoaadejmkaaGreatDoor
namespace Go.Proofs.YtpmdfoaadejmkaaGreatDoor
open Go.RowKit
attribute [local irreducible] AT bv AX AO Av Kt b9 dh DA cE
structure MF where
 u:AV
 gl:AV
 ch:AV
 lk:AV
 ft:AV
 ax:AV
 rg:AV
 fu:AV
 cv:AV
def GU (s:List Int) (F:MF) (m:MS):List AV:=[.imm 1 (aT s),aF (min m.a s.length:Nat),F.u,F.gl,F.ch,F.lk,F.ft,F.ax,F.rg,F.fu,F.cv,aF (m.lo.val:Nat)]
abbrev dH (b:Nat) (s:List Int) (F:MF) (m:MS):Nat×AB:=(b,.box (GU s F m) 177)
def qI (f:FuncId) (args:List AV) (s:List Int) (F:MF) {α:Type} (u:DM α) (out:α→AV):Prop:=∀(b:Nat) (m:MS),AC Tryz.prog f (CJ b::args) [dH b s F m] fun c L=>c=out (u m).1∧L=[dH b s F (u m).2]
theorem DX {x n:Int} (hn:0 < n):(x.tmod n+n).tmod n=x % n:=by
 have h0:=Int.lt_tmod_of_pos x hn
 rw [Int.tmod_eq_emod_of_nonneg (by omega),Int.add_emod_right]
 have h2:(x.tmod n) % n=(x - n * x.tdiv n) % n:=by rw [Int.tmod_def]
 rw [h2,Int.sub_mul_emod_self_left]
set_option maxHeartbeats 1000000 in
theorem nD (s:List Int) (hs:s.length≤1000000) (F:MF) (n:Int) (hn:0 < n∧n≤1000000):qI 89 [aF n] s F (dr s n) aF:=by
 intro b m
 refine aL Tryz.func89 rfl Tryz.ntmps89 rfl fun B=>?_
 have hil:=b6 s
 unfold dH
 repeat' (first|refine IT ?_|refine IF a5 G9 ?_)
 refine bA 9 [(0,.v),(1,.v),(2,.v),(3,.l),(4,.v),(5,.v),(6,.v),(7,.l),(8,.v)] none ?_ trivial rfl (by kernel_rfl) (by kernel_rfl) (by kernel_rfl) bU (by kernel_rfl) rfl
 repeat' (first|refine aD ?_|refine b8 a5 ?_|refine bZ a5 0 rfl rfl rfl rfl (by first|trivial|rfl) ?_)
 refine IQ [0,1,9,14] G9 ?_
 repeat' (first|refine IT ?_|refine a7 ?_|refine IF a5 G9 ?_)
 refine ar rfl (fun h=>?_) (fun h=>?_)
 ·have h1:s.length≤min m.a s.length:=by have:=Iy h;rw [hil] at this;omega
  repeat' (first|refine IT ?_|refine IF a5 G9 ?_)
  refine IL G9 ⟨?_,?_⟩
  ·unfold dr sj
   rw [List.getElem?_eq_none (show s.length≤m.a by omega)]
  ·unfold dr GU
   rw [show min m.a s.length=min (m.a+1) s.length by omega]
 have h1:m.a < s.length:=by have:=Ix h;rw [hil] at this;omega
 have h2:min m.a s.length=m.a:=by omega
 obtain ⟨x,hx⟩:∃x,s[m.a]?=some x:=⟨_,Iz h1⟩
 have hxg:=bR hx
 unfold GU
 rw [h2]
 repeat' (first|refine IT ?_|fail)
 refine bA 8 [(0,.v),(1,.v),(2,.v),(3,.l),(4,.v),(5,.v),(6,.v),(7,.l)] none ?_ trivial rfl (by kernel_rfl) (by kernel_rfl) (by kernel_rfl) bU (by kernel_rfl) rfl
 repeat' (first|refine aD ?_|refine b8 a5 ?_|refine bZ a5 0 rfl rfl rfl rfl (by first|trivial|rfl) ?_)
 refine IQ [0,1,19,23] G9 ?_
 repeat' (first|refine IT ?_|refine a7 ?_|refine IF a5 G9 ?_|(apply bw;first|refine II a5 0 IC ?_|refine II a5 1 IC ?_|refine II a5 2 IC ?_|refine II a5 3 IC ?_|refine IJ a5 0 IC ?_|refine IJ a5 1 IC ?_|refine IJ a5 2 IC ?_|refine IK a5 1 IA (by assumption) rfl ?_|refine IK a5 0 IA (by assumption) rfl ?_|fail)|(apply aV;refine aU ?_)|(apply aS;first|refine aQ a5 ?_|refine aG a5 ?_)|(apply aK;first|refine IG a5 0 ID ?_|refine IG a5 1 ID ?_|refine IG a5 2 ID ?_|refine IG a5 3 ID ?_|fail))
 refine EL ?_
 repeat' (first|refine IF a5 G9 ?_)
 have hb:=Int.lt_tmod_of_pos x hn.1
 have hb2:=Int.tmod_lt_of_pos x hn.1
 refine aU ?_
 repeat' (first|refine IF a5 G9 ?_)
 refine EL ?_
 repeat' (first|refine IT ?_|refine IF a5 G9 ?_)
 refine IL G9 ⟨?_,?_⟩
 ·unfold dr sj
  rw [hx,DX hn.1]
 ·unfold dr
  dsimp only
  rw [show min (m.a+1) s.length=m.a+1 by omega]
  rfl
section
variable {r:Option Nat} {ops:Array Oper} {Q:Exit→Act→World→Prop} {nt:Nat} {D:List Deferred} {fr:bW} {B:Bs} {rest:List Oper} {d:Nat} {ty:TypeId} {pos:String} {af:Array Edge} {s:List Int} {F:MF} {b:Nat} {m:MS} {Z:AL} {args:Array Operand} {ts:Array TypeId}
theorem uh {f:FuncId} [bD Tryz.prog f] {α:Type} {u:DM α} {out:α→AV} {az ds:List AV} (hc:qI f az s F u out) (h:bv Tryz.prog r ops Q nt D rest ((d,out (u m).1)::fr) B (dH b s F (u m).2::Z)) (hv:ei fr args.toList=some ds:=by rfl) (hi:lh ds=some (CJ b::az):=by rfl) (hd:Nat.ble nt d=false:=by rfl):bv Tryz.prog r ops Q nt D (⟨some d,.call ⟨.value (.func f),args,ts⟩,ty,pos,af,none⟩::rest) fr B (dH b s F m::Z):=
 aX [dH b s F m] Z (hc b m) hv hi (Jt _) hd fun c L1 ⟨h1,h2⟩=>by subst h1;subst h2;exact h
theorem cu {n:Int} (h:bv Tryz.prog r ops Q nt D rest ((d,aF (dr s n m).1)::fr) B (dH b s F (dr s n m).2::Z)) (hv:ei fr args.toList=some [CJ b,aF n]:=by rfl) (hs:s.length≤1000000:=by assumption) (hn:0 < n∧n≤1000000:=by omega) (hd:Nat.ble nt d=false:=by rfl):bv Tryz.prog r ops Q nt D (⟨some d,.call ⟨.value (.func 89),args,ts⟩,ty,pos,af,none⟩::rest) fr B (dH b s F m::Z):=
 uh (nD s hs F n hn) h hv rfl hd
end
section
variable {l:List Oper} {fr:bW} {fin:jo} {sk:lU} {acc:bW} {k:Nat} {dd:Option Tmp} {ty:TypeId} {pos:String} {af:Array Edge} {g:Option (Nat×Bool)} {s:List Int} {F:MF} {b:Nat} {m:MS} {Z:AL} {args:Array Operand} {ts:Array TypeId}
theorem bT {L:AL}:eD [] L:=fun q hq=>by cases hq
theorem bF {q:Nat×Nat×AV} {gs:KpL} {L:AL} (i:Nat) {cs:List AV} {e:TypeId} (hL:L[i]?=some (q.1,.box cs e)) (hc:cs[q.2.1]?=some q.2.2) (h:eD gs L):eD (.cell q::gs) L:=fun p hp=>by
 rcases List.mem_cons.1 hp with rfl | hp
 ·exact show ∃cs e,(q.1,AB.box cs e)∈L∧cs[q.2.1]?=some q.2.2 from ⟨cs,e,Iw hL,hc⟩
 ·exact h p hp
theorem Hv {f:FuncId} [bD Tryz.prog f] {α:Type} {u:DM α} {out:α→AV} {az ds:List AV} (hc:qI f az s F u out) (h:DA Tryz.prog l fr fin sk ((k,out (u m).1)::acc) (dH b s F (u m).2::Z)) (hv:ei (ct l.toArray acc fr af.toList) args.toList=some ds:=by rfl) (hi:lh ds=some (CJ b::az):=by rfl) (hg:iD ⟨dd,.call ⟨.value (.func f),args,ts⟩,ty,pos,af,g⟩ acc:=by first | trivial | rfl):cE Tryz.prog l fr fin k .e ⟨dd,.call ⟨.value (.func f),args,ts⟩,ty,pos,af,g⟩ sk acc (dH b s F m::Z):=
 jy [dH b s F m] Z (hc b m) hv hi (Jt _) hg fun c L1 ⟨h1,h2⟩=>by subst h1;subst h2;exact h
theorem rc {f:FuncId} [bD Tryz.prog f] {α:Type} {u:DM α} {out:α→AV} {az ds:List AV} (hc:qI f az s F u out) (hK:eD fin.gs (dH b s F (u m).2::Z)) (h:DA Tryz.prog l fr fin sk ((k,out (u m).1)::acc) (dH b s F (u m).2::Z)) (hv:ei (ct l.toArray acc fr af.toList) args.toList=some ds:=by rfl) (hi:lh ds=some (CJ b::az):=by rfl) (hg:iD ⟨dd,.call ⟨.value (.func f),args,ts⟩,ty,pos,af,g⟩ acc:=by first | trivial | rfl):cE Tryz.prog l fr fin k .f ⟨dd,.call ⟨.value (.func f),args,ts⟩,ty,pos,af,g⟩ sk acc (dH b s F m::Z):=
 wO [dH b s F m] Z (hc b m) hv hi (Jt _) hg (fun c L1 ⟨_,h2⟩ _=>by subst h2;exact hK) fun c L1 ⟨h1,h2⟩=>by subst h1;subst h2;exact h
theorem sg {n:Int} (h:DA Tryz.prog l fr fin sk ((k,aF (dr s n m).1)::acc) (dH b s F (dr s n m).2::Z)) (hv:ei (ct l.toArray acc fr af.toList) args.toList=some [CJ b,aF n]:=by rfl) (hs:s.length≤1000000:=by assumption) (hn:0 < n∧n≤1000000:=by omega) (hg:iD ⟨dd,.call ⟨.value (.func 89),args,ts⟩,ty,pos,af,g⟩ acc:=by first | trivial | rfl):cE Tryz.prog l fr fin k .e ⟨dd,.call ⟨.value (.func 89),args,ts⟩,ty,pos,af,g⟩ sk acc (dH b s F m::Z):=
 Hv (nD s hs F n hn) h hv rfl hg
theorem eu {n:Int} (hK:eD fin.gs (dH b s F (dr s n m).2::Z)) (h:DA Tryz.prog l fr fin sk ((k,aF (dr s n m).1)::acc) (dH b s F (dr s n m).2::Z)) (hv:ei (ct l.toArray acc fr af.toList) args.toList=some [CJ b,aF n]:=by rfl) (hs:s.length≤1000000:=by assumption) (hn:0 < n∧n≤1000000:=by omega) (hg:iD ⟨dd,.call ⟨.value (.func 89),args,ts⟩,ty,pos,af,g⟩ acc:=by first | trivial | rfl):cE Tryz.prog l fr fin k .f ⟨dd,.call ⟨.value (.func 89),args,ts⟩,ty,pos,af,g⟩ sk acc (dH b s F m::Z):=
 rc (nD s hs F n hn) hK h hv rfl hg
end
end Go.Proofs.YtpmdfoaadejmkaaGreatDoor
namespace Go.Proofs.YtpmdfoaadejmkaaGreatDoor
open Go.RowKit
attribute [local irreducible] AT bv AX AO Av Kt b9 dh DA cE
variable (s:List Int) (hs:s.length≤1000000) (F:MF)
include hs
theorem cg (a:Nat) {n:Int} (hn:0 < n):0≤sj s a n∧sj s a n < n:=by
 have _:=hs
 clear hs
 unfold sj
 split
 ·rename_i x _
  exact ⟨Int.emod_nonneg x (by omega),Int.emod_lt_of_pos x hn⟩
 ·omega
def GY (o:List er×List Int):AV:= .agg [.imm 3 (o.1.map dq),.imm 1 (aT o.2)]
def j5 (l:List fP):AV:= .imm 2 (l.map eK)
set_option maxHeartbeats 8000000 in
theorem wa (n fn:Int) (hn:0≤n∧n≤10000) (hf:fn≤10000):qI 174 [aF n,aF fn] s F (cy s n fn) j5:=by
 intro b m
 refine aL Tryz.func174 rfl Tryz.ntmps174 rfl fun B=>?_
 repeat' (first|refine IT ?_|refine IF a5 G9 ?_|(apply aV;refine aU ?_)|fail)
 refine cu ?_
 repeat' (first|refine IT ?_|refine IF a5 G9 ?_|(apply aV;refine aU ?_)|fail)
 refine cu ?_
 repeat' (first|refine IT ?_|refine IF a5 G9 ?_)
 refine cu ?_
 repeat' (first|refine IT ?_|refine IF a5 G9 ?_)
 refine cu ?_
 generalize e1:dr s (n+1) m=p1
 generalize e2:dr s (n+1) p1.2=p2
 generalize e3:dr s 2 p2.2=p3
 have hk:=cg s hs p3.2.a (n:=12) (by omega)
 have hk:0≤(dr s 12 p3.2).1∧(dr s 12 p3.2).1 < 12:=hk
 generalize e4:dr s 12 p3.2=p4 at hk ⊢
 repeat' (first|refine IT ?_|refine am ?_|refine IF a5 G9 ?_)
 refine ar rfl (fun h=>?_) (fun h=>?_)
 ·have h:=Iy h
  repeat' (first|refine IT ?_|refine IF a5 G9 ?_|refine bH a5 ?_|fail)
  exact IL G9 ⟨by simp [cy,bX,ret,e1,e2,e3,e4,j5,eK,h],by simp [cy,bX,ret,e1,e2,e3,e4,h]⟩
 have h0:=Ix h
 clear h
 repeat' (first|refine IT ?_|refine IF a5 G9 ?_)
 refine ar rfl (fun h=>?_) (fun h=>?_)
 ·have h:=Iy h
  repeat' (first|refine IT ?_|refine IF a5 G9 ?_)
  refine cu ?_
  repeat' (first|refine IT ?_|refine IF a5 G9 ?_|refine bH a5 ?_|fail)
  exact IL G9 ⟨by simp [cy,bX,ret,e1,e2,e3,e4,j5,eK,h],by simp [cy,bX,ret,e1,e2,e3,e4,h]⟩
 have h1:=Ix h
 clear h
 repeat' (first|refine IT ?_|refine IF a5 G9 ?_)
 refine ar rfl (fun h=>?_) (fun h=>?_)
 ·have h:=Iy h
  rw [decide_eq_true h]
  repeat' (first|refine IT ?_|refine IF a5 G9 ?_|refine bH a5 ?_|refine bQ rfl ?_)
  exact IL G9 ⟨by simp [cy,bX,ret,e1,e2,e3,e4,j5,eK,h],by simp [cy,bX,ret,e1,e2,e3,e4,h]⟩
 have h2:=Ix h
 clear h
 repeat' (first|refine IT ?_|refine IF a5 G9 ?_)
 refine ar rfl (fun h=>?_) (fun h=>?_)
 ·have h:=Iy h
  repeat' (first|refine IT ?_|refine IF a5 G9 ?_|refine bH a5 ?_|fail)
  exact IL G9 ⟨by simp [cy,bX,ret,e1,e2,e3,e4,j5,eK,h],by simp [cy,bX,ret,e1,e2,e3,e4,h]⟩
 have h3:=Ix h
 clear h
 repeat' (first|refine IT ?_|refine IF a5 G9 ?_)
 refine ar rfl (fun h=>?_) (fun h=>?_)
 ·have h:=Iy h
  repeat' (first|refine IT ?_|refine IF a5 G9 ?_)
  refine cu ?_
  have hz:=cg s hs p4.2.a (n:=200) (by omega)
  have hz:0≤(dr s 200 p4.2).1∧(dr s 200 p4.2).1 < 200:=hz
  repeat' (first|refine IT ?_|refine IF a5 G9 ?_|(apply aV;refine aU ?_)|refine bH a5 ?_|fail)
  exact IL G9 ⟨by simp [cy,bX,ret,e1,e2,e3,e4,j5,eK,h],by simp [cy,bX,ret,e1,e2,e3,e4,h]⟩
 have h4:=Ix h
 clear h
 repeat' (first|refine IT ?_|refine IF a5 G9 ?_)
 refine ar rfl (fun h=>?_) (fun h=>?_)
 ·have h:=Iy h
  repeat' (first|refine IT ?_|refine IF a5 G9 ?_|refine bH a5 ?_|fail)
  exact IL G9 ⟨by simp [cy,bX,ret,e1,e2,e3,e4,j5,eK,h],by simp [cy,bX,ret,e1,e2,e3,e4,h]⟩
 have h5:=Ix h
 clear h
 repeat' (first|refine IT ?_|refine IF a5 G9 ?_)
 refine ar rfl (fun h=>?_) (fun h=>?_)
 ·have h:=Iy h
  repeat' (first|refine IT ?_|refine IF a5 G9 ?_|refine bH a5 ?_|fail)
  exact IL G9 ⟨by simp [cy,bX,ret,e1,e2,e3,e4,j5,eK,h],by simp [cy,bX,ret,e1,e2,e3,e4,h]⟩
 have h6:=Ix h
 clear h
 repeat' (first|refine IT ?_|refine IF a5 G9 ?_)
 refine ar rfl (fun h=>?_) (fun h=>?_)
 ·have h:=Iy h
  repeat' (first|refine IT ?_|refine IF a5 G9 ?_|refine bH a5 ?_|fail)
  exact IL G9 ⟨by simp [cy,bX,ret,e1,e2,e3,e4,j5,eK,h],by simp [cy,bX,ret,e1,e2,e3,e4,h]⟩
 have h7:=Ix h
 clear h
 repeat' (first|refine IT ?_|refine IF a5 G9 ?_)
 refine ar rfl (fun h=>?_) (fun h=>?_)
 ·have h:=Iy h
  repeat' (first|refine IT ?_|refine IF a5 G9 ?_)
  refine ar rfl (fun hf0=>?_) (fun hf0=>?_)
  ·have hf0:=Iy hf0
   repeat' (first|refine IT ?_|refine IF a5 G9 ?_)
   refine cu ?_
   repeat' (first|refine IT ?_|refine IF a5 G9 ?_|refine bH a5 ?_|fail)
   exact IL G9 ⟨by simp [cy,bX,ret,e1,e2,e3,e4,j5,eK,h,hf0],by simp [cy,bX,ret,e1,e2,e3,e4,h,hf0]⟩
  ·have hf0:=Ix hf0
   repeat' (first|refine IT ?_|refine IF a5 G9 ?_|refine bH a5 ?_|fail)
   exact IL G9 ⟨by simp [cy,bX,ret,e1,e2,e3,e4,j5,eK,gw,h,hf0],by simp [cy,bX,ret,e1,e2,e3,e4,gw,h,hf0]⟩
 have h8:=Ix h
 clear h
 repeat' (first|refine IT ?_|refine IF a5 G9 ?_)
 refine ar rfl (fun h=>?_) (fun h=>?_)
 ·have h:=Iy h
  by_cases hf0:0 < fn
  ·repeat' (first|refine IT ?_|refine IF a5 G9 ?_)
   rw [decide_eq_true hf0]
   repeat' (first|refine IT ?_|refine IF a5 G9 ?_|refine IM G9 ?_|(apply bw;first|refine II a5 0 IC ?_|refine II a5 1 IC ?_|refine II a5 2 IC ?_|refine II a5 3 IC ?_|refine IJ a5 0 IC ?_|refine IJ a5 1 IC ?_|refine IJ a5 2 IC ?_|refine IK a5 1 IA (by assumption) rfl ?_|refine IK a5 0 IA (by assumption) rfl ?_|fail)|fail)
   refine ar rfl (fun hl=>?_) (fun hl=>?_)
   ·have hl:=Iy hl
    repeat' (first|refine IT ?_|refine IF a5 G9 ?_|(apply bw;first|refine II a5 0 IC ?_|refine II a5 1 IC ?_|refine II a5 2 IC ?_|refine II a5 3 IC ?_|refine IJ a5 0 IC ?_|refine IJ a5 1 IC ?_|refine IJ a5 2 IC ?_|refine IK a5 1 IA (by assumption) rfl ?_|refine IK a5 0 IA (by assumption) rfl ?_|fail)|(apply aV;refine aU ?_)|(apply aK;first|refine IG a5 0 ID ?_|refine IG a5 1 ID ?_|refine IG a5 2 ID ?_|refine IG a5 3 ID ?_|fail))
    have hlt:=p4.2.lo.isLt
    have hlz:0 < p4.2.lo.val:=by omega
    have hcell:((p4.2.lo.val:Nat):Int) - 1=((p4.2.lo.val - 1:Nat):Int):=by omega
    rw [hcell]
    change bv _ _ _ _ _ _ _ _ _ [dH b s F (GM p4.2).2]
    repeat' (first|fail)
    refine cu ?_
    repeat' (first|refine IF a5 G9 ?_)
    refine cu ?_
    repeat' (first|refine IT ?_|refine IF a5 G9 ?_|refine bH a5 ?_|fail)
    exact IL G9 ⟨by simp [cy,bX,ret,e1,e2,e3,e4,j5,eK,h,hf0,pK,hlz],by simp [cy,bX,ret,e1,e2,e3,e4,h,hf0,pK,hlz]⟩
   ·have hl:=Ix hl
    have hl0:p4.2.lo.val=0:=by omega
    repeat' (first|refine IT ?_|refine IF a5 G9 ?_|refine bH a5 ?_|fail)
    exact IL G9 ⟨by simp [cy,bX,ret,e1,e2,e3,e4,j5,eK,gw,h,hf0,pK,hl0],by simp [cy,bX,ret,e1,e2,e3,e4,gw,h,hf0,pK,hl0]⟩
  ·repeat' (first|refine IT ?_|refine IF a5 G9 ?_)
   rw [decide_eq_false hf0]
   repeat' (first|refine IT ?_|refine IF a5 G9 ?_|refine IP IB ?_|refine bH a5 ?_|refine bK rfl ?_)
   exact IL G9 ⟨by simp [cy,bX,ret,e1,e2,e3,e4,j5,eK,gw,h,hf0],by simp [cy,bX,ret,e1,e2,e3,e4,gw,h,hf0]⟩
 have h9:=Ix h
 clear h
 repeat' (first|refine IT ?_|refine IF a5 G9 ?_)
 refine ar rfl (fun h=>?_) (fun h=>?_)
 ·have h:=Iy h
  repeat' (first|refine IT ?_|refine IF a5 G9 ?_|refine bH a5 ?_|fail)
  exact IL G9 ⟨by simp [cy,bX,ret,e1,e2,e3,e4,j5,eK,h],by simp [cy,bX,ret,e1,e2,e3,e4,h]⟩
 have h10:=Ix h
 clear h
 repeat' (first|refine IT ?_|refine IF a5 G9 ?_|refine bH a5 ?_|fail)
 exact IL G9 ⟨by simp [cy,bX,ret,e1,e2,e3,e4,j5,eK,gw,h0,h1,h2,h3,h4,h5,h6,h7,h8,h9,h10],by simp [cy,bX,ret,e1,e2,e3,e4,gw,h0,h1,h2,h3,h4,h5,h6,h7,h8,h9,h10]⟩
end Go.Proofs.YtpmdfoaadejmkaaGreatDoor
