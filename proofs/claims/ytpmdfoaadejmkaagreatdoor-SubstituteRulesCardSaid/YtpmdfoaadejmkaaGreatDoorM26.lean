/-
  What is shown at the head of all laws.
-/
import Derived.Test.YtpmdfoaadejmkaaGreatDoorM25
import Derived.Test.YtpmdfoaadejmkaaGreatDoorM05
import Derived.Test.YtpmdfoaadejmkaaGreatDoorM12
import Derived.Test.YtpmdfoaadejmkaaGreatDoorM23
namespace Go.Proofs.YtpmdfoaadejmkaaGreatDoor
open Go.RowKit
attribute [local irreducible] AT bJ AX AO Av Kt bi dq DA cG
def CX (ls:List aL):Bool:=ls.all (yV 5) && (decide (ls.length≤1000000) && Dh ls)
theorem CY {ls:List aL} (h:CX ls=true):AC Tryz.prog 15 [df (fO ls)] [] fun c _=>∃E,mD E∧Ew (.iptr (eC E)) (cK kV ls)∧c= .tup [.iptr (eC E),aF 0]:=by
 unfold CX Dh at h
 simp only [Bool.and_eq_true,decide_eq_true_eq] at h
 refine AC.mono (AU h.1 h.2.1 (w3 h.2.2)) fun c L ⟨E,h1,h2,h3,h4⟩=>⟨E,h1,?_,h4⟩
 have:=Ip h1
 rwa [h2,h3] at this
theorem Bl:CX Eb=true:=by decide+kernel
theorem Bm:decide ((uw (cK kV Eb) [0,1] [] (fh [0,1,0])).map aJ.Glyph=[3,0])=true:=by decide+kernel
theorem Ec:AC Tryz.prog 13 [] [dN] fun c L=>c=d6 true∧L=[dN]:=by
 refine aN Tryz.func13 rfl Tryz.ntmps13 rfl fun B=>?_
 repeat' (first|refine L3 ?_|refine KG a4 HY ?_|refine bW a4 ?_|fail)
 refine b6 [] _ (AC.args (AS Eb) ?_) rfl rfl (Lz _) rfl fun c L1 hc=>?_
 ·repeat' first | exact da.refl _ | exact da.nil _ | exact True.intro | refine da.agg ?_ | refine da.imm ?_ | refine And.intro ?_ ?_
 subst hc
 refine aP (c6 (List.sublist_append_right ..)) ?_
 repeat' (first|refine L3 ?_|refine KG a4 HY ?_|(apply aM;first|refine KL 1 a4 0 KF ?_|refine KL 1 a4 1 KF ?_|refine KL 1 a4 2 KF ?_|refine KH a4 0 KE ?_|refine KH a4 1 KE ?_|refine KH a4 2 KE ?_|refine KH a4 3 KE ?_|fail)|refine bq a4 fun _=>?_|fail)
 refine b6 [] _ (CY Bl) rfl rfl (Lz _) rfl fun c L1 hc=>?_
 obtain ⟨E,hE,hA,rfl⟩:=hc
 refine aP (c6 (List.sublist_append_right ..)) ?_
 repeat' (first|refine L3 ?_|refine KG a4 HY ?_|refine KR HY ?_)
 refine ce [2] False rfl (fun Q' K=>?_) (fun hC=>hC.elim) (fun _=>?_)
 ·repeat' (first|fail)
  refine rD Tryz.underlying34 rfl rfl rfl rfl ?_
  repeat' (first|refine L3 ?_|refine KG a4 HY ?_)
  exact K _ _ rfl rfl (by simp)
 repeat' (first|refine L3 ?_|refine KG a4 HY ?_|refine bW a4 ?_|fail)
 refine b6 [] _ (Ar [0,1,0] (by decide)) rfl rfl (Lz _) rfl fun c L1 hc=>?_
 subst hc
 refine aP (c6 (List.sublist_append_right ..)) ?_
 repeat' (first|fail)
 refine b6 [dN] [] (AC.args (zb (eC E) hA [0,1] [] (fh [0,1,0]) (by decide)) (a:=[.iptr (eC E),.imm 1 (aW [0,1]),.sc (.slice none 0 0),.imm 6 ((fh [0,1,0]).map bO)]) ⟨da.refl _,da.refl _,da.nil 1,da.refl _,trivial⟩) rfl rfl (Lz _) rfl fun c L1 ⟨hc,hL⟩=>?_
 subst hc;subst hL
 repeat' (first|refine bW a4 ?_|fail)
 refine b6 [] _ (xu _ [3,0] (by decide)) rfl rfl (Lz _) rfl fun c L1 hc=>?_
 subst hc
 rw [Bm]
 refine aP (c6 (List.sublist_append_right ..)) ?_
 repeat' (first|refine L3 ?_|refine KG a4 HY ?_)
 exact KP HY ⟨rfl,rfl⟩
def z9 (m k:Nat):List Int:=(List.range k).map fun (j:Nat)=>if j=m then (1:Int) else 0
def FT (m k:Nat):List Int:=(List.range k).map fun (j:Nat)=>if (m:Int) - 1≤(j:Int) then (1:Int) else 0
def Jd (m:Nat):Bool:=decide ((cK kV FS 0 (fh (z9 m (m+1))) []).map aJ.Glyph=List.replicate (m+1) 1) && decide ((cK kV FS 1 (fh (z9 m (m+1))) []).map aJ.Glyph=FT m (m+1))
def nI (x:aJ):List Int:=[x.Glyph,x.Cluster,x.Form,x.Advance,x.X,x.Y]
theorem t8 {a b:aJ} (h:nI a=nI b):a=b:=by
 cases a;cases b
 simpa [nI] using h
instance:DecidableEq aJ:=fun a b=>decidable_of_iff (nI a=nI b) ⟨t8,fun h=>by rw [h]⟩
theorem Aq:yi Tryz.prog 67 6:=⟨⟨_,Tryz.underlying67,rfl,⟨by decide,rfl,Tryz.underlying3⟩,⟨by decide,rfl,Tryz.underlying3⟩,⟨by decide,rfl,Tryz.underlying3⟩,⟨by decide,rfl,Tryz.underlying3⟩,⟨by decide,rfl,Tryz.underlying3⟩,⟨by decide,rfl,Tryz.underlying3⟩,trivial⟩,by kernel_rfl,by kernel_rfl⟩
theorem Fn (l:List Int):bU Tryz.prog 19 [.imm 1 (aW l)] (.imm 1 (aW (l.take 12))):=by
 refine aN Tryz.func19 rfl Tryz.ntmps19 rfl fun B=>?_
 refine cW 0 rfl rfl fun hl=>?_
 have hil:=bb l
 repeat' (first|refine L3 ?_|refine KG a4 HY ?_)
 refine yZ a4 (min l.length 12) rfl rfl rfl rfl rfl (by omega) (by omega) rfl ?_
 have ht:l.take (min l.length 12)=l.take 12:=by
  rcases Nat.le_total l.length 12 with h | h
  ·rw [Nat.min_eq_left h,List.take_length,List.take_of_length_le h]
  ·rw [Nat.min_eq_right h]
 rw [show (aW l).take (min l.length 12)=aW (l.take 12) from by rw [←ht];unfold aW;rw [List.map_take]]
 repeat' (first|refine L3 ?_|refine KG a4 HY ?_)
 exact KQ KA
theorem wf (a b:List aJ) (ha:a.length≤1000000):bU Tryz.prog 17 [.imm 6 (a.map bO),.imm 6 (b.map bO)] (d6 (decide (a=b))):=by
 refine aN Tryz.func17 rfl Tryz.ntmps17 rfl fun B=>?_
 have hal:(a.map bO).length=a.length:=Ku ..
 have hbl:(b.map bO).length=b.length:=Ku ..
 repeat' (first|refine L3 ?_|refine KG a4 HY ?_)
 refine aw rfl (fun h1=>?_) (fun h1=>?_)
 ·have hne:¬a.length=b.length:=by have:=Ky h1;omega
  rw [decide_eq_false (fun e:a=b=>hne (by rw [e]))]
  repeat' (first|refine L3 ?_|refine KG a4 HY ?_)
  exact KQ KA
 ·have heq:a.length=b.length:=by have:=Kx h1;omega
  clear h1
  repeat' (first|refine L3 ?_|refine ak ?_|refine KG a4 HY ?_)
  refine aR [0,1] (α:=Nat) (fun i=>[(5,aF i)]) (fun i=>i≤a.length∧a.take i=b.take i) (fun _=>[]) (fun i=>a.length - i) 0 rfl ⟨rfl,trivial⟩ ⟨Nat.zero_le _,rfl⟩ (fun _ _ h=>h) ?_
  rintro i ⟨hi,hti⟩
  try dsimp only [Kr,Kq,Kp,Lv]
  repeat' (first|refine L3 ?_|refine KG a4 HY ?_)
  refine aw rfl (fun h1=>?_) (fun h1=>?_)
  ·have hi2:i < a.length:=by have:=Ky h1;omega
   obtain ⟨g,hg⟩:∃z,a[i]?=some z:=⟨_,Kz hi2⟩
   obtain ⟨x,hx⟩:∃z,b[i]?=some z:=⟨_,Kz (by omega)⟩
   have hgg:(a.map bO)[i]?=some (bO g):=by simp [hg]
   have hxg:(b.map bO)[i]?=some (bO x):=by simp [hx]
   clear h1
   repeat' (first|refine L3 ?_|refine ak ?_)
   refine bn 8 [(0,.v),(1,.v),(2,.v),(3,.v),(4,.v),(5,.v),(6,.v),(7,.v)] none ?_ trivial rfl (by kernel_rfl) (by kernel_rfl) (by kernel_rfl) bI (by kernel_rfl) rfl
   repeat' (first|refine aB ?_|refine aX a4 ?_|(apply cm;refine cA a4 ?_)|fail)
   refine KU [0,1,5,20,24] HY ?_
   refine cw (H8 (a:=nI g) (b:=nI x) Aq rfl rfl rfl rfl) rfl rfl ?_
   repeat' (first|refine L3 ?_|fail)
   refine aw rfl (fun h1=>?_) (fun h1=>?_)
   ·have hne:¬nI g=nI x:=by
     intro e
     rw [decide_eq_true e] at h1
     cases h1
    rw [decide_eq_false (fun e:a=b=>hne (by rw [e,hx] at hg;cases hg;rfl))]
    repeat' (first|refine L3 ?_|refine KG a4 HY ?_)
    exact KQ KA
   ·have hgx:g=x:=by
     refine t8 (Classical.byContradiction fun e=>?_)
     rw [decide_eq_false e] at h1
     cases h1
    repeat' (first|refine L3 ?_|refine KG a4 HY ?_|(apply aU;refine aT ?_)|fail)
    exact aD (i+1) rfl ⟨by rw [Kv];rfl,trivial⟩ ⟨hi2,by rw [List.take_add_one,List.take_add_one,hti,hg,hx,hgx]⟩ (by omega) (fun _ _ h=>h)
  ·have hi2:i=a.length:=by have:=Kx h1;omega
   subst hi2
   rw [List.take_length,heq,List.take_length] at hti
   rw [decide_eq_true hti]
   repeat' (first|refine L3 ?_|refine KG a4 HY ?_)
   exact KQ KA
def Fz (v:Int):Int:=bits .and .i64 v 65535
def Hu (g:Int) (i:Nat) (v:Int):aJ:=⟨(Fz v).tmod (max g 1+1),i,(IntKind.wrap .i64 ((Fz v).tdiv 16)).tmod 5,IntKind.wrap .i64 ((Fz v).tdiv 7),0,0⟩
def jy (g:Int):Nat→List Int→List aJ
 | _,[]=>[]
 | i,v::l=>Hu g i v::jy g (i+1) l
def vG (g:Int) (l:List Int):List aJ:=jy g 0 (l.take 60)
theorem rf (g:Int):∀(l:List Int) (i:Nat) (v:Int),jy g i (l++[v])=jy g i l++[Hu g (i+l.length) v]
 | [],i,v=>rfl
 | x::l,i,v=>by
  rw [Kr,jy,rf g l (i+1) v,jy,Kr,List.length_cons,show i+1+l.length=i+(l.length+1) by omega]
theorem oV (g:Int):∀(l:List Int) (i:Nat),(jy g i l).length=l.length
 | [],_=>rfl
 | x::l,i=>by rw [jy,List.length_cons,oV g l,List.length_cons]
theorem D7 (l:List Int) (g:Int) (hg:0≤g∧g≤1000000000):bU Tryz.prog 16 [.imm 1 (aW l),aF g] (.imm 6 ((vG g l).map bO)):=by
 refine aN Tryz.func16 rfl Tryz.ntmps16 rfl fun B=>?_
 refine cW 0 rfl rfl fun hl=>?_
 have hil:=bb l
 repeat' (first|refine L3 ?_|refine ak ?_|refine KG a4 HY ?_|(apply aU;refine aT ?_)|refine rE (n:=0) a4 fun _=>?_|fail)
 refine aR [0,6] (α:=Nat×Option (Nat×Nat)) (fun s=>[(7,aF s.1),(5,.vec s.2 6 ((jy g 0 (l.take s.1)).map bO))]) (fun s=>s.1≤l.length∧s.1≤60) (fun s=>tok s.2 67 6 s.1) (fun s=>l.length - s.1) (0,some (_,0)) rfl ⟨rfl,rfl,trivial⟩ ⟨Nat.zero_le _,Nat.zero_le _⟩ (fun _ _ h=>h) ?_
 rintro ⟨i,q⟩ ⟨hi,hi60⟩
 dsimp only at hi hi60 ⊢
 try dsimp only [Kr,Kq,Kp,Lv]
 repeat' (first|refine L3 ?_|refine KG a4 HY ?_)
 refine ce [0,5,6,7] (i < l.length∧i < 60) rfl (fun Q' K=>?_) (fun hC=>?_) (fun hC=>?_)
 ·repeat' (first|refine L3 ?_|refine KG a4 HY ?_|refine KR HY ?_|refine KV KB ?_|refine KW KA (fun _=>?_) (fun _=>?_))
  all_goals exact K _ _ rfl rfl (by simp_all <;> omega)
 ·obtain ⟨v,hv⟩:∃z,l[i]?=some z:=⟨_,Kz hC.1⟩
  have hgg:=bP hv
  repeat' (first|refine L3 ?_|refine ak ?_|refine KG a4 HY ?_|(apply aQ;first|refine aO a4 ?_|refine aG a4 ?_)|fail)
  refine rA rfl rfl rfl ?_
  rw [show bits .and .i64 v 65535=Fz v from rfl]
  repeat' (first|refine L3 ?_|refine KG a4 HY ?_)
  refine cw (BU rfl rfl (by omega)) rfl rfl ?_
  repeat' (first|refine KG a4 HY ?_)
  refine cw (yq rfl rfl (by decide)) rfl rfl ?_
  repeat' (first|fail)
  refine cw (BU rfl rfl (by decide)) rfl rfl ?_
  repeat' (first|refine KG a4 HY ?_)
  refine cw (yq rfl rfl (by decide)) rfl rfl ?_
  have hml:((jy g 0 (l.take i)).map bO).length=i:=by rw [Ku,oV,List.length_take];omega
  have hsn:(jy g 0 (l.take i)).map bO++[bO (Hu g i v)]=(jy g 0 (l.take (i+1))).map bO:=by
   rw [List.take_add_one,hv]
   show _=(jy g 0 (l.take i++[v])).map bO
   rw [rf,List.map_append,List.length_take,Nat.min_eq_left (by omega),Nat.zero_add]
   rfl
  generalize (jy g 0 (l.take i)).map bO=A0 at *
  repeat' (first|refine KG a4 HY ?_|refine bW a4 ?_|fail)
  refine bV a4 [] rfl rfl rfl rfl (by rw [hml,List.append_nil]) (by rw [hml];simp;omega) (by rw [hml];simp;omega) rfl fun q'=>?_
  repeat' (first|refine L3 ?_|refine KG a4 HY ?_|(apply aU;refine aT ?_)|fail)
  refine aD (i+1,q') rfl ⟨by rw [Kv];rfl,by dsimp only;rw [←hsn];rfl,trivial⟩ ⟨hC.1,hC.2⟩ (by dsimp only;omega) (fun _ _ h=>?_)
  rw [List.length_append,hml,List.append_nil] at h
  exact h
 ·have hw:l.take i=l.take 60:=by
   rcases Nat.lt_or_ge i 60 with h | h
   ·have:i=l.length:=by omega
    rw [List.take_of_length_le (by omega),List.take_of_length_le (by omega)]
   ·rw [show i=60 by omega]
  repeat' (first|refine L3 ?_|refine KG a4 HY ?_)
  refine bj (bS (t:=4) (c':= .imm 6 ((vG g l).map bO)) rfl fun σ v h=>?_) ?_
  ·have h':=VR.im h
   rw [hw] at h'
   exact h'
  refine dH (List.nil_sublist _) ?_
  exact KQ KA
end Go.Proofs.YtpmdfoaadejmkaaGreatDoor
namespace Go.Proofs.YtpmdfoaadejmkaaGreatDoor
structure MS where
 a:Nat
 lo:Fin 3
abbrev DM (α:Type):=MS→α×MS
section
variable {α β:Type}
def ret (x:α):DM α:=fun m=>(x,m)
def cn (g:DM α) (k:α→DM β):DM β:=fun m=>k (g m).1 (g m).2
def il (g:Nat→β→DM β) (b:β):Nat→DM β
 | 0=>ret b
 | k+1=>cn (il g b k) (g k)
end
def tU (s:List Int) (a:Nat) (n:Int):Int:=match s[a]? with
 | some x=>x % n
 | none=>0
def dr (s:List Int) (n:Int):DM Int:=fun m=>(tU s m.a n,{ m with a:=m.a+1 })
def ID:DM Unit:=fun m=>((),{ m with lo:=⟨m.lo.val - 1,Nat.lt_of_le_of_lt (Nat.sub_le ..) m.lo.isLt⟩ })
def ie (z:Fin 3):DM Unit:=fun m=>((),{ m with lo:=z })
def rk:DM Int:=fun m=>((m.lo.val:Int),m)
section
variable (s:List Int)
def GH (p:Nat):DM eS:=cn (dr s 21) fun x=>cn (dr s 21) fun y=>if p=0 then ret ⟨x * 50 - 100,y * 50 - 200,true⟩ else cn (dr s 4) fun z=>ret ⟨x * 50 - 100,y * 50 - 200,decide (0 < z)⟩
def p8 (l:List eS) (k:Nat):DM (List eS):=il (fun p l=>cn (GH s p) fun t=>ret (l++[t])) l k
def iE (n:Nat):DM (List eS×List Int):=il (fun _ o=>cn (dr s 4) fun k=>cn (p8 s o.1 (2+k).toNat) fun l=>ret (l,o.2++[(l.length:Int) - 1])) ([],[]) n
def kl:DM (List eS×List Int):=cn (dr s 3) fun n=>iE s n.toNat
def hH (q:Int):DM (List gr):=ret [⟨39,0⟩,⟨1,16⟩,⟨17,0⟩,⟨36,2⟩,⟨1,q⟩,⟨2,0⟩]
def cO (n funcs:Int):DM (List gr):=cn (dr s (n+1)) fun p=>cn (dr s (n+1)) fun q=>cn (dr s 2) fun a=>cn (dr s 12) fun k=>
 if k=0 then ret [⟨22,a⟩,⟨23,a⟩]
 else if k=1 then cn (dr s 6) fun z=>ret [⟨24,z⟩]
 else if k=2∨k=3 then ret [⟨1,p⟩,⟨1,p⟩,⟨29,0⟩,⟨15,0⟩,⟨32,0⟩]
 else if k=4 then cn (dr s 200) fun z=>ret [⟨1,p⟩,⟨1,z - 100⟩,⟨31,0⟩]
 else if k=5 then ret [⟨1,p⟩,⟨1,q⟩,⟨33,0⟩]
 else if k=6 then ret [⟨34,a⟩]
 else if k=7 then ret [⟨1,a⟩,⟨1,q⟩,⟨25,0⟩,⟨1,3⟩,⟨5,0⟩,⟨26,0⟩]
 else if k=8 then (if 0 < funcs then cn (dr s funcs) fun z=>ret [⟨37,z⟩] else hH q)
 else if k=9 then (if 0 < funcs then cn rk fun lo=>if 0 < lo then cn ID fun _=>cn (dr s 5) fun y=>cn (dr s funcs) fun z=>ret [⟨1,y⟩,⟨38,z⟩] else hH q else hH q)
 else if k=10 then ret [⟨1,p⟩,⟨30,0⟩,⟨1,q⟩,⟨29,0⟩,⟨16,0⟩,⟨36,3⟩,⟨1,q⟩,⟨1,64⟩,⟨31,0⟩]
 else hH q
def fL (n funcs:Int) (k:Nat):DM (List gr):=il (fun _ l=>cn (cO s n funcs) fun p=>ret (l++p)) [] k
def nH (n funcs most:Int):DM (List gr):=cn (dr s most) fun k=>fL s n funcs k.toNat
def fB (a:Int) (k:Nat):DM (List Int):=il (fun j l=>if l.length < 4 then cn (dr s 3) fun z=>ret (if z=0 then l++[a+1+j] else l) else ret l) [a] k
def o9 (n:Int):DM (List Int):=cn (dr s n) fun a=>fB s a (n - (a+1)).toNat
def iF (n:Int) (k:Nat):DM (List (List Int)):=il (fun _ l=>cn (o9 s n) fun x=>ret (l++[x])) [] k
def pW (n most:Int):DM (List (List Int)):=cn (dr s (most+1)) fun k=>iF s n k.toNat
def gt (n:Int) (k:Nat):DM (List Int):=il (fun _ l=>cn (dr s n) fun x=>ret (l++[x])) [] k
def fw (n:Int) (calls:List Int) (k:Nat):DM (List gK):=il (fun _ l=>cn (dr s n) fun a=>cn (dr s calls.length) fun z=>ret (l++[⟨a,calls.getD z.toNat 0⟩])) [] k
def GG (n:Int) (a:List Int):DM bh:=cn (o9 s n) fun b=>cn (dr s 41) fun x=>ret ⟨[],[a,b],[],[],[],x * 10 - 200⟩
def jM (n:Int):DM (List (List Int)×List (List Int)):=cn (dr s 2) fun z=>if z=0 then cn (pW s n 2) fun b=>cn (pW s n 2) fun c=>ret (b,c) else ret ([],[])
def gP (n kind:Int) (calls:List Int):DM bh:=cn (o9 s n) fun a=>if kind=6 then GG s n a else cn (jM s n) fun e=>
 if kind=1∨kind=5 then cn (gt s n a.length) fun o=>ret ⟨e.1,[a],e.2,o,[],0⟩
 else if kind=2 then cn (dr s 4) fun k=>cn (gt s n k.toNat) fun o=>ret ⟨e.1,[a],e.2,o,[],0⟩
 else if kind=3 then cn (pW s n 2) fun m=>cn (dr s n) fun o=>ret ⟨e.1,a::m,e.2,[o],[],0⟩
 else cn (pW s n 2) fun m=>cn (dr s 3) fun k=>cn (fw s (a::m).length calls (if calls.length=0 then 0 else k.toNat)) fun c=>ret ⟨e.1,a::m,e.2,[],c,0⟩
def fN:List Int:=[1,2,3,4,4,5,6,7,8,1]
def eH (k:Nat):DM (List aL×List Int):=il (fun i o=>cn (dr s 10) fun z=>cn (dr s 3) fun y=>ret (o.1++[⟨fN.getD z.toNat 0,decide (y=0),[]⟩],if fN.getD z.toNat 0≤4 then o.2++[(i:Int)] else o.2)) ([],[]) k
def fi (n kind:Int) (calls:List Int) (k:Nat):DM (List bh):=il (fun _ l=>cn (gP s n kind calls) fun r=>ret (l++[r])) [] k
def fy (n:Int) (calls:List Int) (l:List aL) (k:Nat):DM (List aL):=il (fun i l=>match l[i]? with
 | none=>ret l
 | some q=>if q.Kind≥7 then ret l else cn (dr s 3) fun k=>cn (fi s n q.Kind calls (1+k).toNat) fun rs=>ret (l.set i { q with Rules:=rs })) l k
def j6 (n:Int):DM (List aL):=cn (dr s 7) fun k=>cn (eH s k.toNat) fun o=>fy s n o.2 o.1 k.toNat
def bytes (l:List UInt8):ByteArray:=⟨l.toArray⟩
def jJ (p:List UInt8) (n:Nat):ByteArray:=bytes (p++[(97+n).toUInt8])
def JY:List UInt8:=[103]
def v7:List UInt8:=[97,120]
def DI:ByteArray:=bytes [46,110,111,116,100,101,102]
def cU (n:Nat):ByteArray:=if n=0 then DI else jJ JY n
def jd (n:Nat):DM (List ec):=if 1 < n then cn (dr s 4) fun z=>if z=0 then cn (dr s 9) fun x=>cn (dr s 5) fun y=>ret [⟨1,x * 50 - 200,y * 50⟩] else ret [] else ret []
def gw (cl:Int):List (Int×Int):=[(1,0),(1,1),(3,0),(4,0),(2,cl)]
def eY (mark:Bool) (cl:Int) (k:Nat):DM (List dO):=il (fun i l=>cn (dr s 3) fun z=>if z=0∧(((gw cl).getD i (0,0)).1≠2∨mark=true) then cn (dr s 21) fun x=>cn (dr s 21) fun y=>ret (l++[⟨((gw cl).getD i (0,0)).1,((gw cl).getD i (0,0)).2,x * 50,y * 50 - 200⟩]) else ret l) [] k
def it (r:Nat) (l:List dW) (k:Nat):DM (List dW):=il (fun p l=>cn (dr s 3) fun z=>if z=0 then cn (dr s 41) fun x=>if p=0 then ret (l++[⟨r,-1,x - 20,0⟩]) else cn (dr s 41) fun y=>ret (l++[⟨r,(p:Int) - 1,x - 20,y - 20⟩]) else ret l) l k
def gy (pts:Nat) (R:Nat):DM (List dW):=il (fun r l=>it s r l (pts+1)) [] R
def kO (R fn n:Nat):DM bD:=cn (dr s 19) fun ad=>cn (dr s 4) fun mk=>cn (kl s) fun o=>cn (jd s n) fun ps=>cn (dr s 2) fun cl=>cn (eY s (decide (mk=0) && decide (n≠0)) cl 5) fun an=>cn (gy s o.1.length R) fun de=>cn (ie 2) fun _=>cn (nH s o.1.length fn 6) fun h=>ret ⟨cU n,100+ad * 50,decide (mk=0) && decide (n≠0),o.1,o.2,ps,an,de,h⟩
def gA (R fn k:Nat):DM (List bD):=il (fun i l=>cn (kO s R fn i) fun g=>ret (l++[g])) [] k
def lA (k:Nat):DM (List eN):=il (fun i l=>cn (dr s 3) fun a=>cn (dr s 4) fun b=>ret (l++[⟨jJ v7 i,0 - a * 100,0,b * 100⟩])) [] k
def l4:List fk:=[⟨0,64,64⟩,⟨0,32,64⟩,⟨-64,-64,0⟩,⟨-1,0,5⟩,⟨10,32,50⟩]
def ix (k:Nat):DM (List fk):=il (fun _ l=>cn (dr s 5) fun z=>ret (l++[l4.getD z.toNat ⟨0,0,0⟩])) [] k
def lh (axes k:Nat):DM (List (List fk)):=il (fun _ l=>cn (ix s axes) fun r=>ret (l++[r])) [] k
def fR (axes:Nat):DM (List (List fk)):=if axes=0 then ret [] else cn (dr s 4) fun n=>lh s axes n.toNat
def j3 (k:Nat):DM (List (List gr)):=il (fun i l=>cn (ie 0) fun _=>cn (nH s 6 i 4) fun h=>ret (l++[h])) [] k
def qS (k:Nat):DM (List Int):=il (fun _ l=>cn (dr s 500) fun z=>ret (l++[z - 100])) [] k
def gc:List Int:=[97,98,99,102,105,108,57345,57346,57601,57602,57603,57857,57861,58113,58114,58369]
def ir (n:Int) (k:Nat):DM (List gu):=il (fun i l=>cn (dr s 4) fun z=>if 0 < z then cn (dr s n) fun g=>ret (l++[⟨gc.getD i 0,g⟩]) else ret l) [] k
def ga:List ByteArray:=[bytes [108,105,103,97],bytes [105,115,111,108],bytes [105,110,105,116],bytes [109,101,100,105],bytes [102,105,110,97],bytes [107,101,114,110],bytes [109,97,114,107],bytes [99,97,108,116]]
def oF (k:Nat):DM (List Int):=il (fun i l=>cn (dr s 3) fun z=>ret (if z=0 then l++[(i:Int)] else l)) [] k
def iu (n:Nat) (k:Nat):DM (List ck):=il (fun i l=>cn (oF s n) fun r=>cn (dr s 2) fun z=>ret (if z=0 then l++[⟨ga.getD i ByteArray.empty,r⟩] else l)) [] k
def nf:List Int:=[1000,1024,100,2048]
def Dj:DM aZ:=cn (dr s 4) fun u=>cn (dr s 3) fun k=>cn (lA s k.toNat) fun ax=>cn (fR s k.toNat) fun rg=>cn (dr s 3) fun k2=>cn (j3 s k2.toNat) fun fu=>cn (dr s 4) fun k3=>cn (qS s k3.toNat) fun cv=>cn (dr s 9) fun k4=>cn (gA s rg.length fu.length (2+k4).toNat) fun gl=>cn (ir s gl.length 16) fun ch=>cn (j6 s gl.length) fun lk=>cn (iu s lk.length 8) fun ft=>ret ⟨nf.getD u.toNat 0,gl,ch,lk,ft,ax,rg,fu,cv⟩
def lg:aZ:=(Dj s ⟨0,0⟩).1
def J2:List Int:=gc++[122]
def K4:List Int:=(s.take 20).map fun z=>J2.getD (z % 17).toNat 0
end
end Go.Proofs.YtpmdfoaadejmkaaGreatDoor
namespace Go.Proofs.YtpmdfoaadejmkaaGreatDoor
open Go.RowKit
attribute [local irreducible] AT bJ AX AO Av Kt bi dq DA cG
structure MF where
 u:AV
 gl:AV
 ch:AV
 lk:AV
 ft:AV
 ax:AV
 rg:AV
 fu:AV
 cv:AV
def IL (s:List Int) (F:MF) (m:MS):List AV:=[.imm 1 (aW s),aF (min m.a s.length:Nat),F.u,F.gl,F.ch,F.lk,F.ft,F.ax,F.rg,F.fu,F.cv,aF (m.lo.val:Nat)]
abbrev eo (b:Nat) (s:List Int) (F:MF) (m:MS):Nat×AB:=(b,.box (IL s F m) 177)
def so (f:FuncId) (args:List AV) (s:List Int) (F:MF) {α:Type} (u:DM α) (out:α→AV):Prop:=∀(b:Nat) (m:MS),AC Tryz.prog f (Eu b::args) [eo b s F m] fun c L=>c=out (u m).1∧L=[eo b s F (u m).2]
theorem FR {x n:Int} (hn:0 < n):(x.tmod n+n).tmod n=x % n:=by
 have h0:=Int.lt_tmod_of_pos x hn
 rw [Int.tmod_eq_emod_of_nonneg (by omega),Int.add_emod_right]
 have h2:(x.tmod n) % n=(x - n * x.tdiv n) % n:=by rw [Int.tmod_def]
 rw [h2,Int.sub_mul_emod_self_left]
set_option maxHeartbeats 1000000 in
theorem oZ (s:List Int) (hs:s.length≤1000000) (F:MF) (n:Int) (hn:0 < n∧n≤1000000):so 89 [aF n] s F (dr s n) aF:=by
 intro b m
 refine aN Tryz.func89 rfl Tryz.ntmps89 rfl fun B=>?_
 have hil:=bb s
 unfold eo
 repeat' (first|refine L3 ?_|refine KG a4 HY ?_)
 refine bn 9 [(0,.v),(1,.v),(2,.v),(3,.l),(4,.v),(5,.v),(6,.v),(7,.l),(8,.v)] none ?_ trivial rfl (by kernel_rfl) (by kernel_rfl) (by kernel_rfl) bI (by kernel_rfl) rfl
 repeat' (first|refine aB ?_|refine aX a4 ?_|refine KY a4 0 KB (by first|trivial|rfl) ?_)
 refine KU [0,1,9,14] HY ?_
 repeat' (first|refine L3 ?_|refine a7 ?_|refine KG a4 HY ?_)
 refine aw rfl (fun h=>?_) (fun h=>?_)
 ·have h1:s.length≤min m.a s.length:=by have:=Ky h;rw [hil] at this;omega
  repeat' (first|refine L3 ?_|refine KG a4 HY ?_)
  refine KP HY ⟨?_,?_⟩
  ·unfold dr tU
   rw [List.getElem?_eq_none (show s.length≤m.a by omega)]
  ·unfold dr IL
   rw [show min m.a s.length=min (m.a+1) s.length by omega]
 have h1:m.a < s.length:=by have:=Kx h;rw [hil] at this;omega
 have h2:min m.a s.length=m.a:=by omega
 obtain ⟨x,hx⟩:∃x,s[m.a]?=some x:=⟨_,Kz h1⟩
 have hxg:=bP hx
 unfold IL
 rw [h2]
 repeat' (first|refine L3 ?_|fail)
 refine bn 8 [(0,.v),(1,.v),(2,.v),(3,.l),(4,.v),(5,.v),(6,.v),(7,.l)] none ?_ trivial rfl (by kernel_rfl) (by kernel_rfl) (by kernel_rfl) bI (by kernel_rfl) rfl
 repeat' (first|refine aB ?_|refine aX a4 ?_|refine KY a4 0 KB (by first|trivial|rfl) ?_)
 refine KU [0,1,19,23] HY ?_
 repeat' (first|refine L3 ?_|refine a7 ?_|refine KG a4 HY ?_|(apply bo;first|refine KM a4 0 KC ?_|refine KM a4 1 KC ?_|refine KM a4 2 KC ?_|refine KM a4 3 KC ?_|refine KN a4 0 KC ?_|refine KN a4 1 KC ?_|refine KN a4 2 KC ?_|refine KO a4 1 KA (by assumption) rfl ?_|refine KO a4 0 KA (by assumption) rfl ?_|fail)|(apply aU;refine aT ?_)|(apply aQ;first|refine aO a4 ?_|refine aG a4 ?_)|(apply aM;first|refine KH a4 0 KE ?_|refine KH a4 1 KE ?_|refine KH a4 2 KE ?_|refine KH a4 3 KE ?_|fail))
 refine GE ?_
 repeat' (first|refine KG a4 HY ?_)
 have hb:=Int.lt_tmod_of_pos x hn.1
 have hb2:=Int.tmod_lt_of_pos x hn.1
 refine aT ?_
 repeat' (first|refine KG a4 HY ?_)
 refine GE ?_
 repeat' (first|refine L3 ?_|refine KG a4 HY ?_)
 refine KP HY ⟨?_,?_⟩
 ·unfold dr tU
  rw [hx,FR hn.1]
 ·unfold dr
  dsimp only
  rw [show min (m.a+1) s.length=m.a+1 by omega]
  rfl
section
variable {r:Option Nat} {ops:Array Oper} {Q:Exit→Act→World→Prop} {nt:Nat} {D:List Deferred} {fr:cf} {B:Bs} {rest:List Oper} {d:Nat} {ty:TypeId} {pos:String} {af:Array Edge} {s:List Int} {F:MF} {b:Nat} {m:MS} {Z:AL} {args:Array Operand} {ts:Array TypeId}
theorem vR {f:FuncId} [bM Tryz.prog f] {α:Type} {u:DM α} {out:α→AV} {az ds:List AV} (hc:so f az s F u out) (h:bJ Tryz.prog r ops Q nt D rest ((d,out (u m).1)::fr) B (eo b s F (u m).2::Z)) (hv:eM fr args.toList=some ds:=by rfl) (hi:mB ds=some (Eu b::az):=by rfl) (hd:Nat.ble nt d=false:=by rfl):bJ Tryz.prog r ops Q nt D (⟨some d,.call ⟨.value (.func f),args,ts⟩,ty,pos,af,none⟩::rest) fr B (eo b s F m::Z):=
 b6 [eo b s F m] Z (hc b m) hv hi (Lz _) hd fun c L1 ⟨h1,h2⟩=>by subst h1;subst h2;exact h
theorem cL {n:Int} (h:bJ Tryz.prog r ops Q nt D rest ((d,aF (dr s n m).1)::fr) B (eo b s F (dr s n m).2::Z)) (hv:eM fr args.toList=some [Eu b,aF n]:=by rfl) (hs:s.length≤1000000:=by assumption) (hn:0 < n∧n≤1000000:=by omega) (hd:Nat.ble nt d=false:=by rfl):bJ Tryz.prog r ops Q nt D (⟨some d,.call ⟨.value (.func 89),args,ts⟩,ty,pos,af,none⟩::rest) fr B (eo b s F m::Z):=
 vR (oZ s hs F n hn) h hv rfl hd
end
section
variable {l:List Oper} {fr:cf} {fin:iH} {sk:lp} {acc:cf} {k:Nat} {dd:Option Tmp} {ty:TypeId} {pos:String} {af:Array Edge} {g:Option (Nat×Bool)} {s:List Int} {F:MF} {b:Nat} {m:MS} {Z:AL} {args:Array Operand} {ts:Array TypeId}
theorem cj {L:AL}:f3 [] L:=fun q hq=>by cases hq
theorem bR {q:Nat×Nat×AV} {gs:KpL} {L:AL} (i:Nat) {cs:List AV} {e:TypeId} (hL:L[i]?=some (q.1,.box cs e)) (hc:cs[q.2.1]?=some q.2.2) (h:f3 gs L):f3 (.cell q::gs) L:=fun p hp=>by
 rcases List.mem_cons.1 hp with rfl | hp
 ·exact show ∃cs e,(q.1,AB.box cs e)∈L∧cs[q.2.1]?=some q.2.2 from ⟨cs,e,Kw hL,hc⟩
 ·exact h p hp
theorem Jn {f:FuncId} [bM Tryz.prog f] {α:Type} {u:DM α} {out:α→AV} {az ds:List AV} (hc:so f az s F u out) (h:DA Tryz.prog l fr fin sk ((k,out (u m).1)::acc) (eo b s F (u m).2::Z)) (hv:eM (cE l.toArray acc fr af.toList) args.toList=some ds:=by rfl) (hi:mB ds=some (Eu b::az):=by rfl) (hg:iO ⟨dd,.call ⟨.value (.func f),args,ts⟩,ty,pos,af,g⟩ acc:=by first | trivial | rfl):cG Tryz.prog l fr fin k .e ⟨dd,.call ⟨.value (.func f),args,ts⟩,ty,pos,af,g⟩ sk acc (eo b s F m::Z):=
 fG [eo b s F m] Z (hc b m) hv hi (Lz _) hg fun c L1 ⟨h1,h2⟩=>by subst h1;subst h2;exact h
theorem sR {f:FuncId} [bM Tryz.prog f] {α:Type} {u:DM α} {out:α→AV} {az ds:List AV} (hc:so f az s F u out) (hK:f3 fin.gs (eo b s F (u m).2::Z)) (h:DA Tryz.prog l fr fin sk ((k,out (u m).1)::acc) (eo b s F (u m).2::Z)) (hv:eM (cE l.toArray acc fr af.toList) args.toList=some ds:=by rfl) (hi:mB ds=some (Eu b::az):=by rfl) (hg:iO ⟨dd,.call ⟨.value (.func f),args,ts⟩,ty,pos,af,g⟩ acc:=by first | trivial | rfl):cG Tryz.prog l fr fin k .f ⟨dd,.call ⟨.value (.func f),args,ts⟩,ty,pos,af,g⟩ sk acc (eo b s F m::Z):=
 yC [eo b s F m] Z (hc b m) hv hi (Lz _) hg (fun c L1 ⟨_,h2⟩ _=>by subst h2;exact hK) fun c L1 ⟨h1,h2⟩=>by subst h1;subst h2;exact h
theorem tS {n:Int} (h:DA Tryz.prog l fr fin sk ((k,aF (dr s n m).1)::acc) (eo b s F (dr s n m).2::Z)) (hv:eM (cE l.toArray acc fr af.toList) args.toList=some [Eu b,aF n]:=by rfl) (hs:s.length≤1000000:=by assumption) (hn:0 < n∧n≤1000000:=by omega) (hg:iO ⟨dd,.call ⟨.value (.func 89),args,ts⟩,ty,pos,af,g⟩ acc:=by first | trivial | rfl):cG Tryz.prog l fr fin k .e ⟨dd,.call ⟨.value (.func 89),args,ts⟩,ty,pos,af,g⟩ sk acc (eo b s F m::Z):=
 Jn (oZ s hs F n hn) h hv rfl hg
theorem eT {n:Int} (hK:f3 fin.gs (eo b s F (dr s n m).2::Z)) (h:DA Tryz.prog l fr fin sk ((k,aF (dr s n m).1)::acc) (eo b s F (dr s n m).2::Z)) (hv:eM (cE l.toArray acc fr af.toList) args.toList=some [Eu b,aF n]:=by rfl) (hs:s.length≤1000000:=by assumption) (hn:0 < n∧n≤1000000:=by omega) (hg:iO ⟨dd,.call ⟨.value (.func 89),args,ts⟩,ty,pos,af,g⟩ acc:=by first | trivial | rfl):cG Tryz.prog l fr fin k .f ⟨dd,.call ⟨.value (.func 89),args,ts⟩,ty,pos,af,g⟩ sk acc (eo b s F m::Z):=
 sR (oZ s hs F n hn) hK h hv rfl hg
end
end Go.Proofs.YtpmdfoaadejmkaaGreatDoor
namespace Go.Proofs.YtpmdfoaadejmkaaGreatDoor
open Go.RowKit
attribute [local irreducible] AT bJ AX AO Av Kt bi dq DA cG
variable (s:List Int) (hs:s.length≤1000000) (F:MF)
include hs
theorem cB (a:Nat) {n:Int} (hn:0 < n):0≤tU s a n∧tU s a n < n:=by
 have _:=hs
 clear hs
 unfold tU
 split
 ·rename_i x _
  exact ⟨Int.emod_nonneg x (by omega),Int.emod_lt_of_pos x hn⟩
 ·omega
def IQ (o:List eS×List Int):AV:= .agg [.imm 3 (o.1.map dR),.imm 1 (aW o.2)]
def k6 (l:List gr):AV:= .imm 2 (l.map fc)
set_option maxHeartbeats 8000000 in
theorem xT (n fn:Int) (hn:0≤n∧n≤10000) (hf:fn≤10000):so 174 [aF n,aF fn] s F (cO s n fn) k6:=by
 intro b m
 refine aN Tryz.func174 rfl Tryz.ntmps174 rfl fun B=>?_
 repeat' (first|refine L3 ?_|refine KG a4 HY ?_|(apply aU;refine aT ?_)|fail)
 refine cL ?_
 repeat' (first|refine L3 ?_|refine KG a4 HY ?_|(apply aU;refine aT ?_)|fail)
 refine cL ?_
 repeat' (first|refine L3 ?_|refine KG a4 HY ?_)
 refine cL ?_
 repeat' (first|refine L3 ?_|refine KG a4 HY ?_)
 refine cL ?_
 generalize e1:dr s (n+1) m=p1
 generalize e2:dr s (n+1) p1.2=p2
 generalize e3:dr s 2 p2.2=p3
 have hk:=cB s hs p3.2.a (n:=12) (by omega)
 have hk:0≤(dr s 12 p3.2).1∧(dr s 12 p3.2).1 < 12:=hk
 generalize e4:dr s 12 p3.2=p4 at hk ⊢
 repeat' (first|refine L3 ?_|refine ak ?_|refine KG a4 HY ?_)
 refine aw rfl (fun h=>?_) (fun h=>?_)
 ·have h:=Ky h
  repeat' (first|refine L3 ?_|refine KG a4 HY ?_|refine bW a4 ?_|fail)
  exact KP HY ⟨by simp [cO,cn,ret,e1,e2,e3,e4,k6,fc,h],by simp [cO,cn,ret,e1,e2,e3,e4,h]⟩
 have h0:=Kx h
 clear h
 repeat' (first|refine L3 ?_|refine KG a4 HY ?_)
 refine aw rfl (fun h=>?_) (fun h=>?_)
 ·have h:=Ky h
  repeat' (first|refine L3 ?_|refine KG a4 HY ?_)
  refine cL ?_
  repeat' (first|refine L3 ?_|refine KG a4 HY ?_|refine bW a4 ?_|fail)
  exact KP HY ⟨by simp [cO,cn,ret,e1,e2,e3,e4,k6,fc,h],by simp [cO,cn,ret,e1,e2,e3,e4,h]⟩
 have h1:=Kx h
 clear h
 repeat' (first|refine L3 ?_|refine KG a4 HY ?_)
 refine aw rfl (fun h=>?_) (fun h=>?_)
 ·have h:=Ky h
  rw [decide_eq_true h]
  repeat' (first|refine L3 ?_|refine KG a4 HY ?_|refine bW a4 ?_|refine bH rfl ?_)
  exact KP HY ⟨by simp [cO,cn,ret,e1,e2,e3,e4,k6,fc,h],by simp [cO,cn,ret,e1,e2,e3,e4,h]⟩
 have h2:=Kx h
 clear h
 repeat' (first|refine L3 ?_|refine KG a4 HY ?_)
 refine aw rfl (fun h=>?_) (fun h=>?_)
 ·have h:=Ky h
  repeat' (first|refine L3 ?_|refine KG a4 HY ?_|refine bW a4 ?_|fail)
  exact KP HY ⟨by simp [cO,cn,ret,e1,e2,e3,e4,k6,fc,h],by simp [cO,cn,ret,e1,e2,e3,e4,h]⟩
 have h3:=Kx h
 clear h
 repeat' (first|refine L3 ?_|refine KG a4 HY ?_)
 refine aw rfl (fun h=>?_) (fun h=>?_)
 ·have h:=Ky h
  repeat' (first|refine L3 ?_|refine KG a4 HY ?_)
  refine cL ?_
  have hz:=cB s hs p4.2.a (n:=200) (by omega)
  have hz:0≤(dr s 200 p4.2).1∧(dr s 200 p4.2).1 < 200:=hz
  repeat' (first|refine L3 ?_|refine KG a4 HY ?_|(apply aU;refine aT ?_)|refine bW a4 ?_|fail)
  exact KP HY ⟨by simp [cO,cn,ret,e1,e2,e3,e4,k6,fc,h],by simp [cO,cn,ret,e1,e2,e3,e4,h]⟩
 have h4:=Kx h
 clear h
 repeat' (first|refine L3 ?_|refine KG a4 HY ?_)
 refine aw rfl (fun h=>?_) (fun h=>?_)
 ·have h:=Ky h
  repeat' (first|refine L3 ?_|refine KG a4 HY ?_|refine bW a4 ?_|fail)
  exact KP HY ⟨by simp [cO,cn,ret,e1,e2,e3,e4,k6,fc,h],by simp [cO,cn,ret,e1,e2,e3,e4,h]⟩
 have h5:=Kx h
 clear h
 repeat' (first|refine L3 ?_|refine KG a4 HY ?_)
 refine aw rfl (fun h=>?_) (fun h=>?_)
 ·have h:=Ky h
  repeat' (first|refine L3 ?_|refine KG a4 HY ?_|refine bW a4 ?_|fail)
  exact KP HY ⟨by simp [cO,cn,ret,e1,e2,e3,e4,k6,fc,h],by simp [cO,cn,ret,e1,e2,e3,e4,h]⟩
 have h6:=Kx h
 clear h
 repeat' (first|refine L3 ?_|refine KG a4 HY ?_)
 refine aw rfl (fun h=>?_) (fun h=>?_)
 ·have h:=Ky h
  repeat' (first|refine L3 ?_|refine KG a4 HY ?_|refine bW a4 ?_|fail)
  exact KP HY ⟨by simp [cO,cn,ret,e1,e2,e3,e4,k6,fc,h],by simp [cO,cn,ret,e1,e2,e3,e4,h]⟩
 have h7:=Kx h
 clear h
 repeat' (first|refine L3 ?_|refine KG a4 HY ?_)
 refine aw rfl (fun h=>?_) (fun h=>?_)
 ·have h:=Ky h
  repeat' (first|refine L3 ?_|refine KG a4 HY ?_)
  refine aw rfl (fun hf0=>?_) (fun hf0=>?_)
  ·have hf0:=Ky hf0
   repeat' (first|refine L3 ?_|refine KG a4 HY ?_)
   refine cL ?_
   repeat' (first|refine L3 ?_|refine KG a4 HY ?_|refine bW a4 ?_|fail)
   exact KP HY ⟨by simp [cO,cn,ret,e1,e2,e3,e4,k6,fc,h,hf0],by simp [cO,cn,ret,e1,e2,e3,e4,h,hf0]⟩
  ·have hf0:=Kx hf0
   repeat' (first|refine L3 ?_|refine KG a4 HY ?_|refine bW a4 ?_|fail)
   exact KP HY ⟨by simp [cO,cn,ret,e1,e2,e3,e4,k6,fc,hH,h,hf0],by simp [cO,cn,ret,e1,e2,e3,e4,hH,h,hf0]⟩
 have h8:=Kx h
 clear h
 repeat' (first|refine L3 ?_|refine KG a4 HY ?_)
 refine aw rfl (fun h=>?_) (fun h=>?_)
 ·have h:=Ky h
  by_cases hf0:0 < fn
  ·repeat' (first|refine L3 ?_|refine KG a4 HY ?_)
   rw [decide_eq_true hf0]
   repeat' (first|refine L3 ?_|refine KG a4 HY ?_|refine KR HY ?_|(apply bo;first|refine KM a4 0 KC ?_|refine KM a4 1 KC ?_|refine KM a4 2 KC ?_|refine KM a4 3 KC ?_|refine KN a4 0 KC ?_|refine KN a4 1 KC ?_|refine KN a4 2 KC ?_|refine KO a4 1 KA (by assumption) rfl ?_|refine KO a4 0 KA (by assumption) rfl ?_|fail)|fail)
   refine aw rfl (fun hl=>?_) (fun hl=>?_)
   ·have hl:=Ky hl
    repeat' (first|refine L3 ?_|refine KG a4 HY ?_|(apply bo;first|refine KM a4 0 KC ?_|refine KM a4 1 KC ?_|refine KM a4 2 KC ?_|refine KM a4 3 KC ?_|refine KN a4 0 KC ?_|refine KN a4 1 KC ?_|refine KN a4 2 KC ?_|refine KO a4 1 KA (by assumption) rfl ?_|refine KO a4 0 KA (by assumption) rfl ?_|fail)|(apply aU;refine aT ?_)|(apply aM;first|refine KH a4 0 KE ?_|refine KH a4 1 KE ?_|refine KH a4 2 KE ?_|refine KH a4 3 KE ?_|fail))
    have hlt:=p4.2.lo.isLt
    have hlz:0 < p4.2.lo.val:=by omega
    have hcell:((p4.2.lo.val:Nat):Int) - 1=((p4.2.lo.val - 1:Nat):Int):=by omega
    rw [hcell]
    change bJ _ _ _ _ _ _ _ _ _ [eo b s F (ID p4.2).2]
    repeat' (first|fail)
    refine cL ?_
    repeat' (first|refine KG a4 HY ?_)
    refine cL ?_
    repeat' (first|refine L3 ?_|refine KG a4 HY ?_|refine bW a4 ?_|fail)
    exact KP HY ⟨by simp [cO,cn,ret,e1,e2,e3,e4,k6,fc,h,hf0,rk,hlz],by simp [cO,cn,ret,e1,e2,e3,e4,h,hf0,rk,hlz]⟩
   ·have hl:=Kx hl
    have hl0:p4.2.lo.val=0:=by omega
    repeat' (first|refine L3 ?_|refine KG a4 HY ?_|refine bW a4 ?_|fail)
    exact KP HY ⟨by simp [cO,cn,ret,e1,e2,e3,e4,k6,fc,hH,h,hf0,rk,hl0],by simp [cO,cn,ret,e1,e2,e3,e4,hH,h,hf0,rk,hl0]⟩
  ·repeat' (first|refine L3 ?_|refine KG a4 HY ?_)
   rw [decide_eq_false hf0]
   repeat' (first|refine L3 ?_|refine KG a4 HY ?_|refine KV KB ?_|refine bW a4 ?_|refine bE rfl ?_)
   exact KP HY ⟨by simp [cO,cn,ret,e1,e2,e3,e4,k6,fc,hH,h,hf0],by simp [cO,cn,ret,e1,e2,e3,e4,hH,h,hf0]⟩
 have h9:=Kx h
 clear h
 repeat' (first|refine L3 ?_|refine KG a4 HY ?_)
 refine aw rfl (fun h=>?_) (fun h=>?_)
 ·have h:=Ky h
  repeat' (first|refine L3 ?_|refine KG a4 HY ?_|refine bW a4 ?_|fail)
  exact KP HY ⟨by simp [cO,cn,ret,e1,e2,e3,e4,k6,fc,h],by simp [cO,cn,ret,e1,e2,e3,e4,h]⟩
 have h10:=Kx h
 clear h
 repeat' (first|refine L3 ?_|refine KG a4 HY ?_|refine bW a4 ?_|fail)
 exact KP HY ⟨by simp [cO,cn,ret,e1,e2,e3,e4,k6,fc,hH,h0,h1,h2,h3,h4,h5,h6,h7,h8,h9,h10],by simp [cO,cn,ret,e1,e2,e3,e4,hH,h0,h1,h2,h3,h4,h5,h6,h7,h8,h9,h10]⟩
end Go.Proofs.YtpmdfoaadejmkaaGreatDoor
