/-
  The rows of a lookup's rules: the walk.
-/
import Derived.Test.YtpmdfoaadejmkaaGreatDoorM16
import Derived.Test.YtpmdfoaadejmkaaGreatDoorM12
import Derived.Test.YtpmdfoaadejmkaaGreatDoorM13
namespace Go.Proofs.YtpmdfoaadejmkaaGreatDoor
open Go.RowKit
attribute [local irreducible] AT bJ AX AO Av Kt bi dq DA cG
abbrev wX (rs:List bh) (cls:List Int):List AV:=[.imm 6 (rs.map bC),.imm 1 (aW cls)]
def kP (w:bh→List (List Int)×Bool) (rs:List bh) (n:Nat):Bool:=match rs[n]? with
 | some r=>(w r).2
 | none=>false
def rQ (w:bh→List (List Int)×Bool) (rs:List bh) (cls:List Int):RD:=⟨rs.map fun r=>(w r).1,cx (kP w rs) rs.length,cls,(gO cls).toNat⟩
theorem xZ (l:List (List (List Int))) (r:List (List Int)):kp l++[[.imm 1 (bc r)]]=kp (l++[r]):=by simp [kp]
theorem xI {l:List Int} {k:Nat} {z:Int} (h:l[k]?=some z):gO (l.take (k+1))=max (gO (l.take k)) (z+1):=by
 unfold gO
 rw [List.take_add_one,h]
 simp
set_option maxHeartbeats 8000000 in
theorem qQ (w:bh→List (List Int)×Bool) (u:AV) (rs:List bh) (hrs:rs.length≤6) (hw:∀r∈rs,jm Tryz.prog u [.agg (bC r)] [] fun c _=>c= .tup [.imm 1 (bc (w r).1),d6 (w r).2]) (cls:List Int) (hcl:∀z∈cls,0≤z∧z≤1000000) (hcl2:cls.length≤1000000):AC Tryz.prog 183 [.agg (wX rs cls),u] [] fun c L=>∃rb,c=dA rb∧L=fp (rQ w rs cls) rb 0 none:=by
 refine aN Tryz.func183 rfl Tryz.ntmps183 rfl fun B=>?_
 have hrl:(rs.map bC).length=rs.length:=Ku ..
 have hil:=bb cls
 repeat' (first|refine L3 ?_|refine ak ?_|refine KG a4 HY ?_|refine te (d:=15) fun _=>?_|refine bA ?_|fail)
 rename_i rb
 refine c8 (bG 0 (cs':=[.vec none 1 [],jS 0,.imm 1 (aW cls),aF 0,.vec none 2 []]) rfl fun σ vs h=>mE.vrs (a:=[.sc (.slice none 0 0),jS 0,.imm 1 (aW cls),aF 0,.sc (.slice none 0 0)]) (b:=[.vec none 1 [],jS 0,.imm 1 (aW cls),aF 0,.vec none 2 []]) ⟨fun σ v h=>d5 1 h,da.refl _,da.refl _,da.refl _,fun σ v h=>d5 2 h,trivial⟩ h) ?_
 refine aR [1,2,5,17,18] (α:=Nat×Option (Nat×Nat)) (fun s=>[(19,aF s.1)]) (fun s=>s.1≤rs.length) (fun s=>(rb,.box [.vec s.2 1 (kp ((rs.take s.1).map fun r=>(w r).1)),jS (cx (kP w rs) s.1),.imm 1 (aW cls),aF 0,.vec none 2 []] 268)::tok s.2 45 1 s.1) (fun s=>rs.length - s.1) (0,none) rfl ⟨rfl,trivial⟩ (Nat.zero_le _) (fun _ _ h=>h) ?_
 ·rintro ⟨n,q⟩ hn
  dsimp only at hn ⊢
  try dsimp only [Kr,Kq,Kp,Lv]
  repeat' (first|refine L3 ?_|refine KG a4 HY ?_)
  refine aw rfl (fun h1=>?_) (fun h1=>?_)
  ·have hn2:n < rs.length:=by have:=Ky h1;omega
   obtain ⟨r,hr⟩:∃z,rs[n]?=some z:=⟨_,Kz hn2⟩
   have hrg:(rs.map bC)[n]?=some (bC r):=by simp [hr]
   have hwr:=hw r (Kw hr)
   have htk:((rs.take (n+1)).map fun r=>(w r).1)=((rs.take n).map fun r=>(w r).1)++[(w r).1]:=by rw [List.take_add_one,hr];simp
   have hbit:cx (kP w rs) (n+1)=cx (kP w rs) n ||| (if (w r).2=true then 2 ^ n else 0):=by
    rw [cx]
    unfold kP
    rw [hr]
   have hml:(kp ((rs.take n).map fun r=>(w r).1)).length=n:=by rw [to,Ku,List.length_take];omega
   have hsn:=xZ ((rs.take n).map fun r=>(w r).1) (w r).1
   rw [←htk] at hsn
   have hb1:=oH (p:=kP w rs) (n:=n) (by omega)
   have hb2:=Gv (n:=n) (by omega)
   have hub:=zn n (by omega)
   generalize kp ((rs.take n).map fun r=>(w r).1)=l3 at *
   clear h1
   repeat' (first|refine L3 ?_|refine ak ?_|refine KG a4 HY ?_|(apply aQ;first|refine aO a4 ?_|refine aG a4 ?_)|(apply aM;first|refine KL 7 a4 0 KF ?_|refine KL 7 a4 1 KF ?_|refine KL 7 a4 2 KF ?_|refine KH a4 0 KE ?_|refine KH a4 1 KE ?_|refine KH a4 2 KE ?_|refine KH a4 3 KE ?_|fail)|refine bq a4 fun _=>?_|fail)
   refine jB [] ((rb,.box [.vec q 1 l3,jS (cx (kP w rs) n),.imm 1 (aW cls),aF 0,.vec none 2 []] 268)::tok q 45 1 n) hwr rfl rfl (Lz _) rfl rfl fun c L1 hc=>?_
   subst hc
   refine aP (c6 (List.sublist_append_right ..)) ?_
   repeat' (first|refine L3 ?_|refine KG a4 HY ?_|(apply bo;first|refine KM a4 0 KC ?_|refine KM a4 1 KC ?_|refine KM a4 2 KC ?_|refine KM a4 3 KC ?_|refine KN a4 0 KC ?_|refine KN a4 1 KC ?_|refine KN a4 2 KC ?_|refine KO a4 1 KA (by assumption) rfl ?_|refine KO a4 0 KA (by assumption) rfl ?_|fail)|refine bW a4 ?_|fail)
   refine bV a4 [(rb,.box [.vec q 1 l3,jS (cx (kP w rs) n),.imm 1 (aW cls),aF 0,.vec none 2 []] 268)] rfl rfl rfl rfl (by rw [hml];exact List.perm_append_comm (l₁:=[_])) (by rw [hml];simp;omega) (by rw [hml];simp;omega) rfl fun q'=>?_
   refine aP (aI (L':=(rb,.box [.vec q 1 l3,jS (cx (kP w rs) n),.imm 1 (aW cls),aF 0,.vec none 2 []] 268)::tok q' 45 1 (n+1)) (by rw [List.length_append,hml];exact List.perm_append_comm (l₂:=[_]))) ?_
   repeat' (first|refine L3 ?_|refine KG a4 HY ?_|(apply aM;first|refine KL 7 a4 0 KF ?_|refine KL 7 a4 1 KF ?_|refine KL 7 a4 2 KF ?_|refine KH a4 0 KE ?_|refine KH a4 1 KE ?_|refine KH a4 2 KE ?_|refine KH a4 3 KE ?_|fail))
   refine aw rfl (fun h1=>?_) (fun h1=>?_)
   ·rw [if_pos h1] at hbit
    repeat' (first|fail)
    refine bn 6 [(0,.v),(1,.v),(2,.v),(3,.l),(4,.v),(5,.v)] none ?_ trivial rfl (by kernel_rfl) (by kernel_rfl) (by kernel_rfl) bI (by kernel_rfl) rfl
    repeat' (first|refine aB ?_|refine aX a4 ?_|refine KY a4 0 KB (by first|trivial|rfl) ?_)
    refine xe n rfl rfl rfl trivial ?_
    repeat' (first|fail)
    refine KU [1,2,5,17,18,19,41,44,46] HY ?_
    refine ud rfl rfl rfl ?_
    rw [hub,u64_or_nat _ _ hb1 hb2,←hbit]
    repeat' (first|refine L3 ?_|refine KG a4 HY ?_|(apply aU;refine aT ?_)|(apply aM;first|refine KL 7 a4 0 KF ?_|refine KL 7 a4 1 KF ?_|refine KL 7 a4 2 KF ?_|refine KH a4 0 KE ?_|refine KH a4 1 KE ?_|refine KH a4 2 KE ?_|refine KH a4 3 KE ?_|fail))
    exact aD (n+1,q') rfl ⟨by rw [Kv];rfl,trivial⟩ hn2 (by dsimp only;omega) (fun _ _ h=>by dsimp only;rw [←hsn];exact h)
   ·rw [if_neg (by rw [h1];decide),Nat.or_zero] at hbit
    repeat' (first|refine L3 ?_|refine KG a4 HY ?_|(apply aU;refine aT ?_)|fail)
    exact aD (n+1,q') rfl ⟨by rw [Kv];rfl,trivial⟩ hn2 (by dsimp only;omega) (fun _ _ h=>by dsimp only;rw [←hsn,hbit];exact h)
  ·have hn2:n=rs.length:=by have:=Kx h1;omega
   subst hn2
   rw [List.take_length]
   clear h1
   repeat' (first|refine L3 ?_|refine ak ?_|refine KG a4 HY ?_)
   refine aR [5,52,53] (α:=Nat) (fun k=>[(54,aF k)]) (fun k=>k≤cls.length) (fun k=>(rb,.box [.vec q 1 (kp (rs.map fun r=>(w r).1)),jS (cx (kP w rs) rs.length),.imm 1 (aW cls),aF (gO (cls.take k)),.vec none 2 []] 268)::tok q 45 1 rs.length) (fun k=>cls.length - k) 0 rfl ⟨rfl,trivial⟩ (Nat.zero_le _) (fun _ _ h=>h) fun k hk=>?_
   try dsimp only [Kr,Kq,Kp,Lv]
   repeat' (first|refine L3 ?_|refine KG a4 HY ?_)
   refine aw rfl (fun h1=>?_) (fun h1=>?_)
   ·have hk2:k < cls.length:=by have:=Ky h1;omega
    obtain ⟨z,hz⟩:∃z,cls[k]?=some z:=⟨_,Kz hk2⟩
    have hzg:=bP hz
    have hzb:=hcl z (Kw hz)
    have hmc:=xI hz
    clear h1
    repeat' (first|refine L3 ?_|refine ak ?_|refine KG a4 HY ?_|(apply bo;first|refine KM a4 0 KC ?_|refine KM a4 1 KC ?_|refine KM a4 2 KC ?_|refine KM a4 3 KC ?_|refine KN a4 0 KC ?_|refine KN a4 1 KC ?_|refine KN a4 2 KC ?_|refine KO a4 1 KA (by assumption) rfl ?_|refine KO a4 0 KA (by assumption) rfl ?_|fail)|(apply aU;refine aT ?_)|(apply aQ;first|refine aO a4 ?_|refine aG a4 ?_)|(apply aM;first|refine KL 7 a4 0 KF ?_|refine KL 7 a4 1 KF ?_|refine KL 7 a4 2 KF ?_|refine KH a4 0 KE ?_|refine KH a4 1 KE ?_|refine KH a4 2 KE ?_|refine KH a4 3 KE ?_|fail))
    exact aD (k+1) rfl ⟨by rw [Kv];rfl,trivial⟩ hk2 (by omega) (fun _ _ h=>by rw [hmc];exact h)
   ·have hk2:k=cls.length:=by have:=Kx h1;omega
    subst hk2
    rw [List.take_length]
    clear h1
    repeat' (first|refine L3 ?_|refine KG a4 HY ?_)
    have hC:(gO cls)=(((gO cls).toNat:Nat):Int):=by have:=(rp (l:=cls) (m:=0)).1;unfold gO;omega
    refine bj (bG 0 (cs':=EU (rQ w rs cls) (.vec none 2 (AA (rQ w rs cls) 0))) rfl fun σ vs h=>mE.vrs (a:=[.vec q 1 (kp (rs.map fun r=>(w r).1)),jS (cx (kP w rs) rs.length),.imm 1 (aW cls),aF (gO cls),.vec none 2 []]) (b:=EU (rQ w rs cls) (.vec none 2 (AA (rQ w rs cls) 0))) ⟨fun σ v h=>VR.im h,da.refl _,da.refl _,by unfold rQ;dsimp only;rw [←hC];exact da.refl _,da.refl _,trivial⟩ h) ?_
    refine dH (L':=fp (rQ w rs cls) rb 0 none) (List.sublist_append_left [_] _) ?_
    exact KP HY ⟨rb,rfl,rfl⟩
def pt (r:bh):List (List Int)×Bool:=(dZ r, !r.In.isEmpty)
def qJ (r:bh):List (List Int)×Bool:=(r.Back,true)
structure BK (rs:List bh) (cls:List Int):Prop where
 few:rs.length≤6
 dom:∀z∈cls,0≤z∧z≤1000000
 len:cls.length≤1000000
 rows:∀r∈rs,r.In.length≤1000000∧r.Ahead.length≤1000000
theorem CR {rs:List bh} {cls:List Int} (h:BK rs cls):AC Tryz.prog 100 [.agg (wX rs cls)] [] fun c L=>∃rb,c=dA rb∧L=fp (rQ pt rs cls) rb 0 none:=by
 refine aN Tryz.func100 rfl Tryz.ntmps100 rfl fun B=>?_
 have hc:=qQ pt (.sc (.func (.func 184) #[] #[])) rs h.few (fun r hr=>jm.fn0 (f:=184) (by rw [List.append_nil];exact Ah r (h.rows r hr).1 (h.rows r hr).2)) cls h.dom h.len
 repeat' (first|refine L3 ?_|refine KG a4 HY ?_|refine bA ?_|fail)
 refine b6 [] [] hc rfl rfl (Lz _) rfl fun c L1 ⟨rb,hc1,hL⟩=>?_
 subst hc1;subst hL
 repeat' (first|refine L3 ?_|refine KG a4 HY ?_)
 exact KP HY ⟨rb,rfl,by rw [List.append_nil]⟩
theorem Ce {rs:List bh} {cls:List Int} (h:BK rs cls):AC Tryz.prog 101 [.agg (wX rs cls)] [] fun c L=>∃rb,c=dA rb∧L=fp (rQ qJ rs cls) rb 0 none:=by
 refine aN Tryz.func101 rfl Tryz.ntmps101 rfl fun B=>?_
 have hc:=qQ qJ (.sc (.func (.func 185) #[] #[])) rs h.few (fun r _=>jm.fn0 (f:=185) (by rw [List.append_nil];exact zK r)) cls h.dom h.len
 repeat' (first|refine L3 ?_|refine KG a4 HY ?_|refine bA ?_|fail)
 refine b6 [] [] hc rfl rfl (Lz _) rfl fun c L1 ⟨rb,hc1,hL⟩=>?_
 subst hc1;subst hL
 repeat' (first|refine L3 ?_|refine KG a4 HY ?_)
 exact KP HY ⟨rb,rfl,by rw [List.append_nil]⟩
structure SS where
 M:List Pl
 q:Option (Nat×Nat)
 k:Nat
 qr:Option (Nat×Nat)
abbrev nE (R:RD) (nb kb mb rb:Nat) (s:SS) (X:AL):AL:=(nb,.box [.sc (.map (some kb))] 129)::(kb,dc .string (uC s.M))::(mb,.box [.vec s.q 2 (s.M.map mU)] 259)::rT R rb s.k s.qr::(tok s.q 261 2 s.M.length++(tok s.qr 330 2 s.k++X))
theorem u0 {R:RD} {nb kb mb rb:Nat} {s:SS} {X:AL}:(nE R nb kb mb rb s X).Perm (uc nb kb mb s.M s.q++(rT R rb s.k s.qr::(tok s.qr 330 2 s.k++X))):=by
 unfold uc
 refine List.Perm.cons _ (List.Perm.cons _ (List.Perm.cons _ ?_))
 exact (List.perm_middle (l₁:=tok s.q 261 2 s.M.length)).symm
theorem nF {R:RD} {nb kb mb rb:Nat} {s:SS} {X:AL}:(nE R nb kb mb rb s X).Perm (fp R rb s.k s.qr++((nb,.box [.sc (.map (some kb))] 129)::(kb,dc .string (uC s.M))::(mb,.box [.vec s.q 2 (s.M.map mU)] 259)::(tok s.q 261 2 s.M.length++X))):=by
 have h1:(nE R nb kb mb rb s X).Perm (rT R rb s.k s.qr::([(nb,.box [.sc (.map (some kb))] 129),(kb,dc .string (uC s.M)),(mb,.box [.vec s.q 2 (s.M.map mU)] 259)]++(tok s.q 261 2 s.M.length++(tok s.qr 330 2 s.k++X)))):=List.perm_middle (l₁:=[_,_,_])
 refine h1.trans (List.Perm.cons _ ?_)
 rw [←List.append_assoc]
 refine (List.perm_append_comm_assoc _ (tok s.qr 330 2 s.k) X).trans ?_
 rw [List.append_assoc]
 exact Lz _
theorem vA {R:RD} {nb kb mb rb:Nat} {s:SS} {X:AL} {a:Nat×AB}:(a::nE R nb kb mb rb s X).Perm (uc nb kb mb s.M s.q++(a::rT R rb s.k s.qr::(tok s.qr 330 2 s.k++X))):=(List.Perm.cons a u0).trans List.perm_middle.symm
theorem vB {R:RD} {nb kb mb rb:Nat} {s:SS} {X:AL} {a:Nat×AB}:(a::nE R nb kb mb rb s X).Perm (fp R rb s.k s.qr++(a::(nb,.box [.sc (.map (some kb))] 129)::(kb,dc .string (uC s.M))::(mb,.box [.vec s.q 2 (s.M.map mU)] 259)::(tok s.q 261 2 s.M.length++X))):=(List.Perm.cons a nF).trans List.perm_middle.symm
theorem JE {a b c:Nat×AB} {X:AL}:(a::b::c::X).Perm (b::c::a::X):=(List.Perm.swap b a _).trans (.cons b (List.Perm.swap c a _))
theorem JH {A T1 T2 T R:AL}:(A++(T1++(T2++(T++R)))).Perm (T++(A++(T1++(T2++R)))):=by
 rw [←List.append_assoc T1,←List.append_assoc A,←List.append_assoc T1 T2 R,←List.append_assoc A (T1++T2) R]
 exact List.perm_append_comm_assoc ..
theorem JI {A T1 T2 T3 T4:AL}:(A++(T1++(T2++(T3++T4)))).Perm (T4++(A++(T1++(T2++T3)))):=by
 rw [←List.append_assoc T2,←List.append_assoc T1,←List.append_assoc A]
 exact List.perm_append_comm
abbrev IB (R:RD) (nb kb mb rb:Nat) (s:SS):AL:=[(nb,.box [.sc (.map (some kb))] 129),(kb,dc .string (uC s.M)),(mb,.box [.vec s.q 2 (s.M.map mU)] 259),rT R rb s.k s.qr]
theorem yO {R:RD} {nb kb mb rb:Nat} {s:SS} {T X:AL}:(nE R nb kb mb rb s (T++X)).Perm (T++nE R nb kb mb rb s X):=JH (A:=IB R nb kb mb rb s)
theorem yN {R:RD} {nb kb mb rb:Nat} {s:SS} {T X:AL}:(nE R nb kb mb rb s (T++X)).Perm (X++nE R nb kb mb rb s T):=JI (A:=IB R nb kb mb rb s)
structure JS where
 s:SS
 tab:List (List Int)
 qt:Option (Nat×Nat)
 ends:List Nat
 qe:Option (Nat×Nat)
abbrev Kj (t:JS):AL:=tok t.qt 22 1 t.tab.length++tok t.qe 246 1 t.ends.length
theorem pA {M:List Pl} {n:Nat} {p:Pl} (h:M[n]?=some p):(M.map mU)[n]?=some (mU p):=by simp [h]
structure BL (R:RD) (hv:Nat→Bool) (Lb:Nat):Prop where
 ok:BH R
 has:R.have_=cx hv R.rows.length
 long:∀r∈R.rows,r.length≤Lb
 few:Lb≤200
theorem BL.small {R:RD} {hv:Nat→Bool} {Lb:Nat} (h:BL R hv Lb) {M:List Pl} (hs:jR R.rows hv Lb M):(∀x∈M,lx x)∧M.length≤20000:=by
 have hf:=h.few
 have hr:=h.ok.few
 have h64:2 ^ R.rows.length≤64:=Nat.pow_le_pow_right (n:=2) (by omega) hr
 constructor
 ·intro x hx
  obtain ⟨h1,h2⟩:=hs.small x hx
  exact ⟨by omega,by omega⟩
 ·have:=hs.few
  have h3:(Lb+1) * 2 ^ R.rows.length≤201 * 64:=Nat.mul_le_mul (by omega) h64
  omega
set_option maxHeartbeats 16000000 in
theorem tz (R:RD) (hv:Nat→Bool) (Lb:Nat) (h:BL R hv Lb) (u:AV) (hu:jm Tryz.prog u [] [] fun c L=>∃rb,c=dA rb∧L=fp R rb 0 none):AC Tryz.prog 99 [u] [] fun c _=>∃tab ends,sI R.cls R.rows hv R.C tab ends∧c= .tup [.imm 1 (bc tab),.imm 1 (gJ ends),d6 true]:=by
 refine aN Tryz.func99 rfl Tryz.ntmps99 rfl fun B=>?_
 repeat' (first|refine L3 ?_|refine KG a4 HY ?_)
 refine jB [] [] hu rfl rfl (Lz _) rfl rfl fun c L1 ⟨rb,hc,hL⟩=>?_
 subst hc;subst hL
 repeat' (first|refine L3 ?_|refine KG a4 HY ?_)
 refine gj .string fun kb=>?_
 repeat' (first|refine L3 ?_|refine KG a4 HY ?_|(apply aM;first|refine KL 12 a4 0 KF ?_|refine KL 12 a4 1 KF ?_|refine KL 12 a4 2 KF ?_|refine KH a4 0 KE ?_|refine KH a4 1 KE ?_|refine KH a4 2 KE ?_|refine KH a4 3 KE ?_|fail)|refine bq a4 fun _=>?_|fail)
 rename_i nb mb
 have hok:=h.ok
 obtain ⟨hCm,hNm⟩:=hok.many
 refine aP (bG 0 (cs':=[.vec none 2 []]) rfl fun σ vs hh=>mE.vrs (a:=[.sc (.slice none 0 0)]) (b:=[.vec none 2 []]) ⟨fun σ v h=>d5 2 h,trivial⟩ hh) ?_
 refine aP (aI (L':=nE R nb kb mb rb ⟨[],none,0,none⟩ []) (by unfold nE;rw [G9];exact JE)) ?_
 refine b6 (fp R rb 0 none) _ (B3 R rb 0 none (by omega)) rfl rfl nF rfl fun c L1 ⟨hc,k0,qr0,hk0,hL⟩=>?_
 subst hc;subst hL
 refine aP (aI (L':=nE R nb kb mb rb ⟨[],none,k0,qr0⟩ []) (nF (s:=⟨[],none,k0,qr0⟩)).symm) ?_
 have hst0:jR R.rows hv Lb [((0,R.have_):Pl)]:=by
  have:=jR.start (rows:=R.rows) (have_:=hv) (L:=Lb)
  unfold mX at this
  rwa [←h.has] at this
 have hsm0:=(h.small hst0).1 (0,R.have_) (by simp)
 have hme0:=yY nb kb mb [] (fun x hx=>by cases hx) (by simp) none (0,R.have_) hsm0
 repeat' (first|fail)
 refine jB (uc nb kb mb [] none) _ (jm.fn (f:=178) (caps:=[dA nb,dA mb]) hme0) rfl rfl u0 rfl rfl fun c L1 ⟨hc,q0,hL⟩=>?_
 subst hc;subst hL
 refine aP (aI (L':=nE R nb kb mb rb ⟨[(0,R.have_)],q0,k0,qr0⟩ []) (u0 (s:=⟨[(0,R.have_)],q0,k0,qr0⟩)).symm) ?_
 repeat' (first|refine L3 ?_|refine ak ?_|refine KG a4 HY ?_)
 refine c8 (bS (t:=2) (c':= .vec none 1 (bc [])) rfl fun σ v h=>d5 1 h) ?_
 refine c8 (bS (t:=3) (c':= .vec none 1 (gJ [])) rfl fun σ v h=>d5 1 h) ?_
 refine aR [5,7,8] (α:=JS) (fun t=>[(9,aF t.tab.length),(2,.vec t.qt 1 (bc t.tab)),(3,.vec t.qe 1 (gJ t.ends))]) (fun t=>jR R.rows hv Lb t.s.M∧gT R.cls R.rows R.C t.s.M t.tab t.ends∧t.tab.length≤t.s.M.length∧t.s.k≤1000001) (fun t=>nE R nb kb mb rb t.s (Kj t)) (fun t=>20000 - t.tab.length) ⟨⟨[(0,R.have_)],q0,k0,qr0⟩,[],none,[],none⟩ rfl ⟨rfl,rfl,rfl,trivial⟩ ⟨hst0,gT.nil,Nat.zero_le _,hk0⟩ (fun _ _ hh=>hh) ?_
 rintro ⟨⟨M,q,k,qr⟩,tab,qt,ends,qe⟩ ⟨hst,htb,htl,hk⟩
 dsimp only at hst htb htl hk ⊢
 try dsimp only [Kr,Kq,Kp,Lv]
 have hml:(M.map mU).length=M.length:=Ku ..
 obtain ⟨hsm,hM2⟩:=h.small hst
 repeat' (first|refine L3 ?_|refine KG a4 HY ?_|(apply bo;first|refine KM a4 0 KC ?_|refine KM a4 1 KC ?_|refine KM a4 2 KC ?_|refine KM a4 3 KC ?_|refine KN a4 0 KC ?_|refine KN a4 1 KC ?_|refine KN a4 2 KC ?_|refine KO a4 1 KA (by assumption) rfl ?_|refine KO a4 0 KA (by assumption) rfl ?_|fail)|fail)
 refine aw rfl (fun h1=>?_) (fun h1=>?_)
 ·have hn2:tab.length < M.length:=by have h1':(tab.length:Int) < ((M.map mU).length:Int):=Ky h1;omega
  obtain ⟨p,hp⟩:∃p,M[tab.length]?=some p:=⟨_,Kz hn2⟩
  clear h1
  repeat' (first|refine L3 ?_|refine ak ?_|refine KG a4 HY ?_|(apply bo;first|refine KM a4 0 KC ?_|refine KM a4 1 KC ?_|refine KM a4 2 KC ?_|refine KM a4 3 KC ?_|refine KN a4 0 KC ?_|refine KN a4 1 KC ?_|refine KN a4 2 KC ?_|refine KO a4 1 KA (by assumption) rfl ?_|refine KO a4 0 KA (by assumption) rfl ?_|fail)|fail)
  refine j9 a4 R.C rfl rfl rfl rfl rfl rfl rfl (by omega) (by omega) rfl fun rwb=>?_
  rw [show (List.replicate R.C (List.map AV.sc [Value.int .i64 0])).flatten=dS (List.replicate R.C 0) from pp R.C]
  repeat' (first|refine L3 ?_|refine ak ?_|refine KG a4 HY ?_)
  refine aR [2,3,5,7,8,9,10,33] (α:=Nat×SS×List Int) (fun t=>[(34,aF t.1)]) (fun t=>t.1≤R.C∧jR R.rows hv Lb t.2.1.M∧gT R.cls R.rows R.C t.2.1.M tab ends∧t.2.1.M[tab.length]?=some p∧t.2.2.length=R.C∧t.2.1.k≤1000001∧∀(c:Nat) z,c < t.1→t.2.2[c]?=some z→jE R.cls R.rows t.2.1.M p c z) (fun t=>(rwb,.box (dS t.2.2) 3)::nE R nb kb mb rb t.2.1 (tok qt 22 1 tab.length++tok qe 246 1 ends.length)) (fun t=>R.C - t.1) (0,⟨M,q,k,qr⟩,List.replicate R.C 0) rfl ⟨rfl,trivial⟩ ⟨Nat.zero_le _,hst,htb,hp,by simp,hk,fun c z hc=>by omega⟩ (fun _ _ hh=>hh) ?_
  ·rintro ⟨c,⟨M1,q1,k1,qr1⟩,f9⟩ ⟨hc,hst1,htb1,hp1,hrl,hk1,hce⟩
   dsimp only at hc hst1 htb1 hp1 hrl hk1 hce ⊢
   try dsimp only [Kr,Kq,Kp,Lv]
   have hcl:=iU f9
   obtain ⟨hsm1,hM1⟩:=h.small hst1
   repeat' (first|refine L3 ?_|refine KG a4 HY ?_)
   refine aw rfl (fun h1=>?_) (fun h1=>?_)
   ·have hc2:c < R.C:=by have:=Ky h1;omega
    have hpg:=pA hp1
    have hps:=hst1.small p (Kw hp1)
    have hps2:=hsm1 p (Kw hp1)
    have hbe:=zM R hok rb k1 qr1 hk1 p (by have:=hps2.1;omega) (by have:=hps2.2;omega) c hc2
    have hst':=iV (l:=f9) (i:=c) (z:= -1)
    clear h1
    repeat' (first|refine L3 ?_|refine ak ?_|refine KG a4 HY ?_|(apply aQ;first|refine aO a4 ?_|refine aG a4 ?_)|fail)
    refine KZ a4 0 KD (Nat.ble_eq_true_of_le (by rw [hcl,hrl,Int.toNat_natCast];show 0+c * 1+1≤_;omega)) ?_
    rw [hst']
    refine a7 ?_
    refine a6 ?_
    refine c8 (aI (L':=(rwb,.box (dS (f9.set c (-1))) 3)::nE R nb kb mb rb ⟨M1,q1,k1,qr1⟩ (tok qt 22 1 tab.length++tok qe 246 1 ends.length)) (Lz _)) ?_
    repeat' (first|refine L3 ?_|refine KG a4 HY ?_|(apply bo;first|refine KM a4 0 KC ?_|refine KM a4 1 KC ?_|refine KM a4 2 KC ?_|refine KM a4 3 KC ?_|refine KN a4 0 KC ?_|refine KN a4 1 KC ?_|refine KN a4 2 KC ?_|refine KO a4 1 KA (by assumption) rfl ?_|refine KO a4 0 KA (by assumption) rfl ?_|fail)|(apply aQ;first|refine aO a4 ?_|refine aG a4 ?_)|fail)
    refine b6 (fp R rb k1 qr1) _ hbe rfl rfl vB rfl fun c1 L1 ⟨hc1,k2,qr2,hk2,hL⟩=>?_
    subst hc1;subst hL
    refine aP (aI (L':=(rwb,.box (dS (f9.set c (-1))) 3)::nE R nb kb mb rb ⟨M1,q1,k2,qr2⟩ (tok qt 22 1 tab.length++tok qe 246 1 ends.length)) (vB (s:=⟨M1,q1,k2,qr2⟩)).symm) ?_
    have hrs:(f9.set c (-1)).length=R.C:=by rw [List.length_set];exact hrl
    have hrs2:=iU (f9.set c (-1))
    repeat' (first|refine L3 ?_|refine KG a4 HY ?_|(apply aM;first|refine KL 12 a4 0 KF ?_|refine KL 12 a4 1 KF ?_|refine KL 12 a4 2 KF ?_|refine KH a4 0 KE ?_|refine KH a4 1 KE ?_|refine KH a4 2 KE ?_|refine KH a4 3 KE ?_|fail)|refine bq a4 fun _=>?_|fail)
    refine aw rfl (fun h1=>?_) (fun h1=>?_)
    ·have hne:(cq R.cls R.rows p c).2≠0:=by
      intro e
      have h1':((cq R.cls R.rows p c).2:Int)≠0:=Ky h1
      rw [e] at h1'
      exact h1' rfl
     have hst2:=hst1.meet h.long hne
     have hsm2:=(h.small hst2).1
     have hme:=yY nb kb mb M1 hsm1 (by omega) q1 (cq R.cls R.rows p c) (hsm2 _ (m5 _ _))
     have hput:=iV (l:=f9.set c (-1)) (i:=c) (z:=((ew M1 (cq R.cls R.rows p c)).idxOf (cq R.cls R.rows p c):Nat))
     have hcn:=jE.new (M:=M1) hne
     have htm:=htb1.more (by have:=(Ko hp1).1;omega) (cq R.cls R.rows p c)
     have hpm:=oh (cq R.cls R.rows p c) hp1
     have hcm:∀(c':Nat) z,c' < c→f9[c']?=some z→jE R.cls R.rows (ew M1 (cq R.cls R.rows p c)) p c' z:=fun c' z h1 h2=>(hce c' z h1 h2).more
     clear h1
     repeat' (first|refine L3 ?_|refine KG a4 HY ?_)
     refine jB (uc nb kb mb M1 q1) _ (jm.fn (f:=178) (caps:=[dA nb,dA mb]) hme) rfl rfl vA rfl rfl fun c2 L2 ⟨hc2',q2,hL⟩=>?_
     subst hc2';subst hL
     refine aP (aI (L':=(rwb,.box (dS (f9.set c (-1))) 3)::nE R nb kb mb rb ⟨ew M1 (cq R.cls R.rows p c),q2,k2,qr2⟩ (tok qt 22 1 tab.length++tok qe 246 1 ends.length)) (vA (s:=⟨ew M1 (cq R.cls R.rows p c),q2,k2,qr2⟩)).symm) ?_
     repeat' (first|(apply aQ;first|refine aO a4 ?_|refine aG a4 ?_)|fail)
     refine KZ a4 0 KD (Nat.ble_eq_true_of_le (by rw [hrs2,hrs,Int.toNat_natCast];show 0+c * 1+1≤_;omega)) ?_
     rw [hput]
     repeat' (first|refine L3 ?_|refine KG a4 HY ?_|(apply aU;refine aT ?_)|fail)
     refine aD (c+1,⟨ew M1 (cq R.cls R.rows p c),q2,k2,qr2⟩,(f9.set c (-1)).set c ((ew M1 (cq R.cls R.rows p c)).idxOf (cq R.cls R.rows p c):Nat)) rfl ⟨by rw [Kv];rfl,trivial⟩ ⟨hc2,hst2,htm,hpm,by rw [List.length_set];exact hrs,hk2,fun c' z h1 h2=>?_⟩ (by dsimp only;omega) (fun _ _ hh=>hh)
     by_cases he:c'=c
     ·subst he
      rw [List.getElem?_set_self (by omega)] at h2
      cases h2
      exact hcn
     ·rw [List.getElem?_set_ne (fun e=>he e.symm),List.getElem?_set_ne (fun e=>he e.symm)] at h2
      exact hcm c' z (by dsimp only at h1;omega) h2
    ·have he0:(cq R.cls R.rows p c).2=0:=by
      have h1':¬((cq R.cls R.rows p c).2:Int)≠0:=Kx h1
      omega
     clear h1
     repeat' (first|refine L3 ?_|refine KG a4 HY ?_|(apply aU;refine aT ?_)|fail)
     refine aD (c+1,⟨M1,q1,k2,qr2⟩,f9.set c (-1)) rfl ⟨by rw [Kv];rfl,trivial⟩ ⟨hc2,hst1,htb1,hp1,hrs,hk2,fun c' z h1 h2=>?_⟩ (by dsimp only;omega) (fun _ _ hh=>hh)
     by_cases he:c'=c
     ·subst he
      rw [List.getElem?_set_self (by omega)] at h2
      cases h2
      exact .inl ⟨he0,rfl⟩
     ·rw [List.getElem?_set_ne (fun e=>he e.symm)] at h2
      exact hce c' z (by dsimp only at h1;omega) h2
   ·have hc2:c=R.C:=by have:=Kx h1;omega
    subst hc2
    have hn3:tab.length < M1.length:=(Ko hp1).1
    have hpg:=pA hp1
    have hps2:=hsm1 p (Kw hp1)
    have hml1:(M1.map mU).length=M1.length:=Ku ..
    have hen:=Fm R hok rb k1 qr1 hk1 p (by have:=hps2.1;omega) (by have:=hps2.2;omega)
    have htl3:=bY tab
    have hul3:=ou ends
    have hsn:=htb1.snoc hp1 hrl fun c' z h2=>hce c' z (by have:=(Ko h2).1;omega) h2
    have hel:=htb1.len
    clear h1
    repeat' (first|refine L3 ?_|refine KG a4 HY ?_|(apply bo;first|refine KM a4 0 KC ?_|refine KM a4 1 KC ?_|refine KM a4 2 KC ?_|refine KM a4 3 KC ?_|refine KN a4 0 KC ?_|refine KN a4 1 KC ?_|refine KN a4 2 KC ?_|refine KO a4 1 KA (by assumption) rfl ?_|refine KO a4 0 KA (by assumption) rfl ?_|fail)|fail)
    refine aw rfl (fun h1=>?_) (fun h1=>?_)
    ·have h1':(20000:Int) < ((M1.map mU).length:Int):=Ky h1
     omega
    clear h1
    refine c8 (jl (t:=10) (sz:=1) (n:=R.C) (cap:=R.C) (l:=aW f9) 0 rfl rfl (by rw [←po,Nat.mul_one,List.take_of_length_le (by omega)]) (by omega) (fun e he=>by unfold aW at he;obtain ⟨y,_,rfl⟩:=List.mem_map.1 he;rfl) (by rw [bb];exact hrl) (Nat.le_refl _) (by unfold maxLen;omega)) ?_
    repeat' (first|refine L3 ?_|refine KG a4 HY ?_|refine bW a4 ?_|fail)
    refine bV a4 (nE R nb kb mb rb ⟨M1,q1,k1,qr1⟩ (tok qe 246 1 ends.length)) rfl rfl rfl rfl (by rw [htl3];exact yO) (by rw [htl3];simp;omega) (by rw [htl3];simp;omega) rfl fun qt'=>?_
    have hrsn:bc tab++[[AV.imm 1 (aW f9)]]=bc (tab++[f9]):=by simp [bc]
    refine aP (aI (L':=nE R nb kb mb rb ⟨M1,q1,k1,qr1⟩ (tok qt' 22 1 (bc tab++[[AV.imm 1 (aW f9)]]).length++tok qe 246 1 ends.length)) yO.symm) ?_
    repeat' (first|refine L3 ?_|refine KG a4 HY ?_|(apply bo;first|refine KM a4 0 KC ?_|refine KM a4 1 KC ?_|refine KM a4 2 KC ?_|refine KM a4 3 KC ?_|refine KN a4 0 KC ?_|refine KN a4 1 KC ?_|refine KN a4 2 KC ?_|refine KO a4 1 KA (by assumption) rfl ?_|refine KO a4 0 KA (by assumption) rfl ?_|fail)|(apply aQ;first|refine aO a4 ?_|refine aG a4 ?_)|fail)
    refine b6 (fp R rb k1 qr1) _ hen rfl rfl nF rfl fun c1 L1 ⟨hc1,k2,qr2,hk2,hL⟩=>?_
    subst hc1;subst hL
    refine aP (aI (L':=nE R nb kb mb rb ⟨M1,q1,k2,qr2⟩ (tok qt' 22 1 (bc tab++[[AV.imm 1 (aW f9)]]).length++tok qe 246 1 ends.length)) (nF (s:=⟨M1,q1,k2,qr2⟩)).symm) ?_
    repeat' (first|refine bW a4 ?_|fail)
    refine bV a4 (nE R nb kb mb rb ⟨M1,q1,k2,qr2⟩ (tok qt' 22 1 (bc tab++[[AV.imm 1 (aW f9)]]).length)) rfl rfl rfl rfl (by rw [hul3];exact yN) (by rw [hul3];simp;omega) (by rw [hul3];simp;omega) rfl fun qe'=>?_
    have husn:gJ ends++[[jS (jU R.rows p)]]=gJ (ends++[jU R.rows p]):=by simp [gJ]
    refine aP (aI (L':=nE R nb kb mb rb ⟨M1,q1,k2,qr2⟩ (tok qt' 22 1 (bc tab++[[AV.imm 1 (aW f9)]]).length++tok qe' 246 1 (gJ ends++[[jS (jU R.rows p)]]).length)) yN.symm) ?_
    repeat' (first|refine L3 ?_|refine KG a4 HY ?_|(apply aU;refine aT ?_)|fail)
    have hll:(tab++[f9]).length=tab.length+1:=by simp
    refine aD ⟨⟨M1,q1,k2,qr2⟩,tab++[f9],qt',ends++[jU R.rows p],qe'⟩ rfl ⟨?_,by dsimp only;rw [←hrsn];rfl,by dsimp only;rw [←husn];rfl,trivial⟩ ⟨hst1,hsn,by dsimp only;omega,hk2⟩ (by dsimp only;omega) (fun _ _ hh=>?_)
    ·dsimp only
     rw [hll,Kv]
     rfl
    ·dsimp only
     rw [hrsn,husn,bY,ou] at hh
     exact hh
 ·have hn2:tab.length=M.length:=by
   have h1':¬(tab.length:Int) < ((M.map mU).length:Int):=Kx h1
   omega
  clear h1
  repeat' (first|refine L3 ?_|refine KG a4 HY ?_)
  refine bj (bS (t:=2) (c':= .imm 1 (bc tab)) rfl fun σ v h=>VR.im h) ?_
  refine bj (bS (t:=3) (c':= .imm 1 (gJ ends)) rfl fun σ v h=>VR.im h) ?_
  exact i6 (cs:=[.imm 1 (bc tab),.imm 1 (gJ ends),d6 true]) [] ⟨rfl,rfl,rfl,trivial⟩ (List.nil_sublist _) ⟨tab,ends,htb.done hst hn2,rfl⟩
structure uI (N:Nat) (r:bh):Prop where
 back:∀s∈r.Back,gL s∧∀g∈s,0≤g∧g < (N:Int)
 in_:∀s∈r.In,gL s∧∀g∈s,0≤g∧g < (N:Int)
 ahead:∀s∈r.Ahead,gL s∧∀g∈s,0≤g∧g < (N:Int)
 long:r.Back.length≤200∧r.In.length+r.Ahead.length≤200
structure yg (N:Nat) (l:aL):Prop where
 few:l.Rules.length≤6
 rule:∀r∈l.Rules,uI N r
def eA (rs:List bh):List (List Int):=rs.flatMap fun r=>r.Back++r.In++r.Ahead
theorem zA {rs:List bh} {k:Nat} {r:bh} (h:rs[k]?=some r):eA (rs.take (k+1))=eA (rs.take k)++r.Back++r.In++r.Ahead:=by
 unfold eA
 rw [List.take_add_one,h]
 simp
theorem qy {N:Nat}:∀{rs:List bh},(∀r∈rs,uI N r)→(eA rs).length≤400 * rs.length
 | [],_=>by simp [eA]
 | r::rs,h=>by
  have ih:=qy (rs:=rs) fun x hx=>h x (by simp [hx])
  have hr:=(h r (by simp)).long
  unfold eA at ih ⊢
  rw [List.flatMap_cons,List.length_append,List.length_append,List.length_append,List.length_cons]
  omega
theorem tN {N:Nat} {rs:List bh} (h:∀r∈rs,uI N r):∀s∈eA rs,gL s∧∀g∈s,0≤g∧g < (N:Int):=by
 intro s hs
 unfold eA at hs
 obtain ⟨r,hr,hs⟩:=List.mem_flatMap.1 hs
 rw [List.mem_append,List.mem_append] at hs
 rcases hs with (hs | hs) | hs
 ·exact (h r hr).back s hs
 ·exact (h r hr).in_ s hs
 ·exact (h r hr).ahead s hs
structure lr where
 cls:List Int
 fore:List (List Int)
 back:List (List Int)
 foreE:List Nat
 backE:List Nat
def Jl (a:lr):List AV:=[.imm 1 (aW a.cls),.imm 1 (bc a.fore),.imm 1 (bc a.back),.imm 1 (gJ a.foreE),.imm 1 (gJ a.backE)]
structure yh (N:Nat) (rs:List bh) (a:lr):Prop where
 cls:uJ N (gO a.cls).toNat a.cls (eA rs)
 fore:sI a.cls (rs.map fun r=>(pt r).1) (kP pt rs) (gO a.cls).toNat a.fore a.foreE
 back:sI a.cls (rs.map fun r=>(qJ r).1) (kP qJ rs) (gO a.cls).toNat a.back a.backE
theorem lI (r:bh):(dZ r).length≤r.In.length+r.Ahead.length:=by
 unfold dZ
 split
 ·simp
 ·rw [List.length_append];omega
theorem lJ {r:bh} {s:List Int} (h:s∈dZ r):s∈r.In∨s∈r.Ahead:=by
 unfold dZ at h
 split at h
 ·cases h
 ·exact Ly h
section
variable {N:Nat} {l:aL} (h:yg N l) (hN0:0 < N) (hN:N≤65536)
include h
theorem nZ:∀s∈eA l.Rules,(∀g∈s,0≤g∧g < (N:Int))∧s.Nodup:=fun s hs=>⟨(tN h.rule s hs).2,gm (tN h.rule s hs).1⟩
include hN
theorem rM:(∀z∈ep N (eA l.Rules),0≤z∧z≤1000000)∧(ep N (eA l.Rules)).length=N∧(gO (ep N (eA l.Rules))).toNat≤1000000∧∀z∈ep N (eA l.Rules),0≤z∧z < ((gO (ep N (eA l.Rules))).toNat:Int):=by
 have h1:=tg N _ (nZ h)
 refine ⟨fun z hz=>by have:=h1 z hz;omega,th N _ (nZ h),?_,(vZ N _ (nZ h)).dom⟩
 have:gO (ep N (eA l.Rules))≤(N:Int):=ta (by omega) fun z hz=>(h1 z hz).2
 omega
theorem HU:BK l.Rules (ep N (eA l.Rules)):=by
 obtain ⟨h1,h2,_,_⟩:=rM h hN
 exact ⟨h.few,h1,by omega,fun r hr=>by have:=(h.rule r hr).long;omega⟩
theorem Fv:BL (rQ pt l.Rules (ep N (eA l.Rules))) (kP pt l.Rules) 200:=by
 obtain ⟨h1,h2,h3,h4⟩:=rM h hN
 refine ⟨⟨by show (l.Rules.map _).length≤6;rw [Ku];exact h.few,h4,fun f9 hrow s hs=>?_,fun f9 hrow=>?_,h3,by show (ep N (eA l.Rules)).length≤_;omega⟩,by show cx _ _=cx _ (l.Rules.map _).length;rw [Ku],fun f9 hrow=>?_,Nat.le_refl _⟩
 ·obtain ⟨r,hr,rfl⟩:=List.mem_map.1 hrow
  have hb:=h.rule r hr
  have hsr:gL s∧∀g∈s,0≤g∧g < (N:Int):=by
   rcases lJ hs with hs | hs
   ·exact hb.in_ s hs
   ·exact hb.ahead s hs
  refine ⟨fun g hg=>?_,?_⟩
  ·show 0≤g∧g < ((ep N (eA l.Rules)).length:Int)
   rw [h2]
   exact hsr.2 g hg
  ·have:=fD (gm hsr.1) hsr.2
   omega
 ·obtain ⟨r,hr,rfl⟩:=List.mem_map.1 hrow
  have:=lI r
  have:=(h.rule r hr).long
  show (dZ r).length≤_
  omega
 ·obtain ⟨r,hr,rfl⟩:=List.mem_map.1 hrow
  have:=lI r
  have:=(h.rule r hr).long
  show (dZ r).length≤_
  omega
theorem ET:BL (rQ qJ l.Rules (ep N (eA l.Rules))) (kP qJ l.Rules) 200:=by
 obtain ⟨h1,h2,h3,h4⟩:=rM h hN
 refine ⟨⟨by show (l.Rules.map _).length≤6;rw [Ku];exact h.few,h4,fun f9 hrow s hs=>?_,fun f9 hrow=>?_,h3,by show (ep N (eA l.Rules)).length≤_;omega⟩,by show cx _ _=cx _ (l.Rules.map _).length;rw [Ku],fun f9 hrow=>?_,Nat.le_refl _⟩
 ·obtain ⟨r,hr,rfl⟩:=List.mem_map.1 hrow
  have hsr:=(h.rule r hr).back s hs
  refine ⟨fun g hg=>?_,?_⟩
  ·show 0≤g∧g < ((ep N (eA l.Rules)).length:Int)
   rw [h2]
   exact hsr.2 g hg
  ·have:=fD (gm hsr.1) hsr.2
   omega
 ·obtain ⟨r,hr,rfl⟩:=List.mem_map.1 hrow
  have:=(h.rule r hr).long
  show r.Back.length≤_
  omega
 ·obtain ⟨r,hr,rfl⟩:=List.mem_map.1 hrow
  have:=(h.rule r hr).long
  show r.Back.length≤_
  omega
end
set_option maxHeartbeats 8000000 in
theorem Cj (f:aZ) (n:Nat) (l:aL) (hl:f.Lookups[n]?=some l) (h:yg f.Glyphs.length l) (hN0:0 < f.Glyphs.length) (hN:f.Glyphs.length≤65536):AC Tryz.prog 35 [df f,aF n] [] fun c _=>∃a,yh f.Glyphs.length l.Rules a∧c= .tup [.agg (Jl a),aF 0]:=by
 refine aN Tryz.func35 rfl Tryz.ntmps35 rfl fun B=>?_
 have hgl:(f.Glyphs.map bT).length=f.Glyphs.length:=Ku ..
 have hll:(f.Lookups.map bw).length=f.Lookups.length:=Ku ..
 have hrl:(l.Rules.map bC).length=l.Rules.length:=Ku ..
 have hnl:=(Ko hl).1
 have hlg:(f.Lookups.map bw)[n]?=some (bw l):=by simp [hl]
 have hfew:=h.few
 repeat' (first|refine L3 ?_|refine KG a4 HY ?_|refine KR HY ?_|refine bA ?_|refine bq a4 fun _=>?_|fail)
 refine ce [1,2,4] False rfl (fun Q' K=>?_) (fun hC=>hC.elim) (fun _=>?_)
 ·repeat' (first|refine L3 ?_|refine KG a4 HY ?_|refine KR HY ?_|refine KV KB ?_|refine KW KA (fun _=>?_) (fun _=>?_))
  all_goals exact K _ _ rfl rfl (by simp_all <;> omega)
 repeat' (first|refine L3 ?_|refine KG a4 HY ?_|(apply aQ;first|refine aO a4 ?_|refine aG a4 ?_)|fail)
 rename_i r4 _
 have hpd:=sC f.Glyphs.length hN0 hN (eA l.Rules) (tN h.rule) (by have:=qy h.rule;omega)
 have hcls:=vZ f.Glyphs.length (eA l.Rules) (nZ h)
 have hso:=HU h hN
 have hsf:=tz _ _ _ (Fv h hN) (.fnB 100 [.agg (wX l.Rules (ep f.Glyphs.length (eA l.Rules)))] []) (jm.fnB (f:=100) (fs:=[.agg (wX l.Rules (ep f.Glyphs.length (eA l.Rules)))]) (caps:=[]) (CR hso))
 have hsb:=tz _ _ _ (ET h hN) (.fnB 101 [.agg (wX l.Rules (ep f.Glyphs.length (eA l.Rules)))] []) (jm.fnB (f:=101) (fs:=[.agg (wX l.Rules (ep f.Glyphs.length (eA l.Rules)))]) (caps:=[]) (Ce hso))
 refine aw rfl (fun h1=>?_) (fun h1=>?_)
 ·have:=Ky h1
  omega
 clear h1
 repeat' (first|refine L3 ?_|refine ak ?_|refine KG a4 HY ?_)
 refine c8 (bS (t:=7) (c':= .vec none 1 (bc [])) rfl fun σ v h=>d5 1 h) ?_
 refine aR [2,4,6,49,50] (α:=Nat×Option (Nat×Nat)) (fun s=>[(51,aF s.1),(7,.vec s.2 1 (bc (eA (l.Rules.take s.1))))]) (fun s=>s.1≤l.Rules.length) (fun s=>(r4,.box [.sc (.slice none 0 0),.sc (.slice none 0 0),.sc (.slice none 0 0),.sc (.slice none 0 0),.sc (.slice none 0 0)] 62)::tok s.2 22 1 (eA (l.Rules.take s.1)).length) (fun s=>l.Rules.length - s.1) (0,none) rfl ⟨rfl,rfl,trivial⟩ (Nat.zero_le _) (fun _ _ hh=>hh) ?_
 ·rintro ⟨k,q⟩ hk
  dsimp only at hk ⊢
  try dsimp only [Kr,Kq,Kp,Lv]
  repeat' (first|refine L3 ?_|refine KG a4 HY ?_)
  refine aw rfl (fun h1=>?_) (fun h1=>?_)
  ·have hk2:k < l.Rules.length:=by have:=Ky h1;omega
   obtain ⟨r,hr⟩:∃z,l.Rules[k]?=some z:=⟨_,Kz hk2⟩
   have hrg:(l.Rules.map bC)[k]?=some (bC r):=by simp [hr]
   have hlong:=(h.rule r (Kw hr)).long
   have hal:=zA hr
   have hlen:(eA (l.Rules.take k)).length≤2400:=by
    have:=qy (N:=f.Glyphs.length) (rs:=l.Rules.take k) fun x hx=>h.rule x (List.mem_of_mem_take hx)
    rw [List.length_take] at this
    omega
   have hri:bc (eA (l.Rules.take (k+1)))=bc (eA (l.Rules.take k))++bc r.Back++bc r.In++bc r.Ahead:=by rw [hal];simp [bc]
   have hrl0:=bY (eA (l.Rules.take k))
   have hrl1:=bY r.Back
   have hrl2:=bY r.In
   have hrl3:=bY r.Ahead
   have hln:(eA (l.Rules.take (k+1))).length=(eA (l.Rules.take k)).length+r.Back.length+r.In.length+r.Ahead.length:=by rw [hal,List.length_append,List.length_append,List.length_append]
   generalize bc (eA (l.Rules.take k))=A0 at *
   generalize (eA (l.Rules.take k)).length=n0 at *
   clear h1
   repeat' (first|refine L3 ?_|refine ak ?_|refine KG a4 HY ?_|(apply aQ;first|refine aO a4 ?_|refine aG a4 ?_)|(apply aM;first|refine KL 9 a4 0 KF ?_|refine KL 9 a4 1 KF ?_|refine KL 9 a4 2 KF ?_|refine KL 10 a4 0 KF ?_|refine KL 10 a4 1 KF ?_|refine KL 10 a4 2 KF ?_|refine KH a4 0 KE ?_|refine KH a4 1 KE ?_|refine KH a4 2 KE ?_|refine KH a4 3 KE ?_|fail)|refine bq a4 fun _=>?_|fail)
   refine bV a4 [(r4,.box [.sc (.slice none 0 0),.sc (.slice none 0 0),.sc (.slice none 0 0),.sc (.slice none 0 0),.sc (.slice none 0 0)] 62)] rfl rfl rfl rfl (by rw [hrl0];exact List.perm_append_comm (l₁:=[_])) (by omega) (by omega) rfl fun q1=>?_
   repeat' (first|refine L3 ?_|refine KG a4 HY ?_)
   refine bV a4 [(r4,.box [.sc (.slice none 0 0),.sc (.slice none 0 0),.sc (.slice none 0 0),.sc (.slice none 0 0),.sc (.slice none 0 0)] 62)] rfl rfl rfl rfl (Lz _) (by rw [List.length_append];omega) (by rw [List.length_append];omega) rfl fun q2=>?_
   repeat' (first|refine L3 ?_|refine KG a4 HY ?_)
   refine bV a4 [(r4,.box [.sc (.slice none 0 0),.sc (.slice none 0 0),.sc (.slice none 0 0),.sc (.slice none 0 0),.sc (.slice none 0 0)] 62)] rfl rfl rfl rfl (Lz _) (by rw [List.length_append,List.length_append];omega) (by rw [List.length_append,List.length_append];omega) rfl fun q3=>?_
   repeat' (first|refine L3 ?_|refine KG a4 HY ?_|(apply aU;refine aT ?_)|fail)
   refine aD (k+1,q3) rfl ⟨by rw [Kv];rfl,by dsimp only;rw [hri];rfl,trivial⟩ hk2 (by dsimp only;omega) (fun σ w hh=>?_)
   have h2:=hh.perm (List.perm_append_comm (l₂:=[_]))
   have h3:(A0++bc r.Back++bc r.In++bc r.Ahead).length=(eA (l.Rules.take (k+1))).length:=by rw [hln,List.length_append,List.length_append,List.length_append];omega
   rw [h3] at h2
   exact h2
  ·have hk2:k=l.Rules.length:=by have:=Kx h1;omega
   subst hk2
   rw [List.take_length]
   haveI:AD Tryz.prog 98 [aF ((f.Glyphs.map bT).length:Nat),.imm 1 (bc (eA l.Rules))] (.imm 1 (aW (ep f.Glyphs.length (eA l.Rules)))):=⟨by rw [hgl];exact hpd⟩
   clear h1
   repeat' (first|refine L3 ?_|refine KG a4 HY ?_|(apply aM;first|refine KL 9 a4 0 KF ?_|refine KL 9 a4 1 KF ?_|refine KL 9 a4 2 KF ?_|refine KL 10 a4 0 KF ?_|refine KL 10 a4 1 KF ?_|refine KL 10 a4 2 KF ?_|refine KH a4 0 KE ?_|refine KH a4 1 KE ?_|refine KH a4 2 KE ?_|refine KH a4 3 KE ?_|fail)|refine bq a4 fun _=>?_|(apply bF;refine bv ?_)|fail)
   refine b6 [] _ hsf rfl rfl (Lz _) rfl fun c1 L1 ⟨ft,fe,hf1,hc1⟩=>?_
   subst hc1
   refine aP (c6 (List.sublist_append_right ..)) ?_
   repeat' (first|refine L3 ?_|refine KG a4 HY ?_|refine bE rfl ?_)
   refine b6 [] _ hsb rfl rfl (Lz _) rfl fun c1 L1 ⟨bt,be,hb1,hc1⟩=>?_
   subst hc1
   refine aP (c6 (List.sublist_append_right ..)) ?_
   repeat' (first|refine L3 ?_|refine KG a4 HY ?_|(apply aM;first|refine KL 9 a4 0 KF ?_|refine KL 9 a4 1 KF ?_|refine KL 9 a4 2 KF ?_|refine KL 10 a4 0 KF ?_|refine KL 10 a4 1 KF ?_|refine KL 10 a4 2 KF ?_|refine KH a4 0 KE ?_|refine KH a4 1 KE ?_|refine KH a4 2 KE ?_|refine KH a4 3 KE ?_|fail)|refine bE rfl ?_)
   exact i6 (cs:=[.agg (Jl ⟨ep f.Glyphs.length (eA l.Rules),ft,bt,fe,be⟩),aF 0]) [] ⟨⟨_,0,_,_,rfl,rfl,.inr ⟨eO a4 rfl,rfl⟩⟩,rfl,trivial⟩ (List.nil_sublist _) ⟨⟨ep f.Glyphs.length (eA l.Rules),ft,bt,fe,be⟩,⟨hcls,hf1,hb1⟩,rfl⟩
end Go.Proofs.YtpmdfoaadejmkaaGreatDoor
namespace Go.Proofs.YtpmdfoaadejmkaaGreatDoor
open Go.RowKit
section
variable {P:Program} {fr:cf} {B:Bs} {L:AL} {ty t t':TypeId} {pos:String} {af:Array Edge} {g:Option (Nat×Bool)} {x y z q:Operand} {u:AV}
theorem EE {d:Option Tmp} {s e sz by_ hi:Nat} {l:List (List AV)} {k k':IntKind} {a b:Int} (hc:kv P t e sz by_) (hx:br fr x=some u) (hu:iL u=some (s,l)) (hs:Nat.beq s sz=true) (hy:br fr y=some (.sc (.int k a))) (hz:br fr z=some (.sc (.int k' b))) (ha:a=(hi:Int)) (hb:b=(hi:Int)) (h:hi≤l.length):Av P ⟨d,.slice t x none (some y) (some z),ty,pos,af,g⟩ fr (.imm s (l.take hi)):=by
 intro σ ρ w hρ _
 subst ha hb
 rw [Nat.beq_eq] at hs
 subst hs
 have h1:=(hρ x u hx).im
 rw [d4 hu] at h1
 obtain ⟨A,cap,hv,hcap,_⟩:=h1.imm_inv
 rw [hv] at h1
 have hvr:=h1.cut (lo:=0) (hi:=hi) (m:=hi) (Nat.zero_le _) h (Nat.le_refl _) (by omega)
 haveI:=hc
 simp only [List.drop_zero,Nat.sub_zero,Nat.zero_mul] at hvr
 refine ⟨_,?_,hvr⟩
 have h4:hi≤cap:=by omega
 simp [execOp,hv,(hρ y _ hy).sc_inv,(hρ z _ hz).sc_inv,Instr.sliceAt,Instr.slice,Instr.sliceBounds,Instr.sliceBound,asIntOf,run_underlying hc.under,cP (t:=t),h4]
end
section
variable {P:Program} {tt:TT} {l:List Oper} {fr:cf} {fin:iH} {sk:lp} {acc:cf} {L:AL} {k:Nat} {dd:Option Tmp} {ty t:TypeId} {pos:String} {af:Array Edge} {g:Option (Nat×Bool)} {x y z:Operand} {u:AV}
theorem yE (ok:ez P tt) (hi:Nat) {s e sz by_:Nat} {ll:List (List AV)} {q q':IntKind} {a b:Int} (ht:jN tt t=some (e,sz,by_)) (hx:br (cE l.toArray acc fr af.toList) x=some u) (hu:iL u=some (s,ll)) (hs:Nat.beq s sz=true) (hy:br (cE l.toArray acc fr af.toList) y=some (.sc (.int q a))) (hz:br (cE l.toArray acc fr af.toList) z=some (.sc (.int q' b))) (ha:a=(hi:Int)) (hb:b=(hi:Int)) (h1:hi≤ll.length) (hg:iO ⟨dd,.slice t x none (some y) (some z),ty,pos,af,g⟩ acc) (h:DA P l fr fin sk ((k,.imm s (ll.take hi))::acc) L):
  cG P l fr fin k .v ⟨dd,.slice t x none (some y) (some z),ty,pos,af,g⟩ sk acc L:=ff hg (z2 (EE (bz ok ht).1 hx hu hs hy hz ha hb h1)) h
end
end Go.Proofs.YtpmdfoaadejmkaaGreatDoor
