/-
  The rows of a lookup's rules: the walk.
-/
import Derived.Test.YtpmdfoaadejmkaaGreatDoorM16
import Derived.Test.YtpmdfoaadejmkaaGreatDoorM12
import Derived.Test.YtpmdfoaadejmkaaGreatDoorM13
namespace Go.Proofs.YtpmdfoaadejmkaaGreatDoor
open Go.RowKit
attribute [local irreducible] AT bv AX AO Av Kt b9 dh DA cE
abbrev vk (rs:List bb) (cls:List Int):List AV:=[.imm 6 (rs.map bB),.imm 1 (aT cls)]
def jJ (w:bb→List (List Int)×Bool) (rs:List bb) (n:Nat):Bool:=match rs[n]? with
 | some r=>(w r).2
 | none=>false
def qh (w:bb→List (List Int)×Bool) (rs:List bb) (cls:List Int):RD:=⟨rs.map fun r=>(w r).1,ce (jJ w rs) rs.length,cls,(gk cls).toNat⟩
theorem wg (l:List (List (List Int))) (r:List (List Int)):ji l++[[.imm 1 (b7 r)]]=ji (l++[r]):=by simp [ji]
theorem vY {l:List Int} {k:Nat} {z:Int} (h:l[k]?=some z):gk (l.take (k+1))=max (gk (l.take k)) (z+1):=by
 unfold gk
 rw [List.take_add_one,h]
 simp
set_option maxHeartbeats 8000000 in
theorem pp (w:bb→List (List Int)×Bool) (u:AV) (rs:List bb) (hrs:rs.length≤6) (hw:∀r∈rs,iN Tryz.prog u [.agg (bB r)] [] fun c _=>c= .tup [.imm 1 (b7 (w r).1),ec (w r).2]) (cls:List Int) (hcl:∀z∈cls,0≤z∧z≤1000000) (hcl2:cls.length≤1000000):AC Tryz.prog 183 [.agg (vk rs cls),u] [] fun c L=>∃rb,c=fQ rb∧L=eR (qh w rs cls) rb 0 none:=by
 refine aL Tryz.func183 rfl Tryz.ntmps183 rfl fun B=>?_
 have hrl:(rs.map bB).length=rs.length:=Jz ..
 have hil:=b6 cls
 repeat' (first|refine IT ?_|refine am ?_|refine IF a5 G9 ?_|refine uf (d:=15) fun _=>?_|refine bo ?_|fail)
 rename_i rb
 refine bP (bq 0 (cs':=[.vec none 1 [],iY 0,.imm 1 (aT cls),aF 0,.vec none 2 []]) rfl fun σ vs h=>lz.vrs (a:=[.sc (.slice none 0 0),iY 0,.imm 1 (aT cls),aF 0,.sc (.slice none 0 0)]) (b:=[.vec none 1 [],iY 0,.imm 1 (aT cls),aF 0,.vec none 2 []]) ⟨fun σ v h=>cL 1 h,cx.refl _,cx.refl _,cx.refl _,fun σ v h=>cL 2 h,trivial⟩ h) ?_
 refine aO [1,2,5,17,18] (α:=Nat×Option (Nat×Nat)) (fun s=>[(19,aF s.1)]) (fun s=>s.1≤rs.length) (fun s=>(rb,.box [.vec s.2 1 (ji ((rs.take s.1).map fun r=>(w r).1)),iY (ce (jJ w rs) s.1),.imm 1 (aT cls),aF 0,.vec none 2 []] 268)::tok s.2 45 1 s.1) (fun s=>rs.length - s.1) (0,none) rfl ⟨rfl,trivial⟩ (Nat.zero_le _) (fun _ _ h=>h) ?_
 ·rintro ⟨n,q⟩ hn
  dsimp only at hn ⊢
  try dsimp only [Jx,Jw,Jv,Jq]
  repeat' (first|refine IT ?_|refine IF a5 G9 ?_)
  refine ar rfl (fun h1=>?_) (fun h1=>?_)
  ·have hn2:n < rs.length:=by have:=Iy h1;omega
   obtain ⟨r,hr⟩:∃z,rs[n]?=some z:=⟨_,Iz hn2⟩
   have hrg:(rs.map bB)[n]?=some (bB r):=by simp [hr]
   have hwr:=hw r (Iw hr)
   have htk:((rs.take (n+1)).map fun r=>(w r).1)=((rs.take n).map fun r=>(w r).1)++[(w r).1]:=by rw [List.take_add_one,hr];simp
   have hbit:ce (jJ w rs) (n+1)=ce (jJ w rs) n ||| (if (w r).2=true then 2 ^ n else 0):=by
    rw [ce]
    unfold jJ
    rw [hr]
   have hml:(ji ((rs.take n).map fun r=>(w r).1)).length=n:=by rw [rO,Jz,List.length_take];omega
   have hsn:=wg ((rs.take n).map fun r=>(w r).1) (w r).1
   rw [←htk] at hsn
   have hb1:=nd (p:=jJ w rs) (n:=n) (by omega)
   have hb2:=EC (n:=n) (by omega)
   have hub:=xr n (by omega)
   generalize ji ((rs.take n).map fun r=>(w r).1)=l3 at *
   clear h1
   repeat' (first|refine IT ?_|refine am ?_|refine IF a5 G9 ?_|(apply aS;first|refine aQ a5 ?_|refine aG a5 ?_)|(apply aK;first|refine IH 7 a5 0 IE ?_|refine IH 7 a5 1 IE ?_|refine IH 7 a5 2 IE ?_|refine IG a5 0 ID ?_|refine IG a5 1 ID ?_|refine IG a5 2 ID ?_|refine IG a5 3 ID ?_|fail)|refine bi a5 fun _=>?_|fail)
   refine gA [] ((rb,.box [.vec q 1 l3,iY (ce (jJ w rs) n),.imm 1 (aT cls),aF 0,.vec none 2 []] 268)::tok q 45 1 n) hwr rfl rfl (Jt _) rfl rfl fun c L1 hc=>?_
   subst hc
   refine aJ (bO (List.sublist_append_right ..)) ?_
   repeat' (first|refine IT ?_|refine IF a5 G9 ?_|(apply bw;first|refine II a5 0 IC ?_|refine II a5 1 IC ?_|refine II a5 2 IC ?_|refine II a5 3 IC ?_|refine IJ a5 0 IC ?_|refine IJ a5 1 IC ?_|refine IJ a5 2 IC ?_|refine IK a5 1 IA (by assumption) rfl ?_|refine IK a5 0 IA (by assumption) rfl ?_|fail)|refine bH a5 ?_|fail)
   refine bM a5 [(rb,.box [.vec q 1 l3,iY (ce (jJ w rs) n),.imm 1 (aT cls),aF 0,.vec none 2 []] 268)] rfl rfl rfl rfl (by rw [hml];exact List.perm_append_comm (l₁:=[_])) (by rw [hml];simp;omega) (by rw [hml];simp;omega) rfl fun q'=>?_
   refine aJ (aI (L':=(rb,.box [.vec q 1 l3,iY (ce (jJ w rs) n),.imm 1 (aT cls),aF 0,.vec none 2 []] 268)::tok q' 45 1 (n+1)) (by rw [List.length_append,hml];exact List.perm_append_comm (l₂:=[_]))) ?_
   repeat' (first|refine IT ?_|refine IF a5 G9 ?_|(apply aK;first|refine IH 7 a5 0 IE ?_|refine IH 7 a5 1 IE ?_|refine IH 7 a5 2 IE ?_|refine IG a5 0 ID ?_|refine IG a5 1 ID ?_|refine IG a5 2 ID ?_|refine IG a5 3 ID ?_|fail))
   refine ar rfl (fun h1=>?_) (fun h1=>?_)
   ·rw [if_pos h1] at hbit
    repeat' (first|fail)
    refine bA 6 [(0,.v),(1,.v),(2,.v),(3,.l),(4,.v),(5,.v)] none ?_ trivial rfl (by kernel_rfl) (by kernel_rfl) (by kernel_rfl) bU (by kernel_rfl) rfl
    repeat' (first|refine aD ?_|refine b8 a5 ?_|refine bZ a5 0 rfl rfl rfl rfl (by first|trivial|rfl) ?_)
    refine vw n rfl rfl rfl trivial ?_
    repeat' (first|fail)
    refine IQ [1,2,5,17,18,19,41,44,46] G9 ?_
    refine sF rfl rfl rfl ?_
    rw [hub,u64_or_nat _ _ hb1 hb2,←hbit]
    repeat' (first|refine IT ?_|refine IF a5 G9 ?_|(apply aV;refine aU ?_)|(apply aK;first|refine IH 7 a5 0 IE ?_|refine IH 7 a5 1 IE ?_|refine IH 7 a5 2 IE ?_|refine IG a5 0 ID ?_|refine IG a5 1 ID ?_|refine IG a5 2 ID ?_|refine IG a5 3 ID ?_|fail))
    exact aC (n+1,q') rfl ⟨by rw [Iv];rfl,trivial⟩ hn2 (by dsimp only;omega) (fun _ _ h=>by dsimp only;rw [←hsn];exact h)
   ·rw [if_neg (by rw [h1];decide),Nat.or_zero] at hbit
    repeat' (first|refine IT ?_|refine IF a5 G9 ?_|(apply aV;refine aU ?_)|fail)
    exact aC (n+1,q') rfl ⟨by rw [Iv];rfl,trivial⟩ hn2 (by dsimp only;omega) (fun _ _ h=>by dsimp only;rw [←hsn,hbit];exact h)
  ·have hn2:n=rs.length:=by have:=Ix h1;omega
   subst hn2
   rw [List.take_length]
   clear h1
   repeat' (first|refine IT ?_|refine am ?_|refine IF a5 G9 ?_)
   refine aO [5,52,53] (α:=Nat) (fun k=>[(54,aF k)]) (fun k=>k≤cls.length) (fun k=>(rb,.box [.vec q 1 (ji (rs.map fun r=>(w r).1)),iY (ce (jJ w rs) rs.length),.imm 1 (aT cls),aF (gk (cls.take k)),.vec none 2 []] 268)::tok q 45 1 rs.length) (fun k=>cls.length - k) 0 rfl ⟨rfl,trivial⟩ (Nat.zero_le _) (fun _ _ h=>h) fun k hk=>?_
   try dsimp only [Jx,Jw,Jv,Jq]
   repeat' (first|refine IT ?_|refine IF a5 G9 ?_)
   refine ar rfl (fun h1=>?_) (fun h1=>?_)
   ·have hk2:k < cls.length:=by have:=Iy h1;omega
    obtain ⟨z,hz⟩:∃z,cls[k]?=some z:=⟨_,Iz hk2⟩
    have hzg:=bR hz
    have hzb:=hcl z (Iw hz)
    have hmc:=vY hz
    clear h1
    repeat' (first|refine IT ?_|refine am ?_|refine IF a5 G9 ?_|(apply bw;first|refine II a5 0 IC ?_|refine II a5 1 IC ?_|refine II a5 2 IC ?_|refine II a5 3 IC ?_|refine IJ a5 0 IC ?_|refine IJ a5 1 IC ?_|refine IJ a5 2 IC ?_|refine IK a5 1 IA (by assumption) rfl ?_|refine IK a5 0 IA (by assumption) rfl ?_|fail)|(apply aV;refine aU ?_)|(apply aS;first|refine aQ a5 ?_|refine aG a5 ?_)|(apply aK;first|refine IH 7 a5 0 IE ?_|refine IH 7 a5 1 IE ?_|refine IH 7 a5 2 IE ?_|refine IG a5 0 ID ?_|refine IG a5 1 ID ?_|refine IG a5 2 ID ?_|refine IG a5 3 ID ?_|fail))
    exact aC (k+1) rfl ⟨by rw [Iv];rfl,trivial⟩ hk2 (by omega) (fun _ _ h=>by rw [hmc];exact h)
   ·have hk2:k=cls.length:=by have:=Ix h1;omega
    subst hk2
    rw [List.take_length]
    clear h1
    repeat' (first|refine IT ?_|refine IF a5 G9 ?_)
    have hC:(gk cls)=(((gk cls).toNat:Nat):Int):=by have:=(pQ (l:=cls) (m:=0)).1;unfold gk;omega
    refine bh (bq 0 (cs':=D4 (qh w rs cls) (.vec none 2 (yB (qh w rs cls) 0))) rfl fun σ vs h=>lz.vrs (a:=[.vec q 1 (ji (rs.map fun r=>(w r).1)),iY (ce (jJ w rs) rs.length),.imm 1 (aT cls),aF (gk cls),.vec none 2 []]) (b:=D4 (qh w rs cls) (.vec none 2 (yB (qh w rs cls) 0))) ⟨fun σ v h=>VR.im h,cx.refl _,cx.refl _,by unfold qh;dsimp only;rw [←hC];exact cx.refl _,cx.refl _,trivial⟩ h) ?_
    refine eP (L':=eR (qh w rs cls) rb 0 none) (List.sublist_append_left [_] _) ?_
    exact IL G9 ⟨rb,rfl,rfl⟩
def o4 (r:bb):List (List Int)×Bool:=(dz r, !r.In.isEmpty)
def pg (r:bb):List (List Int)×Bool:=(r.Back,true)
structure zD (rs:List bb) (cls:List Int):Prop where
 few:rs.length≤6
 dom:∀z∈cls,0≤z∧z≤1000000
 len:cls.length≤1000000
 rows:∀r∈rs,r.In.length≤1000000∧r.Ahead.length≤1000000
theorem B2 {rs:List bb} {cls:List Int} (h:zD rs cls):AC Tryz.prog 100 [.agg (vk rs cls)] [] fun c L=>∃rb,c=fQ rb∧L=eR (qh o4 rs cls) rb 0 none:=by
 refine aL Tryz.func100 rfl Tryz.ntmps100 rfl fun B=>?_
 have hc:=pp o4 (.sc (.func (.func 184) #[] #[])) rs h.few (fun r hr=>iN.fn0 (f:=184) (by rw [List.append_nil];exact yk r (h.rows r hr).1 (h.rows r hr).2)) cls h.dom h.len
 repeat' (first|refine IT ?_|refine IF a5 G9 ?_|refine bo ?_|fail)
 refine aX [] [] hc rfl rfl (Jt _) rfl fun c L1 ⟨rb,hc1,hL⟩=>?_
 subst hc1;subst hL
 repeat' (first|refine IT ?_|refine IF a5 G9 ?_)
 exact IL G9 ⟨rb,rfl,by rw [List.append_nil]⟩
theorem Ab {rs:List bb} {cls:List Int} (h:zD rs cls):AC Tryz.prog 101 [.agg (vk rs cls)] [] fun c L=>∃rb,c=fQ rb∧L=eR (qh pg rs cls) rb 0 none:=by
 refine aL Tryz.func101 rfl Tryz.ntmps101 rfl fun B=>?_
 have hc:=pp pg (.sc (.func (.func 185) #[] #[])) rs h.few (fun r _=>iN.fn0 (f:=185) (by rw [List.append_nil];exact xR r)) cls h.dom h.len
 repeat' (first|refine IT ?_|refine IF a5 G9 ?_|refine bo ?_|fail)
 refine aX [] [] hc rfl rfl (Jt _) rfl fun c L1 ⟨rb,hc1,hL⟩=>?_
 subst hc1;subst hL
 repeat' (first|refine IT ?_|refine IF a5 G9 ?_)
 exact IL G9 ⟨rb,rfl,by rw [List.append_nil]⟩
structure SS where
 M:List Pl
 q:Option (Nat×Nat)
 k:Nat
 qr:Option (Nat×Nat)
abbrev nw (R:RD) (nb kb mb rb:Nat) (s:SS) (X:AL):AL:=(nb,.box [.sc (.map (some kb))] 129)::(kb,cP .string (t2 s.M))::(mb,.box [.vec s.q 2 (s.M.map lD)] 259)::qj R rb s.k s.qr::(tok s.q 261 2 s.M.length++(tok s.qr 330 2 s.k++X))
theorem sq {R:RD} {nb kb mb rb:Nat} {s:SS} {X:AL}:(nw R nb kb mb rb s X).Perm (sE nb kb mb s.M s.q++(qj R rb s.k s.qr::(tok s.qr 330 2 s.k++X))):=by
 unfold sE
 refine List.Perm.cons _ (List.Perm.cons _ (List.Perm.cons _ ?_))
 exact (List.perm_middle (l₁:=tok s.q 261 2 s.M.length)).symm
theorem mj {R:RD} {nb kb mb rb:Nat} {s:SS} {X:AL}:(nw R nb kb mb rb s X).Perm (eR R rb s.k s.qr++((nb,.box [.sc (.map (some kb))] 129)::(kb,cP .string (t2 s.M))::(mb,.box [.vec s.q 2 (s.M.map lD)] 259)::(tok s.q 261 2 s.M.length++X))):=by
 have h1:(nw R nb kb mb rb s X).Perm (qj R rb s.k s.qr::([(nb,.box [.sc (.map (some kb))] 129),(kb,cP .string (t2 s.M)),(mb,.box [.vec s.q 2 (s.M.map lD)] 259)]++(tok s.q 261 2 s.M.length++(tok s.qr 330 2 s.k++X)))):=List.perm_middle (l₁:=[_,_,_])
 refine h1.trans (List.Perm.cons _ ?_)
 rw [←List.append_assoc]
 refine (List.perm_append_comm_assoc _ (tok s.qr 330 2 s.k) X).trans ?_
 rw [List.append_assoc]
 exact Jt _
theorem u0 {R:RD} {nb kb mb rb:Nat} {s:SS} {X:AL} {a:Nat×AB}:(a::nw R nb kb mb rb s X).Perm (sE nb kb mb s.M s.q++(a::qj R rb s.k s.qr::(tok s.qr 330 2 s.k++X))):=(List.Perm.cons a sq).trans List.perm_middle.symm
theorem u1 {R:RD} {nb kb mb rb:Nat} {s:SS} {X:AL} {a:Nat×AB}:(a::nw R nb kb mb rb s X).Perm (eR R rb s.k s.qr++(a::(nb,.box [.sc (.map (some kb))] 129)::(kb,cP .string (t2 s.M))::(mb,.box [.vec s.q 2 (s.M.map lD)] 259)::(tok s.q 261 2 s.M.length++X))):=(List.Perm.cons a mj).trans List.perm_middle.symm
theorem HH {a b c:Nat×AB} {X:AL}:(a::b::c::X).Perm (b::c::a::X):=(List.Perm.swap b a _).trans (.cons b (List.Perm.swap c a _))
theorem HM {A T1 T2 T R:AL}:(A++(T1++(T2++(T++R)))).Perm (T++(A++(T1++(T2++R)))):=by
 rw [←List.append_assoc T1,←List.append_assoc A,←List.append_assoc T1 T2 R,←List.append_assoc A (T1++T2) R]
 exact List.perm_append_comm_assoc ..
theorem HN {A T1 T2 T3 T4:AL}:(A++(T1++(T2++(T3++T4)))).Perm (T4++(A++(T1++(T2++T3)))):=by
 rw [←List.append_assoc T2,←List.append_assoc T1,←List.append_assoc A]
 exact List.perm_append_comm
abbrev GK (R:RD) (nb kb mb rb:Nat) (s:SS):AL:=[(nb,.box [.sc (.map (some kb))] 129),(kb,cP .string (t2 s.M)),(mb,.box [.vec s.q 2 (s.M.map lD)] 259),qj R rb s.k s.qr]
theorem wX {R:RD} {nb kb mb rb:Nat} {s:SS} {T X:AL}:(nw R nb kb mb rb s (T++X)).Perm (T++nw R nb kb mb rb s X):=HM (A:=GK R nb kb mb rb s)
theorem wW {R:RD} {nb kb mb rb:Nat} {s:SS} {T X:AL}:(nw R nb kb mb rb s (T++X)).Perm (X++nw R nb kb mb rb s T):=HN (A:=GK R nb kb mb rb s)
structure HX where
 s:SS
 tab:List (List Int)
 qt:Option (Nat×Nat)
 ends:List Nat
 qe:Option (Nat×Nat)
abbrev Iq (t:HX):AL:=tok t.qt 22 1 t.tab.length++tok t.qe 246 1 t.ends.length
theorem oe {M:List Pl} {n:Nat} {p:Pl} (h:M[n]?=some p):(M.map lD)[n]?=some (lD p):=by simp [h]
structure zE (R:RD) (hv:Nat→Bool) (Lb:Nat):Prop where
 ok:zA R
 has:R.have_=ce hv R.rows.length
 long:∀r∈R.rows,r.length≤Lb
 few:Lb≤200
theorem zE.small {R:RD} {hv:Nat→Bool} {Lb:Nat} (h:zE R hv Lb) {M:List Pl} (hs:iX R.rows hv Lb M):(∀x∈M,kl x)∧M.length≤20000:=by
 have hf:=h.few
 have hr:=h.ok.few
 have h64:2 ^ R.rows.length≤64:=Nat.pow_le_pow_right (n:=2) (by omega) hr
 constructor
 ·intro x hx
  obtain ⟨h1,h2⟩:=hs.small x hx
  exact ⟨by omega,by omega⟩
 ·have:=hs.few
  have h3:(Lb+1) * 2 ^ R.rows.length≤201 * 64:=Nat.mul_le_mul (by omega) h64
  omega
set_option maxHeartbeats 16000000 in
theorem rU (R:RD) (hv:Nat→Bool) (Lb:Nat) (h:zE R hv Lb) (u:AV) (hu:iN Tryz.prog u [] [] fun c L=>∃rb,c=fQ rb∧L=eR R rb 0 none):AC Tryz.prog 99 [u] [] fun c _=>∃tab ends,qX R.cls R.rows hv R.C tab ends∧c= .tup [.imm 1 (b7 tab),.imm 1 (gi ends),ec true]:=by
 refine aL Tryz.func99 rfl Tryz.ntmps99 rfl fun B=>?_
 repeat' (first|refine IT ?_|refine IF a5 G9 ?_)
 refine gA [] [] hu rfl rfl (Jt _) rfl rfl fun c L1 ⟨rb,hc,hL⟩=>?_
 subst hc;subst hL
 repeat' (first|refine IT ?_|refine IF a5 G9 ?_)
 refine fK .string fun kb=>?_
 repeat' (first|refine IT ?_|refine IF a5 G9 ?_|(apply aK;first|refine IH 12 a5 0 IE ?_|refine IH 12 a5 1 IE ?_|refine IH 12 a5 2 IE ?_|refine IG a5 0 ID ?_|refine IG a5 1 ID ?_|refine IG a5 2 ID ?_|refine IG a5 3 ID ?_|fail)|refine bi a5 fun _=>?_|fail)
 rename_i nb mb
 have hok:=h.ok
 obtain ⟨hCm,hNm⟩:=hok.many
 refine aJ (bq 0 (cs':=[.vec none 2 []]) rfl fun σ vs hh=>lz.vrs (a:=[.sc (.slice none 0 0)]) (b:=[.vec none 2 []]) ⟨fun σ v h=>cL 2 h,trivial⟩ hh) ?_
 refine aJ (aI (L':=nw R nb kb mb rb ⟨[],none,0,none⟩ []) (by unfold nw;rw [Eg];exact HH)) ?_
 refine aX (eR R rb 0 none) _ (yT R rb 0 none (by omega)) rfl rfl mj rfl fun c L1 ⟨hc,k0,qr0,hk0,hL⟩=>?_
 subst hc;subst hL
 refine aJ (aI (L':=nw R nb kb mb rb ⟨[],none,k0,qr0⟩ []) (mj (s:=⟨[],none,k0,qr0⟩)).symm) ?_
 have hst0:iX R.rows hv Lb [((0,R.have_):Pl)]:=by
  have:=iX.start (rows:=R.rows) (have_:=hv) (L:=Lb)
  unfold lG at this
  rwa [←h.has] at this
 have hsm0:=(h.small hst0).1 (0,R.have_) (by simp)
 have hme0:=x8 nb kb mb [] (fun x hx=>by cases hx) (by simp) none (0,R.have_) hsm0
 repeat' (first|fail)
 refine gA (sE nb kb mb [] none) _ (iN.fn (f:=178) (caps:=[fQ nb,fQ mb]) hme0) rfl rfl sq rfl rfl fun c L1 ⟨hc,q0,hL⟩=>?_
 subst hc;subst hL
 refine aJ (aI (L':=nw R nb kb mb rb ⟨[(0,R.have_)],q0,k0,qr0⟩ []) (sq (s:=⟨[(0,R.have_)],q0,k0,qr0⟩)).symm) ?_
 repeat' (first|refine IT ?_|refine am ?_|refine IF a5 G9 ?_)
 refine bP (bS (t:=2) (c':= .vec none 1 (b7 [])) rfl fun σ v h=>cL 1 h) ?_
 refine bP (bS (t:=3) (c':= .vec none 1 (gi [])) rfl fun σ v h=>cL 1 h) ?_
 refine aO [5,7,8] (α:=HX) (fun t=>[(9,aF t.tab.length),(2,.vec t.qt 1 (b7 t.tab)),(3,.vec t.qe 1 (gi t.ends))]) (fun t=>iX R.rows hv Lb t.s.M∧gn R.cls R.rows R.C t.s.M t.tab t.ends∧t.tab.length≤t.s.M.length∧t.s.k≤1000001) (fun t=>nw R nb kb mb rb t.s (Iq t)) (fun t=>20000 - t.tab.length) ⟨⟨[(0,R.have_)],q0,k0,qr0⟩,[],none,[],none⟩ rfl ⟨rfl,rfl,rfl,trivial⟩ ⟨hst0,gn.nil,Nat.zero_le _,hk0⟩ (fun _ _ hh=>hh) ?_
 rintro ⟨⟨M,q,k,qr⟩,tab,qt,ends,qe⟩ ⟨hst,htb,htl,hk⟩
 dsimp only at hst htb htl hk ⊢
 try dsimp only [Jx,Jw,Jv,Jq]
 have hml:(M.map lD).length=M.length:=Jz ..
 obtain ⟨hsm,hM2⟩:=h.small hst
 repeat' (first|refine IT ?_|refine IF a5 G9 ?_|(apply bw;first|refine II a5 0 IC ?_|refine II a5 1 IC ?_|refine II a5 2 IC ?_|refine II a5 3 IC ?_|refine IJ a5 0 IC ?_|refine IJ a5 1 IC ?_|refine IJ a5 2 IC ?_|refine IK a5 1 IA (by assumption) rfl ?_|refine IK a5 0 IA (by assumption) rfl ?_|fail)|fail)
 refine ar rfl (fun h1=>?_) (fun h1=>?_)
 ·have hn2:tab.length < M.length:=by have h1':(tab.length:Int) < ((M.map lD).length:Int):=Iy h1;omega
  obtain ⟨p,hp⟩:∃p,M[tab.length]?=some p:=⟨_,Iz hn2⟩
  clear h1
  repeat' (first|refine IT ?_|refine am ?_|refine IF a5 G9 ?_|(apply bw;first|refine II a5 0 IC ?_|refine II a5 1 IC ?_|refine II a5 2 IC ?_|refine II a5 3 IC ?_|refine IJ a5 0 IC ?_|refine IJ a5 1 IC ?_|refine IJ a5 2 IC ?_|refine IK a5 1 IA (by assumption) rfl ?_|refine IK a5 0 IA (by assumption) rfl ?_|fail)|fail)
  refine kJ a5 R.C rfl rfl rfl rfl rfl rfl rfl (by omega) (by omega) rfl fun rwb=>?_
  rw [show (List.replicate R.C (List.map AV.sc [Value.int .i64 0])).flatten=dt (List.replicate R.C 0) from nY R.C]
  repeat' (first|refine IT ?_|refine am ?_|refine IF a5 G9 ?_)
  refine aO [2,3,5,7,8,9,10,33] (α:=Nat×SS×List Int) (fun t=>[(34,aF t.1)]) (fun t=>t.1≤R.C∧iX R.rows hv Lb t.2.1.M∧gn R.cls R.rows R.C t.2.1.M tab ends∧t.2.1.M[tab.length]?=some p∧t.2.2.length=R.C∧t.2.1.k≤1000001∧∀(c:Nat) z,c < t.1→t.2.2[c]?=some z→iM R.cls R.rows t.2.1.M p c z) (fun t=>(rwb,.box (dt t.2.2) 3)::nw R nb kb mb rb t.2.1 (tok qt 22 1 tab.length++tok qe 246 1 ends.length)) (fun t=>R.C - t.1) (0,⟨M,q,k,qr⟩,List.replicate R.C 0) rfl ⟨rfl,trivial⟩ ⟨Nat.zero_le _,hst,htb,hp,by simp,hk,fun c z hc=>by omega⟩ (fun _ _ hh=>hh) ?_
  ·rintro ⟨c,⟨M1,q1,k1,qr1⟩,eH⟩ ⟨hc,hst1,htb1,hp1,hrl,hk1,hce⟩
   dsimp only at hc hst1 htb1 hp1 hrl hk1 hce ⊢
   try dsimp only [Jx,Jw,Jv,Jq]
   have hcl:=i7 eH
   obtain ⟨hsm1,hM1⟩:=h.small hst1
   repeat' (first|refine IT ?_|refine IF a5 G9 ?_)
   refine ar rfl (fun h1=>?_) (fun h1=>?_)
   ·have hc2:c < R.C:=by have:=Iy h1;omega
    have hpg:=oe hp1
    have hps:=hst1.small p (Iw hp1)
    have hps2:=hsm1 p (Iw hp1)
    have hbe:=xS R hok rb k1 qr1 hk1 p (by have:=hps2.1;omega) (by have:=hps2.2;omega) c hc2
    have hst':=i8 (l:=eH) (i:=c) (z:= -1)
    clear h1
    repeat' (first|refine IT ?_|refine am ?_|refine IF a5 G9 ?_|(apply aS;first|refine aQ a5 ?_|refine aG a5 ?_)|fail)
    refine aa a5 0 rfl rfl rfl rfl rfl rfl (Nat.ble_eq_true_of_le (by rw [hcl,hrl,Int.toNat_natCast];show 0+c * 1+1≤_;omega)) ?_
    rw [hst']
    refine a7 ?_
    refine a6 ?_
    refine bP (aI (L':=(rwb,.box (dt (eH.set c (-1))) 3)::nw R nb kb mb rb ⟨M1,q1,k1,qr1⟩ (tok qt 22 1 tab.length++tok qe 246 1 ends.length)) (Jt _)) ?_
    repeat' (first|refine IT ?_|refine IF a5 G9 ?_|(apply bw;first|refine II a5 0 IC ?_|refine II a5 1 IC ?_|refine II a5 2 IC ?_|refine II a5 3 IC ?_|refine IJ a5 0 IC ?_|refine IJ a5 1 IC ?_|refine IJ a5 2 IC ?_|refine IK a5 1 IA (by assumption) rfl ?_|refine IK a5 0 IA (by assumption) rfl ?_|fail)|(apply aS;first|refine aQ a5 ?_|refine aG a5 ?_)|fail)
    refine aX (eR R rb k1 qr1) _ hbe rfl rfl u1 rfl fun c1 L1 ⟨hc1,k2,qr2,hk2,hL⟩=>?_
    subst hc1;subst hL
    refine aJ (aI (L':=(rwb,.box (dt (eH.set c (-1))) 3)::nw R nb kb mb rb ⟨M1,q1,k2,qr2⟩ (tok qt 22 1 tab.length++tok qe 246 1 ends.length)) (u1 (s:=⟨M1,q1,k2,qr2⟩)).symm) ?_
    have hrs:(eH.set c (-1)).length=R.C:=by rw [List.length_set];exact hrl
    have hrs2:=i7 (eH.set c (-1))
    repeat' (first|refine IT ?_|refine IF a5 G9 ?_|(apply aK;first|refine IH 12 a5 0 IE ?_|refine IH 12 a5 1 IE ?_|refine IH 12 a5 2 IE ?_|refine IG a5 0 ID ?_|refine IG a5 1 ID ?_|refine IG a5 2 ID ?_|refine IG a5 3 ID ?_|fail)|refine bi a5 fun _=>?_|fail)
    refine ar rfl (fun h1=>?_) (fun h1=>?_)
    ·have hne:(c5 R.cls R.rows p c).2≠0:=by
      intro e
      have h1':((c5 R.cls R.rows p c).2:Int)≠0:=Iy h1
      rw [e] at h1'
      exact h1' rfl
     have hst2:=hst1.meet h.long hne
     have hsm2:=(h.small hst2).1
     have hme:=x8 nb kb mb M1 hsm1 (by omega) q1 (c5 R.cls R.rows p c) (hsm2 _ (kO _ _))
     have hput:=i8 (l:=eH.set c (-1)) (i:=c) (z:=((dN M1 (c5 R.cls R.rows p c)).idxOf (c5 R.cls R.rows p c):Nat))
     have hcn:=iM.new (M:=M1) hne
     have htm:=htb1.more (by have:=(Ju hp1).1;omega) (c5 R.cls R.rows p c)
     have hpm:=mQ (c5 R.cls R.rows p c) hp1
     have hcm:∀(c':Nat) z,c' < c→eH[c']?=some z→iM R.cls R.rows (dN M1 (c5 R.cls R.rows p c)) p c' z:=fun c' z h1 h2=>(hce c' z h1 h2).more
     clear h1
     repeat' (first|refine IT ?_|refine IF a5 G9 ?_)
     refine gA (sE nb kb mb M1 q1) _ (iN.fn (f:=178) (caps:=[fQ nb,fQ mb]) hme) rfl rfl u0 rfl rfl fun c2 L2 ⟨hc2',q2,hL⟩=>?_
     subst hc2';subst hL
     refine aJ (aI (L':=(rwb,.box (dt (eH.set c (-1))) 3)::nw R nb kb mb rb ⟨dN M1 (c5 R.cls R.rows p c),q2,k2,qr2⟩ (tok qt 22 1 tab.length++tok qe 246 1 ends.length)) (u0 (s:=⟨dN M1 (c5 R.cls R.rows p c),q2,k2,qr2⟩)).symm) ?_
     repeat' (first|(apply aS;first|refine aQ a5 ?_|refine aG a5 ?_)|fail)
     refine aa a5 0 rfl rfl rfl rfl rfl rfl (Nat.ble_eq_true_of_le (by rw [hrs2,hrs,Int.toNat_natCast];show 0+c * 1+1≤_;omega)) ?_
     rw [hput]
     repeat' (first|refine IT ?_|refine IF a5 G9 ?_|(apply aV;refine aU ?_)|fail)
     refine aC (c+1,⟨dN M1 (c5 R.cls R.rows p c),q2,k2,qr2⟩,(eH.set c (-1)).set c ((dN M1 (c5 R.cls R.rows p c)).idxOf (c5 R.cls R.rows p c):Nat)) rfl ⟨by rw [Iv];rfl,trivial⟩ ⟨hc2,hst2,htm,hpm,by rw [List.length_set];exact hrs,hk2,fun c' z h1 h2=>?_⟩ (by dsimp only;omega) (fun _ _ hh=>hh)
     by_cases he:c'=c
     ·subst he
      rw [List.getElem?_set_self (by omega)] at h2
      cases h2
      exact hcn
     ·rw [List.getElem?_set_ne (fun e=>he e.symm),List.getElem?_set_ne (fun e=>he e.symm)] at h2
      exact hcm c' z (by dsimp only at h1;omega) h2
    ·have he0:(c5 R.cls R.rows p c).2=0:=by
      have h1':¬((c5 R.cls R.rows p c).2:Int)≠0:=Ix h1
      omega
     clear h1
     repeat' (first|refine IT ?_|refine IF a5 G9 ?_|(apply aV;refine aU ?_)|fail)
     refine aC (c+1,⟨M1,q1,k2,qr2⟩,eH.set c (-1)) rfl ⟨by rw [Iv];rfl,trivial⟩ ⟨hc2,hst1,htb1,hp1,hrs,hk2,fun c' z h1 h2=>?_⟩ (by dsimp only;omega) (fun _ _ hh=>hh)
     by_cases he:c'=c
     ·subst he
      rw [List.getElem?_set_self (by omega)] at h2
      cases h2
      exact .inl ⟨he0,rfl⟩
     ·rw [List.getElem?_set_ne (fun e=>he e.symm)] at h2
      exact hce c' z (by dsimp only at h1;omega) h2
   ·have hc2:c=R.C:=by have:=Ix h1;omega
    subst hc2
    have hn3:tab.length < M1.length:=(Ju hp1).1
    have hpg:=oe hp1
    have hps2:=hsm1 p (Iw hp1)
    have hml1:(M1.map lD).length=M1.length:=Jz ..
    have hen:=Dw R hok rb k1 qr1 hk1 p (by have:=hps2.1;omega) (by have:=hps2.2;omega)
    have htl3:=cn tab
    have hul3:=mV ends
    have hsn:=htb1.snoc hp1 hrl fun c' z h2=>hce c' z (by have:=(Ju h2).1;omega) h2
    have hel:=htb1.len
    clear h1
    repeat' (first|refine IT ?_|refine IF a5 G9 ?_|(apply bw;first|refine II a5 0 IC ?_|refine II a5 1 IC ?_|refine II a5 2 IC ?_|refine II a5 3 IC ?_|refine IJ a5 0 IC ?_|refine IJ a5 1 IC ?_|refine IJ a5 2 IC ?_|refine IK a5 1 IA (by assumption) rfl ?_|refine IK a5 0 IA (by assumption) rfl ?_|fail)|fail)
    refine ar rfl (fun h1=>?_) (fun h1=>?_)
    ·have h1':(20000:Int) < ((M1.map lD).length:Int):=Iy h1
     omega
    clear h1
    refine bP (kQ (t:=10) (sz:=1) (n:=R.C) (cap:=R.C) (l:=aT eH) 0 rfl rfl (by rw [←nX,Nat.mul_one,List.take_of_length_le (by omega)]) (by omega) (fun e he=>by unfold aT at he;obtain ⟨y,_,rfl⟩:=List.mem_map.1 he;rfl) (by rw [b6];exact hrl) (Nat.le_refl _) (by unfold maxLen;omega)) ?_
    repeat' (first|refine IT ?_|refine IF a5 G9 ?_|refine bH a5 ?_|fail)
    refine bM a5 (nw R nb kb mb rb ⟨M1,q1,k1,qr1⟩ (tok qe 246 1 ends.length)) rfl rfl rfl rfl (by rw [htl3];exact wX) (by rw [htl3];simp;omega) (by rw [htl3];simp;omega) rfl fun qt'=>?_
    have hrsn:b7 tab++[[AV.imm 1 (aT eH)]]=b7 (tab++[eH]):=by simp [b7]
    refine aJ (aI (L':=nw R nb kb mb rb ⟨M1,q1,k1,qr1⟩ (tok qt' 22 1 (b7 tab++[[AV.imm 1 (aT eH)]]).length++tok qe 246 1 ends.length)) wX.symm) ?_
    repeat' (first|refine IT ?_|refine IF a5 G9 ?_|(apply bw;first|refine II a5 0 IC ?_|refine II a5 1 IC ?_|refine II a5 2 IC ?_|refine II a5 3 IC ?_|refine IJ a5 0 IC ?_|refine IJ a5 1 IC ?_|refine IJ a5 2 IC ?_|refine IK a5 1 IA (by assumption) rfl ?_|refine IK a5 0 IA (by assumption) rfl ?_|fail)|(apply aS;first|refine aQ a5 ?_|refine aG a5 ?_)|fail)
    refine aX (eR R rb k1 qr1) _ hen rfl rfl mj rfl fun c1 L1 ⟨hc1,k2,qr2,hk2,hL⟩=>?_
    subst hc1;subst hL
    refine aJ (aI (L':=nw R nb kb mb rb ⟨M1,q1,k2,qr2⟩ (tok qt' 22 1 (b7 tab++[[AV.imm 1 (aT eH)]]).length++tok qe 246 1 ends.length)) (mj (s:=⟨M1,q1,k2,qr2⟩)).symm) ?_
    repeat' (first|refine bH a5 ?_|fail)
    refine bM a5 (nw R nb kb mb rb ⟨M1,q1,k2,qr2⟩ (tok qt' 22 1 (b7 tab++[[AV.imm 1 (aT eH)]]).length)) rfl rfl rfl rfl (by rw [hul3];exact wW) (by rw [hul3];simp;omega) (by rw [hul3];simp;omega) rfl fun qe'=>?_
    have husn:gi ends++[[iY (j3 R.rows p)]]=gi (ends++[j3 R.rows p]):=by simp [gi]
    refine aJ (aI (L':=nw R nb kb mb rb ⟨M1,q1,k2,qr2⟩ (tok qt' 22 1 (b7 tab++[[AV.imm 1 (aT eH)]]).length++tok qe' 246 1 (gi ends++[[iY (j3 R.rows p)]]).length)) wW.symm) ?_
    repeat' (first|refine IT ?_|refine IF a5 G9 ?_|(apply aV;refine aU ?_)|fail)
    have hll:(tab++[eH]).length=tab.length+1:=by simp
    refine aC ⟨⟨M1,q1,k2,qr2⟩,tab++[eH],qt',ends++[j3 R.rows p],qe'⟩ rfl ⟨?_,by dsimp only;rw [←hrsn];rfl,by dsimp only;rw [←husn];rfl,trivial⟩ ⟨hst1,hsn,by dsimp only;omega,hk2⟩ (by dsimp only;omega) (fun _ _ hh=>?_)
    ·dsimp only
     rw [hll,Iv]
     rfl
    ·dsimp only
     rw [hrsn,husn,cn,mV] at hh
     exact hh
 ·have hn2:tab.length=M.length:=by
   have h1':¬(tab.length:Int) < ((M.map lD).length:Int):=Ix h1
   omega
  clear h1
  repeat' (first|refine IT ?_|refine IF a5 G9 ?_)
  refine bh (bS (t:=2) (c':= .imm 1 (b7 tab)) rfl fun σ v h=>VR.im h) ?_
  refine bh (bS (t:=3) (c':= .imm 1 (gi ends)) rfl fun σ v h=>VR.im h) ?_
  exact gW (cs:=[.imm 1 (b7 tab),.imm 1 (gi ends),ec true]) [] ⟨rfl,rfl,rfl,trivial⟩ (List.nil_sublist _) ⟨tab,ends,htb.done hst hn2,rfl⟩
structure t8 (N:Nat) (r:bb):Prop where
 back:∀s∈r.Back,jW s∧∀g∈s,0≤g∧g < (N:Int)
 in_:∀s∈r.In,jW s∧∀g∈s,0≤g∧g < (N:Int)
 ahead:∀s∈r.Ahead,jW s∧∀g∈s,0≤g∧g < (N:Int)
 long:r.Back.length≤200∧r.In.length+r.Ahead.length≤200
structure ww (N:Nat) (l:aN):Prop where
 few:l.Rules.length≤6
 rule:∀r∈l.Rules,t8 N r
def dO (rs:List bb):List (List Int):=rs.flatMap fun r=>r.Back++r.In++r.Ahead
theorem xG {rs:List bb} {k:Nat} {r:bb} (h:rs[k]?=some r):dO (rs.take (k+1))=dO (rs.take k)++r.Back++r.In++r.Ahead:=by
 unfold dO
 rw [List.take_add_one,h]
 simp
theorem p7 {N:Nat}:∀{rs:List bb},(∀r∈rs,t8 N r)→(dO rs).length≤400 * rs.length
 | [],_=>by simp [dO]
 | r::rs,h=>by
  have ih:=p7 (rs:=rs) fun x hx=>h x (by simp [hx])
  have hr:=(h r (by simp)).long
  unfold dO at ih ⊢
  rw [List.flatMap_cons,List.length_append,List.length_append,List.length_append,List.length_cons]
  omega
theorem s9 {N:Nat} {rs:List bb} (h:∀r∈rs,t8 N r):∀s∈dO rs,jW s∧∀g∈s,0≤g∧g < (N:Int):=by
 intro s hs
 unfold dO at hs
 obtain ⟨r,hr,hs⟩:=List.mem_flatMap.1 hs
 rw [List.mem_append,List.mem_append] at hs
 rcases hs with (hs | hs) | hs
 ·exact (h r hr).back s hs
 ·exact (h r hr).in_ s hs
 ·exact (h r hr).ahead s hs
structure ke where
 cls:List Int
 fore:List (List Int)
 back:List (List Int)
 foreE:List Nat
 backE:List Nat
def Ht (a:ke):List AV:=[.imm 1 (aT a.cls),.imm 1 (b7 a.fore),.imm 1 (b7 a.back),.imm 1 (gi a.foreE),.imm 1 (gi a.backE)]
structure wx (N:Nat) (rs:List bb) (a:ke):Prop where
 cls:t9 N (gk a.cls).toNat a.cls (dO rs)
 fore:qX a.cls (rs.map fun r=>(o4 r).1) (jJ o4 rs) (gk a.cls).toNat a.fore a.foreE
 back:qX a.cls (rs.map fun r=>(pg r).1) (jJ pg rs) (gk a.cls).toNat a.back a.backE
theorem kA (r:bb):(dz r).length≤r.In.length+r.Ahead.length:=by
 unfold dz
 split
 ·simp
 ·rw [List.length_append];omega
theorem kB {r:bb} {s:List Int} (h:s∈dz r):s∈r.In∨s∈r.Ahead:=by
 unfold dz at h
 split at h
 ·cases h
 ·exact Js h
section
variable {N:Nat} {l:aN} (h:ww N l) (hN0:0 < N) (hN:N≤65536)
include h
theorem mF:∀s∈dO l.Rules,(∀g∈s,0≤g∧g < (N:Int))∧s.Nodup:=fun s hs=>⟨(s9 h.rule s hs).2,gF (s9 h.rule s hs).1⟩
include hN
theorem qd:(∀z∈dI N (dO l.Rules),0≤z∧z≤1000000)∧(dI N (dO l.Rules)).length=N∧(gk (dI N (dO l.Rules))).toNat≤1000000∧∀z∈dI N (dO l.Rules),0≤z∧z < ((gk (dI N (dO l.Rules))).toNat:Int):=by
 have h1:=rJ N _ (mF h)
 refine ⟨fun z hz=>by have:=h1 z hz;omega,rK N _ (mF h),?_,(uu N _ (mF h)).dom⟩
 have:gk (dI N (dO l.Rules))≤(N:Int):=rD (by omega) fun z hz=>(h1 z hz).2
 omega
theorem G5:zD l.Rules (dI N (dO l.Rules)):=by
 obtain ⟨h1,h2,_,_⟩:=qd h hN
 exact ⟨h.few,h1,by omega,fun r hr=>by have:=(h.rule r hr).long;omega⟩
theorem DD:zE (qh o4 l.Rules (dI N (dO l.Rules))) (jJ o4 l.Rules) 200:=by
 obtain ⟨h1,h2,h3,h4⟩:=qd h hN
 refine ⟨⟨by show (l.Rules.map _).length≤6;rw [Jz];exact h.few,h4,fun eH hrow s hs=>?_,fun eH hrow=>?_,h3,by show (dI N (dO l.Rules)).length≤_;omega⟩,by show ce _ _=ce _ (l.Rules.map _).length;rw [Jz],fun eH hrow=>?_,Nat.le_refl _⟩
 ·obtain ⟨r,hr,rfl⟩:=List.mem_map.1 hrow
  have hb:=h.rule r hr
  have hsr:jW s∧∀g∈s,0≤g∧g < (N:Int):=by
   rcases kB hs with hs | hs
   ·exact hb.in_ s hs
   ·exact hb.ahead s hs
  refine ⟨fun g hg=>?_,?_⟩
  ·show 0≤g∧g < ((dI N (dO l.Rules)).length:Int)
   rw [h2]
   exact hsr.2 g hg
  ·have:=fq (gF hsr.1) hsr.2
   omega
 ·obtain ⟨r,hr,rfl⟩:=List.mem_map.1 hrow
  have:=kA r
  have:=(h.rule r hr).long
  show (dz r).length≤_
  omega
 ·obtain ⟨r,hr,rfl⟩:=List.mem_map.1 hrow
  have:=kA r
  have:=(h.rule r hr).long
  show (dz r).length≤_
  omega
theorem D3:zE (qh pg l.Rules (dI N (dO l.Rules))) (jJ pg l.Rules) 200:=by
 obtain ⟨h1,h2,h3,h4⟩:=qd h hN
 refine ⟨⟨by show (l.Rules.map _).length≤6;rw [Jz];exact h.few,h4,fun eH hrow s hs=>?_,fun eH hrow=>?_,h3,by show (dI N (dO l.Rules)).length≤_;omega⟩,by show ce _ _=ce _ (l.Rules.map _).length;rw [Jz],fun eH hrow=>?_,Nat.le_refl _⟩
 ·obtain ⟨r,hr,rfl⟩:=List.mem_map.1 hrow
  have hsr:=(h.rule r hr).back s hs
  refine ⟨fun g hg=>?_,?_⟩
  ·show 0≤g∧g < ((dI N (dO l.Rules)).length:Int)
   rw [h2]
   exact hsr.2 g hg
  ·have:=fq (gF hsr.1) hsr.2
   omega
 ·obtain ⟨r,hr,rfl⟩:=List.mem_map.1 hrow
  have:=(h.rule r hr).long
  show r.Back.length≤_
  omega
 ·obtain ⟨r,hr,rfl⟩:=List.mem_map.1 hrow
  have:=(h.rule r hr).long
  show r.Back.length≤_
  omega
end
set_option maxHeartbeats 8000000 in
theorem Ah (f:aZ) (n:Nat) (l:aN) (hl:f.Lookups[n]?=some l) (h:ww f.Glyphs.length l) (hN0:0 < f.Glyphs.length) (hN:f.Glyphs.length≤65536):AC Tryz.prog 35 [cR f,aF n] [] fun c _=>∃a,wx f.Glyphs.length l.Rules a∧c= .tup [.agg (Ht a),aF 0]:=by
 refine aL Tryz.func35 rfl Tryz.ntmps35 rfl fun B=>?_
 have hgl:(f.Glyphs.map bG).length=f.Glyphs.length:=Jz ..
 have hll:(f.Lookups.map bC).length=f.Lookups.length:=Jz ..
 have hrl:(l.Rules.map bB).length=l.Rules.length:=Jz ..
 have hnl:=(Ju hl).1
 have hlg:(f.Lookups.map bC)[n]?=some (bC l):=by simp [hl]
 have hfew:=h.few
 repeat' (first|refine IT ?_|refine IF a5 G9 ?_|refine IM G9 ?_|refine bo ?_|refine bi a5 fun _=>?_|fail)
 refine c7 [1,2,4] False rfl (fun Q' K=>?_) (fun hC=>hC.elim) (fun _=>?_)
 ·repeat' (first|refine IT ?_|refine IF a5 G9 ?_|refine IM G9 ?_|refine IP IB ?_|refine IR IA (fun _=>?_) (fun _=>?_))
  all_goals exact K _ _ rfl rfl (by simp_all <;> omega)
 repeat' (first|refine IT ?_|refine IF a5 G9 ?_|(apply aS;first|refine aQ a5 ?_|refine aG a5 ?_)|fail)
 rename_i r4 _
 have hpd:=qS f.Glyphs.length hN0 hN (dO l.Rules) (s9 h.rule) (by have:=p7 h.rule;omega)
 have hcls:=uu f.Glyphs.length (dO l.Rules) (mF h)
 have hso:=G5 h hN
 have hsf:=rU _ _ _ (DD h hN) (.fnB 100 [.agg (vk l.Rules (dI f.Glyphs.length (dO l.Rules)))] []) (iN.fnB (f:=100) (fs:=[.agg (vk l.Rules (dI f.Glyphs.length (dO l.Rules)))]) (caps:=[]) (B2 hso))
 have hsb:=rU _ _ _ (D3 h hN) (.fnB 101 [.agg (vk l.Rules (dI f.Glyphs.length (dO l.Rules)))] []) (iN.fnB (f:=101) (fs:=[.agg (vk l.Rules (dI f.Glyphs.length (dO l.Rules)))]) (caps:=[]) (Ab hso))
 refine ar rfl (fun h1=>?_) (fun h1=>?_)
 ·have:=Iy h1
  omega
 clear h1
 repeat' (first|refine IT ?_|refine am ?_|refine IF a5 G9 ?_)
 refine bP (bS (t:=7) (c':= .vec none 1 (b7 [])) rfl fun σ v h=>cL 1 h) ?_
 refine aO [2,4,6,49,50] (α:=Nat×Option (Nat×Nat)) (fun s=>[(51,aF s.1),(7,.vec s.2 1 (b7 (dO (l.Rules.take s.1))))]) (fun s=>s.1≤l.Rules.length) (fun s=>(r4,.box [.sc (.slice none 0 0),.sc (.slice none 0 0),.sc (.slice none 0 0),.sc (.slice none 0 0),.sc (.slice none 0 0)] 62)::tok s.2 22 1 (dO (l.Rules.take s.1)).length) (fun s=>l.Rules.length - s.1) (0,none) rfl ⟨rfl,rfl,trivial⟩ (Nat.zero_le _) (fun _ _ hh=>hh) ?_
 ·rintro ⟨k,q⟩ hk
  dsimp only at hk ⊢
  try dsimp only [Jx,Jw,Jv,Jq]
  repeat' (first|refine IT ?_|refine IF a5 G9 ?_)
  refine ar rfl (fun h1=>?_) (fun h1=>?_)
  ·have hk2:k < l.Rules.length:=by have:=Iy h1;omega
   obtain ⟨r,hr⟩:∃z,l.Rules[k]?=some z:=⟨_,Iz hk2⟩
   have hrg:(l.Rules.map bB)[k]?=some (bB r):=by simp [hr]
   have hlong:=(h.rule r (Iw hr)).long
   have hal:=xG hr
   have hlen:(dO (l.Rules.take k)).length≤2400:=by
    have:=p7 (N:=f.Glyphs.length) (rs:=l.Rules.take k) fun x hx=>h.rule x (List.mem_of_mem_take hx)
    rw [List.length_take] at this
    omega
   have hri:b7 (dO (l.Rules.take (k+1)))=b7 (dO (l.Rules.take k))++b7 r.Back++b7 r.In++b7 r.Ahead:=by rw [hal];simp [b7]
   have hrl0:=cn (dO (l.Rules.take k))
   have hrl1:=cn r.Back
   have hrl2:=cn r.In
   have hrl3:=cn r.Ahead
   have hln:(dO (l.Rules.take (k+1))).length=(dO (l.Rules.take k)).length+r.Back.length+r.In.length+r.Ahead.length:=by rw [hal,List.length_append,List.length_append,List.length_append]
   generalize b7 (dO (l.Rules.take k))=A0 at *
   generalize (dO (l.Rules.take k)).length=n0 at *
   clear h1
   repeat' (first|refine IT ?_|refine am ?_|refine IF a5 G9 ?_|(apply aS;first|refine aQ a5 ?_|refine aG a5 ?_)|(apply aK;first|refine IH 9 a5 0 IE ?_|refine IH 9 a5 1 IE ?_|refine IH 9 a5 2 IE ?_|refine IH 10 a5 0 IE ?_|refine IH 10 a5 1 IE ?_|refine IH 10 a5 2 IE ?_|refine IG a5 0 ID ?_|refine IG a5 1 ID ?_|refine IG a5 2 ID ?_|refine IG a5 3 ID ?_|fail)|refine bi a5 fun _=>?_|fail)
   refine bM a5 [(r4,.box [.sc (.slice none 0 0),.sc (.slice none 0 0),.sc (.slice none 0 0),.sc (.slice none 0 0),.sc (.slice none 0 0)] 62)] rfl rfl rfl rfl (by rw [hrl0];exact List.perm_append_comm (l₁:=[_])) (by omega) (by omega) rfl fun q1=>?_
   repeat' (first|refine IT ?_|refine IF a5 G9 ?_)
   refine bM a5 [(r4,.box [.sc (.slice none 0 0),.sc (.slice none 0 0),.sc (.slice none 0 0),.sc (.slice none 0 0),.sc (.slice none 0 0)] 62)] rfl rfl rfl rfl (Jt _) (by rw [List.length_append];omega) (by rw [List.length_append];omega) rfl fun q2=>?_
   repeat' (first|refine IT ?_|refine IF a5 G9 ?_)
   refine bM a5 [(r4,.box [.sc (.slice none 0 0),.sc (.slice none 0 0),.sc (.slice none 0 0),.sc (.slice none 0 0),.sc (.slice none 0 0)] 62)] rfl rfl rfl rfl (Jt _) (by rw [List.length_append,List.length_append];omega) (by rw [List.length_append,List.length_append];omega) rfl fun q3=>?_
   repeat' (first|refine IT ?_|refine IF a5 G9 ?_|(apply aV;refine aU ?_)|fail)
   refine aC (k+1,q3) rfl ⟨by rw [Iv];rfl,by dsimp only;rw [hri];rfl,trivial⟩ hk2 (by dsimp only;omega) (fun σ w hh=>?_)
   have h2:=hh.perm (List.perm_append_comm (l₂:=[_]))
   have h3:(A0++b7 r.Back++b7 r.In++b7 r.Ahead).length=(dO (l.Rules.take (k+1))).length:=by rw [hln,List.length_append,List.length_append,List.length_append];omega
   rw [h3] at h2
   exact h2
  ·have hk2:k=l.Rules.length:=by have:=Ix h1;omega
   subst hk2
   rw [List.take_length]
   haveI:AD Tryz.prog 98 [aF ((f.Glyphs.map bG).length:Nat),.imm 1 (b7 (dO l.Rules))] (.imm 1 (aT (dI f.Glyphs.length (dO l.Rules)))):=⟨by rw [hgl];exact hpd⟩
   clear h1
   repeat' (first|refine IT ?_|refine IF a5 G9 ?_|(apply aK;first|refine IH 9 a5 0 IE ?_|refine IH 9 a5 1 IE ?_|refine IH 9 a5 2 IE ?_|refine IH 10 a5 0 IE ?_|refine IH 10 a5 1 IE ?_|refine IH 10 a5 2 IE ?_|refine IG a5 0 ID ?_|refine IG a5 1 ID ?_|refine IG a5 2 ID ?_|refine IG a5 3 ID ?_|fail)|refine bi a5 fun _=>?_|(apply bk;refine bf ?_)|fail)
   refine aX [] _ hsf rfl rfl (Jt _) rfl fun c1 L1 ⟨ft,fe,hf1,hc1⟩=>?_
   subst hc1
   refine aJ (bO (List.sublist_append_right ..)) ?_
   repeat' (first|refine IT ?_|refine IF a5 G9 ?_|refine bK rfl ?_)
   refine aX [] _ hsb rfl rfl (Jt _) rfl fun c1 L1 ⟨bt,be,hb1,hc1⟩=>?_
   subst hc1
   refine aJ (bO (List.sublist_append_right ..)) ?_
   repeat' (first|refine IT ?_|refine IF a5 G9 ?_|(apply aK;first|refine IH 9 a5 0 IE ?_|refine IH 9 a5 1 IE ?_|refine IH 9 a5 2 IE ?_|refine IH 10 a5 0 IE ?_|refine IH 10 a5 1 IE ?_|refine IH 10 a5 2 IE ?_|refine IG a5 0 ID ?_|refine IG a5 1 ID ?_|refine IG a5 2 ID ?_|refine IG a5 3 ID ?_|fail)|refine bK rfl ?_)
   exact gW (cs:=[.agg (Ht ⟨dI f.Glyphs.length (dO l.Rules),ft,bt,fe,be⟩),aF 0]) [] ⟨⟨_,0,_,_,rfl,rfl,.inr ⟨eA a5 rfl,rfl⟩⟩,rfl,trivial⟩ (List.nil_sublist _) ⟨⟨dI f.Glyphs.length (dO l.Rules),ft,bt,fe,be⟩,⟨hcls,hf1,hb1⟩,rfl⟩
end Go.Proofs.YtpmdfoaadejmkaaGreatDoor
namespace Go.Proofs.YtpmdfoaadejmkaaGreatDoor
open Go.RowKit
section
variable {P:Program} {fr:bW} {B:Bs} {L:AL} {ty t t':TypeId} {pos:String} {af:Array Edge} {g:Option (Nat×Bool)} {x y z q:Operand} {u:AV}
theorem CN {d:Option Tmp} {s e sz by_ hi:Nat} {l:List (List AV)} {k k':IntKind} {a b:Int} (hc:ka P t e sz by_) (hx:bc fr x=some u) (hu:io u=some (s,l)) (hs:Nat.beq s sz=true) (hy:bc fr y=some (.sc (.int k a))) (hz:bc fr z=some (.sc (.int k' b))) (ha:a=(hi:Int)) (hb:b=(hi:Int)) (h:hi≤l.length):Av P ⟨d,.slice t x none (some y) (some z),ty,pos,af,g⟩ fr (.imm s (l.take hi)):=by
 intro σ ρ w hρ _
 subst ha hb
 rw [Nat.beq_eq] at hs
 subst hs
 have h1:=(hρ x u hx).im
 rw [cO hu] at h1
 obtain ⟨A,cap,hv,hcap,_⟩:=h1.imm_inv
 rw [hv] at h1
 have hvr:=h1.cut (lo:=0) (hi:=hi) (m:=hi) (Nat.zero_le _) h (Nat.le_refl _) (by omega)
 haveI:=hc
 simp only [List.drop_zero,Nat.sub_zero,Nat.zero_mul] at hvr
 refine ⟨_,?_,hvr⟩
 have h4:hi≤cap:=by omega
 simp [execOp,hv,(hρ y _ hy).sc_inv,(hρ z _ hz).sc_inv,Instr.sliceAt,Instr.slice,Instr.sliceBounds,Instr.sliceBound,asIntOf,run_underlying hc.under,cQ (t:=t),h4]
end
section
variable {P:Program} {tt:TT} {l:List Oper} {fr:bW} {fin:jo} {sk:lU} {acc:bW} {L:AL} {k:Nat} {dd:Option Tmp} {ty t:TypeId} {pos:String} {af:Array Edge} {g:Option (Nat×Bool)} {x y z:Operand} {u:AV}
theorem Db (ok:dX P tt) (hi:Nat) {s e sz by_:Nat} {ll:List (List AV)} {q q':IntKind} {a b:Int} (ht:jm tt t=some (e,sz,by_)) (hx:bc (ct l.toArray acc fr af.toList) x=some u) (hu:io u=some (s,ll)) (hs:Nat.beq s sz=true) (hy:bc (ct l.toArray acc fr af.toList) y=some (.sc (.int q a))) (hz:bc (ct l.toArray acc fr af.toList) z=some (.sc (.int q' b))) (ha:a=(hi:Int)) (hb:b=(hi:Int)) (h1:hi≤ll.length) (hg:iD ⟨dd,.slice t x none (some y) (some z),ty,pos,af,g⟩ acc) (h:DA P l fr fin sk ((k,.imm s (ll.take hi))::acc) L):
  cE P l fr fin k .v ⟨dd,.slice t x none (some y) (some z),ty,pos,af,g⟩ sk acc L:=eW hg (yK (CN (bj ok ht).1 hx hu hs hy hz ha hb h1)) h
end
end Go.Proofs.YtpmdfoaadejmkaaGreatDoor
