/-
  The rows of a lookup's rules: the walk.
-/
import Derived.Test.YtpmdfoaadejmkaaGreatDoorM16
import Derived.Test.YtpmdfoaadejmkaaGreatDoorM12
import Derived.Test.YtpmdfoaadejmkaaGreatDoorM13
namespace Go.Proofs.YtpmdfoaadejmkaaGreatDoor
open Go.RowKit
attribute [local irreducible] AT bK AX AO Av Kt bh dw DA cK
abbrev wd (rs:List bc) (cls:List Int):List AV:=[.imm 6 (rs.map bB),.imm 1 (aW cls)]
def kf (w:bc→List (List Int)×Bool) (rs:List bc) (n:Nat):Bool:=match rs[n]? with
 | some r=>(w r).2
 | none=>false
def r3 (w:bc→List (List Int)×Bool) (rs:List bc) (cls:List Int):RD:=⟨rs.map fun r=>(w r).1,cn (kf w rs) rs.length,cls,(gB cls).toNat⟩
theorem xc (l:List (List (List Int))) (r:List (List Int)):jF l++[[.imm 1 (b6 r)]]=jF (l++[r]):=by simp [jF]
theorem wT {l:List Int} {k:Nat} {z:Int} (h:l[k]?=some z):gB (l.take (k+1))=max (gB (l.take k)) (z+1):=by
 unfold gB
 rw [List.take_add_one,h]
 simp
set_option maxHeartbeats 8000000 in
theorem pX (w:bc→List (List Int)×Bool) (u:AV) (rs:List bc) (hrs:rs.length≤6) (hw:∀r∈rs,jP Tryz.prog u [.agg (bB r)] [] fun c _=>c= .tup [.imm 1 (b6 (w r).1),dY (w r).2]) (cls:List Int) (hcl:∀z∈cls,0≤z∧z≤1000000) (hcl2:cls.length≤1000000):AC Tryz.prog 183 [.agg (wd rs cls),u] [] fun c L=>∃rb,c=g9 rb∧L=f6 (r3 w rs cls) rb 0 none:=by
 refine aN Tryz.func183 rfl Tryz.ntmps183 rfl fun B=>?_
 have hrl:(rs.map bB).length=rs.length:=Jv ..
 have hil:=aZ cls
 repeat' (first|refine JU ?_|refine am ?_|refine JG a5 JA ?_|refine yc (d:=15) fun _=>?_|refine bf ?_|fail)
 rename_i rb
 refine bS (bE 0 (cs':=[.vec none 1 [],jp 0,.imm 1 (aW cls),aF 0,.vec none 2 []]) rfl fun σ vs h=>mF.vrs (a:=[.sc (.slice none 0 0),jp 0,.imm 1 (aW cls),aF 0,.sc (.slice none 0 0)]) (b:=[.vec none 1 [],jp 0,.imm 1 (aW cls),aF 0,.vec none 2 []]) ⟨fun σ v h=>cR 1 h,cY.refl _,cY.refl _,cY.refl _,fun σ v h=>cR 2 h,trivial⟩ h) ?_
 refine aP [1,2,5,17,18] (α:=Nat×Option (Nat×Nat)) (fun s=>[(19,aF s.1)]) (fun s=>s.1≤rs.length) (fun s=>(rb,.box [.vec s.2 1 (jF ((rs.take s.1).map fun r=>(w r).1)),jp (cn (kf w rs) s.1),.imm 1 (aW cls),aF 0,.vec none 2 []] 268)::tok s.2 45 1 s.1) (fun s=>rs.length - s.1) (0,none) rfl ⟨rfl,trivial⟩ (Nat.zero_le _) (fun _ _ h=>h) ?_
 ·rintro ⟨n,q⟩ hn
  dsimp only at hn ⊢
  try dsimp only [Jt,Js,Jr,Kz]
  repeat' (first|refine JU ?_|refine JG a5 JA ?_)
  refine ar rfl (fun h1=>?_) (fun h1=>?_)
  ·have hn2:n < rs.length:=by have:=Jz h1;omega
   obtain ⟨r,hr⟩:∃z,rs[n]?=some z:=⟨_,Hb hn2⟩
   have hrg:(rs.map bB)[n]?=some (bB r):=by simp [hr]
   have hwr:=hw r (Jx hr)
   have htk:((rs.take (n+1)).map fun r=>(w r).1)=((rs.take n).map fun r=>(w r).1)++[(w r).1]:=by rw [List.take_add_one,hr];simp
   have hbit:cn (kf w rs) (n+1)=cn (kf w rs) n ||| (if (w r).2=true then 2 ^ n else 0):=by
    rw [cn]
    unfold kf
    rw [hr]
   have hml:(jF ((rs.take n).map fun r=>(w r).1)).length=n:=by rw [sH,Jv,List.length_take];omega
   have hsn:=xc ((rs.take n).map fun r=>(w r).1) (w r).1
   rw [←htk] at hsn
   have hb1:=nS (p:=kf w rs) (n:=n) (by omega)
   have hb2:=FD (n:=n) (by omega)
   have hub:=yz n (by omega)
   generalize jF ((rs.take n).map fun r=>(w r).1)=l3 at *
   clear h1
   repeat' (first|refine JU ?_|refine am ?_|refine JG a5 JA ?_|(apply aL;first|refine aK a5 ?_|refine aG a5 ?_)|(apply aM;first|refine JI 7 a5 0 JF ?_|refine JI 7 a5 1 JF ?_|refine JI 7 a5 2 JF ?_|refine JH a5 0 JE ?_|refine JH a5 1 JE ?_|refine JH a5 2 JE ?_|refine JH a5 3 JE ?_|fail)|refine bj a5 fun _=>?_|fail)
   refine j8 [] ((rb,.box [.vec q 1 l3,jp (cn (kf w rs) n),.imm 1 (aW cls),aF 0,.vec none 2 []] 268)::tok q 45 1 n) hwr rfl rfl (Jp _) rfl rfl fun c L1 hc=>?_
   subst hc
   refine aJ (bA (List.sublist_append_right ..)) ?_
   repeat' (first|refine JU ?_|refine JG a5 JA ?_|(apply bF;first|refine JJ a5 0 JD ?_|refine JJ a5 1 JD ?_|refine JJ a5 2 JD ?_|refine JJ a5 3 JD ?_|refine JK a5 0 JD ?_|refine JK a5 1 JD ?_|refine JK a5 2 JD ?_|refine JL a5 1 JB (by assumption) rfl ?_|refine JL a5 0 JB (by assumption) rfl ?_|fail)|refine bN a5 ?_|fail)
   refine bI a5 [(rb,.box [.vec q 1 l3,jp (cn (kf w rs) n),.imm 1 (aW cls),aF 0,.vec none 2 []] 268)] rfl rfl rfl rfl (by rw [hml];exact List.perm_append_comm (l₁:=[_])) (by rw [hml];simp;omega) (by rw [hml];simp;omega) rfl fun q'=>?_
   refine aJ (aR (L':=(rb,.box [.vec q 1 l3,jp (cn (kf w rs) n),.imm 1 (aW cls),aF 0,.vec none 2 []] 268)::tok q' 45 1 (n+1)) (by rw [List.length_append,hml];exact List.perm_append_comm (l₂:=[_]))) ?_
   repeat' (first|refine JU ?_|refine JG a5 JA ?_|(apply aM;first|refine JI 7 a5 0 JF ?_|refine JI 7 a5 1 JF ?_|refine JI 7 a5 2 JF ?_|refine JH a5 0 JE ?_|refine JH a5 1 JE ?_|refine JH a5 2 JE ?_|refine JH a5 3 JE ?_|fail))
   refine ar rfl (fun h1=>?_) (fun h1=>?_)
   ·rw [if_pos h1] at hbit
    repeat' (first|fail)
    refine br 6 [(0,.v),(1,.v),(2,.v),(3,.l),(4,.v),(5,.v)] none ?_ trivial rfl (by kernel_rfl) (by kernel_rfl) (by kernel_rfl) bQ (by kernel_rfl) rfl
    repeat' (first|refine aD ?_|refine b8 a5 ?_|refine ce a5 0 rfl rfl rfl rfl (by first|trivial|rfl) ?_)
    refine wp n rfl rfl rfl trivial ?_
    repeat' (first|fail)
    refine JQ [1,2,5,17,18,19,41,44,46] JA ?_
    refine tw rfl rfl rfl ?_
    rw [hub,u64_or_nat _ _ hb1 hb2,←hbit]
    repeat' (first|refine JU ?_|refine JG a5 JA ?_|(apply aS;refine aQ ?_)|(apply aM;first|refine JI 7 a5 0 JF ?_|refine JI 7 a5 1 JF ?_|refine JI 7 a5 2 JF ?_|refine JH a5 0 JE ?_|refine JH a5 1 JE ?_|refine JH a5 2 JE ?_|refine JH a5 3 JE ?_|fail))
    exact aC (n+1,q') rfl ⟨by rw [Jw];rfl,trivial⟩ hn2 (by dsimp only;omega) (fun _ _ h=>by dsimp only;rw [←hsn];exact h)
   ·rw [if_neg (by rw [h1];decide),Nat.or_zero] at hbit
    repeat' (first|refine JU ?_|refine JG a5 JA ?_|(apply aS;refine aQ ?_)|fail)
    exact aC (n+1,q') rfl ⟨by rw [Jw];rfl,trivial⟩ hn2 (by dsimp only;omega) (fun _ _ h=>by dsimp only;rw [←hsn,hbit];exact h)
  ·have hn2:n=rs.length:=by have:=Jy h1;omega
   subst hn2
   rw [List.take_length]
   clear h1
   repeat' (first|refine JU ?_|refine am ?_|refine JG a5 JA ?_)
   refine aP [5,52,53] (α:=Nat) (fun k=>[(54,aF k)]) (fun k=>k≤cls.length) (fun k=>(rb,.box [.vec q 1 (jF (rs.map fun r=>(w r).1)),jp (cn (kf w rs) rs.length),.imm 1 (aW cls),aF (gB (cls.take k)),.vec none 2 []] 268)::tok q 45 1 rs.length) (fun k=>cls.length - k) 0 rfl ⟨rfl,trivial⟩ (Nat.zero_le _) (fun _ _ h=>h) fun k hk=>?_
   try dsimp only [Jt,Js,Jr,Kz]
   repeat' (first|refine JU ?_|refine JG a5 JA ?_)
   refine ar rfl (fun h1=>?_) (fun h1=>?_)
   ·have hk2:k < cls.length:=by have:=Jz h1;omega
    obtain ⟨z,hz⟩:∃z,cls[k]?=some z:=⟨_,Hb hk2⟩
    have hzg:=bO hz
    have hzb:=hcl z (Jx hz)
    have hmc:=wT hz
    clear h1
    repeat' (first|refine JU ?_|refine am ?_|refine JG a5 JA ?_|(apply bF;first|refine JJ a5 0 JD ?_|refine JJ a5 1 JD ?_|refine JJ a5 2 JD ?_|refine JJ a5 3 JD ?_|refine JK a5 0 JD ?_|refine JK a5 1 JD ?_|refine JK a5 2 JD ?_|refine JL a5 1 JB (by assumption) rfl ?_|refine JL a5 0 JB (by assumption) rfl ?_|fail)|(apply aS;refine aQ ?_)|(apply aL;first|refine aK a5 ?_|refine aG a5 ?_)|(apply aM;first|refine JI 7 a5 0 JF ?_|refine JI 7 a5 1 JF ?_|refine JI 7 a5 2 JF ?_|refine JH a5 0 JE ?_|refine JH a5 1 JE ?_|refine JH a5 2 JE ?_|refine JH a5 3 JE ?_|fail))
    exact aC (k+1) rfl ⟨by rw [Jw];rfl,trivial⟩ hk2 (by omega) (fun _ _ h=>by rw [hmc];exact h)
   ·have hk2:k=cls.length:=by have:=Jy h1;omega
    subst hk2
    rw [List.take_length]
    clear h1
    repeat' (first|refine JU ?_|refine JG a5 JA ?_)
    have hC:(gB cls)=(((gB cls).toNat:Nat):Int):=by have:=(qI (l:=cls) (m:=0)).1;unfold gB;omega
    refine bk (bE 0 (cs':=E3 (r3 w rs cls) (.vec none 2 (zG (r3 w rs cls) 0))) rfl fun σ vs h=>mF.vrs (a:=[.vec q 1 (jF (rs.map fun r=>(w r).1)),jp (cn (kf w rs) rs.length),.imm 1 (aW cls),aF (gB cls),.vec none 2 []]) (b:=E3 (r3 w rs cls) (.vec none 2 (zG (r3 w rs cls) 0))) ⟨fun σ v h=>VR.im h,cY.refl _,cY.refl _,by unfold r3;dsimp only;rw [←hC];exact cY.refl _,cY.refl _,trivial⟩ h) ?_
    refine dI (L':=f6 (r3 w rs cls) rb 0 none) (List.sublist_append_left [_] _) ?_
    exact JM JA ⟨rb,rfl,rfl⟩
def oM (r:bc):List (List Int)×Bool:=(dK r, !r.In.isEmpty)
def pQ (r:bc):List (List Int)×Bool:=(r.Back,true)
structure AP (rs:List bc) (cls:List Int):Prop where
 few:rs.length≤6
 dom:∀z∈cls,0≤z∧z≤1000000
 len:cls.length≤1000000
 rows:∀r∈rs,r.In.length≤1000000∧r.Ahead.length≤1000000
theorem C0 {rs:List bc} {cls:List Int} (h:AP rs cls):AC Tryz.prog 100 [.agg (wd rs cls)] [] fun c L=>∃rb,c=g9 rb∧L=f6 (r3 oM rs cls) rb 0 none:=by
 refine aN Tryz.func100 rfl Tryz.ntmps100 rfl fun B=>?_
 have hc:=pX oM (.sc (.func (.func 184) #[] #[])) rs h.few (fun r hr=>jP.fn0 (f:=184) (by rw [List.append_nil];exact zp r (h.rows r hr).1 (h.rows r hr).2)) cls h.dom h.len
 repeat' (first|refine JU ?_|refine JG a5 JA ?_|refine bf ?_|fail)
 refine b9 [] [] hc rfl rfl (Jp _) rfl fun c L1 ⟨rb,hc1,hL⟩=>?_
 subst hc1;subst hL
 repeat' (first|refine JU ?_|refine JG a5 JA ?_)
 exact JM JA ⟨rb,rfl,by rw [List.append_nil]⟩
theorem Bp {rs:List bc} {cls:List Int} (h:AP rs cls):AC Tryz.prog 101 [.agg (wd rs cls)] [] fun c L=>∃rb,c=g9 rb∧L=f6 (r3 pQ rs cls) rb 0 none:=by
 refine aN Tryz.func101 rfl Tryz.ntmps101 rfl fun B=>?_
 have hc:=pX pQ (.sc (.func (.func 185) #[] #[])) rs h.few (fun r _=>jP.fn0 (f:=185) (by rw [List.append_nil];exact yT r)) cls h.dom h.len
 repeat' (first|refine JU ?_|refine JG a5 JA ?_|refine bf ?_|fail)
 refine b9 [] [] hc rfl rfl (Jp _) rfl fun c L1 ⟨rb,hc1,hL⟩=>?_
 subst hc1;subst hL
 repeat' (first|refine JU ?_|refine JG a5 JA ?_)
 exact JM JA ⟨rb,rfl,by rw [List.append_nil]⟩
structure SS where
 M:List Pl
 q:Option (Nat×Nat)
 k:Nat
 qr:Option (Nat×Nat)
abbrev mY (R:RD) (nb kb mb rb:Nat) (s:SS) (X:AL):AL:=(nb,.box [.sc (.map (some kb))] 129)::(kb,cX .string (tX s.M))::(mb,.box [.vec s.q 2 (s.M.map me)] 259)::r7 R rb s.k s.qr::(tok s.q 261 2 s.M.length++(tok s.qr 330 2 s.k++X))
theorem tf {R:RD} {nb kb mb rb:Nat} {s:SS} {X:AL}:(mY R nb kb mb rb s X).Perm (tv nb kb mb s.M s.q++(r7 R rb s.k s.qr::(tok s.qr 330 2 s.k++X))):=by
 unfold tv
 refine List.Perm.cons _ (List.Perm.cons _ (List.Perm.cons _ ?_))
 exact (List.perm_middle (l₁:=tok s.q 261 2 s.M.length)).symm
theorem mZ {R:RD} {nb kb mb rb:Nat} {s:SS} {X:AL}:(mY R nb kb mb rb s X).Perm (f6 R rb s.k s.qr++((nb,.box [.sc (.map (some kb))] 129)::(kb,cX .string (tX s.M))::(mb,.box [.vec s.q 2 (s.M.map me)] 259)::(tok s.q 261 2 s.M.length++X))):=by
 have h1:(mY R nb kb mb rb s X).Perm (r7 R rb s.k s.qr::([(nb,.box [.sc (.map (some kb))] 129),(kb,cX .string (tX s.M)),(mb,.box [.vec s.q 2 (s.M.map me)] 259)]++(tok s.q 261 2 s.M.length++(tok s.qr 330 2 s.k++X)))):=List.perm_middle (l₁:=[_,_,_])
 refine h1.trans (List.Perm.cons _ ?_)
 rw [←List.append_assoc]
 refine (List.perm_append_comm_assoc _ (tok s.qr 330 2 s.k) X).trans ?_
 rw [List.append_assoc]
 exact Jp _
theorem uN {R:RD} {nb kb mb rb:Nat} {s:SS} {X:AL} {a:Nat×AB}:(a::mY R nb kb mb rb s X).Perm (tv nb kb mb s.M s.q++(a::r7 R rb s.k s.qr::(tok s.qr 330 2 s.k++X))):=(List.Perm.cons a tf).trans List.perm_middle.symm
theorem uO {R:RD} {nb kb mb rb:Nat} {s:SS} {X:AL} {a:Nat×AB}:(a::mY R nb kb mb rb s X).Perm (f6 R rb s.k s.qr++(a::(nb,.box [.sc (.map (some kb))] 129)::(kb,cX .string (tX s.M))::(mb,.box [.vec s.q 2 (s.M.map me)] 259)::(tok s.q 261 2 s.M.length++X))):=(List.Perm.cons a mZ).trans List.perm_middle.symm
theorem IJ {a b c:Nat×AB} {X:AL}:(a::b::c::X).Perm (b::c::a::X):=(List.Perm.swap b a _).trans (.cons b (List.Perm.swap c a _))
theorem IM {A T1 T2 T R:AL}:(A++(T1++(T2++(T++R)))).Perm (T++(A++(T1++(T2++R)))):=by
 rw [←List.append_assoc T1,←List.append_assoc A,←List.append_assoc T1 T2 R,←List.append_assoc A (T1++T2) R]
 exact List.perm_append_comm_assoc ..
theorem IN {A T1 T2 T3 T4:AL}:(A++(T1++(T2++(T3++T4)))).Perm (T4++(A++(T1++(T2++T3)))):=by
 rw [←List.append_assoc T2,←List.append_assoc T1,←List.append_assoc A]
 exact List.perm_append_comm
abbrev HM (R:RD) (nb kb mb rb:Nat) (s:SS):AL:=[(nb,.box [.sc (.map (some kb))] 129),(kb,cX .string (tX s.M)),(mb,.box [.vec s.q 2 (s.M.map me)] 259),r7 R rb s.k s.qr]
theorem y0 {R:RD} {nb kb mb rb:Nat} {s:SS} {T X:AL}:(mY R nb kb mb rb s (T++X)).Perm (T++mY R nb kb mb rb s X):=IM (A:=HM R nb kb mb rb s)
theorem xZ {R:RD} {nb kb mb rb:Nat} {s:SS} {T X:AL}:(mY R nb kb mb rb s (T++X)).Perm (X++mY R nb kb mb rb s T):=IN (A:=HM R nb kb mb rb s)
structure IW where
 s:SS
 tab:List (List Int)
 qt:Option (Nat×Nat)
 ends:List Nat
 qe:Option (Nat×Nat)
abbrev Ji (t:IW):AL:=tok t.qt 22 1 t.tab.length++tok t.qe 246 1 t.ends.length
theorem oU {M:List Pl} {n:Nat} {p:Pl} (h:M[n]?=some p):(M.map me)[n]?=some (me p):=by simp [h]
structure AQ (R:RD) (hv:Nat→Bool) (Lb:Nat):Prop where
 ok:AK R
 has:R.have_=cn hv R.rows.length
 long:∀r∈R.rows,r.length≤Lb
 few:Lb≤200
theorem AQ.small {R:RD} {hv:Nat→Bool} {Lb:Nat} (h:AQ R hv Lb) {M:List Pl} (hs:jo R.rows hv Lb M):(∀x∈M,kN x)∧M.length≤20000:=by
 have hf:=h.few
 have hr:=h.ok.few
 have h64:2 ^ R.rows.length≤64:=Nat.pow_le_pow_right (n:=2) (by omega) hr
 constructor
 ·intro x hx
  obtain ⟨h1,h2⟩:=hs.small x hx
  exact ⟨by omega,by omega⟩
 ·have:=hs.few
  have h3:(Lb+1) * 2 ^ R.rows.length≤201 * 64:=Nat.mul_le_mul (by omega) h64
  omega
set_option maxHeartbeats 16000000 in
theorem sO (R:RD) (hv:Nat→Bool) (Lb:Nat) (h:AQ R hv Lb) (u:AV) (hu:jP Tryz.prog u [] [] fun c L=>∃rb,c=g9 rb∧L=f6 R rb 0 none):AC Tryz.prog 99 [u] [] fun c _=>∃tab ends,rP R.cls R.rows hv R.C tab ends∧c= .tup [.imm 1 (b6 tab),.imm 1 (gy ends),dY true]:=by
 refine aN Tryz.func99 rfl Tryz.ntmps99 rfl fun B=>?_
 repeat' (first|refine JU ?_|refine JG a5 JA ?_)
 refine j8 [] [] hu rfl rfl (Jp _) rfl rfl fun c L1 ⟨rb,hc,hL⟩=>?_
 subst hc;subst hL
 repeat' (first|refine JU ?_|refine JG a5 JA ?_)
 refine fW .string fun kb=>?_
 repeat' (first|refine JU ?_|refine JG a5 JA ?_|(apply aM;first|refine JI 12 a5 0 JF ?_|refine JI 12 a5 1 JF ?_|refine JI 12 a5 2 JF ?_|refine JH a5 0 JE ?_|refine JH a5 1 JE ?_|refine JH a5 2 JE ?_|refine JH a5 3 JE ?_|fail)|refine bj a5 fun _=>?_|fail)
 rename_i nb mb
 have hok:=h.ok
 obtain ⟨hCm,hNm⟩:=hok.many
 refine aJ (bE 0 (cs':=[.vec none 2 []]) rfl fun σ vs hh=>mF.vrs (a:=[.sc (.slice none 0 0)]) (b:=[.vec none 2 []]) ⟨fun σ v h=>cR 2 h,trivial⟩ hh) ?_
 refine aJ (aR (L':=mY R nb kb mb rb ⟨[],none,0,none⟩ []) (by unfold mY;rw [Ff];exact IJ)) ?_
 refine b9 (f6 R rb 0 none) _ (zZ R rb 0 none (by omega)) rfl rfl mZ rfl fun c L1 ⟨hc,k0,qr0,hk0,hL⟩=>?_
 subst hc;subst hL
 refine aJ (aR (L':=mY R nb kb mb rb ⟨[],none,k0,qr0⟩ []) (mZ (s:=⟨[],none,k0,qr0⟩)).symm) ?_
 have hst0:jo R.rows hv Lb [((0,R.have_):Pl)]:=by
  have:=jo.start (rows:=R.rows) (have_:=hv) (L:=Lb)
  unfold mi at this
  rwa [←h.has] at this
 have hsm0:=(h.small hst0).1 (0,R.have_) (by simp)
 have hme0:=yb nb kb mb [] (fun x hx=>by cases hx) (by simp) none (0,R.have_) hsm0
 repeat' (first|fail)
 refine j8 (tv nb kb mb [] none) _ (jP.fn (f:=178) (caps:=[g9 nb,g9 mb]) hme0) rfl rfl tf rfl rfl fun c L1 ⟨hc,q0,hL⟩=>?_
 subst hc;subst hL
 refine aJ (aR (L':=mY R nb kb mb rb ⟨[(0,R.have_)],q0,k0,qr0⟩ []) (tf (s:=⟨[(0,R.have_)],q0,k0,qr0⟩)).symm) ?_
 repeat' (first|refine JU ?_|refine am ?_|refine JG a5 JA ?_)
 refine bS (bL (t:=2) (c':= .vec none 1 (b6 [])) rfl fun σ v h=>cR 1 h) ?_
 refine bS (bL (t:=3) (c':= .vec none 1 (gy [])) rfl fun σ v h=>cR 1 h) ?_
 refine aP [5,7,8] (α:=IW) (fun t=>[(9,aF t.tab.length),(2,.vec t.qt 1 (b6 t.tab)),(3,.vec t.qe 1 (gy t.ends))]) (fun t=>jo R.rows hv Lb t.s.M∧gD R.cls R.rows R.C t.s.M t.tab t.ends∧t.tab.length≤t.s.M.length∧t.s.k≤1000001) (fun t=>mY R nb kb mb rb t.s (Ji t)) (fun t=>20000 - t.tab.length) ⟨⟨[(0,R.have_)],q0,k0,qr0⟩,[],none,[],none⟩ rfl ⟨rfl,rfl,rfl,trivial⟩ ⟨hst0,gD.nil,Nat.zero_le _,hk0⟩ (fun _ _ hh=>hh) ?_
 rintro ⟨⟨M,q,k,qr⟩,tab,qt,ends,qe⟩ ⟨hst,htb,htl,hk⟩
 dsimp only at hst htb htl hk ⊢
 try dsimp only [Jt,Js,Jr,Kz]
 have hml:(M.map me).length=M.length:=Jv ..
 obtain ⟨hsm,hM2⟩:=h.small hst
 repeat' (first|refine JU ?_|refine JG a5 JA ?_|(apply bF;first|refine JJ a5 0 JD ?_|refine JJ a5 1 JD ?_|refine JJ a5 2 JD ?_|refine JJ a5 3 JD ?_|refine JK a5 0 JD ?_|refine JK a5 1 JD ?_|refine JK a5 2 JD ?_|refine JL a5 1 JB (by assumption) rfl ?_|refine JL a5 0 JB (by assumption) rfl ?_|fail)|fail)
 refine ar rfl (fun h1=>?_) (fun h1=>?_)
 ·have hn2:tab.length < M.length:=by have h1':(tab.length:Int) < ((M.map me).length:Int):=Jz h1;omega
  obtain ⟨p,hp⟩:∃p,M[tab.length]?=some p:=⟨_,Hb hn2⟩
  clear h1
  repeat' (first|refine JU ?_|refine am ?_|refine JG a5 JA ?_|(apply bF;first|refine JJ a5 0 JD ?_|refine JJ a5 1 JD ?_|refine JJ a5 2 JD ?_|refine JJ a5 3 JD ?_|refine JK a5 0 JD ?_|refine JK a5 1 JD ?_|refine JK a5 2 JD ?_|refine JL a5 1 JB (by assumption) rfl ?_|refine JL a5 0 JB (by assumption) rfl ?_|fail)|fail)
  refine li a5 R.C rfl rfl rfl rfl rfl rfl rfl (by omega) (by omega) rfl fun rwb=>?_
  rw [show (List.replicate R.C (List.map AV.sc [Value.int .i64 0])).flatten=dB (List.replicate R.C 0) from oI R.C]
  repeat' (first|refine JU ?_|refine am ?_|refine JG a5 JA ?_)
  refine aP [2,3,5,7,8,9,10,33] (α:=Nat×SS×List Int) (fun t=>[(34,aF t.1)]) (fun t=>t.1≤R.C∧jo R.rows hv Lb t.2.1.M∧gD R.cls R.rows R.C t.2.1.M tab ends∧t.2.1.M[tab.length]?=some p∧t.2.2.length=R.C∧t.2.1.k≤1000001∧∀(c:Nat) z,c < t.1→t.2.2[c]?=some z→ja R.cls R.rows t.2.1.M p c z) (fun t=>(rwb,.box (dB t.2.2) 3)::mY R nb kb mb rb t.2.1 (tok qt 22 1 tab.length++tok qe 246 1 ends.length)) (fun t=>R.C - t.1) (0,⟨M,q,k,qr⟩,List.replicate R.C 0) rfl ⟨rfl,trivial⟩ ⟨Nat.zero_le _,hst,htb,hp,by simp,hk,fun c z hc=>by omega⟩ (fun _ _ hh=>hh) ?_
  ·rintro ⟨c,⟨M1,q1,k1,qr1⟩,eQ⟩ ⟨hc,hst1,htb1,hp1,hrl,hk1,hce⟩
   dsimp only at hc hst1 htb1 hp1 hrl hk1 hce ⊢
   try dsimp only [Jt,Js,Jr,Kz]
   have hcl:=ix eQ
   obtain ⟨hsm1,hM1⟩:=h.small hst1
   repeat' (first|refine JU ?_|refine JG a5 JA ?_)
   refine ar rfl (fun h1=>?_) (fun h1=>?_)
   ·have hc2:c < R.C:=by have:=Jz h1;omega
    have hpg:=oU hp1
    have hps:=hst1.small p (Jx hp1)
    have hps2:=hsm1 p (Jx hp1)
    have hbe:=yU R hok rb k1 qr1 hk1 p (by have:=hps2.1;omega) (by have:=hps2.2;omega) c hc2
    have hst':=iy (l:=eQ) (i:=c) (z:= -1)
    clear h1
    repeat' (first|refine JU ?_|refine am ?_|refine JG a5 JA ?_|(apply aL;first|refine aK a5 ?_|refine aG a5 ?_)|fail)
    refine aa a5 0 rfl rfl rfl rfl rfl rfl (Nat.ble_eq_true_of_le (by rw [hcl,hrl,Int.toNat_natCast];show 0+c * 1+1≤_;omega)) ?_
    rw [hst']
    refine a7 ?_
    refine a6 ?_
    refine bS (aR (L':=(rwb,.box (dB (eQ.set c (-1))) 3)::mY R nb kb mb rb ⟨M1,q1,k1,qr1⟩ (tok qt 22 1 tab.length++tok qe 246 1 ends.length)) (Jp _)) ?_
    repeat' (first|refine JU ?_|refine JG a5 JA ?_|(apply bF;first|refine JJ a5 0 JD ?_|refine JJ a5 1 JD ?_|refine JJ a5 2 JD ?_|refine JJ a5 3 JD ?_|refine JK a5 0 JD ?_|refine JK a5 1 JD ?_|refine JK a5 2 JD ?_|refine JL a5 1 JB (by assumption) rfl ?_|refine JL a5 0 JB (by assumption) rfl ?_|fail)|(apply aL;first|refine aK a5 ?_|refine aG a5 ?_)|fail)
    refine b9 (f6 R rb k1 qr1) _ hbe rfl rfl uO rfl fun c1 L1 ⟨hc1,k2,qr2,hk2,hL⟩=>?_
    subst hc1;subst hL
    refine aJ (aR (L':=(rwb,.box (dB (eQ.set c (-1))) 3)::mY R nb kb mb rb ⟨M1,q1,k2,qr2⟩ (tok qt 22 1 tab.length++tok qe 246 1 ends.length)) (uO (s:=⟨M1,q1,k2,qr2⟩)).symm) ?_
    have hrs:(eQ.set c (-1)).length=R.C:=by rw [List.length_set];exact hrl
    have hrs2:=ix (eQ.set c (-1))
    repeat' (first|refine JU ?_|refine JG a5 JA ?_|(apply aM;first|refine JI 12 a5 0 JF ?_|refine JI 12 a5 1 JF ?_|refine JI 12 a5 2 JF ?_|refine JH a5 0 JE ?_|refine JH a5 1 JE ?_|refine JH a5 2 JE ?_|refine JH a5 3 JE ?_|fail)|refine bj a5 fun _=>?_|fail)
    refine ar rfl (fun h1=>?_) (fun h1=>?_)
    ·have hne:(cg R.cls R.rows p c).2≠0:=by
      intro e
      have h1':((cg R.cls R.rows p c).2:Int)≠0:=Jz h1
      rw [e] at h1'
      exact h1' rfl
     have hst2:=hst1.meet h.long hne
     have hsm2:=(h.small hst2).1
     have hme:=yb nb kb mb M1 hsm1 (by omega) q1 (cg R.cls R.rows p c) (hsm2 _ (lu _ _))
     have hput:=iy (l:=eQ.set c (-1)) (i:=c) (z:=((ec M1 (cg R.cls R.rows p c)).idxOf (cg R.cls R.rows p c):Nat))
     have hcn:=ja.new (M:=M1) hne
     have htm:=htb1.more (by have:=(Jq hp1).1;omega) (cg R.cls R.rows p c)
     have hpm:=nz (cg R.cls R.rows p c) hp1
     have hcm:∀(c':Nat) z,c' < c→eQ[c']?=some z→ja R.cls R.rows (ec M1 (cg R.cls R.rows p c)) p c' z:=fun c' z h1 h2=>(hce c' z h1 h2).more
     clear h1
     repeat' (first|refine JU ?_|refine JG a5 JA ?_)
     refine j8 (tv nb kb mb M1 q1) _ (jP.fn (f:=178) (caps:=[g9 nb,g9 mb]) hme) rfl rfl uN rfl rfl fun c2 L2 ⟨hc2',q2,hL⟩=>?_
     subst hc2';subst hL
     refine aJ (aR (L':=(rwb,.box (dB (eQ.set c (-1))) 3)::mY R nb kb mb rb ⟨ec M1 (cg R.cls R.rows p c),q2,k2,qr2⟩ (tok qt 22 1 tab.length++tok qe 246 1 ends.length)) (uN (s:=⟨ec M1 (cg R.cls R.rows p c),q2,k2,qr2⟩)).symm) ?_
     repeat' (first|(apply aL;first|refine aK a5 ?_|refine aG a5 ?_)|fail)
     refine aa a5 0 rfl rfl rfl rfl rfl rfl (Nat.ble_eq_true_of_le (by rw [hrs2,hrs,Int.toNat_natCast];show 0+c * 1+1≤_;omega)) ?_
     rw [hput]
     repeat' (first|refine JU ?_|refine JG a5 JA ?_|(apply aS;refine aQ ?_)|fail)
     refine aC (c+1,⟨ec M1 (cg R.cls R.rows p c),q2,k2,qr2⟩,(eQ.set c (-1)).set c ((ec M1 (cg R.cls R.rows p c)).idxOf (cg R.cls R.rows p c):Nat)) rfl ⟨by rw [Jw];rfl,trivial⟩ ⟨hc2,hst2,htm,hpm,by rw [List.length_set];exact hrs,hk2,fun c' z h1 h2=>?_⟩ (by dsimp only;omega) (fun _ _ hh=>hh)
     by_cases he:c'=c
     ·subst he
      rw [List.getElem?_set_self (by omega)] at h2
      cases h2
      exact hcn
     ·rw [List.getElem?_set_ne (fun e=>he e.symm),List.getElem?_set_ne (fun e=>he e.symm)] at h2
      exact hcm c' z (by dsimp only at h1;omega) h2
    ·have he0:(cg R.cls R.rows p c).2=0:=by
      have h1':¬((cg R.cls R.rows p c).2:Int)≠0:=Jy h1
      omega
     clear h1
     repeat' (first|refine JU ?_|refine JG a5 JA ?_|(apply aS;refine aQ ?_)|fail)
     refine aC (c+1,⟨M1,q1,k2,qr2⟩,eQ.set c (-1)) rfl ⟨by rw [Jw];rfl,trivial⟩ ⟨hc2,hst1,htb1,hp1,hrs,hk2,fun c' z h1 h2=>?_⟩ (by dsimp only;omega) (fun _ _ hh=>hh)
     by_cases he:c'=c
     ·subst he
      rw [List.getElem?_set_self (by omega)] at h2
      cases h2
      exact .inl ⟨he0,rfl⟩
     ·rw [List.getElem?_set_ne (fun e=>he e.symm)] at h2
      exact hce c' z (by dsimp only at h1;omega) h2
   ·have hc2:c=R.C:=by have:=Jy h1;omega
    subst hc2
    have hn3:tab.length < M1.length:=(Jq hp1).1
    have hpg:=oU hp1
    have hps2:=hsm1 p (Jx hp1)
    have hml1:(M1.map me).length=M1.length:=Jv ..
    have hen:=Ew R hok rb k1 qr1 hk1 p (by have:=hps2.1;omega) (by have:=hps2.2;omega)
    have htl3:=c6 tab
    have hul3:=nF ends
    have hsn:=htb1.snoc hp1 hrl fun c' z h2=>hce c' z (by have:=(Jq h2).1;omega) h2
    have hel:=htb1.len
    clear h1
    repeat' (first|refine JU ?_|refine JG a5 JA ?_|(apply bF;first|refine JJ a5 0 JD ?_|refine JJ a5 1 JD ?_|refine JJ a5 2 JD ?_|refine JJ a5 3 JD ?_|refine JK a5 0 JD ?_|refine JK a5 1 JD ?_|refine JK a5 2 JD ?_|refine JL a5 1 JB (by assumption) rfl ?_|refine JL a5 0 JB (by assumption) rfl ?_|fail)|fail)
    refine ar rfl (fun h1=>?_) (fun h1=>?_)
    ·have h1':(20000:Int) < ((M1.map me).length:Int):=Jz h1
     omega
    clear h1
    refine bS (lx (t:=10) (sz:=1) (n:=R.C) (cap:=R.C) (l:=aW eQ) 0 rfl rfl (by rw [←oH,Nat.mul_one,List.take_of_length_le (by omega)]) (by omega) (fun e he=>by unfold aW at he;obtain ⟨y,_,rfl⟩:=List.mem_map.1 he;rfl) (by rw [aZ];exact hrl) (Nat.le_refl _) (by unfold maxLen;omega)) ?_
    repeat' (first|refine JU ?_|refine JG a5 JA ?_|refine bN a5 ?_|fail)
    refine bI a5 (mY R nb kb mb rb ⟨M1,q1,k1,qr1⟩ (tok qe 246 1 ends.length)) rfl rfl rfl rfl (by rw [htl3];exact y0) (by rw [htl3];simp;omega) (by rw [htl3];simp;omega) rfl fun qt'=>?_
    have hrsn:b6 tab++[[AV.imm 1 (aW eQ)]]=b6 (tab++[eQ]):=by simp [b6]
    refine aJ (aR (L':=mY R nb kb mb rb ⟨M1,q1,k1,qr1⟩ (tok qt' 22 1 (b6 tab++[[AV.imm 1 (aW eQ)]]).length++tok qe 246 1 ends.length)) y0.symm) ?_
    repeat' (first|refine JU ?_|refine JG a5 JA ?_|(apply bF;first|refine JJ a5 0 JD ?_|refine JJ a5 1 JD ?_|refine JJ a5 2 JD ?_|refine JJ a5 3 JD ?_|refine JK a5 0 JD ?_|refine JK a5 1 JD ?_|refine JK a5 2 JD ?_|refine JL a5 1 JB (by assumption) rfl ?_|refine JL a5 0 JB (by assumption) rfl ?_|fail)|(apply aL;first|refine aK a5 ?_|refine aG a5 ?_)|fail)
    refine b9 (f6 R rb k1 qr1) _ hen rfl rfl mZ rfl fun c1 L1 ⟨hc1,k2,qr2,hk2,hL⟩=>?_
    subst hc1;subst hL
    refine aJ (aR (L':=mY R nb kb mb rb ⟨M1,q1,k2,qr2⟩ (tok qt' 22 1 (b6 tab++[[AV.imm 1 (aW eQ)]]).length++tok qe 246 1 ends.length)) (mZ (s:=⟨M1,q1,k2,qr2⟩)).symm) ?_
    repeat' (first|refine bN a5 ?_|fail)
    refine bI a5 (mY R nb kb mb rb ⟨M1,q1,k2,qr2⟩ (tok qt' 22 1 (b6 tab++[[AV.imm 1 (aW eQ)]]).length)) rfl rfl rfl rfl (by rw [hul3];exact xZ) (by rw [hul3];simp;omega) (by rw [hul3];simp;omega) rfl fun qe'=>?_
    have husn:gy ends++[[jp (js R.rows p)]]=gy (ends++[js R.rows p]):=by simp [gy]
    refine aJ (aR (L':=mY R nb kb mb rb ⟨M1,q1,k2,qr2⟩ (tok qt' 22 1 (b6 tab++[[AV.imm 1 (aW eQ)]]).length++tok qe' 246 1 (gy ends++[[jp (js R.rows p)]]).length)) xZ.symm) ?_
    repeat' (first|refine JU ?_|refine JG a5 JA ?_|(apply aS;refine aQ ?_)|fail)
    have hll:(tab++[eQ]).length=tab.length+1:=by simp
    refine aC ⟨⟨M1,q1,k2,qr2⟩,tab++[eQ],qt',ends++[js R.rows p],qe'⟩ rfl ⟨?_,by dsimp only;rw [←hrsn];rfl,by dsimp only;rw [←husn];rfl,trivial⟩ ⟨hst1,hsn,by dsimp only;omega,hk2⟩ (by dsimp only;omega) (fun _ _ hh=>?_)
    ·dsimp only
     rw [hll,Jw]
     rfl
    ·dsimp only
     rw [hrsn,husn,c6,nF] at hh
     exact hh
 ·have hn2:tab.length=M.length:=by
   have h1':¬(tab.length:Int) < ((M.map me).length:Int):=Jy h1
   omega
  clear h1
  repeat' (first|refine JU ?_|refine JG a5 JA ?_)
  refine bk (bL (t:=2) (c':= .imm 1 (b6 tab)) rfl fun σ v h=>VR.im h) ?_
  refine bk (bL (t:=3) (c':= .imm 1 (gy ends)) rfl fun σ v h=>VR.im h) ?_
  exact ic (cs:=[.imm 1 (b6 tab),.imm 1 (gy ends),dY true]) [] ⟨rfl,rfl,rfl,trivial⟩ (List.nil_sublist _) ⟨tab,ends,htb.done hst hn2,rfl⟩
structure u3 (N:Nat) (r:bc):Prop where
 back:∀s∈r.Back,kx s∧∀g∈s,0≤g∧g < (N:Int)
 in_:∀s∈r.In,kx s∧∀g∈s,0≤g∧g < (N:Int)
 ahead:∀s∈r.Ahead,kx s∧∀g∈s,0≤g∧g < (N:Int)
 long:r.Back.length≤200∧r.In.length+r.Ahead.length≤200
structure xw (N:Nat) (l:aO):Prop where
 few:l.Rules.length≤6
 rule:∀r∈l.Rules,u3 N r
def ee (rs:List bc):List (List Int):=rs.flatMap fun r=>r.Back++r.In++r.Ahead
theorem yK {rs:List bc} {k:Nat} {r:bc} (h:rs[k]?=some r):ee (rs.take (k+1))=ee (rs.take k)++r.Back++r.In++r.Ahead:=by
 unfold ee
 rw [List.take_add_one,h]
 simp
theorem pJ {N:Nat}:∀{rs:List bc},(∀r∈rs,u3 N r)→(ee rs).length≤400 * rs.length
 | [],_=>by simp [ee]
 | r::rs,h=>by
  have ih:=pJ (rs:=rs) fun x hx=>h x (by simp [hx])
  have hr:=(h r (by simp)).long
  unfold ee at ih ⊢
  rw [List.flatMap_cons,List.length_append,List.length_append,List.length_append,List.length_cons]
  omega
theorem t0 {N:Nat} {rs:List bc} (h:∀r∈rs,u3 N r):∀s∈ee rs,kx s∧∀g∈s,0≤g∧g < (N:Int):=by
 intro s hs
 unfold ee at hs
 obtain ⟨r,hr,hs⟩:=List.mem_flatMap.1 hs
 rw [List.mem_append,List.mem_append] at hs
 rcases hs with (hs | hs) | hs
 ·exact (h r hr).back s hs
 ·exact (h r hr).in_ s hs
 ·exact (h r hr).ahead s hs
structure kL where
 cls:List Int
 fore:List (List Int)
 back:List (List Int)
 foreE:List Nat
 backE:List Nat
def Ix (a:kL):List AV:=[.imm 1 (aW a.cls),.imm 1 (b6 a.fore),.imm 1 (b6 a.back),.imm 1 (gy a.foreE),.imm 1 (gy a.backE)]
structure xy (N:Nat) (rs:List bc) (a:kL):Prop where
 cls:u4 N (gB a.cls).toNat a.cls (ee rs)
 fore:rP a.cls (rs.map fun r=>(oM r).1) (kf oM rs) (gB a.cls).toNat a.fore a.foreE
 back:rP a.cls (rs.map fun r=>(pQ r).1) (kf pQ rs) (gB a.cls).toNat a.back a.backE
theorem l4 (r:bc):(dK r).length≤r.In.length+r.Ahead.length:=by
 unfold dK
 split
 ·simp
 ·rw [List.length_append];omega
theorem l6 {r:bc} {s:List Int} (h:s∈dK r):s∈r.In∨s∈r.Ahead:=by
 unfold dK at h
 split at h
 ·cases h
 ·exact Jo h
section
variable {N:Nat} {l:aO} (h:xw N l) (hN0:0 < N) (hN:N≤65536)
include h
theorem nj:∀s∈ee l.Rules,(∀g∈s,0≤g∧g < (N:Int))∧s.Nodup:=fun s hs=>⟨(t0 h.rule s hs).2,gW (t0 h.rule s hs).1⟩
include hN
theorem qX:(∀z∈dU N (ee l.Rules),0≤z∧z≤1000000)∧(dU N (ee l.Rules)).length=N∧(gB (dU N (ee l.Rules))).toNat≤1000000∧∀z∈dU N (ee l.Rules),0≤z∧z < ((gB (dU N (ee l.Rules))).toNat:Int):=by
 have h1:=sC N _ (nj h)
 refine ⟨fun z hz=>by have:=h1 z hz;omega,sD N _ (nj h),?_,(vj N _ (nj h)).dom⟩
 have:gB (dU N (ee l.Rules))≤(N:Int):=sv (by omega) fun z hz=>(h1 z hz).2
 omega
theorem H7:AP l.Rules (dU N (ee l.Rules)):=by
 obtain ⟨h1,h2,_,_⟩:=qX h hN
 exact ⟨h.few,h1,by omega,fun r hr=>by have:=(h.rule r hr).long;omega⟩
theorem EC:AQ (r3 oM l.Rules (dU N (ee l.Rules))) (kf oM l.Rules) 200:=by
 obtain ⟨h1,h2,h3,h4⟩:=qX h hN
 refine ⟨⟨by show (l.Rules.map _).length≤6;rw [Jv];exact h.few,h4,fun eQ hrow s hs=>?_,fun eQ hrow=>?_,h3,by show (dU N (ee l.Rules)).length≤_;omega⟩,by show cn _ _=cn _ (l.Rules.map _).length;rw [Jv],fun eQ hrow=>?_,Nat.le_refl _⟩
 ·obtain ⟨r,hr,rfl⟩:=List.mem_map.1 hrow
  have hb:=h.rule r hr
  have hsr:kx s∧∀g∈s,0≤g∧g < (N:Int):=by
   rcases l6 hs with hs | hs
   ·exact hb.in_ s hs
   ·exact hb.ahead s hs
  refine ⟨fun g hg=>?_,?_⟩
  ·show 0≤g∧g < ((dU N (ee l.Rules)).length:Int)
   rw [h2]
   exact hsr.2 g hg
  ·have:=fE (gW hsr.1) hsr.2
   omega
 ·obtain ⟨r,hr,rfl⟩:=List.mem_map.1 hrow
  have:=l4 r
  have:=(h.rule r hr).long
  show (dK r).length≤_
  omega
 ·obtain ⟨r,hr,rfl⟩:=List.mem_map.1 hrow
  have:=l4 r
  have:=(h.rule r hr).long
  show (dK r).length≤_
  omega
theorem E2:AQ (r3 pQ l.Rules (dU N (ee l.Rules))) (kf pQ l.Rules) 200:=by
 obtain ⟨h1,h2,h3,h4⟩:=qX h hN
 refine ⟨⟨by show (l.Rules.map _).length≤6;rw [Jv];exact h.few,h4,fun eQ hrow s hs=>?_,fun eQ hrow=>?_,h3,by show (dU N (ee l.Rules)).length≤_;omega⟩,by show cn _ _=cn _ (l.Rules.map _).length;rw [Jv],fun eQ hrow=>?_,Nat.le_refl _⟩
 ·obtain ⟨r,hr,rfl⟩:=List.mem_map.1 hrow
  have hsr:=(h.rule r hr).back s hs
  refine ⟨fun g hg=>?_,?_⟩
  ·show 0≤g∧g < ((dU N (ee l.Rules)).length:Int)
   rw [h2]
   exact hsr.2 g hg
  ·have:=fE (gW hsr.1) hsr.2
   omega
 ·obtain ⟨r,hr,rfl⟩:=List.mem_map.1 hrow
  have:=(h.rule r hr).long
  show r.Back.length≤_
  omega
 ·obtain ⟨r,hr,rfl⟩:=List.mem_map.1 hrow
  have:=(h.rule r hr).long
  show r.Back.length≤_
  omega
end
set_option maxHeartbeats 8000000 in
theorem Bu (f:b7) (n:Nat) (l:aO) (hl:f.Lookups[n]?=some l) (h:xw f.Glyphs.length l) (hN0:0 < f.Glyphs.length) (hN:f.Glyphs.length≤65536):AC Tryz.prog 35 [bZ f,aF n] [] fun c _=>∃a,xy f.Glyphs.length l.Rules a∧c= .tup [.agg (Ix a),aF 0]:=by
 refine aN Tryz.func35 rfl Tryz.ntmps35 rfl fun B=>?_
 have hgl:(f.Glyphs.map bR).length=f.Glyphs.length:=Jv ..
 have hll:(f.Lookups.map bi).length=f.Lookups.length:=Jv ..
 have hrl:(l.Rules.map bB).length=l.Rules.length:=Jv ..
 have hnl:=(Jq hl).1
 have hlg:(f.Lookups.map bi)[n]?=some (bi l):=by simp [hl]
 have hfew:=h.few
 repeat' (first|refine JU ?_|refine JG a5 JA ?_|refine JO JA ?_|refine bf ?_|refine bj a5 fun _=>?_|fail)
 refine bX [1,2,4] False rfl (fun Q' K=>?_) (fun hC=>hC.elim) (fun _=>?_)
 ·repeat' (first|refine JU ?_|refine JG a5 JA ?_|refine JO JA ?_|refine JP JC ?_|refine JS JB (fun _=>?_) (fun _=>?_))
  all_goals exact K _ _ rfl rfl (by simp_all <;> omega)
 repeat' (first|refine JU ?_|refine JG a5 JA ?_|(apply aL;first|refine aK a5 ?_|refine aG a5 ?_)|fail)
 rename_i r4 _
 have hpd:=rJ f.Glyphs.length hN0 hN (ee l.Rules) (t0 h.rule) (by have:=pJ h.rule;omega)
 have hcls:=vj f.Glyphs.length (ee l.Rules) (nj h)
 have hso:=H7 h hN
 have hsf:=sO _ _ _ (EC h hN) (.fnB 100 [.agg (wd l.Rules (dU f.Glyphs.length (ee l.Rules)))] []) (jP.fnB (f:=100) (fs:=[.agg (wd l.Rules (dU f.Glyphs.length (ee l.Rules)))]) (caps:=[]) (C0 hso))
 have hsb:=sO _ _ _ (E2 h hN) (.fnB 101 [.agg (wd l.Rules (dU f.Glyphs.length (ee l.Rules)))] []) (jP.fnB (f:=101) (fs:=[.agg (wd l.Rules (dU f.Glyphs.length (ee l.Rules)))]) (caps:=[]) (Bp hso))
 refine ar rfl (fun h1=>?_) (fun h1=>?_)
 ·have:=Jz h1
  omega
 clear h1
 repeat' (first|refine JU ?_|refine am ?_|refine JG a5 JA ?_)
 refine bS (bL (t:=7) (c':= .vec none 1 (b6 [])) rfl fun σ v h=>cR 1 h) ?_
 refine aP [2,4,6,49,50] (α:=Nat×Option (Nat×Nat)) (fun s=>[(51,aF s.1),(7,.vec s.2 1 (b6 (ee (l.Rules.take s.1))))]) (fun s=>s.1≤l.Rules.length) (fun s=>(r4,.box [.sc (.slice none 0 0),.sc (.slice none 0 0),.sc (.slice none 0 0),.sc (.slice none 0 0),.sc (.slice none 0 0)] 62)::tok s.2 22 1 (ee (l.Rules.take s.1)).length) (fun s=>l.Rules.length - s.1) (0,none) rfl ⟨rfl,rfl,trivial⟩ (Nat.zero_le _) (fun _ _ hh=>hh) ?_
 ·rintro ⟨k,q⟩ hk
  dsimp only at hk ⊢
  try dsimp only [Jt,Js,Jr,Kz]
  repeat' (first|refine JU ?_|refine JG a5 JA ?_)
  refine ar rfl (fun h1=>?_) (fun h1=>?_)
  ·have hk2:k < l.Rules.length:=by have:=Jz h1;omega
   obtain ⟨r,hr⟩:∃z,l.Rules[k]?=some z:=⟨_,Hb hk2⟩
   have hrg:(l.Rules.map bB)[k]?=some (bB r):=by simp [hr]
   have hlong:=(h.rule r (Jx hr)).long
   have hal:=yK hr
   have hlen:(ee (l.Rules.take k)).length≤2400:=by
    have:=pJ (N:=f.Glyphs.length) (rs:=l.Rules.take k) fun x hx=>h.rule x (List.mem_of_mem_take hx)
    rw [List.length_take] at this
    omega
   have hri:b6 (ee (l.Rules.take (k+1)))=b6 (ee (l.Rules.take k))++b6 r.Back++b6 r.In++b6 r.Ahead:=by rw [hal];simp [b6]
   have hrl0:=c6 (ee (l.Rules.take k))
   have hrl1:=c6 r.Back
   have hrl2:=c6 r.In
   have hrl3:=c6 r.Ahead
   have hln:(ee (l.Rules.take (k+1))).length=(ee (l.Rules.take k)).length+r.Back.length+r.In.length+r.Ahead.length:=by rw [hal,List.length_append,List.length_append,List.length_append]
   generalize b6 (ee (l.Rules.take k))=A0 at *
   generalize (ee (l.Rules.take k)).length=n0 at *
   clear h1
   repeat' (first|refine JU ?_|refine am ?_|refine JG a5 JA ?_|(apply aL;first|refine aK a5 ?_|refine aG a5 ?_)|(apply aM;first|refine JI 9 a5 0 JF ?_|refine JI 9 a5 1 JF ?_|refine JI 9 a5 2 JF ?_|refine JI 10 a5 0 JF ?_|refine JI 10 a5 1 JF ?_|refine JI 10 a5 2 JF ?_|refine JH a5 0 JE ?_|refine JH a5 1 JE ?_|refine JH a5 2 JE ?_|refine JH a5 3 JE ?_|fail)|refine bj a5 fun _=>?_|fail)
   refine bI a5 [(r4,.box [.sc (.slice none 0 0),.sc (.slice none 0 0),.sc (.slice none 0 0),.sc (.slice none 0 0),.sc (.slice none 0 0)] 62)] rfl rfl rfl rfl (by rw [hrl0];exact List.perm_append_comm (l₁:=[_])) (by omega) (by omega) rfl fun q1=>?_
   repeat' (first|refine JU ?_|refine JG a5 JA ?_)
   refine bI a5 [(r4,.box [.sc (.slice none 0 0),.sc (.slice none 0 0),.sc (.slice none 0 0),.sc (.slice none 0 0),.sc (.slice none 0 0)] 62)] rfl rfl rfl rfl (Jp _) (by rw [List.length_append];omega) (by rw [List.length_append];omega) rfl fun q2=>?_
   repeat' (first|refine JU ?_|refine JG a5 JA ?_)
   refine bI a5 [(r4,.box [.sc (.slice none 0 0),.sc (.slice none 0 0),.sc (.slice none 0 0),.sc (.slice none 0 0),.sc (.slice none 0 0)] 62)] rfl rfl rfl rfl (Jp _) (by rw [List.length_append,List.length_append];omega) (by rw [List.length_append,List.length_append];omega) rfl fun q3=>?_
   repeat' (first|refine JU ?_|refine JG a5 JA ?_|(apply aS;refine aQ ?_)|fail)
   refine aC (k+1,q3) rfl ⟨by rw [Jw];rfl,by dsimp only;rw [hri];rfl,trivial⟩ hk2 (by dsimp only;omega) (fun σ w hh=>?_)
   have h2:=hh.perm (List.perm_append_comm (l₂:=[_]))
   have h3:(A0++b6 r.Back++b6 r.In++b6 r.Ahead).length=(ee (l.Rules.take (k+1))).length:=by rw [hln,List.length_append,List.length_append,List.length_append];omega
   rw [h3] at h2
   exact h2
  ·have hk2:k=l.Rules.length:=by have:=Jy h1;omega
   subst hk2
   rw [List.take_length]
   haveI:AD Tryz.prog 98 [aF ((f.Glyphs.map bR).length:Nat),.imm 1 (b6 (ee l.Rules))] (.imm 1 (aW (dU f.Glyphs.length (ee l.Rules)))):=⟨by rw [hgl];exact hpd⟩
   clear h1
   repeat' (first|refine JU ?_|refine JG a5 JA ?_|(apply aM;first|refine JI 9 a5 0 JF ?_|refine JI 9 a5 1 JF ?_|refine JI 9 a5 2 JF ?_|refine JI 10 a5 0 JF ?_|refine JI 10 a5 1 JF ?_|refine JI 10 a5 2 JF ?_|refine JH a5 0 JE ?_|refine JH a5 1 JE ?_|refine JH a5 2 JE ?_|refine JH a5 3 JE ?_|fail)|refine bj a5 fun _=>?_|(apply bw;refine bn ?_)|fail)
   refine b9 [] _ hsf rfl rfl (Jp _) rfl fun c1 L1 ⟨ft,fe,hf1,hc1⟩=>?_
   subst hc1
   refine aJ (bA (List.sublist_append_right ..)) ?_
   repeat' (first|refine JU ?_|refine JG a5 JA ?_|refine bC rfl ?_)
   refine b9 [] _ hsb rfl rfl (Jp _) rfl fun c1 L1 ⟨bt,be,hb1,hc1⟩=>?_
   subst hc1
   refine aJ (bA (List.sublist_append_right ..)) ?_
   repeat' (first|refine JU ?_|refine JG a5 JA ?_|(apply aM;first|refine JI 9 a5 0 JF ?_|refine JI 9 a5 1 JF ?_|refine JI 9 a5 2 JF ?_|refine JI 10 a5 0 JF ?_|refine JI 10 a5 1 JF ?_|refine JI 10 a5 2 JF ?_|refine JH a5 0 JE ?_|refine JH a5 1 JE ?_|refine JH a5 2 JE ?_|refine JH a5 3 JE ?_|fail)|refine bC rfl ?_)
   exact ic (cs:=[.agg (Ix ⟨dU f.Glyphs.length (ee l.Rules),ft,bt,fe,be⟩),aF 0]) [] ⟨⟨_,0,_,_,rfl,rfl,.inr ⟨eK a5 rfl,rfl⟩⟩,rfl,trivial⟩ (List.nil_sublist _) ⟨⟨dU f.Glyphs.length (ee l.Rules),ft,bt,fe,be⟩,⟨hcls,hf1,hb1⟩,rfl⟩
end Go.Proofs.YtpmdfoaadejmkaaGreatDoor
namespace Go.Proofs.YtpmdfoaadejmkaaGreatDoor
open Go.RowKit
section
variable {P:Program} {fr:c8} {B:Bs} {L:AL} {ty t t':TypeId} {pos:String} {af:Array Edge} {g:Option (Nat×Bool)} {x y z q:Operand} {u:AV}
theorem DK {d:Option Tmp} {s e sz by_ hi:Nat} {l:List (List AV)} {k k':IntKind} {a b:Int} (hc:kG P t e sz by_) (hx:bo fr x=some u) (hu:ii u=some (s,l)) (hs:Nat.beq s sz=true) (hy:bo fr y=some (.sc (.int k a))) (hz:bo fr z=some (.sc (.int k' b))) (ha:a=(hi:Int)) (hb:b=(hi:Int)) (h:hi≤l.length):Av P ⟨d,.slice t x none (some y) (some z),ty,pos,af,g⟩ fr (.imm s (l.take hi)):=by
 intro σ ρ w hρ _
 subst ha hb
 rw [Nat.beq_eq] at hs
 subst hs
 have h1:=(hρ x u hx).im
 rw [cQ hu] at h1
 obtain ⟨A,cap,hv,hcap,_⟩:=h1.imm_inv
 rw [hv] at h1
 have hvr:=h1.cut (lo:=0) (hi:=hi) (m:=hi) (Nat.zero_le _) h (Nat.le_refl _) (by omega)
 haveI:=hc
 simp only [List.drop_zero,Nat.sub_zero,Nat.zero_mul] at hvr
 refine ⟨_,?_,hvr⟩
 have h4:hi≤cap:=by omega
 simp [execOp,hv,(hρ y _ hy).sc_inv,(hρ z _ hz).sc_inv,Instr.sliceAt,Instr.slice,Instr.sliceBounds,Instr.sliceBound,asIntOf,run_underlying hc.under,cS (t:=t),h4]
end
section
variable {P:Program} {tt:TT} {l:List Oper} {fr:c8} {fin:jO} {sk:mE} {acc:c8} {L:AL} {k:Nat} {dd:Option Tmp} {ty t:TypeId} {pos:String} {af:Array Edge} {g:Option (Nat×Bool)} {x y z:Operand} {u:AV}
theorem Ea (ok:er P tt) (hi:Nat) {s e sz by_:Nat} {ll:List (List AV)} {q q':IntKind} {a b:Int} (ht:jJ tt t=some (e,sz,by_)) (hx:bo (cC l.toArray acc fr af.toList) x=some u) (hu:ii u=some (s,ll)) (hs:Nat.beq s sz=true) (hy:bo (cC l.toArray acc fr af.toList) y=some (.sc (.int q a))) (hz:bo (cC l.toArray acc fr af.toList) z=some (.sc (.int q' b))) (ha:a=(hi:Int)) (hb:b=(hi:Int)) (h1:hi≤ll.length) (hg:iV ⟨dd,.slice t x none (some y) (some z),ty,pos,af,g⟩ acc) (h:DA P l fr fin sk ((k,.imm s (ll.take hi))::acc) L):
  cK P l fr fin k .v ⟨dd,.slice t x none (some y) (some z),ty,pos,af,g⟩ sk acc L:=fa hg (zP (DK (bv ok ht).1 hx hu hs hy hz ha hb h1)) h
end
end Go.Proofs.YtpmdfoaadejmkaaGreatDoor
