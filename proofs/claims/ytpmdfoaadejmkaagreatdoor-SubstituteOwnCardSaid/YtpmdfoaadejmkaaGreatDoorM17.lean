/-
  The rows of a lookup's rules: the walk.
-/
import Derived.Test.YtpmdfoaadejmkaaGreatDoorM16
import Derived.Test.YtpmdfoaadejmkaaGreatDoorM12
import Derived.Test.YtpmdfoaadejmkaaGreatDoorM13
namespace Go.Proofs.YtpmdfoaadejmkaaGreatDoor
open Go.RowKit
attribute [local irreducible] AT br AX AO Av Kt b7 dm DA cA
abbrev wY (rs:List b8) (cls:List Int):List AV:=[.imm 6 (rs.map bV),.imm 1 (aQ cls)]
def kS (w:b8→List (List Int)×Bool) (rs:List b8) (n:Nat):Bool:=match rs[n]? with
 | some r=>(w r).2
 | none=>false
def rF (w:b8→List (List Int)×Bool) (rs:List b8) (cls:List Int):RD:=⟨rs.map fun r=>(w r).1,cn (kS w rs) rs.length,cls,(gQ cls).toNat⟩
theorem xZ (l:List (List (List Int))) (r:List (List Int)):ke l++[[.imm 1 (bj r)]]=ke (l++[r]):=by simp [ke]
theorem xG {l:List Int} {k:Nat} {z:Int} (h:l[k]?=some z):gQ (l.take (k+1))=max (gQ (l.take k)) (z+1):=by
 unfold gQ
 rw [List.take_add_one,h]
 simp
set_option maxHeartbeats 8000000 in
theorem qK (w:b8→List (List Int)×Bool) (u:AV) (rs:List b8) (hrs:rs.length≤6) (hw:∀r∈rs,i9 Tryz.prog u [.agg (bV r)] [] fun c _=>c= .tup [.imm 1 (bj (w r).1),eo (w r).2]) (cls:List Int) (hcl:∀z∈cls,0≤z∧z≤1000000) (hcl2:cls.length≤1000000):AC Tryz.prog 183 [.agg (wY rs cls),u] [] fun c L=>∃rb,c=eO rb∧L=eN (rF w rs cls) rb 0 none:=by
 refine aS Tryz.func183 rfl Tryz.ntmps183 rfl fun B=>?_
 have hrl:(rs.map bV).length=rs.length:=Lu ..
 have hil:=aX cls
 repeat' (first|refine a9 ?_|refine a4 ?_|refine ai ?_|refine a6 ?_|refine a7 ?_|refine LG a5 KZ ?_|refine t3 (d:=15) fun _=>?_|refine bk ?_|fail)
 rename_i rb
 refine bM (bC 0 (cs':=[.vec none 1 [],jA 0,.imm 1 (aQ cls),aI 0,.vec none 2 []]) rfl fun σ vs h=>iS.vrs (a:=[.sc (.slice none 0 0),jA 0,.imm 1 (aQ cls),aI 0,.sc (.slice none 0 0)]) (b:=[.vec none 1 [],jA 0,.imm 1 (aQ cls),aI 0,.vec none 2 []]) ⟨fun σ v h=>cC 1 h,c6.refl _,c6.refl _,c6.refl _,fun σ v h=>cC 2 h,trivial⟩ h) ?_
 refine aN [1,2,5,17,18] (α:=Nat×Option (Nat×Nat)) (fun s=>[(19,aI s.1)]) (fun s=>s.1≤rs.length) (fun s=>(rb,.box [.vec s.2 1 (ke ((rs.take s.1).map fun r=>(w r).1)),jA (cn (kS w rs) s.1),.imm 1 (aQ cls),aI 0,.vec none 2 []] 268)::tok s.2 45 1 s.1) (fun s=>rs.length - s.1) (0,none) rfl ⟨rfl,trivial⟩ (Nat.zero_le _) (fun _ _ h=>h) ?_
 ·rintro ⟨n,q⟩ hn
  dsimp only at hn ⊢
  try dsimp only [Lr,Lq,Lp,Li]
  refine W01 ?_
  refine ar rfl (fun h1=>?_) (fun h1=>?_)
  ·have hn2:n < rs.length:=by have:=Lz h1;omega
   obtain ⟨r,hr⟩:∃z,rs[n]?=some z:=⟨_,Iy hn2⟩
   have hrg:(rs.map bV)[n]?=some (bV r):=by simp [hr]
   have hwr:=hw r (Lw hr)
   have htk:((rs.take (n+1)).map fun r=>(w r).1)=((rs.take n).map fun r=>(w r).1)++[(w r).1]:=by rw [List.take_add_one,hr];simp
   have hbit:cn (kS w rs) (n+1)=cn (kS w rs) n ||| (if (w r).2=true then 2 ^ n else 0):=by
    rw [cn]
    unfold kS
    rw [hr]
   have hml:(ke ((rs.take n).map fun r=>(w r).1)).length=n:=by rw [te,Lu,List.length_take];omega
   have hsn:=xZ ((rs.take n).map fun r=>(w r).1) (w r).1
   rw [←htk] at hsn
   have hb1:=oB (p:=kS w rs) (n:=n) (by omega)
   have hb2:=GU (n:=n) (by omega)
   have hub:=zx n (by omega)
   generalize ke ((rs.take n).map fun r=>(w r).1)=l3 at *
   clear h1
   refine W03 ?_
   intros
   refine fN [] ((rb,.box [.vec q 1 l3,jA (cn (kS w rs) n),.imm 1 (aQ cls),aI 0,.vec none 2 []] 268)::tok q 45 1 n) hwr rfl rfl (Lm _) rfl rfl fun c L1 hc=>?_
   subst hc
   refine aE (bP (List.sublist_append_right ..)) ?_
   repeat' (first|refine a9 ?_|refine a4 ?_|refine a6 ?_|refine a7 ?_|refine LG a5 KZ ?_|(apply bq;first|refine LJ a5 0 LC ?_|refine LJ a5 1 LC ?_|refine LJ a5 2 LC ?_|refine LJ a5 3 LC ?_|refine LK a5 0 LC ?_|refine LK a5 1 LC ?_|refine LK a5 2 LC ?_|refine LL a5 1 LA (by assumption) rfl ?_|refine LL a5 0 LA (by assumption) rfl ?_|fail)|refine bQ a5 ?_|fail)
   refine bE a5 [(rb,.box [.vec q 1 l3,jA (cn (kS w rs) n),.imm 1 (aQ cls),aI 0,.vec none 2 []] 268)] rfl rfl rfl rfl (by rw [hml];exact List.perm_append_comm (l₁:=[_])) (by rw [hml];simp;omega) (by rw [hml];simp;omega) rfl fun q'=>?_
   refine aE (aH (L':=(rb,.box [.vec q 1 l3,jA (cn (kS w rs) n),.imm 1 (aQ cls),aI 0,.vec none 2 []] 268)::tok q' 45 1 (n+1)) (by rw [List.length_append,hml];exact List.perm_append_comm (l₂:=[_]))) ?_
   repeat' (first|refine a9 ?_|refine a4 ?_|refine a6 ?_|refine a7 ?_|refine LG a5 KZ ?_|(apply aM;first|refine LI 7 a5 0 LF ?_|refine LI 7 a5 1 LF ?_|refine LI 7 a5 2 LF ?_|refine LH a5 0 LE ?_|refine LH a5 1 LE ?_|refine LH a5 2 LE ?_|refine LH a5 3 LE ?_|fail))
   refine ar rfl (fun h1=>?_) (fun h1=>?_)
   ·rw [if_pos h1] at hbit
    repeat' (first|fail)
    refine bz 6 [(0,.v),(1,.v),(2,.v),(3,.l),(4,.v),(5,.v)] none ?_ trivial rfl (by kernel_rfl) (by kernel_rfl) (by kernel_rfl) bX (by kernel_rfl) rfl
    refine W0t ?_
    refine xe n rfl rfl rfl trivial ?_
    repeat' (first|fail)
    refine LQ [1,2,5,17,18,19,41,44,46] KZ ?_
    refine uc rfl rfl rfl ?_
    rw [hub,u64_or_nat _ _ hb1 hb2,←hbit]
    repeat' (first|refine a4 ?_|refine a6 ?_|refine aK ?_|refine a7 ?_|refine LG a5 KZ ?_|(apply aU;refine aT ?_)|(apply aM;first|refine LI 7 a5 0 LF ?_|refine LI 7 a5 1 LF ?_|refine LI 7 a5 2 LF ?_|refine LH a5 0 LE ?_|refine LH a5 1 LE ?_|refine LH a5 2 LE ?_|refine LH a5 3 LE ?_|fail))
    exact aC (n+1,q') rfl ⟨by rw [Lv];rfl,trivial⟩ hn2 (by dsimp only;omega) (fun _ _ h=>by dsimp only;rw [←hsn];exact h)
   ·rw [if_neg (by rw [h1];decide),Nat.or_zero] at hbit
    refine W06 ?_
    exact aC (n+1,q') rfl ⟨by rw [Lv];rfl,trivial⟩ hn2 (by dsimp only;omega) (fun _ _ h=>by dsimp only;rw [←hsn,hbit];exact h)
  ·have hn2:n=rs.length:=by have:=Ly h1;omega
   subst hn2
   rw [List.take_length]
   clear h1
   refine W0w ?_
   refine aN [5,52,53] (α:=Nat) (fun k=>[(54,aI k)]) (fun k=>k≤cls.length) (fun k=>(rb,.box [.vec q 1 (ke (rs.map fun r=>(w r).1)),jA (cn (kS w rs) rs.length),.imm 1 (aQ cls),aI (gQ (cls.take k)),.vec none 2 []] 268)::tok q 45 1 rs.length) (fun k=>cls.length - k) 0 rfl ⟨rfl,trivial⟩ (Nat.zero_le _) (fun _ _ h=>h) fun k hk=>?_
   try dsimp only [Lr,Lq,Lp,Li]
   refine W01 ?_
   refine ar rfl (fun h1=>?_) (fun h1=>?_)
   ·have hk2:k < cls.length:=by have:=Lz h1;omega
    obtain ⟨z,hz⟩:∃z,cls[k]?=some z:=⟨_,Iy hk2⟩
    have hzg:=bW hz
    have hzb:=hcl z (Lw hz)
    have hmc:=xG hz
    clear h1
    repeat' (first|refine a9 ?_|refine a4 ?_|refine ai ?_|refine aj ?_|refine a6 ?_|refine aK ?_|refine a7 ?_|refine LG a5 KZ ?_|(apply bq;first|refine LJ a5 0 LC ?_|refine LJ a5 1 LC ?_|refine LJ a5 2 LC ?_|refine LJ a5 3 LC ?_|refine LK a5 0 LC ?_|refine LK a5 1 LC ?_|refine LK a5 2 LC ?_|refine LL a5 1 LA (by assumption) rfl ?_|refine LL a5 0 LA (by assumption) rfl ?_|fail)|(apply aU;refine aT ?_)|(apply aL;first|refine aJ a5 ?_|refine aF a5 ?_)|(apply aM;first|refine LI 7 a5 0 LF ?_|refine LI 7 a5 1 LF ?_|refine LI 7 a5 2 LF ?_|refine LH a5 0 LE ?_|refine LH a5 1 LE ?_|refine LH a5 2 LE ?_|refine LH a5 3 LE ?_|fail))
    exact aC (k+1) rfl ⟨by rw [Lv];rfl,trivial⟩ hk2 (by omega) (fun _ _ h=>by rw [hmc];exact h)
   ·have hk2:k=cls.length:=by have:=Ly h1;omega
    subst hk2
    rw [List.take_length]
    clear h1
    refine W02 ?_
    have hC:(gQ cls)=(((gQ cls).toNat:Nat):Int):=by have:=(ri (l:=cls) (m:=0)).1;unfold gQ;omega
    refine bc (bC 0 (cs':=Fj (rF w rs cls) (.vec none 2 (AP (rF w rs cls) 0))) rfl fun σ vs h=>iS.vrs (a:=[.vec q 1 (ke (rs.map fun r=>(w r).1)),jA (cn (kS w rs) rs.length),.imm 1 (aQ cls),aI (gQ cls),.vec none 2 []]) (b:=Fj (rF w rs cls) (.vec none 2 (AP (rF w rs cls) 0))) ⟨fun σ v h=>VR.im h,c6.refl _,c6.refl _,by unfold rF;dsimp only;rw [←hC];exact c6.refl _,c6.refl _,trivial⟩ h) ?_
    refine dc (L':=eN (rF w rs cls) rb 0 none) (List.sublist_append_left [_] _) ?_
    exact LM KZ ⟨rb,rfl,rfl⟩
def pj (r:b8):List (List Int)×Bool:=(dT r, !r.In.isEmpty)
def qD (r:b8):List (List Int)×Bool:=(r.Back,true)
structure Ca (rs:List b8) (cls:List Int):Prop where
 few:rs.length≤6
 dom:∀z∈cls,0≤z∧z≤1000000
 len:cls.length≤1000000
 rows:∀r∈rs,r.In.length≤1000000∧r.Ahead.length≤1000000
theorem vH {rs:List b8} {cls:List Int} (h:Ca rs cls):AC Tryz.prog 100 [.agg (wY rs cls)] [] fun c L=>∃rb,c=eO rb∧L=eN (rF pj rs cls) rb 0 none:=by
 refine aS Tryz.func100 rfl Tryz.ntmps100 rfl fun B=>?_
 have hc:=qK pj (.sc (.func (.func 184) #[] #[])) rs h.few (fun r hr=>i9.fn0 (f:=184) (by rw [List.append_nil];exact Au r (h.rows r hr).1 (h.rows r hr).2)) cls h.dom h.len
 refine W0b ?_
 refine b9 [] [] hc rfl rfl (Lm _) rfl fun c L1 ⟨rb,hc1,hL⟩=>?_
 subst hc1;subst hL
 refine W0c ?_
 exact LM KZ ⟨rb,rfl,by rw [List.append_nil]⟩
theorem vi {rs:List b8} {cls:List Int} (h:Ca rs cls):AC Tryz.prog 101 [.agg (wY rs cls)] [] fun c L=>∃rb,c=eO rb∧L=eN (rF qD rs cls) rb 0 none:=by
 refine aS Tryz.func101 rfl Tryz.ntmps101 rfl fun B=>?_
 have hc:=qK qD (.sc (.func (.func 185) #[] #[])) rs h.few (fun r _=>i9.fn0 (f:=185) (by rw [List.append_nil];exact zV r)) cls h.dom h.len
 refine W0b ?_
 refine b9 [] [] hc rfl rfl (Lm _) rfl fun c L1 ⟨rb,hc1,hL⟩=>?_
 subst hc1;subst hL
 refine W0c ?_
 exact LM KZ ⟨rb,rfl,by rw [List.append_nil]⟩
structure SS where
 M:List Pl
 q:Option (Nat×Nat)
 k:Nat
 qr:Option (Nat×Nat)
abbrev jQ (R:RD) (nb kb mb rb:Nat) (s:SS) (X:AL):AL:=(nb,.box [.sc (.map (some kb))] 129)::(kb,cR .string (uA s.M))::(mb,.box [.vec s.q 2 (s.M.map lp)] 259)::rH R rb s.k s.qr::(tok s.q 261 2 s.M.length++(tok s.qr 330 2 s.k++X))
theorem nz {R:RD} {nb kb mb rb:Nat} {s:SS} {X:AL}:(jQ R nb kb mb rb s X).Perm (rl nb kb mb s.M s.q++(rH R rb s.k s.qr::(tok s.qr 330 2 s.k++X))):=by
 unfold rl
 refine List.Perm.cons _ (List.Perm.cons _ (List.Perm.cons _ ?_))
 exact (List.perm_middle (l₁:=tok s.q 261 2 s.M.length)).symm
theorem iJ {R:RD} {nb kb mb rb:Nat} {s:SS} {X:AL}:(jQ R nb kb mb rb s X).Perm (eN R rb s.k s.qr++((nb,.box [.sc (.map (some kb))] 129)::(kb,cR .string (uA s.M))::(mb,.box [.vec s.q 2 (s.M.map lp)] 259)::(tok s.q 261 2 s.M.length++X))):=by
 have h1:(jQ R nb kb mb rb s X).Perm (rH R rb s.k s.qr::([(nb,.box [.sc (.map (some kb))] 129),(kb,cR .string (uA s.M)),(mb,.box [.vec s.q 2 (s.M.map lp)] 259)]++(tok s.q 261 2 s.M.length++(tok s.qr 330 2 s.k++X)))):=List.perm_middle (l₁:=[_,_,_])
 refine h1.trans (List.Perm.cons _ ?_)
 rw [←List.append_assoc]
 refine (List.perm_append_comm_assoc _ (tok s.qr 330 2 s.k) X).trans ?_
 rw [List.append_assoc]
 exact Lm _
theorem nA {R:RD} {nb kb mb rb:Nat} {s:SS} {X:AL} {a:Nat×AB}:(a::jQ R nb kb mb rb s X).Perm (rl nb kb mb s.M s.q++(a::rH R rb s.k s.qr::(tok s.qr 330 2 s.k++X))):=(List.Perm.cons a nz).trans List.perm_middle.symm
theorem nB {R:RD} {nb kb mb rb:Nat} {s:SS} {X:AL} {a:Nat×AB}:(a::jQ R nb kb mb rb s X).Perm (eN R rb s.k s.qr++(a::(nb,.box [.sc (.map (some kb))] 129)::(kb,cR .string (uA s.M))::(mb,.box [.vec s.q 2 (s.M.map lp)] 259)::(tok s.q 261 2 s.M.length++X))):=(List.Perm.cons a iJ).trans List.perm_middle.symm
theorem Jm {a b c:Nat×AB} {X:AL}:(a::b::c::X).Perm (b::c::a::X):=(List.Perm.swap b a _).trans (.cons b (List.Perm.swap c a _))
theorem K8 {A T1 T2 T R:AL}:(A++(T1++(T2++(T++R)))).Perm (T++(A++(T1++(T2++R)))):=by
 rw [←List.append_assoc T1,←List.append_assoc A,←List.append_assoc T1 T2 R,←List.append_assoc A (T1++T2) R]
 exact List.perm_append_comm_assoc ..
theorem K9 {A T1 T2 T3 T4:AL}:(A++(T1++(T2++(T3++T4)))).Perm (T4++(A++(T1++(T2++T3)))):=by
 rw [←List.append_assoc T2,←List.append_assoc T1,←List.append_assoc A]
 exact List.perm_append_comm
abbrev J6 (R:RD) (nb kb mb rb:Nat) (s:SS):AL:=[(nb,.box [.sc (.map (some kb))] 129),(kb,cR .string (uA s.M)),(mb,.box [.vec s.q 2 (s.M.map lp)] 259),rH R rb s.k s.qr]
theorem nC {R:RD} {nb kb mb rb:Nat} {s:SS} {T X:AL}:(jQ R nb kb mb rb s (T++X)).Perm (T++jQ R nb kb mb rb s X):=K8 (A:=J6 R nb kb mb rb s)
theorem ny {R:RD} {nb kb mb rb:Nat} {s:SS} {T X:AL}:(jQ R nb kb mb rb s (T++X)).Perm (X++jQ R nb kb mb rb s T):=K9 (A:=J6 R nb kb mb rb s)
structure JM where
 s:SS
 tab:List (List Int)
 qt:Option (Nat×Nat)
 ends:List Nat
 qe:Option (Nat×Nat)
abbrev Kx (t:JM):AL:=tok t.qt 22 1 t.tab.length++tok t.qe 246 1 t.ends.length
theorem jx {M:List Pl} {n:Nat} {p:Pl} (h:M[n]?=some p):(M.map lp)[n]?=some (lp p):=by simp [h]
structure zH (R:RD) (hv:Nat→Bool) (Lb:Nat):Prop where
 ok:C7 R
 has:R.have_=cn hv R.rows.length
 long:∀r∈R.rows,r.length≤Lb
 few:Lb≤200
theorem zH.small {R:RD} {hv:Nat→Bool} {Lb:Nat} (h:zH R hv Lb) {M:List Pl} (hs:ia R.rows hv Lb M):(∀x∈M,lu x)∧M.length≤20000:=by
 have hf:=h.few
 have hr:=h.ok.few
 have h64:2 ^ R.rows.length≤64:=Nat.pow_le_pow_right (n:=2) (by omega) hr
 constructor
 ·intro x hx
  obtain ⟨h1,h2⟩:=hs.small x hx
  exact ⟨by omega,by omega⟩
 ·have:=hs.few
  have h3:(Lb+1) * 2 ^ R.rows.length≤201 * 64:=Nat.mul_le_mul (by omega) h64
  omega
set_option maxHeartbeats 16000000 in
theorem tj (R:RD) (hv:Nat→Bool) (Lb:Nat) (h:zH R hv Lb) (u:AV) (hu:i9 Tryz.prog u [] [] fun c L=>∃rb,c=eO rb∧L=eN R rb 0 none):AC Tryz.prog 99 [u] [] fun c _=>∃tab ends,qo R.cls R.rows hv R.C tab ends∧c= .tup [.imm 1 (bj tab),.imm 1 (ek ends),eo true]:=by
 refine aS Tryz.func99 rfl Tryz.ntmps99 rfl fun B=>?_
 refine W01 ?_
 refine fN [] [] hu rfl rfl (Lm _) rfl rfl fun c L1 ⟨rb,hc,hL⟩=>?_
 subst hc;subst hL
 refine W01 ?_
 refine eX .string fun kb=>?_
 refine W0C ?_
 intros
 rename_i nb mb
 have hok:=h.ok
 obtain ⟨hCm,hNm⟩:=hok.many
 refine aE (bC 0 (cs':=[.vec none 2 []]) rfl fun σ vs hh=>iS.vrs (a:=[.sc (.slice none 0 0)]) (b:=[.vec none 2 []]) ⟨fun σ v h=>cC 2 h,trivial⟩ hh) ?_
 refine aE (aH (L':=jQ R nb kb mb rb ⟨[],none,0,none⟩ []) (by unfold jQ;rw [zp];exact Jm)) ?_
 refine b9 (eN R rb 0 none) _ (td R rb 0 none (by omega)) rfl rfl iJ rfl fun c L1 ⟨hc,k0,qr0,hk0,hL⟩=>?_
 subst hc;subst hL
 refine aE (aH (L':=jQ R nb kb mb rb ⟨[],none,k0,qr0⟩ []) (iJ (s:=⟨[],none,k0,qr0⟩)).symm) ?_
 have hst0:ia R.rows hv Lb [((0,R.have_):Pl)]:=by
  have:=ia.start (rows:=R.rows) (have_:=hv) (L:=Lb)
  unfold lI at this
  rwa [←h.has] at this
 have hsm0:=(h.small hst0).1 (0,R.have_) (by simp)
 have hme0:=qa nb kb mb [] (fun x hx=>by cases hx) (by simp) none (0,R.have_) hsm0
 repeat' (first|fail)
 refine fN (rl nb kb mb [] none) _ (i9.fn (f:=178) (caps:=[eO nb,eO mb]) hme0) rfl rfl nz rfl rfl fun c L1 ⟨hc,q0,hL⟩=>?_
 subst hc;subst hL
 refine aE (aH (L':=jQ R nb kb mb rb ⟨[(0,R.have_)],q0,k0,qr0⟩ []) (nz (s:=⟨[(0,R.have_)],q0,k0,qr0⟩)).symm) ?_
 refine W04 ?_
 refine bM (bA (t:=2) (c':= .vec none 1 (bj [])) rfl fun σ v h=>cC 1 h) ?_
 refine bM (bA (t:=3) (c':= .vec none 1 (ek [])) rfl fun σ v h=>cC 1 h) ?_
 refine aN [5,7,8] (α:=JM) (fun t=>[(9,aI t.tab.length),(2,.vec t.qt 1 (bj t.tab)),(3,.vec t.qe 1 (ek t.ends))]) (fun t=>ia R.rows hv Lb t.s.M∧fS R.cls R.rows R.C t.s.M t.tab t.ends∧t.tab.length≤t.s.M.length∧t.s.k≤1000001) (fun t=>jQ R nb kb mb rb t.s (Kx t)) (fun t=>20000 - t.tab.length) ⟨⟨[(0,R.have_)],q0,k0,qr0⟩,[],none,[],none⟩ rfl ⟨rfl,rfl,rfl,trivial⟩ ⟨hst0,fS.nil,Nat.zero_le _,hk0⟩ (fun _ _ hh=>hh) ?_
 rintro ⟨⟨M,q,k,qr⟩,tab,qt,ends,qe⟩ ⟨hst,htb,htl,hk⟩
 dsimp only at hst htb htl hk ⊢
 try dsimp only [Lr,Lq,Lp,Li]
 have hml:(M.map lp).length=M.length:=Lu ..
 obtain ⟨hsm,hM2⟩:=h.small hst
 refine W0d ?_
 refine ar rfl (fun h1=>?_) (fun h1=>?_)
 ·have hn2:tab.length < M.length:=by have h1':(tab.length:Int) < ((M.map lp).length:Int):=Lz h1;omega
  obtain ⟨p,hp⟩:∃p,M[tab.length]?=some p:=⟨_,Iy hn2⟩
  clear h1
  refine W16 ?_
  refine iz a5 R.C rfl rfl rfl rfl rfl rfl rfl (by omega) (by omega) rfl fun rwb=>?_
  rw [show (List.replicate R.C (List.map AV.sc [Value.int .i64 0])).flatten=cB (List.replicate R.C 0) from jt R.C]
  refine W04 ?_
  refine aN [2,3,5,7,8,9,10,33] (α:=Nat×SS×List Int) (fun t=>[(34,aI t.1)]) (fun t=>t.1≤R.C∧ia R.rows hv Lb t.2.1.M∧fS R.cls R.rows R.C t.2.1.M tab ends∧t.2.1.M[tab.length]?=some p∧t.2.2.length=R.C∧t.2.1.k≤1000001∧∀(c:Nat) z,c < t.1→t.2.2[c]?=some z→gS R.cls R.rows t.2.1.M p c z) (fun t=>(rwb,.box (cB t.2.2) 3)::jQ R nb kb mb rb t.2.1 (tok qt 22 1 tab.length++tok qe 246 1 ends.length)) (fun t=>R.C - t.1) (0,⟨M,q,k,qr⟩,List.replicate R.C 0) rfl ⟨rfl,trivial⟩ ⟨Nat.zero_le _,hst,htb,hp,by simp,hk,fun c z hc=>by omega⟩ (fun _ _ hh=>hh) ?_
  ·rintro ⟨c,⟨M1,q1,k1,qr1⟩,ea⟩ ⟨hc,hst1,htb1,hp1,hrl,hk1,hce⟩
   dsimp only at hc hst1 htb1 hp1 hrl hk1 hce ⊢
   try dsimp only [Lr,Lq,Lp,Li]
   have hcl:=eH ea
   obtain ⟨hsm1,hM1⟩:=h.small hst1
   refine W01 ?_
   refine ar rfl (fun h1=>?_) (fun h1=>?_)
   ·have hc2:c < R.C:=by have:=Lz h1;omega
    have hpg:=jx hp1
    have hps:=hst1.small p (Lw hp1)
    have hps2:=hsm1 p (Lw hp1)
    have hbe:=sE R hok rb k1 qr1 hk1 p (by have:=hps2.1;omega) (by have:=hps2.2;omega) c hc2
    have hst':=eI (l:=ea) (i:=c) (z:= -1)
    clear h1
    refine W08 ?_
    refine LU a5 0 LD (Nat.ble_eq_true_of_le (by rw [hcl,hrl,Int.toNat_natCast];show 0+c * 1+1≤_;omega)) ?_
    rw [hst']
    refine a7 ?_
    refine a6 ?_
    refine bM (aH (L':=(rwb,.box (cB (ea.set c (-1))) 3)::jQ R nb kb mb rb ⟨M1,q1,k1,qr1⟩ (tok qt 22 1 tab.length++tok qe 246 1 ends.length)) (Lm _)) ?_
    refine W0D ?_
    refine b9 (eN R rb k1 qr1) _ hbe rfl rfl nB rfl fun c1 L1 ⟨hc1,k2,qr2,hk2,hL⟩=>?_
    subst hc1;subst hL
    refine aE (aH (L':=(rwb,.box (cB (ea.set c (-1))) 3)::jQ R nb kb mb rb ⟨M1,q1,k2,qr2⟩ (tok qt 22 1 tab.length++tok qe 246 1 ends.length)) (nB (s:=⟨M1,q1,k2,qr2⟩)).symm) ?_
    have hrs:(ea.set c (-1)).length=R.C:=by rw [List.length_set];exact hrl
    have hrs2:=eH (ea.set c (-1))
    refine W0C ?_
    intros
    refine ar rfl (fun h1=>?_) (fun h1=>?_)
    ·have hne:(bH R.cls R.rows p c).2≠0:=by
      intro e
      have h1':((bH R.cls R.rows p c).2:Int)≠0:=Lz h1
      rw [e] at h1'
      exact h1' rfl
     have hst2:=hst1.meet h.long hne
     have hsm2:=(h.small hst2).1
     have hme:=qa nb kb mb M1 hsm1 (by omega) q1 (bH R.cls R.rows p c) (hsm2 _ (kj _ _))
     have hput:=eI (l:=ea.set c (-1)) (i:=c) (z:=((dl M1 (bH R.cls R.rows p c)).idxOf (bH R.cls R.rows p c):Nat))
     have hcn:=gS.new (M:=M1) hne
     have htm:=htb1.more (by have:=(Ln hp1).1;omega) (bH R.cls R.rows p c)
     have hpm:=lW (bH R.cls R.rows p c) hp1
     have hcm:∀(c':Nat) z,c' < c→ea[c']?=some z→gS R.cls R.rows (dl M1 (bH R.cls R.rows p c)) p c' z:=fun c' z h1 h2=>(hce c' z h1 h2).more
     clear h1
     refine W1f ?_
     refine fN (rl nb kb mb M1 q1) _ (i9.fn (f:=178) (caps:=[eO nb,eO mb]) hme) rfl rfl nA rfl rfl fun c2 L2 ⟨hc2',q2,hL⟩=>?_
     subst hc2';subst hL
     refine aE (aH (L':=(rwb,.box (cB (ea.set c (-1))) 3)::jQ R nb kb mb rb ⟨dl M1 (bH R.cls R.rows p c),q2,k2,qr2⟩ (tok qt 22 1 tab.length++tok qe 246 1 ends.length)) (nA (s:=⟨dl M1 (bH R.cls R.rows p c),q2,k2,qr2⟩)).symm) ?_
     refine W0z ?_
     refine LU a5 0 LD (Nat.ble_eq_true_of_le (by rw [hrs2,hrs,Int.toNat_natCast];show 0+c * 1+1≤_;omega)) ?_
     rw [hput]
     refine W05 ?_
     refine aC (c+1,⟨dl M1 (bH R.cls R.rows p c),q2,k2,qr2⟩,(ea.set c (-1)).set c ((dl M1 (bH R.cls R.rows p c)).idxOf (bH R.cls R.rows p c):Nat)) rfl ⟨by rw [Lv];rfl,trivial⟩ ⟨hc2,hst2,htm,hpm,by rw [List.length_set];exact hrs,hk2,fun c' z h1 h2=>?_⟩ (by dsimp only;omega) (fun _ _ hh=>hh)
     by_cases he:c'=c
     ·subst he
      rw [List.getElem?_set_self (by omega)] at h2
      cases h2
      exact hcn
     ·rw [List.getElem?_set_ne (fun e=>he e.symm),List.getElem?_set_ne (fun e=>he e.symm)] at h2
      exact hcm c' z (by dsimp only at h1;omega) h2
    ·have he0:(bH R.cls R.rows p c).2=0:=by
      have h1':¬((bH R.cls R.rows p c).2:Int)≠0:=Ly h1
      omega
     clear h1
     refine W06 ?_
     refine aC (c+1,⟨M1,q1,k2,qr2⟩,ea.set c (-1)) rfl ⟨by rw [Lv];rfl,trivial⟩ ⟨hc2,hst1,htb1,hp1,hrs,hk2,fun c' z h1 h2=>?_⟩ (by dsimp only;omega) (fun _ _ hh=>hh)
     by_cases he:c'=c
     ·subst he
      rw [List.getElem?_set_self (by omega)] at h2
      cases h2
      exact .inl ⟨he0,rfl⟩
     ·rw [List.getElem?_set_ne (fun e=>he e.symm)] at h2
      exact hce c' z (by dsimp only at h1;omega) h2
   ·have hc2:c=R.C:=by have:=Ly h1;omega
    subst hc2
    have hn3:tab.length < M1.length:=(Ln hp1).1
    have hpg:=jx hp1
    have hps2:=hsm1 p (Lw hp1)
    have hml1:(M1.map lp).length=M1.length:=Lu ..
    have hen:=yO R hok rb k1 qr1 hk1 p (by have:=hps2.1;omega) (by have:=hps2.2;omega)
    have htl3:=bZ tab
    have hul3:=kp ends
    have hsn:=htb1.snoc hp1 hrl fun c' z h2=>hce c' z (by have:=(Ln h2).1;omega) h2
    have hel:=htb1.len
    clear h1
    refine W0Y ?_
    refine ar rfl (fun h1=>?_) (fun h1=>?_)
    ·have h1':(20000:Int) < ((M1.map lp).length:Int):=Lz h1
     omega
    clear h1
    refine bM (jl (t:=10) (sz:=1) (n:=R.C) (cap:=R.C) (l:=aQ ea) 0 rfl rfl (by rw [←js,Nat.mul_one,List.take_of_length_le (by omega)]) (by omega) (fun e he=>by unfold aQ at he;obtain ⟨y,_,rfl⟩:=List.mem_map.1 he;rfl) (by rw [aX];exact hrl) (Nat.le_refl _) (by unfold maxLen;omega)) ?_
    refine W1F ?_
    refine bE a5 (jQ R nb kb mb rb ⟨M1,q1,k1,qr1⟩ (tok qe 246 1 ends.length)) rfl rfl rfl rfl (by rw [htl3];exact nC) (by rw [htl3];simp;omega) (by rw [htl3];simp;omega) rfl fun qt'=>?_
    have hrsn:bj tab++[[AV.imm 1 (aQ ea)]]=bj (tab++[ea]):=by simp [bj]
    refine aE (aH (L':=jQ R nb kb mb rb ⟨M1,q1,k1,qr1⟩ (tok qt' 22 1 (bj tab++[[AV.imm 1 (aQ ea)]]).length++tok qe 246 1 ends.length)) nC.symm) ?_
    refine W11 ?_
    refine b9 (eN R rb k1 qr1) _ hen rfl rfl iJ rfl fun c1 L1 ⟨hc1,k2,qr2,hk2,hL⟩=>?_
    subst hc1;subst hL
    refine aE (aH (L':=jQ R nb kb mb rb ⟨M1,q1,k2,qr2⟩ (tok qt' 22 1 (bj tab++[[AV.imm 1 (aQ ea)]]).length++tok qe 246 1 ends.length)) (iJ (s:=⟨M1,q1,k2,qr2⟩)).symm) ?_
    repeat' (first|refine bQ a5 ?_|fail)
    refine bE a5 (jQ R nb kb mb rb ⟨M1,q1,k2,qr2⟩ (tok qt' 22 1 (bj tab++[[AV.imm 1 (aQ ea)]]).length)) rfl rfl rfl rfl (by rw [hul3];exact ny) (by rw [hul3];simp;omega) (by rw [hul3];simp;omega) rfl fun qe'=>?_
    have husn:ek ends++[[jA (ii R.rows p)]]=ek (ends++[ii R.rows p]):=by simp [ek]
    refine aE (aH (L':=jQ R nb kb mb rb ⟨M1,q1,k2,qr2⟩ (tok qt' 22 1 (bj tab++[[AV.imm 1 (aQ ea)]]).length++tok qe' 246 1 (ek ends++[[jA (ii R.rows p)]]).length)) ny.symm) ?_
    refine W05 ?_
    have hll:(tab++[ea]).length=tab.length+1:=by simp
    refine aC ⟨⟨M1,q1,k2,qr2⟩,tab++[ea],qt',ends++[ii R.rows p],qe'⟩ rfl ⟨?_,by dsimp only;rw [←hrsn];rfl,by dsimp only;rw [←husn];rfl,trivial⟩ ⟨hst1,hsn,by dsimp only;omega,hk2⟩ (by dsimp only;omega) (fun _ _ hh=>?_)
    ·dsimp only
     rw [hll,Lv]
     rfl
    ·dsimp only
     rw [hrsn,husn,bZ,kp] at hh
     exact hh
 ·have hn2:tab.length=M.length:=by
   have h1':¬(tab.length:Int) < ((M.map lp).length:Int):=Ly h1
   omega
  clear h1
  refine W02 ?_
  refine bc (bA (t:=2) (c':= .imm 1 (bj tab)) rfl fun σ v h=>VR.im h) ?_
  refine bc (bA (t:=3) (c':= .imm 1 (ek ends)) rfl fun σ v h=>VR.im h) ?_
  exact fY (cs:=[.imm 1 (bj tab),.imm 1 (ek ends),eo true]) [] ⟨rfl,rfl,rfl,trivial⟩ (List.nil_sublist _) ⟨tab,ends,htb.done hst hn2,rfl⟩
structure uJ (N:Nat) (r:b8):Prop where
 back:∀s∈r.Back,jI s∧∀g∈s,0≤g∧g < (N:Int)
 in_:∀s∈r.In,jI s∧∀g∈s,0≤g∧g < (N:Int)
 ahead:∀s∈r.Ahead,jI s∧∀g∈s,0≤g∧g < (N:Int)
 long:r.Back.length≤200∧r.In.length+r.Ahead.length≤200
structure uI (N:Nat) (l:aO):Prop where
 few:l.Rules.length≤6
 rule:∀r∈l.Rules,uJ N r
def cZ (rs:List b8):List (List Int):=rs.flatMap fun r=>r.Back++r.In++r.Ahead
theorem sw {rs:List b8} {k:Nat} {r:b8} (h:rs[k]?=some r):cZ (rs.take (k+1))=cZ (rs.take k)++r.Back++r.In++r.Ahead:=by
 unfold cZ
 rw [List.take_add_one,h]
 simp
theorem lw {N:Nat}:∀{rs:List b8},(∀r∈rs,uJ N r)→(cZ rs).length≤400 * rs.length
 | [],_=>by simp [cZ]
 | r::rs,h=>by
  have ih:=lw (rs:=rs) fun x hx=>h x (by simp [hx])
  have hr:=(h r (by simp)).long
  unfold cZ at ih ⊢
  rw [List.flatMap_cons,List.length_append,List.length_append,List.length_append,List.length_cons]
  omega
theorem pT {N:Nat} {rs:List b8} (h:∀r∈rs,uJ N r):∀s∈cZ rs,jI s∧∀g∈s,0≤g∧g < (N:Int):=by
 intro s hs
 unfold cZ at hs
 obtain ⟨r,hr,hs⟩:=List.mem_flatMap.1 hs
 rw [List.mem_append,List.mem_append] at hs
 rcases hs with (hs | hs) | hs
 ·exact (h r hr).back s hs
 ·exact (h r hr).in_ s hs
 ·exact (h r hr).ahead s hs
structure gA where
 cls:List Int
 fore:List (List Int)
 back:List (List Int)
 foreE:List Nat
 backE:List Nat
def JR (a:gA):List AV:=[.imm 1 (aQ a.cls),.imm 1 (bj a.fore),.imm 1 (bj a.back),.imm 1 (ek a.foreE),.imm 1 (ek a.backE)]
structure qk (N:Nat) (rs:List b8) (a:gA):Prop where
 cls:uK N (gQ a.cls).toNat a.cls (cZ rs)
 fore:qo a.cls (rs.map fun r=>(pj r).1) (kS pj rs) (gQ a.cls).toNat a.fore a.foreE
 back:qo a.cls (rs.map fun r=>(qD r).1) (kS qD rs) (gQ a.cls).toNat a.back a.backE
theorem lJ (r:b8):(dT r).length≤r.In.length+r.Ahead.length:=by
 unfold dT
 split
 ·simp
 ·rw [List.length_append];omega
theorem lK {r:b8} {s:List Int} (h:s∈dT r):s∈r.In∨s∈r.Ahead:=by
 unfold dT at h
 split at h
 ·cases h
 ·exact Ll h
section
variable {N:Nat} {l:aO} (h:uI N l) (hN0:0 < N) (hN:N≤65536)
include h
theorem lU:∀s∈cZ l.Rules,(∀g∈s,0≤g∧g < (N:Int))∧s.Nodup:=fun s hs=>⟨(pT h.rule s hs).2,gq (pT h.rule s hs).1⟩
include hN
theorem rC:(∀z∈da N (cZ l.Rules),0≤z∧z≤1000000)∧(da N (cZ l.Rules)).length=N∧(gQ (da N (cZ l.Rules))).toNat≤1000000∧∀z∈da N (cZ l.Rules),0≤z∧z < ((gQ (da N (cZ l.Rules))).toNat:Int):=by
 have h1:=t7 N _ (lU h)
 refine ⟨fun z hz=>by have:=h1 z hz;omega,t8 N _ (lU h),?_,(rB N _ (lU h)).dom⟩
 have:gQ (da N (cZ l.Rules))≤(N:Int):=t1 (by omega) fun z hz=>(h1 z hz).2
 omega
theorem Ez:Ca l.Rules (da N (cZ l.Rules)):=by
 obtain ⟨h1,h2,_,_⟩:=rC h hN
 exact ⟨h.few,h1,by omega,fun r hr=>by have:=(h.rule r hr).long;omega⟩
theorem yR:zH (rF pj l.Rules (da N (cZ l.Rules))) (kS pj l.Rules) 200:=by
 obtain ⟨h1,h2,h3,h4⟩:=rC h hN
 refine ⟨⟨by show (l.Rules.map _).length≤6;rw [Lu];exact h.few,h4,fun ea hrow s hs=>?_,fun ea hrow=>?_,h3,by show (da N (cZ l.Rules)).length≤_;omega⟩,by show cn _ _=cn _ (l.Rules.map _).length;rw [Lu],fun ea hrow=>?_,Nat.le_refl _⟩
 ·obtain ⟨r,hr,rfl⟩:=List.mem_map.1 hrow
  have hb:=h.rule r hr
  have hsr:jI s∧∀g∈s,0≤g∧g < (N:Int):=by
   rcases lK hs with hs | hs
   ·exact hb.in_ s hs
   ·exact hb.ahead s hs
  refine ⟨fun g hg=>?_,?_⟩
  ·show 0≤g∧g < ((da N (cZ l.Rules)).length:Int)
   rw [h2]
   exact hsr.2 g hg
  ·have:=fF (gq hsr.1) hsr.2
   omega
 ·obtain ⟨r,hr,rfl⟩:=List.mem_map.1 hrow
  have:=lJ r
  have:=(h.rule r hr).long
  show (dT r).length≤_
  omega
 ·obtain ⟨r,hr,rfl⟩:=List.mem_map.1 hrow
  have:=lJ r
  have:=(h.rule r hr).long
  show (dT r).length≤_
  omega
theorem yE:zH (rF qD l.Rules (da N (cZ l.Rules))) (kS qD l.Rules) 200:=by
 obtain ⟨h1,h2,h3,h4⟩:=rC h hN
 refine ⟨⟨by show (l.Rules.map _).length≤6;rw [Lu];exact h.few,h4,fun ea hrow s hs=>?_,fun ea hrow=>?_,h3,by show (da N (cZ l.Rules)).length≤_;omega⟩,by show cn _ _=cn _ (l.Rules.map _).length;rw [Lu],fun ea hrow=>?_,Nat.le_refl _⟩
 ·obtain ⟨r,hr,rfl⟩:=List.mem_map.1 hrow
  have hsr:=(h.rule r hr).back s hs
  refine ⟨fun g hg=>?_,?_⟩
  ·show 0≤g∧g < ((da N (cZ l.Rules)).length:Int)
   rw [h2]
   exact hsr.2 g hg
  ·have:=fF (gq hsr.1) hsr.2
   omega
 ·obtain ⟨r,hr,rfl⟩:=List.mem_map.1 hrow
  have:=(h.rule r hr).long
  show r.Back.length≤_
  omega
 ·obtain ⟨r,hr,rfl⟩:=List.mem_map.1 hrow
  have:=(h.rule r hr).long
  show r.Back.length≤_
  omega
end
set_option maxHeartbeats 8000000 in
theorem CH (f:aY) (n:Nat) (l:aO) (hl:f.Lookups[n]?=some l) (h:uI f.Glyphs.length l) (hN0:0 < f.Glyphs.length) (hN:f.Glyphs.length≤65536):AC Tryz.prog 35 [d7 f,aI n] [] fun c _=>∃a,qk f.Glyphs.length l.Rules a∧c= .tup [.agg (JR a),aI 0]:=by
 refine aS Tryz.func35 rfl Tryz.ntmps35 rfl fun B=>?_
 have hgl:(f.Glyphs.map bI).length=f.Glyphs.length:=Lu ..
 have hll:(f.Lookups.map bJ).length=f.Lookups.length:=Lu ..
 have hrl:(l.Rules.map bV).length=l.Rules.length:=Lu ..
 have hnl:=(Ln hl).1
 have hlg:(f.Lookups.map bJ)[n]?=some (bJ l):=by simp [hl]
 have hfew:=h.few
 refine W1T ?_
 intros
 refine ce [1,2,4] False rfl (fun Q' K=>?_) (fun hC=>hC.elim) (fun _=>?_)
 ·repeat' (first|refine a7 ?_|refine LG a5 KZ ?_|refine LO KZ ?_|refine LP LB ?_|refine LR LA (fun _=>?_) (fun _=>?_))
  all_goals exact K _ _ rfl rfl (by simp_all <;> omega)
 refine W10 ?_
 rename_i r4 _
 have hpd:=sn f.Glyphs.length hN0 hN (cZ l.Rules) (pT h.rule) (by have:=lw h.rule;omega)
 have hcls:=rB f.Glyphs.length (cZ l.Rules) (lU h)
 have hso:=Ez h hN
 have hsf:=tj _ _ _ (yR h hN) (.fnB 100 [.agg (wY l.Rules (da f.Glyphs.length (cZ l.Rules)))] []) (i9.fnB (f:=100) (fs:=[.agg (wY l.Rules (da f.Glyphs.length (cZ l.Rules)))]) (caps:=[]) (vH hso))
 have hsb:=tj _ _ _ (yE h hN) (.fnB 101 [.agg (wY l.Rules (da f.Glyphs.length (cZ l.Rules)))] []) (i9.fnB (f:=101) (fs:=[.agg (wY l.Rules (da f.Glyphs.length (cZ l.Rules)))]) (caps:=[]) (vi hso))
 refine ar rfl (fun h1=>?_) (fun h1=>?_)
 ·have:=Lz h1
  omega
 clear h1
 refine W0x ?_
 refine bM (bA (t:=7) (c':= .vec none 1 (bj [])) rfl fun σ v h=>cC 1 h) ?_
 refine aN [2,4,6,49,50] (α:=Nat×Option (Nat×Nat)) (fun s=>[(51,aI s.1),(7,.vec s.2 1 (bj (cZ (l.Rules.take s.1))))]) (fun s=>s.1≤l.Rules.length) (fun s=>(r4,.box [.sc (.slice none 0 0),.sc (.slice none 0 0),.sc (.slice none 0 0),.sc (.slice none 0 0),.sc (.slice none 0 0)] 62)::tok s.2 22 1 (cZ (l.Rules.take s.1)).length) (fun s=>l.Rules.length - s.1) (0,none) rfl ⟨rfl,rfl,trivial⟩ (Nat.zero_le _) (fun _ _ hh=>hh) ?_
 ·rintro ⟨k,q⟩ hk
  dsimp only at hk ⊢
  try dsimp only [Lr,Lq,Lp,Li]
  refine W01 ?_
  refine ar rfl (fun h1=>?_) (fun h1=>?_)
  ·have hk2:k < l.Rules.length:=by have:=Lz h1;omega
   obtain ⟨r,hr⟩:∃z,l.Rules[k]?=some z:=⟨_,Iy hk2⟩
   have hrg:(l.Rules.map bV)[k]?=some (bV r):=by simp [hr]
   have hlong:=(h.rule r (Lw hr)).long
   have hal:=sw hr
   have hlen:(cZ (l.Rules.take k)).length≤2400:=by
    have:=lw (N:=f.Glyphs.length) (rs:=l.Rules.take k) fun x hx=>h.rule x (List.mem_of_mem_take hx)
    rw [List.length_take] at this
    omega
   have hri:bj (cZ (l.Rules.take (k+1)))=bj (cZ (l.Rules.take k))++bj r.Back++bj r.In++bj r.Ahead:=by rw [hal];simp [bj]
   have hrl0:=bZ (cZ (l.Rules.take k))
   have hrl1:=bZ r.Back
   have hrl2:=bZ r.In
   have hrl3:=bZ r.Ahead
   have hln:(cZ (l.Rules.take (k+1))).length=(cZ (l.Rules.take k)).length+r.Back.length+r.In.length+r.Ahead.length:=by rw [hal,List.length_append,List.length_append,List.length_append]
   generalize bj (cZ (l.Rules.take k))=A0 at *
   generalize (cZ (l.Rules.take k)).length=n0 at *
   clear h1
   refine W0S ?_
   intros
   refine bE a5 [(r4,.box [.sc (.slice none 0 0),.sc (.slice none 0 0),.sc (.slice none 0 0),.sc (.slice none 0 0),.sc (.slice none 0 0)] 62)] rfl rfl rfl rfl (by rw [hrl0];exact List.perm_append_comm (l₁:=[_])) (by omega) (by omega) rfl fun q1=>?_
   refine W01 ?_
   refine bE a5 [(r4,.box [.sc (.slice none 0 0),.sc (.slice none 0 0),.sc (.slice none 0 0),.sc (.slice none 0 0),.sc (.slice none 0 0)] 62)] rfl rfl rfl rfl (Lm _) (by rw [List.length_append];omega) (by rw [List.length_append];omega) rfl fun q2=>?_
   refine W1a ?_
   refine bE a5 [(r4,.box [.sc (.slice none 0 0),.sc (.slice none 0 0),.sc (.slice none 0 0),.sc (.slice none 0 0),.sc (.slice none 0 0)] 62)] rfl rfl rfl rfl (Lm _) (by rw [List.length_append,List.length_append];omega) (by rw [List.length_append,List.length_append];omega) rfl fun q3=>?_
   refine W05 ?_
   refine aC (k+1,q3) rfl ⟨by rw [Lv];rfl,by dsimp only;rw [hri];rfl,trivial⟩ hk2 (by dsimp only;omega) (fun σ w hh=>?_)
   have h2:=hh.perm (List.perm_append_comm (l₂:=[_]))
   have h3:(A0++bj r.Back++bj r.In++bj r.Ahead).length=(cZ (l.Rules.take (k+1))).length:=by rw [hln,List.length_append,List.length_append,List.length_append];omega
   rw [h3] at h2
   exact h2
  ·have hk2:k=l.Rules.length:=by have:=Ly h1;omega
   subst hk2
   rw [List.take_length]
   haveI:AD Tryz.prog 98 [aI ((f.Glyphs.map bI).length:Nat),.imm 1 (bj (cZ l.Rules))] (.imm 1 (aQ (da f.Glyphs.length (cZ l.Rules)))):=⟨by rw [hgl];exact hpd⟩
   clear h1
   repeat' (first|refine a9 ?_|refine a4 ?_|refine aP ?_|refine a6 ?_|refine aq ?_|refine ay ?_|refine au ?_|refine a7 ?_|refine LG a5 KZ ?_|(apply aM;first|refine LI 9 a5 0 LF ?_|refine LI 9 a5 1 LF ?_|refine LI 9 a5 2 LF ?_|refine LI 10 a5 0 LF ?_|refine LI 10 a5 1 LF ?_|refine LI 10 a5 2 LF ?_|refine LH a5 0 LE ?_|refine LH a5 1 LE ?_|refine LH a5 2 LE ?_|refine LH a5 3 LE ?_|fail)|refine bf a5 fun _=>?_|(apply bw;refine bn ?_)|fail)
   refine b9 [] _ hsf rfl rfl (Lm _) rfl fun c1 L1 ⟨ft,fe,hf1,hc1⟩=>?_
   subst hc1
   refine aE (bP (List.sublist_append_right ..)) ?_
   refine W0G ?_
   refine b9 [] _ hsb rfl rfl (Lm _) rfl fun c1 L1 ⟨bt,be,hb1,hc1⟩=>?_
   subst hc1
   refine aE (bP (List.sublist_append_right ..)) ?_
   refine W12 ?_
   exact fY (cs:=[.agg (JR ⟨da f.Glyphs.length (cZ l.Rules),ft,bt,fe,be⟩),aI 0]) [] ⟨⟨_,0,_,_,rfl,rfl,.inr ⟨ee a5 rfl,rfl⟩⟩,rfl,trivial⟩ (List.nil_sublist _) ⟨⟨da f.Glyphs.length (cZ l.Rules),ft,bt,fe,be⟩,⟨hcls,hf1,hb1⟩,rfl⟩
end Go.Proofs.YtpmdfoaadejmkaaGreatDoor
namespace Go.Proofs.YtpmdfoaadejmkaaGreatDoor
open Go.RowKit
section
variable {P:Program} {fr:bT} {B:Bs} {L:AL} {ty t t':TypeId} {pos:String} {af:Array Edge} {g:Option (Nat×Bool)} {x y z q:Operand} {u:AV}
theorem F4 {d:Option Tmp} {s e sz by_ hi:Nat} {l:List (List AV)} {k k':IntKind} {a b:Int} (hc:ln P t e sz by_) (hx:bh fr x=some u) (hu:j6 u=some (s,l)) (hs:Nat.beq s sz=true) (hy:bh fr y=some (.sc (.int k a))) (hz:bh fr z=some (.sc (.int k' b))) (ha:a=(hi:Int)) (hb:b=(hi:Int)) (h:hi≤l.length):Av P ⟨d,.slice t x none (some y) (some z),ty,pos,af,g⟩ fr (.imm s (l.take hi)):=by
 intro σ ρ w hρ _
 subst ha hb
 rw [Nat.beq_eq] at hs
 subst hs
 have h1:=(hρ x u hx).im
 rw [cY hu] at h1
 obtain ⟨A,cap,hv,hcap,_⟩:=h1.imm_inv
 rw [hv] at h1
 have hvr:=h1.cut (lo:=0) (hi:=hi) (m:=hi) (Nat.zero_le _) h (Nat.le_refl _) (by omega)
 haveI:=hc
 simp only [List.drop_zero,Nat.sub_zero,Nat.zero_mul] at hvr
 refine ⟨_,?_,hvr⟩
 have h4:hi≤cap:=by omega
 simp [execOp,hv,(hρ y _ hy).sc_inv,(hρ z _ hz).sc_inv,Instr.sliceAt,Instr.slice,Instr.sliceBounds,Instr.sliceBound,asIntOf,run_underlying hc.under,d5 (t:=t),h4]
end
section
variable {P:Program} {tt:TT} {l:List Oper} {fr:bT} {fin:iR} {sk:m6} {acc:bT} {L:AL} {k:Nat} {dd:Option Tmp} {ty t:TypeId} {pos:String} {af:Array Edge} {g:Option (Nat×Bool)} {x y z:Operand} {u:AV}
theorem Fs (ok:eu P tt) (hi:Nat) {s e sz by_:Nat} {ll:List (List AV)} {q q':IntKind} {a b:Int} (ht:kr tt t=some (e,sz,by_)) (hx:bh (cx l.toArray acc fr af.toList) x=some u) (hu:j6 u=some (s,ll)) (hs:Nat.beq s sz=true) (hy:bh (cx l.toArray acc fr af.toList) y=some (.sc (.int q a))) (hz:bh (cx l.toArray acc fr af.toList) z=some (.sc (.int q' b))) (ha:a=(hi:Int)) (hb:b=(hi:Int)) (h1:hi≤ll.length) (hg:it ⟨dd,.slice t x none (some y) (some z),ty,pos,af,g⟩ acc) (h:DA P l fr fin sk ((k,.imm s (ll.take hi))::acc) L):
  cA P l fr fin k .v ⟨dd,.slice t x none (some y) (some z),ty,pos,af,g⟩ sk acc L:=fA hg (B7 (F4 (bo ok ht).1 hx hu hs hy hz ha hb h1)) h
end
end Go.Proofs.YtpmdfoaadejmkaaGreatDoor
