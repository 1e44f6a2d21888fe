/-
  The rows of a lookup's rules: the walk.
-/
import Derived.Test.YtpmdfoaadejmkaaGreatDoorM24
namespace Go.Proofs.YtpmdfoaadejmkaaGreatDoor
open Go.RowKit
section
attribute [local irreducible] AT bP AX AO Av Kt bb dh DA cG
abbrev y7 (rs:List bk) (cls:List Int):List AV:=[.imm 6 (rs.map bI),.imm 1 (aW cls)]
def lb (w:bk→List (List Int)×Bool) (rs:List bk) (n:Nat):Bool:=match rs[n]? with
 | some r=>(w r).2
 | none=>false
def sA (w:bk→List (List Int)×Bool) (rs:List bk) (cls:List Int):RD:=⟨rs.map fun r=>(w r).1,cE (lb w rs) rs.length,cls,(ij cls).toNat⟩
theorem zp (l:List (List (List Int))) (r:List (List Int)):kK l++[[.imm 1 (b6 r)]]=kK (l++[r]):=by simp [kK]
theorem yV {l:List Int} {k:Nat} {z:Int} (h:l[k]?=some z):ij (l.take (k+1))=max (ij (l.take k)) (z+1):=by
 unfold ij
 rw [List.take_add_one,h]
 simp
set_option maxHeartbeats 8000000 in
theorem rG (w:bk→List (List Int)×Bool) (u:AV) (rs:List bk) (hrs:rs.length≤6) (hw:∀r∈rs,kQ Tryz.prog u [.agg (bI r)] [] fun c _=>c= .tup [.imm 1 (b6 (w r).1),dy (w r).2]) (cls:List Int) (hcl:∀z∈cls,0≤z∧z≤1000000) (hcl2:cls.length≤1000000):AC Tryz.prog 183 [.agg (y7 rs cls),u] [] fun c L=>∃rb,c=gT rb∧L=fI (sA w rs cls) rb 0 none:=by
 refine aV Tryz.func183 rfl Tryz.ntmps183 rfl fun B=>?_
 have hrl:(rs.map bI).length=rs.length:=Nu ..
 have hil:=aJ cls
 repeat' (first|refine Ng ?_|refine ak ?_|refine NG a5 IG ?_|refine wV (d:=15) fun _=>?_|refine bq ?_|fail)
 rename_i rb
 refine bU (bL 0 (cs':=[.vec none 1 [],kl 0,.imm 1 (aW cls),aK 0,.vec none 2 []]) rfl fun σ vs h=>mF.vrs (a:=[.sc (.slice none 0 0),kl 0,.imm 1 (aW cls),aK 0,.sc (.slice none 0 0)]) (b:=[.vec none 1 [],kl 0,.imm 1 (aW cls),aK 0,.vec none 2 []]) ⟨fun σ v h=>cW 1 h,d7.refl _,d7.refl _,d7.refl _,fun σ v h=>cW 2 h,trivial⟩ h) ?_
 refine aM [1,2,5,17,18] (α:=Nat×Option (Nat×Nat)) (fun s=>[(19,aK s.1)]) (fun s=>s.1≤rs.length) (fun s=>(rb,.box [.vec s.2 1 (kK ((rs.take s.1).map fun r=>(w r).1)),kl (cE (lb w rs) s.1),.imm 1 (aW cls),aK 0,.vec none 2 []] 268)::tok s.2 45 1 s.1) (fun s=>rs.length - s.1) (0,none) rfl ⟨rfl,trivial⟩ (Nat.zero_le _) (fun _ _ h=>h) ?_
 ·rintro ⟨n,q⟩ hn
  dsimp only at hn ⊢
  try dsimp only [Ns,Nr,Nq,Nk]
  refine W01 ?_
  refine aj rfl (fun h1=>?_) (fun h1=>?_)
  ·have hn2:n < rs.length:=by have:=Ny h1;omega
   obtain ⟨r,hr⟩:∃z,rs[n]?=some z:=⟨_,Nz hn2⟩
   have hrg:(rs.map bI)[n]?=some (bI r):=by simp [hr]
   have hwr:=hw r (Nw hr)
   have htk:((rs.take (n+1)).map fun r=>(w r).1)=((rs.take n).map fun r=>(w r).1)++[(w r).1]:=by rw [List.take_add_one,hr];simp
   have hbit:cE (lb w rs) (n+1)=cE (lb w rs) n ||| (if (w r).2=true then 2 ^ n else 0):=by
    rw [cE]
    unfold lb
    rw [hr]
   have hml:(kK ((rs.take n).map fun r=>(w r).1)).length=n:=by rw [u6,Nu,List.length_take];omega
   have hsn:=zp ((rs.take n).map fun r=>(w r).1) (w r).1
   rw [←htk] at hsn
   have hb1:=pt (p:=lb w rs) (n:=n) (by omega)
   have hb2:=IS (n:=n) (by omega)
   have hub:=Bd n (by omega)
   generalize kK ((rs.take n).map fun r=>(w r).1)=l3 at *
   clear h1
   refine W06 ?_
   intros
   refine jZ [] ((rb,.box [.vec q 1 l3,kl (cE (lb w rs) n),.imm 1 (aW cls),aK 0,.vec none 2 []] 268)::tok q 45 1 n) hwr rfl rfl (Nn _) rfl rfl fun c L1 hc=>?_
   subst hc
   refine aL (bF (List.sublist_append_right ..)) ?_
   refine W0d ?_
   refine NS a5 [(rb,.box [.vec q 1 l3,kl (cE (lb w rs) n),.imm 1 (aW cls),aK 0,.vec none 2 []] 268)] NB (by rw [hml];exact List.perm_append_comm (l₁:=[_])) (by rw [hml];simp;omega) (by rw [hml];simp;omega) rfl fun q'=>?_
   refine aL (aQ (L':=(rb,.box [.vec q 1 l3,kl (cE (lb w rs) n),.imm 1 (aW cls),aK 0,.vec none 2 []] 268)::tok q' 45 1 (n+1)) (by rw [List.length_append,hml];exact List.perm_append_comm (l₂:=[_]))) ?_
   repeat' (first|refine Ng ?_|refine NG a5 IG ?_|(apply aI;first|refine NI 7 a5 0 NF ?_|refine NI 7 a5 1 NF ?_|refine NI 7 a5 2 NF ?_|refine NH a5 0 NE ?_|refine NH a5 1 NE ?_|refine NH a5 2 NE ?_|refine NH a5 3 NE ?_|fail))
   refine aj rfl (fun h1=>?_) (fun h1=>?_)
   ·rw [if_pos h1] at hbit
    refine bv 6 [(0,.v),(1,.v),(2,.v),(3,.l),(4,.v),(5,.v)] none ?_ trivial rfl (by kernel_rfl) (by kernel_rfl) (by kernel_rfl) bQ (by kernel_rfl) rfl
    refine W0m ?_
    refine yj n rfl rfl rfl trivial ?_
    refine NP [1,2,5,17,18,19,41,44,46] IG ?_
    refine v4 rfl rfl rfl ?_
    rw [hub,u64_or_nat _ _ hb1 hb2,←hbit]
    repeat' (first|refine Ng ?_|refine NG a5 IG ?_|(apply aS;refine aR ?_)|(apply aI;first|refine NI 7 a5 0 NF ?_|refine NI 7 a5 1 NF ?_|refine NI 7 a5 2 NF ?_|refine NH a5 0 NE ?_|refine NH a5 1 NE ?_|refine NH a5 2 NE ?_|refine NH a5 3 NE ?_|fail))
    exact aC (n+1,q') rfl ⟨by rw [Nv];rfl,trivial⟩ hn2 (by dsimp only;omega) (fun _ _ h=>by dsimp only;rw [←hsn];exact h)
   ·rw [if_neg (by rw [h1];decide),Nat.or_zero] at hbit
    refine W02 ?_
    exact aC (n+1,q') rfl ⟨by rw [Nv];rfl,trivial⟩ hn2 (by dsimp only;omega) (fun _ _ h=>by dsimp only;rw [←hsn,hbit];exact h)
  ·have hn2:n=rs.length:=by have:=Nx h1;omega
   subst hn2
   rw [List.take_length]
   clear h1
   refine W03 ?_
   refine aM [5,52,53] (α:=Nat) (fun k=>[(54,aK k)]) (fun k=>k≤cls.length) (fun k=>(rb,.box [.vec q 1 (kK (rs.map fun r=>(w r).1)),kl (cE (lb w rs) rs.length),.imm 1 (aW cls),aK (ij (cls.take k)),.vec none 2 []] 268)::tok q 45 1 rs.length) (fun k=>cls.length - k) 0 rfl ⟨rfl,trivial⟩ (Nat.zero_le _) (fun _ _ h=>h) fun k hk=>?_
   try dsimp only [Ns,Nr,Nq,Nk]
   refine W01 ?_
   refine aj rfl (fun h1=>?_) (fun h1=>?_)
   ·have hk2:k < cls.length:=by have:=Ny h1;omega
    obtain ⟨z,hz⟩:∃z,cls[k]?=some z:=⟨_,Nz hk2⟩
    have hzg:=bK hz
    have hzb:=hcl z (Nw hz)
    have hmc:=yV hz
    clear h1
    repeat' (first|refine Ng ?_|refine ak ?_|refine NG a5 IG ?_|(apply bz;first|refine NJ a5 0 NC ?_|refine NJ a5 1 NC ?_|refine NJ a5 2 NC ?_|refine NJ a5 3 NC ?_|refine NK a5 0 NC ?_|refine NK a5 1 NC ?_|refine NK a5 2 NC ?_|refine NL a5 1 NA (by assumption) rfl ?_|refine NL a5 0 NA (by assumption) rfl ?_|fail)|(apply aS;refine aR ?_)|(apply aO;first|refine aN a5 ?_|refine aF a5 ?_)|(apply aI;first|refine NI 7 a5 0 NF ?_|refine NI 7 a5 1 NF ?_|refine NI 7 a5 2 NF ?_|refine NH a5 0 NE ?_|refine NH a5 1 NE ?_|refine NH a5 2 NE ?_|refine NH a5 3 NE ?_|fail))
    exact aC (k+1) rfl ⟨by rw [Nv];rfl,trivial⟩ hk2 (by omega) (fun _ _ h=>by rw [hmc];exact h)
   ·have hk2:k=cls.length:=by have:=Nx h1;omega
    subst hk2
    rw [List.take_length]
    clear h1
    refine W01 ?_
    have hC:(ij cls)=(((ij cls).toNat:Nat):Int):=by have:=(sa (l:=cls) (m:=0)).1;unfold ij;omega
    refine bf (bL 0 (cs':=Hb (sA w rs cls) (.vec none 2 (Cv (sA w rs cls) 0))) rfl fun σ vs h=>mF.vrs (a:=[.vec q 1 (kK (rs.map fun r=>(w r).1)),kl (cE (lb w rs) rs.length),.imm 1 (aW cls),aK (ij cls),.vec none 2 []]) (b:=Hb (sA w rs cls) (.vec none 2 (Cv (sA w rs cls) 0))) ⟨fun σ v h=>VR.im h,d7.refl _,d7.refl _,by unfold sA;dsimp only;rw [←hC];exact d7.refl _,d7.refl _,trivial⟩ h) ?_
    refine ea (L':=fI (sA w rs cls) rb 0 none) (List.sublist_append_left [_] _) ?_
    exact NM IG ⟨rb,rfl,rfl⟩
def qx (r:bk):List (List Int)×Bool:=(ep r, !r.In.isEmpty)
def rA (r:bk):List (List Int)×Bool:=(r.Back,true)
structure DG (rs:List bk) (cls:List Int):Prop where
 few:rs.length≤6
 dom:∀z∈cls,0≤z∧z≤1000000
 len:cls.length≤1000000
 rows:∀r∈rs,r.In.length≤1000000∧r.Ahead.length≤1000000
theorem F3 {rs:List bk} {cls:List Int} (h:DG rs cls):AC Tryz.prog 100 [.agg (y7 rs cls)] [] fun c L=>∃rb,c=gT rb∧L=fI (sA qx rs cls) rb 0 none:=by
 refine aV Tryz.func100 rfl Tryz.ntmps100 rfl fun B=>?_
 have hc:=rG qx (.sc (.func (.func 184) #[] #[])) rs h.few (fun r hr=>kQ.fn0 (f:=184) (by rw [List.append_nil];exact Cf r (h.rows r hr).1 (h.rows r hr).2)) cls h.dom h.len
 refine W08 ?_
 refine b7 [] [] hc rfl rfl (Nn _) rfl fun c L1 ⟨rb,hc1,hL⟩=>?_
 subst hc1;subst hL
 refine W01 ?_
 exact NM IG ⟨rb,rfl,by rw [List.append_nil]⟩
theorem Ef {rs:List bk} {cls:List Int} (h:DG rs cls):AC Tryz.prog 101 [.agg (y7 rs cls)] [] fun c L=>∃rb,c=gT rb∧L=fI (sA rA rs cls) rb 0 none:=by
 refine aV Tryz.func101 rfl Tryz.ntmps101 rfl fun B=>?_
 have hc:=rG rA (.sc (.func (.func 185) #[] #[])) rs h.few (fun r _=>kQ.fn0 (f:=185) (by rw [List.append_nil];exact BC r)) cls h.dom h.len
 refine W08 ?_
 refine b7 [] [] hc rfl rfl (Nn _) rfl fun c L1 ⟨rb,hc1,hL⟩=>?_
 subst hc1;subst hL
 refine W01 ?_
 exact NM IG ⟨rb,rfl,by rw [List.append_nil]⟩
structure SS where
 M:List Pl
 q:Option (Nat×Nat)
 k:Nat
 qr:Option (Nat×Nat)
abbrev pH (R:RD) (nb kb mb rb:Nat) (s:SS) (X:AL):AL:=(nb,.box [.sc (.map (some kb))] 129)::(kb,cx .string (vw s.M))::(mb,.box [.vec s.q 2 (s.M.map nA)] 259)::sD R rb s.k s.qr::(tok s.q 261 2 s.M.length++(tok s.qr 330 2 s.k++X))
theorem uN {R:RD} {nb kb mb rb:Nat} {s:SS} {X:AL}:(pH R nb kb mb rb s X).Perm (uZ nb kb mb s.M s.q++(sD R rb s.k s.qr::(tok s.qr 330 2 s.k++X))):=by
 unfold uZ
 refine List.Perm.cons _ (List.Perm.cons _ (List.Perm.cons _ ?_))
 exact (List.perm_middle (l₁:=tok s.q 261 2 s.M.length)).symm
theorem oz {R:RD} {nb kb mb rb:Nat} {s:SS} {X:AL}:(pH R nb kb mb rb s X).Perm (fI R rb s.k s.qr++((nb,.box [.sc (.map (some kb))] 129)::(kb,cx .string (vw s.M))::(mb,.box [.vec s.q 2 (s.M.map nA)] 259)::(tok s.q 261 2 s.M.length++X))):=by
 have h1:(pH R nb kb mb rb s X).Perm (sD R rb s.k s.qr::([(nb,.box [.sc (.map (some kb))] 129),(kb,cx .string (vw s.M)),(mb,.box [.vec s.q 2 (s.M.map nA)] 259)]++(tok s.q 261 2 s.M.length++(tok s.qr 330 2 s.k++X)))):=List.perm_middle (l₁:=[_,_,_])
 refine h1.trans (List.Perm.cons _ ?_)
 rw [←List.append_assoc]
 refine (List.perm_append_comm_assoc _ (tok s.qr 330 2 s.k) X).trans ?_
 rw [List.append_assoc]
 exact Nn _
theorem wD {R:RD} {nb kb mb rb:Nat} {s:SS} {X:AL} {a:Nat×AB}:(a::pH R nb kb mb rb s X).Perm (uZ nb kb mb s.M s.q++(a::sD R rb s.k s.qr::(tok s.qr 330 2 s.k++X))):=(List.Perm.cons a uN).trans List.perm_middle.symm
theorem wE {R:RD} {nb kb mb rb:Nat} {s:SS} {X:AL} {a:Nat×AB}:(a::pH R nb kb mb rb s X).Perm (fI R rb s.k s.qr++(a::(nb,.box [.sc (.map (some kb))] 129)::(kb,cx .string (vw s.M))::(mb,.box [.vec s.q 2 (s.M.map nA)] 259)::(tok s.q 261 2 s.M.length++X))):=(List.Perm.cons a oz).trans List.perm_middle.symm
theorem Ms {a b c:Nat×AB} {X:AL}:(a::b::c::X).Perm (b::c::a::X):=(List.Perm.swap b a _).trans (.cons b (List.Perm.swap c a _))
theorem Mv {A T1 T2 T R:AL}:(A++(T1++(T2++(T++R)))).Perm (T++(A++(T1++(T2++R)))):=by
 rw [←List.append_assoc T1,←List.append_assoc A,←List.append_assoc T1 T2 R,←List.append_assoc A (T1++T2) R]
 exact List.perm_append_comm_assoc ..
theorem Mw {A T1 T2 T3 T4:AL}:(A++(T1++(T2++(T3++T4)))).Perm (T4++(A++(T1++(T2++T3)))):=by
 rw [←List.append_assoc T2,←List.append_assoc T1,←List.append_assoc A]
 exact List.perm_append_comm
abbrev Li (R:RD) (nb kb mb rb:Nat) (s:SS):AL:=[(nb,.box [.sc (.map (some kb))] 129),(kb,cx .string (vw s.M)),(mb,.box [.vec s.q 2 (s.M.map nA)] 259),sD R rb s.k s.qr]
theorem Ap {R:RD} {nb kb mb rb:Nat} {s:SS} {T X:AL}:(pH R nb kb mb rb s (T++X)).Perm (T++pH R nb kb mb rb s X):=Mv (A:=Li R nb kb mb rb s)
theorem Ao {R:RD} {nb kb mb rb:Nat} {s:SS} {T X:AL}:(pH R nb kb mb rb s (T++X)).Perm (X++pH R nb kb mb rb s T):=Mw (A:=Li R nb kb mb rb s)
structure MI where
 s:SS
 tab:List (List Int)
 qt:Option (Nat×Nat)
 ends:List Nat
 qe:Option (Nat×Nat)
abbrev N8 (t:MI):AL:=tok t.qt 22 1 t.tab.length++tok t.qe 246 1 t.ends.length
theorem qD {M:List Pl} {n:Nat} {p:Pl} (h:M[n]?=some p):(M.map nA)[n]?=some (nA p):=by simp [h]
structure DH (R:RD) (hv:Nat→Bool) (Lb:Nat):Prop where
 ok:DB R
 has:R.have_=cE hv R.rows.length
 long:∀r∈R.rows,r.length≤Lb
 few:Lb≤200
theorem DH.small {R:RD} {hv:Nat→Bool} {Lb:Nat} (h:DH R hv Lb) {M:List Pl} (hs:kj R.rows hv Lb M):(∀x∈M,lO x)∧M.length≤20000:=by
 have hf:=h.few
 have hr:=h.ok.few
 have h64:2 ^ R.rows.length≤64:=Nat.pow_le_pow_right (n:=2) (by omega) hr
 constructor
 ·intro x hx
  obtain ⟨h1,h2⟩:=hs.small x hx
  exact ⟨by omega,by omega⟩
 ·have:=hs.few
  have h3:(Lb+1) * 2 ^ R.rows.length≤201 * 64:=Nat.mul_le_mul (by omega) h64
  omega
set_option maxHeartbeats 16000000 in
theorem uc (R:RD) (hv:Nat→Bool) (Lb:Nat) (h:DH R hv Lb) (u:AV) (hu:kQ Tryz.prog u [] [] fun c L=>∃rb,c=gT rb∧L=fI R rb 0 none):AC Tryz.prog 99 [u] [] fun c _=>∃tab ends,te R.cls R.rows hv R.C tab ends∧c= .tup [.imm 1 (b6 tab),.imm 1 (ie ends),dy true]:=by
 refine aV Tryz.func99 rfl Tryz.ntmps99 rfl fun B=>?_
 refine W01 ?_
 refine jZ [] [] hu rfl rfl (Nn _) rfl rfl fun c L1 ⟨rb,hc,hL⟩=>?_
 subst hc;subst hL
 refine W01 ?_
 refine eV .string fun kb=>?_
 refine W12 ?_
 intros
 rename_i nb mb
 have hok:=h.ok
 obtain ⟨hCm,hNm⟩:=hok.many
 refine aL (bL 0 (cs':=[.vec none 2 []]) rfl fun σ vs hh=>mF.vrs (a:=[.sc (.slice none 0 0)]) (b:=[.vec none 2 []]) ⟨fun σ v h=>cW 2 h,trivial⟩ hh) ?_
 refine aL (aQ (L':=pH R nb kb mb rb ⟨[],none,0,none⟩ []) (by unfold pH;rw [Is];exact Ms)) ?_
 refine b7 (fI R rb 0 none) _ (CT R rb 0 none (by omega)) rfl rfl oz rfl fun c L1 ⟨hc,k0,qr0,hk0,hL⟩=>?_
 subst hc;subst hL
 refine aL (aQ (L':=pH R nb kb mb rb ⟨[],none,k0,qr0⟩ []) (oz (s:=⟨[],none,k0,qr0⟩)).symm) ?_
 have hst0:kj R.rows hv Lb [((0,R.have_):Pl)]:=by
  have:=kj.start (rows:=R.rows) (have_:=hv) (L:=Lb)
  unfold nC at this
  rwa [←h.has] at this
 have hsm0:=(h.small hst0).1 (0,R.have_) (by simp)
 have hme0:=AH nb kb mb [] (fun x hx=>by cases hx) (by simp) none (0,R.have_) hsm0
 refine jZ (uZ nb kb mb [] none) _ (kQ.fn (f:=178) (caps:=[gT nb,gT mb]) hme0) rfl rfl uN rfl rfl fun c L1 ⟨hc,q0,hL⟩=>?_
 subst hc;subst hL
 refine aL (aQ (L':=pH R nb kb mb rb ⟨[(0,R.have_)],q0,k0,qr0⟩ []) (uN (s:=⟨[(0,R.have_)],q0,k0,qr0⟩)).symm) ?_
 refine W03 ?_
 refine bU (bH (t:=2) (c':= .vec none 1 (b6 [])) rfl fun σ v h=>cW 1 h) ?_
 refine bU (bH (t:=3) (c':= .vec none 1 (ie [])) rfl fun σ v h=>cW 1 h) ?_
 refine aM [5,7,8] (α:=MI) (fun t=>[(9,aK t.tab.length),(2,.vec t.qt 1 (b6 t.tab)),(3,.vec t.qe 1 (ie t.ends))]) (fun t=>kj R.rows hv Lb t.s.M∧iq R.cls R.rows R.C t.s.M t.tab t.ends∧t.tab.length≤t.s.M.length∧t.s.k≤1000001) (fun t=>pH R nb kb mb rb t.s (N8 t)) (fun t=>20000 - t.tab.length) ⟨⟨[(0,R.have_)],q0,k0,qr0⟩,[],none,[],none⟩ rfl ⟨rfl,rfl,rfl,trivial⟩ ⟨hst0,iq.nil,Nat.zero_le _,hk0⟩ (fun _ _ hh=>hh) ?_
 rintro ⟨⟨M,q,k,qr⟩,tab,qt,ends,qe⟩ ⟨hst,htb,htl,hk⟩
 dsimp only at hst htb htl hk ⊢
 try dsimp only [Ns,Nr,Nq,Nk]
 have hml:(M.map nA).length=M.length:=Nu ..
 obtain ⟨hsm,hM2⟩:=h.small hst
 refine W04 ?_
 refine aj rfl (fun h1=>?_) (fun h1=>?_)
 ·have hn2:tab.length < M.length:=by have h1':(tab.length:Int) < ((M.map nA).length:Int):=Ny h1;omega
  obtain ⟨p,hp⟩:∃p,M[tab.length]?=some p:=⟨_,Nz hn2⟩
  clear h1
  repeat' (first|refine Ng ?_|refine ak ?_|refine NG a5 IG ?_|(apply bz;first|refine NJ a5 0 NC ?_|refine NJ a5 1 NC ?_|refine NJ a5 2 NC ?_|refine NJ a5 3 NC ?_|refine NK a5 0 NC ?_|refine NK a5 1 NC ?_|refine NK a5 2 NC ?_|refine NL a5 1 NA (by assumption) rfl ?_|refine NL a5 0 NA (by assumption) rfl ?_|fail)|fail)
  refine lg a5 R.C rfl rfl rfl rfl rfl rfl rfl (by omega) (by omega) rfl fun rwb=>?_
  rw [show (List.replicate R.C (List.map AV.sc [Value.int .i64 0])).flatten=eg (List.replicate R.C 0) from ql R.C]
  refine W03 ?_
  refine aM [2,3,5,7,8,9,10,33] (α:=Nat×SS×List Int) (fun t=>[(34,aK t.1)]) (fun t=>t.1≤R.C∧kj R.rows hv Lb t.2.1.M∧iq R.cls R.rows R.C t.2.1.M tab ends∧t.2.1.M[tab.length]?=some p∧t.2.2.length=R.C∧t.2.1.k≤1000001∧∀(c:Nat) z,c < t.1→t.2.2[c]?=some z→k7 R.cls R.rows t.2.1.M p c z) (fun t=>(rwb,.box (eg t.2.2) 3)::pH R nb kb mb rb t.2.1 (tok qt 22 1 tab.length++tok qe 246 1 ends.length)) (fun t=>R.C - t.1) (0,⟨M,q,k,qr⟩,List.replicate R.C 0) rfl ⟨rfl,trivial⟩ ⟨Nat.zero_le _,hst,htb,hp,by simp,hk,fun c z hc=>by omega⟩ (fun _ _ hh=>hh) ?_
  ·rintro ⟨c,⟨M1,q1,k1,qr1⟩,eK⟩ ⟨hc,hst1,htb1,hp1,hrl,hk1,hce⟩
   dsimp only at hc hst1 htb1 hp1 hrl hk1 hce ⊢
   try dsimp only [Ns,Nr,Nq,Nk]
   have hcl:=jx eK
   obtain ⟨hsm1,hM1⟩:=h.small hst1
   refine W01 ?_
   refine aj rfl (fun h1=>?_) (fun h1=>?_)
   ·have hc2:c < R.C:=by have:=Ny h1;omega
    have hpg:=qD hp1
    have hps:=hst1.small p (Nw hp1)
    have hps2:=hsm1 p (Nw hp1)
    have hbe:=BD R hok rb k1 qr1 hk1 p (by have:=hps2.1;omega) (by have:=hps2.2;omega) c hc2
    have hst':=jy (l:=eK) (i:=c) (z:= -1)
    clear h1
    refine W0a ?_
    refine NV a5 0 ND (Nat.ble_eq_true_of_le (by rw [hcl,hrl,Int.toNat_natCast];show 0+c * 1+1≤_;omega)) ?_
    rw [hst']
    refine a7 ?_
    refine a6 ?_
    refine bU (aQ (L':=(rwb,.box (eg (eK.set c (-1))) 3)::pH R nb kb mb rb ⟨M1,q1,k1,qr1⟩ (tok qt 22 1 tab.length++tok qe 246 1 ends.length)) (Nn _)) ?_
    refine W0h ?_
    refine b7 (fI R rb k1 qr1) _ hbe rfl rfl wE rfl fun c1 L1 ⟨hc1,k2,qr2,hk2,hL⟩=>?_
    subst hc1;subst hL
    refine aL (aQ (L':=(rwb,.box (eg (eK.set c (-1))) 3)::pH R nb kb mb rb ⟨M1,q1,k2,qr2⟩ (tok qt 22 1 tab.length++tok qe 246 1 ends.length)) (wE (s:=⟨M1,q1,k2,qr2⟩)).symm) ?_
    have hrs:(eK.set c (-1)).length=R.C:=by rw [List.length_set];exact hrl
    have hrs2:=jx (eK.set c (-1))
    refine W12 ?_
    intros
    refine aj rfl (fun h1=>?_) (fun h1=>?_)
    ·have hne:(cz R.cls R.rows p c).2≠0:=by
      intro e
      have h1':((cz R.cls R.rows p c).2:Int)≠0:=Ny h1
      rw [e] at h1'
      exact h1' rfl
     have hst2:=hst1.meet h.long hne
     have hsm2:=(h.small hst2).1
     have hme:=AH nb kb mb M1 hsm1 (by omega) q1 (cz R.cls R.rows p c) (hsm2 _ (my _ _))
     have hput:=jy (l:=eK.set c (-1)) (i:=c) (z:=((eJ M1 (cz R.cls R.rows p c)).idxOf (cz R.cls R.rows p c):Nat))
     have hcn:=k7.new (M:=M1) hne
     have htm:=htb1.more (by have:=(Np hp1).1;omega) (cz R.cls R.rows p c)
     have hpm:=oY (cz R.cls R.rows p c) hp1
     have hcm:∀(c':Nat) z,c' < c→eK[c']?=some z→k7 R.cls R.rows (eJ M1 (cz R.cls R.rows p c)) p c' z:=fun c' z h1 h2=>(hce c' z h1 h2).more
     clear h1
     refine W01 ?_
     refine jZ (uZ nb kb mb M1 q1) _ (kQ.fn (f:=178) (caps:=[gT nb,gT mb]) hme) rfl rfl wD rfl rfl fun c2 L2 ⟨hc2',q2,hL⟩=>?_
     subst hc2';subst hL
     refine aL (aQ (L':=(rwb,.box (eg (eK.set c (-1))) 3)::pH R nb kb mb rb ⟨eJ M1 (cz R.cls R.rows p c),q2,k2,qr2⟩ (tok qt 22 1 tab.length++tok qe 246 1 ends.length)) (wD (s:=⟨eJ M1 (cz R.cls R.rows p c),q2,k2,qr2⟩)).symm) ?_
     refine W0F ?_
     refine NV a5 0 ND (Nat.ble_eq_true_of_le (by rw [hrs2,hrs,Int.toNat_natCast];show 0+c * 1+1≤_;omega)) ?_
     rw [hput]
     refine W02 ?_
     refine aC (c+1,⟨eJ M1 (cz R.cls R.rows p c),q2,k2,qr2⟩,(eK.set c (-1)).set c ((eJ M1 (cz R.cls R.rows p c)).idxOf (cz R.cls R.rows p c):Nat)) rfl ⟨by rw [Nv];rfl,trivial⟩ ⟨hc2,hst2,htm,hpm,by rw [List.length_set];exact hrs,hk2,fun c' z h1 h2=>?_⟩ (by dsimp only;omega) (fun _ _ hh=>hh)
     by_cases he:c'=c
     ·subst he
      rw [List.getElem?_set_self (by omega)] at h2
      cases h2
      exact hcn
     ·rw [List.getElem?_set_ne (fun e=>he e.symm),List.getElem?_set_ne (fun e=>he e.symm)] at h2
      exact hcm c' z (by dsimp only at h1;omega) h2
    ·have he0:(cz R.cls R.rows p c).2=0:=by
      have h1':¬((cz R.cls R.rows p c).2:Int)≠0:=Nx h1
      omega
     clear h1
     refine W02 ?_
     refine aC (c+1,⟨M1,q1,k2,qr2⟩,eK.set c (-1)) rfl ⟨by rw [Nv];rfl,trivial⟩ ⟨hc2,hst1,htb1,hp1,hrs,hk2,fun c' z h1 h2=>?_⟩ (by dsimp only;omega) (fun _ _ hh=>hh)
     by_cases he:c'=c
     ·subst he
      rw [List.getElem?_set_self (by omega)] at h2
      cases h2
      exact .inl ⟨he0,rfl⟩
     ·rw [List.getElem?_set_ne (fun e=>he e.symm)] at h2
      exact hce c' z (by dsimp only at h1;omega) h2
   ·have hc2:c=R.C:=by have:=Nx h1;omega
    subst hc2
    have hn3:tab.length < M1.length:=(Np hp1).1
    have hpg:=qD hp1
    have hps2:=hsm1 p (Nw hp1)
    have hml1:(M1.map nA).length=M1.length:=Nu ..
    have hen:=HF R hok rb k1 qr1 hk1 p (by have:=hps2.1;omega) (by have:=hps2.2;omega)
    have htl3:=bO tab
    have hul3:=pa ends
    have hsn:=htb1.snoc hp1 hrl fun c' z h2=>hce c' z (by have:=(Np h2).1;omega) h2
    have hel:=htb1.len
    clear h1
    refine W04 ?_
    refine aj rfl (fun h1=>?_) (fun h1=>?_)
    ·have h1':(20000:Int) < ((M1.map nA).length:Int):=Ny h1
     omega
    clear h1
    refine bU (mz (t:=10) (sz:=1) (n:=R.C) (cap:=R.C) (l:=aW eK) 0 rfl rfl (by rw [←qk,Nat.mul_one,List.take_of_length_le (by omega)]) (by omega) (fun e he=>by unfold aW at he;obtain ⟨y,_,rfl⟩:=List.mem_map.1 he;rfl) (by rw [aJ];exact hrl) (Nat.le_refl _) (by unfold maxLen;omega)) ?_
    refine W0g ?_
    refine NS a5 (pH R nb kb mb rb ⟨M1,q1,k1,qr1⟩ (tok qe 246 1 ends.length)) NB (by rw [htl3];exact Ap) (by rw [htl3];simp;omega) (by rw [htl3];simp;omega) rfl fun qt'=>?_
    have hrsn:b6 tab++[[AV.imm 1 (aW eK)]]=b6 (tab++[eK]):=by simp [b6]
    refine aL (aQ (L':=pH R nb kb mb rb ⟨M1,q1,k1,qr1⟩ (tok qt' 22 1 (b6 tab++[[AV.imm 1 (aW eK)]]).length++tok qe 246 1 ends.length)) Ap.symm) ?_
    refine W0h ?_
    refine b7 (fI R rb k1 qr1) _ hen rfl rfl oz rfl fun c1 L1 ⟨hc1,k2,qr2,hk2,hL⟩=>?_
    subst hc1;subst hL
    refine aL (aQ (L':=pH R nb kb mb rb ⟨M1,q1,k2,qr2⟩ (tok qt' 22 1 (b6 tab++[[AV.imm 1 (aW eK)]]).length++tok qe 246 1 ends.length)) (oz (s:=⟨M1,q1,k2,qr2⟩)).symm) ?_
    repeat' (first|refine bM a5 ?_|fail)
    refine NS a5 (pH R nb kb mb rb ⟨M1,q1,k2,qr2⟩ (tok qt' 22 1 (b6 tab++[[AV.imm 1 (aW eK)]]).length)) NB (by rw [hul3];exact Ao) (by rw [hul3];simp;omega) (by rw [hul3];simp;omega) rfl fun qe'=>?_
    have husn:ie ends++[[kl (kw R.rows p)]]=ie (ends++[kw R.rows p]):=by simp [ie]
    refine aL (aQ (L':=pH R nb kb mb rb ⟨M1,q1,k2,qr2⟩ (tok qt' 22 1 (b6 tab++[[AV.imm 1 (aW eK)]]).length++tok qe' 246 1 (ie ends++[[kl (kw R.rows p)]]).length)) Ao.symm) ?_
    refine W02 ?_
    have hll:(tab++[eK]).length=tab.length+1:=by simp
    refine aC ⟨⟨M1,q1,k2,qr2⟩,tab++[eK],qt',ends++[kw R.rows p],qe'⟩ rfl ⟨?_,by dsimp only;rw [←hrsn];rfl,by dsimp only;rw [←husn];rfl,trivial⟩ ⟨hst1,hsn,by dsimp only;omega,hk2⟩ (by dsimp only;omega) (fun _ _ hh=>?_)
    ·dsimp only
     rw [hll,Nv]
     rfl
    ·dsimp only
     rw [hrsn,husn,bO,pa] at hh
     exact hh
 ·have hn2:tab.length=M.length:=by
   have h1':¬(tab.length:Int) < ((M.map nA).length:Int):=Nx h1
   omega
  clear h1
  refine W01 ?_
  refine bf (bH (t:=2) (c':= .imm 1 (b6 tab)) rfl fun σ v h=>VR.im h) ?_
  refine bf (bH (t:=3) (c':= .imm 1 (ie ends)) rfl fun σ v h=>VR.im h) ?_
  exact gG (cs:=[.imm 1 (b6 tab),.imm 1 (ie ends),dy true]) [] ⟨rfl,rfl,rfl,trivial⟩ (List.nil_sublist _) ⟨tab,ends,htb.done hst hn2,rfl⟩
structure vF (N:Nat) (r:bk):Prop where
 back:∀s∈r.Back,jV s∧∀g∈s,0≤g∧g < (N:Int)
 in_:∀s∈r.In,jV s∧∀g∈s,0≤g∧g < (N:Int)
 ahead:∀s∈r.Ahead,jV s∧∀g∈s,0≤g∧g < (N:Int)
 long:r.Back.length≤200∧r.In.length+r.Ahead.length≤200
structure zS (N:Nat) (l:aY):Prop where
 few:l.Rules.length≤6
 rule:∀r∈l.Rules,vF N r
def eM (rs:List bk):List (List Int):=rs.flatMap fun r=>r.Back++r.In++r.Ahead
theorem Bp {rs:List bk} {k:Nat} {r:bk} (h:rs[k]?=some r):eM (rs.take (k+1))=eM (rs.take k)++r.Back++r.In++r.Ahead:=by
 unfold eM
 rw [List.take_add_one,h]
 simp
theorem rq {N:Nat}:∀{rs:List bk},(∀r∈rs,vF N r)→(eM rs).length≤400 * rs.length
 | [],_=>by simp [eM]
 | r::rs,h=>by
  have ih:=rq (rs:=rs) fun x hx=>h x (by simp [hx])
  have hr:=(h r (by simp)).long
  unfold eM at ih ⊢
  rw [List.flatMap_cons,List.length_append,List.length_append,List.length_append,List.length_cons]
  omega
theorem uy {N:Nat} {rs:List bk} (h:∀r∈rs,vF N r):∀s∈eM rs,jV s∧∀g∈s,0≤g∧g < (N:Int):=by
 intro s hs
 unfold eM at hs
 obtain ⟨r,hr,hs⟩:=List.mem_flatMap.1 hs
 rw [List.mem_append,List.mem_append] at hs
 rcases hs with (hs | hs) | hs
 ·exact (h r hr).back s hs
 ·exact (h r hr).in_ s hs
 ·exact (h r hr).ahead s hs
structure lM where
 cls:List Int
 fore:List (List Int)
 back:List (List Int)
 foreE:List Nat
 backE:List Nat
def Ma (a:lM):List AV:=[.imm 1 (aW a.cls),.imm 1 (b6 a.fore),.imm 1 (b6 a.back),.imm 1 (ie a.foreE),.imm 1 (ie a.backE)]
structure zT (N:Nat) (rs:List bk) (a:lM):Prop where
 cls:vG N (ij a.cls).toNat a.cls (eM rs)
 fore:te a.cls (rs.map fun r=>(qx r).1) (lb qx rs) (ij a.cls).toNat a.fore a.foreE
 back:te a.cls (rs.map fun r=>(rA r).1) (lb rA rs) (ij a.cls).toNat a.back a.backE
theorem me (r:bk):(ep r).length≤r.In.length+r.Ahead.length:=by
 unfold ep
 split
 ·simp
 ·rw [List.length_append];omega
theorem mf {r:bk} {s:List Int} (h:s∈ep r):s∈r.In∨s∈r.Ahead:=by
 unfold ep at h
 split at h
 ·cases h
 ·exact Nm h
section
variable {N:Nat} {l:aY} (h:zS N l) (hN0:0 < N) (hN:N≤65536)
include h
theorem oM:∀s∈eM l.Rules,(∀g∈s,0≤g∧g < (N:Int))∧s.Nodup:=fun s hs=>⟨(uy h.rule s hs).2,iT (uy h.rule s hs).1⟩
include hN
theorem su:(∀z∈eD N (eM l.Rules),0≤z∧z≤1000000)∧(eD N (eM l.Rules)).length=N∧(ij (eD N (eM l.Rules))).toNat≤1000000∧∀z∈eD N (eM l.Rules),0≤z∧z < ((ij (eD N (eM l.Rules))).toNat:Int):=by
 have h1:=tZ N _ (oM h)
 refine ⟨fun z hz=>by have:=h1 z hz;omega,u0 N _ (oM h),?_,(x6 N _ (oM h)).dom⟩
 have:ij (eD N (eM l.Rules))≤(N:Int):=tU (by omega) fun z hz=>(h1 z hz).2
 omega
theorem Kl:DG l.Rules (eD N (eM l.Rules)):=by
 obtain ⟨h1,h2,_,_⟩:=su h hN
 exact ⟨h.few,h1,by omega,fun r hr=>by have:=(h.rule r hr).long;omega⟩
theorem HM:DH (sA qx l.Rules (eD N (eM l.Rules))) (lb qx l.Rules) 200:=by
 obtain ⟨h1,h2,h3,h4⟩:=su h hN
 refine ⟨⟨by show (l.Rules.map _).length≤6;rw [Nu];exact h.few,h4,fun eK hrow s hs=>?_,fun eK hrow=>?_,h3,by show (eD N (eM l.Rules)).length≤_;omega⟩,by show cE _ _=cE _ (l.Rules.map _).length;rw [Nu],fun eK hrow=>?_,Nat.le_refl _⟩
 ·obtain ⟨r,hr,rfl⟩:=List.mem_map.1 hrow
  have hb:=h.rule r hr
  have hsr:jV s∧∀g∈s,0≤g∧g < (N:Int):=by
   rcases mf hs with hs | hs
   ·exact hb.in_ s hs
   ·exact hb.ahead s hs
  refine ⟨fun g hg=>?_,?_⟩
  ·show 0≤g∧g < ((eD N (eM l.Rules)).length:Int)
   rw [h2]
   exact hsr.2 g hg
  ·have:=eW (iT hsr.1) hsr.2
   omega
 ·obtain ⟨r,hr,rfl⟩:=List.mem_map.1 hrow
  have:=me r
  have:=(h.rule r hr).long
  show (ep r).length≤_
  omega
 ·obtain ⟨r,hr,rfl⟩:=List.mem_map.1 hrow
  have:=me r
  have:=(h.rule r hr).long
  show (ep r).length≤_
  omega
theorem Ha:DH (sA rA l.Rules (eD N (eM l.Rules))) (lb rA l.Rules) 200:=by
 obtain ⟨h1,h2,h3,h4⟩:=su h hN
 refine ⟨⟨by show (l.Rules.map _).length≤6;rw [Nu];exact h.few,h4,fun eK hrow s hs=>?_,fun eK hrow=>?_,h3,by show (eD N (eM l.Rules)).length≤_;omega⟩,by show cE _ _=cE _ (l.Rules.map _).length;rw [Nu],fun eK hrow=>?_,Nat.le_refl _⟩
 ·obtain ⟨r,hr,rfl⟩:=List.mem_map.1 hrow
  have hsr:=(h.rule r hr).back s hs
  refine ⟨fun g hg=>?_,?_⟩
  ·show 0≤g∧g < ((eD N (eM l.Rules)).length:Int)
   rw [h2]
   exact hsr.2 g hg
  ·have:=eW (iT hsr.1) hsr.2
   omega
 ·obtain ⟨r,hr,rfl⟩:=List.mem_map.1 hrow
  have:=(h.rule r hr).long
  show r.Back.length≤_
  omega
 ·obtain ⟨r,hr,rfl⟩:=List.mem_map.1 hrow
  have:=(h.rule r hr).long
  show r.Back.length≤_
  omega
end
set_option maxHeartbeats 8000000 in
theorem Ej (f:aT) (n:Nat) (l:aY) (hl:f.Lookups[n]?=some l) (h:zS f.Glyphs.length l) (hN0:0 < f.Glyphs.length) (hN:f.Glyphs.length≤65536):AC Tryz.prog 35 [ca f,aK n] [] fun c _=>∃a,zT f.Glyphs.length l.Rules a∧c= .tup [.agg (Ma a),aK 0]:=by
 refine aV Tryz.func35 rfl Tryz.ntmps35 rfl fun B=>?_
 have hgl:(f.Glyphs.map bD).length=f.Glyphs.length:=Nu ..
 have hll:(f.Lookups.map br).length=f.Lookups.length:=Nu ..
 have hrl:(l.Rules.map bI).length=l.Rules.length:=Nu ..
 have hnl:=(Np hl).1
 have hlg:(f.Lookups.map br)[n]?=some (br l):=by simp [hl]
 have hfew:=h.few
 refine W1B ?_
 intros
 refine cu [1,2,4] False rfl (fun Q' K=>?_) (fun hC=>hC.elim) (fun _=>?_)
 ·repeat' (first|refine Ng ?_|refine NG a5 IG ?_|refine NN IG ?_|refine NO NB ?_|refine NR NA (fun _=>?_) (fun _=>?_))
  all_goals exact K _ _ rfl rfl (by simp_all <;> omega)
 refine W0i ?_
 rename_i r4 _
 have hpd:=t7 f.Glyphs.length hN0 hN (eM l.Rules) (uy h.rule) (by have:=rq h.rule;omega)
 have hcls:=x6 f.Glyphs.length (eM l.Rules) (oM h)
 have hso:=Kl h hN
 have hsf:=uc _ _ _ (HM h hN) (.fnB 100 [.agg (y7 l.Rules (eD f.Glyphs.length (eM l.Rules)))] []) (kQ.fnB (f:=100) (fs:=[.agg (y7 l.Rules (eD f.Glyphs.length (eM l.Rules)))]) (caps:=[]) (F3 hso))
 have hsb:=uc _ _ _ (Ha h hN) (.fnB 101 [.agg (y7 l.Rules (eD f.Glyphs.length (eM l.Rules)))] []) (kQ.fnB (f:=101) (fs:=[.agg (y7 l.Rules (eD f.Glyphs.length (eM l.Rules)))]) (caps:=[]) (Ef hso))
 refine aj rfl (fun h1=>?_) (fun h1=>?_)
 ·have:=Ny h1
  omega
 clear h1
 refine W03 ?_
 refine bU (bH (t:=7) (c':= .vec none 1 (b6 [])) rfl fun σ v h=>cW 1 h) ?_
 refine aM [2,4,6,49,50] (α:=Nat×Option (Nat×Nat)) (fun s=>[(51,aK s.1),(7,.vec s.2 1 (b6 (eM (l.Rules.take s.1))))]) (fun s=>s.1≤l.Rules.length) (fun s=>(r4,.box [.sc (.slice none 0 0),.sc (.slice none 0 0),.sc (.slice none 0 0),.sc (.slice none 0 0),.sc (.slice none 0 0)] 62)::tok s.2 22 1 (eM (l.Rules.take s.1)).length) (fun s=>l.Rules.length - s.1) (0,none) rfl ⟨rfl,rfl,trivial⟩ (Nat.zero_le _) (fun _ _ hh=>hh) ?_
 ·rintro ⟨k,q⟩ hk
  dsimp only at hk ⊢
  try dsimp only [Ns,Nr,Nq,Nk]
  refine W01 ?_
  refine aj rfl (fun h1=>?_) (fun h1=>?_)
  ·have hk2:k < l.Rules.length:=by have:=Ny h1;omega
   obtain ⟨r,hr⟩:∃z,l.Rules[k]?=some z:=⟨_,Nz hk2⟩
   have hrg:(l.Rules.map bI)[k]?=some (bI r):=by simp [hr]
   have hlong:=(h.rule r (Nw hr)).long
   have hal:=Bp hr
   have hlen:(eM (l.Rules.take k)).length≤2400:=by
    have:=rq (N:=f.Glyphs.length) (rs:=l.Rules.take k) fun x hx=>h.rule x (List.mem_of_mem_take hx)
    rw [List.length_take] at this
    omega
   have hri:b6 (eM (l.Rules.take (k+1)))=b6 (eM (l.Rules.take k))++b6 r.Back++b6 r.In++b6 r.Ahead:=by rw [hal];simp [b6]
   have hrl0:=bO (eM (l.Rules.take k))
   have hrl1:=bO r.Back
   have hrl2:=bO r.In
   have hrl3:=bO r.Ahead
   have hln:(eM (l.Rules.take (k+1))).length=(eM (l.Rules.take k)).length+r.Back.length+r.In.length+r.Ahead.length:=by rw [hal,List.length_append,List.length_append,List.length_append]
   generalize b6 (eM (l.Rules.take k))=A0 at *
   generalize (eM (l.Rules.take k)).length=n0 at *
   clear h1
   repeat' (first|refine Ng ?_|refine ak ?_|refine NG a5 IG ?_|(apply aO;first|refine aN a5 ?_|refine aF a5 ?_)|(apply aI;first|refine NI 9 a5 0 NF ?_|refine NI 9 a5 1 NF ?_|refine NI 9 a5 2 NF ?_|refine NI 10 a5 0 NF ?_|refine NI 10 a5 1 NF ?_|refine NI 10 a5 2 NF ?_|refine NH a5 0 NE ?_|refine NH a5 1 NE ?_|refine NH a5 2 NE ?_|refine NH a5 3 NE ?_|fail)|refine bn a5 fun _=>?_|fail)
   refine NS a5 [(r4,.box [.sc (.slice none 0 0),.sc (.slice none 0 0),.sc (.slice none 0 0),.sc (.slice none 0 0),.sc (.slice none 0 0)] 62)] NB (by rw [hrl0];exact List.perm_append_comm (l₁:=[_])) (by omega) (by omega) rfl fun q1=>?_
   refine W01 ?_
   refine NS a5 [(r4,.box [.sc (.slice none 0 0),.sc (.slice none 0 0),.sc (.slice none 0 0),.sc (.slice none 0 0),.sc (.slice none 0 0)] 62)] NB (Nn _) (by rw [List.length_append];omega) (by rw [List.length_append];omega) rfl fun q2=>?_
   refine W01 ?_
   refine NS a5 [(r4,.box [.sc (.slice none 0 0),.sc (.slice none 0 0),.sc (.slice none 0 0),.sc (.slice none 0 0),.sc (.slice none 0 0)] 62)] NB (Nn _) (by rw [List.length_append,List.length_append];omega) (by rw [List.length_append,List.length_append];omega) rfl fun q3=>?_
   refine W02 ?_
   refine aC (k+1,q3) rfl ⟨by rw [Nv];rfl,by dsimp only;rw [hri];rfl,trivial⟩ hk2 (by dsimp only;omega) (fun σ w hh=>?_)
   have h2:=hh.perm (List.perm_append_comm (l₂:=[_]))
   have h3:(A0++b6 r.Back++b6 r.In++b6 r.Ahead).length=(eM (l.Rules.take (k+1))).length:=by rw [hln,List.length_append,List.length_append,List.length_append];omega
   rw [h3] at h2
   exact h2
  ·have hk2:k=l.Rules.length:=by have:=Nx h1;omega
   subst hk2
   rw [List.take_length]
   haveI:AD Tryz.prog 98 [aK ((f.Glyphs.map bD).length:Nat),.imm 1 (b6 (eM l.Rules))] (.imm 1 (aW (eD f.Glyphs.length (eM l.Rules)))):=⟨by rw [hgl];exact hpd⟩
   clear h1
   repeat' (first|refine Ng ?_|refine NG a5 IG ?_|(apply aI;first|refine NI 9 a5 0 NF ?_|refine NI 9 a5 1 NF ?_|refine NI 9 a5 2 NF ?_|refine NI 10 a5 0 NF ?_|refine NI 10 a5 1 NF ?_|refine NI 10 a5 2 NF ?_|refine NH a5 0 NE ?_|refine NH a5 1 NE ?_|refine NH a5 2 NE ?_|refine NH a5 3 NE ?_|fail)|refine bn a5 fun _=>?_|(apply bA;refine bw ?_)|fail)
   refine b7 [] _ hsf rfl rfl (Nn _) rfl fun c1 L1 ⟨ft,fe,hf1,hc1⟩=>?_
   subst hc1
   refine aL (bF (List.sublist_append_right ..)) ?_
   refine W0W ?_
   refine b7 [] _ hsb rfl rfl (Nn _) rfl fun c1 L1 ⟨bt,be,hb1,hc1⟩=>?_
   subst hc1
   refine aL (bF (List.sublist_append_right ..)) ?_
   repeat' (first|refine Ng ?_|refine NG a5 IG ?_|(apply aI;first|refine NI 9 a5 0 NF ?_|refine NI 9 a5 1 NF ?_|refine NI 9 a5 2 NF ?_|refine NI 10 a5 0 NF ?_|refine NI 10 a5 1 NF ?_|refine NI 10 a5 2 NF ?_|refine NH a5 0 NE ?_|refine NH a5 1 NE ?_|refine NH a5 2 NE ?_|refine NH a5 3 NE ?_|fail)|refine bJ rfl ?_)
   exact gG (cs:=[.agg (Ma ⟨eD f.Glyphs.length (eM l.Rules),ft,bt,fe,be⟩),aK 0]) [] ⟨⟨_,0,_,_,rfl,rfl,.inr ⟨eL a5 rfl,rfl⟩⟩,rfl,trivial⟩ (List.nil_sublist _) ⟨⟨eD f.Glyphs.length (eM l.Rules),ft,bt,fe,be⟩,⟨hcls,hf1,hb1⟩,rfl⟩
end
section
variable {P:Program} {fr:cf} {B:Bs} {L:AL} {ty t t':TypeId} {pos:String} {af:Array Edge} {g:Option (Nat×Bool)} {x y z q:Operand} {u:AV}
theorem GU {d:Option Tmp} {s e sz by_ hi:Nat} {l:List (List AV)} {k k':IntKind} {a b:Int} (hc:lw P t e sz by_) (hx:bE fr x=some u) (hu:j2 u=some (s,l)) (hs:Nat.beq s sz=true) (hy:bE fr y=some (.sc (.int k a))) (hz:bE fr z=some (.sc (.int k' b))) (ha:a=(hi:Int)) (hb:b=(hi:Int)) (h:hi≤l.length):Av P ⟨d,.slice t x none (some y) (some z),ty,pos,af,g⟩ fr (.imm s (l.take hi)):=by
 intro σ ρ w hρ _
 subst ha hb
 rw [Nat.beq_eq] at hs
 subst hs
 have h1:=(hρ x u hx).im
 rw [d4 hu] at h1
 obtain ⟨A,cap,hv,hcap,_⟩:=h1.imm_inv
 rw [hv] at h1
 have hvr:=h1.cut (lo:=0) (hi:=hi) (m:=hi) (Nat.zero_le _) h (Nat.le_refl _) (by omega)
 haveI:=hc
 simp only [List.drop_zero,Nat.sub_zero,Nat.zero_mul] at hvr
 refine ⟨_,?_,hvr⟩
 have h4:hi≤cap:=by omega
 simp [execOp,hv,(hρ y _ hy).sc_inv,(hρ z _ hz).sc_inv,Instr.sliceAt,Instr.slice,Instr.sliceBounds,Instr.sliceBound,asIntOf,run_underlying hc.under,df (t:=t),h4]
end
section
variable {P:Program} {tt:TT} {l:List Oper} {fr:cf} {fin:jR} {sk:n7} {acc:cf} {L:AL} {k:Nat} {dd:Option Tmp} {ty t:TypeId} {pos:String} {af:Array Edge} {g:Option (Nat×Bool)} {x y z:Operand} {u:AV}
theorem Hi (ok:eF P tt) (hi:Nat) {s e sz by_:Nat} {ll:List (List AV)} {q q':IntKind} {a b:Int} (ht:jP tt t=some (e,sz,by_)) (hx:bE (cK l.toArray acc fr af.toList) x=some u) (hu:j2 u=some (s,ll)) (hs:Nat.beq s sz=true) (hy:bE (cK l.toArray acc fr af.toList) y=some (.sc (.int q a))) (hz:bE (cK l.toArray acc fr af.toList) z=some (.sc (.int q' b))) (ha:a=(hi:Int)) (hb:b=(hi:Int)) (h1:hi≤ll.length) (hg:jh ⟨dd,.slice t x none (some y) (some z),ty,pos,af,g⟩ acc) (h:DA P l fr fin sk ((k,.imm s (ll.take hi))::acc) L):
  cG P l fr fin k .v ⟨dd,.slice t x none (some y) (some z),ty,pos,af,g⟩ sk acc L:=fA hg (AK (GU (bB ok ht).1 hx hu hs hy hz ha hb h1)) h
end
end Go.Proofs.YtpmdfoaadejmkaaGreatDoor
