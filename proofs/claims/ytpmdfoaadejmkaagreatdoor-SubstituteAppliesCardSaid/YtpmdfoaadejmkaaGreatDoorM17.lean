/-
  The rows of a lookup's rules: the walk.
-/
import Derived.Test.YtpmdfoaadejmkaaGreatDoorM16
import Derived.Test.YtpmdfoaadejmkaaGreatDoorM12
import Derived.Test.YtpmdfoaadejmkaaGreatDoorM13
namespace Go.Proofs.YtpmdfoaadejmkaaGreatDoor
open Go.RowKit
attribute [local irreducible] AT bI AX AO Av Kt bi dx DA cK
abbrev wd (rs:List bc) (cls:List Int):List AV:=[.imm 6 (rs.map bB),.imm 1 (aX cls)]
def kf (w:bc→List (List Int)×Bool) (rs:List bc) (n:Nat):Bool:=match rs[n]? with
 | some r=>(w r).2
 | none=>false
def r8 (w:bc→List (List Int)×Bool) (rs:List bc) (cls:List Int):RD:=⟨rs.map fun r=>(w r).1,ck (kf w rs) rs.length,cls,(gA cls).toNat⟩
theorem xa (l:List (List (List Int))) (r:List (List Int)):jG l++[[.imm 1 (b9 r)]]=jG (l++[r]):=by simp [jG]
theorem wS {l:List Int} {k:Nat} {z:Int} (h:l[k]?=some z):gA (l.take (k+1))=max (gA (l.take k)) (z+1):=by
 unfold gA
 rw [List.take_add_one,h]
 simp
set_option maxHeartbeats 8000000 in
theorem q8 (w:bc→List (List Int)×Bool) (u:AV) (rs:List bc) (hrs:rs.length≤6) (hw:∀r∈rs,jP Tryz.prog u [.agg (bB r)] [] fun c _=>c= .tup [.imm 1 (b9 (w r).1),dV (w r).2]) (cls:List Int) (hcl:∀z∈cls,0≤z∧z≤1000000) (hcl2:cls.length≤1000000):AC Tryz.prog 183 [.agg (wd rs cls),u] [] fun c L=>∃rb,c=g8 rb∧L=f5 (r8 w rs cls) rb 0 none:=by
 refine aM Tryz.func183 rfl Tryz.ntmps183 rfl fun B=>?_
 have hrl:(rs.map bB).length=rs.length:=Ju ..
 have hil:=aZ cls
 repeat' (first|refine Ji ?_|refine am ?_|refine JF a5 H6 ?_|refine y8 (d:=15) fun _=>?_|refine bf ?_|fail)
 rename_i rb
 refine c5 (bD 0 (cs':=[.vec none 1 [],jq 0,.imm 1 (aX cls),aF 0,.vec none 2 []]) rfl fun σ vs h=>mH.vrs (a:=[.sc (.slice none 0 0),jq 0,.imm 1 (aX cls),aF 0,.sc (.slice none 0 0)]) (b:=[.vec none 1 [],jq 0,.imm 1 (aX cls),aF 0,.vec none 2 []]) ⟨fun σ v h=>cS 1 h,cU.refl _,cU.refl _,cU.refl _,fun σ v h=>cS 2 h,trivial⟩ h) ?_
 refine aP [1,2,5,17,18] (α:=Nat×Option (Nat×Nat)) (fun s=>[(19,aF s.1)]) (fun s=>s.1≤rs.length) (fun s=>(rb,.box [.vec s.2 1 (jG ((rs.take s.1).map fun r=>(w r).1)),jq (ck (kf w rs) s.1),.imm 1 (aX cls),aF 0,.vec none 2 []] 268)::tok s.2 45 1 s.1) (fun s=>rs.length - s.1) (0,none) rfl ⟨rfl,trivial⟩ (Nat.zero_le _) (fun _ _ h=>h) ?_
 ·rintro ⟨n,q⟩ hn
  dsimp only at hn ⊢
  try dsimp only [Js,Jr,Jq,Jl]
  repeat' (first|refine Ji ?_|refine JF a5 H6 ?_)
  refine ar rfl (fun h1=>?_) (fun h1=>?_)
  ·have hn2:n < rs.length:=by have:=Jy h1;omega
   obtain ⟨r,hr⟩:∃z,rs[n]?=some z:=⟨_,Jz hn2⟩
   have hrg:(rs.map bB)[n]?=some (bB r):=by simp [hr]
   have hwr:=hw r (Jw hr)
   have htk:((rs.take (n+1)).map fun r=>(w r).1)=((rs.take n).map fun r=>(w r).1)++[(w r).1]:=by rw [List.take_add_one,hr];simp
   have hbit:ck (kf w rs) (n+1)=ck (kf w rs) n ||| (if (w r).2=true then 2 ^ n else 0):=by
    rw [ck]
    unfold kf
    rw [hr]
   have hml:(jG ((rs.take n).map fun r=>(w r).1)).length=n:=by rw [sJ,Ju,List.length_take];omega
   have hsn:=xa ((rs.take n).map fun r=>(w r).1) (w r).1
   rw [←htk] at hsn
   have hb1:=nV (p:=kf w rs) (n:=n) (by omega)
   have hb2:=Fy (n:=n) (by omega)
   have hub:=yr n (by omega)
   generalize jG ((rs.take n).map fun r=>(w r).1)=l3 at *
   clear h1
   repeat' (first|refine Ji ?_|refine am ?_|refine JF a5 H6 ?_|(apply aO;first|refine aN a5 ?_|refine aG a5 ?_)|(apply aK;first|refine JH 7 a5 0 JE ?_|refine JH 7 a5 1 JE ?_|refine JH 7 a5 2 JE ?_|refine JG a5 0 JD ?_|refine JG a5 1 JD ?_|refine JG a5 2 JD ?_|refine JG a5 3 JD ?_|fail)|refine bj a5 fun _=>?_|fail)
   refine ja [] ((rb,.box [.vec q 1 l3,jq (ck (kf w rs) n),.imm 1 (aX cls),aF 0,.vec none 2 []] 268)::tok q 45 1 n) hwr rfl rfl (Jo _) rfl rfl fun c L1 hc=>?_
   subst hc
   refine aI (bH (List.sublist_append_right ..)) ?_
   repeat' (first|refine Ji ?_|refine JF a5 H6 ?_|(apply bE;first|refine JI a5 0 JC ?_|refine JI a5 1 JC ?_|refine JI a5 2 JC ?_|refine JI a5 3 JC ?_|refine JJ a5 0 JC ?_|refine JJ a5 1 JC ?_|refine JJ a5 2 JC ?_|refine JK a5 1 JA (by assumption) rfl ?_|refine JK a5 0 JA (by assumption) rfl ?_|fail)|refine bM a5 ?_|fail)
   refine bK a5 [(rb,.box [.vec q 1 l3,jq (ck (kf w rs) n),.imm 1 (aX cls),aF 0,.vec none 2 []] 268)] rfl rfl rfl rfl (by rw [hml];exact List.perm_append_comm (l₁:=[_])) (by rw [hml];simp;omega) (by rw [hml];simp;omega) rfl fun q'=>?_
   refine aI (aQ (L':=(rb,.box [.vec q 1 l3,jq (ck (kf w rs) n),.imm 1 (aX cls),aF 0,.vec none 2 []] 268)::tok q' 45 1 (n+1)) (by rw [List.length_append,hml];exact List.perm_append_comm (l₂:=[_]))) ?_
   repeat' (first|refine Ji ?_|refine JF a5 H6 ?_|(apply aK;first|refine JH 7 a5 0 JE ?_|refine JH 7 a5 1 JE ?_|refine JH 7 a5 2 JE ?_|refine JG a5 0 JD ?_|refine JG a5 1 JD ?_|refine JG a5 2 JD ?_|refine JG a5 3 JD ?_|fail))
   refine ar rfl (fun h1=>?_) (fun h1=>?_)
   ·rw [if_pos h1] at hbit
    repeat' (first|fail)
    refine bw 6 [(0,.v),(1,.v),(2,.v),(3,.l),(4,.v),(5,.v)] none ?_ trivial rfl (by kernel_rfl) (by kernel_rfl) (by kernel_rfl) bR (by kernel_rfl) rfl
    repeat' (first|refine aD ?_|refine b7 a5 ?_|refine ca a5 0 rfl rfl rfl rfl (by first|trivial|rfl) ?_)
    refine wp n rfl rfl rfl trivial ?_
    repeat' (first|fail)
    refine JQ [1,2,5,17,18,19,41,44,46] H6 ?_
    refine tz rfl rfl rfl ?_
    rw [hub,u64_or_nat _ _ hb1 hb2,←hbit]
    repeat' (first|refine Ji ?_|refine JF a5 H6 ?_|(apply aS;refine aR ?_)|(apply aK;first|refine JH 7 a5 0 JE ?_|refine JH 7 a5 1 JE ?_|refine JH 7 a5 2 JE ?_|refine JG a5 0 JD ?_|refine JG a5 1 JD ?_|refine JG a5 2 JD ?_|refine JG a5 3 JD ?_|fail))
    exact aC (n+1,q') rfl ⟨by rw [Jv];rfl,trivial⟩ hn2 (by dsimp only;omega) (fun _ _ h=>by dsimp only;rw [←hsn];exact h)
   ·rw [if_neg (by rw [h1];decide),Nat.or_zero] at hbit
    repeat' (first|refine Ji ?_|refine JF a5 H6 ?_|(apply aS;refine aR ?_)|fail)
    exact aC (n+1,q') rfl ⟨by rw [Jv];rfl,trivial⟩ hn2 (by dsimp only;omega) (fun _ _ h=>by dsimp only;rw [←hsn,hbit];exact h)
  ·have hn2:n=rs.length:=by have:=Jx h1;omega
   subst hn2
   rw [List.take_length]
   clear h1
   repeat' (first|refine Ji ?_|refine am ?_|refine JF a5 H6 ?_)
   refine aP [5,52,53] (α:=Nat) (fun k=>[(54,aF k)]) (fun k=>k≤cls.length) (fun k=>(rb,.box [.vec q 1 (jG (rs.map fun r=>(w r).1)),jq (ck (kf w rs) rs.length),.imm 1 (aX cls),aF (gA (cls.take k)),.vec none 2 []] 268)::tok q 45 1 rs.length) (fun k=>cls.length - k) 0 rfl ⟨rfl,trivial⟩ (Nat.zero_le _) (fun _ _ h=>h) fun k hk=>?_
   try dsimp only [Js,Jr,Jq,Jl]
   repeat' (first|refine Ji ?_|refine JF a5 H6 ?_)
   refine ar rfl (fun h1=>?_) (fun h1=>?_)
   ·have hk2:k < cls.length:=by have:=Jy h1;omega
    obtain ⟨z,hz⟩:∃z,cls[k]?=some z:=⟨_,Jz hk2⟩
    have hzg:=bP hz
    have hzb:=hcl z (Jw hz)
    have hmc:=wS hz
    clear h1
    repeat' (first|refine Ji ?_|refine am ?_|refine JF a5 H6 ?_|(apply bE;first|refine JI a5 0 JC ?_|refine JI a5 1 JC ?_|refine JI a5 2 JC ?_|refine JI a5 3 JC ?_|refine JJ a5 0 JC ?_|refine JJ a5 1 JC ?_|refine JJ a5 2 JC ?_|refine JK a5 1 JA (by assumption) rfl ?_|refine JK a5 0 JA (by assumption) rfl ?_|fail)|(apply aS;refine aR ?_)|(apply aO;first|refine aN a5 ?_|refine aG a5 ?_)|(apply aK;first|refine JH 7 a5 0 JE ?_|refine JH 7 a5 1 JE ?_|refine JH 7 a5 2 JE ?_|refine JG a5 0 JD ?_|refine JG a5 1 JD ?_|refine JG a5 2 JD ?_|refine JG a5 3 JD ?_|fail))
    exact aC (k+1) rfl ⟨by rw [Jv];rfl,trivial⟩ hk2 (by omega) (fun _ _ h=>by rw [hmc];exact h)
   ·have hk2:k=cls.length:=by have:=Jx h1;omega
    subst hk2
    rw [List.take_length]
    clear h1
    repeat' (first|refine Ji ?_|refine JF a5 H6 ?_)
    have hC:(gA cls)=(((gA cls).toNat:Nat):Int):=by have:=(qL (l:=cls) (m:=0)).1;unfold gA;omega
    refine bk (bD 0 (cs':=DX (r8 w rs cls) (.vec none 2 (zB (r8 w rs cls) 0))) rfl fun σ vs h=>mH.vrs (a:=[.vec q 1 (jG (rs.map fun r=>(w r).1)),jq (ck (kf w rs) rs.length),.imm 1 (aX cls),aF (gA cls),.vec none 2 []]) (b:=DX (r8 w rs cls) (.vec none 2 (zB (r8 w rs cls) 0))) ⟨fun σ v h=>VR.im h,cU.refl _,cU.refl _,by unfold r8;dsimp only;rw [←hC];exact cU.refl _,cU.refl _,trivial⟩ h) ?_
    refine dT (L':=f5 (r8 w rs cls) rb 0 none) (List.sublist_append_left [_] _) ?_
    exact JL H6 ⟨rb,rfl,rfl⟩
def oP (r:bc):List (List Int)×Bool:=(dJ r, !r.In.isEmpty)
def pT (r:bc):List (List Int)×Bool:=(r.Back,true)
structure AI (rs:List bc) (cls:List Int):Prop where
 few:rs.length≤6
 dom:∀z∈cls,0≤z∧z≤1000000
 len:cls.length≤1000000
 rows:∀r∈rs,r.In.length≤1000000∧r.Ahead.length≤1000000
theorem BV {rs:List bc} {cls:List Int} (h:AI rs cls):AC Tryz.prog 100 [.agg (wd rs cls)] [] fun c L=>∃rb,c=g8 rb∧L=f5 (r8 oP rs cls) rb 0 none:=by
 refine aM Tryz.func100 rfl Tryz.ntmps100 rfl fun B=>?_
 have hc:=q8 oP (.sc (.func (.func 184) #[] #[])) rs h.few (fun r hr=>jP.fn0 (f:=184) (by rw [List.append_nil];exact zk r (h.rows r hr).1 (h.rows r hr).2)) cls h.dom h.len
 repeat' (first|refine Ji ?_|refine JF a5 H6 ?_|refine bf ?_|fail)
 refine b8 [] [] hc rfl rfl (Jo _) rfl fun c L1 ⟨rb,hc1,hL⟩=>?_
 subst hc1;subst hL
 repeat' (first|refine Ji ?_|refine JF a5 H6 ?_)
 exact JL H6 ⟨rb,rfl,by rw [List.append_nil]⟩
theorem Bk {rs:List bc} {cls:List Int} (h:AI rs cls):AC Tryz.prog 101 [.agg (wd rs cls)] [] fun c L=>∃rb,c=g8 rb∧L=f5 (r8 pT rs cls) rb 0 none:=by
 refine aM Tryz.func101 rfl Tryz.ntmps101 rfl fun B=>?_
 have hc:=q8 pT (.sc (.func (.func 185) #[] #[])) rs h.few (fun r _=>jP.fn0 (f:=185) (by rw [List.append_nil];exact yO r)) cls h.dom h.len
 repeat' (first|refine Ji ?_|refine JF a5 H6 ?_|refine bf ?_|fail)
 refine b8 [] [] hc rfl rfl (Jo _) rfl fun c L1 ⟨rb,hc1,hL⟩=>?_
 subst hc1;subst hL
 repeat' (first|refine Ji ?_|refine JF a5 H6 ?_)
 exact JL H6 ⟨rb,rfl,by rw [List.append_nil]⟩
structure SS where
 M:List Pl
 q:Option (Nat×Nat)
 k:Nat
 qr:Option (Nat×Nat)
abbrev n2 (R:RD) (nb kb mb rb:Nat) (s:SS) (X:AL):AL:=(nb,.box [.sc (.map (some kb))] 129)::(kb,cX .string (tZ s.M))::(mb,.box [.vec s.q 2 (s.M.map mh)] 259)::ra R rb s.k s.qr::(tok s.q 261 2 s.M.length++(tok s.qr 330 2 s.k++X))
theorem th {R:RD} {nb kb mb rb:Nat} {s:SS} {X:AL}:(n2 R nb kb mb rb s X).Perm (tx nb kb mb s.M s.q++(ra R rb s.k s.qr::(tok s.qr 330 2 s.k++X))):=by
 unfold tx
 refine List.Perm.cons _ (List.Perm.cons _ (List.Perm.cons _ ?_))
 exact (List.perm_middle (l₁:=tok s.q 261 2 s.M.length)).symm
theorem n3 {R:RD} {nb kb mb rb:Nat} {s:SS} {X:AL}:(n2 R nb kb mb rb s X).Perm (f5 R rb s.k s.qr++((nb,.box [.sc (.map (some kb))] 129)::(kb,cX .string (tZ s.M))::(mb,.box [.vec s.q 2 (s.M.map mh)] 259)::(tok s.q 261 2 s.M.length++X))):=by
 have h1:(n2 R nb kb mb rb s X).Perm (ra R rb s.k s.qr::([(nb,.box [.sc (.map (some kb))] 129),(kb,cX .string (tZ s.M)),(mb,.box [.vec s.q 2 (s.M.map mh)] 259)]++(tok s.q 261 2 s.M.length++(tok s.qr 330 2 s.k++X)))):=List.perm_middle (l₁:=[_,_,_])
 refine h1.trans (List.Perm.cons _ ?_)
 rw [←List.append_assoc]
 refine (List.perm_append_comm_assoc _ (tok s.qr 330 2 s.k) X).trans ?_
 rw [List.append_assoc]
 exact Jo _
theorem uP {R:RD} {nb kb mb rb:Nat} {s:SS} {X:AL} {a:Nat×AB}:(a::n2 R nb kb mb rb s X).Perm (tx nb kb mb s.M s.q++(a::ra R rb s.k s.qr::(tok s.qr 330 2 s.k++X))):=(List.Perm.cons a th).trans List.perm_middle.symm
theorem uQ {R:RD} {nb kb mb rb:Nat} {s:SS} {X:AL} {a:Nat×AB}:(a::n2 R nb kb mb rb s X).Perm (f5 R rb s.k s.qr++(a::(nb,.box [.sc (.map (some kb))] 129)::(kb,cX .string (tZ s.M))::(mb,.box [.vec s.q 2 (s.M.map mh)] 259)::(tok s.q 261 2 s.M.length++X))):=(List.Perm.cons a n3).trans List.perm_middle.symm
theorem IE {a b c:Nat×AB} {X:AL}:(a::b::c::X).Perm (b::c::a::X):=(List.Perm.swap b a _).trans (.cons b (List.Perm.swap c a _))
theorem IH {A T1 T2 T R:AL}:(A++(T1++(T2++(T++R)))).Perm (T++(A++(T1++(T2++R)))):=by
 rw [←List.append_assoc T1,←List.append_assoc A,←List.append_assoc T1 T2 R,←List.append_assoc A (T1++T2) R]
 exact List.perm_append_comm_assoc ..
theorem II {A T1 T2 T3 T4:AL}:(A++(T1++(T2++(T3++T4)))).Perm (T4++(A++(T1++(T2++T3)))):=by
 rw [←List.append_assoc T2,←List.append_assoc T1,←List.append_assoc A]
 exact List.perm_append_comm
abbrev HF (R:RD) (nb kb mb rb:Nat) (s:SS):AL:=[(nb,.box [.sc (.map (some kb))] 129),(kb,cX .string (tZ s.M)),(mb,.box [.vec s.q 2 (s.M.map mh)] 259),ra R rb s.k s.qr]
theorem xW {R:RD} {nb kb mb rb:Nat} {s:SS} {T X:AL}:(n2 R nb kb mb rb s (T++X)).Perm (T++n2 R nb kb mb rb s X):=IH (A:=HF R nb kb mb rb s)
theorem xV {R:RD} {nb kb mb rb:Nat} {s:SS} {T X:AL}:(n2 R nb kb mb rb s (T++X)).Perm (X++n2 R nb kb mb rb s T):=II (A:=HF R nb kb mb rb s)
structure IR where
 s:SS
 tab:List (List Int)
 qt:Option (Nat×Nat)
 ends:List Nat
 qe:Option (Nat×Nat)
abbrev Jd (t:IR):AL:=tok t.qt 22 1 t.tab.length++tok t.qe 246 1 t.ends.length
theorem oX {M:List Pl} {n:Nat} {p:Pl} (h:M[n]?=some p):(M.map mh)[n]?=some (mh p):=by simp [h]
structure AJ (R:RD) (hv:Nat→Bool) (Lb:Nat):Prop where
 ok:AF R
 has:R.have_=ck hv R.rows.length
 long:∀r∈R.rows,r.length≤Lb
 few:Lb≤200
theorem AJ.small {R:RD} {hv:Nat→Bool} {Lb:Nat} (h:AJ R hv Lb) {M:List Pl} (hs:jp R.rows hv Lb M):(∀x∈M,kO x)∧M.length≤20000:=by
 have hf:=h.few
 have hr:=h.ok.few
 have h64:2 ^ R.rows.length≤64:=Nat.pow_le_pow_right (n:=2) (by omega) hr
 constructor
 ·intro x hx
  obtain ⟨h1,h2⟩:=hs.small x hx
  exact ⟨by omega,by omega⟩
 ·have:=hs.few
  have h3:(Lb+1) * 2 ^ R.rows.length≤201 * 64:=Nat.mul_le_mul (by omega) h64
  omega
set_option maxHeartbeats 16000000 in
theorem sQ (R:RD) (hv:Nat→Bool) (Lb:Nat) (h:AJ R hv Lb) (u:AV) (hu:jP Tryz.prog u [] [] fun c L=>∃rb,c=g8 rb∧L=f5 R rb 0 none):AC Tryz.prog 99 [u] [] fun c _=>∃tab ends,rR R.cls R.rows hv R.C tab ends∧c= .tup [.imm 1 (b9 tab),.imm 1 (gx ends),dV true]:=by
 refine aM Tryz.func99 rfl Tryz.ntmps99 rfl fun B=>?_
 repeat' (first|refine Ji ?_|refine JF a5 H6 ?_)
 refine ja [] [] hu rfl rfl (Jo _) rfl rfl fun c L1 ⟨rb,hc,hL⟩=>?_
 subst hc;subst hL
 repeat' (first|refine Ji ?_|refine JF a5 H6 ?_)
 refine fV .string fun kb=>?_
 repeat' (first|refine Ji ?_|refine JF a5 H6 ?_|(apply aK;first|refine JH 12 a5 0 JE ?_|refine JH 12 a5 1 JE ?_|refine JH 12 a5 2 JE ?_|refine JG a5 0 JD ?_|refine JG a5 1 JD ?_|refine JG a5 2 JD ?_|refine JG a5 3 JD ?_|fail)|refine bj a5 fun _=>?_|fail)
 rename_i nb mb
 have hok:=h.ok
 obtain ⟨hCm,hNm⟩:=hok.many
 refine aI (bD 0 (cs':=[.vec none 2 []]) rfl fun σ vs hh=>mH.vrs (a:=[.sc (.slice none 0 0)]) (b:=[.vec none 2 []]) ⟨fun σ v h=>cS 2 h,trivial⟩ hh) ?_
 refine aI (aQ (L':=n2 R nb kb mb rb ⟨[],none,0,none⟩ []) (by unfold n2;rw [Fa];exact IE)) ?_
 refine b8 (f5 R rb 0 none) _ (zU R rb 0 none (by omega)) rfl rfl n3 rfl fun c L1 ⟨hc,k0,qr0,hk0,hL⟩=>?_
 subst hc;subst hL
 refine aI (aQ (L':=n2 R nb kb mb rb ⟨[],none,k0,qr0⟩ []) (n3 (s:=⟨[],none,k0,qr0⟩)).symm) ?_
 have hst0:jp R.rows hv Lb [((0,R.have_):Pl)]:=by
  have:=jp.start (rows:=R.rows) (have_:=hv) (L:=Lb)
  unfold mn at this
  rwa [←h.has] at this
 have hsm0:=(h.small hst0).1 (0,R.have_) (by simp)
 have hme0:=y7 nb kb mb [] (fun x hx=>by cases hx) (by simp) none (0,R.have_) hsm0
 repeat' (first|fail)
 refine ja (tx nb kb mb [] none) _ (jP.fn (f:=178) (caps:=[g8 nb,g8 mb]) hme0) rfl rfl th rfl rfl fun c L1 ⟨hc,q0,hL⟩=>?_
 subst hc;subst hL
 refine aI (aQ (L':=n2 R nb kb mb rb ⟨[(0,R.have_)],q0,k0,qr0⟩ []) (th (s:=⟨[(0,R.have_)],q0,k0,qr0⟩)).symm) ?_
 repeat' (first|refine Ji ?_|refine am ?_|refine JF a5 H6 ?_)
 refine c5 (bQ (t:=2) (c':= .vec none 1 (b9 [])) rfl fun σ v h=>cS 1 h) ?_
 refine c5 (bQ (t:=3) (c':= .vec none 1 (gx [])) rfl fun σ v h=>cS 1 h) ?_
 refine aP [5,7,8] (α:=IR) (fun t=>[(9,aF t.tab.length),(2,.vec t.qt 1 (b9 t.tab)),(3,.vec t.qe 1 (gx t.ends))]) (fun t=>jp R.rows hv Lb t.s.M∧gC R.cls R.rows R.C t.s.M t.tab t.ends∧t.tab.length≤t.s.M.length∧t.s.k≤1000001) (fun t=>n2 R nb kb mb rb t.s (Jd t)) (fun t=>20000 - t.tab.length) ⟨⟨[(0,R.have_)],q0,k0,qr0⟩,[],none,[],none⟩ rfl ⟨rfl,rfl,rfl,trivial⟩ ⟨hst0,gC.nil,Nat.zero_le _,hk0⟩ (fun _ _ hh=>hh) ?_
 rintro ⟨⟨M,q,k,qr⟩,tab,qt,ends,qe⟩ ⟨hst,htb,htl,hk⟩
 dsimp only at hst htb htl hk ⊢
 try dsimp only [Js,Jr,Jq,Jl]
 have hml:(M.map mh).length=M.length:=Ju ..
 obtain ⟨hsm,hM2⟩:=h.small hst
 repeat' (first|refine Ji ?_|refine JF a5 H6 ?_|(apply bE;first|refine JI a5 0 JC ?_|refine JI a5 1 JC ?_|refine JI a5 2 JC ?_|refine JI a5 3 JC ?_|refine JJ a5 0 JC ?_|refine JJ a5 1 JC ?_|refine JJ a5 2 JC ?_|refine JK a5 1 JA (by assumption) rfl ?_|refine JK a5 0 JA (by assumption) rfl ?_|fail)|fail)
 refine ar rfl (fun h1=>?_) (fun h1=>?_)
 ·have hn2:tab.length < M.length:=by have h1':(tab.length:Int) < ((M.map mh).length:Int):=Jy h1;omega
  obtain ⟨p,hp⟩:∃p,M[tab.length]?=some p:=⟨_,Jz hn2⟩
  clear h1
  repeat' (first|refine Ji ?_|refine am ?_|refine JF a5 H6 ?_|(apply bE;first|refine JI a5 0 JC ?_|refine JI a5 1 JC ?_|refine JI a5 2 JC ?_|refine JI a5 3 JC ?_|refine JJ a5 0 JC ?_|refine JJ a5 1 JC ?_|refine JJ a5 2 JC ?_|refine JK a5 1 JA (by assumption) rfl ?_|refine JK a5 0 JA (by assumption) rfl ?_|fail)|fail)
  refine lm a5 R.C rfl rfl rfl rfl rfl rfl rfl (by omega) (by omega) rfl fun rwb=>?_
  rw [show (List.replicate R.C (List.map AV.sc [Value.int .i64 0])).flatten=dB (List.replicate R.C 0) from oL R.C]
  repeat' (first|refine Ji ?_|refine am ?_|refine JF a5 H6 ?_)
  refine aP [2,3,5,7,8,9,10,33] (α:=Nat×SS×List Int) (fun t=>[(34,aF t.1)]) (fun t=>t.1≤R.C∧jp R.rows hv Lb t.2.1.M∧gC R.cls R.rows R.C t.2.1.M tab ends∧t.2.1.M[tab.length]?=some p∧t.2.2.length=R.C∧t.2.1.k≤1000001∧∀(c:Nat) z,c < t.1→t.2.2[c]?=some z→jd R.cls R.rows t.2.1.M p c z) (fun t=>(rwb,.box (dB t.2.2) 3)::n2 R nb kb mb rb t.2.1 (tok qt 22 1 tab.length++tok qe 246 1 ends.length)) (fun t=>R.C - t.1) (0,⟨M,q,k,qr⟩,List.replicate R.C 0) rfl ⟨rfl,trivial⟩ ⟨Nat.zero_le _,hst,htb,hp,by simp,hk,fun c z hc=>by omega⟩ (fun _ _ hh=>hh) ?_
  ·rintro ⟨c,⟨M1,q1,k1,qr1⟩,eQ⟩ ⟨hc,hst1,htb1,hp1,hrl,hk1,hce⟩
   dsimp only at hc hst1 htb1 hp1 hrl hk1 hce ⊢
   try dsimp only [Js,Jr,Jq,Jl]
   have hcl:=iA eQ
   obtain ⟨hsm1,hM1⟩:=h.small hst1
   repeat' (first|refine Ji ?_|refine JF a5 H6 ?_)
   refine ar rfl (fun h1=>?_) (fun h1=>?_)
   ·have hc2:c < R.C:=by have:=Jy h1;omega
    have hpg:=oX hp1
    have hps:=hst1.small p (Jw hp1)
    have hps2:=hsm1 p (Jw hp1)
    have hbe:=yP R hok rb k1 qr1 hk1 p (by have:=hps2.1;omega) (by have:=hps2.2;omega) c hc2
    have hst':=iB (l:=eQ) (i:=c) (z:= -1)
    clear h1
    repeat' (first|refine Ji ?_|refine am ?_|refine JF a5 H6 ?_|(apply aO;first|refine aN a5 ?_|refine aG a5 ?_)|fail)
    refine aa a5 0 rfl rfl rfl rfl rfl rfl (Nat.ble_eq_true_of_le (by rw [hcl,hrl,Int.toNat_natCast];show 0+c * 1+1≤_;omega)) ?_
    rw [hst']
    refine a7 ?_
    refine a6 ?_
    refine c5 (aQ (L':=(rwb,.box (dB (eQ.set c (-1))) 3)::n2 R nb kb mb rb ⟨M1,q1,k1,qr1⟩ (tok qt 22 1 tab.length++tok qe 246 1 ends.length)) (Jo _)) ?_
    repeat' (first|refine Ji ?_|refine JF a5 H6 ?_|(apply bE;first|refine JI a5 0 JC ?_|refine JI a5 1 JC ?_|refine JI a5 2 JC ?_|refine JI a5 3 JC ?_|refine JJ a5 0 JC ?_|refine JJ a5 1 JC ?_|refine JJ a5 2 JC ?_|refine JK a5 1 JA (by assumption) rfl ?_|refine JK a5 0 JA (by assumption) rfl ?_|fail)|(apply aO;first|refine aN a5 ?_|refine aG a5 ?_)|fail)
    refine b8 (f5 R rb k1 qr1) _ hbe rfl rfl uQ rfl fun c1 L1 ⟨hc1,k2,qr2,hk2,hL⟩=>?_
    subst hc1;subst hL
    refine aI (aQ (L':=(rwb,.box (dB (eQ.set c (-1))) 3)::n2 R nb kb mb rb ⟨M1,q1,k2,qr2⟩ (tok qt 22 1 tab.length++tok qe 246 1 ends.length)) (uQ (s:=⟨M1,q1,k2,qr2⟩)).symm) ?_
    have hrs:(eQ.set c (-1)).length=R.C:=by rw [List.length_set];exact hrl
    have hrs2:=iA (eQ.set c (-1))
    repeat' (first|refine Ji ?_|refine JF a5 H6 ?_|(apply aK;first|refine JH 12 a5 0 JE ?_|refine JH 12 a5 1 JE ?_|refine JH 12 a5 2 JE ?_|refine JG a5 0 JD ?_|refine JG a5 1 JD ?_|refine JG a5 2 JD ?_|refine JG a5 3 JD ?_|fail)|refine bj a5 fun _=>?_|fail)
    refine ar rfl (fun h1=>?_) (fun h1=>?_)
    ·have hne:(cf R.cls R.rows p c).2≠0:=by
      intro e
      have h1':((cf R.cls R.rows p c).2:Int)≠0:=Jy h1
      rw [e] at h1'
      exact h1' rfl
     have hst2:=hst1.meet h.long hne
     have hsm2:=(h.small hst2).1
     have hme:=y7 nb kb mb M1 hsm1 (by omega) q1 (cf R.cls R.rows p c) (hsm2 _ (lx _ _))
     have hput:=iB (l:=eQ.set c (-1)) (i:=c) (z:=((ec M1 (cf R.cls R.rows p c)).idxOf (cf R.cls R.rows p c):Nat))
     have hcn:=jd.new (M:=M1) hne
     have htm:=htb1.more (by have:=(Jp hp1).1;omega) (cf R.cls R.rows p c)
     have hpm:=nC (cf R.cls R.rows p c) hp1
     have hcm:∀(c':Nat) z,c' < c→eQ[c']?=some z→jd R.cls R.rows (ec M1 (cf R.cls R.rows p c)) p c' z:=fun c' z h1 h2=>(hce c' z h1 h2).more
     clear h1
     repeat' (first|refine Ji ?_|refine JF a5 H6 ?_)
     refine ja (tx nb kb mb M1 q1) _ (jP.fn (f:=178) (caps:=[g8 nb,g8 mb]) hme) rfl rfl uP rfl rfl fun c2 L2 ⟨hc2',q2,hL⟩=>?_
     subst hc2';subst hL
     refine aI (aQ (L':=(rwb,.box (dB (eQ.set c (-1))) 3)::n2 R nb kb mb rb ⟨ec M1 (cf R.cls R.rows p c),q2,k2,qr2⟩ (tok qt 22 1 tab.length++tok qe 246 1 ends.length)) (uP (s:=⟨ec M1 (cf R.cls R.rows p c),q2,k2,qr2⟩)).symm) ?_
     repeat' (first|(apply aO;first|refine aN a5 ?_|refine aG a5 ?_)|fail)
     refine aa a5 0 rfl rfl rfl rfl rfl rfl (Nat.ble_eq_true_of_le (by rw [hrs2,hrs,Int.toNat_natCast];show 0+c * 1+1≤_;omega)) ?_
     rw [hput]
     repeat' (first|refine Ji ?_|refine JF a5 H6 ?_|(apply aS;refine aR ?_)|fail)
     refine aC (c+1,⟨ec M1 (cf R.cls R.rows p c),q2,k2,qr2⟩,(eQ.set c (-1)).set c ((ec M1 (cf R.cls R.rows p c)).idxOf (cf R.cls R.rows p c):Nat)) rfl ⟨by rw [Jv];rfl,trivial⟩ ⟨hc2,hst2,htm,hpm,by rw [List.length_set];exact hrs,hk2,fun c' z h1 h2=>?_⟩ (by dsimp only;omega) (fun _ _ hh=>hh)
     by_cases he:c'=c
     ·subst he
      rw [List.getElem?_set_self (by omega)] at h2
      cases h2
      exact hcn
     ·rw [List.getElem?_set_ne (fun e=>he e.symm),List.getElem?_set_ne (fun e=>he e.symm)] at h2
      exact hcm c' z (by dsimp only at h1;omega) h2
    ·have he0:(cf R.cls R.rows p c).2=0:=by
      have h1':¬((cf R.cls R.rows p c).2:Int)≠0:=Jx h1
      omega
     clear h1
     repeat' (first|refine Ji ?_|refine JF a5 H6 ?_|(apply aS;refine aR ?_)|fail)
     refine aC (c+1,⟨M1,q1,k2,qr2⟩,eQ.set c (-1)) rfl ⟨by rw [Jv];rfl,trivial⟩ ⟨hc2,hst1,htb1,hp1,hrs,hk2,fun c' z h1 h2=>?_⟩ (by dsimp only;omega) (fun _ _ hh=>hh)
     by_cases he:c'=c
     ·subst he
      rw [List.getElem?_set_self (by omega)] at h2
      cases h2
      exact .inl ⟨he0,rfl⟩
     ·rw [List.getElem?_set_ne (fun e=>he e.symm)] at h2
      exact hce c' z (by dsimp only at h1;omega) h2
   ·have hc2:c=R.C:=by have:=Jx h1;omega
    subst hc2
    have hn3:tab.length < M1.length:=(Jp hp1).1
    have hpg:=oX hp1
    have hps2:=hsm1 p (Jw hp1)
    have hml1:(M1.map mh).length=M1.length:=Ju ..
    have hen:=Ep R hok rb k1 qr1 hk1 p (by have:=hps2.1;omega) (by have:=hps2.2;omega)
    have htl3:=cq tab
    have hul3:=nI ends
    have hsn:=htb1.snoc hp1 hrl fun c' z h2=>hce c' z (by have:=(Jp h2).1;omega) h2
    have hel:=htb1.len
    clear h1
    repeat' (first|refine Ji ?_|refine JF a5 H6 ?_|(apply bE;first|refine JI a5 0 JC ?_|refine JI a5 1 JC ?_|refine JI a5 2 JC ?_|refine JI a5 3 JC ?_|refine JJ a5 0 JC ?_|refine JJ a5 1 JC ?_|refine JJ a5 2 JC ?_|refine JK a5 1 JA (by assumption) rfl ?_|refine JK a5 0 JA (by assumption) rfl ?_|fail)|fail)
    refine ar rfl (fun h1=>?_) (fun h1=>?_)
    ·have h1':(20000:Int) < ((M1.map mh).length:Int):=Jy h1
     omega
    clear h1
    refine c5 (lz (t:=10) (sz:=1) (n:=R.C) (cap:=R.C) (l:=aX eQ) 0 rfl rfl (by rw [←oK,Nat.mul_one,List.take_of_length_le (by omega)]) (by omega) (fun e he=>by unfold aX at he;obtain ⟨y,_,rfl⟩:=List.mem_map.1 he;rfl) (by rw [aZ];exact hrl) (Nat.le_refl _) (by unfold maxLen;omega)) ?_
    repeat' (first|refine Ji ?_|refine JF a5 H6 ?_|refine bM a5 ?_|fail)
    refine bK a5 (n2 R nb kb mb rb ⟨M1,q1,k1,qr1⟩ (tok qe 246 1 ends.length)) rfl rfl rfl rfl (by rw [htl3];exact xW) (by rw [htl3];simp;omega) (by rw [htl3];simp;omega) rfl fun qt'=>?_
    have hrsn:b9 tab++[[AV.imm 1 (aX eQ)]]=b9 (tab++[eQ]):=by simp [b9]
    refine aI (aQ (L':=n2 R nb kb mb rb ⟨M1,q1,k1,qr1⟩ (tok qt' 22 1 (b9 tab++[[AV.imm 1 (aX eQ)]]).length++tok qe 246 1 ends.length)) xW.symm) ?_
    repeat' (first|refine Ji ?_|refine JF a5 H6 ?_|(apply bE;first|refine JI a5 0 JC ?_|refine JI a5 1 JC ?_|refine JI a5 2 JC ?_|refine JI a5 3 JC ?_|refine JJ a5 0 JC ?_|refine JJ a5 1 JC ?_|refine JJ a5 2 JC ?_|refine JK a5 1 JA (by assumption) rfl ?_|refine JK a5 0 JA (by assumption) rfl ?_|fail)|(apply aO;first|refine aN a5 ?_|refine aG a5 ?_)|fail)
    refine b8 (f5 R rb k1 qr1) _ hen rfl rfl n3 rfl fun c1 L1 ⟨hc1,k2,qr2,hk2,hL⟩=>?_
    subst hc1;subst hL
    refine aI (aQ (L':=n2 R nb kb mb rb ⟨M1,q1,k2,qr2⟩ (tok qt' 22 1 (b9 tab++[[AV.imm 1 (aX eQ)]]).length++tok qe 246 1 ends.length)) (n3 (s:=⟨M1,q1,k2,qr2⟩)).symm) ?_
    repeat' (first|refine bM a5 ?_|fail)
    refine bK a5 (n2 R nb kb mb rb ⟨M1,q1,k2,qr2⟩ (tok qt' 22 1 (b9 tab++[[AV.imm 1 (aX eQ)]]).length)) rfl rfl rfl rfl (by rw [hul3];exact xV) (by rw [hul3];simp;omega) (by rw [hul3];simp;omega) rfl fun qe'=>?_
    have husn:gx ends++[[jq (jt R.rows p)]]=gx (ends++[jt R.rows p]):=by simp [gx]
    refine aI (aQ (L':=n2 R nb kb mb rb ⟨M1,q1,k2,qr2⟩ (tok qt' 22 1 (b9 tab++[[AV.imm 1 (aX eQ)]]).length++tok qe' 246 1 (gx ends++[[jq (jt R.rows p)]]).length)) xV.symm) ?_
    repeat' (first|refine Ji ?_|refine JF a5 H6 ?_|(apply aS;refine aR ?_)|fail)
    have hll:(tab++[eQ]).length=tab.length+1:=by simp
    refine aC ⟨⟨M1,q1,k2,qr2⟩,tab++[eQ],qt',ends++[jt R.rows p],qe'⟩ rfl ⟨?_,by dsimp only;rw [←hrsn];rfl,by dsimp only;rw [←husn];rfl,trivial⟩ ⟨hst1,hsn,by dsimp only;omega,hk2⟩ (by dsimp only;omega) (fun _ _ hh=>?_)
    ·dsimp only
     rw [hll,Jv]
     rfl
    ·dsimp only
     rw [hrsn,husn,cq,nI] at hh
     exact hh
 ·have hn2:tab.length=M.length:=by
   have h1':¬(tab.length:Int) < ((M.map mh).length:Int):=Jx h1
   omega
  clear h1
  repeat' (first|refine Ji ?_|refine JF a5 H6 ?_)
  refine bk (bQ (t:=2) (c':= .imm 1 (b9 tab)) rfl fun σ v h=>VR.im h) ?_
  refine bk (bQ (t:=3) (c':= .imm 1 (gx ends)) rfl fun σ v h=>VR.im h) ?_
  exact ij (cs:=[.imm 1 (b9 tab),.imm 1 (gx ends),dV true]) [] ⟨rfl,rfl,rfl,trivial⟩ (List.nil_sublist _) ⟨tab,ends,htb.done hst hn2,rfl⟩
structure u4 (N:Nat) (r:bc):Prop where
 back:∀s∈r.Back,ky s∧∀g∈s,0≤g∧g < (N:Int)
 in_:∀s∈r.In,ky s∧∀g∈s,0≤g∧g < (N:Int)
 ahead:∀s∈r.Ahead,ky s∧∀g∈s,0≤g∧g < (N:Int)
 long:r.Back.length≤200∧r.In.length+r.Ahead.length≤200
structure xr (N:Nat) (l:aL):Prop where
 few:l.Rules.length≤6
 rule:∀r∈l.Rules,u4 N r
def ee (rs:List bc):List (List Int):=rs.flatMap fun r=>r.Back++r.In++r.Ahead
theorem yF {rs:List bc} {k:Nat} {r:bc} (h:rs[k]?=some r):ee (rs.take (k+1))=ee (rs.take k)++r.Back++r.In++r.Ahead:=by
 unfold ee
 rw [List.take_add_one,h]
 simp
theorem pM {N:Nat}:∀{rs:List bc},(∀r∈rs,u4 N r)→(ee rs).length≤400 * rs.length
 | [],_=>by simp [ee]
 | r::rs,h=>by
  have ih:=pM (rs:=rs) fun x hx=>h x (by simp [hx])
  have hr:=(h r (by simp)).long
  unfold ee at ih ⊢
  rw [List.flatMap_cons,List.length_append,List.length_append,List.length_append,List.length_cons]
  omega
theorem t2 {N:Nat} {rs:List bc} (h:∀r∈rs,u4 N r):∀s∈ee rs,ky s∧∀g∈s,0≤g∧g < (N:Int):=by
 intro s hs
 unfold ee at hs
 obtain ⟨r,hr,hs⟩:=List.mem_flatMap.1 hs
 rw [List.mem_append,List.mem_append] at hs
 rcases hs with (hs | hs) | hs
 ·exact (h r hr).back s hs
 ·exact (h r hr).in_ s hs
 ·exact (h r hr).ahead s hs
structure kM where
 cls:List Int
 fore:List (List Int)
 back:List (List Int)
 foreE:List Nat
 backE:List Nat
def Is (a:kM):List AV:=[.imm 1 (aX a.cls),.imm 1 (b9 a.fore),.imm 1 (b9 a.back),.imm 1 (gx a.foreE),.imm 1 (gx a.backE)]
structure xt (N:Nat) (rs:List bc) (a:kM):Prop where
 cls:u5 N (gA a.cls).toNat a.cls (ee rs)
 fore:rR a.cls (rs.map fun r=>(oP r).1) (kf oP rs) (gA a.cls).toNat a.fore a.foreE
 back:rR a.cls (rs.map fun r=>(pT r).1) (kf pT rs) (gA a.cls).toNat a.back a.backE
theorem l6 (r:bc):(dJ r).length≤r.In.length+r.Ahead.length:=by
 unfold dJ
 split
 ·simp
 ·rw [List.length_append];omega
theorem l7 {r:bc} {s:List Int} (h:s∈dJ r):s∈r.In∨s∈r.Ahead:=by
 unfold dJ at h
 split at h
 ·cases h
 ·exact Jn h
section
variable {N:Nat} {l:aL} (h:xr N l) (hN0:0 < N) (hN:N≤65536)
include h
theorem nl:∀s∈ee l.Rules,(∀g∈s,0≤g∧g < (N:Int))∧s.Nodup:=fun s hs=>⟨(t2 h.rule s hs).2,gX (t2 h.rule s hs).1⟩
include hN
theorem r3:(∀z∈dS N (ee l.Rules),0≤z∧z≤1000000)∧(dS N (ee l.Rules)).length=N∧(gA (dS N (ee l.Rules))).toNat≤1000000∧∀z∈dS N (ee l.Rules),0≤z∧z < ((gA (dS N (ee l.Rules))).toNat:Int):=by
 have h1:=sE N _ (nl h)
 refine ⟨fun z hz=>by have:=h1 z hz;omega,sF N _ (nl h),?_,(vk N _ (nl h)).dom⟩
 have:gA (dS N (ee l.Rules))≤(N:Int):=sx (by omega) fun z hz=>(h1 z hz).2
 omega
theorem H2:AI l.Rules (dS N (ee l.Rules)):=by
 obtain ⟨h1,h2,_,_⟩:=r3 h hN
 exact ⟨h.few,h1,by omega,fun r hr=>by have:=(h.rule r hr).long;omega⟩
theorem Ew:AJ (r8 oP l.Rules (dS N (ee l.Rules))) (kf oP l.Rules) 200:=by
 obtain ⟨h1,h2,h3,h4⟩:=r3 h hN
 refine ⟨⟨by show (l.Rules.map _).length≤6;rw [Ju];exact h.few,h4,fun eQ hrow s hs=>?_,fun eQ hrow=>?_,h3,by show (dS N (ee l.Rules)).length≤_;omega⟩,by show ck _ _=ck _ (l.Rules.map _).length;rw [Ju],fun eQ hrow=>?_,Nat.le_refl _⟩
 ·obtain ⟨r,hr,rfl⟩:=List.mem_map.1 hrow
  have hb:=h.rule r hr
  have hsr:ky s∧∀g∈s,0≤g∧g < (N:Int):=by
   rcases l7 hs with hs | hs
   ·exact hb.in_ s hs
   ·exact hb.ahead s hs
  refine ⟨fun g hg=>?_,?_⟩
  ·show 0≤g∧g < ((dS N (ee l.Rules)).length:Int)
   rw [h2]
   exact hsr.2 g hg
  ·have:=fD (gX hsr.1) hsr.2
   omega
 ·obtain ⟨r,hr,rfl⟩:=List.mem_map.1 hrow
  have:=l6 r
  have:=(h.rule r hr).long
  show (dJ r).length≤_
  omega
 ·obtain ⟨r,hr,rfl⟩:=List.mem_map.1 hrow
  have:=l6 r
  have:=(h.rule r hr).long
  show (dJ r).length≤_
  omega
theorem DW:AJ (r8 pT l.Rules (dS N (ee l.Rules))) (kf pT l.Rules) 200:=by
 obtain ⟨h1,h2,h3,h4⟩:=r3 h hN
 refine ⟨⟨by show (l.Rules.map _).length≤6;rw [Ju];exact h.few,h4,fun eQ hrow s hs=>?_,fun eQ hrow=>?_,h3,by show (dS N (ee l.Rules)).length≤_;omega⟩,by show ck _ _=ck _ (l.Rules.map _).length;rw [Ju],fun eQ hrow=>?_,Nat.le_refl _⟩
 ·obtain ⟨r,hr,rfl⟩:=List.mem_map.1 hrow
  have hsr:=(h.rule r hr).back s hs
  refine ⟨fun g hg=>?_,?_⟩
  ·show 0≤g∧g < ((dS N (ee l.Rules)).length:Int)
   rw [h2]
   exact hsr.2 g hg
  ·have:=fD (gX hsr.1) hsr.2
   omega
 ·obtain ⟨r,hr,rfl⟩:=List.mem_map.1 hrow
  have:=(h.rule r hr).long
  show r.Back.length≤_
  omega
 ·obtain ⟨r,hr,rfl⟩:=List.mem_map.1 hrow
  have:=(h.rule r hr).long
  show r.Back.length≤_
  omega
end
set_option maxHeartbeats 8000000 in
theorem Bo (f:b6) (n:Nat) (l:aL) (hl:f.Lookups[n]?=some l) (h:xr f.Glyphs.length l) (hN0:0 < f.Glyphs.length) (hN:f.Glyphs.length≤65536):AC Tryz.prog 35 [bZ f,aF n] [] fun c _=>∃a,xt f.Glyphs.length l.Rules a∧c= .tup [.agg (Is a),aF 0]:=by
 refine aM Tryz.func35 rfl Tryz.ntmps35 rfl fun B=>?_
 have hgl:(f.Glyphs.map bO).length=f.Glyphs.length:=Ju ..
 have hll:(f.Lookups.map bh).length=f.Lookups.length:=Ju ..
 have hrl:(l.Rules.map bB).length=l.Rules.length:=Ju ..
 have hnl:=(Jp hl).1
 have hlg:(f.Lookups.map bh)[n]?=some (bh l):=by simp [hl]
 have hfew:=h.few
 repeat' (first|refine Ji ?_|refine JF a5 H6 ?_|refine JN H6 ?_|refine bf ?_|refine bj a5 fun _=>?_|fail)
 refine bX [1,2,4] False rfl (fun Q' K=>?_) (fun hC=>hC.elim) (fun _=>?_)
 ·repeat' (first|refine Ji ?_|refine JF a5 H6 ?_|refine JN H6 ?_|refine JO JB ?_|refine JR JA (fun _=>?_) (fun _=>?_))
  all_goals exact K _ _ rfl rfl (by simp_all <;> omega)
 repeat' (first|refine Ji ?_|refine JF a5 H6 ?_|(apply aO;first|refine aN a5 ?_|refine aG a5 ?_)|fail)
 rename_i r4 _
 have hpd:=rK f.Glyphs.length hN0 hN (ee l.Rules) (t2 h.rule) (by have:=pM h.rule;omega)
 have hcls:=vk f.Glyphs.length (ee l.Rules) (nl h)
 have hso:=H2 h hN
 have hsf:=sQ _ _ _ (Ew h hN) (.fnB 100 [.agg (wd l.Rules (dS f.Glyphs.length (ee l.Rules)))] []) (jP.fnB (f:=100) (fs:=[.agg (wd l.Rules (dS f.Glyphs.length (ee l.Rules)))]) (caps:=[]) (BV hso))
 have hsb:=sQ _ _ _ (DW h hN) (.fnB 101 [.agg (wd l.Rules (dS f.Glyphs.length (ee l.Rules)))] []) (jP.fnB (f:=101) (fs:=[.agg (wd l.Rules (dS f.Glyphs.length (ee l.Rules)))]) (caps:=[]) (Bk hso))
 refine ar rfl (fun h1=>?_) (fun h1=>?_)
 ·have:=Jy h1
  omega
 clear h1
 repeat' (first|refine Ji ?_|refine am ?_|refine JF a5 H6 ?_)
 refine c5 (bQ (t:=7) (c':= .vec none 1 (b9 [])) rfl fun σ v h=>cS 1 h) ?_
 refine aP [2,4,6,49,50] (α:=Nat×Option (Nat×Nat)) (fun s=>[(51,aF s.1),(7,.vec s.2 1 (b9 (ee (l.Rules.take s.1))))]) (fun s=>s.1≤l.Rules.length) (fun s=>(r4,.box [.sc (.slice none 0 0),.sc (.slice none 0 0),.sc (.slice none 0 0),.sc (.slice none 0 0),.sc (.slice none 0 0)] 62)::tok s.2 22 1 (ee (l.Rules.take s.1)).length) (fun s=>l.Rules.length - s.1) (0,none) rfl ⟨rfl,rfl,trivial⟩ (Nat.zero_le _) (fun _ _ hh=>hh) ?_
 ·rintro ⟨k,q⟩ hk
  dsimp only at hk ⊢
  try dsimp only [Js,Jr,Jq,Jl]
  repeat' (first|refine Ji ?_|refine JF a5 H6 ?_)
  refine ar rfl (fun h1=>?_) (fun h1=>?_)
  ·have hk2:k < l.Rules.length:=by have:=Jy h1;omega
   obtain ⟨r,hr⟩:∃z,l.Rules[k]?=some z:=⟨_,Jz hk2⟩
   have hrg:(l.Rules.map bB)[k]?=some (bB r):=by simp [hr]
   have hlong:=(h.rule r (Jw hr)).long
   have hal:=yF hr
   have hlen:(ee (l.Rules.take k)).length≤2400:=by
    have:=pM (N:=f.Glyphs.length) (rs:=l.Rules.take k) fun x hx=>h.rule x (List.mem_of_mem_take hx)
    rw [List.length_take] at this
    omega
   have hri:b9 (ee (l.Rules.take (k+1)))=b9 (ee (l.Rules.take k))++b9 r.Back++b9 r.In++b9 r.Ahead:=by rw [hal];simp [b9]
   have hrl0:=cq (ee (l.Rules.take k))
   have hrl1:=cq r.Back
   have hrl2:=cq r.In
   have hrl3:=cq r.Ahead
   have hln:(ee (l.Rules.take (k+1))).length=(ee (l.Rules.take k)).length+r.Back.length+r.In.length+r.Ahead.length:=by rw [hal,List.length_append,List.length_append,List.length_append]
   generalize b9 (ee (l.Rules.take k))=A0 at *
   generalize (ee (l.Rules.take k)).length=n0 at *
   clear h1
   repeat' (first|refine Ji ?_|refine am ?_|refine JF a5 H6 ?_|(apply aO;first|refine aN a5 ?_|refine aG a5 ?_)|(apply aK;first|refine JH 9 a5 0 JE ?_|refine JH 9 a5 1 JE ?_|refine JH 9 a5 2 JE ?_|refine JH 10 a5 0 JE ?_|refine JH 10 a5 1 JE ?_|refine JH 10 a5 2 JE ?_|refine JG a5 0 JD ?_|refine JG a5 1 JD ?_|refine JG a5 2 JD ?_|refine JG a5 3 JD ?_|fail)|refine bj a5 fun _=>?_|fail)
   refine bK a5 [(r4,.box [.sc (.slice none 0 0),.sc (.slice none 0 0),.sc (.slice none 0 0),.sc (.slice none 0 0),.sc (.slice none 0 0)] 62)] rfl rfl rfl rfl (by rw [hrl0];exact List.perm_append_comm (l₁:=[_])) (by omega) (by omega) rfl fun q1=>?_
   repeat' (first|refine Ji ?_|refine JF a5 H6 ?_)
   refine bK a5 [(r4,.box [.sc (.slice none 0 0),.sc (.slice none 0 0),.sc (.slice none 0 0),.sc (.slice none 0 0),.sc (.slice none 0 0)] 62)] rfl rfl rfl rfl (Jo _) (by rw [List.length_append];omega) (by rw [List.length_append];omega) rfl fun q2=>?_
   repeat' (first|refine Ji ?_|refine JF a5 H6 ?_)
   refine bK a5 [(r4,.box [.sc (.slice none 0 0),.sc (.slice none 0 0),.sc (.slice none 0 0),.sc (.slice none 0 0),.sc (.slice none 0 0)] 62)] rfl rfl rfl rfl (Jo _) (by rw [List.length_append,List.length_append];omega) (by rw [List.length_append,List.length_append];omega) rfl fun q3=>?_
   repeat' (first|refine Ji ?_|refine JF a5 H6 ?_|(apply aS;refine aR ?_)|fail)
   refine aC (k+1,q3) rfl ⟨by rw [Jv];rfl,by dsimp only;rw [hri];rfl,trivial⟩ hk2 (by dsimp only;omega) (fun σ w hh=>?_)
   have h2:=hh.perm (List.perm_append_comm (l₂:=[_]))
   have h3:(A0++b9 r.Back++b9 r.In++b9 r.Ahead).length=(ee (l.Rules.take (k+1))).length:=by rw [hln,List.length_append,List.length_append,List.length_append];omega
   rw [h3] at h2
   exact h2
  ·have hk2:k=l.Rules.length:=by have:=Jx h1;omega
   subst hk2
   rw [List.take_length]
   haveI:AD Tryz.prog 98 [aF ((f.Glyphs.map bO).length:Nat),.imm 1 (b9 (ee l.Rules))] (.imm 1 (aX (dS f.Glyphs.length (ee l.Rules)))):=⟨by rw [hgl];exact hpd⟩
   clear h1
   repeat' (first|refine Ji ?_|refine JF a5 H6 ?_|(apply aK;first|refine JH 9 a5 0 JE ?_|refine JH 9 a5 1 JE ?_|refine JH 9 a5 2 JE ?_|refine JH 10 a5 0 JE ?_|refine JH 10 a5 1 JE ?_|refine JH 10 a5 2 JE ?_|refine JG a5 0 JD ?_|refine JG a5 1 JD ?_|refine JG a5 2 JD ?_|refine JG a5 3 JD ?_|fail)|refine bj a5 fun _=>?_|(apply bz;refine bo ?_)|fail)
   refine b8 [] _ hsf rfl rfl (Jo _) rfl fun c1 L1 ⟨ft,fe,hf1,hc1⟩=>?_
   subst hc1
   refine aI (bH (List.sublist_append_right ..)) ?_
   repeat' (first|refine Ji ?_|refine JF a5 H6 ?_|refine bA rfl ?_)
   refine b8 [] _ hsb rfl rfl (Jo _) rfl fun c1 L1 ⟨bt,be,hb1,hc1⟩=>?_
   subst hc1
   refine aI (bH (List.sublist_append_right ..)) ?_
   repeat' (first|refine Ji ?_|refine JF a5 H6 ?_|(apply aK;first|refine JH 9 a5 0 JE ?_|refine JH 9 a5 1 JE ?_|refine JH 9 a5 2 JE ?_|refine JH 10 a5 0 JE ?_|refine JH 10 a5 1 JE ?_|refine JH 10 a5 2 JE ?_|refine JG a5 0 JD ?_|refine JG a5 1 JD ?_|refine JG a5 2 JD ?_|refine JG a5 3 JD ?_|fail)|refine bA rfl ?_)
   exact ij (cs:=[.agg (Is ⟨dS f.Glyphs.length (ee l.Rules),ft,bt,fe,be⟩),aF 0]) [] ⟨⟨_,0,_,_,rfl,rfl,.inr ⟨eK a5 rfl,rfl⟩⟩,rfl,trivial⟩ (List.nil_sublist _) ⟨⟨dS f.Glyphs.length (ee l.Rules),ft,bt,fe,be⟩,⟨hcls,hf1,hb1⟩,rfl⟩
end Go.Proofs.YtpmdfoaadejmkaaGreatDoor
namespace Go.Proofs.YtpmdfoaadejmkaaGreatDoor
open Go.RowKit
section
variable {P:Program} {fr:c7} {B:Bs} {L:AL} {ty t t':TypeId} {pos:String} {af:Array Edge} {g:Option (Nat×Bool)} {x y z q:Operand} {u:AV}
theorem DD {d:Option Tmp} {s e sz by_ hi:Nat} {l:List (List AV)} {k k':IntKind} {a b:Int} (hc:kH P t e sz by_) (hx:bn fr x=some u) (hu:ip u=some (s,l)) (hs:Nat.beq s sz=true) (hy:bn fr y=some (.sc (.int k a))) (hz:bn fr z=some (.sc (.int k' b))) (ha:a=(hi:Int)) (hb:b=(hi:Int)) (h:hi≤l.length):Av P ⟨d,.slice t x none (some y) (some z),ty,pos,af,g⟩ fr (.imm s (l.take hi)):=by
 intro σ ρ w hρ _
 subst ha hb
 rw [Nat.beq_eq] at hs
 subst hs
 have h1:=(hρ x u hx).im
 rw [cR hu] at h1
 obtain ⟨A,cap,hv,hcap,_⟩:=h1.imm_inv
 rw [hv] at h1
 have hvr:=h1.cut (lo:=0) (hi:=hi) (m:=hi) (Nat.zero_le _) h (Nat.le_refl _) (by omega)
 haveI:=hc
 simp only [List.drop_zero,Nat.sub_zero,Nat.zero_mul] at hvr
 refine ⟨_,?_,hvr⟩
 have h4:hi≤cap:=by omega
 simp [execOp,hv,(hρ y _ hy).sc_inv,(hρ z _ hz).sc_inv,Instr.sliceAt,Instr.slice,Instr.sliceBounds,Instr.sliceBound,asIntOf,run_underlying hc.under,cT (t:=t),h4]
end
section
variable {P:Program} {tt:TT} {l:List Oper} {fr:c7} {fin:jO} {sk:mG} {acc:c7} {L:AL} {k:Nat} {dd:Option Tmp} {ty t:TypeId} {pos:String} {af:Array Edge} {g:Option (Nat×Bool)} {x y z:Operand} {u:AV}
theorem E4 (ok:er P tt) (hi:Nat) {s e sz by_:Nat} {ll:List (List AV)} {q q':IntKind} {a b:Int} (ht:jK tt t=some (e,sz,by_)) (hx:bn (cB l.toArray acc fr af.toList) x=some u) (hu:ip u=some (s,ll)) (hs:Nat.beq s sz=true) (hy:bn (cB l.toArray acc fr af.toList) y=some (.sc (.int q a))) (hz:bn (cB l.toArray acc fr af.toList) z=some (.sc (.int q' b))) (ha:a=(hi:Int)) (hb:b=(hi:Int)) (h1:hi≤ll.length) (hg:iX ⟨dd,.slice t x none (some y) (some z),ty,pos,af,g⟩ acc) (h:DA P l fr fin sk ((k,.imm s (ll.take hi))::acc) L):
  cK P l fr fin k .v ⟨dd,.slice t x none (some y) (some z),ty,pos,af,g⟩ sk acc L:=f9 hg (zK (DD (br ok ht).1 hx hu hs hy hz ha hb h1)) h
end
end Go.Proofs.YtpmdfoaadejmkaaGreatDoor
