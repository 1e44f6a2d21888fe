/-
  The rows of a lookup's rules: the walk.
-/
import Derived.Test.YtamjlkdanllgjaaGreatDoorM33
import Derived.Test.YtamjlkdanllgjaaGreatDoorM11
import Derived.Test.YtamjlkdanllgjaaGreatDoorM24
namespace Go.Proofs.YtamjlkdanllgjaaGreatDoor
open Go.RowKit
attribute [local irreducible] AT bF AX AO Av Kt b8 d9 DA cu
set_option maxRecDepth 8000
abbrev xz (rs:List bJ) (cls:List Int):List AV:=[.imm 6 (rs.map bN),.imm 1 (aL cls)]
def kv (w:bJ→List (List Int)×Bool) (rs:List bJ) (n:Nat):Bool:=match rs[n]? with
 | some r=>(w r).2
 | none=>false
def s5 (w:bJ→List (List Int)×Bool) (rs:List bJ) (cls:List Int):RD:=⟨rs.map fun r=>(w r).1,cw (kv w rs) rs.length,cls,(gH cls).toNat⟩
theorem yF (l:List (List (List Int))) (r:List (List Int)):jS l++[[.imm 1 (aZ r)]]=jS (l++[r]):=by simp [jS]
theorem yh {l:List Int} {k:Nat} {z:Int} (h:l[k]?=some z):gH (l.take (k+1))=max (gH (l.take k)) (z+1):=by
 unfold gH
 rw [List.take_add_one,h]
 simp
set_option maxHeartbeats 8000000 in
theorem re (w:bJ→List (List Int)×Bool) (u:AV) (rs:List bJ) (hrs:rs.length≤6) (hw:∀r∈rs,ju Tryz.prog u [.agg (bN r)] [] fun c _=>c= .tup [.imm 1 (aZ (w r).1),cU (w r).2]) (cls:List Int) (hcl:∀z∈cls,0≤z∧z≤1000000) (hcl2:cls.length≤1000000):AC Tryz.prog 281 [.agg (xz rs cls),u] [] fun c L=>∃rb,c=j4 rb∧L=fg (s5 w rs cls) rb 0 none:=by
 refine aQ Tryz.func281 rfl Tryz.ntmps281 rfl fun B=>?_
 have hrl:(rs.map bN).length=rs.length:=Ou ..
 have hil:=aP cls
 repeat' (first|refine O1 ?_|refine ak ?_|refine OE a7 KN ?_|refine A4 (d:=15) fun _=>?_|refine br ?_|fail)
 rename_i rb
 refine bM (bB 0 (cs':=[.vec none 1 [],lM 0,.imm 1 (aL cls),aG 0,.vec none 2 []]) rfl fun σ vs h=>l8.vrs (a:=[.sc (.slice none 0 0),lM 0,.imm 1 (aL cls),aG 0,.sc (.slice none 0 0)]) (b:=[.vec none 1 [],lM 0,.imm 1 (aL cls),aG 0,.vec none 2 []]) ⟨fun σ v h=>cM 1 h,d5.refl _,d5.refl _,d5.refl _,fun σ v h=>cM 2 h,trivial⟩ h) ?_
 refine aJ [1,2,5,17,18] (α:=Nat×Option (Nat×Nat)) (fun s=>[(19,aG s.1)]) (fun s=>s.1≤rs.length) (fun s=>(rb,.box [.vec s.2 1 (jS ((rs.take s.1).map fun r=>(w r).1)),lM (cw (kv w rs) s.1),.imm 1 (aL cls),aG 0,.vec none 2 []] 384)::tok s.2 39 1 s.1) (fun s=>rs.length - s.1) (0,none) rfl ⟨rfl,trivial⟩ (Nat.zero_le _) (fun _ _ h=>h) ?_
 ·rintro ⟨n,q⟩ hn
  dsimp only at hn ⊢
  try dsimp only [Oq,Oo,Om,Oh]
  refine W01 ?_
  refine aw rfl (fun h1=>?_) (fun h1=>?_)
  ·have hn2:n < rs.length:=by have:=Oy h1;omega
   obtain ⟨r,hr⟩:∃z,rs[n]?=some z:=⟨_,Oz hn2⟩
   have hrg:(rs.map bN)[n]?=some (bN r):=by simp [hr]
   have hwr:=hw r (Ow hr)
   have htk:((rs.take (n+1)).map fun r=>(w r).1)=((rs.take n).map fun r=>(w r).1)++[(w r).1]:=by rw [List.take_add_one,hr];simp
   have hbit:cw (kv w rs) (n+1)=cw (kv w rs) n ||| (if (w r).2=true then 2 ^ n else 0):=by
    rw [cw]
    unfold kv
    rw [hr]
   have hml:(jS ((rs.take n).map fun r=>(w r).1)).length=n:=by rw [tO,Ou,List.length_take];omega
   have hsn:=yF ((rs.take n).map fun r=>(w r).1) (w r).1
   rw [←htk] at hsn
   have hb1:=ow (p:=kv w rs) (n:=n) (by omega)
   have hb2:=IG (n:=n) (by omega)
   have hub:=AH n (by omega)
   generalize jS ((rs.take n).map fun r=>(w r).1)=l3 at *
   clear h1
   refine W04 ?_
   intros
   refine ix [] ((rb,.box [.vec q 1 l3,lM (cw (kv w rs) n),.imm 1 (aL cls),aG 0,.vec none 2 []] 384)::tok q 39 1 n) hwr rfl rfl (Ok _) rfl rfl fun c L1 hc=>?_
   subst hc
   refine aX (bS (List.sublist_append_right ..)) ?_
   refine W0b ?_
   refine bA a7 [(rb,.box [.vec q 1 l3,lM (cw (kv w rs) n),.imm 1 (aL cls),aG 0,.vec none 2 []] 384)] rfl rfl rfl rfl (by rw [hml];exact List.perm_append_comm (l₁:=[_])) (by rw [hml];simp;omega) (by rw [hml];simp;omega) rfl fun q'=>?_
   refine aX (aW (L':=(rb,.box [.vec q 1 l3,lM (cw (kv w rs) n),.imm 1 (aL cls),aG 0,.vec none 2 []] 384)::tok q' 39 1 (n+1)) (by rw [List.length_append,hml];exact List.perm_append_comm (l₂:=[_]))) ?_
   repeat' (first|refine O1 ?_|refine OE a7 KN ?_|(apply aO;first|refine OG 7 a7 0 OD ?_|refine OG 7 a7 1 OD ?_|refine OG 7 a7 2 OD ?_|refine OF a7 0 OC ?_|refine OF a7 1 OC ?_|refine OF a7 2 OC ?_|refine OF a7 3 OC ?_|fail))
   refine aw rfl (fun h1=>?_) (fun h1=>?_)
   ·rw [if_pos h1] at hbit
    repeat' (first|fail)
    refine bk 6 [(0,.v),(1,.v),(2,.v),(3,.l),(4,.v),(5,.v)] none ?_ trivial rfl (by kernel_rfl) (by kernel_rfl) (by kernel_rfl) mixed (by kernel_rfl) rfl
    refine W0t ?_
    refine xL n rfl rfl rfl trivial ?_
    repeat' (first|fail)
    refine OO [1,2,5,17,18,19,41,44,46] KN ?_
    refine A3 rfl rfl rfl ?_
    rw [hub,u64_or_nat _ _ hb1 hb2,←hbit]
    repeat' (first|refine O1 ?_|refine OE a7 KN ?_|(apply aS;refine aR ?_)|(apply aO;first|refine OG 7 a7 0 OD ?_|refine OG 7 a7 1 OD ?_|refine OG 7 a7 2 OD ?_|refine OF a7 0 OC ?_|refine OF a7 1 OC ?_|refine OF a7 2 OC ?_|refine OF a7 3 OC ?_|fail))
    exact aD (n+1,q') rfl ⟨by rw [Ov];rfl,trivial⟩ hn2 (by dsimp only;omega) (fun _ _ h=>by dsimp only;rw [←hsn];exact h)
   ·rw [if_neg (by rw [h1];decide),Nat.or_zero] at hbit
    refine W02 ?_
    exact aD (n+1,q') rfl ⟨by rw [Ov];rfl,trivial⟩ hn2 (by dsimp only;omega) (fun _ _ h=>by dsimp only;rw [←hsn,hbit];exact h)
  ·have hn2:n=rs.length:=by have:=Ox h1;omega
   subst hn2
   rw [List.take_length]
   clear h1
   refine W03 ?_
   refine aJ [5,52,53] (α:=Nat) (fun k=>[(54,aG k)]) (fun k=>k≤cls.length) (fun k=>(rb,.box [.vec q 1 (jS (rs.map fun r=>(w r).1)),lM (cw (kv w rs) rs.length),.imm 1 (aL cls),aG (gH (cls.take k)),.vec none 2 []] 384)::tok q 39 1 rs.length) (fun k=>cls.length - k) 0 rfl ⟨rfl,trivial⟩ (Nat.zero_le _) (fun _ _ h=>h) fun k hk=>?_
   try dsimp only [Oq,Oo,Om,Oh]
   refine W01 ?_
   refine aw rfl (fun h1=>?_) (fun h1=>?_)
   ·have hk2:k < cls.length:=by have:=Oy h1;omega
    obtain ⟨z,hz⟩:∃z,cls[k]?=some z:=⟨_,Oz hk2⟩
    have hzg:=bD hz
    have hzb:=hcl z (Ow hz)
    have hmc:=yh hz
    clear h1
    repeat' (first|refine O1 ?_|refine ak ?_|refine OE a7 KN ?_|(apply bU;first|refine OH a7 0 OB ?_|refine OH a7 1 OB ?_|refine OH a7 2 OB ?_|refine OH a7 3 OB ?_|refine OJ a7 0 OB ?_|refine OJ a7 1 OB ?_|refine OJ a7 2 OB ?_|refine OM a7 1 NZ (by assumption) rfl ?_|refine OM a7 0 NZ (by assumption) rfl ?_|fail)|(apply aS;refine aR ?_)|(apply aV;first|refine aU a7 ?_|refine aN a7 ?_)|(apply aO;first|refine OG 7 a7 0 OD ?_|refine OG 7 a7 1 OD ?_|refine OG 7 a7 2 OD ?_|refine OF a7 0 OC ?_|refine OF a7 1 OC ?_|refine OF a7 2 OC ?_|refine OF a7 3 OC ?_|fail))
    exact aD (k+1) rfl ⟨by rw [Ov];rfl,trivial⟩ hk2 (by omega) (fun _ _ h=>by rw [hmc];exact h)
   ·have hk2:k=cls.length:=by have:=Ox h1;omega
    subst hk2
    rw [List.take_length]
    clear h1
    refine W01 ?_
    have hC:(gH cls)=(((gH cls).toNat:Nat):Int):=by have:=(rK (l:=cls) (m:=0)).1;unfold gH;omega
    refine b7 (bB 0 (cs':=GG (s5 w rs cls) (.vec none 2 (BX (s5 w rs cls) 0))) rfl fun σ vs h=>l8.vrs (a:=[.vec q 1 (jS (rs.map fun r=>(w r).1)),lM (cw (kv w rs) rs.length),.imm 1 (aL cls),aG (gH cls),.vec none 2 []]) (b:=GG (s5 w rs cls) (.vec none 2 (BX (s5 w rs cls) 0))) ⟨fun σ v h=>VR.im h,d5.refl _,d5.refl _,by unfold s5;dsimp only;rw [←hC];exact d5.refl _,d5.refl _,trivial⟩ h) ?_
    refine du (L':=fg (s5 w rs cls) rb 0 none) (List.sublist_append_left [_] _) ?_
    exact OK KN ⟨rb,rfl,rfl⟩
def pB (r:bJ):List (List Int)×Bool:=(fb r, !r.In.isEmpty)
def qX (r:bJ):List (List Int)×Bool:=(r.Back,true)
structure D6 (rs:List bJ) (cls:List Int):Prop where
 few:rs.length≤6
 dom:∀z∈cls,0≤z∧z≤1000000
 len:cls.length≤1000000
 rows:∀r∈rs,r.In.length≤1000000∧r.Ahead.length≤1000000
theorem Ef {rs:List bJ} {cls:List Int} (h:D6 rs cls):AC Tryz.prog 220 [.agg (xz rs cls)] [] fun c L=>∃rb,c=j4 rb∧L=fg (s5 pB rs cls) rb 0 none:=by
 refine aQ Tryz.func220 rfl Tryz.ntmps220 rfl fun B=>?_
 have hc:=re pB (.sc (.func (.func 282) #[] #[])) rs h.few (fun r hr=>ju.fn0 (f:=282) (by rw [List.append_nil];exact BG r (h.rows r hr).1 (h.rows r hr).2)) cls h.dom h.len
 refine W07 ?_
 refine bh [] [] hc rfl rfl (Ok _) rfl fun c L1 ⟨rb,hc1,hL⟩=>?_
 subst hc1;subst hL
 refine W01 ?_
 exact OK KN ⟨rb,rfl,by rw [List.append_nil]⟩
theorem DG {rs:List bJ} {cls:List Int} (h:D6 rs cls):AC Tryz.prog 221 [.agg (xz rs cls)] [] fun c L=>∃rb,c=j4 rb∧L=fg (s5 qX rs cls) rb 0 none:=by
 refine aQ Tryz.func221 rfl Tryz.ntmps221 rfl fun B=>?_
 have hc:=re qX (.sc (.func (.func 283) #[] #[])) rs h.few (fun r _=>ju.fn0 (f:=283) (by rw [List.append_nil];exact B8 r)) cls h.dom h.len
 refine W07 ?_
 refine bh [] [] hc rfl rfl (Ok _) rfl fun c L1 ⟨rb,hc1,hL⟩=>?_
 subst hc1;subst hL
 refine W01 ?_
 exact OK KN ⟨rb,rfl,by rw [List.append_nil]⟩
set_option maxRecDepth 8000
structure SS where
 M:List Pl
 q:Option (Nat×Nat)
 k:Nat
 qr:Option (Nat×Nat)
abbrev rA (R:RD) (nb kb mb rb:Nat) (s:SS) (X:AL):AL:=(nb,.box [.sc (.map (some kb))] 196)::(kb,ci .string (v8 s.M))::(mb,.box [.vec s.q 2 (s.M.map mw)] 375)::s6 R rb s.k s.qr::(tok s.q 377 2 s.M.length++(tok s.qr 444 2 s.k++X))
theorem uo {R:RD} {nb kb mb rb:Nat} {s:SS} {X:AL}:(rA R nb kb mb rb s X).Perm (uE nb kb mb s.M s.q++(s6 R rb s.k s.qr::(tok s.qr 444 2 s.k++X))):=by
 unfold uE
 refine List.Perm.cons _ (List.Perm.cons _ (List.Perm.cons _ ?_))
 exact (List.perm_middle (l₁:=tok s.q 377 2 s.M.length)).symm
theorem nu {R:RD} {nb kb mb rb:Nat} {s:SS} {X:AL}:(rA R nb kb mb rb s X).Perm (fg R rb s.k s.qr++((nb,.box [.sc (.map (some kb))] 196)::(kb,ci .string (v8 s.M))::(mb,.box [.vec s.q 2 (s.M.map mw)] 375)::(tok s.q 377 2 s.M.length++X))):=by
 have h1:(rA R nb kb mb rb s X).Perm (s6 R rb s.k s.qr::([(nb,.box [.sc (.map (some kb))] 196),(kb,ci .string (v8 s.M)),(mb,.box [.vec s.q 2 (s.M.map mw)] 375)]++(tok s.q 377 2 s.M.length++(tok s.qr 444 2 s.k++X)))):=List.perm_middle (l₁:=[_,_,_])
 refine h1.trans (List.Perm.cons _ ?_)
 rw [←List.append_assoc]
 refine (List.perm_append_comm_assoc _ (tok s.qr 444 2 s.k) X).trans ?_
 rw [List.append_assoc]
 exact Ok _
theorem w4 {R:RD} {nb kb mb rb:Nat} {s:SS} {X:AL} {a:Nat×AB}:(a::rA R nb kb mb rb s X).Perm (uE nb kb mb s.M s.q++(a::s6 R rb s.k s.qr::(tok s.qr 444 2 s.k++X))):=(List.Perm.cons a uo).trans List.perm_middle.symm
theorem w5 {R:RD} {nb kb mb rb:Nat} {s:SS} {X:AL} {a:Nat×AB}:(a::rA R nb kb mb rb s X).Perm (fg R rb s.k s.qr++(a::(nb,.box [.sc (.map (some kb))] 196)::(kb,ci .string (v8 s.M))::(mb,.box [.vec s.q 2 (s.M.map mw)] 375)::(tok s.q 377 2 s.M.length++X))):=(List.Perm.cons a nu).trans List.perm_middle.symm
theorem N5 {a b c:Nat×AB} {X:AL}:(a::b::c::X).Perm (b::c::a::X):=(List.Perm.swap b a _).trans (.cons b (List.Perm.swap c a _))
theorem N6 {A T1 T2 T R:AL}:(A++(T1++(T2++(T++R)))).Perm (T++(A++(T1++(T2++R)))):=by
 rw [←List.append_assoc T1,←List.append_assoc A,←List.append_assoc T1 T2 R,←List.append_assoc A (T1++T2) R]
 exact List.perm_append_comm_assoc ..
theorem N7 {A T1 T2 T3 T4:AL}:(A++(T1++(T2++(T3++T4)))).Perm (T4++(A++(T1++(T2++T3)))):=by
 rw [←List.append_assoc T2,←List.append_assoc T1,←List.append_assoc A]
 exact List.perm_append_comm
abbrev LD (R:RD) (nb kb mb rb:Nat) (s:SS):AL:=[(nb,.box [.sc (.map (some kb))] 196),(kb,ci .string (v8 s.M)),(mb,.box [.vec s.q 2 (s.M.map mw)] 375),s6 R rb s.k s.qr]
theorem zN {R:RD} {nb kb mb rb:Nat} {s:SS} {T X:AL}:(rA R nb kb mb rb s (T++X)).Perm (T++rA R nb kb mb rb s X):=N6 (A:=LD R nb kb mb rb s)
theorem zM {R:RD} {nb kb mb rb:Nat} {s:SS} {T X:AL}:(rA R nb kb mb rb s (T++X)).Perm (X++rA R nb kb mb rb s T):=N7 (A:=LD R nb kb mb rb s)
structure Ni where
 s:SS
 tab:List (List Int)
 qt:Option (Nat×Nat)
 ends:List Nat
 qe:Option (Nat×Nat)
abbrev NP (t:Ni):AL:=tok t.qt 22 1 t.tab.length++tok t.qe 194 1 t.ends.length
theorem pK {M:List Pl} {n:Nat} {p:Pl} (h:M[n]?=some p):(M.map mw)[n]?=some (mw p):=by simp [h]
structure D7 (R:RD) (hv:Nat→Bool) (Lb:Nat):Prop where
 ok:D2 R
 has:R.have_=cw hv R.rows.length
 long:∀r∈R.rows,r.length≤Lb
 few:Lb≤200
theorem D7.small {R:RD} {hv:Nat→Bool} {Lb:Nat} (h:D7 R hv Lb) {M:List Pl} (hs:jw R.rows hv Lb M):(∀x∈M,l7 x)∧M.length≤20000:=by
 have hf:=h.few
 have hr:=h.ok.few
 have h64:2 ^ R.rows.length≤64:=Nat.pow_le_pow_right (n:=2) (by omega) hr
 constructor
 ·intro x hx
  obtain ⟨h1,h2⟩:=hs.small x hx
  exact ⟨by omega,by omega⟩
 ·have:=hs.few
  have h3:(Lb+1) * 2 ^ R.rows.length≤201 * 64:=Nat.mul_le_mul (by omega) h64
  omega
set_option maxHeartbeats 16000000 in
theorem tR (R:RD) (hv:Nat→Bool) (Lb:Nat) (h:D7 R hv Lb) (u:AV) (hu:ju Tryz.prog u [] [] fun c L=>∃rb,c=j4 rb∧L=fg R rb 0 none):AC Tryz.prog 219 [u] [] fun c _=>∃tab ends,sT R.cls R.rows hv R.C tab ends∧c= .tup [.imm 1 (aZ tab),.imm 1 (gE ends),cU true]:=by
 refine aQ Tryz.func219 rfl Tryz.ntmps219 rfl fun B=>?_
 refine W01 ?_
 refine ix [] [] hu rfl rfl (Ok _) rfl rfl fun c L1 ⟨rb,hc,hL⟩=>?_
 subst hc;subst hL
 refine W01 ?_
 refine eo .string fun kb=>?_
 refine W0M ?_
 intros
 rename_i nb mb
 have hok:=h.ok
 obtain ⟨hCm,hNm⟩:=hok.many
 refine aX (bB 0 (cs':=[.vec none 2 []]) rfl fun σ vs hh=>l8.vrs (a:=[.sc (.slice none 0 0)]) (b:=[.vec none 2 []]) ⟨fun σ v h=>cM 2 h,trivial⟩ hh) ?_
 refine aX (aW (L':=rA R nb kb mb rb ⟨[],none,0,none⟩ []) (by unfold rA;rw [If];exact N5)) ?_
 refine bh (fg R rb 0 none) _ (Ck R rb 0 none (by omega)) rfl rfl nu rfl fun c L1 ⟨hc,k0,qr0,hk0,hL⟩=>?_
 subst hc;subst hL
 refine aX (aW (L':=rA R nb kb mb rb ⟨[],none,k0,qr0⟩ []) (nu (s:=⟨[],none,k0,qr0⟩)).symm) ?_
 have hst0:jw R.rows hv Lb [((0,R.have_):Pl)]:=by
  have:=jw.start (rows:=R.rows) (have_:=hv) (L:=Lb)
  unfold mA at this
  rwa [←h.has] at this
 have hsm0:=(h.small hst0).1 (0,R.have_) (by simp)
 have hme0:=zX nb kb mb [] (fun x hx=>by cases hx) (by simp) none (0,R.have_) hsm0
 repeat' (first|fail)
 refine ix (uE nb kb mb [] none) _ (ju.fn (f:=276) (caps:=[j4 nb,j4 mb]) hme0) rfl rfl uo rfl rfl fun c L1 ⟨hc,q0,hL⟩=>?_
 subst hc;subst hL
 refine aX (aW (L':=rA R nb kb mb rb ⟨[(0,R.have_)],q0,k0,qr0⟩ []) (uo (s:=⟨[(0,R.have_)],q0,k0,qr0⟩)).symm) ?_
 refine W03 ?_
 refine bM (bq (t:=2) (c':= .vec none 1 (aZ [])) rfl fun σ v h=>cM 1 h) ?_
 refine bM (bq (t:=3) (c':= .vec none 1 (gE [])) rfl fun σ v h=>cM 1 h) ?_
 refine aJ [5,7,8] (α:=Ni) (fun t=>[(9,aG t.tab.length),(2,.vec t.qt 1 (aZ t.tab)),(3,.vec t.qe 1 (gE t.ends))]) (fun t=>jw R.rows hv Lb t.s.M∧gK R.cls R.rows R.C t.s.M t.tab t.ends∧t.tab.length≤t.s.M.length∧t.s.k≤1000001) (fun t=>rA R nb kb mb rb t.s (NP t)) (fun t=>20000 - t.tab.length) ⟨⟨[(0,R.have_)],q0,k0,qr0⟩,[],none,[],none⟩ rfl ⟨rfl,rfl,rfl,trivial⟩ ⟨hst0,gK.nil,Nat.zero_le _,hk0⟩ (fun _ _ hh=>hh) ?_
 rintro ⟨⟨M,q,k,qr⟩,tab,qt,ends,qe⟩ ⟨hst,htb,htl,hk⟩
 dsimp only at hst htb htl hk ⊢
 try dsimp only [Oq,Oo,Om,Oh]
 have hml:(M.map mw).length=M.length:=Ou ..
 obtain ⟨hsm,hM2⟩:=h.small hst
 refine W05 ?_
 refine aw rfl (fun h1=>?_) (fun h1=>?_)
 ·have hn2:tab.length < M.length:=by have h1':(tab.length:Int) < ((M.map mw).length:Int):=Oy h1;omega
  obtain ⟨p,hp⟩:∃p,M[tab.length]?=some p:=⟨_,Oz hn2⟩
  clear h1
  repeat' (first|refine O1 ?_|refine ak ?_|refine OE a7 KN ?_|(apply bU;first|refine OH a7 0 OB ?_|refine OH a7 1 OB ?_|refine OH a7 2 OB ?_|refine OH a7 3 OB ?_|refine OJ a7 0 OB ?_|refine OJ a7 1 OB ?_|refine OJ a7 2 OB ?_|refine OM a7 1 NZ (by assumption) rfl ?_|refine OM a7 0 NZ (by assumption) rfl ?_|fail)|fail)
  refine ej a7 R.C rfl rfl rfl rfl rfl rfl rfl (by omega) (by omega) rfl fun rwb=>?_
  rw [show (List.replicate R.C (List.map AV.sc [Value.int .i64 0])).flatten=dP (List.replicate R.C 0) from px R.C]
  refine W03 ?_
  refine aJ [2,3,5,7,8,9,10,33] (α:=Nat×SS×List Int) (fun t=>[(34,aG t.1)]) (fun t=>t.1≤R.C∧jw R.rows hv Lb t.2.1.M∧gK R.cls R.rows R.C t.2.1.M tab ends∧t.2.1.M[tab.length]?=some p∧t.2.2.length=R.C∧t.2.1.k≤1000001∧∀(c:Nat) z,c < t.1→t.2.2[c]?=some z→jh R.cls R.rows t.2.1.M p c z) (fun t=>(rwb,.box (dP t.2.2) 3)::rA R nb kb mb rb t.2.1 (tok qt 22 1 tab.length++tok qe 194 1 ends.length)) (fun t=>R.C - t.1) (0,⟨M,q,k,qr⟩,List.replicate R.C 0) rfl ⟨rfl,trivial⟩ ⟨Nat.zero_le _,hst,htb,hp,by simp,hk,fun c z hc=>by omega⟩ (fun _ _ hh=>hh) ?_
  ·rintro ⟨c,⟨M1,q1,k1,qr1⟩,fA⟩ ⟨hc,hst1,htb1,hp1,hrl,hk1,hce⟩
   dsimp only at hc hst1 htb1 hp1 hrl hk1 hce ⊢
   try dsimp only [Oq,Oo,Om,Oh]
   have hcl:=iH fA
   obtain ⟨hsm1,hM1⟩:=h.small hst1
   refine W01 ?_
   refine aw rfl (fun h1=>?_) (fun h1=>?_)
   ·have hc2:c < R.C:=by have:=Oy h1;omega
    have hpg:=pK hp1
    have hps:=hst1.small p (Ow hp1)
    have hps2:=hsm1 p (Ow hp1)
    have hbe:=Ba R hok rb k1 qr1 hk1 p (by have:=hps2.1;omega) (by have:=hps2.2;omega) c hc2
    have hst':=iI (l:=fA) (i:=c) (z:= -1)
    clear h1
    refine W08 ?_
    refine ai a7 0 rfl rfl rfl rfl rfl rfl (Nat.ble_eq_true_of_le (by rw [hcl,hrl,Int.toNat_natCast];show 0+c * 1+1≤_;omega)) ?_
    rw [hst']
    refine aa ?_
    refine a8 ?_
    refine bM (aW (L':=(rwb,.box (dP (fA.set c (-1))) 3)::rA R nb kb mb rb ⟨M1,q1,k1,qr1⟩ (tok qt 22 1 tab.length++tok qe 194 1 ends.length)) (Ok _)) ?_
    refine W0h ?_
    refine bh (fg R rb k1 qr1) _ hbe rfl rfl w5 rfl fun c1 L1 ⟨hc1,k2,qr2,hk2,hL⟩=>?_
    subst hc1;subst hL
    refine aX (aW (L':=(rwb,.box (dP (fA.set c (-1))) 3)::rA R nb kb mb rb ⟨M1,q1,k2,qr2⟩ (tok qt 22 1 tab.length++tok qe 194 1 ends.length)) (w5 (s:=⟨M1,q1,k2,qr2⟩)).symm) ?_
    have hrs:(fA.set c (-1)).length=R.C:=by rw [List.length_set];exact hrl
    have hrs2:=iH (fA.set c (-1))
    refine W0M ?_
    intros
    refine aw rfl (fun h1=>?_) (fun h1=>?_)
    ·have hne:(cg R.cls R.rows p c).2≠0:=by
      intro e
      have h1':((cg R.cls R.rows p c).2:Int)≠0:=Oy h1
      rw [e] at h1'
      exact h1' rfl
     have hst2:=hst1.meet h.long hne
     have hsm2:=(h.small hst2).1
     have hme:=zX nb kb mb M1 hsm1 (by omega) q1 (cg R.cls R.rows p c) (hsm2 _ (lF _ _))
     have hput:=iI (l:=fA.set c (-1)) (i:=c) (z:=((ek M1 (cg R.cls R.rows p c)).idxOf (cg R.cls R.rows p c):Nat))
     have hcn:=jh.new (M:=M1) hne
     have htm:=htb1.more (by have:=(Ol hp1).1;omega) (cg R.cls R.rows p c)
     have hpm:=o6 (cg R.cls R.rows p c) hp1
     have hcm:∀(c':Nat) z,c' < c→fA[c']?=some z→jh R.cls R.rows (ek M1 (cg R.cls R.rows p c)) p c' z:=fun c' z h1 h2=>(hce c' z h1 h2).more
     clear h1
     refine W01 ?_
     refine ix (uE nb kb mb M1 q1) _ (ju.fn (f:=276) (caps:=[j4 nb,j4 mb]) hme) rfl rfl w4 rfl rfl fun c2 L2 ⟨hc2',q2,hL⟩=>?_
     subst hc2';subst hL
     refine aX (aW (L':=(rwb,.box (dP (fA.set c (-1))) 3)::rA R nb kb mb rb ⟨ek M1 (cg R.cls R.rows p c),q2,k2,qr2⟩ (tok qt 22 1 tab.length++tok qe 194 1 ends.length)) (w4 (s:=⟨ek M1 (cg R.cls R.rows p c),q2,k2,qr2⟩)).symm) ?_
     refine W0i ?_
     refine ai a7 0 rfl rfl rfl rfl rfl rfl (Nat.ble_eq_true_of_le (by rw [hrs2,hrs,Int.toNat_natCast];show 0+c * 1+1≤_;omega)) ?_
     rw [hput]
     refine W02 ?_
     refine aD (c+1,⟨ek M1 (cg R.cls R.rows p c),q2,k2,qr2⟩,(fA.set c (-1)).set c ((ek M1 (cg R.cls R.rows p c)).idxOf (cg R.cls R.rows p c):Nat)) rfl ⟨by rw [Ov];rfl,trivial⟩ ⟨hc2,hst2,htm,hpm,by rw [List.length_set];exact hrs,hk2,fun c' z h1 h2=>?_⟩ (by dsimp only;omega) (fun _ _ hh=>hh)
     by_cases he:c'=c
     ·subst he
      rw [List.getElem?_set_self (by omega)] at h2
      cases h2
      exact hcn
     ·rw [List.getElem?_set_ne (fun e=>he e.symm),List.getElem?_set_ne (fun e=>he e.symm)] at h2
      exact hcm c' z (by dsimp only at h1;omega) h2
    ·have he0:(cg R.cls R.rows p c).2=0:=by
      have h1':¬((cg R.cls R.rows p c).2:Int)≠0:=Ox h1
      omega
     clear h1
     refine W02 ?_
     refine aD (c+1,⟨M1,q1,k2,qr2⟩,fA.set c (-1)) rfl ⟨by rw [Ov];rfl,trivial⟩ ⟨hc2,hst1,htb1,hp1,hrs,hk2,fun c' z h1 h2=>?_⟩ (by dsimp only;omega) (fun _ _ hh=>hh)
     by_cases he:c'=c
     ·subst he
      rw [List.getElem?_set_self (by omega)] at h2
      cases h2
      exact .inl ⟨he0,rfl⟩
     ·rw [List.getElem?_set_ne (fun e=>he e.symm)] at h2
      exact hce c' z (by dsimp only at h1;omega) h2
   ·have hc2:c=R.C:=by have:=Ox h1;omega
    subst hc2
    have hn3:tab.length < M1.length:=(Ol hp1).1
    have hpg:=pK hp1
    have hps2:=hsm1 p (Ow hp1)
    have hml1:(M1.map mw).length=M1.length:=Ou ..
    have hen:=Hd R hok rb k1 qr1 hk1 p (by have:=hps2.1;omega) (by have:=hps2.2;omega)
    have htl3:=cr tab
    have hul3:=sw ends
    have hsn:=htb1.snoc hp1 hrl fun c' z h2=>hce c' z (by have:=(Ol h2).1;omega) h2
    have hel:=htb1.len
    clear h1
    refine W05 ?_
    refine aw rfl (fun h1=>?_) (fun h1=>?_)
    ·have h1':(20000:Int) < ((M1.map mw).length:Int):=Oy h1
     omega
    clear h1
    refine bM (dl (t:=10) (sz:=1) (n:=R.C) (cap:=R.C) (l:=aL fA) 0 rfl rfl (by rw [←pw,Nat.mul_one,List.take_of_length_le (by omega)]) (by omega) (fun e he=>by unfold aL at he;obtain ⟨y,_,rfl⟩:=List.mem_map.1 he;rfl) (by rw [aP];exact hrl) (Nat.le_refl _) (by unfold maxLen;omega)) ?_
    refine W0f ?_
    refine bA a7 (rA R nb kb mb rb ⟨M1,q1,k1,qr1⟩ (tok qe 194 1 ends.length)) rfl rfl rfl rfl (by rw [htl3];exact zN) (by rw [htl3];simp;omega) (by rw [htl3];simp;omega) rfl fun qt'=>?_
    have hrsn:aZ tab++[[AV.imm 1 (aL fA)]]=aZ (tab++[fA]):=by simp [aZ]
    refine aX (aW (L':=rA R nb kb mb rb ⟨M1,q1,k1,qr1⟩ (tok qt' 22 1 (aZ tab++[[AV.imm 1 (aL fA)]]).length++tok qe 194 1 ends.length)) zN.symm) ?_
    refine W0h ?_
    refine bh (fg R rb k1 qr1) _ hen rfl rfl nu rfl fun c1 L1 ⟨hc1,k2,qr2,hk2,hL⟩=>?_
    subst hc1;subst hL
    refine aX (aW (L':=rA R nb kb mb rb ⟨M1,q1,k2,qr2⟩ (tok qt' 22 1 (aZ tab++[[AV.imm 1 (aL fA)]]).length++tok qe 194 1 ends.length)) (nu (s:=⟨M1,q1,k2,qr2⟩)).symm) ?_
    repeat' (first|refine bO a7 ?_|fail)
    refine bA a7 (rA R nb kb mb rb ⟨M1,q1,k2,qr2⟩ (tok qt' 22 1 (aZ tab++[[AV.imm 1 (aL fA)]]).length)) rfl rfl rfl rfl (by rw [hul3];exact zM) (by rw [hul3];simp;omega) (by rw [hul3];simp;omega) rfl fun qe'=>?_
    have husn:gE ends++[[lM (jz R.rows p)]]=gE (ends++[jz R.rows p]):=by simp [gE]
    refine aX (aW (L':=rA R nb kb mb rb ⟨M1,q1,k2,qr2⟩ (tok qt' 22 1 (aZ tab++[[AV.imm 1 (aL fA)]]).length++tok qe' 194 1 (gE ends++[[lM (jz R.rows p)]]).length)) zM.symm) ?_
    refine W02 ?_
    have hll:(tab++[fA]).length=tab.length+1:=by simp
    refine aD ⟨⟨M1,q1,k2,qr2⟩,tab++[fA],qt',ends++[jz R.rows p],qe'⟩ rfl ⟨?_,by dsimp only;rw [←hrsn];rfl,by dsimp only;rw [←husn];rfl,trivial⟩ ⟨hst1,hsn,by dsimp only;omega,hk2⟩ (by dsimp only;omega) (fun _ _ hh=>?_)
    ·dsimp only
     rw [hll,Ov]
     rfl
    ·dsimp only
     rw [hrsn,husn,cr,sw] at hh
     exact hh
 ·have hn2:tab.length=M.length:=by
   have h1':¬(tab.length:Int) < ((M.map mw).length:Int):=Ox h1
   omega
  clear h1
  refine W01 ?_
  refine b7 (bq (t:=2) (c':= .imm 1 (aZ tab)) rfl fun σ v h=>VR.im h) ?_
  refine b7 (bq (t:=3) (c':= .imm 1 (gE ends)) rfl fun σ v h=>VR.im h) ?_
  exact fT (cs:=[.imm 1 (aZ tab),.imm 1 (gE ends),cU true]) [] ⟨rfl,rfl,rfl,trivial⟩ (List.nil_sublist _) ⟨tab,ends,htb.done hst hn2,rfl⟩
set_option maxRecDepth 8000
structure vh (N:Nat) (r:bJ):Prop where
 back:∀s∈r.Back,m9 s∧∀g∈s,0≤g∧g < (N:Int)
 in_:∀s∈r.In,m9 s∧∀g∈s,0≤g∧g < (N:Int)
 ahead:∀s∈r.Ahead,m9 s∧∀g∈s,0≤g∧g < (N:Int)
 long:r.Back.length≤200∧r.In.length+r.Ahead.length≤200
structure yY (N:Nat) (l:bf):Prop where
 few:l.Rules.length≤6
 rule:∀r∈l.Rules,vh N r
def ep (rs:List bJ):List (List Int):=rs.flatMap fun r=>r.Back++r.In++r.Ahead
theorem AU {rs:List bJ} {k:Nat} {r:bJ} (h:rs[k]?=some r):ep (rs.take (k+1))=ep (rs.take k)++r.Back++r.In++r.Ahead:=by
 unfold ep
 rw [List.take_add_one,h]
 simp
theorem qM {N:Nat}:∀{rs:List bJ},(∀r∈rs,vh N r)→(ep rs).length≤400 * rs.length
 | [],_=>by simp [ep]
 | r::rs,h=>by
  have ih:=qM (rs:=rs) fun x hx=>h x (by simp [hx])
  have hr:=(h r (by simp)).long
  unfold ep at ih ⊢
  rw [List.flatMap_cons,List.length_append,List.length_append,List.length_append,List.length_cons]
  omega
theorem u6 {N:Nat} {rs:List bJ} (h:∀r∈rs,vh N r):∀s∈ep rs,m9 s∧∀g∈s,0≤g∧g < (N:Int):=by
 intro s hs
 unfold ep at hs
 obtain ⟨r,hr,hs⟩:=List.mem_flatMap.1 hs
 rw [List.mem_append,List.mem_append] at hs
 rcases hs with (hs | hs) | hs
 ·exact (h r hr).back s hs
 ·exact (h r hr).in_ s hs
 ·exact (h r hr).ahead s hs
structure kZ where
 cls:List Int
 fore:List (List Int)
 back:List (List Int)
 foreE:List Nat
 backE:List Nat
def MM (a:kZ):List AV:=[.imm 1 (aL a.cls),.imm 1 (aZ a.fore),.imm 1 (aZ a.back),.imm 1 (gE a.foreE),.imm 1 (gE a.backE)]
structure yZ (N:Nat) (rs:List bJ) (a:kZ):Prop where
 cls:vi N (gH a.cls).toNat a.cls (ep rs)
 fore:sT a.cls (rs.map fun r=>(pB r).1) (kv pB rs) (gH a.cls).toNat a.fore a.foreE
 back:sT a.cls (rs.map fun r=>(qX r).1) (kv qX rs) (gH a.cls).toNat a.back a.backE
theorem lh (r:bJ):(fb r).length≤r.In.length+r.Ahead.length:=by
 unfold fb
 split
 ·simp
 ·rw [List.length_append];omega
theorem li {r:bJ} {s:List Int} (h:s∈fb r):s∈r.In∨s∈r.Ahead:=by
 unfold fb at h
 split at h
 ·cases h
 ·exact Oj h
section
variable {N:Nat} {l:bf} (h:yY N l) (hN0:0 < N) (hN:N≤65536)
include h
theorem nO:∀s∈ep l.Rules,(∀g∈s,0≤g∧g < (N:Int))∧s.Nodup:=fun s hs=>⟨(u6 h.rule s hs).2,i6 (u6 h.rule s hs).1⟩
include hN
theorem rW:(∀z∈eg N (ep l.Rules),0≤z∧z≤1000000)∧(eg N (ep l.Rules)).length=N∧(gH (eg N (ep l.Rules))).toNat≤1000000∧∀z∈eg N (ep l.Rules),0≤z∧z < ((gH (eg N (ep l.Rules))).toNat:Int):=by
 have h1:=tJ N _ (nO h)
 refine ⟨fun z hz=>by have:=h1 z hz;omega,tK N _ (nO h),?_,(wD N _ (nO h)).dom⟩
 have:gH (eg N (ep l.Rules))≤(N:Int):=tE (by omega) fun z hz=>(h1 z hz).2
 omega
theorem KE:D6 l.Rules (eg N (ep l.Rules)):=by
 obtain ⟨h1,h2,_,_⟩:=rW h hN
 exact ⟨h.few,h1,by omega,fun r hr=>by have:=(h.rule r hr).long;omega⟩
theorem Hi:D7 (s5 pB l.Rules (eg N (ep l.Rules))) (kv pB l.Rules) 200:=by
 obtain ⟨h1,h2,h3,h4⟩:=rW h hN
 refine ⟨⟨by show (l.Rules.map _).length≤6;rw [Ou];exact h.few,h4,fun fA hrow s hs=>?_,fun fA hrow=>?_,h3,by show (eg N (ep l.Rules)).length≤_;omega⟩,by show cw _ _=cw _ (l.Rules.map _).length;rw [Ou],fun fA hrow=>?_,Nat.le_refl _⟩
 ·obtain ⟨r,hr,rfl⟩:=List.mem_map.1 hrow
  have hb:=h.rule r hr
  have hsr:m9 s∧∀g∈s,0≤g∧g < (N:Int):=by
   rcases li hs with hs | hs
   ·exact hb.in_ s hs
   ·exact hb.ahead s hs
  refine ⟨fun g hg=>?_,?_⟩
  ·show 0≤g∧g < ((eg N (ep l.Rules)).length:Int)
   rw [h2]
   exact hsr.2 g hg
  ·have:=fO (i6 hsr.1) hsr.2
   omega
 ·obtain ⟨r,hr,rfl⟩:=List.mem_map.1 hrow
  have:=lh r
  have:=(h.rule r hr).long
  show (fb r).length≤_
  omega
 ·obtain ⟨r,hr,rfl⟩:=List.mem_map.1 hrow
  have:=lh r
  have:=(h.rule r hr).long
  show (fb r).length≤_
  omega
theorem GD:D7 (s5 qX l.Rules (eg N (ep l.Rules))) (kv qX l.Rules) 200:=by
 obtain ⟨h1,h2,h3,h4⟩:=rW h hN
 refine ⟨⟨by show (l.Rules.map _).length≤6;rw [Ou];exact h.few,h4,fun fA hrow s hs=>?_,fun fA hrow=>?_,h3,by show (eg N (ep l.Rules)).length≤_;omega⟩,by show cw _ _=cw _ (l.Rules.map _).length;rw [Ou],fun fA hrow=>?_,Nat.le_refl _⟩
 ·obtain ⟨r,hr,rfl⟩:=List.mem_map.1 hrow
  have hsr:=(h.rule r hr).back s hs
  refine ⟨fun g hg=>?_,?_⟩
  ·show 0≤g∧g < ((eg N (ep l.Rules)).length:Int)
   rw [h2]
   exact hsr.2 g hg
  ·have:=fO (i6 hsr.1) hsr.2
   omega
 ·obtain ⟨r,hr,rfl⟩:=List.mem_map.1 hrow
  have:=(h.rule r hr).long
  show r.Back.length≤_
  omega
 ·obtain ⟨r,hr,rfl⟩:=List.mem_map.1 hrow
  have:=(h.rule r hr).long
  show r.Back.length≤_
  omega
end
set_option maxHeartbeats 8000000 in
theorem DN (f:aY) (n:Nat) (l:bf) (hl:f.Lookups[n]?=some l) (h:yY f.Glyphs.length l) (hN0:0 < f.Glyphs.length) (hN:f.Glyphs.length≤65536):AC Tryz.prog 139 [cR f,aG n] [] fun c _=>∃a,yZ f.Glyphs.length l.Rules a∧c= .tup [.agg (MM a),aG 0]:=by
 refine aQ Tryz.func139 rfl Tryz.ntmps139 rfl fun B=>?_
 have hgl:(f.Glyphs.map bG).length=f.Glyphs.length:=Ou ..
 have hll:(f.Lookups.map bC).length=f.Lookups.length:=Ou ..
 have hrl:(l.Rules.map bN).length=l.Rules.length:=Ou ..
 have hnl:=(Ol hl).1
 have hlg:(f.Lookups.map bC)[n]?=some (bC l):=by simp [hl]
 have hfew:=h.few
 repeat' (first|refine O1 ?_|refine OE a7 KN ?_|refine ON KN ?_|refine br ?_|refine bi a7 fun _=>?_|fail)
 refine cH [1,2,4] False rfl (fun Q' K=>?_) (fun hC=>hC.elim) (fun _=>?_)
 ·repeat' (first|refine O1 ?_|refine OE a7 KN ?_|refine ON KN ?_|refine OP OA ?_|refine OR NZ (fun _=>?_) (fun _=>?_))
  all_goals exact K _ _ rfl rfl (by simp_all <;> omega)
 refine W0o ?_
 rename_i r4 _
 have hpd:=sO f.Glyphs.length hN0 hN (ep l.Rules) (u6 h.rule) (by have:=qM h.rule;omega)
 have hcls:=wD f.Glyphs.length (ep l.Rules) (nO h)
 have hso:=KE h hN
 have hsf:=tR _ _ _ (Hi h hN) (.fnB 220 [.agg (xz l.Rules (eg f.Glyphs.length (ep l.Rules)))] []) (ju.fnB (f:=220) (fs:=[.agg (xz l.Rules (eg f.Glyphs.length (ep l.Rules)))]) (caps:=[]) (Ef hso))
 have hsb:=tR _ _ _ (GD h hN) (.fnB 221 [.agg (xz l.Rules (eg f.Glyphs.length (ep l.Rules)))] []) (ju.fnB (f:=221) (fs:=[.agg (xz l.Rules (eg f.Glyphs.length (ep l.Rules)))]) (caps:=[]) (DG hso))
 refine aw rfl (fun h1=>?_) (fun h1=>?_)
 ·have:=Oy h1
  omega
 clear h1
 refine W03 ?_
 refine bM (bq (t:=7) (c':= .vec none 1 (aZ [])) rfl fun σ v h=>cM 1 h) ?_
 refine aJ [2,4,6,49,50] (α:=Nat×Option (Nat×Nat)) (fun s=>[(51,aG s.1),(7,.vec s.2 1 (aZ (ep (l.Rules.take s.1))))]) (fun s=>s.1≤l.Rules.length) (fun s=>(r4,.box [.sc (.slice none 0 0),.sc (.slice none 0 0),.sc (.slice none 0 0),.sc (.slice none 0 0),.sc (.slice none 0 0)] 241)::tok s.2 22 1 (ep (l.Rules.take s.1)).length) (fun s=>l.Rules.length - s.1) (0,none) rfl ⟨rfl,rfl,trivial⟩ (Nat.zero_le _) (fun _ _ hh=>hh) ?_
 ·rintro ⟨k,q⟩ hk
  dsimp only at hk ⊢
  try dsimp only [Oq,Oo,Om,Oh]
  refine W01 ?_
  refine aw rfl (fun h1=>?_) (fun h1=>?_)
  ·have hk2:k < l.Rules.length:=by have:=Oy h1;omega
   obtain ⟨r,hr⟩:∃z,l.Rules[k]?=some z:=⟨_,Oz hk2⟩
   have hrg:(l.Rules.map bN)[k]?=some (bN r):=by simp [hr]
   have hlong:=(h.rule r (Ow hr)).long
   have hal:=AU hr
   have hlen:(ep (l.Rules.take k)).length≤2400:=by
    have:=qM (N:=f.Glyphs.length) (rs:=l.Rules.take k) fun x hx=>h.rule x (List.mem_of_mem_take hx)
    rw [List.length_take] at this
    omega
   have hri:aZ (ep (l.Rules.take (k+1)))=aZ (ep (l.Rules.take k))++aZ r.Back++aZ r.In++aZ r.Ahead:=by rw [hal];simp [aZ]
   have hrl0:=cr (ep (l.Rules.take k))
   have hrl1:=cr r.Back
   have hrl2:=cr r.In
   have hrl3:=cr r.Ahead
   have hln:(ep (l.Rules.take (k+1))).length=(ep (l.Rules.take k)).length+r.Back.length+r.In.length+r.Ahead.length:=by rw [hal,List.length_append,List.length_append,List.length_append]
   generalize aZ (ep (l.Rules.take k))=A0 at *
   generalize (ep (l.Rules.take k)).length=n0 at *
   clear h1
   repeat' (first|refine O1 ?_|refine ak ?_|refine OE a7 KN ?_|(apply aV;first|refine aU a7 ?_|refine aN a7 ?_)|(apply aO;first|refine OG 9 a7 0 OD ?_|refine OG 9 a7 1 OD ?_|refine OG 9 a7 2 OD ?_|refine OG 10 a7 0 OD ?_|refine OG 10 a7 1 OD ?_|refine OG 10 a7 2 OD ?_|refine OF a7 0 OC ?_|refine OF a7 1 OC ?_|refine OF a7 2 OC ?_|refine OF a7 3 OC ?_|fail)|refine bi a7 fun _=>?_|fail)
   refine bA a7 [(r4,.box [.sc (.slice none 0 0),.sc (.slice none 0 0),.sc (.slice none 0 0),.sc (.slice none 0 0),.sc (.slice none 0 0)] 241)] rfl rfl rfl rfl (by rw [hrl0];exact List.perm_append_comm (l₁:=[_])) (by omega) (by omega) rfl fun q1=>?_
   refine W01 ?_
   refine bA a7 [(r4,.box [.sc (.slice none 0 0),.sc (.slice none 0 0),.sc (.slice none 0 0),.sc (.slice none 0 0),.sc (.slice none 0 0)] 241)] rfl rfl rfl rfl (Ok _) (by rw [List.length_append];omega) (by rw [List.length_append];omega) rfl fun q2=>?_
   refine W01 ?_
   refine bA a7 [(r4,.box [.sc (.slice none 0 0),.sc (.slice none 0 0),.sc (.slice none 0 0),.sc (.slice none 0 0),.sc (.slice none 0 0)] 241)] rfl rfl rfl rfl (Ok _) (by rw [List.length_append,List.length_append];omega) (by rw [List.length_append,List.length_append];omega) rfl fun q3=>?_
   refine W02 ?_
   refine aD (k+1,q3) rfl ⟨by rw [Ov];rfl,by dsimp only;rw [hri];rfl,trivial⟩ hk2 (by dsimp only;omega) (fun σ w hh=>?_)
   have h2:=hh.perm (List.perm_append_comm (l₂:=[_]))
   have h3:(A0++aZ r.Back++aZ r.In++aZ r.Ahead).length=(ep (l.Rules.take (k+1))).length:=by rw [hln,List.length_append,List.length_append,List.length_append];omega
   rw [h3] at h2
   exact h2
  ·have hk2:k=l.Rules.length:=by have:=Ox h1;omega
   subst hk2
   rw [List.take_length]
   haveI:AD Tryz.prog 218 [aG ((f.Glyphs.map bG).length:Nat),.imm 1 (aZ (ep l.Rules))] (.imm 1 (aL (eg f.Glyphs.length (ep l.Rules)))):=⟨by rw [hgl];exact hpd⟩
   clear h1
   repeat' (first|refine O1 ?_|refine OE a7 KN ?_|(apply aO;first|refine OG 9 a7 0 OD ?_|refine OG 9 a7 1 OD ?_|refine OG 9 a7 2 OD ?_|refine OG 10 a7 0 OD ?_|refine OG 10 a7 1 OD ?_|refine OG 10 a7 2 OD ?_|refine OF a7 0 OC ?_|refine OF a7 1 OC ?_|refine OF a7 2 OC ?_|refine OF a7 3 OC ?_|fail)|refine bi a7 fun _=>?_|(apply bg;refine b9 ?_)|fail)
   refine bh [] _ hsf rfl rfl (Ok _) rfl fun c1 L1 ⟨ft,fe,hf1,hc1⟩=>?_
   subst hc1
   refine aX (bS (List.sublist_append_right ..)) ?_
   refine W0m ?_
   refine bh [] _ hsb rfl rfl (Ok _) rfl fun c1 L1 ⟨bt,be,hb1,hc1⟩=>?_
   subst hc1
   refine aX (bS (List.sublist_append_right ..)) ?_
   repeat' (first|refine O1 ?_|refine OE a7 KN ?_|(apply aO;first|refine OG 9 a7 0 OD ?_|refine OG 9 a7 1 OD ?_|refine OG 9 a7 2 OD ?_|refine OG 10 a7 0 OD ?_|refine OG 10 a7 1 OD ?_|refine OG 10 a7 2 OD ?_|refine OF a7 0 OC ?_|refine OF a7 1 OC ?_|refine OF a7 2 OC ?_|refine OF a7 3 OC ?_|fail)|refine bj rfl ?_)
   exact fT (cs:=[.agg (MM ⟨eg f.Glyphs.length (ep l.Rules),ft,bt,fe,be⟩),aG 0]) [] ⟨⟨_,0,_,_,rfl,rfl,.inr ⟨dZ a7 rfl,rfl⟩⟩,rfl,trivial⟩ (List.nil_sublist _) ⟨⟨eg f.Glyphs.length (ep l.Rules),ft,bt,fe,be⟩,⟨hcls,hf1,hb1⟩,rfl⟩
end Go.Proofs.YtamjlkdanllgjaaGreatDoor
namespace Go.Proofs.YtamjlkdanllgjaaGreatDoor
open Go.RowKit
attribute [local irreducible] AT bF AX AO Av Kt b8 d9 DA cu
set_option maxRecDepth 8000
theorem iM {α:Type} {g:α→Nat} {k:Nat}:∀{l:List α} {m:Nat},m≤k→(∀x∈l,g x≤k)→l.foldl (fun m x=>max m (g x)) m≤k
 | [],_,h,_=>h
 | a::l,m,h,hl=>by
  rw [List.foldl_cons]
  exact iM (by have:=hl a (by simp);omega) fun x hx=>hl x (by simp [hx])
theorem BP (rs:List bJ):kv pB rs=Ed rs:=by
 funext n
 unfold kv Ed pB
 rfl
theorem xw (rs:List bJ) (gl:List Int):cw (gM (rs.map bJ.Back) (kv qX rs) gl) (rs.map bJ.Back).length=cw (gM (rs.map bJ.Back) (fun _=>true) gl) (rs.map bJ.Back).length:=by
 refine iG fun i=>?_
 rw [cy,cy]
 by_cases hi:i < (rs.map bJ.Back).length
 ·rw [Ou] at hi
  congr 1
  unfold gM kv
  rw [List.getElem?_map,Oz hi]
  rfl
 ·rw [decide_eq_false hi,Bool.false_and,Bool.false_and]
def GW (l:bf) (a:kZ):CS:=⟨l,a.cls,a.fore,a.back,a.foreE,a.backE⟩
theorem wX {cls:List Int} {rows:List (List (List Int))} {hv:Nat→Bool} {C:Nat} {tab:List (List Int)} {ends:List Nat} (h:sT cls rows hv C tab ends) (hr:rows.length≤6):∀z∈ends,z < 2 ^ 64:=by
 intro z hz
 obtain ⟨met,h0,h1,h2,h3,h4⟩:=h.met
 obtain ⟨i,hi⟩:=List.mem_iff_getElem?.1 hz
 have hil:=(Ol hi).1
 obtain ⟨p,hp⟩:∃p,met[i]?=some p:=⟨_,Oz (by omega)⟩
 have:=h3 i p hp
 rw [hi] at this
 cases this
 unfold jz
 split
 ·exact Nat.pow_pos (by omega)
 ·refine Nat.lt_of_le_of_lt Nat.and_le_right ?_
  exact ow (by omega)
theorem GC {N:Nat} {l:bf} (h:yY N l) {a:kZ} (hb:yZ N l.Rules a):qD (GW l a):=by
 have hcs:∀z∈a.cls,z.toNat < (gH a.cls).toNat:=fun z hz=>by
  have h1:=hb.cls.dom z hz
  omega
 have hf:∀r∈l.Rules,(fb r).length≤200∧r.Back.length≤200:=fun r hr=>by
  have:=(h.rule r hr).long
  have:=lh r
  omega
 refine ⟨h.few,⟨wX hb.fore (by rw [Ou];exact h.few),wX hb.back (by rw [Ou];exact h.few)⟩,fun gl=>?_,fun gl=>?_,?_,?_⟩
 ·have:=pR hb.cls (rows:=l.Rules.map fb) (fun fA hrow s hs=>?_) hb.fore hcs gl
  ·rw [BP] at this
   exact this
  ·obtain ⟨r,hr,rfl⟩:=List.mem_map.1 hrow
   have hbr:=h.rule r hr
   refine ⟨List.mem_flatMap.2 ⟨r,hr,?_⟩,?_⟩
   ·rw [List.mem_append,List.mem_append]
    rcases li hs with hs | hs
    ·exact .inl (.inr hs)
    ·exact .inr hs
   ·rcases li hs with hs | hs
    ·exact (hbr.in_ s hs).2
    ·exact (hbr.ahead s hs).2
 ·have:=pR hb.cls (rows:=l.Rules.map bJ.Back) (fun fA hrow s hs=>?_) hb.back hcs gl
  ·rw [xw] at this
   exact this
  ·obtain ⟨r,hr,rfl⟩:=List.mem_map.1 hrow
   exact ⟨List.mem_flatMap.2 ⟨r,hr,by rw [List.mem_append,List.mem_append];exact .inl (.inl hs)⟩,((h.rule r hr).back s hs).2⟩
 ·exact iM (by omega) fun r hr=>by have:=(h.rule r hr).long;show r.In.length+r.Ahead.length≤_;omega
 ·exact iM (by omega) fun r hr=>by have:=(h.rule r hr).long;show r.Back.length≤_;omega
end Go.Proofs.YtamjlkdanllgjaaGreatDoor
