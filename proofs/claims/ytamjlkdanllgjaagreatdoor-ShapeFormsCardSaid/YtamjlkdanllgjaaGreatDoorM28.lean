/-
  The rows of a lookup's rules: the walk.
-/
import Derived.Test.YtamjlkdanllgjaaGreatDoorM27
import Derived.Test.YtamjlkdanllgjaaGreatDoorM12
import Derived.Test.YtamjlkdanllgjaaGreatDoorM16
namespace Go.Proofs.YtamjlkdanllgjaaGreatDoor
open Go.RowKit
attribute [local irreducible] AT bz AX AO Av Kt aZ cY DA cu
set_option maxRecDepth 8000
abbrev vv (rs:List bh) (cls:List Int):List AV:=[.imm 6 (rs.map bR),.imm 1 (aT cls)]
def jc (w:bh→List (List Int)×Bool) (rs:List bh) (n:Nat):Bool:=match rs[n]? with
 | some r=>(w r).2
 | none=>false
def q7 (w:bh→List (List Int)×Bool) (rs:List bh) (cls:List Int):RD:=⟨rs.map fun r=>(w r).1,c9 (jc w rs) rs.length,cls,(fV cls).toNat⟩
theorem wv (l:List (List (List Int))) (r:List (List Int)):iR l++[[.imm 1 (bj r)]]=iR (l++[r]):=by simp [iR]
theorem w6 {l:List Int} {k:Nat} {z:Int} (h:l[k]?=some z):fV (l.take (k+1))=max (fV (l.take k)) (z+1):=by
 unfold fV
 rw [List.take_add_one,h]
 simp
set_option maxHeartbeats 8000000 in
theorem pj (w:bh→List (List Int)×Bool) (u:AV) (rs:List bh) (hrs:rs.length≤6) (hw:∀r∈rs,gF Tryz.prog u [.agg (bR r)] [] fun c _=>c= .tup [.imm 1 (bj (w r).1),cw (w r).2]) (cls:List Int) (hcl:∀z∈cls,0≤z∧z≤1000000) (hcl2:cls.length≤1000000):AC Tryz.prog 281 [.agg (vv rs cls),u] [] fun c L=>∃rb,c=eZ rb∧L=eH (q7 w rs cls) rb 0 none:=by
 refine aI Tryz.func281 rfl Tryz.ntmps281 rfl fun B=>?_
 have hrl:(rs.map bR).length=rs.length:=Mv ..
 have hil:=b7 cls
 repeat' (first|refine ae ?_|refine a6 ?_|refine ar ?_|refine a8 ?_|refine aa ?_|refine LR a7 LL ?_|refine xy (d:=15) fun _=>?_|refine bi ?_|fail)
 rename_i rb
 refine cm (dT 0 (cs':=[.vec none 1 [],iy 0,.imm 1 (aT cls),aF 0,.vec none 2 []]) rfl fun σ vs h=>mQ.vrs (a:=[.sc (.slice none 0 0),iy 0,.imm 1 (aT cls),aF 0,.sc (.slice none 0 0)]) (b:=[.vec none 1 [],iy 0,.imm 1 (aT cls),aF 0,.vec none 2 []]) ⟨fun σ v h=>eh 1 h,d4.refl _,d4.refl _,d4.refl _,fun σ v h=>eh 2 h,trivial⟩ h) ?_
 refine aN [1,2,5,17,18] (α:=Nat×Option (Nat×Nat)) (fun s=>[(19,aF s.1)]) (fun s=>s.1≤rs.length) (fun s=>(rb,.box [.vec s.2 1 (iR ((rs.take s.1).map fun r=>(w r).1)),iy (c9 (jc w rs) s.1),.imm 1 (aT cls),aF 0,.vec none 2 []] 384)::tok s.2 39 1 s.1) (fun s=>rs.length - s.1) (0,none) rfl ⟨rfl,trivial⟩ (Nat.zero_le _) (fun _ _ h=>h) ?_
 ·rintro ⟨n,q⟩ hn
  dsimp only at hn ⊢
  try dsimp only [Mt,Ms,Mr,Mn]
  repeat' (first|refine ae ?_|refine a6 ?_|refine a8 ?_|refine aa ?_|refine LR a7 LL ?_)
  refine aB rfl (fun h1=>?_) (fun h1=>?_)
  ·have hn2:n < rs.length:=by have:=Mz h1;omega
   obtain ⟨r,hr⟩:∃z,rs[n]?=some z:=⟨_,Ia hn2⟩
   have hrg:(rs.map bR)[n]?=some (bR r):=by simp [hr]
   have hwr:=hw r (Mx hr)
   have htk:((rs.take (n+1)).map fun r=>(w r).1)=((rs.take n).map fun r=>(w r).1)++[(w r).1]:=by rw [List.take_add_one,hr];simp
   have hbit:c9 (jc w rs) (n+1)=c9 (jc w rs) n ||| (if (w r).2=true then 2 ^ n else 0):=by
    rw [c9]
    unfold jc
    rw [hr]
   have hml:(iR ((rs.take n).map fun r=>(w r).1)).length=n:=by rw [rJ,Mv,List.length_take];omega
   have hsn:=wv ((rs.take n).map fun r=>(w r).1) (w r).1
   rw [←htk] at hsn
   have hb1:=mX (p:=jc w rs) (n:=n) (by omega)
   have hb2:=FR (n:=n) (by omega)
   have hub:=xV n (by omega)
   generalize iR ((rs.take n).map fun r=>(w r).1)=l3 at *
   clear h1
   repeat' (first|refine ae ?_|refine a6 ?_|refine ar ?_|refine aq ?_|refine a8 ?_|refine aa ?_|refine LR a7 LL ?_|(apply aL;first|refine aK a7 ?_|refine aH a7 ?_)|(apply aU;first|refine LT 7 a7 0 LQ ?_|refine LT 7 a7 1 LQ ?_|refine LT 7 a7 2 LQ ?_|refine LU a7 0 LP ?_|refine LU a7 1 LP ?_|refine LU a7 2 LP ?_|refine LU a7 3 LP ?_|fail)|refine bf a7 fun _=>?_|fail)
   refine gp [] ((rb,.box [.vec q 1 l3,iy (c9 (jc w rs) n),.imm 1 (aT cls),aF 0,.vec none 2 []] 384)::tok q 39 1 n) hwr rfl rfl (Mp _) rfl rfl fun c L1 hc=>?_
   subst hc
   refine bq (dE (List.sublist_append_right ..)) ?_
   repeat' (first|refine ae ?_|refine a6 ?_|refine a8 ?_|refine aa ?_|refine LR a7 LL ?_|(apply bL;first|refine LV a7 0 LO ?_|refine LV a7 1 LO ?_|refine LV a7 2 LO ?_|refine LV a7 3 LO ?_|refine LW a7 0 LO ?_|refine LW a7 1 LO ?_|refine LW a7 2 LO ?_|refine LZ a7 1 LM (by assumption) rfl ?_|refine LZ a7 0 LM (by assumption) rfl ?_|fail)|refine cA a7 ?_|fail)
   refine cr a7 [(rb,.box [.vec q 1 l3,iy (c9 (jc w rs) n),.imm 1 (aT cls),aF 0,.vec none 2 []] 384)] rfl rfl rfl rfl (by rw [hml];exact List.perm_append_comm (l₁:=[_])) (by rw [hml];simp;omega) (by rw [hml];simp;omega) rfl fun q'=>?_
   refine bq (b8 (L':=(rb,.box [.vec q 1 l3,iy (c9 (jc w rs) n),.imm 1 (aT cls),aF 0,.vec none 2 []] 384)::tok q' 39 1 (n+1)) (by rw [List.length_append,hml];exact List.perm_append_comm (l₂:=[_]))) ?_
   repeat' (first|refine ae ?_|refine a6 ?_|refine a8 ?_|refine aa ?_|refine LR a7 LL ?_|(apply aU;first|refine LT 7 a7 0 LQ ?_|refine LT 7 a7 1 LQ ?_|refine LT 7 a7 2 LQ ?_|refine LU a7 0 LP ?_|refine LU a7 1 LP ?_|refine LU a7 2 LP ?_|refine LU a7 3 LP ?_|fail))
   refine aB rfl (fun h1=>?_) (fun h1=>?_)
   ·rw [if_pos h1] at hbit
    repeat' (first|fail)
    refine bB 6 [(0,.v),(1,.v),(2,.v),(3,.l),(4,.v),(5,.v)] none ?_ trivial rfl (by kernel_rfl) (by kernel_rfl) (by kernel_rfl) mixed (by kernel_rfl) rfl
    repeat' (first|refine aJ ?_|refine bw a7 ?_|refine cn a7 0 rfl rfl rfl rfl (by first|trivial|rfl) ?_)
    refine vE n rfl rfl rfl trivial ?_
    repeat' (first|fail)
    refine MG [1,2,5,17,18,19,41,44,46] LL ?_
    refine sD rfl rfl rfl ?_
    rw [hub,u64_or_nat _ _ hb1 hb2,←hbit]
    repeat' (first|refine a6 ?_|refine a8 ?_|refine aP ?_|refine aa ?_|refine LR a7 LL ?_|(apply aY;refine aX ?_)|(apply aU;first|refine LT 7 a7 0 LQ ?_|refine LT 7 a7 1 LQ ?_|refine LT 7 a7 2 LQ ?_|refine LU a7 0 LP ?_|refine LU a7 1 LP ?_|refine LU a7 2 LP ?_|refine LU a7 3 LP ?_|fail))
    exact aE (n+1,q') rfl ⟨by rw [Mw];rfl,trivial⟩ hn2 (by dsimp only;omega) (fun _ _ h=>by dsimp only;rw [←hsn];exact h)
   ·rw [if_neg (by rw [h1];decide),Nat.or_zero] at hbit
    repeat' (first|refine a6 ?_|refine aq ?_|refine a8 ?_|refine aP ?_|refine aa ?_|refine LR a7 LL ?_|(apply aY;refine aX ?_)|fail)
    exact aE (n+1,q') rfl ⟨by rw [Mw];rfl,trivial⟩ hn2 (by dsimp only;omega) (fun _ _ h=>by dsimp only;rw [←hsn,hbit];exact h)
  ·have hn2:n=rs.length:=by have:=My h1;omega
   subst hn2
   rw [List.take_length]
   clear h1
   repeat' (first|refine ae ?_|refine a6 ?_|refine ar ?_|refine aO ?_|refine a8 ?_|refine av ?_|refine aC ?_|refine aA ?_|refine aa ?_|refine LR a7 LL ?_)
   refine aN [5,52,53] (α:=Nat) (fun k=>[(54,aF k)]) (fun k=>k≤cls.length) (fun k=>(rb,.box [.vec q 1 (iR (rs.map fun r=>(w r).1)),iy (c9 (jc w rs) rs.length),.imm 1 (aT cls),aF (fV (cls.take k)),.vec none 2 []] 384)::tok q 39 1 rs.length) (fun k=>cls.length - k) 0 rfl ⟨rfl,trivial⟩ (Nat.zero_le _) (fun _ _ h=>h) fun k hk=>?_
   try dsimp only [Mt,Ms,Mr,Mn]
   repeat' (first|refine ae ?_|refine a6 ?_|refine a8 ?_|refine aa ?_|refine LR a7 LL ?_)
   refine aB rfl (fun h1=>?_) (fun h1=>?_)
   ·have hk2:k < cls.length:=by have:=Mz h1;omega
    obtain ⟨z,hz⟩:∃z,cls[k]?=some z:=⟨_,Ia hk2⟩
    have hzg:=bH hz
    have hzb:=hcl z (Mx hz)
    have hmc:=w6 hz
    clear h1
    repeat' (first|refine ae ?_|refine a6 ?_|refine ar ?_|refine aq ?_|refine a8 ?_|refine aP ?_|refine aa ?_|refine LR a7 LL ?_|(apply bL;first|refine LV a7 0 LO ?_|refine LV a7 1 LO ?_|refine LV a7 2 LO ?_|refine LV a7 3 LO ?_|refine LW a7 0 LO ?_|refine LW a7 1 LO ?_|refine LW a7 2 LO ?_|refine LZ a7 1 LM (by assumption) rfl ?_|refine LZ a7 0 LM (by assumption) rfl ?_|fail)|(apply aY;refine aX ?_)|(apply aL;first|refine aK a7 ?_|refine aH a7 ?_)|(apply aU;first|refine LT 7 a7 0 LQ ?_|refine LT 7 a7 1 LQ ?_|refine LT 7 a7 2 LQ ?_|refine LU a7 0 LP ?_|refine LU a7 1 LP ?_|refine LU a7 2 LP ?_|refine LU a7 3 LP ?_|fail))
    exact aE (k+1) rfl ⟨by rw [Mw];rfl,trivial⟩ hk2 (by omega) (fun _ _ h=>by rw [hmc];exact h)
   ·have hk2:k=cls.length:=by have:=My h1;omega
    subst hk2
    rw [List.take_length]
    clear h1
    repeat' (first|refine ae ?_|refine a6 ?_|refine am ?_|refine aO ?_|refine a8 ?_|refine av ?_|refine aC ?_|refine aA ?_|refine aa ?_|refine LR a7 LL ?_)
    have hC:(fV cls)=(((fV cls).toNat:Nat):Int):=by have:=(pM (l:=cls) (m:=0)).1;unfold fV;omega
    refine br (dT 0 (cs':=DZ (q7 w rs cls) (.vec none 2 (yW (q7 w rs cls) 0))) rfl fun σ vs h=>mQ.vrs (a:=[.vec q 1 (iR (rs.map fun r=>(w r).1)),iy (c9 (jc w rs) rs.length),.imm 1 (aT cls),aF (fV cls),.vec none 2 []]) (b:=DZ (q7 w rs cls) (.vec none 2 (yW (q7 w rs cls) 0))) ⟨fun σ v h=>VR.im h,d4.refl _,d4.refl _,by unfold q7;dsimp only;rw [←hC];exact d4.refl _,d4.refl _,trivial⟩ h) ?_
    refine cL (L':=eH (q7 w rs cls) rb 0 none) (List.sublist_append_left [_] _) ?_
    exact MA LL ⟨rb,rfl,rfl⟩
def nU (r:bh):List (List Int)×Bool:=(du r, !r.In.isEmpty)
def pa (r:bh):List (List Int)×Bool:=(r.Back,true)
structure A4 (rs:List bh) (cls:List Int):Prop where
 few:rs.length≤6
 dom:∀z∈cls,0≤z∧z≤1000000
 len:cls.length≤1000000
 rows:∀r∈rs,r.In.length≤1000000∧r.Ahead.length≤1000000
theorem Br {rs:List bh} {cls:List Int} (h:A4 rs cls):AC Tryz.prog 220 [.agg (vv rs cls)] [] fun c L=>∃rb,c=eZ rb∧L=eH (q7 nU rs cls) rb 0 none:=by
 refine aI Tryz.func220 rfl Tryz.ntmps220 rfl fun B=>?_
 have hc:=pj nU (.sc (.func (.func 282) #[] #[])) rs h.few (fun r hr=>gF.fn0 (f:=282) (by rw [List.append_nil];exact yH r (h.rows r hr).1 (h.rows r hr).2)) cls h.dom h.len
 repeat' (first|refine ae ?_|refine a6 ?_|refine a8 ?_|refine aa ?_|refine LR a7 LL ?_|refine bi ?_|fail)
 refine aW [] [] hc rfl rfl (Mp _) rfl fun c L1 ⟨rb,hc1,hL⟩=>?_
 subst hc1;subst hL
 repeat' (first|refine am ?_|refine a8 ?_|refine aa ?_|refine LR a7 LL ?_)
 exact MA LL ⟨rb,rfl,by rw [List.append_nil]⟩
theorem AJ {rs:List bh} {cls:List Int} (h:A4 rs cls):AC Tryz.prog 221 [.agg (vv rs cls)] [] fun c L=>∃rb,c=eZ rb∧L=eH (q7 pa rs cls) rb 0 none:=by
 refine aI Tryz.func221 rfl Tryz.ntmps221 rfl fun B=>?_
 have hc:=pj pa (.sc (.func (.func 283) #[] #[])) rs h.few (fun r _=>gF.fn0 (f:=283) (by rw [List.append_nil];exact yf r)) cls h.dom h.len
 repeat' (first|refine ae ?_|refine a6 ?_|refine a8 ?_|refine aa ?_|refine LR a7 LL ?_|refine bi ?_|fail)
 refine aW [] [] hc rfl rfl (Mp _) rfl fun c L1 ⟨rb,hc1,hL⟩=>?_
 subst hc1;subst hL
 repeat' (first|refine am ?_|refine a8 ?_|refine aa ?_|refine LR a7 LL ?_)
 exact MA LL ⟨rb,rfl,by rw [List.append_nil]⟩
set_option maxRecDepth 8000
structure SS where
 M:List Pl
 q:Option (Nat×Nat)
 k:Nat
 qr:Option (Nat×Nat)
abbrev hd4 (R:RD) (nb kb mb rb:Nat) (s:SS) (X:AL):AL:=(nb,.box [.sc (.map (some kb))] 196)::(kb,bV .string (ta s.M))::(mb,.box [.vec s.q 2 (s.M.map lf)] 375)::q8 R rb s.k s.qr::(tok s.q 377 2 s.M.length++(tok s.qr 444 2 s.k++X))
theorem sl {R:RD} {nb kb mb rb:Nat} {s:SS} {X:AL}:(hd4 R nb kb mb rb s X).Perm (sB nb kb mb s.M s.q++(q8 R rb s.k s.qr::(tok s.qr 444 2 s.k++X))):=by
 unfold sB
 refine List.Perm.cons _ (List.Perm.cons _ (List.Perm.cons _ ?_))
 exact (List.perm_middle (l₁:=tok s.q 377 2 s.M.length)).symm
theorem ma {R:RD} {nb kb mb rb:Nat} {s:SS} {X:AL}:(hd4 R nb kb mb rb s X).Perm (eH R rb s.k s.qr++((nb,.box [.sc (.map (some kb))] 196)::(kb,bV .string (ta s.M))::(mb,.box [.vec s.q 2 (s.M.map lf)] 375)::(tok s.q 377 2 s.M.length++X))):=by
 have h1:(hd4 R nb kb mb rb s X).Perm (q8 R rb s.k s.qr::([(nb,.box [.sc (.map (some kb))] 196),(kb,bV .string (ta s.M)),(mb,.box [.vec s.q 2 (s.M.map lf)] 375)]++(tok s.q 377 2 s.M.length++(tok s.qr 444 2 s.k++X)))):=List.perm_middle (l₁:=[_,_,_])
 refine h1.trans (List.Perm.cons _ ?_)
 rw [←List.append_assoc]
 refine (List.perm_append_comm_assoc _ (tok s.qr 444 2 s.k) X).trans ?_
 rw [List.append_assoc]
 exact Mp _
theorem u6 {R:RD} {nb kb mb rb:Nat} {s:SS} {X:AL} {a:Nat×AB}:(a::hd4 R nb kb mb rb s X).Perm (sB nb kb mb s.M s.q++(a::q8 R rb s.k s.qr::(tok s.qr 444 2 s.k++X))):=(List.Perm.cons a sl).trans List.perm_middle.symm
theorem u7 {R:RD} {nb kb mb rb:Nat} {s:SS} {X:AL} {a:Nat×AB}:(a::hd4 R nb kb mb rb s X).Perm (eH R rb s.k s.qr++(a::(nb,.box [.sc (.map (some kb))] 196)::(kb,bV .string (ta s.M))::(mb,.box [.vec s.q 2 (s.M.map lf)] 375)::(tok s.q 377 2 s.M.length++X))):=(List.Perm.cons a ma).trans List.perm_middle.symm
theorem Kh {a b c:Nat×AB} {X:AL}:(a::b::c::X).Perm (b::c::a::X):=(List.Perm.swap b a _).trans (.cons b (List.Perm.swap c a _))
theorem Kk {A T1 T2 T R:AL}:(A++(T1++(T2++(T++R)))).Perm (T++(A++(T1++(T2++R)))):=by
 rw [←List.append_assoc T1,←List.append_assoc A,←List.append_assoc T1 T2 R,←List.append_assoc A (T1++T2) R]
 exact List.perm_append_comm_assoc ..
theorem Kl {A T1 T2 T3 T4:AL}:(A++(T1++(T2++(T3++T4)))).Perm (T4++(A++(T1++(T2++T3)))):=by
 rw [←List.append_assoc T2,←List.append_assoc T1,←List.append_assoc A]
 exact List.perm_append_comm
abbrev IT (R:RD) (nb kb mb rb:Nat) (s:SS):AL:=[(nb,.box [.sc (.map (some kb))] 196),(kb,bV .string (ta s.M)),(mb,.box [.vec s.q 2 (s.M.map lf)] 375),q8 R rb s.k s.qr]
theorem xo {R:RD} {nb kb mb rb:Nat} {s:SS} {T X:AL}:(hd4 R nb kb mb rb s (T++X)).Perm (T++hd4 R nb kb mb rb s X):=Kk (A:=IT R nb kb mb rb s)
theorem xn {R:RD} {nb kb mb rb:Nat} {s:SS} {T X:AL}:(hd4 R nb kb mb rb s (T++X)).Perm (X++hd4 R nb kb mb rb s T):=Kl (A:=IT R nb kb mb rb s)
structure KD where
 s:SS
 tab:List (List Int)
 qt:Option (Nat×Nat)
 ends:List Nat
 qe:Option (Nat×Nat)
abbrev LE (t:KD):AL:=tok t.qt 22 1 t.tab.length++tok t.qe 194 1 t.ends.length
theorem o5 {M:List Pl} {n:Nat} {p:Pl} (h:M[n]?=some p):(M.map lf)[n]?=some (lf p):=by simp [h]
structure A5 (R:RD) (hv:Nat→Bool) (Lb:Nat):Prop where
 ok:zY R
 has:R.have_=c9 hv R.rows.length
 long:∀r∈R.rows,r.length≤Lb
 few:Lb≤200
theorem A5.small {R:RD} {hv:Nat→Bool} {Lb:Nat} (h:A5 R hv Lb) {M:List Pl} (hs:ix R.rows hv Lb M):(∀x∈M,jL x)∧M.length≤20000:=by
 have hf:=h.few
 have hr:=h.ok.few
 have h64:2 ^ R.rows.length≤64:=Nat.pow_le_pow_right (n:=2) (by omega) hr
 constructor
 ·intro x hx
  obtain ⟨h1,h2⟩:=hs.small x hx
  exact ⟨by omega,by omega⟩
 ·have:=hs.few
  have h3:(Lb+1) * 2 ^ R.rows.length≤201 * 64:=Nat.mul_le_mul (by omega) h64
  omega
set_option maxHeartbeats 16000000 in
theorem rM (R:RD) (hv:Nat→Bool) (Lb:Nat) (h:A5 R hv Lb) (u:AV) (hu:gF Tryz.prog u [] [] fun c L=>∃rb,c=eZ rb∧L=eH R rb 0 none):AC Tryz.prog 219 [u] [] fun c _=>∃tab ends,qR R.cls R.rows hv R.C tab ends∧c= .tup [.imm 1 (bj tab),.imm 1 (fR ends),cw true]:=by
 refine aI Tryz.func219 rfl Tryz.ntmps219 rfl fun B=>?_
 repeat' (first|refine ae ?_|refine a6 ?_|refine a8 ?_|refine aa ?_|refine LR a7 LL ?_)
 refine gp [] [] hu rfl rfl (Mp _) rfl rfl fun c L1 ⟨rb,hc,hL⟩=>?_
 subst hc;subst hL
 repeat' (first|refine ae ?_|refine a6 ?_|refine a8 ?_|refine aa ?_|refine LR a7 LL ?_)
 refine dJ .string fun kb=>?_
 repeat' (first|refine ae ?_|refine a6 ?_|refine a8 ?_|refine aa ?_|refine LR a7 LL ?_|(apply aU;first|refine LT 12 a7 0 LQ ?_|refine LT 12 a7 1 LQ ?_|refine LT 12 a7 2 LQ ?_|refine LU a7 0 LP ?_|refine LU a7 1 LP ?_|refine LU a7 2 LP ?_|refine LU a7 3 LP ?_|fail)|refine bf a7 fun _=>?_|fail)
 rename_i nb mb
 have hok:=h.ok
 obtain ⟨hCm,hNm⟩:=hok.many
 refine bq (dT 0 (cs':=[.vec none 2 []]) rfl fun σ vs hh=>mQ.vrs (a:=[.sc (.slice none 0 0)]) (b:=[.vec none 2 []]) ⟨fun σ v h=>eh 2 h,trivial⟩ hh) ?_
 refine bq (b8 (L':=hd4 R nb kb mb rb ⟨[],none,0,none⟩ []) (by unfold hd4;rw [Fq];exact Kh)) ?_
 refine aW (eH R rb 0 none) _ (zl R rb 0 none (by omega)) rfl rfl ma rfl fun c L1 ⟨hc,k0,qr0,hk0,hL⟩=>?_
 subst hc;subst hL
 refine bq (b8 (L':=hd4 R nb kb mb rb ⟨[],none,k0,qr0⟩ []) (ma (s:=⟨[],none,k0,qr0⟩)).symm) ?_
 have hst0:ix R.rows hv Lb [((0,R.have_):Pl)]:=by
  have:=ix.start (rows:=R.rows) (have_:=hv) (L:=Lb)
  unfold lj at this
  rwa [←h.has] at this
 have hsm0:=(h.small hst0).1 (0,R.have_) (by simp)
 have hme0:=xu nb kb mb [] (fun x hx=>by cases hx) (by simp) none (0,R.have_) hsm0
 repeat' (first|fail)
 refine gp (sB nb kb mb [] none) _ (gF.fn (f:=276) (caps:=[eZ nb,eZ mb]) hme0) rfl rfl sl rfl rfl fun c L1 ⟨hc,q0,hL⟩=>?_
 subst hc;subst hL
 refine bq (b8 (L':=hd4 R nb kb mb rb ⟨[(0,R.have_)],q0,k0,qr0⟩ []) (sl (s:=⟨[(0,R.have_)],q0,k0,qr0⟩)).symm) ?_
 repeat' (first|refine ae ?_|refine a6 ?_|refine ar ?_|refine a8 ?_|refine aa ?_|refine LR a7 LL ?_)
 refine cm (bE (t:=2) (c':= .vec none 1 (bj [])) rfl fun σ v h=>eh 1 h) ?_
 refine cm (bE (t:=3) (c':= .vec none 1 (fR [])) rfl fun σ v h=>eh 1 h) ?_
 refine aN [5,7,8] (α:=KD) (fun t=>[(9,aF t.tab.length),(2,.vec t.qt 1 (bj t.tab)),(3,.vec t.qe 1 (fR t.ends))]) (fun t=>ix R.rows hv Lb t.s.M∧fY R.cls R.rows R.C t.s.M t.tab t.ends∧t.tab.length≤t.s.M.length∧t.s.k≤1000001) (fun t=>hd4 R nb kb mb rb t.s (LE t)) (fun t=>20000 - t.tab.length) ⟨⟨[(0,R.have_)],q0,k0,qr0⟩,[],none,[],none⟩ rfl ⟨rfl,rfl,rfl,trivial⟩ ⟨hst0,fY.nil,Nat.zero_le _,hk0⟩ (fun _ _ hh=>hh) ?_
 rintro ⟨⟨M,q,k,qr⟩,tab,qt,ends,qe⟩ ⟨hst,htb,htl,hk⟩
 dsimp only at hst htb htl hk ⊢
 try dsimp only [Mt,Ms,Mr,Mn]
 have hml:(M.map lf).length=M.length:=Mv ..
 obtain ⟨hsm,hM2⟩:=h.small hst
 repeat' (first|refine ae ?_|refine a6 ?_|refine a8 ?_|refine aa ?_|refine LR a7 LL ?_|(apply bL;first|refine LV a7 0 LO ?_|refine LV a7 1 LO ?_|refine LV a7 2 LO ?_|refine LV a7 3 LO ?_|refine LW a7 0 LO ?_|refine LW a7 1 LO ?_|refine LW a7 2 LO ?_|refine LZ a7 1 LM (by assumption) rfl ?_|refine LZ a7 0 LM (by assumption) rfl ?_|fail)|fail)
 refine aB rfl (fun h1=>?_) (fun h1=>?_)
 ·have hn2:tab.length < M.length:=by have h1':(tab.length:Int) < ((M.map lf).length:Int):=Mz h1;omega
  obtain ⟨p,hp⟩:∃p,M[tab.length]?=some p:=⟨_,Ia hn2⟩
  clear h1
  repeat' (first|refine ae ?_|refine a6 ?_|refine ar ?_|refine aq ?_|refine a8 ?_|refine LR a7 LL ?_|(apply bL;first|refine LV a7 0 LO ?_|refine LV a7 1 LO ?_|refine LV a7 2 LO ?_|refine LV a7 3 LO ?_|refine LW a7 0 LO ?_|refine LW a7 1 LO ?_|refine LW a7 2 LO ?_|refine LZ a7 1 LM (by assumption) rfl ?_|refine LZ a7 0 LM (by assumption) rfl ?_|fail)|fail)
  refine dS a7 R.C rfl rfl rfl rfl rfl rfl rfl (by omega) (by omega) rfl fun rwb=>?_
  rw [show (List.replicate R.C (List.map AV.sc [Value.int .i64 0])).flatten=dt (List.replicate R.C 0) from nP R.C]
  repeat' (first|refine ae ?_|refine a6 ?_|refine ar ?_|refine a8 ?_|refine aa ?_|refine LR a7 LL ?_)
  refine aN [2,3,5,7,8,9,10,33] (α:=Nat×SS×List Int) (fun t=>[(34,aF t.1)]) (fun t=>t.1≤R.C∧ix R.rows hv Lb t.2.1.M∧fY R.cls R.rows R.C t.2.1.M tab ends∧t.2.1.M[tab.length]?=some p∧t.2.2.length=R.C∧t.2.1.k≤1000001∧∀(c:Nat) z,c < t.1→t.2.2[c]?=some z→ij R.cls R.rows t.2.1.M p c z) (fun t=>(rwb,.box (dt t.2.2) 3)::hd4 R nb kb mb rb t.2.1 (tok qt 22 1 tab.length++tok qe 194 1 ends.length)) (fun t=>R.C - t.1) (0,⟨M,q,k,qr⟩,List.replicate R.C 0) rfl ⟨rfl,trivial⟩ ⟨Nat.zero_le _,hst,htb,hp,by simp,hk,fun c z hc=>by omega⟩ (fun _ _ hh=>hh) ?_
  ·rintro ⟨c,⟨M1,q1,k1,qr1⟩,ey⟩ ⟨hc,hst1,htb1,hp1,hrl,hk1,hce⟩
   dsimp only at hc hst1 htb1 hp1 hrl hk1 hce ⊢
   try dsimp only [Mt,Ms,Mr,Mn]
   have hcl:=gO ey
   obtain ⟨hsm1,hM1⟩:=h.small hst1
   repeat' (first|refine ae ?_|refine a6 ?_|refine a8 ?_|refine aa ?_|refine LR a7 LL ?_)
   refine aB rfl (fun h1=>?_) (fun h1=>?_)
   ·have hc2:c < R.C:=by have:=Mz h1;omega
    have hpg:=o5 hp1
    have hps:=hst1.small p (Mx hp1)
    have hps2:=hsm1 p (Mx hp1)
    have hbe:=yh R hok rb k1 qr1 hk1 p (by have:=hps2.1;omega) (by have:=hps2.2;omega) c hc2
    have hst':=gP (l:=ey) (i:=c) (z:= -1)
    clear h1
    repeat' (first|refine ae ?_|refine a6 ?_|refine ar ?_|refine aq ?_|refine a8 ?_|refine aa ?_|refine LR a7 LL ?_|(apply aL;first|refine aK a7 ?_|refine aH a7 ?_)|fail)
    refine aj a7 0 rfl rfl rfl rfl rfl rfl (Nat.ble_eq_true_of_le (by rw [hcl,hrl,Int.toNat_natCast];show 0+c * 1+1≤_;omega)) ?_
    rw [hst']
    refine aa ?_
    refine a8 ?_
    refine cm (b8 (L':=(rwb,.box (dt (ey.set c (-1))) 3)::hd4 R nb kb mb rb ⟨M1,q1,k1,qr1⟩ (tok qt 22 1 tab.length++tok qe 194 1 ends.length)) (Mp _)) ?_
    repeat' (first|refine ae ?_|refine a6 ?_|refine LR a7 LL ?_|(apply bL;first|refine LV a7 0 LO ?_|refine LV a7 1 LO ?_|refine LV a7 2 LO ?_|refine LV a7 3 LO ?_|refine LW a7 0 LO ?_|refine LW a7 1 LO ?_|refine LW a7 2 LO ?_|refine LZ a7 1 LM (by assumption) rfl ?_|refine LZ a7 0 LM (by assumption) rfl ?_|fail)|(apply aL;first|refine aK a7 ?_|refine aH a7 ?_)|fail)
    refine aW (eH R rb k1 qr1) _ hbe rfl rfl u7 rfl fun c1 L1 ⟨hc1,k2,qr2,hk2,hL⟩=>?_
    subst hc1;subst hL
    refine bq (b8 (L':=(rwb,.box (dt (ey.set c (-1))) 3)::hd4 R nb kb mb rb ⟨M1,q1,k2,qr2⟩ (tok qt 22 1 tab.length++tok qe 194 1 ends.length)) (u7 (s:=⟨M1,q1,k2,qr2⟩)).symm) ?_
    have hrs:(ey.set c (-1)).length=R.C:=by rw [List.length_set];exact hrl
    have hrs2:=gO (ey.set c (-1))
    repeat' (first|refine ae ?_|refine a6 ?_|refine a8 ?_|refine aa ?_|refine LR a7 LL ?_|(apply aU;first|refine LT 12 a7 0 LQ ?_|refine LT 12 a7 1 LQ ?_|refine LT 12 a7 2 LQ ?_|refine LU a7 0 LP ?_|refine LU a7 1 LP ?_|refine LU a7 2 LP ?_|refine LU a7 3 LP ?_|fail)|refine bf a7 fun _=>?_|fail)
    refine aB rfl (fun h1=>?_) (fun h1=>?_)
    ·have hne:(bU R.cls R.rows p c).2≠0:=by
      intro e
      have h1':((bU R.cls R.rows p c).2:Int)≠0:=Mz h1
      rw [e] at h1'
      exact h1' rfl
     have hst2:=hst1.meet h.long hne
     have hsm2:=(h.small hst2).1
     have hme:=xu nb kb mb M1 hsm1 (by omega) q1 (bU R.cls R.rows p c) (hsm2 _ (kj _ _))
     have hput:=gP (l:=ey.set c (-1)) (i:=c) (z:=((dI M1 (bU R.cls R.rows p c)).idxOf (bU R.cls R.rows p c):Nat))
     have hcn:=ij.new (M:=M1) hne
     have htm:=htb1.more (by have:=(Mq hp1).1;omega) (bU R.cls R.rows p c)
     have hpm:=mD (bU R.cls R.rows p c) hp1
     have hcm:∀(c':Nat) z,c' < c→ey[c']?=some z→ij R.cls R.rows (dI M1 (bU R.cls R.rows p c)) p c' z:=fun c' z h1 h2=>(hce c' z h1 h2).more
     clear h1
     repeat' (first|refine a6 ?_|refine LR a7 LL ?_)
     refine gp (sB nb kb mb M1 q1) _ (gF.fn (f:=276) (caps:=[eZ nb,eZ mb]) hme) rfl rfl u6 rfl rfl fun c2 L2 ⟨hc2',q2,hL⟩=>?_
     subst hc2';subst hL
     refine bq (b8 (L':=(rwb,.box (dt (ey.set c (-1))) 3)::hd4 R nb kb mb rb ⟨dI M1 (bU R.cls R.rows p c),q2,k2,qr2⟩ (tok qt 22 1 tab.length++tok qe 194 1 ends.length)) (u6 (s:=⟨dI M1 (bU R.cls R.rows p c),q2,k2,qr2⟩)).symm) ?_
     repeat' (first|(apply aL;first|refine aK a7 ?_|refine aH a7 ?_)|fail)
     refine aj a7 0 rfl rfl rfl rfl rfl rfl (Nat.ble_eq_true_of_le (by rw [hrs2,hrs,Int.toNat_natCast];show 0+c * 1+1≤_;omega)) ?_
     rw [hput]
     repeat' (first|refine a6 ?_|refine a8 ?_|refine aP ?_|refine aa ?_|refine LR a7 LL ?_|(apply aY;refine aX ?_)|fail)
     refine aE (c+1,⟨dI M1 (bU R.cls R.rows p c),q2,k2,qr2⟩,(ey.set c (-1)).set c ((dI M1 (bU R.cls R.rows p c)).idxOf (bU R.cls R.rows p c):Nat)) rfl ⟨by rw [Mw];rfl,trivial⟩ ⟨hc2,hst2,htm,hpm,by rw [List.length_set];exact hrs,hk2,fun c' z h1 h2=>?_⟩ (by dsimp only;omega) (fun _ _ hh=>hh)
     by_cases he:c'=c
     ·subst he
      rw [List.getElem?_set_self (by omega)] at h2
      cases h2
      exact hcn
     ·rw [List.getElem?_set_ne (fun e=>he e.symm),List.getElem?_set_ne (fun e=>he e.symm)] at h2
      exact hcm c' z (by dsimp only at h1;omega) h2
    ·have he0:(bU R.cls R.rows p c).2=0:=by
      have h1':¬((bU R.cls R.rows p c).2:Int)≠0:=My h1
      omega
     clear h1
     repeat' (first|refine a6 ?_|refine aq ?_|refine a8 ?_|refine aP ?_|refine aa ?_|refine LR a7 LL ?_|(apply aY;refine aX ?_)|fail)
     refine aE (c+1,⟨M1,q1,k2,qr2⟩,ey.set c (-1)) rfl ⟨by rw [Mw];rfl,trivial⟩ ⟨hc2,hst1,htb1,hp1,hrs,hk2,fun c' z h1 h2=>?_⟩ (by dsimp only;omega) (fun _ _ hh=>hh)
     by_cases he:c'=c
     ·subst he
      rw [List.getElem?_set_self (by omega)] at h2
      cases h2
      exact .inl ⟨he0,rfl⟩
     ·rw [List.getElem?_set_ne (fun e=>he e.symm)] at h2
      exact hce c' z (by dsimp only at h1;omega) h2
   ·have hc2:c=R.C:=by have:=My h1;omega
    subst hc2
    have hn3:tab.length < M1.length:=(Mq hp1).1
    have hpg:=o5 hp1
    have hps2:=hsm1 p (Mx hp1)
    have hml1:(M1.map lf).length=M1.length:=Mv ..
    have hen:=Eu R hok rb k1 qr1 hk1 p (by have:=hps2.1;omega) (by have:=hps2.2;omega)
    have htl3:=c8 tab
    have hul3:=mI ends
    have hsn:=htb1.snoc hp1 hrl fun c' z h2=>hce c' z (by have:=(Mq h2).1;omega) h2
    have hel:=htb1.len
    clear h1
    repeat' (first|refine ae ?_|refine a6 ?_|refine aO ?_|refine a8 ?_|refine av ?_|refine aC ?_|refine aA ?_|refine aa ?_|refine LR a7 LL ?_|(apply bL;first|refine LV a7 0 LO ?_|refine LV a7 1 LO ?_|refine LV a7 2 LO ?_|refine LV a7 3 LO ?_|refine LW a7 0 LO ?_|refine LW a7 1 LO ?_|refine LW a7 2 LO ?_|refine LZ a7 1 LM (by assumption) rfl ?_|refine LZ a7 0 LM (by assumption) rfl ?_|fail)|fail)
    refine aB rfl (fun h1=>?_) (fun h1=>?_)
    ·have h1':(20000:Int) < ((M1.map lf).length:Int):=Mz h1
     omega
    clear h1
    refine cm (cP (t:=10) (sz:=1) (n:=R.C) (cap:=R.C) (l:=aT ey) 0 rfl rfl (by rw [←nO,Nat.mul_one,List.take_of_length_le (by omega)]) (by omega) (fun e he=>by unfold aT at he;obtain ⟨y,_,rfl⟩:=List.mem_map.1 he;rfl) (by rw [b7];exact hrl) (Nat.le_refl _) (by unfold maxLen;omega)) ?_
    repeat' (first|refine ae ?_|refine a6 ?_|refine aq ?_|refine a8 ?_|refine LR a7 LL ?_|refine cA a7 ?_|fail)
    refine cr a7 (hd4 R nb kb mb rb ⟨M1,q1,k1,qr1⟩ (tok qe 194 1 ends.length)) rfl rfl rfl rfl (by rw [htl3];exact xo) (by rw [htl3];simp;omega) (by rw [htl3];simp;omega) rfl fun qt'=>?_
    have hrsn:bj tab++[[AV.imm 1 (aT ey)]]=bj (tab++[ey]):=by simp [bj]
    refine bq (b8 (L':=hd4 R nb kb mb rb ⟨M1,q1,k1,qr1⟩ (tok qt' 22 1 (bj tab++[[AV.imm 1 (aT ey)]]).length++tok qe 194 1 ends.length)) xo.symm) ?_
    repeat' (first|refine a6 ?_|refine a8 ?_|refine aa ?_|refine LR a7 LL ?_|(apply bL;first|refine LV a7 0 LO ?_|refine LV a7 1 LO ?_|refine LV a7 2 LO ?_|refine LV a7 3 LO ?_|refine LW a7 0 LO ?_|refine LW a7 1 LO ?_|refine LW a7 2 LO ?_|refine LZ a7 1 LM (by assumption) rfl ?_|refine LZ a7 0 LM (by assumption) rfl ?_|fail)|(apply aL;first|refine aK a7 ?_|refine aH a7 ?_)|fail)
    refine aW (eH R rb k1 qr1) _ hen rfl rfl ma rfl fun c1 L1 ⟨hc1,k2,qr2,hk2,hL⟩=>?_
    subst hc1;subst hL
    refine bq (b8 (L':=hd4 R nb kb mb rb ⟨M1,q1,k2,qr2⟩ (tok qt' 22 1 (bj tab++[[AV.imm 1 (aT ey)]]).length++tok qe 194 1 ends.length)) (ma (s:=⟨M1,q1,k2,qr2⟩)).symm) ?_
    repeat' (first|refine cA a7 ?_|fail)
    refine cr a7 (hd4 R nb kb mb rb ⟨M1,q1,k2,qr2⟩ (tok qt' 22 1 (bj tab++[[AV.imm 1 (aT ey)]]).length)) rfl rfl rfl rfl (by rw [hul3];exact xn) (by rw [hul3];simp;omega) (by rw [hul3];simp;omega) rfl fun qe'=>?_
    have husn:fR ends++[[iy (iC R.rows p)]]=fR (ends++[iC R.rows p]):=by simp [fR]
    refine bq (b8 (L':=hd4 R nb kb mb rb ⟨M1,q1,k2,qr2⟩ (tok qt' 22 1 (bj tab++[[AV.imm 1 (aT ey)]]).length++tok qe' 194 1 (fR ends++[[iy (iC R.rows p)]]).length)) xn.symm) ?_
    repeat' (first|refine a6 ?_|refine a8 ?_|refine aP ?_|refine aa ?_|refine LR a7 LL ?_|(apply aY;refine aX ?_)|fail)
    have hll:(tab++[ey]).length=tab.length+1:=by simp
    refine aE ⟨⟨M1,q1,k2,qr2⟩,tab++[ey],qt',ends++[iC R.rows p],qe'⟩ rfl ⟨?_,by dsimp only;rw [←hrsn];rfl,by dsimp only;rw [←husn];rfl,trivial⟩ ⟨hst1,hsn,by dsimp only;omega,hk2⟩ (by dsimp only;omega) (fun _ _ hh=>?_)
    ·dsimp only
     rw [hll,Mw]
     rfl
    ·dsimp only
     rw [hrsn,husn,c8,mI] at hh
     exact hh
 ·have hn2:tab.length=M.length:=by
   have h1':¬(tab.length:Int) < ((M.map lf).length:Int):=My h1
   omega
  clear h1
  repeat' (first|refine ae ?_|refine a6 ?_|refine am ?_|refine aO ?_|refine a8 ?_|refine av ?_|refine aC ?_|refine aA ?_|refine aa ?_|refine LR a7 LL ?_)
  refine br (bE (t:=2) (c':= .imm 1 (bj tab)) rfl fun σ v h=>VR.im h) ?_
  refine br (bE (t:=3) (c':= .imm 1 (fR ends)) rfl fun σ v h=>VR.im h) ?_
  exact ff (cs:=[.imm 1 (bj tab),.imm 1 (fR ends),cw true]) [] ⟨rfl,rfl,rfl,trivial⟩ (List.nil_sublist _) ⟨tab,ends,htb.done hst hn2,rfl⟩
set_option maxRecDepth 8000
structure th (N:Nat) (r:bh):Prop where
 back:∀s∈r.Back,jK s∧∀g∈s,0≤g∧g < (N:Int)
 in_:∀s∈r.In,jK s∧∀g∈s,0≤g∧g < (N:Int)
 ahead:∀s∈r.Ahead,jK s∧∀g∈s,0≤g∧g < (N:Int)
 long:r.Back.length≤200∧r.In.length+r.Ahead.length≤200
structure wM (N:Nat) (l:b6):Prop where
 few:l.Rules.length≤6
 rule:∀r∈l.Rules,th N r
def dM (rs:List bh):List (List Int):=rs.flatMap fun r=>r.Back++r.In++r.Ahead
theorem y7 {rs:List bh} {k:Nat} {r:bh} (h:rs[k]?=some r):dM (rs.take (k+1))=dM (rs.take k)++r.Back++r.In++r.Ahead:=by
 unfold dM
 rw [List.take_add_one,h]
 simp
theorem oW {N:Nat}:∀{rs:List bh},(∀r∈rs,th N r)→(dM rs).length≤400 * rs.length
 | [],_=>by simp [dM]
 | r::rs,h=>by
  have ih:=oW (rs:=rs) fun x hx=>h x (by simp [hx])
  have hr:=(h r (by simp)).long
  unfold dM at ih ⊢
  rw [List.flatMap_cons,List.length_append,List.length_append,List.length_append,List.length_cons]
  omega
theorem s3 {N:Nat} {rs:List bh} (h:∀r∈rs,th N r):∀s∈dM rs,jK s∧∀g∈s,0≤g∧g < (N:Int):=by
 intro s hs
 unfold dM at hs
 obtain ⟨r,hr,hs⟩:=List.mem_flatMap.1 hs
 rw [List.mem_append,List.mem_append] at hs
 rcases hs with (hs | hs) | hs
 ·exact (h r hr).back s hs
 ·exact (h r hr).in_ s hs
 ·exact (h r hr).ahead s hs
structure jH where
 cls:List Int
 fore:List (List Int)
 back:List (List Int)
 foreE:List Nat
 backE:List Nat
def K0 (a:jH):List AV:=[.imm 1 (aT a.cls),.imm 1 (bj a.fore),.imm 1 (bj a.back),.imm 1 (fR a.foreE),.imm 1 (fR a.backE)]
structure wN (N:Nat) (rs:List bh) (a:jH):Prop where
 cls:tj N (fV a.cls).toNat a.cls (dM rs)
 fore:qR a.cls (rs.map fun r=>(nU r).1) (jc nU rs) (fV a.cls).toNat a.fore a.foreE
 back:qR a.cls (rs.map fun r=>(pa r).1) (jc pa rs) (fV a.cls).toNat a.back a.backE
theorem jV (r:bh):(du r).length≤r.In.length+r.Ahead.length:=by
 unfold du
 split
 ·simp
 ·rw [List.length_append];omega
theorem jW {r:bh} {s:List Int} (h:s∈du r):s∈r.In∨s∈r.Ahead:=by
 unfold du at h
 split at h
 ·cases h
 ·exact Mo h
section
variable {N:Nat} {l:b6} (h:wM N l) (hN0:0 < N) (hN:N≤65536)
include h
theorem mt:∀s∈dM l.Rules,(∀g∈s,0≤g∧g < (N:Int))∧s.Nodup:=fun s hs=>⟨(s3 h.rule s hs).2,gy (s3 h.rule s hs).1⟩
include hN
theorem pY:(∀z∈dD N (dM l.Rules),0≤z∧z≤1000000)∧(dD N (dM l.Rules)).length=N∧(fV (dD N (dM l.Rules))).toNat≤1000000∧∀z∈dD N (dM l.Rules),0≤z∧z < ((fV (dD N (dM l.Rules))).toNat:Int):=by
 have h1:=rG N _ (mt h)
 refine ⟨fun z hz=>by have:=h1 z hz;omega,rH N _ (mt h),?_,(uu N _ (mt h)).dom⟩
 have:fV (dD N (dM l.Rules))≤(N:Int):=rA (by omega) fun z hz=>(h1 z hz).2
 omega
theorem HZ:A4 l.Rules (dD N (dM l.Rules)):=by
 obtain ⟨h1,h2,_,_⟩:=pY h hN
 exact ⟨h.few,h1,by omega,fun r hr=>by have:=(h.rule r hr).long;omega⟩
theorem EA:A5 (q7 nU l.Rules (dD N (dM l.Rules))) (jc nU l.Rules) 200:=by
 obtain ⟨h1,h2,h3,h4⟩:=pY h hN
 refine ⟨⟨by show (l.Rules.map _).length≤6;rw [Mv];exact h.few,h4,fun ey hrow s hs=>?_,fun ey hrow=>?_,h3,by show (dD N (dM l.Rules)).length≤_;omega⟩,by show c9 _ _=c9 _ (l.Rules.map _).length;rw [Mv],fun ey hrow=>?_,Nat.le_refl _⟩
 ·obtain ⟨r,hr,rfl⟩:=List.mem_map.1 hrow
  have hb:=h.rule r hr
  have hsr:jK s∧∀g∈s,0≤g∧g < (N:Int):=by
   rcases jW hs with hs | hs
   ·exact hb.in_ s hs
   ·exact hb.ahead s hs
  refine ⟨fun g hg=>?_,?_⟩
  ·show 0≤g∧g < ((dD N (dM l.Rules)).length:Int)
   rw [h2]
   exact hsr.2 g hg
  ·have:=f7 (gy hsr.1) hsr.2
   omega
 ·obtain ⟨r,hr,rfl⟩:=List.mem_map.1 hrow
  have:=jV r
  have:=(h.rule r hr).long
  show (du r).length≤_
  omega
 ·obtain ⟨r,hr,rfl⟩:=List.mem_map.1 hrow
  have:=jV r
  have:=(h.rule r hr).long
  show (du r).length≤_
  omega
theorem DX:A5 (q7 pa l.Rules (dD N (dM l.Rules))) (jc pa l.Rules) 200:=by
 obtain ⟨h1,h2,h3,h4⟩:=pY h hN
 refine ⟨⟨by show (l.Rules.map _).length≤6;rw [Mv];exact h.few,h4,fun ey hrow s hs=>?_,fun ey hrow=>?_,h3,by show (dD N (dM l.Rules)).length≤_;omega⟩,by show c9 _ _=c9 _ (l.Rules.map _).length;rw [Mv],fun ey hrow=>?_,Nat.le_refl _⟩
 ·obtain ⟨r,hr,rfl⟩:=List.mem_map.1 hrow
  have hsr:=(h.rule r hr).back s hs
  refine ⟨fun g hg=>?_,?_⟩
  ·show 0≤g∧g < ((dD N (dM l.Rules)).length:Int)
   rw [h2]
   exact hsr.2 g hg
  ·have:=f7 (gy hsr.1) hsr.2
   omega
 ·obtain ⟨r,hr,rfl⟩:=List.mem_map.1 hrow
  have:=(h.rule r hr).long
  show r.Back.length≤_
  omega
 ·obtain ⟨r,hr,rfl⟩:=List.mem_map.1 hrow
  have:=(h.rule r hr).long
  show r.Back.length≤_
  omega
end
set_option maxHeartbeats 8000000 in
theorem AS (f:aS) (n:Nat) (l:b6) (hl:f.Lookups[n]?=some l) (h:wM f.Glyphs.length l) (hN0:0 < f.Glyphs.length) (hN:f.Glyphs.length≤65536):AC Tryz.prog 139 [cD f,aF n] [] fun c _=>∃a,wN f.Glyphs.length l.Rules a∧c= .tup [.agg (K0 a),aF 0]:=by
 refine aI Tryz.func139 rfl Tryz.ntmps139 rfl fun B=>?_
 have hgl:(f.Glyphs.map bK).length=f.Glyphs.length:=Mv ..
 have hll:(f.Lookups.map bA).length=f.Lookups.length:=Mv ..
 have hrl:(l.Rules.map bR).length=l.Rules.length:=Mv ..
 have hnl:=(Mq hl).1
 have hlg:(f.Lookups.map bA)[n]?=some (bA l):=by simp [hl]
 have hfew:=h.few
 repeat' (first|refine ae ?_|refine a6 ?_|refine a8 ?_|refine aa ?_|refine LR a7 LL ?_|refine MB LL ?_|refine bi ?_|refine bf a7 fun _=>?_|fail)
 refine bN [1,2,4] False rfl (fun Q' K=>?_) (fun hC=>hC.elim) (fun _=>?_)
 ·repeat' (first|refine aa ?_|refine LR a7 LL ?_|refine MB LL ?_|refine MC LN ?_|refine MD LM (fun _=>?_) (fun _=>?_))
  all_goals exact K _ _ rfl rfl (by simp_all <;> omega)
 repeat' (first|refine ae ?_|refine a6 ?_|refine aq ?_|refine a8 ?_|refine aa ?_|refine LR a7 LL ?_|(apply aL;first|refine aK a7 ?_|refine aH a7 ?_)|fail)
 rename_i r4 _
 have hpd:=qJ f.Glyphs.length hN0 hN (dM l.Rules) (s3 h.rule) (by have:=oW h.rule;omega)
 have hcls:=uu f.Glyphs.length (dM l.Rules) (mt h)
 have hso:=HZ h hN
 have hsf:=rM _ _ _ (EA h hN) (.fnB 220 [.agg (vv l.Rules (dD f.Glyphs.length (dM l.Rules)))] []) (gF.fnB (f:=220) (fs:=[.agg (vv l.Rules (dD f.Glyphs.length (dM l.Rules)))]) (caps:=[]) (Br hso))
 have hsb:=rM _ _ _ (DX h hN) (.fnB 221 [.agg (vv l.Rules (dD f.Glyphs.length (dM l.Rules)))] []) (gF.fnB (f:=221) (fs:=[.agg (vv l.Rules (dD f.Glyphs.length (dM l.Rules)))]) (caps:=[]) (AJ hso))
 refine aB rfl (fun h1=>?_) (fun h1=>?_)
 ·have:=Mz h1
  omega
 clear h1
 repeat' (first|refine ae ?_|refine a6 ?_|refine ar ?_|refine aq ?_|refine a8 ?_|refine aa ?_|refine LR a7 LL ?_)
 refine cm (bE (t:=7) (c':= .vec none 1 (bj [])) rfl fun σ v h=>eh 1 h) ?_
 refine aN [2,4,6,49,50] (α:=Nat×Option (Nat×Nat)) (fun s=>[(51,aF s.1),(7,.vec s.2 1 (bj (dM (l.Rules.take s.1))))]) (fun s=>s.1≤l.Rules.length) (fun s=>(r4,.box [.sc (.slice none 0 0),.sc (.slice none 0 0),.sc (.slice none 0 0),.sc (.slice none 0 0),.sc (.slice none 0 0)] 241)::tok s.2 22 1 (dM (l.Rules.take s.1)).length) (fun s=>l.Rules.length - s.1) (0,none) rfl ⟨rfl,rfl,trivial⟩ (Nat.zero_le _) (fun _ _ hh=>hh) ?_
 ·rintro ⟨k,q⟩ hk
  dsimp only at hk ⊢
  try dsimp only [Mt,Ms,Mr,Mn]
  repeat' (first|refine ae ?_|refine a6 ?_|refine a8 ?_|refine aa ?_|refine LR a7 LL ?_)
  refine aB rfl (fun h1=>?_) (fun h1=>?_)
  ·have hk2:k < l.Rules.length:=by have:=Mz h1;omega
   obtain ⟨r,hr⟩:∃z,l.Rules[k]?=some z:=⟨_,Ia hk2⟩
   have hrg:(l.Rules.map bR)[k]?=some (bR r):=by simp [hr]
   have hlong:=(h.rule r (Mx hr)).long
   have hal:=y7 hr
   have hlen:(dM (l.Rules.take k)).length≤2400:=by
    have:=oW (N:=f.Glyphs.length) (rs:=l.Rules.take k) fun x hx=>h.rule x (List.mem_of_mem_take hx)
    rw [List.length_take] at this
    omega
   have hri:bj (dM (l.Rules.take (k+1)))=bj (dM (l.Rules.take k))++bj r.Back++bj r.In++bj r.Ahead:=by rw [hal];simp [bj]
   have hrl0:=c8 (dM (l.Rules.take k))
   have hrl1:=c8 r.Back
   have hrl2:=c8 r.In
   have hrl3:=c8 r.Ahead
   have hln:(dM (l.Rules.take (k+1))).length=(dM (l.Rules.take k)).length+r.Back.length+r.In.length+r.Ahead.length:=by rw [hal,List.length_append,List.length_append,List.length_append]
   generalize bj (dM (l.Rules.take k))=A0 at *
   generalize (dM (l.Rules.take k)).length=n0 at *
   clear h1
   repeat' (first|refine ae ?_|refine a6 ?_|refine ar ?_|refine aq ?_|refine a8 ?_|refine aa ?_|refine LR a7 LL ?_|(apply aL;first|refine aK a7 ?_|refine aH a7 ?_)|(apply aU;first|refine LT 9 a7 0 LQ ?_|refine LT 9 a7 1 LQ ?_|refine LT 9 a7 2 LQ ?_|refine LT 10 a7 0 LQ ?_|refine LT 10 a7 1 LQ ?_|refine LT 10 a7 2 LQ ?_|refine LU a7 0 LP ?_|refine LU a7 1 LP ?_|refine LU a7 2 LP ?_|refine LU a7 3 LP ?_|fail)|refine bf a7 fun _=>?_|fail)
   refine cr a7 [(r4,.box [.sc (.slice none 0 0),.sc (.slice none 0 0),.sc (.slice none 0 0),.sc (.slice none 0 0),.sc (.slice none 0 0)] 241)] rfl rfl rfl rfl (by rw [hrl0];exact List.perm_append_comm (l₁:=[_])) (by omega) (by omega) rfl fun q1=>?_
   repeat' (first|refine ae ?_|refine a6 ?_|refine a8 ?_|refine aa ?_|refine LR a7 LL ?_)
   refine cr a7 [(r4,.box [.sc (.slice none 0 0),.sc (.slice none 0 0),.sc (.slice none 0 0),.sc (.slice none 0 0),.sc (.slice none 0 0)] 241)] rfl rfl rfl rfl (Mp _) (by rw [List.length_append];omega) (by rw [List.length_append];omega) rfl fun q2=>?_
   repeat' (first|refine a6 ?_|refine a8 ?_|refine aa ?_|refine LR a7 LL ?_)
   refine cr a7 [(r4,.box [.sc (.slice none 0 0),.sc (.slice none 0 0),.sc (.slice none 0 0),.sc (.slice none 0 0),.sc (.slice none 0 0)] 241)] rfl rfl rfl rfl (Mp _) (by rw [List.length_append,List.length_append];omega) (by rw [List.length_append,List.length_append];omega) rfl fun q3=>?_
   repeat' (first|refine a6 ?_|refine a8 ?_|refine aP ?_|refine aa ?_|refine LR a7 LL ?_|(apply aY;refine aX ?_)|fail)
   refine aE (k+1,q3) rfl ⟨by rw [Mw];rfl,by dsimp only;rw [hri];rfl,trivial⟩ hk2 (by dsimp only;omega) (fun σ w hh=>?_)
   have h2:=hh.perm (List.perm_append_comm (l₂:=[_]))
   have h3:(A0++bj r.Back++bj r.In++bj r.Ahead).length=(dM (l.Rules.take (k+1))).length:=by rw [hln,List.length_append,List.length_append,List.length_append];omega
   rw [h3] at h2
   exact h2
  ·have hk2:k=l.Rules.length:=by have:=My h1;omega
   subst hk2
   rw [List.take_length]
   haveI:AD Tryz.prog 218 [aF ((f.Glyphs.map bK).length:Nat),.imm 1 (bj (dM l.Rules))] (.imm 1 (aT (dD f.Glyphs.length (dM l.Rules)))):=⟨by rw [hgl];exact hpd⟩
   clear h1
   repeat' (first|refine ae ?_|refine a6 ?_|refine aO ?_|refine a8 ?_|refine av ?_|refine aC ?_|refine aA ?_|refine aa ?_|refine LR a7 LL ?_|(apply aU;first|refine LT 9 a7 0 LQ ?_|refine LT 9 a7 1 LQ ?_|refine LT 9 a7 2 LQ ?_|refine LT 10 a7 0 LQ ?_|refine LT 10 a7 1 LQ ?_|refine LT 10 a7 2 LQ ?_|refine LU a7 0 LP ?_|refine LU a7 1 LP ?_|refine LU a7 2 LP ?_|refine LU a7 3 LP ?_|fail)|refine bf a7 fun _=>?_|(apply bk;refine b9 ?_)|fail)
   refine aW [] _ hsf rfl rfl (Mp _) rfl fun c1 L1 ⟨ft,fe,hf1,hc1⟩=>?_
   subst hc1
   refine bq (dE (List.sublist_append_right ..)) ?_
   repeat' (first|refine ae ?_|refine a6 ?_|refine aq ?_|refine a8 ?_|refine aa ?_|refine LR a7 LL ?_|refine bo rfl ?_)
   refine aW [] _ hsb rfl rfl (Mp _) rfl fun c1 L1 ⟨bt,be,hb1,hc1⟩=>?_
   subst hc1
   refine bq (dE (List.sublist_append_right ..)) ?_
   repeat' (first|refine ae ?_|refine a6 ?_|refine aq ?_|refine am ?_|refine a8 ?_|refine aa ?_|refine LR a7 LL ?_|(apply aU;first|refine LT 9 a7 0 LQ ?_|refine LT 9 a7 1 LQ ?_|refine LT 9 a7 2 LQ ?_|refine LT 10 a7 0 LQ ?_|refine LT 10 a7 1 LQ ?_|refine LT 10 a7 2 LQ ?_|refine LU a7 0 LP ?_|refine LU a7 1 LP ?_|refine LU a7 2 LP ?_|refine LU a7 3 LP ?_|fail)|refine bo rfl ?_)
   exact ff (cs:=[.agg (K0 ⟨dD f.Glyphs.length (dM l.Rules),ft,bt,fe,be⟩),aF 0]) [] ⟨⟨_,0,_,_,rfl,rfl,.inr ⟨dL a7 rfl,rfl⟩⟩,rfl,trivial⟩ (List.nil_sublist _) ⟨⟨dD f.Glyphs.length (dM l.Rules),ft,bt,fe,be⟩,⟨hcls,hf1,hb1⟩,rfl⟩
end Go.Proofs.YtamjlkdanllgjaaGreatDoor
namespace Go.Proofs.YtamjlkdanllgjaaGreatDoor
open Go.RowKit
attribute [local irreducible] AT bz AX AO Av Kt aZ cY DA cu
set_option maxRecDepth 8000
theorem gS {α:Type} {g:α→Nat} {k:Nat}:∀{l:List α} {m:Nat},m≤k→(∀x∈l,g x≤k)→l.foldl (fun m x=>max m (g x)) m≤k
 | [],_,h,_=>h
 | a::l,m,h,hl=>by
  rw [List.foldl_cons]
  exact gS (by have:=hl a (by simp);omega) fun x hx=>hl x (by simp [hx])
theorem yN (rs:List bh):jc nU rs=ri rs:=by
 funext n
 unfold jc ri nU
 rfl
theorem vq (rs:List bh) (gl:List Int):c9 (eA (rs.map bh.Back) (jc pa rs) gl) (rs.map bh.Back).length=c9 (eA (rs.map bh.Back) (fun _=>true) gl) (rs.map bh.Back).length:=by
 refine gt fun i=>?_
 rw [c7,c7]
 by_cases hi:i < (rs.map bh.Back).length
 ·rw [Mv] at hi
  congr 1
  unfold eA jc
  rw [List.getElem?_map,Ia hi]
  rfl
 ·rw [decide_eq_false hi,Bool.false_and,Bool.false_and]
def Ec (l:b6) (a:jH):oB:=⟨l,a.cls,a.fore,a.back,a.foreE,a.backE⟩
theorem uQ {cls:List Int} {rows:List (List (List Int))} {hv:Nat→Bool} {C:Nat} {tab:List (List Int)} {ends:List Nat} (h:qR cls rows hv C tab ends) (hr:rows.length≤6):∀z∈ends,z < 2 ^ 64:=by
 intro z hz
 obtain ⟨met,h0,h1,h2,h3,h4⟩:=h.met
 obtain ⟨i,hi⟩:=List.mem_iff_getElem?.1 hz
 have hil:=(Mq hi).1
 obtain ⟨p,hp⟩:∃p,met[i]?=some p:=⟨_,Ia (by omega)⟩
 have:=h3 i p hp
 rw [hi] at this
 cases this
 unfold iC
 split
 ·exact Nat.pow_pos (by omega)
 ·refine Nat.lt_of_le_of_lt Nat.and_le_right ?_
  exact mX (by omega)
theorem DU {N:Nat} {l:b6} (h:wM N l) {a:jH} (hb:wN N l.Rules a):jI (Ec l a):=by
 have hcs:∀z∈a.cls,z.toNat < (fV a.cls).toNat:=fun z hz=>by
  have h1:=hb.cls.dom z hz
  omega
 have hf:∀r∈l.Rules,(du r).length≤200∧r.Back.length≤200:=fun r hr=>by
  have:=(h.rule r hr).long
  have:=jV r
  omega
 refine ⟨h.few,⟨uQ hb.fore (by rw [Mv];exact h.few),uQ hb.back (by rw [Mv];exact h.few)⟩,fun gl=>?_,fun gl=>?_,?_,?_⟩
 ·have:=oe hb.cls (rows:=l.Rules.map du) (fun ey hrow s hs=>?_) hb.fore hcs gl
  ·rw [yN] at this
   exact this
  ·obtain ⟨r,hr,rfl⟩:=List.mem_map.1 hrow
   have hbr:=h.rule r hr
   refine ⟨List.mem_flatMap.2 ⟨r,hr,?_⟩,?_⟩
   ·rw [List.mem_append,List.mem_append]
    rcases jW hs with hs | hs
    ·exact .inl (.inr hs)
    ·exact .inr hs
   ·rcases jW hs with hs | hs
    ·exact (hbr.in_ s hs).2
    ·exact (hbr.ahead s hs).2
 ·have:=oe hb.cls (rows:=l.Rules.map bh.Back) (fun ey hrow s hs=>?_) hb.back hcs gl
  ·rw [vq] at this
   exact this
  ·obtain ⟨r,hr,rfl⟩:=List.mem_map.1 hrow
   exact ⟨List.mem_flatMap.2 ⟨r,hr,by rw [List.mem_append,List.mem_append];exact .inl (.inl hs)⟩,((h.rule r hr).back s hs).2⟩
 ·exact gS (by omega) fun r hr=>by have:=(h.rule r hr).long;show r.In.length+r.Ahead.length≤_;omega
 ·exact gS (by omega) fun r hr=>by have:=(h.rule r hr).long;show r.Back.length≤_;omega
end Go.Proofs.YtamjlkdanllgjaaGreatDoor
