/-
  The rows of a lookup's rules: the walk.
-/
import Derived.Test.YtamjlkdanllgjaaGreatDoorM30
import Derived.Test.YtamjlkdanllgjaaGreatDoorM11
import Derived.Test.YtamjlkdanllgjaaGreatDoorM26
namespace Go.Proofs.YtamjlkdanllgjaaGreatDoor
open Go.RowKit
attribute [local irreducible] AT bB AX AO Av Kt ba dt DA cz
set_option maxRecDepth 8000
abbrev wq (rs:List bz) (cls:List Int):List AV:=[.imm 6 (rs.map bG),.imm 1 (aO cls)]
def jW (w:bz→List (List Int)×Bool) (rs:List bz) (n:Nat):Bool:=match rs[n]? with
 | some r=>(w r).2
 | none=>false
def r7 (w:bz→List (List Int)×Bool) (rs:List bz) (cls:List Int):RD:=⟨rs.map fun r=>(w r).1,cn (jW w rs) rs.length,cls,(gw cls).toNat⟩
theorem xm (l:List (List (List Int))) (r:List (List Int)):jB l++[[.imm 1 (aZ r)]]=jB (l++[r]):=by simp [jB]
theorem x2 {l:List Int} {k:Nat} {z:Int} (h:l[k]?=some z):gw (l.take (k+1))=max (gw (l.take k)) (z+1):=by
 unfold gw
 rw [List.take_add_one,h]
 simp
set_option maxHeartbeats 8000000 in
theorem qf (w:bz→List (List Int)×Bool) (u:AV) (rs:List bz) (hrs:rs.length≤6) (hw:∀r∈rs,ja Tryz.prog u [.agg (bG r)] [] fun c _=>c= .tup [.imm 1 (aZ (w r).1),cQ (w r).2]) (cls:List Int) (hcl:∀z∈cls,0≤z∧z≤1000000) (hcl2:cls.length≤1000000):AC Tryz.prog 281 [.agg (wq rs cls),u] [] fun c L=>∃rb,c=iO rb∧L=f9 (r7 w rs cls) rb 0 none:=by
 refine aP Tryz.func281 rfl Tryz.ntmps281 rfl fun B=>?_
 have hrl:(rs.map bG).length=rs.length:=Lr ..
 have hil:=aW cls
 repeat' (first|refine ae ?_|refine a6 ?_|refine am ?_|refine a8 ?_|refine aa ?_|refine LF a7 I9 ?_|refine vh (d:=15) fun _=>?_|refine bo ?_|fail)
 rename_i rb
 refine bK (bq 0 (cs':=[.vec none 1 [],lc 0,.imm 1 (aO cls),aH 0,.vec none 2 []]) rfl fun σ vs h=>ld.vrs (a:=[.sc (.slice none 0 0),lc 0,.imm 1 (aO cls),aH 0,.sc (.slice none 0 0)]) (b:=[.vec none 1 [],lc 0,.imm 1 (aO cls),aH 0,.vec none 2 []]) ⟨fun σ v h=>cC 1 h,cF.refl _,cF.refl _,cF.refl _,fun σ v h=>cC 2 h,trivial⟩ h) ?_
 refine aJ [1,2,5,17,18] (α:=Nat×Option (Nat×Nat)) (fun s=>[(19,aH s.1)]) (fun s=>s.1≤rs.length) (fun s=>(rb,.box [.vec s.2 1 (jB ((rs.take s.1).map fun r=>(w r).1)),lc (cn (jW w rs) s.1),.imm 1 (aO cls),aH 0,.vec none 2 []] 384)::tok s.2 39 1 s.1) (fun s=>rs.length - s.1) (0,none) rfl ⟨rfl,trivial⟩ (Nat.zero_le _) (fun _ _ h=>h) ?_
 ·rintro ⟨n,q⟩ hn
  dsimp only at hn ⊢
  try dsimp only [Lp,Lo,Ln,Lh]
  repeat' (first|refine ae ?_|refine a6 ?_|refine a8 ?_|refine aa ?_|refine LF a7 I9 ?_)
  refine ay rfl (fun h1=>?_) (fun h1=>?_)
  ·have hn2:n < rs.length:=by have:=Ly h1;omega
   obtain ⟨r,hr⟩:∃z,rs[n]?=some z:=⟨_,Lz hn2⟩
   have hrg:(rs.map bG)[n]?=some (bG r):=by simp [hr]
   have hwr:=hw r (Lv hr)
   have htk:((rs.take (n+1)).map fun r=>(w r).1)=((rs.take n).map fun r=>(w r).1)++[(w r).1]:=by rw [List.take_add_one,hr];simp
   have hbit:cn (jW w rs) (n+1)=cn (jW w rs) n ||| (if (w r).2=true then 2 ^ n else 0):=by
    rw [cn]
    unfold jW
    rw [hr]
   have hml:(jB ((rs.take n).map fun r=>(w r).1)).length=n:=by rw [sP,Lr,List.length_take];omega
   have hsn:=xm ((rs.take n).map fun r=>(w r).1) (w r).1
   rw [←htk] at hsn
   have hb1:=nC (p:=jW w rs) (n:=n) (by omega)
   have hb2:=Gg (n:=n) (by omega)
   have hub:=yO n (by omega)
   generalize jB ((rs.take n).map fun r=>(w r).1)=l3 at *
   clear h1
   repeat' (first|refine ae ?_|refine a6 ?_|refine am ?_|refine au ?_|refine a8 ?_|refine aa ?_|refine LF a7 I9 ?_|(apply aU;first|refine aT a7 ?_|refine aN a7 ?_)|(apply aK;first|refine LH 7 a7 0 LE ?_|refine LH 7 a7 1 LE ?_|refine LH 7 a7 2 LE ?_|refine LG a7 0 LD ?_|refine LG a7 1 LD ?_|refine LG a7 2 LD ?_|refine LG a7 3 LD ?_|fail)|refine bg a7 fun _=>?_|fail)
   refine lm [] ((rb,.box [.vec q 1 l3,lc (cn (jW w rs) n),.imm 1 (aO cls),aH 0,.vec none 2 []] 384)::tok q 39 1 n) hwr rfl rfl (Ll _) rfl rfl fun c L1 hc=>?_
   subst hc
   refine aS (bX (List.sublist_append_right ..)) ?_
   repeat' (first|refine ae ?_|refine a6 ?_|refine a8 ?_|refine aa ?_|refine LF a7 I9 ?_|(apply bL;first|refine LI a7 0 LC ?_|refine LI a7 1 LC ?_|refine LI a7 2 LC ?_|refine LI a7 3 LC ?_|refine LJ a7 0 LC ?_|refine LJ a7 1 LC ?_|refine LJ a7 2 LC ?_|refine LL a7 1 LA (by assumption) rfl ?_|refine LL a7 0 LA (by assumption) rfl ?_|fail)|refine bS a7 ?_|fail)
   refine bP a7 [(rb,.box [.vec q 1 l3,lc (cn (jW w rs) n),.imm 1 (aO cls),aH 0,.vec none 2 []] 384)] rfl rfl rfl rfl (by rw [hml];exact List.perm_append_comm (l₁:=[_])) (by rw [hml];simp;omega) (by rw [hml];simp;omega) rfl fun q'=>?_
   refine aS (aR (L':=(rb,.box [.vec q 1 l3,lc (cn (jW w rs) n),.imm 1 (aO cls),aH 0,.vec none 2 []] 384)::tok q' 39 1 (n+1)) (by rw [List.length_append,hml];exact List.perm_append_comm (l₂:=[_]))) ?_
   repeat' (first|refine ae ?_|refine a6 ?_|refine a8 ?_|refine aa ?_|refine LF a7 I9 ?_|(apply aK;first|refine LH 7 a7 0 LE ?_|refine LH 7 a7 1 LE ?_|refine LH 7 a7 2 LE ?_|refine LG a7 0 LD ?_|refine LG a7 1 LD ?_|refine LG a7 2 LD ?_|refine LG a7 3 LD ?_|fail))
   refine ay rfl (fun h1=>?_) (fun h1=>?_)
   ·rw [if_pos h1] at hbit
    repeat' (first|fail)
    refine bI 6 [(0,.v),(1,.v),(2,.v),(3,.l),(4,.v),(5,.v)] none ?_ trivial rfl (by kernel_rfl) (by kernel_rfl) (by kernel_rfl) mixed (by kernel_rfl) rfl
    repeat' (first|refine aF ?_|refine b9 a7 ?_|refine cS a7 0 rfl rfl rfl rfl (by first|trivial|rfl) ?_)
    refine wC n rfl rfl rfl trivial ?_
    repeat' (first|fail)
    refine LP [1,2,5,17,18,19,41,44,46] I9 ?_
    refine yq rfl rfl rfl ?_
    rw [hub,u64_or_nat _ _ hb1 hb2,←hbit]
    repeat' (first|refine a6 ?_|refine a8 ?_|refine aM ?_|refine aa ?_|refine LF a7 I9 ?_|(apply aY;refine aX ?_)|(apply aK;first|refine LH 7 a7 0 LE ?_|refine LH 7 a7 1 LE ?_|refine LH 7 a7 2 LE ?_|refine LG a7 0 LD ?_|refine LG a7 1 LD ?_|refine LG a7 2 LD ?_|refine LG a7 3 LD ?_|fail))
    exact aE (n+1,q') rfl ⟨by rw [Ls];rfl,trivial⟩ hn2 (by dsimp only;omega) (fun _ _ h=>by dsimp only;rw [←hsn];exact h)
   ·rw [if_neg (by rw [h1];decide),Nat.or_zero] at hbit
    repeat' (first|refine a6 ?_|refine au ?_|refine a8 ?_|refine aM ?_|refine aa ?_|refine LF a7 I9 ?_|(apply aY;refine aX ?_)|fail)
    exact aE (n+1,q') rfl ⟨by rw [Ls];rfl,trivial⟩ hn2 (by dsimp only;omega) (fun _ _ h=>by dsimp only;rw [←hsn,hbit];exact h)
  ·have hn2:n=rs.length:=by have:=Lw h1;omega
   subst hn2
   rw [List.take_length]
   clear h1
   repeat' (first|refine ae ?_|refine a6 ?_|refine am ?_|refine aL ?_|refine a8 ?_|refine av ?_|refine aA ?_|refine aw ?_|refine aa ?_|refine LF a7 I9 ?_)
   refine aJ [5,52,53] (α:=Nat) (fun k=>[(54,aH k)]) (fun k=>k≤cls.length) (fun k=>(rb,.box [.vec q 1 (jB (rs.map fun r=>(w r).1)),lc (cn (jW w rs) rs.length),.imm 1 (aO cls),aH (gw (cls.take k)),.vec none 2 []] 384)::tok q 39 1 rs.length) (fun k=>cls.length - k) 0 rfl ⟨rfl,trivial⟩ (Nat.zero_le _) (fun _ _ h=>h) fun k hk=>?_
   try dsimp only [Lp,Lo,Ln,Lh]
   repeat' (first|refine ae ?_|refine a6 ?_|refine a8 ?_|refine aa ?_|refine LF a7 I9 ?_)
   refine ay rfl (fun h1=>?_) (fun h1=>?_)
   ·have hk2:k < cls.length:=by have:=Ly h1;omega
    obtain ⟨z,hz⟩:∃z,cls[k]?=some z:=⟨_,Lz hk2⟩
    have hzg:=bO hz
    have hzb:=hcl z (Lv hz)
    have hmc:=x2 hz
    clear h1
    repeat' (first|refine ae ?_|refine a6 ?_|refine am ?_|refine au ?_|refine a8 ?_|refine aM ?_|refine aa ?_|refine LF a7 I9 ?_|(apply bL;first|refine LI a7 0 LC ?_|refine LI a7 1 LC ?_|refine LI a7 2 LC ?_|refine LI a7 3 LC ?_|refine LJ a7 0 LC ?_|refine LJ a7 1 LC ?_|refine LJ a7 2 LC ?_|refine LL a7 1 LA (by assumption) rfl ?_|refine LL a7 0 LA (by assumption) rfl ?_|fail)|(apply aY;refine aX ?_)|(apply aU;first|refine aT a7 ?_|refine aN a7 ?_)|(apply aK;first|refine LH 7 a7 0 LE ?_|refine LH 7 a7 1 LE ?_|refine LH 7 a7 2 LE ?_|refine LG a7 0 LD ?_|refine LG a7 1 LD ?_|refine LG a7 2 LD ?_|refine LG a7 3 LD ?_|fail))
    exact aE (k+1) rfl ⟨by rw [Ls];rfl,trivial⟩ hk2 (by omega) (fun _ _ h=>by rw [hmc];exact h)
   ·have hk2:k=cls.length:=by have:=Lw h1;omega
    subst hk2
    rw [List.take_length]
    clear h1
    repeat' (first|refine ae ?_|refine a6 ?_|refine aq ?_|refine aL ?_|refine a8 ?_|refine av ?_|refine aA ?_|refine aw ?_|refine aa ?_|refine LF a7 I9 ?_)
    have hC:(gw cls)=(((gw cls).toNat:Nat):Int):=by have:=(qN (l:=cls) (m:=0)).1;unfold gw;omega
    refine b6 (bq 0 (cs':=EA (r7 w rs cls) (.vec none 2 (zY (r7 w rs cls) 0))) rfl fun σ vs h=>ld.vrs (a:=[.vec q 1 (jB (rs.map fun r=>(w r).1)),lc (cn (jW w rs) rs.length),.imm 1 (aO cls),aH (gw cls),.vec none 2 []]) (b:=EA (r7 w rs cls) (.vec none 2 (zY (r7 w rs cls) 0))) ⟨fun σ v h=>VR.im h,cF.refl _,cF.refl _,by unfold r7;dsimp only;rw [←hC];exact cF.refl _,cF.refl _,trivial⟩ h) ?_
    refine dW (L':=f9 (r7 w rs cls) rb 0 none) (List.sublist_append_left [_] _) ?_
    exact LM I9 ⟨rb,rfl,rfl⟩
def oz (r:bz):List (List Int)×Bool:=(f7 r, !r.In.isEmpty)
def pW (r:bz):List (List Int)×Bool:=(r.Back,true)
structure Bl (rs:List bz) (cls:List Int):Prop where
 few:rs.length≤6
 dom:∀z∈cls,0≤z∧z≤1000000
 len:cls.length≤1000000
 rows:∀r∈rs,r.In.length≤1000000∧r.Ahead.length≤1000000
theorem Ck {rs:List bz} {cls:List Int} (h:Bl rs cls):AC Tryz.prog 220 [.agg (wq rs cls)] [] fun c L=>∃rb,c=iO rb∧L=f9 (r7 oz rs cls) rb 0 none:=by
 refine aP Tryz.func220 rfl Tryz.ntmps220 rfl fun B=>?_
 have hc:=qf oz (.sc (.func (.func 282) #[] #[])) rs h.few (fun r hr=>ja.fn0 (f:=282) (by rw [List.append_nil];exact zK r (h.rows r hr).1 (h.rows r hr).2)) cls h.dom h.len
 repeat' (first|refine ae ?_|refine a6 ?_|refine a8 ?_|refine aa ?_|refine LF a7 I9 ?_|refine bo ?_|fail)
 refine bh [] [] hc rfl rfl (Ll _) rfl fun c L1 ⟨rb,hc1,hL⟩=>?_
 subst hc1;subst hL
 repeat' (first|refine aq ?_|refine a8 ?_|refine aa ?_|refine LF a7 I9 ?_)
 exact LM I9 ⟨rb,rfl,by rw [List.append_nil]⟩
theorem BP {rs:List bz} {cls:List Int} (h:Bl rs cls):AC Tryz.prog 221 [.agg (wq rs cls)] [] fun c L=>∃rb,c=iO rb∧L=f9 (r7 pW rs cls) rb 0 none:=by
 refine aP Tryz.func221 rfl Tryz.ntmps221 rfl fun B=>?_
 have hc:=qf pW (.sc (.func (.func 283) #[] #[])) rs h.few (fun r _=>ja.fn0 (f:=283) (by rw [List.append_nil];exact zd r)) cls h.dom h.len
 repeat' (first|refine ae ?_|refine a6 ?_|refine a8 ?_|refine aa ?_|refine LF a7 I9 ?_|refine bo ?_|fail)
 refine bh [] [] hc rfl rfl (Ll _) rfl fun c L1 ⟨rb,hc1,hL⟩=>?_
 subst hc1;subst hL
 repeat' (first|refine aq ?_|refine a8 ?_|refine aa ?_|refine LF a7 I9 ?_)
 exact LM I9 ⟨rb,rfl,by rw [List.append_nil]⟩
set_option maxRecDepth 8000
structure SS where
 M:List Pl
 q:Option (Nat×Nat)
 k:Nat
 qr:Option (Nat×Nat)
abbrev qz (R:RD) (nb kb mb rb:Nat) (s:SS) (X:AL):AL:=(nb,.box [.sc (.map (some kb))] 196)::(kb,ca .string (ua s.M))::(mb,.box [.vec s.q 2 (s.M.map lV)] 375)::r8 R rb s.k s.qr::(tok s.q 377 2 s.M.length++(tok s.qr 444 2 s.k++X))
theorem tw {R:RD} {nb kb mb rb:Nat} {s:SS} {X:AL}:(qz R nb kb mb rb s X).Perm (tL nb kb mb s.M s.q++(r8 R rb s.k s.qr::(tok s.qr 444 2 s.k++X))):=by
 unfold tL
 refine List.Perm.cons _ (List.Perm.cons _ (List.Perm.cons _ ?_))
 exact (List.perm_middle (l₁:=tok s.q 377 2 s.M.length)).symm
theorem mJ {R:RD} {nb kb mb rb:Nat} {s:SS} {X:AL}:(qz R nb kb mb rb s X).Perm (f9 R rb s.k s.qr++((nb,.box [.sc (.map (some kb))] 196)::(kb,ca .string (ua s.M))::(mb,.box [.vec s.q 2 (s.M.map lV)] 375)::(tok s.q 377 2 s.M.length++X))):=by
 have h1:(qz R nb kb mb rb s X).Perm (r8 R rb s.k s.qr::([(nb,.box [.sc (.map (some kb))] 196),(kb,ca .string (ua s.M)),(mb,.box [.vec s.q 2 (s.M.map lV)] 375)]++(tok s.q 377 2 s.M.length++(tok s.qr 444 2 s.k++X)))):=List.perm_middle (l₁:=[_,_,_])
 refine h1.trans (List.Perm.cons _ ?_)
 rw [←List.append_assoc]
 refine (List.perm_append_comm_assoc _ (tok s.qr 444 2 s.k) X).trans ?_
 rw [List.append_assoc]
 exact Ll _
theorem uW {R:RD} {nb kb mb rb:Nat} {s:SS} {X:AL} {a:Nat×AB}:(a::qz R nb kb mb rb s X).Perm (tL nb kb mb s.M s.q++(a::r8 R rb s.k s.qr::(tok s.qr 444 2 s.k++X))):=(List.Perm.cons a tw).trans List.perm_middle.symm
theorem uX {R:RD} {nb kb mb rb:Nat} {s:SS} {X:AL} {a:Nat×AB}:(a::qz R nb kb mb rb s X).Perm (f9 R rb s.k s.qr++(a::(nb,.box [.sc (.map (some kb))] 196)::(kb,ca .string (ua s.M))::(mb,.box [.vec s.q 2 (s.M.map lV)] 375)::(tok s.q 377 2 s.M.length++X))):=(List.Perm.cons a mJ).trans List.perm_middle.symm
theorem K7 {a b c:Nat×AB} {X:AL}:(a::b::c::X).Perm (b::c::a::X):=(List.Perm.swap b a _).trans (.cons b (List.Perm.swap c a _))
theorem K8 {A T1 T2 T R:AL}:(A++(T1++(T2++(T++R)))).Perm (T++(A++(T1++(T2++R)))):=by
 rw [←List.append_assoc T1,←List.append_assoc A,←List.append_assoc T1 T2 R,←List.append_assoc A (T1++T2) R]
 exact List.perm_append_comm_assoc ..
theorem K9 {A T1 T2 T3 T4:AL}:(A++(T1++(T2++(T3++T4)))).Perm (T4++(A++(T1++(T2++T3)))):=by
 rw [←List.append_assoc T2,←List.append_assoc T1,←List.append_assoc A]
 exact List.perm_append_comm
abbrev IL (R:RD) (nb kb mb rb:Nat) (s:SS):AL:=[(nb,.box [.sc (.map (some kb))] 196),(kb,ca .string (ua s.M)),(mb,.box [.vec s.q 2 (s.M.map lV)] 375),r8 R rb s.k s.qr]
theorem yf {R:RD} {nb kb mb rb:Nat} {s:SS} {T X:AL}:(qz R nb kb mb rb s (T++X)).Perm (T++qz R nb kb mb rb s X):=K8 (A:=IL R nb kb mb rb s)
theorem ye {R:RD} {nb kb mb rb:Nat} {s:SS} {T X:AL}:(qz R nb kb mb rb s (T++X)).Perm (X++qz R nb kb mb rb s T):=K9 (A:=IL R nb kb mb rb s)
structure Kh where
 s:SS
 tab:List (List Int)
 qt:Option (Nat×Nat)
 ends:List Nat
 qe:Option (Nat×Nat)
abbrev KQ (t:Kh):AL:=tok t.qt 22 1 t.tab.length++tok t.qe 194 1 t.ends.length
theorem oI {M:List Pl} {n:Nat} {p:Pl} (h:M[n]?=some p):(M.map lV)[n]?=some (lV p):=by simp [h]
structure Bm (R:RD) (hv:Nat→Bool) (Lb:Nat):Prop where
 ok:Bi R
 has:R.have_=cn hv R.rows.length
 long:∀r∈R.rows,r.length≤Lb
 few:Lb≤200
theorem Bm.small {R:RD} {hv:Nat→Bool} {Lb:Nat} (h:Bm R hv Lb) {M:List Pl} (hs:je R.rows hv Lb M):(∀x∈M,kE x)∧M.length≤20000:=by
 have hf:=h.few
 have hr:=h.ok.few
 have h64:2 ^ R.rows.length≤64:=Nat.pow_le_pow_right (n:=2) (by omega) hr
 constructor
 ·intro x hx
  obtain ⟨h1,h2⟩:=hs.small x hx
  exact ⟨by omega,by omega⟩
 ·have:=hs.few
  have h3:(Lb+1) * 2 ^ R.rows.length≤201 * 64:=Nat.mul_le_mul (by omega) h64
  omega
set_option maxHeartbeats 16000000 in
theorem sT (R:RD) (hv:Nat→Bool) (Lb:Nat) (h:Bm R hv Lb) (u:AV) (hu:ja Tryz.prog u [] [] fun c L=>∃rb,c=iO rb∧L=f9 R rb 0 none):AC Tryz.prog 219 [u] [] fun c _=>∃tab ends,rW R.cls R.rows hv R.C tab ends∧c= .tup [.imm 1 (aZ tab),.imm 1 (gu ends),cQ true]:=by
 refine aP Tryz.func219 rfl Tryz.ntmps219 rfl fun B=>?_
 repeat' (first|refine ae ?_|refine a6 ?_|refine a8 ?_|refine aa ?_|refine LF a7 I9 ?_)
 refine lm [] [] hu rfl rfl (Ll _) rfl rfl fun c L1 ⟨rb,hc,hL⟩=>?_
 subst hc;subst hL
 repeat' (first|refine ae ?_|refine a6 ?_|refine a8 ?_|refine aa ?_|refine LF a7 I9 ?_)
 refine ec .string fun kb=>?_
 repeat' (first|refine ae ?_|refine a6 ?_|refine a8 ?_|refine aa ?_|refine LF a7 I9 ?_|(apply aK;first|refine LH 12 a7 0 LE ?_|refine LH 12 a7 1 LE ?_|refine LH 12 a7 2 LE ?_|refine LG a7 0 LD ?_|refine LG a7 1 LD ?_|refine LG a7 2 LD ?_|refine LG a7 3 LD ?_|fail)|refine bg a7 fun _=>?_|fail)
 rename_i nb mb
 have hok:=h.ok
 obtain ⟨hCm,hNm⟩:=hok.many
 refine aS (bq 0 (cs':=[.vec none 2 []]) rfl fun σ vs hh=>ld.vrs (a:=[.sc (.slice none 0 0)]) (b:=[.vec none 2 []]) ⟨fun σ v h=>cC 2 h,trivial⟩ hh) ?_
 refine aS (aR (L':=qz R nb kb mb rb ⟨[],none,0,none⟩ []) (by unfold qz;rw [FU];exact K7)) ?_
 refine bh (f9 R rb 0 none) _ (Ap R rb 0 none (by omega)) rfl rfl mJ rfl fun c L1 ⟨hc,k0,qr0,hk0,hL⟩=>?_
 subst hc;subst hL
 refine aS (aR (L':=qz R nb kb mb rb ⟨[],none,k0,qr0⟩ []) (mJ (s:=⟨[],none,k0,qr0⟩)).symm) ?_
 have hst0:je R.rows hv Lb [((0,R.have_):Pl)]:=by
  have:=je.start (rows:=R.rows) (have_:=hv) (L:=Lb)
  unfold lZ at this
  rwa [←h.has] at this
 have hsm0:=(h.small hst0).1 (0,R.have_) (by simp)
 have hme0:=yn nb kb mb [] (fun x hx=>by cases hx) (by simp) none (0,R.have_) hsm0
 repeat' (first|fail)
 refine lm (tL nb kb mb [] none) _ (ja.fn (f:=276) (caps:=[iO nb,iO mb]) hme0) rfl rfl tw rfl rfl fun c L1 ⟨hc,q0,hL⟩=>?_
 subst hc;subst hL
 refine aS (aR (L':=qz R nb kb mb rb ⟨[(0,R.have_)],q0,k0,qr0⟩ []) (tw (s:=⟨[(0,R.have_)],q0,k0,qr0⟩)).symm) ?_
 repeat' (first|refine ae ?_|refine a6 ?_|refine am ?_|refine a8 ?_|refine aa ?_|refine LF a7 I9 ?_)
 refine bK (bA (t:=2) (c':= .vec none 1 (aZ [])) rfl fun σ v h=>cC 1 h) ?_
 refine bK (bA (t:=3) (c':= .vec none 1 (gu [])) rfl fun σ v h=>cC 1 h) ?_
 refine aJ [5,7,8] (α:=Kh) (fun t=>[(9,aH t.tab.length),(2,.vec t.qt 1 (aZ t.tab)),(3,.vec t.qe 1 (gu t.ends))]) (fun t=>je R.rows hv Lb t.s.M∧gz R.cls R.rows R.C t.s.M t.tab t.ends∧t.tab.length≤t.s.M.length∧t.s.k≤1000001) (fun t=>qz R nb kb mb rb t.s (KQ t)) (fun t=>20000 - t.tab.length) ⟨⟨[(0,R.have_)],q0,k0,qr0⟩,[],none,[],none⟩ rfl ⟨rfl,rfl,rfl,trivial⟩ ⟨hst0,gz.nil,Nat.zero_le _,hk0⟩ (fun _ _ hh=>hh) ?_
 rintro ⟨⟨M,q,k,qr⟩,tab,qt,ends,qe⟩ ⟨hst,htb,htl,hk⟩
 dsimp only at hst htb htl hk ⊢
 try dsimp only [Lp,Lo,Ln,Lh]
 have hml:(M.map lV).length=M.length:=Lr ..
 obtain ⟨hsm,hM2⟩:=h.small hst
 repeat' (first|refine ae ?_|refine a6 ?_|refine a8 ?_|refine aa ?_|refine LF a7 I9 ?_|(apply bL;first|refine LI a7 0 LC ?_|refine LI a7 1 LC ?_|refine LI a7 2 LC ?_|refine LI a7 3 LC ?_|refine LJ a7 0 LC ?_|refine LJ a7 1 LC ?_|refine LJ a7 2 LC ?_|refine LL a7 1 LA (by assumption) rfl ?_|refine LL a7 0 LA (by assumption) rfl ?_|fail)|fail)
 refine ay rfl (fun h1=>?_) (fun h1=>?_)
 ·have hn2:tab.length < M.length:=by have h1':(tab.length:Int) < ((M.map lV).length:Int):=Ly h1;omega
  obtain ⟨p,hp⟩:∃p,M[tab.length]?=some p:=⟨_,Lz hn2⟩
  clear h1
  repeat' (first|refine ae ?_|refine a6 ?_|refine am ?_|refine au ?_|refine a8 ?_|refine LF a7 I9 ?_|(apply bL;first|refine LI a7 0 LC ?_|refine LI a7 1 LC ?_|refine LI a7 2 LC ?_|refine LI a7 3 LC ?_|refine LJ a7 0 LC ?_|refine LJ a7 1 LC ?_|refine LJ a7 2 LC ?_|refine LL a7 1 LA (by assumption) rfl ?_|refine LL a7 0 LA (by assumption) rfl ?_|fail)|fail)
  refine ep a7 R.C rfl rfl rfl rfl rfl rfl rfl (by omega) (by omega) rfl fun rwb=>?_
  rw [show (List.replicate R.C (List.map AV.sc [Value.int .i64 0])).flatten=dE (List.replicate R.C 0) from ox R.C]
  repeat' (first|refine ae ?_|refine a6 ?_|refine am ?_|refine a8 ?_|refine aa ?_|refine LF a7 I9 ?_)
  refine aJ [2,3,5,7,8,9,10,33] (α:=Nat×SS×List Int) (fun t=>[(34,aH t.1)]) (fun t=>t.1≤R.C∧je R.rows hv Lb t.2.1.M∧gz R.cls R.rows R.C t.2.1.M tab ends∧t.2.1.M[tab.length]?=some p∧t.2.2.length=R.C∧t.2.1.k≤1000001∧∀(c:Nat) z,c < t.1→t.2.2[c]?=some z→iW R.cls R.rows t.2.1.M p c z) (fun t=>(rwb,.box (dE t.2.2) 3)::qz R nb kb mb rb t.2.1 (tok qt 22 1 tab.length++tok qe 194 1 ends.length)) (fun t=>R.C - t.1) (0,⟨M,q,k,qr⟩,List.replicate R.C 0) rfl ⟨rfl,trivial⟩ ⟨Nat.zero_le _,hst,htb,hp,by simp,hk,fun c z hc=>by omega⟩ (fun _ _ hh=>hh) ?_
  ·rintro ⟨c,⟨M1,q1,k1,qr1⟩,fw⟩ ⟨hc,hst1,htb1,hp1,hrl,hk1,hce⟩
   dsimp only at hc hst1 htb1 hp1 hrl hk1 hce ⊢
   try dsimp only [Lp,Lo,Ln,Lh]
   have hcl:=iv fw
   obtain ⟨hsm1,hM1⟩:=h.small hst1
   repeat' (first|refine ae ?_|refine a6 ?_|refine a8 ?_|refine aa ?_|refine LF a7 I9 ?_)
   refine ay rfl (fun h1=>?_) (fun h1=>?_)
   ·have hc2:c < R.C:=by have:=Ly h1;omega
    have hpg:=oI hp1
    have hps:=hst1.small p (Lv hp1)
    have hps2:=hsm1 p (Lv hp1)
    have hbe:=zg R hok rb k1 qr1 hk1 p (by have:=hps2.1;omega) (by have:=hps2.2;omega) c hc2
    have hst':=iw (l:=fw) (i:=c) (z:= -1)
    clear h1
    repeat' (first|refine ae ?_|refine a6 ?_|refine am ?_|refine au ?_|refine a8 ?_|refine aa ?_|refine LF a7 I9 ?_|(apply aU;first|refine aT a7 ?_|refine aN a7 ?_)|fail)
    refine ai a7 0 rfl rfl rfl rfl rfl rfl (Nat.ble_eq_true_of_le (by rw [hcl,hrl,Int.toNat_natCast];show 0+c * 1+1≤_;omega)) ?_
    rw [hst']
    refine aa ?_
    refine a8 ?_
    refine bK (aR (L':=(rwb,.box (dE (fw.set c (-1))) 3)::qz R nb kb mb rb ⟨M1,q1,k1,qr1⟩ (tok qt 22 1 tab.length++tok qe 194 1 ends.length)) (Ll _)) ?_
    repeat' (first|refine ae ?_|refine a6 ?_|refine LF a7 I9 ?_|(apply bL;first|refine LI a7 0 LC ?_|refine LI a7 1 LC ?_|refine LI a7 2 LC ?_|refine LI a7 3 LC ?_|refine LJ a7 0 LC ?_|refine LJ a7 1 LC ?_|refine LJ a7 2 LC ?_|refine LL a7 1 LA (by assumption) rfl ?_|refine LL a7 0 LA (by assumption) rfl ?_|fail)|(apply aU;first|refine aT a7 ?_|refine aN a7 ?_)|fail)
    refine bh (f9 R rb k1 qr1) _ hbe rfl rfl uX rfl fun c1 L1 ⟨hc1,k2,qr2,hk2,hL⟩=>?_
    subst hc1;subst hL
    refine aS (aR (L':=(rwb,.box (dE (fw.set c (-1))) 3)::qz R nb kb mb rb ⟨M1,q1,k2,qr2⟩ (tok qt 22 1 tab.length++tok qe 194 1 ends.length)) (uX (s:=⟨M1,q1,k2,qr2⟩)).symm) ?_
    have hrs:(fw.set c (-1)).length=R.C:=by rw [List.length_set];exact hrl
    have hrs2:=iv (fw.set c (-1))
    repeat' (first|refine ae ?_|refine a6 ?_|refine a8 ?_|refine aa ?_|refine LF a7 I9 ?_|(apply aK;first|refine LH 12 a7 0 LE ?_|refine LH 12 a7 1 LE ?_|refine LH 12 a7 2 LE ?_|refine LG a7 0 LD ?_|refine LG a7 1 LD ?_|refine LG a7 2 LD ?_|refine LG a7 3 LD ?_|fail)|refine bg a7 fun _=>?_|fail)
    refine ay rfl (fun h1=>?_) (fun h1=>?_)
    ·have hne:(c9 R.cls R.rows p c).2≠0:=by
      intro e
      have h1':((c9 R.cls R.rows p c).2:Int)≠0:=Ly h1
      rw [e] at h1'
      exact h1' rfl
     have hst2:=hst1.meet h.long hne
     have hsm2:=(h.small hst2).1
     have hme:=yn nb kb mb M1 hsm1 (by omega) q1 (c9 R.cls R.rows p c) (hsm2 _ (l4 _ _))
     have hput:=iw (l:=fw.set c (-1)) (i:=c) (z:=((ea M1 (c9 R.cls R.rows p c)).idxOf (c9 R.cls R.rows p c):Nat))
     have hcn:=iW.new (M:=M1) hne
     have htm:=htb1.more (by have:=(Lm hp1).1;omega) (c9 R.cls R.rows p c)
     have hpm:=nh (c9 R.cls R.rows p c) hp1
     have hcm:∀(c':Nat) z,c' < c→fw[c']?=some z→iW R.cls R.rows (ea M1 (c9 R.cls R.rows p c)) p c' z:=fun c' z h1 h2=>(hce c' z h1 h2).more
     clear h1
     repeat' (first|refine a6 ?_|refine LF a7 I9 ?_)
     refine lm (tL nb kb mb M1 q1) _ (ja.fn (f:=276) (caps:=[iO nb,iO mb]) hme) rfl rfl uW rfl rfl fun c2 L2 ⟨hc2',q2,hL⟩=>?_
     subst hc2';subst hL
     refine aS (aR (L':=(rwb,.box (dE (fw.set c (-1))) 3)::qz R nb kb mb rb ⟨ea M1 (c9 R.cls R.rows p c),q2,k2,qr2⟩ (tok qt 22 1 tab.length++tok qe 194 1 ends.length)) (uW (s:=⟨ea M1 (c9 R.cls R.rows p c),q2,k2,qr2⟩)).symm) ?_
     repeat' (first|(apply aU;first|refine aT a7 ?_|refine aN a7 ?_)|fail)
     refine ai a7 0 rfl rfl rfl rfl rfl rfl (Nat.ble_eq_true_of_le (by rw [hrs2,hrs,Int.toNat_natCast];show 0+c * 1+1≤_;omega)) ?_
     rw [hput]
     repeat' (first|refine a6 ?_|refine a8 ?_|refine aM ?_|refine aa ?_|refine LF a7 I9 ?_|(apply aY;refine aX ?_)|fail)
     refine aE (c+1,⟨ea M1 (c9 R.cls R.rows p c),q2,k2,qr2⟩,(fw.set c (-1)).set c ((ea M1 (c9 R.cls R.rows p c)).idxOf (c9 R.cls R.rows p c):Nat)) rfl ⟨by rw [Ls];rfl,trivial⟩ ⟨hc2,hst2,htm,hpm,by rw [List.length_set];exact hrs,hk2,fun c' z h1 h2=>?_⟩ (by dsimp only;omega) (fun _ _ hh=>hh)
     by_cases he:c'=c
     ·subst he
      rw [List.getElem?_set_self (by omega)] at h2
      cases h2
      exact hcn
     ·rw [List.getElem?_set_ne (fun e=>he e.symm),List.getElem?_set_ne (fun e=>he e.symm)] at h2
      exact hcm c' z (by dsimp only at h1;omega) h2
    ·have he0:(c9 R.cls R.rows p c).2=0:=by
      have h1':¬((c9 R.cls R.rows p c).2:Int)≠0:=Lw h1
      omega
     clear h1
     repeat' (first|refine a6 ?_|refine au ?_|refine a8 ?_|refine aM ?_|refine aa ?_|refine LF a7 I9 ?_|(apply aY;refine aX ?_)|fail)
     refine aE (c+1,⟨M1,q1,k2,qr2⟩,fw.set c (-1)) rfl ⟨by rw [Ls];rfl,trivial⟩ ⟨hc2,hst1,htb1,hp1,hrs,hk2,fun c' z h1 h2=>?_⟩ (by dsimp only;omega) (fun _ _ hh=>hh)
     by_cases he:c'=c
     ·subst he
      rw [List.getElem?_set_self (by omega)] at h2
      cases h2
      exact .inl ⟨he0,rfl⟩
     ·rw [List.getElem?_set_ne (fun e=>he e.symm)] at h2
      exact hce c' z (by dsimp only at h1;omega) h2
   ·have hc2:c=R.C:=by have:=Lw h1;omega
    subst hc2
    have hn3:tab.length < M1.length:=(Lm hp1).1
    have hpg:=oI hp1
    have hps2:=hsm1 p (Lv hp1)
    have hml1:(M1.map lV).length=M1.length:=Lr ..
    have hen:=F1 R hok rb k1 qr1 hk1 p (by have:=hps2.1;omega) (by have:=hps2.2;omega)
    have htl3:=cw tab
    have hul3:=rz ends
    have hsn:=htb1.snoc hp1 hrl fun c' z h2=>hce c' z (by have:=(Lm h2).1;omega) h2
    have hel:=htb1.len
    clear h1
    repeat' (first|refine ae ?_|refine a6 ?_|refine aL ?_|refine a8 ?_|refine av ?_|refine aA ?_|refine aw ?_|refine aa ?_|refine LF a7 I9 ?_|(apply bL;first|refine LI a7 0 LC ?_|refine LI a7 1 LC ?_|refine LI a7 2 LC ?_|refine LI a7 3 LC ?_|refine LJ a7 0 LC ?_|refine LJ a7 1 LC ?_|refine LJ a7 2 LC ?_|refine LL a7 1 LA (by assumption) rfl ?_|refine LL a7 0 LA (by assumption) rfl ?_|fail)|fail)
    refine ay rfl (fun h1=>?_) (fun h1=>?_)
    ·have h1':(20000:Int) < ((M1.map lV).length:Int):=Ly h1
     omega
    clear h1
    refine bK (cW (t:=10) (sz:=1) (n:=R.C) (cap:=R.C) (l:=aO fw) 0 rfl rfl (by rw [←ow,Nat.mul_one,List.take_of_length_le (by omega)]) (by omega) (fun e he=>by unfold aO at he;obtain ⟨y,_,rfl⟩:=List.mem_map.1 he;rfl) (by rw [aW];exact hrl) (Nat.le_refl _) (by unfold maxLen;omega)) ?_
    repeat' (first|refine ae ?_|refine a6 ?_|refine au ?_|refine a8 ?_|refine LF a7 I9 ?_|refine bS a7 ?_|fail)
    refine bP a7 (qz R nb kb mb rb ⟨M1,q1,k1,qr1⟩ (tok qe 194 1 ends.length)) rfl rfl rfl rfl (by rw [htl3];exact yf) (by rw [htl3];simp;omega) (by rw [htl3];simp;omega) rfl fun qt'=>?_
    have hrsn:aZ tab++[[AV.imm 1 (aO fw)]]=aZ (tab++[fw]):=by simp [aZ]
    refine aS (aR (L':=qz R nb kb mb rb ⟨M1,q1,k1,qr1⟩ (tok qt' 22 1 (aZ tab++[[AV.imm 1 (aO fw)]]).length++tok qe 194 1 ends.length)) yf.symm) ?_
    repeat' (first|refine a6 ?_|refine a8 ?_|refine aa ?_|refine LF a7 I9 ?_|(apply bL;first|refine LI a7 0 LC ?_|refine LI a7 1 LC ?_|refine LI a7 2 LC ?_|refine LI a7 3 LC ?_|refine LJ a7 0 LC ?_|refine LJ a7 1 LC ?_|refine LJ a7 2 LC ?_|refine LL a7 1 LA (by assumption) rfl ?_|refine LL a7 0 LA (by assumption) rfl ?_|fail)|(apply aU;first|refine aT a7 ?_|refine aN a7 ?_)|fail)
    refine bh (f9 R rb k1 qr1) _ hen rfl rfl mJ rfl fun c1 L1 ⟨hc1,k2,qr2,hk2,hL⟩=>?_
    subst hc1;subst hL
    refine aS (aR (L':=qz R nb kb mb rb ⟨M1,q1,k2,qr2⟩ (tok qt' 22 1 (aZ tab++[[AV.imm 1 (aO fw)]]).length++tok qe 194 1 ends.length)) (mJ (s:=⟨M1,q1,k2,qr2⟩)).symm) ?_
    repeat' (first|refine bS a7 ?_|fail)
    refine bP a7 (qz R nb kb mb rb ⟨M1,q1,k2,qr2⟩ (tok qt' 22 1 (aZ tab++[[AV.imm 1 (aO fw)]]).length)) rfl rfl rfl rfl (by rw [hul3];exact ye) (by rw [hul3];simp;omega) (by rw [hul3];simp;omega) rfl fun qe'=>?_
    have husn:gu ends++[[lc (jj R.rows p)]]=gu (ends++[jj R.rows p]):=by simp [gu]
    refine aS (aR (L':=qz R nb kb mb rb ⟨M1,q1,k2,qr2⟩ (tok qt' 22 1 (aZ tab++[[AV.imm 1 (aO fw)]]).length++tok qe' 194 1 (gu ends++[[lc (jj R.rows p)]]).length)) ye.symm) ?_
    repeat' (first|refine a6 ?_|refine a8 ?_|refine aM ?_|refine aa ?_|refine LF a7 I9 ?_|(apply aY;refine aX ?_)|fail)
    have hll:(tab++[fw]).length=tab.length+1:=by simp
    refine aE ⟨⟨M1,q1,k2,qr2⟩,tab++[fw],qt',ends++[jj R.rows p],qe'⟩ rfl ⟨?_,by dsimp only;rw [←hrsn];rfl,by dsimp only;rw [←husn];rfl,trivial⟩ ⟨hst1,hsn,by dsimp only;omega,hk2⟩ (by dsimp only;omega) (fun _ _ hh=>?_)
    ·dsimp only
     rw [hll,Ls]
     rfl
    ·dsimp only
     rw [hrsn,husn,cw,rz] at hh
     exact hh
 ·have hn2:tab.length=M.length:=by
   have h1':¬(tab.length:Int) < ((M.map lV).length:Int):=Lw h1
   omega
  clear h1
  repeat' (first|refine ae ?_|refine a6 ?_|refine aq ?_|refine aL ?_|refine a8 ?_|refine av ?_|refine aA ?_|refine aw ?_|refine aa ?_|refine LF a7 I9 ?_)
  refine b6 (bA (t:=2) (c':= .imm 1 (aZ tab)) rfl fun σ v h=>VR.im h) ?_
  refine b6 (bA (t:=3) (c':= .imm 1 (gu ends)) rfl fun σ v h=>VR.im h) ?_
  exact fP (cs:=[.imm 1 (aZ tab),.imm 1 (gu ends),cQ true]) [] ⟨rfl,rfl,rfl,trivial⟩ (List.nil_sublist _) ⟨tab,ends,htb.done hst hn2,rfl⟩
set_option maxRecDepth 8000
structure uf (N:Nat) (r:bz):Prop where
 back:∀s∈r.Back,kB s∧∀g∈s,0≤g∧g < (N:Int)
 in_:∀s∈r.In,kB s∧∀g∈s,0≤g∧g < (N:Int)
 ahead:∀s∈r.Ahead,kB s∧∀g∈s,0≤g∧g < (N:Int)
 long:r.Back.length≤200∧r.In.length+r.Ahead.length≤200
structure xC (N:Nat) (l:b7):Prop where
 few:l.Rules.length≤6
 rule:∀r∈l.Rules,uf N r
def ee (rs:List bz):List (List Int):=rs.flatMap fun r=>r.Back++r.In++r.Ahead
theorem yZ {rs:List bz} {k:Nat} {r:bz} (h:rs[k]?=some r):ee (rs.take (k+1))=ee (rs.take k)++r.Back++r.In++r.Ahead:=by
 unfold ee
 rw [List.take_add_one,h]
 simp
theorem pI {N:Nat}:∀{rs:List bz},(∀r∈rs,uf N r)→(ee rs).length≤400 * rs.length
 | [],_=>by simp [ee]
 | r::rs,h=>by
  have ih:=pI (rs:=rs) fun x hx=>h x (by simp [hx])
  have hr:=(h r (by simp)).long
  unfold ee at ih ⊢
  rw [List.flatMap_cons,List.length_append,List.length_append,List.length_append,List.length_cons]
  omega
theorem t8 {N:Nat} {rs:List bz} (h:∀r∈rs,uf N r):∀s∈ee rs,kB s∧∀g∈s,0≤g∧g < (N:Int):=by
 intro s hs
 unfold ee at hs
 obtain ⟨r,hr,hs⟩:=List.mem_flatMap.1 hs
 rw [List.mem_append,List.mem_append] at hs
 rcases hs with (hs | hs) | hs
 ·exact (h r hr).back s hs
 ·exact (h r hr).in_ s hs
 ·exact (h r hr).ahead s hs
structure kA where
 cls:List Int
 fore:List (List Int)
 back:List (List Int)
 foreE:List Nat
 backE:List Nat
def JQ (a:kA):List AV:=[.imm 1 (aO a.cls),.imm 1 (aZ a.fore),.imm 1 (aZ a.back),.imm 1 (gu a.foreE),.imm 1 (gu a.backE)]
structure xD (N:Nat) (rs:List bz) (a:kA):Prop where
 cls:ug N (gw a.cls).toNat a.cls (ee rs)
 fore:rW a.cls (rs.map fun r=>(oz r).1) (jW oz rs) (gw a.cls).toNat a.fore a.foreE
 back:rW a.cls (rs.map fun r=>(pW r).1) (jW pW rs) (gw a.cls).toNat a.back a.backE
theorem kM (r:bz):(f7 r).length≤r.In.length+r.Ahead.length:=by
 unfold f7
 split
 ·simp
 ·rw [List.length_append];omega
theorem kN {r:bz} {s:List Int} (h:s∈f7 r):s∈r.In∨s∈r.Ahead:=by
 unfold f7 at h
 split at h
 ·cases h
 ·exact Lj h
section
variable {N:Nat} {l:b7} (h:xC N l) (hN0:0 < N) (hN:N≤65536)
include h
theorem n2:∀s∈ee l.Rules,(∀g∈s,0≤g∧g < (N:Int))∧s.Nodup:=fun s hs=>⟨(t8 h.rule s hs).2,gV (t8 h.rule s hs).1⟩
include hN
theorem qZ:(∀z∈dV N (ee l.Rules),0≤z∧z≤1000000)∧(dV N (ee l.Rules)).length=N∧(gw (dV N (ee l.Rules))).toNat≤1000000∧∀z∈dV N (ee l.Rules),0≤z∧z < ((gw (dV N (ee l.Rules))).toNat:Int):=by
 have h1:=sL N _ (n2 h)
 refine ⟨fun z hz=>by have:=h1 z hz;omega,sM N _ (n2 h),?_,(vx N _ (n2 h)).dom⟩
 have:gw (dV N (ee l.Rules))≤(N:Int):=sH (by omega) fun z hz=>(h1 z hz).2
 omega
theorem I4:Bl l.Rules (dV N (ee l.Rules)):=by
 obtain ⟨h1,h2,_,_⟩:=qZ h hN
 exact ⟨h.few,h1,by omega,fun r hr=>by have:=(h.rule r hr).long;omega⟩
theorem F6:Bm (r7 oz l.Rules (dV N (ee l.Rules))) (jW oz l.Rules) 200:=by
 obtain ⟨h1,h2,h3,h4⟩:=qZ h hN
 refine ⟨⟨by show (l.Rules.map _).length≤6;rw [Lr];exact h.few,h4,fun fw hrow s hs=>?_,fun fw hrow=>?_,h3,by show (dV N (ee l.Rules)).length≤_;omega⟩,by show cn _ _=cn _ (l.Rules.map _).length;rw [Lr],fun fw hrow=>?_,Nat.le_refl _⟩
 ·obtain ⟨r,hr,rfl⟩:=List.mem_map.1 hrow
  have hb:=h.rule r hr
  have hsr:kB s∧∀g∈s,0≤g∧g < (N:Int):=by
   rcases kN hs with hs | hs
   ·exact hb.in_ s hs
   ·exact hb.ahead s hs
  refine ⟨fun g hg=>?_,?_⟩
  ·show 0≤g∧g < ((dV N (ee l.Rules)).length:Int)
   rw [h2]
   exact hsr.2 g hg
  ·have:=fK (gV hsr.1) hsr.2
   omega
 ·obtain ⟨r,hr,rfl⟩:=List.mem_map.1 hrow
  have:=kM r
  have:=(h.rule r hr).long
  show (f7 r).length≤_
  omega
 ·obtain ⟨r,hr,rfl⟩:=List.mem_map.1 hrow
  have:=kM r
  have:=(h.rule r hr).long
  show (f7 r).length≤_
  omega
theorem Ex:Bm (r7 pW l.Rules (dV N (ee l.Rules))) (jW pW l.Rules) 200:=by
 obtain ⟨h1,h2,h3,h4⟩:=qZ h hN
 refine ⟨⟨by show (l.Rules.map _).length≤6;rw [Lr];exact h.few,h4,fun fw hrow s hs=>?_,fun fw hrow=>?_,h3,by show (dV N (ee l.Rules)).length≤_;omega⟩,by show cn _ _=cn _ (l.Rules.map _).length;rw [Lr],fun fw hrow=>?_,Nat.le_refl _⟩
 ·obtain ⟨r,hr,rfl⟩:=List.mem_map.1 hrow
  have hsr:=(h.rule r hr).back s hs
  refine ⟨fun g hg=>?_,?_⟩
  ·show 0≤g∧g < ((dV N (ee l.Rules)).length:Int)
   rw [h2]
   exact hsr.2 g hg
  ·have:=fK (gV hsr.1) hsr.2
   omega
 ·obtain ⟨r,hr,rfl⟩:=List.mem_map.1 hrow
  have:=(h.rule r hr).long
  show r.Back.length≤_
  omega
 ·obtain ⟨r,hr,rfl⟩:=List.mem_map.1 hrow
  have:=(h.rule r hr).long
  show r.Back.length≤_
  omega
end
set_option maxHeartbeats 8000000 in
theorem BV (f:aV) (n:Nat) (l:b7) (hl:f.Lookups[n]?=some l) (h:xC f.Glyphs.length l) (hN0:0 < f.Glyphs.length) (hN:f.Glyphs.length≤65536):AC Tryz.prog 139 [cD f,aH n] [] fun c _=>∃a,xD f.Glyphs.length l.Rules a∧c= .tup [.agg (JQ a),aH 0]:=by
 refine aP Tryz.func139 rfl Tryz.ntmps139 rfl fun B=>?_
 have hgl:(f.Glyphs.map bj).length=f.Glyphs.length:=Lr ..
 have hll:(f.Lookups.map bv).length=f.Lookups.length:=Lr ..
 have hrl:(l.Rules.map bG).length=l.Rules.length:=Lr ..
 have hnl:=(Lm hl).1
 have hlg:(f.Lookups.map bv)[n]?=some (bv l):=by simp [hl]
 have hfew:=h.few
 repeat' (first|refine ae ?_|refine a6 ?_|refine a8 ?_|refine aa ?_|refine LF a7 I9 ?_|refine LN I9 ?_|refine bo ?_|refine bg a7 fun _=>?_|fail)
 refine cN [1,2,4] False rfl (fun Q' K=>?_) (fun hC=>hC.elim) (fun _=>?_)
 ·repeat' (first|refine aa ?_|refine LF a7 I9 ?_|refine LN I9 ?_|refine LO LB ?_|refine bc rfl rfl rfl (fun _=>?_) (fun _=>?_))
  all_goals exact K _ _ rfl rfl (by simp_all <;> omega)
 repeat' (first|refine ae ?_|refine a6 ?_|refine au ?_|refine a8 ?_|refine aa ?_|refine LF a7 I9 ?_|(apply aU;first|refine aT a7 ?_|refine aN a7 ?_)|fail)
 rename_i r4 _
 have hpd:=rP f.Glyphs.length hN0 hN (ee l.Rules) (t8 h.rule) (by have:=pI h.rule;omega)
 have hcls:=vx f.Glyphs.length (ee l.Rules) (n2 h)
 have hso:=I4 h hN
 have hsf:=sT _ _ _ (F6 h hN) (.fnB 220 [.agg (wq l.Rules (dV f.Glyphs.length (ee l.Rules)))] []) (ja.fnB (f:=220) (fs:=[.agg (wq l.Rules (dV f.Glyphs.length (ee l.Rules)))]) (caps:=[]) (Ck hso))
 have hsb:=sT _ _ _ (Ex h hN) (.fnB 221 [.agg (wq l.Rules (dV f.Glyphs.length (ee l.Rules)))] []) (ja.fnB (f:=221) (fs:=[.agg (wq l.Rules (dV f.Glyphs.length (ee l.Rules)))]) (caps:=[]) (BP hso))
 refine ay rfl (fun h1=>?_) (fun h1=>?_)
 ·have:=Ly h1
  omega
 clear h1
 repeat' (first|refine ae ?_|refine a6 ?_|refine am ?_|refine au ?_|refine a8 ?_|refine aa ?_|refine LF a7 I9 ?_)
 refine bK (bA (t:=7) (c':= .vec none 1 (aZ [])) rfl fun σ v h=>cC 1 h) ?_
 refine aJ [2,4,6,49,50] (α:=Nat×Option (Nat×Nat)) (fun s=>[(51,aH s.1),(7,.vec s.2 1 (aZ (ee (l.Rules.take s.1))))]) (fun s=>s.1≤l.Rules.length) (fun s=>(r4,.box [.sc (.slice none 0 0),.sc (.slice none 0 0),.sc (.slice none 0 0),.sc (.slice none 0 0),.sc (.slice none 0 0)] 241)::tok s.2 22 1 (ee (l.Rules.take s.1)).length) (fun s=>l.Rules.length - s.1) (0,none) rfl ⟨rfl,rfl,trivial⟩ (Nat.zero_le _) (fun _ _ hh=>hh) ?_
 ·rintro ⟨k,q⟩ hk
  dsimp only at hk ⊢
  try dsimp only [Lp,Lo,Ln,Lh]
  repeat' (first|refine ae ?_|refine a6 ?_|refine a8 ?_|refine aa ?_|refine LF a7 I9 ?_)
  refine ay rfl (fun h1=>?_) (fun h1=>?_)
  ·have hk2:k < l.Rules.length:=by have:=Ly h1;omega
   obtain ⟨r,hr⟩:∃z,l.Rules[k]?=some z:=⟨_,Lz hk2⟩
   have hrg:(l.Rules.map bG)[k]?=some (bG r):=by simp [hr]
   have hlong:=(h.rule r (Lv hr)).long
   have hal:=yZ hr
   have hlen:(ee (l.Rules.take k)).length≤2400:=by
    have:=pI (N:=f.Glyphs.length) (rs:=l.Rules.take k) fun x hx=>h.rule x (List.mem_of_mem_take hx)
    rw [List.length_take] at this
    omega
   have hri:aZ (ee (l.Rules.take (k+1)))=aZ (ee (l.Rules.take k))++aZ r.Back++aZ r.In++aZ r.Ahead:=by rw [hal];simp [aZ]
   have hrl0:=cw (ee (l.Rules.take k))
   have hrl1:=cw r.Back
   have hrl2:=cw r.In
   have hrl3:=cw r.Ahead
   have hln:(ee (l.Rules.take (k+1))).length=(ee (l.Rules.take k)).length+r.Back.length+r.In.length+r.Ahead.length:=by rw [hal,List.length_append,List.length_append,List.length_append]
   generalize aZ (ee (l.Rules.take k))=A0 at *
   generalize (ee (l.Rules.take k)).length=n0 at *
   clear h1
   repeat' (first|refine ae ?_|refine a6 ?_|refine am ?_|refine au ?_|refine a8 ?_|refine aa ?_|refine LF a7 I9 ?_|(apply aU;first|refine aT a7 ?_|refine aN a7 ?_)|(apply aK;first|refine LH 9 a7 0 LE ?_|refine LH 9 a7 1 LE ?_|refine LH 9 a7 2 LE ?_|refine LH 10 a7 0 LE ?_|refine LH 10 a7 1 LE ?_|refine LH 10 a7 2 LE ?_|refine LG a7 0 LD ?_|refine LG a7 1 LD ?_|refine LG a7 2 LD ?_|refine LG a7 3 LD ?_|fail)|refine bg a7 fun _=>?_|fail)
   refine bP a7 [(r4,.box [.sc (.slice none 0 0),.sc (.slice none 0 0),.sc (.slice none 0 0),.sc (.slice none 0 0),.sc (.slice none 0 0)] 241)] rfl rfl rfl rfl (by rw [hrl0];exact List.perm_append_comm (l₁:=[_])) (by omega) (by omega) rfl fun q1=>?_
   repeat' (first|refine ae ?_|refine a6 ?_|refine a8 ?_|refine aa ?_|refine LF a7 I9 ?_)
   refine bP a7 [(r4,.box [.sc (.slice none 0 0),.sc (.slice none 0 0),.sc (.slice none 0 0),.sc (.slice none 0 0),.sc (.slice none 0 0)] 241)] rfl rfl rfl rfl (Ll _) (by rw [List.length_append];omega) (by rw [List.length_append];omega) rfl fun q2=>?_
   repeat' (first|refine a6 ?_|refine a8 ?_|refine aa ?_|refine LF a7 I9 ?_)
   refine bP a7 [(r4,.box [.sc (.slice none 0 0),.sc (.slice none 0 0),.sc (.slice none 0 0),.sc (.slice none 0 0),.sc (.slice none 0 0)] 241)] rfl rfl rfl rfl (Ll _) (by rw [List.length_append,List.length_append];omega) (by rw [List.length_append,List.length_append];omega) rfl fun q3=>?_
   repeat' (first|refine a6 ?_|refine a8 ?_|refine aM ?_|refine aa ?_|refine LF a7 I9 ?_|(apply aY;refine aX ?_)|fail)
   refine aE (k+1,q3) rfl ⟨by rw [Ls];rfl,by dsimp only;rw [hri];rfl,trivial⟩ hk2 (by dsimp only;omega) (fun σ w hh=>?_)
   have h2:=hh.perm (List.perm_append_comm (l₂:=[_]))
   have h3:(A0++aZ r.Back++aZ r.In++aZ r.Ahead).length=(ee (l.Rules.take (k+1))).length:=by rw [hln,List.length_append,List.length_append,List.length_append];omega
   rw [h3] at h2
   exact h2
  ·have hk2:k=l.Rules.length:=by have:=Lw h1;omega
   subst hk2
   rw [List.take_length]
   haveI:AD Tryz.prog 218 [aH ((f.Glyphs.map bj).length:Nat),.imm 1 (aZ (ee l.Rules))] (.imm 1 (aO (dV f.Glyphs.length (ee l.Rules)))):=⟨by rw [hgl];exact hpd⟩
   clear h1
   repeat' (first|refine ae ?_|refine a6 ?_|refine aL ?_|refine a8 ?_|refine av ?_|refine aA ?_|refine aw ?_|refine aa ?_|refine LF a7 I9 ?_|(apply aK;first|refine LH 9 a7 0 LE ?_|refine LH 9 a7 1 LE ?_|refine LH 9 a7 2 LE ?_|refine LH 10 a7 0 LE ?_|refine LH 10 a7 1 LE ?_|refine LH 10 a7 2 LE ?_|refine LG a7 0 LD ?_|refine LG a7 1 LD ?_|refine LG a7 2 LD ?_|refine LG a7 3 LD ?_|fail)|refine bg a7 fun _=>?_|(apply bw;refine bi ?_)|fail)
   refine bh [] _ hsf rfl rfl (Ll _) rfl fun c1 L1 ⟨ft,fe,hf1,hc1⟩=>?_
   subst hc1
   refine aS (bX (List.sublist_append_right ..)) ?_
   repeat' (first|refine ae ?_|refine a6 ?_|refine au ?_|refine a8 ?_|refine aa ?_|refine LF a7 I9 ?_|refine bk rfl ?_)
   refine bh [] _ hsb rfl rfl (Ll _) rfl fun c1 L1 ⟨bt,be,hb1,hc1⟩=>?_
   subst hc1
   refine aS (bX (List.sublist_append_right ..)) ?_
   repeat' (first|refine ae ?_|refine a6 ?_|refine au ?_|refine aq ?_|refine a8 ?_|refine aa ?_|refine LF a7 I9 ?_|(apply aK;first|refine LH 9 a7 0 LE ?_|refine LH 9 a7 1 LE ?_|refine LH 9 a7 2 LE ?_|refine LH 10 a7 0 LE ?_|refine LH 10 a7 1 LE ?_|refine LH 10 a7 2 LE ?_|refine LG a7 0 LD ?_|refine LG a7 1 LD ?_|refine LG a7 2 LD ?_|refine LG a7 3 LD ?_|fail)|refine bk rfl ?_)
   exact fP (cs:=[.agg (JQ ⟨dV f.Glyphs.length (ee l.Rules),ft,bt,fe,be⟩),aH 0]) [] ⟨⟨_,0,_,_,rfl,rfl,.inr ⟨dR a7 rfl,rfl⟩⟩,rfl,trivial⟩ (List.nil_sublist _) ⟨⟨dV f.Glyphs.length (ee l.Rules),ft,bt,fe,be⟩,⟨hcls,hf1,hb1⟩,rfl⟩
end Go.Proofs.YtamjlkdanllgjaaGreatDoor
namespace Go.Proofs.YtamjlkdanllgjaaGreatDoor
open Go.RowKit
attribute [local irreducible] AT bB AX AO Av Kt ba dt DA cz
set_option maxRecDepth 8000
theorem iz {α:Type} {g:α→Nat} {k:Nat}:∀{l:List α} {m:Nat},m≤k→(∀x∈l,g x≤k)→l.foldl (fun m x=>max m (g x)) m≤k
 | [],_,h,_=>h
 | a::l,m,h,hl=>by
  rw [List.foldl_cons]
  exact iz (by have:=hl a (by simp);omega) fun x hx=>hl x (by simp [hx])
theorem zO (rs:List bz):jW oz rs=Ci rs:=by
 funext n
 unfold jW Ci oz
 rfl
theorem wo (rs:List bz) (gl:List Int):cn (gB (rs.map bz.Back) (jW pW rs) gl) (rs.map bz.Back).length=cn (gB (rs.map bz.Back) (fun _=>true) gl) (rs.map bz.Back).length:=by
 refine iu fun i=>?_
 rw [co,co]
 by_cases hi:i < (rs.map bz.Back).length
 ·rw [Lr] at hi
  congr 1
  unfold gB jW
  rw [List.getElem?_map,Lz hi]
  rfl
 ·rw [decide_eq_false hi,Bool.false_and,Bool.false_and]
def EK (l:b7) (a:kA):B8:=⟨l,a.cls,a.fore,a.back,a.foreE,a.backE⟩
theorem vV {cls:List Int} {rows:List (List (List Int))} {hv:Nat→Bool} {C:Nat} {tab:List (List Int)} {ends:List Nat} (h:rW cls rows hv C tab ends) (hr:rows.length≤6):∀z∈ends,z < 2 ^ 64:=by
 intro z hz
 obtain ⟨met,h0,h1,h2,h3,h4⟩:=h.met
 obtain ⟨i,hi⟩:=List.mem_iff_getElem?.1 hz
 have hil:=(Lm hi).1
 obtain ⟨p,hp⟩:∃p,met[i]?=some p:=⟨_,Lz (by omega)⟩
 have:=h3 i p hp
 rw [hi] at this
 cases this
 unfold jj
 split
 ·exact Nat.pow_pos (by omega)
 ·refine Nat.lt_of_le_of_lt Nat.and_le_right ?_
  exact nC (by omega)
theorem Ew {N:Nat} {l:b7} (h:xC N l) {a:kA} (hb:xD N l.Rules a):px (EK l a):=by
 have hcs:∀z∈a.cls,z.toNat < (gw a.cls).toNat:=fun z hz=>by
  have h1:=hb.cls.dom z hz
  omega
 have hf:∀r∈l.Rules,(f7 r).length≤200∧r.Back.length≤200:=fun r hr=>by
  have:=(h.rule r hr).long
  have:=kM r
  omega
 refine ⟨h.few,⟨vV hb.fore (by rw [Lr];exact h.few),vV hb.back (by rw [Lr];exact h.few)⟩,fun gl=>?_,fun gl=>?_,?_,?_⟩
 ·have:=oS hb.cls (rows:=l.Rules.map f7) (fun fw hrow s hs=>?_) hb.fore hcs gl
  ·rw [zO] at this
   exact this
  ·obtain ⟨r,hr,rfl⟩:=List.mem_map.1 hrow
   have hbr:=h.rule r hr
   refine ⟨List.mem_flatMap.2 ⟨r,hr,?_⟩,?_⟩
   ·rw [List.mem_append,List.mem_append]
    rcases kN hs with hs | hs
    ·exact .inl (.inr hs)
    ·exact .inr hs
   ·rcases kN hs with hs | hs
    ·exact (hbr.in_ s hs).2
    ·exact (hbr.ahead s hs).2
 ·have:=oS hb.cls (rows:=l.Rules.map bz.Back) (fun fw hrow s hs=>?_) hb.back hcs gl
  ·rw [wo] at this
   exact this
  ·obtain ⟨r,hr,rfl⟩:=List.mem_map.1 hrow
   exact ⟨List.mem_flatMap.2 ⟨r,hr,by rw [List.mem_append,List.mem_append];exact .inl (.inl hs)⟩,((h.rule r hr).back s hs).2⟩
 ·exact iz (by omega) fun r hr=>by have:=(h.rule r hr).long;show r.In.length+r.Ahead.length≤_;omega
 ·exact iz (by omega) fun r hr=>by have:=(h.rule r hr).long;show r.Back.length≤_;omega
end Go.Proofs.YtamjlkdanllgjaaGreatDoor
