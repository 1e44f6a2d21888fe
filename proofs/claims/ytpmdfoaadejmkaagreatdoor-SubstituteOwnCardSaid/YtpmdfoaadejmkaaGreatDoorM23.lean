/-
  The program: a heap of numbers.
-/
import Derived.Test.YtpmdfoaadejmkaaGreatDoorM22
import Derived.Test.YtpmdfoaadejmkaaGreatDoorM11
import Derived.Test.YtpmdfoaadejmkaaGreatDoorM14
import Derived.Test.YtpmdfoaadejmkaaGreatDoorM06
namespace Go.Proofs.YtpmdfoaadejmkaaGreatDoor
open Go.RowKit
attribute [local irreducible] AT br AX AO Av Kt b7 dm DA cA
theorem Lg {P:Program} {f:FuncId} {fn:Func} {c:Code} (hf:P.funcs[f]?=some fn) (hn:(fn.name== "runtime.NumGoroutine")=false:=by kernel_rfl) (hb:fn.body=some c:=by rfl):bD P f:=⟨ak hf hn hb⟩
instance:bD Tryz.prog 338:=Lg Tryz.func338
instance:bD Tryz.prog 339:=Lg Tryz.func339
instance:bD Tryz.prog 340:=Lg Tryz.func340
instance:bD Tryz.prog 341:=Lg Tryz.func341
instance:bD Tryz.prog 342:=Lg Tryz.func342
theorem DD:n9 Tryz.prog 344 "Len" 338 false 339:=j7 (by kernel_rfl)
theorem re:n9 Tryz.prog 344 "Less" 339 false 339:=j7 (by kernel_rfl)
theorem rf:n9 Tryz.prog 344 "Swap" 340 false 339:=j7 (by kernel_rfl)
theorem J9:n9 Tryz.prog 344 "Pop" 341 true 339:=j7 (by kernel_rfl)
theorem I3:n9 Tryz.prog 344 "Push" 342 true 339:=j7 (by kernel_rfl)
section
variable {P:Program} {fr:bT} {d:Option Tmp} {ty t t':TypeId} {pos:String} {af:Array Edge} {g:Option (Nat×Bool)} {x y:Operand}
theorem Hw {z:Int} {n:Nat} (hz:z=(n:Int) - 1) (hx:bh fr x=some (aI z)) (hy:bh fr y=some (aI 2)) (hn:n≤9223372036854775807):Av P ⟨d,.binOp .quo t x y t',ty,pos,af,g⟩ fr (aI (((n - 1) / 2:Nat):Int)):=by
 have h:=yt (P:=P) (d:=d) (ty:=ty) (pos:=pos) (af:=af) (g:=g) (t:=t) (t':=t') hx hy (by omega)
 have e:IntKind.i64.wrap (z.tdiv 2)=(((n - 1) / 2:Nat):Int):=by
  subst hz
  have:((n:Int) - 1).tdiv 2=(((n - 1) / 2:Nat):Int):=by
   cases n with
   | zero=>rfl
   | succ m=>
    rw [show (((m+1:Nat):Int) - 1)=(m:Int) by omega,Int.tdiv_eq_ediv_of_nonneg (by omega)]
    simp
  rw [this,qW (by omega)]
 rwa [e] at h
end
abbrev HI (p:Nat):AV:= .sc (.iface 344 (.pointer (some ⟨p,0,none⟩)))
def BZ (k:Option (Nat×List AV)) (n:Nat):Value:=match k with
 | none=> .slice none 0 0
 | some (b,cs)=> .slice (some ⟨b,0,none⟩) n cs.length
def qY (k:Option (Nat×List AV)):AL:=match k with
 | none=>[]
 | some (b,cs)=>[(b,.box cs 3)]
def hst (p:Nat) (k:Option (Nat×List AV)) (l:List Int):AL:=(p,.box [.sc (BZ k l.length)] 339)::qY k
def p8 (k:Option (Nat×List AV)) (l:List Int):Prop:=match k with
 | none=>l=[]
 | some (_,cs)=>cs.take l.length=l.map aI∧l.length≤cs.length∧0 < cs.length
theorem p8.get {b:Nat} {cs:List AV} {l:List Int} (h:p8 (some (b,cs)) l) {a:Int} (h0:0≤a) (h1:a < l.length):∃x,l[a.toNat]?=some x∧cs[0+a.toNat * 1]?=some (aI x):=by
 obtain ⟨x,hx⟩:∃x,l[a.toNat]?=some x:=⟨_,Iy (by omega)⟩
 refine ⟨x,hx,?_⟩
 have h2:=congrArg (fun q=>q[a.toNat]?) h.1
 simp only [List.getElem?_take,List.getElem?_map,hx] at h2
 rw [if_pos (by omega)] at h2
 rw [Nat.zero_add,Nat.mul_one]
 exact h2
theorem xB (v:Value) (n c:Nat) (A:Option Addr) (hv:v= .slice A n c):c5 Tryz.prog 338 [.sc v] (aI n):=by
 subst hv
 refine aS Tryz.func338 rfl Tryz.ntmps338 rfl fun B=>?_
 refine W0u ?_
 exact LN LA
theorem nI {b n c:Nat} {cs:List AV} {x y a e:Int} (ha:0≤a∧a < n) (he:0≤e∧e < n) (hx:cs[0+a.toNat * 1]?=some (aI x)) (hy:cs[0+e.toNat * 1]?=some (aI y)):AC Tryz.prog 339 [.sc (.slice (some ⟨b,0,none⟩) n c),aI a,aI e] [(b,.box cs 3)] fun r L=>r=eo (decide (x < y))∧L=[(b,.box cs 3)]:=by
 refine aS Tryz.func339 rfl Tryz.ntmps339 rfl fun B=>?_
 refine W01 ?_
 refine bz 8 [(0,.v),(1,.v),(2,.v),(3,.l),(4,.v),(5,.v),(6,.v),(7,.l)] none ?_ trivial rfl (by kernel_rfl) (by kernel_rfl) (by kernel_rfl) bX (by kernel_rfl) rfl
 refine W0a ?_
 refine d8 a5 rfl rfl rfl ha trivial ?_
 repeat' (first|refine aD ?_|fail)
 refine cf a5 0 rfl rfl rfl hx trivial ?_
 refine W0a ?_
 refine d8 a5 rfl rfl rfl he trivial ?_
 repeat' (first|refine aD ?_|fail)
 refine cf a5 0 rfl rfl rfl hy trivial ?_
 repeat' (first|fail)
 refine LQ [10,14] KZ ?_
 refine W0c ?_
 exact LM KZ ⟨rfl,rfl⟩
theorem o4 {b n c:Nat} {cs:List AV} {x y a e:Int} (ha:0≤a∧a < n) (he:0≤e∧e < n) (hx:cs[0+a.toNat * 1]?=some (aI x)) (hy:cs[0+e.toNat * 1]?=some (aI y)) (hn:n≤cs.length):AC Tryz.prog 340 [.sc (.slice (some ⟨b,0,none⟩) n c),aI a,aI e] [(b,.box cs 3)] fun _ L=>L=[(b,.box ((cs.set a.toNat (aI y)).set e.toNat (aI x)) 3)]:=by
 refine aS Tryz.func340 rfl Tryz.ntmps340 rfl fun B=>?_
 repeat' (first|fail)
 refine bz 14 [(0,.v),(1,.v),(2,.v),(3,.v),(4,.v),(5,.v),(6,.v),(7,.l),(8,.v),(9,.v),(10,.v),(11,.l),(12,.v),(13,.e)] none ?_ trivial rfl (by kernel_rfl) (by kernel_rfl) (by kernel_rfl) bX (by kernel_rfl) rfl
 refine W0a ?_
 refine d8 a5 rfl rfl rfl he trivial ?_
 repeat' (first|refine aD ?_|fail)
 refine cf a5 0 rfl rfl rfl hy trivial ?_
 refine W0a ?_
 refine d8 a5 rfl rfl rfl ha trivial ?_
 repeat' (first|refine aD ?_|fail)
 refine cf a5 0 rfl rfl rfl hx trivial ?_
 repeat' (first|refine aD ?_|fail)
 refine d8 a5 rfl rfl rfl ha trivial ?_
 repeat' (first|refine aD ?_|fail)
 refine CU a5 0 rfl rfl rfl rfl rfl rfl (by rw [Nat.ble_eq];show _+1≤_;omega) trivial fun _=>?_
 repeat' (first|fail)
 refine LQ [8,9,17] KZ ?_
 refine W0z ?_
 refine LU a5 0 LD (by rw [Nat.ble_eq];show _+1≤(fx _ _ _).length;rw [je];omega) ?_
 repeat' (first|refine a7 ?_)
 refine cJ rfl ?_
 simp only [eF,fx,Nat.zero_add,Nat.mul_one]
theorem p8.swap {b:Nat} {cs:List AV} {l:List Int} (h:p8 (some (b,cs)) l) {a e x y:Int} (ha:0≤a∧a < l.length) (he:0≤e∧e < l.length) (hx:l[a.toNat]?=some x) (hy:l[e.toNat]?=some y):p8 (some (b,(cs.set a.toNat (aI y)).set e.toNat (aI x))) ((l.set a.toNat y).set e.toNat x)∧((l.set a.toNat y).set e.toNat x).Perm l:=by
 obtain ⟨h1,h2,h3⟩:=h
 refine ⟨⟨?_,by simpa using h2,by simpa using h3⟩,?_⟩
 ·simp only [List.length_set]
  rw [List.take_set,List.take_set,h1,List.map_set,List.map_set]
 ·obtain ⟨hx1,hx2⟩:=Ln hx
  obtain ⟨hy1,hy2⟩:=Ln hy
  subst hx2;subst hy2
  exact List.set_set_perm hx1 hy1
set_option maxHeartbeats 4000000 in
theorem yM (p b:Nat) (cs0:List AV) (l0:List Int) (h:p8 (some (b,cs0)) l0) (i0 n:Nat) (hn:n≤l0.length) (hl:l0.length≤1000000) (hi0:i0≤1000000):AC Tryz.prog 289 [HI p,aI i0,aI n] (hst p (some (b,cs0)) l0) fun _ L=>∃cs' l',L=hst p (some (b,cs')) l'∧p8 (some (b,cs')) l'∧l'.Perm l0:=by
 refine aS Tryz.func289 rfl Tryz.ntmps289 rfl fun B=>?_
 refine W04 ?_
 refine aN [0,1,2] (α:=Nat×List AV×List Int) (fun x=>[(7,aI x.1)]) (fun x=>x.1≤1000000∧p8 (some (b,x.2.1)) x.2.2∧x.2.2.Perm l0) (fun x=>hst p (some (b,x.2.1)) x.2.2) (fun x=>1000001 - x.1) (i0,cs0,l0) rfl ⟨rfl,trivial⟩ ⟨hi0,h,Lm _⟩ (fun _ _ h=>h) ?_
 rintro ⟨i,cs,l⟩ ⟨hi,hok,hpm⟩
 dsimp only at hi hok hpm ⊢
 have hll:=hpm.length_eq
 unfold hst qY BZ
 dsimp only
 try dsimp only [Lr,Lq,Lp,Li]
 refine W1c ?_
 refine ce [0,1,2,7,8] (¬(2 * (i:Int)+1 < n)) rfl (fun Q' K=>?_) (fun hC=>?_) (fun hC=>?_)
 ·repeat' (first|refine a7 ?_|refine LG a5 KZ ?_|refine LO KZ ?_|refine LP LB ?_|refine LR LA (fun _=>?_) (fun _=>?_))
  all_goals exact K _ _ rfl rfl (by clear K;simp_all <;> omega)
 ·refine W0U ?_
  exact LM KZ ⟨cs,l,rfl,hok,hpm⟩
 have hC:=Decidable.not_not.1 hC
 obtain ⟨x,hx,hxc⟩:=hok.get (a:=i) (by omega) (by omega)
 repeat' (first|refine a9 ?_|refine a4 ?_|refine aj ?_|refine a6 ?_|refine a7 ?_|refine LG a5 KZ ?_|(apply aU;refine aT ?_)|fail)
 refine LR LA (fun h2=>?_) (fun h2=>?_)
 ·have h2':=Lz h2
  obtain ⟨u,hu,huc⟩:=hok.get (a:=2 * (i:Int)+1+1) (by omega) (by omega)
  obtain ⟨v,hv,hvc⟩:=hok.get (a:=2 * (i:Int)+1) (by omega) (by omega)
  refine W1N ?_
  refine dZ 0 [(b,.box cs 3)] [(p,.box [.sc (.slice (some ⟨b,0,none⟩) l.length cs.length)] 339)] re (cV a5 rfl) rfl rfl rfl rfl (List.Perm.swap ..) (nI (x:=u) (y:=v) ⟨by omega,by omega⟩ ⟨by omega,by omega⟩ huc hvc) rfl rfl fun c L1 ⟨hc,hL⟩=>?_
  subst hc;subst hL
  refine aE (aH (List.Perm.swap ..)) ?_
  refine W0r ?_
  refine ar rfl (fun h3=>?_) (fun h3=>?_)
  ·clear h3
   refine W01 ?_
   obtain ⟨y,hy,hyc⟩:=hok.get (a:=(2 * (i:Int)+1+1)) (by omega) (by omega)
   refine dZ 0 [(b,.box cs 3)] [(p,.box [.sc (.slice (some ⟨b,0,none⟩) l.length cs.length)] 339)] re (cV a5 rfl) rfl rfl rfl rfl (List.Perm.swap ..) (nI (x:=y) (y:=x) ⟨by omega,by omega⟩ ⟨by omega,by omega⟩ hyc hxc) rfl rfl fun c L1 ⟨hc,hL⟩=>?_
   subst hc;subst hL
   refine W0r ?_
   refine ar rfl (fun h5=>?_) (fun h5=>?_)
   ·refine W0U ?_
    refine bc (aH (List.Perm.swap ..)) ?_
    exact LM KZ ⟨cs,l,rfl,hok,hpm⟩
   refine W0e ?_
   refine aE (aH (List.Perm.swap ..)) ?_
   refine dZ 0 [(b,.box cs 3)] [(p,.box [.sc (.slice (some ⟨b,0,none⟩) l.length cs.length)] 339)] rf (cV a5 rfl) rfl rfl rfl rfl (List.Perm.swap ..) (o4 (x:=x) (y:=y) ⟨by omega,by omega⟩ ⟨by omega,by omega⟩ hxc hyc hok.2.1) rfl rfl fun c L1 hL=>?_
   subst hL
   refine W1o ?_
   have hs:=hok.swap (a:=i) (e:=(2 * (i:Int)+1+1)) ⟨by omega,by omega⟩ ⟨by omega,by omega⟩ hx hy
   refine aC (((2 * (i:Int)+1+1)).toNat,(cs.set ((i:Int)).toNat (aI y)).set ((2 * (i:Int)+1+1)).toNat (aI x),(l.set ((i:Int)).toNat y).set ((2 * (i:Int)+1+1)).toNat x) rfl ⟨by rw [show ((((2 * (i:Int)+1+1)).toNat:Nat):Int)=(2 * (i:Int)+1+1) by omega];rfl,trivial⟩ ⟨by dsimp only;omega,hs.1,hs.2.trans hpm⟩ (by dsimp only;omega) (fun σ w h=>?_)
   have h:=h.perm (List.Perm.swap ..)
   simpa [hst,BZ,qY,List.length_set] using h
  ·clear h3
   refine W0e ?_
   obtain ⟨y,hy,hyc⟩:=hok.get (a:=(2 * (i:Int)+1)) (by omega) (by omega)
   refine dZ 0 [(b,.box cs 3)] [(p,.box [.sc (.slice (some ⟨b,0,none⟩) l.length cs.length)] 339)] re (cV a5 rfl) rfl rfl rfl rfl (List.Perm.swap ..) (nI (x:=y) (y:=x) ⟨by omega,by omega⟩ ⟨by omega,by omega⟩ hyc hxc) rfl rfl fun c L1 ⟨hc,hL⟩=>?_
   subst hc;subst hL
   refine W0r ?_
   refine ar rfl (fun h5=>?_) (fun h5=>?_)
   ·refine W0U ?_
    refine bc (aH (List.Perm.swap ..)) ?_
    exact LM KZ ⟨cs,l,rfl,hok,hpm⟩
   refine W0e ?_
   refine aE (aH (List.Perm.swap ..)) ?_
   refine dZ 0 [(b,.box cs 3)] [(p,.box [.sc (.slice (some ⟨b,0,none⟩) l.length cs.length)] 339)] rf (cV a5 rfl) rfl rfl rfl rfl (List.Perm.swap ..) (o4 (x:=x) (y:=y) ⟨by omega,by omega⟩ ⟨by omega,by omega⟩ hxc hyc hok.2.1) rfl rfl fun c L1 hL=>?_
   subst hL
   refine W1o ?_
   have hs:=hok.swap (a:=i) (e:=(2 * (i:Int)+1)) ⟨by omega,by omega⟩ ⟨by omega,by omega⟩ hx hy
   refine aC (((2 * (i:Int)+1)).toNat,(cs.set ((i:Int)).toNat (aI y)).set ((2 * (i:Int)+1)).toNat (aI x),(l.set ((i:Int)).toNat y).set ((2 * (i:Int)+1)).toNat x) rfl ⟨by rw [show ((((2 * (i:Int)+1)).toNat:Nat):Int)=(2 * (i:Int)+1) by omega];rfl,trivial⟩ ⟨by dsimp only;omega,hs.1,hs.2.trans hpm⟩ (by dsimp only;omega) (fun σ w h=>?_)
   have h:=h.perm (List.Perm.swap ..)
   simpa [hst,BZ,qY,List.length_set] using h
 ·have h2':¬(2 * (i:Int)+1+1 < n):=Ly (by simpa using h2)
  repeat' (first|refine a9 ?_|refine a4 ?_|refine aj ?_|refine a6 ?_|refine a7 ?_|refine LG a5 KZ ?_|refine LP LB ?_|refine bB rfl ?_)
  obtain ⟨y,hy,hyc⟩:=hok.get (a:=(2 * (i:Int)+1)) (by omega) (by omega)
  refine dZ 0 [(b,.box cs 3)] [(p,.box [.sc (.slice (some ⟨b,0,none⟩) l.length cs.length)] 339)] re (cV a5 rfl) rfl rfl rfl rfl (List.Perm.swap ..) (nI (x:=y) (y:=x) ⟨by omega,by omega⟩ ⟨by omega,by omega⟩ hyc hxc) rfl rfl fun c L1 ⟨hc,hL⟩=>?_
  subst hc;subst hL
  refine W0r ?_
  refine ar rfl (fun h5=>?_) (fun h5=>?_)
  ·refine W0U ?_
   refine bc (aH (List.Perm.swap ..)) ?_
   exact LM KZ ⟨cs,l,rfl,hok,hpm⟩
  refine W0e ?_
  refine aE (aH (List.Perm.swap ..)) ?_
  refine dZ 0 [(b,.box cs 3)] [(p,.box [.sc (.slice (some ⟨b,0,none⟩) l.length cs.length)] 339)] rf (cV a5 rfl) rfl rfl rfl rfl (List.Perm.swap ..) (o4 (x:=x) (y:=y) ⟨by omega,by omega⟩ ⟨by omega,by omega⟩ hxc hyc hok.2.1) rfl rfl fun c L1 hL=>?_
  subst hL
  refine W1o ?_
  have hs:=hok.swap (a:=i) (e:=(2 * (i:Int)+1)) ⟨by omega,by omega⟩ ⟨by omega,by omega⟩ hx hy
  refine aC (((2 * (i:Int)+1)).toNat,(cs.set ((i:Int)).toNat (aI y)).set ((2 * (i:Int)+1)).toNat (aI x),(l.set ((i:Int)).toNat y).set ((2 * (i:Int)+1)).toNat x) rfl ⟨by rw [show ((((2 * (i:Int)+1)).toNat:Nat):Int)=(2 * (i:Int)+1) by omega];rfl,trivial⟩ ⟨by dsimp only;omega,hs.1,hs.2.trans hpm⟩ (by dsimp only;omega) (fun σ w h=>?_)
  have h:=h.perm (List.Perm.swap ..)
  simpa [hst,BZ,qY,List.length_set] using h
theorem Jw (p b:Nat) (cs0:List AV) (l0:List Int) (h:p8 (some (b,cs0)) l0) (j0:Nat) (hj0:j0 < l0.length) (hl:l0.length≤1000000):AC Tryz.prog 290 [HI p,aI j0] (hst p (some (b,cs0)) l0) fun _ L=>∃cs' l',L=hst p (some (b,cs')) l'∧p8 (some (b,cs')) l'∧l'.Perm l0:=by
 refine aS Tryz.func290 rfl Tryz.ntmps290 rfl fun B=>?_
 repeat' (first|refine ai ?_)
 refine aN [0] (α:=Nat×List AV×List Int) (fun x=>[(1,aI x.1)]) (fun x=>x.1 < l0.length∧p8 (some (b,x.2.1)) x.2.2∧x.2.2.Perm l0) (fun x=>hst p (some (b,x.2.1)) x.2.2) (fun x=>x.1) (j0,cs0,l0) rfl ⟨rfl,trivial⟩ ⟨hj0,h,Lm _⟩ (fun _ _ h=>h) ?_
 rintro ⟨j,cs,l⟩ ⟨hi,hok,hpm⟩
 dsimp only at hi hok hpm ⊢
 have hll:=hpm.length_eq
 unfold hst qY BZ
 dsimp only
 try dsimp only [Lr,Lq,Lp,Li]
 repeat' (first|refine a9 ?_|refine a4 ?_|refine ai ?_|refine LG a5 KZ ?_|(apply aU;refine aT ?_)|fail)
 refine aT ?_ (Hw (n:=j) rfl rfl rfl (by omega))
 obtain ⟨x,hx,hxc⟩:=hok.get (a:=j) (by omega) (by omega)
 obtain ⟨y,hy,hyc⟩:=hok.get (a:=(((j - 1) / 2:Nat):Int)) (by omega) (by omega)
 refine W01 ?_
 refine LR LA (fun h2=>?_) (fun h2=>?_)
 ·have h2':=Ly h2
  refine W1N ?_
  refine dZ 0 [(b,.box cs 3)] [(p,.box [.sc (.slice (some ⟨b,0,none⟩) l.length cs.length)] 339)] re (cV a5 rfl) rfl rfl rfl rfl (List.Perm.swap ..) (nI (x:=x) (y:=y) ⟨by omega,by omega⟩ ⟨by omega,by omega⟩ hxc hyc) rfl rfl fun c L1 ⟨hc,hL⟩=>?_
  subst hc;subst hL
  refine aE (aH (List.Perm.swap ..)) ?_
  refine W1w ?_
  refine ar rfl (fun h3=>?_) (fun h3=>?_)
  ·repeat' (first|refine aP ?_|refine aq ?_|refine ay ?_|refine ez rfl ?_|refine au ?_)
   exact cJ rfl ⟨cs,l,rfl,hok,hpm⟩
  refine W0e ?_
  refine dZ 0 [(b,.box cs 3)] [(p,.box [.sc (.slice (some ⟨b,0,none⟩) l.length cs.length)] 339)] rf (cV a5 rfl) rfl rfl rfl rfl (List.Perm.swap ..) (o4 (x:=y) (y:=x) ⟨by omega,by omega⟩ ⟨by omega,by omega⟩ hyc hxc hok.2.1) rfl rfl fun c L1 hL=>?_
  subst hL
  refine W1o ?_
  have hs:=hok.swap (a:=(((j - 1) / 2:Nat):Int)) (e:=j) ⟨by omega,by omega⟩ ⟨by omega,by omega⟩ hy hx
  refine aC ((j - 1) / 2,(cs.set (((j - 1) / 2:Nat):Int).toNat (aI x)).set (j:Int).toNat (aI y),(l.set (((j - 1) / 2:Nat):Int).toNat x).set (j:Int).toNat y) rfl ⟨rfl,trivial⟩ ⟨by dsimp only;omega,hs.1,hs.2.trans hpm⟩ (by dsimp only;omega) (fun σ w h=>?_)
  have h:=h.perm (List.Perm.swap ..)
  simpa [hst,BZ,qY,List.length_set] using h
 ·repeat' (first|refine aP ?_|refine a6 ?_|refine aq ?_|refine ay ?_|refine ez rfl ?_|refine au ?_|refine a7 ?_|refine LG a5 KZ ?_|refine LP LB ?_|refine bR rfl ?_)
  exact cJ rfl ⟨cs,l,rfl,hok,hpm⟩
theorem Im (p b:Nat) (cs:List AV) (l:List Int) (h:p8 (some (b,cs)) l) (h0:0 < l.length) (hl:l.length≤1000000):AC Tryz.prog 341 [.sc (.pointer (some ⟨p,0,none⟩))] (hst p (some (b,cs)) l) fun c L=>∃z l',c= .sc (.iface 3 (.int .i64 z))∧L=hst p (some (b,cs)) l'∧p8 (some (b,cs)) l'∧l=l'++[z]:=by
 refine aS Tryz.func341 rfl Tryz.ntmps341 rfl fun B=>?_
 unfold hst qY BZ
 dsimp only
 obtain ⟨z,hz,hzc⟩:=h.get (a:=(l.length:Int) - 1) (by omega) (by omega)
 have hcl:=h.2.1
 have hc1:=h.2.2
 repeat' (first|refine a9 ?_|refine a4 ?_|refine a6 ?_|refine a7 ?_|refine LG a5 KZ ?_|(apply bq;first|refine LJ a5 0 LC ?_|refine LJ a5 1 LC ?_|refine LJ a5 2 LC ?_|refine LJ a5 3 LC ?_|refine LK a5 0 LC ?_|refine LK a5 1 LC ?_|refine LK a5 2 LC ?_|refine LL a5 1 LA (by assumption) rfl ?_|refine LL a5 0 LA (by assumption) rfl ?_|fail)|(apply aU;refine aT ?_)|(apply aL;first|refine aJ a5 ?_|refine aF a5 ?_)|fail)
 refine DX a5 (l.length - 1) rfl rfl rfl (by omega) (by omega) (by omega) rfl ?_
 refine W0p ?_
 refine nN (by kernel_rfl) rfl rfl ?_
 refine W0c ?_
 have hlast:l.take (l.length - 1)++[z]=l:=by
  have h1:l.take (l.length - 1+1)=l:=List.take_of_length_le (by omega)
  rw [List.take_add_one,show l[l.length - 1]?=some z by rw [←hz];congr 1;omega] at h1
  exact h1
 have hlen:(l.take (l.length - 1)).length=l.length - 1:=by rw [List.length_take];omega
 refine LM KZ ⟨z,l.take (l.length - 1),rfl,?_,⟨?_,by rw [hlen];omega,hc1⟩,hlast.symm⟩
 ·rw [hlen]
  rfl
 ·rw [hlen,List.map_take,←h.1,List.take_take]
  congr 1
  omega
theorem Gh (p:Nat) (k:Option (Nat×List AV)) (l:List Int) (z:Int) (h:p8 k l) (hl:l.length≤1000000):AC Tryz.prog 342 [.sc (.pointer (some ⟨p,0,none⟩)),.sc (.iface 3 (.int .i64 z))] (hst p k l) fun _ L=>∃b cs,L=hst p (some (b,cs)) (l++[z])∧p8 (some (b,cs)) (l++[z]):=by
 refine aS Tryz.func342 rfl Tryz.ntmps342 rfl fun B=>?_
 unfold hst qY BZ
 cases k with
 | none=>
  have hl0:l=[]:=h
  subst hl0
  dsimp only
  repeat' (first|fail)
  refine bz 8 [(0,.v),(1,.v),(2,.v),(3,.l),(4,.v),(5,.v),(6,.v),(7,.e)] none ?_ trivial rfl (by kernel_rfl) (by kernel_rfl) (by kernel_rfl) bX (by kernel_rfl) rfl
  refine W0t ?_
  refine vu (by kernel_rfl) rfl trivial ?_
  refine W1e ?_
  refine Ae a5 rfl rfl rfl rfl rfl rfl trivial fun b' cs' h1 h2=>?_
  repeat' (first|fail)
  refine LQ [4,11] KZ ?_
  refine W0M ?_
  exact bc (aH (List.Perm.swap ..)) (cJ rfl ⟨b',cs',rfl,h1,h2,h2⟩)
 | some q=>
  obtain ⟨b,cs⟩:=q
  dsimp only
  repeat' (first|fail)
  refine bz 8 [(0,.v),(1,.v),(2,.v),(3,.l),(4,.v),(5,.v),(6,.v),(7,.e)] none ?_ trivial rfl (by kernel_rfl) (by kernel_rfl) (by kernel_rfl) bX (by kernel_rfl) rfl
  refine W0t ?_
  refine vu (by kernel_rfl) rfl trivial ?_
  refine W1e ?_
  refine Ac a5 1 rfl rfl rfl rfl rfl rfl rfl h.2.1 (by omega) (by omega) trivial fun b' cs' h1 h2=>?_
  repeat' (first|fail)
  refine LQ [4,11] KZ ?_
  refine W0M ?_
  refine bc (aH (List.Perm.swap ..)) (cJ rfl ⟨b',cs',?_,?_,by simpa using h2,by omega⟩)
  ·rw [List.length_append]
   rfl
  ·rw [List.length_append,List.map_append,←h.1]
   exact h1
theorem j5 (p b:Nat) (cs:List AV) (l:List Int):hst p (some (b,cs)) l=[(p,.box [.sc (.slice (some ⟨b,0,none⟩) l.length cs.length)] 339),(b,.box cs 3)]:=rfl
set_option maxHeartbeats 1000000 in
theorem Dp (p:Nat) (k:Option (Nat×List AV)) (l:List Int) (z:Int) (h:p8 k l) (hl:l.length < 1000000):AC Tryz.prog 267 [HI p,.sc (.iface 3 (.int .i64 z))] (hst p k l) fun _ L=>∃b cs l',L=hst p (some (b,cs)) l'∧p8 (some (b,cs)) l'∧l'.Perm (l++[z]):=by
 refine aS Tryz.func267 rfl Tryz.ntmps267 rfl fun B=>?_
 refine W0k ?_
 refine vY (hst p k l) [] I3 rfl rfl (by rw [List.append_nil]) (Gh p k l z h (by omega)) rfl rfl fun c L1 ⟨b,cs,hL,hok⟩=>?_
 subst hL
 rw [List.append_nil,j5]
 have hll:(l++[z]).length=l.length+1:=by simp
 refine W1a ?_
 refine dZ 0 [] [(p,.box [.sc (.slice (some ⟨b,0,none⟩) (l++[z]).length cs.length)] 339),(b,.box cs 3)] DD (cV a5 rfl) rfl rfl rfl rfl (Lm _) (xB _ (l++[z]).length _ _ rfl) rfl rfl fun c L1 hc=>?_
 have hc:c=aI (l++[z]).length:=hc
 subst hc
 refine aE (bP (List.sublist_append_right ..)) ?_
 rw [hll]
 refine W2l ?_
 have hup:=Jw p b cs (l++[z]) hok l.length (by rw [hll];omega) (by rw [hll];omega)
 rw [j5,hll] at hup
 rw [show (((l.length+1:Nat):Int) - 1)=(l.length:Int) by omega]
 refine b9 _ [] hup rfl rfl (by rw [List.append_nil]) rfl fun c L1 ⟨cs',l',hL,hok',hpm⟩=>?_
 subst hL
 rw [List.append_nil]
 repeat' (first|refine a7 ?_)
 exact cJ rfl ⟨b,cs',l',rfl,hok',hpm⟩
set_option maxHeartbeats 1000000 in
theorem FT (p b:Nat) (cs:List AV) (l:List Int) (h:p8 (some (b,cs)) l) (h0:0 < l.length) (hl:l.length≤1000000):AC Tryz.prog 266 [HI p] (hst p (some (b,cs)) l) fun c L=>∃z cs' l',c= .sc (.iface 3 (.int .i64 z))∧L=hst p (some (b,cs')) l'∧p8 (some (b,cs')) l'∧(l'++[z]).Perm l:=by
 refine aS Tryz.func266 rfl Tryz.ntmps266 rfl fun B=>?_
 rw [j5]
 refine W01 ?_
 refine dZ 0 [] [(p,.box [.sc (.slice (some ⟨b,0,none⟩) l.length cs.length)] 339),(b,.box cs 3)] DD (cV a5 rfl) rfl rfl rfl rfl (Lm _) (xB _ l.length _ _ rfl) rfl rfl fun c L1 hc=>?_
 have hc:c=aI l.length:=hc
 subst hc
 refine aE (bP (List.sublist_append_right ..)) ?_
 refine W0L ?_
 obtain ⟨x,hx,hxc⟩:=h.get (a:=0) (by omega) (by omega)
 obtain ⟨y,hy,hyc⟩:=h.get (a:=(l.length:Int) - 1) (by omega) (by omega)
 refine dZ 0 [(b,.box cs 3)] [(p,.box [.sc (.slice (some ⟨b,0,none⟩) l.length cs.length)] 339)] rf (cV a5 rfl) rfl rfl rfl rfl (List.Perm.swap ..) (o4 (x:=x) (y:=y) ⟨by omega,by omega⟩ ⟨by omega,by omega⟩ hxc hyc h.2.1) rfl rfl fun c L1 hL=>?_
 subst hL
 have hs:=h.swap (a:=0) (e:=(l.length:Int) - 1) ⟨by omega,by omega⟩ ⟨by omega,by omega⟩ hx hy
 have hsl:=hs.2.length_eq
 refine aE (aH (List.Perm.swap ..)) ?_
 refine W01 ?_
 have hdn:=yM p b _ _ hs.1 0 (l.length - 1) (by rw [hsl];omega) (by rw [hsl];omega) (by omega)
 rw [j5,hsl,show (((l.length - 1:Nat)):Int)=(l.length:Int) - 1 by omega] at hdn
 rw [show cs.length=((cs.set (0:Int).toNat (aI y)).set ((l.length:Int) - 1).toNat (aI x)).length by simp]
 refine b9 _ [] hdn rfl rfl (by rw [List.append_nil]) rfl fun c L1 ⟨cs',l',hL,hok',hpm⟩=>?_
 subst hL
 rw [List.append_nil]
 refine W01 ?_
 have hl':=hpm.length_eq
 refine vY (hst p (some (b,cs')) l') [] J9 rfl rfl (by rw [List.append_nil]) (Im p b cs' l' hok' (by omega) (by omega)) rfl rfl fun c L1 ⟨z,l2,hc,hL,hok2,he⟩=>?_
 subst hc;subst hL
 rw [List.append_nil]
 refine W0c ?_
 refine LM KZ ⟨z,cs',l2,rfl,rfl,hok2,?_⟩
 rw [←he]
 exact hpm.trans hs.2
theorem HY {k:Option (Nat×List AV)} {l:List Int} (h:p8 k l):∃A c,BZ k l.length= .slice A l.length c:=by
 cases k with
 | none=>rw [show l=[] from h];exact ⟨_,_,rfl⟩
 | some q=>exact ⟨_,_,rfl⟩
section
variable {P:Program} {fr:bT} {d:Option Tmp} {ty t t':TypeId} {pos:String} {af:Array Edge} {g:Option (Nat×Bool)} {x y:Operand}
theorem F7 {n:Nat} (hx:bh fr x=some (aI n)) (hy:bh fr y=some (aI 2)) (hn:n≤9223372036854775807):Av P ⟨d,.binOp .quo t x y t',ty,pos,af,g⟩ fr (aI ((n / 2:Nat):Int)):=by
 have h:=yt (P:=P) (d:=d) (ty:=ty) (pos:=pos) (af:=af) (g:=g) (t:=t) (t':=t') hx hy (by omega)
 have e:IntKind.i64.wrap ((n:Int).tdiv 2)=((n / 2:Nat):Int):=by
  have:(n:Int).tdiv 2=((n / 2:Nat):Int):=by
   rw [Int.tdiv_eq_ediv_of_nonneg (by omega)]
   simp
  rw [this,qW (by omega)]
 rwa [e] at h
end
set_option maxHeartbeats 1000000 in
theorem Do (p:Nat) (k:Option (Nat×List AV)) (l:List Int) (h:p8 k l) (hl:l.length≤1000000):AC Tryz.prog 265 [HI p] (hst p k l) fun _ L=>∃k' l',L=hst p k' l'∧p8 k' l'∧l'.Perm l:=by
 refine aS Tryz.func265 rfl Tryz.ntmps265 rfl fun B=>?_
 obtain ⟨A,cc,hA⟩:=HY h
 refine W0k ?_
 refine dZ 0 [] (hst p k l) DD (cV a5 rfl) rfl rfl rfl rfl (Lm _) (xB _ l.length cc A hA) rfl rfl fun c L1 hc=>?_
 have hc:c=aI l.length:=hc
 subst hc
 refine aE (bP (List.sublist_append_right ..)) ?_
 refine W01 ?_
 refine aT ?_ (F7 (n:=l.length) rfl rfl (by omega))
 refine W29 ?_
 refine aN [0,2] (α:=Nat×Option (Nat×List AV)×List Int) (fun x=>[(3,aI ((x.1:Int) - 1))]) (fun x=>x.1≤l.length / 2∧p8 x.2.1 x.2.2∧x.2.2.Perm l) (fun x=>hst p x.2.1 x.2.2) (fun x=>x.1) (l.length / 2,k,l) rfl ⟨rfl,trivial⟩ ⟨Nat.le_refl _,h,Lm _⟩ (fun _ _ h=>h) ?_
 rintro ⟨m,k,l'⟩ ⟨hm,hok,hpm⟩
 dsimp only at hm hok hpm ⊢
 have hll:=hpm.length_eq
 try dsimp only [Lr,Lq,Lp,Li]
 refine W01 ?_
 refine ar rfl (fun h2=>?_) (fun h2=>?_)
 ·have h2':=Lz h2
  cases k with
  | none=>rw [show l'=[] from hok] at hll;simp at hll;omega
  | some q=>
   obtain ⟨b,cs⟩:=q
   refine W0v ?_
   have hdn:=yM p b cs l' hok (m - 1) l.length (by omega) (by omega) (by omega)
   rw [show (((m - 1:Nat)):Int)=(m:Int) - 1 by omega] at hdn
   refine b9 _ [] hdn rfl rfl (by rw [List.append_nil]) rfl fun c L1 ⟨cs',l2,hL,hok',hpm'⟩=>?_
   subst hL
   rw [List.append_nil]
   refine W05 ?_
   exact aC (m - 1,some (b,cs'),l2) rfl ⟨by rw [show (((m - 1:Nat)):Int)=(m:Int) - 1 by omega];rfl,trivial⟩ ⟨by dsimp only;omega,hok',hpm'.trans hpm⟩ (by dsimp only;omega) (fun _ _ h=>h)
 ·refine W19 ?_
  exact cJ rfl ⟨k,l',rfl,hok,hpm⟩
end Go.Proofs.YtpmdfoaadejmkaaGreatDoor
namespace Go.Proofs.YtpmdfoaadejmkaaGreatDoor
open Go.RowKit
attribute [local irreducible] AT br AX AO Av Kt b7 dm DA cA
def JP (fs:List ByteArray) (l:List c9):List Int:=(l.map fun t=>if J5 fs t.Name then t.Lookups else []).flatten
def CallsIn (f:aY) (l:List Int) (cs:List gO):Prop:=∀c∈cs,GV f c.Lookup=true→c.Lookup∈l
def F1 (f:aY) (l:List Int) (rs:List b8):Prop:=∀r∈rs,CallsIn f l r.Calls
structure Ke (f:aY) (fs:List ByteArray) (l:List Int) (i:Nat):Prop where
 reach:∀z∈l,uN f fs z
 nodup:l.Nodup
 base:∀z∈JP fs f.Features,0≤z→z < f.Lookups.length→z∈l
 done:∀j < i,∀z,l[j]?=some z→∀x,f.Lookups[z.toNat]?=some x→x.Kind=4→F1 f l x.Rules
def Kn (l:List Int) (n:Nat):List AV:=(List.range n).map fun (i:Nat)=>eo (l.contains (i:Int))
def HK (n:Nat) (l:List Int) (z:Int):List Int:=if 0≤z∧z < n∧z∉l then l++[z] else l
def KD (n:Nat) (l ns:List Int):List Int:=ns.foldl (HK n) l
structure Ki (n:Nat) (l:List Int):Prop where
 nodup:l.Nodup
 dom:∀z∈l,0≤z∧z < n
abbrev yk (p:Nat):AV:= .sc (.pointer (some ⟨p,0,none⟩))
end Go.Proofs.YtpmdfoaadejmkaaGreatDoor
namespace Go.Proofs.YtpmdfoaadejmkaaGreatDoor
def cI (n:Nat):List Int:=(List.range n).map fun (i:Nat)=>(i:Int)
theorem fD {n:Nat} {z:Int}:z∈cI n↔0≤z∧z < n:=by
 simp only [cI,List.mem_map,List.mem_range]
 constructor
 ·rintro ⟨i,hi,rfl⟩;omega
 ·rintro ⟨h0,h1⟩;exact ⟨z.toNat,by omega,by omega⟩
theorem la (n:Nat):(cI n).Nodup:=by
 unfold cI List.Nodup
 rw [List.pairwise_map]
 exact List.nodup_range.imp fun h e=>h (by omega)
theorem ff (n:Nat):(cI n).length=n:=by simp [cI]
theorem kq {n i:Nat} (h:i < n):(cI n)[i]?=some (i:Int):=by simp [cI,h]
theorem tx (n:Nat):cI (n+1)=cI n++[(n:Int)]:=by
 unfold cI
 rw [List.range_succ,List.map_append]
 rfl
def cy (pr:Int→List Int) (gs:List Int) (z:Int):List Int:=gs.flatMap fun g=>((pr g).filter fun p=>decide (p=z)).map fun _=>g
theorem mI (pr:Int→List Int) (z g:Int):∀gs:List Int,gs.Nodup→(cy pr gs z).count g=if g∈gs then (pr g).count z else 0
 | [],_=>by simp [cy]
 | y::gs,h=>by
  have h':=List.nodup_cons.1 h
  have ih:=mI pr z g gs h'.2
  unfold cy at ih ⊢
  rw [List.flatMap_cons,List.count_append,ih]
  by_cases e:y=g
  ·subst e
   rw [if_pos (List.mem_cons_self ..),if_neg h'.1,List.map_const',List.count_replicate_self,Nat.add_zero,List.count_eq_countP,List.countP_eq_length_filter]
   rfl
  ·rw [List.map_const',List.count_replicate,if_neg (by simpa using e),Nat.zero_add]
   by_cases hm:g∈gs
   ·rw [if_pos hm,if_pos (Ls _ hm)]
   ·rw [if_neg hm,if_neg (by simp [hm];exact fun h=>e h.symm)]
def mB (pr:Int→List Int) (T:List Int) (g:Int):Nat:=((pr g).filter fun p=>decide (p∉T)).length
theorem rm (pr:Int→List Int) {T:List Int} {x:Int} (hx:x∉T) (g:Int):mB pr (T++[x]) g+(pr g).count x=mB pr T g:=by
 unfold mB
 induction pr g with
 | nil=>rfl
 | cons p l ih=>
  rw [List.filter_cons,List.filter_cons,List.count_cons]
  by_cases e:p=x
  ·subst e
   rw [if_neg (by simp),if_pos (decide_eq_true hx)]
   rw [if_pos (by simp),List.length_cons]
   omega
  ·have e1:decide (p∉T++[x])=decide (p∉T):=by simp [e]
   rw [e1]
   have e2:(p==x)=false:=by simpa using e
   rw [e2]
   simp only [Bool.false_eq_true,if_false]
   split
   ·simp only [List.length_cons];omega
   ·omega
theorem ro {pr:Int→List Int} {T:List Int} {g:Int}:mB pr T g=0↔∀p∈pr g,p∈T:=by
 unfold mB
 rw [List.length_eq_zero_iff,List.filter_eq_nil_iff]
 simp
def zJ (pr:Int→List Int) (T:List Int):Prop:=∀(i:Nat) (x:Int),T[i]?=some x→∀p∈pr x,p∈T.take i
theorem zJ.snoc {pr:Int→List Int} {T:List Int} {x:Int} (h:zJ pr T) (hx:∀p∈pr x,p∈T):zJ pr (T++[x]):=by
 intro i y hy p hp
 by_cases hi:i < T.length
 ·rw [List.getElem?_append_left hi] at hy
  rw [List.take_append_of_le_length (by omega)]
  exact h i y hy p hp
 ·rw [List.getElem?_append_right (by omega)] at hy
  have hil:i - T.length=0:=by
   rcases Nat.eq_zero_or_pos (i - T.length) with h0 | h0
   ·exact h0
   ·rw [List.getElem?_eq_none (by simp;omega)] at hy;cases hy
  rw [hil] at hy
  simp at hy
  subst hy
  rw [show i=T.length by omega,List.take_left]
  exact hx p hp
structure ou (n:Nat) (pr:Int→List Int) (T R:List Int) (M:Int→Int):Prop where
 nodup:(T++R).Nodup
 dom:∀z∈T++R,0≤z∧z < n
 miss:∀g:Int,0≤g→g < n→M g=mB pr T g
 ready:∀g:Int,0≤g→g < n→(g∈T++R↔M g=0)
 topo:zJ pr T
structure s8 (n:Nat) (pr:Int→List Int) (T:List Int) (x:Int) (us:List Int) (R:List Int) (M:Int→Int):Prop where
 nodup:(T++[x]++R).Nodup
 dom:∀z∈T++[x]++R,0≤z∧z < n
 miss:∀g:Int,0≤g→g < n→M g+us.count g=mB pr T g
 ready:∀g:Int,0≤g→g < n→(g∈T++[x]++R↔M g=0)
 topo:zJ pr (T++[x])
theorem ou.perm {n:Nat} {pr:Int→List Int} {T R R':List Int} {M:Int→Int} (h:ou n pr T R M) (hp:R'.Perm R):ou n pr T R' M:=by
 have hp':(T++R').Perm (T++R):=List.Perm.append_left T hp
 exact ⟨hp'.nodup_iff.2 h.nodup,fun z hz=>h.dom z (hp'.mem_iff.1 hz),h.miss,fun g h0 h1=>by rw [hp'.mem_iff];exact h.ready g h0 h1,h.topo⟩
theorem s8.perm {n:Nat} {pr:Int→List Int} {T R R' us:List Int} {x:Int} {M:Int→Int} (h:s8 n pr T x us R M) (hp:R'.Perm R):s8 n pr T x us R' M:=by
 have hp':(T++[x]++R').Perm (T++[x]++R):=List.Perm.append_left _ hp
 exact ⟨hp'.nodup_iff.2 h.nodup,fun z hz=>h.dom z (hp'.mem_iff.1 hz),h.miss,fun g h0 h1=>by rw [hp'.mem_iff];exact h.ready g h0 h1,h.topo⟩
theorem ou.pop {n:Nat} {pr:Int→List Int} {T R:List Int} {x:Int} {M:Int→Int} (h:ou n pr T (R++[x]) M):s8 n pr T x [] R M:=by
 have hp:(T++[x]++R).Perm (T++(R++[x])):=by
  rw [List.append_assoc]
  exact List.Perm.append_left T List.perm_append_comm
 have hx:=h.dom x (by simp)
 refine ⟨hp.nodup_iff.2 h.nodup,fun z hz=>h.dom z (hp.mem_iff.1 hz),fun g h0 h1=>by simpa using h.miss g h0 h1,fun g h0 h1=>by rw [hp.mem_iff];exact h.ready g h0 h1,h.topo.snoc ?_⟩
 have h1:=(h.ready x hx.1 hx.2).1 (by simp)
 rw [h.miss x hx.1 hx.2] at h1
 exact ro.1 (by omega)
theorem lf {all:List Int} {j:Nat} {u:Int} (h:all[j]?=some u) (g:Int):(all.take (j+1)).count g=(all.take j).count g+if u=g then 1 else 0:=by
 rw [List.take_add_one,h,Option.toList_some,List.count_append]
 by_cases e:u=g
 ·subst e;simp
 ·rw [if_neg e,List.count_singleton,if_neg (by simpa using e)]
theorem s8.step {n:Nat} {pr:Int→List Int} {T R all:List Int} {x u:Int} {j:Nat} {M:Int→Int} (hall:∀g:Int,0≤g→g < n→all.count g=(pr g).count x) (hx:x∉T) (h:s8 n pr T x (all.take j) R M) (hu:all[j]?=some u) (h0:0≤u) (h1:u < n):
  0 < M u∧s8 n pr T x (all.take (j+1)) (if M u - 1=0 then R++[u] else R) (fun g=>if g=u then M u - 1 else M g):=by
 have hm:=h.miss u h0 h1
 have hlt:(all.take (j+1)).count u≤all.count u:=(List.take_sublist _ _).count_le u
 have hsn:=rm pr hx u
 rw [lf hu,if_pos rfl,hall u h0 h1] at hlt
 have hpos:0 < M u:=by omega
 have hnot:u∉T++[x]++R:=fun hm'=>by have:=(h.ready u h0 h1).1 hm';omega
 refine ⟨hpos,?_⟩
 have hmiss:∀g:Int,0≤g→g < n→(if g=u then M u - 1 else M g)+((all.take (j+1)).count g:Int)=mB pr T g:=by
  intro g g0 g1
  rw [lf hu]
  by_cases e:g=u
  ·subst e
   rw [if_pos rfl,if_pos rfl]
   have:=h.miss g g0 g1
   omega
  ·rw [if_neg e,if_neg (fun q=>e q.symm)]
   have:=h.miss g g0 g1
   omega
 by_cases hz:M u - 1=0
 ·rw [if_pos hz]
  refine ⟨?_,fun z hz'=>?_,hmiss,fun g g0 g1=>?_,h.topo⟩
  ·rw [←List.append_assoc,List.nodup_append]
   refine ⟨h.nodup,by simp,fun a ha b hb=>?_⟩
   rw [Lj hb]
   exact fun e=>hnot (e▸ha)
  ·rw [←List.append_assoc] at hz'
   rcases Ll hz' with hz' | hz'
   ·exact h.dom z hz'
   ·rw [Lj hz'];exact ⟨h0,h1⟩
  ·rw [←List.append_assoc,List.mem_append,List.mem_singleton]
   by_cases e:g=u
   ·subst e;simp [hz]
   ·rw [if_neg e,h.ready g g0 g1]
    simp [e]
 ·rw [if_neg hz]
  refine ⟨h.nodup,h.dom,hmiss,fun g g0 g1=>?_,h.topo⟩
  by_cases e:g=u
  ·subst e
   rw [if_pos rfl]
   exact ⟨fun q=>absurd q hnot,fun q=>absurd q hz⟩
  ·rw [if_neg e]
   exact h.ready g g0 g1
theorem s8.done {n:Nat} {pr:Int→List Int} {T R all:List Int} {x:Int} {M:Int→Int} (hall:∀g:Int,0≤g→g < n→all.count g=(pr g).count x) (hx:x∉T) (h:s8 n pr T x all R M):ou n pr (T++[x]) R M:=by
 refine ⟨h.nodup,h.dom,fun g h0 h1=>?_,h.ready,h.topo⟩
 have h2:=h.miss g h0 h1
 have h3:=rm pr hx g
 rw [hall g h0 h1] at h2
 omega
structure jp (n:Nat) (pr:Int→List Int) (T:List Int):Prop where
 nodup:T.Nodup
 dom:∀z∈T,0≤z∧z < n
 topo:zJ pr T
 full:∀g:Int,0≤g→g < n→(∀p∈pr g,p∈T)→g∈T
theorem ou.fin {n:Nat} {pr:Int→List Int} {T:List Int} {M:Int→Int} (h:ou n pr T [] M):jp n pr T:=by
 have h1:=h.nodup
 have h2:=h.dom
 have h3:=h.ready
 rw [List.append_nil] at h1 h2 h3
 exact ⟨h1,h2,h.topo,fun g h0 h4 hp=>(h3 g h0 h4).2 (by rw [h.miss g h0 h4,ro.2 hp];rfl)⟩
theorem ou.start {n:Nat} {pr:Int→List Int} {M:Int→Int} (hM:∀g:Int,0≤g→g < n→M g=(pr g).length):ou n pr [] ((cI n).filter fun g=>decide (M g=0)) M:=by
 refine ⟨by rw [Lq];exact (la n).filter _,fun z hz=>?_,fun g h0 h1=>?_,fun g h0 h1=>?_,fun i x h=>by simp at h⟩
 ·rw [Lq,List.mem_filter,fD] at hz
  exact hz.1
 ·rw [hM g h0 h1]
  unfold mB
  rw [List.filter_eq_self.2 (by simp)]
 ·rw [Lq,List.mem_filter,fD,decide_eq_true_eq]
  exact ⟨fun h=>h.2,fun h=>⟨⟨h0,h1⟩,h⟩⟩
def lq (n:Nat) (pr:Int→List Int):Prop:=∃r:Int→Nat,∀g:Int,0≤g→g < n→∀p∈pr g,r p < r g
theorem jp.all {n:Nat} {pr:Int→List Int} {T:List Int} (h:jp n pr T) (ha:lq n pr) (hp:∀g,∀p∈pr g,0≤p∧p < n):∀g:Int,0≤g→g < n→g∈T:=by
 obtain ⟨r,hr⟩:=ha
 have:∀(k:Nat) (g:Int),r g < k→0≤g→g < n→g∈T:=by
  intro k
  induction k with
  | zero=>intro g hk;exact absurd hk (Nat.not_lt_zero _)
  | succ k ih=>
   intro g hk h0 h1
   refine h.full g h0 h1 fun p hpp=>ih p ?_ (hp g p hpp).1 (hp g p hpp).2
   have:=hr g h0 h1 p hpp
   omega
 intro g h0 h1
 exact this (r g+1) g (by omega) h0 h1
theorem jp.len {n:Nat} {pr:Int→List Int} {T:List Int} (h:jp n pr T):T.length≤n:=fF h.nodup h.dom
theorem nQ:∀(l T:List Int),l.Nodup→(∀x∈l,x∈T)→l.length≤T.length
 | [],_,_,_=>Nat.zero_le _
 | x::l,T,h,hs=>by
  have h':=List.nodup_cons.1 h
  have hx:=hs x (List.mem_cons_self ..)
  have:=nQ l (T.erase x) h'.2 fun y hy=>(List.mem_erase_of_ne (fun e=>h'.1 (by rw [←e];exact hy))).2 (hs y (Ls _ hy))
  rw [List.length_erase_of_mem hx] at this
  have hpos:=List.length_pos_of_mem hx
  rw [List.length_cons]
  omega
theorem jp.len_all {n:Nat} {pr:Int→List Int} {T:List Int} (h:jp n pr T) (ha:∀g:Int,0≤g→g < n→g∈T):T.length=n:=by
 refine Nat.le_antisymm h.len ?_
 have:=nQ (cI n) T (la n) fun z hz=>by
  rw [fD] at hz
  exact ha z hz.1 hz.2
 rwa [ff] at this
theorem jp.all_of_len {n:Nat} {pr:Int→List Int} {T:List Int} (h:jp n pr T) (hl:T.length=n):∀g:Int,0≤g→g < n→g∈T:=by
 intro g h0 h1
 apply Classical.byContradiction
 intro hn
 have:=fF (l:=g::T) (n:=n) (List.nodup_cons.2 ⟨hn,h.nodup⟩) fun z hz=>by
  rcases List.mem_cons.1 hz with rfl | hz
  ·exact ⟨h0,h1⟩
  ·exact h.dom z hz
 rw [List.length_cons] at this
 omega
theorem jp.acyc {n:Nat} {pr:Int→List Int} {T:List Int} (h:jp n pr T) (ha:∀g:Int,0≤g→g < n→g∈T):lq n pr:=by
 refine ⟨fun g=>T.idxOf g,fun g h0 h1 p hp=>?_⟩
 have hg:=ha g h0 h1
 have hi:=List.idxOf_lt_length_iff.2 hg
 have h2:=h.topo (T.idxOf g) g (by rw [Iy hi,List.getElem_idxOf]) p hp
 obtain ⟨j,hj⟩:=List.mem_iff_getElem?.1 h2
 rw [List.getElem?_take] at hj
 split at hj
 ·rename_i hlt
  dsimp only
  obtain ⟨hjl,hje⟩:=Ln hj
  have:T.idxOf p≤j:=by
   rw [←hje]
   have:=h.nodup.idxOf_getElem j hjl
   omega
  omega
 ·cases hj
end Go.Proofs.YtpmdfoaadejmkaaGreatDoor
namespace Go.Proofs.YtpmdfoaadejmkaaGreatDoor
open Go.RowKit
attribute [local irreducible] AT br AX AO Av Kt b7 dm DA cA
theorem BK (f:aY) (n:Int):c5 Tryz.prog 288 [d7 f,aI n] (eo (lO f n)):=by
 refine aS Tryz.func288 rfl Tryz.ntmps288 rfl fun B=>?_
 refine W0b ?_
 refine dz (t:=4) [] (lO f n=true) rfl (fun Q' K=>?_) ?_
 ·repeat' (first|refine a7 ?_|refine LG a5 KZ ?_|refine LO KZ ?_|refine LP LB ?_|refine LR LA (fun _=>?_) (fun _=>?_))
  all_goals exact K _ _ rfl rfl (by unfold lO;simp_all <;> omega)
 refine W28 ?_
 refine LM KZ ?_
 simp
instance (f:aY) (n:Int):AD Tryz.prog 288 [d7 f,aI n] (eo (lO f n)):=⟨BK f n⟩
theorem Bc (f:aY) (g:Int):c5 Tryz.prog 264 [d7 f,aI g] (.fn 287 [.iptr (cG f),.iptr [aI g]]):=by
 refine aS Tryz.func264 rfl Tryz.ntmps264 rfl fun B=>?_
 refine W0h ?_
 exact LN LA
instance (f:aY) (g:Int):AD Tryz.prog 264 [d7 f,aI g] (.fn 287 [.iptr (cG f),.iptr [aI g]]):=⟨Bc f g⟩
set_option maxHeartbeats 1000000 in
theorem Gg {α:Type} {σ0:Mem} {l:Nat} (f:aY) (g:Nat) (gl:bi) (hg:f.Glyphs[g]?=some gl) (E:α→AL) (J:Nat→α→Prop)
  (hy:∀i x p,J i x→gl.Parts[i]?=some p→lO f p.Glyph=true→AY Tryz.prog σ0 l [.agg (f0 p)] (E x) fun c L=>c=eo true∧∃x',J (i+1) x'∧L=E x')
  (hs:∀i x p,J i x→gl.Parts[i]?=some p→lO f p.Glyph=false→J (i+1) x) (x0:α) (h0:J 0 x0) (hlen:gl.Parts.length≤1000000):
  Hd Tryz.prog σ0 287 [.sc (.func (.yield l) #[] #[]),.iptr (cG f),.iptr [aI g]] (E x0) fun _ L=>∃x,J gl.Parts.length x∧L=E x:=by
 refine Cl Tryz.func287 rfl Tryz.ntmps287 rfl fun B hB=>?_
 have hgg:=cO (c:=bI) hg
 refine W1M ?_
 refine aN [0,1,11,12] (α:=Nat×α) (fun y=>[(13,aI y.1)]) (fun y=>y.1≤gl.Parts.length∧J y.1 y.2) (fun y=>E y.2) (fun y=>gl.Parts.length - y.1) (0,x0) rfl ⟨rfl,trivial⟩ ⟨Nat.zero_le _,h0⟩ (fun _ _ h=>h) ?_
 rintro ⟨i,x⟩ ⟨hi,hj⟩
 dsimp only at hi hj ⊢
 try dsimp only [Lr,Lq,Lp,Li]
 refine W01 ?_
 refine ar rfl (fun h=>?_) (fun h=>?_)
 ·have hil:i < gl.Parts.length:=by have:=Lz h;simp at this;omega
  obtain ⟨p,hp⟩:∃z,gl.Parts[i]?=some z:=⟨_,Iy hil⟩
  have hpg:=cO (c:=f0) hp
  repeat' (first|refine a9 ?_|refine a4 ?_|refine ai ?_|refine aj ?_|refine a6 ?_|refine a7 ?_|refine LG a5 KZ ?_|(apply aL;first|refine aJ a5 ?_|refine aF a5 ?_)|(apply aM;first|refine LI 5 a5 0 LF ?_|refine LI 5 a5 1 LF ?_|refine LI 5 a5 2 LF ?_|refine LH a5 0 LE ?_|refine LH a5 1 LE ?_|refine LH a5 2 LE ?_|refine LH a5 3 LE ?_|fail)|refine bf a5 fun _=>?_|(apply bw;refine bn ?_)|fail)
  by_cases hG:lO f p.Glyph=true
  ·rw [hG]
   refine W1N ?_
   refine za (E x) [] hB (hy i x p hj hp hG) rfl rfl rfl (by rw [List.append_nil];exact Lm _) rfl rfl fun c L1 ⟨hc,x',hj',hL⟩=>?_
   subst hc;subst hL
   rw [List.append_nil]
   repeat' (first|refine a4 ?_|refine aj ?_|refine a6 ?_|refine aK ?_|refine a7 ?_|refine LG a5 KZ ?_|refine LO KZ ?_|(apply aU;refine aT ?_)|refine bB rfl ?_)
   exact aC (i+1,x') rfl ⟨by rw [Lv];rfl,trivial⟩ ⟨by dsimp only;omega,hj'⟩ (by dsimp only;omega) (fun _ _ h=>h)
  ·have hG':lO f p.Glyph=false:=by simpa using hG
   rw [hG']
   refine W1I ?_
   exact aC (i+1,x) rfl ⟨by rw [Lv];rfl,trivial⟩ ⟨by dsimp only;omega,hs i x p hj hp hG'⟩ (by dsimp only;omega) (fun _ _ h=>h)
 ·have hil:i=gl.Parts.length:=by have:=Ly h;simp at this;omega
  subst hil
  refine W19 ?_
  exact cJ rfl ⟨x,hj,rfl⟩
end Go.Proofs.YtpmdfoaadejmkaaGreatDoor
