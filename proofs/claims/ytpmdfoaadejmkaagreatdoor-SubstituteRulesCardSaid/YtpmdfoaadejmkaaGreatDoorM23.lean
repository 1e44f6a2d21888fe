/-
  The program: a heap of numbers.
-/
import Derived.Test.YtpmdfoaadejmkaaGreatDoorM22
import Derived.Test.YtpmdfoaadejmkaaGreatDoorM11
import Derived.Test.YtpmdfoaadejmkaaGreatDoorM14
import Derived.Test.YtpmdfoaadejmkaaGreatDoorM06
namespace Go.Proofs.YtpmdfoaadejmkaaGreatDoor
open Go.RowKit
attribute [local irreducible] AT bJ AX AO Av Kt bi dq DA cG
theorem Ls {P:Program} {f:FuncId} {fn:Func} {c:Code} (hf:P.funcs[f]?=some fn) (hn:(fn.name== "runtime.NumGoroutine")=false:=by kernel_rfl) (hb:fn.body=some c:=by rfl):bM P f:=⟨aj hf hn hb⟩
instance:bM Tryz.prog 338:=Ls Tryz.func338
instance:bM Tryz.prog 339:=Ls Tryz.func339
instance:bM Tryz.prog 340:=Ls Tryz.func340
instance:bM Tryz.prog 341:=Ls Tryz.func341
instance:bM Tryz.prog 342:=Ls Tryz.func342
theorem Di:ng Tryz.prog 344 "Len" 338 false 339:=j8 (by kernel_rfl)
theorem rl:ng Tryz.prog 344 "Less" 339 false 339:=j8 (by kernel_rfl)
theorem rm:ng Tryz.prog 344 "Swap" 340 false 339:=j8 (by kernel_rfl)
theorem IE:ng Tryz.prog 344 "Pop" 341 true 339:=j8 (by kernel_rfl)
theorem Hx:ng Tryz.prog 344 "Push" 342 true 339:=j8 (by kernel_rfl)
section
variable {P:Program} {fr:cf} {d:Option Tmp} {ty t t':TypeId} {pos:String} {af:Array Edge} {g:Option (Nat×Bool)} {x y:Operand}
theorem H4 {z:Int} {n:Nat} (hz:z=(n:Int) - 1) (hx:br fr x=some (aF z)) (hy:br fr y=some (aF 2)) (hn:n≤9223372036854775807):Av P ⟨d,.binOp .quo t x y t',ty,pos,af,g⟩ fr (aF (((n - 1) / 2:Nat):Int)):=by
 have h:=yq (P:=P) (d:=d) (ty:=ty) (pos:=pos) (af:=af) (g:=g) (t:=t) (t':=t') hx hy (by omega)
 have e:IntKind.i64.wrap (z.tdiv 2)=(((n - 1) / 2:Nat):Int):=by
  subst hz
  have:((n:Int) - 1).tdiv 2=(((n - 1) / 2:Nat):Int):=by
   cases n with
   | zero=>rfl
   | succ m=>
    rw [show (((m+1:Nat):Int) - 1)=(m:Int) by omega,Int.tdiv_eq_ediv_of_nonneg (by omega)]
    simp
  rw [this,oN (by omega)]
 rwa [e] at h
end
abbrev HI (p:Nat):AV:= .sc (.iface 344 (.pointer (some ⟨p,0,none⟩)))
def BA (k:Option (Nat×List AV)) (n:Nat):Value:=match k with
 | none=> .slice none 0 0
 | some (b,cs)=> .slice (some ⟨b,0,none⟩) n cs.length
def re (k:Option (Nat×List AV)):AL:=match k with
 | none=>[]
 | some (b,cs)=>[(b,.box cs 3)]
def hst (p:Nat) (k:Option (Nat×List AV)) (l:List Int):AL:=(p,.box [.sc (BA k l.length)] 339)::re k
def pf (k:Option (Nat×List AV)) (l:List Int):Prop:=match k with
 | none=>l=[]
 | some (_,cs)=>cs.take l.length=l.map aF∧l.length≤cs.length∧0 < cs.length
theorem pf.get {b:Nat} {cs:List AV} {l:List Int} (h:pf (some (b,cs)) l) {a:Int} (h0:0≤a) (h1:a < l.length):∃x,l[a.toNat]?=some x∧cs[0+a.toNat * 1]?=some (aF x):=by
 obtain ⟨x,hx⟩:∃x,l[a.toNat]?=some x:=⟨_,Kz (by omega)⟩
 refine ⟨x,hx,?_⟩
 have h2:=congrArg (fun q=>q[a.toNat]?) h.1
 simp only [List.getElem?_take,List.getElem?_map,hx] at h2
 rw [if_pos (by omega)] at h2
 rw [Nat.zero_add,Nat.mul_one]
 exact h2
theorem xC (v:Value) (n c:Nat) (A:Option Addr) (hv:v= .slice A n c):bU Tryz.prog 338 [.sc v] (aF n):=by
 subst hv
 refine aN Tryz.func338 rfl Tryz.ntmps338 rfl fun B=>?_
 repeat' (first|refine L3 ?_|refine KG a4 HY ?_)
 exact KQ KA
theorem nK {b n c:Nat} {cs:List AV} {x y a e:Int} (ha:0≤a∧a < n) (he:0≤e∧e < n) (hx:cs[0+a.toNat * 1]?=some (aF x)) (hy:cs[0+e.toNat * 1]?=some (aF y)):AC Tryz.prog 339 [.sc (.slice (some ⟨b,0,none⟩) n c),aF a,aF e] [(b,.box cs 3)] fun r L=>r=d6 (decide (x < y))∧L=[(b,.box cs 3)]:=by
 refine aN Tryz.func339 rfl Tryz.ntmps339 rfl fun B=>?_
 repeat' (first|refine L3 ?_|refine KG a4 HY ?_)
 refine bn 8 [(0,.v),(1,.v),(2,.v),(3,.l),(4,.v),(5,.v),(6,.v),(7,.l)] none ?_ trivial rfl (by kernel_rfl) (by kernel_rfl) (by kernel_rfl) bI (by kernel_rfl) rfl
 repeat' (first|refine aB ?_|refine aX a4 ?_|fail)
 refine cR a4 rfl rfl rfl ha trivial ?_
 repeat' (first|refine aB ?_|fail)
 refine bN a4 0 rfl rfl rfl hx trivial ?_
 repeat' (first|refine aB ?_|refine aX a4 ?_|fail)
 refine cR a4 rfl rfl rfl he trivial ?_
 repeat' (first|refine aB ?_|fail)
 refine bN a4 0 rfl rfl rfl hy trivial ?_
 repeat' (first|fail)
 refine KU [10,14] HY ?_
 repeat' (first|refine L3 ?_|refine a7 ?_|refine KG a4 HY ?_)
 exact KP HY ⟨rfl,rfl⟩
theorem of {b n c:Nat} {cs:List AV} {x y a e:Int} (ha:0≤a∧a < n) (he:0≤e∧e < n) (hx:cs[0+a.toNat * 1]?=some (aF x)) (hy:cs[0+e.toNat * 1]?=some (aF y)) (hn:n≤cs.length):AC Tryz.prog 340 [.sc (.slice (some ⟨b,0,none⟩) n c),aF a,aF e] [(b,.box cs 3)] fun _ L=>L=[(b,.box ((cs.set a.toNat (aF y)).set e.toNat (aF x)) 3)]:=by
 refine aN Tryz.func340 rfl Tryz.ntmps340 rfl fun B=>?_
 repeat' (first|fail)
 refine bn 14 [(0,.v),(1,.v),(2,.v),(3,.v),(4,.v),(5,.v),(6,.v),(7,.l),(8,.v),(9,.v),(10,.v),(11,.l),(12,.v),(13,.e)] none ?_ trivial rfl (by kernel_rfl) (by kernel_rfl) (by kernel_rfl) bI (by kernel_rfl) rfl
 repeat' (first|refine aB ?_|refine aX a4 ?_|fail)
 refine cR a4 rfl rfl rfl he trivial ?_
 repeat' (first|refine aB ?_|fail)
 refine bN a4 0 rfl rfl rfl hy trivial ?_
 repeat' (first|refine aB ?_|refine aX a4 ?_|fail)
 refine cR a4 rfl rfl rfl ha trivial ?_
 repeat' (first|refine aB ?_|fail)
 refine bN a4 0 rfl rfl rfl hx trivial ?_
 repeat' (first|refine aB ?_|fail)
 refine cR a4 rfl rfl rfl ha trivial ?_
 repeat' (first|refine aB ?_|fail)
 refine Cx a4 0 rfl rfl rfl rfl rfl rfl (by rw [Nat.ble_eq];show _+1≤_;omega) trivial fun _=>?_
 repeat' (first|fail)
 refine KU [8,9,17] HY ?_
 repeat' (first|(apply aQ;first|refine aO a4 ?_|refine aG a4 ?_)|fail)
 refine KZ a4 0 KD (by rw [Nat.ble_eq];show _+1≤(f5 _ _ _).length;rw [gE];omega) ?_
 repeat' (first|refine L3 ?_|fail)
 refine ca rfl ?_
 simp only [eZ,f5,Nat.zero_add,Nat.mul_one]
theorem pf.swap {b:Nat} {cs:List AV} {l:List Int} (h:pf (some (b,cs)) l) {a e x y:Int} (ha:0≤a∧a < l.length) (he:0≤e∧e < l.length) (hx:l[a.toNat]?=some x) (hy:l[e.toNat]?=some y):pf (some (b,(cs.set a.toNat (aF y)).set e.toNat (aF x))) ((l.set a.toNat y).set e.toNat x)∧((l.set a.toNat y).set e.toNat x).Perm l:=by
 obtain ⟨h1,h2,h3⟩:=h
 refine ⟨⟨?_,by simpa using h2,by simpa using h3⟩,?_⟩
 ·simp only [List.length_set]
  rw [List.take_set,List.take_set,h1,List.map_set,List.map_set]
 ·obtain ⟨hx1,hx2⟩:=Ko hx
  obtain ⟨hy1,hy2⟩:=Ko hy
  subst hx2;subst hy2
  exact List.set_set_perm hx1 hy1
set_option maxHeartbeats 4000000 in
theorem yG (p b:Nat) (cs0:List AV) (l0:List Int) (h:pf (some (b,cs0)) l0) (i0 n:Nat) (hn:n≤l0.length) (hl:l0.length≤1000000) (hi0:i0≤1000000):AC Tryz.prog 289 [HI p,aF i0,aF n] (hst p (some (b,cs0)) l0) fun _ L=>∃cs' l',L=hst p (some (b,cs')) l'∧pf (some (b,cs')) l'∧l'.Perm l0:=by
 refine aN Tryz.func289 rfl Tryz.ntmps289 rfl fun B=>?_
 repeat' (first|refine L3 ?_|refine ak ?_|refine KG a4 HY ?_)
 refine aR [0,1,2] (α:=Nat×List AV×List Int) (fun x=>[(7,aF x.1)]) (fun x=>x.1≤1000000∧pf (some (b,x.2.1)) x.2.2∧x.2.2.Perm l0) (fun x=>hst p (some (b,x.2.1)) x.2.2) (fun x=>1000001 - x.1) (i0,cs0,l0) rfl ⟨rfl,trivial⟩ ⟨hi0,h,Lz _⟩ (fun _ _ h=>h) ?_
 rintro ⟨i,cs,l⟩ ⟨hi,hok,hpm⟩
 dsimp only at hi hok hpm ⊢
 have hll:=hpm.length_eq
 unfold hst re BA
 dsimp only
 try dsimp only [Kr,Kq,Kp,Lv]
 repeat' (first|refine L3 ?_|refine ak ?_|refine KG a4 HY ?_|(apply aU;refine aT ?_)|fail)
 refine ce [0,1,2,7,8] (¬(2 * (i:Int)+1 < n)) rfl (fun Q' K=>?_) (fun hC=>?_) (fun hC=>?_)
 ·repeat' (first|refine L3 ?_|refine KG a4 HY ?_|refine KR HY ?_|refine KV KB ?_|refine KW KA (fun _=>?_) (fun _=>?_))
  all_goals exact K _ _ rfl rfl (by clear K;simp_all <;> omega)
 ·repeat' (first|refine L3 ?_|refine c9 rfl ?_|refine KG a4 HY ?_)
  exact KP HY ⟨cs,l,rfl,hok,hpm⟩
 have hC:=Decidable.not_not.1 hC
 obtain ⟨x,hx,hxc⟩:=hok.get (a:=i) (by omega) (by omega)
 repeat' (first|refine L3 ?_|refine KG a4 HY ?_|(apply aU;refine aT ?_)|fail)
 refine KW KA (fun h2=>?_) (fun h2=>?_)
 ·have h2':=Ky h2
  obtain ⟨u,hu,huc⟩:=hok.get (a:=2 * (i:Int)+1+1) (by omega) (by omega)
  obtain ⟨v,hv,hvc⟩:=hok.get (a:=2 * (i:Int)+1) (by omega) (by omega)
  repeat' (first|refine KG a4 HY ?_|refine KR HY ?_)
  refine eh 0 [(b,.box cs 3)] [(p,.box [.sc (.slice (some ⟨b,0,none⟩) l.length cs.length)] 339)] rl (cT a4 rfl) rfl rfl rfl rfl (List.Perm.swap ..) (nK (x:=u) (y:=v) ⟨by omega,by omega⟩ ⟨by omega,by omega⟩ huc hvc) rfl rfl fun c L1 ⟨hc,hL⟩=>?_
  subst hc;subst hL
  refine aP (aI (List.Perm.swap ..)) ?_
  repeat' (first|refine L3 ?_|refine KG a4 HY ?_)
  refine aw rfl (fun h3=>?_) (fun h3=>?_)
  ·clear h3
   repeat' (first|refine L3 ?_|refine KG a4 HY ?_)
   obtain ⟨y,hy,hyc⟩:=hok.get (a:=(2 * (i:Int)+1+1)) (by omega) (by omega)
   refine eh 0 [(b,.box cs 3)] [(p,.box [.sc (.slice (some ⟨b,0,none⟩) l.length cs.length)] 339)] rl (cT a4 rfl) rfl rfl rfl rfl (List.Perm.swap ..) (nK (x:=y) (y:=x) ⟨by omega,by omega⟩ ⟨by omega,by omega⟩ hyc hxc) rfl rfl fun c L1 ⟨hc,hL⟩=>?_
   subst hc;subst hL
   repeat' (first|refine L3 ?_|refine KG a4 HY ?_)
   refine aw rfl (fun h5=>?_) (fun h5=>?_)
   ·repeat' (first|refine L3 ?_|refine c9 rfl ?_|refine KG a4 HY ?_)
    refine bj (aI (List.Perm.swap ..)) ?_
    exact KP HY ⟨cs,l,rfl,hok,hpm⟩
   repeat' (first|refine L3 ?_|refine KG a4 HY ?_)
   refine aP (aI (List.Perm.swap ..)) ?_
   refine eh 0 [(b,.box cs 3)] [(p,.box [.sc (.slice (some ⟨b,0,none⟩) l.length cs.length)] 339)] rm (cT a4 rfl) rfl rfl rfl rfl (List.Perm.swap ..) (of (x:=x) (y:=y) ⟨by omega,by omega⟩ ⟨by omega,by omega⟩ hxc hyc hok.2.1) rfl rfl fun c L1 hL=>?_
   subst hL
   repeat' (first|refine L3 ?_|refine KG a4 HY ?_)
   have hs:=hok.swap (a:=i) (e:=(2 * (i:Int)+1+1)) ⟨by omega,by omega⟩ ⟨by omega,by omega⟩ hx hy
   refine aD (((2 * (i:Int)+1+1)).toNat,(cs.set ((i:Int)).toNat (aF y)).set ((2 * (i:Int)+1+1)).toNat (aF x),(l.set ((i:Int)).toNat y).set ((2 * (i:Int)+1+1)).toNat x) rfl ⟨by rw [show ((((2 * (i:Int)+1+1)).toNat:Nat):Int)=(2 * (i:Int)+1+1) by omega];rfl,trivial⟩ ⟨by dsimp only;omega,hs.1,hs.2.trans hpm⟩ (by dsimp only;omega) (fun σ w h=>?_)
   have h:=h.perm (List.Perm.swap ..)
   simpa [hst,BA,re,List.length_set] using h
  ·clear h3
   repeat' (first|refine L3 ?_|refine KG a4 HY ?_)
   obtain ⟨y,hy,hyc⟩:=hok.get (a:=(2 * (i:Int)+1)) (by omega) (by omega)
   refine eh 0 [(b,.box cs 3)] [(p,.box [.sc (.slice (some ⟨b,0,none⟩) l.length cs.length)] 339)] rl (cT a4 rfl) rfl rfl rfl rfl (List.Perm.swap ..) (nK (x:=y) (y:=x) ⟨by omega,by omega⟩ ⟨by omega,by omega⟩ hyc hxc) rfl rfl fun c L1 ⟨hc,hL⟩=>?_
   subst hc;subst hL
   repeat' (first|refine L3 ?_|refine KG a4 HY ?_)
   refine aw rfl (fun h5=>?_) (fun h5=>?_)
   ·repeat' (first|refine L3 ?_|refine c9 rfl ?_|refine KG a4 HY ?_)
    refine bj (aI (List.Perm.swap ..)) ?_
    exact KP HY ⟨cs,l,rfl,hok,hpm⟩
   repeat' (first|refine L3 ?_|refine KG a4 HY ?_)
   refine aP (aI (List.Perm.swap ..)) ?_
   refine eh 0 [(b,.box cs 3)] [(p,.box [.sc (.slice (some ⟨b,0,none⟩) l.length cs.length)] 339)] rm (cT a4 rfl) rfl rfl rfl rfl (List.Perm.swap ..) (of (x:=x) (y:=y) ⟨by omega,by omega⟩ ⟨by omega,by omega⟩ hxc hyc hok.2.1) rfl rfl fun c L1 hL=>?_
   subst hL
   repeat' (first|refine L3 ?_|refine KG a4 HY ?_)
   have hs:=hok.swap (a:=i) (e:=(2 * (i:Int)+1)) ⟨by omega,by omega⟩ ⟨by omega,by omega⟩ hx hy
   refine aD (((2 * (i:Int)+1)).toNat,(cs.set ((i:Int)).toNat (aF y)).set ((2 * (i:Int)+1)).toNat (aF x),(l.set ((i:Int)).toNat y).set ((2 * (i:Int)+1)).toNat x) rfl ⟨by rw [show ((((2 * (i:Int)+1)).toNat:Nat):Int)=(2 * (i:Int)+1) by omega];rfl,trivial⟩ ⟨by dsimp only;omega,hs.1,hs.2.trans hpm⟩ (by dsimp only;omega) (fun σ w h=>?_)
   have h:=h.perm (List.Perm.swap ..)
   simpa [hst,BA,re,List.length_set] using h
 ·have h2':¬(2 * (i:Int)+1+1 < n):=Kx (by simpa using h2)
  repeat' (first|refine L3 ?_|refine KG a4 HY ?_|refine KV KB ?_|refine bE rfl ?_)
  obtain ⟨y,hy,hyc⟩:=hok.get (a:=(2 * (i:Int)+1)) (by omega) (by omega)
  refine eh 0 [(b,.box cs 3)] [(p,.box [.sc (.slice (some ⟨b,0,none⟩) l.length cs.length)] 339)] rl (cT a4 rfl) rfl rfl rfl rfl (List.Perm.swap ..) (nK (x:=y) (y:=x) ⟨by omega,by omega⟩ ⟨by omega,by omega⟩ hyc hxc) rfl rfl fun c L1 ⟨hc,hL⟩=>?_
  subst hc;subst hL
  repeat' (first|refine L3 ?_|refine KG a4 HY ?_)
  refine aw rfl (fun h5=>?_) (fun h5=>?_)
  ·repeat' (first|refine L3 ?_|refine c9 rfl ?_|refine KG a4 HY ?_)
   refine bj (aI (List.Perm.swap ..)) ?_
   exact KP HY ⟨cs,l,rfl,hok,hpm⟩
  repeat' (first|refine L3 ?_|refine KG a4 HY ?_)
  refine aP (aI (List.Perm.swap ..)) ?_
  refine eh 0 [(b,.box cs 3)] [(p,.box [.sc (.slice (some ⟨b,0,none⟩) l.length cs.length)] 339)] rm (cT a4 rfl) rfl rfl rfl rfl (List.Perm.swap ..) (of (x:=x) (y:=y) ⟨by omega,by omega⟩ ⟨by omega,by omega⟩ hxc hyc hok.2.1) rfl rfl fun c L1 hL=>?_
  subst hL
  repeat' (first|refine L3 ?_|refine KG a4 HY ?_)
  have hs:=hok.swap (a:=i) (e:=(2 * (i:Int)+1)) ⟨by omega,by omega⟩ ⟨by omega,by omega⟩ hx hy
  refine aD (((2 * (i:Int)+1)).toNat,(cs.set ((i:Int)).toNat (aF y)).set ((2 * (i:Int)+1)).toNat (aF x),(l.set ((i:Int)).toNat y).set ((2 * (i:Int)+1)).toNat x) rfl ⟨by rw [show ((((2 * (i:Int)+1)).toNat:Nat):Int)=(2 * (i:Int)+1) by omega];rfl,trivial⟩ ⟨by dsimp only;omega,hs.1,hs.2.trans hpm⟩ (by dsimp only;omega) (fun σ w h=>?_)
  have h:=h.perm (List.Perm.swap ..)
  simpa [hst,BA,re,List.length_set] using h
theorem J4 (p b:Nat) (cs0:List AV) (l0:List Int) (h:pf (some (b,cs0)) l0) (j0:Nat) (hj0:j0 < l0.length) (hl:l0.length≤1000000):AC Tryz.prog 290 [HI p,aF j0] (hst p (some (b,cs0)) l0) fun _ L=>∃cs' l',L=hst p (some (b,cs')) l'∧pf (some (b,cs')) l'∧l'.Perm l0:=by
 refine aN Tryz.func290 rfl Tryz.ntmps290 rfl fun B=>?_
 repeat' (first|refine ak ?_)
 refine aR [0] (α:=Nat×List AV×List Int) (fun x=>[(1,aF x.1)]) (fun x=>x.1 < l0.length∧pf (some (b,x.2.1)) x.2.2∧x.2.2.Perm l0) (fun x=>hst p (some (b,x.2.1)) x.2.2) (fun x=>x.1) (j0,cs0,l0) rfl ⟨rfl,trivial⟩ ⟨hj0,h,Lz _⟩ (fun _ _ h=>h) ?_
 rintro ⟨j,cs,l⟩ ⟨hi,hok,hpm⟩
 dsimp only at hi hok hpm ⊢
 have hll:=hpm.length_eq
 unfold hst re BA
 dsimp only
 try dsimp only [Kr,Kq,Kp,Lv]
 repeat' (first|refine L3 ?_|refine ak ?_|refine KG a4 HY ?_|(apply aU;refine aT ?_)|fail)
 refine aT ?_ (H4 (n:=j) rfl rfl rfl (by omega))
 obtain ⟨x,hx,hxc⟩:=hok.get (a:=j) (by omega) (by omega)
 obtain ⟨y,hy,hyc⟩:=hok.get (a:=(((j - 1) / 2:Nat):Int)) (by omega) (by omega)
 repeat' (first|refine L3 ?_|refine KG a4 HY ?_)
 refine KW KA (fun h2=>?_) (fun h2=>?_)
 ·have h2':=Kx h2
  repeat' (first|refine KG a4 HY ?_|refine KR HY ?_)
  refine eh 0 [(b,.box cs 3)] [(p,.box [.sc (.slice (some ⟨b,0,none⟩) l.length cs.length)] 339)] rl (cT a4 rfl) rfl rfl rfl rfl (List.Perm.swap ..) (nK (x:=x) (y:=y) ⟨by omega,by omega⟩ ⟨by omega,by omega⟩ hxc hyc) rfl rfl fun c L1 ⟨hc,hL⟩=>?_
  subst hc;subst hL
  refine aP (aI (List.Perm.swap ..)) ?_
  repeat' (first|refine L3 ?_|refine KG a4 HY ?_|refine KR HY ?_)
  refine aw rfl (fun h3=>?_) (fun h3=>?_)
  ·repeat' (first|refine L3 ?_|refine c9 rfl ?_)
   exact ca rfl ⟨cs,l,rfl,hok,hpm⟩
  repeat' (first|refine L3 ?_|refine KG a4 HY ?_)
  refine eh 0 [(b,.box cs 3)] [(p,.box [.sc (.slice (some ⟨b,0,none⟩) l.length cs.length)] 339)] rm (cT a4 rfl) rfl rfl rfl rfl (List.Perm.swap ..) (of (x:=y) (y:=x) ⟨by omega,by omega⟩ ⟨by omega,by omega⟩ hyc hxc hok.2.1) rfl rfl fun c L1 hL=>?_
  subst hL
  repeat' (first|refine L3 ?_|refine KG a4 HY ?_)
  have hs:=hok.swap (a:=(((j - 1) / 2:Nat):Int)) (e:=j) ⟨by omega,by omega⟩ ⟨by omega,by omega⟩ hy hx
  refine aD ((j - 1) / 2,(cs.set (((j - 1) / 2:Nat):Int).toNat (aF x)).set (j:Int).toNat (aF y),(l.set (((j - 1) / 2:Nat):Int).toNat x).set (j:Int).toNat y) rfl ⟨rfl,trivial⟩ ⟨by dsimp only;omega,hs.1,hs.2.trans hpm⟩ (by dsimp only;omega) (fun σ w h=>?_)
  have h:=h.perm (List.Perm.swap ..)
  simpa [hst,BA,re,List.length_set] using h
 ·repeat' (first|refine L3 ?_|refine c9 rfl ?_|refine KG a4 HY ?_|refine KV KB ?_|refine bH rfl ?_)
  exact ca rfl ⟨cs,l,rfl,hok,hpm⟩
theorem HO (p b:Nat) (cs:List AV) (l:List Int) (h:pf (some (b,cs)) l) (h0:0 < l.length) (hl:l.length≤1000000):AC Tryz.prog 341 [.sc (.pointer (some ⟨p,0,none⟩))] (hst p (some (b,cs)) l) fun c L=>∃z l',c= .sc (.iface 3 (.int .i64 z))∧L=hst p (some (b,cs)) l'∧pf (some (b,cs)) l'∧l=l'++[z]:=by
 refine aN Tryz.func341 rfl Tryz.ntmps341 rfl fun B=>?_
 unfold hst re BA
 dsimp only
 obtain ⟨z,hz,hzc⟩:=h.get (a:=(l.length:Int) - 1) (by omega) (by omega)
 have hcl:=h.2.1
 have hc1:=h.2.2
 repeat' (first|refine L3 ?_|refine KG a4 HY ?_|(apply bo;first|refine KM a4 0 KC ?_|refine KM a4 1 KC ?_|refine KM a4 2 KC ?_|refine KM a4 3 KC ?_|refine KN a4 0 KC ?_|refine KN a4 1 KC ?_|refine KN a4 2 KC ?_|refine KO a4 1 KA (by assumption) rfl ?_|refine KO a4 0 KA (by assumption) rfl ?_|fail)|(apply aU;refine aT ?_)|(apply aQ;first|refine aO a4 ?_|refine aG a4 ?_)|fail)
 refine DB a4 (l.length - 1) rfl rfl rfl (by omega) (by omega) (by omega) rfl ?_
 repeat' (first|refine L3 ?_|refine KG a4 HY ?_|(apply aM;first|refine KH a4 0 KE ?_|refine KH a4 1 KE ?_|refine KH a4 2 KE ?_|refine KH a4 3 KE ?_|fail))
 refine nR (by kernel_rfl) rfl rfl ?_
 repeat' (first|refine L3 ?_|refine KG a4 HY ?_)
 have hlast:l.take (l.length - 1)++[z]=l:=by
  have h1:l.take (l.length - 1+1)=l:=List.take_of_length_le (by omega)
  rw [List.take_add_one,show l[l.length - 1]?=some z by rw [←hz];congr 1;omega] at h1
  exact h1
 have hlen:(l.take (l.length - 1)).length=l.length - 1:=by rw [List.length_take];omega
 refine KP HY ⟨z,l.take (l.length - 1),rfl,?_,⟨?_,by rw [hlen];omega,hc1⟩,hlast.symm⟩
 ·rw [hlen]
  rfl
 ·rw [hlen,List.map_take,←h.1,List.take_take]
  congr 1
  omega
theorem FQ (p:Nat) (k:Option (Nat×List AV)) (l:List Int) (z:Int) (h:pf k l) (hl:l.length≤1000000):AC Tryz.prog 342 [.sc (.pointer (some ⟨p,0,none⟩)),.sc (.iface 3 (.int .i64 z))] (hst p k l) fun _ L=>∃b cs,L=hst p (some (b,cs)) (l++[z])∧pf (some (b,cs)) (l++[z]):=by
 refine aN Tryz.func342 rfl Tryz.ntmps342 rfl fun B=>?_
 unfold hst re BA
 cases k with
 | none=>
  have hl0:l=[]:=h
  subst hl0
  dsimp only
  repeat' (first|fail)
  refine bn 8 [(0,.v),(1,.v),(2,.v),(3,.l),(4,.v),(5,.v),(6,.v),(7,.e)] none ?_ trivial rfl (by kernel_rfl) (by kernel_rfl) (by kernel_rfl) bI (by kernel_rfl) rfl
  repeat' (first|refine aB ?_|refine aX a4 ?_|refine KY a4 0 KB (by first|trivial|rfl) ?_)
  refine vl (by kernel_rfl) rfl trivial ?_
  repeat' (first|refine aB ?_|refine eD a4 ?_|fail)
  refine A4 a4 rfl rfl rfl rfl rfl rfl trivial fun b' cs' h1 h2=>?_
  repeat' (first|fail)
  refine KU [4,11] HY ?_
  repeat' (first|refine L3 ?_|refine a7 ?_|refine KG a4 HY ?_|(apply aM;first|refine KH a4 0 KE ?_|refine KH a4 1 KE ?_|refine KH a4 2 KE ?_|refine KH a4 3 KE ?_|fail))
  exact bj (aI (List.Perm.swap ..)) (ca rfl ⟨b',cs',rfl,h1,h2,h2⟩)
 | some q=>
  obtain ⟨b,cs⟩:=q
  dsimp only
  repeat' (first|fail)
  refine bn 8 [(0,.v),(1,.v),(2,.v),(3,.l),(4,.v),(5,.v),(6,.v),(7,.e)] none ?_ trivial rfl (by kernel_rfl) (by kernel_rfl) (by kernel_rfl) bI (by kernel_rfl) rfl
  repeat' (first|refine aB ?_|refine aX a4 ?_|refine KY a4 0 KB (by first|trivial|rfl) ?_)
  refine vl (by kernel_rfl) rfl trivial ?_
  repeat' (first|refine aB ?_|refine eD a4 ?_|fail)
  refine zZ a4 1 rfl rfl rfl rfl rfl rfl rfl h.2.1 (by omega) (by omega) trivial fun b' cs' h1 h2=>?_
  repeat' (first|fail)
  refine KU [4,11] HY ?_
  repeat' (first|refine L3 ?_|refine a7 ?_|refine KG a4 HY ?_|(apply aM;first|refine KH a4 0 KE ?_|refine KH a4 1 KE ?_|refine KH a4 2 KE ?_|refine KH a4 3 KE ?_|fail))
  refine bj (aI (List.Perm.swap ..)) (ca rfl ⟨b',cs',?_,?_,by simpa using h2,by omega⟩)
  ·rw [List.length_append]
   rfl
  ·rw [List.length_append,List.map_append,←h.1]
   exact h1
theorem j4 (p b:Nat) (cs:List AV) (l:List Int):hst p (some (b,cs)) l=[(p,.box [.sc (.slice (some ⟨b,0,none⟩) l.length cs.length)] 339),(b,.box cs 3)]:=rfl
set_option maxHeartbeats 1000000 in
theorem D4 (p:Nat) (k:Option (Nat×List AV)) (l:List Int) (z:Int) (h:pf k l) (hl:l.length < 1000000):AC Tryz.prog 267 [HI p,.sc (.iface 3 (.int .i64 z))] (hst p k l) fun _ L=>∃b cs l',L=hst p (some (b,cs)) l'∧pf (some (b,cs)) l'∧l'.Perm (l++[z]):=by
 refine aN Tryz.func267 rfl Tryz.ntmps267 rfl fun B=>?_
 repeat' (first|refine L3 ?_|refine KG a4 HY ?_)
 refine vQ (hst p k l) [] Hx rfl rfl (by rw [List.append_nil]) (FQ p k l z h (by omega)) rfl rfl fun c L1 ⟨b,cs,hL,hok⟩=>?_
 subst hL
 rw [List.append_nil,j4]
 have hll:(l++[z]).length=l.length+1:=by simp
 repeat' (first|refine L3 ?_|refine KG a4 HY ?_)
 refine eh 0 [] [(p,.box [.sc (.slice (some ⟨b,0,none⟩) (l++[z]).length cs.length)] 339),(b,.box cs 3)] Di (cT a4 rfl) rfl rfl rfl rfl (Lz _) (xC _ (l++[z]).length _ _ rfl) rfl rfl fun c L1 hc=>?_
 have hc:c=aF (l++[z]).length:=hc
 subst hc
 refine aP (c6 (List.sublist_append_right ..)) ?_
 rw [hll]
 repeat' (first|(apply aU;refine aT ?_)|fail)
 have hup:=J4 p b cs (l++[z]) hok l.length (by rw [hll];omega) (by rw [hll];omega)
 rw [j4,hll] at hup
 rw [show (((l.length+1:Nat):Int) - 1)=(l.length:Int) by omega]
 refine b6 _ [] hup rfl rfl (by rw [List.append_nil]) rfl fun c L1 ⟨cs',l',hL,hok',hpm⟩=>?_
 subst hL
 rw [List.append_nil]
 repeat' (first|refine L3 ?_|fail)
 exact ca rfl ⟨b,cs',l',rfl,hok',hpm⟩
set_option maxHeartbeats 1000000 in
theorem Fy (p b:Nat) (cs:List AV) (l:List Int) (h:pf (some (b,cs)) l) (h0:0 < l.length) (hl:l.length≤1000000):AC Tryz.prog 266 [HI p] (hst p (some (b,cs)) l) fun c L=>∃z cs' l',c= .sc (.iface 3 (.int .i64 z))∧L=hst p (some (b,cs')) l'∧pf (some (b,cs')) l'∧(l'++[z]).Perm l:=by
 refine aN Tryz.func266 rfl Tryz.ntmps266 rfl fun B=>?_
 rw [j4]
 repeat' (first|refine L3 ?_|refine KG a4 HY ?_)
 refine eh 0 [] [(p,.box [.sc (.slice (some ⟨b,0,none⟩) l.length cs.length)] 339),(b,.box cs 3)] Di (cT a4 rfl) rfl rfl rfl rfl (Lz _) (xC _ l.length _ _ rfl) rfl rfl fun c L1 hc=>?_
 have hc:c=aF l.length:=hc
 subst hc
 refine aP (c6 (List.sublist_append_right ..)) ?_
 repeat' (first|refine L3 ?_|refine KG a4 HY ?_|(apply aU;refine aT ?_)|fail)
 obtain ⟨x,hx,hxc⟩:=h.get (a:=0) (by omega) (by omega)
 obtain ⟨y,hy,hyc⟩:=h.get (a:=(l.length:Int) - 1) (by omega) (by omega)
 refine eh 0 [(b,.box cs 3)] [(p,.box [.sc (.slice (some ⟨b,0,none⟩) l.length cs.length)] 339)] rm (cT a4 rfl) rfl rfl rfl rfl (List.Perm.swap ..) (of (x:=x) (y:=y) ⟨by omega,by omega⟩ ⟨by omega,by omega⟩ hxc hyc h.2.1) rfl rfl fun c L1 hL=>?_
 subst hL
 have hs:=h.swap (a:=0) (e:=(l.length:Int) - 1) ⟨by omega,by omega⟩ ⟨by omega,by omega⟩ hx hy
 have hsl:=hs.2.length_eq
 refine aP (aI (List.Perm.swap ..)) ?_
 repeat' (first|refine L3 ?_|refine KG a4 HY ?_)
 have hdn:=yG p b _ _ hs.1 0 (l.length - 1) (by rw [hsl];omega) (by rw [hsl];omega) (by omega)
 rw [j4,hsl,show (((l.length - 1:Nat)):Int)=(l.length:Int) - 1 by omega] at hdn
 rw [show cs.length=((cs.set (0:Int).toNat (aF y)).set ((l.length:Int) - 1).toNat (aF x)).length by simp]
 refine b6 _ [] hdn rfl rfl (by rw [List.append_nil]) rfl fun c L1 ⟨cs',l',hL,hok',hpm⟩=>?_
 subst hL
 rw [List.append_nil]
 repeat' (first|refine L3 ?_|refine KG a4 HY ?_)
 have hl':=hpm.length_eq
 refine vQ (hst p (some (b,cs')) l') [] IE rfl rfl (by rw [List.append_nil]) (HO p b cs' l' hok' (by omega) (by omega)) rfl rfl fun c L1 ⟨z,l2,hc,hL,hok2,he⟩=>?_
 subst hc;subst hL
 rw [List.append_nil]
 repeat' (first|refine L3 ?_|refine KG a4 HY ?_)
 refine KP HY ⟨z,cs',l2,rfl,rfl,hok2,?_⟩
 rw [←he]
 exact hpm.trans hs.2
theorem Hr {k:Option (Nat×List AV)} {l:List Int} (h:pf k l):∃A c,BA k l.length= .slice A l.length c:=by
 cases k with
 | none=>rw [show l=[] from h];exact ⟨_,_,rfl⟩
 | some q=>exact ⟨_,_,rfl⟩
section
variable {P:Program} {fr:cf} {d:Option Tmp} {ty t t':TypeId} {pos:String} {af:Array Edge} {g:Option (Nat×Bool)} {x y:Operand}
theorem EH {n:Nat} (hx:br fr x=some (aF n)) (hy:br fr y=some (aF 2)) (hn:n≤9223372036854775807):Av P ⟨d,.binOp .quo t x y t',ty,pos,af,g⟩ fr (aF ((n / 2:Nat):Int)):=by
 have h:=yq (P:=P) (d:=d) (ty:=ty) (pos:=pos) (af:=af) (g:=g) (t:=t) (t':=t') hx hy (by omega)
 have e:IntKind.i64.wrap ((n:Int).tdiv 2)=((n / 2:Nat):Int):=by
  have:(n:Int).tdiv 2=((n / 2:Nat):Int):=by
   rw [Int.tdiv_eq_ediv_of_nonneg (by omega)]
   simp
  rw [this,oN (by omega)]
 rwa [e] at h
end
set_option maxHeartbeats 1000000 in
theorem D3 (p:Nat) (k:Option (Nat×List AV)) (l:List Int) (h:pf k l) (hl:l.length≤1000000):AC Tryz.prog 265 [HI p] (hst p k l) fun _ L=>∃k' l',L=hst p k' l'∧pf k' l'∧l'.Perm l:=by
 refine aN Tryz.func265 rfl Tryz.ntmps265 rfl fun B=>?_
 obtain ⟨A,cc,hA⟩:=Hr h
 repeat' (first|refine L3 ?_|refine KG a4 HY ?_)
 refine eh 0 [] (hst p k l) Di (cT a4 rfl) rfl rfl rfl rfl (Lz _) (xC _ l.length cc A hA) rfl rfl fun c L1 hc=>?_
 have hc:c=aF l.length:=hc
 subst hc
 refine aP (c6 (List.sublist_append_right ..)) ?_
 repeat' (first|refine L3 ?_|refine KG a4 HY ?_)
 refine aT ?_ (EH (n:=l.length) rfl rfl (by omega))
 repeat' (first|refine ak ?_|refine L3 ?_|refine KG a4 HY ?_|(apply aU;refine aT ?_)|fail)
 refine aR [0,2] (α:=Nat×Option (Nat×List AV)×List Int) (fun x=>[(3,aF ((x.1:Int) - 1))]) (fun x=>x.1≤l.length / 2∧pf x.2.1 x.2.2∧x.2.2.Perm l) (fun x=>hst p x.2.1 x.2.2) (fun x=>x.1) (l.length / 2,k,l) rfl ⟨rfl,trivial⟩ ⟨Nat.le_refl _,h,Lz _⟩ (fun _ _ h=>h) ?_
 rintro ⟨m,k,l'⟩ ⟨hm,hok,hpm⟩
 dsimp only at hm hok hpm ⊢
 have hll:=hpm.length_eq
 try dsimp only [Kr,Kq,Kp,Lv]
 repeat' (first|refine L3 ?_|refine KG a4 HY ?_)
 refine aw rfl (fun h2=>?_) (fun h2=>?_)
 ·have h2':=Ky h2
  cases k with
  | none=>rw [show l'=[] from hok] at hll;simp at hll;omega
  | some q=>
   obtain ⟨b,cs⟩:=q
   repeat' (first|refine L3 ?_|refine ak ?_|refine KG a4 HY ?_)
   have hdn:=yG p b cs l' hok (m - 1) l.length (by omega) (by omega) (by omega)
   rw [show (((m - 1:Nat)):Int)=(m:Int) - 1 by omega] at hdn
   refine b6 _ [] hdn rfl rfl (by rw [List.append_nil]) rfl fun c L1 ⟨cs',l2,hL,hok',hpm'⟩=>?_
   subst hL
   rw [List.append_nil]
   repeat' (first|refine L3 ?_|refine KG a4 HY ?_|(apply aU;refine aT ?_)|fail)
   exact aD (m - 1,some (b,cs'),l2) rfl ⟨by rw [show (((m - 1:Nat)):Int)=(m:Int) - 1 by omega];rfl,trivial⟩ ⟨by dsimp only;omega,hok',hpm'.trans hpm⟩ (by dsimp only;omega) (fun _ _ h=>h)
 ·repeat' (first|refine L3 ?_|fail)
  exact ca rfl ⟨k,l',rfl,hok,hpm⟩
end Go.Proofs.YtpmdfoaadejmkaaGreatDoor
namespace Go.Proofs.YtpmdfoaadejmkaaGreatDoor
open Go.RowKit
attribute [local irreducible] AT bJ AX AO Av Kt bi dq DA cG
def Jk (fs:List ByteArray) (l:List ck):List Int:=(l.map fun t=>if IA fs t.Name then t.Lookups else []).flatten
def CallsIn (f:aZ) (l:List Int) (cs:List gK):Prop:=∀c∈cs,Gw f c.Lookup=true→c.Lookup∈l
def EB (f:aZ) (l:List Int) (rs:List bh):Prop:=∀r∈rs,CallsIn f l r.Calls
structure JN (f:aZ) (fs:List ByteArray) (l:List Int) (i:Nat):Prop where
 reach:∀z∈l,uM f fs z
 nodup:l.Nodup
 base:∀z∈Jk fs f.Features,0≤z→z < f.Lookups.length→z∈l
 done:∀j < i,∀z,l[j]?=some z→∀x,f.Lookups[z.toNat]?=some x→x.Kind=4→EB f l x.Rules
def JX (l:List Int) (n:Nat):List AV:=(List.range n).map fun (i:Nat)=>d6 (l.contains (i:Int))
def Hg (n:Nat) (l:List Int) (z:Int):List Int:=if 0≤z∧z < n∧z∉l then l++[z] else l
def K8 (n:Nat) (l ns:List Int):List Int:=ns.foldl (Hg n) l
structure JR (n:Nat) (l:List Int):Prop where
 nodup:l.Nodup
 dom:∀z∈l,0≤z∧z < n
abbrev Eu (p:Nat):AV:= .sc (.pointer (some ⟨p,0,none⟩))
end Go.Proofs.YtpmdfoaadejmkaaGreatDoor
namespace Go.Proofs.YtpmdfoaadejmkaaGreatDoor
def cQ (n:Nat):List Int:=(List.range n).map fun (i:Nat)=>(i:Int)
theorem fA {n:Nat} {z:Int}:z∈cQ n↔0≤z∧z < n:=by
 simp only [cQ,List.mem_map,List.mem_range]
 constructor
 ·rintro ⟨i,hi,rfl⟩;omega
 ·rintro ⟨h0,h1⟩;exact ⟨z.toNat,by omega,by omega⟩
theorem l6 (n:Nat):(cQ n).Nodup:=by
 unfold cQ List.Nodup
 rw [List.pairwise_map]
 exact List.nodup_range.imp fun h e=>h (by omega)
theorem f7 (n:Nat):(cQ n).length=n:=by simp [cQ]
theorem ku {n i:Nat} (h:i < n):(cQ n)[i]?=some (i:Int):=by simp [cQ,h]
theorem tH (n:Nat):cQ (n+1)=cQ n++[(n:Int)]:=by
 unfold cQ
 rw [List.range_succ,List.map_append]
 rfl
def cF (pr:Int→List Int) (gs:List Int) (z:Int):List Int:=gs.flatMap fun g=>((pr g).filter fun p=>decide (p=z)).map fun _=>g
theorem mN (pr:Int→List Int) (z g:Int):∀gs:List Int,gs.Nodup→(cF pr gs z).count g=if g∈gs then (pr g).count z else 0
 | [],_=>by simp [cF]
 | y::gs,h=>by
  have h':=List.nodup_cons.1 h
  have ih:=mN pr z g gs h'.2
  unfold cF at ih ⊢
  rw [List.flatMap_cons,List.count_append,ih]
  by_cases e:y=g
  ·subst e
   rw [if_pos (List.mem_cons_self ..),if_neg h'.1,List.map_const',List.count_replicate_self,Nat.add_zero,List.count_eq_countP,List.countP_eq_length_filter]
   rfl
  ·rw [List.map_const',List.count_replicate,if_neg (by simpa using e),Nat.zero_add]
   by_cases hm:g∈gs
   ·rw [if_pos hm,if_pos (Ks _ hm)]
   ·rw [if_neg hm,if_neg (by simp [hm];exact fun h=>e h.symm)]
def mG (pr:Int→List Int) (T:List Int) (g:Int):Nat:=((pr g).filter fun p=>decide (p∉T)).length
theorem rx (pr:Int→List Int) {T:List Int} {x:Int} (hx:x∉T) (g:Int):mG pr (T++[x]) g+(pr g).count x=mG pr T g:=by
 unfold mG
 induction pr g with
 | nil=>rfl
 | cons p l ih=>
  rw [List.filter_cons,List.filter_cons,List.count_cons]
  by_cases e:p=x
  ·subst e
   rw [if_neg (by simp),if_pos (decide_eq_true hx)]
   rw [if_pos (by simp),List.length_cons]
   omega
  ·have e1:decide (p∉T++[x])=decide (p∉T):=by simp [e]
   rw [e1]
   have e2:(p==x)=false:=by simpa using e
   rw [e2]
   simp only [Bool.false_eq_true,if_false]
   split
   ·simp only [List.length_cons];omega
   ·omega
theorem ry {pr:Int→List Int} {T:List Int} {g:Int}:mG pr T g=0↔∀p∈pr g,p∈T:=by
 unfold mG
 rw [List.length_eq_zero_iff,List.filter_eq_nil_iff]
 simp
def zu (pr:Int→List Int) (T:List Int):Prop:=∀(i:Nat) (x:Int),T[i]?=some x→∀p∈pr x,p∈T.take i
theorem zu.snoc {pr:Int→List Int} {T:List Int} {x:Int} (h:zu pr T) (hx:∀p∈pr x,p∈T):zu pr (T++[x]):=by
 intro i y hy p hp
 by_cases hi:i < T.length
 ·rw [List.getElem?_append_left hi] at hy
  rw [List.take_append_of_le_length (by omega)]
  exact h i y hy p hp
 ·rw [List.getElem?_append_right (by omega)] at hy
  have hil:i - T.length=0:=by
   rcases Nat.eq_zero_or_pos (i - T.length) with h0 | h0
   ·exact h0
   ·rw [List.getElem?_eq_none (by simp;omega)] at hy;cases hy
  rw [hil] at hy
  simp at hy
  subst hy
  rw [show i=T.length by omega,List.take_left]
  exact hx p hp
structure oz (n:Nat) (pr:Int→List Int) (T R:List Int) (M:Int→Int):Prop where
 nodup:(T++R).Nodup
 dom:∀z∈T++R,0≤z∧z < n
 miss:∀g:Int,0≤g→g < n→M g=mG pr T g
 ready:∀g:Int,0≤g→g < n→(g∈T++R↔M g=0)
 topo:zu pr T
structure sn (n:Nat) (pr:Int→List Int) (T:List Int) (x:Int) (us:List Int) (R:List Int) (M:Int→Int):Prop where
 nodup:(T++[x]++R).Nodup
 dom:∀z∈T++[x]++R,0≤z∧z < n
 miss:∀g:Int,0≤g→g < n→M g+us.count g=mG pr T g
 ready:∀g:Int,0≤g→g < n→(g∈T++[x]++R↔M g=0)
 topo:zu pr (T++[x])
theorem oz.perm {n:Nat} {pr:Int→List Int} {T R R':List Int} {M:Int→Int} (h:oz n pr T R M) (hp:R'.Perm R):oz n pr T R' M:=by
 have hp':(T++R').Perm (T++R):=List.Perm.append_left T hp
 exact ⟨hp'.nodup_iff.2 h.nodup,fun z hz=>h.dom z (hp'.mem_iff.1 hz),h.miss,fun g h0 h1=>by rw [hp'.mem_iff];exact h.ready g h0 h1,h.topo⟩
theorem sn.perm {n:Nat} {pr:Int→List Int} {T R R' us:List Int} {x:Int} {M:Int→Int} (h:sn n pr T x us R M) (hp:R'.Perm R):sn n pr T x us R' M:=by
 have hp':(T++[x]++R').Perm (T++[x]++R):=List.Perm.append_left _ hp
 exact ⟨hp'.nodup_iff.2 h.nodup,fun z hz=>h.dom z (hp'.mem_iff.1 hz),h.miss,fun g h0 h1=>by rw [hp'.mem_iff];exact h.ready g h0 h1,h.topo⟩
theorem oz.pop {n:Nat} {pr:Int→List Int} {T R:List Int} {x:Int} {M:Int→Int} (h:oz n pr T (R++[x]) M):sn n pr T x [] R M:=by
 have hp:(T++[x]++R).Perm (T++(R++[x])):=by
  rw [List.append_assoc]
  exact List.Perm.append_left T List.perm_append_comm
 have hx:=h.dom x (by simp)
 refine ⟨hp.nodup_iff.2 h.nodup,fun z hz=>h.dom z (hp.mem_iff.1 hz),fun g h0 h1=>by simpa using h.miss g h0 h1,fun g h0 h1=>by rw [hp.mem_iff];exact h.ready g h0 h1,h.topo.snoc ?_⟩
 have h1:=(h.ready x hx.1 hx.2).1 (by simp)
 rw [h.miss x hx.1 hx.2] at h1
 exact ry.1 (by omega)
theorem lc {all:List Int} {j:Nat} {u:Int} (h:all[j]?=some u) (g:Int):(all.take (j+1)).count g=(all.take j).count g+if u=g then 1 else 0:=by
 rw [List.take_add_one,h,Option.toList_some,List.count_append]
 by_cases e:u=g
 ·subst e;simp
 ·rw [if_neg e,List.count_singleton,if_neg (by simpa using e)]
theorem sn.step {n:Nat} {pr:Int→List Int} {T R all:List Int} {x u:Int} {j:Nat} {M:Int→Int} (hall:∀g:Int,0≤g→g < n→all.count g=(pr g).count x) (hx:x∉T) (h:sn n pr T x (all.take j) R M) (hu:all[j]?=some u) (h0:0≤u) (h1:u < n):
  0 < M u∧sn n pr T x (all.take (j+1)) (if M u - 1=0 then R++[u] else R) (fun g=>if g=u then M u - 1 else M g):=by
 have hm:=h.miss u h0 h1
 have hlt:(all.take (j+1)).count u≤all.count u:=(List.take_sublist _ _).count_le u
 have hsn:=rx pr hx u
 rw [lc hu,if_pos rfl,hall u h0 h1] at hlt
 have hpos:0 < M u:=by omega
 have hnot:u∉T++[x]++R:=fun hm'=>by have:=(h.ready u h0 h1).1 hm';omega
 refine ⟨hpos,?_⟩
 have hmiss:∀g:Int,0≤g→g < n→(if g=u then M u - 1 else M g)+((all.take (j+1)).count g:Int)=mG pr T g:=by
  intro g g0 g1
  rw [lc hu]
  by_cases e:g=u
  ·subst e
   rw [if_pos rfl,if_pos rfl]
   have:=h.miss g g0 g1
   omega
  ·rw [if_neg e,if_neg (fun q=>e q.symm)]
   have:=h.miss g g0 g1
   omega
 by_cases hz:M u - 1=0
 ·rw [if_pos hz]
  refine ⟨?_,fun z hz'=>?_,hmiss,fun g g0 g1=>?_,h.topo⟩
  ·rw [←List.append_assoc,List.nodup_append]
   refine ⟨h.nodup,by simp,fun a ha b hb=>?_⟩
   rw [Lw hb]
   exact fun e=>hnot (e▸ha)
  ·rw [←List.append_assoc] at hz'
   rcases Ly hz' with hz' | hz'
   ·exact h.dom z hz'
   ·rw [Lw hz'];exact ⟨h0,h1⟩
  ·rw [←List.append_assoc,List.mem_append,List.mem_singleton]
   by_cases e:g=u
   ·subst e;simp [hz]
   ·rw [if_neg e,h.ready g g0 g1]
    simp [e]
 ·rw [if_neg hz]
  refine ⟨h.nodup,h.dom,hmiss,fun g g0 g1=>?_,h.topo⟩
  by_cases e:g=u
  ·subst e
   rw [if_pos rfl]
   exact ⟨fun q=>absurd q hnot,fun q=>absurd q hz⟩
  ·rw [if_neg e]
   exact h.ready g g0 g1
theorem sn.done {n:Nat} {pr:Int→List Int} {T R all:List Int} {x:Int} {M:Int→Int} (hall:∀g:Int,0≤g→g < n→all.count g=(pr g).count x) (hx:x∉T) (h:sn n pr T x all R M):oz n pr (T++[x]) R M:=by
 refine ⟨h.nodup,h.dom,fun g h0 h1=>?_,h.ready,h.topo⟩
 have h2:=h.miss g h0 h1
 have h3:=rx pr hx g
 rw [hall g h0 h1] at h2
 omega
structure jp (n:Nat) (pr:Int→List Int) (T:List Int):Prop where
 nodup:T.Nodup
 dom:∀z∈T,0≤z∧z < n
 topo:zu pr T
 full:∀g:Int,0≤g→g < n→(∀p∈pr g,p∈T)→g∈T
theorem oz.fin {n:Nat} {pr:Int→List Int} {T:List Int} {M:Int→Int} (h:oz n pr T [] M):jp n pr T:=by
 have h1:=h.nodup
 have h2:=h.dom
 have h3:=h.ready
 rw [List.append_nil] at h1 h2 h3
 exact ⟨h1,h2,h.topo,fun g h0 h4 hp=>(h3 g h0 h4).2 (by rw [h.miss g h0 h4,ry.2 hp];rfl)⟩
theorem oz.start {n:Nat} {pr:Int→List Int} {M:Int→Int} (hM:∀g:Int,0≤g→g < n→M g=(pr g).length):oz n pr [] ((cQ n).filter fun g=>decide (M g=0)) M:=by
 refine ⟨by rw [Kq];exact (l6 n).filter _,fun z hz=>?_,fun g h0 h1=>?_,fun g h0 h1=>?_,fun i x h=>by simp at h⟩
 ·rw [Kq,List.mem_filter,fA] at hz
  exact hz.1
 ·rw [hM g h0 h1]
  unfold mG
  rw [List.filter_eq_self.2 (by simp)]
 ·rw [Kq,List.mem_filter,fA,decide_eq_true_eq]
  exact ⟨fun h=>h.2,fun h=>⟨⟨h0,h1⟩,h⟩⟩
def lq (n:Nat) (pr:Int→List Int):Prop:=∃r:Int→Nat,∀g:Int,0≤g→g < n→∀p∈pr g,r p < r g
theorem jp.all {n:Nat} {pr:Int→List Int} {T:List Int} (h:jp n pr T) (ha:lq n pr) (hp:∀g,∀p∈pr g,0≤p∧p < n):∀g:Int,0≤g→g < n→g∈T:=by
 obtain ⟨r,hr⟩:=ha
 have:∀(k:Nat) (g:Int),r g < k→0≤g→g < n→g∈T:=by
  intro k
  induction k with
  | zero=>intro g hk;exact absurd hk (Nat.not_lt_zero _)
  | succ k ih=>
   intro g hk h0 h1
   refine h.full g h0 h1 fun p hpp=>ih p ?_ (hp g p hpp).1 (hp g p hpp).2
   have:=hr g h0 h1 p hpp
   omega
 intro g h0 h1
 exact this (r g+1) g (by omega) h0 h1
theorem jp.len {n:Nat} {pr:Int→List Int} {T:List Int} (h:jp n pr T):T.length≤n:=fD h.nodup h.dom
theorem nT:∀(l T:List Int),l.Nodup→(∀x∈l,x∈T)→l.length≤T.length
 | [],_,_,_=>Nat.zero_le _
 | x::l,T,h,hs=>by
  have h':=List.nodup_cons.1 h
  have hx:=hs x (List.mem_cons_self ..)
  have:=nT l (T.erase x) h'.2 fun y hy=>(List.mem_erase_of_ne (fun e=>h'.1 (by rw [←e];exact hy))).2 (hs y (Ks _ hy))
  rw [List.length_erase_of_mem hx] at this
  have hpos:=List.length_pos_of_mem hx
  rw [List.length_cons]
  omega
theorem jp.len_all {n:Nat} {pr:Int→List Int} {T:List Int} (h:jp n pr T) (ha:∀g:Int,0≤g→g < n→g∈T):T.length=n:=by
 refine Nat.le_antisymm h.len ?_
 have:=nT (cQ n) T (l6 n) fun z hz=>by
  rw [fA] at hz
  exact ha z hz.1 hz.2
 rwa [f7] at this
theorem jp.all_of_len {n:Nat} {pr:Int→List Int} {T:List Int} (h:jp n pr T) (hl:T.length=n):∀g:Int,0≤g→g < n→g∈T:=by
 intro g h0 h1
 apply Classical.byContradiction
 intro hn
 have:=fD (l:=g::T) (n:=n) (List.nodup_cons.2 ⟨hn,h.nodup⟩) fun z hz=>by
  rcases List.mem_cons.1 hz with rfl | hz
  ·exact ⟨h0,h1⟩
  ·exact h.dom z hz
 rw [List.length_cons] at this
 omega
theorem jp.acyc {n:Nat} {pr:Int→List Int} {T:List Int} (h:jp n pr T) (ha:∀g:Int,0≤g→g < n→g∈T):lq n pr:=by
 refine ⟨fun g=>T.idxOf g,fun g h0 h1 p hp=>?_⟩
 have hg:=ha g h0 h1
 have hi:=List.idxOf_lt_length_iff.2 hg
 have h2:=h.topo (T.idxOf g) g (by rw [Kz hi,List.getElem_idxOf]) p hp
 obtain ⟨j,hj⟩:=List.mem_iff_getElem?.1 h2
 rw [List.getElem?_take] at hj
 split at hj
 ·rename_i hlt
  dsimp only
  obtain ⟨hjl,hje⟩:=Ko hj
  have:T.idxOf p≤j:=by
   rw [←hje]
   have:=h.nodup.idxOf_getElem j hjl
   omega
  omega
 ·cases hj
end Go.Proofs.YtpmdfoaadejmkaaGreatDoor
namespace Go.Proofs.YtpmdfoaadejmkaaGreatDoor
open Go.RowKit
attribute [local irreducible] AT bJ AX AO Av Kt bi dq DA cG
theorem Bt (f:aZ) (n:Int):bU Tryz.prog 288 [df f,aF n] (d6 (lN f n)):=by
 refine aN Tryz.func288 rfl Tryz.ntmps288 rfl fun B=>?_
 repeat' (first|refine L3 ?_|refine KG a4 HY ?_|refine bA ?_|fail)
 refine dG (t:=4) [] (lN f n=true) rfl (fun Q' K=>?_) ?_
 ·repeat' (first|refine L3 ?_|refine KG a4 HY ?_|refine KR HY ?_|refine KV KB ?_|refine KW KA (fun _=>?_) (fun _=>?_))
  all_goals exact K _ _ rfl rfl (by unfold lN;simp_all <;> omega)
 repeat' (first|refine L3 ?_|fail)
 refine KP HY ?_
 simp
instance (f:aZ) (n:Int):AD Tryz.prog 288 [df f,aF n] (d6 (lN f n)):=⟨Bt f n⟩
theorem AQ (f:aZ) (g:Int):bU Tryz.prog 264 [df f,aF g] (.fn 287 [.iptr (cJ f),.iptr [aF g]]):=by
 refine aN Tryz.func264 rfl Tryz.ntmps264 rfl fun B=>?_
 repeat' (first|refine L3 ?_|refine KG a4 HY ?_|refine bA ?_|fail)
 exact KQ KA
instance (f:aZ) (g:Int):AD Tryz.prog 264 [df f,aF g] (.fn 287 [.iptr (cJ f),.iptr [aF g]]):=⟨AQ f g⟩
set_option maxHeartbeats 1000000 in
theorem FP {α:Type} {σ0:cr} {l:Nat} (f:aZ) (g:Nat) (gl:bD) (hg:f.Glyphs[g]?=some gl) (E:α→AL) (J:Nat→α→Prop)
  (hy:∀i x p,J i x→gl.Parts[i]?=some p→lN f p.Glyph=true→AY Tryz.prog σ0 l [.agg (eR p)] (E x) fun c L=>c=d6 true∧∃x',J (i+1) x'∧L=E x')
  (hs:∀i x p,J i x→gl.Parts[i]?=some p→lN f p.Glyph=false→J (i+1) x) (x0:α) (h0:J 0 x0) (hlen:gl.Parts.length≤1000000):
  Gj Tryz.prog σ0 287 [.sc (.func (.yield l) #[] #[]),.iptr (cJ f),.iptr [aF g]] (E x0) fun _ L=>∃x,J gl.Parts.length x∧L=E x:=by
 refine wI Tryz.func287 rfl Tryz.ntmps287 rfl fun B hB=>?_
 have hgg:=c5 (c:=bT) hg
 repeat' (first|refine L3 ?_|refine ak ?_|refine KG a4 HY ?_|(apply aQ;first|refine aO a4 ?_|refine aG a4 ?_)|fail)
 refine aR [0,1,11,12] (α:=Nat×α) (fun y=>[(13,aF y.1)]) (fun y=>y.1≤gl.Parts.length∧J y.1 y.2) (fun y=>E y.2) (fun y=>gl.Parts.length - y.1) (0,x0) rfl ⟨rfl,trivial⟩ ⟨Nat.zero_le _,h0⟩ (fun _ _ h=>h) ?_
 rintro ⟨i,x⟩ ⟨hi,hj⟩
 dsimp only at hi hj ⊢
 try dsimp only [Kr,Kq,Kp,Lv]
 repeat' (first|refine L3 ?_|refine KG a4 HY ?_)
 refine aw rfl (fun h=>?_) (fun h=>?_)
 ·have hil:i < gl.Parts.length:=by have:=Ky h;simp at this;omega
  obtain ⟨p,hp⟩:∃z,gl.Parts[i]?=some z:=⟨_,Kz hil⟩
  have hpg:=c5 (c:=eR) hp
  repeat' (first|refine L3 ?_|refine ak ?_|refine KG a4 HY ?_|(apply aQ;first|refine aO a4 ?_|refine aG a4 ?_)|(apply aM;first|refine KL 5 a4 0 KF ?_|refine KL 5 a4 1 KF ?_|refine KL 5 a4 2 KF ?_|refine KH a4 0 KE ?_|refine KH a4 1 KE ?_|refine KH a4 2 KE ?_|refine KH a4 3 KE ?_|fail)|refine bq a4 fun _=>?_|(apply bF;refine bv ?_)|fail)
  by_cases hG:lN f p.Glyph=true
  ·rw [hG]
   repeat' (first|refine KG a4 HY ?_|refine KR HY ?_)
   refine qh (E x) [] hB (hy i x p hj hp hG) rfl rfl rfl (by rw [List.append_nil];exact Lz _) rfl rfl fun c L1 ⟨hc,x',hj',hL⟩=>?_
   subst hc;subst hL
   rw [List.append_nil]
   repeat' (first|refine L3 ?_|refine KG a4 HY ?_|refine KR HY ?_|(apply aU;refine aT ?_)|refine bE rfl ?_)
   exact aD (i+1,x') rfl ⟨by rw [Kv];rfl,trivial⟩ ⟨by dsimp only;omega,hj'⟩ (by dsimp only;omega) (fun _ _ h=>h)
  ·have hG':lN f p.Glyph=false:=by simpa using hG
   rw [hG']
   repeat' (first|refine L3 ?_|refine KG a4 HY ?_|refine KV KB ?_|(apply aU;refine aT ?_)|refine bE rfl ?_)
   exact aD (i+1,x) rfl ⟨by rw [Kv];rfl,trivial⟩ ⟨by dsimp only;omega,hs i x p hj hp hG'⟩ (by dsimp only;omega) (fun _ _ h=>h)
 ·have hil:i=gl.Parts.length:=by have:=Kx h;simp at this;omega
  subst hil
  repeat' (first|refine L3 ?_|fail)
  exact ca rfl ⟨x,hj,rfl⟩
end Go.Proofs.YtpmdfoaadejmkaaGreatDoor
