/-
  The program's rules: the first items that are seen, and the n-th.
-/
import Derived.Test.YtpbinloeemebkaaGreatM29
import Derived.Test.YtpbinloeemebkaaGreatM14
import Derived.Test.YtpbinloeemebkaaGreatM27
import Derived.Lib.Overlaps
namespace Go.Proofs.YtpbinloeemebkaaGreat
open Go.RowKit
attribute [local irreducible] AT bO AX AO Av Kt bo dU DA cT
theorem Bo {a:Nat×AB} {T R D Z:AL}:(a::(T++(R++(D++Z)))).Perm ((R++(a::(T++D)))++Z):=by
 have:=List.perm_append_comm_assoc (a::T) R (D++Z)
 simpa [List.append_assoc] using this
theorem Bp {T R D Z:AL}:(T++(R++(D++Z))).Perm ((R++(T++D))++Z):=by
 have:=List.perm_append_comm_assoc T R (D++Z)
 simpa [List.append_assoc] using this
theorem tY {run:List b6} {up:Bool} {a:Int} (h:j5 run up a) (hr:run.length≤1000000):oy run up a≤1000001:=by
 have h1:=h.1
 have h2:=h.2.1
 have h3:=h.2.2
 unfold oy
 cases up <;> simp at h2 h3 ⊢ <;> omega
theorem rL {ms:List Bool} {ig:Bool} {run:List b6} {up:Bool} {a:Int} (h:j5 run up a):(cq ms ig run up a).length≤oy run up a:=by
 have h1:=h.1
 have h2:=h.2.1
 have h3:=h.2.2
 unfold cq oy
 cases up
 ·simp only [Bool.false_eq_true,if_false]
  have key:∀i,(gM ms ig run i).length≤i:=fun i=>by
   induction i with
   | zero=>exact Nat.le_refl _
   | succ i ih=>
    rw [gM]
    split
    ·rw [List.length_cons];omega
    ·omega
  exact key _
 ·simp only [if_true]
  unfold dy
  refine Nat.le_trans (List.length_filter_le ..) ?_
  rw [List.length_range']
  simp at h2
  omega
section
variable {P:Program} {Q:Exit→Act→World→Prop} {nt:Nat} {D:List Deferred} {fr:c6} {B:Bs} {L:AL}
theorem tl {fn:Func} {Post:AV→AL→Prop} {cs:List AV} (dbs:List Nat) (L0 L':AL) (hD:D=x9 dbs) (hL:L.Perm (L0++dbs.map fun b=>(b,ec))) (hr:oH P fr L0 fn.results.toList cs) (hs:L'.Sublist L0) (h:Post (qU cs) L'):AX P .ret (bodyPostM Fence.wide 0 P fn (j4 B Post)) nt D fr B L:=by
 unfold AX
 intro σ a w ha hw
 show LeavesInM _ _ _ _ _ _ a.defers _ _
 rw [ha.defers,hD]
 refine jQ dbs L0 w (hw.perm hL) fun w' hw'=>?_
 obtain ⟨v,h1,h2⟩:=iY ha hw' hr
 exact ⟨v,h1,v,σ,qU cs,L',rfl,h2,hw'.sublist hs,h⟩
end
section
variable {wb:Nat} {f:aL} {v:AV} {q:Option fy} {run:List b6} (hq:di q run) (hr:run.length≤1000000) (ig up:Bool) (a0:Int) (ha0:j5 run up a0) (ha1:a0≤1000000)
include hq hr ha0 ha1
set_option maxHeartbeats 8000000 in
theorem rl (most:Nat) (hm:most≤1000000):AC Tryz.prog 129 [aH most,qp wb ig a0 (kv up)] (dZ wb f v q run) fun c L=>c= .imm 1 (cu ((cq (aW f) ig run up a0).take most))∧L=dZ wb f v q run:=by
 refine kB Tryz.func129 rfl Tryz.ntmps129 rfl fun B=>?_
 repeat' (first|refine ae ?_|refine a6 ?_|refine a7 ?_|refine a8 ?_|refine HF a1 F8 ?_|refine bC ?_|fail)
 refine ay rfl (fun h0=>?_) (fun h0=>?_)
 ·have h0:most=0:=by have:=Hy h0;omega
  subst h0
  repeat' (first|refine ae ?_|refine a6 ?_|refine au ?_|refine a7 ?_|refine aD ?_|refine a8 ?_|refine HF a1 F8 ?_)
  refine bk (cA (t:=4) (c':= .imm 1 []) rfl fun σ v h=>ke 1 h) ?_
  exact fG (cs:=[.imm 1 []]) [] _ rfl (by simp) ⟨rfl,trivial⟩ ⟨rfl,rfl⟩
 ·have hm0:most≠0:=by have:=Hx h0;omega
  have hPl:=rL (ms:=aW f) (ig:=ig) ha0
  have hlb:=tY ha0 hr
  clear h0
  repeat' (first|refine ae ?_|refine a6 ?_|refine ak ?_|refine ar ?_|refine a7 ?_|refine a8 ?_|refine HF a1 F8 ?_|refine bl a1 fun _=>?_|fail)
  rename_i lb
  refine bW (bE 0 (cs':=[.vec none 1 []]) rfl fun σ vs h=>of.vrs (a:=[fp]) (b:=[.vec none 1 []]) ⟨ea.vecN 1,trivial⟩ h) ?_
  refine gD (fr':=[(9,qp wb ig a0 (kv up)),(2,.iptr [aH most]),(5,gI lb)]) (L':=dZ wb f v q run++[(lb,.box [.vec none 1 []] 29)]) ⟨rfl,rfl,rfl,trivial⟩ (fun σ w h=>cZ.perm (L:=(lb,.box [.vec none 1 []] 29)::dZ wb f v q run) h (List.perm_append_comm (l₁:=[(lb,AB.box [.vec none 1 []] 29)]))) ?_
  refine gK (ps:=[10]) rfl fun σ0 l db rec hrec=>?_
  have hy:∀(i:Nat) (x:Nat×Option (Nat×Nat)) (p:Nat),(x.1=i∧i < most∧i≤(cq (aW f) ig run up a0).length)→(cq (aW f) ig run up a0)[i]?=some p→AY Tryz.prog σ0 l [aH (p:Nat)] (dZ wb f v q run++((lb,.box [.vec x.2 1 (cu ((cq (aW f) ig run up a0).take x.1))] 29)::(tok x.2 3 1 x.1++([(db,ec)]++[(l,eH rec)])))) fun c L=>(c=c9 true∧∃x':Nat×Option (Nat×Nat),(x'.1=i+1∧i+1 < most∧i+1≤(cq (aW f) ig run up a0).length)∧L=dZ wb f v q run++((lb,.box [.vec x'.2 1 (cu ((cq (aW f) ig run up a0).take x'.1))] 29)::(tok x'.2 3 1 x'.1++([(db,ec)]++[(l,eH rec)]))))∨(c=c9 false∧∃q',most≤(cq (aW f) ig run up a0).length∧L=(dZ wb f v q run++((lb,.box [.vec q' 1 (cu ((cq (aW f) ig run up a0).take most))] 29)::(tok q' 3 1 most++[(db,ec)])))++[(l,eH { ({ rec with state:= .busy }:Loop) with state:= .done,pending:=some (.exit 0) })]):=by
   rintro i ⟨k,qq⟩ p ⟨hk,hkm,hkl⟩ hip
   dsimp only at hk ⊢
   subst hk
   have hil:=(Hp hip).1
   have hnk:(cu ((cq (aW f) ig run up a0).take k)).length=k:=by rw [ip,List.length_take];omega
   have hst:cu ((cq (aW f) ig run up a0).take k)++[[aH (p:Nat)]]=cu ((cq (aW f) ig run up a0).take (k+1)):=by rw [List.take_add_one,hip,Option.toList_some,yD]
   have hE:dZ wb f v q run++((lb,AB.box [.vec qq 1 (cu ((cq (aW f) ig run up a0).take k))] 29)::(tok qq 3 1 k++([(db,ec)]++[(l,eH rec)])))=(dZ wb f v q run++((lb,AB.box [.vec qq 1 (cu ((cq (aW f) ig run up a0).take k))] 29)::(tok qq 3 1 k++[(db,ec)])))++[(l,eH rec)]:=by simp
   rw [hE]
   refine oo hrec rfl rfl fun B1 hB1=>?_
   repeat' (first|refine a6 ?_|refine a8 ?_|refine HF a1 F8 ?_)
   refine gL hrec.state ?_
   refine bW (aJ (Bo (Z:=[(l,_)])).symm) ?_
   generalize cu ((cq (aW f) ig run up a0).take k)=A at *
   generalize dZ wb f v q run=R at *
   repeat' (first|refine ae ?_|refine a6 ?_|refine ak ?_|refine HF a1 F8 ?_|(apply bh;first|refine HJ a1 0 HC ?_|refine HJ a1 1 HC ?_|refine HJ a1 2 HC ?_|refine HJ a1 3 HC ?_|refine HK a1 0 HC ?_|refine HK a1 1 HC ?_|refine HK a1 2 HC ?_|refine HM a1 1 HA (by assumption) rfl ?_|refine HM a1 0 HA (by assumption) rfl ?_|fail)|refine bI a1 ?_|fail)
   refine cj a1 _ rfl rfl rfl rfl (by rw [hnk];exact List.perm_middle.symm) (by rw [hnk];simp only [List.length_cons,List.length_nil];omega) (by rw [hnk];simp only [List.length_cons,List.length_nil];omega) rfl fun q'=>?_
   refine aV (aJ List.perm_middle) ?_
   rw [hst]
   have hnk2:(cu ((cq (aW f) ig run up a0).take (k+1))).length=k+1:=by rw [←hst,List.length_append,hnk];rfl
   generalize hA2:cu ((cq (aW f) ig run up a0).take (k+1))=A2 at *
   repeat' (first|refine ae ?_|refine a6 ?_|refine a7 ?_|refine a8 ?_|refine HF a1 F8 ?_|(apply bh;first|refine HJ a1 0 HC ?_|refine HJ a1 1 HC ?_|refine HJ a1 2 HC ?_|refine HJ a1 3 HC ?_|refine HK a1 0 HC ?_|refine HK a1 1 HC ?_|refine HK a1 2 HC ?_|refine HM a1 1 HA (by assumption) rfl ?_|refine HM a1 0 HA (by assumption) rfl ?_|fail)|(apply aQ;first|refine HG a1 0 HD ?_|refine HG a1 1 HD ?_|refine HG a1 2 HD ?_|refine HG a1 3 HD ?_|fail))
   refine ay rfl (fun h=>?_) (fun h=>?_)
   ·have hkm2:k+1=most:=by have:=Hy h;omega
    repeat' (first|refine aM ?_|refine bZ rfl ?_)
    refine bk (aJ (Bo (Z:=[(l,_)]))) (to (.inr ⟨rfl,q',by omega,?_⟩))
    rw [←hkm2,hA2,hnk2]
    rfl
   ·have hkm2:k+1≠most:=by have:=Hx h;omega
    repeat' (first|refine ar ?_|refine aI ?_)
    refine bk (aJ (Bo (Z:=[(l,_)]))) (kF (.inl ⟨rfl,(k+1,q'),⟨rfl,by omega,by omega⟩,?_⟩))
    rw [jq hrec.state hrec.pending]
    dsimp only
    rw [hA2,hnk2]
    simp
    rfl
  have hit:=xo (σ0:=σ0) (l:=l) (wb:=wb) (f:=f) (v:=v) hq hr ig up a0 ha0 ha1 (fun x:Nat×Option (Nat×Nat)=>(lb,.box [.vec x.2 1 (cu ((cq (aW f) ig run up a0).take x.1))] 29)::(tok x.2 3 1 x.1++([(db,ec)]++[(l,eH rec)]))) (fun i x=>x.1=i∧i < most∧i≤(cq (aW f) ig run up a0).length) _ hy (0,none) ⟨rfl,by omega,Nat.zero_le _⟩
  refine ⟨_,hit.perm (List.Perm.of_eq (by simp [tok];rfl)),?_⟩
  rintro c L' (⟨⟨k,qq⟩,⟨hk,hkm,hkl⟩,hL⟩ | ⟨q',hml,hL⟩)
  ·dsimp only at hk hL
   subst hk
   have ht:(cq (aW f) ig run up a0).take most=(cq (aW f) ig run up a0).take (cq (aW f) ig run up a0).length:=by
    rw [List.take_length,List.take_of_length_le (by omega)]
   subst hL
   refine ⟨rec,dZ wb f v q run++((lb,.box [.vec qq 1 (cu ((cq (aW f) ig run up a0).take (cq (aW f) ig run up a0).length))] 29)::(tok qq 3 1 (cq (aW f) ig run up a0).length++[(db,ec)])),List.Perm.of_eq (by simp),(by rw [hrec.state];intro h;cases h),?_⟩
   rw [hrec.pending]
   show AX _ _ _ _ _ _ _ _
   refine bk (aJ (L':=(lb,.box [.vec qq 1 (cu ((cq (aW f) ig run up a0).take (cq (aW f) ig run up a0).length))] 29)::(tok qq 3 1 (cq (aW f) ig run up a0).length++(dZ wb f v q run++[(db,ec)]))) ?_) ?_
   ·have:=(Bo (a:=(lb,AB.box [.vec qq 1 (cu ((cq (aW f) ig run up a0).take (cq (aW f) ig run up a0).length))] 29)) (T:=tok qq 3 1 (cq (aW f) ig run up a0).length) (R:=dZ wb f v q run) (D:=[(db,ec)]) (Z:=[])).symm
    simpa using this
   rw [ht]
   generalize cu ((cq (aW f) ig run up a0).take (cq (aW f) ig run up a0).length)=A at *
   repeat' (first|refine ae ?_|refine a6 ?_|refine au ?_|refine a7 ?_|refine aI ?_|refine a8 ?_|refine HF a1 F8 ?_|(apply bh;first|refine HJ a1 0 HC ?_|refine HJ a1 1 HC ?_|refine HJ a1 2 HC ?_|refine HJ a1 3 HC ?_|refine HK a1 0 HC ?_|refine HK a1 1 HC ?_|refine HK a1 2 HC ?_|refine HM a1 1 HA (by assumption) rfl ?_|refine HM a1 0 HA (by assumption) rfl ?_|fail)|fail)
   refine bk (cA (t:=4) (c':= .imm 1 A) rfl fun σ v h=>VR.im h) ?_
   refine eY (L':=dZ wb f v q run++[(db,ec)]) ((List.sublist_append_right _ _).cons _) ?_
   exact fG (cs:=[.imm 1 A]) [db] (dZ wb f v q run) rfl (Ho _) ⟨rfl,trivial⟩ ⟨rfl,rfl⟩
  ·subst hL
   refine ⟨_,_,Ho _,(by intro h;cases h),?_⟩
   show AX _ _ _ _ _ _ _ _
   refine bk (aJ (L':=(lb,.box [.vec q' 1 (cu ((cq (aW f) ig run up a0).take most))] 29)::(tok q' 3 1 most++(dZ wb f v q run++[(db,ec)]))) ?_) ?_
   ·have:=(Bo (a:=(lb,AB.box [.vec q' 1 (cu ((cq (aW f) ig run up a0).take most))] 29)) (T:=tok q' 3 1 most) (R:=dZ wb f v q run) (D:=[(db,ec)]) (Z:=[])).symm
    simpa using this
   generalize cu ((cq (aW f) ig run up a0).take most)=A at *
   repeat' (first|refine ae ?_|refine a6 ?_|refine au ?_|refine a7 ?_|refine aw ?_|refine a8 ?_|refine HF a1 F8 ?_|(apply bh;first|refine HJ a1 0 HC ?_|refine HJ a1 1 HC ?_|refine HJ a1 2 HC ?_|refine HJ a1 3 HC ?_|refine HK a1 0 HC ?_|refine HK a1 1 HC ?_|refine HK a1 2 HC ?_|refine HM a1 1 HA (by assumption) rfl ?_|refine HM a1 0 HA (by assumption) rfl ?_|fail)|fail)
   refine bk (cA (t:=4) (c':= .imm 1 A) rfl fun σ v h=>VR.im h) ?_
   refine eY (L':=dZ wb f v q run++[(db,ec)]) ((List.sublist_append_right _ _).cons _) ?_
   exact fG (cs:=[.imm 1 A]) [db] (dZ wb f v q run) rfl (Ho _) ⟨rfl,trivial⟩ ⟨rfl,rfl⟩
set_option maxHeartbeats 8000000 in
theorem D6 (n:Nat) (hn:n≤1000000) (i:Nat) (hi:a0=(i:Int)) (hup:up=true):AC Tryz.prog 214 [gI wb,c9 ig,aH i,aH n] (dZ wb f v q run) fun c L=>c=(match wc (aW f) ig run i (n:Int) with | some j=> .tup [aH j,c9 true] | none=> .tup [aH 0,c9 false])∧L=dZ wb f v q run:=by
 subst hi;subst hup
 have hnv:wc (aW f) ig run i (n:Int)=(cq (aW f) ig run true (i:Int))[n]?:=by
  unfold wc
  rw [if_pos (by omega),uz,Int.toNat_natCast]
 rw [hnv]
 refine kB Tryz.func214 rfl Tryz.ntmps214 rfl fun B=>?_
 repeat' (first|refine ae ?_|refine a6 ?_|refine ak ?_|refine a7 ?_|refine a8 ?_|refine HF a1 F8 ?_|refine rF (d:=7) fun _=>?_|refine bl a1 fun _=>?_|(apply bD;refine bf ?_)|fail)
 rename_i b7 b8 b9
 have hPl:=rL (ms:=aW f) (ig:=ig) ha0
 have hlb:=tY ha0 hr
 refine gD (fr':=[(14,qp wb ig i (kv true)),(7,gI b7),(8,gI b8),(9,gI b9)]) (L':=dZ wb f v q run++[(b9,.box [c9 false] 4),(b8,.box [aH 0] 3),(b7,.box [aH n] 3)]) ⟨rfl,rfl,rfl,rfl,trivial⟩ (fun σ w h=>cZ.perm h (List.perm_append_comm (l₁:=[_,_,_]))) ?_
 refine gK (ps:=[15]) rfl fun σ0 l db rec hrec=>?_
 have hy:∀(k:Nat) (x:Nat) (p:Nat),(x=k∧k≤n)→(cq (aW f) ig run true (i:Int))[k]?=some p→AY Tryz.prog σ0 l [aH (p:Nat)] (dZ wb f v q run++([(b9,.box [c9 false] 4),(b8,.box [aH 0] 3),(b7,.box [aH ((n:Int) - x)] 3)]++([(db,ec)]++[(l,eH rec)]))) fun c L=>(c=c9 true∧∃x':Nat,(x'=k+1∧k+1≤n)∧L=dZ wb f v q run++([(b9,.box [c9 false] 4),(b8,.box [aH 0] 3),(b7,.box [aH ((n:Int) - x')] 3)]++([(db,ec)]++[(l,eH rec)])))∨(c=c9 false∧∃p:Nat,(cq (aW f) ig run true (i:Int))[n]?=some p∧L=(dZ wb f v q run++([(b9,.box [c9 true] 4),(b8,.box [aH p] 3),(b7,.box [aH ((n:Int) - n)] 3)]++[(db,ec)]))++[(l,eH { ({ rec with state:= .busy }:Loop) with state:= .done,pending:=some .ret })]):=by
  rintro k x p ⟨rfl,hkn⟩ hip
  have hE:dZ wb f v q run++([(b9,.box [c9 false] 4),(b8,.box [aH 0] 3),(b7,.box [aH ((n:Int) - x)] 3)]++([(db,ec)]++[(l,eH rec)]))=(dZ wb f v q run++([(b9,.box [c9 false] 4),(b8,.box [aH 0] 3),(b7,.box [aH ((n:Int) - x)] 3)]++[(db,ec)]))++[(l,eH rec)]:=by simp
  rw [hE]
  refine oo hrec rfl rfl fun B1 hB1=>?_
  repeat' (first|refine a6 ?_|refine a8 ?_|refine HF a1 F8 ?_)
  refine gL hrec.state ?_
  refine bW (aJ (Bp (Z:=[(l,_)])).symm) ?_
  generalize dZ wb f v q run=R at *
  repeat' (first|refine ae ?_|refine a6 ?_|refine ak ?_|refine a7 ?_|refine a8 ?_|refine HF a1 F8 ?_|(apply bh;first|refine HJ a1 0 HC ?_|refine HJ a1 1 HC ?_|refine HJ a1 2 HC ?_|refine HJ a1 3 HC ?_|refine HK a1 0 HC ?_|refine HK a1 1 HC ?_|refine HK a1 2 HC ?_|refine HM a1 1 HA (by assumption) rfl ?_|refine HM a1 0 HA (by assumption) rfl ?_|fail)|fail)
  refine ay rfl (fun h=>?_) (fun h=>?_)
  ·have hkn2:x=n:=by have:=Hy h;omega
   subst hkn2
   repeat' (first|refine ae ?_|refine a6 ?_|refine au ?_|refine a7 ?_|refine aD ?_|refine aO ?_|refine a8 ?_|refine HF a1 F8 ?_|(apply aQ;first|refine HG a1 0 HD ?_|refine HG a1 1 HD ?_|refine HG a1 2 HD ?_|refine HG a1 3 HD ?_|fail))
   exact bk (aJ (Bp (T:=[_,_,_]) (Z:=[(l,_)]))) (m4 (.inr ⟨rfl,p,hip,rfl⟩))
  ·have hkn2:x≠n:=by have:=Hx h;omega
   repeat' (first|refine a6 ?_|refine ar ?_|refine a7 ?_|refine aI ?_|refine a8 ?_|(apply bh;first|refine HJ a1 0 HC ?_|refine HJ a1 1 HC ?_|refine HJ a1 2 HC ?_|refine HJ a1 3 HC ?_|refine HK a1 0 HC ?_|refine HK a1 1 HC ?_|refine HK a1 2 HC ?_|refine HM a1 1 HA (by assumption) rfl ?_|refine HM a1 0 HA (by assumption) rfl ?_|fail)|(apply aZ;refine aY ?_)|(apply aQ;first|refine HG a1 0 HD ?_|refine HG a1 1 HD ?_|refine HG a1 2 HD ?_|refine HG a1 3 HD ?_|fail))
   refine bk (aJ (Bp (T:=[_,_,_]) (Z:=[(l,_)]))) (kF (.inl ⟨rfl,x+1,⟨rfl,by omega⟩,?_⟩))
   rw [jq hrec.state hrec.pending,show ((x+1:Nat):Int)=(x:Int)+1 from rfl,show (n:Int) - ((x:Int)+1)=(n:Int) - x - 1 by omega]
   simp
   rfl
 have hit:=xo (σ0:=σ0) (l:=l) (wb:=wb) (f:=f) (v:=v) hq hr ig true (i:Int) ha0 ha1 (fun x:Nat=>[(b9,.box [c9 false] 4),(b8,.box [aH 0] 3),(b7,.box [aH ((n:Int) - x)] 3)]++([(db,ec)]++[(l,eH rec)])) (fun k x=>x=k∧k≤n) _ hy 0 ⟨rfl,Nat.zero_le _⟩
 refine ⟨_,hit.perm (List.Perm.of_eq (by simp)),?_⟩
 rintro c L' (⟨x,⟨hx,hxn⟩,hL⟩ | ⟨p,hp,hL⟩)
 ·subst hL
  refine ⟨rec,dZ wb f v q run++([(b9,.box [c9 false] 4),(b8,.box [aH 0] 3),(b7,.box [aH ((n:Int) - x)] 3)]++[(db,ec)]),List.Perm.of_eq (by simp),(by rw [hrec.state];intro h;cases h),?_⟩
  rw [hrec.pending,List.getElem?_eq_none hxn]
  show AX _ _ _ _ _ _ _ _
  refine bk (aJ (L':=[(b9,.box [c9 false] 4),(b8,.box [aH 0] 3),(b7,.box [aH ((n:Int) - x)] 3)]++(dZ wb f v q run++[(db,ec)])) ?_) ?_
  ·have:=(Bp (T:=[(b9,AB.box [c9 false] 4),(b8,.box [aH 0] 3),(b7,.box [aH ((n:Int) - x)] 3)]) (R:=dZ wb f v q run) (D:=[(db,ec)]) (Z:=[])).symm
   simpa using this
  repeat' (first|refine ae ?_|refine a6 ?_|refine au ?_|refine a7 ?_|refine aI ?_|refine a8 ?_|(apply aQ;first|refine HG a1 0 HD ?_|refine HG a1 1 HD ?_|refine HG a1 2 HD ?_|refine HG a1 3 HD ?_|fail))
  exact tl (cs:=[aH 0,c9 false]) [db] ([(b9,.box [c9 false] 4),(b8,.box [aH 0] 3),(b7,.box [aH ((n:Int) - x)] 3)]++dZ wb f v q run) (dZ wb f v q run) rfl (Ho _) ⟨⟨b8,1,_,_,rfl,rfl,.inl ⟨cz a1 rfl,rfl⟩⟩,⟨b9,0,_,_,rfl,rfl,.inl ⟨cz a1 rfl,rfl⟩⟩,trivial⟩ (List.sublist_append_right ..) ⟨rfl,rfl⟩
 ·subst hL
  rw [hp]
  refine ⟨_,_,Ho _,(by intro h;cases h),?_⟩
  show AX _ _ _ _ _ _ _ _
  refine bk (aJ (L':=[(b9,.box [c9 true] 4),(b8,.box [aH p] 3),(b7,.box [aH ((n:Int) - n)] 3)]++(dZ wb f v q run++[(db,ec)])) ?_) ?_
  ·have:=(Bp (T:=[(b9,AB.box [c9 true] 4),(b8,.box [aH p] 3),(b7,.box [aH ((n:Int) - n)] 3)]) (R:=dZ wb f v q run) (D:=[(db,ec)]) (Z:=[])).symm
   simpa using this
  repeat' (first|refine aD ?_|refine aO ?_)
  exact tl (cs:=[aH p,c9 true]) [db] ([(b9,.box [c9 true] 4),(b8,.box [aH p] 3),(b7,.box [aH ((n:Int) - n)] 3)]++dZ wb f v q run) (dZ wb f v q run) rfl (Ho _) ⟨⟨b8,1,_,_,rfl,rfl,.inl ⟨cz a1 rfl,rfl⟩⟩,⟨b9,0,_,_,rfl,rfl,.inl ⟨cz a1 rfl,rfl⟩⟩,trivial⟩ (List.sublist_append_right ..) ⟨rfl,rfl⟩
end
end Go.Proofs.YtpbinloeemebkaaGreat
namespace Go.Proofs.YtpbinloeemebkaaGreat
open Go.RowKit
attribute [local irreducible] AT bO AX AO Av Kt bo dU DA cT
section
variable {wb:Nat} {f:aL} {v:AV}
set_option maxHeartbeats 8000000 in
theorem nT (l:aP) (q:Option fy) (run:List b6) (hq:di q run) (sets:List (List Int)) (hs:r5 sets) (ps:List Nat) (hl:sets.length≤ps.length) (hp:∀p∈ps,p < run.length):
  AC Tryz.prog 211 [gI wb,.iptr (oP l),.imm 1 (bz sets),.imm 1 (cu ps)] (dZ wb f v q run) fun c L=>c=c9 (fits sets (ps.map (dH run)))∧L=dZ wb f v q run:=by
 refine aT Tryz.func211 rfl Tryz.ntmps211 rfl fun B=>?_
 have hil:=d3 sets
 have hfew:=hs.few
 repeat' (first|refine ae ?_|refine a6 ?_|refine ak ?_|refine a7 ?_|refine a8 ?_|refine HF a1 F8 ?_)
 refine aR [0,1,3,11,12] (α:=Nat) (fun k=>[(13,aH k)]) (fun k=>k≤sets.length∧fits sets (ps.map (dH run))=fits (sets.drop k) ((ps.drop k).map (dH run))) (fun _=>dZ wb f v q run) (fun k=>sets.length - k) 0 rfl ⟨rfl,trivial⟩ ⟨Nat.zero_le _,rfl⟩ (fun _ _ h=>h) ?_
 rintro k ⟨hk,hv⟩
 try dsimp only [Hs,Hr,Hq,Hl]
 repeat' (first|refine ae ?_|refine a6 ?_|refine a7 ?_|refine a8 ?_|refine HF a1 F8 ?_)
 refine ay rfl (fun h=>?_) (fun h=>?_)
 ·have hk2:k < sets.length:=by have:=Hy h;omega
  obtain ⟨s,hsg⟩:∃s,sets[k]?=some s:=⟨_,Hz hk2⟩
  obtain ⟨p,hpg⟩:∃p,ps[k]?=some p:=⟨_,Hz (by omega)⟩
  have hpl:=hp p (Hw hpg)
  obtain ⟨m,rfl⟩:=hq.lt hpl
  obtain ⟨z,hz⟩:∃z,run[p]?=some z:=⟨_,Hz hpl⟩
  have hsgg:=lE hsg
  have hpgg:(cu ps)[k]?=some [aH p]:=by unfold cu;exact bG (by rw [List.getElem?_map,hpg];rfl)
  have hf0:=mG (j:=0) m.junk hz rfl
  have hss:=hs.set s (Hw hsg)
  have hfn:zu Tryz.prog Au [.imm 1 (aS s),aH z.Glyph] [] fun c _=>c=c9 (s.contains z.Glyph):=zu.fn0 (yj s hss.1 hss.2 z.Glyph)
  rw [sa hsg,sa hpg,Hq,fits,vI hz] at hv
  clear h
  repeat' (first|refine ae ?_|refine a6 ?_|refine ak ?_|refine ar ?_|refine a7 ?_|refine a8 ?_|refine HF a1 F8 ?_|(apply aX;first|refine aU a1 ?_|refine aK a1 ?_)|fail)
  refine bj 18 [(0,.v),(1,.v),(2,.v),(3,.v),(4,.v),(5,.v),(6,.v),(7,.v),(8,.l),(9,.v),(10,.v),(11,.v),(12,.v),(13,.v),(14,.v),(15,.l),(16,.e),(17,.v)] none ?_ trivial rfl (by kernel_rfl) (by kernel_rfl) (by kernel_rfl) mixed (by kernel_rfl) rfl
  repeat' (first|refine aE ?_|refine ba a1 ?_|(apply co;refine cJ a1 ?_)|refine bX a1 0 rfl rfl rfl rfl (by first|trivial|rfl) ?_)
  refine dx a1 rfl rfl rfl ⟨by omega,by omega⟩ trivial ?_
  repeat' (first|refine aE ?_|refine ba a1 ?_|fail)
  refine bX a1 1 rfl rfl rfl hf0 trivial ?_
  repeat' (first|refine aE ?_|fail)
  refine Cx [] _ hfn rfl rfl (Ho _) trivial fun c L1 hc=>?_
  subst hc
  repeat' (first|refine aE ?_|refine ba a1 ?_|fail)
  refine HR [0,1,3,11,12,13,35] F8 ?_
  refine aV (cb (L':=dZ wb f v (some m) run) (List.sublist_append_right ..)) ?_
  repeat' (first|refine a7 ?_|refine a8 ?_)
  refine ay rfl (fun h=>?_) (fun h=>?_)
  ·have hc:s.contains z.Glyph=false:=by simpa using h
   rw [hc,Bool.false_and] at hv
   repeat' (first|refine ae ?_|refine a6 ?_|refine au ?_|refine a7 ?_|refine aD ?_|refine aO ?_|refine bw ?_|refine a8 ?_|refine HF a1 F8 ?_)
   exact HN F8 ⟨by rw [hv],rfl⟩
  ·have hc:s.contains z.Glyph=true:=by simpa using h
   rw [hc,Bool.true_and] at hv
   repeat' (first|refine a6 ?_|refine ar ?_|refine a7 ?_|refine aI ?_|refine a8 ?_|refine HF a1 F8 ?_|(apply aZ;refine aY ?_)|fail)
   exact aF (k+1) rfl ⟨by rw [Hv];rfl,trivial⟩ ⟨hk2,hv⟩ (by omega) (fun _ _ h=>h)
 ·have hk2:k=sets.length:=by have:=Hx h;omega
  subst hk2
  rw [List.drop_length,fits] at hv
  repeat' (first|refine ae ?_|refine a6 ?_|refine au ?_|refine aM ?_|refine a7 ?_|refine av ?_|refine aw ?_|refine aB ?_|refine a8 ?_|refine HF a1 F8 ?_)
  exact HN F8 ⟨by rw [hv],rfl⟩
set_option maxHeartbeats 8000000 in
theorem xN (l:aP) (q:Option fy) (run:List b6) (hq:di q run) (hr:run.length≤1000000) (i:Nat) (hi:i < run.length) (forms:List Int):
  AC Tryz.prog 128 [gI wb,.iptr (oP l),aH i,.imm 1 (aS forms)] (dZ wb f v q run) fun c L=>c=c9 (m5 (aW f) l.Ignore run i forms)∧L=dZ wb f v q run:=by
 refine aT Tryz.func128 rfl Tryz.ntmps128 rfl fun B=>?_
 have hfl:=aN forms
 obtain ⟨m,rfl⟩:=hq.lt hi
 obtain ⟨z,hz⟩:∃z,run[i]?=some z:=⟨_,Hz hi⟩
 have hf0:=mG (j:=0) m.junk hz rfl
 have hf2:=mG (j:=2) m.junk hz rfl
 have him:=ry wb f (dC (some m) run) v z.Glyph
 have hb:m5 (aW f) l.Ignore run i forms=(l7 (aW f) l.Ignore z && (forms.isEmpty || forms.contains z.Form)):=by
  unfold m5
  rw [hz]
 have he:decide ((forms.length:Int)=0)=forms.isEmpty:=by cases forms <;> simp <;> omega
 rw [hb]
 obtain ⟨kd,ig,rs⟩:=l
 dsimp only
 repeat' (first|refine ae ?_|refine a6 ?_|refine a7 ?_|refine a8 ?_|refine HF a1 F8 ?_|refine HO F8 ?_|(apply bh;first|refine HJ a1 0 HC ?_|refine HJ a1 1 HC ?_|refine HJ a1 2 HC ?_|refine HJ a1 3 HC ?_|refine HK a1 0 HC ?_|refine HK a1 1 HC ?_|refine HK a1 2 HC ?_|refine HM a1 1 HA (by assumption) rfl ?_|refine HM a1 0 HA (by assumption) rfl ?_|fail)|fail)
 refine cN [0,2,3] (l7 (aW f) ig z=false) rfl (fun Q' K=>?_) (fun hC=>?_) (fun hC=>?_)
 ·rw [decide_eq_false (show ¬(i:Int) < 0 by omega)]
  repeat' (first|fail)
  rw [decide_eq_false (show ¬(run.length:Int)≤(i:Int) by omega)]
  repeat' (first|refine HF a1 F8 ?_|refine HO F8 ?_)
  cases ig
  ·repeat' (first|refine a8 ?_|refine HF a1 F8 ?_|refine HO F8 ?_|refine HS HB ?_)
   exact K _ _ rfl rfl (by simp [l7])
  ·repeat' (first|refine HF a1 F8 ?_|refine HO F8 ?_|(apply bh;first|refine HJ a1 0 HC ?_|refine HJ a1 1 HC ?_|refine HJ a1 2 HC ?_|refine HJ a1 3 HC ?_|refine HK a1 0 HC ?_|refine HK a1 1 HC ?_|refine HK a1 2 HC ?_|refine HM a1 1 HA (by assumption) rfl ?_|refine HM a1 0 HA (by assumption) rfl ?_|fail)|(apply aX;first|refine aU a1 ?_|refine aK a1 ?_)|fail)
   refine bb [zr wb f (dC (some m) run) v] _ him rfl rfl (Ho _) rfl fun c L1 ⟨hc,hL⟩=>?_
   subst hc;subst hL
   repeat' (first|refine a8 ?_|refine HF a1 F8 ?_|refine HO F8 ?_)
   exact K _ _ rfl rfl (by simp [l7])
 ·rw [hC]
  repeat' (first|refine ae ?_|refine a6 ?_|refine au ?_|refine a7 ?_|refine aD ?_|refine a8 ?_|refine HF a1 F8 ?_)
  exact HN F8 ⟨rfl,rfl⟩
 ·have hC:l7 (aW f) ig z=true:=by simpa using hC
  rw [hC,Bool.true_and]
  repeat' (first|refine ae ?_|refine a6 ?_|refine ar ?_|refine a7 ?_|refine HF a1 F8 ?_)
  rw [hfl,he]
  generalize forms.isEmpty=b2
  cases b2
  ·repeat' (first|refine au ?_|refine a7 ?_|refine a8 ?_|refine HF a1 F8 ?_|refine HO F8 ?_|(apply bh;first|refine HJ a1 0 HC ?_|refine HJ a1 1 HC ?_|refine HJ a1 2 HC ?_|refine HJ a1 3 HC ?_|refine HK a1 0 HC ?_|refine HK a1 1 HC ?_|refine HK a1 2 HC ?_|refine HM a1 1 HA (by assumption) rfl ?_|refine HM a1 0 HA (by assumption) rfl ?_|fail)|(apply aX;first|refine aU a1 ?_|refine aK a1 ?_)|(apply bD;refine bf ?_)|fail)
   exact HN F8 ⟨rfl,rfl⟩
  ·repeat' (first|refine au ?_|refine a7 ?_|refine a8 ?_|refine HF a1 F8 ?_|refine HS HB ?_)
   exact HN F8 ⟨rfl,rfl⟩
end
end Go.Proofs.YtpbinloeemebkaaGreat
namespace Go.Proofs.YtpbinloeemebkaaGreat
open Go.RowKit
attribute [local irreducible] AT bO AX AO Av Kt bo dU DA cT
section
variable {wb:Nat} {f:aL} {v:AV}
set_option maxHeartbeats 8000000 in
theorem u6 (l:aP) (r:bv) (hrr:pb r) (q:Option fy) (run:List b6) (hq:di q run) (hr:run.length≤1000000) (i:Nat) (hi:i < run.length) (M M':Nat) (hM:r.In.length+r.Ahead.length≤M) (hM':r.Back.length≤M'):
  AC Tryz.prog 131 [gI wb,.iptr (oP l),.agg (bJ (kr r)),.imm 1 (cu ((dy (aW f) l.Ignore run i).take M)),.imm 1 (cu ((gM (aW f) l.Ignore run i).take M'))] (dZ wb f v q run) fun c L=>c=c9 (eg (aW f) l.Ignore run i r)∧L=dZ wb f v q run:=by
 refine aT Tryz.func131 rfl Tryz.ntmps131 rfl fun B=>?_
 obtain ⟨m,rfl⟩:=hq.lt hi
 have c1:(bz (kr r).Back).length=r.Back.length:=d3 r.Back
 have c2:(bz (kr r).In).length=r.In.length:=d3 r.In
 have c3:(bz (kr r).Ahead).length=r.Ahead.length:=d3 r.Ahead
 have b1:=hrr.back.few
 have b2:=hrr.in_.few
 have b3:=hrr.ahead.few
 have hfl:∀p∈(dy (aW f) l.Ignore run i).take M,p < run.length:=fun p hp=>(pJ p (List.mem_of_mem_take hp)).2.1
 have hbl:∀p∈(gM (aW f) l.Ignore run i).take M',p < run.length:=fun p hp=>by have:=(pt p (List.mem_of_mem_take hp)).1;omega
 have hval:eg (aW f) l.Ignore run i r=(!r.In.isEmpty && ((fits r.In (((dy (aW f) l.Ignore run i).take M).map (dH run)) && fits r.Ahead ((((dy (aW f) l.Ignore run i).take M).drop r.In.length).map (dH run))) && fits r.Back (((gM (aW f) l.Ignore run i).take M').map (dH run)))):=by
  unfold eg
  rw [←nJ (ss:=r.In++r.Ahead) (k:=M) (by rw [List.length_append];exact hM),←nJ (ss:=r.Back) (k:=M') hM',←List.map_take,←List.map_take,tK,List.map_drop]
 have hn1:=ip ((dy (aW f) l.Ignore run i).take M)
 have hn2:=ip ((gM (aW f) l.Ignore run i).take M')
 generalize (dy (aW f) l.Ignore run i).take M=F at *
 generalize (gM (aW f) l.Ignore run i).take M'=G at *
 rw [hval]
 repeat' (first|refine ae ?_|refine a6 ?_|refine a7 ?_|refine a8 ?_|refine HF a1 F8 ?_|refine bC ?_|fail)
 refine cN [0,1,3,4,7,11] (r.In.length=0∨F.length < r.In.length+r.Ahead.length∨G.length < r.Back.length) rfl (fun Q' K=>?_) (fun hC=>?_) (fun hC=>?_)
 ·repeat' (first|refine a8 ?_|refine HF a1 F8 ?_|refine HO F8 ?_|refine HS HB ?_|(apply aZ;refine aY ?_)|refine be rfl rfl rfl (fun _=>?_) (fun _=>?_))
  all_goals exact K _ _ rfl rfl (by simp_all <;> omega)
 ·have hno:(!r.In.isEmpty && ((fits r.In (F.map (dH run)) && fits r.Ahead ((F.drop r.In.length).map (dH run))) && fits r.Back (G.map (dH run))))=false:=by
   rcases hC with h | h | h
   ·have:r.In=[]:=List.length_eq_zero_iff.1 h
    rw [this]
    rfl
   ·by_cases h2:F.length < r.In.length
    ·rw [jK (a:=r.In) (by rw [Hu];exact h2)]
     simp
    ·rw [jK (a:=r.Ahead) (by rw [Hu,List.length_drop];omega)]
     simp
   ·rw [jK (a:=r.Back) (by rw [Hu];exact h)]
    simp
  rw [hno]
  repeat' (first|refine ae ?_|refine a6 ?_|refine au ?_|refine a7 ?_|refine aD ?_|refine a8 ?_|refine HF a1 F8 ?_)
  exact HN F8 ⟨rfl,rfl⟩
 ·have hne:r.In.isEmpty=false:=by
   cases h:r.In with
   | nil=>rw [h] at hC;simp at hC
   | cons a b=>rfl
  have s1:=nT (wb:=wb) (f:=f) (v:=v) l (some m) run hq r.In hrr.in_ F (by omega) hfl
  have s2:=nT (wb:=wb) (f:=f) (v:=v) l (some m) run hq r.Ahead hrr.ahead (F.drop r.In.length) (by rw [List.length_drop];omega) (fun p hp=>hfl p (List.mem_of_mem_drop hp))
  have s3:=nT (wb:=wb) (f:=f) (v:=v) l (some m) run hq r.Back hrr.back G (by omega) hbl
  have hdr:(cu F).drop r.In.length=cu (F.drop r.In.length):=by unfold cu aS;rw [List.map_drop,List.map_drop]
  rw [hne]
  generalize fits r.In (F.map (dH run))=x1 at *
  generalize fits r.Ahead ((F.drop r.In.length).map (dH run))=x2 at *
  generalize fits r.Back (G.map (dH run))=x3 at *
  repeat' (first|refine ae ?_|refine ar ?_|refine a7 ?_)
  refine bj 22 [(0,.v),(1,.v),(2,.v),(3,.v),(4,.v),(5,.e),(6,.v),(7,.v),(8,.v),(9,.v),(10,.v),(11,.v),(12,.v),(13,.v),(14,.e),(15,.v),(16,.v),(17,.v),(18,.v),(19,.v),(20,.v),(21,.v)] none ?_ trivial rfl (by kernel_rfl) (by kernel_rfl) (by kernel_rfl) mixed (by kernel_rfl) rfl
  repeat' (first|refine aE ?_|refine ba a1 ?_|fail)
  refine fj (dZ wb f v (some m) run) [] s1 rfl rfl (bB rfl) trivial fun c L1 ⟨hc,hL⟩=>?_
  subst hc;subst hL
  rw [List.append_nil]
  cases x1
  ·repeat' (first|refine aE ?_|refine ba a1 ?_|refine kl rfl rfl ?_)
   refine Ey rfl rfl ?_
   repeat' (first|refine aE ?_|refine ba a1 ?_|refine kl rfl rfl ?_)
   refine HR [51,52,53,55,56] F8 ?_
   repeat' (first|refine au ?_|refine a7 ?_|refine a8 ?_|refine HF a1 F8 ?_|refine HS HB ?_)
   exact HN F8 ⟨rfl,rfl⟩
  ·repeat' (first|refine aE ?_|refine ba a1 ?_|fail)
   refine Cy a1 r.In.length rfl rfl rfl rfl rfl (by rw [c2]) (by omega) rfl ?_
   rw [hdr]
   repeat' (first|refine aE ?_|fail)
   refine fj (dZ wb f v (some m) run) [] s2 rfl rfl (bB rfl) rfl fun c L1 ⟨hc,hL⟩=>?_
   subst hc;subst hL
   rw [List.append_nil]
   cases x2
   ·repeat' (first|refine aE ?_|refine ba a1 ?_|refine kl rfl rfl ?_)
    refine HR [51,52,53,55,56] F8 ?_
    repeat' (first|refine au ?_|refine a7 ?_|refine a8 ?_|refine HF a1 F8 ?_|refine HS HB ?_)
    exact HN F8 ⟨rfl,rfl⟩
   ·repeat' (first|refine aE ?_|refine ba a1 ?_|fail)
    refine HR [51,52,53,55,56] F8 ?_
    repeat' (first|refine HO F8 ?_)
    refine bb (dZ wb f v (some m) run) [] s3 rfl rfl (bB rfl) rfl fun c L1 ⟨hc,hL⟩=>?_
    subst hc;subst hL
    rw [List.append_nil]
    repeat' (first|refine au ?_|refine a7 ?_|refine a8 ?_|refine HF a1 F8 ?_)
    exact HN F8 ⟨rfl,rfl⟩
end
end Go.Proofs.YtpbinloeemebkaaGreat
namespace Go.Proofs.YtpbinloeemebkaaGreat
open Go.RowKit
attribute [local irreducible] AT bO AX AO Av Kt bo dU DA cT
def fI (f:aL) (m:Value→Option AV):Prop:=∀u c,m u=some c→∃(k:Nat) (l:aP),u= .int .i64 (k:Int)∧f.Lookups[k]?=some l∧c= .iptr (oP l)
abbrev kV (mb:Nat):AV:= .sc (.map (some mb))
abbrev mQ (mb:Nat) (m:Value→Option AV):Nat×AB:=(mb,dc (.int .i64) m)
section
variable {f:aL} (hf:lG f) {wb:Nat}
include hf
set_option maxHeartbeats 4000000 in
theorem vV {mb:Nat} {u:AV} (m:Value→Option AV) (hm:fI f m) (n:Nat) (l:aP) (hl:f.Lookups[n]?=some l):AC Tryz.prog 69 [gI wb,aH n] [zr wb f u (kV mb),mQ mb m] fun c L=>c= .iptr (oP l)∧∃m',fI f m'∧L=[zr wb f u (kV mb),mQ mb m']:=by
 refine aT Tryz.func69 rfl Tryz.ntmps69 rfl fun B=>?_
 have hlg:=bA (c:=bF) hl
 have hlm:=Hw hl
 have hfew:=hf.few l hlm
 haveI:=AD.mk (uH l (by omega) fun r hr=>hf.ruleR hlm hr)
 haveI:=AD.mk (w9 l (by omega) fun r hr=>hf.ruleR hlm hr)
 repeat' (first|refine ae ?_|refine a6 ?_|refine a7 ?_|refine a8 ?_|refine HF a1 F8 ?_|(apply bh;first|refine HJ a1 0 HC ?_|refine HJ a1 1 HC ?_|refine HJ a1 2 HC ?_|refine HJ a1 3 HC ?_|refine HK a1 0 HC ?_|refine HK a1 1 HC ?_|refine HK a1 2 HC ?_|refine HM a1 1 HA (by assumption) rfl ?_|refine HM a1 0 HA (by assumption) rfl ?_|fail)|fail)
 refine lB 1 (.pointer none) Tryz.underlying116 Tryz.underlying3 rfl rfl rfl rfl (by kernel_rfl) rfl ?_
 cases hmn:m (.int .i64 (n:Int)) with
 | some c=>
  obtain ⟨k,l',hk,hl',hc⟩:=hm _ _ hmn
  have hkn:k=n:=by injection hk with _ e;omega
  subst hkn
  rw [hl] at hl'
  cases hl'
  subst hc
  dsimp only [Option.getD_some,Option.isSome_some]
  repeat' (first|refine ae ?_|refine a6 ?_|refine ar ?_|refine au ?_|refine a7 ?_|refine a8 ?_|refine HF a1 F8 ?_|refine bL rfl ?_)
  exact HN F8 ⟨rfl,m,hm,rfl⟩
 | none=>
  dsimp only [Option.getD_none,Option.isSome_none]
  repeat' (first|refine ae ?_|refine a6 ?_|refine a7 ?_|refine a8 ?_|refine HF a1 F8 ?_|(apply bh;first|refine HJ a1 0 HC ?_|refine HJ a1 1 HC ?_|refine HJ a1 2 HC ?_|refine HJ a1 3 HC ?_|refine HK a1 0 HC ?_|refine HK a1 1 HC ?_|refine HK a1 2 HC ?_|refine HM a1 1 HA (by assumption) rfl ?_|refine HM a1 0 HA (by assumption) rfl ?_|fail)|(apply aX;first|refine aU a1 ?_|refine aK a1 ?_)|(apply bD;refine bf ?_)|refine bR rfl ?_)
  refine ee 1 (mS m (.int .i64 (n:Int)) (.iptr (oP l))) Tryz.underlying116 Tryz.underlying3 rfl rfl rfl rfl rfl gy (fun q h=>fK q h) ?_
  repeat' (first|refine ae ?_|refine a6 ?_|refine au ?_|refine a7 ?_|refine a8 ?_|refine HF a1 F8 ?_)
  refine HN F8 ⟨rfl,_,fun u c h=>?_,rfl⟩
  by_cases e:u= .int .i64 (n:Int)
  ·rw [e,gy] at h
   cases h
   exact ⟨n,l,e,hl,rfl⟩
  ·rw [fK u e] at h
   exact hm u c h
set_option maxHeartbeats 8000000 in
theorem nV {v:AV} (l:aP) (hl:l∈f.Lookups) (q:Option fy) (run:List b6) (hq:di q run) (hr:run.length≤1000000) (i:Nat) (hi:i < run.length) (forms:List Int):
  AC Tryz.prog 70 [gI wb,.iptr (oP l),aH i,.imm 1 (aS forms)] (dZ wb f v q run) fun c L=>c=pY (aW f) l run i forms∧L=dZ wb f v q run:=by
 refine aT Tryz.func70 rfl Tryz.ntmps70 rfl fun B=>?_
 have hbe:=xN (wb:=wb) (f:=f) (v:=v) l q run hq hr i hi forms
 unfold pY jU
 repeat' (first|refine ae ?_|refine a6 ?_|refine a7 ?_|refine a8 ?_|refine HF a1 F8 ?_)
 refine bb (dZ wb f v q run) [] hbe rfl rfl (bB rfl) rfl fun c L1 ⟨hc,hL⟩=>?_
 subst hc;subst hL
 rw [List.append_nil]
 cases hb:m5 (aW f) l.Ignore run i forms
 ·repeat' (first|refine ae ?_|refine a6 ?_|refine au ?_|refine a7 ?_|refine aD ?_|refine a8 ?_|refine HF a1 F8 ?_|refine bR rfl ?_)
  exact HT HA ⟨rfl,rfl⟩
 ·rw [if_pos rfl]
  have hfew:=hf.few l hl
  have hbd:=wV (rs:=l.Rules) (fun r hr=>hf.ruleR hl hr) l.Rules.length
  rw [List.take_length] at hbd
  have f1:=rl (wb:=wb) (f:=f) (v:=v) hq hr l.Ignore true (i:Int) ⟨by omega,fun _=>by omega,fun e=>by cases e⟩ (by omega) (g8 l.Rules) (by omega)
  have f2:=rl (wb:=wb) (f:=f) (v:=v) hq hr l.Ignore false ((i:Int) - 1) ⟨by omega,(fun e=>by cases e),fun _=>by omega⟩ (by omega) (iS l.Rules) (by omega)
  rw [uz] at f1
  rw [wp] at f2
  repeat' (first|refine ae ?_|refine ar ?_|refine a7 ?_|refine a8 ?_|refine HF a1 F8 ?_|refine bL rfl ?_)
  refine bj 11 [(0,.v),(1,.v),(2,.v),(3,.v),(4,.v),(5,.v),(6,.v),(7,.v),(8,.v),(9,.v),(10,.v)] none ?_ trivial rfl (by kernel_rfl) (by kernel_rfl) (by kernel_rfl) mixed (by kernel_rfl) rfl
  repeat' (first|refine aE ?_|refine ba a1 ?_|(apply dm;refine dP ?_)|fail)
  refine HR [0,1,2,23,30] F8 ?_
  repeat' (first|fail)
  refine bb (dZ wb f v q run) [] f1 rfl rfl (bB rfl) rfl fun c L1 ⟨hc,hL⟩=>?_
  subst hc;subst hL
  rw [List.append_nil]
  repeat' (first|refine ae ?_|refine a7 ?_|refine a8 ?_|refine HF a1 F8 ?_)
  refine bj 12 [(0,.v),(1,.v),(2,.v),(3,.v),(4,.v),(5,.v),(6,.v),(7,.v),(8,.v),(9,.v),(10,.v),(11,.v)] none ?_ trivial rfl (by kernel_rfl) (by kernel_rfl) (by kernel_rfl) mixed (by kernel_rfl) rfl
  repeat' (first|refine aE ?_|refine ba a1 ?_|(apply dB;refine eK ?_)|(apply dm;refine dP ?_)|fail)
  refine HR [0,1,10,35,43] F8 ?_
  repeat' (first|fail)
  refine bb (dZ wb f v q run) [] f2 rfl rfl (bB rfl) rfl fun c L1 ⟨hc,hL⟩=>?_
  subst hc;subst hL
  rw [List.append_nil]
  repeat' (first|refine ae ?_|refine a6 ?_|refine ak ?_|refine a7 ?_|refine a8 ?_|refine HF a1 F8 ?_)
  have hml:((gq l).Rules.map bJ).length=l.Rules.length:=by rw [Hu];exact Hu ..
  repeat' (first|fail)
  refine aR [0,1,10,11,48,49] (α:=Nat) (fun k=>[(50,aH k)]) (fun k=>k≤l.Rules.length∧∀r∈l.Rules.take k,eg (aW f) l.Ignore run i r=false) (fun _=>dZ wb f v q run) (fun k=>l.Rules.length - k) 0 rfl ⟨rfl,trivial⟩ ⟨Nat.zero_le _,by simp⟩ (fun _ _ h=>h) ?_
  rintro k ⟨hk,hno⟩
  try dsimp only [Hs,Hr,Hq,Hl]
  repeat' (first|refine ae ?_|refine a6 ?_|refine a7 ?_|refine a8 ?_|refine HF a1 F8 ?_)
  refine ay rfl (fun h=>?_) (fun h=>?_)
  ·have hk2:k < l.Rules.length:=by have:=Hy h;omega
   obtain ⟨r,hrk⟩:∃r,l.Rules[k]?=some r:=⟨_,Hz hk2⟩
   have hrm:=Hw hrk
   have hrg:((gq l).Rules.map bJ)[k]?=some (bJ (kr r)):=by
    unfold gq
    rw [List.getElem?_map,List.getElem?_map,hrk]
    rfl
   have hM:=(mH (g:=fun r:bv=>r.In.length+r.Ahead.length) (m:=0)).2 r hrm
   have hM':=(mH (g:=fun r:bv=>r.Back.length) (m:=0)).2 r hrm
   have hma:=u6 (wb:=wb) (f:=f) (v:=v) l r (hf.ruleR hl hrm) q run hq hr i hi (g8 l.Rules) (iS l.Rules) hM hM'
   clear h
   repeat' (first|refine ae ?_|refine a6 ?_|refine ak ?_|refine ar ?_|refine a7 ?_|refine a8 ?_|refine HF a1 F8 ?_|(apply aX;first|refine aU a1 ?_|refine aK a1 ?_)|(apply aQ;first|refine HH 13 a1 0 HE ?_|refine HH 13 a1 1 HE ?_|refine HH 13 a1 2 HE ?_|refine HG a1 0 HD ?_|refine HG a1 1 HD ?_|refine HG a1 2 HD ?_|refine HG a1 3 HD ?_|fail)|refine bl a1 fun _=>?_|fail)
   refine bb (dZ wb f v q run) [] hma rfl rfl (bB rfl) rfl fun c L1 ⟨hc,hL⟩=>?_
   subst hc;subst hL
   rw [List.append_nil]
   cases hrf:eg (aW f) l.Ignore run i r
   ·repeat' (first|refine a6 ?_|refine ar ?_|refine a7 ?_|refine aI ?_|refine a8 ?_|refine HF a1 F8 ?_|(apply aZ;refine aY ?_)|refine bL rfl ?_)
    refine aF (k+1) rfl ⟨by rw [Hv];rfl,trivial⟩ ⟨hk2,fun y hy=>?_⟩ (by omega) (fun _ _ h=>h)
    rw [List.take_add_one,hrk,List.mem_append] at hy
    rcases hy with hy | hy
    ·exact hno y hy
    ·simp at hy
     rw [hy]
     exact hrf
   ·have hidx:=EG hrk hrf hno
    obtain ⟨g1,g2⟩:=oI hrf
    have hfm:r.In.length≤g8 l.Rules:=AE hrm
    have c2:(bz (kr r).In).length=r.In.length:=d3 r.In
    have hnl:=ip ((dy (aW f) l.Ignore run i).take (g8 l.Rules))
    rw [List.length_take] at hnl
    have hcut:(cu ((dy (aW f) l.Ignore run i).take (g8 l.Rules))).take r.In.length=cu ((dy (aW f) l.Ignore run i).take r.In.length):=by
     unfold cu aS
     rw [←List.map_take,←List.map_take,List.take_take,Nat.min_eq_left hfm]
    rw [hidx]
    repeat' (first|refine ae ?_|refine a7 ?_|refine a8 ?_|refine bR rfl ?_)
    refine bj 10 [(0,.v),(1,.v),(2,.v),(3,.v),(4,.v),(5,.v),(6,.v),(7,.v),(8,.v),(9,.v)] none ?_ trivial rfl (by kernel_rfl) (by kernel_rfl) (by kernel_rfl) mixed (by kernel_rfl) rfl
    repeat' (first|refine aE ?_|refine ba a1 ?_|fail)
    refine Cz a1 r.In.length rfl rfl rfl rfl rfl rfl (by rw [c2]) (by rw [c2]) (by omega) trivial ?_
    rw [hcut]
    repeat' (first|refine aE ?_|refine ba a1 ?_|fail)
    refine HR [8,69] F8 ?_
    repeat' (first|refine au ?_|refine a7 ?_|refine aD ?_|refine aO ?_|refine bw ?_|refine a8 ?_|refine HF a1 F8 ?_)
    refine HT HA ⟨?_,rfl⟩
    simp only [hrk,Option.map_some,Option.getD_some]
  ·have hk2:k=l.Rules.length:=by have:=Hx h;omega
   subst hk2
   rw [List.take_length] at hno
   rw [List.findIdx?_eq_none_iff.2 hno]
   repeat' (first|refine ae ?_|refine a6 ?_|refine au ?_|refine aM ?_|refine a7 ?_|refine av ?_|refine aw ?_|refine aB ?_|refine a8 ?_|refine HF a1 F8 ?_)
   exact HT HA ⟨rfl,rfl⟩
end
end Go.Proofs.YtpbinloeemebkaaGreat
namespace Go.Proofs.YtpbinloeemebkaaGreat
open Go.RowKit
theorem F3 (w:World):(Go.sizeOf 54).run Tryz.prog w= .ok 6 w:=by
 have h:(Tryz.prog.info? 54).map (·.size)=some 6:=by kernel_rfl
 cases hq:Tryz.prog.info? 54 with
 | none=>rw [hq] at h;cases h
 | some i=>
  rw [hq] at h
  have hi:i.size=6:=by simpa using h
  simp [sizeOf,typeInfo,hq,hi]
section
variable {fr:c6} {B:Bs} {L:AL} {ty:TypeId} {pos:String} {af:Array Edge} {g:Option (Nat×Bool)} {x y:Operand}
theorem tf (i j:Nat) {dd:Option Tmp} {ts:Array TypeId} {b off n c b2 off2 n2 c2:Nat} {cs cs2:List AV} {e e2:TypeId} (hij:i≠j) (hx:bt fr x=some (.sc (.slice (some ⟨b,off,none⟩) n c))) (hy:bt fr y=some (.sc (.slice (some ⟨b2,off2,none⟩) n2 c2))) (hL:L[i]?=some (b,.box cs e)) (hL2:L[j]?=some (b2,.box cs2 e2)) (h0:cs2≠[]):
  AO Tryz.prog ⟨dd,.call ⟨.value (.func 263),#[x,y],ts⟩,ty,pos,af,g⟩ fr B L (fun r L'=>r=c9 false∧L'=L):=by
 intro σ ρ w hρ hw
 have hxv:=(hρ x _ hx).sc_inv
 have hyv:=(hρ y _ hy).sc_inv
 have hfv:ρ (.func 263)= .func (.func 263) #[] #[]:=(hρ (.func 263) _ rfl).sc_inv
 obtain ⟨vs,hb,hvs,h1⟩:=hw.boxCell hL
 obtain ⟨vs2,hb2,hvs2,h2⟩:=hw.boxCell hL2
 have hne:b≠b2:=by
  intro e
  have h1:(L.map (·.1))[i]?=some b:=by rw [List.getElem?_map,hL];rfl
  have h2:(L.map (·.1))[j]?=some b:=by rw [List.getElem?_map,hL2,e];rfl
  exact hij (qf hw.apart h1 h2)
 have hk:vs2.length≠0:=by
  rw [←hvs2.1]
  exact fun e=>h0 (List.eq_nil_of_length_eq_zero e)
 unfold gU
 rw [show (execOp ρ ⟨dd,.call ⟨.value (.func 263),#[x,y],ts⟩,ty,pos,af,g⟩).run Tryz.prog w= .ok (.value (.bool false)) w by
  have hr:=Lib.run_overlaps_apart (P:=Tryz.prog) w 52 4 54 Tryz.underlying52 6 F3 ⟨b,off,none⟩ ⟨b2,off2,none⟩ n c n2 c2 hne e e2 vs.length vs2.length (by simp [World.shape?,hb]) (by simp [World.shape?,hb2]) hk (by simp [World.frozen?,hb]) (by simp [World.frozen?,hb])
  have hc:(callFunc 263 #[ρ x,ρ y]).run Tryz.prog w= .ok (.value (.bool false)) w:=by
   rw [run_callFunc_extern Tryz.func263 (by kernel_rfl) (by kernel_rfl) (by kernel_rfl) (e:=Extern.SlicesOverlaps.overlaps #[52,52] #[4]) (by kernel_rfl),hxv,hyv,hr]
   rfl
  simp [execOp,resolve,hfv,Deferred.ofValue,invoke,hc]]
 exact ⟨σ,.sc _,_,ci.le_refl _,.sc _,hw,rfl,rfl⟩
end
section
variable {r:Option Nat} {ops:Array Oper} {Q:Exit→Act→World→Prop} {nt:Nat} {D:List Deferred} {fr:c6} {B:Bs} {L:AL} {rest:List Oper} {d:Nat} {ty:TypeId} {pos:String} {af:Array Edge} {x y:Operand}
theorem w5 (i j:Nat) {ts:Array TypeId} {b off n c b2 off2 n2 c2:Nat} {cs cs2:List AV} {e e2:TypeId} (hij:i≠j) (hx:bt fr x=some (.sc (.slice (some ⟨b,off,none⟩) n c))) (hy:bt fr y=some (.sc (.slice (some ⟨b2,off2,none⟩) n2 c2))) (hL:L[i]?=some (b,.box cs e)) (hL2:L[j]?=some (b2,.box cs2 e2)) (h0:cs2≠[]) (hd:Nat.ble nt d=false)
  (h:bO Tryz.prog r ops Q nt D rest ((d,c9 false)::fr) B L):bO Tryz.prog r ops Q nt D (⟨some d,.call ⟨.value (.func 263),#[x,y],ts⟩,ty,pos,af,none⟩::rest) fr B L:=
 cU hd rfl (tf i j hij hx hy hL hL2 h0) fun c L' ⟨h1,h2⟩=>by subst h1;subst h2;exact h
end
end Go.Proofs.YtpbinloeemebkaaGreat
