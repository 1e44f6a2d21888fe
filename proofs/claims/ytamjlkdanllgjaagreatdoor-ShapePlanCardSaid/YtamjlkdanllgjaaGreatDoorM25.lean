/-
  The maker: outlines, programs.
-/
import Derived.Test.YtamjlkdanllgjaaGreatDoorM14
import Derived.Test.YtamjlkdanllgjaaGreatDoorM21
namespace Go.Proofs.YtamjlkdanllgjaaGreatDoor
open Go.RowKit
attribute [local irreducible] AT bF AX AO Av Kt b8 d9 DA cu
set_option maxRecDepth 8000
variable (s:List Int) (hs:s.length≤1000000) (F:MF)
include hs
theorem co (a:Nat) {n:Int} (hn:0 < n):0≤uh s a n∧uh s a n < n:=by
 have _:=hs
 clear hs
 unfold uh
 split
 ·rename_i x _
  exact ⟨Int.emod_nonneg x (by omega),Int.emod_lt_of_pos x hn⟩
 ·omega
def M3 (o:List eM×List Int):AV:= .agg [.imm 3 (o.1.map dH),.imm 1 (aL o.2)]
def jE (l:List eW):AV:= .imm 2 (l.map dX)
set_option maxHeartbeats 8000000 in
theorem yw (n fn:Int) (hn:0≤n∧n≤10000) (hf:fn≤10000):sB 81 [aG n,aG fn] s F (cP s n fn) jE:=by
 intro b m
 refine aQ Tryz.func81 rfl Tryz.ntmps81 rfl fun B=>?_
 refine W02 ?_
 refine cL ?_
 refine W02 ?_
 refine cL ?_
 refine W01 ?_
 refine cL ?_
 refine W01 ?_
 refine cL ?_
 generalize e1:dr s (n+1) m=p1
 generalize e2:dr s (n+1) p1.2=p2
 generalize e3:dr s 2 p2.2=p3
 have hk:=co s hs p3.2.a (n:=12) (by omega)
 have hk:0≤(dr s 12 p3.2).1∧(dr s 12 p3.2).1 < 12:=hk
 generalize e4:dr s 12 p3.2=p4 at hk ⊢
 refine W03 ?_
 refine aw rfl (fun h=>?_) (fun h=>?_)
 ·have h:=Oy h
  refine W0f ?_
  exact OK KN ⟨by simp [cP,c8,cK,e1,e2,e3,e4,jE,dX,h],by simp [cP,c8,cK,e1,e2,e3,e4,h]⟩
 have h0:=Ox h
 clear h
 refine W01 ?_
 refine aw rfl (fun h=>?_) (fun h=>?_)
 ·have h:=Oy h
  refine W01 ?_
  refine cL ?_
  refine W0f ?_
  exact OK KN ⟨by simp [cP,c8,cK,e1,e2,e3,e4,jE,dX,h],by simp [cP,c8,cK,e1,e2,e3,e4,h]⟩
 have h1:=Ox h
 clear h
 refine W01 ?_
 refine aw rfl (fun h=>?_) (fun h=>?_)
 ·have h:=Oy h
  rw [decide_eq_true h]
  refine W0X ?_
  exact OK KN ⟨by simp [cP,c8,cK,e1,e2,e3,e4,jE,dX,h],by simp [cP,c8,cK,e1,e2,e3,e4,h]⟩
 have h2:=Ox h
 clear h
 refine W01 ?_
 refine aw rfl (fun h=>?_) (fun h=>?_)
 ·have h:=Oy h
  refine W0f ?_
  exact OK KN ⟨by simp [cP,c8,cK,e1,e2,e3,e4,jE,dX,h],by simp [cP,c8,cK,e1,e2,e3,e4,h]⟩
 have h3:=Ox h
 clear h
 refine W01 ?_
 refine aw rfl (fun h=>?_) (fun h=>?_)
 ·have h:=Oy h
  refine W01 ?_
  refine cL ?_
  have hz:=co s hs p4.2.a (n:=200) (by omega)
  have hz:0≤(dr s 200 p4.2).1∧(dr s 200 p4.2).1 < 200:=hz
  repeat' (first|refine O1 ?_|refine OE a7 KN ?_|(apply aS;refine aR ?_)|refine bO a7 ?_|fail)
  exact OK KN ⟨by simp [cP,c8,cK,e1,e2,e3,e4,jE,dX,h],by simp [cP,c8,cK,e1,e2,e3,e4,h]⟩
 have h4:=Ox h
 clear h
 refine W01 ?_
 refine aw rfl (fun h=>?_) (fun h=>?_)
 ·have h:=Oy h
  refine W0f ?_
  exact OK KN ⟨by simp [cP,c8,cK,e1,e2,e3,e4,jE,dX,h],by simp [cP,c8,cK,e1,e2,e3,e4,h]⟩
 have h5:=Ox h
 clear h
 refine W01 ?_
 refine aw rfl (fun h=>?_) (fun h=>?_)
 ·have h:=Oy h
  refine W0f ?_
  exact OK KN ⟨by simp [cP,c8,cK,e1,e2,e3,e4,jE,dX,h],by simp [cP,c8,cK,e1,e2,e3,e4,h]⟩
 have h6:=Ox h
 clear h
 refine W01 ?_
 refine aw rfl (fun h=>?_) (fun h=>?_)
 ·have h:=Oy h
  refine W0f ?_
  exact OK KN ⟨by simp [cP,c8,cK,e1,e2,e3,e4,jE,dX,h],by simp [cP,c8,cK,e1,e2,e3,e4,h]⟩
 have h7:=Ox h
 clear h
 refine W01 ?_
 refine aw rfl (fun h=>?_) (fun h=>?_)
 ·have h:=Oy h
  refine W01 ?_
  refine aw rfl (fun hf0=>?_) (fun hf0=>?_)
  ·have hf0:=Oy hf0
   refine W01 ?_
   refine cL ?_
   refine W0f ?_
   exact OK KN ⟨by simp [cP,c8,cK,e1,e2,e3,e4,jE,dX,h,hf0],by simp [cP,c8,cK,e1,e2,e3,e4,h,hf0]⟩
  ·have hf0:=Ox hf0
   refine W0f ?_
   exact OK KN ⟨by simp [cP,c8,cK,e1,e2,e3,e4,jE,dX,gT,h,hf0],by simp [cP,c8,cK,e1,e2,e3,e4,gT,h,hf0]⟩
 have h8:=Ox h
 clear h
 refine W01 ?_
 refine aw rfl (fun h=>?_) (fun h=>?_)
 ·have h:=Oy h
  by_cases hf0:0 < fn
  ·refine W01 ?_
   rw [decide_eq_true hf0]
   refine W0H ?_
   refine aw rfl (fun hl=>?_) (fun hl=>?_)
   ·have hl:=Oy hl
    refine W0w ?_
    have hlt:=p4.2.lo.isLt
    have hlz:0 < p4.2.lo.val:=by omega
    have hcell:((p4.2.lo.val:Nat):Int) - 1=((p4.2.lo.val - 1:Nat):Int):=by omega
    rw [hcell]
    change bF _ _ _ _ _ _ _ _ _ [ee b s F (LJ p4.2).2]
    repeat' (first|fail)
    refine cL ?_
    repeat' (first|refine OE a7 KN ?_)
    refine cL ?_
    refine W0f ?_
    exact OK KN ⟨by simp [cP,c8,cK,e1,e2,e3,e4,jE,dX,h,hf0,rF,hlz],by simp [cP,c8,cK,e1,e2,e3,e4,h,hf0,rF,hlz]⟩
   ·have hl:=Ox hl
    have hl0:p4.2.lo.val=0:=by omega
    refine W0f ?_
    exact OK KN ⟨by simp [cP,c8,cK,e1,e2,e3,e4,jE,dX,gT,h,hf0,rF,hl0],by simp [cP,c8,cK,e1,e2,e3,e4,gT,h,hf0,rF,hl0]⟩
  ·refine W01 ?_
   rw [decide_eq_false hf0]
   repeat' (first|refine O1 ?_|refine OE a7 KN ?_|refine OP OA ?_|refine bO a7 ?_|refine bj rfl ?_)
   exact OK KN ⟨by simp [cP,c8,cK,e1,e2,e3,e4,jE,dX,gT,h,hf0],by simp [cP,c8,cK,e1,e2,e3,e4,gT,h,hf0]⟩
 have h9:=Ox h
 clear h
 refine W01 ?_
 refine aw rfl (fun h=>?_) (fun h=>?_)
 ·have h:=Oy h
  refine W0f ?_
  exact OK KN ⟨by simp [cP,c8,cK,e1,e2,e3,e4,jE,dX,h],by simp [cP,c8,cK,e1,e2,e3,e4,h]⟩
 have h10:=Ox h
 clear h
 refine W0f ?_
 exact OK KN ⟨by simp [cP,c8,cK,e1,e2,e3,e4,jE,dX,gT,h0,h1,h2,h3,h4,h5,h6,h7,h8,h9,h10],by simp [cP,c8,cK,e1,e2,e3,e4,gT,h0,h1,h2,h3,h4,h5,h6,h7,h8,h9,h10]⟩
end Go.Proofs.YtamjlkdanllgjaaGreatDoor
namespace Go.Proofs.YtamjlkdanllgjaaGreatDoor
open Go.RowKit
attribute [local irreducible] AT bF AX AO Av Kt b8 d9 DA cu
set_option maxRecDepth 8000
def fY (l:List Int) (i:Nat):List AV:=(l.take i++List.replicate (l.length - i) 0).map aG
theorem Hg (l:List Int) {i:Nat} (h:i≤l.length):(fY l i).length=l.length:=by simp [fY];omega
theorem zE (l:List Int) (m:Nat) (hm:m=l.length):(List.replicate m [aG 0]).flatten=fY l 0:=by
 subst hm
 unfold fY
 rw [List.take_zero,Oo,Nat.sub_zero,List.map_replicate]
 generalize l.length=m
 induction m with
 | zero=>rfl
 | succ m ih=>rw [List.replicate_succ,List.flatten_cons,ih,List.replicate_succ];rfl
theorem Hh {l:List Int} {i:Nat} {z:Int} (h:l[i]?=some z):(fY l i).set (0+(i:Int).toNat * 1) (aG z)=fY l (i+1):=by
 have hi:=(Ol h).1
 rw [Nat.zero_add,Nat.mul_one,Int.toNat_natCast]
 unfold fY
 rw [←List.map_set (f:=aG)]
 congr 1
 rw [List.set_append_right _ _ (by simp;omega),List.take_add_one,h,List.append_assoc]
 congr 1
 rw [show l.length - i=(l.length - (i+1))+1 by omega,List.replicate_succ,show i - (l.take i).length=0 by simp;omega]
 rfl
theorem Hf (l:List Int):fY l l.length=l.map aG:=by simp [fY]
theorem tz (l:List Int):(aL l).flatten=l.map aG:=by
 unfold aL
 induction l with
 | nil=>rfl
 | cons z l ih=>rw [Om,List.flatten_cons,ih];rfl
set_option maxRecDepth 8000
theorem Mh {n i:Nat} (h:i < n):(fY (cQ n) i).set (0+(i:Int).toNat * 1) (aG i)=fY (cQ n) (i+1):=Hh (jV h)
set_option maxHeartbeats 1000000 in
theorem Fb (f:aY) (hf:Few f) (hr:kY f.Glyphs.length (prt f)∨AC Tryz.prog 257 [cR f] [] fun c _=>∃z:Int,c=aG z):AC Tryz.prog 185 [cR f] [] fun c _=>(∃T,c= .tup [.imm 1 (aL T),aG 0,aG 0]∧j7 f.Glyphs.length (prt f) T∧T.length=f.Glyphs.length)∨(¬kY f.Glyphs.length (prt f)∧∃z:Int,c= .tup [.imm 1 [],aG z,aG 33]):=by
 refine aQ Tryz.func185 rfl Tryz.ntmps185 rfl fun B=>?_
 have hn:=hf.n
 have hln:=Hy f hf
 have hml:(f.Glyphs.map bG).length=f.Glyphs.length:=Ou ..
 generalize hN:f.Glyphs.length=n at *
 refine W07 ?_
 rw [hml]
 refine ej a7 n rfl rfl rfl rfl rfl rfl rfl (by omega) (by omega) rfl fun b=>?_
 rw [show (List.replicate n (List.map AV.sc [Value.int .i64 0])).flatten=fY (cQ n) 0 from zE (cQ n) n (f4 n).symm]
 have hul:=f4 n
 refine W03 ?_
 refine aJ [1,5,13] (α:=Nat) (fun i=>[(14,aG i)]) (fun i=>i≤n) (fun i=>[(b,.box (fY (cQ n) i) 3)]) (fun i=>n - i) 0 rfl ⟨rfl,trivial⟩ (Nat.zero_le _) (fun _ _ h=>h) fun i hi=>?_
 try dsimp only [Oq,Oo,Om,Oh]
 refine W01 ?_
 refine aw rfl (fun h=>?_) (fun h=>?_)
 ·have hil:i < n:=by have:=Oy h;omega
  refine W08 ?_
  refine ai a7 0 rfl rfl rfl rfl rfl rfl (by rw [Nat.ble_eq,Hg (cQ n) (by omega),hul];show _+1≤n;omega) ?_
  rw [gu,Mh hil]
  refine W02 ?_
  exact aD (i+1) rfl ⟨by rw [Ov];rfl,trivial⟩ (by omega) (by omega) (fun _ _ h=>h)
 ·have hil:i=n:=by have:=Ox h;omega
  subst hil
  clear h
  rw [show fY (cQ i) i=(cQ i).map aG by have:=Hf (cQ i);rw [hul] at this;exact this]
  refine bM (G0 (t:=5) (sz:=1) (l:=aL (cQ i)) 0 rfl rfl (tz _).symm (by simp [aL]) (by rw [aP,hul]) (by omega)) ?_
  refine W01 ?_
  refine bh [] _ hln rfl rfl (Ok _) rfl fun c L1 ⟨T,hc,hT⟩=>?_
  subst hc
  have hTl:=aP T
  have hIl:=aP (cQ i)
  have hTn:=hT.len
  rw [hul] at hIl
  refine aX (bS (List.nil_sublist _)) ?_
  refine W01 ?_
  refine aw rfl (fun h=>?_) (fun h=>?_)
  ·have hlt:=Oy h
   rw [hTl,hIl] at hlt
   have hna:¬kY i (prt f):=fun ha=>by
    have:=hT.len_all (hT.all ha fun g p hp=>by have:=Ks hp;rw [hN] at this;exact this)
    omega
   rcases hr with hr | hr
   ·exact absurd hr hna
   refine W01 ?_
   refine bh [] [] hr rfl rfl (Ok _) rfl fun c L1 ⟨z,hc⟩=>?_
   subst hc
   refine W01 ?_
   refine b7 (bq (t:=2) (c':= .imm 1 []) rfl fun σ v h=>dV 1 h) ?_
   exact zo (cs:=[.imm 1 [],aG z,aG 33]) ⟨rfl,rfl,rfl,trivial⟩ (.inr ⟨hna,z,rfl⟩)
  ·have hlt:=Ox h
   rw [hTl,hIl] at hlt
   refine W01 ?_
   exact zo (cs:=[.imm 1 (aL T),aG 0,aG 0]) ⟨rfl,rfl,rfl,trivial⟩ (.inl ⟨T,rfl,hT,by omega⟩)
set_option maxRecDepth 8000
def dF (D:Int→Int) (ps:List dW):Int:=ps.foldl (fun a p=>max a (D p.Glyph+1)) 0
def pF (P:Int→Int) (ps:List dW) (k:Int):Int:=ps.foldl (fun a p=>min (a+P p.Glyph) 1001) k
def eC (n:Nat) (D:Int→Int):List AV:=(cQ n).map fun z=>aG (D z)
def iA (D:Int→Int) (z v:Int):Int→Int:=fun q=>if q=z then v else D q
theorem m6 {D:Int→Int} {z v:Int}:iA D z v z=v:=by simp [iA]
theorem kL {D:Int→Int} {z v q:Int} (h:q≠z):iA D z v q=D q:=by simp [iA,h]
theorem tY (D:Int→Int) (z v w:Int):iA (iA D z v) z w=iA D z w:=by
 funext q
 unfold iA
 by_cases e:q=z
 ·rw [if_pos e,if_pos e]
 ·rw [if_neg e,if_neg e,if_neg e]
theorem k9 (n:Nat) (D:Int→Int):(eC n D).length=n:=by simp [eC,cQ]
theorem k8 {n:Nat} {D:Int→Int} {z:Int} (h0:0≤z) (h1:z < n):(eC n D)[0+z.toNat * 1]?=some (aG (D z)):=by
 rw [Nat.zero_add,Nat.mul_one]
 unfold eC
 rw [List.getElem?_map,jV (by omega),Option.map_some,show ((z.toNat:Nat):Int)=z by omega]
theorem mx {n:Nat} {D:Int→Int} {z v:Int} (h0:0≤z) (h1:z < n):(eC n D).set (0+z.toNat * 1) (aG v)=eC n (iA D z v):=by
 rw [Nat.zero_add,Nat.mul_one]
 apply List.ext_getElem?
 intro i
 rw [List.getElem?_set,k9]
 unfold eC iA
 by_cases hi:z.toNat=i
 ·subst hi
  rw [if_pos rfl,if_pos (by omega),List.getElem?_map,jV (by omega),Option.map_some,if_pos (by omega)]
 ·rw [if_neg hi,List.getElem?_map,List.getElem?_map]
  by_cases hn:i < n
  ·rw [jV hn,Option.map_some,Option.map_some,if_neg (by omega)]
  ·rw [List.getElem?_eq_none (by rw [f4];omega)];rfl
theorem pv (n:Nat):(List.replicate n [aG 0]).flatten=eC n fun _=>0:=by
 rw [zE (cQ n) n (f4 n).symm]
 unfold fY eC
 rw [List.take_zero,Oo,Nat.sub_zero,f4,List.map_replicate]
 apply List.ext_getElem?
 intro i
 rw [List.getElem?_replicate,List.getElem?_map]
 by_cases h:i < n
 ·rw [if_pos h,jV h];rfl
 ·rw [if_neg h,List.getElem?_eq_none (by rw [f4];omega)];rfl
theorem GN {D:Int→Int} {ps:List dW} {j:Nat} {p:dW} (h:ps[j]?=some p):dF D (ps.take (j+1))=max (dF D (ps.take j)) (D p.Glyph+1):=by
 unfold dF
 rw [List.take_add_one,h,Option.toList_some,List.foldl_append]
 rfl
theorem HQ {P:Int→Int} {ps:List dW} {k:Int} {j:Nat} {p:dW} (h:ps[j]?=some p):pF P (ps.take (j+1)) k=min (pF P (ps.take j) k+P p.Glyph) 1001:=by
 unfold pF
 rw [List.take_add_one,h,Option.toList_some,List.foldl_append]
 rfl
theorem mB {α β:Type} {F G:α→β→α}:∀(l:List β) (a:α),(∀b∈l,∀a,F a b=G a b)→l.foldl F a=l.foldl G a
 | [],_,_=>rfl
 | b::l,a,h=>by rw [List.foldl_cons,List.foldl_cons,h b (List.mem_cons_self ..)];exact mB l _ fun c hc=>h c (Ot _ hc)
theorem vN {D D':Int→Int} {ps:List dW} (h:∀p∈ps,D p.Glyph=D' p.Glyph):dF D ps=dF D' ps:=mB ps 0 fun p hp a=>by rw [h p hp]
theorem wC {P P':Int→Int} {ps:List dW} {k:Int} (h:∀p∈ps,P p.Glyph=P' p.Glyph):pF P ps k=pF P' ps k:=mB ps k fun p hp a=>by rw [h p hp]
theorem Lz {D:Int→Int} {m:Int} (h:∀z,0≤D z∧D z≤m):∀(ps:List dW),0≤dF D ps∧dF D ps≤m+1:=by
 intro ps
 have hm:0≤m:=by have:=h 0;omega
 have:∀(ps:List dW) (a:Int),0≤a→a≤m+1→0≤ps.foldl (fun a p=>max a (D p.Glyph+1)) a∧ps.foldl (fun a p=>max a (D p.Glyph+1)) a≤m+1:=by
  intro ps
  induction ps with
  | nil=>intro a h0 h1;exact ⟨h0,h1⟩
  | cons p ps ih=>intro a h0 h1;have:=h p.Glyph;exact ih (max a (D p.Glyph+1)) (by omega) (by omega)
 exact this ps 0 (by omega) (by omega)
theorem IX {P:Int→Int} {k:Int} (h:∀z,0≤P z∧P z≤1000000) (hk:0≤k∧k≤1000000) (ps:List dW):0≤pF P ps k∧pF P ps k≤1000000:=by
 unfold pF
 induction ps generalizing k with
 | nil=>exact hk
 | cons p ps ih=>have:=h p.Glyph;exact ih (k:=min (k+P p.Glyph) 1001) (by omega)
def l6 (f:aY) (D P:Int→Int):Prop:=∀z:Int,0≤z→z < f.Glyphs.length→∀gl,f.Glyphs[z.toNat]?=some gl→D z=dF D gl.Parts∧P z=pF P gl.Parts gl.Points.length
structure xa (f:aY):Prop extends Few f where
 points:∀gl∈f.Glyphs,gl.Points.length≤1000000
 there:∀gl∈f.Glyphs,∀p∈gl.Parts,m7 f p.Glyph=true
theorem uS {f:aY} (hf:xa f) {z:Int} {gl:bn} (h:f.Glyphs[z.toNat]?=some gl):prt f z=gl.Parts.map dW.Glyph:=by
 unfold prt
 rw [h]
 refine List.filter_eq_self.2 fun y hy=>?_
 obtain ⟨p,hp,rfl⟩:=List.mem_map.1 hy
 exact hf.there gl (Ow h) p hp
def t6 (_:Nat) (levels:Int):Int:=ez (decide (levels > 4)) 34
def tF (_:Nat) (all:Int):Int:=ez (decide (all≥1001)) 2
theorem xG (i:Nat) (n:Int):bH Tryz.prog 188 [aG i,aG n] (aG (t6 i n)):=by
 refine aQ Tryz.func188 rfl Tryz.ntmps188 rfl fun B=>?_
 refine W0a ?_
 exact OL NZ
theorem xH (i:Nat) (n:Int):bH Tryz.prog 190 [aG i,aG n] (aG (tF i n)):=by
 refine aQ Tryz.func190 rfl Tryz.ntmps190 rfl fun B=>?_
 refine W0a ?_
 exact OL NZ
theorem Bo (l:List Int):bH Tryz.prog 186 [.iptr [.imm 1 (aL l)]] (ct (dx l t6)):=by
 refine aQ Tryz.func186 rfl Tryz.ntmps186 rfl fun B=>?_
 refine W01 ?_
 refine bh [] [] (nh (u:= .sc (.func (.func 188) #[] #[])) (g:=188) (caps:=[]) rfl l _ (fun _ _=>True) [] trivial (dz (fun i x _=>xG i x))) rfl rfl (Ok _) rfl fun c L1 hc=>?_
 have hc:c=ct (dx l t6):=hc
 subst hc
 unfold ct
 refine W01 ?_
 exact OS OA
theorem Bp (l:List Int):bH Tryz.prog 189 [.iptr [.imm 1 (aL l)]] (ct (dx l tF)):=by
 refine aQ Tryz.func189 rfl Tryz.ntmps189 rfl fun B=>?_
 refine W01 ?_
 refine bh [] [] (nh (u:= .sc (.func (.func 190) #[] #[])) (g:=190) (caps:=[]) rfl l _ (fun _ _=>True) [] trivial (dz (fun i x _=>xH i x))) rfl rfl (Ok _) rfl fun c L1 hc=>?_
 have hc:c=ct (dx l tF):=hc
 subst hc
 unfold ct
 refine W01 ?_
 exact OS OA
structure x8 (f:aY) (T:List Int) (i:Nat) (D P:Int→Int):Prop where
 deep:∀z,0≤D z∧D z≤i
 many:∀z,0≤P z∧P z≤1000000
 done:∀(j:Nat) (z:Int),j < i→T[j]?=some z→∀gl,f.Glyphs[z.toNat]?=some gl→D z=dF D gl.Parts∧P z=pF P gl.Parts gl.Points.length
 rest:∀z,z∉T.take i→D z=0
theorem x8.start {f:aY} {T:List Int}:x8 f T 0 (fun _=>0) (fun _=>0):=⟨fun _=>by simp,fun _=>by simp,fun j _ h=>absurd h (Nat.not_lt_zero _),fun _ _=>rfl⟩
theorem x8.next {f:aY} {T:List Int} (hf:xa f) (hT:j7 f.Glyphs.length (prt f) T) {i:Nat} {D P:Int→Int} (h:x8 f T i D P) {x:Int} {gl:bn} (hx:T[i]?=some x) (hgl:f.Glyphs[x.toNat]?=some gl):x8 f T (i+1) (iA D x (dF D gl.Parts)) (iA P x (pF P gl.Parts gl.Points.length)):=by
 have hgm:=Ow hgl
 have hnot:∀(j:Nat) (z:Int),j≤i→T[j]?=some z→∀g,f.Glyphs[z.toNat]?=some g→∀p∈g.Parts,p.Glyph≠x:=by
  intro j z hj hz g hg p hp e
  have h1:=hT.topo j z hz p.Glyph (by rw [uS hf hg];exact List.mem_map_of_mem hp)
  rw [e] at h1
  obtain ⟨k,hk⟩:=List.mem_iff_getElem?.1 h1
  rw [List.getElem?_take] at hk
  split at hk
  ·rename_i hlt
   obtain ⟨k1,k2⟩:=Ol hk
   obtain ⟨i1,i2⟩:=Ol hx
   have e1:=hT.nodup.idxOf_getElem k k1
   have e2:=hT.nodup.idxOf_getElem i i1
   rw [k2] at e1
   rw [i2] at e2
   omega
  ·cases hk
 have hd:=Lz h.deep gl.Parts
 have hp:=IX (k:=(gl.Points.length:Int)) h.many (by have:=hf.points gl hgm;omega) gl.Parts
 refine ⟨fun z=>?_,fun z=>?_,fun j z hj hz g hg=>?_,fun z hz=>?_⟩
 ·unfold iA
  split
  ·omega
  ·have:=h.deep z;omega
 ·unfold iA
  split
  ·exact hp
  ·exact h.many z
 ·rw [vN (D:=iA D x (dF D gl.Parts)) (D':=D) fun p hp=>kL (hnot j z (by omega) hz g hg p hp),wC (P:=iA P x (pF P gl.Parts gl.Points.length)) (P':=P) fun p hp=>kL (hnot j z (by omega) hz g hg p hp)]
  by_cases e:z=x
  ·subst e
   rw [hgl] at hg
   cases hg
   rw [m6,m6]
   exact ⟨rfl,rfl⟩
  ·rw [kL e,kL e]
   have hji:j < i:=by
    rcases Nat.lt_or_ge j i with h1 | h1
    ·exact h1
    ·have:j=i:=by omega
     subst this
     rw [hx] at hz
     cases hz
     exact absurd rfl e
   exact h.done j z hji hz g hg
 ·rw [List.take_add_one,hx,Option.toList_some,List.mem_append,List.mem_singleton] at hz
  rw [kL (fun e=>hz (.inr e))]
  exact h.rest z fun hm=>hz (.inl hm)
def py (n:Nat) (D P:Int→Int):Int×Int:=iK [dx ((cQ n).map D) t6,dx ((cQ n).map P) tF]
set_option maxHeartbeats 8000000 in
theorem vM (f:aY) (hf:xa f) (hr:kY f.Glyphs.length (prt f)∨AC Tryz.prog 257 [cR f] [] fun c _=>∃z:Int,c=aG z):AC Tryz.prog 113 [cR f] [] fun c _=>(∃D P,l6 f D P∧kY f.Glyphs.length (prt f)∧c=ct (py f.Glyphs.length D P))∨(¬kY f.Glyphs.length (prt f)∧∃z:Int,c=ct (33,z)):=by
 refine aQ Tryz.func113 rfl Tryz.ntmps113 rfl fun B=>?_
 have hn:=hf.n
 have hml:(f.Glyphs.map bG).length=f.Glyphs.length:=Ou ..
 refine W07 ?_
 refine bh [] [] (Fb f hf.toFew hr) rfl rfl (Ok _) rfl fun c L1 hc=>?_
 refine aX (bS (List.nil_sublist _)) ?_
 rcases hc with ⟨T,hc,hT,hTl⟩ | ⟨hna,z,hc⟩
 rotate_left
 ·subst hc
  refine W0k ?_
  exact OQ NZ (.inr ⟨hna,z,rfl⟩)
 subst hc
 have hall:=hT.all_of_len hTl
 have hacy:=hT.acyc hall
 have hTi:=aP T
 refine W0m ?_
 rw [hml]
 refine ej a7 f.Glyphs.length rfl rfl rfl rfl rfl rfl rfl (by omega) (by omega) rfl fun bd=>?_
 rw [show (List.replicate f.Glyphs.length (List.map AV.sc [Value.int .i64 0])).flatten=eC f.Glyphs.length fun _=>0 from pv _]
 repeat' (first|refine O1 ?_|refine OE a7 KN ?_|(apply aO;first|refine OG 7 a7 0 OD ?_|refine OG 7 a7 1 OD ?_|refine OG 7 a7 2 OD ?_|refine OG 8 a7 0 OD ?_|refine OG 8 a7 1 OD ?_|refine OG 8 a7 2 OD ?_|refine OG 12 a7 0 OD ?_|refine OG 12 a7 1 OD ?_|refine OG 12 a7 2 OD ?_|refine OF a7 0 OC ?_|refine OF a7 1 OC ?_|refine OF a7 2 OC ?_|refine OF a7 3 OC ?_|fail)|refine bi a7 fun _=>?_|fail)
 rw [hml]
 refine ej a7 f.Glyphs.length rfl rfl rfl rfl rfl rfl rfl (by omega) (by omega) rfl fun bp=>?_
 rw [show (List.replicate f.Glyphs.length (List.map AV.sc [Value.int .i64 0])).flatten=eC f.Glyphs.length fun _=>0 from pv _]
 repeat' (first|refine O1 ?_|refine ak ?_|refine OE a7 KN ?_|(apply aO;first|refine OG 7 a7 0 OD ?_|refine OG 7 a7 1 OD ?_|refine OG 7 a7 2 OD ?_|refine OG 8 a7 0 OD ?_|refine OG 8 a7 1 OD ?_|refine OG 8 a7 2 OD ?_|refine OG 12 a7 0 OD ?_|refine OG 12 a7 1 OD ?_|refine OG 12 a7 2 OD ?_|refine OF a7 0 OC ?_|refine OF a7 1 OC ?_|refine OF a7 2 OC ?_|refine OF a7 3 OC ?_|fail)|refine bi a7 fun _=>?_|fail)
 refine aJ [1,7,8,31,32] (α:=Nat×(Int→Int)×(Int→Int)) (fun x=>[(33,aG x.1)]) (fun x=>x.1≤f.Glyphs.length∧x8 f T x.1 x.2.1 x.2.2) (fun x=>[(bp,.box (eC f.Glyphs.length x.2.2) 3),(bd,.box (eC f.Glyphs.length x.2.1) 3)]) (fun x=>f.Glyphs.length - x.1) (0,(fun _=>0),(fun _=>0)) rfl ⟨rfl,trivial⟩ ⟨Nat.zero_le _,x8.start⟩ (fun _ _ h=>h) ?_
 rintro ⟨i,D,P⟩ ⟨hi,hC⟩
 dsimp only at hi hC ⊢
 try dsimp only [Oq,Oo,Om,Oh]
 refine W01 ?_
 refine aw rfl (fun h=>?_) (fun h=>?_)
 ·have hil:i < T.length:=by have:=Oy h;rw [hTi] at this;omega
  obtain ⟨x,hx⟩:∃x,T[i]?=some x:=⟨_,Oz hil⟩
  have hxi:=bD hx
  have hxr:=hT.dom x (Ow hx)
  obtain ⟨gl,hgl⟩:∃z,f.Glyphs[x.toNat]?=some z:=⟨_,Oz (by omega)⟩
  have hgm:=Ow hgl
  have hgg:=c7 (c:=bG) hgl
  have hpm:(gl.Points.map dH).length=gl.Points.length:=Ou ..
  have hpl:=hf.points gl hgm
  clear h
  refine W08 ?_
  refine bk 10 [(0,.v),(1,.v),(2,.v),(3,.v),(4,.v),(5,.v),(6,.v),(7,.v),(8,.v),(9,.v)] none ?_ trivial rfl (by kernel_rfl) (by kernel_rfl) (by kernel_rfl) mixed (by kernel_rfl) rfl
  refine W0l ?_
  refine OO [1,7,8,10,31,32,33,37,38,46] KN ?_
  refine W0i ?_
  refine ai a7 0 rfl rfl rfl rfl rfl rfl (by rw [Nat.ble_eq,k9];show _+1≤_;omega) ?_
  rw [gu,mx hxr.1 hxr.2,hpm]
  refine W08 ?_
  have hTx:x∉T.take i:=fun hm=>by
   obtain ⟨k,hk⟩:=List.mem_iff_getElem?.1 hm
   rw [List.getElem?_take] at hk
   split at hk
   ·obtain ⟨k1,k2⟩:=Ol hk
    obtain ⟨i1,i2⟩:=Ol hx
    have e1:=hT.nodup.idxOf_getElem k k1
    have e2:=hT.nodup.idxOf_getElem i i1
    rw [k2] at e1
    rw [i2] at e2
    omega
   ·cases hk
  have hD0:iA D x 0=D:=by
   funext q
   unfold iA
   split
   ·rename_i e;rw [e,hC.rest x hTx]
   ·rfl
  have hql:(gl.Parts.map eG).length=gl.Parts.length:=Ou ..
  have hqn:=hf.parts gl hgm
  refine aJ [1,7,8,10,31,32,33,53,54] (α:=Nat) (fun j=>[(55,aG j)]) (fun j=>j≤gl.Parts.length) (fun j=>[(bp,.box (eC f.Glyphs.length (iA P x (pF P (gl.Parts.take j) gl.Points.length))) 3),(bd,.box (eC f.Glyphs.length (iA D x (dF D (gl.Parts.take j)))) 3)]) (fun j=>gl.Parts.length - j) 0 rfl ⟨rfl,trivial⟩ (Nat.zero_le _) (fun _ _ h=>by rw [List.take_zero,show dF D []=0 from rfl,hD0];exact h) fun j hj=>?_
  try dsimp only [Oq,Oo,Om,Oh]
  refine W01 ?_
  refine aw rfl (fun h=>?_) (fun h=>?_)
  ·have hjl:j < gl.Parts.length:=by have:=Oy h;omega
   obtain ⟨q,hq⟩:∃q,gl.Parts[j]?=some q:=⟨_,Oz hjl⟩
   have hqg:=c7 (c:=eG) hq
   have hqr:=qw.1 (hf.there gl hgm q (Ow hq))
   have hne:q.Glyph≠x:=fun e=>by
    have h1:=hT.topo i x hx q.Glyph (by rw [uS hf hgl];exact List.mem_map_of_mem (Ow hq))
    rw [e] at h1
    exact hTx h1
   have hc1:(eC f.Glyphs.length (iA D x (dF D (gl.Parts.take j))))[0+x.toNat * 1]?=some (aG (dF D (gl.Parts.take j))):=by rw [k8 hxr.1 hxr.2,m6]
   have hc2:(eC f.Glyphs.length (iA D x (dF D (gl.Parts.take j))))[0+q.Glyph.toNat * 1]?=some (aG (D q.Glyph)):=by rw [k8 hqr.1 hqr.2,kL hne]
   have hc3:(eC f.Glyphs.length (iA P x (pF P (gl.Parts.take j) gl.Points.length)))[0+x.toNat * 1]?=some (aG (pF P (gl.Parts.take j) gl.Points.length)):=by rw [k8 hxr.1 hxr.2,m6]
   have hc4:(eC f.Glyphs.length (iA P x (pF P (gl.Parts.take j) gl.Points.length)))[0+q.Glyph.toNat * 1]?=some (aG (P q.Glyph)):=by rw [k8 hqr.1 hqr.2,kL hne]
   have hDq:=hC.deep q.Glyph
   have hPq:=hC.many q.Glyph
   have hPj:=IX (k:=(gl.Points.length:Int)) hC.many (by omega) (gl.Parts.take j)
   clear h
   repeat' (first|refine O1 ?_|refine ak ?_|refine OE a7 KN ?_|(apply aV;first|refine aU a7 ?_|refine aN a7 ?_)|(apply aO;first|refine OG 7 a7 0 OD ?_|refine OG 7 a7 1 OD ?_|refine OG 7 a7 2 OD ?_|refine OG 8 a7 0 OD ?_|refine OG 8 a7 1 OD ?_|refine OG 8 a7 2 OD ?_|refine OG 12 a7 0 OD ?_|refine OG 12 a7 1 OD ?_|refine OG 12 a7 2 OD ?_|refine OF a7 0 OC ?_|refine OF a7 1 OC ?_|refine OF a7 2 OC ?_|refine OF a7 3 OC ?_|fail)|refine bi a7 fun _=>?_|fail)
   refine bk 13 [(0,.v),(1,.v),(2,.v),(3,.v),(4,.v),(5,.l),(6,.v),(7,.v),(8,.v),(9,.v),(10,.l),(11,.v),(12,.v)] none ?_ trivial rfl (by kernel_rfl) (by kernel_rfl) (by kernel_rfl) mixed (by kernel_rfl) rfl
   refine W06 ?_
   refine c5 a7 rfl rfl rfl hxr trivial ?_
   repeat' (first|refine aE ?_|fail)
   refine cW a7 1 rfl rfl rfl hc1 trivial ?_
   refine W06 ?_
   refine c5 a7 rfl rfl rfl hqr trivial ?_
   repeat' (first|refine aE ?_|fail)
   refine cW a7 1 rfl rfl rfl hc2 trivial ?_
   refine W0q ?_
   refine OO [1,7,8,10,12,31,32,33,53,54,55,59,60,71] KN ?_
   refine W0i ?_
   refine ai a7 1 rfl rfl rfl rfl rfl rfl (by rw [Nat.ble_eq,k9];show _+1≤_;omega) ?_
   rw [gu,mx hxr.1 hxr.2,tY,←GN hq]
   repeat' (first|refine O1 ?_|fail)
   refine bk 13 [(0,.v),(1,.v),(2,.v),(3,.v),(4,.v),(5,.l),(6,.v),(7,.v),(8,.v),(9,.v),(10,.l),(11,.v),(12,.v)] none ?_ trivial rfl (by kernel_rfl) (by kernel_rfl) (by kernel_rfl) mixed (by kernel_rfl) rfl
   refine W06 ?_
   refine c5 a7 rfl rfl rfl hxr trivial ?_
   repeat' (first|refine aE ?_|fail)
   refine cW a7 0 rfl rfl rfl hc3 trivial ?_
   refine W06 ?_
   refine c5 a7 rfl rfl rfl hqr trivial ?_
   repeat' (first|refine aE ?_|fail)
   refine cW a7 0 rfl rfl rfl hc4 trivial ?_
   refine W0q ?_
   refine OO [1,7,8,10,31,32,33,53,54,55,73,74,85] KN ?_
   refine W0i ?_
   refine ai a7 0 rfl rfl rfl rfl rfl rfl (by rw [Nat.ble_eq,k9];show _+1≤_;omega) ?_
   rw [gu,mx hxr.1 hxr.2,tY,←HQ hq]
   refine W02 ?_
   exact aD (j+1) rfl ⟨by rw [Ov];rfl,trivial⟩ (by omega) (by omega) (fun _ _ h=>h)
  ·have hjl:j=gl.Parts.length:=by have:=Ox h;omega
   subst hjl
   rw [List.take_length]
   refine W02 ?_
   exact aD (i+1,_,_) rfl ⟨by rw [Ov];rfl,trivial⟩ ⟨by dsimp only;omega,hC.next hf hT hx hgl⟩ (by dsimp only;omega) (fun _ _ h=>h)
 ·have hil:i=f.Glyphs.length:=by have:=Ox h;rw [hTi] at this;omega
  subst hil
  clear h
  have hdeep:l6 f D P:=by
   intro z h0 h1 gl hgl
   obtain ⟨j,hj⟩:=List.mem_iff_getElem?.1 (hall z h0 h1)
   exact hC.done j z (by have:=(Ol hj).1;omega) hj gl hgl
  have hcd:∀F:Int→Int,eC f.Glyphs.length F=(aL ((cQ f.Glyphs.length).map F)).flatten:=fun F=>by rw [tz];unfold eC;rw [List.map_map];rfl
  have hcl:∀F:Int→Int,(aL ((cQ f.Glyphs.length).map F)).length=f.Glyphs.length:=fun F=>by rw [aP,Ou,f4]
  refine bM (tW (t:=7) (sz:=1) (l:=aL ((cQ f.Glyphs.length).map D)) 1 rfl rfl (hcd D) (by simp [aL]) (hcl D) (by omega)) ?_
  refine bM (tW (t:=8) (sz:=1) (l:=aL ((cQ f.Glyphs.length).map P)) 1 rfl rfl (hcd P) (by simp [aL]) (hcl P) (by omega)) ?_
  refine W0f ?_
  refine bh [] _ (jA [⟨186,[.iptr [.imm 1 (aL ((cQ f.Glyphs.length).map D))]],[],(dx ((cQ f.Glyphs.length).map D) t6).1,(dx ((cQ f.Glyphs.length).map D) t6).2⟩,⟨189,[.iptr [.imm 1 (aL ((cQ f.Glyphs.length).map P))]],[],(dx ((cQ f.Glyphs.length).map P) tF).1,(dx ((cQ f.Glyphs.length).map P) tF).2⟩] ⟨⟨inferInstance,Bo _⟩,fun _=>⟨⟨inferInstance,Bp _⟩,fun _=>trivial⟩⟩) rfl rfl (Ok _) rfl fun c L1 hc=>?_
  rw [kw] at hc
  have hc:c=ct (py f.Glyphs.length D P):=hc
  subst hc
  unfold ct
  refine W01 ?_
  exact OQ NZ (.inl ⟨D,P,hdeep,hacy,rfl⟩)
end Go.Proofs.YtamjlkdanllgjaaGreatDoor
