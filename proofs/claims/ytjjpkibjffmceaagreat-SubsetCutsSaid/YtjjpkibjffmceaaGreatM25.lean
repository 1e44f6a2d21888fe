/-
  Fonts of plain numbers may be: what is wrong with them is nothing.
-/
import Derived.Test.YtjjpkibjffmceaaGreatM24
import Derived.Test.YtjjpkibjffmceaaGreatM13
import Derived.Test.YtjjpkibjffmceaaGreatM23
import Derived.Test.YtjjpkibjffmceaaGreatM20
import Derived.Test.YtjjpkibjffmceaaGreatM22
namespace Go.Proofs.YtjjpkibjffmceaaGreat
theorem mA {α:Type} {g:α→Nat} {l:List α} {k:Nat} (h:∀a∈l,g a≤k):(l.map g).sum≤l.length * k:=by
 induction l with
 | nil=>simp
 | cons b l ih=>
  rw [Jp,List.sum_cons,List.length_cons,Nat.succ_mul]
  have:=ih fun a ha=>h a (Js _ ha)
  have:=h b (List.mem_cons_self ..)
  omega
section
variable {f:aL}
theorem uk:∀n < 10,jl (dD n)=true∧(dD n).size≤16:=by decide
end
variable {f:aL} (h:fW f)
include h
theorem fW.del {i:Nat} {g:bL} (hi:f.Glyphs[i]?=some g):g.Points.length≤10∧g.Deltas.length≤33:=by
 have hg:=h.gly i g hi
 obtain ⟨k,hk,ho⟩:=hg.out
 have h1:=ho.len
 have h2:=hg.dels.len
 have h3:=h.regs
 dsimp only at h1
 refine ⟨by omega,Nat.le_trans h2 ?_⟩
 exact Nat.le_trans (Nat.mul_le_mul h3 (show g.Points.length+1≤11 by omega)) (by omega)
def Im (f:aL) (z:Int):Nat:=match f.Glyphs[z.toNat]? with | some g=>g.Parts.length | none=>0
def Ib (f:aL) (z:Int):Nat:=match f.Glyphs[z.toNat]? with | some g=>g.Points.length | none=>0
omit h in
theorem oN:∀s∈eO,gu s=true∧s.size≤8:=by decide
omit h in
theorem CA:fy.Pairwise (· < ·)∧∀z∈fy,0≤z∧z≤1114111:=by decide
omit h in
theorem fi.sets {n:Int} {k:Nat} {l:List (List Int)} (h:fi n k l):qD l≤k * 5:=by
 unfold qD
 refine Nat.le_trans (mA (k:=5) fun q hq=>?_) (Nat.mul_le_mul_right _ h.1)
 have:=(h.2 q hq).few
 omega
theorem fW.size:gS f≤1950:=by
 have hg:(f.Glyphs.map fZ).sum≤10 * 95:=by
  refine Nat.le_trans (mA (k:=95) fun g hg=>?_) (Nat.mul_le_mul_right _ h.glyN.2)
  obtain ⟨i,hi⟩:=List.mem_iff_getElem?.1 hg
  have h1:=h.del hi
  have h2:=h.gly i g hi
  have h3:=h2.hint.1
  have h4:g.Parts.length≤1:=by
   rcases h2.parts with e | ⟨_,x,y,e,_⟩
   ·rw [e];simp
   ·rw [e];simp
  obtain ⟨cl,_,han⟩:=h2.anch
  have h5:=han.sub.length_le
  simp only [Jt,g9,List.length_cons,List.length_nil] at h5
  have h6:g.Name.size≤16:=by rw [h2.name];exact (uk i (by have:=(Jo hi).1;have:=h.glyN;omega)).2
  unfold fZ
  omega
 have hl:(f.Lookups.map fun l=>i5 l.Rules).sum≤6 * 126:=by
  refine Nat.le_trans (mA (k:=126) fun l hl=>?_) (Nat.mul_le_mul_right _ h.looks.len)
  have h1:=h.looks.few l hl
  have:(l.Rules.map lS).sum≤3 * 41:=by
   refine Nat.le_trans (mA (k:=41) fun r hr=>?_) (Nat.mul_le_mul_right _ h1)
   obtain ⟨calls,h2,_⟩:=h.looks.rule l hl r hr
   have h3:=h2.back.sets
   have h4:=h2.ahead.sets
   have h5:=h2.ins.sets
   have h6:=h2.outs.1
   have h7:=h2.callsN
   unfold lS
   omega
  unfold i5
  omega
 have hf:(f.Funcs.map (·.length)).sum≤2 * 45:=Nat.le_trans (mA (k:=45) fun c hc=>(h.func c hc).1) (Nat.mul_le_mul_right _ h.funcs)
 have hfl:=h.featN.length_le
 simp only [Jt,eO,List.length_cons,List.length_nil] at hfl
 have ht:(f.Features.map Go.Proofs.YtjjpkibjffmceaaGreat.featN).sum≤8 * 6:=by
  refine Nat.le_trans (mA (k:=6) fun t ht=>?_) (Nat.mul_le_mul_right _ hfl)
  have h1:=(h.featL t ht).2.1
  have h2:=(oN _ (h.featN.subset (List.mem_map_of_mem ht))).2
  unfold Go.Proofs.YtjjpkibjffmceaaGreat.featN
  omega
 have hr:(f.Regions.map (·.length)).sum≤3 * 2:=Nat.le_trans (mA (k:=2) fun r hr=>by rw [(h.reg r hr).1];exact h.axes) (Nat.mul_le_mul_right _ h.regs)
 have:=h.glyN
 have:=h.chars
 have:=h.looks.len
 have:=h.axes
 have:=h.regs
 have:=h.funcs
 have:=h.cvt
 unfold gS
 omega
theorem fW.small:dP f:=Nat.le_trans h.size (by decide)
end Go.Proofs.YtjjpkibjffmceaaGreat
namespace Go.Proofs.YtjjpkibjffmceaaGreat
open Go.RowKit
attribute [local irreducible] AT cg AX AO Av Kt bJ eC DA du
theorem lF {l:List Int} {z n:Int} (hl:l.length≤1000) (h:di l z=some n):NB n:=by
 unfold di at h
 split at h
 ·rename_i hz
  cases h
  have:=List.idxOf_lt_length_of_mem hz
  exact ⟨by omega,by omega⟩
 ·cases h
theorem yb.rpr {n:Int} {l:List Int} (h:yb n l) (hn:n≤1000):Ad l:=⟨by have:=h.few;omega,fun z hz=>by have:=h.dom z hz;exact ⟨by omega,by omega⟩⟩
theorem fi.rspr {n:Int} {k:Nat} {l:List (List Int)} (h:fi n k l) (hn:n≤1000) (hk:k≤16):p5 l:=⟨by have:=h.1;omega,fun q hq=>(h.2 q hq).rpr hn⟩
theorem pu.rupr {n kind:Int} {calls:List Int} {r:cb} (h:pu n kind calls r) (hn:n≤1000) (hc:∀c∈calls,NB c):mL r where
 back:=h.back.rspr hn (by omega)
 ins:=h.ins.rspr hn (by omega)
 ahead:=h.ahead.rspr hn (by omega)
 out:=⟨by have:=h.outs.1;omega,fun z hz=>by have:=h.outs.2 z hz;exact ⟨by omega,by omega⟩⟩
 calls:=⟨by have:=h.callsN;omega,fun c hcm=>⟨by have:=(h.callsIn c hcm).1;have:=h.ins.1;exact ⟨by omega,by omega⟩,hc _ (h.callsIn c hcm).2⟩⟩
 x:=by have:=h.x;exact ⟨by omega,by omega⟩
theorem iT.cpr {k:Nat} {l:List ep} (h:iT k l) (hk:k≤50):Fk l:=⟨by have:=h.1;omega,fun x hx=>by
 have:=h.2 x hx
 unfold jF at this
 exact ⟨⟨by omega,by omega⟩,⟨by omega,by omega⟩⟩⟩
theorem vY {n:Nat} (h:n < 10):(dD n).size≤50:=by have:=(uk n h).2;omega
theorem tN:∀n < 2,(l8 ym n).size≤50:=by decide
theorem rq (n:Int) (hn:n≤1000):∀(l:List Int) (last:Int),-1≤last→fH n last l=true→∀z∈l,NB z
 | [],_,_,_,z,hz=>by cases hz
 | e::r,last,hl,h,z,hz=>by
  rw [fH] at h
  split at h
  ·cases h
  ·rename_i hc
   rcases List.mem_cons.1 hz with rfl | hz
   ·exact ⟨by omega,by omega⟩
   ·exact rq n hn r e (by omega) h z hz
section
variable {f:aL} (h:fW f)
include h
theorem fW.gpr {g:bL} (hg:g∈f.Glyphs):tk g:=by
 obtain ⟨i,hi⟩:=List.mem_iff_getElem?.1 hg
 have k:=h.gly i g hi
 have hd:=h.del hi
 have hN:=h.glyN
 have hil:i < f.Glyphs.length:=(Jo hi).1
 obtain ⟨c,hc,ho⟩:=k.out
 obtain ⟨cl,hcl,ha⟩:=k.anch
 refine ⟨by rw [k.name];exact vY (by omega),by have:=k.adv;exact ⟨by omega,by omega⟩,⟨by omega,fun p hp=>?_⟩,?_,?_,⟨?_,fun p hp=>?_⟩,⟨by omega,fun p hp=>?_⟩,k.hint.cpr (by omega)⟩
 ·have:=ho.pts p hp
  unfold wv at this
  exact ⟨⟨by omega,by omega⟩,⟨by omega,by omega⟩⟩
 ·have he:=ho.endl
  dsimp only at he
  have hk:=rq (g.Points.length) (by omega) g.Ends (-1) (by omega) ho.ends
  exact ⟨by omega,hk⟩
 ·rcases k.parts with e | ⟨_,x,y,e,hx,hy⟩
  ·rw [e];exact ⟨Nat.zero_le _,fun p hp=>by cases hp⟩
  ·rw [e]
   exact ⟨by simp,fun p hp=>by rw [Jl hp];exact ⟨⟨by dsimp only;omega,by dsimp only;omega⟩,⟨by dsimp only;omega,by dsimp only;omega⟩,⟨by dsimp only;omega,by dsimp only;omega⟩⟩⟩
 ·have:=ha.sub.length_le
  simp [g9] at this
  omega
 ·have hp':=ha.at' p hp
  have hm:xL p∈g9 cl:=ha.sub.subset (List.mem_map_of_mem hp)
  have hb:∀q∈g9 cl,(0≤q.1∧q.1≤4)∧0≤q.2∧q.2≤1:=by
   intro q hq
   simp only [g9,List.mem_cons,List.not_mem_nil,or_false] at hq
   rcases hq with rfl | rfl | rfl | rfl | rfl <;> simp <;> omega
  have:=hb _ hm
  unfold xL at this
  dsimp only at this
  exact ⟨⟨by omega,by omega⟩,⟨by omega,by omega⟩,⟨by omega,by omega⟩,⟨by omega,by omega⟩⟩
 ·have:=k.dels.dom p hp
  have:=h.regs
  exact ⟨⟨by omega,by omega⟩,⟨by omega,by omega⟩,⟨by omega,by omega⟩,⟨by omega,by omega⟩⟩
theorem fW.fpr:mG f:=by
 have hN:=h.glyN
 refine ⟨by have:=h.unit;exact ⟨by omega,by omega⟩,⟨by omega,fun g hg=>h.gpr hg⟩,⟨by have:=h.chars;omega,fun c hc=>⟨?_,by have:=h.charG c hc;exact ⟨by omega,by omega⟩⟩⟩,⟨by have:=h.looks.len;omega,fun l hl=>⟨by have:=h.looks.kinds l hl;exact ⟨by omega,by omega⟩,by have:=h.looks.few l hl;omega,fun r hr=>?_⟩⟩,⟨?_,fun t ht=>⟨?_,?_⟩⟩,⟨by have:=h.axes;omega,fun a ha=>⟨?_,?_⟩⟩,⟨by have:=h.regs;omega,fun r hr=>⟨by have:=(h.reg r hr).1;have:=h.axes;omega,fun t ht=>?_⟩⟩,⟨by have:=h.funcs;omega,fun c hc=>(h.func c hc).cpr (by omega)⟩,⟨by have:=h.cvt;omega,fun z hz=>by have:=h.cvtM z hz;exact ⟨by omega,by omega⟩⟩⟩
 ·have:=CA.2 _ (h.charR.subset (List.mem_map_of_mem hc))
  exact ⟨by omega,by omega⟩
 ·obtain ⟨calls,hr',hc⟩:=h.looks.rule l hl r hr
  refine hr'.rupr (by omega) fun c hcm=>?_
  obtain ⟨i,x,rfl,hx,_⟩:=hc c hcm
  have:=(Jo hx).1
  have:=h.looks.len
  exact ⟨by omega,by omega⟩
 ·have:=h.featN.length_le
  simp [eO] at this
  omega
 ·have:=(oN _ (h.featN.subset (List.mem_map_of_mem ht))).2
  omega
 ·obtain ⟨_,h2,h3⟩:=h.featL t ht
  exact ⟨by omega,fun z hz=>by have:=h3 z hz;have:=h.looks.len;exact ⟨by omega,by omega⟩⟩
 ·have hm:a.Name∈f.Axes.map eB.Name:=List.mem_map_of_mem ha
  rw [h.axisN] at hm
  obtain ⟨i,hi,e⟩:=List.mem_map.1 hm
  rw [←e]
  exact tN i (by have:=h.axes;have:=List.mem_range.1 hi;omega)
 ·obtain ⟨h1,h2,h3⟩:=h.axis a ha
  exact ⟨⟨by omega,by omega⟩,⟨by omega,by omega⟩,⟨by omega,by omega⟩⟩
 ·have ht':=(h.reg r hr).2 t ht
  unfold mD qP eL at ht'
  have: -64≤t.Start∧t.Start≤t.Peak∧t.Peak≤t.End∧t.End≤64:=by
   by_cases hc: -64≤t.Start∧t.Start≤t.Peak∧t.Peak≤t.End∧t.End≤64
   ·exact hc
   ·rw [decide_eq_true (.inl hc)] at ht'
    cases ht'
  exact ⟨⟨by omega,by omega⟩,⟨by omega,by omega⟩,⟨by omega,by omega⟩⟩
end
theorem kW {α β:Type} {w:α→Option β} {l:List α} {y:β} (h:y∈l.filterMap w):∃x∈l,w x=some y:=List.mem_filterMap.1 h
theorem vQ {l G:List Int} {w:Int→Option Int} (hl:l.length≤16) (hw:∀z n,w z=some n→NB n):Ad (l.filterMap w):=⟨Nat.le_trans (List.length_filterMap_le ..) hl,fun z hz=>by
 obtain ⟨x,_,hx⟩:=kW hz
 exact hw x z hx⟩
theorem tV {f:aL} {G:List Int} {ig:Bool} {z n:Int} (h:ec f G ig z=some n):di G z=some n:=by
 unfold ec at h
 split at h
 ·cases h
 ·exact h
theorem md {f:aL} {G:List Int} {ig:Bool} {l:List (List Int)} (h:p5 l) (hG:G.length≤1000):p5 (cR f G ig l):=⟨by unfold cR;rw [Jt];exact h.1,fun q hq=>by
 obtain ⟨s,hs,rfl⟩:=List.mem_map.1 hq
 exact vQ (G:=G) (h.2 s hs).1 fun z n hz=>lF hG (tV hz)⟩
theorem vF {f:aL} {G K:List Int} {l:bj} {r q:cb} (hr:mL r) (hG:G.length≤1000) (hK:K.length≤1000) (h:eb f G K l r=some q):mL q:=by
 unfold eb at h
 split at h
 ·cases h
 ·cases h
  refine ⟨md hr.back hG,md hr.ins hG,md hr.ahead hG,vQ (G:=G) ?_ fun z n hz=>lF hG hz,⟨Nat.le_trans (List.length_filterMap_le ..) hr.calls.1,fun c hc=>?_⟩,hr.x⟩
  ·unfold fA
   split
   ·rw [Jt]
    refine Nat.le_trans (List.length_filter_le ..) ?_
    rw [List.length_zip]
    have:=hr.out.1
    omega
   ·exact hr.out.1
  ·obtain ⟨x,hx,e⟩:=kW hc
   unfold eP at e
   obtain ⟨n,hn,rfl⟩:=Option.map_eq_some_iff.1 e
   exact ⟨(hr.calls.2 x hx).1,lF hK hn⟩
theorem Dr {f:aL} {rs:List Int} {fs:List ByteArray} {G K:List Int} (h:mG f) (hG:G.length≤f.Glyphs.length) (hK:K.length≤f.Lookups.length):mG (sf f rs fs G K):=by
 have hg:=h.glyphs.1
 have hl:=h.looks.1
 refine ⟨h.unit,⟨Nat.le_trans (List.length_filterMap_le ..) (by omega),fun g hgm=>?_⟩,⟨Nat.le_trans (List.length_filterMap_le ..) h.chars.1,fun c hc=>?_⟩,⟨Nat.le_trans (List.length_filterMap_le ..) (by omega),fun l hlm=>?_⟩,⟨Nat.le_trans (List.length_filterMap_le ..) h.feats.1,fun t ht=>?_⟩,h.axes,h.regs,h.funcs,h.cvt⟩
 ·obtain ⟨n,_,e⟩:=kW hgm
  obtain ⟨x,hx,rfl⟩:=Option.map_eq_some_iff.1 e
  have k:=h.glyphs.2 x (Jw hx)
  refine ⟨k.name,k.adv,k.pts,k.ends,⟨Nat.le_trans (List.length_filterMap_le ..) k.parts.1,fun p hp=>?_⟩,k.anchors,k.deltas,k.hint⟩
  obtain ⟨y,hy,e⟩:=kW hp
  unfold eQ at e
  obtain ⟨n,hn,rfl⟩:=Option.map_eq_some_iff.1 e
  have:=k.parts.2 y hy
  exact ⟨lF (by omega) hn,this.2⟩
 ·obtain ⟨y,hy,e⟩:=kW hc
  unfold f4 at e
  split at e
  ·obtain ⟨n,hn,rfl⟩:=Option.map_eq_some_iff.1 e
   exact ⟨(h.chars.2 y hy).1,lF (by omega) hn⟩
  ·cases e
 ·obtain ⟨n,_,e⟩:=kW hlm
  obtain ⟨x,hx,rfl⟩:=Option.map_eq_some_iff.1 e
  have k:=h.looks.2 x (Jw hx)
  refine ⟨k.kind,Nat.le_trans (List.length_filterMap_le ..) k.rules.1,fun r hr=>?_⟩
  obtain ⟨y,hy,e⟩:=kW hr
  exact vF (k.rules.2 y hy) (by omega) (by omega) e
 ·obtain ⟨y,hy,e⟩:=kW ht
  unfold dy at e
  split at e
  ·cases e
   have k:=h.feats.2 y hy
   exact ⟨k.1,vQ (G:=K) k.2.1 fun z n hz=>lF (by omega) hz⟩
  ·cases e
end Go.Proofs.YtjjpkibjffmceaaGreat
namespace Go.Proofs.YtjjpkibjffmceaaGreat
open Go.RowKit
attribute [local irreducible] AT cg AX AO Av Kt bJ eC DA du
variable (s:List Int) (hs:s.length≤1000000) (F:MF)
include hs
theorem cI (a:Nat) {n:Int} (hn:0 < n):0≤sn s a n∧sn s a n < n:=by
 have _:=hs
 clear hs
 unfold sn
 split
 ·rename_i x _
  exact ⟨Int.emod_nonneg x (by omega),Int.emod_lt_of_pos x hn⟩
 ·omega
def Hs (o:List eU×List Int):AV:= .agg [.imm 3 (o.1.map dC),.imm 1 (aS o.2)]
def jE (l:List ep):AV:= .imm 2 (l.map ea)
set_option maxHeartbeats 8000000 in
theorem wt (n fn:Int) (hn:0≤n∧n≤10000) (hf:fn≤10000):qW 95 [aP n,aP fn] s F (dp s n fn) jE:=by
 intro b m
 refine aX Tryz.func95 rfl Tryz.ntmps95 rfl fun B=>?_
 repeat' (first|refine go ?_|refine IG a6 EV ?_|(apply aW;refine aT ?_)|fail)
 refine dh ?_
 repeat' (first|refine go ?_|refine IG a6 EV ?_|(apply aW;refine aT ?_)|fail)
 refine dh ?_
 repeat' (first|refine go ?_|refine IG a6 EV ?_)
 refine dh ?_
 repeat' (first|refine go ?_|refine IG a6 EV ?_)
 refine dh ?_
 generalize e1:dr s (n+1) m=p1
 generalize e2:dr s (n+1) p1.2=p2
 generalize e3:dr s 2 p2.2=p3
 have hk:=cI s hs p3.2.a (n:=12) (by omega)
 have hk:0≤(dr s 12 p3.2).1∧(dr s 12 p3.2).1 < 12:=hk
 generalize e4:dr s 12 p3.2=p4 at hk ⊢
 repeat' (first|refine go ?_|refine am ?_|refine IG a6 EV ?_)
 refine au rfl (fun h=>?_) (fun h=>?_)
 ·have h:=Jy h
  repeat' (first|refine go ?_|refine IG a6 EV ?_|refine bG a6 ?_|fail)
  exact IM EV ⟨by simp [dp,cA,df,e1,e2,e3,e4,jE,ea,h],by simp [dp,cA,df,e1,e2,e3,e4,h]⟩
 have h0:=Jx h
 clear h
 repeat' (first|refine go ?_|refine IG a6 EV ?_)
 refine au rfl (fun h=>?_) (fun h=>?_)
 ·have h:=Jy h
  repeat' (first|refine go ?_|refine IG a6 EV ?_)
  refine dh ?_
  repeat' (first|refine go ?_|refine IG a6 EV ?_|refine bG a6 ?_|fail)
  exact IM EV ⟨by simp [dp,cA,df,e1,e2,e3,e4,jE,ea,h],by simp [dp,cA,df,e1,e2,e3,e4,h]⟩
 have h1:=Jx h
 clear h
 repeat' (first|refine go ?_|refine IG a6 EV ?_)
 refine au rfl (fun h=>?_) (fun h=>?_)
 ·have h:=Jy h
  rw [decide_eq_true h]
  repeat' (first|refine go ?_|refine IG a6 EV ?_|refine bG a6 ?_|refine cf rfl ?_)
  exact IM EV ⟨by simp [dp,cA,df,e1,e2,e3,e4,jE,ea,h],by simp [dp,cA,df,e1,e2,e3,e4,h]⟩
 have h2:=Jx h
 clear h
 repeat' (first|refine go ?_|refine IG a6 EV ?_)
 refine au rfl (fun h=>?_) (fun h=>?_)
 ·have h:=Jy h
  repeat' (first|refine go ?_|refine IG a6 EV ?_|refine bG a6 ?_|fail)
  exact IM EV ⟨by simp [dp,cA,df,e1,e2,e3,e4,jE,ea,h],by simp [dp,cA,df,e1,e2,e3,e4,h]⟩
 have h3:=Jx h
 clear h
 repeat' (first|refine go ?_|refine IG a6 EV ?_)
 refine au rfl (fun h=>?_) (fun h=>?_)
 ·have h:=Jy h
  repeat' (first|refine go ?_|refine IG a6 EV ?_)
  refine dh ?_
  have hz:=cI s hs p4.2.a (n:=200) (by omega)
  have hz:0≤(dr s 200 p4.2).1∧(dr s 200 p4.2).1 < 200:=hz
  repeat' (first|refine go ?_|refine IG a6 EV ?_|(apply aW;refine aT ?_)|refine bG a6 ?_|fail)
  exact IM EV ⟨by simp [dp,cA,df,e1,e2,e3,e4,jE,ea,h],by simp [dp,cA,df,e1,e2,e3,e4,h]⟩
 have h4:=Jx h
 clear h
 repeat' (first|refine go ?_|refine IG a6 EV ?_)
 refine au rfl (fun h=>?_) (fun h=>?_)
 ·have h:=Jy h
  repeat' (first|refine go ?_|refine IG a6 EV ?_|refine bG a6 ?_|fail)
  exact IM EV ⟨by simp [dp,cA,df,e1,e2,e3,e4,jE,ea,h],by simp [dp,cA,df,e1,e2,e3,e4,h]⟩
 have h5:=Jx h
 clear h
 repeat' (first|refine go ?_|refine IG a6 EV ?_)
 refine au rfl (fun h=>?_) (fun h=>?_)
 ·have h:=Jy h
  repeat' (first|refine go ?_|refine IG a6 EV ?_|refine bG a6 ?_|fail)
  exact IM EV ⟨by simp [dp,cA,df,e1,e2,e3,e4,jE,ea,h],by simp [dp,cA,df,e1,e2,e3,e4,h]⟩
 have h6:=Jx h
 clear h
 repeat' (first|refine go ?_|refine IG a6 EV ?_)
 refine au rfl (fun h=>?_) (fun h=>?_)
 ·have h:=Jy h
  repeat' (first|refine go ?_|refine IG a6 EV ?_|refine bG a6 ?_|fail)
  exact IM EV ⟨by simp [dp,cA,df,e1,e2,e3,e4,jE,ea,h],by simp [dp,cA,df,e1,e2,e3,e4,h]⟩
 have h7:=Jx h
 clear h
 repeat' (first|refine go ?_|refine IG a6 EV ?_)
 refine au rfl (fun h=>?_) (fun h=>?_)
 ·have h:=Jy h
  repeat' (first|refine go ?_|refine IG a6 EV ?_)
  refine au rfl (fun hf0=>?_) (fun hf0=>?_)
  ·have hf0:=Jy hf0
   repeat' (first|refine go ?_|refine IG a6 EV ?_)
   refine dh ?_
   repeat' (first|refine go ?_|refine IG a6 EV ?_|refine bG a6 ?_|fail)
   exact IM EV ⟨by simp [dp,cA,df,e1,e2,e3,e4,jE,ea,h,hf0],by simp [dp,cA,df,e1,e2,e3,e4,h,hf0]⟩
  ·have hf0:=Jx hf0
   repeat' (first|refine go ?_|refine IG a6 EV ?_|refine bG a6 ?_|fail)
   exact IM EV ⟨by simp [dp,cA,df,e1,e2,e3,e4,jE,ea,i6,h,hf0],by simp [dp,cA,df,e1,e2,e3,e4,i6,h,hf0]⟩
 have h8:=Jx h
 clear h
 repeat' (first|refine go ?_|refine IG a6 EV ?_)
 refine au rfl (fun h=>?_) (fun h=>?_)
 ·have h:=Jy h
  by_cases hf0:0 < fn
  ·repeat' (first|refine go ?_|refine IG a6 EV ?_)
   rw [decide_eq_true hf0]
   repeat' (first|refine go ?_|refine IG a6 EV ?_|refine IR EV ?_|(apply bH;first|refine IJ a6 0 ID ?_|refine IJ a6 1 ID ?_|refine IJ a6 2 ID ?_|refine IJ a6 3 ID ?_|refine IK a6 0 ID ?_|refine IK a6 1 ID ?_|refine IK a6 2 ID ?_|refine IL a6 1 IB (by assumption) rfl ?_|refine IL a6 0 IB (by assumption) rfl ?_|fail)|fail)
   refine au rfl (fun hl=>?_) (fun hl=>?_)
   ·have hl:=Jy hl
    repeat' (first|refine go ?_|refine IG a6 EV ?_|(apply bH;first|refine IJ a6 0 ID ?_|refine IJ a6 1 ID ?_|refine IJ a6 2 ID ?_|refine IJ a6 3 ID ?_|refine IK a6 0 ID ?_|refine IK a6 1 ID ?_|refine IK a6 2 ID ?_|refine IL a6 1 IB (by assumption) rfl ?_|refine IL a6 0 IB (by assumption) rfl ?_|fail)|(apply aW;refine aT ?_)|(apply aJ;first|refine IH a6 0 IE ?_|refine IH a6 1 IE ?_|refine IH a6 2 IE ?_|refine IH a6 3 IE ?_|fail))
    have hlt:=p4.2.lo.isLt
    have hlz:0 < p4.2.lo.val:=by omega
    have hcell:((p4.2.lo.val:Nat):Int) - 1=((p4.2.lo.val - 1:Nat):Int):=by omega
    rw [hcell]
    change cg _ _ _ _ _ _ _ _ _ [eJ b s F (Hi p4.2).2]
    repeat' (first|fail)
    refine dh ?_
    repeat' (first|refine IG a6 EV ?_)
    refine dh ?_
    repeat' (first|refine go ?_|refine IG a6 EV ?_|refine bG a6 ?_|fail)
    exact IM EV ⟨by simp [dp,cA,df,e1,e2,e3,e4,jE,ea,h,hf0,qb,hlz],by simp [dp,cA,df,e1,e2,e3,e4,h,hf0,qb,hlz]⟩
   ·have hl:=Jx hl
    have hl0:p4.2.lo.val=0:=by omega
    repeat' (first|refine go ?_|refine IG a6 EV ?_|refine bG a6 ?_|fail)
    exact IM EV ⟨by simp [dp,cA,df,e1,e2,e3,e4,jE,ea,i6,h,hf0,qb,hl0],by simp [dp,cA,df,e1,e2,e3,e4,i6,h,hf0,qb,hl0]⟩
  ·repeat' (first|refine go ?_|refine IG a6 EV ?_)
   rw [decide_eq_false hf0]
   repeat' (first|refine go ?_|refine IG a6 EV ?_|refine IT IC ?_|refine bG a6 ?_|refine bP rfl ?_)
   exact IM EV ⟨by simp [dp,cA,df,e1,e2,e3,e4,jE,ea,i6,h,hf0],by simp [dp,cA,df,e1,e2,e3,e4,i6,h,hf0]⟩
 have h9:=Jx h
 clear h
 repeat' (first|refine go ?_|refine IG a6 EV ?_)
 refine au rfl (fun h=>?_) (fun h=>?_)
 ·have h:=Jy h
  repeat' (first|refine go ?_|refine IG a6 EV ?_|refine bG a6 ?_|fail)
  exact IM EV ⟨by simp [dp,cA,df,e1,e2,e3,e4,jE,ea,h],by simp [dp,cA,df,e1,e2,e3,e4,h]⟩
 have h10:=Jx h
 clear h
 repeat' (first|refine go ?_|refine IG a6 EV ?_|refine bG a6 ?_|fail)
 exact IM EV ⟨by simp [dp,cA,df,e1,e2,e3,e4,jE,ea,i6,h0,h1,h2,h3,h4,h5,h6,h7,h8,h9,h10],by simp [dp,cA,df,e1,e2,e3,e4,i6,h0,h1,h2,h3,h4,h5,h6,h7,h8,h9,h10]⟩
end Go.Proofs.YtjjpkibjffmceaaGreat
namespace Go.Proofs.YtjjpkibjffmceaaGreat
open Go.RowKit
attribute [local irreducible] AT cg AX AO Av Kt bJ eC DA du
variable (s:List Int) (hs:s.length≤1000000) (F:MF)
include hs
set_option maxHeartbeats 2000000 in
theorem rE (n fn most:Int) (hn:0≤n∧n≤1000) (hf:fn≤1000) (hm:0 < most∧most≤6):qW 64 [aP n,aP fn,aP most] s F (n6 s n fn most) jE:=by
 intro b m
 refine aX Tryz.func64 rfl Tryz.ntmps64 rfl fun B=>?_
 repeat' (first|refine go ?_|refine IG a6 EV ?_)
 refine dh ?_
 have hk:=cI s hs m.a (n:=most) (by omega)
 have hk:0≤(dr s most m).1∧(dr s most m).1 < most:=hk
 generalize e1:dr s most m=p1 at hk ⊢
 obtain ⟨k,hkk⟩:∃k:Nat,p1.1=k:=⟨p1.1.toNat,by omega⟩
 have hlen:∀i,(fT s n fn i p1.2).1.length≤9 * i:=fun i=>(co.runs (fun i l=>iT (9 * i) l) i ⟨Nat.le_refl _,fun i hi=>by cases hi⟩ (fun i l _ h=>(rI s hn hf).bnd fun p hp=>co.ret ⟨by rw [List.length_append];have:=h.1;have:=hp.1;omega,fun x hx=>by
  rcases Jm hx with hx | hx
  ·exact h.2 x hx
  ·exact hp.2 x hx⟩) p1.2).1
 rw [hkk]
 repeat' (first|refine go ?_|refine am ?_|refine IG a6 EV ?_)
 refine bN (bo (t:=9) (c':= .vec none 2 []) rfl fun σ v h=>cO 2 h) ?_
 refine aO [0,1,2,10] (α:=Nat×Option (Nat×Nat)) (fun x=>[(11,aP x.1),(9,.vec x.2 2 ((fT s n fn x.1 p1.2).1.map ea))]) (fun x=>x.1≤k) (fun x=>eJ b s F (fT s n fn x.1 p1.2).2::tok x.2 74 2 ((fT s n fn x.1 p1.2).1.map ea).length) (fun x=>k - x.1) (0,none) rfl ⟨rfl,rfl,trivial⟩ (Nat.zero_le _) (fun _ _ h=>h) ?_
 rintro ⟨i,q⟩ hi
 dsimp only at hi ⊢
 try dsimp only [Jr,Jq,Jp,Jk]
 repeat' (first|refine go ?_|refine IG a6 EV ?_)
 refine au rfl (fun h=>?_) (fun h=>?_)
 ·have hil:i < k:=by have:=Jy h;omega
  have hstep:fT s n fn (i+1) p1.2=((fT s n fn i p1.2).1++(dp s n fn (fT s n fn i p1.2).2).1,(dp s n fn (fT s n fn i p1.2).2).2):=rfl
  have hl1:=hlen i
  have hl2:=hlen (i+1)
  rw [hstep] at hl2
  rw [List.length_append] at hl2
  generalize fT s n fn i p1.2=st at hl1 hl2 hstep ⊢
  repeat' (first|refine go ?_|refine am ?_|refine IG a6 EV ?_)
  refine uD (wt s hs F n fn (by omega) (by omega)) ?_
  generalize dp s n fn st.2=pc at hl2 hstep ⊢
  unfold jE
  refine IS a6 [eJ b s F pc.2] IC (List.perm_append_comm (l₁:=[eJ b s F pc.2])) (by simp;omega) (by simp;omega) rfl fun q'=>?_
  refine aK (aM List.perm_append_comm) ?_
  rw [←List.map_append]
  repeat' (first|refine go ?_|refine IG a6 EV ?_|(apply aW;refine aT ?_)|fail)
  exact aB (i+1,q') rfl ⟨by rw [Jv];rfl,by rw [hstep];rfl,trivial⟩ (by dsimp only;omega) (by dsimp only;omega) (fun _ _ h=>by dsimp only;rw [hstep];exact h)
 have hil:i=k:=by have:=Jx h;omega
 subst hil
 repeat' (first|refine go ?_|refine IG a6 EV ?_)
 refine ba (bM (L':=[eJ b s F (fT s n fn i p1.2).2]) (List.Sublist.cons_cons _ (List.nil_sublist _))) ?_
 refine ba (bo (t:=8) (c':= .imm 2 ((fT s n fn i p1.2).1.map ea)) rfl fun σ v h=>VR.im h) (IM EV ?_)
 have hv:n6 s n fn most m=fT s n fn i p1.2:=by
  unfold n6 cA
  rw [e1]
  dsimp only
  rw [hkk]
  rfl
 rw [hv]
 exact ⟨rfl,rfl⟩
end Go.Proofs.YtjjpkibjffmceaaGreat
namespace Go.Proofs.YtjjpkibjffmceaaGreat
open Go.RowKit
attribute [local irreducible] AT cg AX AO Av Kt bJ eC DA du
variable (s:List Int) (hs:s.length≤1000000) (F:MF)
include hs
abbrev bO:AV:= .sc (.slice none 0 0)
set_option maxHeartbeats 8000000 in
theorem sO:qW 96 [] s F (jQ s) Hs:=by
 intro b m
 refine aX Tryz.func96 rfl Tryz.ntmps96 rfl fun B=>?_
 repeat' (first|refine go ?_|refine IG a6 EV ?_|refine bc a6 fun _=>?_|fail)
 rename_i rb ob
 refine aK (aM (L':=eJ b s F m::(ob,.box [bO,bO] 57)::(rb,.box [bO,bO] 57)::[]) (List.perm_append_comm (l₁:=[_,_]))) ?_
 refine aK (bC 1 (cs':=[.vec none 3 [],.vec none 1 []]) rfl fun σ vs h=>mH.vrs (a:=[bO,bO]) (b:=[.vec none 3 [],.vec none 1 []]) ⟨dt.vecN 3,dt.vecN 1,trivial⟩ h) ?_
 refine dh ?_
 have hk:=cI s hs m.a (n:=3) (by omega)
 have hk:0≤(dr s 3 m).1∧(dr s 3 m).1 < 3:=hk
 generalize e1:dr s 3 m=p1 at hk ⊢
 obtain ⟨k,hkk⟩:∃k:Nat,p1.1=k:=⟨p1.1.toNat,by omega⟩
 rw [hkk]
 have hok:∀i,tu i (iE s i p1.2).1:=fun i=>uK s i p1.2
 repeat' (first|refine go ?_|refine am ?_|refine IG a6 EV ?_)
 refine aO [0,2,3,4] (α:=Nat×Option (Nat×Nat)×Option (Nat×Nat)) (fun x=>[(5,aP x.1)]) (fun x=>x.1≤k) (fun x=>eJ b s F (iE s x.1 p1.2).2::(ob,.box [.vec x.2.1 3 ((iE s x.1 p1.2).1.1.map dC),.vec x.2.2 1 (aS (iE s x.1 p1.2).1.2)] 57)::(rb,.box [bO,bO] 57)::(tok x.2.1 72 3 ((iE s x.1 p1.2).1.1.map dC).length++(tok x.2.2 3 1 (aS (iE s x.1 p1.2).1.2).length++[]))) (fun x=>k - x.1) (0,none,none) rfl ⟨rfl,trivial⟩ (Nat.zero_le _) (fun _ _ h=>by simpa [iE,it,df,tok,gn,aS] using h) ?_
 rintro ⟨i,q1,q2⟩ hi
 dsimp only at hi ⊢
 try dsimp only [Jr,Jq,Jp,Jk]
 repeat' (first|refine go ?_|refine IG a6 EV ?_)
 refine au rfl (fun h=>?_) (fun h=>?_)
 ·have hil:i < k:=by have:=Jy h;omega
  have hoi:=hok i
  have hoi1:=hok (i+1)
  have hstep:iE s (i+1) p1.2=cA (dr s 4) (fun k=>cA (o8 s (iE s i p1.2).1.1 (2+k).toNat) fun l=>df (l,(iE s i p1.2).1.2++[(l.length:Int) - 1])) (iE s i p1.2).2:=rfl
  rw [hstep] at hoi1
  generalize iE s i p1.2=st at hoi hoi1 hstep ⊢
  have hln:=hoi.len
  have hle:=hoi.endl
  repeat' (first|refine go ?_|refine am ?_|refine IG a6 EV ?_)
  refine dh ?_
  have hc:=cI s hs st.2.a (n:=4) (by omega)
  have hc:0≤(dr s 4 st.2).1∧(dr s 4 st.2).1 < 4:=hc
  unfold cA at hstep hoi1
  generalize dr s 4 st.2=p2 at hc hstep hoi1 ⊢
  obtain ⟨c,hcc⟩:∃k:Nat,2+p2.1=k:=⟨(2+p2.1).toNat,by omega⟩
  dsimp only at hstep hoi1
  rw [hcc] at hstep hoi1
  dsimp only [Int.toNat_natCast] at hstep hoi1
  repeat' (first|refine go ?_|refine am ?_|refine IG a6 EV ?_|(apply aW;refine aT ?_)|fail)
  rw [hcc]
  have hpt:∀j,(o8 s st.1.1 j p2.2).1.length=st.1.1.length+j:=fun j=>(xQ s st.1.1 hoi.pts j p2.2).1
  refine aO [0,2,3,4,5,6] (α:=Nat×Option (Nat×Nat)) (fun x=>[(7,aP x.1)]) (fun x=>x.1≤c) (fun x=>eJ b s F (o8 s st.1.1 x.1 p2.2).2::(ob,.box [.vec x.2 3 ((o8 s st.1.1 x.1 p2.2).1.map dC),.vec q2 1 (aS st.1.2)] 57)::(rb,.box [bO,bO] 57)::(tok x.2 72 3 ((o8 s st.1.1 x.1 p2.2).1.map dC).length++(tok q2 3 1 (aS st.1.2).length++[]))) (fun x=>c - x.1) (0,q1) rfl ⟨rfl,trivial⟩ (Nat.zero_le _) (fun _ _ h=>h) ?_
  rintro ⟨j,q⟩ hj
  dsimp only at hj ⊢
  try dsimp only [Jr,Jq,Jp,Jk]
  repeat' (first|refine go ?_|refine IG a6 EV ?_)
  refine au rfl (fun h=>?_) (fun h=>?_)
  ·have hjl:j < c:=by have:=Jy h;omega
   have hl0:=hpt j
   have hstep2:o8 s st.1.1 (j+1) p2.2=((o8 s st.1.1 j p2.2).1++[(Fg s j (o8 s st.1.1 j p2.2).2).1],(Fg s j (o8 s st.1.1 j p2.2).2).2):=rfl
   generalize o8 s st.1.1 j p2.2=u at hl0 hstep2 ⊢
   repeat' (first|refine go ?_|refine am ?_)
   refine dS [.cell (ob,0,.vec q 3 (u.1.map dC))] 19 [(0,.v),(1,.k),(2,.v),(6,.v),(10,.v),(11,.v),(3,.f),(4,.v),(5,.v),(7,.f),(8,.v),(9,.v),(12,.v),(13,.v),(14,.f),(15,.v),(16,.v),(17,.v),(18,.v)] none ?_ trivial rfl (by kernel_rfl) (by kernel_rfl) (by kernel_rfl) mixed (by kernel_rfl) rfl
   repeat' (first|refine aC ?_|refine aY a6 ?_|fail)
   refine eR a6 0 rfl rfl rfl (cj 1 rfl rfl cu) (by first | trivial | rfl) ?_
   repeat' (first|refine aC ?_|refine aY a6 ?_|fail)
   refine fj (cj 1 rfl rfl cu) ?_
   have hx:=cI s hs u.2.a (n:=21) (by omega)
   have hx:0≤(dr s 21 u.2).1∧(dr s 21 u.2).1 < 21:=hx
   generalize e2:dr s 21 u.2=x1 at hx ⊢
   repeat' (first|refine aC ?_|(apply fk;refine gF ?_)|fail)
   refine fj (cj 1 rfl rfl cu) ?_
   have hy:=cI s hs x1.2.a (n:=21) (by omega)
   have hy:0≤(dr s 21 x1.2).1∧(dr s 21 x1.2).1 < 21:=hy
   generalize e3:dr s 21 x1.2=y1 at hy ⊢
   repeat' (first|refine aC ?_|refine aY a6 ?_|(apply fk;refine gF ?_)|fail)
   by_cases hp:j=0
   ·rw [decide_eq_true (show ((j:Int)=0) by omega)]
    repeat' (first|refine aC ?_|refine iU rfl rfl ?_)
    refine FP rfl rfl ?_
    have hpd:Fg s j u.2=(⟨x1.1 * 50 - 100,y1.1 * 50 - 200,true⟩,y1.2):=by simp [Fg,cA,df,e2,e3,hp]
    rw [hpd] at hstep2
    dsimp only at hstep2
    repeat' (first|refine aC ?_|refine aY a6 ?_|refine dU a6 ?_|refine iU rfl rfl ?_)
    refine IQ [0,2,3,4,5,6,7,24,41] EV ?_
    repeat' (first|fail)
    refine IS a6 _ IC (fc (A:=[_,_,_])) (by simp;omega) (by simp;omega) rfl fun q'=>?_
    refine aK (aM (fc (A:=[_,_,_])).symm) ?_
    repeat' (first|refine go ?_|refine IG a6 EV ?_|(apply aW;refine aT ?_)|(apply aJ;first|refine IH a6 0 IE ?_|refine IH a6 1 IE ?_|refine IH a6 2 IE ?_|refine IH a6 3 IE ?_|fail))
    exact aB (j+1,q') rfl ⟨by rw [Jv];rfl,trivial⟩ (by dsimp only;omega) (by dsimp only;omega) (fun _ _ h=>by dsimp only;rw [hstep2];simpa [gn,iq,dC] using h)
   ·rw [decide_eq_false (show ¬((j:Int)=0) by omega)]
    repeat' (first|refine aC ?_|refine aY a6 ?_|fail)
    refine fj (cj 1 rfl rfl cu) ?_
    generalize e4:dr s 4 y1.2=z1
    have hpd:Fg s j u.2=(⟨x1.1 * 50 - 100,y1.1 * 50 - 200,decide (0 < z1.1)⟩,z1.2):=by simp [Fg,cA,df,e2,e3,e4,hp]
    rw [hpd] at hstep2
    dsimp only at hstep2
    repeat' (first|refine aC ?_|refine aY a6 ?_|refine dU a6 ?_|fail)
    refine IQ [0,2,3,4,5,6,7,24,41] EV ?_
    repeat' (first|fail)
    refine IS a6 _ IC (fc (A:=[_,_,_])) (by simp;omega) (by simp;omega) rfl fun q'=>?_
    refine aK (aM (fc (A:=[_,_,_])).symm) ?_
    repeat' (first|refine go ?_|refine IG a6 EV ?_|(apply aW;refine aT ?_)|(apply aJ;first|refine IH a6 0 IE ?_|refine IH a6 1 IE ?_|refine IH a6 2 IE ?_|refine IH a6 3 IE ?_|fail))
    exact aB (j+1,q') rfl ⟨by rw [Jv];rfl,trivial⟩ (by dsimp only;omega) (by dsimp only;omega) (fun _ _ h=>by dsimp only;rw [hstep2];simpa [gn,iq,dC] using h)
  have hjl:j=c:=by have:=Jx h;omega
  subst hjl
  have hjn:=hpt j
  generalize o8 s st.1.1 j p2.2=u at hjn hstep hoi1 ⊢
  have hul:(u.1.map dC).length=u.1.length:=Jt ..
  have hel:(aS st.1.2).length=st.1.2.length:=aF _
  repeat' (first|refine go ?_|refine IG a6 EV ?_|(apply bH;first|refine IJ a6 0 ID ?_|refine IJ a6 1 ID ?_|refine IJ a6 2 ID ?_|refine IJ a6 3 ID ?_|refine IK a6 0 ID ?_|refine IK a6 1 ID ?_|refine IK a6 2 ID ?_|refine IL a6 1 IB (by assumption) rfl ?_|refine IL a6 0 IB (by assumption) rfl ?_|fail)|(apply aW;refine aT ?_)|refine bG a6 ?_|fail)
  refine IS a6 _ IC (Hu (A:=[_,_,_])) (by simp [aF];omega) (by simp [aF];omega) rfl fun q'=>?_
  refine aK (aM (Hu (A:=[_,_,_])).symm) ?_
  repeat' (first|refine go ?_|refine IG a6 EV ?_|(apply aW;refine aT ?_)|(apply aJ;first|refine IH a6 0 IE ?_|refine IH a6 1 IE ?_|refine IH a6 2 IE ?_|refine IH a6 3 IE ?_|fail))
  exact aB (i+1,q,q') rfl ⟨by rw [Jv];rfl,trivial⟩ (by dsimp only;omega) (by dsimp only;omega) (fun _ _ h=>by dsimp only;rw [hstep];simpa [gn,iq,df,aS,hul] using h)
 have hil:i=k:=by have:=Jx h;omega
 subst hil
 have hv:jQ s m=iE s i p1.2:=by
  unfold jQ cA
  rw [e1]
  dsimp only
  rw [hkk]
  rfl
 rw [hv]
 generalize iE s i p1.2=st
 repeat' (first|refine go ?_|(apply bH;first|refine IJ a6 0 ID ?_|refine IJ a6 1 ID ?_|refine IJ a6 2 ID ?_|refine IJ a6 3 ID ?_|refine IK a6 0 ID ?_|refine IK a6 1 ID ?_|refine IK a6 2 ID ?_|refine IL a6 1 IB (by assumption) rfl ?_|refine IL a6 0 IB (by assumption) rfl ?_|fail)|(apply aJ;first|refine IH a6 0 IE ?_|refine IH a6 1 IE ?_|refine IH a6 2 IE ?_|refine IH a6 3 IE ?_|fail))
 refine ba (bC 2 (cs':=[.imm 3 (st.1.1.map dC),.imm 1 (aS st.1.2)]) rfl fun σ vs h=>mH.vrs (a:=[.vec q1 3 (st.1.1.map dC),.vec q2 1 (aS st.1.2)]) (b:=[.imm 3 (st.1.1.map dC),.imm 1 (aS st.1.2)]) ⟨dt.im,dt.im,trivial⟩ h) (jh a6 2 [eJ b s F st.2] rfl rfl rfl rfl rfl (List.Sublist.cons_cons _ (List.nil_sublist _)) ⟨rfl,rfl⟩)
end Go.Proofs.YtjjpkibjffmceaaGreat
namespace Go.Proofs.YtjjpkibjffmceaaGreat
open Go.RowKit
attribute [local irreducible] AT cg AX AO Av Kt bJ eC DA du
variable (s:List Int) (hs:s.length≤1000000) (F:MF)
include hs
theorem BW (a:Int) (m:MS) (k:Nat):(fJ s a k m).1.length≤1+k:=by
 have _:=hs
 clear hs
 refine (co.runs (fun i (l:List Int)=>l.length≤1+i) k (by simp) fun i l _ h=>co.ite (fun _=>(co.any _).bnd fun z _=>co.ret ?_) fun _=>co.ret (by omega)) m
 split
 ·simp;omega
 ·omega
theorem zo (a:Int) (m:MS) {j:Nat} (h:4≤(fJ s a j m).1.length):∀k,j≤k→fJ s a k m=fJ s a j m:=by
 have _:=hs
 clear hs
 intro k hk
 induction k with
 | zero=>rw [show j=0 by omega]
 | succ k ih=>
  by_cases e:j=k+1
  ·rw [e]
  ·have h1:=ih (by omega)
   have h2:fJ s a (k+1) m=(if (fJ s a k m).1.length < 4 then cA (dr s 3) fun z=>df (if z=0 then (fJ s a k m).1++[a+1+k] else (fJ s a k m).1) else df (fJ s a k m).1) (fJ s a k m).2:=rfl
   rw [h2,h1,if_neg (by omega)]
   rfl
def Ew (l:List Int):AV:= .imm 1 (aS l)
def Cr (l:List (List Int)):AV:= .imm 1 (bw l)
set_option maxHeartbeats 4000000 in
theorem qB {kg:Option (Nat×Nat)} {gl:List (List AV)} (hF:F.gl= .vec kg 9 gl) (n:Nat) (hn:gl.length=n) (h0:0 < n∧n≤1000):qW 153 [] s F (nw s n) Ew:=by
 intro b m
 refine aX Tryz.func153 rfl Tryz.ntmps153 rfl fun B=>?_
 repeat' (first|refine go ?_|refine IG a6 EV ?_|(apply bH;first|refine IJ a6 0 ID ?_|refine IJ a6 1 ID ?_|refine IJ a6 2 ID ?_|refine IJ a6 3 ID ?_|refine IK a6 0 ID ?_|refine IK a6 1 ID ?_|refine IK a6 2 ID ?_|refine IL a6 1 IB (by assumption) rfl ?_|refine IL a6 0 IB (by assumption) rfl ?_|fail)|fail)
 rw [hF]
 repeat' (first|refine go ?_|refine IG a6 EV ?_)
 rw [hn]
 refine dh ?_
 have hk:=cI s hs m.a (n:=n) (by omega)
 have hk:0≤(dr s n m).1∧(dr s n m).1 < n:=hk
 generalize e1:dr s n m=p1 at hk ⊢
 repeat' (first|refine go ?_|refine am ?_|refine IG a6 EV ?_|(apply aW;refine aT ?_)|refine eK (d:=17) a6 fun _=>?_|fail)
 rename_i kb
 refine bN (aM (L':=[eJ b s F p1.2]++(tok (some (kb,1)) 3 1 1++[])) (List.perm_append_comm (l₁:=[_]))) ?_
 have hmx:∀j,(fJ s p1.1 j p1.2).1.length≤1+j:=fun j=>BW s hs _ _ j
 refine aO [0,3] (α:=Nat×Option (Nat×Nat)) (fun x=>[(6,aP (p1.1+1+x.1)),(5,.vec x.2 1 (aS (fJ s p1.1 x.1 p1.2).1))]) (fun x=>x.1≤(n - (p1.1+1)).toNat) (fun x=>[eJ b s F (fJ s p1.1 x.1 p1.2).2]++(tok x.2 3 1 (aS (fJ s p1.1 x.1 p1.2).1).length++[])) (fun x=>(n - (p1.1+1)).toNat - x.1) (0,some (kb,1)) rfl ⟨by simp [cF],rfl,trivial⟩ (Nat.zero_le _) (fun _ _ h=>h) ?_
 rintro ⟨j,q⟩ hj
 dsimp only at hj ⊢
 have hl:=hmx j
 have hstop:=zo s hs p1.1 p1.2 (j:=j)
 have hstep:fJ s p1.1 (j+1) p1.2=(if (fJ s p1.1 j p1.2).1.length < 4 then cA (dr s 3) fun z=>df (if z=0 then (fJ s p1.1 j p1.2).1++[p1.1+1+j] else (fJ s p1.1 j p1.2).1) else df (fJ s p1.1 j p1.2).1) (fJ s p1.1 j p1.2).2:=rfl
 have hv:nw s n m=fJ s p1.1 (n - (p1.1+1)).toNat p1.2:=by
  unfold nw cA
  rw [e1]
 generalize e2:fJ s p1.1 j p1.2=st at hl hstop hstep ⊢
 have hil:(aS st.1).length=st.1.length:=aF _
 try dsimp only [Jr,Jq,Jp,Jk]
 repeat' (first|refine go ?_|refine IG a6 EV ?_)
 by_cases hlt:p1.1+1+(j:Int) < (n:Int)
 ·rw [decide_eq_true hlt]
  repeat' (first|refine go ?_|refine IG a6 EV ?_|refine IR EV ?_)
  refine au rfl (fun h=>?_) (fun h=>?_)
  ·have h4:st.1.length < 4:=by have:=Jy h;omega
   repeat' (first|refine go ?_|refine am ?_|refine IG a6 EV ?_)
   rw [if_pos h4] at hstep
   unfold cA at hstep
   refine dh ?_
   generalize dr s 3 st.2=z at hstep ⊢
   dsimp only at hstep
   repeat' (first|refine go ?_|refine IG a6 EV ?_)
   refine au rfl (fun hz=>?_) (fun hz=>?_)
   ·rw [if_pos (Jy hz)] at hstep
    repeat' (first|refine go ?_|refine IG a6 EV ?_|refine bG a6 ?_|fail)
    refine IS a6 _ IC (fc (A:=[_])) (by simp [aF];omega) (by simp [aF];omega) rfl fun q'=>?_
    refine aK (aM (fc (A:=[_])).symm) ?_
    repeat' (first|refine go ?_|refine IG a6 EV ?_|(apply aW;refine aT ?_)|fail)
    exact aB (j+1,q') rfl ⟨by dsimp only;rw [show p1.1+1+((j+1:Nat):Int)=p1.1+1+(j:Int)+1 by omega];rfl,by rw [hstep];dsimp only [df];rw [show aS (st.1++[p1.1+1+(j:Int)])=aS st.1++[[aP (p1.1+1+(j:Int))]] from List.map_append ..];rfl,trivial⟩ (by dsimp only;omega) (by dsimp only;omega) (fun _ _ h=>by dsimp only;rw [hstep];simpa [df,aS] using h)
   ·rw [if_neg (Jx hz)] at hstep
    repeat' (first|refine go ?_|refine IG a6 EV ?_|(apply aW;refine aT ?_)|fail)
    exact aB (j+1,q) rfl ⟨by dsimp only;rw [show p1.1+1+((j+1:Nat):Int)=p1.1+1+(j:Int)+1 by omega];rfl,by rw [hstep];rfl,trivial⟩ (by dsimp only;omega) (by dsimp only;omega) (fun _ _ h=>by dsimp only;rw [hstep];simpa [df] using h)
  ·have h4:¬st.1.length < 4:=by have:=Jx h;omega
   repeat' (first|refine go ?_|refine IG a6 EV ?_)
   refine ba (bM (L':=[eJ b s F st.2]) (List.Sublist.cons_cons _ (List.nil_sublist _))) ?_
   refine ba (bo (t:=2) (c':= .imm 1 (aS st.1)) rfl fun σ v h=>VR.im h) (IM EV ?_)
   rw [hv,hstop (by omega) _ hj]
   exact ⟨rfl,rfl⟩
 ·rw [decide_eq_false hlt]
  repeat' (first|refine go ?_|refine IG a6 EV ?_|refine IT IC ?_|refine bP rfl ?_)
  refine ba (bM (L':=[eJ b s F st.2]) (List.Sublist.cons_cons _ (List.nil_sublist _))) ?_
  refine ba (bo (t:=2) (c':= .imm 1 (aS st.1)) rfl fun σ v h=>VR.im h) (IM EV ?_)
  rw [hv,show (n - (p1.1+1)).toNat=j by omega,e2]
  exact ⟨rfl,rfl⟩
theorem gg (l:List (List Int)):(bw l).length=l.length:=by
 have _:=hs
 clear hs
 simp [bw]
set_option maxHeartbeats 2000000 in
theorem nr {kg:Option (Nat×Nat)} {gl:List (List AV)} (hF:F.gl= .vec kg 9 gl) (n:Nat) (hn:gl.length=n) (h0:0 < n∧n≤1000) (most:Int) (hm:0≤most∧most≤6):qW 154 [aP most] s F (pb s n most) Cr:=by
 intro b m
 refine aX Tryz.func154 rfl Tryz.ntmps154 rfl fun B=>?_
 repeat' (first|refine go ?_|refine IG a6 EV ?_|(apply aW;refine aT ?_)|fail)
 refine dh ?_
 have hk:=cI s hs m.a (n:=most+1) (by omega)
 have hk:0≤(dr s (most+1) m).1∧(dr s (most+1) m).1 < most+1:=hk
 generalize e1:dr s (most+1) m=p1 at hk ⊢
 obtain ⟨k,hkk⟩:∃k:Nat,p1.1=k:=⟨p1.1.toNat,by omega⟩
 rw [hkk]
 have hln:∀j,(iF s n j p1.2).1.length=j:=fun j=>by
  induction j with
  | zero=>rfl
  | succ j ih=>
   have:iF s n (j+1) p1.2=((iF s n j p1.2).1++[(nw s n (iF s n j p1.2).2).1],(nw s n (iF s n j p1.2).2).2):=rfl
   rw [this]
   simp [ih]
 repeat' (first|refine go ?_|refine am ?_|refine IG a6 EV ?_)
 refine bN (bo (t:=5) (c':= .vec none 1 []) rfl fun σ v h=>cO 1 h) ?_
 refine aO [0,6] (α:=Nat×Option (Nat×Nat)) (fun x=>[(7,aP x.1),(5,.vec x.2 1 (bw (iF s n x.1 p1.2).1))]) (fun x=>x.1≤k) (fun x=>[eJ b s F (iF s n x.1 p1.2).2]++(tok x.2 22 1 (bw (iF s n x.1 p1.2).1).length++[])) (fun x=>k - x.1) (0,none) rfl ⟨rfl,rfl,trivial⟩ (Nat.zero_le _) (fun _ _ h=>h) ?_
 rintro ⟨j,q⟩ hj
 dsimp only at hj ⊢
 have hl:=hln j
 have hstep:iF s n (j+1) p1.2=((iF s n j p1.2).1++[(nw s n (iF s n j p1.2).2).1],(nw s n (iF s n j p1.2).2).2):=rfl
 try dsimp only [Jr,Jq,Jp,Jk]
 repeat' (first|refine go ?_|refine IG a6 EV ?_)
 refine au rfl (fun h=>?_) (fun h=>?_)
 ·have hjl:j < k:=by have:=Jy h;omega
  generalize iF s n j p1.2=st at hl hstep ⊢
  have hrl:=gg s hs st.1
  repeat' (first|refine go ?_|refine am ?_|refine IG a6 EV ?_)
  refine uD (qB s hs F hF n hn h0) ?_
  generalize nw s n st.2=y at hstep ⊢
  unfold Ew
  repeat' (first|refine bG a6 ?_|fail)
  refine IS a6 _ IC (fc (A:=[_])) (by simp [gg s hs];omega) (by simp [gg s hs];omega) rfl fun q'=>?_
  refine aK (aM (fc (A:=[_])).symm) ?_
  repeat' (first|refine go ?_|refine IG a6 EV ?_|(apply aW;refine aT ?_)|fail)
  exact aB (j+1,q') rfl ⟨by rw [Jv];rfl,by rw [hstep];dsimp only;rw [show bw (st.1++[y.1])=bw st.1++[[.imm 1 (aS y.1)]] from List.map_append ..];rfl,trivial⟩ (by dsimp only;omega) (by dsimp only;omega) (fun _ _ h=>by dsimp only;rw [hstep];simpa [bw] using h)
 have hjl:j=k:=by have:=Jx h;omega
 subst hjl
 have hv:pb s n most m=iF s n j p1.2:=by
  unfold pb cA
  rw [e1]
  dsimp only
  rw [hkk]
  rfl
 rw [hv]
 generalize iF s n j p1.2=st
 repeat' (first|refine go ?_|refine IG a6 EV ?_)
 refine ba (bM (L':=[eJ b s F st.2]) (List.Sublist.cons_cons _ (List.nil_sublist _))) ?_
 exact ba (bo (t:=4) (c':= .imm 1 (bw st.1)) rfl fun σ v h=>VR.im h) (IM EV ⟨rfl,rfl⟩)
end Go.Proofs.YtjjpkibjffmceaaGreat
