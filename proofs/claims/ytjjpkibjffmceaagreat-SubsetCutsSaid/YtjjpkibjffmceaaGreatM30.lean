/-
  The document: a font of which one thing is turned.
-/
import Derived.Test.YtjjpkibjffmceaaGreatM29
import Derived.Test.YtjjpkibjffmceaaGreatM22
import Derived.Test.YtjjpkibjffmceaaGreatM25
namespace Go.Proofs.YtjjpkibjffmceaaGreat
open Go.RowKit
attribute [local irreducible] AT cg AX AO Av Kt bJ eC DA du
def ie (f:aL) (g l:AV):List AV:=[aP f.Unit,g,.imm 2 (f.Chars.map cm),l,.imm 2 (f.Features.map bv),.imm 4 (f.Axes.map cC),.imm 1 (f.Regions.map bI),.imm 1 (f.Funcs.map cL),.imm 1 (aS f.Cvt)]
abbrev cq (b n c:Nat):AV:= .sc (.slice (some ⟨b,0,none⟩) n c)
def gQ:List AV:=[aP 0,bO,bO,bO,bO,bO,bO,bO,bO]
theorem eE {nt:Nat} {D:List Deferred} {B:Bs} {fr:cw} (f:aL) {bl bg b4 b2 gcap lcap:Nat} {gs ls:List AV} (G:List bL) (K:List bj) (hg:gs.take (G.length * 9)=(G.map bh).flatten) (g1:gs.length=gcap * 9) (g3:G.length≤gcap) (g4:gcap≤maxLen) (hl:ls.take (K.length * 3)=(K.map bi).flatten) (l1:ls.length=lcap * 3) (l3:K.length≤lcap) (l4:lcap≤maxLen):
  p6 nt D B fr [(bl,.box ls 77),(bg,.box gs 63),(b4,.box gQ 36),(b2,.box (ie f (cq bg G.length gcap) (cq bl K.length lcap)) 36)] fr [(b2,.box (ci { f with Glyphs:=G,Lookups:=K }) 36),(b4,.box gQ 36)]:=fun σ a w ha hw=>by
 have p1:([(bl,AB.box ls 77),(bg,.box gs 63),(b4,.box gQ 36),(b2,.box (ie f (cq bg G.length gcap) (cq bl K.length lcap)) 36)]:AL).Perm [(bl,.box ls 77),(b2,.box (ie f (cq bg G.length gcap) (cq bl K.length lcap)) 36),(bg,.box gs 63),(b4,.box gQ 36)]:=List.Perm.cons _ (List.perm_append_comm (l₁:=[_,_]) (l₂:=[_]))
 obtain ⟨τ,h1,h2⟩:=of (k:=3) (n:=K.length) (cap:=lcap) (sz:=3) (l:=K.map bi) rfl hl l1 (fun q hq=>by
  obtain ⟨x,_,rfl⟩:=List.mem_map.1 hq
  rfl) (Jt ..) l3 l4 σ a w ha (hw.perm p1)
 obtain ⟨τ',h3,h4⟩:=of (k:=1) (n:=G.length) (cap:=gcap) (sz:=9) (l:=G.map bh) rfl hg g1 (fun q hq=>by
  obtain ⟨x,_,rfl⟩:=List.mem_map.1 hq
  rfl) (Jt ..) g3 g4 τ a w h1 (h2.perm (List.Perm.swap _ _ _))
 exact ⟨τ',h3,h4⟩
theorem w3 {Gl:List bL} {gs:List AV} {i:Nat} {g:bL} (g':bL) (g2:gs.take (Gl.length * 9)=(Gl.map bh).flatten) (hg:Gl[i]?=some g) (c:Nat) (v:AV) (hc:c < 9) (he:(bh g).set c v=bh g'):(gs.set (i * 9+c) v).take ((Gl.set i g').length * 9)=((Gl.set i g').map bh).flatten:=by
 rw [List.length_set,xS v g2 (fun q hq=>by
  obtain ⟨x,_,rfl⟩:=List.mem_map.1 hq
  rfl) (bA hg) hc,he,List.map_set]
theorem Bt {Gl:List bL} {gs:List AV} {i:Nat} {g:bL} (g2:gs.take (Gl.length * 9)=(Gl.map bh).flatten) (hg:Gl[i]?=some g) (c:Nat) {v:AV} (hv:(bh g)[c]?=some v):gs[i * 9+c]?=some v:=xR g2 (fun q hq=>by
  obtain ⟨x,_,rfl⟩:=List.mem_map.1 hq
  rfl) (Jt ..) (bA hg) hv
theorem Ga {Gl:List bj} {gs:List AV} {i:Nat} {g:bj} (g':bj) (g2:gs.take (Gl.length * 3)=(Gl.map bi).flatten) (hg:Gl[i]?=some g) (c:Nat) (v:AV) (hc:c < 3) (he:(bi g).set c v=bi g'):(gs.set (i * 3+c) v).take ((Gl.set i g').length * 3)=((Gl.set i g').map bi).flatten:=by
 rw [List.length_set,xS v g2 (fun q hq=>by
  obtain ⟨x,_,rfl⟩:=List.mem_map.1 hq
  rfl) (bA hg) hc,he,List.map_set]
theorem Hj {Gl:List bj} {gs:List AV} {i:Nat} {g:bj} (g2:gs.take (Gl.length * 3)=(Gl.map bi).flatten) (hg:Gl[i]?=some g) (c:Nat) {v:AV} (hv:(bi g)[c]?=some v):gs[i * 3+c]?=some v:=xR g2 (fun q hq=>by
  obtain ⟨x,_,rfl⟩:=List.mem_map.1 hq
  rfl) (Jt ..) (bA hg) hv
theorem iS {α:Type} {p:α→Prop} {l:List α} {a:α} (h:∀x∈l,p x) (ha:p a):∀x∈l++[a],p x:=fun x hx=>by
 rcases Jm hx with hx | hx
 ·exact h x hx
 ·rw [Jl hx];exact ha
def sJ:List ByteArray:=[⟨#[]⟩,⟨#[97,32,98]⟩,⟨#[46,110,111,116,100,101,102]⟩,⟨#[49,97]⟩,⟨#[103,97]⟩,⟨#[111,107,45,110,97,109,101]⟩,⟨#[97,97,97,97,97,97,97,97,97,97,97,97,97,97,97,97,97]⟩]
def wn:List ByteArray:=[⟨#[108,105,103,97]⟩,⟨#[120]⟩,⟨#[116,111,111,108,111,110,103,110,97,109,101]⟩,⟨#[97,49]⟩,⟨#[]⟩]
theorem wo (i:Nat) (h:i < 5):∃s,wn[i]?=some s∧s.size≤50:=⟨_,Jz (show i < wn.length from h),(show ∀x∈wn,x.size≤50 by decide) _ (List.getElem_mem _)⟩
def wl:List ByteArray:=[⟨#[97,120,97]⟩,⟨#[113]⟩,⟨#[]⟩]
theorem wm (i:Nat) (h:i < 3):∃s,wl[i]?=some s∧s.size≤50:=⟨_,Jz (show i < wl.length from h),(show ∀x∈wl,x.size≤50 by decide) _ (List.getElem_mem _)⟩
theorem wp (i:Nat) (h:i < 7):∃s,sJ[i]?=some s∧s.size≤50:=⟨_,Jz (show i < sJ.length from h),(show ∀x∈sJ,x.size≤50 by decide) _ (List.getElem_mem _)⟩
theorem io {α:Type} (l:List α) (a:α):(l++[a]).length=l.length+1:=by simp
def r9 (n:Int):cb:=⟨[],[[n.tmod 5,n.tmod 7+1]],[],[n.tmod 6],[],n.tmod 2⟩
def ra (n:Int):cb:=⟨[],[[0],[1]],[],[],[⟨n.tmod 4 - 1,n.tmod 8 - 1⟩],0⟩
theorem xI {z:Int} (h: -1000≤z∧z≤1000):NB z:=⟨by omega,by omega⟩
theorem nv:p5 []:=⟨Nat.zero_le _,fun q hq=>by cases hq⟩
theorem EO {n:Int} (n1:0≤n) (n2:n < 100):mL (r9 n) where
 back:=nv
 ins:=⟨by simp [r9],fun q hq=>by
  rw [Jl hq]
  refine ⟨by simp,fun z hz=>?_⟩
  have h1:=dc n1 (b:=5) (by omega)
  have h2:=dc n1 (b:=7) (by omega)
  rcases List.mem_cons.1 hz with rfl | hz
  ·exact xI (by omega)
  ·rw [Jl hz];exact xI (by omega)⟩
 ahead:=nv
 out:=⟨by simp [r9],fun z hz=>by
  have h1:=dc n1 (b:=6) (by omega)
  rw [Jl hz];exact xI (by omega)⟩
 calls:=⟨Nat.zero_le _,fun q hq=>by cases hq⟩
 x:=by
  have h1:=dc n1 (b:=2) (by omega)
  exact xI (by show -1000≤n.tmod 2∧n.tmod 2≤1000;omega)
theorem EP {n:Int} (n1:0≤n) (n2:n < 100):mL (ra n) where
 back:=nv
 ins:=⟨by simp [ra],fun q hq=>by
  rcases List.mem_cons.1 hq with rfl | hq
  ·exact ⟨by simp,fun z hz=>by rw [Jl hz];exact xI (by omega)⟩
  ·rw [Jl hq]
   exact ⟨by simp,fun z hz=>by rw [Jl hz];exact xI (by omega)⟩⟩
 ahead:=nv
 out:=⟨Nat.zero_le _,fun q hq=>by cases hq⟩
 calls:=⟨by simp [ra],fun q hq=>by
  have h1:=dc n1 (b:=4) (by omega)
  have h2:=dc n1 (b:=8) (by omega)
  rw [Jl hq]
  exact ⟨xI (by dsimp only;omega),xI (by dsimp only;omega)⟩⟩
 x:=xI (by show -1000≤(0:Int)∧(0:Int)≤1000;omega)
theorem qx (l:List cb) {r:cb} {m:Nat} (h:lS r≤m) (hm:m≤29:=by decide):i5 (l++[r])≤i5 l+30:=by
 have:=ny lS l r
 unfold i5
 rw [io]
 omega
set_option maxHeartbeats 16000000 in
theorem ve (f:aL) (hf:fW f) (q0 q1 q2:Int):AC Tryz.prog 10 [cr f,.agg [aP q0,aP q1,aP q2]] [] fun c L=>(∃f',c=cr f'∧TG f')∧L=[]:=by
 refine aX Tryz.func10 rfl Tryz.ntmps10 rfl fun B=>?_
 obtain ⟨a1,a2⟩:=pq q2 (b:=100) (by omega)
 repeat' (first|refine go ?_|refine qk (d:=2) fun _=>?_|refine bD ?_|refine bc a6 fun _=>?_|fail)
 refine uB a6 2 ?_
 repeat' (first|refine go ?_|refine IG a6 EV ?_|refine gT ?_|(apply bH;first|refine IJ a6 0 ID ?_|refine IJ a6 1 ID ?_|refine IJ a6 2 ID ?_|refine IJ a6 3 ID ?_|refine IK a6 0 ID ?_|refine IK a6 1 ID ?_|refine IK a6 2 ID ?_|refine IL a6 1 IB (by assumption) rfl ?_|refine IL a6 0 IB (by assumption) rfl ?_|fail)|(apply aW;refine aT ?_)|refine C3 (d:=15) a6 rfl rfl fun _=>?_)
 obtain ⟨n1,n2⟩:=dc (a:=q2.tmod 100+100) (b:=100) (by omega) (by omega)
 generalize (q2.tmod 100+100).tmod 100=n at n1 n2 ⊢
 clear a1 a2
 have hN:=hf.glyN
 have hLk:=hf.looks.len
 have hml:(f.Glyphs.map bh).length=f.Glyphs.length:=Jt ..
 have hll:(f.Lookups.map bi).length=f.Lookups.length:=Jt ..
 rename_i b2 b4 b0
 refine qj a6 0 rfl rfl rfl rfl (va (u:= .imm 9 (f.Glyphs.map bh)) rfl rfl) rfl rfl (Nat.le_refl _) (Nat.zero_le _) (by unfold maxLen;omega) (by omega) rfl fun bg gs gcap g1 g2 g3 g4=>?_
 rw [show 0+(f.Glyphs.map bh).length=f.Glyphs.length by omega] at g2 g3 ⊢
 rw [show ([]:List AV).take (0 * 9)++(f.Glyphs.map bh).flatten=(f.Glyphs.map bh).flatten from rfl] at g2
 repeat' (first|refine go ?_|refine IG a6 EV ?_|(apply bH;first|refine IJ a6 0 ID ?_|refine IJ a6 1 ID ?_|refine IJ a6 2 ID ?_|refine IJ a6 3 ID ?_|refine IK a6 0 ID ?_|refine IK a6 1 ID ?_|refine IK a6 2 ID ?_|refine IL a6 1 IB (by assumption) rfl ?_|refine IL a6 0 IB (by assumption) rfl ?_|fail)|refine C3 (d:=19) a6 rfl rfl fun _=>?_)
 rename_i b1
 refine qj a6 0 rfl rfl rfl rfl (va (u:= .imm 3 (f.Lookups.map bi)) rfl rfl) rfl rfl (Nat.le_refl _) (Nat.zero_le _) (by unfold maxLen;omega) (by omega) rfl fun bl ls lcap l1 l2 l3 l4=>?_
 rw [show 0+(f.Lookups.map bi).length=f.Lookups.length by omega] at l2 l3 ⊢
 rw [show ([]:List AV).take (0 * 3)++(f.Lookups.map bi).flatten=(f.Lookups.map bi).flatten from rfl] at l2
 repeat' (first|refine go ?_|refine IG a6 EV ?_)
 refine bN (aM (L':=[(bl,.box ls 77),(bg,.box gs 63),(b4,.box gQ 36),(b2,.box (ci f) 36)]) (Jn _)) ?_
 refine au rfl (fun _=>?_) (fun h=>absurd (Jx h) (by omega))
 have hq:=pq q1 (b:=(f.Glyphs.length:Int)) (by omega)
 repeat' (first|refine go ?_|fail)
 refine uB a6 1 ?_
 repeat' (first|refine go ?_|refine IG a6 EV ?_|refine gT ?_|(apply aW;refine aT ?_)|fail)
 have hi:=dc (a:=q1.tmod f.Glyphs.length+f.Glyphs.length) (b:=(f.Glyphs.length:Int)) (by omega) (by omega)
 generalize (q1.tmod f.Glyphs.length+f.Glyphs.length).tmod f.Glyphs.length=gi at hi ⊢
 refine xd (α:=Nat) [2,3,4,5,6,7,8,9] (fun k=>[(2,.sc (.pointer (some ⟨b2,0,none⟩))),(3,.iptr [aP q0,aP q1,aP q2]),(4,.sc (.pointer (some ⟨b4,0,none⟩))),(5,aP n),(6,cq bg f.Glyphs.length gcap),(7,cq bl f.Lookups.length lcap),(8,aP gi),(9,aP (k:Int))]) (fun _=>[(bl,.box ls 77),(bg,.box gs 63),(b4,.box gQ 36),(b2,.box (ci f) 36)]) (fun k=>0 < f.Lookups.length→k < f.Lookups.length) (fun Q' K=>?_) fun k hk=>?_
 ·refine au rfl (fun h=>?_) (fun h=>?_)
  ·have h0:=Jy h
   have hq:=pq q1 (b:=(f.Lookups.length:Int)) (by omega)
   repeat' (first|refine go ?_|fail)
   refine uB a6 1 ?_
   repeat' (first|refine go ?_|refine IG a6 EV ?_|refine gT ?_|(apply aW;refine aT ?_)|fail)
   have hi:=dc (a:=q1.tmod f.Lookups.length+f.Lookups.length) (b:=(f.Lookups.length:Int)) (by omega) (by omega)
   generalize (q1.tmod f.Lookups.length+f.Lookups.length).tmod f.Lookups.length=k at hi ⊢
   obtain ⟨k,rfl⟩:∃m:Nat,k=m:=⟨k.toNat,by omega⟩
   exact K k _ (fun _=>by omega) rfl
  ·have h0:=Jx h
   repeat' (first|refine go ?_|fail)
   exact K 0 _ (fun h1=>absurd h1 (by omega)) rfl
 repeat' (first|refine go ?_|refine IG a6 EV ?_|(apply aJ;first|refine IH a6 0 IE ?_|refine IH a6 1 IE ?_|refine IH a6 2 IE ?_|refine IH a6 3 IE ?_|fail))
 refine uB a6 0 ?_
 obtain ⟨a1,a2⟩:=pq q0 (b:=16) (by omega)
 repeat' (first|refine go ?_|refine IG a6 EV ?_|refine gT ?_|(apply aW;refine aT ?_)|fail)
 obtain ⟨c1,c2⟩:=dc (a:=q0.tmod 16+16) (b:=16) (by omega) (by omega)
 generalize (q0.tmod 16+16).tmod 16=w at c1 c2 ⊢
 refine bN (aM (L':=[(bl,.box ls 77),(bg,.box gs 63),(b4,.box gQ 36),(b2,.box (ie f (cq bg f.Glyphs.length gcap) (cq bl f.Lookups.length lcap)) 36)]) (Jn _)) ?_
 obtain ⟨g,hg⟩:∃x,f.Glyphs[gi.toNat]?=some x:=⟨_,Jz (by omega)⟩
 have hgm:=Jw hg
 have hp:=hf.gpr hgm
 obtain ⟨e1,e2,e3,e4,e5⟩:=hf.gfew hgm
 have hgi:gi.toNat * 9+9≤gs.length:=by
  rw [g1]
  omega
 refine xd (α:=aL) [2,4] (fun _=>[(2,.sc (.pointer (some ⟨b2,0,none⟩))),(4,.sc (.pointer (some ⟨b4,0,none⟩)))]) (fun x=>[(b2,.box (ci x) 36),(b4,.box gQ 36)]) TG (fun Q' K=>?_) fun x hx=>?_
 ·repeat' (first|refine go ?_|refine am ?_|refine IG a6 EV ?_)
  refine au rfl (fun h=>?_) (fun h=>?_)
  ·clear h
   repeat' (first|refine go ?_|refine IG a6 EV ?_|(apply aW;refine aT ?_)|(apply aJ;first|refine IH a6 0 IE ?_|refine IH a6 1 IE ?_|refine IH a6 2 IE ?_|refine IH a6 3 IE ?_|fail))
   refine ba (eE ({ f with Unit:=n * 50 }) f.Glyphs f.Lookups g2 g1 g3 g4 l2 l1 l3 l4) ?_
   exact K { f with Unit:=n * 50 } _ (hf.tunit ⟨by omega,by omega⟩) rfl
  clear h
  repeat' (first|refine go ?_|refine IG a6 EV ?_)
  refine au rfl (fun h=>?_) (fun h=>?_)
  ·clear h
   repeat' (first|refine go ?_|refine IG a6 EV ?_)
   refine au rfl (fun _=>?_) (fun h=>absurd (Jx h) (by omega))
   have m7:=dc n1 (b:=7) (by omega)
   obtain ⟨s,hs,hs2⟩:=wp (n.tmod 7).toNat (by omega)
   have hsg:=jT hs
   repeat' (first|refine go ?_|refine IG a6 EV ?_|refine gT ?_|(apply aV;first|refine aU a6 ?_|refine aN a6 ?_)|refine bG a6 ?_|fail)
   refine aK (bo (t:=94) (c':= .imm 1 (gP sJ)) rfl fun σ v h=>h) ?_
   repeat' (first|fail)
   refine aj a6 1 rfl rfl rfl rfl rfl rfl (by rw [Nat.ble_eq];simp only;omega) ?_
   repeat' (first|refine go ?_|fail)
   have hst:=w3 ({ g with Name:=s }) g2 hg 0 (gW s) (by omega) rfl
   refine ba (aM (L':=[(bl,.box ls 77),(bg,.box (gs.set (gi.toNat * 9+0) (gW s)) 63),(b4,.box gQ 36),(b2,.box (ie f (cq bg (f.Glyphs.set gi.toNat ({ g with Name:=s })).length gcap) (cq bl f.Lookups.length lcap)) 36)]) (by rw [List.length_set,show gi.toNat * 9+0=0+gi.toNat * 9+0 by omega];exact Jn _)) ?_
   refine ba (eE f _ f.Lookups hst (by rw [List.length_set];exact g1) (by rw [List.length_set];exact g3) g4 l2 l1 l3 l4) ?_
   exact K _ _ (hf.tglyph hg { hp with name:=hs2 } (by unfold fZ;dsimp only;omega)) rfl
  clear h
  repeat' (first|refine go ?_|refine IG a6 EV ?_)
  refine au rfl (fun h=>?_) (fun h=>?_)
  ·clear h
   repeat' (first|refine go ?_|refine IG a6 EV ?_)
   refine au rfl (fun _=>?_) (fun h=>absurd (Jx h) (by omega))
   repeat' (first|refine go ?_|refine IG a6 EV ?_|(apply aW;refine aT ?_)|(apply aV;first|refine aU a6 ?_|refine aN a6 ?_)|fail)
   refine aj a6 1 rfl rfl rfl rfl rfl rfl (by rw [Nat.ble_eq];simp only;omega) ?_
   repeat' (first|refine go ?_|fail)
   have hst:=w3 ({ g with Advance:=(n - 10) * 300 }) g2 hg 1 (aP ((n - 10) * 300)) (by omega) rfl
   refine ba (aM (L':=[(bl,.box ls 77),(bg,.box (gs.set (gi.toNat * 9+1) (aP ((n - 10) * 300))) 63),(b4,.box gQ 36),(b2,.box (ie f (cq bg (f.Glyphs.set gi.toNat ({ g with Advance:=(n - 10) * 300 })).length gcap) (cq bl f.Lookups.length lcap)) 36)]) (by rw [List.length_set,show gi.toNat * 9+1=0+gi.toNat * 9+1 by omega];exact Jn _)) ?_
   refine ba (eE f _ f.Lookups hst (by rw [List.length_set];exact g1) (by rw [List.length_set];exact g3) g4 l2 l1 l3 l4) ?_
   exact K _ _ (hf.tglyph hg { hp with adv:=⟨by dsimp only;omega,by dsimp only;omega⟩ } (by unfold fZ;simp only;omega)) rfl
  clear h
  repeat' (first|refine go ?_|refine IG a6 EV ?_)
  refine au rfl (fun h=>?_) (fun h=>?_)
  ·clear h
   repeat' (first|refine go ?_|refine IG a6 EV ?_)
   refine au rfl (fun _=>?_) (fun h=>absurd (Jx h) (by omega))
   have hv:gs[0+gi.toNat * 9+3+1]?=some (.imm 1 (aS g.Ends)):=by rw [show 0+gi.toNat * 9+3+1=gi.toNat * 9+4 by omega];exact Bt g2 hg 4 rfl
   repeat' (first|refine go ?_|refine IG a6 EV ?_|(apply aV;first|refine aU a6 ?_|refine aN a6 ?_)|refine eK (d:=120) a6 fun _=>?_|fail)
   refine IL a6 2 IB hv rfl ?_
   repeat' (first|fail)
   refine IS a6 [(bl,.box ls 77),(bg,.box gs 63),(b4,.box gQ 36),(b2,.box (ie f (cq bg f.Glyphs.length gcap) (cq bl f.Lookups.length lcap)) 36)] IC (Jn _) (by simp only [List.length_nil,aF];omega) (by simp only [List.length_nil,aF];omega) rfl fun q1=>?_
   repeat' (first|refine IG a6 EV ?_|(apply aW;refine aT ?_)|refine bG a6 ?_|fail)
   refine IS a6 [(bl,.box ls 77),(bg,.box gs 63),(b4,.box gQ 36),(b2,.box (ie f (cq bg f.Glyphs.length gcap) (cq bl f.Lookups.length lcap)) 36)] IC (Jn _) (by simp only [List.length_append,List.length_cons,List.length_nil,aF];omega) (by simp only [List.length_append,List.length_cons,List.length_nil,aF];omega) rfl fun q2=>?_
   refine aK (bo (t:=131) (c':= .imm 1 (aS (g.Ends++[n - 2]))) rfl fun σ v h=>by have h':=VR.im h;rw [show aS (g.Ends++[n - 2])=[]++aS g.Ends++[_] by unfold aS;simp only [List.map_append,Jq];rfl];exact h') ?_
   refine aK (bM (L':=[(bl,.box ls 77),(bg,.box gs 63),(b4,.box gQ 36),(b2,.box (ie f (cq bg f.Glyphs.length gcap) (cq bl f.Lookups.length lcap)) 36)]) (List.sublist_append_right ..)) ?_
   repeat' (first|refine IG a6 EV ?_|(apply aV;first|refine aU a6 ?_|refine aN a6 ?_)|fail)
   refine aj a6 1 rfl rfl rfl rfl rfl rfl (by rw [Nat.ble_eq];simp only;omega) ?_
   repeat' (first|refine go ?_|fail)
   have hst:=w3 ({ g with Ends:=g.Ends++[n - 2] }) g2 hg 4 (.imm 1 (aS (g.Ends++[n - 2]))) (by omega) rfl
   refine ba (aM (L':=[(bl,.box ls 77),(bg,.box (gs.set (gi.toNat * 9+4) (.imm 1 (aS (g.Ends++[n - 2])))) 63),(b4,.box gQ 36),(b2,.box (ie f (cq bg (f.Glyphs.set gi.toNat ({ g with Ends:=g.Ends++[n - 2] })).length gcap) (cq bl f.Lookups.length lcap)) 36)]) (by rw [List.length_set,show gi.toNat * 9+4=0+gi.toNat * 9+3+1 by omega];exact Jn _)) ?_
   refine ba (eE f _ f.Lookups hst (by rw [List.length_set];exact g1) (by rw [List.length_set];exact g3) g4 l2 l1 l3 l4) ?_
   exact K _ _ (hf.tglyph hg { hp with ends:=⟨by rw [io];omega,iS hp.ends.2 ⟨by omega,by omega⟩⟩ } (by unfold fZ;simp only;omega)) rfl
  clear h
  repeat' (first|refine go ?_|refine IG a6 EV ?_)
  refine au rfl (fun h=>?_) (fun h=>?_)
  ·clear h
   repeat' (first|refine go ?_|refine IG a6 EV ?_)
   refine au rfl (fun _=>?_) (fun h=>absurd (Jx h) (by omega))
   have m12:=dc n1 (b:=12) (by omega)
   have hv:gs[0+gi.toNat * 9+5]?=some (.imm 3 ((g.Parts).map ct)):=by rw [show 0+gi.toNat * 9+5=gi.toNat * 9+5 by omega];exact Bt g2 hg 5 rfl
   repeat' (first|refine go ?_|refine IG a6 EV ?_|(apply aV;first|refine aU a6 ?_|refine aN a6 ?_)|refine eK (d:=142) a6 fun _=>?_|fail)
   refine IL a6 2 IB hv rfl ?_
   repeat' (first|fail)
   refine IS a6 [(bl,.box ls 77),(bg,.box gs 63),(b4,.box gQ 36),(b2,.box (ie f (cq bg f.Glyphs.length gcap) (cq bl f.Lookups.length lcap)) 36)] IC (Jn _) (by simp only [Jt,List.length_nil];omega) (by simp only [Jt,List.length_nil];omega) rfl fun q1=>?_
   repeat' (first|refine IG a6 EV ?_|refine gT ?_|(apply aW;refine aT ?_)|refine bG a6 ?_|fail)
   refine IS a6 [(bl,.box ls 77),(bg,.box gs 63),(b4,.box gQ 36),(b2,.box (ie f (cq bg f.Glyphs.length gcap) (cq bl f.Lookups.length lcap)) 36)] IC (Jn _) (by simp only [Jt,List.length_append,List.length_cons,List.length_nil];omega) (by simp only [Jt,List.length_append,List.length_cons,List.length_nil];omega) rfl fun q2=>?_
   refine aK (bo (t:=156) (c':= .imm 3 (((g.Parts++[(⟨n.tmod 12 - 1,n * 200,0⟩:cD)])).map ct)) rfl fun σ v h=>by have h':=VR.im h;rw [show ((g.Parts++[(⟨n.tmod 12 - 1,n * 200,0⟩:cD)])).map ct=[]++(g.Parts).map ct++[_] by simp only [List.map_append,Jq];rfl];exact h') ?_
   refine aK (bM (L':=[(bl,.box ls 77),(bg,.box gs 63),(b4,.box gQ 36),(b2,.box (ie f (cq bg f.Glyphs.length gcap) (cq bl f.Lookups.length lcap)) 36)]) (List.sublist_append_right ..)) ?_
   repeat' (first|refine IG a6 EV ?_|(apply aV;first|refine aU a6 ?_|refine aN a6 ?_)|fail)
   refine aj a6 1 rfl rfl rfl rfl rfl rfl (by rw [Nat.ble_eq];simp only;omega) ?_
   repeat' (first|refine go ?_|fail)
   have hst:=w3 ({ g with Parts:=g.Parts++[(⟨n.tmod 12 - 1,n * 200,0⟩:cD)] }) g2 hg 5 (.imm 3 (((g.Parts++[(⟨n.tmod 12 - 1,n * 200,0⟩:cD)])).map ct)) (by omega) rfl
   refine ba (aM (L':=[(bl,.box ls 77),(bg,.box (gs.set (gi.toNat * 9+5) (.imm 3 (((g.Parts++[(⟨n.tmod 12 - 1,n * 200,0⟩:cD)])).map ct))) 63),(b4,.box gQ 36),(b2,.box (ie f (cq bg (f.Glyphs.set gi.toNat ({ g with Parts:=g.Parts++[(⟨n.tmod 12 - 1,n * 200,0⟩:cD)] })).length gcap) (cq bl f.Lookups.length lcap)) 36)]) (by rw [List.length_set,show gi.toNat * 9+5=0+gi.toNat * 9+5 by omega];exact Jn _)) ?_
   refine ba (eE f _ f.Lookups hst (by rw [List.length_set];exact g1) (by rw [List.length_set];exact g3) g4 l2 l1 l3 l4) ?_
   exact K _ _ (hf.tglyph hg { hp with parts:=⟨by rw [io];omega,iS hp.parts.2 ⟨⟨by dsimp only;omega,by dsimp only;omega⟩,⟨by dsimp only;omega,by dsimp only;omega⟩,⟨by dsimp only;omega,by dsimp only;omega⟩⟩⟩ } (by unfold fZ;simp only [List.length_append,List.length_singleton];omega)) rfl
  clear h
  repeat' (first|refine go ?_|refine IG a6 EV ?_)
  refine au rfl (fun h=>?_) (fun h=>?_)
  ·clear h
   repeat' (first|refine go ?_|refine IG a6 EV ?_)
   refine au rfl (fun _=>?_) (fun h=>absurd (Jx h) (by omega))
   have m6:=dc n1 (b:=6) (by omega)
   have m5:=dc n1 (b:=5) (by omega)
   have hv:gs[0+gi.toNat * 9+6]?=some (.imm 4 ((g.Anchors).map cB)):=by rw [show 0+gi.toNat * 9+6=gi.toNat * 9+6 by omega];exact Bt g2 hg 6 rfl
   repeat' (first|refine go ?_|refine IG a6 EV ?_|(apply aV;first|refine aU a6 ?_|refine aN a6 ?_)|refine eK (d:=166) a6 fun _=>?_|fail)
   refine IL a6 2 IB hv rfl ?_
   repeat' (first|fail)
   refine IS a6 [(bl,.box ls 77),(bg,.box gs 63),(b4,.box gQ 36),(b2,.box (ie f (cq bg f.Glyphs.length gcap) (cq bl f.Lookups.length lcap)) 36)] IC (Jn _) (by simp only [Jt,List.length_nil];omega) (by simp only [Jt,List.length_nil];omega) rfl fun q1=>?_
   repeat' (first|refine IG a6 EV ?_|refine gT ?_|(apply aW;refine aT ?_)|refine bG a6 ?_|fail)
   refine IS a6 [(bl,.box ls 77),(bg,.box gs 63),(b4,.box gQ 36),(b2,.box (ie f (cq bg f.Glyphs.length gcap) (cq bl f.Lookups.length lcap)) 36)] IC (Jn _) (by simp only [Jt,List.length_append,List.length_cons,List.length_nil];omega) (by simp only [Jt,List.length_append,List.length_cons,List.length_nil];omega) rfl fun q2=>?_
   refine aK (bo (t:=181) (c':= .imm 4 (((g.Anchors++[(⟨n.tmod 6,n.tmod 5 - 1,n,0⟩:dv)])).map cB)) rfl fun σ v h=>by have h':=VR.im h;rw [show ((g.Anchors++[(⟨n.tmod 6,n.tmod 5 - 1,n,0⟩:dv)])).map cB=[]++(g.Anchors).map cB++[_] by simp only [List.map_append,Jq];rfl];exact h') ?_
   refine aK (bM (L':=[(bl,.box ls 77),(bg,.box gs 63),(b4,.box gQ 36),(b2,.box (ie f (cq bg f.Glyphs.length gcap) (cq bl f.Lookups.length lcap)) 36)]) (List.sublist_append_right ..)) ?_
   repeat' (first|refine IG a6 EV ?_|(apply aV;first|refine aU a6 ?_|refine aN a6 ?_)|fail)
   refine aj a6 1 rfl rfl rfl rfl rfl rfl (by rw [Nat.ble_eq];simp only;omega) ?_
   repeat' (first|refine go ?_|fail)
   have hst:=w3 ({ g with Anchors:=g.Anchors++[(⟨n.tmod 6,n.tmod 5 - 1,n,0⟩:dv)] }) g2 hg 6 (.imm 4 (((g.Anchors++[(⟨n.tmod 6,n.tmod 5 - 1,n,0⟩:dv)])).map cB)) (by omega) rfl
   refine ba (aM (L':=[(bl,.box ls 77),(bg,.box (gs.set (gi.toNat * 9+6) (.imm 4 (((g.Anchors++[(⟨n.tmod 6,n.tmod 5 - 1,n,0⟩:dv)])).map cB))) 63),(b4,.box gQ 36),(b2,.box (ie f (cq bg (f.Glyphs.set gi.toNat ({ g with Anchors:=g.Anchors++[(⟨n.tmod 6,n.tmod 5 - 1,n,0⟩:dv)] })).length gcap) (cq bl f.Lookups.length lcap)) 36)]) (by rw [List.length_set,show gi.toNat * 9+6=0+gi.toNat * 9+6 by omega];exact Jn _)) ?_
   refine ba (eE f _ f.Lookups hst (by rw [List.length_set];exact g1) (by rw [List.length_set];exact g3) g4 l2 l1 l3 l4) ?_
   exact K _ _ (hf.tglyph hg { hp with anchors:=⟨by rw [io];omega,iS hp.anchors.2 ⟨⟨by dsimp only;omega,by dsimp only;omega⟩,⟨by dsimp only;omega,by dsimp only;omega⟩,⟨by dsimp only;omega,by dsimp only;omega⟩,⟨by dsimp only;omega,by dsimp only;omega⟩⟩⟩ } (by unfold fZ;simp only [List.length_append,List.length_singleton];omega)) rfl
  clear h
  repeat' (first|refine go ?_|refine IG a6 EV ?_)
  refine au rfl (fun h=>?_) (fun h=>?_)
  ·clear h
   repeat' (first|refine go ?_|refine IG a6 EV ?_)
   refine au rfl (fun _=>?_) (fun h=>absurd (Jx h) (by omega))
   have m4:=dc n1 (b:=4) (by omega)
   have m7:=dc n1 (b:=7) (by omega)
   have m2:=dc n1 (b:=2) (by omega)
   have hv:gs[0+gi.toNat * 9+7]?=some (.imm 4 ((g.Deltas).map dm)):=by rw [show 0+gi.toNat * 9+7=gi.toNat * 9+7 by omega];exact Bt g2 hg 7 rfl
   repeat' (first|refine go ?_|refine IG a6 EV ?_|(apply aV;first|refine aU a6 ?_|refine aN a6 ?_)|refine eK (d:=191) a6 fun _=>?_|fail)
   refine IL a6 2 IB hv rfl ?_
   repeat' (first|fail)
   refine IS a6 [(bl,.box ls 77),(bg,.box gs 63),(b4,.box gQ 36),(b2,.box (ie f (cq bg f.Glyphs.length gcap) (cq bl f.Lookups.length lcap)) 36)] IC (Jn _) (by simp only [Jt,List.length_nil];omega) (by simp only [Jt,List.length_nil];omega) rfl fun q1=>?_
   repeat' (first|refine IG a6 EV ?_|refine gT ?_|(apply aW;refine aT ?_)|refine bG a6 ?_|fail)
   refine IS a6 [(bl,.box ls 77),(bg,.box gs 63),(b4,.box gQ 36),(b2,.box (ie f (cq bg f.Glyphs.length gcap) (cq bl f.Lookups.length lcap)) 36)] IC (Jn _) (by simp only [Jt,List.length_append,List.length_cons,List.length_nil];omega) (by simp only [Jt,List.length_append,List.length_cons,List.length_nil];omega) rfl fun q2=>?_
   refine aK (bo (t:=209) (c':= .imm 4 (((g.Deltas++[(⟨n.tmod 4 - 1,n.tmod 7 - 2,n,n.tmod 2⟩:dK)])).map dm)) rfl fun σ v h=>by have h':=VR.im h;rw [show ((g.Deltas++[(⟨n.tmod 4 - 1,n.tmod 7 - 2,n,n.tmod 2⟩:dK)])).map dm=[]++(g.Deltas).map dm++[_] by simp only [List.map_append,Jq];rfl];exact h') ?_
   refine aK (bM (L':=[(bl,.box ls 77),(bg,.box gs 63),(b4,.box gQ 36),(b2,.box (ie f (cq bg f.Glyphs.length gcap) (cq bl f.Lookups.length lcap)) 36)]) (List.sublist_append_right ..)) ?_
   repeat' (first|refine IG a6 EV ?_|(apply aV;first|refine aU a6 ?_|refine aN a6 ?_)|fail)
   refine aj a6 1 rfl rfl rfl rfl rfl rfl (by rw [Nat.ble_eq];simp only;omega) ?_
   repeat' (first|refine go ?_|fail)
   have hst:=w3 ({ g with Deltas:=g.Deltas++[(⟨n.tmod 4 - 1,n.tmod 7 - 2,n,n.tmod 2⟩:dK)] }) g2 hg 7 (.imm 4 (((g.Deltas++[(⟨n.tmod 4 - 1,n.tmod 7 - 2,n,n.tmod 2⟩:dK)])).map dm)) (by omega) rfl
   refine ba (aM (L':=[(bl,.box ls 77),(bg,.box (gs.set (gi.toNat * 9+7) (.imm 4 (((g.Deltas++[(⟨n.tmod 4 - 1,n.tmod 7 - 2,n,n.tmod 2⟩:dK)])).map dm))) 63),(b4,.box gQ 36),(b2,.box (ie f (cq bg (f.Glyphs.set gi.toNat ({ g with Deltas:=g.Deltas++[(⟨n.tmod 4 - 1,n.tmod 7 - 2,n,n.tmod 2⟩:dK)] })).length gcap) (cq bl f.Lookups.length lcap)) 36)]) (by rw [List.length_set,show gi.toNat * 9+7=0+gi.toNat * 9+7 by omega];exact Jn _)) ?_
   refine ba (eE f _ f.Lookups hst (by rw [List.length_set];exact g1) (by rw [List.length_set];exact g3) g4 l2 l1 l3 l4) ?_
   exact K _ _ (hf.tglyph hg { hp with deltas:=⟨by rw [io];omega,iS hp.deltas.2 ⟨⟨by dsimp only;omega,by dsimp only;omega⟩,⟨by dsimp only;omega,by dsimp only;omega⟩,⟨by dsimp only;omega,by dsimp only;omega⟩,⟨by dsimp only;omega,by dsimp only;omega⟩⟩⟩ } (by unfold fZ;simp only [List.length_append,List.length_singleton];omega)) rfl
  clear h
  repeat' (first|refine go ?_|refine IG a6 EV ?_)
  refine au rfl (fun h=>?_) (fun h=>?_)
  ·clear h
   repeat' (first|refine go ?_|refine IG a6 EV ?_)
   refine au rfl (fun _=>?_) (fun h=>absurd (Jx h) (by omega))
   have m42:=dc n1 (b:=42) (by omega)
   have hv:gs[0+gi.toNat * 9+8]?=some (.imm 2 ((g.Hint).map ea)):=by rw [show 0+gi.toNat * 9+8=gi.toNat * 9+8 by omega];exact Bt g2 hg 8 rfl
   repeat' (first|refine go ?_|refine IG a6 EV ?_|(apply aV;first|refine aU a6 ?_|refine aN a6 ?_)|refine eK (d:=219) a6 fun _=>?_|fail)
   refine IL a6 2 IB hv rfl ?_
   repeat' (first|fail)
   refine IS a6 [(bl,.box ls 77),(bg,.box gs 63),(b4,.box gQ 36),(b2,.box (ie f (cq bg f.Glyphs.length gcap) (cq bl f.Lookups.length lcap)) 36)] IC (Jn _) (by simp only [Jt,List.length_nil];omega) (by simp only [Jt,List.length_nil];omega) rfl fun q1=>?_
   repeat' (first|refine IG a6 EV ?_|refine gT ?_|refine bG a6 ?_|fail)
   refine IS a6 [(bl,.box ls 77),(bg,.box gs 63),(b4,.box gQ 36),(b2,.box (ie f (cq bg f.Glyphs.length gcap) (cq bl f.Lookups.length lcap)) 36)] IC (Jn _) (by simp only [Jt,List.length_append,List.length_cons,List.length_nil];omega) (by simp only [Jt,List.length_append,List.length_cons,List.length_nil];omega) rfl fun q2=>?_
   refine aK (bo (t:=231) (c':= .imm 2 (((g.Hint++[(⟨n.tmod 42,n⟩:ep)])).map ea)) rfl fun σ v h=>by have h':=VR.im h;rw [show ((g.Hint++[(⟨n.tmod 42,n⟩:ep)])).map ea=[]++(g.Hint).map ea++[_] by simp only [List.map_append,Jq];rfl];exact h') ?_
   refine aK (bM (L':=[(bl,.box ls 77),(bg,.box gs 63),(b4,.box gQ 36),(b2,.box (ie f (cq bg f.Glyphs.length gcap) (cq bl f.Lookups.length lcap)) 36)]) (List.sublist_append_right ..)) ?_
   repeat' (first|refine IG a6 EV ?_|(apply aV;first|refine aU a6 ?_|refine aN a6 ?_)|fail)
   refine aj a6 1 rfl rfl rfl rfl rfl rfl (by rw [Nat.ble_eq];simp only;omega) ?_
   repeat' (first|refine go ?_|fail)
   have hst:=w3 ({ g with Hint:=g.Hint++[(⟨n.tmod 42,n⟩:ep)] }) g2 hg 8 (.imm 2 (((g.Hint++[(⟨n.tmod 42,n⟩:ep)])).map ea)) (by omega) rfl
   refine ba (aM (L':=[(bl,.box ls 77),(bg,.box (gs.set (gi.toNat * 9+8) (.imm 2 (((g.Hint++[(⟨n.tmod 42,n⟩:ep)])).map ea))) 63),(b4,.box gQ 36),(b2,.box (ie f (cq bg (f.Glyphs.set gi.toNat ({ g with Hint:=g.Hint++[(⟨n.tmod 42,n⟩:ep)] })).length gcap) (cq bl f.Lookups.length lcap)) 36)]) (by rw [List.length_set,show gi.toNat * 9+8=0+gi.toNat * 9+8 by omega];exact Jn _)) ?_
   refine ba (eE f _ f.Lookups hst (by rw [List.length_set];exact g1) (by rw [List.length_set];exact g3) g4 l2 l1 l3 l4) ?_
   exact K _ _ (hf.tglyph hg { hp with hint:=⟨by rw [io];omega,iS hp.hint.2 ⟨⟨by dsimp only;omega,by dsimp only;omega⟩,⟨by dsimp only;omega,by dsimp only;omega⟩⟩⟩ } (by unfold fZ;simp only [List.length_append,List.length_singleton];omega)) rfl
  clear h
  repeat' (first|refine go ?_|refine IG a6 EV ?_)
  refine au rfl (fun h=>?_) (fun h=>?_)
  ·clear h
   have htr:=trivial
   have m14:=dc n1 (b:=14) (by omega)
   have hcn:=hf.chars
   repeat' (first|refine go ?_|refine IG a6 EV ?_|refine eK (d:=236) a6 fun _=>?_|fail)
   refine IJ a6 4 ID ?_
   repeat' (first|fail)
   refine IS a6 [(bl,.box ls 77),(bg,.box gs 63),(b4,.box gQ 36),(b2,.box (ie f (cq bg f.Glyphs.length gcap) (cq bl f.Lookups.length lcap)) 36)] IC (Jn _) (by simp only [Jt,List.length_nil];omega) (by simp only [Jt,List.length_nil];omega) rfl fun q1=>?_
   repeat' (first|refine IG a6 EV ?_|refine gT ?_|(apply aW;refine aT ?_)|refine bG a6 ?_|fail)
   refine IS a6 [(bl,.box ls 77),(bg,.box gs 63),(b4,.box gQ 36),(b2,.box (ie f (cq bg f.Glyphs.length gcap) (cq bl f.Lookups.length lcap)) 36)] IC (Jn _) (by simp only [Jt,List.length_append,List.length_cons,List.length_nil];omega) (by simp only [Jt,List.length_append,List.length_cons,List.length_nil];omega) rfl fun q2=>?_
   refine aK (bo (t:=247) (c':= .imm 2 ((f.Chars++[(⟨n * 12000,n.tmod 14 - 1⟩:ey)]).map cm)) rfl fun σ v h=>by have h':=VR.im h;rw [show (f.Chars++[(⟨n * 12000,n.tmod 14 - 1⟩:ey)]).map cm=[]++(f.Chars).map cm++[_] by simp only [List.map_append,Jq];rfl];exact h') ?_
   refine aK (bM (L':=[(bl,.box ls 77),(bg,.box gs 63),(b4,.box gQ 36),(b2,.box (ie f (cq bg f.Glyphs.length gcap) (cq bl f.Lookups.length lcap)) 36)]) (List.sublist_append_right ..)) ?_
   repeat' (first|refine go ?_|refine IG a6 EV ?_|(apply aJ;first|refine IH a6 0 IE ?_|refine IH a6 1 IE ?_|refine IH a6 2 IE ?_|refine IH a6 3 IE ?_|fail))
   refine ba (eE ({ f with Chars:=f.Chars++[⟨n * 12000,n.tmod 14 - 1⟩] }) f.Glyphs f.Lookups g2 g1 g3 g4 l2 l1 l3 l4) ?_
   exact K ({ f with Chars:=f.Chars++[⟨n * 12000,n.tmod 14 - 1⟩] }) _ (hf.tchar ⟨⟨by dsimp only;omega,by dsimp only;omega⟩,⟨by dsimp only;omega,by dsimp only;omega⟩⟩) rfl
  clear h
  repeat' (first|refine go ?_|refine IG a6 EV ?_)
  refine au rfl (fun h=>?_) (fun h=>?_)
  ·clear h
   repeat' (first|refine go ?_|refine IG a6 EV ?_)
   refine au rfl (fun h=>?_) (fun h=>?_)
   ·have h0:=Jy h
    have hk2:=hk (by omega)
    obtain ⟨l,hl⟩:∃x,f.Lookups[(k:Int).toNat]?=some x:=⟨_,Jz (by omega)⟩
    have hlm:=Jw hl
    have hlp:=hf.fpr.looks.2 l hlm
    have hlf:=hf.looks.few l hlm
    have hki:(k:Int).toNat * 3+3≤ls.length:=by
     rw [l1]
     omega
    have m10:=dc n1 (b:=10) (by omega)
    repeat' (first|refine go ?_|refine IG a6 EV ?_|refine gT ?_|(apply aV;first|refine aU a6 ?_|refine aN a6 ?_)|fail)
    refine aj a6 0 rfl rfl rfl rfl rfl rfl (by rw [Nat.ble_eq];simp only;omega) ?_
    repeat' (first|refine go ?_|fail)
    have hst:=Ga ({ l with Kind:=n.tmod 10 }) l2 hl 0 (aP (n.tmod 10)) (by omega) rfl
    refine ba (aM (L':=[(bl,.box (ls.set ((k:Int).toNat * 3+0) (aP (n.tmod 10))) 77),(bg,.box gs 63),(b4,.box gQ 36),(b2,.box (ie f (cq bg f.Glyphs.length gcap) (cq bl (f.Lookups.set (k:Int).toNat ({ l with Kind:=n.tmod 10 })).length lcap)) 36)]) (by rw [List.length_set,show (k:Int).toNat * 3+0=0+(k:Int).toNat * 3+0 by omega];exact Jn _)) ?_
    refine ba (eE f f.Glyphs _ g2 g1 g3 g4 hst (by rw [List.length_set];exact l1) (by rw [List.length_set];exact l3) l4) ?_
    exact K _ _ (hf.tlook hl { hlp with kind:=⟨by dsimp only;omega,by dsimp only;omega⟩ } (by dsimp only;omega)) rfl
   ·repeat' (first|refine go ?_|fail)
    refine ba (eE f f.Glyphs f.Lookups g2 g1 g3 g4 l2 l1 l3 l4) ?_
    exact K f _ hf.tg rfl
  clear h
  repeat' (first|refine go ?_|refine IG a6 EV ?_)
  refine au rfl (fun h=>?_) (fun h=>?_)
  ·clear h
   repeat' (first|refine go ?_|refine IG a6 EV ?_)
   refine au rfl (fun h=>?_) (fun h=>?_)
   ·have h0:=Jy h
    have hk2:=hk (by omega)
    obtain ⟨l,hl⟩:∃x,f.Lookups[(k:Int).toNat]?=some x:=⟨_,Jz (by omega)⟩
    have hlm:=Jw hl
    have hlp:=hf.fpr.looks.2 l hlm
    have hlf:=hf.looks.few l hlm
    have hki:(k:Int).toNat * 3+3≤ls.length:=by
     rw [l1]
     omega
    have m5:=dc n1 (b:=5) (by omega)
    have m7:=dc n1 (b:=7) (by omega)
    have m6:=dc n1 (b:=6) (by omega)
    have m2:=dc n1 (b:=2) (by omega)
    have hv:ls[0+(k:Int).toNat * 3+2]?=some (.imm 6 (l.Rules.map bE)):=by rw [show 0+(k:Int).toNat * 3+2=(k:Int).toNat * 3+2 by omega];exact Hj l2 hl 2 rfl
    repeat' (first|refine go ?_|refine IG a6 EV ?_|(apply bH;first|refine IJ a6 0 ID ?_|refine IJ a6 1 ID ?_|refine IJ a6 2 ID ?_|refine IJ a6 3 ID ?_|refine IK a6 0 ID ?_|refine IK a6 1 ID ?_|refine IK a6 2 ID ?_|refine IL a6 1 IB (by assumption) rfl ?_|refine IL a6 0 IB (by assumption) rfl ?_|fail)|(apply aV;first|refine aU a6 ?_|refine aN a6 ?_)|refine eK (d:=267) a6 fun _=>?_|fail)
    refine IS a6 [(bl,.box ls 77),(bg,.box gs 63),(b4,.box gQ 36),(b2,.box (ie f (cq bg f.Glyphs.length gcap) (cq bl f.Lookups.length lcap)) 36)] IC (Jn _) (by simp only [Jt,List.length_nil];omega) (by simp only [Jt,List.length_nil];omega) rfl fun q1=>?_
    repeat' (first|refine IG a6 EV ?_|refine gT ?_|(apply aW;refine aT ?_)|refine bG a6 ?_|fail)
    refine aK (bo (t:=287) (c':= .imm 6 [bE (r9 n)]) rfl (dt.imm ⟨⟨dt.nil 1,dt.refl _,dt.nil 1,dt.refl _,dt.nil 2,dt.refl _,trivial⟩,trivial⟩)) ?_
    refine IS a6 [(bl,.box ls 77),(bg,.box gs 63),(b4,.box gQ 36),(b2,.box (ie f (cq bg f.Glyphs.length gcap) (cq bl f.Lookups.length lcap)) 36)] IC (Jn _) (by simp only [Jt,List.length_append,List.length_cons,List.length_nil];omega) (by simp only [Jt,List.length_append,List.length_cons,List.length_nil];omega) rfl fun q2=>?_
    refine aK (bo (t:=288) (c':= .imm 6 ((l.Rules++[(r9 n)]).map bE)) rfl fun σ v h=>by have h':=VR.im h;rw [show (l.Rules++[(r9 n)]).map bE=[]++(l.Rules).map bE++[_] by simp only [List.map_append,Jq];rfl];exact h') ?_
    refine aK (bM (L':=[(bl,.box ls 77),(bg,.box gs 63),(b4,.box gQ 36),(b2,.box (ie f (cq bg f.Glyphs.length gcap) (cq bl f.Lookups.length lcap)) 36)]) (List.sublist_append_right ..)) ?_
    repeat' (first|refine IG a6 EV ?_|(apply aV;first|refine aU a6 ?_|refine aN a6 ?_)|fail)
    refine aj a6 0 rfl rfl rfl rfl rfl rfl (by rw [Nat.ble_eq];simp only;omega) ?_
    repeat' (first|refine go ?_|fail)
    have hst:=Ga ({ l with Rules:=l.Rules++[(r9 n)] }) l2 hl 2 (.imm 6 ((l.Rules++[(r9 n)]).map bE)) (by omega) rfl
    refine ba (aM (L':=[(bl,.box (ls.set ((k:Int).toNat * 3+2) (.imm 6 ((l.Rules++[(r9 n)]).map bE))) 77),(bg,.box gs 63),(b4,.box gQ 36),(b2,.box (ie f (cq bg f.Glyphs.length gcap) (cq bl (f.Lookups.set (k:Int).toNat ({ l with Rules:=l.Rules++[(r9 n)] })).length lcap)) 36)]) (by rw [List.length_set,show (k:Int).toNat * 3+2=0+(k:Int).toNat * 3+2 by omega];exact Jn _)) ?_
    refine ba (eE f f.Glyphs _ g2 g1 g3 g4 hst (by rw [List.length_set];exact l1) (by rw [List.length_set];exact l3) l4) ?_
    exact K _ _ (hf.tlook hl { hlp with rules:=⟨by rw [io];omega,iS hlp.rules.2 (EO n1 n2)⟩ } (qx l.Rules (m:=4) (Nat.le_refl _))) rfl
   ·repeat' (first|refine go ?_|fail)
    refine ba (eE f f.Glyphs f.Lookups g2 g1 g3 g4 l2 l1 l3 l4) ?_
    exact K f _ hf.tg rfl
  clear h
  repeat' (first|refine go ?_|refine IG a6 EV ?_)
  refine au rfl (fun h=>?_) (fun h=>?_)
  ·clear h
   repeat' (first|refine go ?_|refine IG a6 EV ?_)
   refine au rfl (fun h=>?_) (fun h=>?_)
   ·have h0:=Jy h
    have hk2:=hk (by omega)
    obtain ⟨l,hl⟩:∃x,f.Lookups[(k:Int).toNat]?=some x:=⟨_,Jz (by omega)⟩
    have hlm:=Jw hl
    have hlp:=hf.fpr.looks.2 l hlm
    have hlf:=hf.looks.few l hlm
    have hki:(k:Int).toNat * 3+3≤ls.length:=by
     rw [l1]
     omega
    have m4:=dc n1 (b:=4) (by omega)
    have m8:=dc n1 (b:=8) (by omega)
    have hv:ls[0+(k:Int).toNat * 3+2]?=some (.imm 6 (l.Rules.map bE)):=by rw [show 0+(k:Int).toNat * 3+2=(k:Int).toNat * 3+2 by omega];exact Hj l2 hl 2 rfl
    repeat' (first|refine go ?_|refine IG a6 EV ?_|(apply bH;first|refine IJ a6 0 ID ?_|refine IJ a6 1 ID ?_|refine IJ a6 2 ID ?_|refine IJ a6 3 ID ?_|refine IK a6 0 ID ?_|refine IK a6 1 ID ?_|refine IK a6 2 ID ?_|refine IL a6 1 IB (by assumption) rfl ?_|refine IL a6 0 IB (by assumption) rfl ?_|fail)|(apply aV;first|refine aU a6 ?_|refine aN a6 ?_)|refine eK (d:=298) a6 fun _=>?_|fail)
    refine IS a6 [(bl,.box ls 77),(bg,.box gs 63),(b4,.box gQ 36),(b2,.box (ie f (cq bg f.Glyphs.length gcap) (cq bl f.Lookups.length lcap)) 36)] IC (Jn _) (by simp only [Jt,List.length_nil];omega) (by simp only [Jt,List.length_nil];omega) rfl fun q1=>?_
    repeat' (first|refine IG a6 EV ?_|refine gT ?_|(apply aW;refine aT ?_)|refine bG a6 ?_|fail)
    refine aK (bo (t:=317) (c':= .imm 6 [bE (ra n)]) rfl (dt.imm ⟨⟨dt.nil 1,dt.refl _,dt.nil 1,dt.nil 1,dt.refl _,dt.refl _,trivial⟩,trivial⟩)) ?_
    refine IS a6 [(bl,.box ls 77),(bg,.box gs 63),(b4,.box gQ 36),(b2,.box (ie f (cq bg f.Glyphs.length gcap) (cq bl f.Lookups.length lcap)) 36)] IC (Jn _) (by simp only [Jt,List.length_append,List.length_cons,List.length_nil];omega) (by simp only [Jt,List.length_append,List.length_cons,List.length_nil];omega) rfl fun q2=>?_
    refine aK (bo (t:=318) (c':= .imm 6 ((l.Rules++[(ra n)]).map bE)) rfl fun σ v h=>by have h':=VR.im h;rw [show (l.Rules++[(ra n)]).map bE=[]++(l.Rules).map bE++[_] by simp only [List.map_append,Jq];rfl];exact h') ?_
    refine aK (bM (L':=[(bl,.box ls 77),(bg,.box gs 63),(b4,.box gQ 36),(b2,.box (ie f (cq bg f.Glyphs.length gcap) (cq bl f.Lookups.length lcap)) 36)]) (List.sublist_append_right ..)) ?_
    repeat' (first|refine IG a6 EV ?_|(apply aV;first|refine aU a6 ?_|refine aN a6 ?_)|fail)
    refine aj a6 0 rfl rfl rfl rfl rfl rfl (by rw [Nat.ble_eq];simp only;omega) ?_
    repeat' (first|refine go ?_|fail)
    have hst:=Ga ({ l with Rules:=l.Rules++[(ra n)] }) l2 hl 2 (.imm 6 ((l.Rules++[(ra n)]).map bE)) (by omega) rfl
    refine ba (aM (L':=[(bl,.box (ls.set ((k:Int).toNat * 3+2) (.imm 6 ((l.Rules++[(ra n)]).map bE))) 77),(bg,.box gs 63),(b4,.box gQ 36),(b2,.box (ie f (cq bg f.Glyphs.length gcap) (cq bl (f.Lookups.set (k:Int).toNat ({ l with Rules:=l.Rules++[(ra n)] })).length lcap)) 36)]) (by rw [List.length_set,show (k:Int).toNat * 3+2=0+(k:Int).toNat * 3+2 by omega];exact Jn _)) ?_
    refine ba (eE f f.Glyphs _ g2 g1 g3 g4 hst (by rw [List.length_set];exact l1) (by rw [List.length_set];exact l3) l4) ?_
    exact K _ _ (hf.tlook hl { hlp with rules:=⟨by rw [io];omega,iS hlp.rules.2 (EP n1 n2)⟩ } (qx l.Rules (m:=5) (Nat.le_refl _))) rfl
   ·repeat' (first|refine go ?_|fail)
    refine ba (eE f f.Glyphs f.Lookups g2 g1 g3 g4 l2 l1 l3 l4) ?_
    exact K f _ hf.tg rfl
  clear h
  repeat' (first|refine go ?_|refine IG a6 EV ?_)
  refine au rfl (fun h=>?_) (fun h=>?_)
  ·clear h
   have m5:=dc n1 (b:=5) (by omega)
   have m4:=dc n1 (b:=4) (by omega)
   obtain ⟨s,hs,hs2⟩:=wo (n.tmod 5).toNat (by omega)
   have hsg:=jT hs
   have hcn:=hf.featN.length_le
   simp only [Jt,eO,List.length_cons,List.length_nil] at hcn
   repeat' (first|fail)
   refine br 17 [(1,.v),(2,.l),(4,.v),(5,.v),(6,.v),(7,.v),(8,.v),(9,.v),(10,.v),(11,.v),(12,.v),(13,.v),(14,.v),(15,.v),(16,.v),(0,.a),(3,.e)] none ?_ trivial rfl (by kernel_rfl) (by kernel_rfl) (by kernel_rfl) mixed (by kernel_rfl) rfl
   repeat' (first|refine aC ?_|refine aY a6 ?_|fail)
   refine dg a6 3 rfl rfl rfl rfl (by first | trivial | rfl) ?_
   repeat' (first|refine aC ?_|refine aY a6 ?_|refine dU a6 ?_|fail)
   refine xn ?_
   repeat' (first|refine aC ?_|refine aY a6 ?_|(apply bS;refine ce a6 ?_)|fail)
   refine xn ?_
   repeat' (first|refine aC ?_|refine aY a6 ?_|(apply fk;refine gF ?_)|fail)
   refine xn ?_
   repeat' (first|refine aC ?_|refine aY a6 ?_|refine dU a6 ?_|fail)
   refine Ba a6 rfl rfl rfl rfl rfl rfl rfl (by first | trivial | rfl) fun _=>?_
   repeat' (first|refine aC ?_|fail)
   refine eI a6 [(bl,.box ls 77),(bg,.box gs 63),(b4,.box gQ 36),(b2,.box (ie f (cq bg f.Glyphs.length gcap) (cq bl f.Lookups.length lcap)) 36)] rfl rfl rfl rfl (Jn _) (by simp only [Jt,List.length_nil];omega) (by simp only [Jt,List.length_nil];omega) (by first | trivial | rfl) fun q1=>?_
   refine IQ [2,4,326,339] EV ?_
   repeat' (first|fail)
   refine IS a6 [(bl,.box ls 77),(bg,.box gs 63),(b4,.box gQ 36),(b2,.box (ie f (cq bg f.Glyphs.length gcap) (cq bl f.Lookups.length lcap)) 36)] IC (Jn _) (by simp only [Jt,List.length_append,List.length_cons,List.length_nil];omega) (by simp only [Jt,List.length_append,List.length_cons,List.length_nil];omega) rfl fun q2=>?_
   refine aK (bo (t:=340) (c':= .imm 2 ((f.Features++[(⟨s,[n.tmod 4 - 1,n.tmod 5]⟩:bX)]).map bv)) rfl fun σ v h=>by have h':=VR.im h;rw [show (f.Features++[(⟨s,[n.tmod 4 - 1,n.tmod 5]⟩:bX)]).map bv=[]++(f.Features).map bv++[_] by simp only [List.map_append,Jq];rfl];exact h') ?_
   refine aK (bM (L':=[(bl,.box ls 77),(bg,.box gs 63),(b4,.box gQ 36),(b2,.box (ie f (cq bg f.Glyphs.length gcap) (cq bl f.Lookups.length lcap)) 36)]) (List.sublist_append_right ..)) ?_
   repeat' (first|refine go ?_|refine IG a6 EV ?_|(apply aJ;first|refine IH a6 0 IE ?_|refine IH a6 1 IE ?_|refine IH a6 2 IE ?_|refine IH a6 3 IE ?_|fail))
   refine ba (eE ({ f with Features:=f.Features++[⟨s,[n.tmod 4 - 1,n.tmod 5]⟩] }) f.Glyphs f.Lookups g2 g1 g3 g4 l2 l1 l3 l4) ?_
   exact K ({ f with Features:=f.Features++[⟨s,[n.tmod 4 - 1,n.tmod 5]⟩] }) _ (hf.tfeat ⟨hs2,by simp,fun z hz=>by
     rcases List.mem_cons.1 hz with rfl | hz
     ·exact xI (by omega)
     ·rw [Jl hz];exact xI (by omega)⟩ (by simp)) rfl
  clear h
  repeat' (first|refine go ?_|refine IG a6 EV ?_)
  refine au rfl (fun h=>?_) (fun h=>?_)
  ·clear h
   have m3:=dc n1 (b:=3) (by omega)
   obtain ⟨s,hs,hs2⟩:=wm (n.tmod 3).toNat (by omega)
   have hsg:=jT hs
   have hcn:=hf.axes
   repeat' (first|fail)
   refine br 12 [(1,.v),(2,.l),(4,.v),(5,.v),(6,.v),(7,.v),(8,.v),(9,.v),(10,.v),(11,.v),(0,.a),(3,.e)] none ?_ trivial rfl (by kernel_rfl) (by kernel_rfl) (by kernel_rfl) mixed (by kernel_rfl) rfl
   repeat' (first|refine aC ?_|refine aY a6 ?_|fail)
   refine dg a6 3 rfl rfl rfl rfl (by first | trivial | rfl) ?_
   repeat' (first|refine aC ?_|refine aY a6 ?_|refine dU a6 ?_|fail)
   refine xn ?_
   repeat' (first|refine aC ?_|refine aY a6 ?_|(apply bS;refine ce a6 ?_)|refine dU a6 ?_|fail)
   refine Ba a6 rfl rfl rfl rfl rfl rfl rfl (by first | trivial | rfl) fun _=>?_
   repeat' (first|refine aC ?_|fail)
   refine eI a6 [(bl,.box ls 77),(bg,.box gs 63),(b4,.box gQ 36),(b2,.box (ie f (cq bg f.Glyphs.length gcap) (cq bl f.Lookups.length lcap)) 36)] rfl rfl rfl rfl (Jn _) (by simp only [Jt,List.length_nil];omega) (by simp only [Jt,List.length_nil];omega) (by first | trivial | rfl) fun q1=>?_
   refine IQ [2,4,347,355] EV ?_
   repeat' (first|fail)
   refine IS a6 [(bl,.box ls 77),(bg,.box gs 63),(b4,.box gQ 36),(b2,.box (ie f (cq bg f.Glyphs.length gcap) (cq bl f.Lookups.length lcap)) 36)] IC (Jn _) (by simp only [Jt,List.length_append,List.length_cons,List.length_nil];omega) (by simp only [Jt,List.length_append,List.length_cons,List.length_nil];omega) rfl fun q2=>?_
   refine aK (bo (t:=356) (c':= .imm 4 ((f.Axes++[(⟨s,n,50,60⟩:eB)]).map cC)) rfl fun σ v h=>by have h':=VR.im h;rw [show (f.Axes++[(⟨s,n,50,60⟩:eB)]).map cC=[]++(f.Axes).map cC++[_] by simp only [List.map_append,Jq];rfl];exact h') ?_
   refine aK (bM (L':=[(bl,.box ls 77),(bg,.box gs 63),(b4,.box gQ 36),(b2,.box (ie f (cq bg f.Glyphs.length gcap) (cq bl f.Lookups.length lcap)) 36)]) (List.sublist_append_right ..)) ?_
   repeat' (first|refine go ?_|refine IG a6 EV ?_|(apply aJ;first|refine IH a6 0 IE ?_|refine IH a6 1 IE ?_|refine IH a6 2 IE ?_|refine IH a6 3 IE ?_|fail))
   refine ba (eE ({ f with Axes:=f.Axes++[⟨s,n,50,60⟩] }) f.Glyphs f.Lookups g2 g1 g3 g4 l2 l1 l3 l4) ?_
   exact K ({ f with Axes:=f.Axes++[⟨s,n,50,60⟩] }) _ (hf.taxis ⟨hs2,xI (by dsimp only;omega),xI (by dsimp only;omega),xI (by dsimp only;omega)⟩) rfl
  clear h
  repeat' (first|refine go ?_|refine IG a6 EV ?_)
  refine au rfl (fun h=>?_) (fun h=>?_)
  ·clear h
   have htr:=trivial
   have m5:=dc n1 (b:=5) (by omega)
   have hcn:=hf.regs
   repeat' (first|refine go ?_|refine IG a6 EV ?_|refine eK (d:=360) a6 fun _=>?_|fail)
   refine IJ a6 4 ID ?_
   repeat' (first|fail)
   refine IS a6 [(bl,.box ls 77),(bg,.box gs 63),(b4,.box gQ 36),(b2,.box (ie f (cq bg f.Glyphs.length gcap) (cq bl f.Lookups.length lcap)) 36)] IC (Jn _) (by simp only [Jt,List.length_nil];omega) (by simp only [Jt,List.length_nil];omega) rfl fun q1=>?_
   repeat' (first|refine IG a6 EV ?_|refine gT ?_|(apply aW;refine aT ?_)|refine bG a6 ?_|fail)
   refine IS a6 [(bl,.box ls 77),(bg,.box gs 63),(b4,.box gQ 36),(b2,.box (ie f (cq bg f.Glyphs.length gcap) (cq bl f.Lookups.length lcap)) 36)] IC (Jn _) (by simp only [Jt,List.length_append,List.length_cons,List.length_nil];omega) (by simp only [Jt,List.length_append,List.length_cons,List.length_nil];omega) rfl fun q2=>?_
   refine aK (bo (t:=373) (c':= .imm 1 ((f.Regions++[[(⟨n - 90,n.tmod 5 - 2,64⟩:eo)]]).map bI)) rfl fun σ v h=>by have h':=VR.im h;rw [show (f.Regions++[[(⟨n - 90,n.tmod 5 - 2,64⟩:eo)]]).map bI=[]++(f.Regions).map bI++[_] by simp only [List.map_append,Jq];rfl];exact h') ?_
   refine aK (bM (L':=[(bl,.box ls 77),(bg,.box gs 63),(b4,.box gQ 36),(b2,.box (ie f (cq bg f.Glyphs.length gcap) (cq bl f.Lookups.length lcap)) 36)]) (List.sublist_append_right ..)) ?_
   repeat' (first|refine go ?_|refine IG a6 EV ?_|(apply aJ;first|refine IH a6 0 IE ?_|refine IH a6 1 IE ?_|refine IH a6 2 IE ?_|refine IH a6 3 IE ?_|fail))
   refine ba (eE ({ f with Regions:=f.Regions++[[⟨n - 90,n.tmod 5 - 2,64⟩]] }) f.Glyphs f.Lookups g2 g1 g3 g4 l2 l1 l3 l4) ?_
   exact K ({ f with Regions:=f.Regions++[[⟨n - 90,n.tmod 5 - 2,64⟩]] }) _ (hf.treg ⟨by simp,fun x hx=>by rw [Jl hx];exact ⟨⟨by dsimp only;omega,by dsimp only;omega⟩,⟨by dsimp only;omega,by dsimp only;omega⟩,⟨by dsimp only;omega,by dsimp only;omega⟩⟩⟩) rfl
  clear h
  have htr:=trivial
  have m42:=dc n1 (b:=42) (by omega)
  have hcn:=hf.funcs
  have hcm:=hf.cvt
  repeat' (first|refine go ?_|refine IG a6 EV ?_|refine eK (d:=60) a6 fun _=>?_|fail)
  refine IJ a6 4 ID ?_
  repeat' (first|fail)
  refine IS a6 [(bl,.box ls 77),(bg,.box gs 63),(b4,.box gQ 36),(b2,.box (ie f (cq bg f.Glyphs.length gcap) (cq bl f.Lookups.length lcap)) 36)] IC (Jn _) (by simp only [Jt,List.length_nil];omega) (by simp only [Jt,List.length_nil];omega) rfl fun q1=>?_
  repeat' (first|refine IG a6 EV ?_|refine gT ?_|refine bG a6 ?_|fail)
  refine IS a6 [(bl,.box ls 77),(bg,.box gs 63),(b4,.box gQ 36),(b2,.box (ie f (cq bg f.Glyphs.length gcap) (cq bl f.Lookups.length lcap)) 36)] IC (Jn _) (by simp only [Jt,List.length_append,List.length_cons,List.length_nil];omega) (by simp only [Jt,List.length_append,List.length_cons,List.length_nil];omega) rfl fun q2=>?_
  refine aK (bo (t:=70) (c':= .imm 1 ((f.Funcs++[[(⟨n.tmod 42,n⟩:ep)]]).map cL)) rfl fun σ v h=>by have h':=VR.im h;rw [show (f.Funcs++[[(⟨n.tmod 42,n⟩:ep)]]).map cL=[]++f.Funcs.map cL++[_] by simp only [List.map_append,Jq];rfl];exact h') ?_
  refine aK (bM (L':=[(bl,.box ls 77),(bg,.box gs 63),(b4,.box gQ 36),(b2,.box (ie f (cq bg f.Glyphs.length gcap) (cq bl f.Lookups.length lcap)) 36)]) (List.sublist_append_right ..)) ?_
  repeat' (first|refine go ?_|refine IG a6 EV ?_|(apply aJ;first|refine IH a6 0 IE ?_|refine IH a6 1 IE ?_|refine IH a6 2 IE ?_|refine IH a6 3 IE ?_|fail)|refine eK (d:=72) a6 fun _=>?_|fail)
  refine IJ a6 4 ID ?_
  repeat' (first|fail)
  refine IS a6 [(bl,.box ls 77),(bg,.box gs 63),(b4,.box gQ 36),(b2,.box (ie { f with Funcs:=f.Funcs++[[⟨n.tmod 42,n⟩]] } (cq bg f.Glyphs.length gcap) (cq bl f.Lookups.length lcap)) 36)] IC (Jn _) (by simp only [List.length_nil,aF];omega) (by simp only [List.length_nil,aF];omega) rfl fun q1=>?_
  repeat' (first|refine IG a6 EV ?_|(apply aW;refine aT ?_)|refine bG a6 ?_|fail)
  refine IS a6 [(bl,.box ls 77),(bg,.box gs 63),(b4,.box gQ 36),(b2,.box (ie { f with Funcs:=f.Funcs++[[⟨n.tmod 42,n⟩]] } (cq bg f.Glyphs.length gcap) (cq bl f.Lookups.length lcap)) 36)] IC (Jn _) (by simp only [List.length_append,List.length_cons,List.length_nil,aF];omega) (by simp only [List.length_append,List.length_cons,List.length_nil,aF];omega) rfl fun q2=>?_
  refine aK (bo (t:=80) (c':= .imm 1 (aS (f.Cvt++[(n - 50) * 400]))) rfl fun σ v h=>by have h':=VR.im h;rw [show aS (f.Cvt++[(n - 50) * 400])=[]++aS f.Cvt++[_] by unfold aS;simp only [List.map_append,Jq];rfl];exact h') ?_
  refine aK (bM (L':=[(bl,.box ls 77),(bg,.box gs 63),(b4,.box gQ 36),(b2,.box (ie { f with Funcs:=f.Funcs++[[⟨n.tmod 42,n⟩]] } (cq bg f.Glyphs.length gcap) (cq bl f.Lookups.length lcap)) 36)]) (List.sublist_append_right ..)) ?_
  repeat' (first|refine go ?_|refine IG a6 EV ?_|(apply aJ;first|refine IH a6 0 IE ?_|refine IH a6 1 IE ?_|refine IH a6 2 IE ?_|refine IH a6 3 IE ?_|fail))
  refine ba (eE ({ f with Funcs:=f.Funcs++[[⟨n.tmod 42,n⟩]],Cvt:=f.Cvt++[(n - 50) * 400] }) f.Glyphs f.Lookups g2 g1 g3 g4 l2 l1 l3 l4) ?_
  exact K ({ f with Funcs:=f.Funcs++[[⟨n.tmod 42,n⟩]],Cvt:=f.Cvt++[(n - 50) * 400] }) _ (hf.tfunc ⟨by simp,fun x hx=>by rw [Jl hx];exact ⟨⟨by dsimp only;omega,by dsimp only;omega⟩,⟨by dsimp only;omega,by dsimp only;omega⟩⟩⟩ (by simp) ⟨by omega,by omega⟩) rfl
 repeat' (first|refine go ?_|(apply bH;first|refine IJ a6 0 ID ?_|refine IJ a6 1 ID ?_|refine IJ a6 2 ID ?_|refine IJ a6 3 ID ?_|refine IK a6 0 ID ?_|refine IK a6 1 ID ?_|refine IK a6 2 ID ?_|refine IL a6 1 IB (by assumption) rfl ?_|refine IL a6 0 IB (by assumption) rfl ?_|fail)|(apply aJ;first|refine IH a6 0 IE ?_|refine IH a6 1 IE ?_|refine IH a6 2 IE ?_|refine IH a6 3 IE ?_|fail))
 exact er (cs:=[.agg (ci x)]) [] ⟨⟨_,1,_,_,rfl,rfl,.inr ⟨cV a6 rfl,rfl⟩⟩,trivial⟩ (List.nil_sublist _) ⟨⟨x,rfl,hx⟩,rfl⟩
end Go.Proofs.YtjjpkibjffmceaaGreat
