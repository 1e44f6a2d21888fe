/-
  The document: a font of which one thing is turned.
-/
import Derived.Test.YtpmdfoaadejmkaaGreatDoorM30
import Derived.Test.YtpmdfoaadejmkaaGreatDoorM21
namespace Go.Proofs.YtpmdfoaadejmkaaGreatDoor
open Go.RowKit
attribute [local irreducible] AT bP AX AO Av Kt bb dh DA cG
def Ek (f:aT) (g l:AV):List AV:=[aK f.Unit,g,.imm 2 (f.Chars.map ek),l,.imm 2 (f.Features.map cg),.imm 4 (f.Axes.map cO),.imm 1 (f.Regions.map bX),.imm 1 (f.Funcs.map dO),.imm 1 (aW f.Cvt)]
abbrev jl (b n c:Nat):AV:= .sc (.slice (some ⟨b,0,none⟩) n c)
def xJ:List AV:=[aK 0,bZ,bZ,bZ,bZ,bZ,bZ,bZ,bZ]
theorem ia {nt:Nat} {D:List Deferred} {B:Bs} {fr:cf} (f:aT) {bl bg b4 b2 gcap lcap:Nat} {gs ls:List AV} (G:List bj) (K:List aY) (hg:gs.take (G.length * 9)=(G.map bD).flatten) (g1:gs.length=gcap * 9) (g3:G.length≤gcap) (g4:gcap≤maxLen) (hl:ls.take (K.length * 3)=(K.map br).flatten) (l1:ls.length=lcap * 3) (l3:K.length≤lcap) (l4:lcap≤maxLen):
  lP nt D B fr [(bl,.box ls 59),(bg,.box gs 76),(b4,.box xJ 32),(b2,.box (Ek f (jl bg G.length gcap) (jl bl K.length lcap)) 32)] fr [(b2,.box (cn { f with Glyphs:=G,Lookups:=K }) 32),(b4,.box xJ 32)]:=fun σ a w ha hw=>by
 have p1:([(bl,AB.box ls 59),(bg,.box gs 76),(b4,.box xJ 32),(b2,.box (Ek f (jl bg G.length gcap) (jl bl K.length lcap)) 32)]:AL).Perm [(bl,.box ls 59),(b2,.box (Ek f (jl bg G.length gcap) (jl bl K.length lcap)) 32),(bg,.box gs 76),(b4,.box xJ 32)]:=List.Perm.cons _ (List.perm_append_comm (l₁:=[_,_]) (l₂:=[_]))
 obtain ⟨τ,h1,h2⟩:=n4 (k:=3) (n:=K.length) (cap:=lcap) (sz:=3) (l:=K.map br) rfl hl l1 (fun q hq=>by
  obtain ⟨x,_,rfl⟩:=List.mem_map.1 hq
  rfl) (Nu ..) l3 l4 σ a w ha (hw.perm p1)
 obtain ⟨τ',h3,h4⟩:=n4 (k:=1) (n:=G.length) (cap:=gcap) (sz:=9) (l:=G.map bD) rfl hg g1 (fun q hq=>by
  obtain ⟨x,_,rfl⟩:=List.mem_map.1 hq
  rfl) (Nu ..) g3 g4 τ a w h1 (h2.perm (List.Perm.swap _ _ _))
 exact ⟨τ',h3,h4⟩
theorem Me {Gl:List bj} {gs:List AV} {i:Nat} {g:bj} (g':bj) (g2:gs.take (Gl.length * 9)=(Gl.map bD).flatten) (hg:Gl[i]?=some g) (c:Nat) (v:AV) (hc:c < 9) (he:(bD g).set c v=bD g'):(gs.set (i * 9+c) v).take ((Gl.set i g').length * 9)=((Gl.set i g').map bD).flatten:=by
 rw [List.length_set,B2 v g2 (fun q hq=>by
  obtain ⟨x,_,rfl⟩:=List.mem_map.1 hq
  rfl) (bG hg) hc,he,List.map_set]
theorem F6 {Gl:List bj} {gs:List AV} {i:Nat} {g:bj} (g2:gs.take (Gl.length * 9)=(Gl.map bD).flatten) (hg:Gl[i]?=some g) (c:Nat) {v:AV} (hv:(bD g)[c]?=some v):gs[i * 9+c]?=some v:=B0 g2 (fun q hq=>by
  obtain ⟨x,_,rfl⟩:=List.mem_map.1 hq
  rfl) (Nu ..) (bG hg) hv
theorem Mk {Gl:List aY} {gs:List AV} {i:Nat} {g:aY} (g':aY) (g2:gs.take (Gl.length * 3)=(Gl.map br).flatten) (hg:Gl[i]?=some g) (c:Nat) (v:AV) (hc:c < 3) (he:(br g).set c v=br g'):(gs.set (i * 3+c) v).take ((Gl.set i g').length * 3)=((Gl.set i g').map br).flatten:=by
 rw [List.length_set,B2 v g2 (fun q hq=>by
  obtain ⟨x,_,rfl⟩:=List.mem_map.1 hq
  rfl) (bG hg) hc,he,List.map_set]
theorem Lm {Gl:List aY} {gs:List AV} {i:Nat} {g:aY} (g2:gs.take (Gl.length * 3)=(Gl.map br).flatten) (hg:Gl[i]?=some g) (c:Nat) {v:AV} (hv:(br g)[c]?=some v):gs[i * 3+c]?=some v:=B0 g2 (fun q hq=>by
  obtain ⟨x,_,rfl⟩:=List.mem_map.1 hq
  rfl) (Nu ..) (bG hg) hv
section
variable {nt:Nat} {D:List Deferred} {B:Bs} {fr:cf} (f:aT) {bl bg b4 b2 gcap lcap i p:Nat} {gs ls:List AV} {v:AV}
theorem lr {g g':bj} (hg:f.Glyphs[i]?=some g) (c:Nat) (hc:c < 9) (he:(bD g).set c v=bD g') (hp:p=i * 9+c) (g2:gs.take (f.Glyphs.length * 9)=(f.Glyphs.map bD).flatten) (g1:gs.length=gcap * 9) (g3:f.Glyphs.length≤gcap) (g4:gcap≤maxLen) (l2:ls.take (f.Lookups.length * 3)=(f.Lookups.map br).flatten) (l1:ls.length=lcap * 3) (l3:f.Lookups.length≤lcap) (l4:lcap≤maxLen):
  lP nt D B fr [(bl,.box ls 59),(bg,.box (gs.set p v) 76),(b4,.box xJ 32),(b2,.box (Ek f (jl bg f.Glyphs.length gcap) (jl bl f.Lookups.length lcap)) 32)] fr [(b2,.box (cn { f with Glyphs:=f.Glyphs.set i g' }) 32),(b4,.box xJ 32)]:=by
 subst hp
 have h:=ia (nt:=nt) (D:=D) (B:=B) (fr:=fr) (bl:=bl) (bg:=bg) (b4:=b4) (b2:=b2) f (f.Glyphs.set i g') f.Lookups (Me g' g2 hg c v hc he) (by rw [List.length_set];exact g1) (by rw [List.length_set];exact g3) g4 l2 l1 l3 l4
 rw [List.length_set] at h
 exact h
theorem vB {l l':aY} (hl:f.Lookups[i]?=some l) (c:Nat) (hc:c < 3) (he:(br l).set c v=br l') (hp:p=i * 3+c) (g2:gs.take (f.Glyphs.length * 9)=(f.Glyphs.map bD).flatten) (g1:gs.length=gcap * 9) (g3:f.Glyphs.length≤gcap) (g4:gcap≤maxLen) (l2:ls.take (f.Lookups.length * 3)=(f.Lookups.map br).flatten) (l1:ls.length=lcap * 3) (l3:f.Lookups.length≤lcap) (l4:lcap≤maxLen):
  lP nt D B fr [(bl,.box (ls.set p v) 59),(bg,.box gs 76),(b4,.box xJ 32),(b2,.box (Ek f (jl bg f.Glyphs.length gcap) (jl bl f.Lookups.length lcap)) 32)] fr [(b2,.box (cn { f with Lookups:=f.Lookups.set i l' }) 32),(b4,.box xJ 32)]:=by
 subst hp
 have h:=ia (nt:=nt) (D:=D) (B:=B) (fr:=fr) (bl:=bl) (bg:=bg) (b4:=b4) (b2:=b2) f f.Glyphs (f.Lookups.set i l') g2 g1 g3 g4 (Mk l' l2 hl c v hc he) (by rw [List.length_set];exact l1) (by rw [List.length_set];exact l3) l4
 rw [List.length_set] at h
 exact h
end
theorem ge {α:Type} {c:α→List AV} {σ:cF} {k:Option (Nat×Nat)} {sz:Nat} {l:List α} {x:α} {v:Value} (h:VR σ (.vec k sz ([]++l.map c++[c x])) v):VR σ (.imm sz ((l++[x]).map c)) v:=by
 have h':=VR.im h
 rw [List.map_append]
 exact h'
def va:List ByteArray:=[⟨#[]⟩,⟨#[97,32,98]⟩,⟨#[46,110,111,116,100,101,102]⟩,⟨#[49,97]⟩,⟨#[103,97]⟩,⟨#[111,107,45,110,97,109,101]⟩,⟨#[97,97,97,97,97,97,97,97,97,97,97,97,97,97,97,97,97]⟩]
def z8:List ByteArray:=[⟨#[108,105,103,97]⟩,⟨#[120]⟩,⟨#[116,111,111,108,111,110,103,110,97,109,101]⟩,⟨#[97,49]⟩,⟨#[]⟩]
theorem z9 (i:Nat) (h:i < 5):∃s,z8[i]?=some s∧s.size≤50:=⟨_,Nz (show i < z8.length from h),(show ∀x∈z8,x.size≤50 by decide) _ (List.getElem_mem _)⟩
def z6:List ByteArray:=[⟨#[97,120,97]⟩,⟨#[113]⟩,⟨#[]⟩]
theorem z7 (i:Nat) (h:i < 3):∃s,z6[i]?=some s∧s.size≤50:=⟨_,Nz (show i < z6.length from h),(show ∀x∈z6,x.size≤50 by decide) _ (List.getElem_mem _)⟩
theorem za (i:Nat) (h:i < 7):∃s,va[i]?=some s∧s.size≤50:=⟨_,Nz (show i < va.length from h),(show ∀x∈va,x.size≤50 by decide) _ (List.getElem_mem _)⟩
theorem rZ {α:Type} (l:List α) (a:α):(l++[a]).length=l.length+1:=by simp
def Kp (n:Int):bk:=⟨[],[[n.tmod 5,n.tmod 7+1]],[],[n.tmod 6],[],n.tmod 2⟩
def Kq (n:Int):bk:=⟨[],[[0],[1]],[],[],[⟨n.tmod 4 - 1,n.tmod 8 - 1⟩],0⟩
theorem sG (l:List bk) {r:bk} {m:Nat} (h:np r≤m) (hm:m≤29:=by decide):iy (l++[r])≤iy l+30:=by
 have:=oV np l r
 unfold iy
 rw [rZ]
 omega
set_option maxHeartbeats 16000000 in
theorem xC (f:aT) (hf:ii f) (q0 q1 q2:Int):AC Tryz.prog 24 [ca f,.agg [aK q0,aK q1,aK q2]] [] fun c L=>(∃f',c=ca f'∧TS f')∧L=[]:=by
 refine aV Tryz.func24 rfl Tryz.ntmps24 rfl fun B=>?_
 obtain ⟨a1,a2⟩:=rk q2 (b:=100) (by omega)
 repeat' (first|refine Ng ?_|refine wV (d:=2) fun _=>?_|refine bq ?_|refine bn a5 fun _=>?_|fail)
 refine wU a5 2 ?_
 repeat' (first|refine Ng ?_|refine NG a5 IG ?_|refine iQ ?_|(apply bz;first|refine NJ a5 0 NC ?_|refine NJ a5 1 NC ?_|refine NJ a5 2 NC ?_|refine NJ a5 3 NC ?_|refine NK a5 0 NC ?_|refine NK a5 1 NC ?_|refine NK a5 2 NC ?_|refine NL a5 1 NA (by assumption) rfl ?_|refine NL a5 0 NA (by assumption) rfl ?_|fail)|(apply aS;refine aR ?_)|refine z2 (d:=15) a5 rfl rfl fun _=>?_)
 obtain ⟨n1,n2⟩:=dt (a:=q2.tmod 100+100) (b:=100) (by omega) (by omega)
 generalize (q2.tmod 100+100).tmod 100=n at n1 n2 ⊢
 clear a1 a2
 have hN:=hf.glyN
 have hLk:=hf.looks.len
 have hml:(f.Glyphs.map bD).length=f.Glyphs.length:=Nu ..
 have hll:(f.Lookups.map br).length=f.Lookups.length:=Nu ..
 rename_i b2 b4 b0
 refine sh a5 0 rfl rfl rfl rfl (oT (u:= .imm 9 (f.Glyphs.map bD)) rfl rfl) rfl rfl (Nat.le_refl _) (Nat.zero_le _) (by unfold maxLen;omega) (by omega) rfl fun bg gs gcap g1 g2 g3 g4=>?_
 rw [show 0+(f.Glyphs.map bD).length=f.Glyphs.length by omega] at g2 g3 ⊢
 rw [show ([]:List AV).take (0 * 9)++(f.Glyphs.map bD).flatten=(f.Glyphs.map bD).flatten from rfl] at g2
 repeat' (first|refine Ng ?_|refine NG a5 IG ?_|(apply bz;first|refine NJ a5 0 NC ?_|refine NJ a5 1 NC ?_|refine NJ a5 2 NC ?_|refine NJ a5 3 NC ?_|refine NK a5 0 NC ?_|refine NK a5 1 NC ?_|refine NK a5 2 NC ?_|refine NL a5 1 NA (by assumption) rfl ?_|refine NL a5 0 NA (by assumption) rfl ?_|fail)|refine z2 (d:=19) a5 rfl rfl fun _=>?_)
 rename_i b1
 refine sh a5 0 rfl rfl rfl rfl (oT (u:= .imm 3 (f.Lookups.map br)) rfl rfl) rfl rfl (Nat.le_refl _) (Nat.zero_le _) (by unfold maxLen;omega) (by omega) rfl fun bl ls lcap l1 l2 l3 l4=>?_
 rw [show 0+(f.Lookups.map br).length=f.Lookups.length by omega] at l2 l3 ⊢
 rw [show ([]:List AV).take (0 * 3)++(f.Lookups.map br).flatten=(f.Lookups.map br).flatten from rfl] at l2
 refine W01 ?_
 refine bU (aQ (L':=[(bl,.box ls 59),(bg,.box gs 76),(b4,.box xJ 32),(b2,.box (cn f) 32)]) (Nn _)) ?_
 refine aj rfl (fun _=>?_) (fun h=>absurd (Nx h) (by omega))
 have hq:=rk q1 (b:=(f.Glyphs.length:Int)) (by omega)
 repeat' (first|refine Ng ?_|fail)
 refine wU a5 1 ?_
 refine W1p ?_
 have hi:=dt (a:=q1.tmod f.Glyphs.length+f.Glyphs.length) (b:=(f.Glyphs.length:Int)) (by omega) (by omega)
 generalize (q1.tmod f.Glyphs.length+f.Glyphs.length).tmod f.Glyphs.length=gi at hi ⊢
 refine o7 (α:=Nat) [2,3,4,5,6,7,8,9] (fun k=>[(2,.sc (.pointer (some ⟨b2,0,none⟩))),(3,.iptr [aK q0,aK q1,aK q2]),(4,.sc (.pointer (some ⟨b4,0,none⟩))),(5,aK n),(6,jl bg f.Glyphs.length gcap),(7,jl bl f.Lookups.length lcap),(8,aK gi),(9,aK (k:Int))]) (fun _=>[(bl,.box ls 59),(bg,.box gs 76),(b4,.box xJ 32),(b2,.box (cn f) 32)]) (fun k=>0 < f.Lookups.length→k < f.Lookups.length) (fun Q' K=>?_) fun k hk=>?_
 ·refine aj rfl (fun h=>?_) (fun h=>?_)
  ·have h0:=Ny h
   have hq:=rk q1 (b:=(f.Lookups.length:Int)) (by omega)
   repeat' (first|refine Ng ?_|fail)
   refine wU a5 1 ?_
   refine W1p ?_
   have hi:=dt (a:=q1.tmod f.Lookups.length+f.Lookups.length) (b:=(f.Lookups.length:Int)) (by omega) (by omega)
   generalize (q1.tmod f.Lookups.length+f.Lookups.length).tmod f.Lookups.length=k at hi ⊢
   obtain ⟨k,rfl⟩:∃m:Nat,k=m:=⟨k.toNat,by omega⟩
   exact K k _ (fun _=>by omega) rfl
  ·have h0:=Nx h
   repeat' (first|refine Ng ?_|fail)
   exact K 0 _ (fun h1=>absurd h1 (by omega)) rfl
 refine W05 ?_
 refine wU a5 0 ?_
 obtain ⟨a1,a2⟩:=rk q0 (b:=16) (by omega)
 refine W1p ?_
 obtain ⟨c1,c2⟩:=dt (a:=q0.tmod 16+16) (b:=16) (by omega) (by omega)
 generalize (q0.tmod 16+16).tmod 16=w at c1 c2 ⊢
 refine bU (aQ (L':=[(bl,.box ls 59),(bg,.box gs 76),(b4,.box xJ 32),(b2,.box (Ek f (jl bg f.Glyphs.length gcap) (jl bl f.Lookups.length lcap)) 32)]) (Nn _)) ?_
 obtain ⟨g,hg⟩:∃x,f.Glyphs[gi.toNat]?=some x:=⟨_,Nz (by omega)⟩
 have hgm:=Nw hg
 obtain ⟨e1,e2,e3,e4,e5⟩:=hf.gfew hgm
 have hgi:gi.toNat * 9+9≤gs.length:=by
  rw [g1]
  omega
 refine o7 (α:=aT) [2,4] (fun _=>[(2,.sc (.pointer (some ⟨b2,0,none⟩))),(4,.sc (.pointer (some ⟨b4,0,none⟩)))]) (fun x=>[(b2,.box (cn x) 32),(b4,.box xJ 32)]) TS (fun Q' K=>?_) fun x hx=>?_
 ·refine W03 ?_
  refine aj rfl (fun h=>?_) (fun h=>?_)
  ·clear h
   refine W0f ?_
   refine bf (ia ({ f with Unit:=n * 50 }) f.Glyphs f.Lookups g2 g1 g3 g4 l2 l1 l3 l4) ?_
   exact K { f with Unit:=n * 50 } _ (hf.tunit) rfl
  clear h
  refine W01 ?_
  refine aj rfl (fun h=>?_) (fun h=>?_)
  ·clear h
   refine W01 ?_
   refine aj rfl (fun _=>?_) (fun h=>absurd (Nx h) (by omega))
   have m7:=dt n1 (b:=7) (by omega)
   obtain ⟨s,hs,hs2⟩:=za (n.tmod 7).toNat (by omega)
   have hsg:=oU hs
   repeat' (first|refine Ng ?_|refine NG a5 IG ?_|refine iQ ?_|(apply aO;first|refine aN a5 ?_|refine aF a5 ?_)|refine bM a5 ?_|fail)
   refine aL (bH (t:=94) (c':= .imm 1 (Dg va)) rfl fun σ v h=>h) ?_
   refine NV a5 1 ND (by rw [Nat.ble_eq];simp only;omega) ?_
   repeat' (first|refine Ng ?_|fail)
   refine bf (lr f (g':={ g with Name:=s }) hg 0 (by omega) rfl (by omega) g2 g1 g3 g4 l2 l1 l3 l4) ?_
   exact K _ _ (hf.tglyph hg (by unfold gM;dsimp only;omega)) rfl
  clear h
  refine W01 ?_
  refine aj rfl (fun h=>?_) (fun h=>?_)
  ·clear h
   refine W01 ?_
   refine aj rfl (fun _=>?_) (fun h=>absurd (Nx h) (by omega))
   refine W1r ?_
   refine NV a5 1 ND (by rw [Nat.ble_eq];simp only;omega) ?_
   repeat' (first|refine Ng ?_|fail)
   refine bf (lr f (g':={ g with Advance:=(n - 10) * 300 }) hg 1 (by omega) rfl (by omega) g2 g1 g3 g4 l2 l1 l3 l4) ?_
   exact K _ _ (hf.tglyph hg (by unfold gM;simp only;omega)) rfl
  clear h
  refine W01 ?_
  refine aj rfl (fun h=>?_) (fun h=>?_)
  ·clear h
   refine W01 ?_
   refine aj rfl (fun _=>?_) (fun h=>absurd (Nx h) (by omega))
   have hv:gs[0+gi.toNat * 9+3+1]?=some (.imm 1 (aW g.Ends)):=by rw [show 0+gi.toNat * 9+3+1=gi.toNat * 9+4 by omega];exact F6 g2 hg 4 rfl
   repeat' (first|refine Ng ?_|refine NG a5 IG ?_|(apply aO;first|refine aN a5 ?_|refine aF a5 ?_)|refine fR (d:=120) a5 fun _=>?_|fail)
   refine NL a5 2 NA hv rfl ?_
   refine NS a5 _ NB (Nn _) (by simp [aJ];omega) (by simp [aJ];omega) rfl fun q1=>?_
   refine W1N ?_
   refine NS a5 _ NB (Nn _) (by simp [aJ];omega) (by simp [aJ];omega) rfl fun q2=>?_
   refine aL (bH (t:=131) (c':= .imm 1 (aW (g.Ends++[n - 2]))) rfl fun σ v h=>ge (c:=fun z=>[aK z]) h) ?_
   refine aL (bF (List.sublist_append_right ..)) ?_
   refine W0r ?_
   refine NV a5 1 ND (by rw [Nat.ble_eq];simp only;omega) ?_
   repeat' (first|refine Ng ?_|fail)
   refine bf (lr f (g':={ g with Ends:=g.Ends++[n - 2] }) hg 4 (by omega) rfl (by omega) g2 g1 g3 g4 l2 l1 l3 l4) ?_
   exact K _ _ (hf.tglyph hg (by unfold gM;simp only;omega)) rfl
  clear h
  refine W01 ?_
  refine aj rfl (fun h=>?_) (fun h=>?_)
  ·clear h
   refine W01 ?_
   refine aj rfl (fun _=>?_) (fun h=>absurd (Nx h) (by omega))
   have m12:=dt n1 (b:=12) (by omega)
   have hv:gs[0+gi.toNat * 9+5]?=some (.imm 3 ((g.Parts).map dJ)):=by rw [show 0+gi.toNat * 9+5=gi.toNat * 9+5 by omega];exact F6 g2 hg 5 rfl
   repeat' (first|refine Ng ?_|refine NG a5 IG ?_|(apply aO;first|refine aN a5 ?_|refine aF a5 ?_)|refine fR (d:=142) a5 fun _=>?_|fail)
   refine NL a5 2 NA hv rfl ?_
   refine NS a5 _ NB (Nn _) (by simp;omega) (by simp;omega) rfl fun q1=>?_
   refine W0Q ?_
   refine NS a5 _ NB (Nn _) (by simp;omega) (by simp;omega) rfl fun q2=>?_
   refine aL (bH (t:=156) (c':= .imm 3 (((g.Parts++[(⟨n.tmod 12 - 1,n * 200,0⟩:cA)])).map dJ)) rfl fun σ v h=>ge h) ?_
   refine aL (bF (List.sublist_append_right ..)) ?_
   refine W0r ?_
   refine NV a5 1 ND (by rw [Nat.ble_eq];simp only;omega) ?_
   repeat' (first|refine Ng ?_|fail)
   refine bf (lr f (g':={ g with Parts:=g.Parts++[(⟨n.tmod 12 - 1,n * 200,0⟩:cA)] }) hg 5 (by omega) rfl (by omega) g2 g1 g3 g4 l2 l1 l3 l4) ?_
   exact K _ _ (hf.tglyph hg (by unfold gM;simp only [List.length_append,List.length_singleton];omega)) rfl
  clear h
  refine W01 ?_
  refine aj rfl (fun h=>?_) (fun h=>?_)
  ·clear h
   refine W01 ?_
   refine aj rfl (fun _=>?_) (fun h=>absurd (Nx h) (by omega))
   have m6:=dt n1 (b:=6) (by omega)
   have m5:=dt n1 (b:=5) (by omega)
   have hv:gs[0+gi.toNat * 9+6]?=some (.imm 4 ((g.Anchors).map da)):=by rw [show 0+gi.toNat * 9+6=gi.toNat * 9+6 by omega];exact F6 g2 hg 6 rfl
   repeat' (first|refine Ng ?_|refine NG a5 IG ?_|(apply aO;first|refine aN a5 ?_|refine aF a5 ?_)|refine fR (d:=166) a5 fun _=>?_|fail)
   refine NL a5 2 NA hv rfl ?_
   refine NS a5 _ NB (Nn _) (by simp;omega) (by simp;omega) rfl fun q1=>?_
   refine W0Q ?_
   refine NS a5 _ NB (Nn _) (by simp;omega) (by simp;omega) rfl fun q2=>?_
   refine aL (bH (t:=181) (c':= .imm 4 (((g.Anchors++[(⟨n.tmod 6,n.tmod 5 - 1,n,0⟩:d9)])).map da)) rfl fun σ v h=>ge h) ?_
   refine aL (bF (List.sublist_append_right ..)) ?_
   refine W0r ?_
   refine NV a5 1 ND (by rw [Nat.ble_eq];simp only;omega) ?_
   repeat' (first|refine Ng ?_|fail)
   refine bf (lr f (g':={ g with Anchors:=g.Anchors++[(⟨n.tmod 6,n.tmod 5 - 1,n,0⟩:d9)] }) hg 6 (by omega) rfl (by omega) g2 g1 g3 g4 l2 l1 l3 l4) ?_
   exact K _ _ (hf.tglyph hg (by unfold gM;simp only [List.length_append,List.length_singleton];omega)) rfl
  clear h
  refine W01 ?_
  refine aj rfl (fun h=>?_) (fun h=>?_)
  ·clear h
   refine W01 ?_
   refine aj rfl (fun _=>?_) (fun h=>absurd (Nx h) (by omega))
   have m4:=dt n1 (b:=4) (by omega)
   have m7:=dt n1 (b:=7) (by omega)
   have m2:=dt n1 (b:=2) (by omega)
   have hv:gs[0+gi.toNat * 9+7]?=some (.imm 4 ((g.Deltas).map dY)):=by rw [show 0+gi.toNat * 9+7=gi.toNat * 9+7 by omega];exact F6 g2 hg 7 rfl
   repeat' (first|refine Ng ?_|refine NG a5 IG ?_|(apply aO;first|refine aN a5 ?_|refine aF a5 ?_)|refine fR (d:=191) a5 fun _=>?_|fail)
   refine NL a5 2 NA hv rfl ?_
   refine NS a5 _ NB (Nn _) (by simp;omega) (by simp;omega) rfl fun q1=>?_
   refine W0Q ?_
   refine NS a5 _ NB (Nn _) (by simp;omega) (by simp;omega) rfl fun q2=>?_
   refine aL (bH (t:=209) (c':= .imm 4 (((g.Deltas++[(⟨n.tmod 4 - 1,n.tmod 7 - 2,n,n.tmod 2⟩:dk)])).map dY)) rfl fun σ v h=>ge h) ?_
   refine aL (bF (List.sublist_append_right ..)) ?_
   refine W0r ?_
   refine NV a5 1 ND (by rw [Nat.ble_eq];simp only;omega) ?_
   repeat' (first|refine Ng ?_|fail)
   refine bf (lr f (g':={ g with Deltas:=g.Deltas++[(⟨n.tmod 4 - 1,n.tmod 7 - 2,n,n.tmod 2⟩:dk)] }) hg 7 (by omega) rfl (by omega) g2 g1 g3 g4 l2 l1 l3 l4) ?_
   exact K _ _ (hf.tglyph hg (by unfold gM;simp only [List.length_append,List.length_singleton];omega)) rfl
  clear h
  refine W01 ?_
  refine aj rfl (fun h=>?_) (fun h=>?_)
  ·clear h
   refine W01 ?_
   refine aj rfl (fun _=>?_) (fun h=>absurd (Nx h) (by omega))
   have m42:=dt n1 (b:=42) (by omega)
   have hv:gs[0+gi.toNat * 9+8]?=some (.imm 2 ((g.Hint).map eS)):=by rw [show 0+gi.toNat * 9+8=gi.toNat * 9+8 by omega];exact F6 g2 hg 8 rfl
   repeat' (first|refine Ng ?_|refine NG a5 IG ?_|(apply aO;first|refine aN a5 ?_|refine aF a5 ?_)|refine fR (d:=219) a5 fun _=>?_|fail)
   refine NL a5 2 NA hv rfl ?_
   refine NS a5 _ NB (Nn _) (by simp;omega) (by simp;omega) rfl fun q1=>?_
   refine W1Q ?_
   refine NS a5 _ NB (Nn _) (by simp;omega) (by simp;omega) rfl fun q2=>?_
   refine aL (bH (t:=231) (c':= .imm 2 (((g.Hint++[(⟨n.tmod 42,n⟩:fh)])).map eS)) rfl fun σ v h=>ge h) ?_
   refine aL (bF (List.sublist_append_right ..)) ?_
   refine W0r ?_
   refine NV a5 1 ND (by rw [Nat.ble_eq];simp only;omega) ?_
   repeat' (first|refine Ng ?_|fail)
   refine bf (lr f (g':={ g with Hint:=g.Hint++[(⟨n.tmod 42,n⟩:fh)] }) hg 8 (by omega) rfl (by omega) g2 g1 g3 g4 l2 l1 l3 l4) ?_
   exact K _ _ (hf.tglyph hg (by unfold gM;simp only [List.length_append,List.length_singleton];omega)) rfl
  clear h
  refine W01 ?_
  refine aj rfl (fun h=>?_) (fun h=>?_)
  ·clear h
   have htr:=trivial
   have m14:=dt n1 (b:=14) (by omega)
   have hcn:=hf.chars
   repeat' (first|refine Ng ?_|refine NG a5 IG ?_|refine fR (d:=236) a5 fun _=>?_|fail)
   refine NJ a5 4 NC ?_
   refine NS a5 _ NB (Nn _) (by simp;omega) (by simp;omega) rfl fun q1=>?_
   refine W0Q ?_
   refine NS a5 _ NB (Nn _) (by simp;omega) (by simp;omega) rfl fun q2=>?_
   refine aL (bH (t:=247) (c':= .imm 2 ((f.Chars++[(⟨n * 12000,n.tmod 14 - 1⟩:gu)]).map ek)) rfl fun σ v h=>ge h) ?_
   refine aL (bF (List.sublist_append_right ..)) ?_
   refine W05 ?_
   refine bf (ia ({ f with Chars:=f.Chars++[⟨n * 12000,n.tmod 14 - 1⟩] }) f.Glyphs f.Lookups g2 g1 g3 g4 l2 l1 l3 l4) ?_
   exact K ({ f with Chars:=f.Chars++[⟨n * 12000,n.tmod 14 - 1⟩] }) _ (hf.tchar) rfl
  clear h
  refine W01 ?_
  refine aj rfl (fun h=>?_) (fun h=>?_)
  ·clear h
   refine W01 ?_
   refine aj rfl (fun h=>?_) (fun h=>?_)
   ·have h0:=Ny h
    have hk2:=hk (by omega)
    obtain ⟨l,hl⟩:∃x,f.Lookups[(k:Int).toNat]?=some x:=⟨_,Nz (by omega)⟩
    have hlm:=Nw hl
    have hlf:=hf.looks.few l hlm
    have hki:(k:Int).toNat * 3+3≤ls.length:=by
     rw [l1]
     omega
    have m10:=dt n1 (b:=10) (by omega)
    repeat' (first|refine Ng ?_|refine NG a5 IG ?_|refine iQ ?_|(apply aO;first|refine aN a5 ?_|refine aF a5 ?_)|fail)
    refine NV a5 0 ND (by rw [Nat.ble_eq];simp only;omega) ?_
    repeat' (first|refine Ng ?_|fail)
    refine bf (vB f (l':={ l with Kind:=n.tmod 10 }) hl 0 (by omega) rfl (by omega) g2 g1 g3 g4 l2 l1 l3 l4) ?_
    exact K _ _ (hf.tlook hl (by dsimp only;omega) (by dsimp only;omega)) rfl
   ·repeat' (first|refine Ng ?_|fail)
    refine bf (ia f f.Glyphs f.Lookups g2 g1 g3 g4 l2 l1 l3 l4) ?_
    exact K f _ hf.ts rfl
  clear h
  refine W01 ?_
  refine aj rfl (fun h=>?_) (fun h=>?_)
  ·clear h
   refine W01 ?_
   refine aj rfl (fun h=>?_) (fun h=>?_)
   ·have h0:=Ny h
    have hk2:=hk (by omega)
    obtain ⟨l,hl⟩:∃x,f.Lookups[(k:Int).toNat]?=some x:=⟨_,Nz (by omega)⟩
    have hlm:=Nw hl
    have hlf:=hf.looks.few l hlm
    have hki:(k:Int).toNat * 3+3≤ls.length:=by
     rw [l1]
     omega
    have m5:=dt n1 (b:=5) (by omega)
    have m7:=dt n1 (b:=7) (by omega)
    have m6:=dt n1 (b:=6) (by omega)
    have m2:=dt n1 (b:=2) (by omega)
    have hv:ls[0+(k:Int).toNat * 3+2]?=some (.imm 6 (l.Rules.map bI)):=by rw [show 0+(k:Int).toNat * 3+2=(k:Int).toNat * 3+2 by omega];exact Lm l2 hl 2 rfl
    repeat' (first|refine Ng ?_|refine NG a5 IG ?_|(apply bz;first|refine NJ a5 0 NC ?_|refine NJ a5 1 NC ?_|refine NJ a5 2 NC ?_|refine NJ a5 3 NC ?_|refine NK a5 0 NC ?_|refine NK a5 1 NC ?_|refine NK a5 2 NC ?_|refine NL a5 1 NA (by assumption) rfl ?_|refine NL a5 0 NA (by assumption) rfl ?_|fail)|(apply aO;first|refine aN a5 ?_|refine aF a5 ?_)|refine fR (d:=267) a5 fun _=>?_|fail)
    refine NS a5 _ NB (Nn _) (by simp;omega) (by simp;omega) rfl fun q1=>?_
    refine W0Q ?_
    refine aL (bH (t:=287) (c':= .imm 6 [bI (Kp n)]) rfl (d7.imm ⟨⟨d7.nil 1,d7.refl _,d7.nil 1,d7.refl _,d7.nil 2,d7.refl _,trivial⟩,trivial⟩)) ?_
    refine NS a5 _ NB (Nn _) (by simp;omega) (by simp;omega) rfl fun q2=>?_
    refine aL (bH (t:=288) (c':= .imm 6 ((l.Rules++[(Kp n)]).map bI)) rfl fun σ v h=>ge h) ?_
    refine aL (bF (List.sublist_append_right ..)) ?_
    refine W0r ?_
    refine NV a5 0 ND (by rw [Nat.ble_eq];simp only;omega) ?_
    repeat' (first|refine Ng ?_|fail)
    refine bf (vB f (l':={ l with Rules:=l.Rules++[(Kp n)] }) hl 2 (by omega) rfl (by omega) g2 g1 g3 g4 l2 l1 l3 l4) ?_
    exact K _ _ (hf.tlook hl (by rw [rZ];omega) (sG l.Rules (m:=4) (Nat.le_refl _))) rfl
   ·repeat' (first|refine Ng ?_|fail)
    refine bf (ia f f.Glyphs f.Lookups g2 g1 g3 g4 l2 l1 l3 l4) ?_
    exact K f _ hf.ts rfl
  clear h
  refine W01 ?_
  refine aj rfl (fun h=>?_) (fun h=>?_)
  ·clear h
   refine W01 ?_
   refine aj rfl (fun h=>?_) (fun h=>?_)
   ·have h0:=Ny h
    have hk2:=hk (by omega)
    obtain ⟨l,hl⟩:∃x,f.Lookups[(k:Int).toNat]?=some x:=⟨_,Nz (by omega)⟩
    have hlm:=Nw hl
    have hlf:=hf.looks.few l hlm
    have hki:(k:Int).toNat * 3+3≤ls.length:=by
     rw [l1]
     omega
    have m4:=dt n1 (b:=4) (by omega)
    have m8:=dt n1 (b:=8) (by omega)
    have hv:ls[0+(k:Int).toNat * 3+2]?=some (.imm 6 (l.Rules.map bI)):=by rw [show 0+(k:Int).toNat * 3+2=(k:Int).toNat * 3+2 by omega];exact Lm l2 hl 2 rfl
    repeat' (first|refine Ng ?_|refine NG a5 IG ?_|(apply bz;first|refine NJ a5 0 NC ?_|refine NJ a5 1 NC ?_|refine NJ a5 2 NC ?_|refine NJ a5 3 NC ?_|refine NK a5 0 NC ?_|refine NK a5 1 NC ?_|refine NK a5 2 NC ?_|refine NL a5 1 NA (by assumption) rfl ?_|refine NL a5 0 NA (by assumption) rfl ?_|fail)|(apply aO;first|refine aN a5 ?_|refine aF a5 ?_)|refine fR (d:=298) a5 fun _=>?_|fail)
    refine NS a5 _ NB (Nn _) (by simp;omega) (by simp;omega) rfl fun q1=>?_
    refine W0Q ?_
    refine aL (bH (t:=317) (c':= .imm 6 [bI (Kq n)]) rfl (d7.imm ⟨⟨d7.nil 1,d7.refl _,d7.nil 1,d7.nil 1,d7.refl _,d7.refl _,trivial⟩,trivial⟩)) ?_
    refine NS a5 _ NB (Nn _) (by simp;omega) (by simp;omega) rfl fun q2=>?_
    refine aL (bH (t:=318) (c':= .imm 6 ((l.Rules++[(Kq n)]).map bI)) rfl fun σ v h=>ge h) ?_
    refine aL (bF (List.sublist_append_right ..)) ?_
    refine W0r ?_
    refine NV a5 0 ND (by rw [Nat.ble_eq];simp only;omega) ?_
    repeat' (first|refine Ng ?_|fail)
    refine bf (vB f (l':={ l with Rules:=l.Rules++[(Kq n)] }) hl 2 (by omega) rfl (by omega) g2 g1 g3 g4 l2 l1 l3 l4) ?_
    exact K _ _ (hf.tlook hl (by rw [rZ];omega) (sG l.Rules (m:=5) (Nat.le_refl _))) rfl
   ·repeat' (first|refine Ng ?_|fail)
    refine bf (ia f f.Glyphs f.Lookups g2 g1 g3 g4 l2 l1 l3 l4) ?_
    exact K f _ hf.ts rfl
  clear h
  refine W01 ?_
  refine aj rfl (fun h=>?_) (fun h=>?_)
  ·clear h
   have m5:=dt n1 (b:=5) (by omega)
   have m4:=dt n1 (b:=4) (by omega)
   obtain ⟨s,hs,hs2⟩:=z9 (n.tmod 5).toNat (by omega)
   have hsg:=oU hs
   have hcn:=hf.featN.length_le
   simp only [Nu,hZ,List.length_cons,List.length_nil] at hcn
   refine bv 17 [(1,.v),(2,.l),(4,.v),(5,.v),(6,.v),(7,.v),(8,.v),(9,.v),(10,.v),(11,.v),(12,.v),(13,.v),(14,.v),(15,.v),(16,.v),(0,.a),(3,.e)] none ?_ trivial rfl (by kernel_rfl) (by kernel_rfl) (by kernel_rfl) bQ (by kernel_rfl) rfl
   refine W09 ?_
   refine ce a5 3 rfl rfl rfl rfl (by first | trivial | rfl) ?_
   refine W0V ?_
   refine Ai ?_
   refine W0b ?_
   refine Ai ?_
   refine W0x ?_
   refine Ai ?_
   refine W0V ?_
   refine Ez a5 rfl rfl rfl rfl rfl rfl rfl (by first | trivial | rfl) fun _=>?_
   repeat' (first|refine aD ?_|fail)
   refine dP a5 [(bl,.box ls 59),(bg,.box gs 76),(b4,.box xJ 32),(b2,.box (Ek f (jl bg f.Glyphs.length gcap) (jl bl f.Lookups.length lcap)) 32)] rfl rfl rfl rfl (Nn _) (by simp;omega) (by simp;omega) (by first | trivial | rfl) fun q1=>?_
   refine NP [2,4,326,339] IG ?_
   refine NS a5 _ NB (Nn _) (by simp;omega) (by simp;omega) rfl fun q2=>?_
   refine aL (bH (t:=340) (c':= .imm 2 ((f.Features++[(⟨s,[n.tmod 4 - 1,n.tmod 5]⟩:c6)]).map cg)) rfl fun σ v h=>ge h) ?_
   refine aL (bF (List.sublist_append_right ..)) ?_
   refine W05 ?_
   refine bf (ia ({ f with Features:=f.Features++[⟨s,[n.tmod 4 - 1,n.tmod 5]⟩] }) f.Glyphs f.Lookups g2 g1 g3 g4 l2 l1 l3 l4) ?_
   exact K ({ f with Features:=f.Features++[⟨s,[n.tmod 4 - 1,n.tmod 5]⟩] }) _ (hf.tfeat hs2 (by simp)) rfl
  clear h
  refine W01 ?_
  refine aj rfl (fun h=>?_) (fun h=>?_)
  ·clear h
   have m3:=dt n1 (b:=3) (by omega)
   obtain ⟨s,hs,hs2⟩:=z7 (n.tmod 3).toNat (by omega)
   have hsg:=oU hs
   have hcn:=hf.axes
   refine bv 12 [(1,.v),(2,.l),(4,.v),(5,.v),(6,.v),(7,.v),(8,.v),(9,.v),(10,.v),(11,.v),(0,.a),(3,.e)] none ?_ trivial rfl (by kernel_rfl) (by kernel_rfl) (by kernel_rfl) bQ (by kernel_rfl) rfl
   refine W09 ?_
   refine ce a5 3 rfl rfl rfl rfl (by first | trivial | rfl) ?_
   refine W0V ?_
   refine Ai ?_
   refine W1o ?_
   refine Ez a5 rfl rfl rfl rfl rfl rfl rfl (by first | trivial | rfl) fun _=>?_
   repeat' (first|refine aD ?_|fail)
   refine dP a5 [(bl,.box ls 59),(bg,.box gs 76),(b4,.box xJ 32),(b2,.box (Ek f (jl bg f.Glyphs.length gcap) (jl bl f.Lookups.length lcap)) 32)] rfl rfl rfl rfl (Nn _) (by simp;omega) (by simp;omega) (by first | trivial | rfl) fun q1=>?_
   refine NP [2,4,347,355] IG ?_
   refine NS a5 _ NB (Nn _) (by simp;omega) (by simp;omega) rfl fun q2=>?_
   refine aL (bH (t:=356) (c':= .imm 4 ((f.Axes++[(⟨s,n,50,60⟩:ej)]).map cO)) rfl fun σ v h=>ge h) ?_
   refine aL (bF (List.sublist_append_right ..)) ?_
   refine W05 ?_
   refine bf (ia ({ f with Axes:=f.Axes++[⟨s,n,50,60⟩] }) f.Glyphs f.Lookups g2 g1 g3 g4 l2 l1 l3 l4) ?_
   exact K ({ f with Axes:=f.Axes++[⟨s,n,50,60⟩] }) _ (hf.taxis hs2) rfl
  clear h
  refine W01 ?_
  refine aj rfl (fun h=>?_) (fun h=>?_)
  ·clear h
   have htr:=trivial
   have m5:=dt n1 (b:=5) (by omega)
   have hcn:=hf.regs
   repeat' (first|refine Ng ?_|refine NG a5 IG ?_|refine fR (d:=360) a5 fun _=>?_|fail)
   refine NJ a5 4 NC ?_
   refine NS a5 _ NB (Nn _) (by simp;omega) (by simp;omega) rfl fun q1=>?_
   refine W0Q ?_
   refine NS a5 _ NB (Nn _) (by simp;omega) (by simp;omega) rfl fun q2=>?_
   refine aL (bH (t:=373) (c':= .imm 1 ((f.Regions++[[(⟨n - 90,n.tmod 5 - 2,64⟩:ev)]]).map bX)) rfl fun σ v h=>ge h) ?_
   refine aL (bF (List.sublist_append_right ..)) ?_
   refine W05 ?_
   refine bf (ia ({ f with Regions:=f.Regions++[[⟨n - 90,n.tmod 5 - 2,64⟩]] }) f.Glyphs f.Lookups g2 g1 g3 g4 l2 l1 l3 l4) ?_
   exact K ({ f with Regions:=f.Regions++[[⟨n - 90,n.tmod 5 - 2,64⟩]] }) _ (hf.treg (by simp)) rfl
  clear h
  have htr:=trivial
  have m42:=dt n1 (b:=42) (by omega)
  have hcn:=hf.funcs
  have hcm:=hf.cvt
  repeat' (first|refine Ng ?_|refine NG a5 IG ?_|refine fR (d:=60) a5 fun _=>?_|fail)
  refine NJ a5 4 NC ?_
  refine NS a5 _ NB (Nn _) (by simp;omega) (by simp;omega) rfl fun q1=>?_
  refine W1Q ?_
  refine NS a5 _ NB (Nn _) (by simp;omega) (by simp;omega) rfl fun q2=>?_
  refine aL (bH (t:=70) (c':= .imm 1 ((f.Funcs++[[(⟨n.tmod 42,n⟩:fh)]]).map dO)) rfl fun σ v h=>ge h) ?_
  refine aL (bF (List.sublist_append_right ..)) ?_
  repeat' (first|refine Ng ?_|refine NG a5 IG ?_|(apply aI;first|refine NH a5 0 NE ?_|refine NH a5 1 NE ?_|refine NH a5 2 NE ?_|refine NH a5 3 NE ?_|fail)|refine fR (d:=72) a5 fun _=>?_|fail)
  refine NJ a5 4 NC ?_
  refine NS a5 [(bl,.box ls 59),(bg,.box gs 76),(b4,.box xJ 32),(b2,.box (Ek { f with Funcs:=f.Funcs++[[⟨n.tmod 42,n⟩]] } (jl bg f.Glyphs.length gcap) (jl bl f.Lookups.length lcap)) 32)] NB (Nn _) (by simp [aJ];omega) (by simp [aJ];omega) rfl fun q1=>?_
  refine W1N ?_
  refine NS a5 [(bl,.box ls 59),(bg,.box gs 76),(b4,.box xJ 32),(b2,.box (Ek { f with Funcs:=f.Funcs++[[⟨n.tmod 42,n⟩]] } (jl bg f.Glyphs.length gcap) (jl bl f.Lookups.length lcap)) 32)] NB (Nn _) (by simp [aJ];omega) (by simp [aJ];omega) rfl fun q2=>?_
  refine aL (bH (t:=80) (c':= .imm 1 (aW (f.Cvt++[(n - 50) * 400]))) rfl fun σ v h=>ge (c:=fun z=>[aK z]) h) ?_
  refine aL (bF (L':=[(bl,.box ls 59),(bg,.box gs 76),(b4,.box xJ 32),(b2,.box (Ek { f with Funcs:=f.Funcs++[[⟨n.tmod 42,n⟩]] } (jl bg f.Glyphs.length gcap) (jl bl f.Lookups.length lcap)) 32)]) (List.sublist_append_right ..)) ?_
  refine W05 ?_
  refine bf (ia ({ f with Funcs:=f.Funcs++[[⟨n.tmod 42,n⟩]],Cvt:=f.Cvt++[(n - 50) * 400] }) f.Glyphs f.Lookups g2 g1 g3 g4 l2 l1 l3 l4) ?_
  exact K ({ f with Funcs:=f.Funcs++[[⟨n.tmod 42,n⟩]],Cvt:=f.Cvt++[(n - 50) * 400] }) _ (hf.tfunc (by simp)) rfl
 refine W07 ?_
 exact gG (cs:=[.agg (cn x)]) [] ⟨⟨_,1,_,_,rfl,rfl,.inr ⟨eL a5 rfl,rfl⟩⟩,trivial⟩ (List.nil_sublist _) ⟨⟨x,rfl,hx⟩,rfl⟩
end Go.Proofs.YtpmdfoaadejmkaaGreatDoor
