/-
  The maker: its memory, and the next number.
-/
import Derived.Test.YtamjlkdanllgjaaGreatDoorM11
import Derived.Test.YtamjlkdanllgjaaGreatDoorM13
import Derived.Test.YtamjlkdanllgjaaGreatDoorM10
namespace Go.Proofs.YtamjlkdanllgjaaGreatDoor
open Go.RowKit
attribute [local irreducible] AT bB AX AO Av Kt ba dt DA cz
set_option maxRecDepth 8000
structure MF where
 u:AV
 gl:AV
 ch:AV
 lk:AV
 ft:AV
 ax:AV
 rg:AV
 fu:AV
 cv:AV
def J3 (s:List Int) (F:MF) (m:MS):List AV:=[.imm 1 (aO s),aH (min m.a s.length:Nat),F.u,F.gl,F.ch,F.lk,F.ft,F.ax,F.rg,F.fu,F.cv,aH (m.lo.val:Nat)]
abbrev dU (b:Nat) (s:List Int) (F:MF) (m:MS):Nat×AB:=(b,.box (J3 s F m) 129)
def rD (f:FuncId) (args:List AV) (s:List Int) (F:MF) {α:Type} (u:DM α) (out:α→AV):Prop:=∀(b:Nat) (m:MS),AC Tryz.prog f (Ef b::args) [dU b s F m] fun c L=>c=out (u m).1∧L=[dU b s F (u m).2]
theorem yD {x n:Int} (hn:0 < n):(x.tmod n+n).tmod n=x % n:=by
 have h0:=Int.lt_tmod_of_pos x hn
 rw [Int.tmod_eq_emod_of_nonneg (by omega),Int.add_emod_right]
 have h2:(x.tmod n) % n=(x - n * x.tdiv n) % n:=by rw [Int.tmod_def]
 rw [h2,Int.sub_mul_emod_self_left]
set_option maxHeartbeats 1000000 in
theorem nX (s:List Int) (hs:s.length≤1000000) (F:MF) (n:Int) (hn:0 < n∧n≤1000000):rD 51 [aH n] s F (dr s n) aH:=by
 intro b m
 refine aP Tryz.func51 rfl Tryz.ntmps51 rfl fun B=>?_
 have hil:=aW s
 unfold dU
 repeat' (first|refine ae ?_|refine a6 ?_|refine a8 ?_|refine aa ?_|refine LF a7 I9 ?_)
 refine bI 9 [(0,.v),(1,.v),(2,.v),(3,.l),(4,.v),(5,.v),(6,.v),(7,.l),(8,.v)] none ?_ trivial rfl (by kernel_rfl) (by kernel_rfl) (by kernel_rfl) mixed (by kernel_rfl) rfl
 repeat' (first|refine aF ?_|refine b9 a7 ?_|refine cS a7 0 rfl rfl rfl rfl (by first|trivial|rfl) ?_)
 refine LP [0,1,9,14] I9 ?_
 repeat' (first|refine a8 ?_|refine aa ?_|refine LF a7 I9 ?_)
 refine ay rfl (fun h=>?_) (fun h=>?_)
 ·have h1:s.length≤min m.a s.length:=by have:=Ly h;rw [hil] at this;omega
  repeat' (first|refine ae ?_|refine a6 ?_|refine aq ?_|refine a8 ?_|refine aC ?_|refine aa ?_|refine LF a7 I9 ?_)
  refine LM I9 ⟨?_,?_⟩
  ·unfold dr tp
   rw [List.getElem?_eq_none (show s.length≤m.a by omega)]
  ·unfold dr J3
   rw [show min m.a s.length=min (m.a+1) s.length by omega]
 have h1:m.a < s.length:=by have:=Lw h;rw [hil] at this;omega
 have h2:min m.a s.length=m.a:=by omega
 obtain ⟨x,hx⟩:∃x,s[m.a]?=some x:=⟨_,Lz h1⟩
 have hxg:=bO hx
 unfold J3
 rw [h2]
 repeat' (first|refine ae ?_|refine au ?_|refine a8 ?_)
 refine bI 8 [(0,.v),(1,.v),(2,.v),(3,.l),(4,.v),(5,.v),(6,.v),(7,.l)] none ?_ trivial rfl (by kernel_rfl) (by kernel_rfl) (by kernel_rfl) mixed (by kernel_rfl) rfl
 repeat' (first|refine aF ?_|refine b9 a7 ?_|refine cS a7 0 rfl rfl rfl rfl (by first|trivial|rfl) ?_)
 refine LP [0,1,19,23] I9 ?_
 repeat' (first|refine ae ?_|refine a6 ?_|refine a8 ?_|refine aa ?_|refine LF a7 I9 ?_|(apply bL;first|refine LI a7 0 LC ?_|refine LI a7 1 LC ?_|refine LI a7 2 LC ?_|refine LI a7 3 LC ?_|refine LJ a7 0 LC ?_|refine LJ a7 1 LC ?_|refine LJ a7 2 LC ?_|refine LL a7 1 LA (by assumption) rfl ?_|refine LL a7 0 LA (by assumption) rfl ?_|fail)|(apply aY;refine aX ?_)|(apply aU;first|refine aT a7 ?_|refine aN a7 ?_)|(apply aK;first|refine LG a7 0 LD ?_|refine LG a7 1 LD ?_|refine LG a7 2 LD ?_|refine LG a7 3 LD ?_|fail))
 refine yt ?_
 repeat' (first|refine LF a7 I9 ?_)
 have hb:=Int.lt_tmod_of_pos x hn.1
 have hb2:=Int.tmod_lt_of_pos x hn.1
 refine aX ?_
 repeat' (first|refine LF a7 I9 ?_)
 refine yt ?_
 repeat' (first|refine aq ?_|refine a8 ?_|refine aa ?_|refine LF a7 I9 ?_)
 refine LM I9 ⟨?_,?_⟩
 ·unfold dr tp
  rw [hx,yD hn.1]
 ·unfold dr
  dsimp only
  rw [show min (m.a+1) s.length=m.a+1 by omega]
  rfl
section
variable {r:Option Nat} {ops:Array Oper} {Q:Exit→Act→World→Prop} {nt:Nat} {D:List Deferred} {fr:bY} {B:Bs} {rest:List Oper} {d:Nat} {ty:TypeId} {pos:String} {af:Array Edge} {s:List Int} {F:MF} {b:Nat} {m:MS} {Z:AL} {args:Array Operand} {ts:Array TypeId}
theorem vm {f:FuncId} [bF Tryz.prog f] {α:Type} {u:DM α} {out:α→AV} {az ds:List AV} (hc:rD f az s F u out) (h:bB Tryz.prog r ops Q nt D rest ((d,out (u m).1)::fr) B (dU b s F (u m).2::Z)) (hv:ev fr args.toList=some ds:=by rfl) (hi:kR ds=some (Ef b::az):=by rfl) (hd:Nat.ble nt d=false:=by rfl):bB Tryz.prog r ops Q nt D (⟨some d,.call ⟨.value (.func f),args,ts⟩,ty,pos,af,none⟩::rest) fr B (dU b s F m::Z):=
 bh [dU b s F m] Z (hc b m) hv hi (Ll _) hd fun c L1 ⟨h1,h2⟩=>by subst h1;subst h2;exact h
theorem cy {n:Int} (h:bB Tryz.prog r ops Q nt D rest ((d,aH (dr s n m).1)::fr) B (dU b s F (dr s n m).2::Z)) (hv:ev fr args.toList=some [Ef b,aH n]:=by rfl) (hs:s.length≤1000000:=by assumption) (hn:0 < n∧n≤1000000:=by omega) (hd:Nat.ble nt d=false:=by rfl):bB Tryz.prog r ops Q nt D (⟨some d,.call ⟨.value (.func 51),args,ts⟩,ty,pos,af,none⟩::rest) fr B (dU b s F m::Z):=
 vm (nX s hs F n hn) h hv rfl hd
end
section
variable {l:List Oper} {fr:bY} {fin:lz} {sk:nq} {acc:bY} {k:Nat} {dd:Option Tmp} {ty:TypeId} {pos:String} {af:Array Edge} {g:Option (Nat×Bool)} {s:List Int} {F:MF} {b:Nat} {m:MS} {Z:AL} {args:Array Operand} {ts:Array TypeId}
theorem bW {L:AL}:f8 [] L:=fun q hq=>by cases hq
theorem bJ {q:Nat×Nat×AV} {gs:KpL} {L:AL} (i:Nat) {cs:List AV} {e:TypeId} (hL:L[i]?=some (q.1,.box cs e)) (hc:cs[q.2.1]?=some q.2.2) (h:f8 gs L):f8 (.cell q::gs) L:=fun p hp=>by
 rcases List.mem_cons.1 hp with rfl | hp
 ·exact show ∃cs e,(q.1,AB.box cs e)∈L∧cs[q.2.1]?=some q.2.2 from ⟨cs,e,Lv hL,hc⟩
 ·exact h p hp
theorem JR {f:FuncId} [bF Tryz.prog f] {α:Type} {u:DM α} {out:α→AV} {az ds:List AV} (hc:rD f az s F u out) (h:DA Tryz.prog l fr fin sk ((k,out (u m).1)::acc) (dU b s F (u m).2::Z)) (hv:ev (cL l.toArray acc fr af.toList) args.toList=some ds:=by rfl) (hi:kR ds=some (Ef b::az):=by rfl) (hg:jb ⟨dd,.call ⟨.value (.func f),args,ts⟩,ty,pos,af,g⟩ acc:=by first | trivial | rfl):cz Tryz.prog l fr fin k .e ⟨dd,.call ⟨.value (.func f),args,ts⟩,ty,pos,af,g⟩ sk acc (dU b s F m::Z):=
 lf [dU b s F m] Z (hc b m) hv hi (Ll _) hg fun c L1 ⟨h1,h2⟩=>by subst h1;subst h2;exact h
theorem s7 {f:FuncId} [bF Tryz.prog f] {α:Type} {u:DM α} {out:α→AV} {az ds:List AV} (hc:rD f az s F u out) (hK:f8 fin.gs (dU b s F (u m).2::Z)) (h:DA Tryz.prog l fr fin sk ((k,out (u m).1)::acc) (dU b s F (u m).2::Z)) (hv:ev (cL l.toArray acc fr af.toList) args.toList=some ds:=by rfl) (hi:kR ds=some (Ef b::az):=by rfl) (hg:jb ⟨dd,.call ⟨.value (.func f),args,ts⟩,ty,pos,af,g⟩ acc:=by first | trivial | rfl):cz Tryz.prog l fr fin k .f ⟨dd,.call ⟨.value (.func f),args,ts⟩,ty,pos,af,g⟩ sk acc (dU b s F m::Z):=
 tk [dU b s F m] Z (hc b m) hv hi (Ll _) hg (fun c L1 ⟨_,h2⟩ _=>by subst h2;exact hK) fun c L1 ⟨h1,h2⟩=>by subst h1;subst h2;exact h
theorem tl {n:Int} (h:DA Tryz.prog l fr fin sk ((k,aH (dr s n m).1)::acc) (dU b s F (dr s n m).2::Z)) (hv:ev (cL l.toArray acc fr af.toList) args.toList=some [Ef b,aH n]:=by rfl) (hs:s.length≤1000000:=by assumption) (hn:0 < n∧n≤1000000:=by omega) (hg:jb ⟨dd,.call ⟨.value (.func 51),args,ts⟩,ty,pos,af,g⟩ acc:=by first | trivial | rfl):cz Tryz.prog l fr fin k .e ⟨dd,.call ⟨.value (.func 51),args,ts⟩,ty,pos,af,g⟩ sk acc (dU b s F m::Z):=
 JR (nX s hs F n hn) h hv rfl hg
theorem eJ {n:Int} (hK:f8 fin.gs (dU b s F (dr s n m).2::Z)) (h:DA Tryz.prog l fr fin sk ((k,aH (dr s n m).1)::acc) (dU b s F (dr s n m).2::Z)) (hv:ev (cL l.toArray acc fr af.toList) args.toList=some [Ef b,aH n]:=by rfl) (hs:s.length≤1000000:=by assumption) (hn:0 < n∧n≤1000000:=by omega) (hg:jb ⟨dd,.call ⟨.value (.func 51),args,ts⟩,ty,pos,af,g⟩ acc:=by first | trivial | rfl):cz Tryz.prog l fr fin k .f ⟨dd,.call ⟨.value (.func 51),args,ts⟩,ty,pos,af,g⟩ sk acc (dU b s F m::Z):=
 s7 (nX s hs F n hn) hK h hv rfl hg
end
end Go.Proofs.YtamjlkdanllgjaaGreatDoor
namespace Go.Proofs.YtamjlkdanllgjaaGreatDoor
open Go.RowKit
attribute [local irreducible] AT bB AX AO Av Kt ba dt DA cz
set_option maxRecDepth 8000
section
variable {P:Program} {tt:TT} {nt:Nat} {fr:bY} {B:Bs} {L L':AL}
theorem ic (ok:ej P tt) (i:Nat) (L':AL) {fn:Func} {Post:AV→AL→Prop} {t:Tmp} {e e':TypeId} {b k:Nat} {cs:List AV} (hr:fn.results=#[.cell t e]) (hk:Ia tt e=some k) (hv:c8 fr t=some (.sc (.pointer (some ⟨b,0,none⟩)))) (hL:L[i]?=some (b,.box cs e')) (hl:Nat.beq cs.length k=true) (hs:L'.Sublist L) (h:Post (.agg cs) L'):
  AX P .ret (bodyPost P fn (ib B Post)) nt [] fr B L:=by
 unfold AX
 intro σ a w ha hw
 haveI:=dR ok hk
 obtain ⟨vs,hb,hs',h1⟩:=hw.boxCell hL
 have hl:=Nat.eq_of_beq_eq_true hl
 refine ⟨ha.defers,_,n7 (cs:=vs) hr (ha.look t _ hv).sc_inv (hs'.1.symm.trans hl) (fun j v hj=>by rw [d4 hb,Nat.zero_add];simpa using hj),_,σ,_,L',rfl,.agg cs vs hs'.1 hs'.2 h1,hw.sublist hs,h⟩
theorem cF.im {k:Option (Nat×Nat)} {sz:Nat} {l:List (List AV)}:cF (.vec k sz l) (.imm sz l):=fun _ _ h=>VR.im h
theorem cF.vecN (n:Nat):cF (.sc (.slice none 0 0)) (.vec none n []):=fun _ _ h=>cC n h
end
section
variable {P:Program} {r:Option Nat} {Q:Exit→Act→World→Prop} {nt:Nat} {D:List Deferred} {fr fr1:bY} {B:Bs} {L:AL}
theorem td {A C:Code} (ks:List Nat) (L1:AL) (hk:fE fr ks=some fr1) (hA:∀Q',(∀fr',fE fr' ks=some fr1→AX P .normal Q' nt D fr' B L1)→AT P r A Q' nt D fr B L) (hB:AT P r C Q nt D fr1 B L1):AT P r A (Kt P r C Q) nt D fr B L:=
 hA _ fun _ h=>a8 (pj ks h hB)
end
theorem eL {A T R:AL}:(A++(T++R)).Perm (T++(A++R)):=List.perm_append_comm_assoc ..
theorem Je {A T1 T R:AL}:(A++(T1++(T++R))).Perm (T++(A++(T1++R))):=by
 have:=eL (A:=A++T1) (T:=T) (R:=R)
 simpa [List.append_assoc] using this
end Go.Proofs.YtamjlkdanllgjaaGreatDoor
namespace Go.Proofs.YtamjlkdanllgjaaGreatDoor
open Go.RowKit
attribute [local irreducible] AT bB AX AO Av Kt ba dt DA cz
set_option maxRecDepth 8000
structure GM (g:bf):Prop where
 points:g.Points.length≤1000000
 ends:g.Ends.length≤1000000
 parts:g.Parts.length≤1000000
 anchors:g.Anchors.length≤1000000
 hint:g.Hint.length≤1000000
def eR (g:bf):bf:={ g with Deltas:=[] }
theorem FW (g:bf) (h:GM g):bH Tryz.prog 74 [.agg (bj g)] (.agg (bj (eR g))):=by
 refine aP Tryz.func74 rfl Tryz.ntmps74 rfl fun B=>?_
 haveI i1:=AD.mk (HY (g.Points.map dw) (fun q hq=>by obtain ⟨y,_,rfl⟩:=List.mem_map.1 hq;rfl) (by rw [Lr];exact h.points))
 haveI i2:=AD.mk (vG (aO g.Ends) (fun q hq=>by obtain ⟨y,_,rfl⟩:=List.mem_map.1 hq;rfl) (by rw [aW];exact h.ends))
 haveI i3:=AD.mk (HZ (g.Parts.map er) (fun q hq=>by obtain ⟨y,_,rfl⟩:=List.mem_map.1 hq;rfl) (by rw [Lr];exact h.parts))
 haveI i4:=AD.mk (I0 (g.Anchors.map cY) (fun q hq=>by obtain ⟨y,_,rfl⟩:=List.mem_map.1 hq;rfl) (by rw [Lr];exact h.anchors))
 haveI i5:=AD.mk (GB (g.Hint.map dO) (fun q hq=>by obtain ⟨y,_,rfl⟩:=List.mem_map.1 hq;rfl) (by rw [Lr];exact h.hint))
 repeat' (first|refine ae ?_|refine a6 ?_|refine a8 ?_|refine aa ?_|refine bo ?_|refine bg a7 fun _=>?_|fail)
 refine bI 24 [(0,.v),(1,.v),(2,.v),(3,.v),(4,.v),(5,.v),(6,.v),(7,.v),(8,.v),(9,.v),(10,.v),(11,.v),(12,.v),(13,.v),(14,.v),(15,.v),(16,.v),(17,.v),(18,.v),(19,.v),(20,.v),(21,.v),(22,.v),(23,.v)] none ?_ trivial rfl (by kernel_rfl) (by kernel_rfl) (by kernel_rfl) mixed (by kernel_rfl) rfl
 repeat' (first|refine aF ?_|refine b9 a7 ?_|(apply du;refine dT ?_)|fail)
 refine LP [2,4,6,8,17,20,23,26] I9 ?_
 repeat' (first|refine aq ?_|refine a8 ?_|refine aa ?_|refine LF a7 I9 ?_|(apply aK;first|refine LG a7 0 LD ?_|refine LG a7 1 LD ?_|refine LG a7 2 LD ?_|refine LG a7 3 LD ?_|fail))
 refine b6 (bq 0 (cs':=bj (eR g)) rfl fun σ vs hh=>ld.vrs (a:=[rE g.Name,aH g.Advance,cQ g.Mark,.imm 3 (g.Points.map dw),.imm 1 (aO g.Ends),.imm 3 (g.Parts.map er),.imm 4 (g.Anchors.map cY),.sc (.slice none 0 0),.imm 2 (g.Hint.map dO)]) (b:=bj (eR g)) ⟨cF.refl _,cF.refl _,cF.refl _,cF.refl _,cF.refl _,cF.refl _,cF.refl _,cF.nil 4,cF.refl _,trivial⟩ hh) ?_
 exact ic a7 0 [] rfl rfl rfl rfl rfl (List.nil_sublist _) rfl
theorem DJ (f:aV) (p m:AV) (g:bf) (hd:g.Deltas=[]):AC Tryz.prog 75 [.agg (c6 f++[p,m]),.agg (bj g)] [] fun c L=>∃b,c= .sc (.map (some b))∧L=[(b,ca (.int .i64) fun _=>none)]:=by
 refine aP Tryz.func75 rfl Tryz.ntmps75 rfl fun B=>?_
 repeat' (first|refine ae ?_|refine a6 ?_|refine a8 ?_|refine aa ?_|refine LF a7 I9 ?_|refine bo ?_|fail)
 refine ec (.int .i64) fun b=>?_
 repeat' (first|refine ae ?_|refine a6 ?_|refine am ?_|refine a8 ?_|refine aa ?_|refine LF a7 I9 ?_)
 rw [hd]
 refine aJ [2,3,5,13,14] (α:=Unit) (fun _=>[(15,aH 0)]) (fun _=>True) (fun _=>[(b,ca (.int .i64) fun _=>none)]) (fun _=>0) () rfl ⟨rfl,trivial⟩ trivial (fun _ _ h=>h) fun _ _=>?_
 try dsimp only [Lp,Lo,Ln,Lh]
 repeat' (first|refine ae ?_|refine a6 ?_|refine aq ?_|refine aL ?_|refine a8 ?_|refine av ?_|refine aA ?_|refine aw ?_|refine aa ?_|refine LF a7 I9 ?_|refine bk rfl ?_)
 exact LM I9 ⟨b,rfl,rfl⟩
theorem Fb (tb eb:Nat) (L:AL):py Tryz.prog 73 ([.pointer (some ⟨tb,0,none⟩),.pointer (some ⟨eb,0,none⟩)].map .sc) L .returning .returning L:=by
 refine wD Tryz.func73 rfl Tryz.ntmps73 rfl rfl rfl rfl vD fun B=>?_
 repeat' (first|refine ae ?_|refine a6 ?_|refine LF a7 I9 ?_)
 refine xa false ⟨_,Tryz.underlying20⟩ rfl (.inl ⟨rfl,rfl⟩) rfl ?_
 repeat' (first|refine au ?_|refine a8 ?_|refine aa ?_|refine bk rfl ?_)
 exact wk (List.Sublist.refl _)
set_option maxHeartbeats 4000000 in
theorem Fa (f:aV) (p m:AV) (g:bf) (hs:GM g) (hd:g.Deltas=[]):bH Tryz.prog 45 [.agg (c6 f++[p,m]),.agg (bj g)] (.tup [.agg (bj (eR g)),aH 0]):=by
 refine pG Tryz.func45 rfl Tryz.ntmps45 rfl fun B=>?_
 haveI i1:=AD.mk (FW g hs)
 repeat' (first|refine ae ?_|refine a6 ?_|refine a8 ?_|refine aa ?_|refine LF a7 I9 ?_|refine bo ?_|refine bg a7 fun _=>?_|fail)
 refine yr [.pointer (some ⟨_,0,none⟩),.pointer (some ⟨_,0,none⟩)] rfl ?_
 repeat' (first|refine ae ?_|refine a6 ?_|refine a8 ?_|refine aa ?_|refine LF a7 I9 ?_|(apply aK;first|refine LH 7 a7 0 LE ?_|refine LH 7 a7 1 LE ?_|refine LH 7 a7 2 LE ?_|refine LG a7 0 LD ?_|refine LG a7 1 LD ?_|refine LG a7 2 LD ?_|refine LG a7 3 LD ?_|fail)|(apply bw;refine bi ?_)|fail)
 refine bh [] _ (DJ f p m g hd) rfl rfl (Ll _) rfl fun c L1 ⟨b,hc,hL⟩=>?_
 subst hc;subst hL
 repeat' (first|fail)
 refine CY 0 Tryz.underlying159 rfl rfl rfl fun q=>?_
 repeat' (first|refine am ?_|refine a8 ?_|refine aa ?_)
 rename_i tb eb _
 refine aJ [4,5,17] (α:=Unit) (fun _=>[]) (fun _=>True) (fun _=>[(eb,.box [aH 0] 52),(tb,.box (bj (eR g)) 67),(q,IN b),(b,ca (.int .i64) fun _=>none)]) (fun _=>0) () rfl trivial trivial (fun _ _ h=>cZ.perm h (List.perm_append_comm (l₁:=[_,_]))) fun _ _=>?_
 try dsimp only [Lp,Lo,Ln,Lh]
 repeat' (first|refine ae ?_|refine a6 ?_)
 refine Fp 2 3 rfl rfl rfl rfl ?_
 repeat' (first|refine ae ?_|refine a6 ?_|refine aq ?_|refine aL ?_|refine a8 ?_|refine av ?_|refine aA ?_|refine aw ?_|refine aa ?_|refine LF a7 I9 ?_|(apply bL;first|refine LI a7 0 LC ?_|refine LI a7 1 LC ?_|refine LI a7 2 LC ?_|refine LI a7 3 LC ?_|refine LJ a7 0 LC ?_|refine LJ a7 1 LC ?_|refine LJ a7 2 LC ?_|refine LL a7 1 LA (by assumption) rfl ?_|refine LL a7 0 LA (by assumption) rfl ?_|fail)|(apply aK;first|refine LH 7 a7 0 LE ?_|refine LH 7 a7 1 LE ?_|refine LH 7 a7 2 LE ?_|refine LG a7 0 LD ?_|refine LG a7 1 LD ?_|refine LG a7 2 LD ?_|refine LG a7 3 LD ?_|fail)|refine bk rfl ?_)
 refine xS (cs:=[.agg (bj (eR g)),aH 0]) [] _ [] [] (Fb tb eb []) (Ll _) ?_ (List.nil_sublist _) rfl
 exact ⟨⟨_,1,_,_,rfl,rfl,.inr ⟨dR a7 rfl,rfl⟩⟩,⟨_,0,_,_,rfl,rfl,.inl ⟨cu a7 rfl,rfl⟩⟩,trivial⟩
set_option maxRecDepth 8000
variable (s:List Int) (hs:s.length≤1000000) (F:MF)
include hs
theorem ck (a:Nat) {n:Int} (hn:0 < n):0≤tp s a n∧tp s a n < n:=by
 have _:=hs
 clear hs
 unfold tp
 split
 ·rename_i x _
  exact ⟨Int.emod_nonneg x (by omega),Int.emod_lt_of_pos x hn⟩
 ·omega
def J8 (o:List eH×List Int):AV:= .agg [.imm 3 (o.1.map dw),.imm 1 (aO o.2)]
def jm (l:List eG):AV:= .imm 2 (l.map dO)
set_option maxHeartbeats 8000000 in
theorem xe (n fn:Int) (hn:0≤n∧n≤10000) (hf:fn≤10000):rD 81 [aH n,aH fn] s F (cA s n fn) jm:=by
 intro b m
 refine aP Tryz.func81 rfl Tryz.ntmps81 rfl fun B=>?_
 repeat' (first|refine ae ?_|refine a6 ?_|refine a8 ?_|refine aa ?_|refine LF a7 I9 ?_|(apply aY;refine aX ?_)|fail)
 refine cy ?_
 repeat' (first|refine ae ?_|refine a6 ?_|refine a8 ?_|refine aa ?_|refine LF a7 I9 ?_|(apply aY;refine aX ?_)|fail)
 refine cy ?_
 repeat' (first|refine ae ?_|refine a6 ?_|refine a8 ?_|refine aa ?_|refine LF a7 I9 ?_)
 refine cy ?_
 repeat' (first|refine ae ?_|refine a6 ?_|refine a8 ?_|refine aa ?_|refine LF a7 I9 ?_)
 refine cy ?_
 generalize e1:dr s (n+1) m=p1
 generalize e2:dr s (n+1) p1.2=p2
 generalize e3:dr s 2 p2.2=p3
 have hk:=ck s hs p3.2.a (n:=12) (by omega)
 have hk:0≤(dr s 12 p3.2).1∧(dr s 12 p3.2).1 < 12:=hk
 generalize e4:dr s 12 p3.2=p4 at hk ⊢
 repeat' (first|refine ae ?_|refine a6 ?_|refine am ?_|refine a8 ?_|refine aa ?_|refine LF a7 I9 ?_)
 refine ay rfl (fun h=>?_) (fun h=>?_)
 ·have h:=Ly h
  repeat' (first|refine ae ?_|refine a6 ?_|refine aq ?_|refine a8 ?_|refine aC ?_|refine aQ ?_|refine aa ?_|refine LF a7 I9 ?_|refine bS a7 ?_|fail)
  exact LM I9 ⟨by simp [cA,bZ,cx,e1,e2,e3,e4,jm,dO,h],by simp [cA,bZ,cx,e1,e2,e3,e4,h]⟩
 have h0:=Lw h
 clear h
 repeat' (first|refine ae ?_|refine a6 ?_|refine a8 ?_|refine aa ?_|refine LF a7 I9 ?_)
 refine ay rfl (fun h=>?_) (fun h=>?_)
 ·have h:=Ly h
  repeat' (first|refine ae ?_|refine a6 ?_|refine LF a7 I9 ?_)
  refine cy ?_
  repeat' (first|refine aq ?_|refine a8 ?_|refine aC ?_|refine aQ ?_|refine aa ?_|refine LF a7 I9 ?_|refine bS a7 ?_|fail)
  exact LM I9 ⟨by simp [cA,bZ,cx,e1,e2,e3,e4,jm,dO,h],by simp [cA,bZ,cx,e1,e2,e3,e4,h]⟩
 have h1:=Lw h
 clear h
 repeat' (first|refine ae ?_|refine a6 ?_|refine a8 ?_|refine aa ?_|refine LF a7 I9 ?_)
 refine ay rfl (fun h=>?_) (fun h=>?_)
 ·have h:=Ly h
  rw [decide_eq_true h]
  repeat' (first|refine ae ?_|refine a6 ?_|refine au ?_|refine aq ?_|refine a8 ?_|refine aC ?_|refine aQ ?_|refine aa ?_|refine LF a7 I9 ?_|refine bS a7 ?_|refine bV rfl ?_)
  exact LM I9 ⟨by simp [cA,bZ,cx,e1,e2,e3,e4,jm,dO,h],by simp [cA,bZ,cx,e1,e2,e3,e4,h]⟩
 have h2:=Lw h
 clear h
 repeat' (first|refine a6 ?_|refine a8 ?_|refine aa ?_|refine LF a7 I9 ?_)
 refine ay rfl (fun h=>?_) (fun h=>?_)
 ·have h:=Ly h
  repeat' (first|refine ae ?_|refine a6 ?_|refine aq ?_|refine a8 ?_|refine aC ?_|refine aQ ?_|refine aa ?_|refine LF a7 I9 ?_|refine bS a7 ?_|fail)
  exact LM I9 ⟨by simp [cA,bZ,cx,e1,e2,e3,e4,jm,dO,h],by simp [cA,bZ,cx,e1,e2,e3,e4,h]⟩
 have h3:=Lw h
 clear h
 repeat' (first|refine ae ?_|refine a6 ?_|refine a8 ?_|refine aa ?_|refine LF a7 I9 ?_)
 refine ay rfl (fun h=>?_) (fun h=>?_)
 ·have h:=Ly h
  repeat' (first|refine ae ?_|refine a6 ?_|refine LF a7 I9 ?_)
  refine cy ?_
  have hz:=ck s hs p4.2.a (n:=200) (by omega)
  have hz:0≤(dr s 200 p4.2).1∧(dr s 200 p4.2).1 < 200:=hz
  repeat' (first|refine aq ?_|refine a8 ?_|refine aC ?_|refine aQ ?_|refine aa ?_|refine LF a7 I9 ?_|(apply aY;refine aX ?_)|refine bS a7 ?_|fail)
  exact LM I9 ⟨by simp [cA,bZ,cx,e1,e2,e3,e4,jm,dO,h],by simp [cA,bZ,cx,e1,e2,e3,e4,h]⟩
 have h4:=Lw h
 clear h
 repeat' (first|refine ae ?_|refine a6 ?_|refine a8 ?_|refine aa ?_|refine LF a7 I9 ?_)
 refine ay rfl (fun h=>?_) (fun h=>?_)
 ·have h:=Ly h
  repeat' (first|refine ae ?_|refine a6 ?_|refine aq ?_|refine a8 ?_|refine aC ?_|refine aQ ?_|refine aa ?_|refine LF a7 I9 ?_|refine bS a7 ?_|fail)
  exact LM I9 ⟨by simp [cA,bZ,cx,e1,e2,e3,e4,jm,dO,h],by simp [cA,bZ,cx,e1,e2,e3,e4,h]⟩
 have h5:=Lw h
 clear h
 repeat' (first|refine ae ?_|refine a6 ?_|refine a8 ?_|refine aa ?_|refine LF a7 I9 ?_)
 refine ay rfl (fun h=>?_) (fun h=>?_)
 ·have h:=Ly h
  repeat' (first|refine ae ?_|refine a6 ?_|refine aq ?_|refine a8 ?_|refine aC ?_|refine aQ ?_|refine aa ?_|refine LF a7 I9 ?_|refine bS a7 ?_|fail)
  exact LM I9 ⟨by simp [cA,bZ,cx,e1,e2,e3,e4,jm,dO,h],by simp [cA,bZ,cx,e1,e2,e3,e4,h]⟩
 have h6:=Lw h
 clear h
 repeat' (first|refine ae ?_|refine a6 ?_|refine a8 ?_|refine aa ?_|refine LF a7 I9 ?_)
 refine ay rfl (fun h=>?_) (fun h=>?_)
 ·have h:=Ly h
  repeat' (first|refine ae ?_|refine a6 ?_|refine aq ?_|refine a8 ?_|refine aC ?_|refine aQ ?_|refine aa ?_|refine LF a7 I9 ?_|refine bS a7 ?_|fail)
  exact LM I9 ⟨by simp [cA,bZ,cx,e1,e2,e3,e4,jm,dO,h],by simp [cA,bZ,cx,e1,e2,e3,e4,h]⟩
 have h7:=Lw h
 clear h
 repeat' (first|refine ae ?_|refine a6 ?_|refine a8 ?_|refine aa ?_|refine LF a7 I9 ?_)
 refine ay rfl (fun h=>?_) (fun h=>?_)
 ·have h:=Ly h
  repeat' (first|refine ae ?_|refine a6 ?_|refine a8 ?_|refine aa ?_|refine LF a7 I9 ?_)
  refine ay rfl (fun hf0=>?_) (fun hf0=>?_)
  ·have hf0:=Ly hf0
   repeat' (first|refine ae ?_|refine a6 ?_|refine LF a7 I9 ?_)
   refine cy ?_
   repeat' (first|refine aq ?_|refine a8 ?_|refine aC ?_|refine aQ ?_|refine aa ?_|refine LF a7 I9 ?_|refine bS a7 ?_|fail)
   exact LM I9 ⟨by simp [cA,bZ,cx,e1,e2,e3,e4,jm,dO,h,hf0],by simp [cA,bZ,cx,e1,e2,e3,e4,h,hf0]⟩
  ·have hf0:=Lw hf0
   repeat' (first|refine ae ?_|refine a6 ?_|refine au ?_|refine aq ?_|refine a8 ?_|refine aM ?_|refine aa ?_|refine LF a7 I9 ?_|refine bS a7 ?_|fail)
   exact LM I9 ⟨by simp [cA,bZ,cx,e1,e2,e3,e4,jm,dO,gK,h,hf0],by simp [cA,bZ,cx,e1,e2,e3,e4,gK,h,hf0]⟩
 have h8:=Lw h
 clear h
 repeat' (first|refine ae ?_|refine a6 ?_|refine a8 ?_|refine aa ?_|refine LF a7 I9 ?_)
 refine ay rfl (fun h=>?_) (fun h=>?_)
 ·have h:=Ly h
  by_cases hf0:0 < fn
  ·repeat' (first|refine ae ?_|refine a6 ?_|refine LF a7 I9 ?_)
   rw [decide_eq_true hf0]
   repeat' (first|refine a8 ?_|refine aa ?_|refine LF a7 I9 ?_|refine LN I9 ?_|(apply bL;first|refine LI a7 0 LC ?_|refine LI a7 1 LC ?_|refine LI a7 2 LC ?_|refine LI a7 3 LC ?_|refine LJ a7 0 LC ?_|refine LJ a7 1 LC ?_|refine LJ a7 2 LC ?_|refine LL a7 1 LA (by assumption) rfl ?_|refine LL a7 0 LA (by assumption) rfl ?_|fail)|fail)
   refine ay rfl (fun hl=>?_) (fun hl=>?_)
   ·have hl:=Ly hl
    repeat' (first|refine ae ?_|refine a6 ?_|refine a8 ?_|refine aa ?_|refine LF a7 I9 ?_|(apply bL;first|refine LI a7 0 LC ?_|refine LI a7 1 LC ?_|refine LI a7 2 LC ?_|refine LI a7 3 LC ?_|refine LJ a7 0 LC ?_|refine LJ a7 1 LC ?_|refine LJ a7 2 LC ?_|refine LL a7 1 LA (by assumption) rfl ?_|refine LL a7 0 LA (by assumption) rfl ?_|fail)|(apply aY;refine aX ?_)|(apply aK;first|refine LG a7 0 LD ?_|refine LG a7 1 LD ?_|refine LG a7 2 LD ?_|refine LG a7 3 LD ?_|fail))
    have hlt:=p4.2.lo.isLt
    have hlz:0 < p4.2.lo.val:=by omega
    have hcell:((p4.2.lo.val:Nat):Int) - 1=((p4.2.lo.val - 1:Nat):Int):=by omega
    rw [hcell]
    change bB _ _ _ _ _ _ _ _ _ [dU b s F (IS p4.2).2]
    repeat' (first|fail)
    refine cy ?_
    repeat' (first|refine LF a7 I9 ?_)
    refine cy ?_
    repeat' (first|refine aq ?_|refine a8 ?_|refine aC ?_|refine aQ ?_|refine aa ?_|refine LF a7 I9 ?_|refine bS a7 ?_|fail)
    exact LM I9 ⟨by simp [cA,bZ,cx,e1,e2,e3,e4,jm,dO,h,hf0,qH,hlz],by simp [cA,bZ,cx,e1,e2,e3,e4,h,hf0,qH,hlz]⟩
   ·have hl:=Lw hl
    have hl0:p4.2.lo.val=0:=by omega
    repeat' (first|refine ae ?_|refine a6 ?_|refine au ?_|refine aq ?_|refine a8 ?_|refine aM ?_|refine aa ?_|refine LF a7 I9 ?_|refine bS a7 ?_|fail)
    exact LM I9 ⟨by simp [cA,bZ,cx,e1,e2,e3,e4,jm,dO,gK,h,hf0,qH,hl0],by simp [cA,bZ,cx,e1,e2,e3,e4,gK,h,hf0,qH,hl0]⟩
  ·repeat' (first|refine ae ?_|refine a6 ?_|refine LF a7 I9 ?_)
   rw [decide_eq_false hf0]
   repeat' (first|refine ae ?_|refine a6 ?_|refine au ?_|refine aq ?_|refine a8 ?_|refine aM ?_|refine aa ?_|refine LF a7 I9 ?_|refine LO LB ?_|refine bS a7 ?_|refine bk rfl ?_)
   exact LM I9 ⟨by simp [cA,bZ,cx,e1,e2,e3,e4,jm,dO,gK,h,hf0],by simp [cA,bZ,cx,e1,e2,e3,e4,gK,h,hf0]⟩
 have h9:=Lw h
 clear h
 repeat' (first|refine ae ?_|refine a6 ?_|refine a8 ?_|refine aa ?_|refine LF a7 I9 ?_)
 refine ay rfl (fun h=>?_) (fun h=>?_)
 ·have h:=Ly h
  repeat' (first|refine ae ?_|refine a6 ?_|refine aq ?_|refine a8 ?_|refine aC ?_|refine aQ ?_|refine aa ?_|refine LF a7 I9 ?_|refine bS a7 ?_|fail)
  exact LM I9 ⟨by simp [cA,bZ,cx,e1,e2,e3,e4,jm,dO,h],by simp [cA,bZ,cx,e1,e2,e3,e4,h]⟩
 have h10:=Lw h
 clear h
 repeat' (first|refine ae ?_|refine a6 ?_|refine au ?_|refine aq ?_|refine a8 ?_|refine aM ?_|refine aa ?_|refine LF a7 I9 ?_|refine bS a7 ?_|fail)
 exact LM I9 ⟨by simp [cA,bZ,cx,e1,e2,e3,e4,jm,dO,gK,h0,h1,h2,h3,h4,h5,h6,h7,h8,h9,h10],by simp [cA,bZ,cx,e1,e2,e3,e4,gK,h0,h1,h2,h3,h4,h5,h6,h7,h8,h9,h10]⟩
end Go.Proofs.YtamjlkdanllgjaaGreatDoor
namespace Go.Proofs.YtamjlkdanllgjaaGreatDoor
open Go.RowKit
attribute [local irreducible] AT bB AX AO Av Kt ba dt DA cz
set_option maxRecDepth 8000
open Go.MapKept
section
variable {P:Program} {r:Option Nat} {ops:Array Oper} {Q:Exit→Act→World→Prop} {nt:Nat} {D:List Deferred} {fr:bY} {B:Bs} {L:AL} {rest:List Oper} {d:Nat} {ty t:TypeId} {pos:String} {af:Array Edge} {x y z:Operand} {u:AV} {cd:Code}
theorem jp {f:FuncId} {args:Array Operand} {ts:Array TypeId} {cs caps:List AV} {v:AV} [bF P f] (hc:bH P f (cs++caps) v) (hx:br fr x=some u) (hu:kx u=some (f,caps)) (hv:ev fr args.toList=some cs) (hn:Oper.noDefer ⟨some d,.call ⟨.value x,args,ts⟩,ty,pos,af,none⟩=true) (hd:Nat.ble nt d=false) (h:bB P r ops Q nt D rest ((d,v)::fr) B L):
  bB P r ops Q nt D (⟨some d,.call ⟨.value x,args,ts⟩,ty,pos,af,none⟩::rest) fr B L:=
 dD [] L hc hx hu hv (Ll _) hn hd fun c L1 hc=>by
  have hc':c=v:=hc
  subst hc'
  exact aS (bX (List.sublist_append_right ..)) h
theorem Eu (t:Nat) {u:AV} {s:Nat} {l:List (List AV)} (hl:c8 fr t=some u) (hu:iE u=some (s,l)) (h:l.length≤9223372036854775807→bB P r ops Q nt D rest fr B L):bB P r ops Q nt D rest fr B L:=
 Et (fun σ a w ha _=>(Ct (ha.look t u hl) hu).1) h
end
def v7 (t:bN) (i:Nat) (l:Int):Bool:=match i with | 0=>false | j+1=>match t.Lookups[j]? with | some b=>decide (l≤b) | none=>false
def pn (f:aV) (t:bN) (i:Nat) (l:Int):Int:=dY (decide (l < 0∨l≥f.Lookups.length) || v7 t i l) 43
set_option maxHeartbeats 1000000 in
theorem zE (f:aV) (t:bN) (i:Nat) (l:Int) (hl:t.Lookups[i]?=some l) (hn:t.Lookups.length≤9223372036854775807):bH Tryz.prog 203 [aH i,aH l,.iptr (c6 f),.iptr (bE t)] (aH (pn f t i l)):=by
 refine aP Tryz.func203 rfl Tryz.ntmps203 rfl fun B=>?_
 have hil:=(Lm hl).1
 unfold pn
 cases i with
 | zero=>
  repeat' (first|refine ae ?_|refine a6 ?_|refine a8 ?_|refine aa ?_|refine LF a7 I9 ?_)
  refine dx (t:=7) [] (l < 0∨l≥f.Lookups.length) rfl (fun Q' K=>?_) ?_
  ·repeat' (first|refine aa ?_|refine LF a7 I9 ?_|refine LN I9 ?_|refine LO LB ?_|refine dk rfl rfl rfl ?_|refine bc rfl rfl rfl (fun _=>?_) (fun _=>?_))
   all_goals exact K _ _ rfl rfl (by clear K;simp_all <;> omega)
  repeat' (first|refine ae ?_|refine a6 ?_|refine aq ?_|refine a8 ?_|refine aa ?_|refine LF a7 I9 ?_|(apply bw;refine bi ?_)|fail)
  refine LM I9 ?_
  simp [v7]
 | succ j=>
  obtain ⟨b,hb⟩:∃b,t.Lookups[j]?=some b:=⟨_,Lz (by omega)⟩
  have hbg:(aO t.Lookups)[(((j+1:Nat):Int) - 1).toNat]?=some [aH b]:=by rw [show (((j+1:Nat):Int) - 1).toNat=j by omega];exact bO hb
  have hlt:v7 t (j+1) l=decide (l≤b):=by simp [v7,hb]
  have hpos:decide (0 < ((j+1:Nat):Int))=true:=decide_eq_true (by omega)
  rw [hlt]
  repeat' (first|refine ae ?_|refine a6 ?_|refine a8 ?_|refine aa ?_|refine LF a7 I9 ?_)
  refine dx (t:=7) [] ((l < 0∨l≥f.Lookups.length)∨l≤b) rfl (fun Q' K=>?_) ?_
  ·repeat' (first|refine aa ?_|refine LF a7 I9 ?_|refine LN I9 ?_|refine LO LB ?_|refine dk rfl rfl rfl ?_|(apply aY;refine aX ?_)|(apply aU;first|refine aT a7 ?_|refine aN a7 ?_)|refine bc rfl rfl rfl (fun _=>?_) (fun _=>?_))
   all_goals exact K _ _ rfl rfl (by clear K;simp_all <;> omega)
  repeat' (first|refine ae ?_|refine a6 ?_|refine aq ?_|refine a8 ?_|refine aa ?_|refine LF a7 I9 ?_|(apply bw;refine bi ?_)|fail)
  refine LM I9 ?_
  rw [Bool.decide_or]
def uN (f:aV) (t:bN) (name:Int):Int:=if name≠0 then name else (d9 t.Lookups (pn f t)).1
theorem uO (f:aV) (t:bN) (name:Int):bH Tryz.prog 122 [cD f,.agg (bE t),aH name] (aH (uN f t name)):=by
 refine aP Tryz.func122 rfl Tryz.ntmps122 rfl fun B=>?_
 unfold uN
 repeat' (first|refine ae ?_|refine a6 ?_|refine a8 ?_|refine aa ?_|refine LF a7 I9 ?_|refine bo ?_|fail)
 refine ay rfl (fun h=>?_) (fun h=>?_)
 ·rw [if_pos (Ly h)]
  repeat' (first|refine ae ?_|refine a6 ?_|refine aq ?_|refine a8 ?_|refine aC ?_|refine aa ?_|refine LF a7 I9 ?_)
  exact LK LA
 rw [if_neg (Lw h)]
 repeat' (first|refine ae ?_|refine a6 ?_|refine au ?_|refine a8 ?_|refine LF a7 I9 ?_)
 refine Eu 14 rfl rfl fun hlen=>?_
 rw [aW] at hlen
 refine bh [] [] (mD (u:= .fn 203 [.iptr (c6 f),.iptr (bE t)]) (g:=203) rfl t.Lookups _ (fun _ _=>True) [] trivial (dh (fun i x hx=>zE f t i x hx (by omega)))) rfl rfl (Ll _) rfl fun c L1 hc=>?_
 have hc:c=cm (d9 t.Lookups (pn f t)):=hc
 subst hc
 unfold cm
 repeat' (first|refine ae ?_|refine a6 ?_|refine aq ?_|refine a8 ?_|refine aa ?_|refine LF a7 I9 ?_)
 exact LK LA
instance (f:aV) (t:bN) (name:Int):AD Tryz.prog 122 [cD f,.agg (bE t),aH name] (aH (uN f t name)):=⟨uO f t name⟩
def d6 (names:List ByteArray) (s:ByteArray):Option Nat:=names.findIdx? (fun x=>decide (x=s))
def cK (names:List ByteArray) (v:Value):Option AV:=match v with
 | .string s=>(d6 names s).map fun (n:Nat)=>aH (n:Int)
 | _=>none
theorem jO {names:List ByteArray} {i:Nat} {s:ByteArray} (h:names[i]?=some s) (q:ByteArray):d6 (names.take (i+1)) q=match d6 (names.take i) q with | some n=>some n | none=>if s=q then some i else none:=by
 unfold d6
 have hlt:=(Lm h).1
 have hlen:(names.take i).length=i:=by rw [List.length_take];omega
 rw [List.take_add_one,h,Option.toList_some,List.findIdx?_append,hlen]
 cases List.findIdx? (fun x=>decide (x=q)) (names.take i) with
 | some n=>rfl
 | none=>
  by_cases e:s=q
  ·simp [e]
  ·simp [e]
theorem lY:cK []=fun _=>none:=by
 funext v
 cases v <;> rfl
theorem kL {names:List ByteArray} {s:ByteArray}:(cK names (.string s)).isSome=(d6 names s).isSome:=by
 show (Option.map (fun n:Nat=>aH (n:Int)) (d6 names s)).isSome=_
 cases d6 names s <;> rfl
theorem jP {names:List ByteArray} {i:Nat} {s:ByteArray} (h:names[i]?=some s) (hk:(d6 (names.take i) s).isSome=true):cK (names.take (i+1))=cK (names.take i):=by
 funext v
 cases v with
 | string q=>
  simp only [cK]
  rw [jO h]
  cases hq:d6 (names.take i) q with
  | some n=>rfl
  | none=>
   by_cases e:s=q
   ·subst e;rw [hq] at hk;cases hk
   ·simp [e]
 | _=>rfl
theorem kK {names:List ByteArray} {i:Nat} {s:ByteArray} (h:names[i]?=some s) (hk:(d6 (names.take i) s).isSome=false):cK (names.take (i+1)) (.string s)=some (aH i):=by
 simp only [cK]
 rw [jO h]
 cases hq:d6 (names.take i) s with
 | some n=>rw [hq] at hk;cases hk
 | none=>simp
theorem jQ {names:List ByteArray} {i:Nat} {s:ByteArray} (h:names[i]?=some s) (q:Value) (hne:q≠ .string s):cK (names.take (i+1)) q=cK (names.take i) q:=by
 cases q with
 | string q=>
  have hne':s≠q:=fun e=>hne (by rw [e])
  simp only [cK]
  rw [jO h]
  cases hq:d6 (names.take i) q with
  | some n=>rfl
  | none=>simp [hne']
 | _=>rfl
theorem qT (g:bf):bH Tryz.prog 99 [.agg (bj g)] (rE g.Name):=by
 refine aP Tryz.func99 rfl Tryz.ntmps99 rfl fun B=>?_
 repeat' (first|refine ae ?_|refine a6 ?_|refine aq ?_|refine a8 ?_|refine aa ?_|refine LF a7 I9 ?_|refine bo ?_|fail)
 exact LK LA
theorem qU (g:bN):bH Tryz.prog 101 [.agg (bE g)] (rE g.Name):=by
 refine aP Tryz.func101 rfl Tryz.ntmps101 rfl fun B=>?_
 repeat' (first|refine ae ?_|refine a6 ?_|refine aq ?_|refine a8 ?_|refine aa ?_|refine LF a7 I9 ?_|refine bo ?_|fail)
 exact LK LA
theorem qV (g:ey):bH Tryz.prog 103 [.agg (cG g)] (rE g.Name):=by
 refine aP Tryz.func103 rfl Tryz.ntmps103 rfl fun B=>?_
 repeat' (first|refine ae ?_|refine a6 ?_|refine aq ?_|refine a8 ?_|refine aa ?_|refine LF a7 I9 ?_|refine bo ?_|fail)
 exact LK LA
set_option maxHeartbeats 1000000 in
theorem Cc (l:List bf):AC Tryz.prog 98 [.imm 9 (l.map bj),.sc (.func (.func 99) #[] #[])] [] fun c L=>∃m,c= .sc (.map (some m))∧L=[(m,ca .string (cK (l.map bf.Name)))]:=by
 refine aP Tryz.func98 rfl Tryz.ntmps98 rfl fun B=>?_
 refine d7 0 rfl rfl fun hlen=>?_
 rw [Lr] at hlen
 repeat' (first|refine ae ?_|refine a6 ?_|refine a8 ?_|refine aa ?_|refine LF a7 I9 ?_)
 refine ec .string fun m=>?_
 repeat' (first|refine ae ?_|refine a6 ?_|refine am ?_|refine a8 ?_|refine aa ?_|refine LF a7 I9 ?_)
 refine aJ [1,5,11,12] (α:=Nat) (fun i=>[(13,aH i)]) (fun i=>i≤l.length) (fun i=>[(m,ca .string (cK ((l.map bf.Name).take i)))]) (fun i=>l.length - i) 0 rfl ⟨rfl,trivial⟩ (Nat.zero_le _) (fun _ _ h=>by rw [List.take_zero,lY];exact h) fun i hi=>?_
 try dsimp only [Lp,Lo,Ln,Lh]
 repeat' (first|refine ae ?_|refine a6 ?_|refine a8 ?_|refine aa ?_|refine LF a7 I9 ?_)
 refine ay rfl (fun h=>?_) (fun h=>?_)
 ·have hil:i < l.length:=by have:=Ly h;simp at this;omega
  obtain ⟨z,hz⟩:∃z,l[i]?=some z:=⟨_,Lz hil⟩
  have hzg:=c7 (c:=bj) hz
  have hzn:(l.map bf.Name)[i]?=some z.Name:=by rw [List.getElem?_map,hz];rfl
  repeat' (first|refine ae ?_|refine a6 ?_|refine am ?_|refine au ?_|refine a8 ?_|refine aa ?_|refine LF a7 I9 ?_|(apply aU;first|refine aT a7 ?_|refine aN a7 ?_)|(apply aK;first|refine LH 7 a7 0 LE ?_|refine LH 7 a7 1 LE ?_|refine LH 7 a7 2 LE ?_|refine LG a7 0 LD ?_|refine LG a7 1 LD ?_|refine LG a7 2 LD ?_|refine LG a7 3 LD ?_|fail)|refine bg a7 fun _=>?_|fail)
  refine jp (cs:=[.agg (bj z)]) (caps:=[]) (qT z) rfl rfl rfl rfl rfl ?_
  repeat' (first|fail)
  refine gH 0 (.int .i64 0) Tryz.underlying196 Tryz.underlying9 rfl rfl trivial rfl (by kernel_rfl) rfl ?_
  rw [kL]
  repeat' (first|refine ae ?_|refine a6 ?_|refine a8 ?_|refine aa ?_|refine LF a7 I9 ?_)
  refine ay rfl (fun h2=>?_) (fun h2=>?_)
  ·have h2':(d6 ((l.map bf.Name).take i) z.Name).isSome=false:=by simpa using h2
   repeat' (first|refine a6 ?_|refine LF a7 I9 ?_)
   refine jp (cs:=[.agg (bj z)]) (caps:=[]) (qT z) rfl rfl rfl rfl rfl ?_
   repeat' (first|refine LF a7 I9 ?_)
   refine dp 0 (cK ((l.map bf.Name).take (i+1))) Tryz.underlying196 Tryz.underlying9 rfl rfl trivial rfl rfl (kK hzn h2') (jQ hzn) ?_
   repeat' (first|refine a6 ?_|refine a8 ?_|refine aM ?_|refine aa ?_|refine LF a7 I9 ?_|(apply aY;refine aX ?_)|fail)
   exact aE (i+1) rfl ⟨by rw [Ls];rfl,trivial⟩ (by omega) (by omega) (fun _ _ h=>h)
  ·have h2':(d6 ((l.map bf.Name).take i) z.Name).isSome=true:=by simpa using h2
   repeat' (first|refine a6 ?_|refine au ?_|refine a8 ?_|refine aM ?_|refine aa ?_|refine LF a7 I9 ?_|(apply aY;refine aX ?_)|fail)
   exact aE (i+1) rfl ⟨by rw [Ls];rfl,trivial⟩ (by omega) (by omega) (fun _ _ h=>by rw [jP hzn h2'];exact h)
 ·have hil:i=l.length:=by have:=Lw h;simp at this;omega
  subst hil
  rw [List.take_of_length_le (by simp)]
  repeat' (first|refine ae ?_|refine a6 ?_|refine aq ?_|refine aL ?_|refine a8 ?_|refine av ?_|refine aA ?_|refine aw ?_|refine aa ?_|refine LF a7 I9 ?_)
  exact LM I9 ⟨_,rfl,rfl⟩
set_option maxHeartbeats 1000000 in
theorem Cd (l:List bN):AC Tryz.prog 100 [.imm 2 (l.map bE),.sc (.func (.func 101) #[] #[])] [] fun c L=>∃m,c= .sc (.map (some m))∧L=[(m,ca .string (cK (l.map bN.Name)))]:=by
 refine aP Tryz.func100 rfl Tryz.ntmps100 rfl fun B=>?_
 refine d7 0 rfl rfl fun hlen=>?_
 rw [Lr] at hlen
 repeat' (first|refine ae ?_|refine a6 ?_|refine a8 ?_|refine aa ?_|refine LF a7 I9 ?_)
 refine ec .string fun m=>?_
 repeat' (first|refine ae ?_|refine a6 ?_|refine am ?_|refine a8 ?_|refine aa ?_|refine LF a7 I9 ?_)
 refine aJ [1,5,11,12] (α:=Nat) (fun i=>[(13,aH i)]) (fun i=>i≤l.length) (fun i=>[(m,ca .string (cK ((l.map bN.Name).take i)))]) (fun i=>l.length - i) 0 rfl ⟨rfl,trivial⟩ (Nat.zero_le _) (fun _ _ h=>by rw [List.take_zero,lY];exact h) fun i hi=>?_
 try dsimp only [Lp,Lo,Ln,Lh]
 repeat' (first|refine ae ?_|refine a6 ?_|refine a8 ?_|refine aa ?_|refine LF a7 I9 ?_)
 refine ay rfl (fun h=>?_) (fun h=>?_)
 ·have hil:i < l.length:=by have:=Ly h;simp at this;omega
  obtain ⟨z,hz⟩:∃z,l[i]?=some z:=⟨_,Lz hil⟩
  have hzg:=c7 (c:=bE) hz
  have hzn:(l.map bN.Name)[i]?=some z.Name:=by rw [List.getElem?_map,hz];rfl
  repeat' (first|refine ae ?_|refine a6 ?_|refine am ?_|refine au ?_|refine a8 ?_|refine aa ?_|refine LF a7 I9 ?_|(apply aU;first|refine aT a7 ?_|refine aN a7 ?_)|(apply aK;first|refine LH 7 a7 0 LE ?_|refine LH 7 a7 1 LE ?_|refine LH 7 a7 2 LE ?_|refine LG a7 0 LD ?_|refine LG a7 1 LD ?_|refine LG a7 2 LD ?_|refine LG a7 3 LD ?_|fail)|refine bg a7 fun _=>?_|fail)
  refine jp (cs:=[.agg (bE z)]) (caps:=[]) (qU z) rfl rfl rfl rfl rfl ?_
  repeat' (first|fail)
  refine gH 0 (.int .i64 0) Tryz.underlying196 Tryz.underlying9 rfl rfl trivial rfl (by kernel_rfl) rfl ?_
  rw [kL]
  repeat' (first|refine ae ?_|refine a6 ?_|refine a8 ?_|refine aa ?_|refine LF a7 I9 ?_)
  refine ay rfl (fun h2=>?_) (fun h2=>?_)
  ·have h2':(d6 ((l.map bN.Name).take i) z.Name).isSome=false:=by simpa using h2
   repeat' (first|refine a6 ?_|refine LF a7 I9 ?_)
   refine jp (cs:=[.agg (bE z)]) (caps:=[]) (qU z) rfl rfl rfl rfl rfl ?_
   repeat' (first|refine LF a7 I9 ?_)
   refine dp 0 (cK ((l.map bN.Name).take (i+1))) Tryz.underlying196 Tryz.underlying9 rfl rfl trivial rfl rfl (kK hzn h2') (jQ hzn) ?_
   repeat' (first|refine a6 ?_|refine a8 ?_|refine aM ?_|refine aa ?_|refine LF a7 I9 ?_|(apply aY;refine aX ?_)|fail)
   exact aE (i+1) rfl ⟨by rw [Ls];rfl,trivial⟩ (by omega) (by omega) (fun _ _ h=>h)
  ·have h2':(d6 ((l.map bN.Name).take i) z.Name).isSome=true:=by simpa using h2
   repeat' (first|refine a6 ?_|refine au ?_|refine a8 ?_|refine aM ?_|refine aa ?_|refine LF a7 I9 ?_|(apply aY;refine aX ?_)|fail)
   exact aE (i+1) rfl ⟨by rw [Ls];rfl,trivial⟩ (by omega) (by omega) (fun _ _ h=>by rw [jP hzn h2'];exact h)
 ·have hil:i=l.length:=by have:=Lw h;simp at this;omega
  subst hil
  rw [List.take_of_length_le (by simp)]
  repeat' (first|refine ae ?_|refine a6 ?_|refine aq ?_|refine aL ?_|refine a8 ?_|refine av ?_|refine aA ?_|refine aw ?_|refine aa ?_|refine LF a7 I9 ?_)
  exact LM I9 ⟨_,rfl,rfl⟩
set_option maxHeartbeats 1000000 in
theorem Ce (l:List ey):AC Tryz.prog 102 [.imm 4 (l.map cG),.sc (.func (.func 103) #[] #[])] [] fun c L=>∃m,c= .sc (.map (some m))∧L=[(m,ca .string (cK (l.map ey.Name)))]:=by
 refine aP Tryz.func102 rfl Tryz.ntmps102 rfl fun B=>?_
 refine d7 0 rfl rfl fun hlen=>?_
 rw [Lr] at hlen
 repeat' (first|refine ae ?_|refine a6 ?_|refine a8 ?_|refine aa ?_|refine LF a7 I9 ?_)
 refine ec .string fun m=>?_
 repeat' (first|refine ae ?_|refine a6 ?_|refine am ?_|refine a8 ?_|refine aa ?_|refine LF a7 I9 ?_)
 refine aJ [1,5,11,12] (α:=Nat) (fun i=>[(13,aH i)]) (fun i=>i≤l.length) (fun i=>[(m,ca .string (cK ((l.map ey.Name).take i)))]) (fun i=>l.length - i) 0 rfl ⟨rfl,trivial⟩ (Nat.zero_le _) (fun _ _ h=>by rw [List.take_zero,lY];exact h) fun i hi=>?_
 try dsimp only [Lp,Lo,Ln,Lh]
 repeat' (first|refine ae ?_|refine a6 ?_|refine a8 ?_|refine aa ?_|refine LF a7 I9 ?_)
 refine ay rfl (fun h=>?_) (fun h=>?_)
 ·have hil:i < l.length:=by have:=Ly h;simp at this;omega
  obtain ⟨z,hz⟩:∃z,l[i]?=some z:=⟨_,Lz hil⟩
  have hzg:=c7 (c:=cG) hz
  have hzn:(l.map ey.Name)[i]?=some z.Name:=by rw [List.getElem?_map,hz];rfl
  repeat' (first|refine ae ?_|refine a6 ?_|refine am ?_|refine au ?_|refine a8 ?_|refine aa ?_|refine LF a7 I9 ?_|(apply aU;first|refine aT a7 ?_|refine aN a7 ?_)|(apply aK;first|refine LH 7 a7 0 LE ?_|refine LH 7 a7 1 LE ?_|refine LH 7 a7 2 LE ?_|refine LG a7 0 LD ?_|refine LG a7 1 LD ?_|refine LG a7 2 LD ?_|refine LG a7 3 LD ?_|fail)|refine bg a7 fun _=>?_|fail)
  refine jp (cs:=[.agg (cG z)]) (caps:=[]) (qV z) rfl rfl rfl rfl rfl ?_
  repeat' (first|fail)
  refine gH 0 (.int .i64 0) Tryz.underlying196 Tryz.underlying9 rfl rfl trivial rfl (by kernel_rfl) rfl ?_
  rw [kL]
  repeat' (first|refine ae ?_|refine a6 ?_|refine a8 ?_|refine aa ?_|refine LF a7 I9 ?_)
  refine ay rfl (fun h2=>?_) (fun h2=>?_)
  ·have h2':(d6 ((l.map ey.Name).take i) z.Name).isSome=false:=by simpa using h2
   repeat' (first|refine a6 ?_|refine LF a7 I9 ?_)
   refine jp (cs:=[.agg (cG z)]) (caps:=[]) (qV z) rfl rfl rfl rfl rfl ?_
   repeat' (first|refine LF a7 I9 ?_)
   refine dp 0 (cK ((l.map ey.Name).take (i+1))) Tryz.underlying196 Tryz.underlying9 rfl rfl trivial rfl rfl (kK hzn h2') (jQ hzn) ?_
   repeat' (first|refine a6 ?_|refine a8 ?_|refine aM ?_|refine aa ?_|refine LF a7 I9 ?_|(apply aY;refine aX ?_)|fail)
   exact aE (i+1) rfl ⟨by rw [Ls];rfl,trivial⟩ (by omega) (by omega) (fun _ _ h=>h)
  ·have h2':(d6 ((l.map ey.Name).take i) z.Name).isSome=true:=by simpa using h2
   repeat' (first|refine a6 ?_|refine au ?_|refine a8 ?_|refine aM ?_|refine aa ?_|refine LF a7 I9 ?_|(apply aY;refine aX ?_)|fail)
   exact aE (i+1) rfl ⟨by rw [Ls];rfl,trivial⟩ (by omega) (by omega) (fun _ _ h=>by rw [jP hzn h2'];exact h)
 ·have hil:i=l.length:=by have:=Lw h;simp at this;omega
  subst hil
  rw [List.take_of_length_le (by simp)]
  repeat' (first|refine ae ?_|refine a6 ?_|refine aq ?_|refine aL ?_|refine a8 ?_|refine av ?_|refine aA ?_|refine aw ?_|refine aa ?_|refine LF a7 I9 ?_)
  exact LM I9 ⟨_,rfl,rfl⟩
end Go.Proofs.YtamjlkdanllgjaaGreatDoor
