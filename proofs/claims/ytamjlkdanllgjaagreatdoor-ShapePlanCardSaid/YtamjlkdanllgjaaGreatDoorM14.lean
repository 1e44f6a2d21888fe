/-
  The maker: its memory, and the next number.
-/
import Derived.Test.YtamjlkdanllgjaaGreatDoorM11
import Derived.Test.YtamjlkdanllgjaaGreatDoorM13
import Derived.Shelf.Slices.In.SortNone
import Derived.Shelf.Slices.In.SortAlone
import Derived.Ground.NamesProg
import Derived.Test.YtamjlkdanllgjaaGreatDoorProg
import Derived.Lib.SortBridge
import Derived.Test.YtamjlkdanllgjaaGreatDoorM12
import Derived.Test.YtamjlkdanllgjaaGreatDoorM05
namespace Go.Proofs.YtamjlkdanllgjaaGreatDoor
open Go.RowKit
attribute [local irreducible] AT bF AX AO Av Kt b8 d9 DA cu
set_option maxRecDepth 8000
structure MF where
 u:AV
 gl:AV
 ch:AV
 lk:AV
 ft:AV
 ax:AV
 rg:AV
 fu:AV
 cv:AV
def LW (s:List Int) (F:MF) (m:MS):List AV:=[.imm 1 (aL s),aG (min m.a s.length:Nat),F.u,F.gl,F.ch,F.lk,F.ft,F.ax,F.rg,F.fu,F.cv,aG (m.lo.val:Nat)]
abbrev ee (b:Nat) (s:List Int) (F:MF) (m:MS):Nat×AB:=(b,.box (LW s F m) 129)
def sB (f:FuncId) (args:List AV) (s:List Int) (F:MF) {α:Type} (u:DM α) (out:α→AV):Prop:=∀(b:Nat) (m:MS),AC Tryz.prog f (Gf b::args) [ee b s F m] fun c L=>c=out (u m).1∧L=[ee b s F (u m).2]
theorem Al {x n:Int} (hn:0 < n):(x.tmod n+n).tmod n=x % n:=by
 have h0:=Int.lt_tmod_of_pos x hn
 rw [Int.tmod_eq_emod_of_nonneg (by omega),Int.add_emod_right]
 have h2:(x.tmod n) % n=(x - n * x.tdiv n) % n:=by rw [Int.tmod_def]
 rw [h2,Int.sub_mul_emod_self_left]
set_option maxHeartbeats 1000000 in
theorem oR (s:List Int) (hs:s.length≤1000000) (F:MF) (n:Int) (hn:0 < n∧n≤1000000):sB 51 [aG n] s F (dr s n) aG:=by
 intro b m
 refine aQ Tryz.func51 rfl Tryz.ntmps51 rfl fun B=>?_
 have hil:=aP s
 unfold ee
 refine W01 ?_
 refine bk 9 [(0,.v),(1,.v),(2,.v),(3,.l),(4,.v),(5,.v),(6,.v),(7,.l),(8,.v)] none ?_ trivial rfl (by kernel_rfl) (by kernel_rfl) (by kernel_rfl) mixed (by kernel_rfl) rfl
 refine W0t ?_
 refine OO [0,1,9,14] KN ?_
 refine W0p ?_
 refine aw rfl (fun h=>?_) (fun h=>?_)
 ·have h1:s.length≤min m.a s.length:=by have:=Oy h;rw [hil] at this;omega
  refine W01 ?_
  refine OK KN ⟨?_,?_⟩
  ·unfold dr uh
   rw [List.getElem?_eq_none (show s.length≤m.a by omega)]
  ·unfold dr LW
   rw [show min m.a s.length=min (m.a+1) s.length by omega]
 have h1:m.a < s.length:=by have:=Ox h;rw [hil] at this;omega
 have h2:min m.a s.length=m.a:=by omega
 obtain ⟨x,hx⟩:∃x,s[m.a]?=some x:=⟨_,Oz h1⟩
 have hxg:=bD hx
 unfold LW
 rw [h2]
 repeat' (first|refine O1 ?_|fail)
 refine bk 8 [(0,.v),(1,.v),(2,.v),(3,.l),(4,.v),(5,.v),(6,.v),(7,.l)] none ?_ trivial rfl (by kernel_rfl) (by kernel_rfl) (by kernel_rfl) mixed (by kernel_rfl) rfl
 refine W0t ?_
 refine OO [0,1,19,23] KN ?_
 repeat' (first|refine O1 ?_|refine aa ?_|refine OE a7 KN ?_|(apply bU;first|refine OH a7 0 OB ?_|refine OH a7 1 OB ?_|refine OH a7 2 OB ?_|refine OH a7 3 OB ?_|refine OJ a7 0 OB ?_|refine OJ a7 1 OB ?_|refine OJ a7 2 OB ?_|refine OM a7 1 NZ (by assumption) rfl ?_|refine OM a7 0 NZ (by assumption) rfl ?_|fail)|(apply aS;refine aR ?_)|(apply aV;first|refine aU a7 ?_|refine aN a7 ?_)|(apply aO;first|refine OF a7 0 OC ?_|refine OF a7 1 OC ?_|refine OF a7 2 OC ?_|refine OF a7 3 OC ?_|fail))
 refine A8 ?_
 repeat' (first|refine OE a7 KN ?_)
 have hb:=Int.lt_tmod_of_pos x hn.1
 have hb2:=Int.tmod_lt_of_pos x hn.1
 refine aR ?_
 repeat' (first|refine OE a7 KN ?_)
 refine A8 ?_
 refine W01 ?_
 refine OK KN ⟨?_,?_⟩
 ·unfold dr uh
  rw [hx,Al hn.1]
 ·unfold dr
  dsimp only
  rw [show min (m.a+1) s.length=m.a+1 by omega]
  rfl
section
variable {r:Option Nat} {ops:Array Oper} {Q:Exit→Act→World→Prop} {nt:Nat} {D:List Deferred} {fr:bZ} {B:Bs} {rest:List Oper} {d:Nat} {ty:TypeId} {pos:String} {af:Array Edge} {s:List Int} {F:MF} {b:Nat} {m:MS} {Z:AL} {args:Array Operand} {ts:Array TypeId}
theorem wo {f:FuncId} [bK Tryz.prog f] {α:Type} {u:DM α} {out:α→AV} {az ds:List AV} (hc:sB f az s F u out) (h:bF Tryz.prog r ops Q nt D rest ((d,out (u m).1)::fr) B (ee b s F (u m).2::Z)) (hv:eB fr args.toList=some ds:=by rfl) (hi:lq ds=some (Gf b::az):=by rfl) (hd:Nat.ble nt d=false:=by rfl):bF Tryz.prog r ops Q nt D (⟨some d,.call ⟨.value (.func f),args,ts⟩,ty,pos,af,none⟩::rest) fr B (ee b s F m::Z):=
 bh [ee b s F m] Z (hc b m) hv hi (Ok _) hd fun c L1 ⟨h1,h2⟩=>by subst h1;subst h2;exact h
theorem cL {n:Int} (h:bF Tryz.prog r ops Q nt D rest ((d,aG (dr s n m).1)::fr) B (ee b s F (dr s n m).2::Z)) (hv:eB fr args.toList=some [Gf b,aG n]:=by rfl) (hs:s.length≤1000000:=by assumption) (hn:0 < n∧n≤1000000:=by omega) (hd:Nat.ble nt d=false:=by rfl):bF Tryz.prog r ops Q nt D (⟨some d,.call ⟨.value (.func 51),args,ts⟩,ty,pos,af,none⟩::rest) fr B (ee b s F m::Z):=
 wo (oR s hs F n hn) h hv rfl hd
end
section
variable {l:List Oper} {fr:bZ} {fin:kV} {sk:mT} {acc:bZ} {k:Nat} {dd:Option Tmp} {ty:TypeId} {pos:String} {af:Array Edge} {g:Option (Nat×Bool)} {s:List Int} {F:MF} {b:Nat} {m:MS} {Z:AL} {args:Array Operand} {ts:Array TypeId}
theorem c6 {L:AL}:fc [] L:=fun q hq=>by cases hq
theorem bR {q:Nat×Nat×AV} {gs:KpL} {L:AL} (i:Nat) {cs:List AV} {e:TypeId} (hL:L[i]?=some (q.1,.box cs e)) (hc:cs[q.2.1]?=some q.2.2) (h:fc gs L):fc (.cell q::gs) L:=fun p hp=>by
 rcases List.mem_cons.1 hp with rfl | hp
 ·exact show ∃cs e,(q.1,AB.box cs e)∈L∧cs[q.2.1]?=some q.2.2 from ⟨cs,e,Ow hL,hc⟩
 ·exact h p hp
theorem MN {f:FuncId} [bK Tryz.prog f] {α:Type} {u:DM α} {out:α→AV} {az ds:List AV} (hc:sB f az s F u out) (h:DA Tryz.prog l fr fin sk ((k,out (u m).1)::acc) (ee b s F (u m).2::Z)) (hv:eB (cO l.toArray acc fr af.toList) args.toList=some ds:=by rfl) (hi:lq ds=some (Gf b::az):=by rfl) (hg:j6 ⟨dd,.call ⟨.value (.func f),args,ts⟩,ty,pos,af,g⟩ acc:=by first | trivial | rfl):cu Tryz.prog l fr fin k .e ⟨dd,.call ⟨.value (.func f),args,ts⟩,ty,pos,af,g⟩ sk acc (ee b s F m::Z):=
 ki [ee b s F m] Z (hc b m) hv hi (Ok _) hg fun c L1 ⟨h1,h2⟩=>by subst h1;subst h2;exact h
theorem t2 {f:FuncId} [bK Tryz.prog f] {α:Type} {u:DM α} {out:α→AV} {az ds:List AV} (hc:sB f az s F u out) (hK:fc fin.gs (ee b s F (u m).2::Z)) (h:DA Tryz.prog l fr fin sk ((k,out (u m).1)::acc) (ee b s F (u m).2::Z)) (hv:eB (cO l.toArray acc fr af.toList) args.toList=some ds:=by rfl) (hi:lq ds=some (Gf b::az):=by rfl) (hg:j6 ⟨dd,.call ⟨.value (.func f),args,ts⟩,ty,pos,af,g⟩ acc:=by first | trivial | rfl):cu Tryz.prog l fr fin k .f ⟨dd,.call ⟨.value (.func f),args,ts⟩,ty,pos,af,g⟩ sk acc (ee b s F m::Z):=
 ue [ee b s F m] Z (hc b m) hv hi (Ok _) hg (fun c L1 ⟨_,h2⟩ _=>by subst h2;exact hK) fun c L1 ⟨h1,h2⟩=>by subst h1;subst h2;exact h
theorem uf {n:Int} (h:DA Tryz.prog l fr fin sk ((k,aG (dr s n m).1)::acc) (ee b s F (dr s n m).2::Z)) (hv:eB (cO l.toArray acc fr af.toList) args.toList=some [Gf b,aG n]:=by rfl) (hs:s.length≤1000000:=by assumption) (hn:0 < n∧n≤1000000:=by omega) (hg:j6 ⟨dd,.call ⟨.value (.func 51),args,ts⟩,ty,pos,af,g⟩ acc:=by first | trivial | rfl):cu Tryz.prog l fr fin k .e ⟨dd,.call ⟨.value (.func 51),args,ts⟩,ty,pos,af,g⟩ sk acc (ee b s F m::Z):=
 MN (oR s hs F n hn) h hv rfl hg
theorem eO {n:Int} (hK:fc fin.gs (ee b s F (dr s n m).2::Z)) (h:DA Tryz.prog l fr fin sk ((k,aG (dr s n m).1)::acc) (ee b s F (dr s n m).2::Z)) (hv:eB (cO l.toArray acc fr af.toList) args.toList=some [Gf b,aG n]:=by rfl) (hs:s.length≤1000000:=by assumption) (hn:0 < n∧n≤1000000:=by omega) (hg:j6 ⟨dd,.call ⟨.value (.func 51),args,ts⟩,ty,pos,af,g⟩ acc:=by first | trivial | rfl):cu Tryz.prog l fr fin k .f ⟨dd,.call ⟨.value (.func 51),args,ts⟩,ty,pos,af,g⟩ sk acc (ee b s F m::Z):=
 t2 (oR s hs F n hn) hK h hv rfl hg
end
end Go.Proofs.YtamjlkdanllgjaaGreatDoor
namespace Go.Proofs.YtamjlkdanllgjaaGreatDoor
open Go.RowKit
attribute [local irreducible] AT bF AX AO Av Kt b8 d9 DA cu
set_option maxRecDepth 8000
section
variable {P:Program} {tt:TT} {nt:Nat} {fr:bZ} {B:Bs} {L L':AL}
theorem iv (ok:eh P tt) (i:Nat) (L':AL) {fn:Func} {Post:AV→AL→Prop} {t:Tmp} {e e':TypeId} {b k:Nat} {cs:List AV} (hr:fn.results=#[.cell t e]) (hk:KO tt e=some k) (hv:ce fr t=some (.sc (.pointer (some ⟨b,0,none⟩)))) (hL:L[i]?=some (b,.box cs e')) (hl:Nat.beq cs.length k=true) (hs:L'.Sublist L) (h:Post (.agg cs) L'):
  AX P .ret (bodyPost P fn (it B Post)) nt [] fr B L:=by
 unfold AX
 intro σ a w ha hw
 haveI:=dZ ok hk
 obtain ⟨vs,hb,hs',h1⟩:=hw.boxCell hL
 have hl:=Nat.eq_of_beq_eq_true hl
 refine ⟨ha.defers,_,nU (cs:=vs) hr (ha.look t _ hv).sc_inv (hs'.1.symm.trans hl) (fun j v hj=>by rw [dm hb,Nat.zero_add];simpa using hj),_,σ,_,L',rfl,.agg cs vs hs'.1 hs'.2 h1,hw.sublist hs,h⟩
theorem d5.im {k:Option (Nat×Nat)} {sz:Nat} {l:List (List AV)}:d5 (.vec k sz l) (.imm sz l):=fun _ _ h=>VR.im h
theorem d5.vecN (n:Nat):d5 (.sc (.slice none 0 0)) (.vec none n []):=fun _ _ h=>cM n h
end
section
variable {P:Program} {r:Option Nat} {Q:Exit→Act→World→Prop} {nt:Nat} {D:List Deferred} {fr fr1:bZ} {B:Bs} {L:AL}
theorem ua {A C:Code} (ks:List Nat) (L1:AL) (hk:fL fr ks=some fr1) (hA:∀Q',(∀fr',fL fr' ks=some fr1→AX P .normal Q' nt D fr' B L1)→AT P r A Q' nt D fr B L) (hB:AT P r C Q nt D fr1 B L1):AT P r A (Kt P r C Q) nt D fr B L:=
 hA _ fun _ h=>a8 (qk ks h hB)
end
theorem eQ {A T R:AL}:(A++(T++R)).Perm (T++(A++R)):=List.perm_append_comm_assoc ..
theorem M9 {A T1 T R:AL}:(A++(T1++(T++R))).Perm (T++(A++(T1++R))):=by
 have:=eQ (A:=A++T1) (T:=T) (R:=R)
 simpa [List.append_assoc] using this
end Go.Proofs.YtamjlkdanllgjaaGreatDoor
namespace Go.Proofs.YtamjlkdanllgjaaGreatDoor
open Go.RowKit
attribute [local irreducible] AT bF AX AO Av Kt b8 d9 DA cu
set_option maxRecDepth 8000
structure Ji (g:bn):Prop where
 points:g.Points.length≤1000000
 ends:g.Ends.length≤1000000
 parts:g.Parts.length≤1000000
 anchors:g.Anchors.length≤1000000
 hint:g.Hint.length≤1000000
def jp (g:bn):bn:={ g with Deltas:=[] }
theorem Ik (g:bn) (h:Ji g):bH Tryz.prog 74 [.agg (bG g)] (.agg (bG (jp g))):=by
 refine aQ Tryz.func74 rfl Tryz.ntmps74 rfl fun B=>?_
 haveI i1:=AD.mk (Kx (g.Points.map dH) (fun q hq=>by obtain ⟨y,_,rfl⟩:=List.mem_map.1 hq;rfl) (by rw [Ou];exact h.points))
 haveI i2:=AD.mk (wM (aL g.Ends) (fun q hq=>by obtain ⟨y,_,rfl⟩:=List.mem_map.1 hq;rfl) (by rw [aP];exact h.ends))
 haveI i3:=AD.mk (Ky (g.Parts.map eG) (fun q hq=>by obtain ⟨y,_,rfl⟩:=List.mem_map.1 hq;rfl) (by rw [Ou];exact h.parts))
 haveI i4:=AD.mk (Kz (g.Anchors.map df) (fun q hq=>by obtain ⟨y,_,rfl⟩:=List.mem_map.1 hq;rfl) (by rw [Ou];exact h.anchors))
 haveI i5:=AD.mk (J3 (g.Hint.map dX) (fun q hq=>by obtain ⟨y,_,rfl⟩:=List.mem_map.1 hq;rfl) (by rw [Ou];exact h.hint))
 repeat' (first|refine O1 ?_|refine br ?_|refine bi a7 fun _=>?_|fail)
 refine bk 24 [(0,.v),(1,.v),(2,.v),(3,.v),(4,.v),(5,.v),(6,.v),(7,.v),(8,.v),(9,.v),(10,.v),(11,.v),(12,.v),(13,.v),(14,.v),(15,.v),(16,.v),(17,.v),(18,.v),(19,.v),(20,.v),(21,.v),(22,.v),(23,.v)] none ?_ trivial rfl (by kernel_rfl) (by kernel_rfl) (by kernel_rfl) mixed (by kernel_rfl) rfl
 refine W0j ?_
 refine OO [2,4,6,8,17,20,23,26] KN ?_
 refine W0N ?_
 refine b7 (bB 0 (cs':=bG (jp g)) rfl fun σ vs hh=>l8.vrs (a:=[oh g.Name,aG g.Advance,cU g.Mark,.imm 3 (g.Points.map dH),.imm 1 (aL g.Ends),.imm 3 (g.Parts.map eG),.imm 4 (g.Anchors.map df),.sc (.slice none 0 0),.imm 2 (g.Hint.map dX)]) (b:=bG (jp g)) ⟨d5.refl _,d5.refl _,d5.refl _,d5.refl _,d5.refl _,d5.refl _,d5.refl _,d5.nil 4,d5.refl _,trivial⟩ hh) ?_
 exact iv a7 0 [] rfl rfl rfl rfl rfl (List.nil_sublist _) rfl
theorem FM (f:aY) (p m:AV) (g:bn) (hd:g.Deltas=[]):AC Tryz.prog 75 [.agg (cf f++[p,m]),.agg (bG g)] [] fun c L=>∃b,c= .sc (.map (some b))∧L=[(b,ci (.int .i64) fun _=>none)]:=by
 refine aQ Tryz.func75 rfl Tryz.ntmps75 rfl fun B=>?_
 refine W07 ?_
 refine eo (.int .i64) fun b=>?_
 refine W03 ?_
 rw [hd]
 refine aJ [2,3,5,13,14] (α:=Unit) (fun _=>[(15,aG 0)]) (fun _=>True) (fun _=>[(b,ci (.int .i64) fun _=>none)]) (fun _=>0) () rfl ⟨rfl,trivial⟩ trivial (fun _ _ h=>h) fun _ _=>?_
 try dsimp only [Oq,Oo,Om,Oh]
 refine W0m ?_
 exact OK KN ⟨b,rfl,rfl⟩
theorem Ho (tb eb:Nat) (L:AL):qE Tryz.prog 73 ([.pointer (some ⟨tb,0,none⟩),.pointer (some ⟨eb,0,none⟩)].map .sc) L .returning .returning L:=by
 refine xM Tryz.func73 rfl Tryz.ntmps73 rfl rfl rfl rfl wJ fun B=>?_
 refine W01 ?_
 refine yo false ⟨_,Tryz.underlying20⟩ rfl (.inl ⟨rfl,rfl⟩) rfl ?_
 refine W14 ?_
 exact xq (List.Sublist.refl _)
set_option maxHeartbeats 4000000 in
theorem Hn (f:aY) (p m:AV) (g:bn) (hs:Ji g) (hd:g.Deltas=[]):bH Tryz.prog 45 [.agg (cf f++[p,m]),.agg (bG g)] (.tup [.agg (bG (jp g)),aG 0]):=by
 refine qK Tryz.func45 rfl Tryz.ntmps45 rfl fun B=>?_
 haveI i1:=AD.mk (Ik g hs)
 refine W0O ?_
 intros
 refine A7 [.pointer (some ⟨_,0,none⟩),.pointer (some ⟨_,0,none⟩)] rfl ?_
 repeat' (first|refine O1 ?_|refine OE a7 KN ?_|(apply aO;first|refine OG 7 a7 0 OD ?_|refine OG 7 a7 1 OD ?_|refine OG 7 a7 2 OD ?_|refine OF a7 0 OC ?_|refine OF a7 1 OC ?_|refine OF a7 2 OC ?_|refine OF a7 3 OC ?_|fail)|(apply bg;refine b9 ?_)|fail)
 refine bh [] _ (FM f p m g hd) rfl rfl (Ok _) rfl fun c L1 ⟨b,hc,hL⟩=>?_
 subst hc;subst hL
 repeat' (first|fail)
 refine EV 0 Tryz.underlying159 rfl rfl rfl fun q=>?_
 refine W1g ?_
 rename_i tb eb _
 refine aJ [4,5,17] (α:=Unit) (fun _=>[]) (fun _=>True) (fun _=>[(eb,.box [aG 0] 52),(tb,.box (bG (jp g)) 67),(q,LF b),(b,ci (.int .i64) fun _=>none)]) (fun _=>0) () rfl trivial trivial (fun _ _ h=>dg.perm h (List.perm_append_comm (l₁:=[_,_]))) fun _ _=>?_
 try dsimp only [Oq,Oo,Om,Oh]
 repeat' (first|refine O1 ?_|fail)
 refine HM 2 3 rfl rfl rfl rfl ?_
 repeat' (first|refine O1 ?_|refine OE a7 KN ?_|(apply bU;first|refine OH a7 0 OB ?_|refine OH a7 1 OB ?_|refine OH a7 2 OB ?_|refine OH a7 3 OB ?_|refine OJ a7 0 OB ?_|refine OJ a7 1 OB ?_|refine OJ a7 2 OB ?_|refine OM a7 1 NZ (by assumption) rfl ?_|refine OM a7 0 NZ (by assumption) rfl ?_|fail)|(apply aO;first|refine OG 7 a7 0 OD ?_|refine OG 7 a7 1 OD ?_|refine OG 7 a7 2 OD ?_|refine OF a7 0 OC ?_|refine OF a7 1 OC ?_|refine OF a7 2 OC ?_|refine OF a7 3 OC ?_|fail)|refine bj rfl ?_)
 refine zn (cs:=[.agg (bG (jp g)),aG 0]) [] _ [] [] (Ho tb eb []) (Ok _) ?_ (List.nil_sublist _) rfl
 exact ⟨⟨_,1,_,_,rfl,rfl,.inr ⟨dZ a7 rfl,rfl⟩⟩,⟨_,0,_,_,rfl,rfl,.inl ⟨cF a7 rfl,rfl⟩⟩,trivial⟩
set_option maxRecDepth 8000
theorem Fm (e:Int):bH Tryz.prog 71 [.sc (.iface 52 (.int .i64 e))] (aG e):=by
 refine aQ Tryz.func71 rfl Tryz.ntmps71 rfl fun B=>?_
 refine W01 ?_
 refine C5 (by kernel_rfl) rfl rfl ?_
 refine W0k ?_
 exact OL NZ
instance (e:Int):AD Tryz.prog 71 [.sc (.iface 52 (.int .i64 e))] (aG e):=⟨Fm e⟩
theorem F3 (ab eb:Nat) (L:AL):qE Tryz.prog 70 ([.pointer (some ⟨ab,0,none⟩),.pointer (some ⟨eb,0,none⟩)].map .sc) L .returning .returning L:=by
 refine xM Tryz.func70 rfl Tryz.ntmps70 rfl rfl rfl rfl wJ fun B=>?_
 refine W01 ?_
 refine yo false ⟨_,Tryz.underlying20⟩ rfl (.inl ⟨rfl,rfl⟩) rfl ?_
 refine W14 ?_
 exact xq (List.Sublist.refl _)
theorem C8 (ab eb:Nat) (e:Int):qE Tryz.prog 70 ([.pointer (some ⟨ab,0,none⟩),.pointer (some ⟨eb,0,none⟩)].map .sc) [(eb,.box [aG 0] 52),(ab,.box [.sc (.slice none 0 0)] 113)] (.panicking [{ v:= .iface 52 (.int .i64 e),recovered:=false }]) (.panicking [{ v:= .iface 52 (.int .i64 e),recovered:=true }]) [(eb,.box [aG e] 52),(ab,.box [.sc (.slice none 0 0)] 113)]:=by
 refine xM Tryz.func70 rfl Tryz.ntmps70 rfl rfl rfl rfl Fn fun B=>?_
 refine W01 ?_
 refine yo true ⟨_,Tryz.underlying20⟩ rfl (.inr ⟨⟨_,_,rfl⟩,rfl⟩) rfl ?_
 repeat' (first|refine O1 ?_|refine OE a7 KN ?_|(apply aO;first|refine OF a7 0 OC ?_|refine OF a7 1 OC ?_|refine OF a7 2 OC ?_|refine OF a7 3 OC ?_|fail)|(apply bg;refine b9 ?_)|refine bT rfl ?_)
 exact xq (List.Sublist.refl _)
theorem F2 (f:aY) (hf:f.Axes=[]) (place:List Int):bH Tryz.prog 44 [cR f,.imm 1 (aL place)] (.tup [.sc (.slice none 0 0),aG (if place=[] then 0 else 1)]):=by
 refine qK Tryz.func44 rfl Tryz.ntmps44 rfl fun B=>?_
 refine cV 1 rfl rfl fun hpl=>?_
 have hpn:=aP place
 refine W0O ?_
 intros
 refine A7 [.pointer (some ⟨_,0,none⟩),.pointer (some ⟨_,0,none⟩)] rfl ?_
 refine W01 ?_
 rename_i ab eb
 rw [hf]
 by_cases hp:place=[]
 ·subst hp
  refine W1f ?_
  refine aJ [2,4,5,16,17] (α:=Unit) (fun _=>[(18,aG 0)]) (fun _=>True) (fun _=>[(eb,.box [aG 0] 52),(ab,.box [.sc (.slice none 0 0)] 113)]) (fun _=>0) () rfl ⟨rfl,trivial⟩ trivial (fun _ _ h=>h) fun _ _=>?_
  try dsimp only [Oq,Oo,Om,Oh]
  repeat' (first|refine O1 ?_|refine OE a7 KN ?_|(apply bU;first|refine OH a7 0 OB ?_|refine OH a7 1 OB ?_|refine OH a7 2 OB ?_|refine OH a7 3 OB ?_|refine OJ a7 0 OB ?_|refine OJ a7 1 OB ?_|refine OJ a7 2 OB ?_|refine OM a7 1 NZ (by assumption) rfl ?_|refine OM a7 0 NZ (by assumption) rfl ?_|fail)|(apply aO;first|refine OF a7 0 OC ?_|refine OF a7 1 OC ?_|refine OF a7 2 OC ?_|refine OF a7 3 OC ?_|fail)|refine bj rfl ?_)
  refine zn (cs:=[.sc (.slice none 0 0),aG 0]) [] _ [] [] (F3 ab eb []) (Ok _) ?_ (List.nil_sublist _) rfl
  exact ⟨⟨_,1,_,_,rfl,rfl,.inl ⟨cF a7 rfl,rfl⟩⟩,⟨_,0,_,_,rfl,rfl,.inl ⟨cF a7 rfl,rfl⟩⟩,trivial⟩
 ·have h0:0 < place.length:=List.length_pos_iff.2 hp
  refine aw rfl (fun _=>?_) (fun h=>?_)
  ·repeat' (first|refine O1 ?_|fail)
   refine lU (by kernel_rfl) rfl rfl ?_
   repeat' (first|fail)
   refine HN rfl ?_
   refine sE ?_
   rw [if_neg hp]
   refine B6 (cs:=[.sc (.slice none 0 0),aG 1]) _ [] _ [] (C8 ab eb 1) (List.Perm.of_eq (List.append_nil _).symm) ?_ (List.nil_sublist _) rfl
   exact ⟨⟨_,1,_,_,rfl,rfl,.inl ⟨cF a7 rfl,rfl⟩⟩,⟨_,0,_,_,rfl,rfl,.inl ⟨cF a7 rfl,rfl⟩⟩,trivial⟩
  ·have h1:=Decidable.not_not.1 (Ox h)
   have h2:(List.map cS []).length=0:=rfl
   exfalso
   omega
structure Jh (f:aY):Prop where
 axes:f.Axes=[]
 regions:f.Regions=[]
 deltas:∀g∈f.Glyphs,g.Deltas=[]
 glyphs:f.Glyphs.length≤1000000∧∀g∈f.Glyphs,Ji g
 chars:f.Chars.length≤1000000
 looks:f.Lookups.length≤1000000∧∀q∈f.Lookups,q.Rules.length≤1000000∧∀r∈q.Rules,Jl r
 feats:f.Features.length≤1000000∧∀q∈f.Features,q.Lookups.length≤1000000
 funcs:f.Funcs.length≤1000000∧∀q∈f.Funcs,q.length≤1000000
 cvt:f.Cvt.length≤1000000
abbrev NB:List AV:=[oh ⟨#[]⟩,aG 0,cU false,kS,kS,kS,kS,kS,kS]
def uK:aY:=⟨0,[],[],[],[],[],[],[],[]⟩
set_option maxHeartbeats 8000000 in
theorem JZ (f:aY) (hf:Jh f) (place:List Int):bH Tryz.prog 23 [cR f,.imm 1 (aL place)] (.tup [cR (if place=[] then f else uK),aG (if place=[] then 0 else 1)]):=by
 refine aQ Tryz.func23 rfl Tryz.ntmps23 rfl fun B=>?_
 haveI i0:=AD.mk (F2 f hf.axes place)
 have hgl:(f.Glyphs.map bG).length=f.Glyphs.length:=Ou ..
 repeat' (first|refine O1 ?_|refine OE a7 KN ?_|refine br ?_|refine bi a7 fun _=>?_|(apply bg;refine b9 ?_)|fail)
 by_cases hp:place=[]
 ·simp only [if_pos hp]
  refine W0m ?_
  refine eo (.int .i64) fun mb=>?_
  repeat' (first|refine O1 ?_|refine OE a7 KN ?_|(apply aO;first|refine OG 8 a7 0 OD ?_|refine OG 8 a7 1 OD ?_|refine OG 8 a7 2 OD ?_|refine OG 11 a7 0 OD ?_|refine OG 11 a7 1 OD ?_|refine OG 11 a7 2 OD ?_|refine OF a7 0 OC ?_|refine OF a7 1 OC ?_|refine OF a7 2 OC ?_|refine OF a7 3 OC ?_|fail)|refine bi a7 fun _=>?_|fail)
  refine ej a7 f.Glyphs.length rfl rfl rfl rfl rfl (by rw [hgl]) (by rw [hgl]) (by have:=hf.glyphs.1;omega) (by have:=hf.glyphs.1;omega) rfl fun gb=>?_
  rw [show (List.replicate f.Glyphs.length (List.map AV.sc _)).flatten=eV bG NB f.Glyphs 0 from je _ _ _]
  refine W03 ?_
  rename_i tb _
  refine aJ [2,4,8,9,31,32] (α:=Nat) (fun i=>[(33,aG i)]) (fun i=>i≤f.Glyphs.length) (fun i=>[(gb,.box (eV bG NB f.Glyphs i) 67),(mb,ci (.int .i64) fun _=>none),(tb,.box ([.int .i64 0,.slice none 0 0,.slice none 0 0,.slice none 0 0,.slice none 0 0,.slice none 0 0,.slice none 0 0,.slice none 0 0,.slice none 0 0].map AV.sc) 36)]) (fun i=>f.Glyphs.length - i) 0 rfl ⟨rfl,trivial⟩ (Nat.zero_le _) (fun _ _ h=>h) fun i hi=>?_
  try dsimp only [Oq,Oo,Om,Oh]
  refine W01 ?_
  refine aw rfl (fun h=>?_) (fun h=>?_)
  ·have hil:i < f.Glyphs.length:=by have:=Oy h;omega
   obtain ⟨z,hz⟩:∃z,f.Glyphs[i]?=some z:=⟨_,Oz hil⟩
   have hzg:=c7 (c:=bG) hz
   have hzm:=Ow hz
   have hg45:=Hn f (.sc (.slice none 0 0)) (.sc (.map (some mb))) z (hf.glyphs.2 z hzm) (hf.deltas z hzm)
   have hst:jp z=z:=by
    have:=hf.deltas z hzm
    unfold jp
    cases z
    simp at this
    rw [this]
   rw [hst] at hg45
   have hb:=hf.glyphs.1
   clear h
   repeat' (first|refine O1 ?_|refine ak ?_|refine OE a7 KN ?_|(apply aV;first|refine aU a7 ?_|refine aN a7 ?_)|(apply aO;first|refine OG 8 a7 0 OD ?_|refine OG 8 a7 1 OD ?_|refine OG 8 a7 2 OD ?_|refine OG 11 a7 0 OD ?_|refine OG 11 a7 1 OD ?_|refine OG 11 a7 2 OD ?_|refine OF a7 0 OC ?_|refine OF a7 1 OC ?_|refine OF a7 2 OC ?_|refine OF a7 3 OC ?_|fail)|refine bi a7 fun _=>?_|fail)
   refine b9 (hc:=⟨hg45⟩) ?_
   refine W0V ?_
   refine nH (n:=9) (ys:=bG z) a7 0 (i * 9) rfl rfl (by omega) rfl rfl rfl rfl (by rw [kG (sz:=9) (fun _=>rfl) rfl _ hi];omega) ?_
   rw [kH (sz:=9) (fun _=>rfl) rfl hz]
   refine W0L ?_
   exact aD (i+1) rfl ⟨by rw [Ov];rfl,trivial⟩ hil (by omega) (fun _ _ h=>h)
  ·have hil:i=f.Glyphs.length:=by have:=Ox h;omega
   subst hil
   clear h
   rw [kF]
   have hb:=hf.glyphs.1
   have hfl:((f.Glyphs.map bG).flatten).length=f.Glyphs.length * 9:=by rw [bY (sz:=9) (fun e he=>by obtain ⟨y,_,rfl⟩:=List.mem_map.1 he;rfl),hgl]
   refine bM (dl (t:=9) (sz:=9) (l:=f.Glyphs.map bG) 0 rfl rfl (List.take_of_length_le (by omega)) (by omega) (fun q hq=>by obtain ⟨y,_,rfl⟩:=List.mem_map.1 hq;rfl) hgl (Nat.le_refl _) (by unfold maxLen;omega)) ?_
   haveI i1:=AD.mk (Me (f.Chars.map dv) (fun q hq=>by obtain ⟨y,_,rfl⟩:=List.mem_map.1 hq;rfl) (by rw [Ou];exact hf.chars))
   haveI i2:=AD.mk (HB f.Lookups hf.looks.1 hf.looks.2)
   haveI i3:=AD.mk (He f.Features hf.feats.1 hf.feats.2)
   haveI i4:=AD.mk (KA f.Funcs hf.funcs.1 hf.funcs.2)
   haveI i5:=AD.mk (wM (aL f.Cvt) (fun q hq=>by obtain ⟨y,_,rfl⟩:=List.mem_map.1 hq;rfl) (by rw [aP];exact hf.cvt))
   repeat' (first|refine O1 ?_|fail)
   refine bk 18 [(0,.v),(1,.v),(2,.v),(3,.v),(4,.v),(5,.v),(6,.v),(7,.v),(8,.v),(9,.v),(10,.v),(11,.v),(12,.v),(13,.v),(14,.v),(15,.v),(16,.v),(17,.v)] none ?_ trivial rfl (by kernel_rfl) (by kernel_rfl) (by kernel_rfl) mixed (by kernel_rfl) rfl
   refine W0j ?_
   refine OO [4,53,54,57,60,63,66,69] KN ?_
   repeat' (first|refine O1 ?_|refine aa ?_|refine OE a7 KN ?_|(apply aO;first|refine OG 8 a7 0 OD ?_|refine OG 8 a7 1 OD ?_|refine OG 8 a7 2 OD ?_|refine OG 11 a7 0 OD ?_|refine OG 11 a7 1 OD ?_|refine OG 11 a7 2 OD ?_|refine OF a7 0 OC ?_|refine OF a7 1 OC ?_|refine OF a7 2 OC ?_|refine OF a7 3 OC ?_|fail))
   have hfa:cf f=[aG f.Unit,.imm 9 (f.Glyphs.map bG),.imm 2 (f.Chars.map dv),.imm 3 (f.Lookups.map bC),.imm 2 (f.Features.map bI),.imm 4 [],.imm 1 [],.imm 1 (f.Funcs.map d6),.imm 1 (aL f.Cvt)]:=by
    unfold cf
    rw [hf.axes,hf.regions]
    rfl
   rw [show cR f= .agg (cf f) from rfl,hfa]
   refine b7 (bB 1 (cs':=[aG f.Unit,.imm 9 (f.Glyphs.map bG),.imm 2 (f.Chars.map dv),.imm 3 (f.Lookups.map bC),.imm 2 (f.Features.map bI),.imm 4 [],.imm 1 [],.imm 1 (f.Funcs.map d6),.imm 1 (aL f.Cvt)]) rfl fun σ vs hh=>l8.vrs (a:=[aG f.Unit,.imm 9 (f.Glyphs.map bG),.imm 2 (f.Chars.map dv),.imm 3 (f.Lookups.map bC),.imm 2 (f.Features.map bI),.sc (.slice none 0 0),.sc (.slice none 0 0),.imm 1 (f.Funcs.map d6),.imm 1 (aL f.Cvt)]) (b:=[aG f.Unit,.imm 9 (f.Glyphs.map bG),.imm 2 (f.Chars.map dv),.imm 3 (f.Lookups.map bC),.imm 2 (f.Features.map bI),.imm 4 [],.imm 1 [],.imm 1 (f.Funcs.map d6),.imm 1 (aL f.Cvt)]) ⟨d5.refl _,d5.refl _,d5.refl _,d5.refl _,d5.refl _,d5.nil 4,d5.nil 1,d5.refl _,d5.refl _,trivial⟩ hh) ?_
   refine fT (cs:=[.agg [aG f.Unit,.imm 9 (f.Glyphs.map bG),.imm 2 (f.Chars.map dv),.imm 3 (f.Lookups.map bC),.imm 2 (f.Features.map bI),.imm 4 [],.imm 1 [],.imm 1 (f.Funcs.map d6),.imm 1 (aL f.Cvt)],aG 0]) [] ?_ (List.nil_sublist _) rfl
   exact ⟨⟨_,1,_,_,rfl,rfl,.inr ⟨dZ a7 rfl,rfl⟩⟩,rfl,trivial⟩
 ·simp only [if_neg hp]
  repeat' (first|refine O1 ?_|refine OE a7 KN ?_|(apply aO;first|refine OG 8 a7 0 OD ?_|refine OG 8 a7 1 OD ?_|refine OG 8 a7 2 OD ?_|refine OG 11 a7 0 OD ?_|refine OG 11 a7 1 OD ?_|refine OG 11 a7 2 OD ?_|refine OF a7 0 OC ?_|refine OF a7 1 OC ?_|refine OF a7 2 OC ?_|refine OF a7 3 OC ?_|fail)|refine bT rfl ?_)
  refine b7 (bB 0 (cs':=cf uK) rfl fun σ vs hh=>l8.vrs (a:=[aG 0,.sc (.slice none 0 0),.sc (.slice none 0 0),.sc (.slice none 0 0),.sc (.slice none 0 0),.sc (.slice none 0 0),.sc (.slice none 0 0),.sc (.slice none 0 0),.sc (.slice none 0 0)]) (b:=cf uK) ⟨d5.refl _,d5.nil 9,d5.nil 2,d5.nil 3,d5.nil 2,d5.nil 4,d5.nil 1,d5.nil 1,d5.nil 1,trivial⟩ hh) ?_
  refine fT (cs:=[cR uK,aG 1]) [] ?_ (List.nil_sublist _) rfl
  exact ⟨⟨_,0,_,_,rfl,rfl,.inr ⟨dZ a7 rfl,rfl⟩⟩,rfl,trivial⟩
end Go.Proofs.YtamjlkdanllgjaaGreatDoor
namespace Go.Proofs
open Go.Shelf
def Tryz.laysSort_ren:Go.Shelf.Ren:=⟨fun | 189=>28 | 125=>56 | 257=>55 | 128=>93 | 129=>94 | 294=>84 | 295=>85 | 296=>86 | 297=>87 | 298=>88 | 299=>89 | 216=>90 | 300=>91 | 301=>92 | 328=>165 | 329=>166 | 330=>167 | 331=>168 | 332=>169 | 215=>148 | 343=>242 | n=>n,fun | 28=>22 | 3=>3 | 46=>141 | 0=>0 | 51=>192 | 53=>194 | 4=>4 | 183=>186 | 182=>185 | 131=>97 | 5=>5 | 9=>9 | 218=>282 | 222=>286 | 228=>350 | 229=>351 | n=>n,fun | n=>n⟩
theorem Tryz.laysSort:Go.Proofs.Lays.n189 Tryz.prog Tryz.laysSort_ren:={
 mixed:=by kernel_rfl
 f125:=Tryz.func56.trans (congrArg some (by kernel_rfl))
 f128:=Tryz.func93.trans (congrArg some (by kernel_rfl))
 f129:=Tryz.func94.trans (congrArg some (by kernel_rfl))
 f189:=Tryz.func28.trans (congrArg some (by kernel_rfl))
 f215:=Tryz.func148.trans (congrArg some (by kernel_rfl))
 f216:=Tryz.func90.trans (congrArg some (by kernel_rfl))
 f257:=Tryz.func55.trans (congrArg some (by kernel_rfl))
 f294:=Tryz.func84.trans (congrArg some (by kernel_rfl))
 f295:=Tryz.func85.trans (congrArg some (by kernel_rfl))
 f296:=Tryz.func86.trans (congrArg some (by kernel_rfl))
 f297:=Tryz.func87.trans (congrArg some (by kernel_rfl))
 f298:=Tryz.func88.trans (congrArg some (by kernel_rfl))
 f299:=Tryz.func89.trans (congrArg some (by kernel_rfl))
 f300:=Tryz.func91.trans (congrArg some (by kernel_rfl))
 f301:=Tryz.func92.trans (congrArg some (by kernel_rfl))
 f328:=Tryz.func165.trans (congrArg some (by kernel_rfl))
 f329:=Tryz.func166.trans (congrArg some (by kernel_rfl))
 f330:=Tryz.func167.trans (congrArg some (by kernel_rfl))
 f331:=Tryz.func168.trans (congrArg some (by kernel_rfl))
 f332:=Tryz.func169.trans (congrArg some (by kernel_rfl))
 f343:=Tryz.func242.trans (congrArg some (by kernel_rfl))
 t0:=Tryz.underlying0
 a0:=Tryz.isAgg0
 z0:=Tryz.sizeOf0
 v0:=Tryz.zeroValue0
 t3:=Tryz.underlying3
 a3:=Tryz.isAgg3
 z3:=Tryz.sizeOf3
 v3:=Tryz.zeroValue3
 t4:=Tryz.underlying4
 a4:=Tryz.isAgg4
 z4:=Tryz.sizeOf4
 v4:=Tryz.zeroValue4
 t5:=Tryz.underlying5
 a5:=Tryz.isAgg5
 z5:=Tryz.sizeOf5
 v5:=Tryz.zeroValue5
 t9:=Tryz.underlying9
 a9:=Tryz.isAgg9
 z9:=Tryz.sizeOf9
 v9:=Tryz.zeroValue9
 t28:=Tryz.underlying22
 a28:=Tryz.isAgg22
 z28:=Tryz.sizeOf22
 v28:=Tryz.zeroValue22
 t46:=Tryz.underlying141
 a46:=Tryz.isAgg141
 z46:=Tryz.sizeOf141
 v46:=Tryz.zeroValue141
 t51:=Tryz.underlying192
 a51:=Tryz.isAgg192
 z51:=Tryz.sizeOf192
 v51:=Tryz.zeroValue192
 t53:=Tryz.underlying194
 a53:=Tryz.isAgg194
 z53:=Tryz.sizeOf194
 v53:=Tryz.zeroValue194
 t131:=Tryz.underlying97
 a131:=Tryz.isAgg97
 z131:=Tryz.sizeOf97
 v131:=Tryz.zeroValue97
 t182:=Tryz.underlying185
 a182:=Tryz.isAgg185
 z182:=Tryz.sizeOf185
 v182:=Tryz.zeroValue185
 t183:=Tryz.underlying186
 a183:=Tryz.isAgg186
 z183:=Tryz.sizeOf186
 v183:=Tryz.zeroValue186
 t218:=Tryz.underlying282
 a218:=Tryz.isAgg282
 z218:=Tryz.sizeOf282
 v218:=Tryz.zeroValue282
 t222:=Tryz.underlying286
 a222:=Tryz.isAgg286
 z222:=Tryz.sizeOf286
 v222:=Tryz.zeroValue286
 t228:=Tryz.underlying350
 a228:=Tryz.isAgg350
 z228:=Tryz.sizeOf350
 v228:=Tryz.zeroValue350
 t229:=Tryz.underlying351
 a229:=Tryz.isAgg351
 z229:=Tryz.sizeOf351
 v229:=Tryz.zeroValue351 }
end Go.Proofs
namespace Go.Proofs.YtamjlkdanllgjaaGreatDoor
open Go.RowKit Go.Shelf Go.Sort
def f8 (l:List Int):List Int:=l.mergeSort fun x y=>decide (x≤y)
theorem g7 (l:List Int):(f8 l).length=l.length:=by simp [f8]
theorem wS (l:List Int):(f8 l).Perm l:=List.mergeSort_perm ..
theorem CF (l:List Int):(f8 l).Pairwise (·≤ ·):=by
  have:=List.pairwise_mergeSort (le:=fun x y:Int=>decide (x≤y)) (fun a b c h1 h2=>by simp at *;omega) (fun a b=>by simp;omega) l
  exact this.imp fun h=>by simpa using h
end Go.Proofs.YtamjlkdanllgjaaGreatDoor
namespace Go.Proofs.YtamjlkdanllgjaaGreatDoor
open Go.RowKit
attribute [local irreducible] AT bF AX AO Av Kt b8 d9 DA cu
set_option maxRecDepth 8000
theorem LI:bH Tryz.prog 94 [.sc (.int .u64 0)] (aG 0):=by
 refine aQ Tryz.func94 rfl Tryz.ntmps94 rfl fun B=>?_
 refine W0m ?_
 refine fG a7 rfl rfl rfl rfl rfl rfl ?_
 repeat' (first|fail)
 refine cz (qJ (c:=0) ⟨Tryz.underlying9⟩ rfl rfl (by decide) rfl) rfl rfl ?_
 repeat' (first|fail)
 refine fG a7 rfl rfl rfl rfl rfl rfl ?_
 rw [show IntKind.wrap .i64 (((0:UInt8).toNat:Nat):Int)=0 from rfl]
 refine W02 ?_
 exact OL NZ
instance:AD Tryz.prog 94 [.sc (.int .u64 0)] (aG 0):=⟨LI⟩
theorem LH:bH Tryz.prog 56 [.sc (.int .u64 0)] (aG 0):=by
 refine aQ Tryz.func56 rfl Tryz.ntmps56 rfl fun B=>?_
 refine W1n ?_
 exact OL NZ
instance:AD Tryz.prog 56 [.sc (.int .u64 0)] (aG 0):=⟨LH⟩
theorem LE (a:Option Addr) (cap:Nat) (L:AL):AC Tryz.prog 84 [.sc (.slice a 0 cap),aG 0,aG 0] L fun _ L'=>L'=L:=by
 refine aQ Tryz.func84 rfl Tryz.ntmps84 rfl fun B=>?_
 refine W0c ?_
 refine aJ [0,1,2] (α:=Unit) (fun _=>[(6,aG 1)]) (fun _=>True) (fun _=>L) (fun _=>0) () rfl ⟨rfl,trivial⟩ trivial (fun _ _ h=>h) fun _ _=>?_
 try dsimp only [Oq,Oo,Om,Oh]
 refine W0m ?_
 exact cN rfl rfl
theorem Mc (a:Option Addr) (cap:Nat) (L:AL):AC Tryz.prog 55 [.sc (.slice a 0 cap),aG 0,aG 0,aG 0] L fun _ L'=>L'=L:=by
 refine aQ Tryz.func55 rfl Tryz.ntmps55 rfl fun B=>?_
 refine W03 ?_
 refine aJ [0] (α:=Unit) (fun _=>[(1,aG 0),(2,aG 0)]) (fun _=>True) (fun _=>L) (fun _=>0) () rfl ⟨rfl,rfl,trivial⟩ trivial (fun _ _ h=>h) fun _ _=>?_
 try dsimp only [Oq,Oo,Om,Oh]
 repeat' (first|refine O1 ?_|refine ak ?_|refine OE a7 KN ?_|(apply aS;refine aR ?_)|refine bT rfl ?_)
 refine bh L [] (LE a cap L) rfl rfl (by rw [List.append_nil]) rfl fun c L1 hL=>?_
 subst hL
 rw [List.append_nil]
 repeat' (first|refine O1 ?_|fail)
 exact n4 rfl rfl
theorem FP (a:Option Addr) (cap:Nat) (L:AL):AC Tryz.prog 28 [.sc (.slice a 0 cap)] L fun _ L'=>L'=L:=by
 refine aQ Tryz.func28 rfl Tryz.ntmps28 rfl fun B=>?_
 refine W01 ?_
 refine fG a7 rfl rfl rfl rfl rfl rfl ?_
 rw [show IntKind.wrap .u64 ((0:Nat):Int)=0 from rfl]
 repeat' (first|(apply bg;refine b9 ?_)|fail)
 refine bh L [] (Mc a cap L) rfl rfl (by rw [List.append_nil]) rfl fun c L1 hL=>?_
 subst hL
 rw [List.append_nil]
 repeat' (first|refine O1 ?_|fail)
 exact cN rfl rfl
section
open Go.Shelf Go.Sort
theorem wR (b cap:Nat) (l:List Int) (js:List Value) (w:World) (hl:l.length≤1000000) (hb:w.heap[b]?=some (.cells (l.map (Value.int .i64)++js).toArray 3 (0,0))):
  Calls Tryz.prog 28 #[.slice (some ⟨b,0,none⟩) l.length cap] w fun e w'=>e= .returned (.tuple #[])∧w.grownBy w' (some b)∧w'.heap[b]?=some (.cells ((f8 l).map (Value.int .i64)++js).toArray 3 (0,0)):=by
 have hH:Holds (Value.int .i64) w b 0 l.toArray:=by
  intro j hj
  have hj':j < l.length:=by simpa using hj
  rw [Nat.zero_add,dm hb,to hb]
  refine ⟨?_,rfl⟩
  simp [hj',List.getElem?_append_left]
 have hlt:b < w.heap.size:=(Array.getElem?_eq_some_iff.1 hb).1
 have h:=calls_of_every_depth fun D=>AnyS.slices_Sort_int_alone Tryz.laysSort D b 0 cap l w hH hlt (by omega)
 refine Calls.mono h fun e w' ⟨he,q,os,hw⟩=>⟨he,?_⟩
 rw [Lib.sorted_world _ w b 0 q _ _ os hH (by simp),show (l.mergeSort fun x y=>decide (x≤y))=f8 l from rfl] at hw
 have hb':(w.drewN q).heap[b]?=some (.cells (l.map (Value.int .i64)++js).toArray 3 (0,0)):=hb
 obtain ⟨hg,cs',hh,hs',hj⟩:=jn b ((f8 l).map (Value.int .i64)) 0 (w.drewN q) _ 3 (0,0) hb'
 have hgs:=hg.size
 subst hw
 refine ⟨⟨hg.os,hg.tape,hg.output,?_,fun k hk hkb=>?_⟩,?_⟩
 ·show w.heap.size≤(((w.drewN q).setCells b 0 ((f8 l).map (Value.int .i64))).heap++os).size
  rw [Array.size_append]
  exact Nat.le_trans hgs (Nat.le_add_right _ _)
 ·show (((w.drewN q).setCells b 0 ((f8 l).map (Value.int .i64))).heap++os)[k]?=_
  rw [Array.getElem?_append_left (Nat.lt_of_lt_of_le hk hgs)]
  exact hg.block k hk hkb
 ·show (((w.drewN q).setCells b 0 ((f8 l).map (Value.int .i64))).heap++os)[b]?=_
  rw [Array.getElem?_append_left (Nat.lt_of_lt_of_le hlt hgs)]
  refine hh.trans ?_
  congr 2
  apply Array.ext_getElem?
  intro j
  rw [hj j]
  simp only [Ou,g7,List.size_toArray,List.getElem?_toArray,List.length_append]
  by_cases hjl:j < l.length
  ·rw [if_pos (by omega),List.getElem?_append_left (by simpa [g7] using hjl)];rfl
  ·rw [if_neg (by omega),List.getElem?_append_right (by simp;omega),List.getElem?_append_right (by simp [g7];omega)]
   simp [g7]
end
theorem x3 {σ:cm}:∀(l:List Int) (us:List Value),d4 σ (l.map aG) us→us=l.map (Value.int .i64)
 | [],us,h=>h.nil_inv
 | z::l,us,h=>by
  obtain ⟨v,ws,rfl,h1,h2⟩:=h.inv
  rw [h1.sc_inv,x3 l ws h2]
  rfl
theorem Et {σ:cm} (l:List Int):d4 σ (l.map aG) (l.map (Value.int .i64)):=⟨by simp,fun i c u hc hu=>by
 rw [List.getElem?_map] at hc hu
 cases hz:l[i]? with
 | none=>rw [hz] at hc;cases hc
 | some z=>rw [hz] at hc hu;cases hc;cases hu;exact .sc _⟩
theorem FO (b cap:Nat) (l:List Int) (junk:List AV) (hl:l.length≤1000000):AC Tryz.prog 28 [.sc (.slice (some ⟨b,0,none⟩) l.length cap)] [(b,.box (l.map aG++junk) 3)] fun _ L=>L=[(b,.box ((f8 l).map aG++junk) 3)]:=by
 intro σ w vs hv hst
 obtain ⟨v,ws,rfl,h1,h2⟩:=hv.inv
 rw [h2.nil_inv,h1.sc_inv]
 obtain ⟨o,ho,us,rfl,hus,hu1⟩:=hst.here _ (List.mem_cons_self ..)
 have e1:=x3 l (us.take l.length) (by
  have:=gC hus l.length
  rwa [List.take_left' (by simp)] at this)
 have e2:d4 σ junk (us.drop l.length):=by
  have:=lI hus l.length
  rwa [List.drop_left' (by simp)] at this
 have e3:us=l.map (Value.int .i64)++us.drop l.length:=by rw [←e1,List.take_append_drop]
 rw [e3] at ho
 refine (wR b cap l _ w hl ho).mono fun e w' ⟨he,hg,hh⟩=>⟨_,σ,.tup [],_,he,.tup [] [] rfl (fun i c u h=>by simp at h),?_,rfl⟩
 refine hst.put (fun _=>trivial) hg hh ⟨_,rfl,ey (Et _) e2,fun u hu=>?_⟩
 rcases Oj hu with hu | hu
 ·obtain ⟨z,_,rfl⟩:=List.mem_map.1 hu
  rfl
 ·exact hu1 u (List.mem_of_mem_drop hu)
end Go.Proofs.YtamjlkdanllgjaaGreatDoor
namespace Go.Proofs.YtamjlkdanllgjaaGreatDoor
open Go.RowKit
section
variable {P:Program} {tt:TT} {r:Option Nat} {ops:Array Oper} {Q:Exit→Act→World→Prop} {nt:Nat} {D:List Deferred} {fr:bZ} {B:Bs} {L:AL} {rest:List Oper} {d:Nat} {ty t t':TypeId} {pos:String} {af:Array Edge} {g:Option (Nat×Bool)} {x y z:Operand} {u:AV}
theorem Js (ok:eh P tt) {dd:Option Tmp} {n e:Nat} {k:IntKind} {i:Nat} {a:Int} {cs:List AV} (ht:vD tt t=some (n,e,1)) (he:HZ tt e=true) (hx:bw fr x=some (.agg cs)) (hy:bw fr y=some (.sc (.int k a))) (ha:a=(i:Int)) (h0:i < n) (hu:cs[i]?=some u):Av P ⟨dd,.index t x y,ty,pos,af,g⟩ fr u:=by
 intro σ ρ w hρ _
 subst ha
 obtain ⟨h1,h2⟩:=gL ok ht
 have hc:=cF ok he
 have hyv:=(hρ y _ hy).sc_inv
 obtain ⟨vs,hv,hs,_⟩:=(hρ x _ hx).agg_inv
 obtain ⟨v,g1,g2⟩:=hs.get hu
 have hso:(sizeOf e:Sem Nat).run P w= .ok 1 w:=by
  cases hi:P.info? e with
  | none=>rw [hi] at h2;cases h2
  | some i=>rw [hi] at h2;simp at h2;simp [sizeOf,typeInfo,hi,h2]
 refine ⟨v,?_,g2⟩
 have h3:(i:Int) < n:=by omega
 simp [execOp,hv,hyv,Instr.index,asIntOf,run_underlying h1,h3,hso,part,hc.agg w,g1]
 intro hle
 omega
theorem Kg (ok:eh P tt) (i:Nat) {n e:Nat} {k:IntKind} {a:Int} {cs:List AV} (ht:vD tt t=some (n,e,1)) (he:HZ tt e=true) (hx:bw fr x=some (.agg cs)) (hy:bw fr y=some (.sc (.int k a))) (ha:a=(i:Int)) (h0:i < n) (hu:cs[i]?=some u) (hd:Nat.ble nt d=false) (h:bF P r ops Q nt D rest ((d,u)::fr) B L):bF P r ops Q nt D (⟨some d,.index t x y,ty,pos,af,none⟩::rest) fr B L:=cz (Js ok ht he hx hy ha h0 hu) hd rfl h
end
end Go.Proofs.YtamjlkdanllgjaaGreatDoor
