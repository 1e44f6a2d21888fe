/-
  Fonts as data, and as abstract values.
-/
import Derived.Test.YtamjlkdanllgjaaGreatDoorM04
import Derived.MapKept
namespace Go.Proofs.YtamjlkdanllgjaaGreatDoor
open Go.RowKit
abbrev aH (z:Int):AV:= .sc (.int .i64 z)
abbrev rE (s:ByteArray):AV:= .sc (.string s)
abbrev cQ (b:Bool):AV:= .sc (.bool b)
structure eH where
 X:Int
 Y:Int
 On:Bool
structure dL where
 Glyph:Int
 X:Int
 Y:Int
structure dA where
 Kind:Int
 Class:Int
 X:Int
 Y:Int
structure dG where
 Region:Int
 Point:Int
 X:Int
 Y:Int
structure eG where
 Op:Int
 A:Int
structure bf where
 Name:ByteArray
 Advance:Int
 Mark:Bool
 Points:List eH
 Ends:List Int
 Parts:List dL
 Anchors:List dA
 Deltas:List dG
 Hint:List eG
structure cR where
 Rune:Int
 Glyph:Int
structure j9 where
 At:Int
 Lookup:Int
structure bz where
 Back:List (List Int)
 In:List (List Int)
 Ahead:List (List Int)
 Out:List Int
 Calls:List j9
 X:Int
structure b7 where
 Kind:Int
 Ignore:Bool
 Rules:List bz
structure bN where
 Name:ByteArray
 Lookups:List Int
structure ey where
 Name:ByteArray
 Min:Int
 Def:Int
 Max:Int
structure f5 where
 Start:Int
 Peak:Int
 End:Int
structure aV where
 Unit:Int
 Glyphs:List bf
 Chars:List cR
 Lookups:List b7
 Features:List bN
 Axes:List ey
 Regions:List (List f5)
 Funcs:List (List eG)
 Cvt:List Int
def aZ (l:List (List Int)):List (List AV):=l.map fun q=>[.imm 1 (aO q)]
def rq (l:List ByteArray):List (List AV):=l.map fun s=>[rE s]
def dw (p:eH):List AV:=[aH p.X,aH p.Y,cQ p.On]
def er (p:dL):List AV:=[aH p.Glyph,aH p.X,aH p.Y]
def cY (p:dA):List AV:=[aH p.Kind,aH p.Class,aH p.X,aH p.Y]
def dZ (p:dG):List AV:=[aH p.Region,aH p.Point,aH p.X,aH p.Y]
def dO (p:eG):List AV:=[aH p.Op,aH p.A]
def bj (g:bf):List AV:=[rE g.Name,aH g.Advance,cQ g.Mark,.imm 3 (g.Points.map dw),.imm 1 (aO g.Ends),.imm 3 (g.Parts.map er),.imm 4 (g.Anchors.map cY),.imm 4 (g.Deltas.map dZ),.imm 2 (g.Hint.map dO)]
def dc (c:cR):List AV:=[aH c.Rune,aH c.Glyph]
def fW (c:j9):List AV:=[aH c.At,aH c.Lookup]
def bG (r:bz):List AV:=[.imm 1 (aZ r.Back),.imm 1 (aZ r.In),.imm 1 (aZ r.Ahead),.imm 1 (aO r.Out),.imm 2 (r.Calls.map fW),aH r.X]
def bv (l:b7):List AV:=[aH l.Kind,cQ l.Ignore,.imm 6 (l.Rules.map bG)]
def bE (t:bN):List AV:=[rE t.Name,.imm 1 (aO t.Lookups)]
def cG (a:ey):List AV:=[rE a.Name,aH a.Min,aH a.Def,aH a.Max]
def kj (t:f5):List AV:=[aH t.Start,aH t.Peak,aH t.End]
def bT (r:List f5):List AV:=[.imm 3 (r.map kj)]
def cV (l:List eG):List AV:=[.imm 2 (l.map dO)]
def c6 (f:aV):List AV:=[aH f.Unit,.imm 9 (f.Glyphs.map bj),.imm 2 (f.Chars.map dc),.imm 3 (f.Lookups.map bv),.imm 2 (f.Features.map bE),.imm 4 (f.Axes.map cG),.imm 1 (f.Regions.map bT),.imm 1 (f.Funcs.map cV),.imm 1 (aO f.Cvt)]
abbrev cD (f:aV):AV:= .agg (c6 f)
theorem c7 {α:Type} {c:α→List AV} {l:List α} {i:Nat} {a:α} (h:l[i]?=some a):(l.map c)[i]?=some (c a):=by simp [h]
theorem DS (l:List ByteArray):(rq l).length=l.length:=by simp [rq]
theorem vS {l:List ByteArray} {i:Nat} {z:ByteArray} (h:l[i]?=some z):(rq l)[i]?=some [rE z]:=by simp [rq,h]
theorem cw (l:List (List Int)):(aZ l).length=l.length:=by simp [aZ]
theorem jC {l:List (List Int)} {i:Nat} {z:List Int} (h:l[i]?=some z):(aZ l)[i]?=some [.imm 1 (aO z)]:=by simp [aZ,h]
section
variable {P:Program} {tt:TT} {r:Option Nat} {Q:Exit→Act→World→Prop} {nt:Nat} {D:List Deferred} {fr:bY} {B:Bs} {L:AL} {l:List Oper} {fin:lz}
variable {k j:Nat} {s:Ak} {sk:nq} {acc:bY} {dd:Option Tmp} {op:Op} {ty t t':TypeId} {pos:String} {af:Array Edge} {g:Option (Nat×Bool)} {x y c:Operand} {u:AV} {want b:Bool}
def cz (P:Program) (l:List Oper) (fr:bY) (fin:lz) (k:Nat) (s:Ak) (o:Oper) (sk:nq) (acc:bY) (L:AL):Prop:=l[k]?=some o→DA P l fr fin ((k,s)::sk) acc L
theorem aF {o:Oper} (h:cz P l fr fin k s o sk acc L) (ho:l[k]?=some o:=by rfl):DA P l fr fin ((k,s)::sk) acc L:=h ho
def jb (o:Oper) (acc:bY):Prop:=match o.guard with
 | none=>True
 | some (j,want)=>qI acc j= .sc (.bool want)
theorem pQ {o:Oper} {R:AV→AL→Prop} (hg:jb o acc) (h:∀B,AO P o (cL l.toArray acc fr o.after.toList) B L R):yT P l fr o acc L R:=by
 unfold yT
 unfold jb at hg
 split
 ·exact h
 ·rename_i j want hq
  rw [hq] at hg
  exact .inl ⟨hg,h⟩
theorem gC {o:Oper} (hg:jb o acc) (h:∀B L,AO P o (cL l.toArray acc fr o.after.toList) B L (fun c L'=>c=u∧L'=L)) (hn:DA P l fr fin sk ((k,u)::acc) L):cz P l fr fin k .v o sk acc L:=by
 intro ho
 obtain ⟨pl,hpl⟩:=hn
 exact ⟨.val k u pl,.v,sk,o,rfl,ho,.inl ⟨rfl,fun L=>pQ hg fun B=>h B L⟩,hpl⟩
theorem C6 {o:Oper} (hg:jb o acc) (h:∀B,AO P o (cL l.toArray acc fr o.after.toList) B L (fun c L'=>c=u∧L'=L)) (hn:DA P l fr fin sk ((k,u)::acc) L):cz P l fr fin k .l o sk acc L:=by
 intro ho
 obtain ⟨pl,hpl⟩:=hn
 exact ⟨.val k u pl,.l,sk,o,rfl,ho,.inr (.inl ⟨rfl,pQ hg fun B=>h B⟩),hpl⟩
theorem iZ {o:Oper} {R:AV→AL→Prop} (hg:jb o acc) (h:∀B,AO P o (cL l.toArray acc fr o.after.toList) B L R) (hn:∀c L',R c L'→DA P l fr fin sk ((k,c)::acc) L'):cz P l fr fin k .e o sk acc L:=by
 intro ho
 have hn':∀c L',∃pl,R c L'→dt P l fr fin pl sk ((k,c)::acc) L':=fun c L'=>by
  by_cases hr:R c L'
  ·obtain ⟨pl,hpl⟩:=hn c L' hr
   exact ⟨pl,fun _=>hpl⟩
  ·exact ⟨.fin,fun h=>absurd h hr⟩
 exact ⟨.eff k R fun c L'=>Classical.choose (hn' c L'),.e,sk,o,.inl rfl,rfl,ho,pQ hg h,fun c L' hr=>Classical.choose_spec (hn' c L') hr⟩
theorem Hp {o:Oper} (hK:f8 fin.gs L) (hg:jb o acc) (h:∀B L,f8 fin.gs L→AO P o (cL l.toArray acc fr o.after.toList) B L (fun c L'=>c=u∧L'=L)) (hn:DA P l fr fin sk ((k,u)::acc) L):cz P l fr fin k .k o sk acc L:=by
 intro ho
 obtain ⟨pl,hpl⟩:=hn
 exact ⟨.val k u pl,.k,sk,o,rfl,ho,.inr (.inr ⟨rfl,hK,fun L hL=>pQ hg fun B=>h B L hL⟩),hpl⟩
theorem xZ {o:Oper} {R:AV→AL→Prop} (hX:∀c L',R c L'→f8 fin.gs L→f8 fin.gs L') (hg:jb o acc) (h:∀B,AO P o (cL l.toArray acc fr o.after.toList) B L R) (hn:∀c L',R c L'→DA P l fr fin sk ((k,c)::acc) L'):cz P l fr fin k .f o sk acc L:=by
 intro ho
 have hn':∀c L',∃pl,R c L'→dt P l fr fin pl sk ((k,c)::acc) L':=fun c L'=>by
  by_cases hr:R c L'
  ·obtain ⟨pl,hpl⟩:=hn c L' hr
   exact ⟨pl,fun _=>hpl⟩
  ·exact ⟨.fin,fun h=>absurd h hr⟩
 exact ⟨.eff k R fun c L'=>Classical.choose (hn' c L'),.f,sk,o,.inr (.inr ⟨rfl,hX⟩),rfl,ho,pQ hg h,fun c L' hr=>Classical.choose_spec (hn' c L') hr⟩
theorem qj {op:Op} (hj:qI acc j= .sc (.bool b)) (hb:(b==want)=false) (hn:DA P l fr fin sk ((k,.sc undef)::acc) L):cz P l fr fin k .v ⟨dd,op,ty,pos,af,some (j,want)⟩ sk acc L:=by
 intro ho
 obtain ⟨pl,hpl⟩:=hn
 exact ⟨.val k (.sc undef) pl,.v,sk,_,rfl,ho,.inl ⟨rfl,fun L=> .inr ⟨⟨_,hj,fun e=>by injection e with e;subst e;simp at hb⟩,rfl,rfl⟩⟩,hpl⟩
theorem Fs {o:Oper} {fr:bY} (h:Av P o fr u):∀B L,AO P o fr B L (fun c L'=>c=u∧L'=L):=fun _ _=>h.ao
theorem b9 (ok:ej P tt) (h:DA P l fr fin sk ((k,u)::acc) L) (hu:rl tt (cL l.toArray acc fr af.toList) op=some u:=by rfl) (hg:jb ⟨dd,op,ty,pos,af,g⟩ acc:=by first | trivial | rfl):cz P l fr fin k .v ⟨dd,op,ty,pos,af,g⟩ sk acc L:=gC hg (Fs (ro ok hu)) h
theorem eA {bop:BinOp} (h:cz P l fr fin k .v ⟨dd,.binOp bop t x y t',ty,pos,af,g⟩ sk acc L):cz P l fr fin k .v ⟨dd,.binOp bop t x y t',ty,pos,af,g⟩ sk acc L:=h
theorem fX {bop:BinOp} (h:DA P l fr fin sk ((k,u)::acc) L) (ho:Av P ⟨dd,.binOp bop t x y t',ty,pos,af,g⟩ (cL l.toArray acc fr af.toList) u:=by first | exact xI rfl rfl (by omega) | exact xN rfl rfl (by omega) | exact xM rfl rfl (by omega)) (hg:jb ⟨dd,.binOp bop t x y t',ty,pos,af,g⟩ acc:=by first | trivial | rfl):cz P l fr fin k .v ⟨dd,.binOp bop t x y t',ty,pos,af,g⟩ sk acc L:=gC hg (Fs ho) h
theorem cE (h:cz P l fr fin k .v ⟨dd,.indexAddr t x y,ty,pos,af,g⟩ sk acc L):cz P l fr fin k .v ⟨dd,.indexAddr t x y,ty,pos,af,g⟩ sk acc L:=h
theorem d5 (ok:ej P tt) {e sz by_ s:Nat} {ll:List (List AV)} {ik:IntKind} {i:Int} {es:List AV} (h:DA P l fr fin sk ((k,.iptr es)::acc) L) (ht:kz tt t=some (e,sz,by_):=by rfl) (hx:br (cL l.toArray acc fr af.toList) x=some u:=by rfl) (hu:iE u=some (s,ll):=by rfl) (hs:Nat.beq s sz=true:=by rfl) (hy:br (cL l.toArray acc fr af.toList) y=some (.sc (.int ik i)):=by rfl) (h0:0≤i:=by omega) (hl:ll[i.toNat]?=some es:=by first | assumption | (simp only [Int.toNat_natCast];assumption)) (hg:jb ⟨dd,.indexAddr t x y,ty,pos,af,g⟩ acc:=by first | trivial | rfl):cz P l fr fin k .v ⟨dd,.indexAddr t x y,ty,pos,af,g⟩ sk acc L:=gC hg (Fs (xK (bC ok ht).1 hx (cO hu) hs hy h0 hl)) h
theorem du {f:FuncId} {args:Array Operand} {ts:Array TypeId} (h:cz P l fr fin k .v ⟨dd,.call ⟨.value (.func f),args,ts⟩,ty,pos,af,g⟩ sk acc L):cz P l fr fin k .v ⟨dd,.call ⟨.value (.func f),args,ts⟩,ty,pos,af,g⟩ sk acc L:=h
theorem dT {f:FuncId} {args:Array Operand} {ts:Array TypeId} {cs ds:List AV} [bF P f] (h:DA P l fr fin sk ((k,u)::acc) L) (hv:ev (cL l.toArray acc fr af.toList) args.toList=some cs:=by rfl) (hi:kR cs=some ds:=by rfl) (hc:AD P f ds u:=by infer_instance) (hg:jb ⟨dd,.call ⟨.value (.func f),args,ts⟩,ty,pos,af,g⟩ acc:=by first | trivial | rfl):cz P l fr fin k .v ⟨dd,.call ⟨.value (.func f),args,ts⟩,ty,pos,af,g⟩ sk acc L:=gC hg (fun _ _=>BD hv (by rw [ii hi];exact hc.det)) h
theorem cS (ok:ej P tt) (i:Nat) {b kk:Nat} {cs:List AV} {e:TypeId} (ht:FE tt t=true) (hx:br (cL l.toArray acc fr af.toList) x=some (.sc (.pointer (some ⟨b,kk,none⟩)))) (hL:L[i]?=some (b,.box cs e)) (hc:cs[kk]?=some u) (hg:jb ⟨dd,.load t x,ty,pos,af,g⟩ acc) (h:DA P l fr fin sk ((k,u)::acc) L):cz P l fr fin k .l ⟨dd,.load t x,ty,pos,af,g⟩ sk acc L:=C6 hg (fun _=>ta i (cu ok ht) hx hL hc) h
theorem pk (ok:ej P tt) (i:Nat) {b kk n:Nat} {cs:List AV} {e:TypeId} (ht:Ia tt t=some n) (hx:br (cL l.toArray acc fr af.toList) x=some (.sc (.pointer (some ⟨b,kk,none⟩)))) (hL:L[i]?=some (b,.box cs e)) (hc:Nat.ble (kk+n) cs.length=true) (hg:jb ⟨dd,.load t x,ty,pos,af,g⟩ acc) (h:DA P l fr fin sk ((k,.agg ((cs.drop kk).take n))::acc) L):cz P l fr fin k .l ⟨dd,.load t x,ty,pos,af,g⟩ sk acc L:=C6 hg (fun _=>uu i (dR ok ht) hx hL hc) h
theorem zU {gs:KpL} {i b kk:Nat} {v:AV} (hi:gs[i]?=some (.cell (b,kk,v))) {L:AL} (h:f8 gs L):∃(j:Nat) (cs:List AV) (e:TypeId),L[j]?=some (b,.box cs e)∧cs[kk]?=some v:=by
 obtain ⟨cs,e,h1,h2⟩:=h _ (Lv hi)
 obtain ⟨j,hj⟩:=List.mem_iff_getElem?.1 h1
 exact ⟨j,cs,e,hj,h2⟩
theorem dH (ok:ej P tt) (i:Nat) {b kk:Nat} (ht:FE tt t=true) (hx:br (cL l.toArray acc fr af.toList) x=some (.sc (.pointer (some ⟨b,kk,none⟩)))) (hi:fin.gs[i]?=some (.cell (b,kk,u))) (hK:f8 fin.gs L) (hg:jb ⟨dd,.load t x,ty,pos,af,g⟩ acc) (h:DA P l fr fin sk ((k,u)::acc) L):cz P l fr fin k .k ⟨dd,.load t x,ty,pos,af,g⟩ sk acc L:=
 Hp hK hg (fun _ L' hL'=>by
  obtain ⟨j,cs,e,h1,h2⟩:=zU hi hL'
  exact ta j (cu ok ht) hx h1 h2) h
theorem xO {d:Option Tmp} {e sz by_ n:Nat} {parts:Array (Nat×Operand)} {vs:List AV} {xs:List (List AV)} (hc:lQ P t e sz by_) (hsz:0 < sz) (hv:ev fr (parts.toList.map (·.2))=some vs) (hxs:jJ vs=some xs) (hn:Nat.beq xs.length n=true) (hi:parts.toList.map (·.1)=List.range' 0 n) (hz:xs.all (fun q=>Nat.beq q.length sz)=true) (h24:Nat.ble (n * sz) 16777216=true):
  AO P ⟨d,.buildSlice t n parts,ty,pos,af,g⟩ fr B L (fun c L'=>c= .imm sz xs∧L'=L):=by
 intro σ ρ w hρ hw
 refine (BF hc hsz hv hxs hn hi hz h24 σ ρ w hρ hw).mono fun v w' hh=>?_
 obtain ⟨τ,c,L',h1,h2,h3,b,rfl,rfl⟩:=hh
 exact ⟨τ,_,L,h1,h2.im,h3.sublist (.cons _ (List.Sublist.refl _)),rfl,rfl⟩
theorem dX (ok:ej P tt) {e sz by_ n:Nat} {parts:Array (Nat×Operand)} {vs:List AV} {xs:List (List AV)} (h:DA P l fr fin sk ((k,.imm sz xs)::acc) L) (ht:kz tt t=some (e,sz,by_):=by rfl) (hv:ev (cL l.toArray acc fr af.toList) (parts.toList.map (·.2))=some vs:=by rfl) (hxs:jJ vs=some xs:=by rfl) (hn:Nat.beq xs.length n=true:=by rfl) (hi:parts.toList.map (·.1)=List.range' 0 n:=by rfl) (hz:xs.all (fun q=>Nat.beq q.length sz)=true:=by rfl) (h24:Nat.ble (n * sz) 16777216=true:=by rfl) (hg:jb ⟨dd,.buildSlice t n parts,ty,pos,af,g⟩ acc:=by first | trivial | rfl):
  cz P l fr fin k .v ⟨dd,.buildSlice t n parts,ty,pos,af,g⟩ sk acc L:=gC hg (fun _ _=>xO (bC ok ht).1 (bC ok ht).2 hv hxs hn hi hz h24) h
theorem bS (ok:ej P tt) {r:Option Nat} {ops:Array Oper} {Q:Exit→Act→World→Prop} {nt:Nat} {D:List Deferred} {rest:List Oper} {d e sz by_ n:Nat} {parts:Array (Nat×Operand)} {vs:List AV} {xs:List (List AV)} (h:bB P r ops Q nt D rest ((d,.imm sz xs)::fr) B L) (ht:kz tt t=some (e,sz,by_):=by rfl) (hv:ev fr (parts.toList.map (·.2))=some vs:=by rfl) (hxs:jJ vs=some xs:=by rfl) (hn:Nat.beq xs.length n=true:=by rfl) (hi:parts.toList.map (·.1)=List.range' 0 n:=by rfl) (hz:xs.all (fun q=>Nat.beq q.length sz)=true:=by rfl) (h24:Nat.ble (n * sz) 16777216=true:=by rfl) (hd:Nat.ble nt d=false:=by rfl):
  bB P r ops Q nt D (⟨some d,.buildSlice t n parts,ty,pos,af,none⟩::rest) fr B L:=by
 obtain ⟨h1,h2⟩:=bC ok ht
 refine cj hd rfl (xO h1 h2 hv hxs hn hi hz h24) fun c L' hh=>?_
 obtain ⟨h1,h2⟩:=hh
 subst h1;subst h2
 exact h
theorem bD {gs:KpL} {n0:Nat} {fr0:bY} {rest:List Oper} (ks:List Nat) (hk:fE (iB l.toArray acc fr n0) ks=some fr0) (hr:l.drop n0=rest) (h:bB P r l.toArray Q nt D rest fr0 B L):DA P l fr ⟨Cb P r l n0 Q nt D fr B none,gs⟩ [] acc L:=
 ⟨.fin,rfl,by rw [←hr] at h;exact uz (dS ks hk) (fun _ _ h=>h) h⟩
theorem LP {gs:KpL} {n0:Nat} {fr0:bY} {rest:List Oper} (ks:List Nat) (zz:fE (iB l.toArray acc fr n0) ks=some fr0∧l.drop n0=rest) (h:bB P r l.toArray Q nt D rest fr0 B L):DA P l fr ⟨Cb P r l n0 Q nt D fr B none,gs⟩ [] acc L:=bD ks zz.1 zz.2 h
theorem xY {gs:KpL} {n0 kk:Nat} {ab:AB} {rest:List Oper} (ks:List Nat) (fr0:Nat→bY) (hk:∀b,fE (iB l.toArray ((kk,.sc (.pointer (some ⟨b,0,none⟩)))::acc) fr n0) ks=some (fr0 b)) (hr:l.drop n0=rest) (h:∀b,bB P r l.toArray Q nt D rest (fr0 b) B (L++[(b,ab)])):DA P l fr ⟨Cb P r l n0 Q nt D fr B (some (kk,ab)),gs⟩ [] acc L:=
 ⟨.fin,rfl,fun b=>by have:=h b;rw [←hr] at this;exact uz (dS ks (hk b)) (fun _ _ h=>h) this⟩
end
end Go.Proofs.YtamjlkdanllgjaaGreatDoor
namespace Go.Proofs.YtamjlkdanllgjaaGreatDoor
open Go.RowKit
attribute [local irreducible] AT bB AX AO Av Kt ba dt DA cz
set_option maxRecDepth 8000
structure bn where
 Glyph:Int
 Cluster:Int
 Form:Int
 Advance:Int
 X:Int
 Y:Int
def dB (x:bn):List AV:=[aH x.Glyph,aH x.Cluster,aH x.Form,aH x.Advance,aH x.X,aH x.Y]
def IW (ms:List Bool) (g:Int):Bool:=decide (0≤g) && ms.getD g.toNat false
def GD (ms:List Bool) (ig:Bool) (x:bn):Bool:= !(ig && IW ms x.Glyph)
def DD (ms:List Bool) (ig:Bool) (run:List bn) (i:Nat):Bool:=match run[i]? with
 | some x=>GD ms ig x
 | none=>false
def yc (ms:List Bool) (ig:Bool) (run:List bn) (i:Nat):List Nat:=(List.range' i (run.length - i)).filter (DD ms ig run)
def xU (ms:List Bool) (ig:Bool) (run:List bn):Nat→List Nat
 | 0=>[]
 | i+1=>if DD ms ig run i=true then i::xU ms ig run i else xU ms ig run i
def tu (run:List bn) (i:Nat):Int:=match run[i]? with
 | some x=>x.Glyph
 | none=> -1
def gR:List (List Int)→List Int→Bool
 | [],_=>true
 | _::_,[]=>false
 | s::ss,g::gs=>s.contains g && gR ss gs
def Dw (ms:List Bool) (ig:Bool) (run:List bn) (i:Nat) (r:bz):Bool:=
 !r.In.isEmpty && (gR (r.In++r.Ahead) ((yc ms ig run i).map (tu run)) && gR r.Back ((xU ms ig run i).map (tu run)))
def Hk (ms:List Bool) (ig:Bool) (run:List bn) (i:Nat) (forms:List Int):Bool:=match run[i]? with
 | some x=>GD ms ig x && (forms.isEmpty || forms.contains x.Form)
 | none=>false
def tJ (ms:List Bool) (l:b7) (run:List bn) (i:Nat) (forms:List Int):Option bz:=if Hk ms l.Ignore run i forms=true then l.Rules.find? (Dw ms l.Ignore run i) else none
def lu (ms:List Bool) (l:b7) (run:List bn) (i:Nat) (r:bz):List Nat:=(yc ms l.Ignore run i).take r.In.length
def FH (r:bz) (i:Nat) (run:List bn):List bn:=match run[i]? with
 | none=>run
 | some x=>match r.Out[(r.In.headD []).idxOf x.Glyph]? with
  | none=>run
  | some g=>if (r.In.headD []).idxOf x.Glyph < (r.In.headD []).length then run.set i { x with Glyph:=g } else run
def HJ (r:bz) (i:Nat) (run:List bn):List bn:=match run[i]? with
 | none=>run
 | some x=>if run.length - 1+r.Out.length > 500∧1 < r.Out.length then run else run.take i++(r.Out.map fun g=>{ x with Glyph:=g })++run.drop (i+1)
def Gn:List Nat→List bn→List bn
 | [],run=>run
 | p::ps,run=>(Gn ps run).eraseIdx p
def HA (run:List bn) (c:Int) (p:Nat):Int:=match run[p]? with
 | some x=>min c x.Cluster
 | none=>c
def Hz (run:List bn) (ps:List Nat) (c:Int):Int:=ps.foldl (HA run) c
def IT (r:bz) (ps:List Nat) (run:List bn):List bn:=match ps,r.Out with
 | p::q,g::_=>match run[p]? with
  | some x=>Gn q (run.set p { x with Glyph:=g,Cluster:=Hz run (p::q) x.Cluster })
  | none=>run
 | _,_=>run
def Jf (r:bz) (i:Nat) (run:List bn):List bn:=match run[i]? with
 | some x=>run.set i { x with Advance:=IntKind.i64.wrap (x.Advance+r.X) }
 | none=>run
def K5 (ms:List Bool) (ig:Bool) (run:List bn) (i:Nat) (n:Int):Option Nat:=if 0≤n then (yc ms ig run i)[n.toNat]? else none
def GF (l:b7) (r:bz) (ps:List Nat) (run:List bn):List bn:=
 if l.Kind=1∨l.Kind=5 then FH r (ps.headD 0) run
 else if l.Kind=2 then HJ r (ps.headD 0) run
 else if l.Kind=3 then IT r ps run
 else if l.Kind=6 then Jf r (ps.headD 0) run
 else run
abbrev JH:=b7→bz→List Nat→List bn→List bn
def Gi (ms:List Bool) (ls:List b7) (d:JH) (n:Int) (i:Nat) (run:List bn):List bn:=
 if n < 0 then run else match ls[n.toNat]? with
 | none=>run
 | some l=>if l.Kind < 1∨4 < l.Kind then run else match tJ ms l run i [] with
  | none=>run
  | some r=>d l r (lu ms l run i r) run
def Hl (ms:List Bool) (ls:List b7) (d:JH) (ig:Bool) (i:Nat) (run:List bn) (c:j9):List bn:=match K5 ms ig run i c.At with
 | none=>run
 | some p=>Gi ms ls d c.Lookup p run
def Ib (ms:List Bool) (ls:List b7):Nat→JH
 | 0=>fun l r ps run=>GF l r ps run
 | k+1=>fun l r ps run=>if l.Kind=4 then r.Calls.foldl (Hl ms ls (Ib ms ls k) l.Ignore (ps.headD 0)) run else GF l r ps run
def J4 (l:b7) (i last:Nat) (run run':List bn):Nat:=
 if l.Kind=4 then max (run'.length - (run.length - 1 - last)) (i+1)
 else if l.Kind=6∧i < last then last
 else run'.length - (run.length - 1 - last)
def K6 (ms:List Bool) (ls:List b7) (l:b7) (forms:List Int):Nat→Nat→List bn→List bn
 | 0,_,run=>run
 | k+1,i,run=>if i < run.length then match tJ ms l run i forms with
   | none=>K6 ms ls l forms k (i+1) run
   | some r=>K6 ms ls l forms k (J4 l i ((lu ms l run i r).getLastD i) run (Ib ms ls 4 l r (lu ms l run i r) run)) (Ib ms ls 4 l r (lu ms l run i r) run)
  else run
def Gm (ms:List Bool) (ls:List b7) (l:b7) (forms:List Int):Nat→List bn→List bn
 | 0,run=>run
 | i+1,run=>Gm ms ls l forms i (match tJ ms l run i forms with
  | none=>run
  | some r=>Ib ms ls 4 l r (lu ms l run i r) run)
def nz (ms:List Bool) (ls:List b7) (n:Int) (run:List bn) (forms:List Int):List bn:=
 if n < 0 then run else match ls[n.toNat]? with
 | none=>run
 | some l=>if l.Kind < 1∨6 < l.Kind then run else if l.Kind=5 then Gm ms ls l forms run.length run else K6 ms ls l forms run.length 0 run
set_option maxRecDepth 8000
def cn (p:Nat→Bool):Nat→Nat
 | 0=>0
 | n+1=>cn p n ||| (if p n=true then 2 ^ n else 0)
theorem co (p:Nat→Bool) (i:Nat):∀n,(cn p n).testBit i=(decide (i < n) && p i)
 | 0=>by simp [cn]
 | n+1=>by
  rw [cn,Nat.testBit_or,co p i n]
  by_cases hi:i=n
  ·subst hi
   cases hp:p i <;> simp [Nat.testBit_two_pow_self]
  ·have h1:decide (i < n+1)=decide (i < n):=decide_eq_decide.2 (by omega)
   have h2:(if p n=true then 2 ^ n else 0).testBit i=false:=by
    split
    ·rw [Nat.testBit_two_pow_of_ne (by omega)]
    ·simp
   rw [h1,h2,Bool.or_false]
theorem pX (p:Nat→Bool) (n:Nat):cn p n < 2 ^ n:=Nat.lt_pow_two_of_testBit _ fun i hi=>by
 rw [co,decide_eq_false (by omega),Bool.false_and]
theorem iu {x y:Nat} (h:∀i,x.testBit i=y.testBit i):x=y:=Nat.eq_of_testBit_eq h
theorem pY {p:Nat→Bool} {n:Nat}:cn p n=0↔∀i,i < n→p i=false:=by
 constructor
 ·intro h i hi
  have:=co p i n
  rw [h,Nat.zero_testBit,decide_eq_true hi,Bool.true_and] at this
  exact this.symm
 ·intro h
  refine iu fun i=>?_
  rw [co,Nat.zero_testBit]
  by_cases hi:i < n
  ·rw [h i hi,Bool.and_false]
  ·rw [decide_eq_false hi,Bool.false_and]
section
variable (cls:List Int) (rows:List (List (List Int))) (have_:Nat→Bool)
def fC (c:Nat) (s:List Int):Bool:=s.any fun g=>decide (0≤g) && (decide (g < cls.length) && decide (cls.getD g.toNat (-1)=(c:Int)))
def lG (m c:Nat) (n:Nat):Bool:=match rows[n]? with
 | some r=>match r[m]? with
  | some s=>fC cls c s
  | none=>false
 | none=>false
def ji (m:Nat) (n:Nat):Bool:=match rows[n]? with
 | some r=>decide (r.length=m)
 | none=>false
def ju (m c:Nat):Nat:=cn (lG cls rows m c) rows.length
def y6 (m:Nat):Nat:=cn (ji rows m) rows.length
def lZ:Nat×Nat:=(0,cn have_ rows.length)
def c9 (p:Nat×Nat) (c:Nat):Nat×Nat:=if p.2 &&& ju cls rows p.1 c=0 then (0,0) else (p.1+1,p.2 &&& ju cls rows p.1 c)
def jj (p:Nat×Nat):Nat:=if p.2=0 then 0 else p.2 &&& y6 rows p.1
structure rW (C:Nat) (tab:List (List Int)) (ends:List Nat):Prop where
 met:∃met:List (Nat×Nat),met[0]?=some (lZ rows have_)∧met.length=tab.length∧met.length=ends.length∧
  (∀(i:Nat) p,met[i]?=some p→ends[i]?=some (jj rows p))∧
  (∀(i:Nat) p q,met[i]?=some p→tab[i]?=some q→q.length=C∧∀(c:Nat) z,q[c]?=some z→((c9 cls rows p c).2=0∧z= -1)∨((c9 cls rows p c).2≠0∧0≤z∧met[z.toNat]?=some (c9 cls rows p c)))
end
def qX (cls:List Int) (tab:List (List Int)) (s:Int) (g:Int):Int:=
 if s < 0∨g < 0 then -1 else match tab[s.toNat]?,cls[g.toNat]? with
 | some fw,some c=>if c < 0 then -1 else match fw[c.toNat]? with
  | some z=>if 0≤z∧z < tab.length then z else -1
  | none=> -1
 | _,_=> -1
def s5 (ends:List Nat) (s:Int):Nat:=if s < 0 then 0 else ends.getD s.toNat 0
def vC (cls:List Int) (tab:List (List Int)) (ends:List Nat):Int→List Int→Nat→Nat
 | _,[],told=>told
 | s,g::r,told=>if qX cls tab s g= -1 then told else vC cls tab ends (qX cls tab s g) r (told ||| s5 ends (qX cls tab s g))
def Dm (cls:List Int) (tab:List (List Int)) (ends:List Nat) (gl:List Int):Nat:=vC cls tab ends 0 gl (s5 ends 0)
structure ug (n:Nat) (C:Nat) (cls:List Int) (sets:List (List Int)):Prop where
 len:cls.length=n
 dom:∀z∈cls,0≤z∧z < C
 apart:∀s∈sets,∀(i j:Nat) z,cls[i]?=some z→cls[j]?=some z→((i:Int)∈s↔(j:Int)∈s)
theorem vt {cls:List Int} {n C:Nat} {sets:List (List Int)} (h:ug n C cls sets) {s:List Int} (hs:s∈sets) (hd:∀g∈s,0≤g∧g < n) {g:Int} (h0:0≤g) {c:Nat} (hc:cls[g.toNat]?=some (c:Int)):fC cls c s=s.contains g:=by
 rw [Bool.eq_iff_iff,List.contains_iff_mem]
 unfold fC
 rw [List.any_eq_true]
 constructor
 ·rintro ⟨x,hx,hb⟩
  simp only [Bool.and_eq_true,decide_eq_true_eq] at hb
  obtain ⟨h1,h2,h3⟩:=hb
  have hxc:cls[x.toNat]?=some (c:Int):=by
   rw [Lz (by omega)]
   rw [List.getD_eq_getElem?_getD,Lz (by omega)] at h3
   exact congrArg some h3
  have:=(h.apart s hs x.toNat g.toNat c hxc hc).1 (by rw [Int.toNat_of_nonneg h1];exact hx)
  rwa [Int.toNat_of_nonneg h0] at this
 ·intro hg
  refine ⟨g,hg,?_⟩
  have hl:=h.len
  have:=hd g hg
  simp only [Bool.and_eq_true,decide_eq_true_eq]
  refine ⟨h0,by omega,?_⟩
  rw [List.getD_eq_getElem?_getD,hc]
  rfl
def mQ (rows:List (List (List Int))) (have_:Nat→Bool) (gl:List Int) (n:Nat):Bool:=match rows[n]? with
 | some r=>have_ n && (decide (gl.length≤r.length) && gR (r.take gl.length) gl)
 | none=>false
theorem nH:∀{ss:List (List Int)} {gl:List Int} {s:List Int} {g:Int},ss.length=gl.length→gR (ss++[s]) (gl++[g])=(gR ss gl && s.contains g)
 | [],[],s,g,_=>by simp [gR]
 | [],_::_,_,_,h=>by simp at h
 | _::_,[],_,_,h=>by simp at h
 | s'::ss,g'::gl,s,g,h=>by
  rw [Lp,Lp,gR,nH (by simpa using h),gR,Bool.and_assoc]
theorem jR:∀{a:List (List Int)} {b:List Int},b.length < a.length→gR a b=false
 | [],_,h=>by simp at h
 | _::_,[],_=>rfl
 | _::a,_::b,h=>by rw [gR,jR (by simpa using h),Bool.and_false]
theorem lh:∀{ss:List (List Int)} {gl x:List Int},ss.length≤gl.length→gR ss (gl++x)=gR ss gl
 | [],_,_,_=>rfl
 | _::_,[],_,h=>by simp at h
 | s::ss,g::gl,x,h=>by rw [Lp,gR,gR,lh (by simpa using h)]
section
variable {cls:List Int} {rows:List (List (List Int))} {have_:Nat→Bool} {N C:Nat} {sets:List (List Int)}
theorem CN (h:ug N C cls sets) (hs:∀r∈rows,∀s∈r,s∈sets∧∀g∈s,0≤g∧g < N) {gl:List Int} {g:Int} {c:Nat} (h0:0≤g) (hc:cls[g.toNat]?=some (c:Int)):
  cn (mQ rows have_ gl) rows.length &&& ju cls rows gl.length c=cn (mQ rows have_ (gl++[g])) rows.length:=by
 refine iu fun n=>?_
 rw [Nat.testBit_and,co,ju,co,co]
 by_cases hn:n < rows.length
 ·simp only [decide_eq_true hn,Bool.true_and]
  unfold mQ lG
  rw [Lz hn]
  dsimp only
  have hm:=List.getElem_mem hn
  generalize rows[n]=r at hm
  rw [List.length_append,List.length_singleton]
  by_cases hl:gl.length < r.length
  ·have hs':=hs r hm r[gl.length] (List.getElem_mem hl)
   rw [Lz hl,decide_eq_true (by omega:gl.length≤r.length),decide_eq_true (by omega:gl.length+1≤r.length),List.take_add_one,Lz hl]
   dsimp only [Option.toList]
   rw [nH (by rw [List.length_take];omega),vt h hs'.1 hs'.2 h0 hc]
   cases have_ n <;> simp
  ·rw [List.getElem?_eq_none (by omega),decide_eq_false (by omega:¬gl.length+1≤r.length)]
   simp
 ·simp [decide_eq_false hn]
def gB (rows:List (List (List Int))) (have_:Nat→Bool) (gl:List Int) (n:Nat):Bool:=match rows[n]? with
 | some r=>have_ n && gR r gl
 | none=>false
theorem oS {tab:List (List Int)} {ends:List Nat} (h:ug N C cls sets) (hs:∀r∈rows,∀s∈r,s∈sets∧∀g∈s,0≤g∧g < N) (ht:rW cls rows have_ C tab ends) (hC:∀z∈cls,z.toNat < C):
  ∀(gl:List Int),Dm cls tab ends gl=cn (gB rows have_ gl) rows.length:=by
 obtain ⟨met,h0,hl,hle,he,hn⟩:=ht.met
 have hmt:=hl
 have key:∀(r gl:List Int) (s:Nat) (told:Nat) (p:Nat×Nat),met[s]?=some p→p.1=gl.length→p.2=cn (mQ rows have_ gl) rows.length→told=cn (gB rows have_ gl) rows.length→
   (gl=[]∨p.2≠0)→vC cls tab ends s r told=cn (gB rows have_ (gl++r)) rows.length:=by
  intro r
  induction r with
  | nil=>intro gl s told p _ _ _ ht _;rw [vC,List.append_nil];exact ht
  | cons g r ih=>
   intro gl s told p hp hp1 hp2 htold hne
   have hsl:s < met.length:=(Lm hp).1
   obtain ⟨q,hq⟩:∃q,tab[s]?=some q:=⟨_,Lz (by omega)⟩
   obtain ⟨hqC,hqn⟩:=hn s p q hp hq
   have stop:(∀n,mQ rows have_ (gl++[g]) n=false)→cn (gB rows have_ gl) rows.length=cn (gB rows have_ (gl++g::r)) rows.length:=by
    intro hz
    refine iu fun n=>?_
    rw [co,co]
    congr 1
    have hzn:=hz n
    unfold mQ at hzn
    unfold gB
    cases hr:rows[n]? with
    | none=>rfl
    | some fw=>
     rw [hr] at hzn
     dsimp only at hzn ⊢
     by_cases hh:have_ n=true
     ·rw [hh,Bool.true_and] at hzn ⊢
      rw [Bool.true_and]
      by_cases hrl:fw.length≤gl.length
      ·rw [lh hrl]
      ·rw [List.length_append,List.length_singleton,decide_eq_true (by omega),Bool.true_and,List.take_add_one,Lz (by omega)] at hzn
       dsimp only [Option.toList] at hzn
       have e1:gR fw gl=false:=by
        rw [Bool.eq_false_iff]
        intro hf
        rw [jR (by omega)] at hf
        cases hf
       have e2:gR fw (gl++g::r)=false:=by
        have e3:fw=(fw.take gl.length++[fw[gl.length]])++fw.drop (gl.length+1):=by
         rw [List.append_assoc,List.singleton_append,List.getElem_cons_drop,List.take_append_drop]
        have e4:∀{a b:List (List Int)} {x:List Int},gR (a++b) x=true→gR a x=true:=by
         intro a
         induction a with
         | nil=>intro b x _;rfl
         | cons y a iha=>
          intro b x hx
          cases x with
          | nil=>cases hx
          | cons w x=>
           rw [Lp,gR,Bool.and_eq_true] at hx
           rw [gR,Bool.and_eq_true]
           exact ⟨hx.1,iha hx.2⟩
        rw [Bool.eq_false_iff]
        intro hf
        rw [e3] at hf
        have:=e4 hf
        rw [show gl++g::r=(gl++[g])++r by simp,lh (by simp;omega)] at this
        rw [this] at hzn
        cases hzn
       rw [e1,e2]
     ·simp [hh]
   rw [vC]
   by_cases hg:0≤g∧g.toNat < cls.length
   ·obtain ⟨hg0,hgl⟩:=hg
    obtain ⟨z,hz⟩:∃z,cls[g.toNat]?=some z:=⟨_,Lz hgl⟩
    have hzm:=Lv hz
    have hzd:=h.dom z hzm
    obtain ⟨c,rfl⟩:=Int.eq_ofNat_of_zero_le hzd.1
    have hcC:c < C:=by omega
    obtain ⟨t,htc⟩:∃t,q[c]?=some t:=⟨_,Lz (by omega)⟩
    have hstep:=CN (have_:=have_) (gl:=gl) h hs hg0 hz
    have hnx:qX cls tab s g=if 0≤t∧t < tab.length then t else -1:=by
     unfold qX
     rw [if_neg (by omega),Int.toNat_natCast,hq,hz]
     dsimp only
     rw [if_neg (by omega),Int.toNat_natCast,htc]
    have hbe:c9 cls rows p c=if cn (mQ rows have_ (gl++[g])) rows.length=0 then (0,0) else (gl.length+1,cn (mQ rows have_ (gl++[g])) rows.length):=by
     unfold c9
     rw [hp1,hp2,hstep]
    rcases hqn c t htc with ⟨h1,h2⟩ | ⟨h1,h2,h3⟩
    ·subst h2
     have hno:¬((0:Int)≤-1∧(-1:Int) < tab.length):=fun e=>absurd e.1 (by decide)
     rw [hnx,if_neg hno,if_pos rfl,htold]
     refine stop fun n=>?_
     rw [hbe] at h1
     have hzero:cn (mQ rows have_ (gl++[g])) rows.length=0:=by
      split at h1
      ·assumption
      ·exact h1
     by_cases hnl:n < rows.length
     ·exact pY.1 hzero n hnl
     ·unfold mQ;rw [List.getElem?_eq_none (by omega)]
    ·have htl:t.toNat < tab.length:=by
      have:=(Lm h3).1
      omega
     have htz:¬t= -1:=by omega
     have hin:(0:Int)≤t∧t < tab.length:=⟨h2,by omega⟩
     rw [if_pos hin] at hnx
     rw [hnx,if_neg htz]
     rw [hbe] at h1 h3
     have hnz:¬cn (mQ rows have_ (gl++[g])) rows.length=0:=by
      intro e
      rw [if_pos e] at h1
      exact h1 rfl
     rw [if_neg hnz] at h3
     have:=ih (gl++[g]) t.toNat (told ||| s5 ends t) _ h3 (by simp) rfl ?_ (.inr hnz)
     ·rw [Int.toNat_of_nonneg h2] at this
      rw [this]
      simp
     ·
      have hen:=he _ _ h3
      unfold s5
      rw [if_neg (by omega),List.getD_eq_getElem?_getD,hen,htold]
      dsimp only [Option.getD]
      unfold jj
      rw [if_neg hnz]
      refine iu fun n=>?_
      rw [Nat.testBit_or,Nat.testBit_and,y6,co,co,co,co]
      by_cases hnl:n < rows.length
      ·simp only [decide_eq_true hnl,Bool.true_and]
       unfold gB mQ ji
       rw [Lz hnl]
       dsimp only
       generalize rows[n]=fw
       cases have_ n
       ·simp
       ·simp only [Bool.true_and,List.length_append,List.length_singleton]
        by_cases hrl:fw.length≤gl.length
        ·rw [lh hrl,decide_eq_false (by omega:¬fw.length=gl.length+1),Bool.and_false,Bool.or_false]
        ·have e1:gR fw gl=false:=jR (by omega)
         rw [e1,Bool.false_or]
         by_cases hre:fw.length=gl.length+1
         ·rw [decide_eq_true hre,Bool.and_true,decide_eq_true (by omega),Bool.true_and,List.take_of_length_le (by omega)]
         ·rw [decide_eq_false hre,Bool.and_false]
          exact (jR (by simp;omega)).symm
      ·simp [decide_eq_false hnl]
   ·have hnx:qX cls tab s g= -1:=by
     unfold qX
     by_cases hg0:g < 0
     ·rw [if_pos (.inr hg0)]
     ·rw [if_neg (by omega),Int.toNat_natCast,hq,List.getElem?_eq_none (by omega)]
    rw [hnx,if_pos rfl,htold]
    refine stop fun n=>?_
    unfold mQ
    cases hr:rows[n]? with
    | none=>rfl
    | some fw=>
     dsimp only
     by_cases hrl:gl.length+1≤fw.length
     ·have hs':=hs fw (Lv hr) fw[gl.length] (List.getElem_mem (by omega))
      have hng:fw[gl.length].contains g=false:=by
       rw [Bool.eq_false_iff]
       intro hm
       rw [List.contains_iff_mem] at hm
       have:=hs'.2 g hm
       have hl:=h.len
       omega
      rw [List.length_append,List.length_singleton,List.take_add_one,Lz (by omega)]
      dsimp only [Option.toList]
      rw [nH (by rw [List.length_take];omega),hng]
      simp
     ·rw [List.length_append,List.length_singleton,decide_eq_false hrl]
      simp
 intro gl
 have h00:=key gl [] 0 (s5 ends 0) _ h0 rfl ?_ ?_ (.inl rfl)
 ·rw [Lo] at h00
  exact h00
 ·refine iu fun n=>?_
  unfold lZ
  rw [co,co]
  by_cases hnl:n < rows.length
  ·simp only [decide_eq_true hnl,Bool.true_and]
   unfold mQ
   rw [Lz hnl]
   simp [gR]
  ·simp [decide_eq_false hnl]
 ·have hen:=he _ _ h0
  unfold s5
  rw [if_neg (by omega),List.getD_eq_getElem?_getD]
  rw [show (0:Int).toNat=0 from rfl,hen]
  dsimp only [Option.getD]
  refine iu fun n=>?_
  have hb:(jj rows (lZ rows have_))=cn have_ rows.length &&& y6 rows 0:=by
   unfold jj lZ
   dsimp only
   split
   ·rename_i e
    rw [e,Nat.zero_and]
   ·rfl
  rw [hb,Nat.testBit_and,y6,co,co,co]
  by_cases hnl:n < rows.length
  ·simp only [decide_eq_true hnl,Bool.true_and]
   unfold gB ji
   rw [Lz hnl]
   dsimp only
   generalize rows[n]=fw
   cases fw with
   | nil=>simp [gR]
   | cons s fw=>simp [gR]
  ·simp [decide_eq_false hnl]
end
end Go.Proofs.YtamjlkdanllgjaaGreatDoor
namespace Go.Proofs.YtamjlkdanllgjaaGreatDoor
open Go.RowKit
attribute [local irreducible] AT bB AX AO Av Kt ba dt DA cz
set_option maxRecDepth 8000
def f7 (r:bz):List (List Int):=if r.In.isEmpty then [] else r.In++r.Ahead
def Ci (rs:List bz) (n:Nat):Bool:=match rs[n]? with
 | some r=> !r.In.isEmpty
 | none=>false
def lE (rs:List bz):Nat:=rs.foldl (fun m r=>max m (r.In.length+r.Ahead.length)) 0
def lC (rs:List bz):Nat:=rs.foldl (fun m r=>max m r.Back.length) 0
end Go.Proofs.YtamjlkdanllgjaaGreatDoor
namespace Go.Proofs.YtamjlkdanllgjaaGreatDoor
open Go.RowKit Go.MapKept
def jd (d:TypeDesc) (m:Value→Option AV) (σ:cf) (o:Obj):Prop:=
 ∃es clock,o= .map es clock∧(∀x∈es.toList,IsKey d x.key∧∃c,m x.key=some c∧VR σ c x.val)∧es.toList.Pairwise (fun x y=>x.key≠y.key)∧∀k c,m k=some c→∃x∈es.toList,x.key=k
def ca (d:TypeDesc) (m:Value→Option AV):AB:= .dep (jd d m) fun σ τ o hle ⟨es,clock,h1,h2,h3,h4⟩=>⟨es,clock,h1,fun x hx=>by
 obtain ⟨a,c,e,f⟩:=h2 x hx
 exact ⟨a,c,e,f.mono hle⟩,h3,h4⟩
theorem jd.none {d:TypeDesc} {m:Value→Option AV} {σ:cf} {es:Array MapEntry} {clock:Nat} {k:Value} (h:jd d m σ (.map es clock)) (hk:IsKey d k) (hm:m k=none):Instr.findNow d k es.toList 0=some none:=by
 obtain ⟨es',clock',h1,h2,h3,h4⟩:=h
 cases h1
 rcases findNow_spec hk es.toList 0 (fun x hx=>(h2 x hx).1) with ⟨h5,_⟩ | ⟨j,e,h5,h6,h7⟩
 ·exact h5
 ·obtain ⟨_,c,h8,_⟩:=h2 e (Lv h6)
  rw [h7,hm] at h8
  cases h8
theorem jd.some {d:TypeDesc} {m:Value→Option AV} {σ:cf} {es:Array MapEntry} {clock:Nat} {k:Value} {c:AV} (h:jd d m σ (.map es clock)) (hk:IsKey d k) (hm:m k=some c):∃(j:Nat) (e:MapEntry),Instr.findNow d k es.toList 0=some (some (j,e.val))∧es[j]?=some e∧e.key=k∧VR σ c e.val:=by
 obtain ⟨es',clock',h1,h2,h3,h4⟩:=h
 cases h1
 rcases findNow_spec hk es.toList 0 (fun x hx=>(h2 x hx).1) with ⟨_,h5⟩ | ⟨j,e,h5,h6,h7⟩
 ·obtain ⟨x,hx,hk'⟩:=h4 k c hm
  exact absurd hk' (h5 x hx)
 ·obtain ⟨_,c',h8,h9⟩:=h2 e (Lv h6)
  rw [h7,hm] at h8
  cases h8
  exact ⟨j,e,by simpa using h5,by simpa using h6,h7,h9⟩
section
variable {P:Program} {fr:bY} {B:Bs} {L:AL} {d:Option Tmp} {ty t:TypeId} {pos:String} {af:Array Edge} {g:Option (Nat×Bool)} {x y z:Operand} {u:AV}
theorem wj (kd:TypeDesc):AO P ⟨d,.makeMap t none,ty,pos,af,g⟩ fr B L (fun c L'=>∃b,c= .sc (.map (some b))∧L'=(b,ca kd fun _=>none)::L):=by
 intro σ ρ w hρ hw
 have hr:(execOp ρ ⟨d,.makeMap t none,ty,pos,af,g⟩).run P w= .ok (.value (.map (some w.heap.size))) (w.alloc (.map #[] 0)):=by
  simp [execOp,Instr.makeMap]
 unfold gX
 rw [hr]
 exact ⟨σ,_,_,cf.le_refl _,.sc _,hw.alloc _ (ca kd fun _=>Option.none) ⟨#[],0,rfl,by simp,by simp,by simp⟩,_,rfl,rfl⟩
theorem tc (i:Nat) {b kt et:Nat} {kd:TypeDesc} {k:Value} {m m':Value→Option AV} (ht:P.underlying t=some (.map kt et)) (hkt:P.underlying kt=some kd) (hx:br fr x=some (.sc (.map (some b)))) (hy:br fr y=some (.sc k)) (hk:IsKey kd k) (hz:br fr z=some u) (hL:L[i]?=some (b,ca kd m)) (h1:m' k=some u) (h2:∀q,q≠k→m' q=m q):
  AO P ⟨d,.mapUpdate t x y z,ty,pos,af,g⟩ fr B L (fun _ L'=>L'=fJ L i (ca kd m')):=by
 intro σ ρ w hρ hw
 obtain ⟨o,ho,hM⟩:=hw.here _ (Lv hL)
 have hM':jd kd m σ o:=hM
 obtain ⟨es,clock,rfl,h3,h4,h5⟩:=hM'
 have hM':jd kd m σ (.map es clock):=hM
 have hv:=hρ z u hz
 have hlt:b < w.heap.size:=(Array.getElem?_eq_some_iff.1 ho).1
 have key:∃es' clock',(Instr.mapUpdate t (.map (some b)) k (ρ z)).run P w= .ok () (w.putObj b (.map es' clock'))∧jd kd m' σ (.map es' clock'):=by
  cases hm:m k with
  | none=>
   refine ⟨es.push ⟨k,ρ z,clock⟩,clock+1,?_,_,_,rfl,?_,?_,?_⟩
   ·simp [Instr.mapUpdate,run_underlying ht,MapKept.run_getObj_map ho,run_checkKey hkt hk,run_findKey hkt (hM'.none hk hm),MapKept.run_setObj_map _ ho,Result.andThen,World.putObj]
   ·intro e he
    rw [Array.toList_push,List.mem_append,List.mem_singleton] at he
    rcases he with he | rfl
    ·obtain ⟨h6,c,h7,h8⟩:=h3 e he
     exact ⟨h6,c,by rw [h2 _ (fun e1=>by rw [e1,hm] at h7;cases h7)];exact h7,h8⟩
    ·exact ⟨hk,u,h1,hv⟩
   ·rw [Array.toList_push,List.pairwise_append]
    refine ⟨h4,by simp,fun e he e' he'=>?_⟩
    rw [List.mem_singleton] at he'
    subst he'
    obtain ⟨_,c,h7,_⟩:=h3 e he
    exact fun e1=>by rw [e1,hm] at h7;cases h7
   ·intro q c hq
    by_cases e:q=k
    ·subst e
     exact ⟨_,by rw [Array.toList_push];exact List.mem_append.2 (Or.inr (List.mem_singleton.2 rfl)),rfl⟩
    ·rw [h2 q e] at hq
     obtain ⟨y,hy,hy'⟩:=h5 q c hq
     exact ⟨y,by rw [Array.toList_push];exact List.mem_append.2 (Or.inl hy),hy'⟩
  | some c=>
   obtain ⟨j,e,h6,h7,h8,h9⟩:=hM'.some hk hm
   have hdis:∀n e',es[n]?=some e'→¬j=n→e'.key≠k:=by
    intro n e' hn hne
    rw [←Array.getElem?_toList] at hn h7
    rw [←h8]
    rw [List.pairwise_iff_getElem] at h4
    obtain ⟨hj1,hj2⟩:=Lm h7
    obtain ⟨hn1,hn2⟩:=Lm hn
    rcases Nat.lt_or_gt_of_ne hne with hlt | hgt
    ·have:=h4 j n hj1 hn1 hlt
     rw [hj2,hn2] at this
     exact this.symm
    ·have:=h4 n j hn1 hj1 hgt
     rw [hj2,hn2] at this
     exact this
   refine ⟨es.modify j (fun e'=>{ e' with key:=k,val:=ρ z }),clock,?_,_,_,rfl,?_,?_,?_⟩
   ·simp [Instr.mapUpdate,run_underlying ht,MapKept.run_getObj_map ho,run_checkKey hkt hk,run_findKey hkt h6,h7,h8,run_keyThatStays hk,MapKept.run_setObj_map _ ho,Result.andThen,World.putObj]
   ·intro e' he'
    obtain ⟨n,hn⟩:=List.mem_iff_getElem?.1 he'
    rw [Array.getElem?_toList,Array.getElem?_modify] at hn
    by_cases e1:j=n
    ·subst e1
     rw [if_pos rfl,h7] at hn
     simp at hn
     subst hn
     exact ⟨hk,u,h1,hv⟩
    ·rw [if_neg e1] at hn
     obtain ⟨h10,c',h11,h12⟩:=h3 e' (Lv (by rw [Array.getElem?_toList];exact hn))
     exact ⟨h10,c',by rw [h2 _ (hdis n e' hn e1)];exact h11,h12⟩
   ·have hkeys:(es.modify j (fun e'=>{ e' with key:=k,val:=ρ z })).toList.map MapEntry.key=es.toList.map MapEntry.key:=by
     apply List.ext_getElem?
     intro n
     rw [List.getElem?_map,List.getElem?_map,Array.getElem?_toList,Array.getElem?_toList,Array.getElem?_modify]
     by_cases e1:j=n
     ·subst e1
      rw [if_pos rfl,h7]
      simp [h8]
     ·rw [if_neg e1]
    refine (List.pairwise_map (f:=MapEntry.key) (R:=fun a b:Value=>a≠b)).1 ?_
    rw [hkeys]
    exact List.pairwise_map.2 h4
   ·intro q c hq
    by_cases e1:q=k
    ·subst e1
     refine ⟨{ e with key:=q,val:=ρ z },List.mem_iff_getElem?.2 ⟨j,?_⟩,rfl⟩
     rw [Array.getElem?_toList,Array.getElem?_modify,if_pos rfl,h7]
     rfl
    ·rw [h2 q e1] at hq
     obtain ⟨y,hy,hy'⟩:=h5 q c hq
     obtain ⟨n,hn⟩:=List.mem_iff_getElem?.1 hy
     rw [Array.getElem?_toList] at hn
     refine ⟨y,List.mem_iff_getElem?.2 ⟨n,?_⟩,hy'⟩
     rw [Array.getElem?_toList,Array.getElem?_modify,if_neg,hn]
     intro e2
     subst e2
     rw [h7] at hn
     injection hn with hn
     subst hn
     exact e1 (hy'.symm.trans h8)
 obtain ⟨es',clock',hr,hq⟩:=key
 unfold gX
 rw [show (execOp ρ ⟨d,.mapUpdate t x y z,ty,pos,af,g⟩).run P w= .ok .skip (w.putObj b (.map es' clock')) by simp only [execOp,(hρ x _ hx).sc_inv,(hρ y _ hy).sc_inv,Sem.run_bind,Sem.run_pure,Result.andThen,hr]]
 exact ⟨σ,.sc undef,_,cf.le_refl _,.sc _,hw.putAt (a':=ca kd m') hL (fun _=>trivial) (kQ w b _) (World.putObj_heap_same hlt) hq,rfl⟩
theorem re {w:World} {b kt et:Nat} {kd:TypeDesc} {k v0:Value} {m:Value→Option AV} {es:Array MapEntry} {clock:Nat} {σ:cf} (ht:P.underlying t=some (.map kt et)) (hkt:P.underlying kt=some kd) (hk:IsKey kd k) (ho:w.heap[b]?=some (.map es clock)) (hM:jd kd m σ (.map es clock)) (hz:(zeroValue et).run P w= .ok v0 w) (ok:Bool):
  ∃v,(Instr.lookup t (.map (some b)) k ok).run P w= .ok (bif ok then .tuple #[v,.bool (m k).isSome] else v) w∧match m k with | some c=>VR σ c v | none=>v=v0:=by
 cases hm:m k with
 | none=>
  refine ⟨v0,?_,rfl⟩
  cases ok <;> simp [Instr.lookup,run_underlying ht,MapKept.run_getObj_map ho,run_checkKey hkt hk,run_findKey hkt (hM.none hk hm),Result.andThen,hz]
 | some c=>
  obtain ⟨j,e,h6,h7,h8,h9⟩:=hM.some hk hm
  refine ⟨e.val,?_,h9⟩
  cases ok <;> simp [Instr.lookup,run_underlying ht,MapKept.run_getObj_map ho,run_checkKey hkt hk,run_findKey hkt h6,Result.andThen]
theorem jh (i:Nat) {b kt et:Nat} {kd:TypeDesc} {k v0:Value} {m:Value→Option AV} {c0:AV} (ht:P.underlying t=some (.map kt et)) (hkt:P.underlying kt=some kd) (hx:br fr x=some (.sc (.map (some b)))) (hy:br fr y=some (.sc k)) (hk:IsKey kd k) (hL:L[i]?=some (b,ca kd m)) (hz:∀w,(zeroValue et).run P w= .ok v0 w) (h0:∀σ,VR σ c0 v0):
  AO P ⟨d,.lookup t x y false,ty,pos,af,g⟩ fr B L (fun c L'=>c=(m k).getD c0∧L'=L):=by
 intro σ ρ w hρ hw
 obtain ⟨o,ho,hM⟩:=hw.here _ (Lv hL)
 have hM':jd kd m σ o:=hM
 obtain ⟨es,clock,rfl,_⟩:=hM'
 obtain ⟨v,hr,hv⟩:=re (t:=t) ht hkt hk ho hM (hz w) false
 unfold gX
 rw [show (execOp ρ ⟨d,.lookup t x y false,ty,pos,af,g⟩).run P w= .ok (.value v) w by simp only [execOp,(hρ x _ hx).sc_inv,(hρ y _ hy).sc_inv,Sem.run_bind,Sem.run_pure,Result.andThen,hr];rfl]
 refine ⟨σ,(m k).getD c0,_,cf.le_refl _,?_,hw,rfl,rfl⟩
 cases hm:m k with
 | none=>rw [hm] at hv;dsimp only at hv;subst hv;exact h0 σ
 | some c=>rw [hm] at hv;exact hv
theorem pO (i:Nat) {b kt et:Nat} {kd:TypeDesc} {k v0:Value} {m:Value→Option AV} {c0:AV} (ht:P.underlying t=some (.map kt et)) (hkt:P.underlying kt=some kd) (hx:br fr x=some (.sc (.map (some b)))) (hy:br fr y=some (.sc k)) (hk:IsKey kd k) (hL:L[i]?=some (b,ca kd m)) (hz:∀w,(zeroValue et).run P w= .ok v0 w) (h0:∀σ,VR σ c0 v0):
  AO P ⟨d,.lookup t x y true,ty,pos,af,g⟩ fr B L (fun c L'=>c= .tup [(m k).getD c0,.sc (.bool (m k).isSome)]∧L'=L):=by
 intro σ ρ w hρ hw
 obtain ⟨o,ho,hM⟩:=hw.here _ (Lv hL)
 have hM':jd kd m σ o:=hM
 obtain ⟨es,clock,rfl,_⟩:=hM'
 obtain ⟨v,hr,hv⟩:=re (t:=t) ht hkt hk ho hM (hz w) true
 unfold gX
 rw [show (execOp ρ ⟨d,.lookup t x y true,ty,pos,af,g⟩).run P w= .ok (.value (.tuple #[v,.bool (m k).isSome])) w by simp only [execOp,(hρ x _ hx).sc_inv,(hρ y _ hy).sc_inv,Sem.run_bind,Sem.run_pure,Result.andThen,hr];rfl]
 refine ⟨σ,.tup [(m k).getD c0,.sc (.bool (m k).isSome)],_,cf.le_refl _,?_,hw,rfl,rfl⟩
 have h1:VR σ ((m k).getD c0) v:=by
  cases hm:m k with
  | none=>rw [hm] at hv;dsimp only at hv;subst hv;exact h0 σ
  | some c=>rw [hm] at hv;exact hv
 have h2:cT σ [(m k).getD c0,.sc (.bool (m k).isSome)] [v,.bool (m k).isSome]:= .cons h1 (.cons (.sc _) .nil)
 exact .tup _ _ h2.1 h2.2
def l9 (P:Program) (e:Nat) (v:Value):Bool:=match P.info? e with | some i=>(match i.zero with | some z=>yS z v | none=>false) | none=>false
theorem g7 {e:Nat} {v:Value} (h:l9 P e v=true) (w:World):(zeroValue e).run P w= .ok v w:=by
 unfold l9 at h
 split at h
 ·rename_i i hi
  split at h
  ·rename_i z hz
   rw [←rB h]
   simp [zeroValue,typeInfo,hi,hz]
  ·cases h
 ·cases h
end
section
variable {P:Program} {r:Option Nat} {ops:Array Oper} {Q:Exit→Act→World→Prop} {nt:Nat} {D:List Deferred} {fr:bY} {B:Bs} {L:AL} {rest:List Oper} {d:Nat} {ty t:TypeId} {pos:String} {af:Array Edge} {x y z:Operand} {u:AV}
theorem ec (kd:TypeDesc) (h:∀b,bB P r ops Q nt D rest ((d,.sc (.map (some b)))::fr) B ((b,ca kd fun _=>none)::L)) (hd:Nat.ble nt d=false:=by rfl):bB P r ops Q nt D (⟨some d,.makeMap t none,ty,pos,af,none⟩::rest) fr B L:=
 cj hd rfl (wj kd) fun c L' ⟨b,h1,h2⟩=>by subst h1;subst h2;exact h b
theorem dp (i:Nat) (m':Value→Option AV) {b kt et:Nat} {kd:TypeDesc} {k:Value} {m:Value→Option AV} (ht:P.underlying t=some (.map kt et)) (hkt:P.underlying kt=some kd) (hx:br fr x=some (.sc (.map (some b)))) (hy:br fr y=some (.sc k)) (hk:IsKey kd k) (hz:br fr z=some u) (hL:L[i]?=some (b,ca kd m)) (h1:m' k=some u) (h2:∀q,q≠k→m' q=m q)
  (h:bB P r ops Q nt D rest fr B (fJ L i (ca kd m'))):bB P r ops Q nt D (⟨none,.mapUpdate t x y z,ty,pos,af,none⟩::rest) fr B L:=
 mt rfl (tc i ht hkt hx hy hk hz hL h1 h2) fun c L' h3=>by subst h3;exact h
theorem kT (i:Nat) (v0:Value) {b kt et:Nat} {kd:TypeDesc} {k:Value} {m:Value→Option AV} (ht:P.underlying t=some (.map kt et)) (hkt:P.underlying kt=some kd) (hx:br fr x=some (.sc (.map (some b)))) (hy:br fr y=some (.sc k)) (hk:IsKey kd k) (hL:L[i]?=some (b,ca kd m)) (hz:l9 P et v0=true) (hd:Nat.ble nt d=false)
  (h:bB P r ops Q nt D rest ((d,(m k).getD (.sc v0))::fr) B L):bB P r ops Q nt D (⟨some d,.lookup t x y false,ty,pos,af,none⟩::rest) fr B L:=
 cj hd rfl (jh i ht hkt hx hy hk hL (g7 hz) fun _=> .sc _) fun c L' ⟨h1,h2⟩=>by subst h1;subst h2;exact h
theorem gH (i:Nat) (v0:Value) {b kt et:Nat} {kd:TypeDesc} {k:Value} {m:Value→Option AV} (ht:P.underlying t=some (.map kt et)) (hkt:P.underlying kt=some kd) (hx:br fr x=some (.sc (.map (some b)))) (hy:br fr y=some (.sc k)) (hk:IsKey kd k) (hL:L[i]?=some (b,ca kd m)) (hz:l9 P et v0=true) (hd:Nat.ble nt d=false)
  (h:bB P r ops Q nt D rest ((d,.tup [(m k).getD (.sc v0),.sc (.bool (m k).isSome)])::fr) B L):bB P r ops Q nt D (⟨some d,.lookup t x y true,ty,pos,af,none⟩::rest) fr B L:=
 cj hd rfl (pO i ht hkt hx hy hk hL (g7 hz) fun _=> .sc _) fun c L' ⟨h1,h2⟩=>by subst h1;subst h2;exact h
end
end Go.Proofs.YtamjlkdanllgjaaGreatDoor
