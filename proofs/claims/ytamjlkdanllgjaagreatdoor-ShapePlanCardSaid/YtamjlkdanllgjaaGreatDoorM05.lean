/-
  Fonts as data, and as abstract values.
-/
import Derived.Test.YtamjlkdanllgjaaGreatDoorM04
import Derived.MapKept
namespace Go.Proofs.YtamjlkdanllgjaaGreatDoor
open Go.RowKit
abbrev aG (z:Int):AV:= .sc (.int .i64 z)
abbrev oh (s:ByteArray):AV:= .sc (.string s)
abbrev cU (b:Bool):AV:= .sc (.bool b)
structure eM where
 X:Int
 Y:Int
 On:Bool
structure dW where
 Glyph:Int
 X:Int
 Y:Int
structure dN where
 Kind:Int
 Class:Int
 X:Int
 Y:Int
structure dT where
 Region:Int
 Point:Int
 X:Int
 Y:Int
structure eW where
 Op:Int
 A:Int
structure bn where
 Name:ByteArray
 Advance:Int
 Mark:Bool
 Points:List eM
 Ends:List Int
 Parts:List dW
 Anchors:List dN
 Deltas:List dT
 Hint:List eW
structure dt where
 Rune:Int
 Glyph:Int
structure jt where
 At:Int
 Lookup:Int
structure bJ where
 Back:List (List Int)
 In:List (List Int)
 Ahead:List (List Int)
 Out:List Int
 Calls:List jt
 X:Int
structure bf where
 Kind:Int
 Ignore:Bool
 Rules:List bJ
structure bz where
 Name:ByteArray
 Lookups:List Int
structure eI where
 Name:ByteArray
 Min:Int
 Def:Int
 Max:Int
structure f9 where
 Start:Int
 Peak:Int
 End:Int
structure aY where
 Unit:Int
 Glyphs:List bn
 Chars:List dt
 Lookups:List bf
 Features:List bz
 Axes:List eI
 Regions:List (List f9)
 Funcs:List (List eW)
 Cvt:List Int
def aZ (l:List (List Int)):List (List AV):=l.map fun q=>[.imm 1 (aL q)]
def fK (l:List ByteArray):List (List AV):=l.map fun s=>[oh s]
def dH (p:eM):List AV:=[aG p.X,aG p.Y,cU p.On]
def eG (p:dW):List AV:=[aG p.Glyph,aG p.X,aG p.Y]
def df (p:dN):List AV:=[aG p.Kind,aG p.Class,aG p.X,aG p.Y]
def ei (p:dT):List AV:=[aG p.Region,aG p.Point,aG p.X,aG p.Y]
def dX (p:eW):List AV:=[aG p.Op,aG p.A]
def bG (g:bn):List AV:=[oh g.Name,aG g.Advance,cU g.Mark,.imm 3 (g.Points.map dH),.imm 1 (aL g.Ends),.imm 3 (g.Parts.map eG),.imm 4 (g.Anchors.map df),.imm 4 (g.Deltas.map ei),.imm 2 (g.Hint.map dX)]
def dv (c:dt):List AV:=[aG c.Rune,aG c.Glyph]
def g9 (c:jt):List AV:=[aG c.At,aG c.Lookup]
def bN (r:bJ):List AV:=[.imm 1 (aZ r.Back),.imm 1 (aZ r.In),.imm 1 (aZ r.Ahead),.imm 1 (aL r.Out),.imm 2 (r.Calls.map g9),aG r.X]
def bC (l:bf):List AV:=[aG l.Kind,cU l.Ignore,.imm 6 (l.Rules.map bN)]
def bI (t:bz):List AV:=[oh t.Name,.imm 1 (aL t.Lookups)]
def cS (a:eI):List AV:=[oh a.Name,aG a.Min,aG a.Def,aG a.Max]
def kN (t:f9):List AV:=[aG t.Start,aG t.Peak,aG t.End]
def bW (r:List f9):List AV:=[.imm 3 (r.map kN)]
def d6 (l:List eW):List AV:=[.imm 2 (l.map dX)]
def cf (f:aY):List AV:=[aG f.Unit,.imm 9 (f.Glyphs.map bG),.imm 2 (f.Chars.map dv),.imm 3 (f.Lookups.map bC),.imm 2 (f.Features.map bI),.imm 4 (f.Axes.map cS),.imm 1 (f.Regions.map bW),.imm 1 (f.Funcs.map d6),.imm 1 (aL f.Cvt)]
abbrev cR (f:aY):AV:= .agg (cf f)
theorem c7 {α:Type} {c:α→List AV} {l:List α} {i:Nat} {a:α} (h:l[i]?=some a):(l.map c)[i]?=some (c a):=by simp [h]
theorem gz (l:List ByteArray):(fK l).length=l.length:=by simp [fK]
theorem o4 {l:List ByteArray} {i:Nat} {z:ByteArray} (h:l[i]?=some z):(fK l)[i]?=some [oh z]:=by simp [fK,h]
theorem cr (l:List (List Int)):(aZ l).length=l.length:=by simp [aZ]
theorem iD {l:List (List Int)} {i:Nat} {z:List Int} (h:l[i]?=some z):(aZ l)[i]?=some [.imm 1 (aL z)]:=by simp [aZ,h]
section
variable {P:Program} {tt:TT} {r:Option Nat} {Q:Exit→Act→World→Prop} {nt:Nat} {D:List Deferred} {fr:bZ} {B:Bs} {L:AL} {l:List Oper} {fin:kV}
variable {k j:Nat} {s:Ak} {sk:mT} {acc:bZ} {dd:Option Tmp} {op:Op} {ty t t':TypeId} {pos:String} {af:Array Edge} {g:Option (Nat×Bool)} {x y c:Operand} {u:AV} {want b:Bool}
def cu (P:Program) (l:List Oper) (fr:bZ) (fin:kV) (k:Nat) (s:Ak) (o:Oper) (sk:mT) (acc:bZ) (L:AL):Prop:=l[k]?=some o→DA P l fr fin ((k,s)::sk) acc L
theorem aE {o:Oper} (h:cu P l fr fin k s o sk acc L) (ho:l[k]?=some o:=by rfl):DA P l fr fin ((k,s)::sk) acc L:=h ho
def j6 (o:Oper) (acc:bZ):Prop:=match o.guard with
 | none=>True
 | some (j,want)=>qx acc j= .sc (.bool want)
theorem qS {o:Oper} {R:AV→AL→Prop} (hg:j6 o acc) (h:∀B,AO P o (cO l.toArray acc fr o.after.toList) B L R):AN P l fr o acc L R:=by
 unfold AN
 unfold j6 at hg
 split
 ·exact h
 ·rename_i j want hq
  rw [hq] at hg
  exact .inl ⟨hg,h⟩
theorem fW {o:Oper} (hg:j6 o acc) (h:∀B L,AO P o (cO l.toArray acc fr o.after.toList) B L (fun c L'=>c=u∧L'=L)) (hn:DA P l fr fin sk ((k,u)::acc) L):cu P l fr fin k .v o sk acc L:=by
 intro ho
 obtain ⟨pl,hpl⟩:=hn
 exact ⟨.val k u pl,.v,sk,o,rfl,ho,.inl ⟨rfl,fun L=>qS hg fun B=>h B L⟩,hpl⟩
theorem E0 {o:Oper} (hg:j6 o acc) (h:∀B,AO P o (cO l.toArray acc fr o.after.toList) B L (fun c L'=>c=u∧L'=L)) (hn:DA P l fr fin sk ((k,u)::acc) L):cu P l fr fin k .l o sk acc L:=by
 intro ho
 obtain ⟨pl,hpl⟩:=hn
 exact ⟨.val k u pl,.l,sk,o,rfl,ho,.inr (.inl ⟨rfl,qS hg fun B=>h B⟩),hpl⟩
theorem iJ {o:Oper} {R:AV→AL→Prop} (hg:j6 o acc) (h:∀B,AO P o (cO l.toArray acc fr o.after.toList) B L R) (hn:∀c L',R c L'→DA P l fr fin sk ((k,c)::acc) L'):cu P l fr fin k .e o sk acc L:=by
 intro ho
 have hn':∀c L',∃pl,R c L'→d9 P l fr fin pl sk ((k,c)::acc) L':=fun c L'=>by
  by_cases hr:R c L'
  ·obtain ⟨pl,hpl⟩:=hn c L' hr
   exact ⟨pl,fun _=>hpl⟩
  ·exact ⟨.fin,fun h=>absurd h hr⟩
 exact ⟨.eff k R fun c L'=>Classical.choose (hn' c L'),.e,sk,o,.inl rfl,rfl,ho,qS hg h,fun c L' hr=>Classical.choose_spec (hn' c L') hr⟩
theorem JU {o:Oper} (hK:fc fin.gs L) (hg:j6 o acc) (h:∀B L,fc fin.gs L→AO P o (cO l.toArray acc fr o.after.toList) B L (fun c L'=>c=u∧L'=L)) (hn:DA P l fr fin sk ((k,u)::acc) L):cu P l fr fin k .k o sk acc L:=by
 intro ho
 obtain ⟨pl,hpl⟩:=hn
 exact ⟨.val k u pl,.k,sk,o,rfl,ho,.inr (.inr ⟨rfl,hK,fun L hL=>qS hg fun B=>h B L hL⟩),hpl⟩
theorem zy {o:Oper} {R:AV→AL→Prop} (hX:∀c L',R c L'→fc fin.gs L→fc fin.gs L') (hg:j6 o acc) (h:∀B,AO P o (cO l.toArray acc fr o.after.toList) B L R) (hn:∀c L',R c L'→DA P l fr fin sk ((k,c)::acc) L'):cu P l fr fin k .f o sk acc L:=by
 intro ho
 have hn':∀c L',∃pl,R c L'→d9 P l fr fin pl sk ((k,c)::acc) L':=fun c L'=>by
  by_cases hr:R c L'
  ·obtain ⟨pl,hpl⟩:=hn c L' hr
   exact ⟨pl,fun _=>hpl⟩
  ·exact ⟨.fin,fun h=>absurd h hr⟩
 exact ⟨.eff k R fun c L'=>Classical.choose (hn' c L'),.f,sk,o,.inr (.inr ⟨rfl,hX⟩),rfl,ho,qS hg h,fun c L' hr=>Classical.choose_spec (hn' c L') hr⟩
theorem lc {op:Op} (hj:qx acc j= .sc (.bool b)) (hb:(b==want)=false) (hn:DA P l fr fin sk ((k,.sc undef)::acc) L):cu P l fr fin k .v ⟨dd,op,ty,pos,af,some (j,want)⟩ sk acc L:=by
 intro ho
 obtain ⟨pl,hpl⟩:=hn
 exact ⟨.val k (.sc undef) pl,.v,sk,_,rfl,ho,.inl ⟨rfl,fun L=> .inr ⟨⟨_,hj,fun e=>by injection e with e;subst e;simp at hb⟩,rfl,rfl⟩⟩,hpl⟩
theorem F7 {o:Oper} {fr:bZ} (h:Av P o fr u):∀B L,AO P o fr B L (fun c L'=>c=u∧L'=L):=fun _ _=>h.ao
theorem b6 (ok:eh P tt) (h:DA P l fr fin sk ((k,u)::acc) L) (hu:sj tt (cO l.toArray acc fr af.toList) op=some u:=by rfl) (hg:j6 ⟨dd,op,ty,pos,af,g⟩ acc:=by first | trivial | rfl):cu P l fr fin k .v ⟨dd,op,ty,pos,af,g⟩ sk acc L:=fW hg (F7 (sn ok hu)) h
theorem dQ {bop:BinOp} (h:cu P l fr fin k .v ⟨dd,.binOp bop t x y t',ty,pos,af,g⟩ sk acc L):cu P l fr fin k .v ⟨dd,.binOp bop t x y t',ty,pos,af,g⟩ sk acc L:=h
theorem eY {bop:BinOp} (h:DA P l fr fin sk ((k,u)::acc) L) (ho:Av P ⟨dd,.binOp bop t x y t',ty,pos,af,g⟩ (cO l.toArray acc fr af.toList) u:=by first | exact zb rfl rfl (by omega) | exact zi rfl rfl (by omega) | exact zh rfl rfl (by omega)) (hg:j6 ⟨dd,.binOp bop t x y t',ty,pos,af,g⟩ acc:=by first | trivial | rfl):cu P l fr fin k .v ⟨dd,.binOp bop t x y t',ty,pos,af,g⟩ sk acc L:=fW hg (F7 ho) h
theorem c9 (h:cu P l fr fin k .v ⟨dd,.indexAddr t x y,ty,pos,af,g⟩ sk acc L):cu P l fr fin k .v ⟨dd,.indexAddr t x y,ty,pos,af,g⟩ sk acc L:=h
theorem cA (ok:eh P tt) {e sz by_ s:Nat} {ll:List (List AV)} {ik:IntKind} {i:Int} {es:List AV} (h:DA P l fr fin sk ((k,.iptr es)::acc) L) (ht:jW tt t=some (e,sz,by_):=by rfl) (hx:bw (cO l.toArray acc fr af.toList) x=some u:=by rfl) (hu:gZ u=some (s,ll):=by rfl) (hs:Nat.beq s sz=true:=by rfl) (hy:bw (cO l.toArray acc fr af.toList) y=some (.sc (.int ik i)):=by rfl) (h0:0≤i:=by omega) (hl:ll[i.toNat]?=some es:=by first | assumption | (simp only [Int.toNat_natCast];assumption)) (hg:j6 ⟨dd,.indexAddr t x y,ty,pos,af,g⟩ acc:=by first | trivial | rfl):cu P l fr fin k .v ⟨dd,.indexAddr t x y,ty,pos,af,g⟩ sk acc L:=fW hg (F7 (zf (bE ok ht).1 hx (cG hu) hs hy h0 hl)) h
theorem cI {f:FuncId} {args:Array Operand} {ts:Array TypeId} (h:cu P l fr fin k .v ⟨dd,.call ⟨.value (.func f),args,ts⟩,ty,pos,af,g⟩ sk acc L):cu P l fr fin k .v ⟨dd,.call ⟨.value (.func f),args,ts⟩,ty,pos,af,g⟩ sk acc L:=h
theorem d8 {f:FuncId} {args:Array Operand} {ts:Array TypeId} {cs ds:List AV} [bK P f] (h:DA P l fr fin sk ((k,u)::acc) L) (hv:eB (cO l.toArray acc fr af.toList) args.toList=some cs:=by rfl) (hi:lq cs=some ds:=by rfl) (hc:AD P f ds u:=by infer_instance) (hg:j6 ⟨dd,.call ⟨.value (.func f),args,ts⟩,ty,pos,af,g⟩ acc:=by first | trivial | rfl):cu P l fr fin k .v ⟨dd,.call ⟨.value (.func f),args,ts⟩,ty,pos,af,g⟩ sk acc L:=fW hg (fun _ _=>Dq hv (by rw [iw hi];exact hc.det)) h
theorem cW (ok:eh P tt) (i:Nat) {b kk:Nat} {cs:List AV} {e:TypeId} (ht:HZ tt t=true) (hx:bw (cO l.toArray acc fr af.toList) x=some (.sc (.pointer (some ⟨b,kk,none⟩)))) (hL:L[i]?=some (b,.box cs e)) (hc:cs[kk]?=some u) (hg:j6 ⟨dd,.load t x,ty,pos,af,g⟩ acc) (h:DA P l fr fin sk ((k,u)::acc) L):cu P l fr fin k .l ⟨dd,.load t x,ty,pos,af,g⟩ sk acc L:=E0 hg (fun _=>u7 i (cF ok ht) hx hL hc) h
theorem qm (ok:eh P tt) (i:Nat) {b kk n:Nat} {cs:List AV} {e:TypeId} (ht:KO tt t=some n) (hx:bw (cO l.toArray acc fr af.toList) x=some (.sc (.pointer (some ⟨b,kk,none⟩)))) (hL:L[i]?=some (b,.box cs e)) (hc:Nat.ble (kk+n) cs.length=true) (hg:j6 ⟨dd,.load t x,ty,pos,af,g⟩ acc) (h:DA P l fr fin sk ((k,.agg ((cs.drop kk).take n))::acc) L):cu P l fr fin k .l ⟨dd,.load t x,ty,pos,af,g⟩ sk acc L:=E0 hg (fun _=>vz i (dZ ok ht) hx hL hc) h
theorem BT {gs:KpL} {i b kk:Nat} {v:AV} (hi:gs[i]?=some (.cell (b,kk,v))) {L:AL} (h:fc gs L):∃(j:Nat) (cs:List AV) (e:TypeId),L[j]?=some (b,.box cs e)∧cs[kk]?=some v:=by
 obtain ⟨cs,e,h1,h2⟩:=h _ (Ow hi)
 obtain ⟨j,hj⟩:=List.mem_iff_getElem?.1 h1
 exact ⟨j,cs,e,hj,h2⟩
theorem dU (ok:eh P tt) (i:Nat) {b kk:Nat} (ht:HZ tt t=true) (hx:bw (cO l.toArray acc fr af.toList) x=some (.sc (.pointer (some ⟨b,kk,none⟩)))) (hi:fin.gs[i]?=some (.cell (b,kk,u))) (hK:fc fin.gs L) (hg:j6 ⟨dd,.load t x,ty,pos,af,g⟩ acc) (h:DA P l fr fin sk ((k,u)::acc) L):cu P l fr fin k .k ⟨dd,.load t x,ty,pos,af,g⟩ sk acc L:=
 JU hK hg (fun _ L' hL'=>by
  obtain ⟨j,cs,e,h1,h2⟩:=BT hi hL'
  exact u7 j (cF ok ht) hx h1 h2) h
theorem zj {d:Option Tmp} {e sz by_ n:Nat} {parts:Array (Nat×Operand)} {vs:List AV} {xs:List (List AV)} (hc:m8 P t e sz by_) (hsz:0 < sz) (hv:eB fr (parts.toList.map (·.2))=some vs) (hxs:ji vs=some xs) (hn:Nat.beq xs.length n=true) (hi:parts.toList.map (·.1)=List.range' 0 n) (hz:xs.all (fun q=>Nat.beq q.length sz)=true) (h24:Nat.ble (n * sz) 16777216=true):
  AO P ⟨d,.buildSlice t n parts,ty,pos,af,g⟩ fr B L (fun c L'=>c= .imm sz xs∧L'=L):=by
 intro σ ρ w hρ hw
 refine (xn hc hsz hv hxs hn hi hz h24 σ ρ w hρ hw).mono fun v w' hh=>?_
 obtain ⟨τ,c,L',h1,h2,h3,b,rfl,rfl⟩:=hh
 exact ⟨τ,_,L,h1,h2.im,h3.sublist (.cons _ (List.Sublist.refl _)),rfl,rfl⟩
theorem ec (ok:eh P tt) {e sz by_ n:Nat} {parts:Array (Nat×Operand)} {vs:List AV} {xs:List (List AV)} (h:DA P l fr fin sk ((k,.imm sz xs)::acc) L) (ht:jW tt t=some (e,sz,by_):=by rfl) (hv:eB (cO l.toArray acc fr af.toList) (parts.toList.map (·.2))=some vs:=by rfl) (hxs:ji vs=some xs:=by rfl) (hn:Nat.beq xs.length n=true:=by rfl) (hi:parts.toList.map (·.1)=List.range' 0 n:=by rfl) (hz:xs.all (fun q=>Nat.beq q.length sz)=true:=by rfl) (h24:Nat.ble (n * sz) 16777216=true:=by rfl) (hg:j6 ⟨dd,.buildSlice t n parts,ty,pos,af,g⟩ acc:=by first | trivial | rfl):
  cu P l fr fin k .v ⟨dd,.buildSlice t n parts,ty,pos,af,g⟩ sk acc L:=fW hg (fun _ _=>zj (bE ok ht).1 (bE ok ht).2 hv hxs hn hi hz h24) h
theorem bO (ok:eh P tt) {r:Option Nat} {ops:Array Oper} {Q:Exit→Act→World→Prop} {nt:Nat} {D:List Deferred} {rest:List Oper} {d e sz by_ n:Nat} {parts:Array (Nat×Operand)} {vs:List AV} {xs:List (List AV)} (h:bF P r ops Q nt D rest ((d,.imm sz xs)::fr) B L) (ht:jW tt t=some (e,sz,by_):=by rfl) (hv:eB fr (parts.toList.map (·.2))=some vs:=by rfl) (hxs:ji vs=some xs:=by rfl) (hn:Nat.beq xs.length n=true:=by rfl) (hi:parts.toList.map (·.1)=List.range' 0 n:=by rfl) (hz:xs.all (fun q=>Nat.beq q.length sz)=true:=by rfl) (h24:Nat.ble (n * sz) 16777216=true:=by rfl) (hd:Nat.ble nt d=false:=by rfl):
  bF P r ops Q nt D (⟨some d,.buildSlice t n parts,ty,pos,af,none⟩::rest) fr B L:=by
 obtain ⟨h1,h2⟩:=bE ok ht
 refine cn hd rfl (zj h1 h2 hv hxs hn hi hz h24) fun c L' hh=>?_
 obtain ⟨h1,h2⟩:=hh
 subst h1;subst h2
 exact h
theorem bo {gs:KpL} {n0:Nat} {fr0:bZ} {rest:List Oper} (ks:List Nat) (hk:fL (iP l.toArray acc fr n0) ks=some fr0) (hr:l.drop n0=rest) (h:bF P r l.toArray Q nt D rest fr0 B L):DA P l fr ⟨E6 P r l n0 Q nt D fr B none,gs⟩ [] acc L:=
 ⟨.fin,rfl,by rw [←hr] at h;exact vF (ea ks hk) (fun _ _ h=>h) h⟩
theorem OO {gs:KpL} {n0:Nat} {fr0:bZ} {rest:List Oper} (ks:List Nat) (zz:fL (iP l.toArray acc fr n0) ks=some fr0∧l.drop n0=rest) (h:bF P r l.toArray Q nt D rest fr0 B L):DA P l fr ⟨E6 P r l n0 Q nt D fr B none,gs⟩ [] acc L:=bo ks zz.1 zz.2 h
theorem ug {gs:KpL} {n0 kk:Nat} {ab:AB} {rest:List Oper} (ks:List Nat) (fr0:Nat→bZ) (hk:∀b,fL (iP l.toArray ((kk,.sc (.pointer (some ⟨b,0,none⟩)))::acc) fr n0) ks=some (fr0 b)) (hr:l.drop n0=rest) (h:∀b,bF P r l.toArray Q nt D rest (fr0 b) B (L++[(b,ab)])):DA P l fr ⟨E6 P r l n0 Q nt D fr B (some (kk,ab)),gs⟩ [] acc L:=
 ⟨.fin,rfl,fun b=>by have:=h b;rw [←hr] at this;exact vF (ea ks (hk b)) (fun _ _ h=>h) this⟩
end
end Go.Proofs.YtamjlkdanllgjaaGreatDoor
namespace Go.Proofs.YtamjlkdanllgjaaGreatDoor
open Go.RowKit
attribute [local irreducible] AT bF AX AO Av Kt b8 d9 DA cu
set_option maxRecDepth 8000
structure bv where
 Glyph:Int
 Cluster:Int
 Form:Int
 Advance:Int
 X:Int
 Y:Int
def dw (x:bv):List AV:=[aG x.Glyph,aG x.Cluster,aG x.Form,aG x.Advance,aG x.X,aG x.Y]
def LO (ms:List Bool) (g:Int):Bool:=decide (0≤g) && ms.getD g.toNat false
def J9 (ms:List Bool) (ig:Bool) (x:bv):Bool:= !(ig && LO ms x.Glyph)
def FF (ms:List Bool) (ig:Bool) (run:List bv) (i:Nat):Bool:=match run[i]? with
 | some x=>J9 ms ig x
 | none=>false
def zK (ms:List Bool) (ig:Bool) (run:List bv) (i:Nat):List Nat:=(List.range' i (run.length - i)).filter (FF ms ig run)
def zq (ms:List Bool) (ig:Bool) (run:List bv):Nat→List Nat
 | 0=>[]
 | i+1=>if FF ms ig run i=true then i::zq ms ig run i else zq ms ig run i
def um (run:List bv) (i:Nat):Int:=match run[i]? with
 | some x=>x.Glyph
 | none=> -1
def gY:List (List Int)→List Int→Bool
 | [],_=>true
 | _::_,[]=>false
 | s::ss,g::gs=>s.contains g && gY ss gs
def FA (ms:List Bool) (ig:Bool) (run:List bv) (i:Nat) (r:bJ):Bool:=
 !r.In.isEmpty && (gY (r.In++r.Ahead) ((zK ms ig run i).map (um run)) && gY r.Back ((zq ms ig run i).map (um run)))
def JO (ms:List Bool) (ig:Bool) (run:List bv) (i:Nat) (forms:List Int):Bool:=match run[i]? with
 | some x=>J9 ms ig x && (forms.isEmpty || forms.contains x.Form)
 | none=>false
def uC (ms:List Bool) (l:bf) (run:List bv) (i:Nat) (forms:List Int):Option bJ:=if JO ms l.Ignore run i forms=true then l.Rules.find? (FA ms l.Ignore run i) else none
def lZ (ms:List Bool) (l:bf) (run:List bv) (i:Nat) (r:bJ):List Nat:=(zK ms l.Ignore run i).take r.In.length
def I1 (r:bJ) (i:Nat) (run:List bv):List bv:=match run[i]? with
 | none=>run
 | some x=>match r.Out[(r.In.headD []).idxOf x.Glyph]? with
  | none=>run
  | some g=>if (r.In.headD []).idxOf x.Glyph < (r.In.headD []).length then run.set i { x with Glyph:=g } else run
def Kf (r:bJ) (i:Nat) (run:List bv):List bv:=match run[i]? with
 | none=>run
 | some x=>if run.length - 1+r.Out.length > 500∧1 < r.Out.length then run else run.take i++(r.Out.map fun g=>{ x with Glyph:=g })++run.drop (i+1)
def IN:List Nat→List bv→List bv
 | [],run=>run
 | p::ps,run=>(IN ps run).eraseIdx p
def K7 (run:List bv) (c:Int) (p:Nat):Int:=match run[p]? with
 | some x=>min c x.Cluster
 | none=>c
def K6 (run:List bv) (ps:List Nat) (c:Int):Int:=ps.foldl (K7 run) c
def LK (r:bJ) (ps:List Nat) (run:List bv):List bv:=match ps,r.Out with
 | p::q,g::_=>match run[p]? with
  | some x=>IN q (run.set p { x with Glyph:=g,Cluster:=K6 run (p::q) x.Cluster })
  | none=>run
 | _,_=>run
def Ma (r:bJ) (i:Nat) (run:List bv):List bv:=match run[i]? with
 | some x=>run.set i { x with Advance:=IntKind.i64.wrap (x.Advance+r.X) }
 | none=>run
def N3 (ms:List Bool) (ig:Bool) (run:List bv) (i:Nat) (n:Int):Option Nat:=if 0≤n then (zK ms ig run i)[n.toNat]? else none
def Jb (l:bf) (r:bJ) (ps:List Nat) (run:List bv):List bv:=
 if l.Kind=1∨l.Kind=5 then I1 r (ps.headD 0) run
 else if l.Kind=2 then Kf r (ps.headD 0) run
 else if l.Kind=3 then LK r ps run
 else if l.Kind=6 then Ma r (ps.headD 0) run
 else run
abbrev MB:=bf→bJ→List Nat→List bv→List bv
def II (ms:List Bool) (ls:List bf) (d:MB) (n:Int) (i:Nat) (run:List bv):List bv:=
 if n < 0 then run else match ls[n.toNat]? with
 | none=>run
 | some l=>if l.Kind < 1∨4 < l.Kind then run else match uC ms l run i [] with
  | none=>run
  | some r=>d l r (lZ ms l run i r) run
def JQ (ms:List Bool) (ls:List bf) (d:MB) (ig:Bool) (i:Nat) (run:List bv) (c:jt):List bv:=match N3 ms ig run i c.At with
 | none=>run
 | some p=>II ms ls d c.Lookup p run
def KP (ms:List Bool) (ls:List bf):Nat→MB
 | 0=>fun l r ps run=>Jb l r ps run
 | k+1=>fun l r ps run=>if l.Kind=4 then r.Calls.foldl (JQ ms ls (KP ms ls k) l.Ignore (ps.headD 0)) run else Jb l r ps run
def LY (l:bf) (i last:Nat) (run run':List bv):Nat:=
 if l.Kind=4 then max (run'.length - (run.length - 1 - last)) (i+1)
 else if l.Kind=6∧i < last then last
 else run'.length - (run.length - 1 - last)
def N4 (ms:List Bool) (ls:List bf) (l:bf) (forms:List Int):Nat→Nat→List bv→List bv
 | 0,_,run=>run
 | k+1,i,run=>if i < run.length then match uC ms l run i forms with
   | none=>N4 ms ls l forms k (i+1) run
   | some r=>N4 ms ls l forms k (LY l i ((lZ ms l run i r).getLastD i) run (KP ms ls 4 l r (lZ ms l run i r) run)) (KP ms ls 4 l r (lZ ms l run i r) run)
  else run
def IM (ms:List Bool) (ls:List bf) (l:bf) (forms:List Int):Nat→List bv→List bv
 | 0,run=>run
 | i+1,run=>IM ms ls l forms i (match uC ms l run i forms with
  | none=>run
  | some r=>KP ms ls 4 l r (lZ ms l run i r) run)
def ot (ms:List Bool) (ls:List bf) (n:Int) (run:List bv) (forms:List Int):List bv:=
 if n < 0 then run else match ls[n.toNat]? with
 | none=>run
 | some l=>if l.Kind < 1∨6 < l.Kind then run else if l.Kind=5 then IM ms ls l forms run.length run else N4 ms ls l forms run.length 0 run
set_option maxRecDepth 8000
def cw (p:Nat→Bool):Nat→Nat
 | 0=>0
 | n+1=>cw p n ||| (if p n=true then 2 ^ n else 0)
theorem cy (p:Nat→Bool) (i:Nat):∀n,(cw p n).testBit i=(decide (i < n) && p i)
 | 0=>by simp [cw]
 | n+1=>by
  rw [cw,Nat.testBit_or,cy p i n]
  by_cases hi:i=n
  ·subst hi
   cases hp:p i <;> simp [Nat.testBit_two_pow_self]
  ·have h1:decide (i < n+1)=decide (i < n):=decide_eq_decide.2 (by omega)
   have h2:(if p n=true then 2 ^ n else 0).testBit i=false:=by
    split
    ·rw [Nat.testBit_two_pow_of_ne (by omega)]
    ·simp
   rw [h1,h2,Bool.or_false]
theorem qY (p:Nat→Bool) (n:Nat):cw p n < 2 ^ n:=Nat.lt_pow_two_of_testBit _ fun i hi=>by
 rw [cy,decide_eq_false (by omega),Bool.false_and]
theorem iG {x y:Nat} (h:∀i,x.testBit i=y.testBit i):x=y:=Nat.eq_of_testBit_eq h
theorem qZ {p:Nat→Bool} {n:Nat}:cw p n=0↔∀i,i < n→p i=false:=by
 constructor
 ·intro h i hi
  have:=cy p i n
  rw [h,Nat.zero_testBit,decide_eq_true hi,Bool.true_and] at this
  exact this.symm
 ·intro h
  refine iG fun i=>?_
  rw [cy,Nat.zero_testBit]
  by_cases hi:i < n
  ·rw [h i hi,Bool.and_false]
  ·rw [decide_eq_false hi,Bool.false_and]
section
variable (cls:List Int) (rows:List (List (List Int))) (have_:Nat→Bool)
def fH (c:Nat) (s:List Int):Bool:=s.any fun g=>decide (0≤g) && (decide (g < cls.length) && decide (cls.getD g.toNat (-1)=(c:Int)))
def mh (m c:Nat) (n:Nat):Bool:=match rows[n]? with
 | some r=>match r[m]? with
  | some s=>fH cls c s
  | none=>false
 | none=>false
def jy (m:Nat) (n:Nat):Bool:=match rows[n]? with
 | some r=>decide (r.length=m)
 | none=>false
def jJ (m c:Nat):Nat:=cw (mh cls rows m c) rows.length
def zC (m:Nat):Nat:=cw (jy rows m) rows.length
def mA:Nat×Nat:=(0,cw have_ rows.length)
def cg (p:Nat×Nat) (c:Nat):Nat×Nat:=if p.2 &&& jJ cls rows p.1 c=0 then (0,0) else (p.1+1,p.2 &&& jJ cls rows p.1 c)
def jz (p:Nat×Nat):Nat:=if p.2=0 then 0 else p.2 &&& zC rows p.1
structure sT (C:Nat) (tab:List (List Int)) (ends:List Nat):Prop where
 met:∃met:List (Nat×Nat),met[0]?=some (mA rows have_)∧met.length=tab.length∧met.length=ends.length∧
  (∀(i:Nat) p,met[i]?=some p→ends[i]?=some (jz rows p))∧
  (∀(i:Nat) p q,met[i]?=some p→tab[i]?=some q→q.length=C∧∀(c:Nat) z,q[c]?=some z→((cg cls rows p c).2=0∧z= -1)∨((cg cls rows p c).2≠0∧0≤z∧met[z.toNat]?=some (cg cls rows p c)))
end
def rT (cls:List Int) (tab:List (List Int)) (s:Int) (g:Int):Int:=
 if s < 0∨g < 0 then -1 else match tab[s.toNat]?,cls[g.toNat]? with
 | some fA,some c=>if c < 0 then -1 else match fA[c.toNat]? with
  | some z=>if 0≤z∧z < tab.length then z else -1
  | none=> -1
 | _,_=> -1
def sZ (ends:List Nat) (s:Int):Nat:=if s < 0 then 0 else ends.getD s.toNat 0
def wI (cls:List Int) (tab:List (List Int)) (ends:List Nat):Int→List Int→Nat→Nat
 | _,[],told=>told
 | s,g::r,told=>if rT cls tab s g= -1 then told else wI cls tab ends (rT cls tab s g) r (told ||| sZ ends (rT cls tab s g))
def Fl (cls:List Int) (tab:List (List Int)) (ends:List Nat) (gl:List Int):Nat:=wI cls tab ends 0 gl (sZ ends 0)
structure vi (n:Nat) (C:Nat) (cls:List Int) (sets:List (List Int)):Prop where
 len:cls.length=n
 dom:∀z∈cls,0≤z∧z < C
 apart:∀s∈sets,∀(i j:Nat) z,cls[i]?=some z→cls[j]?=some z→((i:Int)∈s↔(j:Int)∈s)
theorem wv {cls:List Int} {n C:Nat} {sets:List (List Int)} (h:vi n C cls sets) {s:List Int} (hs:s∈sets) (hd:∀g∈s,0≤g∧g < n) {g:Int} (h0:0≤g) {c:Nat} (hc:cls[g.toNat]?=some (c:Int)):fH cls c s=s.contains g:=by
 rw [Bool.eq_iff_iff,List.contains_iff_mem]
 unfold fH
 rw [List.any_eq_true]
 constructor
 ·rintro ⟨x,hx,hb⟩
  simp only [Bool.and_eq_true,decide_eq_true_eq] at hb
  obtain ⟨h1,h2,h3⟩:=hb
  have hxc:cls[x.toNat]?=some (c:Int):=by
   rw [Oz (by omega)]
   rw [List.getD_eq_getElem?_getD,Oz (by omega)] at h3
   exact congrArg some h3
  have:=(h.apart s hs x.toNat g.toNat c hxc hc).1 (by rw [Int.toNat_of_nonneg h1];exact hx)
  rwa [Int.toNat_of_nonneg h0] at this
 ·intro hg
  refine ⟨g,hg,?_⟩
  have hl:=h.len
  have:=hd g hg
  simp only [Bool.and_eq_true,decide_eq_true_eq]
  refine ⟨h0,by omega,?_⟩
  rw [List.getD_eq_getElem?_getD,hc]
  rfl
def nF (rows:List (List (List Int))) (have_:Nat→Bool) (gl:List Int) (n:Nat):Bool:=match rows[n]? with
 | some r=>have_ n && (decide (gl.length≤r.length) && gY (r.take gl.length) gl)
 | none=>false
theorem oE:∀{ss:List (List Int)} {gl:List Int} {s:List Int} {g:Int},ss.length=gl.length→gY (ss++[s]) (gl++[g])=(gY ss gl && s.contains g)
 | [],[],s,g,_=>by simp [gY]
 | [],_::_,_,_,h=>by simp at h
 | _::_,[],_,_,h=>by simp at h
 | s'::ss,g'::gl,s,g,h=>by
  rw [Oq,Oq,gY,oE (by simpa using h),gY,Bool.and_assoc]
theorem kq:∀{a:List (List Int)} {b:List Int},b.length < a.length→gY a b=false
 | [],_,h=>by simp at h
 | _::_,[],_=>rfl
 | _::a,_::b,h=>by rw [gY,kq (by simpa using h),Bool.and_false]
theorem lQ:∀{ss:List (List Int)} {gl x:List Int},ss.length≤gl.length→gY ss (gl++x)=gY ss gl
 | [],_,_,_=>rfl
 | _::_,[],_,h=>by simp at h
 | s::ss,g::gl,x,h=>by rw [Oq,gY,gY,lQ (by simpa using h)]
section
variable {cls:List Int} {rows:List (List (List Int))} {have_:Nat→Bool} {N C:Nat} {sets:List (List Int)}
theorem EL (h:vi N C cls sets) (hs:∀r∈rows,∀s∈r,s∈sets∧∀g∈s,0≤g∧g < N) {gl:List Int} {g:Int} {c:Nat} (h0:0≤g) (hc:cls[g.toNat]?=some (c:Int)):
  cw (nF rows have_ gl) rows.length &&& jJ cls rows gl.length c=cw (nF rows have_ (gl++[g])) rows.length:=by
 refine iG fun n=>?_
 rw [Nat.testBit_and,cy,jJ,cy,cy]
 by_cases hn:n < rows.length
 ·simp only [decide_eq_true hn,Bool.true_and]
  unfold nF mh
  rw [Oz hn]
  dsimp only
  have hm:=List.getElem_mem hn
  generalize rows[n]=r at hm
  rw [List.length_append,List.length_singleton]
  by_cases hl:gl.length < r.length
  ·have hs':=hs r hm r[gl.length] (List.getElem_mem hl)
   rw [Oz hl,decide_eq_true (by omega:gl.length≤r.length),decide_eq_true (by omega:gl.length+1≤r.length),List.take_add_one,Oz hl]
   dsimp only [Option.toList]
   rw [oE (by rw [List.length_take];omega),wv h hs'.1 hs'.2 h0 hc]
   cases have_ n <;> simp
  ·rw [List.getElem?_eq_none (by omega),decide_eq_false (by omega:¬gl.length+1≤r.length)]
   simp
 ·simp [decide_eq_false hn]
def gM (rows:List (List (List Int))) (have_:Nat→Bool) (gl:List Int) (n:Nat):Bool:=match rows[n]? with
 | some r=>have_ n && gY r gl
 | none=>false
theorem pR {tab:List (List Int)} {ends:List Nat} (h:vi N C cls sets) (hs:∀r∈rows,∀s∈r,s∈sets∧∀g∈s,0≤g∧g < N) (ht:sT cls rows have_ C tab ends) (hC:∀z∈cls,z.toNat < C):
  ∀(gl:List Int),Fl cls tab ends gl=cw (gM rows have_ gl) rows.length:=by
 obtain ⟨met,h0,hl,hle,he,hn⟩:=ht.met
 have hmt:=hl
 have key:∀(r gl:List Int) (s:Nat) (told:Nat) (p:Nat×Nat),met[s]?=some p→p.1=gl.length→p.2=cw (nF rows have_ gl) rows.length→told=cw (gM rows have_ gl) rows.length→
   (gl=[]∨p.2≠0)→wI cls tab ends s r told=cw (gM rows have_ (gl++r)) rows.length:=by
  intro r
  induction r with
  | nil=>intro gl s told p _ _ _ ht _;rw [wI,List.append_nil];exact ht
  | cons g r ih=>
   intro gl s told p hp hp1 hp2 htold hne
   have hsl:s < met.length:=(Ol hp).1
   obtain ⟨q,hq⟩:∃q,tab[s]?=some q:=⟨_,Oz (by omega)⟩
   obtain ⟨hqC,hqn⟩:=hn s p q hp hq
   have stop:(∀n,nF rows have_ (gl++[g]) n=false)→cw (gM rows have_ gl) rows.length=cw (gM rows have_ (gl++g::r)) rows.length:=by
    intro hz
    refine iG fun n=>?_
    rw [cy,cy]
    congr 1
    have hzn:=hz n
    unfold nF at hzn
    unfold gM
    cases hr:rows[n]? with
    | none=>rfl
    | some fA=>
     rw [hr] at hzn
     dsimp only at hzn ⊢
     by_cases hh:have_ n=true
     ·rw [hh,Bool.true_and] at hzn ⊢
      rw [Bool.true_and]
      by_cases hrl:fA.length≤gl.length
      ·rw [lQ hrl]
      ·rw [List.length_append,List.length_singleton,decide_eq_true (by omega),Bool.true_and,List.take_add_one,Oz (by omega)] at hzn
       dsimp only [Option.toList] at hzn
       have e1:gY fA gl=false:=by
        rw [Bool.eq_false_iff]
        intro hf
        rw [kq (by omega)] at hf
        cases hf
       have e2:gY fA (gl++g::r)=false:=by
        have e3:fA=(fA.take gl.length++[fA[gl.length]])++fA.drop (gl.length+1):=by
         rw [List.append_assoc,List.singleton_append,List.getElem_cons_drop,List.take_append_drop]
        have e4:∀{a b:List (List Int)} {x:List Int},gY (a++b) x=true→gY a x=true:=by
         intro a
         induction a with
         | nil=>intro b x _;rfl
         | cons y a iha=>
          intro b x hx
          cases x with
          | nil=>cases hx
          | cons w x=>
           rw [Oq,gY,Bool.and_eq_true] at hx
           rw [gY,Bool.and_eq_true]
           exact ⟨hx.1,iha hx.2⟩
        rw [Bool.eq_false_iff]
        intro hf
        rw [e3] at hf
        have:=e4 hf
        rw [show gl++g::r=(gl++[g])++r by simp,lQ (by simp;omega)] at this
        rw [this] at hzn
        cases hzn
       rw [e1,e2]
     ·simp [hh]
   rw [wI]
   by_cases hg:0≤g∧g.toNat < cls.length
   ·obtain ⟨hg0,hgl⟩:=hg
    obtain ⟨z,hz⟩:∃z,cls[g.toNat]?=some z:=⟨_,Oz hgl⟩
    have hzm:=Ow hz
    have hzd:=h.dom z hzm
    obtain ⟨c,rfl⟩:=Int.eq_ofNat_of_zero_le hzd.1
    have hcC:c < C:=by omega
    obtain ⟨t,htc⟩:∃t,q[c]?=some t:=⟨_,Oz (by omega)⟩
    have hstep:=EL (have_:=have_) (gl:=gl) h hs hg0 hz
    have hnx:rT cls tab s g=if 0≤t∧t < tab.length then t else -1:=by
     unfold rT
     rw [if_neg (by omega),Int.toNat_natCast,hq,hz]
     dsimp only
     rw [if_neg (by omega),Int.toNat_natCast,htc]
    have hbe:cg cls rows p c=if cw (nF rows have_ (gl++[g])) rows.length=0 then (0,0) else (gl.length+1,cw (nF rows have_ (gl++[g])) rows.length):=by
     unfold cg
     rw [hp1,hp2,hstep]
    rcases hqn c t htc with ⟨h1,h2⟩ | ⟨h1,h2,h3⟩
    ·subst h2
     have hno:¬((0:Int)≤-1∧(-1:Int) < tab.length):=fun e=>absurd e.1 (by decide)
     rw [hnx,if_neg hno,if_pos rfl,htold]
     refine stop fun n=>?_
     rw [hbe] at h1
     have hzero:cw (nF rows have_ (gl++[g])) rows.length=0:=by
      split at h1
      ·assumption
      ·exact h1
     by_cases hnl:n < rows.length
     ·exact qZ.1 hzero n hnl
     ·unfold nF;rw [List.getElem?_eq_none (by omega)]
    ·have htl:t.toNat < tab.length:=by
      have:=(Ol h3).1
      omega
     have htz:¬t= -1:=by omega
     have hin:(0:Int)≤t∧t < tab.length:=⟨h2,by omega⟩
     rw [if_pos hin] at hnx
     rw [hnx,if_neg htz]
     rw [hbe] at h1 h3
     have hnz:¬cw (nF rows have_ (gl++[g])) rows.length=0:=by
      intro e
      rw [if_pos e] at h1
      exact h1 rfl
     rw [if_neg hnz] at h3
     have:=ih (gl++[g]) t.toNat (told ||| sZ ends t) _ h3 (by simp) rfl ?_ (.inr hnz)
     ·rw [Int.toNat_of_nonneg h2] at this
      rw [this]
      simp
     ·
      have hen:=he _ _ h3
      unfold sZ
      rw [if_neg (by omega),List.getD_eq_getElem?_getD,hen,htold]
      dsimp only [Option.getD]
      unfold jz
      rw [if_neg hnz]
      refine iG fun n=>?_
      rw [Nat.testBit_or,Nat.testBit_and,zC,cy,cy,cy,cy]
      by_cases hnl:n < rows.length
      ·simp only [decide_eq_true hnl,Bool.true_and]
       unfold gM nF jy
       rw [Oz hnl]
       dsimp only
       generalize rows[n]=fA
       cases have_ n
       ·simp
       ·simp only [Bool.true_and,List.length_append,List.length_singleton]
        by_cases hrl:fA.length≤gl.length
        ·rw [lQ hrl,decide_eq_false (by omega:¬fA.length=gl.length+1),Bool.and_false,Bool.or_false]
        ·have e1:gY fA gl=false:=kq (by omega)
         rw [e1,Bool.false_or]
         by_cases hre:fA.length=gl.length+1
         ·rw [decide_eq_true hre,Bool.and_true,decide_eq_true (by omega),Bool.true_and,List.take_of_length_le (by omega)]
         ·rw [decide_eq_false hre,Bool.and_false]
          exact (kq (by simp;omega)).symm
      ·simp [decide_eq_false hnl]
   ·have hnx:rT cls tab s g= -1:=by
     unfold rT
     by_cases hg0:g < 0
     ·rw [if_pos (.inr hg0)]
     ·rw [if_neg (by omega),Int.toNat_natCast,hq,List.getElem?_eq_none (by omega)]
    rw [hnx,if_pos rfl,htold]
    refine stop fun n=>?_
    unfold nF
    cases hr:rows[n]? with
    | none=>rfl
    | some fA=>
     dsimp only
     by_cases hrl:gl.length+1≤fA.length
     ·have hs':=hs fA (Ow hr) fA[gl.length] (List.getElem_mem (by omega))
      have hng:fA[gl.length].contains g=false:=by
       rw [Bool.eq_false_iff]
       intro hm
       rw [List.contains_iff_mem] at hm
       have:=hs'.2 g hm
       have hl:=h.len
       omega
      rw [List.length_append,List.length_singleton,List.take_add_one,Oz (by omega)]
      dsimp only [Option.toList]
      rw [oE (by rw [List.length_take];omega),hng]
      simp
     ·rw [List.length_append,List.length_singleton,decide_eq_false hrl]
      simp
 intro gl
 have h00:=key gl [] 0 (sZ ends 0) _ h0 rfl ?_ ?_ (.inl rfl)
 ·rw [Oo] at h00
  exact h00
 ·refine iG fun n=>?_
  unfold mA
  rw [cy,cy]
  by_cases hnl:n < rows.length
  ·simp only [decide_eq_true hnl,Bool.true_and]
   unfold nF
   rw [Oz hnl]
   simp [gY]
  ·simp [decide_eq_false hnl]
 ·have hen:=he _ _ h0
  unfold sZ
  rw [if_neg (by omega),List.getD_eq_getElem?_getD]
  rw [show (0:Int).toNat=0 from rfl,hen]
  dsimp only [Option.getD]
  refine iG fun n=>?_
  have hb:(jz rows (mA rows have_))=cw have_ rows.length &&& zC rows 0:=by
   unfold jz mA
   dsimp only
   split
   ·rename_i e
    rw [e,Nat.zero_and]
   ·rfl
  rw [hb,Nat.testBit_and,zC,cy,cy,cy]
  by_cases hnl:n < rows.length
  ·simp only [decide_eq_true hnl,Bool.true_and]
   unfold gM jy
   rw [Oz hnl]
   dsimp only
   generalize rows[n]=fA
   cases fA with
   | nil=>simp [gY]
   | cons s fA=>simp [gY]
  ·simp [decide_eq_false hnl]
end
end Go.Proofs.YtamjlkdanllgjaaGreatDoor
namespace Go.Proofs.YtamjlkdanllgjaaGreatDoor
open Go.RowKit
attribute [local irreducible] AT bF AX AO Av Kt b8 d9 DA cu
set_option maxRecDepth 8000
def fb (r:bJ):List (List Int):=if r.In.isEmpty then [] else r.In++r.Ahead
def Ed (rs:List bJ) (n:Nat):Bool:=match rs[n]? with
 | some r=> !r.In.isEmpty
 | none=>false
def me (rs:List bJ):Nat:=rs.foldl (fun m r=>max m (r.In.length+r.Ahead.length)) 0
def ma (rs:List bJ):Nat:=rs.foldl (fun m r=>max m r.Back.length) 0
end Go.Proofs.YtamjlkdanllgjaaGreatDoor
namespace Go.Proofs.YtamjlkdanllgjaaGreatDoor
open Go.RowKit Go.MapKept
def jv (d:TypeDesc) (m:Value→Option AV) (σ:cm) (o:Obj):Prop:=
 ∃es clock,o= .map es clock∧(∀x∈es.toList,IsKey d x.key∧∃c,m x.key=some c∧VR σ c x.val)∧es.toList.Pairwise (fun x y=>x.key≠y.key)∧∀k c,m k=some c→∃x∈es.toList,x.key=k
def ci (d:TypeDesc) (m:Value→Option AV):AB:= .dep (jv d m) fun σ τ o hle ⟨es,clock,h1,h2,h3,h4⟩=>⟨es,clock,h1,fun x hx=>by
 obtain ⟨a,c,e,f⟩:=h2 x hx
 exact ⟨a,c,e,f.mono hle⟩,h3,h4⟩
theorem jv.none {d:TypeDesc} {m:Value→Option AV} {σ:cm} {es:Array MapEntry} {clock:Nat} {k:Value} (h:jv d m σ (.map es clock)) (hk:IsKey d k) (hm:m k=none):Instr.findNow d k es.toList 0=some none:=by
 obtain ⟨es',clock',h1,h2,h3,h4⟩:=h
 cases h1
 rcases findNow_spec hk es.toList 0 (fun x hx=>(h2 x hx).1) with ⟨h5,_⟩ | ⟨j,e,h5,h6,h7⟩
 ·exact h5
 ·obtain ⟨_,c,h8,_⟩:=h2 e (Ow h6)
  rw [h7,hm] at h8
  cases h8
theorem jv.some {d:TypeDesc} {m:Value→Option AV} {σ:cm} {es:Array MapEntry} {clock:Nat} {k:Value} {c:AV} (h:jv d m σ (.map es clock)) (hk:IsKey d k) (hm:m k=some c):∃(j:Nat) (e:MapEntry),Instr.findNow d k es.toList 0=some (some (j,e.val))∧es[j]?=some e∧e.key=k∧VR σ c e.val:=by
 obtain ⟨es',clock',h1,h2,h3,h4⟩:=h
 cases h1
 rcases findNow_spec hk es.toList 0 (fun x hx=>(h2 x hx).1) with ⟨_,h5⟩ | ⟨j,e,h5,h6,h7⟩
 ·obtain ⟨x,hx,hk'⟩:=h4 k c hm
  exact absurd hk' (h5 x hx)
 ·obtain ⟨_,c',h8,h9⟩:=h2 e (Ow h6)
  rw [h7,hm] at h8
  cases h8
  exact ⟨j,e,by simpa using h5,by simpa using h6,h7,h9⟩
section
variable {P:Program} {fr:bZ} {B:Bs} {L:AL} {d:Option Tmp} {ty t:TypeId} {pos:String} {af:Array Edge} {g:Option (Nat×Bool)} {x y z:Operand} {u:AV}
theorem xo (kd:TypeDesc):AO P ⟨d,.makeMap t none,ty,pos,af,g⟩ fr B L (fun c L'=>∃b,c= .sc (.map (some b))∧L'=(b,ci kd fun _=>none)::L):=by
 intro σ ρ w hρ hw
 have hr:(execOp ρ ⟨d,.makeMap t none,ty,pos,af,g⟩).run P w= .ok (.value (.map (some w.heap.size))) (w.alloc (.map #[] 0)):=by
  simp [execOp,Instr.makeMap]
 unfold i8
 rw [hr]
 exact ⟨σ,_,_,cm.le_refl _,.sc _,hw.alloc _ (ci kd fun _=>Option.none) ⟨#[],0,rfl,by simp,by simp,by simp⟩,_,rfl,rfl⟩
theorem u9 (i:Nat) {b kt et:Nat} {kd:TypeDesc} {k:Value} {m m':Value→Option AV} (ht:P.underlying t=some (.map kt et)) (hkt:P.underlying kt=some kd) (hx:bw fr x=some (.sc (.map (some b)))) (hy:bw fr y=some (.sc k)) (hk:IsKey kd k) (hz:bw fr z=some u) (hL:L[i]?=some (b,ci kd m)) (h1:m' k=some u) (h2:∀q,q≠k→m' q=m q):
  AO P ⟨d,.mapUpdate t x y z,ty,pos,af,g⟩ fr B L (fun _ L'=>L'=fN L i (ci kd m')):=by
 intro σ ρ w hρ hw
 obtain ⟨o,ho,hM⟩:=hw.here _ (Ow hL)
 have hM':jv kd m σ o:=hM
 obtain ⟨es,clock,rfl,h3,h4,h5⟩:=hM'
 have hM':jv kd m σ (.map es clock):=hM
 have hv:=hρ z u hz
 have hlt:b < w.heap.size:=(Array.getElem?_eq_some_iff.1 ho).1
 have key:∃es' clock',(Instr.mapUpdate t (.map (some b)) k (ρ z)).run P w= .ok () (w.putObj b (.map es' clock'))∧jv kd m' σ (.map es' clock'):=by
  cases hm:m k with
  | none=>
   refine ⟨es.push ⟨k,ρ z,clock⟩,clock+1,?_,_,_,rfl,?_,?_,?_⟩
   ·simp [Instr.mapUpdate,run_underlying ht,MapKept.run_getObj_map ho,run_checkKey hkt hk,run_findKey hkt (hM'.none hk hm),MapKept.run_setObj_map _ ho,Result.andThen,World.putObj]
   ·intro e he
    rw [Array.toList_push,List.mem_append,List.mem_singleton] at he
    rcases he with he | rfl
    ·obtain ⟨h6,c,h7,h8⟩:=h3 e he
     exact ⟨h6,c,by rw [h2 _ (fun e1=>by rw [e1,hm] at h7;cases h7)];exact h7,h8⟩
    ·exact ⟨hk,u,h1,hv⟩
   ·rw [Array.toList_push,List.pairwise_append]
    refine ⟨h4,by simp,fun e he e' he'=>?_⟩
    rw [List.mem_singleton] at he'
    subst he'
    obtain ⟨_,c,h7,_⟩:=h3 e he
    exact fun e1=>by rw [e1,hm] at h7;cases h7
   ·intro q c hq
    by_cases e:q=k
    ·subst e
     exact ⟨_,by rw [Array.toList_push];exact List.mem_append.2 (Or.inr (List.mem_singleton.2 rfl)),rfl⟩
    ·rw [h2 q e] at hq
     obtain ⟨y,hy,hy'⟩:=h5 q c hq
     exact ⟨y,by rw [Array.toList_push];exact List.mem_append.2 (Or.inl hy),hy'⟩
  | some c=>
   obtain ⟨j,e,h6,h7,h8,h9⟩:=hM'.some hk hm
   have hdis:∀n e',es[n]?=some e'→¬j=n→e'.key≠k:=by
    intro n e' hn hne
    rw [←Array.getElem?_toList] at hn h7
    rw [←h8]
    rw [List.pairwise_iff_getElem] at h4
    obtain ⟨hj1,hj2⟩:=Ol h7
    obtain ⟨hn1,hn2⟩:=Ol hn
    rcases Nat.lt_or_gt_of_ne hne with hlt | hgt
    ·have:=h4 j n hj1 hn1 hlt
     rw [hj2,hn2] at this
     exact this.symm
    ·have:=h4 n j hn1 hj1 hgt
     rw [hj2,hn2] at this
     exact this
   refine ⟨es.modify j (fun e'=>{ e' with key:=k,val:=ρ z }),clock,?_,_,_,rfl,?_,?_,?_⟩
   ·simp [Instr.mapUpdate,run_underlying ht,MapKept.run_getObj_map ho,run_checkKey hkt hk,run_findKey hkt h6,h7,h8,run_keyThatStays hk,MapKept.run_setObj_map _ ho,Result.andThen,World.putObj]
   ·intro e' he'
    obtain ⟨n,hn⟩:=List.mem_iff_getElem?.1 he'
    rw [Array.getElem?_toList,Array.getElem?_modify] at hn
    by_cases e1:j=n
    ·subst e1
     rw [if_pos rfl,h7] at hn
     simp at hn
     subst hn
     exact ⟨hk,u,h1,hv⟩
    ·rw [if_neg e1] at hn
     obtain ⟨h10,c',h11,h12⟩:=h3 e' (Ow (by rw [Array.getElem?_toList];exact hn))
     exact ⟨h10,c',by rw [h2 _ (hdis n e' hn e1)];exact h11,h12⟩
   ·have hkeys:(es.modify j (fun e'=>{ e' with key:=k,val:=ρ z })).toList.map MapEntry.key=es.toList.map MapEntry.key:=by
     apply List.ext_getElem?
     intro n
     rw [List.getElem?_map,List.getElem?_map,Array.getElem?_toList,Array.getElem?_toList,Array.getElem?_modify]
     by_cases e1:j=n
     ·subst e1
      rw [if_pos rfl,h7]
      simp [h8]
     ·rw [if_neg e1]
    refine (List.pairwise_map (f:=MapEntry.key) (R:=fun a b:Value=>a≠b)).1 ?_
    rw [hkeys]
    exact List.pairwise_map.2 h4
   ·intro q c hq
    by_cases e1:q=k
    ·subst e1
     refine ⟨{ e with key:=q,val:=ρ z },List.mem_iff_getElem?.2 ⟨j,?_⟩,rfl⟩
     rw [Array.getElem?_toList,Array.getElem?_modify,if_pos rfl,h7]
     rfl
    ·rw [h2 q e1] at hq
     obtain ⟨y,hy,hy'⟩:=h5 q c hq
     obtain ⟨n,hn⟩:=List.mem_iff_getElem?.1 hy
     rw [Array.getElem?_toList] at hn
     refine ⟨y,List.mem_iff_getElem?.2 ⟨n,?_⟩,hy'⟩
     rw [Array.getElem?_toList,Array.getElem?_modify,if_neg,hn]
     intro e2
     subst e2
     rw [h7] at hn
     injection hn with hn
     subst hn
     exact e1 (hy'.symm.trans h8)
 obtain ⟨es',clock',hr,hq⟩:=key
 unfold i8
 rw [show (execOp ρ ⟨d,.mapUpdate t x y z,ty,pos,af,g⟩).run P w= .ok .skip (w.putObj b (.map es' clock')) by simp only [execOp,(hρ x _ hx).sc_inv,(hρ y _ hy).sc_inv,Sem.run_bind,Sem.run_pure,Result.andThen,hr]]
 exact ⟨σ,.sc undef,_,cm.le_refl _,.sc _,hw.putAt (a':=ci kd m') hL (fun _=>trivial) (lp w b _) (World.putObj_heap_same hlt) hq,rfl⟩
theorem sa {w:World} {b kt et:Nat} {kd:TypeDesc} {k v0:Value} {m:Value→Option AV} {es:Array MapEntry} {clock:Nat} {σ:cm} (ht:P.underlying t=some (.map kt et)) (hkt:P.underlying kt=some kd) (hk:IsKey kd k) (ho:w.heap[b]?=some (.map es clock)) (hM:jv kd m σ (.map es clock)) (hz:(zeroValue et).run P w= .ok v0 w) (ok:Bool):
  ∃v,(Instr.lookup t (.map (some b)) k ok).run P w= .ok (bif ok then .tuple #[v,.bool (m k).isSome] else v) w∧match m k with | some c=>VR σ c v | none=>v=v0:=by
 cases hm:m k with
 | none=>
  refine ⟨v0,?_,rfl⟩
  cases ok <;> simp [Instr.lookup,run_underlying ht,MapKept.run_getObj_map ho,run_checkKey hkt hk,run_findKey hkt (hM.none hk hm),Result.andThen,hz]
 | some c=>
  obtain ⟨j,e,h6,h7,h8,h9⟩:=hM.some hk hm
  refine ⟨e.val,?_,h9⟩
  cases ok <;> simp [Instr.lookup,run_underlying ht,MapKept.run_getObj_map ho,run_checkKey hkt hk,run_findKey hkt h6,Result.andThen]
theorem jx (i:Nat) {b kt et:Nat} {kd:TypeDesc} {k v0:Value} {m:Value→Option AV} {c0:AV} (ht:P.underlying t=some (.map kt et)) (hkt:P.underlying kt=some kd) (hx:bw fr x=some (.sc (.map (some b)))) (hy:bw fr y=some (.sc k)) (hk:IsKey kd k) (hL:L[i]?=some (b,ci kd m)) (hz:∀w,(zeroValue et).run P w= .ok v0 w) (h0:∀σ,VR σ c0 v0):
  AO P ⟨d,.lookup t x y false,ty,pos,af,g⟩ fr B L (fun c L'=>c=(m k).getD c0∧L'=L):=by
 intro σ ρ w hρ hw
 obtain ⟨o,ho,hM⟩:=hw.here _ (Ow hL)
 have hM':jv kd m σ o:=hM
 obtain ⟨es,clock,rfl,_⟩:=hM'
 obtain ⟨v,hr,hv⟩:=sa (t:=t) ht hkt hk ho hM (hz w) false
 unfold i8
 rw [show (execOp ρ ⟨d,.lookup t x y false,ty,pos,af,g⟩).run P w= .ok (.value v) w by simp only [execOp,(hρ x _ hx).sc_inv,(hρ y _ hy).sc_inv,Sem.run_bind,Sem.run_pure,Result.andThen,hr];rfl]
 refine ⟨σ,(m k).getD c0,_,cm.le_refl _,?_,hw,rfl,rfl⟩
 cases hm:m k with
 | none=>rw [hm] at hv;dsimp only at hv;subst hv;exact h0 σ
 | some c=>rw [hm] at hv;exact hv
theorem qQ (i:Nat) {b kt et:Nat} {kd:TypeDesc} {k v0:Value} {m:Value→Option AV} {c0:AV} (ht:P.underlying t=some (.map kt et)) (hkt:P.underlying kt=some kd) (hx:bw fr x=some (.sc (.map (some b)))) (hy:bw fr y=some (.sc k)) (hk:IsKey kd k) (hL:L[i]?=some (b,ci kd m)) (hz:∀w,(zeroValue et).run P w= .ok v0 w) (h0:∀σ,VR σ c0 v0):
  AO P ⟨d,.lookup t x y true,ty,pos,af,g⟩ fr B L (fun c L'=>c= .tup [(m k).getD c0,.sc (.bool (m k).isSome)]∧L'=L):=by
 intro σ ρ w hρ hw
 obtain ⟨o,ho,hM⟩:=hw.here _ (Ow hL)
 have hM':jv kd m σ o:=hM
 obtain ⟨es,clock,rfl,_⟩:=hM'
 obtain ⟨v,hr,hv⟩:=sa (t:=t) ht hkt hk ho hM (hz w) true
 unfold i8
 rw [show (execOp ρ ⟨d,.lookup t x y true,ty,pos,af,g⟩).run P w= .ok (.value (.tuple #[v,.bool (m k).isSome])) w by simp only [execOp,(hρ x _ hx).sc_inv,(hρ y _ hy).sc_inv,Sem.run_bind,Sem.run_pure,Result.andThen,hr];rfl]
 refine ⟨σ,.tup [(m k).getD c0,.sc (.bool (m k).isSome)],_,cm.le_refl _,?_,hw,rfl,rfl⟩
 have h1:VR σ ((m k).getD c0) v:=by
  cases hm:m k with
  | none=>rw [hm] at hv;dsimp only at hv;subst hv;exact h0 σ
  | some c=>rw [hm] at hv;exact hv
 have h2:d4 σ [(m k).getD c0,.sc (.bool (m k).isSome)] [v,.bool (m k).isSome]:= .cons h1 (.cons (.sc _) .nil)
 exact .tup _ _ h2.1 h2.2
def lJ (P:Program) (e:Nat) (v:Value):Bool:=match P.info? e with | some i=>(match i.zero with | some z=>AM z v | none=>false) | none=>false
theorem ge {e:Nat} {v:Value} (h:lJ P e v=true) (w:World):(zeroValue e).run P w= .ok v w:=by
 unfold lJ at h
 split at h
 ·rename_i i hi
  split at h
  ·rename_i z hz
   rw [←sy h]
   simp [zeroValue,typeInfo,hi,hz]
  ·cases h
 ·cases h
end
section
variable {P:Program} {r:Option Nat} {ops:Array Oper} {Q:Exit→Act→World→Prop} {nt:Nat} {D:List Deferred} {fr:bZ} {B:Bs} {L:AL} {rest:List Oper} {d:Nat} {ty t:TypeId} {pos:String} {af:Array Edge} {x y z:Operand} {u:AV}
theorem eo (kd:TypeDesc) (h:∀b,bF P r ops Q nt D rest ((d,.sc (.map (some b)))::fr) B ((b,ci kd fun _=>none)::L)) (hd:Nat.ble nt d=false:=by rfl):bF P r ops Q nt D (⟨some d,.makeMap t none,ty,pos,af,none⟩::rest) fr B L:=
 cn hd rfl (xo kd) fun c L' ⟨b,h1,h2⟩=>by subst h1;subst h2;exact h b
theorem dA (i:Nat) (m':Value→Option AV) {b kt et:Nat} {kd:TypeDesc} {k:Value} {m:Value→Option AV} (ht:P.underlying t=some (.map kt et)) (hkt:P.underlying kt=some kd) (hx:bw fr x=some (.sc (.map (some b)))) (hy:bw fr y=some (.sc k)) (hk:IsKey kd k) (hz:bw fr z=some u) (hL:L[i]?=some (b,ci kd m)) (h1:m' k=some u) (h2:∀q,q≠k→m' q=m q)
  (h:bF P r ops Q nt D rest fr B (fN L i (ci kd m'))):bF P r ops Q nt D (⟨none,.mapUpdate t x y z,ty,pos,af,none⟩::rest) fr B L:=
 n3 rfl (u9 i ht hkt hx hy hk hz hL h1 h2) fun c L' h3=>by subst h3;exact h
theorem lu (i:Nat) (v0:Value) {b kt et:Nat} {kd:TypeDesc} {k:Value} {m:Value→Option AV} (ht:P.underlying t=some (.map kt et)) (hkt:P.underlying kt=some kd) (hx:bw fr x=some (.sc (.map (some b)))) (hy:bw fr y=some (.sc k)) (hk:IsKey kd k) (hL:L[i]?=some (b,ci kd m)) (hz:lJ P et v0=true) (hd:Nat.ble nt d=false)
  (h:bF P r ops Q nt D rest ((d,(m k).getD (.sc v0))::fr) B L):bF P r ops Q nt D (⟨some d,.lookup t x y false,ty,pos,af,none⟩::rest) fr B L:=
 cn hd rfl (jx i ht hkt hx hy hk hL (ge hz) fun _=> .sc _) fun c L' ⟨h1,h2⟩=>by subst h1;subst h2;exact h
theorem gQ (i:Nat) (v0:Value) {b kt et:Nat} {kd:TypeDesc} {k:Value} {m:Value→Option AV} (ht:P.underlying t=some (.map kt et)) (hkt:P.underlying kt=some kd) (hx:bw fr x=some (.sc (.map (some b)))) (hy:bw fr y=some (.sc k)) (hk:IsKey kd k) (hL:L[i]?=some (b,ci kd m)) (hz:lJ P et v0=true) (hd:Nat.ble nt d=false)
  (h:bF P r ops Q nt D rest ((d,.tup [(m k).getD (.sc v0),.sc (.bool (m k).isSome)])::fr) B L):bF P r ops Q nt D (⟨some d,.lookup t x y true,ty,pos,af,none⟩::rest) fr B L:=
 cn hd rfl (qQ i ht hkt hx hy hk hL (ge hz) fun _=> .sc _) fun c L' ⟨h1,h2⟩=>by subst h1;subst h2;exact h
end
theorem W11 {A B:Prop} (k:B) (h:W00 B→A:=by intro k;(repeat' (first|refine aE ?_|(apply dQ;refine eY ?_)|fail));exact k.g):A:=h ⟨k⟩
theorem W1a {A B:Prop} (k:B) (h:W00 B→A:=by intro k;(repeat' (first|refine aE ?_|refine lc rfl rfl ?_));exact k.g):A:=h ⟨k⟩
end Go.Proofs.YtamjlkdanllgjaaGreatDoor
