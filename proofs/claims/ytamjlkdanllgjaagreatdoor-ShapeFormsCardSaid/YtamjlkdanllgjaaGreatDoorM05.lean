/-
  Fonts as data, and as abstract values.
-/
import Derived.Test.YtamjlkdanllgjaaGreatDoorM04
namespace Go.Proofs.YtamjlkdanllgjaaGreatDoor
open Go.RowKit
abbrev aF (z:Int):AV:= .sc (.int .i64 z)
abbrev mP (s:ByteArray):AV:= .sc (.string s)
abbrev cw (b:Bool):AV:= .sc (.bool b)
structure eL where
 X:Int
 Y:Int
 On:Bool
structure dA where
 Glyph:Int
 X:Int
 Y:Int
structure dK where
 Kind:Int
 Class:Int
 X:Int
 Y:Int
structure ez where
 Region:Int
 Point:Int
 X:Int
 Y:Int
structure eJ where
 Op:Int
 A:Int
structure bn where
 Name:ByteArray
 Advance:Int
 Mark:Bool
 Points:List eL
 Ends:List Int
 Parts:List dA
 Anchors:List dK
 Deltas:List ez
 Hint:List eJ
structure dh where
 Rune:Int
 Glyph:Int
structure jr where
 At:Int
 Lookup:Int
structure bh where
 Back:List (List Int)
 In:List (List Int)
 Ahead:List (List Int)
 Out:List Int
 Calls:List jr
 X:Int
structure b6 where
 Kind:Int
 Ignore:Bool
 Rules:List bh
structure bQ where
 Name:ByteArray
 Lookups:List Int
structure eV where
 Name:ByteArray
 Min:Int
 Def:Int
 Max:Int
structure fw where
 Start:Int
 Peak:Int
 End:Int
structure aS where
 Unit:Int
 Glyphs:List bn
 Chars:List dh
 Lookups:List b6
 Features:List bQ
 Axes:List eV
 Regions:List (List fw)
 Funcs:List (List eJ)
 Cvt:List Int
def bj (l:List (List Int)):List (List AV):=l.map fun q=>[.imm 1 (aT q)]
def lA (l:List ByteArray):List (List AV):=l.map fun s=>[mP s]
def fk (p:eL):List AV:=[aF p.X,aF p.Y,cw p.On]
def fG (p:dA):List AV:=[aF p.Glyph,aF p.X,aF p.Y]
def eD (p:dK):List AV:=[aF p.Kind,aF p.Class,aF p.X,aF p.Y]
def gA (p:ez):List AV:=[aF p.Region,aF p.Point,aF p.X,aF p.Y]
def fF (p:eJ):List AV:=[aF p.Op,aF p.A]
def bK (g:bn):List AV:=[mP g.Name,aF g.Advance,cw g.Mark,.imm 3 (g.Points.map fk),.imm 1 (aT g.Ends),.imm 3 (g.Parts.map fG),.imm 4 (g.Anchors.map eD),.imm 4 (g.Deltas.map gA),.imm 2 (g.Hint.map fF)]
def eE (c:dh):List AV:=[aF c.Rune,aF c.Glyph]
def gu (c:jr):List AV:=[aF c.At,aF c.Lookup]
def bR (r:bh):List AV:=[.imm 1 (bj r.Back),.imm 1 (bj r.In),.imm 1 (bj r.Ahead),.imm 1 (aT r.Out),.imm 2 (r.Calls.map gu),aF r.X]
def bA (l:b6):List AV:=[aF l.Kind,cw l.Ignore,.imm 6 (l.Rules.map bR)]
def bJ (t:bQ):List AV:=[mP t.Name,.imm 1 (aT t.Lookups)]
def fx (a:eV):List AV:=[mP a.Name,aF a.Min,aF a.Def,aF a.Max]
def tK (t:fw):List AV:=[aF t.Start,aF t.Peak,aF t.End]
def dV (r:List fw):List AV:=[.imm 3 (r.map tK)]
def fy (l:List eJ):List AV:=[.imm 2 (l.map fF)]
def bY (f:aS):List AV:=[aF f.Unit,.imm 9 (f.Glyphs.map bK),.imm 2 (f.Chars.map eE),.imm 3 (f.Lookups.map bA),.imm 2 (f.Features.map bJ),.imm 4 (f.Axes.map fx),.imm 1 (f.Regions.map dV),.imm 1 (f.Funcs.map fy),.imm 1 (aT f.Cvt)]
abbrev cD (f:aS):AV:= .agg (bY f)
theorem c6 {α:Type} {c:α→List AV} {l:List α} {i:Nat} {a:α} (h:l[i]?=some a):(l.map c)[i]?=some (c a):=by simp [h]
theorem uO (l:List ByteArray):(lA l).length=l.length:=by simp [lA]
theorem Da {l:List ByteArray} {i:Nat} {z:ByteArray} (h:l[i]?=some z):(lA l)[i]?=some [mP z]:=by simp [lA,h]
theorem c8 (l:List (List Int)):(bj l).length=l.length:=by simp [bj]
theorem gh {l:List (List Int)} {i:Nat} {z:List Int} (h:l[i]?=some z):(bj l)[i]?=some [.imm 1 (aT z)]:=by simp [bj,h]
section
variable {P:Program} {tt:TT} {r:Option Nat} {Q:Exit→Act→World→Prop} {nt:Nat} {D:List Deferred} {fr:bP} {B:Bs} {L:AL} {l:List Oper} {fin:jz}
variable {k j:Nat} {s:Ak} {sk:lE} {acc:bP} {dd:Option Tmp} {op:Op} {ty t t':TypeId} {pos:String} {af:Array Edge} {g:Option (Nat×Bool)} {x y c:Operand} {u:AV} {want b:Bool}
def cu (P:Program) (l:List Oper) (fr:bP) (fin:jz) (k:Nat) (s:Ak) (o:Oper) (sk:lE) (acc:bP) (L:AL):Prop:=l[k]?=some o→DA P l fr fin ((k,s)::sk) acc L
theorem aJ {o:Oper} (h:cu P l fr fin k s o sk acc L) (ho:l[k]?=some o:=by rfl):DA P l fr fin ((k,s)::sk) acc L:=h ho
def jt (o:Oper) (acc:bP):Prop:=match o.guard with
 | none=>True
 | some (j,want)=>qw acc j= .sc (.bool want)
theorem mU {o:Oper} {R:AV→AL→Prop} (hg:jt o acc) (h:∀B,AO P o (cE l.toArray acc fr o.after.toList) B L R):y0 P l fr o acc L R:=by
 unfold y0
 unfold jt at hg
 split
 ·exact h
 ·rename_i j want hq
  rw [hq] at hg
  exact .inl ⟨hg,h⟩
theorem fI {o:Oper} (hg:jt o acc) (h:∀B L,AO P o (cE l.toArray acc fr o.after.toList) B L (fun c L'=>c=u∧L'=L)) (hn:DA P l fr fin sk ((k,u)::acc) L):cu P l fr fin k .v o sk acc L:=by
 intro ho
 obtain ⟨pl,hpl⟩:=hn
 exact ⟨.val k u pl,.v,sk,o,rfl,ho,.inl ⟨rfl,fun L=>mU hg fun B=>h B L⟩,hpl⟩
theorem Ba {o:Oper} (hg:jt o acc) (h:∀B,AO P o (cE l.toArray acc fr o.after.toList) B L (fun c L'=>c=u∧L'=L)) (hn:DA P l fr fin sk ((k,u)::acc) L):cu P l fr fin k .l o sk acc L:=by
 intro ho
 obtain ⟨pl,hpl⟩:=hn
 exact ⟨.val k u pl,.l,sk,o,rfl,ho,.inr (.inl ⟨rfl,mU hg fun B=>h B⟩),hpl⟩
theorem jQ {o:Oper} {R:AV→AL→Prop} (hg:jt o acc) (h:∀B,AO P o (cE l.toArray acc fr o.after.toList) B L R) (hn:∀c L',R c L'→DA P l fr fin sk ((k,c)::acc) L'):cu P l fr fin k .e o sk acc L:=by
 intro ho
 have hn':∀c L',∃pl,R c L'→cY P l fr fin pl sk ((k,c)::acc) L':=fun c L'=>by
  by_cases hr:R c L'
  ·obtain ⟨pl,hpl⟩:=hn c L' hr
   exact ⟨pl,fun _=>hpl⟩
  ·exact ⟨.fin,fun h=>absurd h hr⟩
 exact ⟨.eff k R fun c L'=>Classical.choose (hn' c L'),.e,sk,o,.inl rfl,rfl,ho,mU hg h,fun c L' hr=>Classical.choose_spec (hn' c L') hr⟩
theorem GV {o:Oper} (hK:fU fin.gs L) (hg:jt o acc) (h:∀B L,fU fin.gs L→AO P o (cE l.toArray acc fr o.after.toList) B L (fun c L'=>c=u∧L'=L)) (hn:DA P l fr fin sk ((k,u)::acc) L):cu P l fr fin k .k o sk acc L:=by
 intro ho
 obtain ⟨pl,hpl⟩:=hn
 exact ⟨.val k u pl,.k,sk,o,rfl,ho,.inr (.inr ⟨rfl,hK,fun L hL=>mU hg fun B=>h B L hL⟩),hpl⟩
theorem xc {o:Oper} {R:AV→AL→Prop} (hX:∀c L',R c L'→fU fin.gs L→fU fin.gs L') (hg:jt o acc) (h:∀B,AO P o (cE l.toArray acc fr o.after.toList) B L R) (hn:∀c L',R c L'→DA P l fr fin sk ((k,c)::acc) L'):cu P l fr fin k .f o sk acc L:=by
 intro ho
 have hn':∀c L',∃pl,R c L'→cY P l fr fin pl sk ((k,c)::acc) L':=fun c L'=>by
  by_cases hr:R c L'
  ·obtain ⟨pl,hpl⟩:=hn c L' hr
   exact ⟨pl,fun _=>hpl⟩
  ·exact ⟨.fin,fun h=>absurd h hr⟩
 exact ⟨.eff k R fun c L'=>Classical.choose (hn' c L'),.f,sk,o,.inr (.inr ⟨rfl,hX⟩),rfl,ho,mU hg h,fun c L' hr=>Classical.choose_spec (hn' c L') hr⟩
theorem GU {o:Oper} {R:AV→AL→Prop} (hX:∀c L',R c L'→∃X,L'=X++L) (hg:jt o acc) (h:∀B,AO P o (cE l.toArray acc fr o.after.toList) B L R) (hn:∀c L',R c L'→DA P l fr fin sk ((k,c)::acc) L'):cu P l fr fin k .a o sk acc L:=by
 intro ho
 have hn':∀c L',∃pl,R c L'→cY P l fr fin pl sk ((k,c)::acc) L':=fun c L'=>by
  by_cases hr:R c L'
  ·obtain ⟨pl,hpl⟩:=hn c L' hr
   exact ⟨pl,fun _=>hpl⟩
  ·exact ⟨.fin,fun h=>absurd h hr⟩
 exact ⟨.eff k R fun c L'=>Classical.choose (hn' c L'),.a,sk,o,.inr (.inl ⟨rfl,hX⟩),rfl,ho,mU hg h,fun c L' hr=>Classical.choose_spec (hn' c L') hr⟩
theorem tU {op:Op} (hj:qw acc j= .sc (.bool b)) (hb:(b==want)=false) (hn:DA P l fr fin sk ((k,.sc undef)::acc) L):cu P l fr fin k .v ⟨dd,op,ty,pos,af,some (j,want)⟩ sk acc L:=by
 intro ho
 obtain ⟨pl,hpl⟩:=hn
 exact ⟨.val k (.sc undef) pl,.v,sk,_,rfl,ho,.inl ⟨rfl,fun L=> .inr ⟨⟨_,hj,fun e=>by injection e with e;subst e;simp at hb⟩,rfl,rfl⟩⟩,hpl⟩
theorem Dp {o:Oper} {fr:bP} (h:Av P o fr u):∀B L,AO P o fr B L (fun c L'=>c=u∧L'=L):=fun _ _=>h.ao
theorem bw (ok:dG P tt) (h:DA P l fr fin sk ((k,u)::acc) L) (hu:ql tt (cE l.toArray acc fr af.toList) op=some u:=by rfl) (hg:jt ⟨dd,op,ty,pos,af,g⟩ acc:=by first | trivial | rfl):cu P l fr fin k .v ⟨dd,op,ty,pos,af,g⟩ sk acc L:=fI hg (Dp (lz ok hu)) h
theorem iq {bop:BinOp} (h:cu P l fr fin k .v ⟨dd,.binOp bop t x y t',ty,pos,af,g⟩ sk acc L):cu P l fr fin k .v ⟨dd,.binOp bop t x y t',ty,pos,af,g⟩ sk acc L:=h
theorem kT {bop:BinOp} (h:DA P l fr fin sk ((k,u)::acc) L) (ho:Av P ⟨dd,.binOp bop t x y t',ty,pos,af,g⟩ (cE l.toArray acc fr af.toList) u:=by first | exact wS rfl rfl (by omega) | exact wY rfl rfl (by omega) | exact wX rfl rfl (by omega)) (hg:jt ⟨dd,.binOp bop t x y t',ty,pos,af,g⟩ acc:=by first | trivial | rfl):cu P l fr fin k .v ⟨dd,.binOp bop t x y t',ty,pos,af,g⟩ sk acc L:=fI hg (Dp ho) h
theorem cq (h:cu P l fr fin k .v ⟨dd,.indexAddr t x y,ty,pos,af,g⟩ sk acc L):cu P l fr fin k .v ⟨dd,.indexAddr t x y,ty,pos,af,g⟩ sk acc L:=h
theorem cQ (ok:dG P tt) {e sz by_ s:Nat} {ll:List (List AV)} {ik:IntKind} {i:Int} {es:List AV} (h:DA P l fr fin sk ((k,.iptr es)::acc) L) (ht:iS tt t=some (e,sz,by_):=by rfl) (hx:bc (cE l.toArray acc fr af.toList) x=some u:=by rfl) (hu:iE u=some (s,ll):=by rfl) (hs:Nat.beq s sz=true:=by rfl) (hy:bc (cE l.toArray acc fr af.toList) y=some (.sc (.int ik i)):=by rfl) (h0:0≤i:=by omega) (hl:ll[i.toNat]?=some es:=by first | assumption | (simp only [Int.toNat_natCast];assumption)) (hg:jt ⟨dd,.indexAddr t x y,ty,pos,af,g⟩ acc:=by first | trivial | rfl):cu P l fr fin k .v ⟨dd,.indexAddr t x y,ty,pos,af,g⟩ sk acc L:=fI hg (Dp (wV (bv ok ht).1 hx (d8 hu) hs hy h0 hl)) h
theorem cM {f:FuncId} {args:Array Operand} {ts:Array TypeId} (h:cu P l fr fin k .v ⟨dd,.call ⟨.value (.func f),args,ts⟩,ty,pos,af,g⟩ sk acc L):cu P l fr fin k .v ⟨dd,.call ⟨.value (.func f),args,ts⟩,ty,pos,af,g⟩ sk acc L:=h
theorem dc {f:FuncId} {args:Array Operand} {ts:Array TypeId} {cs ds:List AV} [bC P f] (h:DA P l fr fin sk ((k,u)::acc) L) (hv:eM (cE l.toArray acc fr af.toList) args.toList=some cs:=by rfl) (hi:nk cs=some ds:=by rfl) (hc:AD P f ds u:=by infer_instance) (hg:jt ⟨dd,.call ⟨.value (.func f),args,ts⟩,ty,pos,af,g⟩ acc:=by first | trivial | rfl):cu P l fr fin k .v ⟨dd,.call ⟨.value (.func f),args,ts⟩,ty,pos,af,g⟩ sk acc L:=fI hg (fun _ _=>Ap hv (by rw [ic hi];exact hc.det)) h
theorem cn (ok:dG P tt) (i:Nat) {b kk:Nat} {cs:List AV} {e:TypeId} (ht:Dq tt t=true) (hx:bc (cE l.toArray acc fr af.toList) x=some (.sc (.pointer (some ⟨b,kk,none⟩)))) (hL:L[i]?=some (b,.box cs e)) (hc:cs[kk]?=some u) (hg:jt ⟨dd,.load t x,ty,pos,af,g⟩ acc) (h:DA P l fr fin sk ((k,u)::acc) L):cu P l fr fin k .l ⟨dd,.load t x,ty,pos,af,g⟩ sk acc L:=Ba hg (fun _=>s4 i (ck ok ht) hx hL hc) h
theorem sa (ok:dG P tt) (i:Nat) {b kk n:Nat} {cs:List AV} {e:TypeId} (ht:Iy tt t=some n) (hx:bc (cE l.toArray acc fr af.toList) x=some (.sc (.pointer (some ⟨b,kk,none⟩)))) (hL:L[i]?=some (b,.box cs e)) (hc:Nat.ble (kk+n) cs.length=true) (hg:jt ⟨dd,.load t x,ty,pos,af,g⟩ acc) (h:DA P l fr fin sk ((k,.agg ((cs.drop kk).take n))::acc) L):cu P l fr fin k .l ⟨dd,.load t x,ty,pos,af,g⟩ sk acc L:=Ba hg (fun _=>tD i (dL ok ht) hx hL hc) h
theorem yT {gs:KpL} {i b kk:Nat} {v:AV} (hi:gs[i]?=some (.cell (b,kk,v))) {L:AL} (h:fU gs L):∃(j:Nat) (cs:List AV) (e:TypeId),L[j]?=some (b,.box cs e)∧cs[kk]?=some v:=by
 obtain ⟨cs,e,h1,h2⟩:=h _ (Mx hi)
 obtain ⟨j,hj⟩:=List.mem_iff_getElem?.1 h1
 exact ⟨j,cs,e,hj,h2⟩
theorem sd (ok:dG P tt) (i:Nat) {b kk:Nat} (ht:Dq tt t=true) (hx:bc (cE l.toArray acc fr af.toList) x=some (.sc (.pointer (some ⟨b,kk,none⟩)))) (hi:fin.gs[i]?=some (.cell (b,kk,u))) (hK:fU fin.gs L) (hg:jt ⟨dd,.load t x,ty,pos,af,g⟩ acc) (h:DA P l fr fin sk ((k,u)::acc) L):cu P l fr fin k .k ⟨dd,.load t x,ty,pos,af,g⟩ sk acc L:=
 GV hK hg (fun _ L' hL'=>by
  obtain ⟨j,cs,e,h1,h2⟩:=yT hi hL'
  exact s4 j (ck ok ht) hx h1 h2) h
theorem wZ {d:Option Tmp} {e sz by_ n:Nat} {parts:Array (Nat×Operand)} {vs:List AV} {xs:List (List AV)} (hc:jE P t e sz by_) (hsz:0 < sz) (hv:eM fr (parts.toList.map (·.2))=some vs) (hxs:iZ vs=some xs) (hn:Nat.beq xs.length n=true) (hi:parts.toList.map (·.1)=List.range' 0 n) (hz:xs.all (fun q=>Nat.beq q.length sz)=true) (h24:Nat.ble (n * sz) 16777216=true):
  AO P ⟨d,.buildSlice t n parts,ty,pos,af,g⟩ fr B L (fun c L'=>c= .imm sz xs∧L'=L):=by
 intro σ ρ w hρ hw
 refine (Ar hc hsz hv hxs hn hi hz h24 σ ρ w hρ hw).mono fun v w' hh=>?_
 obtain ⟨τ,c,L',h1,h2,h3,b,rfl,rfl⟩:=hh
 exact ⟨τ,_,L,h1,h2.im,h3.sublist (.cons _ (List.Sublist.refl _)),rfl,rfl⟩
theorem kU (ok:dG P tt) {e sz by_ n:Nat} {parts:Array (Nat×Operand)} {vs:List AV} {xs:List (List AV)} (h:DA P l fr fin sk ((k,.imm sz xs)::acc) L) (ht:iS tt t=some (e,sz,by_):=by rfl) (hv:eM (cE l.toArray acc fr af.toList) (parts.toList.map (·.2))=some vs:=by rfl) (hxs:iZ vs=some xs:=by rfl) (hn:Nat.beq xs.length n=true:=by rfl) (hi:parts.toList.map (·.1)=List.range' 0 n:=by rfl) (hz:xs.all (fun q=>Nat.beq q.length sz)=true:=by rfl) (h24:Nat.ble (n * sz) 16777216=true:=by rfl) (hg:jt ⟨dd,.buildSlice t n parts,ty,pos,af,g⟩ acc:=by first | trivial | rfl):
  cu P l fr fin k .v ⟨dd,.buildSlice t n parts,ty,pos,af,g⟩ sk acc L:=fI hg (fun _ _=>wZ (bv ok ht).1 (bv ok ht).2 hv hxs hn hi hz h24) h
theorem cA (ok:dG P tt) {r:Option Nat} {ops:Array Oper} {Q:Exit→Act→World→Prop} {nt:Nat} {D:List Deferred} {rest:List Oper} {d e sz by_ n:Nat} {parts:Array (Nat×Operand)} {vs:List AV} {xs:List (List AV)} (h:bz P r ops Q nt D rest ((d,.imm sz xs)::fr) B L) (ht:iS tt t=some (e,sz,by_):=by rfl) (hv:eM fr (parts.toList.map (·.2))=some vs:=by rfl) (hxs:iZ vs=some xs:=by rfl) (hn:Nat.beq xs.length n=true:=by rfl) (hi:parts.toList.map (·.1)=List.range' 0 n:=by rfl) (hz:xs.all (fun q=>Nat.beq q.length sz)=true:=by rfl) (h24:Nat.ble (n * sz) 16777216=true:=by rfl) (hd:Nat.ble nt d=false:=by rfl):
  bz P r ops Q nt D (⟨some d,.buildSlice t n parts,ty,pos,af,none⟩::rest) fr B L:=by
 obtain ⟨h1,h2⟩:=bv ok ht
 refine ce hd rfl (wZ h1 h2 hv hxs hn hi hz h24) fun c L' hh=>?_
 obtain ⟨h1,h2⟩:=hh
 subst h1;subst h2
 exact h
theorem bG {gs:KpL} {n0:Nat} {fr0:bP} {rest:List Oper} (ks:List Nat) (hk:fE (ir l.toArray acc fr n0) ks=some fr0) (hr:l.drop n0=rest) (h:bz P r l.toArray Q nt D rest fr0 B L):DA P l fr ⟨Ez P r l n0 Q nt D fr B none,gs⟩ [] acc L:=
 ⟨.fin,rfl,by rw [←hr] at h;exact AA (dQ ks hk) (fun _ _ h=>h) h⟩
theorem MG {gs:KpL} {n0:Nat} {fr0:bP} {rest:List Oper} (ks:List Nat) (zz:fE (ir l.toArray acc fr n0) ks=some fr0∧l.drop n0=rest) (h:bz P r l.toArray Q nt D rest fr0 B L):DA P l fr ⟨Ez P r l n0 Q nt D fr B none,gs⟩ [] acc L:=bG ks zz.1 zz.2 h
end
end Go.Proofs.YtamjlkdanllgjaaGreatDoor
namespace Go.Proofs.YtamjlkdanllgjaaGreatDoor
open Go.RowKit
attribute [local irreducible] AT bz AX AO Av Kt aZ cY DA cu
set_option maxRecDepth 8000
structure aM where
 Glyph:Int
 Cluster:Int
 Form:Int
 Advance:Int
 X:Int
 Y:Int
def cg (x:aM):List AV:=[aF x.Glyph,aF x.Cluster,aF x.Form,aF x.Advance,aF x.X,aF x.Y]
def FX (ms:List Bool) (g:Int):Bool:=decide (0≤g) && ms.getD g.toNat false
def mz (ms:List Bool) (ig:Bool) (x:aM):Bool:= !(ig && FX ms x.Glyph)
def jn (ms:List Bool) (ig:Bool) (run:List aM) (i:Nat):Bool:=match run[i]? with
 | some x=>mz ms ig x
 | none=>false
def dU (ms:List Bool) (ig:Bool) (run:List aM) (i:Nat):List Nat:=(List.range' i (run.length - i)).filter (jn ms ig run)
def lP (ms:List Bool) (ig:Bool) (run:List aM):Nat→List Nat
 | 0=>[]
 | i+1=>if jn ms ig run i=true then i::lP ms ig run i else lP ms ig run i
def fj (run:List aM) (i:Nat):Int:=match run[i]? with
 | some x=>x.Glyph
 | none=> -1
def eB:List (List Int)→List Int→Bool
 | [],_=>true
 | _::_,[]=>false
 | s::ss,g::gs=>s.contains g && eB ss gs
def eg (ms:List Bool) (ig:Bool) (run:List aM) (i:Nat) (r:bh):Bool:=
 !r.In.isEmpty && (eB (r.In++r.Ahead) ((dU ms ig run i).map (fj run)) && eB r.Back ((lP ms ig run i).map (fj run)))
def il (ms:List Bool) (ig:Bool) (run:List aM) (i:Nat) (forms:List Int):Bool:=match run[i]? with
 | some x=>mz ms ig x && (forms.isEmpty || forms.contains x.Form)
 | none=>false
def ej (ms:List Bool) (l:b6) (run:List aM) (i:Nat) (forms:List Int):Option bh:=if il ms l.Ignore run i forms=true then l.Rules.find? (eg ms l.Ignore run i) else none
def dm (ms:List Bool) (l:b6) (run:List aM) (i:Nat) (r:bh):List Nat:=(dU ms l.Ignore run i).take r.In.length
def eU (r:bh) (i:Nat) (run:List aM):List aM:=match run[i]? with
 | none=>run
 | some x=>match r.Out[(r.In.headD []).idxOf x.Glyph]? with
  | none=>run
  | some g=>if (r.In.headD []).idxOf x.Glyph < (r.In.headD []).length then run.set i { x with Glyph:=g } else run
def gX (r:bh) (i:Nat) (run:List aM):List aM:=match run[i]? with
 | none=>run
 | some x=>if run.length - 1+r.Out.length > 500∧1 < r.Out.length then run else run.take i++(r.Out.map fun g=>{ x with Glyph:=g })++run.drop (i+1)
def eW:List Nat→List aM→List aM
 | [],run=>run
 | p::ps,run=>(eW ps run).eraseIdx p
def np (run:List aM) (c:Int) (p:Nat):Int:=match run[p]? with
 | some x=>min c x.Cluster
 | none=>c
def gB (run:List aM) (ps:List Nat) (c:Int):Int:=ps.foldl (np run) c
def mg (r:bh) (ps:List Nat) (run:List aM):List aM:=match ps,r.Out with
 | p::q,g::_=>match run[p]? with
  | some x=>eW q (run.set p { x with Glyph:=g,Cluster:=gB run (p::q) x.Cluster })
  | none=>run
 | _,_=>run
def rF (r:bh) (i:Nat) (run:List aM):List aM:=match run[i]? with
 | some x=>run.set i { x with Advance:=IntKind.i64.wrap (x.Advance+r.X) }
 | none=>run
def sL (ms:List Bool) (ig:Bool) (run:List aM) (i:Nat) (n:Int):Option Nat:=if 0≤n then (dU ms ig run i)[n.toNat]? else none
def fW (l:b6) (r:bh) (ps:List Nat) (run:List aM):List aM:=
 if l.Kind=1∨l.Kind=5 then eU r (ps.headD 0) run
 else if l.Kind=2 then gX r (ps.headD 0) run
 else if l.Kind=3 then mg r ps run
 else if l.Kind=6 then rF r (ps.headD 0) run
 else run
abbrev JC:=b6→bh→List Nat→List aM→List aM
def lS (ms:List Bool) (ls:List b6) (d:JC) (n:Int) (i:Nat) (run:List aM):List aM:=
 if n < 0 then run else match ls[n.toNat]? with
 | none=>run
 | some l=>if l.Kind < 1∨4 < l.Kind then run else match ej ms l run i [] with
  | none=>run
  | some r=>d l r (dm ms l run i r) run
def fm (ms:List Bool) (ls:List b6) (d:JC) (ig:Bool) (i:Nat) (run:List aM) (c:jr):List aM:=match sL ms ig run i c.At with
 | none=>run
 | some p=>lS ms ls d c.Lookup p run
def iA (ms:List Bool) (ls:List b6):Nat→JC
 | 0=>fun l r ps run=>fW l r ps run
 | k+1=>fun l r ps run=>if l.Kind=4 then r.Calls.foldl (fm ms ls (iA ms ls k) l.Ignore (ps.headD 0)) run else fW l r ps run
def rE (l:b6) (i last:Nat) (run run':List aM):Nat:=
 if l.Kind=4 then max (run'.length - (run.length - 1 - last)) (i+1)
 else if l.Kind=6∧i < last then last
 else run'.length - (run.length - 1 - last)
def tg (ms:List Bool) (ls:List b6) (l:b6) (forms:List Int):Nat→Nat→List aM→List aM
 | 0,_,run=>run
 | k+1,i,run=>if i < run.length then match ej ms l run i forms with
   | none=>tg ms ls l forms k (i+1) run
   | some r=>tg ms ls l forms k (rE l i ((dm ms l run i r).getLastD i) run (iA ms ls 4 l r (dm ms l run i r) run)) (iA ms ls 4 l r (dm ms l run i r) run)
  else run
def jv (ms:List Bool) (ls:List b6) (l:b6) (forms:List Int):Nat→List aM→List aM
 | 0,run=>run
 | i+1,run=>jv ms ls l forms i (match ej ms l run i forms with
  | none=>run
  | some r=>iA ms ls 4 l r (dm ms l run i r) run)
def dB (ms:List Bool) (ls:List b6) (n:Int) (run:List aM) (forms:List Int):List aM:=
 if n < 0 then run else match ls[n.toNat]? with
 | none=>run
 | some l=>if l.Kind < 1∨6 < l.Kind then run else if l.Kind=5 then jv ms ls l forms run.length run else tg ms ls l forms run.length 0 run
set_option maxRecDepth 8000
def c9 (p:Nat→Bool):Nat→Nat
 | 0=>0
 | n+1=>c9 p n ||| (if p n=true then 2 ^ n else 0)
theorem c7 (p:Nat→Bool) (i:Nat):∀n,(c9 p n).testBit i=(decide (i < n) && p i)
 | 0=>by simp [c9]
 | n+1=>by
  rw [c9,Nat.testBit_or,c7 p i n]
  by_cases hi:i=n
  ·subst hi
   cases hp:p i <;> simp [Nat.testBit_two_pow_self]
  ·have h1:decide (i < n+1)=decide (i < n):=decide_eq_decide.2 (by omega)
   have h2:(if p n=true then 2 ^ n else 0).testBit i=false:=by
    split
    ·rw [Nat.testBit_two_pow_of_ne (by omega)]
    ·simp
   rw [h1,h2,Bool.or_false]
theorem lQ (p:Nat→Bool) (n:Nat):c9 p n < 2 ^ n:=Nat.lt_pow_two_of_testBit _ fun i hi=>by
 rw [c7,decide_eq_false (by omega),Bool.false_and]
theorem gt {x y:Nat} (h:∀i,x.testBit i=y.testBit i):x=y:=Nat.eq_of_testBit_eq h
theorem pc {p:Nat→Bool} {n:Nat}:c9 p n=0↔∀i,i < n→p i=false:=by
 constructor
 ·intro h i hi
  have:=c7 p i n
  rw [h,Nat.zero_testBit,decide_eq_true hi,Bool.true_and] at this
  exact this.symm
 ·intro h
  refine gt fun i=>?_
  rw [c7,Nat.zero_testBit]
  by_cases hi:i < n
  ·rw [h i hi,Bool.and_false]
  ·rw [decide_eq_false hi,Bool.false_and]
section
variable (cls:List Int) (rows:List (List (List Int))) (have_:Nat→Bool)
def eT (c:Nat) (s:List Int):Bool:=s.any fun g=>decide (0≤g) && (decide (g < cls.length) && decide (cls.getD g.toNat (-1)=(c:Int)))
def kY (m c:Nat) (n:Nat):Bool:=match rows[n]? with
 | some r=>match r[m]? with
  | some s=>eT cls c s
  | none=>false
 | none=>false
def iB (m:Nat) (n:Nat):Bool:=match rows[n]? with
 | some r=>decide (r.length=m)
 | none=>false
def iK (m c:Nat):Nat:=c9 (kY cls rows m c) rows.length
def xf (m:Nat):Nat:=c9 (iB rows m) rows.length
def lj:Nat×Nat:=(0,c9 have_ rows.length)
def bU (p:Nat×Nat) (c:Nat):Nat×Nat:=if p.2 &&& iK cls rows p.1 c=0 then (0,0) else (p.1+1,p.2 &&& iK cls rows p.1 c)
def iC (p:Nat×Nat):Nat:=if p.2=0 then 0 else p.2 &&& xf rows p.1
structure qR (C:Nat) (tab:List (List Int)) (ends:List Nat):Prop where
 met:∃met:List (Nat×Nat),met[0]?=some (lj rows have_)∧met.length=tab.length∧met.length=ends.length∧
  (∀(i:Nat) p,met[i]?=some p→ends[i]?=some (iC rows p))∧
  (∀(i:Nat) p q,met[i]?=some p→tab[i]?=some q→q.length=C∧∀(c:Nat) z,q[c]?=some z→((bU cls rows p c).2=0∧z= -1)∨((bU cls rows p c).2≠0∧0≤z∧met[z.toNat]?=some (bU cls rows p c)))
end
def gE (cls:List Int) (tab:List (List Int)) (s:Int) (g:Int):Int:=
 if s < 0∨g < 0 then -1 else match tab[s.toNat]?,cls[g.toNat]? with
 | some ey,some c=>if c < 0 then -1 else match ey[c.toNat]? with
  | some z=>if 0≤z∧z < tab.length then z else -1
  | none=> -1
 | _,_=> -1
def i9 (ends:List Nat) (s:Int):Nat:=if s < 0 then 0 else ends.getD s.toNat 0
def kZ (cls:List Int) (tab:List (List Int)) (ends:List Nat):Int→List Int→Nat→Nat
 | _,[],told=>told
 | s,g::r,told=>if gE cls tab s g= -1 then told else kZ cls tab ends (gE cls tab s g) r (told ||| i9 ends (gE cls tab s g))
def fA (cls:List Int) (tab:List (List Int)) (ends:List Nat) (gl:List Int):Nat:=kZ cls tab ends 0 gl (i9 ends 0)
structure tj (n:Nat) (C:Nat) (cls:List Int) (sets:List (List Int)):Prop where
 len:cls.length=n
 dom:∀z∈cls,0≤z∧z < C
 apart:∀s∈sets,∀(i j:Nat) z,cls[i]?=some z→cls[j]?=some z→((i:Int)∈s↔(j:Int)∈s)
theorem uq {cls:List Int} {n C:Nat} {sets:List (List Int)} (h:tj n C cls sets) {s:List Int} (hs:s∈sets) (hd:∀g∈s,0≤g∧g < n) {g:Int} (h0:0≤g) {c:Nat} (hc:cls[g.toNat]?=some (c:Int)):eT cls c s=s.contains g:=by
 rw [Bool.eq_iff_iff,List.contains_iff_mem]
 unfold eT
 rw [List.any_eq_true]
 constructor
 ·rintro ⟨x,hx,hb⟩
  simp only [Bool.and_eq_true,decide_eq_true_eq] at hb
  obtain ⟨h1,h2,h3⟩:=hb
  have hxc:cls[x.toNat]?=some (c:Int):=by
   rw [Ia (by omega)]
   rw [List.getD_eq_getElem?_getD,Ia (by omega)] at h3
   exact congrArg some h3
  have:=(h.apart s hs x.toNat g.toNat c hxc hc).1 (by rw [Int.toNat_of_nonneg h1];exact hx)
  rwa [Int.toNat_of_nonneg h0] at this
 ·intro hg
  refine ⟨g,hg,?_⟩
  have hl:=h.len
  have:=hd g hg
  simp only [Bool.and_eq_true,decide_eq_true_eq]
  refine ⟨h0,by omega,?_⟩
  rw [List.getD_eq_getElem?_getD,hc]
  rfl
def mi (rows:List (List (List Int))) (have_:Nat→Bool) (gl:List Int) (n:Nat):Bool:=match rows[n]? with
 | some r=>have_ n && (decide (gl.length≤r.length) && eB (r.take gl.length) gl)
 | none=>false
theorem n7:∀{ss:List (List Int)} {gl:List Int} {s:List Int} {g:Int},ss.length=gl.length→eB (ss++[s]) (gl++[g])=(eB ss gl && s.contains g)
 | [],[],s,g,_=>by simp [eB]
 | [],_::_,_,_,h=>by simp at h
 | _::_,[],_,_,h=>by simp at h
 | s'::ss,g'::gl,s,g,h=>by
  rw [Mt,Mt,eB,n7 (by simpa using h),eB,Bool.and_assoc]
theorem ja:∀{a:List (List Int)} {b:List Int},b.length < a.length→eB a b=false
 | [],_,h=>by simp at h
 | _::_,[],_=>rfl
 | _::a,_::b,h=>by rw [eB,ja (by simpa using h),Bool.and_false]
theorem kA:∀{ss:List (List Int)} {gl x:List Int},ss.length≤gl.length→eB ss (gl++x)=eB ss gl
 | [],_,_,_=>rfl
 | _::_,[],_,h=>by simp at h
 | s::ss,g::gl,x,h=>by rw [Mt,eB,eB,kA (by simpa using h)]
section
variable {cls:List Int} {rows:List (List (List Int))} {have_:Nat→Bool} {N C:Nat} {sets:List (List Int)}
theorem C0 (h:tj N C cls sets) (hs:∀r∈rows,∀s∈r,s∈sets∧∀g∈s,0≤g∧g < N) {gl:List Int} {g:Int} {c:Nat} (h0:0≤g) (hc:cls[g.toNat]?=some (c:Int)):
  c9 (mi rows have_ gl) rows.length &&& iK cls rows gl.length c=c9 (mi rows have_ (gl++[g])) rows.length:=by
 refine gt fun n=>?_
 rw [Nat.testBit_and,c7,iK,c7,c7]
 by_cases hn:n < rows.length
 ·simp only [decide_eq_true hn,Bool.true_and]
  unfold mi kY
  rw [Ia hn]
  dsimp only
  have hm:=List.getElem_mem hn
  generalize rows[n]=r at hm
  rw [List.length_append,List.length_singleton]
  by_cases hl:gl.length < r.length
  ·have hs':=hs r hm r[gl.length] (List.getElem_mem hl)
   rw [Ia hl,decide_eq_true (by omega:gl.length≤r.length),decide_eq_true (by omega:gl.length+1≤r.length),List.take_add_one,Ia hl]
   dsimp only [Option.toList]
   rw [n7 (by rw [List.length_take];omega),uq h hs'.1 hs'.2 h0 hc]
   cases have_ n <;> simp
  ·rw [List.getElem?_eq_none (by omega),decide_eq_false (by omega:¬gl.length+1≤r.length)]
   simp
 ·simp [decide_eq_false hn]
def eA (rows:List (List (List Int))) (have_:Nat→Bool) (gl:List Int) (n:Nat):Bool:=match rows[n]? with
 | some r=>have_ n && eB r gl
 | none=>false
theorem oe {tab:List (List Int)} {ends:List Nat} (h:tj N C cls sets) (hs:∀r∈rows,∀s∈r,s∈sets∧∀g∈s,0≤g∧g < N) (ht:qR cls rows have_ C tab ends) (hC:∀z∈cls,z.toNat < C):
  ∀(gl:List Int),fA cls tab ends gl=c9 (eA rows have_ gl) rows.length:=by
 obtain ⟨met,h0,hl,hle,he,hn⟩:=ht.met
 have hmt:=hl
 have key:∀(r gl:List Int) (s:Nat) (told:Nat) (p:Nat×Nat),met[s]?=some p→p.1=gl.length→p.2=c9 (mi rows have_ gl) rows.length→told=c9 (eA rows have_ gl) rows.length→
   (gl=[]∨p.2≠0)→kZ cls tab ends s r told=c9 (eA rows have_ (gl++r)) rows.length:=by
  intro r
  induction r with
  | nil=>intro gl s told p _ _ _ ht _;rw [kZ,List.append_nil];exact ht
  | cons g r ih=>
   intro gl s told p hp hp1 hp2 htold hne
   have hsl:s < met.length:=(Mq hp).1
   obtain ⟨q,hq⟩:∃q,tab[s]?=some q:=⟨_,Ia (by omega)⟩
   obtain ⟨hqC,hqn⟩:=hn s p q hp hq
   have stop:(∀n,mi rows have_ (gl++[g]) n=false)→c9 (eA rows have_ gl) rows.length=c9 (eA rows have_ (gl++g::r)) rows.length:=by
    intro hz
    refine gt fun n=>?_
    rw [c7,c7]
    congr 1
    have hzn:=hz n
    unfold mi at hzn
    unfold eA
    cases hr:rows[n]? with
    | none=>rfl
    | some ey=>
     rw [hr] at hzn
     dsimp only at hzn ⊢
     by_cases hh:have_ n=true
     ·rw [hh,Bool.true_and] at hzn ⊢
      rw [Bool.true_and]
      by_cases hrl:ey.length≤gl.length
      ·rw [kA hrl]
      ·rw [List.length_append,List.length_singleton,decide_eq_true (by omega),Bool.true_and,List.take_add_one,Ia (by omega)] at hzn
       dsimp only [Option.toList] at hzn
       have e1:eB ey gl=false:=by
        rw [Bool.eq_false_iff]
        intro hf
        rw [ja (by omega)] at hf
        cases hf
       have e2:eB ey (gl++g::r)=false:=by
        have e3:ey=(ey.take gl.length++[ey[gl.length]])++ey.drop (gl.length+1):=by
         rw [List.append_assoc,List.singleton_append,List.getElem_cons_drop,List.take_append_drop]
        have e4:∀{a b:List (List Int)} {x:List Int},eB (a++b) x=true→eB a x=true:=by
         intro a
         induction a with
         | nil=>intro b x _;rfl
         | cons y a iha=>
          intro b x hx
          cases x with
          | nil=>cases hx
          | cons w x=>
           rw [Mt,eB,Bool.and_eq_true] at hx
           rw [eB,Bool.and_eq_true]
           exact ⟨hx.1,iha hx.2⟩
        rw [Bool.eq_false_iff]
        intro hf
        rw [e3] at hf
        have:=e4 hf
        rw [show gl++g::r=(gl++[g])++r by simp,kA (by simp;omega)] at this
        rw [this] at hzn
        cases hzn
       rw [e1,e2]
     ·simp [hh]
   rw [kZ]
   by_cases hg:0≤g∧g.toNat < cls.length
   ·obtain ⟨hg0,hgl⟩:=hg
    obtain ⟨z,hz⟩:∃z,cls[g.toNat]?=some z:=⟨_,Ia hgl⟩
    have hzm:=Mx hz
    have hzd:=h.dom z hzm
    obtain ⟨c,rfl⟩:=Int.eq_ofNat_of_zero_le hzd.1
    have hcC:c < C:=by omega
    obtain ⟨t,htc⟩:∃t,q[c]?=some t:=⟨_,Ia (by omega)⟩
    have hstep:=C0 (have_:=have_) (gl:=gl) h hs hg0 hz
    have hnx:gE cls tab s g=if 0≤t∧t < tab.length then t else -1:=by
     unfold gE
     rw [if_neg (by omega),Int.toNat_natCast,hq,hz]
     dsimp only
     rw [if_neg (by omega),Int.toNat_natCast,htc]
    have hbe:bU cls rows p c=if c9 (mi rows have_ (gl++[g])) rows.length=0 then (0,0) else (gl.length+1,c9 (mi rows have_ (gl++[g])) rows.length):=by
     unfold bU
     rw [hp1,hp2,hstep]
    rcases hqn c t htc with ⟨h1,h2⟩ | ⟨h1,h2,h3⟩
    ·subst h2
     have hno:¬((0:Int)≤-1∧(-1:Int) < tab.length):=fun e=>absurd e.1 (by decide)
     rw [hnx,if_neg hno,if_pos rfl,htold]
     refine stop fun n=>?_
     rw [hbe] at h1
     have hzero:c9 (mi rows have_ (gl++[g])) rows.length=0:=by
      split at h1
      ·assumption
      ·exact h1
     by_cases hnl:n < rows.length
     ·exact pc.1 hzero n hnl
     ·unfold mi;rw [List.getElem?_eq_none (by omega)]
    ·have htl:t.toNat < tab.length:=by
      have:=(Mq h3).1
      omega
     have htz:¬t= -1:=by omega
     have hin:(0:Int)≤t∧t < tab.length:=⟨h2,by omega⟩
     rw [if_pos hin] at hnx
     rw [hnx,if_neg htz]
     rw [hbe] at h1 h3
     have hnz:¬c9 (mi rows have_ (gl++[g])) rows.length=0:=by
      intro e
      rw [if_pos e] at h1
      exact h1 rfl
     rw [if_neg hnz] at h3
     have:=ih (gl++[g]) t.toNat (told ||| i9 ends t) _ h3 (by simp) rfl ?_ (.inr hnz)
     ·rw [Int.toNat_of_nonneg h2] at this
      rw [this]
      simp
     ·
      have hen:=he _ _ h3
      unfold i9
      rw [if_neg (by omega),List.getD_eq_getElem?_getD,hen,htold]
      dsimp only [Option.getD]
      unfold iC
      rw [if_neg hnz]
      refine gt fun n=>?_
      rw [Nat.testBit_or,Nat.testBit_and,xf,c7,c7,c7,c7]
      by_cases hnl:n < rows.length
      ·simp only [decide_eq_true hnl,Bool.true_and]
       unfold eA mi iB
       rw [Ia hnl]
       dsimp only
       generalize rows[n]=ey
       cases have_ n
       ·simp
       ·simp only [Bool.true_and,List.length_append,List.length_singleton]
        by_cases hrl:ey.length≤gl.length
        ·rw [kA hrl,decide_eq_false (by omega:¬ey.length=gl.length+1),Bool.and_false,Bool.or_false]
        ·have e1:eB ey gl=false:=ja (by omega)
         rw [e1,Bool.false_or]
         by_cases hre:ey.length=gl.length+1
         ·rw [decide_eq_true hre,Bool.and_true,decide_eq_true (by omega),Bool.true_and,List.take_of_length_le (by omega)]
         ·rw [decide_eq_false hre,Bool.and_false]
          exact (ja (by simp;omega)).symm
      ·simp [decide_eq_false hnl]
   ·have hnx:gE cls tab s g= -1:=by
     unfold gE
     by_cases hg0:g < 0
     ·rw [if_pos (.inr hg0)]
     ·rw [if_neg (by omega),Int.toNat_natCast,hq,List.getElem?_eq_none (by omega)]
    rw [hnx,if_pos rfl,htold]
    refine stop fun n=>?_
    unfold mi
    cases hr:rows[n]? with
    | none=>rfl
    | some ey=>
     dsimp only
     by_cases hrl:gl.length+1≤ey.length
     ·have hs':=hs ey (Mx hr) ey[gl.length] (List.getElem_mem (by omega))
      have hng:ey[gl.length].contains g=false:=by
       rw [Bool.eq_false_iff]
       intro hm
       rw [List.contains_iff_mem] at hm
       have:=hs'.2 g hm
       have hl:=h.len
       omega
      rw [List.length_append,List.length_singleton,List.take_add_one,Ia (by omega)]
      dsimp only [Option.toList]
      rw [n7 (by rw [List.length_take];omega),hng]
      simp
     ·rw [List.length_append,List.length_singleton,decide_eq_false hrl]
      simp
 intro gl
 have h00:=key gl [] 0 (i9 ends 0) _ h0 rfl ?_ ?_ (.inl rfl)
 ·rw [Ms] at h00
  exact h00
 ·refine gt fun n=>?_
  unfold lj
  rw [c7,c7]
  by_cases hnl:n < rows.length
  ·simp only [decide_eq_true hnl,Bool.true_and]
   unfold mi
   rw [Ia hnl]
   simp [eB]
  ·simp [decide_eq_false hnl]
 ·have hen:=he _ _ h0
  unfold i9
  rw [if_neg (by omega),List.getD_eq_getElem?_getD]
  rw [show (0:Int).toNat=0 from rfl,hen]
  dsimp only [Option.getD]
  refine gt fun n=>?_
  have hb:(iC rows (lj rows have_))=c9 have_ rows.length &&& xf rows 0:=by
   unfold iC lj
   dsimp only
   split
   ·rename_i e
    rw [e,Nat.zero_and]
   ·rfl
  rw [hb,Nat.testBit_and,xf,c7,c7,c7]
  by_cases hnl:n < rows.length
  ·simp only [decide_eq_true hnl,Bool.true_and]
   unfold eA iB
   rw [Ia hnl]
   dsimp only
   generalize rows[n]=ey
   cases ey with
   | nil=>simp [eB]
   | cons s ey=>simp [eB]
  ·simp [decide_eq_false hnl]
end
end Go.Proofs.YtamjlkdanllgjaaGreatDoor
namespace Go.Proofs.YtamjlkdanllgjaaGreatDoor
open Go.RowKit
attribute [local irreducible] AT bz AX AO Av Kt aZ cY DA cu
set_option maxRecDepth 8000
theorem n8:∀{ss:List (List Int)} {gl:List Int} {k:Nat},ss.length≤k→eB ss (gl.take k)=eB ss gl
 | [],_,_,_=>rfl
 | _::_,[],k,_=>by rw [List.take_nil]
 | _::ss,_::gl,0,h=>by simp at h
 | s::ss,g::gl,k+1,h=>by rw [List.take_succ_cons,eB,eB,n8 (by simpa using h)]
theorem Bh {α:Type} {q:α→Bool} {l:List α}:l.find? q=(l.findIdx? q).bind fun i=>l[i]?:=by
  cases h:l.findIdx? q with
  | none => rw [List.find?_eq_none.2]; · rfl
            intro x hx
            rw [List.findIdx?_eq_none_iff] at h
            rw [h x hx];decide
  | some i=>
    obtain ⟨hi,h1,h2⟩:=List.findIdx?_eq_some_iff_getElem.1 h
    rw [Option.bind_some,Ia hi,List.find?_eq_some_iff_getElem]
    exact ⟨h1,i,hi,rfl,fun j hj=>by simpa using h2 j hj⟩
theorem vX {α:Type} {q:α→Bool} {l:List α} {b:Nat} (hb:∀n,b.testBit n=(l[n]?).any q):
  (∀i,l.findIdx? q=some i→b.testBit i=true∧∀j,j < i→b.testBit j=false)∧(l.findIdx? q=none→b=0):=by
 constructor
 ·intro i h
  obtain ⟨hi,h1,h2⟩:=List.findIdx?_eq_some_iff_getElem.1 h
  refine ⟨by rw [hb,Ia hi];exact h1,fun j hj=>?_⟩
  rw [hb,Ia (by omega)]
  simpa using h2 j hj
 ·intro h
  refine gt fun n=>?_
  rw [hb,Nat.zero_testBit]
  cases hn:l[n]? with
  | none=>rfl
  | some x=>exact List.findIdx?_eq_none_iff.1 h x (Mx hn)
def du (r:bh):List (List Int):=if r.In.isEmpty then [] else r.In++r.Ahead
def ri (rs:List bh) (n:Nat):Bool:=match rs[n]? with
 | some r=> !r.In.isEmpty
 | none=>false
theorem yj {rs:List bh} {fg bg:List Int} {n:Nat}:(c9 (eA (rs.map bh.Back) (fun _=>true) bg) (rs.map bh.Back).length &&& c9 (eA (rs.map du) (ri rs) fg) (rs.map du).length).testBit n=(rs[n]?).any fun r=> !r.In.isEmpty && (eB (r.In++r.Ahead) fg && eB r.Back bg):=by
 rw [Nat.testBit_and,c7,c7]
 simp only [Mv]
 unfold eA ri
 simp only [List.getElem?_map]
 cases h:rs[n]? with
 | none=>simp
 | some r=>
  have hn:=(Mq h).1
  simp only [Option.map_some,Option.any_some,decide_eq_true hn,Bool.true_and]
  unfold du
  cases r.In.isEmpty <;> simp [Bool.and_comm]
def fz (rs:List bh):Nat:=rs.foldl (fun m r=>max m (r.In.length+r.Ahead.length)) 0
def gN (rs:List bh):Nat:=rs.foldl (fun m r=>max m r.Back.length) 0
theorem m6 {α:Type} {g:α→Nat}:∀{l:List α} {m:Nat},m≤l.foldl (fun m r=>max m (g r)) m∧∀r∈l,g r≤l.foldl (fun m r=>max m (g r)) m
 | [],m=>⟨Nat.le_refl _,fun r h=>by cases h⟩
 | x::l,m=>by
  have ih:=m6 (g:=g) (l:=l) (m:=max m (g x))
  rw [List.foldl_cons]
  refine ⟨by have:=ih.1;omega,fun r hr=>?_⟩
  rcases List.mem_cons.1 hr with rfl | hr
  ·have:=ih.1;omega
  ·exact ih.2 r hr
theorem vH {ms:List Bool} {ig:Bool} {run:List aM} {i:Nat} {rs:List bh} {b:Nat}
  (hb:∀n,b.testBit n=(rs[n]?).any fun r=> !r.In.isEmpty && (eB (r.In++r.Ahead) (((dU ms ig run i).take (fz rs)).map (fj run)) && eB r.Back (((lP ms ig run i).take (gN rs)).map (fj run)))) (n:Nat):b.testBit n=(rs[n]?).any (eg ms ig run i):=by
 rw [hb]
 cases h:rs[n]? with
 | none=>rfl
 | some r=>
  have hm:=Mx h
  have h1:(r.In++r.Ahead).length≤fz rs:=by rw [List.length_append];exact (m6 (g:=fun r:bh=>r.In.length+r.Ahead.length)).2 r hm
  have h2:r.Back.length≤gN rs:=(m6 (g:=fun r:bh=>r.Back.length)).2 r hm
  rw [Option.any_some,Option.any_some]
  unfold eg
  rw [List.map_take,List.map_take,n8 h1,n8 h2]
end Go.Proofs.YtamjlkdanllgjaaGreatDoor
