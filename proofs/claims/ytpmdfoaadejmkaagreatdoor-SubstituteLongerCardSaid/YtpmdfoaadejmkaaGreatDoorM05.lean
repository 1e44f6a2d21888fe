/-
  Fonts as data, and as abstract values.
-/
import Derived.Test.YtpmdfoaadejmkaaGreatDoorM04
namespace Go.Proofs.YtpmdfoaadejmkaaGreatDoor
open Go.RowKit
abbrev aF (z:Int):AV:= .sc (.int .i64 z)
abbrev uL (s:ByteArray):AV:= .sc (.string s)
abbrev ej (b:Bool):AV:= .sc (.bool b)
structure ep where
 X:Int
 Y:Int
 On:Bool
structure dB where
 Glyph:Int
 X:Int
 Y:Int
structure dg where
 Kind:Int
 Class:Int
 X:Int
 Y:Int
structure dw where
 Region:Int
 Point:Int
 X:Int
 Y:Int
structure fS where
 Op:Int
 A:Int
structure bj where
 Name:ByteArray
 Advance:Int
 Mark:Bool
 Points:List ep
 Ends:List Int
 Parts:List dB
 Anchors:List dg
 Deltas:List dw
 Hint:List fS
structure fV where
 Rune:Int
 Glyph:Int
structure gD where
 At:Int
 Lookup:Int
structure b8 where
 Back:List (List Int)
 In:List (List Int)
 Ahead:List (List Int)
 Out:List Int
 Calls:List gD
 X:Int
structure aL where
 Kind:Int
 Ignore:Bool
 Rules:List b8
structure bV where
 Name:ByteArray
 Lookups:List Int
structure ee where
 Name:ByteArray
 Min:Int
 Def:Int
 Max:Int
structure eO where
 Start:Int
 Peak:Int
 End:Int
structure aY where
 Unit:Int
 Glyphs:List bj
 Chars:List fV
 Lookups:List aL
 Features:List bV
 Axes:List ee
 Regions:List (List eO)
 Funcs:List (List fS)
 Cvt:List Int
def b7 (l:List (List Int)):List (List AV):=l.map fun q=>[.imm 1 (aT q)]
def BZ (l:List ByteArray):List (List AV):=l.map fun s=>[uL s]
def dm (p:ep):List AV:=[aF p.X,aF p.Y,ej p.On]
def eo (p:dB):List AV:=[aF p.Glyph,aF p.X,aF p.Y]
def cX (p:dg):List AV:=[aF p.Kind,aF p.Class,aF p.X,aF p.Y]
def dM (p:dw):List AV:=[aF p.Region,aF p.Point,aF p.X,aF p.Y]
def eI (p:fS):List AV:=[aF p.Op,aF p.A]
def bL (g:bj):List AV:=[uL g.Name,aF g.Advance,ej g.Mark,.imm 3 (g.Points.map dm),.imm 1 (aT g.Ends),.imm 3 (g.Parts.map eo),.imm 4 (g.Anchors.map cX),.imm 4 (g.Deltas.map dM),.imm 2 (g.Hint.map eI)]
def dQ (c:fV):List AV:=[aF c.Rune,aF c.Glyph]
def eS (c:gD):List AV:=[aF c.At,aF c.Lookup]
def bA (r:b8):List AV:=[.imm 1 (b7 r.Back),.imm 1 (b7 r.In),.imm 1 (b7 r.Ahead),.imm 1 (aT r.Out),.imm 2 (r.Calls.map eS),aF r.X]
def bC (l:aL):List AV:=[aF l.Kind,ej l.Ignore,.imm 6 (l.Rules.map bA)]
def ce (t:bV):List AV:=[uL t.Name,.imm 1 (aT t.Lookups)]
def cE (a:ee):List AV:=[uL a.Name,aF a.Min,aF a.Def,aF a.Max]
def jV (t:eO):List AV:=[aF t.Start,aF t.Peak,aF t.End]
def bH (r:List eO):List AV:=[.imm 3 (r.map jV)]
def du (l:List fS):List AV:=[.imm 2 (l.map eI)]
def cx (f:aY):List AV:=[aF f.Unit,.imm 9 (f.Glyphs.map bL),.imm 2 (f.Chars.map dQ),.imm 3 (f.Lookups.map bC),.imm 2 (f.Features.map ce),.imm 4 (f.Axes.map cE),.imm 1 (f.Regions.map bH),.imm 1 (f.Funcs.map du),.imm 1 (aT f.Cvt)]
abbrev cQ (f:aY):AV:= .agg (cx f)
theorem cw {α:Type} {c:α→List AV} {l:List α} {i:Nat} {a:α} (h:l[i]?=some a):(l.map c)[i]?=some (c a):=by simp [h]
theorem C0 {l:List ByteArray} {i:Nat} {z:ByteArray} (h:l[i]?=some z):(BZ l)[i]?=some [uL z]:=by simp [BZ,h]
theorem cq (l:List (List Int)):(b7 l).length=l.length:=by simp [b7]
theorem i3 {l:List (List Int)} {i:Nat} {z:List Int} (h:l[i]?=some z):(b7 l)[i]?=some [.imm 1 (aT z)]:=by simp [b7,h]
section
variable {P:Program} {tt:TT} {r:Option Nat} {Q:Exit→Act→World→Prop} {nt:Nat} {D:List Deferred} {fr:bW} {B:Bs} {L:AL} {l:List Oper} {fin:jn}
variable {k j:Nat} {s:Ak} {sk:lW} {acc:bW} {dd:Option Tmp} {op:Op} {ty t t':TypeId} {pos:String} {af:Array Edge} {g:Option (Nat×Bool)} {x y c:Operand} {u:AV} {want b:Bool}
def cC (P:Program) (l:List Oper) (fr:bW) (fin:jn) (k:Nat) (s:Ak) (o:Oper) (sk:lW) (acc:bW) (L:AL):Prop:=l[k]?=some o→DA P l fr fin ((k,s)::sk) acc L
theorem aC {o:Oper} (h:cC P l fr fin k s o sk acc L) (ho:l[k]?=some o:=by rfl):DA P l fr fin ((k,s)::sk) acc L:=h ho
def iA (o:Oper) (acc:bW):Prop:=match o.guard with
 | none=>True
 | some (j,want)=>pG acc j= .sc (.bool want)
theorem n7 {o:Oper} {R:AV→AL→Prop} (hg:iA o acc) (h:∀B,AO P o (ct l.toArray acc fr o.after.toList) B L R):xl P l fr o acc L R:=by
 unfold xl
 unfold iA at hg
 split
 ·exact h
 ·rename_i j want hq
  rw [hq] at hg
  exact .inl ⟨hg,h⟩
theorem eW {o:Oper} (hg:iA o acc) (h:∀B L,AO P o (ct l.toArray acc fr o.after.toList) B L (fun c L'=>c=u∧L'=L)) (hn:DA P l fr fin sk ((k,u)::acc) L):cC P l fr fin k .v o sk acc L:=by
 intro ho
 obtain ⟨pl,hpl⟩:=hn
 exact ⟨.val k u pl,.v,sk,o,rfl,ho,.inl ⟨rfl,fun L=>n7 hg fun B=>h B L⟩,hpl⟩
theorem A9 {o:Oper} (hg:iA o acc) (h:∀B,AO P o (ct l.toArray acc fr o.after.toList) B L (fun c L'=>c=u∧L'=L)) (hn:DA P l fr fin sk ((k,u)::acc) L):cC P l fr fin k .l o sk acc L:=by
 intro ho
 obtain ⟨pl,hpl⟩:=hn
 exact ⟨.val k u pl,.l,sk,o,rfl,ho,.inr (.inl ⟨rfl,n7 hg fun B=>h B⟩),hpl⟩
theorem jy {o:Oper} {R:AV→AL→Prop} (hg:iA o acc) (h:∀B,AO P o (ct l.toArray acc fr o.after.toList) B L R) (hn:∀c L',R c L'→DA P l fr fin sk ((k,c)::acc) L'):cC P l fr fin k .e o sk acc L:=by
 intro ho
 have hn':∀c L',∃pl,R c L'→df P l fr fin pl sk ((k,c)::acc) L':=fun c L'=>by
  by_cases hr:R c L'
  ·obtain ⟨pl,hpl⟩:=hn c L' hr
   exact ⟨pl,fun _=>hpl⟩
  ·exact ⟨.fin,fun h=>absurd h hr⟩
 exact ⟨.eff k R fun c L'=>Classical.choose (hn' c L'),.e,sk,o,.inl rfl,rfl,ho,n7 hg h,fun c L' hr=>Classical.choose_spec (hn' c L') hr⟩
theorem F9 {o:Oper} (hK:eB fin.gs L) (hg:iA o acc) (h:∀B L,eB fin.gs L→AO P o (ct l.toArray acc fr o.after.toList) B L (fun c L'=>c=u∧L'=L)) (hn:DA P l fr fin sk ((k,u)::acc) L):cC P l fr fin k .k o sk acc L:=by
 intro ho
 obtain ⟨pl,hpl⟩:=hn
 exact ⟨.val k u pl,.k,sk,o,rfl,ho,.inr (.inr ⟨rfl,hK,fun L hL=>n7 hg fun B=>h B L hL⟩),hpl⟩
theorem s4 {o:Oper} {R:AV→AL→Prop} (hX:∀c L',R c L'→eB fin.gs L→eB fin.gs L') (hg:iA o acc) (h:∀B,AO P o (ct l.toArray acc fr o.after.toList) B L R) (hn:∀c L',R c L'→DA P l fr fin sk ((k,c)::acc) L'):cC P l fr fin k .f o sk acc L:=by
 intro ho
 have hn':∀c L',∃pl,R c L'→df P l fr fin pl sk ((k,c)::acc) L':=fun c L'=>by
  by_cases hr:R c L'
  ·obtain ⟨pl,hpl⟩:=hn c L' hr
   exact ⟨pl,fun _=>hpl⟩
  ·exact ⟨.fin,fun h=>absurd h hr⟩
 exact ⟨.eff k R fun c L'=>Classical.choose (hn' c L'),.f,sk,o,.inr (.inr ⟨rfl,hX⟩),rfl,ho,n7 hg h,fun c L' hr=>Classical.choose_spec (hn' c L') hr⟩
theorem F8 {o:Oper} {R:AV→AL→Prop} (hX:∀c L',R c L'→∃X,L'=X++L) (hg:iA o acc) (h:∀B,AO P o (ct l.toArray acc fr o.after.toList) B L R) (hn:∀c L',R c L'→DA P l fr fin sk ((k,c)::acc) L'):cC P l fr fin k .a o sk acc L:=by
 intro ho
 have hn':∀c L',∃pl,R c L'→df P l fr fin pl sk ((k,c)::acc) L':=fun c L'=>by
  by_cases hr:R c L'
  ·obtain ⟨pl,hpl⟩:=hn c L' hr
   exact ⟨pl,fun _=>hpl⟩
  ·exact ⟨.fin,fun h=>absurd h hr⟩
 exact ⟨.eff k R fun c L'=>Classical.choose (hn' c L'),.a,sk,o,.inr (.inl ⟨rfl,hX⟩),rfl,ho,n7 hg h,fun c L' hr=>Classical.choose_spec (hn' c L') hr⟩
theorem qX {op:Op} (hj:pG acc j= .sc (.bool b)) (hb:(b==want)=false) (hn:DA P l fr fin sk ((k,.sc undef)::acc) L):cC P l fr fin k .v ⟨dd,op,ty,pos,af,some (j,want)⟩ sk acc L:=by
 intro ho
 obtain ⟨pl,hpl⟩:=hn
 exact ⟨.val k (.sc undef) pl,.v,sk,_,rfl,ho,.inl ⟨rfl,fun L=> .inr ⟨⟨_,hj,fun e=>by injection e with e;subst e;simp at hb⟩,rfl,rfl⟩⟩,hpl⟩
theorem yq {o:Oper} {fr:bW} (h:Av P o fr u):∀B L,AO P o fr B L (fun c L'=>c=u∧L'=L):=fun _ _=>h.ao
theorem b6 (ok:dY P tt) (h:DA P l fr fin sk ((k,u)::acc) L) (hu:qj tt (ct l.toArray acc fr af.toList) op=some u:=by rfl) (hg:iA ⟨dd,op,ty,pos,af,g⟩ acc:=by first | trivial | rfl):cC P l fr fin k .v ⟨dd,op,ty,pos,af,g⟩ sk acc L:=eW hg (yq (lQ ok hu)) h
theorem dW {bop:BinOp} (h:cC P l fr fin k .v ⟨dd,.binOp bop t x y t',ty,pos,af,g⟩ sk acc L):cC P l fr fin k .v ⟨dd,.binOp bop t x y t',ty,pos,af,g⟩ sk acc L:=h
theorem fz {bop:BinOp} (h:DA P l fr fin sk ((k,u)::acc) L) (ho:Av P ⟨dd,.binOp bop t x y t',ty,pos,af,g⟩ (ct l.toArray acc fr af.toList) u:=by first | exact wp rfl rfl (by omega) | exact ww rfl rfl (by omega) | exact wv rfl rfl (by omega)) (hg:iA ⟨dd,.binOp bop t x y t',ty,pos,af,g⟩ acc:=by first | trivial | rfl):cC P l fr fin k .v ⟨dd,.binOp bop t x y t',ty,pos,af,g⟩ sk acc L:=eW hg (yq ho) h
theorem cB (h:cC P l fr fin k .v ⟨dd,.indexAddr t x y,ty,pos,af,g⟩ sk acc L):cC P l fr fin k .v ⟨dd,.indexAddr t x y,ty,pos,af,g⟩ sk acc L:=h
theorem cS (ok:dY P tt) {e sz by_ s:Nat} {ll:List (List AV)} {ik:IntKind} {i:Int} {es:List AV} (h:DA P l fr fin sk ((k,.iptr es)::acc) L) (ht:jl tt t=some (e,sz,by_):=by rfl) (hx:bc (ct l.toArray acc fr af.toList) x=some u:=by rfl) (hu:ij u=some (s,ll):=by rfl) (hs:Nat.beq s sz=true:=by rfl) (hy:bc (ct l.toArray acc fr af.toList) y=some (.sc (.int ik i)):=by rfl) (h0:0≤i:=by omega) (hl:ll[i.toNat]?=some es:=by first | assumption | (simp only [Int.toNat_natCast];assumption)) (hg:iA ⟨dd,.indexAddr t x y,ty,pos,af,g⟩ acc:=by first | trivial | rfl):cC P l fr fin k .v ⟨dd,.indexAddr t x y,ty,pos,af,g⟩ sk acc L:=eW hg (yq (wt (bi ok ht).1 hx (cM hu) hs hy h0 hl)) h
theorem dy {f:FuncId} {args:Array Operand} {ts:Array TypeId} (h:cC P l fr fin k .v ⟨dd,.call ⟨.value (.func f),args,ts⟩,ty,pos,af,g⟩ sk acc L):cC P l fr fin k .v ⟨dd,.call ⟨.value (.func f),args,ts⟩,ty,pos,af,g⟩ sk acc L:=h
theorem eh {f:FuncId} {args:Array Operand} {ts:Array TypeId} {cs ds:List AV} [bB P f] (h:DA P l fr fin sk ((k,u)::acc) L) (hv:eg (ct l.toArray acc fr af.toList) args.toList=some cs:=by rfl) (hi:lh cs=some ds:=by rfl) (hc:AD P f ds u:=by infer_instance) (hg:iA ⟨dd,.call ⟨.value (.func f),args,ts⟩,ty,pos,af,g⟩ acc:=by first | trivial | rfl):cC P l fr fin k .v ⟨dd,.call ⟨.value (.func f),args,ts⟩,ty,pos,af,g⟩ sk acc L:=eW hg (fun _ _=>zx hv (by rw [iI hi];exact hc.det)) h
theorem bZ (ok:dY P tt) (i:Nat) {b kk:Nat} {cs:List AV} {e:TypeId} (ht:GM tt t=true) (hx:bc (ct l.toArray acc fr af.toList) x=some (.sc (.pointer (some ⟨b,kk,none⟩)))) (hL:L[i]?=some (b,.box cs e)) (hc:cs[kk]?=some u) (hg:iA ⟨dd,.load t x,ty,pos,af,g⟩ acc) (h:DA P l fr fin sk ((k,u)::acc) L):cC P l fr fin k .l ⟨dd,.load t x,ty,pos,af,g⟩ sk acc L:=A9 hg (fun _=>rW i (cR ok ht) hx hL hc) h
theorem oL (ok:dY P tt) (i:Nat) {b kk n:Nat} {cs:List AV} {e:TypeId} (ht:FO tt t=some n) (hx:bc (ct l.toArray acc fr af.toList) x=some (.sc (.pointer (some ⟨b,kk,none⟩)))) (hL:L[i]?=some (b,.box cs e)) (hc:Nat.ble (kk+n) cs.length=true) (hg:iA ⟨dd,.load t x,ty,pos,af,g⟩ acc) (h:DA P l fr fin sk ((k,.agg ((cs.drop kk).take n))::acc) L):cC P l fr fin k .l ⟨dd,.load t x,ty,pos,af,g⟩ sk acc L:=A9 hg (fun _=>te i (ey ok ht) hx hL hc) h
theorem yd {gs:KpL} {i b kk:Nat} {v:AV} (hi:gs[i]?=some (.cell (b,kk,v))) {L:AL} (h:eB gs L):∃(j:Nat) (cs:List AV) (e:TypeId),L[j]?=some (b,.box cs e)∧cs[kk]?=some v:=by
 obtain ⟨cs,e,h1,h2⟩:=h _ (Iw hi)
 obtain ⟨j,hj⟩:=List.mem_iff_getElem?.1 h1
 exact ⟨j,cs,e,hj,h2⟩
theorem dx (ok:dY P tt) (i:Nat) {b kk:Nat} (ht:GM tt t=true) (hx:bc (ct l.toArray acc fr af.toList) x=some (.sc (.pointer (some ⟨b,kk,none⟩)))) (hi:fin.gs[i]?=some (.cell (b,kk,u))) (hK:eB fin.gs L) (hg:iA ⟨dd,.load t x,ty,pos,af,g⟩ acc) (h:DA P l fr fin sk ((k,u)::acc) L):cC P l fr fin k .k ⟨dd,.load t x,ty,pos,af,g⟩ sk acc L:=
 F9 hK hg (fun _ L' hL'=>by
  obtain ⟨j,cs,e,h1,h2⟩:=yd hi hL'
  exact rW j (cR ok ht) hx h1 h2) h
theorem wx {d:Option Tmp} {e sz by_ n:Nat} {parts:Array (Nat×Operand)} {vs:List AV} {xs:List (List AV)} (hc:k8 P t e sz by_) (hsz:0 < sz) (hv:eg fr (parts.toList.map (·.2))=some vs) (hxs:jt vs=some xs) (hn:Nat.beq xs.length n=true) (hi:parts.toList.map (·.1)=List.range' 0 n) (hz:xs.all (fun q=>Nat.beq q.length sz)=true) (h24:Nat.ble (n * sz) 16777216=true):
  AO P ⟨d,.buildSlice t n parts,ty,pos,af,g⟩ fr B L (fun c L'=>c= .imm sz xs∧L'=L):=by
 intro σ ρ w hρ hw
 refine (zA hc hsz hv hxs hn hi hz h24 σ ρ w hρ hw).mono fun v w' hh=>?_
 obtain ⟨τ,c,L',h1,h2,h3,b,rfl,rfl⟩:=hh
 exact ⟨τ,_,L,h1,h2.im,h3.sublist (.cons _ (List.Sublist.refl _)),rfl,rfl⟩
theorem dS (ok:dY P tt) {e sz by_ n:Nat} {parts:Array (Nat×Operand)} {vs:List AV} {xs:List (List AV)} (h:DA P l fr fin sk ((k,.imm sz xs)::acc) L) (ht:jl tt t=some (e,sz,by_):=by rfl) (hv:eg (ct l.toArray acc fr af.toList) (parts.toList.map (·.2))=some vs:=by rfl) (hxs:jt vs=some xs:=by rfl) (hn:Nat.beq xs.length n=true:=by rfl) (hi:parts.toList.map (·.1)=List.range' 0 n:=by rfl) (hz:xs.all (fun q=>Nat.beq q.length sz)=true:=by rfl) (h24:Nat.ble (n * sz) 16777216=true:=by rfl) (hg:iA ⟨dd,.buildSlice t n parts,ty,pos,af,g⟩ acc:=by first | trivial | rfl):
  cC P l fr fin k .v ⟨dd,.buildSlice t n parts,ty,pos,af,g⟩ sk acc L:=eW hg (fun _ _=>wx (bi ok ht).1 (bi ok ht).2 hv hxs hn hi hz h24) h
theorem bG (ok:dY P tt) {r:Option Nat} {ops:Array Oper} {Q:Exit→Act→World→Prop} {nt:Nat} {D:List Deferred} {rest:List Oper} {d e sz by_ n:Nat} {parts:Array (Nat×Operand)} {vs:List AV} {xs:List (List AV)} (h:br P r ops Q nt D rest ((d,.imm sz xs)::fr) B L) (ht:jl tt t=some (e,sz,by_):=by rfl) (hv:eg fr (parts.toList.map (·.2))=some vs:=by rfl) (hxs:jt vs=some xs:=by rfl) (hn:Nat.beq xs.length n=true:=by rfl) (hi:parts.toList.map (·.1)=List.range' 0 n:=by rfl) (hz:xs.all (fun q=>Nat.beq q.length sz)=true:=by rfl) (h24:Nat.ble (n * sz) 16777216=true:=by rfl) (hd:Nat.ble nt d=false:=by rfl):
  br P r ops Q nt D (⟨some d,.buildSlice t n parts,ty,pos,af,none⟩::rest) fr B L:=by
 obtain ⟨h1,h2⟩:=bi ok ht
 refine cI hd rfl (wx h1 h2 hv hxs hn hi hz h24) fun c L' hh=>?_
 obtain ⟨h1,h2⟩:=hh
 subst h1;subst h2
 exact h
theorem bq {gs:KpL} {n0:Nat} {fr0:bW} {rest:List Oper} (ks:List Nat) (hk:gm (ic l.toArray acc fr n0) ks=some fr0) (hr:l.drop n0=rest) (h:br P r l.toArray Q nt D rest fr0 B L):DA P l fr ⟨Aj P r l n0 Q nt D fr B none,gs⟩ [] acc L:=
 ⟨.fin,rfl,by rw [←hr] at h;exact tk (dE ks hk) (fun _ _ h=>h) h⟩
theorem IQ {gs:KpL} {n0:Nat} {fr0:bW} {rest:List Oper} (ks:List Nat) (zz:gm (ic l.toArray acc fr n0) ks=some fr0∧l.drop n0=rest) (h:br P r l.toArray Q nt D rest fr0 B L):DA P l fr ⟨Aj P r l n0 Q nt D fr B none,gs⟩ [] acc L:=bq ks zz.1 zz.2 h
theorem wF {gs:KpL} {n0 kk:Nat} {ab:AB} {rest:List Oper} (ks:List Nat) (fr0:Nat→bW) (hk:∀b,gm (ic l.toArray ((kk,.sc (.pointer (some ⟨b,0,none⟩)))::acc) fr n0) ks=some (fr0 b)) (hr:l.drop n0=rest) (h:∀b,br P r l.toArray Q nt D rest (fr0 b) B (L++[(b,ab)])):DA P l fr ⟨Aj P r l n0 Q nt D fr B (some (kk,ab)),gs⟩ [] acc L:=
 ⟨.fin,rfl,fun b=>by have:=h b;rw [←hr] at this;exact tk (dE ks (hk b)) (fun _ _ h=>h) this⟩
end
end Go.Proofs.YtpmdfoaadejmkaaGreatDoor
namespace Go.Proofs.YtpmdfoaadejmkaaGreatDoor
open Go.RowKit
attribute [local irreducible] AT br AX AO Av Kt bb df DA cC
structure aK where
 Glyph:Int
 Cluster:Int
 Form:Int
 Advance:Int
 X:Int
 Y:Int
def bU (x:aK):List AV:=[aF x.Glyph,aF x.Cluster,aF x.Form,aF x.Advance,aF x.X,aF x.Y]
def En (ms:List Bool) (g:Int):Bool:=decide (0≤g) && ms.getD g.toNat false
def oo (ms:List Bool) (ig:Bool) (x:aK):Bool:= !(ig && En ms x.Glyph)
def jN (ms:List Bool) (ig:Bool) (run:List aK) (i:Nat):Bool:=match run[i]? with
 | some x=>oo ms ig x
 | none=>false
def dJ (ms:List Bool) (ig:Bool) (run:List aK) (i:Nat):List Nat:=(List.range' i (run.length - i)).filter (jN ms ig run)
def m8 (ms:List Bool) (ig:Bool) (run:List aK):Nat→List Nat
 | 0=>[]
 | i+1=>if jN ms ig run i=true then i::m8 ms ig run i else m8 ms ig run i
def ea (run:List aK) (i:Nat):Int:=match run[i]? with
 | some x=>x.Glyph
 | none=> -1
def eA:List (List Int)→List Int→Bool
 | [],_=>true
 | _::_,[]=>false
 | s::ss,g::gs=>s.contains g && eA ss gs
def eD (ms:List Bool) (ig:Bool) (run:List aK) (i:Nat) (r:b8):Bool:=
 !r.In.isEmpty && (eA (r.In++r.Ahead) ((dJ ms ig run i).map (ea run)) && eA r.Back ((m8 ms ig run i).map (ea run)))
def kl (ms:List Bool) (ig:Bool) (run:List aK) (i:Nat) (forms:List Int):Bool:=match run[i]? with
 | some x=>oo ms ig x && (forms.isEmpty || forms.contains x.Form)
 | none=>false
def eK (ms:List Bool) (l:aL) (run:List aK) (i:Nat) (forms:List Int):Option b8:=if kl ms l.Ignore run i forms=true then l.Rules.find? (eD ms l.Ignore run i) else none
def di (ms:List Bool) (l:aL) (run:List aK) (i:Nat) (r:b8):List Nat:=(dJ ms l.Ignore run i).take r.In.length
def fm (r:b8) (i:Nat) (run:List aK):List aK:=match run[i]? with
 | none=>run
 | some x=>match r.Out[(r.In.headD []).idxOf x.Glyph]? with
  | none=>run
  | some g=>if (r.In.headD []).idxOf x.Glyph < (r.In.headD []).length then run.set i { x with Glyph:=g } else run
def gw (r:b8) (i:Nat) (run:List aK):List aK:=match run[i]? with
 | none=>run
 | some x=>if run.length - 1+r.Out.length > 500∧1 < r.Out.length then run else run.take i++(r.Out.map fun g=>{ x with Glyph:=g })++run.drop (i+1)
def fp:List Nat→List aK→List aK
 | [],run=>run
 | p::ps,run=>(fp ps run).eraseIdx p
def kH (run:List aK) (c:Int) (p:Nat):Int:=match run[p]? with
 | some x=>min c x.Cluster
 | none=>c
def fx (run:List aK) (ps:List Nat) (c:Int):Int:=ps.foldl (kH run) c
def kI (r:b8) (ps:List Nat) (run:List aK):List aK:=match ps,r.Out with
 | p::q,g::_=>match run[p]? with
  | some x=>fp q (run.set p { x with Glyph:=g,Cluster:=fx run (p::q) x.Cluster })
  | none=>run
 | _,_=>run
def oe (r:b8) (i:Nat) (run:List aK):List aK:=match run[i]? with
 | some x=>run.set i { x with Advance:=IntKind.i64.wrap (x.Advance+r.X) }
 | none=>run
def qG (ms:List Bool) (ig:Bool) (run:List aK) (i:Nat) (n:Int):Option Nat:=if 0≤n then (dJ ms ig run i)[n.toNat]? else none
def fq (l:aL) (r:b8) (ps:List Nat) (run:List aK):List aK:=
 if l.Kind=1∨l.Kind=5 then fm r (ps.headD 0) run
 else if l.Kind=2 then gw r (ps.headD 0) run
 else if l.Kind=3 then kI r ps run
 else if l.Kind=6 then oe r (ps.headD 0) run
 else run
abbrev FM:=aL→b8→List Nat→List aK→List aK
def kq (ms:List Bool) (ls:List aL) (d:FM) (n:Int) (i:Nat) (run:List aK):List aK:=
 if n < 0 then run else match ls[n.toNat]? with
 | none=>run
 | some l=>if l.Kind < 1∨4 < l.Kind then run else match eK ms l run i [] with
  | none=>run
  | some r=>d l r (di ms l run i r) run
def eU (ms:List Bool) (ls:List aL) (d:FM) (ig:Bool) (i:Nat) (run:List aK) (c:gD):List aK:=match qG ms ig run i c.At with
 | none=>run
 | some p=>kq ms ls d c.Lookup p run
def iG (ms:List Bool) (ls:List aL):Nat→FM
 | 0=>fun l r ps run=>fq l r ps run
 | k+1=>fun l r ps run=>if l.Kind=4 then r.Calls.foldl (eU ms ls (iG ms ls k) l.Ignore (ps.headD 0)) run else fq l r ps run
def rx (l:aL) (i last:Nat) (run run':List aK):Nat:=
 if l.Kind=4 then max (run'.length - (run.length - 1 - last)) (i+1)
 else if l.Kind=6∧i < last then last
 else run'.length - (run.length - 1 - last)
def uE (ms:List Bool) (ls:List aL) (l:aL) (forms:List Int):Nat→Nat→List aK→List aK
 | 0,_,run=>run
 | k+1,i,run=>if i < run.length then match eK ms l run i forms with
   | none=>uE ms ls l forms k (i+1) run
   | some r=>uE ms ls l forms k (rx l i ((di ms l run i r).getLastD i) run (iG ms ls 4 l r (di ms l run i r) run)) (iG ms ls 4 l r (di ms l run i r) run)
  else run
def iH (ms:List Bool) (ls:List aL) (l:aL) (forms:List Int):Nat→List aK→List aK
 | 0,run=>run
 | i+1,run=>iH ms ls l forms i (match eK ms l run i forms with
  | none=>run
  | some r=>iG ms ls 4 l r (di ms l run i r) run)
def dL (ms:List Bool) (ls:List aL) (n:Int) (run:List aK) (forms:List Int):List aK:=
 if n < 0 then run else match ls[n.toNat]? with
 | none=>run
 | some l=>if l.Kind < 1∨6 < l.Kind then run else if l.Kind=5 then iH ms ls l forms run.length run else uE ms ls l forms run.length 0 run
def ca (p:Nat→Bool):Nat→Nat
 | 0=>0
 | n+1=>ca p n ||| (if p n=true then 2 ^ n else 0)
theorem c8 (p:Nat→Bool) (i:Nat):∀n,(ca p n).testBit i=(decide (i < n) && p i)
 | 0=>by simp [ca]
 | n+1=>by
  rw [ca,Nat.testBit_or,c8 p i n]
  by_cases hi:i=n
  ·subst hi
   cases hp:p i <;> simp [Nat.testBit_two_pow_self]
  ·have h1:decide (i < n+1)=decide (i < n):=decide_eq_decide.2 (by omega)
   have h2:(if p n=true then 2 ^ n else 0).testBit i=false:=by
    split
    ·rw [Nat.testBit_two_pow_of_ne (by omega)]
    ·simp
   rw [h1,h2,Bool.or_false]
theorem m9 (p:Nat→Bool) (n:Nat):ca p n < 2 ^ n:=Nat.lt_pow_two_of_testBit _ fun i hi=>by
 rw [c8,decide_eq_false (by omega),Bool.false_and]
theorem gE {x y:Nat} (h:∀i,x.testBit i=y.testBit i):x=y:=Nat.eq_of_testBit_eq h
theorem pe {p:Nat→Bool} {n:Nat}:ca p n=0↔∀i,i < n→p i=false:=by
 constructor
 ·intro h i hi
  have:=c8 p i n
  rw [h,Nat.zero_testBit,decide_eq_true hi,Bool.true_and] at this
  exact this.symm
 ·intro h
  refine gE fun i=>?_
  rw [c8,Nat.zero_testBit]
  by_cases hi:i < n
  ·rw [h i hi,Bool.and_false]
  ·rw [decide_eq_false hi,Bool.false_and]
section
variable (cls:List Int) (rows:List (List (List Int))) (have_:Nat→Bool)
def fi (c:Nat) (s:List Int):Bool:=s.any fun g=>decide (0≤g) && (decide (g < cls.length) && decide (cls.getD g.toNat (-1)=(c:Int)))
def ln (m c:Nat) (n:Nat):Bool:=match rows[n]? with
 | some r=>match r[m]? with
  | some s=>fi cls c s
  | none=>false
 | none=>false
def iY (m:Nat) (n:Nat):Bool:=match rows[n]? with
 | some r=>decide (r.length=m)
 | none=>false
def j9 (m c:Nat):Nat:=ca (ln cls rows m c) rows.length
def wH (m:Nat):Nat:=ca (iY rows m) rows.length
def lG:Nat×Nat:=(0,ca have_ rows.length)
def c5 (p:Nat×Nat) (c:Nat):Nat×Nat:=if p.2 &&& j9 cls rows p.1 c=0 then (0,0) else (p.1+1,p.2 &&& j9 cls rows p.1 c)
def iZ (p:Nat×Nat):Nat:=if p.2=0 then 0 else p.2 &&& wH rows p.1
structure qN (C:Nat) (tab:List (List Int)) (ends:List Nat):Prop where
 met:∃met:List (Nat×Nat),met[0]?=some (lG rows have_)∧met.length=tab.length∧met.length=ends.length∧
  (∀(i:Nat) p,met[i]?=some p→ends[i]?=some (iZ rows p))∧
  (∀(i:Nat) p q,met[i]?=some p→tab[i]?=some q→q.length=C∧∀(c:Nat) z,q[c]?=some z→((c5 cls rows p c).2=0∧z= -1)∨((c5 cls rows p c).2≠0∧0≤z∧met[z.toNat]?=some (c5 cls rows p c)))
end
def gS (cls:List Int) (tab:List (List Int)) (s:Int) (g:Int):Int:=
 if s < 0∨g < 0 then -1 else match tab[s.toNat]?,cls[g.toNat]? with
 | some eF,some c=>if c < 0 then -1 else match eF[c.toNat]? with
  | some z=>if 0≤z∧z < tab.length then z else -1
  | none=> -1
 | _,_=> -1
def iE (ends:List Nat) (s:Int):Nat:=if s < 0 then 0 else ends.getD s.toNat 0
def lu (cls:List Int) (tab:List (List Int)) (ends:List Nat):Int→List Int→Nat→Nat
 | _,[],told=>told
 | s,g::r,told=>if gS cls tab s g= -1 then told else lu cls tab ends (gS cls tab s g) r (told ||| iE ends (gS cls tab s g))
def fP (cls:List Int) (tab:List (List Int)) (ends:List Nat) (gl:List Int):Nat:=lu cls tab ends 0 gl (iE ends 0)
structure sZ (n:Nat) (C:Nat) (cls:List Int) (sets:List (List Int)):Prop where
 len:cls.length=n
 dom:∀z∈cls,0≤z∧z < C
 apart:∀s∈sets,∀(i j:Nat) z,cls[i]?=some z→cls[j]?=some z→((i:Int)∈s↔(j:Int)∈s)
theorem ub {cls:List Int} {n C:Nat} {sets:List (List Int)} (h:sZ n C cls sets) {s:List Int} (hs:s∈sets) (hd:∀g∈s,0≤g∧g < n) {g:Int} (h0:0≤g) {c:Nat} (hc:cls[g.toNat]?=some (c:Int)):fi cls c s=s.contains g:=by
 rw [Bool.eq_iff_iff,List.contains_iff_mem]
 unfold fi
 rw [List.any_eq_true]
 constructor
 ·rintro ⟨x,hx,hb⟩
  simp only [Bool.and_eq_true,decide_eq_true_eq] at hb
  obtain ⟨h1,h2,h3⟩:=hb
  have hxc:cls[x.toNat]?=some (c:Int):=by
   rw [Iz (by omega)]
   rw [List.getD_eq_getElem?_getD,Iz (by omega)] at h3
   exact congrArg some h3
  have:=(h.apart s hs x.toNat g.toNat c hxc hc).1 (by rw [Int.toNat_of_nonneg h1];exact hx)
  rwa [Int.toNat_of_nonneg h0] at this
 ·intro hg
  refine ⟨g,hg,?_⟩
  have hl:=h.len
  have:=hd g hg
  simp only [Bool.and_eq_true,decide_eq_true_eq]
  refine ⟨h0,by omega,?_⟩
  rw [List.getD_eq_getElem?_getD,hc]
  rfl
def mv (rows:List (List (List Int))) (have_:Nat→Bool) (gl:List Int) (n:Nat):Bool:=match rows[n]? with
 | some r=>have_ n && (decide (gl.length≤r.length) && eA (r.take gl.length) gl)
 | none=>false
theorem ni:∀{ss:List (List Int)} {gl:List Int} {s:List Int} {g:Int},ss.length=gl.length→eA (ss++[s]) (gl++[g])=(eA ss gl && s.contains g)
 | [],[],s,g,_=>by simp [eA]
 | [],_::_,_,_,h=>by simp at h
 | _::_,[],_,_,h=>by simp at h
 | s'::ss,g'::gl,s,g,h=>by
  rw [Is,Is,eA,ni (by simpa using h),eA,Bool.and_assoc]
theorem jF:∀{a:List (List Int)} {b:List Int},b.length < a.length→eA a b=false
 | [],_,h=>by simp at h
 | _::_,[],_=>rfl
 | _::a,_::b,h=>by rw [eA,jF (by simpa using h),Bool.and_false]
theorem l4:∀{ss:List (List Int)} {gl x:List Int},ss.length≤gl.length→eA ss (gl++x)=eA ss gl
 | [],_,_,_=>rfl
 | _::_,[],_,h=>by simp at h
 | s::ss,g::gl,x,h=>by rw [Is,eA,eA,l4 (by simpa using h)]
section
variable {cls:List Int} {rows:List (List (List Int))} {have_:Nat→Bool} {N C:Nat} {sets:List (List Int)}
theorem Bg (h:sZ N C cls sets) (hs:∀r∈rows,∀s∈r,s∈sets∧∀g∈s,0≤g∧g < N) {gl:List Int} {g:Int} {c:Nat} (h0:0≤g) (hc:cls[g.toNat]?=some (c:Int)):
  ca (mv rows have_ gl) rows.length &&& j9 cls rows gl.length c=ca (mv rows have_ (gl++[g])) rows.length:=by
 refine gE fun n=>?_
 rw [Nat.testBit_and,c8,j9,c8,c8]
 by_cases hn:n < rows.length
 ·simp only [decide_eq_true hn,Bool.true_and]
  unfold mv ln
  rw [Iz hn]
  dsimp only
  have hm:=List.getElem_mem hn
  generalize rows[n]=r at hm
  rw [List.length_append,List.length_singleton]
  by_cases hl:gl.length < r.length
  ·have hs':=hs r hm r[gl.length] (List.getElem_mem hl)
   rw [Iz hl,decide_eq_true (by omega:gl.length≤r.length),decide_eq_true (by omega:gl.length+1≤r.length),List.take_add_one,Iz hl]
   dsimp only [Option.toList]
   rw [ni (by rw [List.length_take];omega),ub h hs'.1 hs'.2 h0 hc]
   cases have_ n <;> simp
  ·rw [List.getElem?_eq_none (by omega),decide_eq_false (by omega:¬gl.length+1≤r.length)]
   simp
 ·simp [decide_eq_false hn]
def eH (rows:List (List (List Int))) (have_:Nat→Bool) (gl:List Int) (n:Nat):Bool:=match rows[n]? with
 | some r=>have_ n && eA r gl
 | none=>false
theorem ol {tab:List (List Int)} {ends:List Nat} (h:sZ N C cls sets) (hs:∀r∈rows,∀s∈r,s∈sets∧∀g∈s,0≤g∧g < N) (ht:qN cls rows have_ C tab ends) (hC:∀z∈cls,z.toNat < C):
  ∀(gl:List Int),fP cls tab ends gl=ca (eH rows have_ gl) rows.length:=by
 obtain ⟨met,h0,hl,hle,he,hn⟩:=ht.met
 have hmt:=hl
 have key:∀(r gl:List Int) (s:Nat) (told:Nat) (p:Nat×Nat),met[s]?=some p→p.1=gl.length→p.2=ca (mv rows have_ gl) rows.length→told=ca (eH rows have_ gl) rows.length→
   (gl=[]∨p.2≠0)→lu cls tab ends s r told=ca (eH rows have_ (gl++r)) rows.length:=by
  intro r
  induction r with
  | nil=>intro gl s told p _ _ _ ht _;rw [lu,List.append_nil];exact ht
  | cons g r ih=>
   intro gl s told p hp hp1 hp2 htold hne
   have hsl:s < met.length:=(Ip hp).1
   obtain ⟨q,hq⟩:∃q,tab[s]?=some q:=⟨_,Iz (by omega)⟩
   obtain ⟨hqC,hqn⟩:=hn s p q hp hq
   have stop:(∀n,mv rows have_ (gl++[g]) n=false)→ca (eH rows have_ gl) rows.length=ca (eH rows have_ (gl++g::r)) rows.length:=by
    intro hz
    refine gE fun n=>?_
    rw [c8,c8]
    congr 1
    have hzn:=hz n
    unfold mv at hzn
    unfold eH
    cases hr:rows[n]? with
    | none=>rfl
    | some eF=>
     rw [hr] at hzn
     dsimp only at hzn ⊢
     by_cases hh:have_ n=true
     ·rw [hh,Bool.true_and] at hzn ⊢
      rw [Bool.true_and]
      by_cases hrl:eF.length≤gl.length
      ·rw [l4 hrl]
      ·rw [List.length_append,List.length_singleton,decide_eq_true (by omega),Bool.true_and,List.take_add_one,Iz (by omega)] at hzn
       dsimp only [Option.toList] at hzn
       have e1:eA eF gl=false:=by
        rw [Bool.eq_false_iff]
        intro hf
        rw [jF (by omega)] at hf
        cases hf
       have e2:eA eF (gl++g::r)=false:=by
        have e3:eF=(eF.take gl.length++[eF[gl.length]])++eF.drop (gl.length+1):=by
         rw [List.append_assoc,List.singleton_append,List.getElem_cons_drop,List.take_append_drop]
        have e4:∀{a b:List (List Int)} {x:List Int},eA (a++b) x=true→eA a x=true:=by
         intro a
         induction a with
         | nil=>intro b x _;rfl
         | cons y a iha=>
          intro b x hx
          cases x with
          | nil=>cases hx
          | cons w x=>
           rw [Is,eA,Bool.and_eq_true] at hx
           rw [eA,Bool.and_eq_true]
           exact ⟨hx.1,iha hx.2⟩
        rw [Bool.eq_false_iff]
        intro hf
        rw [e3] at hf
        have:=e4 hf
        rw [show gl++g::r=(gl++[g])++r by simp,l4 (by simp;omega)] at this
        rw [this] at hzn
        cases hzn
       rw [e1,e2]
     ·simp [hh]
   rw [lu]
   by_cases hg:0≤g∧g.toNat < cls.length
   ·obtain ⟨hg0,hgl⟩:=hg
    obtain ⟨z,hz⟩:∃z,cls[g.toNat]?=some z:=⟨_,Iz hgl⟩
    have hzm:=Iw hz
    have hzd:=h.dom z hzm
    obtain ⟨c,rfl⟩:=Int.eq_ofNat_of_zero_le hzd.1
    have hcC:c < C:=by omega
    obtain ⟨t,htc⟩:∃t,q[c]?=some t:=⟨_,Iz (by omega)⟩
    have hstep:=Bg (have_:=have_) (gl:=gl) h hs hg0 hz
    have hnx:gS cls tab s g=if 0≤t∧t < tab.length then t else -1:=by
     unfold gS
     rw [if_neg (by omega),Int.toNat_natCast,hq,hz]
     dsimp only
     rw [if_neg (by omega),Int.toNat_natCast,htc]
    have hbe:c5 cls rows p c=if ca (mv rows have_ (gl++[g])) rows.length=0 then (0,0) else (gl.length+1,ca (mv rows have_ (gl++[g])) rows.length):=by
     unfold c5
     rw [hp1,hp2,hstep]
    rcases hqn c t htc with ⟨h1,h2⟩ | ⟨h1,h2,h3⟩
    ·subst h2
     have hno:¬((0:Int)≤-1∧(-1:Int) < tab.length):=fun e=>absurd e.1 (by decide)
     rw [hnx,if_neg hno,if_pos rfl,htold]
     refine stop fun n=>?_
     rw [hbe] at h1
     have hzero:ca (mv rows have_ (gl++[g])) rows.length=0:=by
      split at h1
      ·assumption
      ·exact h1
     by_cases hnl:n < rows.length
     ·exact pe.1 hzero n hnl
     ·unfold mv;rw [List.getElem?_eq_none (by omega)]
    ·have htl:t.toNat < tab.length:=by
      have:=(Ip h3).1
      omega
     have htz:¬t= -1:=by omega
     have hin:(0:Int)≤t∧t < tab.length:=⟨h2,by omega⟩
     rw [if_pos hin] at hnx
     rw [hnx,if_neg htz]
     rw [hbe] at h1 h3
     have hnz:¬ca (mv rows have_ (gl++[g])) rows.length=0:=by
      intro e
      rw [if_pos e] at h1
      exact h1 rfl
     rw [if_neg hnz] at h3
     have:=ih (gl++[g]) t.toNat (told ||| iE ends t) _ h3 (by simp) rfl ?_ (.inr hnz)
     ·rw [Int.toNat_of_nonneg h2] at this
      rw [this]
      simp
     ·
      have hen:=he _ _ h3
      unfold iE
      rw [if_neg (by omega),List.getD_eq_getElem?_getD,hen,htold]
      dsimp only [Option.getD]
      unfold iZ
      rw [if_neg hnz]
      refine gE fun n=>?_
      rw [Nat.testBit_or,Nat.testBit_and,wH,c8,c8,c8,c8]
      by_cases hnl:n < rows.length
      ·simp only [decide_eq_true hnl,Bool.true_and]
       unfold eH mv iY
       rw [Iz hnl]
       dsimp only
       generalize rows[n]=eF
       cases have_ n
       ·simp
       ·simp only [Bool.true_and,List.length_append,List.length_singleton]
        by_cases hrl:eF.length≤gl.length
        ·rw [l4 hrl,decide_eq_false (by omega:¬eF.length=gl.length+1),Bool.and_false,Bool.or_false]
        ·have e1:eA eF gl=false:=jF (by omega)
         rw [e1,Bool.false_or]
         by_cases hre:eF.length=gl.length+1
         ·rw [decide_eq_true hre,Bool.and_true,decide_eq_true (by omega),Bool.true_and,List.take_of_length_le (by omega)]
         ·rw [decide_eq_false hre,Bool.and_false]
          exact (jF (by simp;omega)).symm
      ·simp [decide_eq_false hnl]
   ·have hnx:gS cls tab s g= -1:=by
     unfold gS
     by_cases hg0:g < 0
     ·rw [if_pos (.inr hg0)]
     ·rw [if_neg (by omega),Int.toNat_natCast,hq,List.getElem?_eq_none (by omega)]
    rw [hnx,if_pos rfl,htold]
    refine stop fun n=>?_
    unfold mv
    cases hr:rows[n]? with
    | none=>rfl
    | some eF=>
     dsimp only
     by_cases hrl:gl.length+1≤eF.length
     ·have hs':=hs eF (Iw hr) eF[gl.length] (List.getElem_mem (by omega))
      have hng:eF[gl.length].contains g=false:=by
       rw [Bool.eq_false_iff]
       intro hm
       rw [List.contains_iff_mem] at hm
       have:=hs'.2 g hm
       have hl:=h.len
       omega
      rw [List.length_append,List.length_singleton,List.take_add_one,Iz (by omega)]
      dsimp only [Option.toList]
      rw [ni (by rw [List.length_take];omega),hng]
      simp
     ·rw [List.length_append,List.length_singleton,decide_eq_false hrl]
      simp
 intro gl
 have h00:=key gl [] 0 (iE ends 0) _ h0 rfl ?_ ?_ (.inl rfl)
 ·rw [Ir] at h00
  exact h00
 ·refine gE fun n=>?_
  unfold lG
  rw [c8,c8]
  by_cases hnl:n < rows.length
  ·simp only [decide_eq_true hnl,Bool.true_and]
   unfold mv
   rw [Iz hnl]
   simp [eA]
  ·simp [decide_eq_false hnl]
 ·have hen:=he _ _ h0
  unfold iE
  rw [if_neg (by omega),List.getD_eq_getElem?_getD]
  rw [show (0:Int).toNat=0 from rfl,hen]
  dsimp only [Option.getD]
  refine gE fun n=>?_
  have hb:(iZ rows (lG rows have_))=ca have_ rows.length &&& wH rows 0:=by
   unfold iZ lG
   dsimp only
   split
   ·rename_i e
    rw [e,Nat.zero_and]
   ·rfl
  rw [hb,Nat.testBit_and,wH,c8,c8,c8]
  by_cases hnl:n < rows.length
  ·simp only [decide_eq_true hnl,Bool.true_and]
   unfold eH iY
   rw [Iz hnl]
   dsimp only
   generalize rows[n]=eF
   cases eF with
   | nil=>simp [eA]
   | cons s eF=>simp [eA]
  ·simp [decide_eq_false hnl]
end
end Go.Proofs.YtpmdfoaadejmkaaGreatDoor
namespace Go.Proofs.YtpmdfoaadejmkaaGreatDoor
open Go.RowKit
attribute [local irreducible] AT br AX AO Av Kt bb df DA cC
theorem nj:∀{ss:List (List Int)} {gl:List Int} {k:Nat},ss.length≤k→eA ss (gl.take k)=eA ss gl
 | [],_,_,_=>rfl
 | _::_,[],k,_=>by rw [List.take_nil]
 | _::ss,_::gl,0,h=>by simp at h
 | s::ss,g::gl,k+1,h=>by rw [List.take_succ_cons,eA,eA,nj (by simpa using h)]
theorem Al {α:Type} {q:α→Bool} {l:List α}:l.find? q=(l.findIdx? q).bind fun i=>l[i]?:=by
  cases h:l.findIdx? q with
  | none => rw [List.find?_eq_none.2]; · rfl
            intro x hx
            rw [List.findIdx?_eq_none_iff] at h
            rw [h x hx];decide
  | some i=>
    obtain ⟨hi,h1,h2⟩:=List.findIdx?_eq_some_iff_getElem.1 h
    rw [Option.bind_some,Iz hi,List.find?_eq_some_iff_getElem]
    exact ⟨h1,i,hi,rfl,fun j hj=>by simpa using h2 j hj⟩
theorem vD {α:Type} {q:α→Bool} {l:List α} {b:Nat} (hb:∀n,b.testBit n=(l[n]?).any q):
  (∀i,l.findIdx? q=some i→b.testBit i=true∧∀j,j < i→b.testBit j=false)∧(l.findIdx? q=none→b=0):=by
 constructor
 ·intro i h
  obtain ⟨hi,h1,h2⟩:=List.findIdx?_eq_some_iff_getElem.1 h
  refine ⟨by rw [hb,Iz hi];exact h1,fun j hj=>?_⟩
  rw [hb,Iz (by omega)]
  simpa using h2 j hj
 ·intro h
  refine gE fun n=>?_
  rw [hb,Nat.zero_testBit]
  cases hn:l[n]? with
  | none=>rfl
  | some x=>exact List.findIdx?_eq_none_iff.1 h x (Iw hn)
def dz (r:b8):List (List Int):=if r.In.isEmpty then [] else r.In++r.Ahead
def re (rs:List b8) (n:Nat):Bool:=match rs[n]? with
 | some r=> !r.In.isEmpty
 | none=>false
theorem xF {rs:List b8} {fg bg:List Int} {n:Nat}:(ca (eH (rs.map b8.Back) (fun _=>true) bg) (rs.map b8.Back).length &&& ca (eH (rs.map dz) (re rs) fg) (rs.map dz).length).testBit n=(rs[n]?).any fun r=> !r.In.isEmpty && (eA (r.In++r.Ahead) fg && eA r.Back bg):=by
 rw [Nat.testBit_and,c8,c8]
 simp only [Iu]
 unfold eH re
 simp only [List.getElem?_map]
 cases h:rs[n]? with
 | none=>simp
 | some r=>
  have hn:=(Ip h).1
  simp only [Option.map_some,Option.any_some,decide_eq_true hn,Bool.true_and]
  unfold dz
  cases r.In.isEmpty <;> simp [Bool.and_comm]
def fN (rs:List b8):Nat:=rs.foldl (fun m r=>max m (r.In.length+r.Ahead.length)) 0
def i5 (rs:List b8):Nat:=rs.foldl (fun m r=>max m r.Back.length) 0
theorem mh {α:Type} {g:α→Nat}:∀{l:List α} {m:Nat},m≤l.foldl (fun m r=>max m (g r)) m∧∀r∈l,g r≤l.foldl (fun m r=>max m (g r)) m
 | [],m=>⟨Nat.le_refl _,fun r h=>by cases h⟩
 | x::l,m=>by
  have ih:=mh (g:=g) (l:=l) (m:=max m (g x))
  rw [List.foldl_cons]
  refine ⟨by have:=ih.1;omega,fun r hr=>?_⟩
  rcases List.mem_cons.1 hr with rfl | hr
  ·have:=ih.1;omega
  ·exact ih.2 r hr
theorem vl {ms:List Bool} {ig:Bool} {run:List aK} {i:Nat} {rs:List b8} {b:Nat}
  (hb:∀n,b.testBit n=(rs[n]?).any fun r=> !r.In.isEmpty && (eA (r.In++r.Ahead) (((dJ ms ig run i).take (fN rs)).map (ea run)) && eA r.Back (((m8 ms ig run i).take (i5 rs)).map (ea run)))) (n:Nat):b.testBit n=(rs[n]?).any (eD ms ig run i):=by
 rw [hb]
 cases h:rs[n]? with
 | none=>rfl
 | some r=>
  have hm:=Iw h
  have h1:(r.In++r.Ahead).length≤fN rs:=by rw [List.length_append];exact (mh (g:=fun r:b8=>r.In.length+r.Ahead.length)).2 r hm
  have h2:r.Back.length≤i5 rs:=(mh (g:=fun r:b8=>r.Back.length)).2 r hm
  rw [Option.any_some,Option.any_some]
  unfold eD
  rw [List.map_take,List.map_take,nj h1,nj h2]
end Go.Proofs.YtpmdfoaadejmkaaGreatDoor
