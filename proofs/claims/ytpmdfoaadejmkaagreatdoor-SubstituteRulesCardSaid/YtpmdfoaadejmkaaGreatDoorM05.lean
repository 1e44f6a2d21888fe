/-
  Fonts as data, and as abstract values.
-/
import Derived.Test.YtpmdfoaadejmkaaGreatDoorM04
namespace Go.Proofs.YtpmdfoaadejmkaaGreatDoor
open Go.RowKit
abbrev aF (z:Int):AV:= .sc (.int .i64 z)
abbrev wE (s:ByteArray):AV:= .sc (.string s)
abbrev d6 (b:Bool):AV:= .sc (.bool b)
structure eS where
 X:Int
 Y:Int
 On:Bool
structure ec where
 Glyph:Int
 X:Int
 Y:Int
structure dO where
 Kind:Int
 Class:Int
 X:Int
 Y:Int
structure dW where
 Region:Int
 Point:Int
 X:Int
 Y:Int
structure gr where
 Op:Int
 A:Int
structure bD where
 Name:ByteArray
 Advance:Int
 Mark:Bool
 Points:List eS
 Ends:List Int
 Parts:List ec
 Anchors:List dO
 Deltas:List dW
 Hint:List gr
structure gu where
 Rune:Int
 Glyph:Int
structure gK where
 At:Int
 Lookup:Int
structure bh where
 Back:List (List Int)
 In:List (List Int)
 Ahead:List (List Int)
 Out:List Int
 Calls:List gK
 X:Int
structure aL where
 Kind:Int
 Ignore:Bool
 Rules:List bh
structure ck where
 Name:ByteArray
 Lookups:List Int
structure eN where
 Name:ByteArray
 Min:Int
 Def:Int
 Max:Int
structure fk where
 Start:Int
 Peak:Int
 End:Int
structure aZ where
 Unit:Int
 Glyphs:List bD
 Chars:List gu
 Lookups:List aL
 Features:List ck
 Axes:List eN
 Regions:List (List fk)
 Funcs:List (List gr)
 Cvt:List Int
def bc (l:List (List Int)):List (List AV):=l.map fun q=>[.imm 1 (aW q)]
def Ee (l:List ByteArray):List (List AV):=l.map fun s=>[wE s]
def dR (p:eS):List AV:=[aF p.X,aF p.Y,d6 p.On]
def eR (p:ec):List AV:=[aF p.Glyph,aF p.X,aF p.Y]
def dt (p:dO):List AV:=[aF p.Kind,aF p.Class,aF p.X,aF p.Y]
def ev (p:dW):List AV:=[aF p.Region,aF p.Point,aF p.X,aF p.Y]
def fc (p:gr):List AV:=[aF p.Op,aF p.A]
def bT (g:bD):List AV:=[wE g.Name,aF g.Advance,d6 g.Mark,.imm 3 (g.Points.map dR),.imm 1 (aW g.Ends),.imm 3 (g.Parts.map eR),.imm 4 (g.Anchors.map dt),.imm 4 (g.Deltas.map ev),.imm 2 (g.Hint.map fc)]
def eB (c:gu):List AV:=[aF c.Rune,aF c.Glyph]
def eK (c:gK):List AV:=[aF c.At,aF c.Lookup]
def bC (r:bh):List AV:=[.imm 1 (bc r.Back),.imm 1 (bc r.In),.imm 1 (bc r.Ahead),.imm 1 (aW r.Out),.imm 2 (r.Calls.map eK),aF r.X]
def bw (l:aL):List AV:=[aF l.Kind,d6 l.Ignore,.imm 6 (l.Rules.map bC)]
def cy (t:ck):List AV:=[wE t.Name,.imm 1 (aW t.Lookups)]
def cX (a:eN):List AV:=[wE a.Name,aF a.Min,aF a.Def,aF a.Max]
def l9 (t:fk):List AV:=[aF t.Start,aF t.Peak,aF t.End]
def bZ (r:List fk):List AV:=[.imm 3 (r.map l9)]
def dU (l:List gr):List AV:=[.imm 2 (l.map fc)]
def cJ (f:aZ):List AV:=[aF f.Unit,.imm 9 (f.Glyphs.map bT),.imm 2 (f.Chars.map eB),.imm 3 (f.Lookups.map bw),.imm 2 (f.Features.map cy),.imm 4 (f.Axes.map cX),.imm 1 (f.Regions.map bZ),.imm 1 (f.Funcs.map dU),.imm 1 (aW f.Cvt)]
abbrev df (f:aZ):AV:= .agg (cJ f)
theorem c5 {α:Type} {c:α→List AV} {l:List α} {i:Nat} {a:α} (h:l[i]?=some a):(l.map c)[i]?=some (c a):=by simp [h]
theorem Ef {l:List ByteArray} {i:Nat} {z:ByteArray} (h:l[i]?=some z):(Ee l)[i]?=some [wE z]:=by simp [Ee,h]
theorem bY (l:List (List Int)):(bc l).length=l.length:=by simp [bc]
theorem gn {l:List (List Int)} {i:Nat} {z:List Int} (h:l[i]?=some z):(bc l)[i]?=some [.imm 1 (aW z)]:=by simp [bc,h]
section
variable {P:Program} {tt:TT} {r:Option Nat} {Q:Exit→Act→World→Prop} {nt:Nat} {D:List Deferred} {fr:cf} {B:Bs} {L:AL} {l:List Oper} {fin:iH}
variable {k j:Nat} {s:Ak} {sk:lp} {acc:cf} {dd:Option Tmp} {op:Op} {ty t t':TypeId} {pos:String} {af:Array Edge} {g:Option (Nat×Bool)} {x y c:Operand} {u:AV} {want b:Bool}
def cG (P:Program) (l:List Oper) (fr:cf) (fin:iH) (k:Nat) (s:Ak) (o:Oper) (sk:lp) (acc:cf) (L:AL):Prop:=l[k]?=some o→DA P l fr fin ((k,s)::sk) acc L
theorem aB {o:Oper} (h:cG P l fr fin k s o sk acc L) (ho:l[k]?=some o:=by rfl):DA P l fr fin ((k,s)::sk) acc L:=h ho
def iO (o:Oper) (acc:cf):Prop:=match o.guard with
 | none=>True
 | some (j,want)=>ox acc j= .sc (.bool want)
theorem oE {o:Oper} {R:AV→AL→Prop} (hg:iO o acc) (h:∀B,AO P o (cE l.toArray acc fr o.after.toList) B L R):zr P l fr o acc L R:=by
 unfold zr
 unfold iO at hg
 split
 ·exact h
 ·rename_i j want hq
  rw [hq] at hg
  exact .inl ⟨hg,h⟩
theorem ff {o:Oper} (hg:iO o acc) (h:∀B L,AO P o (cE l.toArray acc fr o.after.toList) B L (fun c L'=>c=u∧L'=L)) (hn:DA P l fr fin sk ((k,u)::acc) L):cG P l fr fin k .v o sk acc L:=by
 intro ho
 obtain ⟨pl,hpl⟩:=hn
 exact ⟨.val k u pl,.v,sk,o,rfl,ho,.inl ⟨rfl,fun L=>oE hg fun B=>h B L⟩,hpl⟩
theorem CA {o:Oper} (hg:iO o acc) (h:∀B,AO P o (cE l.toArray acc fr o.after.toList) B L (fun c L'=>c=u∧L'=L)) (hn:DA P l fr fin sk ((k,u)::acc) L):cG P l fr fin k .l o sk acc L:=by
 intro ho
 obtain ⟨pl,hpl⟩:=hn
 exact ⟨.val k u pl,.l,sk,o,rfl,ho,.inr (.inl ⟨rfl,oE hg fun B=>h B⟩),hpl⟩
theorem iX {o:Oper} {R:AV→AL→Prop} (hg:iO o acc) (h:∀B,AO P o (cE l.toArray acc fr o.after.toList) B L R) (hn:∀c L',R c L'→DA P l fr fin sk ((k,c)::acc) L'):cG P l fr fin k .e o sk acc L:=by
 intro ho
 have hn':∀c L',∃pl,R c L'→dq P l fr fin pl sk ((k,c)::acc) L':=fun c L'=>by
  by_cases hr:R c L'
  ·obtain ⟨pl,hpl⟩:=hn c L' hr
   exact ⟨pl,fun _=>hpl⟩
  ·exact ⟨.fin,fun h=>absurd h hr⟩
 exact ⟨.eff k R fun c L'=>Classical.choose (hn' c L'),.e,sk,o,.inl rfl,rfl,ho,oE hg h,fun c L' hr=>Classical.choose_spec (hn' c L') hr⟩
theorem Hm {o:Oper} (hK:f3 fin.gs L) (hg:iO o acc) (h:∀B L,f3 fin.gs L→AO P o (cE l.toArray acc fr o.after.toList) B L (fun c L'=>c=u∧L'=L)) (hn:DA P l fr fin sk ((k,u)::acc) L):cG P l fr fin k .k o sk acc L:=by
 intro ho
 obtain ⟨pl,hpl⟩:=hn
 exact ⟨.val k u pl,.k,sk,o,rfl,ho,.inr (.inr ⟨rfl,hK,fun L hL=>oE hg fun B=>h B L hL⟩),hpl⟩
theorem tT {o:Oper} {R:AV→AL→Prop} (hX:∀c L',R c L'→f3 fin.gs L→f3 fin.gs L') (hg:iO o acc) (h:∀B,AO P o (cE l.toArray acc fr o.after.toList) B L R) (hn:∀c L',R c L'→DA P l fr fin sk ((k,c)::acc) L'):cG P l fr fin k .f o sk acc L:=by
 intro ho
 have hn':∀c L',∃pl,R c L'→dq P l fr fin pl sk ((k,c)::acc) L':=fun c L'=>by
  by_cases hr:R c L'
  ·obtain ⟨pl,hpl⟩:=hn c L' hr
   exact ⟨pl,fun _=>hpl⟩
  ·exact ⟨.fin,fun h=>absurd h hr⟩
 exact ⟨.eff k R fun c L'=>Classical.choose (hn' c L'),.f,sk,o,.inr (.inr ⟨rfl,hX⟩),rfl,ho,oE hg h,fun c L' hr=>Classical.choose_spec (hn' c L') hr⟩
theorem Cz {o:Oper} {R:AV→AL→Prop} (hX:∀c L',R c L'→∃X,L'=X++L) (hg:iO o acc) (h:∀B,AO P o (cE l.toArray acc fr o.after.toList) B L R) (hn:∀c L',R c L'→DA P l fr fin sk ((k,c)::acc) L'):cG P l fr fin k .a o sk acc L:=by
 intro ho
 have hn':∀c L',∃pl,R c L'→dq P l fr fin pl sk ((k,c)::acc) L':=fun c L'=>by
  by_cases hr:R c L'
  ·obtain ⟨pl,hpl⟩:=hn c L' hr
   exact ⟨pl,fun _=>hpl⟩
  ·exact ⟨.fin,fun h=>absurd h hr⟩
 exact ⟨.eff k R fun c L'=>Classical.choose (hn' c L'),.a,sk,o,.inr (.inl ⟨rfl,hX⟩),rfl,ho,oE hg h,fun c L' hr=>Classical.choose_spec (hn' c L') hr⟩
theorem ld {op:Op} (hj:ox acc j= .sc (.bool b)) (hb:(b==want)=false) (hn:DA P l fr fin sk ((k,.sc undef)::acc) L):cG P l fr fin k .v ⟨dd,op,ty,pos,af,some (j,want)⟩ sk acc L:=by
 intro ho
 obtain ⟨pl,hpl⟩:=hn
 exact ⟨.val k (.sc undef) pl,.v,sk,_,rfl,ho,.inl ⟨rfl,fun L=> .inr ⟨⟨_,hj,fun e=>by injection e with e;subst e;simp at hb⟩,rfl,rfl⟩⟩,hpl⟩
theorem z2 {o:Oper} {fr:cf} (h:Av P o fr u):∀B L,AO P o fr B L (fun c L'=>c=u∧L'=L):=fun _ _=>h.ao
theorem aX (ok:ez P tt) (h:DA P l fr fin sk ((k,u)::acc) L) (hu:s8 tt (cE l.toArray acc fr af.toList) op=some u:=by rfl) (hg:iO ⟨dd,op,ty,pos,af,g⟩ acc:=by first | trivial | rfl):cG P l fr fin k .v ⟨dd,op,ty,pos,af,g⟩ sk acc L:=ff hg (z2 (na ok hu)) h
theorem dz {bop:BinOp} (h:cG P l fr fin k .v ⟨dd,.binOp bop t x y t',ty,pos,af,g⟩ sk acc L):cG P l fr fin k .v ⟨dd,.binOp bop t x y t',ty,pos,af,g⟩ sk acc L:=h
theorem eL {bop:BinOp} (h:DA P l fr fin sk ((k,u)::acc) L) (ho:Av P ⟨dd,.binOp bop t x y t',ty,pos,af,g⟩ (cE l.toArray acc fr af.toList) u:=by first | exact yk rfl rfl (by omega) | exact yr rfl rfl (by omega) | exact yp rfl rfl (by omega)) (hg:iO ⟨dd,.binOp bop t x y t',ty,pos,af,g⟩ acc:=by first | trivial | rfl):cG P l fr fin k .v ⟨dd,.binOp bop t x y t',ty,pos,af,g⟩ sk acc L:=ff hg (z2 ho) h
theorem cm (h:cG P l fr fin k .v ⟨dd,.indexAddr t x y,ty,pos,af,g⟩ sk acc L):cG P l fr fin k .v ⟨dd,.indexAddr t x y,ty,pos,af,g⟩ sk acc L:=h
theorem cA (ok:ez P tt) {e sz by_ s:Nat} {ll:List (List AV)} {ik:IntKind} {i:Int} {es:List AV} (h:DA P l fr fin sk ((k,.iptr es)::acc) L) (ht:jN tt t=some (e,sz,by_):=by rfl) (hx:br (cE l.toArray acc fr af.toList) x=some u:=by rfl) (hu:iL u=some (s,ll):=by rfl) (hs:Nat.beq s sz=true:=by rfl) (hy:br (cE l.toArray acc fr af.toList) y=some (.sc (.int ik i)):=by rfl) (h0:0≤i:=by omega) (hl:ll[i.toNat]?=some es:=by first | assumption | (simp only [Int.toNat_natCast];assumption)) (hg:iO ⟨dd,.indexAddr t x y,ty,pos,af,g⟩ acc:=by first | trivial | rfl):cG P l fr fin k .v ⟨dd,.indexAddr t x y,ty,pos,af,g⟩ sk acc L:=ff hg (z2 (yn (bz ok ht).1 hx (d4 hu) hs hy h0 hl)) h
theorem dh {f:FuncId} {args:Array Operand} {ts:Array TypeId} (h:cG P l fr fin k .v ⟨dd,.call ⟨.value (.func f),args,ts⟩,ty,pos,af,g⟩ sk acc L):cG P l fr fin k .v ⟨dd,.call ⟨.value (.func f),args,ts⟩,ty,pos,af,g⟩ sk acc L:=h
theorem dK {f:FuncId} {args:Array Operand} {ts:Array TypeId} {cs ds:List AV} [bM P f] (h:DA P l fr fin sk ((k,u)::acc) L) (hv:eM (cE l.toArray acc fr af.toList) args.toList=some cs:=by rfl) (hi:mB cs=some ds:=by rfl) (hc:AD P f ds u:=by infer_instance) (hg:iO ⟨dd,.call ⟨.value (.func f),args,ts⟩,ty,pos,af,g⟩ acc:=by first | trivial | rfl):cG P l fr fin k .v ⟨dd,.call ⟨.value (.func f),args,ts⟩,ty,pos,af,g⟩ sk acc L:=ff hg (fun _ _=>BZ hv (by rw [jx hi];exact hc.det)) h
theorem bN (ok:ez P tt) (i:Nat) {b kk:Nat} {cs:List AV} {e:TypeId} (ht:IZ tt t=true) (hx:br (cE l.toArray acc fr af.toList) x=some (.sc (.pointer (some ⟨b,kk,none⟩)))) (hL:L[i]?=some (b,.box cs e)) (hc:cs[kk]?=some u) (hg:iO ⟨dd,.load t x,ty,pos,af,g⟩ acc) (h:DA P l fr fin sk ((k,u)::acc) L):cG P l fr fin k .l ⟨dd,.load t x,ty,pos,af,g⟩ sk acc L:=CA hg (fun _=>tO i (cT ok ht) hx hL hc) h
theorem KY (ok:ez P tt) (i:Nat) {b kk:Nat} {cs:List AV} {e:TypeId} (zz:IZ tt t=true∧br (cE l.toArray acc fr af.toList) x=some (.sc (.pointer (some ⟨b,kk,none⟩)))∧L[i]?=some (b,.box cs e)∧cs[kk]?=some u) (hg:iO ⟨dd,.load t x,ty,pos,af,g⟩ acc) (h:DA P l fr fin sk ((k,u)::acc) L):cG P l fr fin k .l ⟨dd,.load t x,ty,pos,af,g⟩ sk acc L:=bN ok i zz.1 zz.2.1 zz.2.2.1 zz.2.2.2 hg h
theorem qc (ok:ez P tt) (i:Nat) {b kk n:Nat} {cs:List AV} {e:TypeId} (ht:HZ tt t=some n) (hx:br (cE l.toArray acc fr af.toList) x=some (.sc (.pointer (some ⟨b,kk,none⟩)))) (hL:L[i]?=some (b,.box cs e)) (hc:Nat.ble (kk+n) cs.length=true) (hg:iO ⟨dd,.load t x,ty,pos,af,g⟩ acc) (h:DA P l fr fin sk ((k,.agg ((cs.drop kk).take n))::acc) L):cG P l fr fin k .l ⟨dd,.load t x,ty,pos,af,g⟩ sk acc L:=CA hg (fun _=>uX i (eO ok ht) hx hL hc) h
theorem Aw {gs:KpL} {i b kk:Nat} {v:AV} (hi:gs[i]?=some (.cell (b,kk,v))) {L:AL} (h:f3 gs L):∃(j:Nat) (cs:List AV) (e:TypeId),L[j]?=some (b,.box cs e)∧cs[kk]?=some v:=by
 obtain ⟨cs,e,h1,h2⟩:=h _ (Kw hi)
 obtain ⟨j,hj⟩:=List.mem_iff_getElem?.1 h1
 exact ⟨j,cs,e,hj,h2⟩
theorem dY (ok:ez P tt) (i:Nat) {b kk:Nat} (ht:IZ tt t=true) (hx:br (cE l.toArray acc fr af.toList) x=some (.sc (.pointer (some ⟨b,kk,none⟩)))) (hi:fin.gs[i]?=some (.cell (b,kk,u))) (hK:f3 fin.gs L) (hg:iO ⟨dd,.load t x,ty,pos,af,g⟩ acc) (h:DA P l fr fin sk ((k,u)::acc) L):cG P l fr fin k .k ⟨dd,.load t x,ty,pos,af,g⟩ sk acc L:=
 Hm hK hg (fun _ L' hL'=>by
  obtain ⟨j,cs,e,h1,h2⟩:=Aw hi hL'
  exact tO j (cT ok ht) hx h1 h2) h
theorem yt {d:Option Tmp} {e sz by_ n:Nat} {parts:Array (Nat×Operand)} {vs:List AV} {xs:List (List AV)} (hc:kv P t e sz by_) (hsz:0 < sz) (hv:eM fr (parts.toList.map (·.2))=some vs) (hxs:kz vs=some xs) (hn:Nat.beq xs.length n=true) (hi:parts.toList.map (·.1)=List.range' 0 n) (hz:xs.all (fun q=>Nat.beq q.length sz)=true) (h24:Nat.ble (n * sz) 16777216=true):
  AO P ⟨d,.buildSlice t n parts,ty,pos,af,g⟩ fr B L (fun c L'=>c= .imm sz xs∧L'=L):=by
 intro σ ρ w hρ hw
 refine (C1 hc hsz hv hxs hn hi hz h24 σ ρ w hρ hw).mono fun v w' hh=>?_
 obtain ⟨τ,c,L',h1,h2,h3,b,rfl,rfl⟩:=hh
 exact ⟨τ,_,L,h1,h2.im,h3.sublist (.cons _ (List.Sublist.refl _)),rfl,rfl⟩
theorem eD (ok:ez P tt) {e sz by_ n:Nat} {parts:Array (Nat×Operand)} {vs:List AV} {xs:List (List AV)} (h:DA P l fr fin sk ((k,.imm sz xs)::acc) L) (ht:jN tt t=some (e,sz,by_):=by rfl) (hv:eM (cE l.toArray acc fr af.toList) (parts.toList.map (·.2))=some vs:=by rfl) (hxs:kz vs=some xs:=by rfl) (hn:Nat.beq xs.length n=true:=by rfl) (hi:parts.toList.map (·.1)=List.range' 0 n:=by rfl) (hz:xs.all (fun q=>Nat.beq q.length sz)=true:=by rfl) (h24:Nat.ble (n * sz) 16777216=true:=by rfl) (hg:iO ⟨dd,.buildSlice t n parts,ty,pos,af,g⟩ acc:=by first | trivial | rfl):
  cG P l fr fin k .v ⟨dd,.buildSlice t n parts,ty,pos,af,g⟩ sk acc L:=ff hg (fun _ _=>yt (bz ok ht).1 (bz ok ht).2 hv hxs hn hi hz h24) h
theorem bW (ok:ez P tt) {r:Option Nat} {ops:Array Oper} {Q:Exit→Act→World→Prop} {nt:Nat} {D:List Deferred} {rest:List Oper} {d e sz by_ n:Nat} {parts:Array (Nat×Operand)} {vs:List AV} {xs:List (List AV)} (h:bJ P r ops Q nt D rest ((d,.imm sz xs)::fr) B L) (ht:jN tt t=some (e,sz,by_):=by rfl) (hv:eM fr (parts.toList.map (·.2))=some vs:=by rfl) (hxs:kz vs=some xs:=by rfl) (hn:Nat.beq xs.length n=true:=by rfl) (hi:parts.toList.map (·.1)=List.range' 0 n:=by rfl) (hz:xs.all (fun q=>Nat.beq q.length sz)=true:=by rfl) (h24:Nat.ble (n * sz) 16777216=true:=by rfl) (hd:Nat.ble nt d=false:=by rfl):
  bJ P r ops Q nt D (⟨some d,.buildSlice t n parts,ty,pos,af,none⟩::rest) fr B L:=by
 obtain ⟨h1,h2⟩:=bz ok ht
 refine cN hd rfl (yt h1 h2 hv hxs hn hi hz h24) fun c L' hh=>?_
 obtain ⟨h1,h2⟩:=hh
 subst h1;subst h2
 exact h
theorem bk {gs:KpL} {n0:Nat} {fr0:cf} {rest:List Oper} (ks:List Nat) (hk:gM (iv l.toArray acc fr n0) ks=some fr0) (hr:l.drop n0=rest) (h:bJ P r l.toArray Q nt D rest fr0 B L):DA P l fr ⟨vt P r l n0 Q nt D fr B none,gs⟩ [] acc L:=
 ⟨.fin,rfl,by rw [←hr] at h;exact v6 (ej ks hk) (fun _ _ h=>h) h⟩
theorem KU {gs:KpL} {n0:Nat} {fr0:cf} {rest:List Oper} (ks:List Nat) (zz:gM (iv l.toArray acc fr n0) ks=some fr0∧l.drop n0=rest) (h:bJ P r l.toArray Q nt D rest fr0 B L):DA P l fr ⟨vt P r l n0 Q nt D fr B none,gs⟩ [] acc L:=bk ks zz.1 zz.2 h
theorem yF {gs:KpL} {n0 kk:Nat} {ab:AB} {rest:List Oper} (ks:List Nat) (fr0:Nat→cf) (hk:∀b,gM (iv l.toArray ((kk,.sc (.pointer (some ⟨b,0,none⟩)))::acc) fr n0) ks=some (fr0 b)) (hr:l.drop n0=rest) (h:∀b,bJ P r l.toArray Q nt D rest (fr0 b) B (L++[(b,ab)])):DA P l fr ⟨vt P r l n0 Q nt D fr B (some (kk,ab)),gs⟩ [] acc L:=
 ⟨.fin,rfl,fun b=>by have:=h b;rw [←hr] at this;exact v6 (ej ks (hk b)) (fun _ _ h=>h) this⟩
end
end Go.Proofs.YtpmdfoaadejmkaaGreatDoor
namespace Go.Proofs.YtpmdfoaadejmkaaGreatDoor
open Go.RowKit
attribute [local irreducible] AT bJ AX AO Av Kt bi dq DA cG
structure aJ where
 Glyph:Int
 Cluster:Int
 Form:Int
 Advance:Int
 X:Int
 Y:Int
def bO (x:aJ):List AV:=[aF x.Glyph,aF x.Cluster,aF x.Form,aF x.Advance,aF x.X,aF x.Y]
def pB (ms:List Bool) (g:Int):Bool:=decide (0≤g) && ms.getD g.toNat false
def iG (ms:List Bool) (ig:Bool) (x:aJ):Bool:= !(ig && pB ms x.Glyph)
def jK (ms:List Bool) (ig:Bool) (run:List aJ) (i:Nat):Bool:=match run[i]? with
 | some x=>iG ms ig x
 | none=>false
def dk (ms:List Bool) (ig:Bool) (run:List aJ) (i:Nat):List Nat:=(List.range' i (run.length - i)).filter (jK ms ig run)
def gN (ms:List Bool) (ig:Bool) (run:List aJ):Nat→List Nat
 | 0=>[]
 | i+1=>if jK ms ig run i=true then i::gN ms ig run i else gN ms ig run i
def cV (run:List aJ) (i:Nat):Int:=match run[i]? with
 | some x=>x.Glyph
 | none=> -1
def dv:List (List Int)→List Int→Bool
 | [],_=>true
 | _::_,[]=>false
 | s::ss,g::gs=>s.contains g && dv ss gs
def dM (ms:List Bool) (ig:Bool) (run:List aJ) (i:Nat) (r:bh):Bool:=
 !r.In.isEmpty && (dv (r.In++r.Ahead) ((dk ms ig run i).map (cV run)) && dv r.Back ((gN ms ig run i).map (cV run)))
def iq (ms:List Bool) (ig:Bool) (run:List aJ) (i:Nat) (forms:List Int):Bool:=match run[i]? with
 | some x=>iG ms ig x && (forms.isEmpty || forms.contains x.Form)
 | none=>false
def ek (ms:List Bool) (l:aL) (run:List aJ) (i:Nat) (forms:List Int):Option bh:=if iq ms l.Ignore run i forms=true then l.Rules.find? (dM ms l.Ignore run i) else none
def d8 (ms:List Bool) (l:aL) (run:List aJ) (i:Nat) (r:bh):List Nat:=(dk ms l.Ignore run i).take r.In.length
def dI (r:bh) (i:Nat) (run:List aJ):List aJ:=match run[i]? with
 | none=>run
 | some x=>match r.Out[(r.In.headD []).idxOf x.Glyph]? with
  | none=>run
  | some g=>if (r.In.headD []).idxOf x.Glyph < (r.In.headD []).length then run.set i { x with Glyph:=g } else run
def fC (r:bh) (i:Nat) (run:List aJ):List aJ:=match run[i]? with
 | none=>run
 | some x=>if run.length - 1+r.Out.length > 500∧1 < r.Out.length then run else run.take i++(r.Out.map fun g=>{ x with Glyph:=g })++run.drop (i+1)
def ee:List Nat→List aJ→List aJ
 | [],run=>run
 | p::ps,run=>(ee ps run).eraseIdx p
def lQ (run:List aJ) (c:Int) (p:Nat):Int:=match run[p]? with
 | some x=>min c x.Cluster
 | none=>c
def eI (run:List aJ) (ps:List Nat) (c:Int):Int:=ps.foldl (lQ run) c
def j5 (r:bh) (ps:List Nat) (run:List aJ):List aJ:=match ps,r.Out with
 | p::q,g::_=>match run[p]? with
  | some x=>ee q (run.set p { x with Glyph:=g,Cluster:=eI run (p::q) x.Cluster })
  | none=>run
 | _,_=>run
def nX (r:bh) (i:Nat) (run:List aJ):List aJ:=match run[i]? with
 | some x=>run.set i { x with Advance:=IntKind.i64.wrap (x.Advance+r.X) }
 | none=>run
def mC (ms:List Bool) (ig:Bool) (run:List aJ) (i:Nat) (n:Int):Option Nat:=if 0≤n then (dk ms ig run i)[n.toNat]? else none
def dE (l:aL) (r:bh) (ps:List Nat) (run:List aJ):List aJ:=
 if l.Kind=1∨l.Kind=5 then dI r (ps.headD 0) run
 else if l.Kind=2 then fC r (ps.headD 0) run
 else if l.Kind=3 then j5 r ps run
 else if l.Kind=6 then nX r (ps.headD 0) run
 else run
abbrev J6:=aL→bh→List Nat→List aJ→List aJ
def iA (ms:List Bool) (ls:List aL) (d:J6) (n:Int) (i:Nat) (run:List aJ):List aJ:=
 if n < 0 then run else match ls[n.toNat]? with
 | none=>run
 | some l=>if l.Kind < 1∨4 < l.Kind then run else match ek ms l run i [] with
  | none=>run
  | some r=>d l r (d8 ms l run i r) run
def dX (ms:List Bool) (ls:List aL) (d:J6) (ig:Bool) (i:Nat) (run:List aJ) (c:gK):List aJ:=match mC ms ig run i c.At with
 | none=>run
 | some p=>iA ms ls d c.Lookup p run
def fq (ms:List Bool) (ls:List aL):Nat→J6
 | 0=>fun l r ps run=>dE l r ps run
 | k+1=>fun l r ps run=>if l.Kind=4 then r.Calls.foldl (dX ms ls (fq ms ls k) l.Ignore (ps.headD 0)) run else dE l r ps run
def ki (l:aL) (i last:Nat) (run run':List aJ):Nat:=
 if l.Kind=4 then max (run'.length - (run.length - 1 - last)) (i+1)
 else if l.Kind=6∧i < last then last
 else run'.length - (run.length - 1 - last)
def sm (ms:List Bool) (ls:List aL) (l:aL) (forms:List Int):Nat→Nat→List aJ→List aJ
 | 0,_,run=>run
 | k+1,i,run=>if i < run.length then match ek ms l run i forms with
   | none=>sm ms ls l forms k (i+1) run
   | some r=>sm ms ls l forms k (ki l i ((d8 ms l run i r).getLastD i) run (fq ms ls 4 l r (d8 ms l run i r) run)) (fq ms ls 4 l r (d8 ms l run i r) run)
  else run
def gz (ms:List Bool) (ls:List aL) (l:aL) (forms:List Int):Nat→List aJ→List aJ
 | 0,run=>run
 | i+1,run=>gz ms ls l forms i (match ek ms l run i forms with
  | none=>run
  | some r=>fq ms ls 4 l r (d8 ms l run i r) run)
def cK (ms:List Bool) (ls:List aL) (n:Int) (run:List aJ) (forms:List Int):List aJ:=
 if n < 0 then run else match ls[n.toNat]? with
 | none=>run
 | some l=>if l.Kind < 1∨6 < l.Kind then run else if l.Kind=5 then gz ms ls l forms run.length run else sm ms ls l forms run.length 0 run
def cx (p:Nat→Bool):Nat→Nat
 | 0=>0
 | n+1=>cx p n ||| (if p n=true then 2 ^ n else 0)
theorem ct (p:Nat→Bool) (i:Nat):∀n,(cx p n).testBit i=(decide (i < n) && p i)
 | 0=>by simp [cx]
 | n+1=>by
  rw [cx,Nat.testBit_or,ct p i n]
  by_cases hi:i=n
  ·subst hi
   cases hp:p i <;> simp [Nat.testBit_two_pow_self]
  ·have h1:decide (i < n+1)=decide (i < n):=decide_eq_decide.2 (by omega)
   have h2:(if p n=true then 2 ^ n else 0).testBit i=false:=by
    split
    ·rw [Nat.testBit_two_pow_of_ne (by omega)]
    ·simp
   rw [h1,h2,Bool.or_false]
theorem nr (p:Nat→Bool) (n:Nat):cx p n < 2 ^ n:=Nat.lt_pow_two_of_testBit _ fun i hi=>by
 rw [ct,decide_eq_false (by omega),Bool.false_and]
theorem ia {x y:Nat} (h:∀i,x.testBit i=y.testBit i):x=y:=Nat.eq_of_testBit_eq h
theorem qK {p:Nat→Bool} {n:Nat}:cx p n=0↔∀i,i < n→p i=false:=by
 constructor
 ·intro h i hi
  have:=ct p i n
  rw [h,Nat.zero_testBit,decide_eq_true hi,Bool.true_and] at this
  exact this.symm
 ·intro h
  refine ia fun i=>?_
  rw [ct,Nat.zero_testBit]
  by_cases hi:i < n
  ·rw [h i hi,Bool.and_false]
  ·rw [decide_eq_false hi,Bool.false_and]
section
variable (cls:List Int) (rows:List (List (List Int))) (have_:Nat→Bool)
def fK (c:Nat) (s:List Int):Bool:=s.any fun g=>decide (0≤g) && (decide (g < cls.length) && decide (cls.getD g.toNat (-1)=(c:Int)))
def mH (m c:Nat) (n:Nat):Bool:=match rows[n]? with
 | some r=>match r[m]? with
  | some s=>fK cls c s
  | none=>false
 | none=>false
def jT (m:Nat) (n:Nat):Bool:=match rows[n]? with
 | some r=>decide (r.length=m)
 | none=>false
def kf (m c:Nat):Nat:=cx (mH cls rows m c) rows.length
def yH (m:Nat):Nat:=cx (jT rows m) rows.length
def mX:Nat×Nat:=(0,cx have_ rows.length)
def cq (p:Nat×Nat) (c:Nat):Nat×Nat:=if p.2 &&& kf cls rows p.1 c=0 then (0,0) else (p.1+1,p.2 &&& kf cls rows p.1 c)
def jU (p:Nat×Nat):Nat:=if p.2=0 then 0 else p.2 &&& yH rows p.1
structure sI (C:Nat) (tab:List (List Int)) (ends:List Nat):Prop where
 met:∃met:List (Nat×Nat),met[0]?=some (mX rows have_)∧met.length=tab.length∧met.length=ends.length∧
  (∀(i:Nat) p,met[i]?=some p→ends[i]?=some (jU rows p))∧
  (∀(i:Nat) p q,met[i]?=some p→tab[i]?=some q→q.length=C∧∀(c:Nat) z,q[c]?=some z→((cq cls rows p c).2=0∧z= -1)∨((cq cls rows p c).2≠0∧0≤z∧met[z.toNat]?=some (cq cls rows p c)))
end
def iD (cls:List Int) (tab:List (List Int)) (s:Int) (g:Int):Int:=
 if s < 0∨g < 0 then -1 else match tab[s.toNat]?,cls[g.toNat]? with
 | some f9,some c=>if c < 0 then -1 else match f9[c.toNat]? with
  | some z=>if 0≤z∧z < tab.length then z else -1
  | none=> -1
 | _,_=> -1
def jv (ends:List Nat) (s:Int):Nat:=if s < 0 then 0 else ends.getD s.toNat 0
def mL (cls:List Int) (tab:List (List Int)) (ends:List Nat):Int→List Int→Nat→Nat
 | _,[],told=>told
 | s,g::r,told=>if iD cls tab s g= -1 then told else mL cls tab ends (iD cls tab s g) r (told ||| jv ends (iD cls tab s g))
def gk (cls:List Int) (tab:List (List Int)) (ends:List Nat) (gl:List Int):Nat:=mL cls tab ends 0 gl (jv ends 0)
structure uJ (n:Nat) (C:Nat) (cls:List Int) (sets:List (List Int)):Prop where
 len:cls.length=n
 dom:∀z∈cls,0≤z∧z < C
 apart:∀s∈sets,∀(i j:Nat) z,cls[i]?=some z→cls[j]?=some z→((i:Int)∈s↔(j:Int)∈s)
theorem vV {cls:List Int} {n C:Nat} {sets:List (List Int)} (h:uJ n C cls sets) {s:List Int} (hs:s∈sets) (hd:∀g∈s,0≤g∧g < n) {g:Int} (h0:0≤g) {c:Nat} (hc:cls[g.toNat]?=some (c:Int)):fK cls c s=s.contains g:=by
 rw [Bool.eq_iff_iff,List.contains_iff_mem]
 unfold fK
 rw [List.any_eq_true]
 constructor
 ·rintro ⟨x,hx,hb⟩
  simp only [Bool.and_eq_true,decide_eq_true_eq] at hb
  obtain ⟨h1,h2,h3⟩:=hb
  have hxc:cls[x.toNat]?=some (c:Int):=by
   rw [Kz (by omega)]
   rw [List.getD_eq_getElem?_getD,Kz (by omega)] at h3
   exact congrArg some h3
  have:=(h.apart s hs x.toNat g.toNat c hxc hc).1 (by rw [Int.toNat_of_nonneg h1];exact hx)
  rwa [Int.toNat_of_nonneg h0] at this
 ·intro hg
  refine ⟨g,hg,?_⟩
  have hl:=h.len
  have:=hd g hg
  simp only [Bool.and_eq_true,decide_eq_true_eq]
  refine ⟨h0,by omega,?_⟩
  rw [List.getD_eq_getElem?_getD,hc]
  rfl
def nN (rows:List (List (List Int))) (have_:Nat→Bool) (gl:List Int) (n:Nat):Bool:=match rows[n]? with
 | some r=>have_ n && (decide (gl.length≤r.length) && dv (r.take gl.length) gl)
 | none=>false
theorem oO:∀{ss:List (List Int)} {gl:List Int} {s:List Int} {g:Int},ss.length=gl.length→dv (ss++[s]) (gl++[g])=(dv ss gl && s.contains g)
 | [],[],s,g,_=>by simp [dv]
 | [],_::_,_,_,h=>by simp at h
 | _::_,[],_,_,h=>by simp at h
 | s'::ss,g'::gl,s,g,h=>by
  rw [Kr,Kr,dv,oO (by simpa using h),dv,Bool.and_assoc]
theorem g7:∀{a:List (List Int)} {b:List Int},b.length < a.length→dv a b=false
 | [],_,h=>by simp at h
 | _::_,[],_=>rfl
 | _::a,_::b,h=>by rw [dv,g7 (by simpa using h),Bool.and_false]
theorem mh:∀{ss:List (List Int)} {gl x:List Int},ss.length≤gl.length→dv ss (gl++x)=dv ss gl
 | [],_,_,_=>rfl
 | _::_,[],_,h=>by simp at h
 | s::ss,g::gl,x,h=>by rw [Kr,dv,dv,mh (by simpa using h)]
section
variable {cls:List Int} {rows:List (List (List Int))} {have_:Nat→Bool} {N C:Nat} {sets:List (List Int)}
theorem Dr (h:uJ N C cls sets) (hs:∀r∈rows,∀s∈r,s∈sets∧∀g∈s,0≤g∧g < N) {gl:List Int} {g:Int} {c:Nat} (h0:0≤g) (hc:cls[g.toNat]?=some (c:Int)):
  cx (nN rows have_ gl) rows.length &&& kf cls rows gl.length c=cx (nN rows have_ (gl++[g])) rows.length:=by
 refine ia fun n=>?_
 rw [Nat.testBit_and,ct,kf,ct,ct]
 by_cases hn:n < rows.length
 ·simp only [decide_eq_true hn,Bool.true_and]
  unfold nN mH
  rw [Kz hn]
  dsimp only
  have hm:=List.getElem_mem hn
  generalize rows[n]=r at hm
  rw [List.length_append,List.length_singleton]
  by_cases hl:gl.length < r.length
  ·have hs':=hs r hm r[gl.length] (List.getElem_mem hl)
   rw [Kz hl,decide_eq_true (by omega:gl.length≤r.length),decide_eq_true (by omega:gl.length+1≤r.length),List.take_add_one,Kz hl]
   dsimp only [Option.toList]
   rw [oO (by rw [List.length_take];omega),vV h hs'.1 hs'.2 h0 hc]
   cases have_ n <;> simp
  ·rw [List.getElem?_eq_none (by omega),decide_eq_false (by omega:¬gl.length+1≤r.length)]
   simp
 ·simp [decide_eq_false hn]
def fb (rows:List (List (List Int))) (have_:Nat→Bool) (gl:List Int) (n:Nat):Bool:=match rows[n]? with
 | some r=>have_ n && dv r gl
 | none=>false
theorem pI {tab:List (List Int)} {ends:List Nat} (h:uJ N C cls sets) (hs:∀r∈rows,∀s∈r,s∈sets∧∀g∈s,0≤g∧g < N) (ht:sI cls rows have_ C tab ends) (hC:∀z∈cls,z.toNat < C):
  ∀(gl:List Int),gk cls tab ends gl=cx (fb rows have_ gl) rows.length:=by
 obtain ⟨met,h0,hl,hle,he,hn⟩:=ht.met
 have hmt:=hl
 have key:∀(r gl:List Int) (s:Nat) (told:Nat) (p:Nat×Nat),met[s]?=some p→p.1=gl.length→p.2=cx (nN rows have_ gl) rows.length→told=cx (fb rows have_ gl) rows.length→
   (gl=[]∨p.2≠0)→mL cls tab ends s r told=cx (fb rows have_ (gl++r)) rows.length:=by
  intro r
  induction r with
  | nil=>intro gl s told p _ _ _ ht _;rw [mL,List.append_nil];exact ht
  | cons g r ih=>
   intro gl s told p hp hp1 hp2 htold hne
   have hsl:s < met.length:=(Ko hp).1
   obtain ⟨q,hq⟩:∃q,tab[s]?=some q:=⟨_,Kz (by omega)⟩
   obtain ⟨hqC,hqn⟩:=hn s p q hp hq
   have stop:(∀n,nN rows have_ (gl++[g]) n=false)→cx (fb rows have_ gl) rows.length=cx (fb rows have_ (gl++g::r)) rows.length:=by
    intro hz
    refine ia fun n=>?_
    rw [ct,ct]
    congr 1
    have hzn:=hz n
    unfold nN at hzn
    unfold fb
    cases hr:rows[n]? with
    | none=>rfl
    | some f9=>
     rw [hr] at hzn
     dsimp only at hzn ⊢
     by_cases hh:have_ n=true
     ·rw [hh,Bool.true_and] at hzn ⊢
      rw [Bool.true_and]
      by_cases hrl:f9.length≤gl.length
      ·rw [mh hrl]
      ·rw [List.length_append,List.length_singleton,decide_eq_true (by omega),Bool.true_and,List.take_add_one,Kz (by omega)] at hzn
       dsimp only [Option.toList] at hzn
       have e1:dv f9 gl=false:=by
        rw [Bool.eq_false_iff]
        intro hf
        rw [g7 (by omega)] at hf
        cases hf
       have e2:dv f9 (gl++g::r)=false:=by
        have e3:f9=(f9.take gl.length++[f9[gl.length]])++f9.drop (gl.length+1):=by
         rw [List.append_assoc,List.singleton_append,List.getElem_cons_drop,List.take_append_drop]
        have e4:∀{a b:List (List Int)} {x:List Int},dv (a++b) x=true→dv a x=true:=by
         intro a
         induction a with
         | nil=>intro b x _;rfl
         | cons y a iha=>
          intro b x hx
          cases x with
          | nil=>cases hx
          | cons w x=>
           rw [Kr,dv,Bool.and_eq_true] at hx
           rw [dv,Bool.and_eq_true]
           exact ⟨hx.1,iha hx.2⟩
        rw [Bool.eq_false_iff]
        intro hf
        rw [e3] at hf
        have:=e4 hf
        rw [show gl++g::r=(gl++[g])++r by simp,mh (by simp;omega)] at this
        rw [this] at hzn
        cases hzn
       rw [e1,e2]
     ·simp [hh]
   rw [mL]
   by_cases hg:0≤g∧g.toNat < cls.length
   ·obtain ⟨hg0,hgl⟩:=hg
    obtain ⟨z,hz⟩:∃z,cls[g.toNat]?=some z:=⟨_,Kz hgl⟩
    have hzm:=Kw hz
    have hzd:=h.dom z hzm
    obtain ⟨c,rfl⟩:=Int.eq_ofNat_of_zero_le hzd.1
    have hcC:c < C:=by omega
    obtain ⟨t,htc⟩:∃t,q[c]?=some t:=⟨_,Kz (by omega)⟩
    have hstep:=Dr (have_:=have_) (gl:=gl) h hs hg0 hz
    have hnx:iD cls tab s g=if 0≤t∧t < tab.length then t else -1:=by
     unfold iD
     rw [if_neg (by omega),Int.toNat_natCast,hq,hz]
     dsimp only
     rw [if_neg (by omega),Int.toNat_natCast,htc]
    have hbe:cq cls rows p c=if cx (nN rows have_ (gl++[g])) rows.length=0 then (0,0) else (gl.length+1,cx (nN rows have_ (gl++[g])) rows.length):=by
     unfold cq
     rw [hp1,hp2,hstep]
    rcases hqn c t htc with ⟨h1,h2⟩ | ⟨h1,h2,h3⟩
    ·subst h2
     have hno:¬((0:Int)≤-1∧(-1:Int) < tab.length):=fun e=>absurd e.1 (by decide)
     rw [hnx,if_neg hno,if_pos rfl,htold]
     refine stop fun n=>?_
     rw [hbe] at h1
     have hzero:cx (nN rows have_ (gl++[g])) rows.length=0:=by
      split at h1
      ·assumption
      ·exact h1
     by_cases hnl:n < rows.length
     ·exact qK.1 hzero n hnl
     ·unfold nN;rw [List.getElem?_eq_none (by omega)]
    ·have htl:t.toNat < tab.length:=by
      have:=(Ko h3).1
      omega
     have htz:¬t= -1:=by omega
     have hin:(0:Int)≤t∧t < tab.length:=⟨h2,by omega⟩
     rw [if_pos hin] at hnx
     rw [hnx,if_neg htz]
     rw [hbe] at h1 h3
     have hnz:¬cx (nN rows have_ (gl++[g])) rows.length=0:=by
      intro e
      rw [if_pos e] at h1
      exact h1 rfl
     rw [if_neg hnz] at h3
     have:=ih (gl++[g]) t.toNat (told ||| jv ends t) _ h3 (by simp) rfl ?_ (.inr hnz)
     ·rw [Int.toNat_of_nonneg h2] at this
      rw [this]
      simp
     ·
      have hen:=he _ _ h3
      unfold jv
      rw [if_neg (by omega),List.getD_eq_getElem?_getD,hen,htold]
      dsimp only [Option.getD]
      unfold jU
      rw [if_neg hnz]
      refine ia fun n=>?_
      rw [Nat.testBit_or,Nat.testBit_and,yH,ct,ct,ct,ct]
      by_cases hnl:n < rows.length
      ·simp only [decide_eq_true hnl,Bool.true_and]
       unfold fb nN jT
       rw [Kz hnl]
       dsimp only
       generalize rows[n]=f9
       cases have_ n
       ·simp
       ·simp only [Bool.true_and,List.length_append,List.length_singleton]
        by_cases hrl:f9.length≤gl.length
        ·rw [mh hrl,decide_eq_false (by omega:¬f9.length=gl.length+1),Bool.and_false,Bool.or_false]
        ·have e1:dv f9 gl=false:=g7 (by omega)
         rw [e1,Bool.false_or]
         by_cases hre:f9.length=gl.length+1
         ·rw [decide_eq_true hre,Bool.and_true,decide_eq_true (by omega),Bool.true_and,List.take_of_length_le (by omega)]
         ·rw [decide_eq_false hre,Bool.and_false]
          exact (g7 (by simp;omega)).symm
      ·simp [decide_eq_false hnl]
   ·have hnx:iD cls tab s g= -1:=by
     unfold iD
     by_cases hg0:g < 0
     ·rw [if_pos (.inr hg0)]
     ·rw [if_neg (by omega),Int.toNat_natCast,hq,List.getElem?_eq_none (by omega)]
    rw [hnx,if_pos rfl,htold]
    refine stop fun n=>?_
    unfold nN
    cases hr:rows[n]? with
    | none=>rfl
    | some f9=>
     dsimp only
     by_cases hrl:gl.length+1≤f9.length
     ·have hs':=hs f9 (Kw hr) f9[gl.length] (List.getElem_mem (by omega))
      have hng:f9[gl.length].contains g=false:=by
       rw [Bool.eq_false_iff]
       intro hm
       rw [List.contains_iff_mem] at hm
       have:=hs'.2 g hm
       have hl:=h.len
       omega
      rw [List.length_append,List.length_singleton,List.take_add_one,Kz (by omega)]
      dsimp only [Option.toList]
      rw [oO (by rw [List.length_take];omega),hng]
      simp
     ·rw [List.length_append,List.length_singleton,decide_eq_false hrl]
      simp
 intro gl
 have h00:=key gl [] 0 (jv ends 0) _ h0 rfl ?_ ?_ (.inl rfl)
 ·rw [Kq] at h00
  exact h00
 ·refine ia fun n=>?_
  unfold mX
  rw [ct,ct]
  by_cases hnl:n < rows.length
  ·simp only [decide_eq_true hnl,Bool.true_and]
   unfold nN
   rw [Kz hnl]
   simp [dv]
  ·simp [decide_eq_false hnl]
 ·have hen:=he _ _ h0
  unfold jv
  rw [if_neg (by omega),List.getD_eq_getElem?_getD]
  rw [show (0:Int).toNat=0 from rfl,hen]
  dsimp only [Option.getD]
  refine ia fun n=>?_
  have hb:(jU rows (mX rows have_))=cx have_ rows.length &&& yH rows 0:=by
   unfold jU mX
   dsimp only
   split
   ·rename_i e
    rw [e,Nat.zero_and]
   ·rfl
  rw [hb,Nat.testBit_and,yH,ct,ct,ct]
  by_cases hnl:n < rows.length
  ·simp only [decide_eq_true hnl,Bool.true_and]
   unfold fb jT
   rw [Kz hnl]
   dsimp only
   generalize rows[n]=f9
   cases f9 with
   | nil=>simp [dv]
   | cons s f9=>simp [dv]
  ·simp [decide_eq_false hnl]
end
end Go.Proofs.YtpmdfoaadejmkaaGreatDoor
namespace Go.Proofs.YtpmdfoaadejmkaaGreatDoor
open Go.RowKit
attribute [local irreducible] AT bJ AX AO Av Kt bi dq DA cG
theorem jZ:∀{ss:List (List Int)} {gl:List Int} {k:Nat},ss.length≤k→dv ss (gl.take k)=dv ss gl
 | [],_,_,_=>rfl
 | _::_,[],k,_=>by rw [List.take_nil]
 | _::ss,_::gl,0,h=>by simp at h
 | s::ss,g::gl,k+1,h=>by rw [List.take_succ_cons,dv,dv,jZ (by simpa using h)]
theorem r7 {α:Type} {q:α→Bool} {l:List α}:l.find? q=(l.findIdx? q).bind fun i=>l[i]?:=by
  cases h:l.findIdx? q with
  | none => rw [List.find?_eq_none.2]; · rfl
            intro x hx
            rw [List.findIdx?_eq_none_iff] at h
            rw [h x hx];decide
  | some i=>
    obtain ⟨hi,h1,h2⟩:=List.findIdx?_eq_some_iff_getElem.1 h
    rw [Option.bind_some,Kz hi,List.find?_eq_some_iff_getElem]
    exact ⟨h1,i,hi,rfl,fun j hj=>by simpa using h2 j hj⟩
theorem xB {α:Type} {q:α→Bool} {l:List α} {b:Nat} (hb:∀n,b.testBit n=(l[n]?).any q):
  (∀i,l.findIdx? q=some i→b.testBit i=true∧∀j,j < i→b.testBit j=false)∧(l.findIdx? q=none→b=0):=by
 constructor
 ·intro i h
  obtain ⟨hi,h1,h2⟩:=List.findIdx?_eq_some_iff_getElem.1 h
  refine ⟨by rw [hb,Kz hi];exact h1,fun j hj=>?_⟩
  rw [hb,Kz (by omega)]
  simpa using h2 j hj
 ·intro h
  refine ia fun n=>?_
  rw [hb,Nat.zero_testBit]
  cases hn:l[n]? with
  | none=>rfl
  | some x=>exact List.findIdx?_eq_none_iff.1 h x (Kw hn)
def dZ (r:bh):List (List Int):=if r.In.isEmpty then [] else r.In++r.Ahead
def t1 (rs:List bh) (n:Nat):Bool:=match rs[n]? with
 | some r=> !r.In.isEmpty
 | none=>false
theorem zO {rs:List bh} {fg bg:List Int} {n:Nat}:(cx (fb (rs.map bh.Back) (fun _=>true) bg) (rs.map bh.Back).length &&& cx (fb (rs.map dZ) (t1 rs) fg) (rs.map dZ).length).testBit n=(rs[n]?).any fun r=> !r.In.isEmpty && (dv (r.In++r.Ahead) fg && dv r.Back bg):=by
 rw [Nat.testBit_and,ct,ct]
 simp only [Ku]
 unfold fb t1
 simp only [List.getElem?_map]
 cases h:rs[n]? with
 | none=>simp
 | some r=>
  have hn:=(Ko h).1
  simp only [Option.map_some,Option.any_some,decide_eq_true hn,Bool.true_and]
  unfold dZ
  cases r.In.isEmpty <;> simp [Bool.and_comm]
def dP (rs:List bh):Nat:=rs.foldl (fun m r=>max m (r.In.length+r.Ahead.length)) 0
def eQ (rs:List bh):Nat:=rs.foldl (fun m r=>max m r.Back.length) 0
theorem k5 {α:Type} {g:α→Nat}:∀{l:List α} {m:Nat},m≤l.foldl (fun m r=>max m (g r)) m∧∀r∈l,g r≤l.foldl (fun m r=>max m (g r)) m
 | [],m=>⟨Nat.le_refl _,fun r h=>by cases h⟩
 | x::l,m=>by
  have ih:=k5 (g:=g) (l:=l) (m:=max m (g x))
  rw [List.foldl_cons]
  refine ⟨by have:=ih.1;omega,fun r hr=>?_⟩
  rcases List.mem_cons.1 hr with rfl | hr
  ·have:=ih.1;omega
  ·exact ih.2 r hr
theorem xj {ms:List Bool} {ig:Bool} {run:List aJ} {i:Nat} {rs:List bh} {b:Nat}
  (hb:∀n,b.testBit n=(rs[n]?).any fun r=> !r.In.isEmpty && (dv (r.In++r.Ahead) (((dk ms ig run i).take (dP rs)).map (cV run)) && dv r.Back (((gN ms ig run i).take (eQ rs)).map (cV run)))) (n:Nat):b.testBit n=(rs[n]?).any (dM ms ig run i):=by
 rw [hb]
 cases h:rs[n]? with
 | none=>rfl
 | some r=>
  have hm:=Kw h
  have h1:(r.In++r.Ahead).length≤dP rs:=by rw [List.length_append];exact (k5 (g:=fun r:bh=>r.In.length+r.Ahead.length)).2 r hm
  have h2:r.Back.length≤eQ rs:=(k5 (g:=fun r:bh=>r.Back.length)).2 r hm
  rw [Option.any_some,Option.any_some]
  unfold dM
  rw [List.map_take,List.map_take,jZ h1,jZ h2]
end Go.Proofs.YtpmdfoaadejmkaaGreatDoor
