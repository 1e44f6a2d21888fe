/-
  Fonts as data, and as abstract values.
-/
import Derived.Test.YtpmdfoaadejmkaaGreatDoorM04
namespace Go.Proofs.YtpmdfoaadejmkaaGreatDoor
open Go.RowKit
abbrev aK (z:Int):AV:= .sc (.int .i64 z)
abbrev vE (s:ByteArray):AV:= .sc (.string s)
abbrev dy (b:Bool):AV:= .sc (.bool b)
structure eO where
 X:Int
 Y:Int
 On:Bool
structure cA where
 Glyph:Int
 X:Int
 Y:Int
structure d9 where
 Kind:Int
 Class:Int
 X:Int
 Y:Int
structure dk where
 Region:Int
 Point:Int
 X:Int
 Y:Int
structure fh where
 Op:Int
 A:Int
structure bj where
 Name:ByteArray
 Advance:Int
 Mark:Bool
 Points:List eO
 Ends:List Int
 Parts:List cA
 Anchors:List d9
 Deltas:List dk
 Hint:List fh
structure gu where
 Rune:Int
 Glyph:Int
structure jt where
 At:Int
 Lookup:Int
structure bk where
 Back:List (List Int)
 In:List (List Int)
 Ahead:List (List Int)
 Out:List Int
 Calls:List jt
 X:Int
structure aY where
 Kind:Int
 Ignore:Bool
 Rules:List bk
structure c6 where
 Name:ByteArray
 Lookups:List Int
structure ej where
 Name:ByteArray
 Min:Int
 Def:Int
 Max:Int
structure ev where
 Start:Int
 Peak:Int
 End:Int
structure aT where
 Unit:Int
 Glyphs:List bj
 Chars:List gu
 Lookups:List aY
 Features:List c6
 Axes:List ej
 Regions:List (List ev)
 Funcs:List (List fh)
 Cvt:List Int
def b6 (l:List (List Int)):List (List AV):=l.map fun q=>[.imm 1 (aW q)]
def Dg (l:List ByteArray):List (List AV):=l.map fun s=>[vE s]
def dl (p:eO):List AV:=[aK p.X,aK p.Y,dy p.On]
def dJ (p:cA):List AV:=[aK p.Glyph,aK p.X,aK p.Y]
def da (p:d9):List AV:=[aK p.Kind,aK p.Class,aK p.X,aK p.Y]
def dY (p:dk):List AV:=[aK p.Region,aK p.Point,aK p.X,aK p.Y]
def eS (p:fh):List AV:=[aK p.Op,aK p.A]
def bD (g:bj):List AV:=[vE g.Name,aK g.Advance,dy g.Mark,.imm 3 (g.Points.map dl),.imm 1 (aW g.Ends),.imm 3 (g.Parts.map dJ),.imm 4 (g.Anchors.map da),.imm 4 (g.Deltas.map dY),.imm 2 (g.Hint.map eS)]
def ek (c:gu):List AV:=[aK c.Rune,aK c.Glyph]
def fj (c:jt):List AV:=[aK c.At,aK c.Lookup]
def bI (r:bk):List AV:=[.imm 1 (b6 r.Back),.imm 1 (b6 r.In),.imm 1 (b6 r.Ahead),.imm 1 (aW r.Out),.imm 2 (r.Calls.map fj),aK r.X]
def br (l:aY):List AV:=[aK l.Kind,dy l.Ignore,.imm 6 (l.Rules.map bI)]
def cg (t:c6):List AV:=[vE t.Name,.imm 1 (aW t.Lookups)]
def cO (a:ej):List AV:=[vE a.Name,aK a.Min,aK a.Def,aK a.Max]
def iL (t:ev):List AV:=[aK t.Start,aK t.Peak,aK t.End]
def bX (r:List ev):List AV:=[.imm 3 (r.map iL)]
def dO (l:List fh):List AV:=[.imm 2 (l.map eS)]
def cn (f:aT):List AV:=[aK f.Unit,.imm 9 (f.Glyphs.map bD),.imm 2 (f.Chars.map ek),.imm 3 (f.Lookups.map br),.imm 2 (f.Features.map cg),.imm 4 (f.Axes.map cO),.imm 1 (f.Regions.map bX),.imm 1 (f.Funcs.map dO),.imm 1 (aW f.Cvt)]
abbrev ca (f:aT):AV:= .agg (cn f)
theorem bG {α:Type} {c:α→List AV} {l:List α} {i:Nat} {a:α} (h:l[i]?=some a):(l.map c)[i]?=some (c a):=by simp [h]
theorem oU {l:List ByteArray} {i:Nat} {z:ByteArray} (h:l[i]?=some z):(Dg l)[i]?=some [vE z]:=by simp [Dg,h]
theorem bO (l:List (List Int)):(b6 l).length=l.length:=by simp [b6]
theorem fv {l:List (List Int)} {i:Nat} {z:List Int} (h:l[i]?=some z):(b6 l)[i]?=some [.imm 1 (aW z)]:=by simp [b6,h]
section
variable {P:Program} {tt:TT} {r:Option Nat} {Q:Exit→Act→World→Prop} {nt:Nat} {D:List Deferred} {fr:cf} {B:Bs} {L:AL} {l:List Oper} {fin:jR}
variable {k j:Nat} {s:Ak} {sk:n7} {acc:cf} {dd:Option Tmp} {op:Op} {ty t t':TypeId} {pos:String} {af:Array Edge} {g:Option (Nat×Bool)} {x y c:Operand} {u:AV} {want b:Bool}
def cG (P:Program) (l:List Oper) (fr:cf) (fin:jR) (k:Nat) (s:Ak) (o:Oper) (sk:n7) (acc:cf) (L:AL):Prop:=l[k]?=some o→DA P l fr fin ((k,s)::sk) acc L
theorem aD {o:Oper} (h:cG P l fr fin k s o sk acc L) (ho:l[k]?=some o:=by rfl):DA P l fr fin ((k,s)::sk) acc L:=h ho
def jh (o:Oper) (acc:cf):Prop:=match o.guard with
 | none=>True
 | some (j,want)=>rc acc j= .sc (.bool want)
theorem po {o:Oper} {R:AV→AL→Prop} (hg:jh o acc) (h:∀B,AO P o (cK l.toArray acc fr o.after.toList) B L R):Bj P l fr o acc L R:=by
 unfold Bj
 unfold jh at hg
 split
 ·exact h
 ·rename_i j want hq
  rw [hq] at hg
  exact .inl ⟨hg,h⟩
theorem fA {o:Oper} (hg:jh o acc) (h:∀B L,AO P o (cK l.toArray acc fr o.after.toList) B L (fun c L'=>c=u∧L'=L)) (hn:DA P l fr fin sk ((k,u)::acc) L):cG P l fr fin k .v o sk acc L:=by
 intro ho
 obtain ⟨pl,hpl⟩:=hn
 exact ⟨.val k u pl,.v,sk,o,rfl,ho,.inl ⟨rfl,fun L=>po hg fun B=>h B L⟩,hpl⟩
theorem EE {o:Oper} (hg:jh o acc) (h:∀B,AO P o (cK l.toArray acc fr o.after.toList) B L (fun c L'=>c=u∧L'=L)) (hn:DA P l fr fin sk ((k,u)::acc) L):cG P l fr fin k .l o sk acc L:=by
 intro ho
 obtain ⟨pl,hpl⟩:=hn
 exact ⟨.val k u pl,.l,sk,o,rfl,ho,.inr (.inl ⟨rfl,po hg fun B=>h B⟩),hpl⟩
theorem jz {o:Oper} {R:AV→AL→Prop} (hg:jh o acc) (h:∀B,AO P o (cK l.toArray acc fr o.after.toList) B L R) (hn:∀c L',R c L'→DA P l fr fin sk ((k,c)::acc) L'):cG P l fr fin k .e o sk acc L:=by
 intro ho
 have hn':∀c L',∃pl,R c L'→dh P l fr fin pl sk ((k,c)::acc) L':=fun c L'=>by
  by_cases hr:R c L'
  ·obtain ⟨pl,hpl⟩:=hn c L' hr
   exact ⟨pl,fun _=>hpl⟩
  ·exact ⟨.fin,fun h=>absurd h hr⟩
 exact ⟨.eff k R fun c L'=>Classical.choose (hn' c L'),.e,sk,o,.inl rfl,rfl,ho,po hg h,fun c L' hr=>Classical.choose_spec (hn' c L') hr⟩
theorem JM {o:Oper} (hK:fm fin.gs L) (hg:jh o acc) (h:∀B L,fm fin.gs L→AO P o (cK l.toArray acc fr o.after.toList) B L (fun c L'=>c=u∧L'=L)) (hn:DA P l fr fin sk ((k,u)::acc) L):cG P l fr fin k .k o sk acc L:=by
 intro ho
 obtain ⟨pl,hpl⟩:=hn
 exact ⟨.val k u pl,.k,sk,o,rfl,ho,.inr (.inr ⟨rfl,hK,fun L hL=>po hg fun B=>h B L hL⟩),hpl⟩
theorem uI {o:Oper} {R:AV→AL→Prop} (hX:∀c L',R c L'→fm fin.gs L→fm fin.gs L') (hg:jh o acc) (h:∀B,AO P o (cK l.toArray acc fr o.after.toList) B L R) (hn:∀c L',R c L'→DA P l fr fin sk ((k,c)::acc) L'):cG P l fr fin k .f o sk acc L:=by
 intro ho
 have hn':∀c L',∃pl,R c L'→dh P l fr fin pl sk ((k,c)::acc) L':=fun c L'=>by
  by_cases hr:R c L'
  ·obtain ⟨pl,hpl⟩:=hn c L' hr
   exact ⟨pl,fun _=>hpl⟩
  ·exact ⟨.fin,fun h=>absurd h hr⟩
 exact ⟨.eff k R fun c L'=>Classical.choose (hn' c L'),.f,sk,o,.inr (.inr ⟨rfl,hX⟩),rfl,ho,po hg h,fun c L' hr=>Classical.choose_spec (hn' c L') hr⟩
theorem ED {o:Oper} {R:AV→AL→Prop} (hX:∀c L',R c L'→∃X,L'=X++L) (hg:jh o acc) (h:∀B,AO P o (cK l.toArray acc fr o.after.toList) B L R) (hn:∀c L',R c L'→DA P l fr fin sk ((k,c)::acc) L'):cG P l fr fin k .a o sk acc L:=by
 intro ho
 have hn':∀c L',∃pl,R c L'→dh P l fr fin pl sk ((k,c)::acc) L':=fun c L'=>by
  by_cases hr:R c L'
  ·obtain ⟨pl,hpl⟩:=hn c L' hr
   exact ⟨pl,fun _=>hpl⟩
  ·exact ⟨.fin,fun h=>absurd h hr⟩
 exact ⟨.eff k R fun c L'=>Classical.choose (hn' c L'),.a,sk,o,.inr (.inl ⟨rfl,hX⟩),rfl,ho,po hg h,fun c L' hr=>Classical.choose_spec (hn' c L') hr⟩
theorem gw {op:Op} (hj:rc acc j= .sc (.bool b)) (hb:(b==want)=false) (hn:DA P l fr fin sk ((k,.sc undef)::acc) L):cG P l fr fin k .v ⟨dd,op,ty,pos,af,some (j,want)⟩ sk acc L:=by
 intro ho
 obtain ⟨pl,hpl⟩:=hn
 exact ⟨.val k (.sc undef) pl,.v,sk,_,rfl,ho,.inl ⟨rfl,fun L=> .inr ⟨⟨_,hj,fun e=>by injection e with e;subst e;simp at hb⟩,rfl,rfl⟩⟩,hpl⟩
theorem tu {op:Op} (hj:rc acc j= .sc undef) (hn:DA P l fr fin sk ((k,.sc undef)::acc) L):cG P l fr fin k .v ⟨dd,op,ty,pos,af,some (j,want)⟩ sk acc L:=by
 intro ho
 obtain ⟨pl,hpl⟩:=hn
 exact ⟨.val k (.sc undef) pl,.v,sk,_,rfl,ho,.inl ⟨rfl,fun L=> .inr ⟨⟨_,hj,fun e=>by simp [undef] at e⟩,rfl,rfl⟩⟩,hpl⟩
theorem AK {o:Oper} {fr:cf} (h:Av P o fr u):∀B L,AO P o fr B L (fun c L'=>c=u∧L'=L):=fun _ _=>h.ao
theorem aZ (ok:eF P tt) (h:DA P l fr fin sk ((k,u)::acc) L) (hu:sP tt (cK l.toArray acc fr af.toList) op=some u:=by rfl) (hg:jh ⟨dd,op,ty,pos,af,g⟩ acc:=by first | trivial | rfl):cG P l fr fin k .v ⟨dd,op,ty,pos,af,g⟩ sk acc L:=fA hg (AK (nS ok hu)) h
theorem dA {bop:BinOp} (h:cG P l fr fin k .v ⟨dd,.binOp bop t x y t',ty,pos,af,g⟩ sk acc L):cG P l fr fin k .v ⟨dd,.binOp bop t x y t',ty,pos,af,g⟩ sk acc L:=h
theorem eI {bop:BinOp} (h:DA P l fr fin sk ((k,u)::acc) L) (ho:Av P ⟨dd,.binOp bop t x y t',ty,pos,af,g⟩ (cK l.toArray acc fr af.toList) u:=by first | exact zV rfl rfl (by omega) | exact A4 rfl rfl (by omega) | exact A3 rfl rfl (by omega)) (hg:jh ⟨dd,.binOp bop t x y t',ty,pos,af,g⟩ acc:=by first | trivial | rfl):cG P l fr fin k .v ⟨dd,.binOp bop t x y t',ty,pos,af,g⟩ sk acc L:=fA hg (AK ho) h
theorem bC (h:cG P l fr fin k .v ⟨dd,.indexAddr t x y,ty,pos,af,g⟩ sk acc L):cG P l fr fin k .v ⟨dd,.indexAddr t x y,ty,pos,af,g⟩ sk acc L:=h
theorem bN (ok:eF P tt) {e sz by_ s:Nat} {ll:List (List AV)} {ik:IntKind} {i:Int} {es:List AV} (h:DA P l fr fin sk ((k,.iptr es)::acc) L) (ht:jP tt t=some (e,sz,by_):=by rfl) (hx:bE (cK l.toArray acc fr af.toList) x=some u:=by rfl) (hu:j2 u=some (s,ll):=by rfl) (hs:Nat.beq s sz=true:=by rfl) (hy:bE (cK l.toArray acc fr af.toList) y=some (.sc (.int ik i)):=by rfl) (h0:0≤i:=by omega) (hl:ll[i.toNat]?=some es:=by first | assumption | (simp only [Int.toNat_natCast];assumption)) (hg:jh ⟨dd,.indexAddr t x y,ty,pos,af,g⟩ acc:=by first | trivial | rfl):cG P l fr fin k .v ⟨dd,.indexAddr t x y,ty,pos,af,g⟩ sk acc L:=fA hg (AK (zY (bB ok ht).1 hx (d4 hu) hs hy h0 hl)) h
theorem d5 {f:FuncId} {args:Array Operand} {ts:Array TypeId} (h:cG P l fr fin k .v ⟨dd,.call ⟨.value (.func f),args,ts⟩,ty,pos,af,g⟩ sk acc L):cG P l fr fin k .v ⟨dd,.call ⟨.value (.func f),args,ts⟩,ty,pos,af,g⟩ sk acc L:=h
theorem dz {f:FuncId} {args:Array Operand} {ts:Array TypeId} {cs ds:List AV} [bS P f] (h:DA P l fr fin sk ((k,u)::acc) L) (hv:eP (cK l.toArray acc fr af.toList) args.toList=some cs:=by rfl) (hi:n9 cs=some ds:=by rfl) (hc:AD P f ds u:=by infer_instance) (hg:jh ⟨dd,.call ⟨.value (.func f),args,ts⟩,ty,pos,af,g⟩ acc:=by first | trivial | rfl):cG P l fr fin k .v ⟨dd,.call ⟨.value (.func f),args,ts⟩,ty,pos,af,g⟩ sk acc L:=fA hg (fun _ _=>E1 hv (by rw [jY hi];exact hc.det)) h
theorem ce (ok:eF P tt) (i:Nat) {b kk:Nat} {cs:List AV} {e:TypeId} (ht:LH tt t=true) (hx:bE (cK l.toArray acc fr af.toList) x=some (.sc (.pointer (some ⟨b,kk,none⟩)))) (hL:L[i]?=some (b,.box cs e)) (hc:cs[kk]?=some u) (hg:jh ⟨dd,.load t x,ty,pos,af,g⟩ acc) (h:DA P l fr fin sk ((k,u)::acc) L):cG P l fr fin k .l ⟨dd,.load t x,ty,pos,af,g⟩ sk acc L:=EE hg (fun _=>uA i (cZ ok ht) hx hL hc) h
theorem r5 (ok:eF P tt) (i:Nat) {b kk n:Nat} {cs:List AV} {e:TypeId} (ht:Kw tt t=some n) (hx:bE (cK l.toArray acc fr af.toList) x=some (.sc (.pointer (some ⟨b,kk,none⟩)))) (hL:L[i]?=some (b,.box cs e)) (hc:Nat.ble (kk+n) cs.length=true) (hg:jh ⟨dd,.load t x,ty,pos,af,g⟩ acc) (h:DA P l fr fin sk ((k,.agg ((cs.drop kk).take n))::acc) L):cG P l fr fin k .l ⟨dd,.load t x,ty,pos,af,g⟩ sk acc L:=EE hg (fun _=>vY i (eL ok ht) hx hL hc) h
theorem Cq {gs:KpL} {i b kk:Nat} {v:AV} (hi:gs[i]?=some (.cell (b,kk,v))) {L:AL} (h:fm gs L):∃(j:Nat) (cs:List AV) (e:TypeId),L[j]?=some (b,.box cs e)∧cs[kk]?=some v:=by
 obtain ⟨cs,e,h1,h2⟩:=h _ (Nw hi)
 obtain ⟨j,hj⟩:=List.mem_iff_getElem?.1 h1
 exact ⟨j,cs,e,hj,h2⟩
theorem eo (ok:eF P tt) (i:Nat) {b kk:Nat} (ht:LH tt t=true) (hx:bE (cK l.toArray acc fr af.toList) x=some (.sc (.pointer (some ⟨b,kk,none⟩)))) (hi:fin.gs[i]?=some (.cell (b,kk,u))) (hK:fm fin.gs L) (hg:jh ⟨dd,.load t x,ty,pos,af,g⟩ acc) (h:DA P l fr fin sk ((k,u)::acc) L):cG P l fr fin k .k ⟨dd,.load t x,ty,pos,af,g⟩ sk acc L:=
 JM hK hg (fun _ L' hL'=>by
  obtain ⟨j,cs,e,h1,h2⟩:=Cq hi hL'
  exact uA j (cZ ok ht) hx h1 h2) h
theorem A5 {d:Option Tmp} {e sz by_ n:Nat} {parts:Array (Nat×Operand)} {vs:List AV} {xs:List (List AV)} (hc:lw P t e sz by_) (hsz:0 < sz) (hv:eP fr (parts.toList.map (·.2))=some vs) (hxs:ju vs=some xs) (hn:Nat.beq xs.length n=true) (hi:parts.toList.map (·.1)=List.range' 0 n) (hz:xs.all (fun q=>Nat.beq q.length sz)=true) (h24:Nat.ble (n * sz) 16777216=true):
  AO P ⟨d,.buildSlice t n parts,ty,pos,af,g⟩ fr B L (fun c L'=>c= .imm sz xs∧L'=L):=by
 intro σ ρ w hρ hw
 refine (uz hc hsz hv hxs hn hi hz h24 σ ρ w hρ hw).mono fun v w' hh=>?_
 obtain ⟨τ,c,L',h1,h2,h3,b,rfl,rfl⟩:=hh
 exact ⟨τ,_,L,h1,h2.im,h3.sublist (.cons _ (List.Sublist.refl _)),rfl,rfl⟩
theorem dQ (ok:eF P tt) {e sz by_ n:Nat} {parts:Array (Nat×Operand)} {vs:List AV} {xs:List (List AV)} (h:DA P l fr fin sk ((k,.imm sz xs)::acc) L) (ht:jP tt t=some (e,sz,by_):=by rfl) (hv:eP (cK l.toArray acc fr af.toList) (parts.toList.map (·.2))=some vs:=by rfl) (hxs:ju vs=some xs:=by rfl) (hn:Nat.beq xs.length n=true:=by rfl) (hi:parts.toList.map (·.1)=List.range' 0 n:=by rfl) (hz:xs.all (fun q=>Nat.beq q.length sz)=true:=by rfl) (h24:Nat.ble (n * sz) 16777216=true:=by rfl) (hg:jh ⟨dd,.buildSlice t n parts,ty,pos,af,g⟩ acc:=by first | trivial | rfl):
  cG P l fr fin k .v ⟨dd,.buildSlice t n parts,ty,pos,af,g⟩ sk acc L:=fA hg (fun _ _=>A5 (bB ok ht).1 (bB ok ht).2 hv hxs hn hi hz h24) h
theorem bM (ok:eF P tt) {r:Option Nat} {ops:Array Oper} {Q:Exit→Act→World→Prop} {nt:Nat} {D:List Deferred} {rest:List Oper} {d e sz by_ n:Nat} {parts:Array (Nat×Operand)} {vs:List AV} {xs:List (List AV)} (h:bP P r ops Q nt D rest ((d,.imm sz xs)::fr) B L) (ht:jP tt t=some (e,sz,by_):=by rfl) (hv:eP fr (parts.toList.map (·.2))=some vs:=by rfl) (hxs:ju vs=some xs:=by rfl) (hn:Nat.beq xs.length n=true:=by rfl) (hi:parts.toList.map (·.1)=List.range' 0 n:=by rfl) (hz:xs.all (fun q=>Nat.beq q.length sz)=true:=by rfl) (h24:Nat.ble (n * sz) 16777216=true:=by rfl) (hd:Nat.ble nt d=false:=by rfl):
  bP P r ops Q nt D (⟨some d,.buildSlice t n parts,ty,pos,af,none⟩::rest) fr B L:=by
 obtain ⟨h1,h2⟩:=bB ok ht
 refine cT hd rfl (A5 h1 h2 hv hxs hn hi hz h24) fun c L' hh=>?_
 obtain ⟨h1,h2⟩:=hh
 subst h1;subst h2
 exact h
theorem bi {gs:KpL} {n0:Nat} {fr0:cf} {rest:List Oper} (ks:List Nat) (hk:gW (jD l.toArray acc fr n0) ks=some fr0) (hr:l.drop n0=rest) (h:bP P r l.toArray Q nt D rest fr0 B L):DA P l fr ⟨ES P r l n0 Q nt D fr B none,gs⟩ [] acc L:=
 ⟨.fin,rfl,by rw [←hr] at h;exact w5 (ez ks hk) (fun _ _ h=>h) h⟩
theorem NP {gs:KpL} {n0:Nat} {fr0:cf} {rest:List Oper} (ks:List Nat) (zz:gW (jD l.toArray acc fr n0) ks=some fr0∧l.drop n0=rest) (h:bP P r l.toArray Q nt D rest fr0 B L):DA P l fr ⟨ES P r l n0 Q nt D fr B none,gs⟩ [] acc L:=bi ks zz.1 zz.2 h
theorem r7 {gs:KpL} {n0 kk:Nat} {ab:AB} {rest:List Oper} (ks:List Nat) (fr0:Nat→cf) (hk:∀b,gW (jD l.toArray ((kk,.sc (.pointer (some ⟨b,0,none⟩)))::acc) fr n0) ks=some (fr0 b)) (hr:l.drop n0=rest) (h:∀b,bP P r l.toArray Q nt D rest (fr0 b) B (L++[(b,ab)])):DA P l fr ⟨ES P r l n0 Q nt D fr B (some (kk,ab)),gs⟩ [] acc L:=
 ⟨.fin,rfl,fun b=>by have:=h b;rw [←hr] at this;exact w5 (ez ks (hk b)) (fun _ _ h=>h) this⟩
end
section
attribute [local irreducible] AT bP AX AO Av Kt bb dh DA cG
structure bc where
 Glyph:Int
 Cluster:Int
 Form:Int
 Advance:Int
 X:Int
 Y:Int
def cP (x:bc):List AV:=[aK x.Glyph,aK x.Cluster,aK x.Form,aK x.Advance,aK x.X,aK x.Y]
def IZ (ms:List Bool) (g:Int):Bool:=decide (0≤g) && ms.getD g.toNat false
def qK (ms:List Bool) (ig:Bool) (x:bc):Bool:= !(ig && IZ ms x.Glyph)
def lm (ms:List Bool) (ig:Bool) (run:List bc) (i:Nat):Bool:=match run[i]? with
 | some x=>qK ms ig x
 | none=>false
def fk (ms:List Bool) (ig:Bool) (run:List bc) (i:Nat):List Nat:=(List.range' i (run.length - i)).filter (lm ms ig run)
def o9 (ms:List Bool) (ig:Bool) (run:List bc):Nat→List Nat
 | 0=>[]
 | i+1=>if lm ms ig run i=true then i::o9 ms ig run i else o9 ms ig run i
def hH (run:List bc) (i:Nat):Int:=match run[i]? with
 | some x=>x.Glyph
 | none=> -1
def fK:List (List Int)→List Int→Bool
 | [],_=>true
 | _::_,[]=>false
 | s::ss,g::gs=>s.contains g && fK ss gs
def gD (ms:List Bool) (ig:Bool) (run:List bc) (i:Nat) (r:bk):Bool:=
 !r.In.isEmpty && (fK (r.In++r.Ahead) ((fk ms ig run i).map (hH run)) && fK r.Back ((o9 ms ig run i).map (hH run)))
def nz (ms:List Bool) (ig:Bool) (run:List bc) (i:Nat) (forms:List Int):Bool:=match run[i]? with
 | some x=>qK ms ig x && (forms.isEmpty || forms.contains x.Form)
 | none=>false
def fC (ms:List Bool) (l:aY) (run:List bc) (i:Nat) (forms:List Int):Option bk:=if nz ms l.Ignore run i forms=true then l.Rules.find? (gD ms l.Ignore run i) else none
def er (ms:List Bool) (l:aY) (run:List bc) (i:Nat) (r:bk):List Nat:=(fk ms l.Ignore run i).take r.In.length
def i7 (r:bk) (i:Nat) (run:List bc):List bc:=match run[i]? with
 | none=>run
 | some x=>match r.Out[(r.In.headD []).idxOf x.Glyph]? with
  | none=>run
  | some g=>if (r.In.headD []).idxOf x.Glyph < (r.In.headD []).length then run.set i { x with Glyph:=g } else run
def jJ (r:bk) (i:Nat) (run:List bc):List bc:=match run[i]? with
 | none=>run
 | some x=>if run.length - 1+r.Out.length > 500∧1 < r.Out.length then run else run.take i++(r.Out.map fun g=>{ x with Glyph:=g })++run.drop (i+1)
def gg:List Nat→List bc→List bc
 | [],run=>run
 | p::ps,run=>(gg ps run).eraseIdx p
def pJ (run:List bc) (c:Int) (p:Nat):Int:=match run[p]? with
 | some x=>min c x.Cluster
 | none=>c
def j3 (run:List bc) (ps:List Nat) (c:Int):Int:=ps.foldl (pJ run) c
def oF (r:bk) (ps:List Nat) (run:List bc):List bc:=match ps,r.Out with
 | p::q,g::_=>match run[p]? with
  | some x=>gg q (run.set p { x with Glyph:=g,Cluster:=j3 run (p::q) x.Cluster })
  | none=>run
 | _,_=>run
def tY (r:bk) (i:Nat) (run:List bc):List bc:=match run[i]? with
 | some x=>run.set i { x with Advance:=IntKind.i64.wrap (x.Advance+r.X) }
 | none=>run
def vc (ms:List Bool) (ig:Bool) (run:List bc) (i:Nat) (n:Int):Option Nat:=if 0≤n then (fk ms ig run i)[n.toNat]? else none
def ip (l:aY) (r:bk) (ps:List Nat) (run:List bc):List bc:=
 if l.Kind=1∨l.Kind=5 then i7 r (ps.headD 0) run
 else if l.Kind=2 then jJ r (ps.headD 0) run
 else if l.Kind=3 then oF r ps run
 else if l.Kind=6 then tY r (ps.headD 0) run
 else run
abbrev LP:=aY→bk→List Nat→List bc→List bc
def oe (ms:List Bool) (ls:List aY) (d:LP) (n:Int) (i:Nat) (run:List bc):List bc:=
 if n < 0 then run else match ls[n.toNat]? with
 | none=>run
 | some l=>if l.Kind < 1∨4 < l.Kind then run else match fC ms l run i [] with
  | none=>run
  | some r=>d l r (er ms l run i r) run
def gI (ms:List Bool) (ls:List aY) (d:LP) (ig:Bool) (i:Nat) (run:List bc) (c:jt):List bc:=match vc ms ig run i c.At with
 | none=>run
 | some p=>oe ms ls d c.Lookup p run
def kO (ms:List Bool) (ls:List aY):Nat→LP
 | 0=>fun l r ps run=>ip l r ps run
 | k+1=>fun l r ps run=>if l.Kind=4 then r.Calls.foldl (gI ms ls (kO ms ls k) l.Ignore (ps.headD 0)) run else ip l r ps run
def AJ (l:aY) (i last:Nat) (run run':List bc):Nat:=
 if l.Kind=4 then max (run'.length - (run.length - 1 - last)) (i+1)
 else if l.Kind=6∧i < last then last
 else run'.length - (run.length - 1 - last)
def AN (ms:List Bool) (ls:List aY) (l:aY) (forms:List Int):Nat→Nat→List bc→List bc
 | 0,_,run=>run
 | k+1,i,run=>if i < run.length then match fC ms l run i forms with
   | none=>AN ms ls l forms k (i+1) run
   | some r=>AN ms ls l forms k (AJ l i ((er ms l run i r).getLastD i) run (kO ms ls 4 l r (er ms l run i r) run)) (kO ms ls 4 l r (er ms l run i r) run)
  else run
def lz (ms:List Bool) (ls:List aY) (l:aY) (forms:List Int):Nat→List bc→List bc
 | 0,run=>run
 | i+1,run=>lz ms ls l forms i (match fC ms l run i forms with
  | none=>run
  | some r=>kO ms ls 4 l r (er ms l run i r) run)
def gj (ms:List Bool) (ls:List aY) (n:Int) (run:List bc) (forms:List Int):List bc:=
 if n < 0 then run else match ls[n.toNat]? with
 | none=>run
 | some l=>if l.Kind < 1∨6 < l.Kind then run else if l.Kind=5 then lz ms ls l forms run.length run else AN ms ls l forms run.length 0 run
def cE (p:Nat→Bool):Nat→Nat
 | 0=>0
 | n+1=>cE p n ||| (if p n=true then 2 ^ n else 0)
theorem cC (p:Nat→Bool) (i:Nat):∀n,(cE p n).testBit i=(decide (i < n) && p i)
 | 0=>by simp [cE]
 | n+1=>by
  rw [cE,Nat.testBit_or,cC p i n]
  by_cases hi:i=n
  ·subst hi
   cases hp:p i <;> simp [Nat.testBit_two_pow_self]
  ·have h1:decide (i < n+1)=decide (i < n):=decide_eq_decide.2 (by omega)
   have h2:(if p n=true then 2 ^ n else 0).testBit i=false:=by
    split
    ·rw [Nat.testBit_two_pow_of_ne (by omega)]
    ·simp
   rw [h1,h2,Bool.or_false]
theorem oa (p:Nat→Bool) (n:Nat):cE p n < 2 ^ n:=Nat.lt_pow_two_of_testBit _ fun i hi=>by
 rw [cC,decide_eq_false (by omega),Bool.false_and]
theorem iK {x y:Nat} (h:∀i,x.testBit i=y.testBit i):x=y:=Nat.eq_of_testBit_eq h
theorem rB {p:Nat→Bool} {n:Nat}:cE p n=0↔∀i,i < n→p i=false:=by
 constructor
 ·intro h i hi
  have:=cC p i n
  rw [h,Nat.zero_testBit,decide_eq_true hi,Bool.true_and] at this
  exact this.symm
 ·intro h
  refine iK fun i=>?_
  rw [cC,Nat.zero_testBit]
  by_cases hi:i < n
  ·rw [h i hi,Bool.and_false]
  ·rw [decide_eq_false hi,Bool.false_and]
section
variable (cls:List Int) (rows:List (List (List Int))) (have_:Nat→Bool)
def g9 (c:Nat) (s:List Int):Bool:=s.any fun g=>decide (0≤g) && (decide (g < cls.length) && decide (cls.getD g.toNat (-1)=(c:Int)))
def nj (m c:Nat) (n:Nat):Bool:=match rows[n]? with
 | some r=>match r[m]? with
  | some s=>g9 cls c s
  | none=>false
 | none=>false
def ku (m:Nat) (n:Nat):Bool:=match rows[n]? with
 | some r=>decide (r.length=m)
 | none=>false
def kD (m c:Nat):Nat:=cE (nj cls rows m c) rows.length
def Al (m:Nat):Nat:=cE (ku rows m) rows.length
def nC:Nat×Nat:=(0,cE have_ rows.length)
def cz (p:Nat×Nat) (c:Nat):Nat×Nat:=if p.2 &&& kD cls rows p.1 c=0 then (0,0) else (p.1+1,p.2 &&& kD cls rows p.1 c)
def kw (p:Nat×Nat):Nat:=if p.2=0 then 0 else p.2 &&& Al rows p.1
structure te (C:Nat) (tab:List (List Int)) (ends:List Nat):Prop where
 met:∃met:List (Nat×Nat),met[0]?=some (nC rows have_)∧met.length=tab.length∧met.length=ends.length∧
  (∀(i:Nat) p,met[i]?=some p→ends[i]?=some (kw rows p))∧
  (∀(i:Nat) p q,met[i]?=some p→tab[i]?=some q→q.length=C∧∀(c:Nat) z,q[c]?=some z→((cz cls rows p c).2=0∧z= -1)∨((cz cls rows p c).2≠0∧0≤z∧met[z.toNat]?=some (cz cls rows p c)))
end
def jb (cls:List Int) (tab:List (List Int)) (s:Int) (g:Int):Int:=
 if s < 0∨g < 0 then -1 else match tab[s.toNat]?,cls[g.toNat]? with
 | some eK,some c=>if c < 0 then -1 else match eK[c.toNat]? with
  | some z=>if 0≤z∧z < tab.length then z else -1
  | none=> -1
 | _,_=> -1
def jX (ends:List Nat) (s:Int):Nat:=if s < 0 then 0 else ends.getD s.toNat 0
def nl (cls:List Int) (tab:List (List Int)) (ends:List Nat):Int→List Int→Nat→Nat
 | _,[],told=>told
 | s,g::r,told=>if jb cls tab s g= -1 then told else nl cls tab ends (jb cls tab s g) r (told ||| jX ends (jb cls tab s g))
def gQ (cls:List Int) (tab:List (List Int)) (ends:List Nat) (gl:List Int):Nat:=nl cls tab ends 0 gl (jX ends 0)
structure vG (n:Nat) (C:Nat) (cls:List Int) (sets:List (List Int)):Prop where
 len:cls.length=n
 dom:∀z∈cls,0≤z∧z < C
 apart:∀s∈sets,∀(i j:Nat) z,cls[i]?=some z→cls[j]?=some z→((i:Int)∈s↔(j:Int)∈s)
theorem x2 {cls:List Int} {n C:Nat} {sets:List (List Int)} (h:vG n C cls sets) {s:List Int} (hs:s∈sets) (hd:∀g∈s,0≤g∧g < n) {g:Int} (h0:0≤g) {c:Nat} (hc:cls[g.toNat]?=some (c:Int)):g9 cls c s=s.contains g:=by
 rw [Bool.eq_iff_iff,List.contains_iff_mem]
 unfold g9
 rw [List.any_eq_true]
 constructor
 ·rintro ⟨x,hx,hb⟩
  simp only [Bool.and_eq_true,decide_eq_true_eq] at hb
  obtain ⟨h1,h2,h3⟩:=hb
  have hxc:cls[x.toNat]?=some (c:Int):=by
   rw [Nz (by omega)]
   rw [List.getD_eq_getElem?_getD,Nz (by omega)] at h3
   exact congrArg some h3
  have:=(h.apart s hs x.toNat g.toNat c hxc hc).1 (by rw [Int.toNat_of_nonneg h1];exact hx)
  rwa [Int.toNat_of_nonneg h0] at this
 ·intro hg
  refine ⟨g,hg,?_⟩
  have hl:=h.len
  have:=hd g hg
  simp only [Bool.and_eq_true,decide_eq_true_eq]
  refine ⟨h0,by omega,?_⟩
  rw [List.getD_eq_getElem?_getD,hc]
  rfl
def oG (rows:List (List (List Int))) (have_:Nat→Bool) (gl:List Int) (n:Nat):Bool:=match rows[n]? with
 | some r=>have_ n && (decide (gl.length≤r.length) && fK (r.take gl.length) gl)
 | none=>false
theorem pA:∀{ss:List (List Int)} {gl:List Int} {s:List Int} {g:Int},ss.length=gl.length→fK (ss++[s]) (gl++[g])=(fK ss gl && s.contains g)
 | [],[],s,g,_=>by simp [fK]
 | [],_::_,_,_,h=>by simp at h
 | _::_,[],_,_,h=>by simp at h
 | s'::ss,g'::gl,s,g,h=>by
  rw [Ns,Ns,fK,pA (by simpa using h),fK,Bool.and_assoc]
theorem l9:∀{a:List (List Int)} {b:List Int},b.length < a.length→fK a b=false
 | [],_,h=>by simp at h
 | _::_,[],_=>rfl
 | _::a,_::b,h=>by rw [fK,l9 (by simpa using h),Bool.and_false]
theorem mM:∀{ss:List (List Int)} {gl x:List Int},ss.length≤gl.length→fK ss (gl++x)=fK ss gl
 | [],_,_,_=>rfl
 | _::_,[],_,h=>by simp at h
 | s::ss,g::gl,x,h=>by rw [Ns,fK,fK,mM (by simpa using h)]
section
variable {cls:List Int} {rows:List (List (List Int))} {have_:Nat→Bool} {N C:Nat} {sets:List (List Int)}
theorem FE (h:vG N C cls sets) (hs:∀r∈rows,∀s∈r,s∈sets∧∀g∈s,0≤g∧g < N) {gl:List Int} {g:Int} {c:Nat} (h0:0≤g) (hc:cls[g.toNat]?=some (c:Int)):
  cE (oG rows have_ gl) rows.length &&& kD cls rows gl.length c=cE (oG rows have_ (gl++[g])) rows.length:=by
 refine iK fun n=>?_
 rw [Nat.testBit_and,cC,kD,cC,cC]
 by_cases hn:n < rows.length
 ·simp only [decide_eq_true hn,Bool.true_and]
  unfold oG nj
  rw [Nz hn]
  dsimp only
  have hm:=List.getElem_mem hn
  generalize rows[n]=r at hm
  rw [List.length_append,List.length_singleton]
  by_cases hl:gl.length < r.length
  ·have hs':=hs r hm r[gl.length] (List.getElem_mem hl)
   rw [Nz hl,decide_eq_true (by omega:gl.length≤r.length),decide_eq_true (by omega:gl.length+1≤r.length),List.take_add_one,Nz hl]
   dsimp only [Option.toList]
   rw [pA (by rw [List.length_take];omega),x2 h hs'.1 hs'.2 h0 hc]
   cases have_ n <;> simp
  ·rw [List.getElem?_eq_none (by omega),decide_eq_false (by omega:¬gl.length+1≤r.length)]
   simp
 ·simp [decide_eq_false hn]
def fy (rows:List (List (List Int))) (have_:Nat→Bool) (gl:List Int) (n:Nat):Bool:=match rows[n]? with
 | some r=>have_ n && fK r gl
 | none=>false
theorem qI {tab:List (List Int)} {ends:List Nat} (h:vG N C cls sets) (hs:∀r∈rows,∀s∈r,s∈sets∧∀g∈s,0≤g∧g < N) (ht:te cls rows have_ C tab ends) (hC:∀z∈cls,z.toNat < C):
  ∀(gl:List Int),gQ cls tab ends gl=cE (fy rows have_ gl) rows.length:=by
 obtain ⟨met,h0,hl,hle,he,hn⟩:=ht.met
 have hmt:=hl
 have key:∀(r gl:List Int) (s:Nat) (told:Nat) (p:Nat×Nat),met[s]?=some p→p.1=gl.length→p.2=cE (oG rows have_ gl) rows.length→told=cE (fy rows have_ gl) rows.length→
   (gl=[]∨p.2≠0)→nl cls tab ends s r told=cE (fy rows have_ (gl++r)) rows.length:=by
  intro r
  induction r with
  | nil=>intro gl s told p _ _ _ ht _;rw [nl,List.append_nil];exact ht
  | cons g r ih=>
   intro gl s told p hp hp1 hp2 htold hne
   have hsl:s < met.length:=(Np hp).1
   obtain ⟨q,hq⟩:∃q,tab[s]?=some q:=⟨_,Nz (by omega)⟩
   obtain ⟨hqC,hqn⟩:=hn s p q hp hq
   have stop:(∀n,oG rows have_ (gl++[g]) n=false)→cE (fy rows have_ gl) rows.length=cE (fy rows have_ (gl++g::r)) rows.length:=by
    intro hz
    refine iK fun n=>?_
    rw [cC,cC]
    congr 1
    have hzn:=hz n
    unfold oG at hzn
    unfold fy
    cases hr:rows[n]? with
    | none=>rfl
    | some eK=>
     rw [hr] at hzn
     dsimp only at hzn ⊢
     by_cases hh:have_ n=true
     ·rw [hh,Bool.true_and] at hzn ⊢
      rw [Bool.true_and]
      by_cases hrl:eK.length≤gl.length
      ·rw [mM hrl]
      ·rw [List.length_append,List.length_singleton,decide_eq_true (by omega),Bool.true_and,List.take_add_one,Nz (by omega)] at hzn
       dsimp only [Option.toList] at hzn
       have e1:fK eK gl=false:=by
        rw [Bool.eq_false_iff]
        intro hf
        rw [l9 (by omega)] at hf
        cases hf
       have e2:fK eK (gl++g::r)=false:=by
        have e3:eK=(eK.take gl.length++[eK[gl.length]])++eK.drop (gl.length+1):=by
         rw [List.append_assoc,List.singleton_append,List.getElem_cons_drop,List.take_append_drop]
        have e4:∀{a b:List (List Int)} {x:List Int},fK (a++b) x=true→fK a x=true:=by
         intro a
         induction a with
         | nil=>intro b x _;rfl
         | cons y a iha=>
          intro b x hx
          cases x with
          | nil=>cases hx
          | cons w x=>
           rw [Ns,fK,Bool.and_eq_true] at hx
           rw [fK,Bool.and_eq_true]
           exact ⟨hx.1,iha hx.2⟩
        rw [Bool.eq_false_iff]
        intro hf
        rw [e3] at hf
        have:=e4 hf
        rw [show gl++g::r=(gl++[g])++r by simp,mM (by simp;omega)] at this
        rw [this] at hzn
        cases hzn
       rw [e1,e2]
     ·simp [hh]
   rw [nl]
   by_cases hg:0≤g∧g.toNat < cls.length
   ·obtain ⟨hg0,hgl⟩:=hg
    obtain ⟨z,hz⟩:∃z,cls[g.toNat]?=some z:=⟨_,Nz hgl⟩
    have hzm:=Nw hz
    have hzd:=h.dom z hzm
    obtain ⟨c,rfl⟩:=Int.eq_ofNat_of_zero_le hzd.1
    have hcC:c < C:=by omega
    obtain ⟨t,htc⟩:∃t,q[c]?=some t:=⟨_,Nz (by omega)⟩
    have hstep:=FE (have_:=have_) (gl:=gl) h hs hg0 hz
    have hnx:jb cls tab s g=if 0≤t∧t < tab.length then t else -1:=by
     unfold jb
     rw [if_neg (by omega),Int.toNat_natCast,hq,hz]
     dsimp only
     rw [if_neg (by omega),Int.toNat_natCast,htc]
    have hbe:cz cls rows p c=if cE (oG rows have_ (gl++[g])) rows.length=0 then (0,0) else (gl.length+1,cE (oG rows have_ (gl++[g])) rows.length):=by
     unfold cz
     rw [hp1,hp2,hstep]
    rcases hqn c t htc with ⟨h1,h2⟩ | ⟨h1,h2,h3⟩
    ·subst h2
     have hno:¬((0:Int)≤-1∧(-1:Int) < tab.length):=fun e=>absurd e.1 (by decide)
     rw [hnx,if_neg hno,if_pos rfl,htold]
     refine stop fun n=>?_
     rw [hbe] at h1
     have hzero:cE (oG rows have_ (gl++[g])) rows.length=0:=by
      split at h1
      ·assumption
      ·exact h1
     by_cases hnl:n < rows.length
     ·exact rB.1 hzero n hnl
     ·unfold oG;rw [List.getElem?_eq_none (by omega)]
    ·have htl:t.toNat < tab.length:=by
      have:=(Np h3).1
      omega
     have htz:¬t= -1:=by omega
     have hin:(0:Int)≤t∧t < tab.length:=⟨h2,by omega⟩
     rw [if_pos hin] at hnx
     rw [hnx,if_neg htz]
     rw [hbe] at h1 h3
     have hnz:¬cE (oG rows have_ (gl++[g])) rows.length=0:=by
      intro e
      rw [if_pos e] at h1
      exact h1 rfl
     rw [if_neg hnz] at h3
     have:=ih (gl++[g]) t.toNat (told ||| jX ends t) _ h3 (by simp) rfl ?_ (.inr hnz)
     ·rw [Int.toNat_of_nonneg h2] at this
      rw [this]
      simp
     ·
      have hen:=he _ _ h3
      unfold jX
      rw [if_neg (by omega),List.getD_eq_getElem?_getD,hen,htold]
      dsimp only [Option.getD]
      unfold kw
      rw [if_neg hnz]
      refine iK fun n=>?_
      rw [Nat.testBit_or,Nat.testBit_and,Al,cC,cC,cC,cC]
      by_cases hnl:n < rows.length
      ·simp only [decide_eq_true hnl,Bool.true_and]
       unfold fy oG ku
       rw [Nz hnl]
       dsimp only
       generalize rows[n]=eK
       cases have_ n
       ·simp
       ·simp only [Bool.true_and,List.length_append,List.length_singleton]
        by_cases hrl:eK.length≤gl.length
        ·rw [mM hrl,decide_eq_false (by omega:¬eK.length=gl.length+1),Bool.and_false,Bool.or_false]
        ·have e1:fK eK gl=false:=l9 (by omega)
         rw [e1,Bool.false_or]
         by_cases hre:eK.length=gl.length+1
         ·rw [decide_eq_true hre,Bool.and_true,decide_eq_true (by omega),Bool.true_and,List.take_of_length_le (by omega)]
         ·rw [decide_eq_false hre,Bool.and_false]
          exact (l9 (by simp;omega)).symm
      ·simp [decide_eq_false hnl]
   ·have hnx:jb cls tab s g= -1:=by
     unfold jb
     by_cases hg0:g < 0
     ·rw [if_pos (.inr hg0)]
     ·rw [if_neg (by omega),Int.toNat_natCast,hq,List.getElem?_eq_none (by omega)]
    rw [hnx,if_pos rfl,htold]
    refine stop fun n=>?_
    unfold oG
    cases hr:rows[n]? with
    | none=>rfl
    | some eK=>
     dsimp only
     by_cases hrl:gl.length+1≤eK.length
     ·have hs':=hs eK (Nw hr) eK[gl.length] (List.getElem_mem (by omega))
      have hng:eK[gl.length].contains g=false:=by
       rw [Bool.eq_false_iff]
       intro hm
       rw [List.contains_iff_mem] at hm
       have:=hs'.2 g hm
       have hl:=h.len
       omega
      rw [List.length_append,List.length_singleton,List.take_add_one,Nz (by omega)]
      dsimp only [Option.toList]
      rw [pA (by rw [List.length_take];omega),hng]
      simp
     ·rw [List.length_append,List.length_singleton,decide_eq_false hrl]
      simp
 intro gl
 have h00:=key gl [] 0 (jX ends 0) _ h0 rfl ?_ ?_ (.inl rfl)
 ·rw [Nr] at h00
  exact h00
 ·refine iK fun n=>?_
  unfold nC
  rw [cC,cC]
  by_cases hnl:n < rows.length
  ·simp only [decide_eq_true hnl,Bool.true_and]
   unfold oG
   rw [Nz hnl]
   simp [fK]
  ·simp [decide_eq_false hnl]
 ·have hen:=he _ _ h0
  unfold jX
  rw [if_neg (by omega),List.getD_eq_getElem?_getD]
  rw [show (0:Int).toNat=0 from rfl,hen]
  dsimp only [Option.getD]
  refine iK fun n=>?_
  have hb:(kw rows (nC rows have_))=cE have_ rows.length &&& Al rows 0:=by
   unfold kw nC
   dsimp only
   split
   ·rename_i e
    rw [e,Nat.zero_and]
   ·rfl
  rw [hb,Nat.testBit_and,Al,cC,cC,cC]
  by_cases hnl:n < rows.length
  ·simp only [decide_eq_true hnl,Bool.true_and]
   unfold fy ku
   rw [Nz hnl]
   dsimp only
   generalize rows[n]=eK
   cases eK with
   | nil=>simp [fK]
   | cons s eK=>simp [fK]
  ·simp [decide_eq_false hnl]
end
theorem pB:∀{ss:List (List Int)} {gl:List Int} {k:Nat},ss.length≤k→fK ss (gl.take k)=fK ss gl
 | [],_,_,_=>rfl
 | _::_,[],k,_=>by rw [List.take_nil]
 | _::ss,_::gl,0,h=>by simp at h
 | s::ss,g::gl,k+1,h=>by rw [List.take_succ_cons,fK,fK,pB (by simpa using h)]
theorem EU {α:Type} {q:α→Bool} {l:List α}:l.find? q=(l.findIdx? q).bind fun i=>l[i]?:=by
  cases h:l.findIdx? q with
  | none => rw [List.find?_eq_none.2]; · rfl
            intro x hx
            rw [List.findIdx?_eq_none_iff] at h
            rw [h x hx];decide
  | some i=>
    obtain ⟨hi,h1,h2⟩:=List.findIdx?_eq_some_iff_getElem.1 h
    rw [Option.bind_some,Nz hi,List.find?_eq_some_iff_getElem]
    exact ⟨h1,i,hi,rfl,fun j hj=>by simpa using h2 j hj⟩
theorem yP {α:Type} {q:α→Bool} {l:List α} {b:Nat} (hb:∀n,b.testBit n=(l[n]?).any q):
  (∀i,l.findIdx? q=some i→b.testBit i=true∧∀j,j < i→b.testBit j=false)∧(l.findIdx? q=none→b=0):=by
 constructor
 ·intro i h
  obtain ⟨hi,h1,h2⟩:=List.findIdx?_eq_some_iff_getElem.1 h
  refine ⟨by rw [hb,Nz hi];exact h1,fun j hj=>?_⟩
  rw [hb,Nz (by omega)]
  simpa using h2 j hj
 ·intro h
  refine iK fun n=>?_
  rw [hb,Nat.zero_testBit]
  cases hn:l[n]? with
  | none=>rfl
  | some x=>exact List.findIdx?_eq_none_iff.1 h x (Nw hn)
def ep (r:bk):List (List Int):=if r.In.isEmpty then [] else r.In++r.Ahead
def tJ (rs:List bk) (n:Nat):Bool:=match rs[n]? with
 | some r=> !r.In.isEmpty
 | none=>false
theorem BF {rs:List bk} {fg bg:List Int} {n:Nat}:(cE (fy (rs.map bk.Back) (fun _=>true) bg) (rs.map bk.Back).length &&& cE (fy (rs.map ep) (tJ rs) fg) (rs.map ep).length).testBit n=(rs[n]?).any fun r=> !r.In.isEmpty && (fK (r.In++r.Ahead) fg && fK r.Back bg):=by
 rw [Nat.testBit_and,cC,cC]
 simp only [Nu]
 unfold fy tJ
 simp only [List.getElem?_map]
 cases h:rs[n]? with
 | none=>simp
 | some r=>
  have hn:=(Np h).1
  simp only [Option.map_some,Option.any_some,decide_eq_true hn,Bool.true_and]
  unfold ep
  cases r.In.isEmpty <;> simp [Bool.and_comm]
def gP (rs:List bk):Nat:=rs.foldl (fun m r=>max m (r.In.length+r.Ahead.length)) 0
def jv (rs:List bk):Nat:=rs.foldl (fun m r=>max m r.Back.length) 0
theorem ou {α:Type} {g:α→Nat}:∀{l:List α} {m:Nat},m≤l.foldl (fun m r=>max m (g r)) m∧∀r∈l,g r≤l.foldl (fun m r=>max m (g r)) m
 | [],m=>⟨Nat.le_refl _,fun r h=>by cases h⟩
 | x::l,m=>by
  have ih:=ou (g:=g) (l:=l) (m:=max m (g x))
  rw [List.foldl_cons]
  refine ⟨by have:=ih.1;omega,fun r hr=>?_⟩
  rcases List.mem_cons.1 hr with rfl | hr
  ·have:=ih.1;omega
  ·exact ih.2 r hr
theorem yr {ms:List Bool} {ig:Bool} {run:List bc} {i:Nat} {rs:List bk} {b:Nat}
  (hb:∀n,b.testBit n=(rs[n]?).any fun r=> !r.In.isEmpty && (fK (r.In++r.Ahead) (((fk ms ig run i).take (gP rs)).map (hH run)) && fK r.Back (((o9 ms ig run i).take (jv rs)).map (hH run)))) (n:Nat):b.testBit n=(rs[n]?).any (gD ms ig run i):=by
 rw [hb]
 cases h:rs[n]? with
 | none=>rfl
 | some r=>
  have hm:=Nw h
  have h1:(r.In++r.Ahead).length≤gP rs:=by rw [List.length_append];exact (ou (g:=fun r:bk=>r.In.length+r.Ahead.length)).2 r hm
  have h2:r.Back.length≤jv rs:=(ou (g:=fun r:bk=>r.Back.length)).2 r hm
  rw [Option.any_some,Option.any_some]
  unfold gD
  rw [List.map_take,List.map_take,pB h1,pB h2]
theorem W1j {A B:Prop} (k:B) (h:W00 B→A:=by intro k;(repeat' (first|refine aD ?_|(apply dA;refine eI ?_)|fail));exact k.g):A:=h ⟨k⟩
theorem W1s {A B:Prop} (k:B) (h:W00 B→A:=by intro k;(repeat' (first|refine aD ?_|refine gw rfl rfl ?_));exact k.g):A:=h ⟨k⟩
theorem W1K {A B:Prop} (k:B) (h:W00 B→A:=by intro k;(repeat' (first|refine aD ?_|(apply d5;refine dz ?_)|fail));exact k.g):A:=h ⟨k⟩
end
end Go.Proofs.YtpmdfoaadejmkaaGreatDoor
