/-
  Fonts as data, and as abstract values.
-/
import Derived.Test.YtpmdfoaadejmkaaGreatDoorM04
namespace Go.Proofs.YtpmdfoaadejmkaaGreatDoor
open Go.RowKit
abbrev aF (z:Int):AV:= .sc (.int .i64 z)
abbrev vQ (s:ByteArray):AV:= .sc (.string s)
abbrev dY (b:Bool):AV:= .sc (.bool b)
structure eE where
 X:Int
 Y:Int
 On:Bool
structure dM where
 Glyph:Int
 X:Int
 Y:Int
structure dv where
 Kind:Int
 Class:Int
 X:Int
 Y:Int
structure dH where
 Region:Int
 Point:Int
 X:Int
 Y:Int
structure g8 where
 Op:Int
 A:Int
structure bz where
 Name:ByteArray
 Advance:Int
 Mark:Bool
 Points:List eE
 Ends:List Int
 Parts:List dM
 Anchors:List dv
 Deltas:List dH
 Hint:List g8
structure gc where
 Rune:Int
 Glyph:Int
structure gQ where
 At:Int
 Lookup:Int
structure bc where
 Back:List (List Int)
 In:List (List Int)
 Ahead:List (List Int)
 Out:List Int
 Calls:List gQ
 X:Int
structure aO where
 Kind:Int
 Ignore:Bool
 Rules:List bc
structure c7 where
 Name:ByteArray
 Lookups:List Int
structure ez where
 Name:ByteArray
 Min:Int
 Def:Int
 Max:Int
structure f0 where
 Start:Int
 Peak:Int
 End:Int
structure b7 where
 Unit:Int
 Glyphs:List bz
 Chars:List gc
 Lookups:List aO
 Features:List c7
 Axes:List ez
 Regions:List (List f0)
 Funcs:List (List g8)
 Cvt:List Int
def b6 (l:List (List Int)):List (List AV):=l.map fun q=>[.imm 1 (aW q)]
def Di (l:List ByteArray):List (List AV):=l.map fun s=>[vQ s]
def dA (p:eE):List AV:=[aF p.X,aF p.Y,dY p.On]
def eD (p:dM):List AV:=[aF p.Glyph,aF p.X,aF p.Y]
def d8 (p:dv):List AV:=[aF p.Kind,aF p.Class,aF p.X,aF p.Y]
def dZ (p:dH):List AV:=[aF p.Region,aF p.Point,aF p.X,aF p.Y]
def eU (p:g8):List AV:=[aF p.Op,aF p.A]
def bR (g:bz):List AV:=[vQ g.Name,aF g.Advance,dY g.Mark,.imm 3 (g.Points.map dA),.imm 1 (aW g.Ends),.imm 3 (g.Parts.map eD),.imm 4 (g.Anchors.map d8),.imm 4 (g.Deltas.map dZ),.imm 2 (g.Hint.map eU)]
def eh (c:gc):List AV:=[aF c.Rune,aF c.Glyph]
def eM (c:gQ):List AV:=[aF c.At,aF c.Lookup]
def bB (r:bc):List AV:=[.imm 1 (b6 r.Back),.imm 1 (b6 r.In),.imm 1 (b6 r.Ahead),.imm 1 (aW r.Out),.imm 2 (r.Calls.map eM),aF r.X]
def bi (l:aO):List AV:=[aF l.Kind,dY l.Ignore,.imm 6 (l.Rules.map bB)]
def co (t:c7):List AV:=[vQ t.Name,.imm 1 (aW t.Lookups)]
def cL (a:ez):List AV:=[vQ a.Name,aF a.Min,aF a.Def,aF a.Max]
def ky (t:f0):List AV:=[aF t.Start,aF t.Peak,aF t.End]
def bU (r:List f0):List AV:=[.imm 3 (r.map ky)]
def dD (l:List g8):List AV:=[.imm 2 (l.map eU)]
def cE (f:b7):List AV:=[aF f.Unit,.imm 9 (f.Glyphs.map bR),.imm 2 (f.Chars.map eh),.imm 3 (f.Lookups.map bi),.imm 2 (f.Features.map co),.imm 4 (f.Axes.map cL),.imm 1 (f.Regions.map bU),.imm 1 (f.Funcs.map dD),.imm 1 (aW f.Cvt)]
abbrev bZ (f:b7):AV:= .agg (cE f)
theorem bH {α:Type} {c:α→List AV} {l:List α} {i:Nat} {a:α} (h:l[i]?=some a):(l.map c)[i]?=some (c a):=by simp [h]
theorem Dj {l:List ByteArray} {i:Nat} {z:ByteArray} (h:l[i]?=some z):(Di l)[i]?=some [vQ z]:=by simp [Di,h]
theorem c6 (l:List (List Int)):(b6 l).length=l.length:=by simp [b6]
theorem eR {l:List (List Int)} {i:Nat} {z:List Int} (h:l[i]?=some z):(b6 l)[i]?=some [.imm 1 (aW z)]:=by simp [b6,h]
section
variable {P:Program} {tt:TT} {r:Option Nat} {Q:Exit→Act→World→Prop} {nt:Nat} {D:List Deferred} {fr:c8} {B:Bs} {L:AL} {l:List Oper} {fin:jO}
variable {k j:Nat} {s:Ak} {sk:mE} {acc:c8} {dd:Option Tmp} {op:Op} {ty t t':TypeId} {pos:String} {af:Array Edge} {g:Option (Nat×Bool)} {x y c:Operand} {u:AV} {want b:Bool}
def cK (P:Program) (l:List Oper) (fr:c8) (fin:jO) (k:Nat) (s:Ak) (o:Oper) (sk:mE) (acc:c8) (L:AL):Prop:=l[k]?=some o→DA P l fr fin ((k,s)::sk) acc L
theorem aD {o:Oper} (h:cK P l fr fin k s o sk acc L) (ho:l[k]?=some o:=by rfl):DA P l fr fin ((k,s)::sk) acc L:=h ho
def iV (o:Oper) (acc:c8):Prop:=match o.guard with
 | none=>True
 | some (j,want)=>pz acc j= .sc (.bool want)
theorem nP {o:Oper} {R:AV→AL→Prop} (hg:iV o acc) (h:∀B,AO P o (cC l.toArray acc fr o.after.toList) B L R):yE P l fr o acc L R:=by
 unfold yE
 unfold iV at hg
 split
 ·exact h
 ·rename_i j want hq
  rw [hq] at hg
  exact .inl ⟨hg,h⟩
theorem fa {o:Oper} (hg:iV o acc) (h:∀B L,AO P o (cC l.toArray acc fr o.after.toList) B L (fun c L'=>c=u∧L'=L)) (hn:DA P l fr fin sk ((k,u)::acc) L):cK P l fr fin k .v o sk acc L:=by
 intro ho
 obtain ⟨pl,hpl⟩:=hn
 exact ⟨.val k u pl,.v,sk,o,rfl,ho,.inl ⟨rfl,fun L=>nP hg fun B=>h B L⟩,hpl⟩
theorem BJ {o:Oper} (hg:iV o acc) (h:∀B,AO P o (cC l.toArray acc fr o.after.toList) B L (fun c L'=>c=u∧L'=L)) (hn:DA P l fr fin sk ((k,u)::acc) L):cK P l fr fin k .l o sk acc L:=by
 intro ho
 obtain ⟨pl,hpl⟩:=hn
 exact ⟨.val k u pl,.l,sk,o,rfl,ho,.inr (.inl ⟨rfl,nP hg fun B=>h B⟩),hpl⟩
theorem jY {o:Oper} {R:AV→AL→Prop} (hg:iV o acc) (h:∀B,AO P o (cC l.toArray acc fr o.after.toList) B L R) (hn:∀c L',R c L'→DA P l fr fin sk ((k,c)::acc) L'):cK P l fr fin k .e o sk acc L:=by
 intro ho
 have hn':∀c L',∃pl,R c L'→dw P l fr fin pl sk ((k,c)::acc) L':=fun c L'=>by
  by_cases hr:R c L'
  ·obtain ⟨pl,hpl⟩:=hn c L' hr
   exact ⟨pl,fun _=>hpl⟩
  ·exact ⟨.fin,fun h=>absurd h hr⟩
 exact ⟨.eff k R fun c L'=>Classical.choose (hn' c L'),.e,sk,o,.inl rfl,rfl,ho,nP hg h,fun c L' hr=>Classical.choose_spec (hn' c L') hr⟩
theorem GC {o:Oper} (hK:eN fin.gs L) (hg:iV o acc) (h:∀B L,eN fin.gs L→AO P o (cC l.toArray acc fr o.after.toList) B L (fun c L'=>c=u∧L'=L)) (hn:DA P l fr fin sk ((k,u)::acc) L):cK P l fr fin k .k o sk acc L:=by
 intro ho
 obtain ⟨pl,hpl⟩:=hn
 exact ⟨.val k u pl,.k,sk,o,rfl,ho,.inr (.inr ⟨rfl,hK,fun L hL=>nP hg fun B=>h B L hL⟩),hpl⟩
theorem t7 {o:Oper} {R:AV→AL→Prop} (hX:∀c L',R c L'→eN fin.gs L→eN fin.gs L') (hg:iV o acc) (h:∀B,AO P o (cC l.toArray acc fr o.after.toList) B L R) (hn:∀c L',R c L'→DA P l fr fin sk ((k,c)::acc) L'):cK P l fr fin k .f o sk acc L:=by
 intro ho
 have hn':∀c L',∃pl,R c L'→dw P l fr fin pl sk ((k,c)::acc) L':=fun c L'=>by
  by_cases hr:R c L'
  ·obtain ⟨pl,hpl⟩:=hn c L' hr
   exact ⟨pl,fun _=>hpl⟩
  ·exact ⟨.fin,fun h=>absurd h hr⟩
 exact ⟨.eff k R fun c L'=>Classical.choose (hn' c L'),.f,sk,o,.inr (.inr ⟨rfl,hX⟩),rfl,ho,nP hg h,fun c L' hr=>Classical.choose_spec (hn' c L') hr⟩
theorem GB {o:Oper} {R:AV→AL→Prop} (hX:∀c L',R c L'→∃X,L'=X++L) (hg:iV o acc) (h:∀B,AO P o (cC l.toArray acc fr o.after.toList) B L R) (hn:∀c L',R c L'→DA P l fr fin sk ((k,c)::acc) L'):cK P l fr fin k .a o sk acc L:=by
 intro ho
 have hn':∀c L',∃pl,R c L'→dw P l fr fin pl sk ((k,c)::acc) L':=fun c L'=>by
  by_cases hr:R c L'
  ·obtain ⟨pl,hpl⟩:=hn c L' hr
   exact ⟨pl,fun _=>hpl⟩
  ·exact ⟨.fin,fun h=>absurd h hr⟩
 exact ⟨.eff k R fun c L'=>Classical.choose (hn' c L'),.a,sk,o,.inr (.inl ⟨rfl,hX⟩),rfl,ho,nP hg h,fun c L' hr=>Classical.choose_spec (hn' c L') hr⟩
theorem oJ {op:Op} (hj:pz acc j= .sc (.bool b)) (hb:(b==want)=false) (hn:DA P l fr fin sk ((k,.sc undef)::acc) L):cK P l fr fin k .v ⟨dd,op,ty,pos,af,some (j,want)⟩ sk acc L:=by
 intro ho
 obtain ⟨pl,hpl⟩:=hn
 exact ⟨.val k (.sc undef) pl,.v,sk,_,rfl,ho,.inl ⟨rfl,fun L=> .inr ⟨⟨_,hj,fun e=>by injection e with e;subst e;simp at hb⟩,rfl,rfl⟩⟩,hpl⟩
theorem HF {op:Op} (hj:pz acc j= .sc undef) (hn:DA P l fr fin sk ((k,.sc undef)::acc) L):cK P l fr fin k .v ⟨dd,op,ty,pos,af,some (j,want)⟩ sk acc L:=by
 intro ho
 obtain ⟨pl,hpl⟩:=hn
 exact ⟨.val k (.sc undef) pl,.v,sk,_,rfl,ho,.inl ⟨rfl,fun L=> .inr ⟨⟨_,hj,fun e=>by simp [undef] at e⟩,rfl,rfl⟩⟩,hpl⟩
theorem zP {o:Oper} {fr:c8} (h:Av P o fr u):∀B L,AO P o fr B L (fun c L'=>c=u∧L'=L):=fun _ _=>h.ao
theorem b8 (ok:er P tt) (h:DA P l fr fin sk ((k,u)::acc) L) (hu:rk tt (cC l.toArray acc fr af.toList) op=some u:=by rfl) (hg:iV ⟨dd,op,ty,pos,af,g⟩ acc:=by first | trivial | rfl):cK P l fr fin k .v ⟨dd,op,ty,pos,af,g⟩ sk acc L:=fa hg (zP (mz ok hu)) h
theorem ea {bop:BinOp} (h:cK P l fr fin k .v ⟨dd,.binOp bop t x y t',ty,pos,af,g⟩ sk acc L):cK P l fr fin k .v ⟨dd,.binOp bop t x y t',ty,pos,af,g⟩ sk acc L:=h
theorem fA {bop:BinOp} (h:DA P l fr fin sk ((k,u)::acc) L) (ho:Av P ⟨dd,.binOp bop t x y t',ty,pos,af,g⟩ (cC l.toArray acc fr af.toList) u:=by first | exact xB rfl rfl (by omega) | exact xJ rfl rfl (by omega) | exact xH rfl rfl (by omega)) (hg:iV ⟨dd,.binOp bop t x y t',ty,pos,af,g⟩ acc:=by first | trivial | rfl):cK P l fr fin k .v ⟨dd,.binOp bop t x y t',ty,pos,af,g⟩ sk acc L:=fa hg (zP ho) h
theorem bW (h:cK P l fr fin k .v ⟨dd,.indexAddr t x y,ty,pos,af,g⟩ sk acc L):cK P l fr fin k .v ⟨dd,.indexAddr t x y,ty,pos,af,g⟩ sk acc L:=h
theorem ci (ok:er P tt) {e sz by_ s:Nat} {ll:List (List AV)} {ik:IntKind} {i:Int} {es:List AV} (h:DA P l fr fin sk ((k,.iptr es)::acc) L) (ht:jJ tt t=some (e,sz,by_):=by rfl) (hx:bo (cC l.toArray acc fr af.toList) x=some u:=by rfl) (hu:ii u=some (s,ll):=by rfl) (hs:Nat.beq s sz=true:=by rfl) (hy:bo (cC l.toArray acc fr af.toList) y=some (.sc (.int ik i)):=by rfl) (h0:0≤i:=by omega) (hl:ll[i.toNat]?=some es:=by first | assumption | (simp only [Int.toNat_natCast];assumption)) (hg:iV ⟨dd,.indexAddr t x y,ty,pos,af,g⟩ acc:=by first | trivial | rfl):cK P l fr fin k .v ⟨dd,.indexAddr t x y,ty,pos,af,g⟩ sk acc L:=fa hg (zP (xF (bv ok ht).1 hx (cQ hu) hs hy h0 hl)) h
theorem cW {f:FuncId} {args:Array Operand} {ts:Array TypeId} (h:cK P l fr fin k .v ⟨dd,.call ⟨.value (.func f),args,ts⟩,ty,pos,af,g⟩ sk acc L):cK P l fr fin k .v ⟨dd,.call ⟨.value (.func f),args,ts⟩,ty,pos,af,g⟩ sk acc L:=h
theorem du {f:FuncId} {args:Array Operand} {ts:Array TypeId} {cs ds:List AV} [bM P f] (h:DA P l fr fin sk ((k,u)::acc) L) (hv:eA (cC l.toArray acc fr af.toList) args.toList=some cs:=by rfl) (hi:lQ cs=some ds:=by rfl) (hc:AD P f ds u:=by infer_instance) (hg:iV ⟨dd,.call ⟨.value (.func f),args,ts⟩,ty,pos,af,g⟩ acc:=by first | trivial | rfl):cK P l fr fin k .v ⟨dd,.call ⟨.value (.func f),args,ts⟩,ty,pos,af,g⟩ sk acc L:=fa hg (fun _ _=>Ba hv (by rw [j5 hi];exact hc.det)) h
theorem ce (ok:er P tt) (i:Nat) {b kk:Nat} {cs:List AV} {e:TypeId} (ht:Ia tt t=true) (hx:bo (cC l.toArray acc fr af.toList) x=some (.sc (.pointer (some ⟨b,kk,none⟩)))) (hL:L[i]?=some (b,.box cs e)) (hc:cs[kk]?=some u) (hg:iV ⟨dd,.load t x,ty,pos,af,g⟩ acc) (h:DA P l fr fin sk ((k,u)::acc) L):cK P l fr fin k .l ⟨dd,.load t x,ty,pos,af,g⟩ sk acc L:=BJ hg (fun _=>t1 i (d3 ok ht) hx hL hc) h
theorem pv (ok:er P tt) (i:Nat) {b kk n:Nat} {cs:List AV} {e:TypeId} (ht:Hc tt t=some n) (hx:bo (cC l.toArray acc fr af.toList) x=some (.sc (.pointer (some ⟨b,kk,none⟩)))) (hL:L[i]?=some (b,.box cs e)) (hc:Nat.ble (kk+n) cs.length=true) (hg:iV ⟨dd,.load t x,ty,pos,af,g⟩ acc) (h:DA P l fr fin sk ((k,.agg ((cs.drop kk).take n))::acc) L):cK P l fr fin k .l ⟨dd,.load t x,ty,pos,af,g⟩ sk acc L:=BJ hg (fun _=>ui i (eK ok ht) hx hL hc) h
theorem zC {gs:KpL} {i b kk:Nat} {v:AV} (hi:gs[i]?=some (.cell (b,kk,v))) {L:AL} (h:eN gs L):∃(j:Nat) (cs:List AV) (e:TypeId),L[j]?=some (b,.box cs e)∧cs[kk]?=some v:=by
 obtain ⟨cs,e,h1,h2⟩:=h _ (Jx hi)
 obtain ⟨j,hj⟩:=List.mem_iff_getElem?.1 h1
 exact ⟨j,cs,e,hj,h2⟩
theorem dJ (ok:er P tt) (i:Nat) {b kk:Nat} (ht:Ia tt t=true) (hx:bo (cC l.toArray acc fr af.toList) x=some (.sc (.pointer (some ⟨b,kk,none⟩)))) (hi:fin.gs[i]?=some (.cell (b,kk,u))) (hK:eN fin.gs L) (hg:iV ⟨dd,.load t x,ty,pos,af,g⟩ acc) (h:DA P l fr fin sk ((k,u)::acc) L):cK P l fr fin k .k ⟨dd,.load t x,ty,pos,af,g⟩ sk acc L:=
 GC hK hg (fun _ L' hL'=>by
  obtain ⟨j,cs,e,h1,h2⟩:=zC hi hL'
  exact t1 j (d3 ok ht) hx h1 h2) h
theorem xK {d:Option Tmp} {e sz by_ n:Nat} {parts:Array (Nat×Operand)} {vs:List AV} {xs:List (List AV)} (hc:kG P t e sz by_) (hsz:0 < sz) (hv:eA fr (parts.toList.map (·.2))=some vs) (hxs:jU vs=some xs) (hn:Nat.beq xs.length n=true) (hi:parts.toList.map (·.1)=List.range' 0 n) (hz:xs.all (fun q=>Nat.beq q.length sz)=true) (h24:Nat.ble (n * sz) 16777216=true):
  AO P ⟨d,.buildSlice t n parts,ty,pos,af,g⟩ fr B L (fun c L'=>c= .imm sz xs∧L'=L):=by
 intro σ ρ w hρ hw
 refine (Bc hc hsz hv hxs hn hi hz h24 σ ρ w hρ hw).mono fun v w' hh=>?_
 obtain ⟨τ,c,L',h1,h2,h3,b,rfl,rfl⟩:=hh
 exact ⟨τ,_,L,h1,h2.im,h3.sublist (.cons _ (List.Sublist.refl _)),rfl,rfl⟩
theorem ej (ok:er P tt) {e sz by_ n:Nat} {parts:Array (Nat×Operand)} {vs:List AV} {xs:List (List AV)} (h:DA P l fr fin sk ((k,.imm sz xs)::acc) L) (ht:jJ tt t=some (e,sz,by_):=by rfl) (hv:eA (cC l.toArray acc fr af.toList) (parts.toList.map (·.2))=some vs:=by rfl) (hxs:jU vs=some xs:=by rfl) (hn:Nat.beq xs.length n=true:=by rfl) (hi:parts.toList.map (·.1)=List.range' 0 n:=by rfl) (hz:xs.all (fun q=>Nat.beq q.length sz)=true:=by rfl) (h24:Nat.ble (n * sz) 16777216=true:=by rfl) (hg:iV ⟨dd,.buildSlice t n parts,ty,pos,af,g⟩ acc:=by first | trivial | rfl):
  cK P l fr fin k .v ⟨dd,.buildSlice t n parts,ty,pos,af,g⟩ sk acc L:=fa hg (fun _ _=>xK (bv ok ht).1 (bv ok ht).2 hv hxs hn hi hz h24) h
theorem bN (ok:er P tt) {r:Option Nat} {ops:Array Oper} {Q:Exit→Act→World→Prop} {nt:Nat} {D:List Deferred} {rest:List Oper} {d e sz by_ n:Nat} {parts:Array (Nat×Operand)} {vs:List AV} {xs:List (List AV)} (h:bK P r ops Q nt D rest ((d,.imm sz xs)::fr) B L) (ht:jJ tt t=some (e,sz,by_):=by rfl) (hv:eA fr (parts.toList.map (·.2))=some vs:=by rfl) (hxs:jU vs=some xs:=by rfl) (hn:Nat.beq xs.length n=true:=by rfl) (hi:parts.toList.map (·.1)=List.range' 0 n:=by rfl) (hz:xs.all (fun q=>Nat.beq q.length sz)=true:=by rfl) (h24:Nat.ble (n * sz) 16777216=true:=by rfl) (hd:Nat.ble nt d=false:=by rfl):
  bK P r ops Q nt D (⟨some d,.buildSlice t n parts,ty,pos,af,none⟩::rest) fr B L:=by
 obtain ⟨h1,h2⟩:=bv ok ht
 refine cP hd rfl (xK h1 h2 hv hxs hn hi hz h24) fun c L' hh=>?_
 obtain ⟨h1,h2⟩:=hh
 subst h1;subst h2
 exact h
theorem bq {gs:KpL} {n0:Nat} {fr0:c8} {rest:List Oper} (ks:List Nat) (hk:gz (iE l.toArray acc fr n0) ks=some fr0) (hr:l.drop n0=rest) (h:bK P r l.toArray Q nt D rest fr0 B L):DA P l fr ⟨BR P r l n0 Q nt D fr B none,gs⟩ [] acc L:=
 ⟨.fin,rfl,by rw [←hr] at h;exact un (dQ ks hk) (fun _ _ h=>h) h⟩
theorem JQ {gs:KpL} {n0:Nat} {fr0:c8} {rest:List Oper} (ks:List Nat) (zz:gz (iE l.toArray acc fr n0) ks=some fr0∧l.drop n0=rest) (h:bK P r l.toArray Q nt D rest fr0 B L):DA P l fr ⟨BR P r l n0 Q nt D fr B none,gs⟩ [] acc L:=bq ks zz.1 zz.2 h
theorem xS {gs:KpL} {n0 kk:Nat} {ab:AB} {rest:List Oper} (ks:List Nat) (fr0:Nat→c8) (hk:∀b,gz (iE l.toArray ((kk,.sc (.pointer (some ⟨b,0,none⟩)))::acc) fr n0) ks=some (fr0 b)) (hr:l.drop n0=rest) (h:∀b,bK P r l.toArray Q nt D rest (fr0 b) B (L++[(b,ab)])):DA P l fr ⟨BR P r l n0 Q nt D fr B (some (kk,ab)),gs⟩ [] acc L:=
 ⟨.fin,rfl,fun b=>by have:=h b;rw [←hr] at this;exact un (dQ ks (hk b)) (fun _ _ h=>h) this⟩
end
end Go.Proofs.YtpmdfoaadejmkaaGreatDoor
namespace Go.Proofs.YtpmdfoaadejmkaaGreatDoor
open Go.RowKit
attribute [local irreducible] AT bK AX AO Av Kt bh dw DA cK
structure aI where
 Glyph:Int
 Cluster:Int
 Form:Int
 Advance:Int
 X:Int
 Y:Int
def aY (x:aI):List AV:=[aF x.Glyph,aF x.Cluster,aF x.Form,aF x.Advance,aF x.X,aF x.Y]
def oV (ms:List Bool) (g:Int):Bool:=decide (0≤g) && ms.getD g.toNat false
def jI (ms:List Bool) (ig:Bool) (x:aI):Bool:= !(ig && oV ms x.Glyph)
def eY (ms:List Bool) (ig:Bool) (run:List aI) (i:Nat):Bool:=match run[i]? with
 | some x=>jI ms ig x
 | none=>false
def cI (ms:List Bool) (ig:Bool) (run:List aI) (i:Nat):List Nat:=(List.range' i (run.length - i)).filter (eY ms ig run)
def lT (ms:List Bool) (ig:Bool) (run:List aI):Nat→List Nat
 | 0=>[]
 | i+1=>if eY ms ig run i=true then i::lT ms ig run i else lT ms ig run i
def cx (run:List aI) (i:Nat):Int:=match run[i]? with
 | some x=>x.Glyph
 | none=> -1
def dg:List (List Int)→List Int→Bool
 | [],_=>true
 | _::_,[]=>false
 | s::ss,g::gs=>s.contains g && dg ss gs
def cZ (ms:List Bool) (ig:Bool) (run:List aI) (i:Nat) (r:bc):Bool:=
 !r.In.isEmpty && (dg (r.In++r.Ahead) ((cI ms ig run i).map (cx run)) && dg r.Back ((lT ms ig run i).map (cx run)))
def gh (ms:List Bool) (ig:Bool) (run:List aI) (i:Nat) (forms:List Int):Bool:=match run[i]? with
 | some x=>jI ms ig x && (forms.isEmpty || forms.contains x.Form)
 | none=>false
def dS (ms:List Bool) (l:aO) (run:List aI) (i:Nat) (forms:List Int):Option bc:=if gh ms l.Ignore run i forms=true then l.Rules.find? (cZ ms l.Ignore run i) else none
def cU (ms:List Bool) (l:aO) (run:List aI) (i:Nat) (r:bc):List Nat:=(cI ms l.Ignore run i).take r.In.length
def dt (r:bc) (i:Nat) (run:List aI):List aI:=match run[i]? with
 | none=>run
 | some x=>match r.Out[(r.In.headD []).idxOf x.Glyph]? with
  | none=>run
  | some g=>if (r.In.headD []).idxOf x.Glyph < (r.In.headD []).length then run.set i { x with Glyph:=g } else run
def eH (r:bc) (i:Nat) (run:List aI):List aI:=match run[i]? with
 | none=>run
 | some x=>if run.length - 1+r.Out.length > 500∧1 < r.Out.length then run else run.take i++(r.Out.map fun g=>{ x with Glyph:=g })++run.drop (i+1)
def f3:List Nat→List aI→List aI
 | [],run=>run
 | p::ps,run=>(f3 ps run).eraseIdx p
def lc (run:List aI) (c:Int) (p:Nat):Int:=match run[p]? with
 | some x=>min c x.Cluster
 | none=>c
def dR (run:List aI) (ps:List Nat) (c:Int):Int:=ps.foldl (lc run) c
def gA (r:bc) (ps:List Nat) (run:List aI):List aI:=match ps,r.Out with
 | p::q,g::_=>match run[p]? with
  | some x=>f3 q (run.set p { x with Glyph:=g,Cluster:=dR run (p::q) x.Cluster })
  | none=>run
 | _,_=>run
def kD (r:bc) (i:Nat) (run:List aI):List aI:=match run[i]? with
 | some x=>run.set i { x with Advance:=IntKind.i64.wrap (x.Advance+r.X) }
 | none=>run
def kI (ms:List Bool) (ig:Bool) (run:List aI) (i:Nat) (n:Int):Option Nat:=if 0≤n then (cI ms ig run i)[n.toNat]? else none
def dW (l:aO) (r:bc) (ps:List Nat) (run:List aI):List aI:=
 if l.Kind=1∨l.Kind=5 then dt r (ps.headD 0) run
 else if l.Kind=2 then eH r (ps.headD 0) run
 else if l.Kind=3 then gA r ps run
 else if l.Kind=6 then kD r (ps.headD 0) run
 else run
abbrev Ii:=aO→bc→List Nat→List aI→List aI
def i3 (ms:List Bool) (ls:List aO) (d:Ii) (n:Int) (i:Nat) (run:List aI):List aI:=
 if n < 0 then run else match ls[n.toNat]? with
 | none=>run
 | some l=>if l.Kind < 1∨4 < l.Kind then run else match dS ms l run i [] with
  | none=>run
  | some r=>d l r (cU ms l run i r) run
def fK (ms:List Bool) (ls:List aO) (d:Ii) (ig:Bool) (i:Nat) (run:List aI) (c:gQ):List aI:=match kI ms ig run i c.At with
 | none=>run
 | some p=>i3 ms ls d c.Lookup p run
def fT (ms:List Bool) (ls:List aO):Nat→Ii
 | 0=>fun l r ps run=>dW l r ps run
 | k+1=>fun l r ps run=>if l.Kind=4 then r.Calls.foldl (fK ms ls (fT ms ls k) l.Ignore (ps.headD 0)) run else dW l r ps run
def jA (l:aO) (i last:Nat) (run run':List aI):Nat:=
 if l.Kind=4 then max (run'.length - (run.length - 1 - last)) (i+1)
 else if l.Kind=6∧i < last then last
 else run'.length - (run.length - 1 - last)
def rH (ms:List Bool) (ls:List aO) (l:aO) (forms:List Int):Nat→Nat→List aI→List aI
 | 0,_,run=>run
 | k+1,i,run=>if i < run.length then match dS ms l run i forms with
   | none=>rH ms ls l forms k (i+1) run
   | some r=>rH ms ls l forms k (jA l i ((cU ms l run i r).getLastD i) run (fT ms ls 4 l r (cU ms l run i r) run)) (fT ms ls 4 l r (cU ms l run i r) run)
  else run
def gT (ms:List Bool) (ls:List aO) (l:aO) (forms:List Int):Nat→List aI→List aI
 | 0,run=>run
 | i+1,run=>gT ms ls l forms i (match dS ms l run i forms with
  | none=>run
  | some r=>fT ms ls 4 l r (cU ms l run i r) run)
def cV (ms:List Bool) (ls:List aO) (n:Int) (run:List aI) (forms:List Int):List aI:=
 if n < 0 then run else match ls[n.toNat]? with
 | none=>run
 | some l=>if l.Kind < 1∨6 < l.Kind then run else if l.Kind=5 then gT ms ls l forms run.length run else rH ms ls l forms run.length 0 run
def cn (p:Nat→Bool):Nat→Nat
 | 0=>0
 | n+1=>cn p n ||| (if p n=true then 2 ^ n else 0)
theorem cm (p:Nat→Bool) (i:Nat):∀n,(cn p n).testBit i=(decide (i < n) && p i)
 | 0=>by simp [cn]
 | n+1=>by
  rw [cn,Nat.testBit_or,cm p i n]
  by_cases hi:i=n
  ·subst hi
   cases hp:p i <;> simp [Nat.testBit_two_pow_self]
  ·have h1:decide (i < n+1)=decide (i < n):=decide_eq_decide.2 (by omega)
   have h2:(if p n=true then 2 ^ n else 0).testBit i=false:=by
    split
    ·rw [Nat.testBit_two_pow_of_ne (by omega)]
    ·simp
   rw [h1,h2,Bool.or_false]
theorem mN (p:Nat→Bool) (n:Nat):cn p n < 2 ^ n:=Nat.lt_pow_two_of_testBit _ fun i hi=>by
 rw [cm,decide_eq_false (by omega),Bool.false_and]
theorem gS {x y:Nat} (h:∀i,x.testBit i=y.testBit i):x=y:=Nat.eq_of_testBit_eq h
theorem pR {p:Nat→Bool} {n:Nat}:cn p n=0↔∀i,i < n→p i=false:=by
 constructor
 ·intro h i hi
  have:=cm p i n
  rw [h,Nat.zero_testBit,decide_eq_true hi,Bool.true_and] at this
  exact this.symm
 ·intro h
  refine gS fun i=>?_
  rw [cm,Nat.zero_testBit]
  by_cases hi:i < n
  ·rw [h i hi,Bool.and_false]
  ·rw [decide_eq_false hi,Bool.false_and]
section
variable (cls:List Int) (rows:List (List (List Int))) (have_:Nat→Bool)
def fy (c:Nat) (s:List Int):Bool:=s.any fun g=>decide (0≤g) && (decide (g < cls.length) && decide (cls.getD g.toNat (-1)=(c:Int)))
def lW (m c:Nat) (n:Nat):Bool:=match rows[n]? with
 | some r=>match r[m]? with
  | some s=>fy cls c s
  | none=>false
 | none=>false
def jq (m:Nat) (n:Nat):Bool:=match rows[n]? with
 | some r=>decide (r.length=m)
 | none=>false
def jz (m c:Nat):Nat:=cn (lW cls rows m c) rows.length
def xV (m:Nat):Nat:=cn (jq rows m) rows.length
def mi:Nat×Nat:=(0,cn have_ rows.length)
def cg (p:Nat×Nat) (c:Nat):Nat×Nat:=if p.2 &&& jz cls rows p.1 c=0 then (0,0) else (p.1+1,p.2 &&& jz cls rows p.1 c)
def js (p:Nat×Nat):Nat:=if p.2=0 then 0 else p.2 &&& xV rows p.1
structure rP (C:Nat) (tab:List (List Int)) (ends:List Nat):Prop where
 met:∃met:List (Nat×Nat),met[0]?=some (mi rows have_)∧met.length=tab.length∧met.length=ends.length∧
  (∀(i:Nat) p,met[i]?=some p→ends[i]?=some (js rows p))∧
  (∀(i:Nat) p q,met[i]?=some p→tab[i]?=some q→q.length=C∧∀(c:Nat) z,q[c]?=some z→((cg cls rows p c).2=0∧z= -1)∨((cg cls rows p c).2≠0∧0≤z∧met[z.toNat]?=some (cg cls rows p c)))
end
def i7 (cls:List Int) (tab:List (List Int)) (s:Int) (g:Int):Int:=
 if s < 0∨g < 0 then -1 else match tab[s.toNat]?,cls[g.toNat]? with
 | some eQ,some c=>if c < 0 then -1 else match eQ[c.toNat]? with
  | some z=>if 0≤z∧z < tab.length then z else -1
  | none=> -1
 | _,_=> -1
def iZ (ends:List Nat) (s:Int):Nat:=if s < 0 then 0 else ends.getD s.toNat 0
def m4 (cls:List Int) (tab:List (List Int)) (ends:List Nat):Int→List Int→Nat→Nat
 | _,[],told=>told
 | s,g::r,told=>if i7 cls tab s g= -1 then told else m4 cls tab ends (i7 cls tab s g) r (told ||| iZ ends (i7 cls tab s g))
def fY (cls:List Int) (tab:List (List Int)) (ends:List Nat) (gl:List Int):Nat:=m4 cls tab ends 0 gl (iZ ends 0)
structure u4 (n:Nat) (C:Nat) (cls:List Int) (sets:List (List Int)):Prop where
 len:cls.length=n
 dom:∀z∈cls,0≤z∧z < C
 apart:∀s∈sets,∀(i j:Nat) z,cls[i]?=some z→cls[j]?=some z→((i:Int)∈s↔(j:Int)∈s)
theorem vd {cls:List Int} {n C:Nat} {sets:List (List Int)} (h:u4 n C cls sets) {s:List Int} (hs:s∈sets) (hd:∀g∈s,0≤g∧g < n) {g:Int} (h0:0≤g) {c:Nat} (hc:cls[g.toNat]?=some (c:Int)):fy cls c s=s.contains g:=by
 rw [Bool.eq_iff_iff,List.contains_iff_mem]
 unfold fy
 rw [List.any_eq_true]
 constructor
 ·rintro ⟨x,hx,hb⟩
  simp only [Bool.and_eq_true,decide_eq_true_eq] at hb
  obtain ⟨h1,h2,h3⟩:=hb
  have hxc:cls[x.toNat]?=some (c:Int):=by
   rw [Hb (by omega)]
   rw [List.getD_eq_getElem?_getD,Hb (by omega)] at h3
   exact congrArg some h3
  have:=(h.apart s hs x.toNat g.toNat c hxc hc).1 (by rw [Int.toNat_of_nonneg h1];exact hx)
  rwa [Int.toNat_of_nonneg h0] at this
 ·intro hg
  refine ⟨g,hg,?_⟩
  have hl:=h.len
  have:=hd g hg
  simp only [Bool.and_eq_true,decide_eq_true_eq]
  refine ⟨h0,by omega,?_⟩
  rw [List.getD_eq_getElem?_getD,hc]
  rfl
def n9 (rows:List (List (List Int))) (have_:Nat→Bool) (gl:List Int) (n:Nat):Bool:=match rows[n]? with
 | some r=>have_ n && (decide (gl.length≤r.length) && dg (r.take gl.length) gl)
 | none=>false
theorem nY:∀{ss:List (List Int)} {gl:List Int} {s:List Int} {g:Int},ss.length=gl.length→dg (ss++[s]) (gl++[g])=(dg ss gl && s.contains g)
 | [],[],s,g,_=>by simp [dg]
 | [],_::_,_,_,h=>by simp at h
 | _::_,[],_,_,h=>by simp at h
 | s'::ss,g'::gl,s,g,h=>by
  rw [Jt,Jt,dg,nY (by simpa using h),dg,Bool.and_assoc]
theorem ka:∀{a:List (List Int)} {b:List Int},b.length < a.length→dg a b=false
 | [],_,h=>by simp at h
 | _::_,[],_=>rfl
 | _::a,_::b,h=>by rw [dg,ka (by simpa using h),Bool.and_false]
theorem lG:∀{ss:List (List Int)} {gl x:List Int},ss.length≤gl.length→dg ss (gl++x)=dg ss gl
 | [],_,_,_=>rfl
 | _::_,[],_,h=>by simp at h
 | s::ss,g::gl,x,h=>by rw [Jt,dg,dg,lG (by simpa using h)]
section
variable {cls:List Int} {rows:List (List (List Int))} {have_:Nat→Bool} {N C:Nat} {sets:List (List Int)}
theorem CA (h:u4 N C cls sets) (hs:∀r∈rows,∀s∈r,s∈sets∧∀g∈s,0≤g∧g < N) {gl:List Int} {g:Int} {c:Nat} (h0:0≤g) (hc:cls[g.toNat]?=some (c:Int)):
  cn (n9 rows have_ gl) rows.length &&& jz cls rows gl.length c=cn (n9 rows have_ (gl++[g])) rows.length:=by
 refine gS fun n=>?_
 rw [Nat.testBit_and,cm,jz,cm,cm]
 by_cases hn:n < rows.length
 ·simp only [decide_eq_true hn,Bool.true_and]
  unfold n9 lW
  rw [Hb hn]
  dsimp only
  have hm:=List.getElem_mem hn
  generalize rows[n]=r at hm
  rw [List.length_append,List.length_singleton]
  by_cases hl:gl.length < r.length
  ·have hs':=hs r hm r[gl.length] (List.getElem_mem hl)
   rw [Hb hl,decide_eq_true (by omega:gl.length≤r.length),decide_eq_true (by omega:gl.length+1≤r.length),List.take_add_one,Hb hl]
   dsimp only [Option.toList]
   rw [nY (by rw [List.length_take];omega),vd h hs'.1 hs'.2 h0 hc]
   cases have_ n <;> simp
  ·rw [List.getElem?_eq_none (by omega),decide_eq_false (by omega:¬gl.length+1≤r.length)]
   simp
 ·simp [decide_eq_false hn]
def eT (rows:List (List (List Int))) (have_:Nat→Bool) (gl:List Int) (n:Nat):Bool:=match rows[n]? with
 | some r=>have_ n && dg r gl
 | none=>false
theorem p7 {tab:List (List Int)} {ends:List Nat} (h:u4 N C cls sets) (hs:∀r∈rows,∀s∈r,s∈sets∧∀g∈s,0≤g∧g < N) (ht:rP cls rows have_ C tab ends) (hC:∀z∈cls,z.toNat < C):
  ∀(gl:List Int),fY cls tab ends gl=cn (eT rows have_ gl) rows.length:=by
 obtain ⟨met,h0,hl,hle,he,hn⟩:=ht.met
 have hmt:=hl
 have key:∀(r gl:List Int) (s:Nat) (told:Nat) (p:Nat×Nat),met[s]?=some p→p.1=gl.length→p.2=cn (n9 rows have_ gl) rows.length→told=cn (eT rows have_ gl) rows.length→
   (gl=[]∨p.2≠0)→m4 cls tab ends s r told=cn (eT rows have_ (gl++r)) rows.length:=by
  intro r
  induction r with
  | nil=>intro gl s told p _ _ _ ht _;rw [m4,List.append_nil];exact ht
  | cons g r ih=>
   intro gl s told p hp hp1 hp2 htold hne
   have hsl:s < met.length:=(Jq hp).1
   obtain ⟨q,hq⟩:∃q,tab[s]?=some q:=⟨_,Hb (by omega)⟩
   obtain ⟨hqC,hqn⟩:=hn s p q hp hq
   have stop:(∀n,n9 rows have_ (gl++[g]) n=false)→cn (eT rows have_ gl) rows.length=cn (eT rows have_ (gl++g::r)) rows.length:=by
    intro hz
    refine gS fun n=>?_
    rw [cm,cm]
    congr 1
    have hzn:=hz n
    unfold n9 at hzn
    unfold eT
    cases hr:rows[n]? with
    | none=>rfl
    | some eQ=>
     rw [hr] at hzn
     dsimp only at hzn ⊢
     by_cases hh:have_ n=true
     ·rw [hh,Bool.true_and] at hzn ⊢
      rw [Bool.true_and]
      by_cases hrl:eQ.length≤gl.length
      ·rw [lG hrl]
      ·rw [List.length_append,List.length_singleton,decide_eq_true (by omega),Bool.true_and,List.take_add_one,Hb (by omega)] at hzn
       dsimp only [Option.toList] at hzn
       have e1:dg eQ gl=false:=by
        rw [Bool.eq_false_iff]
        intro hf
        rw [ka (by omega)] at hf
        cases hf
       have e2:dg eQ (gl++g::r)=false:=by
        have e3:eQ=(eQ.take gl.length++[eQ[gl.length]])++eQ.drop (gl.length+1):=by
         rw [List.append_assoc,List.singleton_append,List.getElem_cons_drop,List.take_append_drop]
        have e4:∀{a b:List (List Int)} {x:List Int},dg (a++b) x=true→dg a x=true:=by
         intro a
         induction a with
         | nil=>intro b x _;rfl
         | cons y a iha=>
          intro b x hx
          cases x with
          | nil=>cases hx
          | cons w x=>
           rw [Jt,dg,Bool.and_eq_true] at hx
           rw [dg,Bool.and_eq_true]
           exact ⟨hx.1,iha hx.2⟩
        rw [Bool.eq_false_iff]
        intro hf
        rw [e3] at hf
        have:=e4 hf
        rw [show gl++g::r=(gl++[g])++r by simp,lG (by simp;omega)] at this
        rw [this] at hzn
        cases hzn
       rw [e1,e2]
     ·simp [hh]
   rw [m4]
   by_cases hg:0≤g∧g.toNat < cls.length
   ·obtain ⟨hg0,hgl⟩:=hg
    obtain ⟨z,hz⟩:∃z,cls[g.toNat]?=some z:=⟨_,Hb hgl⟩
    have hzm:=Jx hz
    have hzd:=h.dom z hzm
    obtain ⟨c,rfl⟩:=Int.eq_ofNat_of_zero_le hzd.1
    have hcC:c < C:=by omega
    obtain ⟨t,htc⟩:∃t,q[c]?=some t:=⟨_,Hb (by omega)⟩
    have hstep:=CA (have_:=have_) (gl:=gl) h hs hg0 hz
    have hnx:i7 cls tab s g=if 0≤t∧t < tab.length then t else -1:=by
     unfold i7
     rw [if_neg (by omega),Int.toNat_natCast,hq,hz]
     dsimp only
     rw [if_neg (by omega),Int.toNat_natCast,htc]
    have hbe:cg cls rows p c=if cn (n9 rows have_ (gl++[g])) rows.length=0 then (0,0) else (gl.length+1,cn (n9 rows have_ (gl++[g])) rows.length):=by
     unfold cg
     rw [hp1,hp2,hstep]
    rcases hqn c t htc with ⟨h1,h2⟩ | ⟨h1,h2,h3⟩
    ·subst h2
     have hno:¬((0:Int)≤-1∧(-1:Int) < tab.length):=fun e=>absurd e.1 (by decide)
     rw [hnx,if_neg hno,if_pos rfl,htold]
     refine stop fun n=>?_
     rw [hbe] at h1
     have hzero:cn (n9 rows have_ (gl++[g])) rows.length=0:=by
      split at h1
      ·assumption
      ·exact h1
     by_cases hnl:n < rows.length
     ·exact pR.1 hzero n hnl
     ·unfold n9;rw [List.getElem?_eq_none (by omega)]
    ·have htl:t.toNat < tab.length:=by
      have:=(Jq h3).1
      omega
     have htz:¬t= -1:=by omega
     have hin:(0:Int)≤t∧t < tab.length:=⟨h2,by omega⟩
     rw [if_pos hin] at hnx
     rw [hnx,if_neg htz]
     rw [hbe] at h1 h3
     have hnz:¬cn (n9 rows have_ (gl++[g])) rows.length=0:=by
      intro e
      rw [if_pos e] at h1
      exact h1 rfl
     rw [if_neg hnz] at h3
     have:=ih (gl++[g]) t.toNat (told ||| iZ ends t) _ h3 (by simp) rfl ?_ (.inr hnz)
     ·rw [Int.toNat_of_nonneg h2] at this
      rw [this]
      simp
     ·
      have hen:=he _ _ h3
      unfold iZ
      rw [if_neg (by omega),List.getD_eq_getElem?_getD,hen,htold]
      dsimp only [Option.getD]
      unfold js
      rw [if_neg hnz]
      refine gS fun n=>?_
      rw [Nat.testBit_or,Nat.testBit_and,xV,cm,cm,cm,cm]
      by_cases hnl:n < rows.length
      ·simp only [decide_eq_true hnl,Bool.true_and]
       unfold eT n9 jq
       rw [Hb hnl]
       dsimp only
       generalize rows[n]=eQ
       cases have_ n
       ·simp
       ·simp only [Bool.true_and,List.length_append,List.length_singleton]
        by_cases hrl:eQ.length≤gl.length
        ·rw [lG hrl,decide_eq_false (by omega:¬eQ.length=gl.length+1),Bool.and_false,Bool.or_false]
        ·have e1:dg eQ gl=false:=ka (by omega)
         rw [e1,Bool.false_or]
         by_cases hre:eQ.length=gl.length+1
         ·rw [decide_eq_true hre,Bool.and_true,decide_eq_true (by omega),Bool.true_and,List.take_of_length_le (by omega)]
         ·rw [decide_eq_false hre,Bool.and_false]
          exact (ka (by simp;omega)).symm
      ·simp [decide_eq_false hnl]
   ·have hnx:i7 cls tab s g= -1:=by
     unfold i7
     by_cases hg0:g < 0
     ·rw [if_pos (.inr hg0)]
     ·rw [if_neg (by omega),Int.toNat_natCast,hq,List.getElem?_eq_none (by omega)]
    rw [hnx,if_pos rfl,htold]
    refine stop fun n=>?_
    unfold n9
    cases hr:rows[n]? with
    | none=>rfl
    | some eQ=>
     dsimp only
     by_cases hrl:gl.length+1≤eQ.length
     ·have hs':=hs eQ (Jx hr) eQ[gl.length] (List.getElem_mem (by omega))
      have hng:eQ[gl.length].contains g=false:=by
       rw [Bool.eq_false_iff]
       intro hm
       rw [List.contains_iff_mem] at hm
       have:=hs'.2 g hm
       have hl:=h.len
       omega
      rw [List.length_append,List.length_singleton,List.take_add_one,Hb (by omega)]
      dsimp only [Option.toList]
      rw [nY (by rw [List.length_take];omega),hng]
      simp
     ·rw [List.length_append,List.length_singleton,decide_eq_false hrl]
      simp
 intro gl
 have h00:=key gl [] 0 (iZ ends 0) _ h0 rfl ?_ ?_ (.inl rfl)
 ·rw [Js] at h00
  exact h00
 ·refine gS fun n=>?_
  unfold mi
  rw [cm,cm]
  by_cases hnl:n < rows.length
  ·simp only [decide_eq_true hnl,Bool.true_and]
   unfold n9
   rw [Hb hnl]
   simp [dg]
  ·simp [decide_eq_false hnl]
 ·have hen:=he _ _ h0
  unfold iZ
  rw [if_neg (by omega),List.getD_eq_getElem?_getD]
  rw [show (0:Int).toNat=0 from rfl,hen]
  dsimp only [Option.getD]
  refine gS fun n=>?_
  have hb:(js rows (mi rows have_))=cn have_ rows.length &&& xV rows 0:=by
   unfold js mi
   dsimp only
   split
   ·rename_i e
    rw [e,Nat.zero_and]
   ·rfl
  rw [hb,Nat.testBit_and,xV,cm,cm,cm]
  by_cases hnl:n < rows.length
  ·simp only [decide_eq_true hnl,Bool.true_and]
   unfold eT jq
   rw [Hb hnl]
   dsimp only
   generalize rows[n]=eQ
   cases eQ with
   | nil=>simp [dg]
   | cons s eQ=>simp [dg]
  ·simp [decide_eq_false hnl]
end
end Go.Proofs.YtpmdfoaadejmkaaGreatDoor
namespace Go.Proofs.YtpmdfoaadejmkaaGreatDoor
open Go.RowKit
attribute [local irreducible] AT bK AX AO Av Kt bh dw DA cK
theorem nZ:∀{ss:List (List Int)} {gl:List Int} {k:Nat},ss.length≤k→dg ss (gl.take k)=dg ss gl
 | [],_,_,_=>rfl
 | _::_,[],k,_=>by rw [List.take_nil]
 | _::ss,_::gl,0,h=>by simp at h
 | s::ss,g::gl,k+1,h=>by rw [List.take_succ_cons,dg,dg,nZ (by simpa using h)]
theorem qj {α:Type} {q:α→Bool} {l:List α}:l.find? q=(l.findIdx? q).bind fun i=>l[i]?:=by
  cases h:l.findIdx? q with
  | none => rw [List.find?_eq_none.2]; · rfl
            intro x hx
            rw [List.findIdx?_eq_none_iff] at h
            rw [h x hx];decide
  | some i=>
    obtain ⟨hi,h1,h2⟩:=List.findIdx?_eq_some_iff_getElem.1 h
    rw [Option.bind_some,Hb hi,List.find?_eq_some_iff_getElem]
    exact ⟨h1,i,hi,rfl,fun j hj=>by simpa using h2 j hj⟩
theorem wL {α:Type} {q:α→Bool} {l:List α} {b:Nat} (hb:∀n,b.testBit n=(l[n]?).any q):
  (∀i,l.findIdx? q=some i→b.testBit i=true∧∀j,j < i→b.testBit j=false)∧(l.findIdx? q=none→b=0):=by
 constructor
 ·intro i h
  obtain ⟨hi,h1,h2⟩:=List.findIdx?_eq_some_iff_getElem.1 h
  refine ⟨by rw [hb,Hb hi];exact h1,fun j hj=>?_⟩
  rw [hb,Hb (by omega)]
  simpa using h2 j hj
 ·intro h
  refine gS fun n=>?_
  rw [hb,Nat.zero_testBit]
  cases hn:l[n]? with
  | none=>rfl
  | some x=>exact List.findIdx?_eq_none_iff.1 h x (Jx hn)
def dK (r:bc):List (List Int):=if r.In.isEmpty then [] else r.In++r.Ahead
def se (rs:List bc) (n:Nat):Bool:=match rs[n]? with
 | some r=> !r.In.isEmpty
 | none=>false
theorem yW {rs:List bc} {fg bg:List Int} {n:Nat}:(cn (eT (rs.map bc.Back) (fun _=>true) bg) (rs.map bc.Back).length &&& cn (eT (rs.map dK) (se rs) fg) (rs.map dK).length).testBit n=(rs[n]?).any fun r=> !r.In.isEmpty && (dg (r.In++r.Ahead) fg && dg r.Back bg):=by
 rw [Nat.testBit_and,cm,cm]
 simp only [Jv]
 unfold eT se
 simp only [List.getElem?_map]
 cases h:rs[n]? with
 | none=>simp
 | some r=>
  have hn:=(Jq h).1
  simp only [Option.map_some,Option.any_some,decide_eq_true hn,Bool.true_and]
  unfold dK
  cases r.In.isEmpty <;> simp [Bool.and_comm]
def fV (rs:List bc):Nat:=rs.foldl (fun m r=>max m (r.In.length+r.Ahead.length)) 0
def iw (rs:List bc):Nat:=rs.foldl (fun m r=>max m r.Back.length) 0
theorem mU {α:Type} {g:α→Nat}:∀{l:List α} {m:Nat},m≤l.foldl (fun m r=>max m (g r)) m∧∀r∈l,g r≤l.foldl (fun m r=>max m (g r)) m
 | [],m=>⟨Nat.le_refl _,fun r h=>by cases h⟩
 | x::l,m=>by
  have ih:=mU (g:=g) (l:=l) (m:=max m (g x))
  rw [List.foldl_cons]
  refine ⟨by have:=ih.1;omega,fun r hr=>?_⟩
  rcases List.mem_cons.1 hr with rfl | hr
  ·have:=ih.1;omega
  ·exact ih.2 r hr
theorem wu {ms:List Bool} {ig:Bool} {run:List aI} {i:Nat} {rs:List bc} {b:Nat}
  (hb:∀n,b.testBit n=(rs[n]?).any fun r=> !r.In.isEmpty && (dg (r.In++r.Ahead) (((cI ms ig run i).take (fV rs)).map (cx run)) && dg r.Back (((lT ms ig run i).take (iw rs)).map (cx run)))) (n:Nat):b.testBit n=(rs[n]?).any (cZ ms ig run i):=by
 rw [hb]
 cases h:rs[n]? with
 | none=>rfl
 | some r=>
  have hm:=Jx h
  have h1:(r.In++r.Ahead).length≤fV rs:=by rw [List.length_append];exact (mU (g:=fun r:bc=>r.In.length+r.Ahead.length)).2 r hm
  have h2:r.Back.length≤iw rs:=(mU (g:=fun r:bc=>r.Back.length)).2 r hm
  rw [Option.any_some,Option.any_some]
  unfold cZ
  rw [List.map_take,List.map_take,nZ h1,nZ h2]
end Go.Proofs.YtpmdfoaadejmkaaGreatDoor
