/-
  Fonts as data, and as abstract values.
-/
import Derived.Test.YtpmdfoaadejmkaaGreatDoorM04
namespace Go.Proofs.YtpmdfoaadejmkaaGreatDoor
open Go.RowKit
abbrev aF (z:Int):AV:= .sc (.int .i64 z)
abbrev vP (s:ByteArray):AV:= .sc (.string s)
abbrev dV (b:Bool):AV:= .sc (.bool b)
structure eE where
 X:Int
 Y:Int
 On:Bool
structure dL where
 Glyph:Int
 X:Int
 Y:Int
structure dv where
 Kind:Int
 Class:Int
 X:Int
 Y:Int
structure dH where
 Region:Int
 Point:Int
 X:Int
 Y:Int
structure g7 where
 Op:Int
 A:Int
structure bv where
 Name:ByteArray
 Advance:Int
 Mark:Bool
 Points:List eE
 Ends:List Int
 Parts:List dL
 Anchors:List dv
 Deltas:List dH
 Hint:List g7
structure ga where
 Rune:Int
 Glyph:Int
structure gR where
 At:Int
 Lookup:Int
structure bc where
 Back:List (List Int)
 In:List (List Int)
 Ahead:List (List Int)
 Out:List Int
 Calls:List gR
 X:Int
structure aL where
 Kind:Int
 Ignore:Bool
 Rules:List bc
structure c6 where
 Name:ByteArray
 Lookups:List Int
structure ez where
 Name:ByteArray
 Min:Int
 Def:Int
 Max:Int
structure eZ where
 Start:Int
 Peak:Int
 End:Int
structure b6 where
 Unit:Int
 Glyphs:List bv
 Chars:List ga
 Lookups:List aL
 Features:List c6
 Axes:List ez
 Regions:List (List eZ)
 Funcs:List (List g7)
 Cvt:List Int
def b9 (l:List (List Int)):List (List AV):=l.map fun q=>[.imm 1 (aX q)]
def Dc (l:List ByteArray):List (List AV):=l.map fun s=>[vP s]
def dA (p:eE):List AV:=[aF p.X,aF p.Y,dV p.On]
def eD (p:dL):List AV:=[aF p.Glyph,aF p.X,aF p.Y]
def d8 (p:dv):List AV:=[aF p.Kind,aF p.Class,aF p.X,aF p.Y]
def dZ (p:dH):List AV:=[aF p.Region,aF p.Point,aF p.X,aF p.Y]
def eT (p:g7):List AV:=[aF p.Op,aF p.A]
def bO (g:bv):List AV:=[vP g.Name,aF g.Advance,dV g.Mark,.imm 3 (g.Points.map dA),.imm 1 (aX g.Ends),.imm 3 (g.Parts.map eD),.imm 4 (g.Anchors.map d8),.imm 4 (g.Deltas.map dZ),.imm 2 (g.Hint.map eT)]
def eh (c:ga):List AV:=[aF c.Rune,aF c.Glyph]
def eM (c:gR):List AV:=[aF c.At,aF c.Lookup]
def bB (r:bc):List AV:=[.imm 1 (b9 r.Back),.imm 1 (b9 r.In),.imm 1 (b9 r.Ahead),.imm 1 (aX r.Out),.imm 2 (r.Calls.map eM),aF r.X]
def bh (l:aL):List AV:=[aF l.Kind,dV l.Ignore,.imm 6 (l.Rules.map bB)]
def cm (t:c6):List AV:=[vP t.Name,.imm 1 (aX t.Lookups)]
def cL (a:ez):List AV:=[vP a.Name,aF a.Min,aF a.Def,aF a.Max]
def kz (t:eZ):List AV:=[aF t.Start,aF t.Peak,aF t.End]
def bT (r:List eZ):List AV:=[.imm 3 (r.map kz)]
def dD (l:List g7):List AV:=[.imm 2 (l.map eT)]
def cD (f:b6):List AV:=[aF f.Unit,.imm 9 (f.Glyphs.map bO),.imm 2 (f.Chars.map eh),.imm 3 (f.Lookups.map bh),.imm 2 (f.Features.map cm),.imm 4 (f.Axes.map cL),.imm 1 (f.Regions.map bT),.imm 1 (f.Funcs.map dD),.imm 1 (aX f.Cvt)]
abbrev bZ (f:b6):AV:= .agg (cD f)
theorem bG {α:Type} {c:α→List AV} {l:List α} {i:Nat} {a:α} (h:l[i]?=some a):(l.map c)[i]?=some (c a):=by simp [h]
theorem Dd {l:List ByteArray} {i:Nat} {z:ByteArray} (h:l[i]?=some z):(Dc l)[i]?=some [vP z]:=by simp [Dc,h]
theorem cq (l:List (List Int)):(b9 l).length=l.length:=by simp [b9]
theorem gI {l:List (List Int)} {i:Nat} {z:List Int} (h:l[i]?=some z):(b9 l)[i]?=some [.imm 1 (aX z)]:=by simp [b9,h]
section
variable {P:Program} {tt:TT} {r:Option Nat} {Q:Exit→Act→World→Prop} {nt:Nat} {D:List Deferred} {fr:c7} {B:Bs} {L:AL} {l:List Oper} {fin:jO}
variable {k j:Nat} {s:Ak} {sk:mG} {acc:c7} {dd:Option Tmp} {op:Op} {ty t t':TypeId} {pos:String} {af:Array Edge} {g:Option (Nat×Bool)} {x y c:Operand} {u:AV} {want b:Bool}
def cK (P:Program) (l:List Oper) (fr:c7) (fin:jO) (k:Nat) (s:Ak) (o:Oper) (sk:mG) (acc:c7) (L:AL):Prop:=l[k]?=some o→DA P l fr fin ((k,s)::sk) acc L
theorem aD {o:Oper} (h:cK P l fr fin k s o sk acc L) (ho:l[k]?=some o:=by rfl):DA P l fr fin ((k,s)::sk) acc L:=h ho
def iX (o:Oper) (acc:c7):Prop:=match o.guard with
 | none=>True
 | some (j,want)=>pC acc j= .sc (.bool want)
theorem nS {o:Oper} {R:AV→AL→Prop} (hg:iX o acc) (h:∀B,AO P o (cB l.toArray acc fr o.after.toList) B L R):yz P l fr o acc L R:=by
 unfold yz
 unfold iX at hg
 split
 ·exact h
 ·rename_i j want hq
  rw [hq] at hg
  exact .inl ⟨hg,h⟩
theorem f9 {o:Oper} (hg:iX o acc) (h:∀B L,AO P o (cB l.toArray acc fr o.after.toList) B L (fun c L'=>c=u∧L'=L)) (hn:DA P l fr fin sk ((k,u)::acc) L):cK P l fr fin k .v o sk acc L:=by
 intro ho
 obtain ⟨pl,hpl⟩:=hn
 exact ⟨.val k u pl,.v,sk,o,rfl,ho,.inl ⟨rfl,fun L=>nS hg fun B=>h B L⟩,hpl⟩
theorem BE {o:Oper} (hg:iX o acc) (h:∀B,AO P o (cB l.toArray acc fr o.after.toList) B L (fun c L'=>c=u∧L'=L)) (hn:DA P l fr fin sk ((k,u)::acc) L):cK P l fr fin k .l o sk acc L:=by
 intro ho
 obtain ⟨pl,hpl⟩:=hn
 exact ⟨.val k u pl,.l,sk,o,rfl,ho,.inr (.inl ⟨rfl,nS hg fun B=>h B⟩),hpl⟩
theorem jY {o:Oper} {R:AV→AL→Prop} (hg:iX o acc) (h:∀B,AO P o (cB l.toArray acc fr o.after.toList) B L R) (hn:∀c L',R c L'→DA P l fr fin sk ((k,c)::acc) L'):cK P l fr fin k .e o sk acc L:=by
 intro ho
 have hn':∀c L',∃pl,R c L'→dx P l fr fin pl sk ((k,c)::acc) L':=fun c L'=>by
  by_cases hr:R c L'
  ·obtain ⟨pl,hpl⟩:=hn c L' hr
   exact ⟨pl,fun _=>hpl⟩
  ·exact ⟨.fin,fun h=>absurd h hr⟩
 exact ⟨.eff k R fun c L'=>Classical.choose (hn' c L'),.e,sk,o,.inl rfl,rfl,ho,nS hg h,fun c L' hr=>Classical.choose_spec (hn' c L') hr⟩
theorem Gx {o:Oper} (hK:eN fin.gs L) (hg:iX o acc) (h:∀B L,eN fin.gs L→AO P o (cB l.toArray acc fr o.after.toList) B L (fun c L'=>c=u∧L'=L)) (hn:DA P l fr fin sk ((k,u)::acc) L):cK P l fr fin k .k o sk acc L:=by
 intro ho
 obtain ⟨pl,hpl⟩:=hn
 exact ⟨.val k u pl,.k,sk,o,rfl,ho,.inr (.inr ⟨rfl,hK,fun L hL=>nS hg fun B=>h B L hL⟩),hpl⟩
theorem t9 {o:Oper} {R:AV→AL→Prop} (hX:∀c L',R c L'→eN fin.gs L→eN fin.gs L') (hg:iX o acc) (h:∀B,AO P o (cB l.toArray acc fr o.after.toList) B L R) (hn:∀c L',R c L'→DA P l fr fin sk ((k,c)::acc) L'):cK P l fr fin k .f o sk acc L:=by
 intro ho
 have hn':∀c L',∃pl,R c L'→dx P l fr fin pl sk ((k,c)::acc) L':=fun c L'=>by
  by_cases hr:R c L'
  ·obtain ⟨pl,hpl⟩:=hn c L' hr
   exact ⟨pl,fun _=>hpl⟩
  ·exact ⟨.fin,fun h=>absurd h hr⟩
 exact ⟨.eff k R fun c L'=>Classical.choose (hn' c L'),.f,sk,o,.inr (.inr ⟨rfl,hX⟩),rfl,ho,nS hg h,fun c L' hr=>Classical.choose_spec (hn' c L') hr⟩
theorem Gw {o:Oper} {R:AV→AL→Prop} (hX:∀c L',R c L'→∃X,L'=X++L) (hg:iX o acc) (h:∀B,AO P o (cB l.toArray acc fr o.after.toList) B L R) (hn:∀c L',R c L'→DA P l fr fin sk ((k,c)::acc) L'):cK P l fr fin k .a o sk acc L:=by
 intro ho
 have hn':∀c L',∃pl,R c L'→dx P l fr fin pl sk ((k,c)::acc) L':=fun c L'=>by
  by_cases hr:R c L'
  ·obtain ⟨pl,hpl⟩:=hn c L' hr
   exact ⟨pl,fun _=>hpl⟩
  ·exact ⟨.fin,fun h=>absurd h hr⟩
 exact ⟨.eff k R fun c L'=>Classical.choose (hn' c L'),.a,sk,o,.inr (.inl ⟨rfl,hX⟩),rfl,ho,nS hg h,fun c L' hr=>Classical.choose_spec (hn' c L') hr⟩
theorem oM {op:Op} (hj:pC acc j= .sc (.bool b)) (hb:(b==want)=false) (hn:DA P l fr fin sk ((k,.sc undef)::acc) L):cK P l fr fin k .v ⟨dd,op,ty,pos,af,some (j,want)⟩ sk acc L:=by
 intro ho
 obtain ⟨pl,hpl⟩:=hn
 exact ⟨.val k (.sc undef) pl,.v,sk,_,rfl,ho,.inl ⟨rfl,fun L=> .inr ⟨⟨_,hj,fun e=>by injection e with e;subst e;simp at hb⟩,rfl,rfl⟩⟩,hpl⟩
theorem HA {op:Op} (hj:pC acc j= .sc undef) (hn:DA P l fr fin sk ((k,.sc undef)::acc) L):cK P l fr fin k .v ⟨dd,op,ty,pos,af,some (j,want)⟩ sk acc L:=by
 intro ho
 obtain ⟨pl,hpl⟩:=hn
 exact ⟨.val k (.sc undef) pl,.v,sk,_,rfl,ho,.inl ⟨rfl,fun L=> .inr ⟨⟨_,hj,fun e=>by simp [undef] at e⟩,rfl,rfl⟩⟩,hpl⟩
theorem zK {o:Oper} {fr:c7} (h:Av P o fr u):∀B L,AO P o fr B L (fun c L'=>c=u∧L'=L):=fun _ _=>h.ao
theorem b7 (ok:er P tt) (h:DA P l fr fin sk ((k,u)::acc) L) (hu:rm tt (cB l.toArray acc fr af.toList) op=some u:=by rfl) (hg:iX ⟨dd,op,ty,pos,af,g⟩ acc:=by first | trivial | rfl):cK P l fr fin k .v ⟨dd,op,ty,pos,af,g⟩ sk acc L:=f9 hg (zK (mB ok hu)) h
theorem ea {bop:BinOp} (h:cK P l fr fin k .v ⟨dd,.binOp bop t x y t',ty,pos,af,g⟩ sk acc L):cK P l fr fin k .v ⟨dd,.binOp bop t x y t',ty,pos,af,g⟩ sk acc L:=h
theorem fz {bop:BinOp} (h:DA P l fr fin sk ((k,u)::acc) L) (ho:Av P ⟨dd,.binOp bop t x y t',ty,pos,af,g⟩ (cB l.toArray acc fr af.toList) u:=by first | exact xw rfl rfl (by omega) | exact xF rfl rfl (by omega) | exact xC rfl rfl (by omega)) (hg:iX ⟨dd,.binOp bop t x y t',ty,pos,af,g⟩ acc:=by first | trivial | rfl):cK P l fr fin k .v ⟨dd,.binOp bop t x y t',ty,pos,af,g⟩ sk acc L:=f9 hg (zK ho) h
theorem bV (h:cK P l fr fin k .v ⟨dd,.indexAddr t x y,ty,pos,af,g⟩ sk acc L):cK P l fr fin k .v ⟨dd,.indexAddr t x y,ty,pos,af,g⟩ sk acc L:=h
theorem cn (ok:er P tt) {e sz by_ s:Nat} {ll:List (List AV)} {ik:IntKind} {i:Int} {es:List AV} (h:DA P l fr fin sk ((k,.iptr es)::acc) L) (ht:jK tt t=some (e,sz,by_):=by rfl) (hx:bn (cB l.toArray acc fr af.toList) x=some u:=by rfl) (hu:ip u=some (s,ll):=by rfl) (hs:Nat.beq s sz=true:=by rfl) (hy:bn (cB l.toArray acc fr af.toList) y=some (.sc (.int ik i)):=by rfl) (h0:0≤i:=by omega) (hl:ll[i.toNat]?=some es:=by first | assumption | (simp only [Int.toNat_natCast];assumption)) (hg:iX ⟨dd,.indexAddr t x y,ty,pos,af,g⟩ acc:=by first | trivial | rfl):cK P l fr fin k .v ⟨dd,.indexAddr t x y,ty,pos,af,g⟩ sk acc L:=f9 hg (zK (xA (br ok ht).1 hx (cR hu) hs hy h0 hl)) h
theorem cQ {f:FuncId} {args:Array Operand} {ts:Array TypeId} (h:cK P l fr fin k .v ⟨dd,.call ⟨.value (.func f),args,ts⟩,ty,pos,af,g⟩ sk acc L):cK P l fr fin k .v ⟨dd,.call ⟨.value (.func f),args,ts⟩,ty,pos,af,g⟩ sk acc L:=h
theorem dg {f:FuncId} {args:Array Operand} {ts:Array TypeId} {cs ds:List AV} [bL P f] (h:DA P l fr fin sk ((k,u)::acc) L) (hv:eA (cB l.toArray acc fr af.toList) args.toList=some cs:=by rfl) (hi:lS cs=some ds:=by rfl) (hc:AD P f ds u:=by infer_instance) (hg:iX ⟨dd,.call ⟨.value (.func f),args,ts⟩,ty,pos,af,g⟩ acc:=by first | trivial | rfl):cK P l fr fin k .v ⟨dd,.call ⟨.value (.func f),args,ts⟩,ty,pos,af,g⟩ sk acc L:=f9 hg (fun _ _=>B5 hv (by rw [j7 hi];exact hc.det)) h
theorem ca (ok:er P tt) (i:Nat) {b kk:Nat} {cs:List AV} {e:TypeId} (ht:I5 tt t=true) (hx:bn (cB l.toArray acc fr af.toList) x=some (.sc (.pointer (some ⟨b,kk,none⟩)))) (hL:L[i]?=some (b,.box cs e)) (hc:cs[kk]?=some u) (hg:iX ⟨dd,.load t x,ty,pos,af,g⟩ acc) (h:DA P l fr fin sk ((k,u)::acc) L):cK P l fr fin k .l ⟨dd,.load t x,ty,pos,af,g⟩ sk acc L:=BE hg (fun _=>t3 i (cZ ok ht) hx hL hc) h
theorem py (ok:er P tt) (i:Nat) {b kk n:Nat} {cs:List AV} {e:TypeId} (ht:H7 tt t=some n) (hx:bn (cB l.toArray acc fr af.toList) x=some (.sc (.pointer (some ⟨b,kk,none⟩)))) (hL:L[i]?=some (b,.box cs e)) (hc:Nat.ble (kk+n) cs.length=true) (hg:iX ⟨dd,.load t x,ty,pos,af,g⟩ acc) (h:DA P l fr fin sk ((k,.agg ((cs.drop kk).take n))::acc) L):cK P l fr fin k .l ⟨dd,.load t x,ty,pos,af,g⟩ sk acc L:=BE hg (fun _=>uj i (eK ok ht) hx hL hc) h
theorem zw {gs:KpL} {i b kk:Nat} {v:AV} (hi:gs[i]?=some (.cell (b,kk,v))) {L:AL} (h:eN gs L):∃(j:Nat) (cs:List AV) (e:TypeId),L[j]?=some (b,.box cs e)∧cs[kk]?=some v:=by
 obtain ⟨cs,e,h1,h2⟩:=h _ (Jw hi)
 obtain ⟨j,hj⟩:=List.mem_iff_getElem?.1 h1
 exact ⟨j,cs,e,hj,h2⟩
theorem dI (ok:er P tt) (i:Nat) {b kk:Nat} (ht:I5 tt t=true) (hx:bn (cB l.toArray acc fr af.toList) x=some (.sc (.pointer (some ⟨b,kk,none⟩)))) (hi:fin.gs[i]?=some (.cell (b,kk,u))) (hK:eN fin.gs L) (hg:iX ⟨dd,.load t x,ty,pos,af,g⟩ acc) (h:DA P l fr fin sk ((k,u)::acc) L):cK P l fr fin k .k ⟨dd,.load t x,ty,pos,af,g⟩ sk acc L:=
 Gx hK hg (fun _ L' hL'=>by
  obtain ⟨j,cs,e,h1,h2⟩:=zw hi hL'
  exact t3 j (cZ ok ht) hx h1 h2) h
theorem xG {d:Option Tmp} {e sz by_ n:Nat} {parts:Array (Nat×Operand)} {vs:List AV} {xs:List (List AV)} (hc:kH P t e sz by_) (hsz:0 < sz) (hv:eA fr (parts.toList.map (·.2))=some vs) (hxs:jU vs=some xs) (hn:Nat.beq xs.length n=true) (hi:parts.toList.map (·.1)=List.range' 0 n) (hz:xs.all (fun q=>Nat.beq q.length sz)=true) (h24:Nat.ble (n * sz) 16777216=true):
  AO P ⟨d,.buildSlice t n parts,ty,pos,af,g⟩ fr B L (fun c L'=>c= .imm sz xs∧L'=L):=by
 intro σ ρ w hρ hw
 refine (B7 hc hsz hv hxs hn hi hz h24 σ ρ w hρ hw).mono fun v w' hh=>?_
 obtain ⟨τ,c,L',h1,h2,h3,b,rfl,rfl⟩:=hh
 exact ⟨τ,_,L,h1,h2.im,h3.sublist (.cons _ (List.Sublist.refl _)),rfl,rfl⟩
theorem ej (ok:er P tt) {e sz by_ n:Nat} {parts:Array (Nat×Operand)} {vs:List AV} {xs:List (List AV)} (h:DA P l fr fin sk ((k,.imm sz xs)::acc) L) (ht:jK tt t=some (e,sz,by_):=by rfl) (hv:eA (cB l.toArray acc fr af.toList) (parts.toList.map (·.2))=some vs:=by rfl) (hxs:jU vs=some xs:=by rfl) (hn:Nat.beq xs.length n=true:=by rfl) (hi:parts.toList.map (·.1)=List.range' 0 n:=by rfl) (hz:xs.all (fun q=>Nat.beq q.length sz)=true:=by rfl) (h24:Nat.ble (n * sz) 16777216=true:=by rfl) (hg:iX ⟨dd,.buildSlice t n parts,ty,pos,af,g⟩ acc:=by first | trivial | rfl):
  cK P l fr fin k .v ⟨dd,.buildSlice t n parts,ty,pos,af,g⟩ sk acc L:=f9 hg (fun _ _=>xG (br ok ht).1 (br ok ht).2 hv hxs hn hi hz h24) h
theorem bM (ok:er P tt) {r:Option Nat} {ops:Array Oper} {Q:Exit→Act→World→Prop} {nt:Nat} {D:List Deferred} {rest:List Oper} {d e sz by_ n:Nat} {parts:Array (Nat×Operand)} {vs:List AV} {xs:List (List AV)} (h:bI P r ops Q nt D rest ((d,.imm sz xs)::fr) B L) (ht:jK tt t=some (e,sz,by_):=by rfl) (hv:eA fr (parts.toList.map (·.2))=some vs:=by rfl) (hxs:jU vs=some xs:=by rfl) (hn:Nat.beq xs.length n=true:=by rfl) (hi:parts.toList.map (·.1)=List.range' 0 n:=by rfl) (hz:xs.all (fun q=>Nat.beq q.length sz)=true:=by rfl) (h24:Nat.ble (n * sz) 16777216=true:=by rfl) (hd:Nat.ble nt d=false:=by rfl):
  bI P r ops Q nt D (⟨some d,.buildSlice t n parts,ty,pos,af,none⟩::rest) fr B L:=by
 obtain ⟨h1,h2⟩:=br ok ht
 refine cP hd rfl (xG h1 h2 hv hxs hn hi hz h24) fun c L' hh=>?_
 obtain ⟨h1,h2⟩:=hh
 subst h1;subst h2
 exact h
theorem bq {gs:KpL} {n0:Nat} {fr0:c7} {rest:List Oper} (ks:List Nat) (hk:gy (iH l.toArray acc fr n0) ks=some fr0) (hr:l.drop n0=rest) (h:bI P r l.toArray Q nt D rest fr0 B L):DA P l fr ⟨BM P r l n0 Q nt D fr B none,gs⟩ [] acc L:=
 ⟨.fin,rfl,by rw [←hr] at h;exact uq (dO ks hk) (fun _ _ h=>h) h⟩
theorem JQ {gs:KpL} {n0:Nat} {fr0:c7} {rest:List Oper} (ks:List Nat) (zz:gy (iH l.toArray acc fr n0) ks=some fr0∧l.drop n0=rest) (h:bI P r l.toArray Q nt D rest fr0 B L):DA P l fr ⟨BM P r l n0 Q nt D fr B none,gs⟩ [] acc L:=bq ks zz.1 zz.2 h
theorem xO {gs:KpL} {n0 kk:Nat} {ab:AB} {rest:List Oper} (ks:List Nat) (fr0:Nat→c7) (hk:∀b,gy (iH l.toArray ((kk,.sc (.pointer (some ⟨b,0,none⟩)))::acc) fr n0) ks=some (fr0 b)) (hr:l.drop n0=rest) (h:∀b,bI P r l.toArray Q nt D rest (fr0 b) B (L++[(b,ab)])):DA P l fr ⟨BM P r l n0 Q nt D fr B (some (kk,ab)),gs⟩ [] acc L:=
 ⟨.fin,rfl,fun b=>by have:=h b;rw [←hr] at this;exact uq (dO ks (hk b)) (fun _ _ h=>h) this⟩
end
end Go.Proofs.YtpmdfoaadejmkaaGreatDoor
namespace Go.Proofs.YtpmdfoaadejmkaaGreatDoor
open Go.RowKit
attribute [local irreducible] AT bI AX AO Av Kt bi dx DA cK
structure aJ where
 Glyph:Int
 Cluster:Int
 Form:Int
 Advance:Int
 X:Int
 Y:Int
def aY (x:aJ):List AV:=[aF x.Glyph,aF x.Cluster,aF x.Form,aF x.Advance,aF x.X,aF x.Y]
def oY (ms:List Bool) (g:Int):Bool:=decide (0≤g) && ms.getD g.toNat false
def jJ (ms:List Bool) (ig:Bool) (x:aJ):Bool:= !(ig && oY ms x.Glyph)
def eX (ms:List Bool) (ig:Bool) (run:List aJ) (i:Nat):Bool:=match run[i]? with
 | some x=>jJ ms ig x
 | none=>false
def cH (ms:List Bool) (ig:Bool) (run:List aJ) (i:Nat):List Nat:=(List.range' i (run.length - i)).filter (eX ms ig run)
def lW (ms:List Bool) (ig:Bool) (run:List aJ):Nat→List Nat
 | 0=>[]
 | i+1=>if eX ms ig run i=true then i::lW ms ig run i else lW ms ig run i
def cx (run:List aJ) (i:Nat):Int:=match run[i]? with
 | some x=>x.Glyph
 | none=> -1
def dh:List (List Int)→List Int→Bool
 | [],_=>true
 | _::_,[]=>false
 | s::ss,g::gs=>s.contains g && dh ss gs
def cY (ms:List Bool) (ig:Bool) (run:List aJ) (i:Nat) (r:bc):Bool:=
 !r.In.isEmpty && (dh (r.In++r.Ahead) ((cH ms ig run i).map (cx run)) && dh r.Back ((lW ms ig run i).map (cx run)))
def gg (ms:List Bool) (ig:Bool) (run:List aJ) (i:Nat) (forms:List Int):Bool:=match run[i]? with
 | some x=>jJ ms ig x && (forms.isEmpty || forms.contains x.Form)
 | none=>false
def dQ (ms:List Bool) (l:aL) (run:List aJ) (i:Nat) (forms:List Int):Option bc:=if gg ms l.Ignore run i forms=true then l.Rules.find? (cY ms l.Ignore run i) else none
def cW (ms:List Bool) (l:aL) (run:List aJ) (i:Nat) (r:bc):List Nat:=(cH ms l.Ignore run i).take r.In.length
def du (r:bc) (i:Nat) (run:List aJ):List aJ:=match run[i]? with
 | none=>run
 | some x=>match r.Out[(r.In.headD []).idxOf x.Glyph]? with
  | none=>run
  | some g=>if (r.In.headD []).idxOf x.Glyph < (r.In.headD []).length then run.set i { x with Glyph:=g } else run
def eH (r:bc) (i:Nat) (run:List aJ):List aJ:=match run[i]? with
 | none=>run
 | some x=>if run.length - 1+r.Out.length > 500∧1 < r.Out.length then run else run.take i++(r.Out.map fun g=>{ x with Glyph:=g })++run.drop (i+1)
def f0:List Nat→List aJ→List aJ
 | [],run=>run
 | p::ps,run=>(f0 ps run).eraseIdx p
def ld (run:List aJ) (c:Int) (p:Nat):Int:=match run[p]? with
 | some x=>min c x.Cluster
 | none=>c
def dP (run:List aJ) (ps:List Nat) (c:Int):Int:=ps.foldl (ld run) c
def gz (r:bc) (ps:List Nat) (run:List aJ):List aJ:=match ps,r.Out with
 | p::q,g::_=>match run[p]? with
  | some x=>f0 q (run.set p { x with Glyph:=g,Cluster:=dP run (p::q) x.Cluster })
  | none=>run
 | _,_=>run
def kE (r:bc) (i:Nat) (run:List aJ):List aJ:=match run[i]? with
 | some x=>run.set i { x with Advance:=IntKind.i64.wrap (x.Advance+r.X) }
 | none=>run
def kJ (ms:List Bool) (ig:Bool) (run:List aJ) (i:Nat) (n:Int):Option Nat:=if 0≤n then (cH ms ig run i)[n.toNat]? else none
def dX (l:aL) (r:bc) (ps:List Nat) (run:List aJ):List aJ:=
 if l.Kind=1∨l.Kind=5 then du r (ps.headD 0) run
 else if l.Kind=2 then eH r (ps.headD 0) run
 else if l.Kind=3 then gz r ps run
 else if l.Kind=6 then kE r (ps.headD 0) run
 else run
abbrev Ic:=aL→bc→List Nat→List aJ→List aJ
def i7 (ms:List Bool) (ls:List aL) (d:Ic) (n:Int) (i:Nat) (run:List aJ):List aJ:=
 if n < 0 then run else match ls[n.toNat]? with
 | none=>run
 | some l=>if l.Kind < 1∨4 < l.Kind then run else match dQ ms l run i [] with
  | none=>run
  | some r=>d l r (cW ms l run i r) run
def fJ (ms:List Bool) (ls:List aL) (d:Ic) (ig:Bool) (i:Nat) (run:List aJ) (c:gR):List aJ:=match kJ ms ig run i c.At with
 | none=>run
 | some p=>i7 ms ls d c.Lookup p run
def fS (ms:List Bool) (ls:List aL):Nat→Ic
 | 0=>fun l r ps run=>dX l r ps run
 | k+1=>fun l r ps run=>if l.Kind=4 then r.Calls.foldl (fJ ms ls (fS ms ls k) l.Ignore (ps.headD 0)) run else dX l r ps run
def jB (l:aL) (i last:Nat) (run run':List aJ):Nat:=
 if l.Kind=4 then max (run'.length - (run.length - 1 - last)) (i+1)
 else if l.Kind=6∧i < last then last
 else run'.length - (run.length - 1 - last)
def rI (ms:List Bool) (ls:List aL) (l:aL) (forms:List Int):Nat→Nat→List aJ→List aJ
 | 0,_,run=>run
 | k+1,i,run=>if i < run.length then match dQ ms l run i forms with
   | none=>rI ms ls l forms k (i+1) run
   | some r=>rI ms ls l forms k (jB l i ((cW ms l run i r).getLastD i) run (fS ms ls 4 l r (cW ms l run i r) run)) (fS ms ls 4 l r (cW ms l run i r) run)
  else run
def gU (ms:List Bool) (ls:List aL) (l:aL) (forms:List Int):Nat→List aJ→List aJ
 | 0,run=>run
 | i+1,run=>gU ms ls l forms i (match dQ ms l run i forms with
  | none=>run
  | some r=>fS ms ls 4 l r (cW ms l run i r) run)
def d7 (ms:List Bool) (ls:List aL) (n:Int) (run:List aJ) (forms:List Int):List aJ:=
 if n < 0 then run else match ls[n.toNat]? with
 | none=>run
 | some l=>if l.Kind < 1∨6 < l.Kind then run else if l.Kind=5 then gU ms ls l forms run.length run else rI ms ls l forms run.length 0 run
def ck (p:Nat→Bool):Nat→Nat
 | 0=>0
 | n+1=>ck p n ||| (if p n=true then 2 ^ n else 0)
theorem cj (p:Nat→Bool) (i:Nat):∀n,(ck p n).testBit i=(decide (i < n) && p i)
 | 0=>by simp [ck]
 | n+1=>by
  rw [ck,Nat.testBit_or,cj p i n]
  by_cases hi:i=n
  ·subst hi
   cases hp:p i <;> simp [Nat.testBit_two_pow_self]
  ·have h1:decide (i < n+1)=decide (i < n):=decide_eq_decide.2 (by omega)
   have h2:(if p n=true then 2 ^ n else 0).testBit i=false:=by
    split
    ·rw [Nat.testBit_two_pow_of_ne (by omega)]
    ·simp
   rw [h1,h2,Bool.or_false]
theorem mP (p:Nat→Bool) (n:Nat):ck p n < 2 ^ n:=Nat.lt_pow_two_of_testBit _ fun i hi=>by
 rw [cj,decide_eq_false (by omega),Bool.false_and]
theorem gT {x y:Nat} (h:∀i,x.testBit i=y.testBit i):x=y:=Nat.eq_of_testBit_eq h
theorem pU {p:Nat→Bool} {n:Nat}:ck p n=0↔∀i,i < n→p i=false:=by
 constructor
 ·intro h i hi
  have:=cj p i n
  rw [h,Nat.zero_testBit,decide_eq_true hi,Bool.true_and] at this
  exact this.symm
 ·intro h
  refine gT fun i=>?_
  rw [cj,Nat.zero_testBit]
  by_cases hi:i < n
  ·rw [h i hi,Bool.and_false]
  ·rw [decide_eq_false hi,Bool.false_and]
section
variable (cls:List Int) (rows:List (List (List Int))) (have_:Nat→Bool)
def fx (c:Nat) (s:List Int):Bool:=s.any fun g=>decide (0≤g) && (decide (g < cls.length) && decide (cls.getD g.toNat (-1)=(c:Int)))
def lZ (m c:Nat) (n:Nat):Bool:=match rows[n]? with
 | some r=>match r[m]? with
  | some s=>fx cls c s
  | none=>false
 | none=>false
def js (m:Nat) (n:Nat):Bool:=match rows[n]? with
 | some r=>decide (r.length=m)
 | none=>false
def jA (m c:Nat):Nat:=ck (lZ cls rows m c) rows.length
def xR (m:Nat):Nat:=ck (js rows m) rows.length
def mn:Nat×Nat:=(0,ck have_ rows.length)
def cf (p:Nat×Nat) (c:Nat):Nat×Nat:=if p.2 &&& jA cls rows p.1 c=0 then (0,0) else (p.1+1,p.2 &&& jA cls rows p.1 c)
def jt (p:Nat×Nat):Nat:=if p.2=0 then 0 else p.2 &&& xR rows p.1
structure rR (C:Nat) (tab:List (List Int)) (ends:List Nat):Prop where
 met:∃met:List (Nat×Nat),met[0]?=some (mn rows have_)∧met.length=tab.length∧met.length=ends.length∧
  (∀(i:Nat) p,met[i]?=some p→ends[i]?=some (jt rows p))∧
  (∀(i:Nat) p q,met[i]?=some p→tab[i]?=some q→q.length=C∧∀(c:Nat) z,q[c]?=some z→((cf cls rows p c).2=0∧z= -1)∨((cf cls rows p c).2≠0∧0≤z∧met[z.toNat]?=some (cf cls rows p c)))
end
def ia (cls:List Int) (tab:List (List Int)) (s:Int) (g:Int):Int:=
 if s < 0∨g < 0 then -1 else match tab[s.toNat]?,cls[g.toNat]? with
 | some eQ,some c=>if c < 0 then -1 else match eQ[c.toNat]? with
  | some z=>if 0≤z∧z < tab.length then z else -1
  | none=> -1
 | _,_=> -1
def j5 (ends:List Nat) (s:Int):Nat:=if s < 0 then 0 else ends.getD s.toNat 0
def m7 (cls:List Int) (tab:List (List Int)) (ends:List Nat):Int→List Int→Nat→Nat
 | _,[],told=>told
 | s,g::r,told=>if ia cls tab s g= -1 then told else m7 cls tab ends (ia cls tab s g) r (told ||| j5 ends (ia cls tab s g))
def fX (cls:List Int) (tab:List (List Int)) (ends:List Nat) (gl:List Int):Nat:=m7 cls tab ends 0 gl (j5 ends 0)
structure u5 (n:Nat) (C:Nat) (cls:List Int) (sets:List (List Int)):Prop where
 len:cls.length=n
 dom:∀z∈cls,0≤z∧z < C
 apart:∀s∈sets,∀(i j:Nat) z,cls[i]?=some z→cls[j]?=some z→((i:Int)∈s↔(j:Int)∈s)
theorem vf {cls:List Int} {n C:Nat} {sets:List (List Int)} (h:u5 n C cls sets) {s:List Int} (hs:s∈sets) (hd:∀g∈s,0≤g∧g < n) {g:Int} (h0:0≤g) {c:Nat} (hc:cls[g.toNat]?=some (c:Int)):fx cls c s=s.contains g:=by
 rw [Bool.eq_iff_iff,List.contains_iff_mem]
 unfold fx
 rw [List.any_eq_true]
 constructor
 ·rintro ⟨x,hx,hb⟩
  simp only [Bool.and_eq_true,decide_eq_true_eq] at hb
  obtain ⟨h1,h2,h3⟩:=hb
  have hxc:cls[x.toNat]?=some (c:Int):=by
   rw [Jz (by omega)]
   rw [List.getD_eq_getElem?_getD,Jz (by omega)] at h3
   exact congrArg some h3
  have:=(h.apart s hs x.toNat g.toNat c hxc hc).1 (by rw [Int.toNat_of_nonneg h1];exact hx)
  rwa [Int.toNat_of_nonneg h0] at this
 ·intro hg
  refine ⟨g,hg,?_⟩
  have hl:=h.len
  have:=hd g hg
  simp only [Bool.and_eq_true,decide_eq_true_eq]
  refine ⟨h0,by omega,?_⟩
  rw [List.getD_eq_getElem?_getD,hc]
  rfl
def nc (rows:List (List (List Int))) (have_:Nat→Bool) (gl:List Int) (n:Nat):Bool:=match rows[n]? with
 | some r=>have_ n && (decide (gl.length≤r.length) && dh (r.take gl.length) gl)
 | none=>false
theorem o4:∀{ss:List (List Int)} {gl:List Int} {s:List Int} {g:Int},ss.length=gl.length→dh (ss++[s]) (gl++[g])=(dh ss gl && s.contains g)
 | [],[],s,g,_=>by simp [dh]
 | [],_::_,_,_,h=>by simp at h
 | _::_,[],_,_,h=>by simp at h
 | s'::ss,g'::gl,s,g,h=>by
  rw [Js,Js,dh,o4 (by simpa using h),dh,Bool.and_assoc]
theorem ka:∀{a:List (List Int)} {b:List Int},b.length < a.length→dh a b=false
 | [],_,h=>by simp at h
 | _::_,[],_=>rfl
 | _::a,_::b,h=>by rw [dh,ka (by simpa using h),Bool.and_false]
theorem lI:∀{ss:List (List Int)} {gl x:List Int},ss.length≤gl.length→dh ss (gl++x)=dh ss gl
 | [],_,_,_=>rfl
 | _::_,[],_,h=>by simp at h
 | s::ss,g::gl,x,h=>by rw [Js,dh,dh,lI (by simpa using h)]
section
variable {cls:List Int} {rows:List (List (List Int))} {have_:Nat→Bool} {N C:Nat} {sets:List (List Int)}
theorem Cv (h:u5 N C cls sets) (hs:∀r∈rows,∀s∈r,s∈sets∧∀g∈s,0≤g∧g < N) {gl:List Int} {g:Int} {c:Nat} (h0:0≤g) (hc:cls[g.toNat]?=some (c:Int)):
  ck (nc rows have_ gl) rows.length &&& jA cls rows gl.length c=ck (nc rows have_ (gl++[g])) rows.length:=by
 refine gT fun n=>?_
 rw [Nat.testBit_and,cj,jA,cj,cj]
 by_cases hn:n < rows.length
 ·simp only [decide_eq_true hn,Bool.true_and]
  unfold nc lZ
  rw [Jz hn]
  dsimp only
  have hm:=List.getElem_mem hn
  generalize rows[n]=r at hm
  rw [List.length_append,List.length_singleton]
  by_cases hl:gl.length < r.length
  ·have hs':=hs r hm r[gl.length] (List.getElem_mem hl)
   rw [Jz hl,decide_eq_true (by omega:gl.length≤r.length),decide_eq_true (by omega:gl.length+1≤r.length),List.take_add_one,Jz hl]
   dsimp only [Option.toList]
   rw [o4 (by rw [List.length_take];omega),vf h hs'.1 hs'.2 h0 hc]
   cases have_ n <;> simp
  ·rw [List.getElem?_eq_none (by omega),decide_eq_false (by omega:¬gl.length+1≤r.length)]
   simp
 ·simp [decide_eq_false hn]
def eS (rows:List (List (List Int))) (have_:Nat→Bool) (gl:List Int) (n:Nat):Bool:=match rows[n]? with
 | some r=>have_ n && dh r gl
 | none=>false
theorem pa {tab:List (List Int)} {ends:List Nat} (h:u5 N C cls sets) (hs:∀r∈rows,∀s∈r,s∈sets∧∀g∈s,0≤g∧g < N) (ht:rR cls rows have_ C tab ends) (hC:∀z∈cls,z.toNat < C):
  ∀(gl:List Int),fX cls tab ends gl=ck (eS rows have_ gl) rows.length:=by
 obtain ⟨met,h0,hl,hle,he,hn⟩:=ht.met
 have hmt:=hl
 have key:∀(r gl:List Int) (s:Nat) (told:Nat) (p:Nat×Nat),met[s]?=some p→p.1=gl.length→p.2=ck (nc rows have_ gl) rows.length→told=ck (eS rows have_ gl) rows.length→
   (gl=[]∨p.2≠0)→m7 cls tab ends s r told=ck (eS rows have_ (gl++r)) rows.length:=by
  intro r
  induction r with
  | nil=>intro gl s told p _ _ _ ht _;rw [m7,List.append_nil];exact ht
  | cons g r ih=>
   intro gl s told p hp hp1 hp2 htold hne
   have hsl:s < met.length:=(Jp hp).1
   obtain ⟨q,hq⟩:∃q,tab[s]?=some q:=⟨_,Jz (by omega)⟩
   obtain ⟨hqC,hqn⟩:=hn s p q hp hq
   have stop:(∀n,nc rows have_ (gl++[g]) n=false)→ck (eS rows have_ gl) rows.length=ck (eS rows have_ (gl++g::r)) rows.length:=by
    intro hz
    refine gT fun n=>?_
    rw [cj,cj]
    congr 1
    have hzn:=hz n
    unfold nc at hzn
    unfold eS
    cases hr:rows[n]? with
    | none=>rfl
    | some eQ=>
     rw [hr] at hzn
     dsimp only at hzn ⊢
     by_cases hh:have_ n=true
     ·rw [hh,Bool.true_and] at hzn ⊢
      rw [Bool.true_and]
      by_cases hrl:eQ.length≤gl.length
      ·rw [lI hrl]
      ·rw [List.length_append,List.length_singleton,decide_eq_true (by omega),Bool.true_and,List.take_add_one,Jz (by omega)] at hzn
       dsimp only [Option.toList] at hzn
       have e1:dh eQ gl=false:=by
        rw [Bool.eq_false_iff]
        intro hf
        rw [ka (by omega)] at hf
        cases hf
       have e2:dh eQ (gl++g::r)=false:=by
        have e3:eQ=(eQ.take gl.length++[eQ[gl.length]])++eQ.drop (gl.length+1):=by
         rw [List.append_assoc,List.singleton_append,List.getElem_cons_drop,List.take_append_drop]
        have e4:∀{a b:List (List Int)} {x:List Int},dh (a++b) x=true→dh a x=true:=by
         intro a
         induction a with
         | nil=>intro b x _;rfl
         | cons y a iha=>
          intro b x hx
          cases x with
          | nil=>cases hx
          | cons w x=>
           rw [Js,dh,Bool.and_eq_true] at hx
           rw [dh,Bool.and_eq_true]
           exact ⟨hx.1,iha hx.2⟩
        rw [Bool.eq_false_iff]
        intro hf
        rw [e3] at hf
        have:=e4 hf
        rw [show gl++g::r=(gl++[g])++r by simp,lI (by simp;omega)] at this
        rw [this] at hzn
        cases hzn
       rw [e1,e2]
     ·simp [hh]
   rw [m7]
   by_cases hg:0≤g∧g.toNat < cls.length
   ·obtain ⟨hg0,hgl⟩:=hg
    obtain ⟨z,hz⟩:∃z,cls[g.toNat]?=some z:=⟨_,Jz hgl⟩
    have hzm:=Jw hz
    have hzd:=h.dom z hzm
    obtain ⟨c,rfl⟩:=Int.eq_ofNat_of_zero_le hzd.1
    have hcC:c < C:=by omega
    obtain ⟨t,htc⟩:∃t,q[c]?=some t:=⟨_,Jz (by omega)⟩
    have hstep:=Cv (have_:=have_) (gl:=gl) h hs hg0 hz
    have hnx:ia cls tab s g=if 0≤t∧t < tab.length then t else -1:=by
     unfold ia
     rw [if_neg (by omega),Int.toNat_natCast,hq,hz]
     dsimp only
     rw [if_neg (by omega),Int.toNat_natCast,htc]
    have hbe:cf cls rows p c=if ck (nc rows have_ (gl++[g])) rows.length=0 then (0,0) else (gl.length+1,ck (nc rows have_ (gl++[g])) rows.length):=by
     unfold cf
     rw [hp1,hp2,hstep]
    rcases hqn c t htc with ⟨h1,h2⟩ | ⟨h1,h2,h3⟩
    ·subst h2
     have hno:¬((0:Int)≤-1∧(-1:Int) < tab.length):=fun e=>absurd e.1 (by decide)
     rw [hnx,if_neg hno,if_pos rfl,htold]
     refine stop fun n=>?_
     rw [hbe] at h1
     have hzero:ck (nc rows have_ (gl++[g])) rows.length=0:=by
      split at h1
      ·assumption
      ·exact h1
     by_cases hnl:n < rows.length
     ·exact pU.1 hzero n hnl
     ·unfold nc;rw [List.getElem?_eq_none (by omega)]
    ·have htl:t.toNat < tab.length:=by
      have:=(Jp h3).1
      omega
     have htz:¬t= -1:=by omega
     have hin:(0:Int)≤t∧t < tab.length:=⟨h2,by omega⟩
     rw [if_pos hin] at hnx
     rw [hnx,if_neg htz]
     rw [hbe] at h1 h3
     have hnz:¬ck (nc rows have_ (gl++[g])) rows.length=0:=by
      intro e
      rw [if_pos e] at h1
      exact h1 rfl
     rw [if_neg hnz] at h3
     have:=ih (gl++[g]) t.toNat (told ||| j5 ends t) _ h3 (by simp) rfl ?_ (.inr hnz)
     ·rw [Int.toNat_of_nonneg h2] at this
      rw [this]
      simp
     ·
      have hen:=he _ _ h3
      unfold j5
      rw [if_neg (by omega),List.getD_eq_getElem?_getD,hen,htold]
      dsimp only [Option.getD]
      unfold jt
      rw [if_neg hnz]
      refine gT fun n=>?_
      rw [Nat.testBit_or,Nat.testBit_and,xR,cj,cj,cj,cj]
      by_cases hnl:n < rows.length
      ·simp only [decide_eq_true hnl,Bool.true_and]
       unfold eS nc js
       rw [Jz hnl]
       dsimp only
       generalize rows[n]=eQ
       cases have_ n
       ·simp
       ·simp only [Bool.true_and,List.length_append,List.length_singleton]
        by_cases hrl:eQ.length≤gl.length
        ·rw [lI hrl,decide_eq_false (by omega:¬eQ.length=gl.length+1),Bool.and_false,Bool.or_false]
        ·have e1:dh eQ gl=false:=ka (by omega)
         rw [e1,Bool.false_or]
         by_cases hre:eQ.length=gl.length+1
         ·rw [decide_eq_true hre,Bool.and_true,decide_eq_true (by omega),Bool.true_and,List.take_of_length_le (by omega)]
         ·rw [decide_eq_false hre,Bool.and_false]
          exact (ka (by simp;omega)).symm
      ·simp [decide_eq_false hnl]
   ·have hnx:ia cls tab s g= -1:=by
     unfold ia
     by_cases hg0:g < 0
     ·rw [if_pos (.inr hg0)]
     ·rw [if_neg (by omega),Int.toNat_natCast,hq,List.getElem?_eq_none (by omega)]
    rw [hnx,if_pos rfl,htold]
    refine stop fun n=>?_
    unfold nc
    cases hr:rows[n]? with
    | none=>rfl
    | some eQ=>
     dsimp only
     by_cases hrl:gl.length+1≤eQ.length
     ·have hs':=hs eQ (Jw hr) eQ[gl.length] (List.getElem_mem (by omega))
      have hng:eQ[gl.length].contains g=false:=by
       rw [Bool.eq_false_iff]
       intro hm
       rw [List.contains_iff_mem] at hm
       have:=hs'.2 g hm
       have hl:=h.len
       omega
      rw [List.length_append,List.length_singleton,List.take_add_one,Jz (by omega)]
      dsimp only [Option.toList]
      rw [o4 (by rw [List.length_take];omega),hng]
      simp
     ·rw [List.length_append,List.length_singleton,decide_eq_false hrl]
      simp
 intro gl
 have h00:=key gl [] 0 (j5 ends 0) _ h0 rfl ?_ ?_ (.inl rfl)
 ·rw [Jr] at h00
  exact h00
 ·refine gT fun n=>?_
  unfold mn
  rw [cj,cj]
  by_cases hnl:n < rows.length
  ·simp only [decide_eq_true hnl,Bool.true_and]
   unfold nc
   rw [Jz hnl]
   simp [dh]
  ·simp [decide_eq_false hnl]
 ·have hen:=he _ _ h0
  unfold j5
  rw [if_neg (by omega),List.getD_eq_getElem?_getD]
  rw [show (0:Int).toNat=0 from rfl,hen]
  dsimp only [Option.getD]
  refine gT fun n=>?_
  have hb:(jt rows (mn rows have_))=ck have_ rows.length &&& xR rows 0:=by
   unfold jt mn
   dsimp only
   split
   ·rename_i e
    rw [e,Nat.zero_and]
   ·rfl
  rw [hb,Nat.testBit_and,xR,cj,cj,cj]
  by_cases hnl:n < rows.length
  ·simp only [decide_eq_true hnl,Bool.true_and]
   unfold eS js
   rw [Jz hnl]
   dsimp only
   generalize rows[n]=eQ
   cases eQ with
   | nil=>simp [dh]
   | cons s eQ=>simp [dh]
  ·simp [decide_eq_false hnl]
end
end Go.Proofs.YtpmdfoaadejmkaaGreatDoor
namespace Go.Proofs.YtpmdfoaadejmkaaGreatDoor
open Go.RowKit
attribute [local irreducible] AT bI AX AO Av Kt bi dx DA cK
theorem o5:∀{ss:List (List Int)} {gl:List Int} {k:Nat},ss.length≤k→dh ss (gl.take k)=dh ss gl
 | [],_,_,_=>rfl
 | _::_,[],k,_=>by rw [List.take_nil]
 | _::ss,_::gl,0,h=>by simp at h
 | s::ss,g::gl,k+1,h=>by rw [List.take_succ_cons,dh,dh,o5 (by simpa using h)]
theorem qm {α:Type} {q:α→Bool} {l:List α}:l.find? q=(l.findIdx? q).bind fun i=>l[i]?:=by
  cases h:l.findIdx? q with
  | none => rw [List.find?_eq_none.2]; · rfl
            intro x hx
            rw [List.findIdx?_eq_none_iff] at h
            rw [h x hx];decide
  | some i=>
    obtain ⟨hi,h1,h2⟩:=List.findIdx?_eq_some_iff_getElem.1 h
    rw [Option.bind_some,Jz hi,List.find?_eq_some_iff_getElem]
    exact ⟨h1,i,hi,rfl,fun j hj=>by simpa using h2 j hj⟩
theorem wL {α:Type} {q:α→Bool} {l:List α} {b:Nat} (hb:∀n,b.testBit n=(l[n]?).any q):
  (∀i,l.findIdx? q=some i→b.testBit i=true∧∀j,j < i→b.testBit j=false)∧(l.findIdx? q=none→b=0):=by
 constructor
 ·intro i h
  obtain ⟨hi,h1,h2⟩:=List.findIdx?_eq_some_iff_getElem.1 h
  refine ⟨by rw [hb,Jz hi];exact h1,fun j hj=>?_⟩
  rw [hb,Jz (by omega)]
  simpa using h2 j hj
 ·intro h
  refine gT fun n=>?_
  rw [hb,Nat.zero_testBit]
  cases hn:l[n]? with
  | none=>rfl
  | some x=>exact List.findIdx?_eq_none_iff.1 h x (Jw hn)
def dJ (r:bc):List (List Int):=if r.In.isEmpty then [] else r.In++r.Ahead
def sg (rs:List bc) (n:Nat):Bool:=match rs[n]? with
 | some r=> !r.In.isEmpty
 | none=>false
theorem yR {rs:List bc} {fg bg:List Int} {n:Nat}:(ck (eS (rs.map bc.Back) (fun _=>true) bg) (rs.map bc.Back).length &&& ck (eS (rs.map dJ) (sg rs) fg) (rs.map dJ).length).testBit n=(rs[n]?).any fun r=> !r.In.isEmpty && (dh (r.In++r.Ahead) fg && dh r.Back bg):=by
 rw [Nat.testBit_and,cj,cj]
 simp only [Ju]
 unfold eS sg
 simp only [List.getElem?_map]
 cases h:rs[n]? with
 | none=>simp
 | some r=>
  have hn:=(Jp h).1
  simp only [Option.map_some,Option.any_some,decide_eq_true hn,Bool.true_and]
  unfold dJ
  cases r.In.isEmpty <;> simp [Bool.and_comm]
def fU (rs:List bc):Nat:=rs.foldl (fun m r=>max m (r.In.length+r.Ahead.length)) 0
def iz (rs:List bc):Nat:=rs.foldl (fun m r=>max m r.Back.length) 0
theorem mW {α:Type} {g:α→Nat}:∀{l:List α} {m:Nat},m≤l.foldl (fun m r=>max m (g r)) m∧∀r∈l,g r≤l.foldl (fun m r=>max m (g r)) m
 | [],m=>⟨Nat.le_refl _,fun r h=>by cases h⟩
 | x::l,m=>by
  have ih:=mW (g:=g) (l:=l) (m:=max m (g x))
  rw [List.foldl_cons]
  refine ⟨by have:=ih.1;omega,fun r hr=>?_⟩
  rcases List.mem_cons.1 hr with rfl | hr
  ·have:=ih.1;omega
  ·exact ih.2 r hr
theorem wu {ms:List Bool} {ig:Bool} {run:List aJ} {i:Nat} {rs:List bc} {b:Nat}
  (hb:∀n,b.testBit n=(rs[n]?).any fun r=> !r.In.isEmpty && (dh (r.In++r.Ahead) (((cH ms ig run i).take (fU rs)).map (cx run)) && dh r.Back (((lW ms ig run i).take (iz rs)).map (cx run)))) (n:Nat):b.testBit n=(rs[n]?).any (cY ms ig run i):=by
 rw [hb]
 cases h:rs[n]? with
 | none=>rfl
 | some r=>
  have hm:=Jw h
  have h1:(r.In++r.Ahead).length≤fU rs:=by rw [List.length_append];exact (mW (g:=fun r:bc=>r.In.length+r.Ahead.length)).2 r hm
  have h2:r.Back.length≤iz rs:=(mW (g:=fun r:bc=>r.Back.length)).2 r hm
  rw [Option.any_some,Option.any_some]
  unfold cY
  rw [List.map_take,List.map_take,o5 h1,o5 h2]
end Go.Proofs.YtpmdfoaadejmkaaGreatDoor
