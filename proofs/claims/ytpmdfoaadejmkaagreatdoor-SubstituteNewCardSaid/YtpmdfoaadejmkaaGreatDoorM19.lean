/-
  The document's answer: is a font big?
-/
import Derived.Test.YtpmdfoaadejmkaaGreatDoorM18
import Derived.Test.YtpmdfoaadejmkaaGreatDoorM12
import Derived.Laws.Small
namespace Go.Proofs.YtpmdfoaadejmkaaGreatDoor
section
open Go.RowKit
attribute [local irreducible] AT bP AX AO Av Kt bb dh DA cG
structure KE (f:aT):Prop where
 top:f.Glyphs.length≤140737488355328∧f.Chars.length≤140737488355328∧f.Lookups.length≤140737488355328∧f.Features.length≤140737488355328∧f.Axes.length≤140737488355328∧f.Regions.length≤140737488355328∧f.Funcs.length≤140737488355328∧f.Cvt.length≤140737488355328
 glyph:∀g∈f.Glyphs,g.Points.length≤140737488355328∧g.Parts.length≤140737488355328∧g.Anchors.length≤140737488355328∧g.Deltas.length≤140737488355328∧g.Hint.length≤140737488355328∧g.Name.size≤140737488355328
 rules:∀l∈f.Lookups,l.Rules.length≤140737488355328∧∀r∈l.Rules,DD r
 funcs:∀c∈f.Funcs,c.length≤140737488355328
 feats:∀t∈f.Features,t.Lookups.length≤140737488355328∧t.Name.size≤140737488355328
 regions:∀r∈f.Regions,r.length≤140737488355328
 axes:∀a∈f.Axes,a.Name.size≤140737488355328
def Mz (l:aY):Nat:=B4 l.Rules.length l.Rules
def N9 (f:aT):Nat:=f.Glyphs.length+f.Chars.length+f.Lookups.length+f.Features.length+f.Axes.length+f.Regions.length+f.Funcs.length+f.Cvt.length
structure GL (f:aT) (n:Nat) (g:bj):Prop where
 name:dx g.Name=true
 new:∀y∈f.Glyphs.take n,¬y.Name=g.Name
 adv:0≤g.Advance∧g.Advance≤16384
 few:g.Points.length≤200∧g.Ends.length≤40
 pts:∀p∈g.Points,cY p.X=true∧cY p.Y=true
 ends:kv g.Points.length (-1) g.Ends=true
 parts:vj f g
 ancs:DY g
 dels:EK f g
 hint:g.Hint.length≤200∧∀x∈g.Hint,uO x
end
theorem rO (n:Int):∀(l:List Int) (last:Int),-1≤last→kv n last l=fB n last l
 | [],_,_=>rfl
 | e::l,last,h=>by
  show (decide (¬(e < 0∨e≥n∨e < last+2)) && kv n e l)=if e≥n∨e < last+2 then false else fB n e l
  by_cases c:e≥n∨e < last+2
  ·rw [if_pos c,decide_eq_false (by omega),Bool.false_and]
  ·rw [if_neg c,decide_eq_true (by omega),Bool.true_and]
   exact rO n l e (by omega)
theorem mZ {names:List ByteArray} {i:Nat} {s:ByteArray} (h:names[i]?=some s):eY names i s=true↔s∈names.take i:=by
 unfold eY dD
 rw [decide_eq_true_iff]
 cases hk:names.findIdx? (fun x=>decide (x=s)) with
 | none=>
  rw [List.findIdx?_eq_none_iff] at hk
  have:=hk s (Nw h)
  simp at this
 | some k=>
  rw [List.findIdx?_eq_some_iff_getElem] at hk
  obtain ⟨hl,h1,h2⟩:=hk
  rw [Option.getD_some]
  constructor
  ·intro hki
   have h1:=Ny h1
   rw [List.mem_iff_getElem?]
   exact ⟨k,by rw [List.getElem?_take,if_pos (by omega),Nz hl,h1]⟩
  ·intro hm
   obtain ⟨j,hj⟩:=List.mem_iff_getElem?.1 hm
   rw [List.getElem?_take] at hj
   split at hj
   ·rename_i hji
    refine Classical.byContradiction fun hn=>?_
    obtain ⟨hjl,hje⟩:=Np hj
    have:=h2 j (by omega)
    rw [hje] at this
    simp at this
   ·cases hj
theorem ee {b:Bool} {e:Int} (he:¬e=0):d3 b e=0↔b=false:=by
 unfold d3
 cases b <;> simp [he]
theorem JX (x y:Int):[x,y].all cY=true↔cY x=true∧cY y=true:=by simp
theorem Dc (g:bj):eX g=0↔(0≤g.Advance∧g.Advance≤16384)∧(g.Points.length≤200∧g.Ends.length≤40)∧(∀p∈g.Points,cY p.X=true∧cY p.Y=true)∧kv g.Points.length (-1) g.Ends=true:=by
 have hp:(cw g.Points CQ).1=0↔∀p∈g.Points,cY p.X=true∧cY p.Y=true:=by
  rw [fN]
  unfold CQ
  constructor
  ·intro h p hp
   obtain ⟨i,hi⟩:=List.mem_iff_getElem?.1 hp
   have:=(ee (by omega)).1 (h i p hi)
   exact (JX _ _).1 (by simpa using this)
  ·intro h i p hi
   rw [ee (by omega),(JX _ _).2 (h p (Nw hi))]
   rfl
 rw [rO _ _ _ (by omega)]
 unfold eX
 by_cases h1:g.Advance < 0∨g.Advance > 16384
 ·rw [if_pos h1]
  exact ⟨fun h=>absurd h (by omega),fun h=>by omega⟩
 rw [if_neg h1]
 by_cases h2:g.Points.length > 200∨g.Ends.length > 40
 ·rw [if_pos h2]
  exact ⟨fun h=>absurd h (by omega),fun h=>by omega⟩
 rw [if_neg h2]
 by_cases h3:(cw g.Points CQ).1=0
 ·rw [if_neg (not_not_intro h3),ee (by omega)]
  have hpt:=hp.1 h3
  have hall:g.Points.all oO=true:=List.all_eq_true.2 fun p hm=>by unfold oO;rw [(hpt p hm).1,(hpt p hm).2];rfl
  unfold iR
  rw [decide_eq_true (by omega),hall,Bool.true_and,Bool.true_and,Bool.not_eq_false']
  exact ⟨fun h=>⟨by omega,by omega,hpt,h⟩,fun h=>h.2.2.2⟩
 ·rw [if_pos h3]
  exact ⟨fun h=>absurd h h3,fun h=>absurd (hp.2 h.2.2.1) h3⟩
theorem CL (f:aT) (g:bj):(bT 8 g.Parts (iS f)).1=0↔vj f g:=by
 rw [d6]
 unfold vj
 refine and_congr (by omega) ?_
 have hq:∀i p,iS f i p=0↔zi f p:=by
  intro i p
  unfold iS zi gA
  by_cases h:0≤p.Glyph∧p.Glyph < f.Glyphs.length
  ·rw [decide_eq_true h,if_neg (by simp),ee (by omega),Bool.not_eq_false',JX]
   exact ⟨fun k=>⟨h,k⟩,fun k=>k.2⟩
  ·rw [decide_eq_false h,if_pos rfl]
   exact ⟨fun k=>absurd k (by omega),fun k=>absurd k.1 h⟩
 constructor
 ·intro h p hp
  obtain ⟨i,hi⟩:=List.mem_iff_getElem?.1 hp
  exact (hq i p).1 (h i p hi)
 ·intro h i p hi
  exact (hq i p).2 (h p (Nw hi))
theorem Fh (l:List fh):il l=0↔l.length≤200∧∀x∈l,uO x:=by
 unfold il
 rw [d6]
 refine and_congr (by omega) ?_
 have hq:∀i p,wG i p=0↔uO p:=by
  intro i p
  unfold wG uO
  split
  ·exact ⟨fun h=>absurd h (by omega),fun h=>by omega⟩
  ·split
   ·exact ⟨fun h=>absurd h (by omega),fun h=>by omega⟩
   ·exact ⟨fun _=>by omega,fun _=>rfl⟩
 constructor
 ·intro h p hp
  obtain ⟨i,hi⟩:=List.mem_iff_getElem?.1 hp
  exact (hq i p).1 (h i p hi)
 ·intro h i p hi
  exact (hq i p).2 (h p (Nw hi))
theorem wA {f:aT} {n:Nat} {g:bj} (hg:f.Glyphs[n]?=some g):cX f n g=0↔GL f n g:=by
 have ht:eY (fa f) n g.Name=false↔∀y∈f.Glyphs.take n,¬y.Name=g.Name:=by
  rw [←Bool.not_eq_true,mZ (by unfold fa;rw [List.getElem?_map,hg];rfl)]
  unfold fa
  rw [←List.map_take]
  constructor
  ·intro h y hy e
   exact h (List.mem_map.2 ⟨y,hy,e⟩)
  ·intro h hm
   obtain ⟨y,hy,e⟩:=List.mem_map.1 hm
   exact h y hy e
 have hfa:gJ (dx g.Name) (eY (fa f) n g.Name)=0↔dx g.Name=true∧eY (fa f) n g.Name=false:=by
  unfold gJ
  cases dx g.Name <;> cases eY (fa f) n g.Name <;> simp
 have h16:(bT 16 g.Anchors (iI g)).1=0↔DY g:=by
  rw [d6]
  exact and_congr (by omega) Iff.rfl
 have h400:(bT 400 g.Deltas (lF f g)).1=0↔EK f g:=by
  rw [d6]
  exact and_congr (by omega) Iff.rfl
 unfold cX nI
 rw [dq]
 simp only [List.mem_cons,List.not_mem_nil,or_false,forall_eq_or_imp,forall_eq]
 rw [hfa,ht,Dc,CL,h16,h400,Fh]
 constructor
 ·rintro ⟨⟨h1,h2⟩,⟨h3,h4,h5,h6⟩,h7,h8,h9,h10⟩
  exact ⟨h1,h2,h3,h4,h5,h6,h7,h8,h9,h10⟩
 ·rintro ⟨h1,h2,h3,h4,h5,h6,h7,h8,h9,h10⟩
  exact ⟨⟨h1,h2⟩,⟨h3,h4,h5,h6⟩,h7,h8,h9,h10⟩
structure MS where
 a:Nat
 lo:Fin 3
abbrev DM (α:Type):=MS→α×MS
section
variable {α β:Type}
def cQ (x:α):DM α:=fun m=>(x,m)
def cm (g:DM α) (k:α→DM β):DM β:=fun m=>k (g m).1 (g m).2
def iV (g:Nat→β→DM β) (b:β):Nat→DM β
 | 0=>cQ b
 | k+1=>cm (iV g b k) (g k)
end
def uJ (s:List Int) (a:Nat) (n:Int):Int:=match s[a]? with
 | some x=>x % n
 | none=>0
def dr (s:List Int) (n:Int):DM Int:=fun m=>(uJ s m.a n,{ m with a:=m.a+1 })
def Ll:DM Unit:=fun m=>((),{ m with lo:=⟨m.lo.val - 1,Nat.lt_of_le_of_lt (Nat.sub_le ..) m.lo.isLt⟩ })
def iO (z:Fin 3):DM Unit:=fun m=>((),{ m with lo:=z })
def s4:DM Int:=fun m=>((m.lo.val:Int),m)
section
variable (s:List Int)
def J4 (p:Nat):DM eO:=cm (dr s 21) fun x=>cm (dr s 21) fun y=>if p=0 then cQ ⟨x * 50 - 100,y * 50 - 200,true⟩ else cm (dr s 4) fun z=>cQ ⟨x * 50 - 100,y * 50 - 200,decide (0 < z)⟩
def pP (l:List eO) (k:Nat):DM (List eO):=iV (fun p l=>cm (J4 s p) fun t=>cQ (l++[t])) l k
def jd (n:Nat):DM (List eO×List Int):=iV (fun _ o=>cm (dr s 4) fun k=>cm (pP s o.1 (2+k).toNat) fun l=>cQ (l,o.2++[(l.length:Int) - 1])) ([],[]) n
def kG:DM (List eO×List Int):=cm (dr s 3) fun n=>jd s n.toNat
def iA (q:Int):DM (List fh):=cQ [⟨39,0⟩,⟨1,16⟩,⟨17,0⟩,⟨36,2⟩,⟨1,q⟩,⟨2,0⟩]
def cV (n funcs:Int):DM (List fh):=cm (dr s (n+1)) fun p=>cm (dr s (n+1)) fun q=>cm (dr s 2) fun a=>cm (dr s 12) fun k=>
 if k=0 then cQ [⟨22,a⟩,⟨23,a⟩]
 else if k=1 then cm (dr s 6) fun z=>cQ [⟨24,z⟩]
 else if k=2∨k=3 then cQ [⟨1,p⟩,⟨1,p⟩,⟨29,0⟩,⟨15,0⟩,⟨32,0⟩]
 else if k=4 then cm (dr s 200) fun z=>cQ [⟨1,p⟩,⟨1,z - 100⟩,⟨31,0⟩]
 else if k=5 then cQ [⟨1,p⟩,⟨1,q⟩,⟨33,0⟩]
 else if k=6 then cQ [⟨34,a⟩]
 else if k=7 then cQ [⟨1,a⟩,⟨1,q⟩,⟨25,0⟩,⟨1,3⟩,⟨5,0⟩,⟨26,0⟩]
 else if k=8 then (if 0 < funcs then cm (dr s funcs) fun z=>cQ [⟨37,z⟩] else iA q)
 else if k=9 then (if 0 < funcs then cm s4 fun lo=>if 0 < lo then cm Ll fun _=>cm (dr s 5) fun y=>cm (dr s funcs) fun z=>cQ [⟨1,y⟩,⟨38,z⟩] else iA q else iA q)
 else if k=10 then cQ [⟨1,p⟩,⟨30,0⟩,⟨1,q⟩,⟨29,0⟩,⟨16,0⟩,⟨36,3⟩,⟨1,q⟩,⟨1,64⟩,⟨31,0⟩]
 else iA q
def ga (n funcs:Int) (k:Nat):DM (List fh):=iV (fun _ l=>cm (cV s n funcs) fun p=>cQ (l++p)) [] k
def oB (n funcs most:Int):DM (List fh):=cm (dr s most) fun k=>ga s n funcs k.toNat
def fQ (a:Int) (k:Nat):DM (List Int):=iV (fun j l=>if l.length < 4 then cm (dr s 3) fun z=>cQ (if z=0 then l++[a+1+j] else l) else cQ l) [a] k
def oS (n:Int):DM (List Int):=cm (dr s n) fun a=>fQ s a (n - (a+1)).toNat
def je (n:Int) (k:Nat):DM (List (List Int)):=iV (fun _ l=>cm (oS s n) fun x=>cQ (l++[x])) [] k
def qS (n most:Int):DM (List (List Int)):=cm (dr s (most+1)) fun k=>je s n k.toNat
def gU (n:Int) (k:Nat):DM (List Int):=iV (fun _ l=>cm (dr s n) fun x=>cQ (l++[x])) [] k
def fM (n:Int) (calls:List Int) (k:Nat):DM (List jt):=iV (fun _ l=>cm (dr s n) fun a=>cm (dr s calls.length) fun z=>cQ (l++[⟨a,calls.getD z.toNat 0⟩])) [] k
def J3 (n:Int) (a:List Int):DM bk:=cm (oS s n) fun b=>cm (dr s 41) fun x=>cQ ⟨[],[a,b],[],[],[],x * 10 - 200⟩
def ka (n:Int):DM (List (List Int)×List (List Int)):=cm (dr s 2) fun z=>if z=0 then cm (qS s n 2) fun b=>cm (qS s n 2) fun c=>cQ (b,c) else cQ ([],[])
def io (n kind:Int) (calls:List Int):DM bk:=cm (oS s n) fun a=>if kind=6 then J3 s n a else cm (ka s n) fun e=>
 if kind=1∨kind=5 then cm (gU s n a.length) fun o=>cQ ⟨e.1,[a],e.2,o,[],0⟩
 else if kind=2 then cm (dr s 4) fun k=>cm (gU s n k.toNat) fun o=>cQ ⟨e.1,[a],e.2,o,[],0⟩
 else if kind=3 then cm (qS s n 2) fun m=>cm (dr s n) fun o=>cQ ⟨e.1,a::m,e.2,[o],[],0⟩
 else cm (qS s n 2) fun m=>cm (dr s 3) fun k=>cm (fM s (a::m).length calls (if calls.length=0 then 0 else k.toNat)) fun c=>cQ ⟨e.1,a::m,e.2,[],c,0⟩
def gq:List Int:=[1,2,3,4,4,5,6,7,8,1]
def eR (k:Nat):DM (List aY×List Int):=iV (fun i o=>cm (dr s 10) fun z=>cm (dr s 3) fun y=>cQ (o.1++[⟨gq.getD z.toNat 0,decide (y=0),[]⟩],if gq.getD z.toNat 0≤4 then o.2++[(i:Int)] else o.2)) ([],[]) k
def fD (n kind:Int) (calls:List Int) (k:Nat):DM (List bk):=iV (fun _ l=>cm (io s n kind calls) fun r=>cQ (l++[r])) [] k
def fO (n:Int) (calls:List Int) (l:List aY) (k:Nat):DM (List aY):=iV (fun i l=>match l[i]? with
 | none=>cQ l
 | some q=>if q.Kind≥7 then cQ l else cm (dr s 3) fun k=>cm (fD s n q.Kind calls (1+k).toNat) fun rs=>cQ (l.set i { q with Rules:=rs })) l k
def jG (n:Int):DM (List aY):=cm (dr s 7) fun k=>cm (eR s k.toNat) fun o=>fO s n o.2 o.1 k.toNat
def bytes (l:List UInt8):ByteArray:=⟨l.toArray⟩
def mp (p:List UInt8) (n:Nat):ByteArray:=bytes (p++[(97+n).toUInt8])
def ML:List UInt8:=[103]
def BA:List UInt8:=[97,120]
def FT:ByteArray:=bytes [46,110,111,116,100,101,102]
def di (n:Nat):ByteArray:=if n=0 then FT else mp ML n
def jL (n:Nat):DM (List cA):=if 1 < n then cm (dr s 4) fun z=>if z=0 then cm (dr s 9) fun x=>cm (dr s 5) fun y=>cQ [⟨1,x * 50 - 200,y * 50⟩] else cQ [] else cQ []
def iJ (cl:Int):List (Int×Int):=[(1,0),(1,1),(3,0),(4,0),(2,cl)]
def fi (mark:Bool) (cl:Int) (k:Nat):DM (List d9):=iV (fun i l=>cm (dr s 3) fun z=>if z=0∧(((iJ cl).getD i (0,0)).1≠2∨mark=true) then cm (dr s 21) fun x=>cm (dr s 21) fun y=>cQ (l++[⟨((iJ cl).getD i (0,0)).1,((iJ cl).getD i (0,0)).2,x * 50,y * 50 - 200⟩]) else cQ l) [] k
def iZ (r:Nat) (l:List dk) (k:Nat):DM (List dk):=iV (fun p l=>cm (dr s 3) fun z=>if z=0 then cm (dr s 41) fun x=>if p=0 then cQ (l++[⟨r,-1,x - 20,0⟩]) else cm (dr s 41) fun y=>cQ (l++[⟨r,(p:Int) - 1,x - 20,y - 20⟩]) else cQ l) l k
def gY (pts:Nat) (R:Nat):DM (List dk):=iV (fun r l=>iZ s r l (pts+1)) [] R
def la (R fn n:Nat):DM bj:=cm (dr s 19) fun ad=>cm (dr s 4) fun mk=>cm (kG s) fun o=>cm (jL s n) fun ps=>cm (dr s 2) fun cl=>cm (fi s (decide (mk=0) && decide (n≠0)) cl 5) fun an=>cm (gY s o.1.length R) fun de=>cm (iO 2) fun _=>cm (oB s o.1.length fn 6) fun h=>cQ ⟨di n,100+ad * 50,decide (mk=0) && decide (n≠0),o.1,o.2,ps,an,de,h⟩
def hQ (R fn k:Nat):DM (List bj):=iV (fun i l=>cm (la s R fn i) fun g=>cQ (l++[g])) [] k
def lU (k:Nat):DM (List ej):=iV (fun i l=>cm (dr s 3) fun a=>cm (dr s 4) fun b=>cQ (l++[⟨mp BA i,0 - a * 100,0,b * 100⟩])) [] k
def lq:List ev:=[⟨0,64,64⟩,⟨0,32,64⟩,⟨-64,-64,0⟩,⟨-1,0,5⟩,⟨10,32,50⟩]
def j5 (k:Nat):DM (List ev):=iV (fun _ l=>cm (dr s 5) fun z=>cQ (l++[lq.getD z.toNat ⟨0,0,0⟩])) [] k
def lD (axes k:Nat):DM (List (List ev)):=iV (fun _ l=>cm (j5 s axes) fun r=>cQ (l++[r])) [] k
def gB (axes:Nat):DM (List (List ev)):=if axes=0 then cQ [] else cm (dr s 4) fun n=>lD s axes n.toNat
def jE (k:Nat):DM (List (List fh)):=iV (fun i l=>cm (iO 0) fun _=>cm (oB s 6 i 4) fun h=>cQ (l++[h])) [] k
def rJ (k:Nat):DM (List Int):=iV (fun _ l=>cm (dr s 500) fun z=>cQ (l++[z - 100])) [] k
def iz:List Int:=[97,98,99,102,105,108,57345,57346,57601,57602,57603,57857,57861,58113,58114,58369]
def iY (n:Int) (k:Nat):DM (List gu):=iV (fun i l=>cm (dr s 4) fun z=>if 0 < z then cm (dr s n) fun g=>cQ (l++[⟨iz.getD i 0,g⟩]) else cQ l) [] k
def hZ:List ByteArray:=[bytes [108,105,103,97],bytes [105,115,111,108],bytes [105,110,105,116],bytes [109,101,100,105],bytes [102,105,110,97],bytes [107,101,114,110],bytes [109,97,114,107],bytes [99,97,108,116]]
def pp (k:Nat):DM (List Int):=iV (fun i l=>cm (dr s 3) fun z=>cQ (if z=0 then l++[(i:Int)] else l)) [] k
def j1 (n:Nat) (k:Nat):DM (List c6):=iV (fun i l=>cm (pp s n) fun r=>cm (dr s 2) fun z=>cQ (if z=0 then l++[⟨hZ.getD i ByteArray.empty,r⟩] else l)) [] k
def nX:List Int:=[1000,1024,100,2048]
def Fx:DM aT:=cm (dr s 4) fun u=>cm (dr s 3) fun k=>cm (lU s k.toNat) fun ax=>cm (gB s k.toNat) fun rg=>cm (dr s 3) fun k2=>cm (jE s k2.toNat) fun fu=>cm (dr s 4) fun k3=>cm (rJ s k3.toNat) fun cv=>cm (dr s 9) fun k4=>cm (hQ s rg.length fu.length (2+k4).toNat) fun gl=>cm (iY s gl.length 16) fun ch=>cm (jG s gl.length) fun lk=>cm (j1 s lk.length 8) fun ft=>cQ ⟨nX.getD u.toNat 0,gl,ch,lk,ft,ax,rg,fu,cv⟩
def s9:aT:=(Fx s ⟨0,0⟩).1
def LL:List Int:=iz++[122]
def MR:List Int:=(s.take 20).map fun z=>LL.getD (z % 17).toNat 0
end
section
open Go.RowKit
attribute [local irreducible] AT bP AX AO Av Kt bb dh DA cG
structure MF where
 u:AV
 gl:AV
 ch:AV
 lk:AV
 ft:AV
 ax:AV
 rg:AV
 fu:AV
 cv:AV
def Lv (s:List Int) (F:MF) (m:MS):List AV:=[.imm 1 (aW s),aK (min m.a s.length:Nat),F.u,F.gl,F.ch,F.lk,F.ft,F.ax,F.rg,F.fu,F.cv,aK (m.lo.val:Nat)]
abbrev eC (b:Nat) (s:List Int) (F:MF) (m:MS):Nat×AB:=(b,.box (Lv s F m) 177)
def sZ (f:FuncId) (args:List AV) (s:List Int) (F:MF) {α:Type} (u:DM α) (out:α→AV):Prop:=∀(b:Nat) (m:MS),AC Tryz.prog f (GP b::args) [eC b s F m] fun c L=>c=out (u m).1∧L=[eC b s F (u m).2]
theorem I9 {x n:Int} (hn:0 < n):(x.tmod n+n).tmod n=x % n:=by
 have h0:=Int.lt_tmod_of_pos x hn
 rw [Int.tmod_eq_emod_of_nonneg (by omega),Int.add_emod_right]
 have h2:(x.tmod n) % n=(x - n * x.tdiv n) % n:=by rw [Int.tmod_def]
 rw [h2,Int.sub_mul_emod_self_left]
set_option maxHeartbeats 1000000 in
theorem pL (s:List Int) (hs:s.length≤1000000) (F:MF) (n:Int) (hn:0 < n∧n≤1000000):sZ 89 [aK n] s F (dr s n) aK:=by
 intro b m
 refine aV Tryz.func89 rfl Tryz.ntmps89 rfl fun B=>?_
 have hil:=aJ s
 unfold eC
 refine W01 ?_
 refine bv 9 [(0,.v),(1,.v),(2,.v),(3,.l),(4,.v),(5,.v),(6,.v),(7,.l),(8,.v)] none ?_ trivial rfl (by kernel_rfl) (by kernel_rfl) (by kernel_rfl) bQ (by kernel_rfl) rfl
 refine W0m ?_
 refine NP [0,1,9,14] IG ?_
 refine W0k ?_
 refine aj rfl (fun h=>?_) (fun h=>?_)
 ·have h1:s.length≤min m.a s.length:=by have:=Ny h;rw [hil] at this;omega
  refine W01 ?_
  refine NM IG ⟨?_,?_⟩
  ·unfold dr uJ
   rw [List.getElem?_eq_none (show s.length≤m.a by omega)]
  ·unfold dr Lv
   rw [show min m.a s.length=min (m.a+1) s.length by omega]
 have h1:m.a < s.length:=by have:=Nx h;rw [hil] at this;omega
 have h2:min m.a s.length=m.a:=by omega
 obtain ⟨x,hx⟩:∃x,s[m.a]?=some x:=⟨_,Nz h1⟩
 have hxg:=bK hx
 unfold Lv
 rw [h2]
 repeat' (first|refine Ng ?_|fail)
 refine bv 8 [(0,.v),(1,.v),(2,.v),(3,.l),(4,.v),(5,.v),(6,.v),(7,.l)] none ?_ trivial rfl (by kernel_rfl) (by kernel_rfl) (by kernel_rfl) bQ (by kernel_rfl) rfl
 refine W0m ?_
 refine NP [0,1,19,23] IG ?_
 repeat' (first|refine Ng ?_|refine a7 ?_|refine NG a5 IG ?_|(apply bz;first|refine NJ a5 0 NC ?_|refine NJ a5 1 NC ?_|refine NJ a5 2 NC ?_|refine NJ a5 3 NC ?_|refine NK a5 0 NC ?_|refine NK a5 1 NC ?_|refine NK a5 2 NC ?_|refine NL a5 1 NA (by assumption) rfl ?_|refine NL a5 0 NA (by assumption) rfl ?_|fail)|(apply aS;refine aR ?_)|(apply aO;first|refine aN a5 ?_|refine aF a5 ?_)|(apply aI;first|refine NH a5 0 NE ?_|refine NH a5 1 NE ?_|refine NH a5 2 NE ?_|refine NH a5 3 NE ?_|fail))
 refine iQ ?_
 repeat' (first|refine NG a5 IG ?_)
 have hb:=Int.lt_tmod_of_pos x hn.1
 have hb2:=Int.tmod_lt_of_pos x hn.1
 refine aR ?_
 repeat' (first|refine NG a5 IG ?_)
 refine iQ ?_
 refine W01 ?_
 refine NM IG ⟨?_,?_⟩
 ·unfold dr uJ
  rw [hx,I9 hn.1]
 ·unfold dr
  dsimp only
  rw [show min (m.a+1) s.length=m.a+1 by omega]
  rfl
section
variable {r:Option Nat} {ops:Array Oper} {Q:Exit→Act→World→Prop} {nt:Nat} {D:List Deferred} {fr:cf} {B:Bs} {rest:List Oper} {d:Nat} {ty:TypeId} {pos:String} {af:Array Edge} {s:List Int} {F:MF} {b:Nat} {m:MS} {Z:AL} {args:Array Operand} {ts:Array TypeId}
theorem wX {f:FuncId} [bS Tryz.prog f] {α:Type} {u:DM α} {out:α→AV} {az ds:List AV} (hc:sZ f az s F u out) (h:bP Tryz.prog r ops Q nt D rest ((d,out (u m).1)::fr) B (eC b s F (u m).2::Z)) (hv:eP fr args.toList=some ds:=by rfl) (hi:n9 ds=some (GP b::az):=by rfl) (hd:Nat.ble nt d=false:=by rfl):bP Tryz.prog r ops Q nt D (⟨some d,.call ⟨.value (.func f),args,ts⟩,ty,pos,af,none⟩::rest) fr B (eC b s F m::Z):=
 b7 [eC b s F m] Z (hc b m) hv hi (Nn _) hd fun c L1 ⟨h1,h2⟩=>by subst h1;subst h2;exact h
theorem cS {n:Int} (h:bP Tryz.prog r ops Q nt D rest ((d,aK (dr s n m).1)::fr) B (eC b s F (dr s n m).2::Z)) (hv:eP fr args.toList=some [GP b,aK n]:=by rfl) (hs:s.length≤1000000:=by assumption) (hn:0 < n∧n≤1000000:=by omega) (hd:Nat.ble nt d=false:=by rfl):bP Tryz.prog r ops Q nt D (⟨some d,.call ⟨.value (.func 89),args,ts⟩,ty,pos,af,none⟩::rest) fr B (eC b s F m::Z):=
 wX (pL s hs F n hn) h hv rfl hd
end
section
variable {l:List Oper} {fr:cf} {fin:jR} {sk:n7} {acc:cf} {k:Nat} {dd:Option Tmp} {ty:TypeId} {pos:String} {af:Array Edge} {g:Option (Nat×Bool)} {s:List Int} {F:MF} {b:Nat} {m:MS} {Z:AL} {args:Array Operand} {ts:Array TypeId}
theorem ci {L:AL}:fm [] L:=fun q hq=>by cases hq
theorem c5 {q:Nat×Nat×AV} {gs:KpL} {L:AL} (i:Nat) {cs:List AV} {e:TypeId} (hL:L[i]?=some (q.1,.box cs e)) (hc:cs[q.2.1]?=some q.2.2) (h:fm gs L):fm (.cell q::gs) L:=fun p hp=>by
 rcases List.mem_cons.1 hp with rfl | hp
 ·exact show ∃cs e,(q.1,AB.box cs e)∈L∧cs[q.2.1]?=some q.2.2 from ⟨cs,e,Nw hL,hc⟩
 ·exact h p hp
theorem Mc {f:FuncId} [bS Tryz.prog f] {α:Type} {u:DM α} {out:α→AV} {az ds:List AV} (hc:sZ f az s F u out) (h:DA Tryz.prog l fr fin sk ((k,out (u m).1)::acc) (eC b s F (u m).2::Z)) (hv:eP (cK l.toArray acc fr af.toList) args.toList=some ds:=by rfl) (hi:n9 ds=some (GP b::az):=by rfl) (hg:jh ⟨dd,.call ⟨.value (.func f),args,ts⟩,ty,pos,af,g⟩ acc:=by first | trivial | rfl):cG Tryz.prog l fr fin k .e ⟨dd,.call ⟨.value (.func f),args,ts⟩,ty,pos,af,g⟩ sk acc (eC b s F m::Z):=
 iF [eC b s F m] Z (hc b m) hv hi (Nn _) hg fun c L1 ⟨h1,h2⟩=>by subst h1;subst h2;exact h
theorem tr {f:FuncId} [bS Tryz.prog f] {α:Type} {u:DM α} {out:α→AV} {az ds:List AV} (hc:sZ f az s F u out) (hK:fm fin.gs (eC b s F (u m).2::Z)) (h:DA Tryz.prog l fr fin sk ((k,out (u m).1)::acc) (eC b s F (u m).2::Z)) (hv:eP (cK l.toArray acc fr af.toList) args.toList=some ds:=by rfl) (hi:n9 ds=some (GP b::az):=by rfl) (hg:jh ⟨dd,.call ⟨.value (.func f),args,ts⟩,ty,pos,af,g⟩ acc:=by first | trivial | rfl):cG Tryz.prog l fr fin k .f ⟨dd,.call ⟨.value (.func f),args,ts⟩,ty,pos,af,g⟩ sk acc (eC b s F m::Z):=
 Ae [eC b s F m] Z (hc b m) hv hi (Nn _) hg (fun c L1 ⟨_,h2⟩ _=>by subst h2;exact hK) fun c L1 ⟨h1,h2⟩=>by subst h1;subst h2;exact h
theorem uH {n:Int} (h:DA Tryz.prog l fr fin sk ((k,aK (dr s n m).1)::acc) (eC b s F (dr s n m).2::Z)) (hv:eP (cK l.toArray acc fr af.toList) args.toList=some [GP b,aK n]:=by rfl) (hs:s.length≤1000000:=by assumption) (hn:0 < n∧n≤1000000:=by omega) (hg:jh ⟨dd,.call ⟨.value (.func 89),args,ts⟩,ty,pos,af,g⟩ acc:=by first | trivial | rfl):cG Tryz.prog l fr fin k .e ⟨dd,.call ⟨.value (.func 89),args,ts⟩,ty,pos,af,g⟩ sk acc (eC b s F m::Z):=
 Mc (pL s hs F n hn) h hv rfl hg
theorem f8 {n:Int} (hK:fm fin.gs (eC b s F (dr s n m).2::Z)) (h:DA Tryz.prog l fr fin sk ((k,aK (dr s n m).1)::acc) (eC b s F (dr s n m).2::Z)) (hv:eP (cK l.toArray acc fr af.toList) args.toList=some [GP b,aK n]:=by rfl) (hs:s.length≤1000000:=by assumption) (hn:0 < n∧n≤1000000:=by omega) (hg:jh ⟨dd,.call ⟨.value (.func 89),args,ts⟩,ty,pos,af,g⟩ acc:=by first | trivial | rfl):cG Tryz.prog l fr fin k .f ⟨dd,.call ⟨.value (.func 89),args,ts⟩,ty,pos,af,g⟩ sk acc (eC b s F m::Z):=
 tr (pL s hs F n hn) hK h hv rfl hg
end
section
variable {P:Program} {tt:TT} {nt:Nat} {fr:cf} {B:Bs} {L L':AL}
theorem c8 (ok:eF P tt) (i:Nat) (L':AL) {fn:Func} {Post:AV→AL→Prop} {t:Tmp} {e e':TypeId} {b k:Nat} {cs:List AV} (hr:fn.results=#[.cell t e]) (hk:Kw tt e=some k) (hv:cB fr t=some (.sc (.pointer (some ⟨b,0,none⟩)))) (hL:L[i]?=some (b,.box cs e')) (hl:Nat.beq cs.length k=true) (hs:L'.Sublist L) (h:Post (.agg cs) L'):
  AX P .ret (bodyPost P fn (ki B Post)) nt [] fr B L:=by
 unfold AX
 intro σ a w ha hw
 haveI:=eL ok hk
 obtain ⟨vs,hb,hs',h1⟩:=hw.boxCell hL
 have hl:=Nat.eq_of_beq_eq_true hl
 refine ⟨ha.defers,_,oP (cs:=vs) hr (ha.look t _ hv).sc_inv (hs'.1.symm.trans hl) (fun j v hj=>by rw [dc hb,Nat.zero_add];simpa using hj),_,σ,_,L',rfl,.agg cs vs hs'.1 hs'.2 h1,hw.sublist hs,h⟩
theorem NU (ok:eF P tt) (i:Nat) (L':AL) {fn:Func} {Post:AV→AL→Prop} {t:Tmp} {e e':TypeId} {b k:Nat} {cs:List AV} (zz:fn.results=#[.cell t e]∧Kw tt e=some k∧cB fr t=some (.sc (.pointer (some ⟨b,0,none⟩)))∧L[i]?=some (b,.box cs e')∧Nat.beq cs.length k=true) (hs:L'.Sublist L) (h:Post (.agg cs) L'):AX P .ret (bodyPost P fn (ki B Post)) nt [] fr B L:=c8 ok i L' zz.1 zz.2.1 zz.2.2.1 zz.2.2.2.1 zz.2.2.2.2 hs h
theorem d7.im {k:Option (Nat×Nat)} {sz:Nat} {l:List (List AV)}:d7 (.vec k sz l) (.imm sz l):=fun _ _ h=>VR.im h
theorem d7.vecN (n:Nat):d7 (.sc (.slice none 0 0)) (.vec none n []):=fun _ _ h=>cW n h
end
section
variable {P:Program} {r:Option Nat} {Q:Exit→Act→World→Prop} {nt:Nat} {D:List Deferred} {fr fr1:cf} {B:Bs} {L:AL}
theorem uD {A C:Code} (ks:List Nat) (L1:AL) (hk:gW fr ks=some fr1) (hA:∀Q',(∀fr',gW fr' ks=some fr1→AX P .normal Q' nt D fr' B L1)→AT P r A Q' nt D fr B L) (hB:AT P r C Q nt D fr1 B L1):AT P r A (Kt P r C Q) nt D fr B L:=
 hA _ fun _ h=>a6 (uC ks h hB)
end
theorem ff {A T R:AL}:(A++(T++R)).Perm (T++(A++R)):=List.perm_append_comm_assoc ..
theorem LE {A T1 T R:AL}:(A++(T1++(T++R))).Perm (T++(A++(T1++R))):=by
 have:=ff (A:=A++T1) (T:=T) (R:=R)
 simpa [List.append_assoc] using this
def MT (f:FuncId) (args:List AV) (C:Prop):Prop:=AC Tryz.prog f args [] fun c L=>L=[]∧∃e i:Int,c= .agg [aK e,aK i]∧(e=0↔C)
def LR (f:aT):Prop:=f.Chars.length≤1000∧∀i c,f.Chars[i]?=some c→f7 f i c=0
def lu (kind:Int) (r:bk):Prop:=r.In.length=0∨((kind=1∨kind=2∨kind=5)∧r.In.length≠1)∨(kind=6∧(r.In.length≠2∨r.Back.length > 0∨r.Ahead.length > 0))
instance (kind:Int) (r:bk):Decidable (lu kind r):=by unfold lu;infer_instance
theorem sF (kind:Int) (r:bk):iU kind r=0↔(r.Back.length≤6∧r.In.length≤6∧r.Ahead.length≤6)∧¬lu kind r:=by
 unfold iU
 by_cases h:(r.Back.length:Int) > 6∨(r.In.length:Int) > 6∨(r.Ahead.length:Int) > 6
 ·rw [if_pos h]
  exact ⟨fun k=>absurd k (by omega),fun k=>by omega⟩
 rw [if_neg h,ee (by omega),←Bool.not_eq_true]
 rw [show (ey kind r=true)=lu kind r from propext ?_]
 ·exact ⟨fun k=>⟨by omega,k⟩,fun k=>k.2⟩
 unfold ey lu
 split
 ·rw [decide_eq_true_iff];omega
 ·split
  ·rw [decide_eq_true_iff];omega
  ·rw [decide_eq_true_iff];omega
theorem u5 {l:List Int} (h:jk l=true):∀k j,j≤k→k < l.length→l.getD j 0≤l.getD k 0:=by
 have h:=Ny h
 intro k
 induction k with
 | zero=>intro j hj _;rw [Nat.le_zero.1 hj];exact Int.le_refl _
 | succ k ih=>
  intro j hj hk
  by_cases e:j=k+1
  ·rw [e];exact Int.le_refl _
  ·have h1:=ih j (by omega) (by omega)
   have h2:=h k (by omega)
   omega
theorem nJ {f:aT} {l:List Int}:gm f l=true↔0 < l.length∧∀j z,l[j]?=some z→gA f z=true∧∀k,k+1=j→l.getD k 0 < z:=by
 unfold gm
 rw [Bool.and_eq_true,Bool.and_eq_true,Bool.and_eq_true,decide_eq_true_iff]
 constructor
 ·rintro ⟨h1,h2,h3,h4⟩
  refine ⟨h1,fun j z hz=>?_⟩
  have hj:=(Np hz).1
  have hg:=gz hz
  unfold gA at h3 h4 ⊢
  have h3:=Ny h3
  have h4:=Ny h4
  have h5:=u5 h2 j 0 (Nat.zero_le _) hj
  have h6:=u5 h2 (l.length - 1) j (by omega) (by omega)
  refine ⟨decide_eq_true (by omega),fun k hk=>?_⟩
  have h7:=Ny h2 k (by omega)
  rw [hk] at h7
  omega
 ·rintro ⟨h1,h2⟩
  obtain ⟨a,ha⟩:∃z,l[0]?=some z:=⟨_,Nz h1⟩
  obtain ⟨b,hb⟩:∃z,l[l.length - 1]?=some z:=⟨_,Nz (by omega)⟩
  refine ⟨h1,decide_eq_true fun i hi=>?_,by rw [gz ha];exact (h2 0 a ha).1,by rw [gz hb];exact (h2 _ b hb).1⟩
  obtain ⟨c,hc⟩:∃z,l[i+1]?=some z:=⟨_,Nz (by omega)⟩
  rw [gz hc]
  exact (h2 (i+1) c hc).2 i rfl
set_option maxHeartbeats 8000000 in
theorem yN (f:aT) (l:List Int):bV Tryz.prog 274 [ca f,.imm 1 (aW l)] (dy (gm f l)):=by
 refine aV Tryz.func274 rfl Tryz.ntmps274 rfl fun B=>?_
 refine cR 1 rfl rfl fun hlen=>?_
 have hll:=aJ l
 rw [aJ] at hlen
 have hml:(f.Glyphs.map bD).length=f.Glyphs.length:=Nu ..
 refine W0y ?_
 refine aM [1,2] (α:=Nat) (fun i=>[(5,aK i)]) (fun i=>i≤l.length∧∀j z,j < i→l[j]?=some z→gA f z=true∧∀k,k+1=j→l.getD k 0 < z) (fun _=>[]) (fun i=>l.length - i) 0 rfl ⟨rfl,trivial⟩ ⟨Nat.zero_le _,fun j z hj=>absurd hj (Nat.not_lt_zero _)⟩ (fun _ _ h=>h) ?_
 rintro i ⟨hi,ha⟩
 try dsimp only [Ns,Nr,Nq,Nk]
 refine W01 ?_
 refine aj rfl (fun h=>?_) (fun h=>?_)
 ·have hil:i < l.length:=by have:=Ny h;omega
  obtain ⟨x,hx⟩:∃z,l[i]?=some z:=⟨_,Nz hil⟩
  have hxg:=bK hx
  have hno:¬(gA f x=true∧∀k,k+1=i→l.getD k 0 < x)→gm f l=false:=fun h=>by
   rw [←Bool.not_eq_true,nJ]
   exact fun k=>h (k.2 i x hx)
  have hyes:(gA f x=true∧∀k,k+1=i→l.getD k 0 < x)→∀j z,j < i+1→l[j]?=some z→gA f z=true∧∀k,k+1=j→l.getD k 0 < z:=by
   intro h j z hj hz
   by_cases e:j=i
   ·subst e
    rw [hx] at hz
    exact Option.some.inj hz▸h
   ·exact ha j z (by omega) hz
  have hG:gA f x=decide (0≤x∧x < f.Glyphs.length):=rfl
  refine W0n ?_
  refine bv 29 [(0,.v),(1,.v),(2,.v),(3,.v),(4,.v),(5,.v),(6,.v),(7,.v),(8,.v),(9,.v),(10,.v),(11,.v),(12,.v),(13,.v),(14,.v),(15,.v),(16,.v),(17,.v),(18,.v),(19,.v),(20,.v),(21,.v),(22,.v),(23,.v),(24,.v),(25,.v),(26,.v),(27,.v),(28,.v)] none ?_ trivial rfl (by kernel_rfl) (by kernel_rfl) (by kernel_rfl) bQ (by kernel_rfl) rfl
  refine W0b ?_
  by_cases h1:x < 0
  ·rw [decide_eq_true h1]
   refine W16 ?_
   refine NP [1,2,5,27,30,40] IG ?_
   refine W1l ?_
   exact NM IG (by rw [hno (fun k=>by rw [hG,decide_eq_true_iff] at k;omega)])
  rw [decide_eq_false h1]
  refine W0b ?_
  by_cases h2:((f.Glyphs.map bD).length:Int)≤x
  ·rw [decide_eq_true h2]
   repeat' (first|refine aD ?_|refine gw rfl rfl ?_|refine tu rfl ?_)
   refine NP [1,2,5,27,30,40] IG ?_
   refine W1l ?_
   exact NM IG (by rw [hno (fun k=>by rw [hG,decide_eq_true_iff] at k;omega)])
  rw [decide_eq_false h2]
  have hg:gA f x=true:=by rw [hG];exact decide_eq_true (by omega)
  refine W09 ?_
  by_cases h4:(0:Int) < i
  ·rw [decide_eq_true h4]
   obtain ⟨j,rfl⟩:∃j,i=j+1:=⟨i - 1,by omega⟩
   obtain ⟨y,hy⟩:∃z,l[j]?=some z:=⟨_,Nz (by omega)⟩
   have hyg:=bK hy
   have hyd:=gz hy
   have hj1:((j+1:Nat):Int) - 1=(j:Int):=by omega
   refine W13 ?_
   rw [hj1]
   refine W0b ?_
   refine NP [1,2,5,27,30,40] IG ?_
   refine W1z ?_
   refine aj rfl (fun h7=>?_) (fun h7=>?_)
   ·have h7:=Ny h7
    refine W01 ?_
    exact NM IG (by rw [hno (fun k=>by have:=k.2 j rfl;omega)])
   have h7:=Nx h7
   refine W02 ?_
   exact aC (j+1+1) rfl ⟨by rw [Nv];rfl,trivial⟩ ⟨by omega,hyes ⟨hg,fun k hk=>by rw [show k=j by omega,hyd];omega⟩⟩ (by omega) (fun _ _ h=>h)
  ·rw [decide_eq_false h4]
   refine W1s ?_
   refine NP [1,2,5,27,30,40] IG ?_
   repeat' (first|refine Ng ?_|refine a7 ?_|refine NG a5 IG ?_|refine NN IG ?_|(apply aS;refine aR ?_)|refine bJ rfl ?_)
   exact aC (i+1) rfl ⟨by rw [Nv];rfl,trivial⟩ ⟨by omega,hyes ⟨hg,fun k hk=>by omega⟩⟩ (by omega) (fun _ _ h=>h)
 have hil:i=l.length:=by have:=Nx h;omega
 subst hil
 refine W01 ?_
 refine NM IG ?_
 rw [hll]
 refine congrArg dy ?_
 rw [Bool.eq_iff_iff,decide_eq_true_iff,nJ]
 exact ⟨fun h=>⟨by omega,fun j z hz=>ha j z (Np hz).1 hz⟩,fun h=>by have:=h.1;omega⟩
instance (f:aT) (l:List Int):AD Tryz.prog 274 [ca f,.imm 1 (aW l)] (dy (gm f l)):=⟨yN f l⟩
section
variable {P:Program} {tt:TT} {l:List Oper} {fr:cf} {fin:jR} {sk:n7} {acc:cf} {L:AL} {k:Nat} {dd:Option Tmp} {ty t:TypeId} {pos:String} {af:Array Edge} {g:Option (Nat×Bool)}
theorem EA (ok:eF P tt) {e sz by_ n:Nat} {parts:Array (Nat×Operand)} {vs:List AV} {xs:List (List AV)} (ht:jP tt t=some (e,sz,by_)) (hv:eP (cK l.toArray acc fr af.toList) (parts.toList.map (·.2))=some vs) (hxs:ju vs=some xs) (hn:Nat.beq xs.length n=true) (hi:parts.toList.map (·.1)=List.range' 0 n) (hz:xs.all (fun q=>Nat.beq q.length sz)=true) (h24:Nat.ble (n * sz) 16777216=true) (hg:jh ⟨dd,.buildSlice t n parts,ty,pos,af,g⟩ acc) (h:∀b,DA P l fr fin sk ((k,.vec (some (b,n)) sz xs)::acc) ((b,.vec e sz n n)::L)):
  cG P l fr fin k .e ⟨dd,.buildSlice t n parts,ty,pos,af,g⟩ sk acc L:=
 jz hg (fun _=>uz (bB ok ht).1 (bB ok ht).2 hv hxs hn hi hz h24) fun c L' ⟨b,h1,h2⟩=>by subst h1;subst h2;exact h b
end
end
section
open Go.RowKit
theorem Jw {P:Program} {fr:cf} {x y:Operand} {d:Option Tmp} {t t' ty:TypeId} {pos:String} {af:Array Edge} {g:Option (Nat×Bool)} {a b:Bool} (ht:P.underlying t=some .bool) (hx:bE fr x=some (.sc (.bool a))) (hy:bE fr y=some (.sc (.bool b))):Av P ⟨d,.binOp .neq t x y t',ty,pos,af,g⟩ fr (.sc (.bool (!(a==b)))):=
 eH fun ρ w hρ=>by simp [execOp,hρ _ _ hx,hρ _ _ hy,eqGuard,run_neq_bool w t a b ht]
end
section
open Go.RowKit
attribute [local irreducible] AT bP AX AO Av Kt bb dh DA cG
theorem Cl (l:List Int) (n:Int):bV Tryz.prog 237 [.imm 1 (aW l),.sc (.int .i64 n)] (.sc (.bool (l.contains n))):=by
 refine aV Tryz.func237 rfl Tryz.ntmps237 rfl fun B=>?_
 refine cR 0 rfl rfl fun hlen=>?_
 rw [aJ] at hlen
 refine W03 ?_
 refine aM [0,1] (α:=Nat) (fun i=>[(5,.sc (.int .i64 i))]) (fun i=>i≤l.length∧(l.take i).contains n=false) (fun _=>[]) (fun i=>l.length - i) 0 rfl ⟨rfl,trivial⟩ ⟨Nat.zero_le _,by simp⟩ (fun _ _ h=>h) fun i hi=>?_
 try dsimp only [Ns,Nr,Nq,Nk]
 refine W01 ?_
 refine aj rfl (fun h=>?_) (fun h=>?_)
 ·have hil:i < l.length:=by have:=Ny h;rw [aJ] at this;omega
  obtain ⟨z,hz⟩:∃z,l[i]?=some z:=⟨_,Nz hil⟩
  have hzg:=bK hz
  refine W0a ?_
  refine aj rfl (fun h2=>?_) (fun h2=>?_)
  ·have h2':=Ny h2
   refine W01 ?_
   refine NM IG ?_
   subst h2'
   rw [show l.contains z=true by simpa using Nw hz]
  ·have h2':=Nx h2
   refine W02 ?_
   refine aC (i+1) rfl ⟨by rw [Nv];rfl,trivial⟩ ⟨by omega,?_⟩ (by omega) (fun _ _ h=>h)
   rw [List.take_add_one,hz]
   have:=hi.2
   simp_all
   omega
 ·have hil:i=l.length:=by have:=Nx h;rw [aJ] at this;omega
  subst hil
  rw [List.take_length] at hi
  refine W01 ?_
  refine NM IG ?_
  rw [hi.2]
instance (l:List Int) (n:Int):AD Tryz.prog 237 [.imm 1 (aW l),.sc (.int .i64 n)] (.sc (.bool (l.contains n))):=⟨Cl l n⟩
theorem zx (l k:List Int):bV Tryz.prog 239 [.imm 1 (aW l),.imm 1 (aW k)] (.sc (.bool (l==k))):=by
 refine aV Tryz.func239 rfl Tryz.ntmps239 rfl fun B=>?_
 refine cR 0 rfl rfl fun hlen=>?_
 rw [aJ] at hlen
 refine W01 ?_
 refine aj rfl (fun h=>?_) (fun h=>?_)
 ·have h':=Ny h
  simp only [aJ] at h'
  refine W01 ?_
  refine NM IG ?_
  rw [show (l==k)=false by rw [beq_eq_false_iff_ne];intro e;subst e;simp at h']
 ·have h':=Nx h
  simp only [aJ] at h'
  have hlk:l.length=k.length:=by omega
  refine W03 ?_
  refine aM [0,1] (α:=Nat) (fun i=>[(5,.sc (.int .i64 i))]) (fun i=>i≤l.length∧l.take i=k.take i) (fun _=>[]) (fun i=>l.length - i) 0 rfl ⟨rfl,trivial⟩ ⟨Nat.zero_le _,by simp⟩ (fun _ _ h=>h) fun i hi=>?_
  try dsimp only [Ns,Nr,Nq,Nk]
  refine W01 ?_
  refine aj rfl (fun h=>?_) (fun h=>?_)
  ·have hil:i < l.length:=by have:=Ny h;rw [aJ] at this;omega
   obtain ⟨z,hz⟩:∃z,l[i]?=some z:=⟨_,Nz hil⟩
   obtain ⟨y,hy⟩:∃z,k[i]?=some z:=⟨_,Nz (by omega)⟩
   have hzg:=bK hz
   have hyg:=bK hy
   refine W0n ?_
   refine bv 8 [(0,.v),(1,.v),(2,.v),(3,.v),(4,.v),(5,.v),(6,.v),(7,.v)] none ?_ trivial rfl (by kernel_rfl) (by kernel_rfl) (by kernel_rfl) bQ (by kernel_rfl) rfl
   refine W0b ?_
   refine NP [0,1,5,20,24] IG ?_
   refine W0k ?_
   refine aj rfl (fun h2=>?_) (fun h2=>?_)
   ·have h2':=Ny h2
    refine W01 ?_
    refine NM IG ?_
    rw [show (l==k)=false by rw [beq_eq_false_iff_ne];intro e;subst e;rw [hz] at hy;injection hy with hy;exact h2' hy]
   ·have h2':=Nx h2
    refine W02 ?_
    refine aC (i+1) rfl ⟨by rw [Nv];rfl,trivial⟩ ⟨by omega,?_⟩ (by omega) (fun _ _ h=>h)
    rw [List.take_add_one,List.take_add_one,hz,hy,hi.2,Decidable.not_not.1 h2']
  ·have hil:i=l.length:=by have:=Nx h;rw [aJ] at this;omega
   subst hil
   rw [List.take_length,hlk,List.take_length] at hi
   refine W01 ?_
   refine NM IG ?_
   rw [hi.2,beq_self_eq_true]
def pk (a b:Int) (l:List (List Int)):Bool:=l.all fun s=>s.contains a==s.contains b
theorem Bo (a b:Int) (l:List (List Int)):bV Tryz.prog 166 [aK a,aK b,.imm 1 (b6 l)] (dy (pk a b l)):=by
 refine aV Tryz.func166 rfl Tryz.ntmps166 rfl fun B=>?_
 have hrl:=bO l
 refine cR 2 rfl rfl fun hlen=>?_
 rw [bO] at hlen
 refine W03 ?_
 refine aM [0,1,2] (α:=Nat) (fun i=>[(7,aK i)]) (fun i=>i≤l.length∧pk a b (l.take i)=true) (fun _=>[]) (fun i=>l.length - i) 0 rfl ⟨rfl,trivial⟩ ⟨Nat.zero_le _,rfl⟩ (fun _ _ h=>h) ?_
 rintro i ⟨hi,ha⟩
 try dsimp only [Ns,Nr,Nq,Nk]
 refine W01 ?_
 refine aj rfl (fun h=>?_) (fun h=>?_)
 ·have hil:i < l.length:=by have:=Ny h;omega
  obtain ⟨x,hx⟩:∃z,l[i]?=some z:=⟨_,Nz hil⟩
  have hxg:=fv hx
  refine W0n ?_
  refine bv 11 [(0,.v),(1,.v),(2,.v),(3,.v),(4,.v),(5,.v),(6,.v),(7,.v),(8,.v),(9,.v),(10,.v)] none ?_ trivial rfl (by kernel_rfl) (by kernel_rfl) (by kernel_rfl) bQ (by kernel_rfl) rfl
  refine W14 ?_
  refine NP [0,1,2,7,19,23,24] IG ?_
  refine W1T ?_
  refine cr (Jw Tryz.underlying4 rfl rfl) rfl rfl ?_
  repeat' (first|refine Ng ?_|fail)
  refine aj rfl (fun h2=>?_) (fun h2=>?_)
  ·refine W01 ?_
   have hx2:(x.contains a==x.contains b)=false:=by simpa using h2
   refine NM IG ?_
   rw [show pk a b l=false by unfold pk;rw [List.all_eq_false];exact ⟨x,Nw hx,by rw [hx2];simp⟩]
  have hx2:(x.contains a==x.contains b)=true:=by simpa using h2
  refine W02 ?_
  refine aC (i+1) rfl ⟨by rw [Nv];rfl,trivial⟩ ⟨by omega,?_⟩ (by omega) (fun _ _ h=>h)
  unfold pk at ha ⊢
  rw [List.take_add_one,hx,List.all_append,ha,Option.toList_some,List.all_cons,hx2]
  rfl
 have hil:i=l.length:=by have:=Nx h;omega
 subst hil
 rw [List.take_length] at ha
 refine W01 ?_
 exact NM IG (by rw [ha])
instance (a b:Int) (l:List (List Int)):AD Tryz.prog 166 [aK a,aK b,.imm 1 (b6 l)] (dy (pk a b l)):=⟨Bo a b l⟩
theorem pQ (r:bk) (back:Bool) (h1:r.In.length+r.Ahead.length≤1000000):bV Tryz.prog 238 [.agg (bI r),dy back] (.tup [.imm 1 (b6 (lH back r)),dy (lc back r)]):=by
 refine aV Tryz.func238 rfl Tryz.ntmps238 rfl fun B=>?_
 have hi:=bO r.In
 have ha:=bO r.Ahead
 cases back with
 | true=>
  repeat' (first|refine Ng ?_|refine NG a5 IG ?_|refine bq ?_|refine bR rfl ?_)
  exact NW NB
 | false=>
  repeat' (first|refine Ng ?_|refine NG a5 IG ?_|refine bq ?_|refine bJ rfl ?_)
  refine bv 12 [(1,.v),(2,.v),(4,.v),(5,.v),(7,.v),(8,.v),(9,.v),(10,.v),(0,.e),(3,.e),(6,.e),(11,.v)] none ?_ trivial rfl (by kernel_rfl) (by kernel_rfl) (by kernel_rfl) bQ (by kernel_rfl) rfl
  refine W09 ?_
  refine EA a5 rfl rfl rfl rfl rfl rfl rfl trivial fun b=>?_
  repeat' (first|refine aD ?_|fail)
  refine dP a5 [] rfl rfl rfl rfl (by rw [List.append_nil];exact Nn _) (by simp [hi];omega) (by simp [hi];omega) trivial fun q1=>?_
  rw [List.append_nil]
  repeat' (first|refine aD ?_|fail)
  refine dP a5 [] rfl rfl rfl rfl (by rw [List.append_nil]) (by simp [hi,ha];omega) (by simp [hi,ha];omega) trivial fun q2=>?_
  rw [List.append_nil]
  refine W09 ?_
  refine NP [4,19] IG ?_
  refine W0k ?_
  refine bf (bH (t:=4) (c':= .imm 1 (b6 (lH false r))) rfl fun σ v h=>?_) ?_
  ·have h':=VR.im h
   rw [show b6 (lH false r)=[]++b6 r.In++b6 r.Ahead by unfold lH b6;simp]
   exact h'
  refine ea (List.nil_sublist _) ?_
  exact NT NA (by unfold lc;rw [Bool.false_or,hi];rw [show decide (0 < r.In.length)=decide ((0:Int) < (r.In.length:Int)) from decide_eq_decide.2 (by omega)])
end
end Go.Proofs.YtpmdfoaadejmkaaGreatDoor
