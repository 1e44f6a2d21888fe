/-
  What is shown at the head of all laws.
-/
import Derived.Test.YtpmdfoaadejmkaaGreatDoorM25
import Derived.Test.YtpmdfoaadejmkaaGreatDoorM05
import Derived.Test.YtpmdfoaadejmkaaGreatDoorM12
import Derived.Test.YtpmdfoaadejmkaaGreatDoorM23
namespace Go.Proofs.YtpmdfoaadejmkaaGreatDoor
open Go.RowKit
attribute [local irreducible] AT br AX AO Av Kt bb df DA cC
def AH (ls:List aL):Bool:=ls.all (wU 5) && (decide (ls.length≤1000000) && B5 ls)
theorem AI {ls:List aL} (h:AH ls=true):AC Tryz.prog 15 [cQ (fy ls)] [] fun c _=>∃E,li E∧Cg (.iptr (dR E)) (dL jL ls)∧c= .tup [.iptr (dR E),aF 0]:=by
 unfold AH B5 at h
 simp only [Bool.and_eq_true,decide_eq_true_eq] at h
 refine AC.mono (yz h.1 h.2.1 (ui h.2.2)) fun c L ⟨E,h1,h2,h3,h4⟩=>⟨E,h1,?_,h4⟩
 have:=Gc h1
 rwa [h2,h3] at this
theorem yR:AH BW=true:=by decide+kernel
theorem yS:decide ((w8 (dL jL BW) [0,1] [] (eJ [0,1,0])).map aK.Glyph=[3,0])=true:=by decide+kernel
theorem BX:AC Tryz.prog 13 [] [dv] fun c L=>c=ej true∧L=[dv]:=by
 refine aN Tryz.func13 rfl Tryz.ntmps13 rfl fun B=>?_
 repeat' (first|refine If ?_|refine IF a5 FN ?_|refine bG a5 ?_|fail)
 refine b9 [] _ (AC.args (yx BW) ?_) rfl rfl (Io _) rfl fun c L1 hc=>?_
 ·repeat' first | exact cP.refl _ | exact cP.nil _ | exact True.intro | refine cP.agg ?_ | refine cP.imm ?_ | refine And.intro ?_ ?_
 subst hc
 refine aJ (bM (List.sublist_append_right ..)) ?_
 repeat' (first|refine If ?_|refine IF a5 FN ?_|(apply aM;first|refine IH 1 a5 0 IE ?_|refine IH 1 a5 1 IE ?_|refine IH 1 a5 2 IE ?_|refine IG a5 0 ID ?_|refine IG a5 1 ID ?_|refine IG a5 2 ID ?_|refine IG a5 3 ID ?_|fail)|refine bh a5 fun _=>?_|fail)
 refine b9 [] _ (AI yR) rfl rfl (Io _) rfl fun c L1 hc=>?_
 obtain ⟨E,hE,hA,rfl⟩:=hc
 refine aJ (bM (List.sublist_append_right ..)) ?_
 repeat' (first|refine If ?_|refine IF a5 FN ?_|refine IN FN ?_)
 refine c9 [2] False rfl (fun Q' K=>?_) (fun hC=>hC.elim) (fun _=>?_)
 ·repeat' (first|fail)
  refine pR Tryz.underlying34 rfl rfl rfl rfl ?_
  repeat' (first|refine If ?_|refine IF a5 FN ?_)
  exact K _ _ rfl rfl (by simp)
 repeat' (first|refine If ?_|refine IF a5 FN ?_|refine bG a5 ?_|fail)
 refine b9 [] _ (yc [0,1,0] (by decide)) rfl rfl (Io _) rfl fun c L1 hc=>?_
 subst hc
 refine aJ (bM (List.sublist_append_right ..)) ?_
 repeat' (first|fail)
 refine b9 [dv] [] (AC.args (DC (dR E) hA [0,1] [] (eJ [0,1,0]) (by decide)) (a:=[.iptr (dR E),.imm 1 (aT [0,1]),.sc (.slice none 0 0),.imm 6 ((eJ [0,1,0]).map bU)]) ⟨cP.refl _,cP.refl _,cP.nil 1,cP.refl _,trivial⟩) rfl rfl (Io _) rfl fun c L1 ⟨hc,hL⟩=>?_
 subst hc;subst hL
 repeat' (first|refine bG a5 ?_|fail)
 refine b9 [] _ (vy _ [3,0] (by decide)) rfl rfl (Io _) rfl fun c L1 hc=>?_
 subst hc
 rw [yS]
 refine aJ (bM (List.sublist_append_right ..)) ?_
 repeat' (first|refine If ?_|refine IF a5 FN ?_)
 exact IL FN ⟨rfl,rfl⟩
def xa (m k:Nat):List Int:=(List.range k).map fun (j:Nat)=>if j=m then (1:Int) else 0
def Dz (m k:Nat):List Int:=(List.range k).map fun (j:Nat)=>if (m:Int) - 1≤(j:Int) then (1:Int) else 0
def GZ (m:Nat):Bool:=decide ((dL jL Dy 0 (eJ (xa m (m+1))) []).map aK.Glyph=List.replicate (m+1) 1) && decide ((dL jL Dy 1 (eJ (xa m (m+1))) []).map aK.Glyph=Dz m (m+1))
def HO (x:aK):List Int:=[x.Glyph,x.Cluster,x.Form,x.Advance,x.X,x.Y]
def Ff (v:Int):Int:=bits .and .i64 v 65535
def Hd (g:Int) (i:Nat) (v:Int):aK:=⟨(Ff v).tmod (max g 1+1),i,(IntKind.wrap .i64 ((Ff v).tdiv 16)).tmod 5,IntKind.wrap .i64 ((Ff v).tdiv 7),0,0⟩
def Ek (g:Int):Nat→List Int→List aK
 | _,[]=>[]
 | i,v::l=>Hd g i v::Ek g (i+1) l
def HP (g:Int) (l:List Int):List aK:=Ek g 0 (l.take 60)
end Go.Proofs.YtpmdfoaadejmkaaGreatDoor
namespace Go.Proofs.YtpmdfoaadejmkaaGreatDoor
structure MS where
 a:Nat
 lo:Fin 3
abbrev DM (α:Type):=MS→α×MS
section
variable {α β:Type}
def ret (x:α):DM α:=fun m=>(x,m)
def bX (g:DM α) (k:α→DM β):DM β:=fun m=>k (g m).1 (g m).2
def gI (g:Nat→β→DM β) (b:β):Nat→DM β
 | 0=>ret b
 | k+1=>bX (gI g b k) (g k)
end
def s5 (s:List Int) (a:Nat) (n:Int):Int:=match s[a]? with
 | some x=>x % n
 | none=>0
def dr (s:List Int) (n:Int):DM Int:=fun m=>(s5 s m.a n,{ m with a:=m.a+1 })
def Gq:DM Unit:=fun m=>((),{ m with lo:=⟨m.lo.val - 1,Nat.lt_of_le_of_lt (Nat.sub_le ..) m.lo.isLt⟩ })
def gF (z:Fin 3):DM Unit:=fun m=>((),{ m with lo:=z })
def pE:DM Int:=fun m=>((m.lo.val:Int),m)
section
variable (s:List Int)
def Et (p:Nat):DM ep:=bX (dr s 21) fun x=>bX (dr s 21) fun y=>if p=0 then ret ⟨x * 50 - 100,y * 50 - 200,true⟩ else bX (dr s 4) fun z=>ret ⟨x * 50 - 100,y * 50 - 200,decide (0 < z)⟩
def nD (l:List ep) (k:Nat):DM (List ep):=gI (fun p l=>bX (Et s p) fun t=>ret (l++[t])) l k
def gT (n:Nat):DM (List ep×List Int):=gI (fun _ o=>bX (dr s 4) fun k=>bX (nD s o.1 (2+k).toNat) fun l=>ret (l,o.2++[(l.length:Int) - 1])) ([],[]) n
def jd:DM (List ep×List Int):=bX (dr s 3) fun n=>gT s n.toNat
def gy (q:Int):DM (List fS):=ret [⟨39,0⟩,⟨1,16⟩,⟨17,0⟩,⟨36,2⟩,⟨1,q⟩,⟨2,0⟩]
def cy (n funcs:Int):DM (List fS):=bX (dr s (n+1)) fun p=>bX (dr s (n+1)) fun q=>bX (dr s 2) fun a=>bX (dr s 12) fun k=>
 if k=0 then ret [⟨22,a⟩,⟨23,a⟩]
 else if k=1 then bX (dr s 6) fun z=>ret [⟨24,z⟩]
 else if k=2∨k=3 then ret [⟨1,p⟩,⟨1,p⟩,⟨29,0⟩,⟨15,0⟩,⟨32,0⟩]
 else if k=4 then bX (dr s 200) fun z=>ret [⟨1,p⟩,⟨1,z - 100⟩,⟨31,0⟩]
 else if k=5 then ret [⟨1,p⟩,⟨1,q⟩,⟨33,0⟩]
 else if k=6 then ret [⟨34,a⟩]
 else if k=7 then ret [⟨1,a⟩,⟨1,q⟩,⟨25,0⟩,⟨1,3⟩,⟨5,0⟩,⟨26,0⟩]
 else if k=8 then (if 0 < funcs then bX (dr s funcs) fun z=>ret [⟨37,z⟩] else gy q)
 else if k=9 then (if 0 < funcs then bX pE fun lo=>if 0 < lo then bX Gq fun _=>bX (dr s 5) fun y=>bX (dr s funcs) fun z=>ret [⟨1,y⟩,⟨38,z⟩] else gy q else gy q)
 else if k=10 then ret [⟨1,p⟩,⟨30,0⟩,⟨1,q⟩,⟨29,0⟩,⟨16,0⟩,⟨36,3⟩,⟨1,q⟩,⟨1,64⟩,⟨31,0⟩]
 else gy q
def fj (n funcs:Int) (k:Nat):DM (List fS):=gI (fun _ l=>bX (cy s n funcs) fun p=>ret (l++p)) [] k
def mp (n funcs most:Int):DM (List fS):=bX (dr s most) fun k=>fj s n funcs k.toNat
def f3 (a:Int) (k:Nat):DM (List Int):=gI (fun j l=>if l.length < 4 then bX (dr s 3) fun z=>ret (if z=0 then l++[a+1+j] else l) else ret l) [a] k
def mJ (n:Int):DM (List Int):=bX (dr s n) fun a=>f3 s a (n - (a+1)).toNat
def gU (n:Int) (k:Nat):DM (List (List Int)):=gI (fun _ l=>bX (mJ s n) fun x=>ret (l++[x])) [] k
def oB (n most:Int):DM (List (List Int)):=bX (dr s (most+1)) fun k=>gU s n k.toNat
def fU (n:Int) (k:Nat):DM (List Int):=gI (fun _ l=>bX (dr s n) fun x=>ret (l++[x])) [] k
def eT (n:Int) (calls:List Int) (k:Nat):DM (List gD):=gI (fun _ l=>bX (dr s n) fun a=>bX (dr s calls.length) fun z=>ret (l++[⟨a,calls.getD z.toNat 0⟩])) [] k
def Es (n:Int) (a:List Int):DM b8:=bX (mJ s n) fun b=>bX (dr s 41) fun x=>ret ⟨[],[a,b],[],[],[],x * 10 - 200⟩
def iR (n:Int):DM (List (List Int)×List (List Int)):=bX (dr s 2) fun z=>if z=0 then bX (oB s n 2) fun b=>bX (oB s n 2) fun c=>ret (b,c) else ret ([],[])
def gp (n kind:Int) (calls:List Int):DM b8:=bX (mJ s n) fun a=>if kind=6 then Es s n a else bX (iR s n) fun e=>
 if kind=1∨kind=5 then bX (fU s n a.length) fun o=>ret ⟨e.1,[a],e.2,o,[],0⟩
 else if kind=2 then bX (dr s 4) fun k=>bX (fU s n k.toNat) fun o=>ret ⟨e.1,[a],e.2,o,[],0⟩
 else if kind=3 then bX (oB s n 2) fun m=>bX (dr s n) fun o=>ret ⟨e.1,a::m,e.2,[o],[],0⟩
 else bX (oB s n 2) fun m=>bX (dr s 3) fun k=>bX (eT s (a::m).length calls (if calls.length=0 then 0 else k.toNat)) fun c=>ret ⟨e.1,a::m,e.2,[],c,0⟩
def fw:List Int:=[1,2,3,4,4,5,6,7,8,1]
def dX (k:Nat):DM (List aL×List Int):=gI (fun i o=>bX (dr s 10) fun z=>bX (dr s 3) fun y=>ret (o.1++[⟨fw.getD z.toNat 0,decide (y=0),[]⟩],if fw.getD z.toNat 0≤4 then o.2++[(i:Int)] else o.2)) ([],[]) k
def eL (n kind:Int) (calls:List Int) (k:Nat):DM (List b8):=gI (fun _ l=>bX (gp s n kind calls) fun r=>ret (l++[r])) [] k
def eX (n:Int) (calls:List Int) (l:List aL) (k:Nat):DM (List aL):=gI (fun i l=>match l[i]? with
 | none=>ret l
 | some q=>if q.Kind≥7 then ret l else bX (dr s 3) fun k=>bX (eL s n q.Kind calls (1+k).toNat) fun rs=>ret (l.set i { q with Rules:=rs })) l k
def il (n:Int):DM (List aL):=bX (dr s 7) fun k=>bX (dX s k.toNat) fun o=>eX s n o.2 o.1 k.toNat
def bytes (l:List UInt8):ByteArray:=⟨l.toArray⟩
def iP (p:List UInt8) (n:Nat):ByteArray:=bytes (p++[(97+n).toUInt8])
def HK:List UInt8:=[103]
def tl:List UInt8:=[97,120]
def Bu:ByteArray:=bytes [46,110,111,116,100,101,102]
def cD (n:Nat):ByteArray:=if n=0 then Bu else iP HK n
def it (n:Nat):DM (List dB):=if 1 < n then bX (dr s 4) fun z=>if z=0 then bX (dr s 9) fun x=>bX (dr s 5) fun y=>ret [⟨1,x * 50 - 200,y * 50⟩] else ret [] else ret []
def fX (cl:Int):List (Int×Int):=[(1,0),(1,1),(3,0),(4,0),(2,cl)]
def ez (mark:Bool) (cl:Int) (k:Nat):DM (List dg):=gI (fun i l=>bX (dr s 3) fun z=>if z=0∧(((fX cl).getD i (0,0)).1≠2∨mark=true) then bX (dr s 21) fun x=>bX (dr s 21) fun y=>ret (l++[⟨((fX cl).getD i (0,0)).1,((fX cl).getD i (0,0)).2,x * 50,y * 50 - 200⟩]) else ret l) [] k
def gM (r:Nat) (l:List dw) (k:Nat):DM (List dw):=gI (fun p l=>bX (dr s 3) fun z=>if z=0 then bX (dr s 41) fun x=>if p=0 then ret (l++[⟨r,-1,x - 20,0⟩]) else bX (dr s 41) fun y=>ret (l++[⟨r,(p:Int) - 1,x - 20,y - 20⟩]) else ret l) l k
def fZ (pts:Nat) (R:Nat):DM (List dw):=gI (fun r l=>gM s r l (pts+1)) [] R
def jH (R fn n:Nat):DM bj:=bX (dr s 19) fun ad=>bX (dr s 4) fun mk=>bX (jd s) fun o=>bX (it s n) fun ps=>bX (dr s 2) fun cl=>bX (ez s (decide (mk=0) && decide (n≠0)) cl 5) fun an=>bX (fZ s o.1.length R) fun de=>bX (gF 2) fun _=>bX (mp s o.1.length fn 6) fun h=>ret ⟨cD n,100+ad * 50,decide (mk=0) && decide (n≠0),o.1,o.2,ps,an,de,h⟩
def g8 (R fn k:Nat):DM (List bj):=gI (fun i l=>bX (jH s R fn i) fun g=>ret (l++[g])) [] k
def kj (k:Nat):DM (List ee):=gI (fun i l=>bX (dr s 3) fun a=>bX (dr s 4) fun b=>ret (l++[⟨iP tl i,0 - a * 100,0,b * 100⟩])) [] k
def jQ:List eO:=[⟨0,64,64⟩,⟨0,32,64⟩,⟨-64,-64,0⟩,⟨-1,0,5⟩,⟨10,32,50⟩]
def gP (k:Nat):DM (List eO):=gI (fun _ l=>bX (dr s 5) fun z=>ret (l++[jQ.getD z.toNat ⟨0,0,0⟩])) [] k
def jZ (axes k:Nat):DM (List (List eO)):=gI (fun _ l=>bX (gP s axes) fun r=>ret (l++[r])) [] k
def fB (axes:Nat):DM (List (List eO)):=if axes=0 then ret [] else bX (dr s 4) fun n=>jZ s axes n.toNat
def ie (k:Nat):DM (List (List fS)):=gI (fun i l=>bX (gF 0) fun _=>bX (mp s 6 i 4) fun h=>ret (l++[h])) [] k
def pp (k:Nat):DM (List Int):=gI (fun _ l=>bX (dr s 500) fun z=>ret (l++[z - 100])) [] k
def fJ:List Int:=[97,98,99,102,105,108,57345,57346,57601,57602,57603,57857,57861,58113,58114,58369]
def gL (n:Int) (k:Nat):DM (List fV):=gI (fun i l=>bX (dr s 4) fun z=>if 0 < z then bX (dr s n) fun g=>ret (l++[⟨fJ.getD i 0,g⟩]) else ret l) [] k
def fI:List ByteArray:=[bytes [108,105,103,97],bytes [105,115,111,108],bytes [105,110,105,116],bytes [109,101,100,105],bytes [102,105,110,97],bytes [107,101,114,110],bytes [109,97,114,107],bytes [99,97,108,116]]
def n8 (k:Nat):DM (List Int):=gI (fun i l=>bX (dr s 3) fun z=>ret (if z=0 then l++[(i:Int)] else l)) [] k
def gN (n:Nat) (k:Nat):DM (List bV):=gI (fun i l=>bX (n8 s n) fun r=>bX (dr s 2) fun z=>ret (if z=0 then l++[⟨fI.getD i ByteArray.empty,r⟩] else l)) [] k
def lV:List Int:=[1000,1024,100,2048]
def B7:DM aY:=bX (dr s 4) fun u=>bX (dr s 3) fun k=>bX (kj s k.toNat) fun ax=>bX (fB s k.toNat) fun rg=>bX (dr s 3) fun k2=>bX (ie s k2.toNat) fun fu=>bX (dr s 4) fun k3=>bX (pp s k3.toNat) fun cv=>bX (dr s 9) fun k4=>bX (g8 s rg.length fu.length (2+k4).toNat) fun gl=>bX (gL s gl.length 16) fun ch=>bX (il s gl.length) fun lk=>bX (gN s lk.length 8) fun ft=>ret ⟨lV.getD u.toNat 0,gl,ch,lk,ft,ax,rg,fu,cv⟩
def jY:aY:=(B7 s ⟨0,0⟩).1
def GP:List Int:=fJ++[122]
def HT:List Int:=(s.take 20).map fun z=>GP.getD (z % 17).toNat 0
end
end Go.Proofs.YtpmdfoaadejmkaaGreatDoor
namespace Go.Proofs.YtpmdfoaadejmkaaGreatDoor
open Go.RowKit
attribute [local irreducible] AT br AX AO Av Kt bb df DA cC
structure MF where
 u:AV
 gl:AV
 ch:AV
 lk:AV
 ft:AV
 ax:AV
 rg:AV
 fu:AV
 cv:AV
def Gz (s:List Int) (F:MF) (m:MS):List AV:=[.imm 1 (aT s),aF (min m.a s.length:Nat),F.u,F.gl,F.ch,F.lk,F.ft,F.ax,F.rg,F.fu,F.cv,aF (m.lo.val:Nat)]
abbrev dG (b:Nat) (s:List Int) (F:MF) (m:MS):Nat×AB:=(b,.box (Gz s F m) 177)
def qy (f:FuncId) (args:List AV) (s:List Int) (F:MF) {α:Type} (u:DM α) (out:α→AV):Prop:=∀(b:Nat) (m:MS),AC Tryz.prog f (Cm b::args) [dG b s F m] fun c L=>c=out (u m).1∧L=[dG b s F (u m).2]
theorem Dw {x n:Int} (hn:0 < n):(x.tmod n+n).tmod n=x % n:=by
 have h0:=Int.lt_tmod_of_pos x hn
 rw [Int.tmod_eq_emod_of_nonneg (by omega),Int.add_emod_right]
 have h2:(x.tmod n) % n=(x - n * x.tdiv n) % n:=by rw [Int.tmod_def]
 rw [h2,Int.sub_mul_emod_self_left]
set_option maxHeartbeats 1000000 in
theorem nA (s:List Int) (hs:s.length≤1000000) (F:MF) (n:Int) (hn:0 < n∧n≤1000000):qy 89 [aF n] s F (dr s n) aF:=by
 intro b m
 refine aN Tryz.func89 rfl Tryz.ntmps89 rfl fun B=>?_
 have hil:=aZ s
 unfold dG
 repeat' (first|refine If ?_|refine IF a5 FN ?_)
 refine bz 9 [(0,.v),(1,.v),(2,.v),(3,.l),(4,.v),(5,.v),(6,.v),(7,.l),(8,.v)] none ?_ trivial rfl (by kernel_rfl) (by kernel_rfl) (by kernel_rfl) bT (by kernel_rfl) rfl
 repeat' (first|refine aC ?_|refine b6 a5 ?_|refine bZ a5 0 rfl rfl rfl rfl (by first|trivial|rfl) ?_)
 refine IQ [0,1,9,14] FN ?_
 repeat' (first|refine If ?_|refine a7 ?_|refine IF a5 FN ?_)
 refine aq rfl (fun h=>?_) (fun h=>?_)
 ·have h1:s.length≤min m.a s.length:=by have:=Iy h;rw [hil] at this;omega
  repeat' (first|refine If ?_|refine IF a5 FN ?_)
  refine IL FN ⟨?_,?_⟩
  ·unfold dr s5
   rw [List.getElem?_eq_none (show s.length≤m.a by omega)]
  ·unfold dr Gz
   rw [show min m.a s.length=min (m.a+1) s.length by omega]
 have h1:m.a < s.length:=by have:=Ix h;rw [hil] at this;omega
 have h2:min m.a s.length=m.a:=by omega
 obtain ⟨x,hx⟩:∃x,s[m.a]?=some x:=⟨_,Iz h1⟩
 have hxg:=bR hx
 unfold Gz
 rw [h2]
 repeat' (first|refine If ?_|fail)
 refine bz 8 [(0,.v),(1,.v),(2,.v),(3,.l),(4,.v),(5,.v),(6,.v),(7,.l)] none ?_ trivial rfl (by kernel_rfl) (by kernel_rfl) (by kernel_rfl) bT (by kernel_rfl) rfl
 repeat' (first|refine aC ?_|refine b6 a5 ?_|refine bZ a5 0 rfl rfl rfl rfl (by first|trivial|rfl) ?_)
 refine IQ [0,1,19,23] FN ?_
 repeat' (first|refine If ?_|refine a7 ?_|refine IF a5 FN ?_|(apply bw;first|refine II a5 0 IC ?_|refine II a5 1 IC ?_|refine II a5 2 IC ?_|refine II a5 3 IC ?_|refine IJ a5 0 IC ?_|refine IJ a5 1 IC ?_|refine IJ a5 2 IC ?_|refine IK a5 1 IA (by assumption) rfl ?_|refine IK a5 0 IA (by assumption) rfl ?_|fail)|(apply aV;refine aU ?_)|(apply aS;first|refine aR a5 ?_|refine aH a5 ?_)|(apply aM;first|refine IG a5 0 ID ?_|refine IG a5 1 ID ?_|refine IG a5 2 ID ?_|refine IG a5 3 ID ?_|fail))
 refine Ep ?_
 repeat' (first|refine IF a5 FN ?_)
 have hb:=Int.lt_tmod_of_pos x hn.1
 have hb2:=Int.tmod_lt_of_pos x hn.1
 refine aU ?_
 repeat' (first|refine IF a5 FN ?_)
 refine Ep ?_
 repeat' (first|refine If ?_|refine IF a5 FN ?_)
 refine IL FN ⟨?_,?_⟩
 ·unfold dr s5
  rw [hx,Dw hn.1]
 ·unfold dr
  dsimp only
  rw [show min (m.a+1) s.length=m.a+1 by omega]
  rfl
section
variable {r:Option Nat} {ops:Array Oper} {Q:Exit→Act→World→Prop} {nt:Nat} {D:List Deferred} {fr:bW} {B:Bs} {rest:List Oper} {d:Nat} {ty:TypeId} {pos:String} {af:Array Edge} {s:List Int} {F:MF} {b:Nat} {m:MS} {Z:AL} {args:Array Operand} {ts:Array TypeId}
theorem u5 {f:FuncId} [bB Tryz.prog f] {α:Type} {u:DM α} {out:α→AV} {az ds:List AV} (hc:qy f az s F u out) (h:br Tryz.prog r ops Q nt D rest ((d,out (u m).1)::fr) B (dG b s F (u m).2::Z)) (hv:eg fr args.toList=some ds:=by rfl) (hi:lh ds=some (Cm b::az):=by rfl) (hd:Nat.ble nt d=false:=by rfl):br Tryz.prog r ops Q nt D (⟨some d,.call ⟨.value (.func f),args,ts⟩,ty,pos,af,none⟩::rest) fr B (dG b s F m::Z):=
 b9 [dG b s F m] Z (hc b m) hv hi (Io _) hd fun c L1 ⟨h1,h2⟩=>by subst h1;subst h2;exact h
theorem cu {n:Int} (h:br Tryz.prog r ops Q nt D rest ((d,aF (dr s n m).1)::fr) B (dG b s F (dr s n m).2::Z)) (hv:eg fr args.toList=some [Cm b,aF n]:=by rfl) (hs:s.length≤1000000:=by assumption) (hn:0 < n∧n≤1000000:=by omega) (hd:Nat.ble nt d=false:=by rfl):br Tryz.prog r ops Q nt D (⟨some d,.call ⟨.value (.func 89),args,ts⟩,ty,pos,af,none⟩::rest) fr B (dG b s F m::Z):=
 u5 (nA s hs F n hn) h hv rfl hd
end
section
variable {l:List Oper} {fr:bW} {fin:jn} {sk:lW} {acc:bW} {k:Nat} {dd:Option Tmp} {ty:TypeId} {pos:String} {af:Array Edge} {g:Option (Nat×Bool)} {s:List Int} {F:MF} {b:Nat} {m:MS} {Z:AL} {args:Array Operand} {ts:Array TypeId}
theorem bS {L:AL}:eB [] L:=fun q hq=>by cases hq
theorem bD {q:Nat×Nat×AV} {gs:KpL} {L:AL} (i:Nat) {cs:List AV} {e:TypeId} (hL:L[i]?=some (q.1,.box cs e)) (hc:cs[q.2.1]?=some q.2.2) (h:eB gs L):eB (.cell q::gs) L:=fun p hp=>by
 rcases List.mem_cons.1 hp with rfl | hp
 ·exact show ∃cs e,(q.1,AB.box cs e)∈L∧cs[q.2.1]?=some q.2.2 from ⟨cs,e,Iw hL,hc⟩
 ·exact h p hp
theorem Ha {f:FuncId} [bB Tryz.prog f] {α:Type} {u:DM α} {out:α→AV} {az ds:List AV} (hc:qy f az s F u out) (h:DA Tryz.prog l fr fin sk ((k,out (u m).1)::acc) (dG b s F (u m).2::Z)) (hv:eg (ct l.toArray acc fr af.toList) args.toList=some ds:=by rfl) (hi:lh ds=some (Cm b::az):=by rfl) (hg:iA ⟨dd,.call ⟨.value (.func f),args,ts⟩,ty,pos,af,g⟩ acc:=by first | trivial | rfl):cC Tryz.prog l fr fin k .e ⟨dd,.call ⟨.value (.func f),args,ts⟩,ty,pos,af,g⟩ sk acc (dG b s F m::Z):=
 jx [dG b s F m] Z (hc b m) hv hi (Io _) hg fun c L1 ⟨h1,h2⟩=>by subst h1;subst h2;exact h
theorem qW {f:FuncId} [bB Tryz.prog f] {α:Type} {u:DM α} {out:α→AV} {az ds:List AV} (hc:qy f az s F u out) (hK:eB fin.gs (dG b s F (u m).2::Z)) (h:DA Tryz.prog l fr fin sk ((k,out (u m).1)::acc) (dG b s F (u m).2::Z)) (hv:eg (ct l.toArray acc fr af.toList) args.toList=some ds:=by rfl) (hi:lh ds=some (Cm b::az):=by rfl) (hg:iA ⟨dd,.call ⟨.value (.func f),args,ts⟩,ty,pos,af,g⟩ acc:=by first | trivial | rfl):cC Tryz.prog l fr fin k .f ⟨dd,.call ⟨.value (.func f),args,ts⟩,ty,pos,af,g⟩ sk acc (dG b s F m::Z):=
 wD [dG b s F m] Z (hc b m) hv hi (Io _) hg (fun c L1 ⟨_,h2⟩ _=>by subst h2;exact hK) fun c L1 ⟨h1,h2⟩=>by subst h1;subst h2;exact h
theorem s3 {n:Int} (h:DA Tryz.prog l fr fin sk ((k,aF (dr s n m).1)::acc) (dG b s F (dr s n m).2::Z)) (hv:eg (ct l.toArray acc fr af.toList) args.toList=some [Cm b,aF n]:=by rfl) (hs:s.length≤1000000:=by assumption) (hn:0 < n∧n≤1000000:=by omega) (hg:iA ⟨dd,.call ⟨.value (.func 89),args,ts⟩,ty,pos,af,g⟩ acc:=by first | trivial | rfl):cC Tryz.prog l fr fin k .e ⟨dd,.call ⟨.value (.func 89),args,ts⟩,ty,pos,af,g⟩ sk acc (dG b s F m::Z):=
 Ha (nA s hs F n hn) h hv rfl hg
theorem er {n:Int} (hK:eB fin.gs (dG b s F (dr s n m).2::Z)) (h:DA Tryz.prog l fr fin sk ((k,aF (dr s n m).1)::acc) (dG b s F (dr s n m).2::Z)) (hv:eg (ct l.toArray acc fr af.toList) args.toList=some [Cm b,aF n]:=by rfl) (hs:s.length≤1000000:=by assumption) (hn:0 < n∧n≤1000000:=by omega) (hg:iA ⟨dd,.call ⟨.value (.func 89),args,ts⟩,ty,pos,af,g⟩ acc:=by first | trivial | rfl):cC Tryz.prog l fr fin k .f ⟨dd,.call ⟨.value (.func 89),args,ts⟩,ty,pos,af,g⟩ sk acc (dG b s F m::Z):=
 qW (nA s hs F n hn) hK h hv rfl hg
end
end Go.Proofs.YtpmdfoaadejmkaaGreatDoor
namespace Go.Proofs.YtpmdfoaadejmkaaGreatDoor
open Go.RowKit
attribute [local irreducible] AT br AX AO Av Kt bb df DA cC
variable (s:List Int) (hs:s.length≤1000000) (F:MF)
include hs
theorem cg (a:Nat) {n:Int} (hn:0 < n):0≤s5 s a n∧s5 s a n < n:=by
 have _:=hs
 clear hs
 unfold s5
 split
 ·rename_i x _
  exact ⟨Int.emod_nonneg x (by omega),Int.emod_lt_of_pos x hn⟩
 ·omega
def GD (o:List ep×List Int):AV:= .agg [.imm 3 (o.1.map dm),.imm 1 (aT o.2)]
def j4 (l:List fS):AV:= .imm 2 (l.map eI)
set_option maxHeartbeats 8000000 in
theorem vW (n fn:Int) (hn:0≤n∧n≤10000) (hf:fn≤10000):qy 174 [aF n,aF fn] s F (cy s n fn) j4:=by
 intro b m
 refine aN Tryz.func174 rfl Tryz.ntmps174 rfl fun B=>?_
 repeat' (first|refine If ?_|refine IF a5 FN ?_|(apply aV;refine aU ?_)|fail)
 refine cu ?_
 repeat' (first|refine If ?_|refine IF a5 FN ?_|(apply aV;refine aU ?_)|fail)
 refine cu ?_
 repeat' (first|refine If ?_|refine IF a5 FN ?_)
 refine cu ?_
 repeat' (first|refine If ?_|refine IF a5 FN ?_)
 refine cu ?_
 generalize e1:dr s (n+1) m=p1
 generalize e2:dr s (n+1) p1.2=p2
 generalize e3:dr s 2 p2.2=p3
 have hk:=cg s hs p3.2.a (n:=12) (by omega)
 have hk:0≤(dr s 12 p3.2).1∧(dr s 12 p3.2).1 < 12:=hk
 generalize e4:dr s 12 p3.2=p4 at hk ⊢
 repeat' (first|refine If ?_|refine ak ?_|refine IF a5 FN ?_)
 refine aq rfl (fun h=>?_) (fun h=>?_)
 ·have h:=Iy h
  repeat' (first|refine If ?_|refine IF a5 FN ?_|refine bG a5 ?_|fail)
  exact IL FN ⟨by simp [cy,bX,ret,e1,e2,e3,e4,j4,eI,h],by simp [cy,bX,ret,e1,e2,e3,e4,h]⟩
 have h0:=Ix h
 clear h
 repeat' (first|refine If ?_|refine IF a5 FN ?_)
 refine aq rfl (fun h=>?_) (fun h=>?_)
 ·have h:=Iy h
  repeat' (first|refine If ?_|refine IF a5 FN ?_)
  refine cu ?_
  repeat' (first|refine If ?_|refine IF a5 FN ?_|refine bG a5 ?_|fail)
  exact IL FN ⟨by simp [cy,bX,ret,e1,e2,e3,e4,j4,eI,h],by simp [cy,bX,ret,e1,e2,e3,e4,h]⟩
 have h1:=Ix h
 clear h
 repeat' (first|refine If ?_|refine IF a5 FN ?_)
 refine aq rfl (fun h=>?_) (fun h=>?_)
 ·have h:=Iy h
  rw [decide_eq_true h]
  repeat' (first|refine If ?_|refine IF a5 FN ?_|refine bG a5 ?_|refine bQ rfl ?_)
  exact IL FN ⟨by simp [cy,bX,ret,e1,e2,e3,e4,j4,eI,h],by simp [cy,bX,ret,e1,e2,e3,e4,h]⟩
 have h2:=Ix h
 clear h
 repeat' (first|refine If ?_|refine IF a5 FN ?_)
 refine aq rfl (fun h=>?_) (fun h=>?_)
 ·have h:=Iy h
  repeat' (first|refine If ?_|refine IF a5 FN ?_|refine bG a5 ?_|fail)
  exact IL FN ⟨by simp [cy,bX,ret,e1,e2,e3,e4,j4,eI,h],by simp [cy,bX,ret,e1,e2,e3,e4,h]⟩
 have h3:=Ix h
 clear h
 repeat' (first|refine If ?_|refine IF a5 FN ?_)
 refine aq rfl (fun h=>?_) (fun h=>?_)
 ·have h:=Iy h
  repeat' (first|refine If ?_|refine IF a5 FN ?_)
  refine cu ?_
  have hz:=cg s hs p4.2.a (n:=200) (by omega)
  have hz:0≤(dr s 200 p4.2).1∧(dr s 200 p4.2).1 < 200:=hz
  repeat' (first|refine If ?_|refine IF a5 FN ?_|(apply aV;refine aU ?_)|refine bG a5 ?_|fail)
  exact IL FN ⟨by simp [cy,bX,ret,e1,e2,e3,e4,j4,eI,h],by simp [cy,bX,ret,e1,e2,e3,e4,h]⟩
 have h4:=Ix h
 clear h
 repeat' (first|refine If ?_|refine IF a5 FN ?_)
 refine aq rfl (fun h=>?_) (fun h=>?_)
 ·have h:=Iy h
  repeat' (first|refine If ?_|refine IF a5 FN ?_|refine bG a5 ?_|fail)
  exact IL FN ⟨by simp [cy,bX,ret,e1,e2,e3,e4,j4,eI,h],by simp [cy,bX,ret,e1,e2,e3,e4,h]⟩
 have h5:=Ix h
 clear h
 repeat' (first|refine If ?_|refine IF a5 FN ?_)
 refine aq rfl (fun h=>?_) (fun h=>?_)
 ·have h:=Iy h
  repeat' (first|refine If ?_|refine IF a5 FN ?_|refine bG a5 ?_|fail)
  exact IL FN ⟨by simp [cy,bX,ret,e1,e2,e3,e4,j4,eI,h],by simp [cy,bX,ret,e1,e2,e3,e4,h]⟩
 have h6:=Ix h
 clear h
 repeat' (first|refine If ?_|refine IF a5 FN ?_)
 refine aq rfl (fun h=>?_) (fun h=>?_)
 ·have h:=Iy h
  repeat' (first|refine If ?_|refine IF a5 FN ?_|refine bG a5 ?_|fail)
  exact IL FN ⟨by simp [cy,bX,ret,e1,e2,e3,e4,j4,eI,h],by simp [cy,bX,ret,e1,e2,e3,e4,h]⟩
 have h7:=Ix h
 clear h
 repeat' (first|refine If ?_|refine IF a5 FN ?_)
 refine aq rfl (fun h=>?_) (fun h=>?_)
 ·have h:=Iy h
  repeat' (first|refine If ?_|refine IF a5 FN ?_)
  refine aq rfl (fun hf0=>?_) (fun hf0=>?_)
  ·have hf0:=Iy hf0
   repeat' (first|refine If ?_|refine IF a5 FN ?_)
   refine cu ?_
   repeat' (first|refine If ?_|refine IF a5 FN ?_|refine bG a5 ?_|fail)
   exact IL FN ⟨by simp [cy,bX,ret,e1,e2,e3,e4,j4,eI,h,hf0],by simp [cy,bX,ret,e1,e2,e3,e4,h,hf0]⟩
  ·have hf0:=Ix hf0
   repeat' (first|refine If ?_|refine IF a5 FN ?_|refine bG a5 ?_|fail)
   exact IL FN ⟨by simp [cy,bX,ret,e1,e2,e3,e4,j4,eI,gy,h,hf0],by simp [cy,bX,ret,e1,e2,e3,e4,gy,h,hf0]⟩
 have h8:=Ix h
 clear h
 repeat' (first|refine If ?_|refine IF a5 FN ?_)
 refine aq rfl (fun h=>?_) (fun h=>?_)
 ·have h:=Iy h
  by_cases hf0:0 < fn
  ·repeat' (first|refine If ?_|refine IF a5 FN ?_)
   rw [decide_eq_true hf0]
   repeat' (first|refine If ?_|refine IF a5 FN ?_|refine IN FN ?_|(apply bw;first|refine II a5 0 IC ?_|refine II a5 1 IC ?_|refine II a5 2 IC ?_|refine II a5 3 IC ?_|refine IJ a5 0 IC ?_|refine IJ a5 1 IC ?_|refine IJ a5 2 IC ?_|refine IK a5 1 IA (by assumption) rfl ?_|refine IK a5 0 IA (by assumption) rfl ?_|fail)|fail)
   refine aq rfl (fun hl=>?_) (fun hl=>?_)
   ·have hl:=Iy hl
    repeat' (first|refine If ?_|refine IF a5 FN ?_|(apply bw;first|refine II a5 0 IC ?_|refine II a5 1 IC ?_|refine II a5 2 IC ?_|refine II a5 3 IC ?_|refine IJ a5 0 IC ?_|refine IJ a5 1 IC ?_|refine IJ a5 2 IC ?_|refine IK a5 1 IA (by assumption) rfl ?_|refine IK a5 0 IA (by assumption) rfl ?_|fail)|(apply aV;refine aU ?_)|(apply aM;first|refine IG a5 0 ID ?_|refine IG a5 1 ID ?_|refine IG a5 2 ID ?_|refine IG a5 3 ID ?_|fail))
    have hlt:=p4.2.lo.isLt
    have hlz:0 < p4.2.lo.val:=by omega
    have hcell:((p4.2.lo.val:Nat):Int) - 1=((p4.2.lo.val - 1:Nat):Int):=by omega
    rw [hcell]
    change br _ _ _ _ _ _ _ _ _ [dG b s F (Gq p4.2).2]
    repeat' (first|fail)
    refine cu ?_
    repeat' (first|refine IF a5 FN ?_)
    refine cu ?_
    repeat' (first|refine If ?_|refine IF a5 FN ?_|refine bG a5 ?_|fail)
    exact IL FN ⟨by simp [cy,bX,ret,e1,e2,e3,e4,j4,eI,h,hf0,pE,hlz],by simp [cy,bX,ret,e1,e2,e3,e4,h,hf0,pE,hlz]⟩
   ·have hl:=Ix hl
    have hl0:p4.2.lo.val=0:=by omega
    repeat' (first|refine If ?_|refine IF a5 FN ?_|refine bG a5 ?_|fail)
    exact IL FN ⟨by simp [cy,bX,ret,e1,e2,e3,e4,j4,eI,gy,h,hf0,pE,hl0],by simp [cy,bX,ret,e1,e2,e3,e4,gy,h,hf0,pE,hl0]⟩
  ·repeat' (first|refine If ?_|refine IF a5 FN ?_)
   rw [decide_eq_false hf0]
   repeat' (first|refine If ?_|refine IF a5 FN ?_|refine IP IB ?_|refine bG a5 ?_|refine bI rfl ?_)
   exact IL FN ⟨by simp [cy,bX,ret,e1,e2,e3,e4,j4,eI,gy,h,hf0],by simp [cy,bX,ret,e1,e2,e3,e4,gy,h,hf0]⟩
 have h9:=Ix h
 clear h
 repeat' (first|refine If ?_|refine IF a5 FN ?_)
 refine aq rfl (fun h=>?_) (fun h=>?_)
 ·have h:=Iy h
  repeat' (first|refine If ?_|refine IF a5 FN ?_|refine bG a5 ?_|fail)
  exact IL FN ⟨by simp [cy,bX,ret,e1,e2,e3,e4,j4,eI,h],by simp [cy,bX,ret,e1,e2,e3,e4,h]⟩
 have h10:=Ix h
 clear h
 repeat' (first|refine If ?_|refine IF a5 FN ?_|refine bG a5 ?_|fail)
 exact IL FN ⟨by simp [cy,bX,ret,e1,e2,e3,e4,j4,eI,gy,h0,h1,h2,h3,h4,h5,h6,h7,h8,h9,h10],by simp [cy,bX,ret,e1,e2,e3,e4,gy,h0,h1,h2,h3,h4,h5,h6,h7,h8,h9,h10]⟩
end Go.Proofs.YtpmdfoaadejmkaaGreatDoor
namespace Go.Proofs.YtpmdfoaadejmkaaGreatDoor
section
variable {α β:Type}
def bK (g:DM α) (P:α→Prop):Prop:=∀m,P (g m).1
theorem bK.ret {x:α} {P:α→Prop} (h:P x):bK (ret x) P:=fun _=>h
theorem bK.bnd {g:DM α} {k:α→DM β} {P:α→Prop} {Q:β→Prop} (h:bK g P) (hk:∀x,P x→bK (k x) Q):bK (bX g k) Q:=fun m=>hk _ (h m) _
theorem bK.mono {g:DM α} {P Q:α→Prop} (h:bK g P) (hq:∀x,P x→Q x):bK g Q:=fun m=>hq _ (h m)
theorem bK.any (g:DM α):bK g fun _=>True:=fun _=>trivial
theorem bK.runs {g:Nat→β→DM β} (I:Nat→β→Prop) {b:β}:∀(k:Nat),I 0 b→(∀i l,i < k→I i l→bK (g i l) (I (i+1)))→bK (gI g b k) (I k)
 | 0,h0,_=>bK.ret h0
 | k+1,h0,hs=>bK.bnd (bK.runs I k h0 fun i l hi hl=>hs i l (by omega) hl) fun l hl=>hs k l (by omega) hl
theorem bK.ite {c:Prop} [Decidable c] {g k:DM α} {P:α→Prop} (h:c→bK g P) (h':¬c→bK k P):bK (if c then g else k) P:=by
 split
 ·exact h ‹_›
 ·exact h' ‹_›
end
variable (s:List Int)
theorem CR (a:Nat) {n:Int} (hn:0 < n):0≤s5 s a n∧s5 s a n < n:=by
 unfold s5
 split
 ·rename_i x _
  exact ⟨Int.emod_nonneg x (by omega),Int.emod_lt_of_pos x hn⟩
 ·omega
theorem cH {n:Int} (hn:0 < n):bK (dr s n) fun z=>0≤z∧z < n:=fun m=>CR s m.a hn
def vX (p:ep):Prop:= -100≤p.X∧p.X≤900∧-200≤p.Y∧p.Y≤800
theorem FF (p:Nat):bK (Et s p) vX:=by
 refine (cH s (by omega)).bnd fun x hx=>(cH s (by omega)).bnd fun y hy=>bK.ite (fun _=>bK.ret ?_) fun _=>(bK.any _).bnd fun z _=>bK.ret ?_
 all_goals (unfold vX;dsimp only;omega)
theorem x9 (l:List ep) (hl:∀p∈l,vX p) (k:Nat):bK (nD s l k) fun q=>q.length=l.length+k∧∀p∈q,vX p:=by
 refine bK.runs (fun i (q:List ep)=>q.length=l.length+i∧∀p∈q,vX p) k ⟨rfl,hl⟩ fun i q _ ⟨h1,h2⟩=>(FF s i).bnd fun t ht=>bK.ret ⟨by simp;omega,fun p hp=>?_⟩
 rcases Im hp with hp | hp
 ·exact h2 p hp
 ·rw [Il hp];exact ht
theorem qZ {n m:Int} (h:n+2≤m):∀(l:List Int) (last:Int),fG n last l=true→fG m last (l++[m - 1])=true
 | [],last,hl=>by
  have:last=n - 1:=Iy hl
  rw [Ir,fG,if_neg (by omega),fG]
  simp
 | e::l,last,hl=>by
  rw [fG] at hl
  split at hl
  ·cases hl
  ·rw [Is,fG,if_neg (by omega)]
   exact qZ h l e hl
structure t1 (n:Nat) (o:List ep×List Int):Prop where
 pts:∀p∈o.1,vX p
 len:o.1.length≤5 * n
 ends:fG o.1.length (-1) o.2=true
 endl:o.2.length=n
theorem ue (n:Nat):bK (gT s n) (t1 n):=by
 refine bK.runs (fun i o=>t1 i o) n ⟨fun p hp=>(by cases hp),Nat.le_refl _,rfl,rfl⟩ fun i o _ h=>(cH s (by omega)).bnd fun k hk=>(x9 s o.1 h.pts _).bnd fun l hl=>bK.ret ?_
 refine ⟨hl.2,by have:=h.len;dsimp only;omega,?_,by simp [h.endl]⟩
 dsimp only
 exact qZ (by omega) _ _ h.ends
theorem od:bK (jd s) fun o=>∃n,n≤2∧t1 n o:=by
 refine (cH s (by omega)).bnd fun n hn=>(ue s _).mono fun o ho=>⟨_,by omega,ho⟩
def j5 (i:fS):Prop:=1≤i.Op∧i.Op≤39∧-100000≤i.A∧i.A≤100000
def i8 (k:Nat) (l:List fS):Prop:=l.length≤k∧∀i∈l,j5 i
theorem rA {n funcs:Int} (hn:0≤n∧n≤1000) (hf:funcs≤1000):bK (cy s n funcs) (i8 9):=by
 have hsz:∀q,0≤q→q < n+1→bK (gy q) (i8 9):=fun q h0 h1=>bK.ret ⟨by simp,by simp only [List.mem_cons,List.not_mem_nil,or_false,forall_eq_or_imp,forall_eq,j5];omega⟩
 unfold cy
 refine (cH s (by omega)).bnd fun p hp=>(cH s (by omega)).bnd fun q hq=>(cH s (by omega)).bnd fun a ha=>(cH s (by omega)).bnd fun k hk=>?_
 refine bK.ite (fun _=>bK.ret ?_) fun _=>?_
 ·exact ⟨by simp,by simp only [List.mem_cons,List.not_mem_nil,or_false,forall_eq_or_imp,forall_eq,j5];omega⟩
 refine bK.ite (fun _=>(cH s (by omega)).bnd fun z hz=>bK.ret ?_) fun _=>?_
 ·exact ⟨by simp,by simp only [List.mem_cons,List.not_mem_nil,or_false,forall_eq,j5];omega⟩
 refine bK.ite (fun _=>bK.ret ?_) fun _=>?_
 ·exact ⟨by simp,by simp only [List.mem_cons,List.not_mem_nil,or_false,forall_eq_or_imp,forall_eq,j5];omega⟩
 refine bK.ite (fun _=>(cH s (by omega)).bnd fun z hz=>bK.ret ?_) fun _=>?_
 ·exact ⟨by simp,by simp only [List.mem_cons,List.not_mem_nil,or_false,forall_eq_or_imp,forall_eq,j5];omega⟩
 refine bK.ite (fun _=>bK.ret ?_) fun _=>?_
 ·exact ⟨by simp,by simp only [List.mem_cons,List.not_mem_nil,or_false,forall_eq_or_imp,forall_eq,j5];omega⟩
 refine bK.ite (fun _=>bK.ret ?_) fun _=>?_
 ·exact ⟨by simp,by simp only [List.mem_cons,List.not_mem_nil,or_false,forall_eq,j5];omega⟩
 refine bK.ite (fun _=>bK.ret ?_) fun _=>?_
 ·exact ⟨by simp,by simp only [List.mem_cons,List.not_mem_nil,or_false,forall_eq_or_imp,forall_eq,j5];omega⟩
 refine bK.ite (fun _=>bK.ite (fun _=>(cH s (by omega)).bnd fun z hz=>bK.ret ?_) fun _=>hsz q hq.1 hq.2) fun _=>?_
 ·exact ⟨by simp,by simp only [List.mem_cons,List.not_mem_nil,or_false,forall_eq,j5];omega⟩
 refine bK.ite (fun _=>bK.ite (fun _=>(bK.any _).bnd fun lo _=>bK.ite (fun _=>(bK.any _).bnd fun _ _=>(cH s (by omega)).bnd fun y hy=>(cH s (by omega)).bnd fun z hz=>bK.ret ?_) fun _=>hsz q hq.1 hq.2) fun _=>hsz q hq.1 hq.2) fun _=>?_
 ·exact ⟨by simp,by simp only [List.mem_cons,List.not_mem_nil,or_false,forall_eq_or_imp,forall_eq,j5];omega⟩
 refine bK.ite (fun _=>bK.ret ?_) fun _=>hsz q hq.1 hq.2
 exact ⟨by simp,by simp only [List.mem_cons,List.not_mem_nil,or_false,forall_eq_or_imp,forall_eq,j5];omega⟩
theorem tS {n funcs most:Int} (hn:0≤n∧n≤1000) (hf:funcs≤1000) (hm:0 < most∧most≤6):bK (mp s n funcs most) (i8 45):=by
 refine (cH s hm.1).bnd fun k hk=>?_
 refine (bK.runs (fun i l=>i8 (9 * i) l) k.toNat ⟨Nat.le_refl _,fun i hi=>by cases hi⟩ fun i l _ h=>(rA s hn hf).bnd fun p hp=>bK.ret ⟨by rw [List.length_append];have:=h.1;have:=hp.1;omega,fun x hx=>?_⟩).mono fun l h=>⟨by have:=h.1;omega,h.2⟩
 rcases Im hx with hx | hx
 ·exact h.2 x hx
 ·exact hp.2 x hx
structure uJ (n:Int) (l:List Int):Prop where
  ne:l≠[]
  few:l.length≤4
  up:l.Pairwise (· < ·)
  dom:∀z∈l,0≤z∧z < n
theorem oS {n:Int} (hn:0 < n):bK (mJ s n) (uJ n):=by
  refine (cH s hn).bnd fun a ha=>?_
  refine (bK.runs (fun i (l:List Int)=>(l≠[]∧l.length≤4∧l.Pairwise (· < ·))∧∀z∈l,0≤z∧z≤a+i) (n - (a+1)).toNat ⟨⟨by simp,by simp,by simp⟩,fun z hz=>?_⟩ fun i l hi ⟨⟨h1,h2,h3⟩,h4⟩=>?_).mono fun l ⟨⟨h1,h2,h3⟩,h4⟩=>⟨h1,h2,h3,fun z hz=>by have:=h4 z hz;omega⟩
  · rw [Il hz];omega
  · refine bK.ite (fun h5=>(bK.any _).bnd fun z _=>bK.ret ?_) fun _=>bK.ret ⟨⟨h1,h2,h3⟩,fun z hz=>by have:=h4 z hz;omega⟩
    split
    · refine ⟨⟨by simp,by simp;omega,?_⟩,fun z hz=>?_⟩
      · rw [List.pairwise_append]
        exact ⟨h3,List.pairwise_singleton ..,fun x hx y hy=>by rw [Il hy];have:=h4 x hx;omega⟩
      · rcases Im hz with hz | hz
        · have:=h4 z hz;omega
        · rw [Il hz];omega
    · exact ⟨⟨h1,h2,h3⟩,fun z hz=>by have:=h4 z hz;omega⟩
def f6 (n:Int) (k:Nat) (l:List (List Int)):Prop:=l.length≤k∧∀q∈l,uJ n q
theorem mH {n:Int} (hn:0 < n):bK (oB s n 2) (f6 n 2):=by
 refine (cH s (by omega)).bnd fun k hk=>?_
 refine (bK.runs (fun i l=>f6 n i l) k.toNat ⟨Nat.le_refl _,fun i hi=>by cases hi⟩ fun i l _ h=>(oS s hn).bnd fun p hp=>bK.ret ⟨by rw [List.length_append];have:=h.1;simp;omega,fun x hx=>?_⟩).mono fun l h=>⟨by have:=h.1;omega,h.2⟩
 rcases Im hx with hx | hx
 ·exact h.2 x hx
 ·rw [Il hx];exact hp
theorem x4 {n:Int} (hn:0 < n) (k:Nat):bK (fU s n k) fun l=>l.length=k∧∀z∈l,0≤z∧z < n:=by
 refine bK.runs (fun i (l:List Int)=>l.length=i∧∀z∈l,0≤z∧z < n) k ⟨rfl,fun z hz=>by cases hz⟩ fun i l _ ⟨h1,h2⟩=>(cH s hn).bnd fun x hx=>bK.ret ⟨by simp [h1],fun z hz=>?_⟩
 rcases Im hz with hz | hz
 ·exact h2 z hz
 ·rw [Il hz];exact hx
structure oX (n kind:Int) (calls:List Int) (r:b8):Prop where
 back:f6 n 2 r.Back
 ahead:f6 n 2 r.Ahead
 ins:f6 n 3 r.In
 rows:eG kind r=false
 out:oA kind r=true
 outs:r.Out.length≤4∧∀z∈r.Out,0≤z∧z < n
 callsN:r.Calls.length≤2
 callsK:kind≠4→r.Calls=[]
 callsIn:∀c∈r.Calls,(0≤c.At∧c.At < r.In.length)∧c.Lookup∈calls
 x: -200≤r.X∧r.X≤200
 x0:kind≠6→r.X=0
theorem f6.nil (n:Int) (k:Nat):f6 n k []:=⟨Nat.zero_le _,fun q hq=>by cases hq⟩
theorem f6.one {n:Int} {a:List Int} (h:uJ n a):f6 n 3 [a]:=⟨by simp,fun q hq=>by rw [Il hq];exact h⟩
theorem f6.cons {n:Int} {a:List Int} (h:uJ n a) {l:List (List Int)} (hl:f6 n 2 l):f6 n 3 (a::l):=⟨by have:=hl.1;simp;omega,fun q hq=>by
 rcases List.mem_cons.1 hq with rfl | hq
 ·exact h
 ·exact hl.2 q hq⟩
theorem xJ {n:Int} (hn:0 < n) (calls:List Int) (k:Nat):bK (eT s n calls (if calls.length=0 then 0 else k)) fun c=>c.length≤k∧∀x∈c,(0≤x.At∧x.At < n)∧x.Lookup∈calls:=by
 by_cases h0:calls.length=0
 ·rw [if_pos h0]
  exact bK.ret ⟨Nat.zero_le _,fun x hx=>by cases hx⟩
 rw [if_neg h0]
 refine (bK.runs (fun i (l:List gD)=>l.length=i∧∀x∈l,(0≤x.At∧x.At < n)∧x.Lookup∈calls) k ⟨rfl,fun z hz=>by cases hz⟩ fun i l _ ⟨h1,h2⟩=>(cH s hn).bnd fun a ha=>(cH s (by omega)).bnd fun z hz=>bK.ret ⟨by simp [h1],fun x hx=>?_⟩).mono fun l h=>⟨Nat.le_of_eq h.1,h.2⟩
 rcases Im hx with hx | hx
 ·exact h2 x hx
 ·rw [Il hx]
  refine ⟨ha,?_⟩
  have hlt:z.toNat < calls.length:=by omega
  rw [List.getD_eq_getElem?_getD,Iz hlt]
  exact List.getElem_mem hlt
theorem BN {n kind:Int} (hn:0 < n) (hk:1≤kind∧kind≤6) (calls:List Int):bK (gp s n kind calls) (oX n kind calls):=by
 have hsides:bK (iR s n) fun e=>f6 n 2 e.1∧f6 n 2 e.2:=by
  refine (bK.any _).bnd fun z _=>bK.ite (fun _=>(mH s hn).bnd fun b hb=>(mH s hn).bnd fun c hc=>bK.ret ⟨hb,hc⟩) fun _=>bK.ret ⟨f6.nil ..,f6.nil ..⟩
 refine (oS s hn).bnd fun a ha=>bK.ite (fun hk6=>(oS s hn).bnd fun b hb=>(cH s (by omega)).bnd fun x hx=>bK.ret ?_) fun hk6=>hsides.bnd fun e he=>?_
 ·subst hk6
  exact ⟨f6.nil ..,f6.nil ..,⟨by simp,by simp [ha,hb]⟩,by simp [eG],by simp [oA],⟨by simp,by simp⟩,by simp,fun _=>rfl,by simp,by dsimp only;omega,fun h=>absurd rfl h⟩
 refine bK.ite (fun h15=>(x4 s hn _).bnd fun o ho=>bK.ret ?_) fun h15=>?_
 ·refine ⟨he.1,he.2,f6.one ha,?_,?_,⟨by rw [ho.1];exact ha.few,ho.2⟩,by simp,fun _=>rfl,by simp,by simp,fun _=>rfl⟩
  ·unfold eG;rw [if_pos (by omega)];simp
  ·unfold oA;rw [if_pos h15];simp [ho.1]
 refine bK.ite (fun h2=>(cH s (by omega)).bnd fun k hk=>(x4 s hn _).bnd fun o ho=>bK.ret ?_) fun h2=>?_
 ·subst h2
  exact ⟨he.1,he.2,f6.one ha,by simp [eG],by simp only [oA];simp;omega,⟨by dsimp only;omega,ho.2⟩,by simp,fun _=>rfl,by simp,by simp,fun _=>rfl⟩
 refine bK.ite (fun h3=>(mH s hn).bnd fun m hm=>(cH s hn).bnd fun o ho=>bK.ret ?_) fun h3=>?_
 ·subst h3
  exact ⟨he.1,he.2,f6.cons ha hm,by simp [eG];omega,by simp [oA],⟨by simp,fun z hz=>by rw [Il hz];exact ho⟩,by simp,fun _=>rfl,by simp,by simp,fun _=>rfl⟩
 have h4:kind=4:=by omega
 subst h4
 refine (mH s hn).bnd fun m hm=>(cH s (by omega)).bnd fun k hk=>(xJ s (by simp) calls _).bnd fun c hc=>bK.ret ?_
 exact ⟨he.1,he.2,f6.cons ha hm,by simp [eG];omega,by simp [oA],⟨by simp,by simp⟩,by have:=hc.1;dsimp only;omega,fun h=>absurd rfl h,fun x hx=>hc.2 x hx,by simp,fun _=>rfl⟩
theorem AS {z:Int} (h:0≤z∧z < 10):1≤fw.getD z.toNat 0∧fw.getD z.toNat 0≤8:=by
 have:∀k < 10,1≤fw.getD k 0∧fw.getD k 0≤8:=by decide
 exact this _ (by omega)
structure E6 (k:Nat) (o:List aL×List Int):Prop where
 len:o.1.length=k
 kinds:∀l∈o.1,1≤l.Kind∧l.Kind≤8
 none:∀l∈o.1,l.Rules=[]
 calls:∀c∈o.2,∃(i:Nat) (l:aL),c=i∧o.1[i]?=some l∧l.Kind≤4
theorem rj (k:Nat):bK (dX s k) (E6 k):=by
 refine bK.runs (fun i o=>E6 i o) k ⟨rfl,fun l hl=>(by cases hl),fun l hl=>(by cases hl),fun c hc=>(by cases hc)⟩ fun i o hi h=>(cH s (by omega)).bnd fun z hz=>(bK.any _).bnd fun y _=>bK.ret ?_
 have hkz:=AS hz
 have hold:∀c∈o.2,∃(i:Nat) (l:aL),c=i∧(o.1++[⟨fw.getD z.toNat 0,decide (y=0),[]⟩])[i]?=some l∧l.Kind≤4:=fun c hc=>by
  obtain ⟨j,l,h1,h2,h3⟩:=h.calls c hc
  exact ⟨j,l,h1,by rw [List.getElem?_append_left (Ip h2).1];exact h2,h3⟩
 refine ⟨by simp [h.len],fun l hl=>?_,fun l hl=>?_,fun c hc=>?_⟩
 ·rcases Im hl with hl | hl
  ·exact h.kinds l hl
  ·rw [Il hl];exact hkz
 ·rcases Im hl with hl | hl
  ·exact h.none l hl
  ·rw [Il hl]
 ·dsimp only at hc ⊢
  split at hc
  ·rename_i h4
   rcases Im hc with hc | hc
   ·exact hold c hc
   ·exact ⟨i,_,Il hc,by rw [←h.len,List.getElem?_append_right (Nat.le_refl _),Nat.sub_self];rfl,h4⟩
  ·exact hold c hc
structure z9 (n:Int) (calls:List Int) (kinds:List Int) (l:List aL):Prop where
 kind:l.map aL.Kind=kinds
 few:∀q∈l,q.Rules.length≤3
 none:∀q∈l,7≤q.Kind→q.Rules=[]
 rule:∀q∈l,∀r∈q.Rules,oX n q.Kind calls r
theorem Ai {n:Int} (hn:0 < n) (calls kinds:List Int) (hkd:∀z∈kinds,1≤z∧z≤8) {l:List aL} (hl:z9 n calls kinds l) (hno:∀q∈l,q.Rules=[]) (k:Nat):bK (eX s n calls l k) (z9 n calls kinds):=by
 refine (bK.runs (fun i q=>z9 n calls kinds q∧∀(j:Nat) x,i≤j→q[j]?=some x→x.Rules=[]) k ⟨hl,fun j x _ hx=>hno x (Iw hx)⟩ fun i q hi ⟨h,h0⟩=>?_).mono fun _ h=>h.1
 cases hq:q[i]? with
 | none=>exact bK.ret ⟨h,fun j x hj hx=>h0 j x (by omega) hx⟩
 | some x=>
  dsimp only
  refine bK.ite (fun h7=>bK.ret ⟨h,fun j x hj hx=>h0 j x (by omega) hx⟩) fun h7=>(cH s (by omega)).bnd fun c hc=>?_
  have hxm:=Iw hq
  have hxk:x.Kind∈kinds:=by rw [←h.kind];exact List.mem_map_of_mem hxm
  have hxk:=hkd _ hxk
  have hr:bK (eL s n x.Kind calls (1+c).toNat) fun rs=>rs.length≤3∧∀r∈rs,oX n x.Kind calls r:=by
   refine (bK.runs (fun i rs=>rs.length=i∧∀r∈rs,oX n x.Kind calls r) (1+c).toNat ⟨rfl,fun r hr=>by cases hr⟩ fun i rs _ ⟨h1,h2⟩=>(BN s hn (by omega) calls).bnd fun r hr=>bK.ret ⟨by simp [h1],fun y hy=>?_⟩).mono fun rs ⟨h1,h2⟩=>⟨by omega,h2⟩
   rcases Im hy with hy | hy
   ·exact h2 y hy
   ·rw [Il hy];exact hr
  refine hr.bnd fun rs ⟨hr1,hr2⟩=>bK.ret ⟨⟨?_,fun y hy=>?_,fun y hy h7'=>?_,fun y hy r hr=>?_⟩,fun j y hj hy=>?_⟩
  ·rw [←h.kind]
   apply List.ext_getElem?
   intro j
   rw [List.getElem?_map,List.getElem?_map]
   by_cases e:i=j
   ·subst e
    rw [List.getElem?_set_self (Ip hq).1,hq]
    rfl
   ·rw [List.getElem?_set_ne e]
  ·rcases List.mem_or_eq_of_mem_set hy with hy | hy
   ·exact h.few y hy
   ·rw [hy];exact hr1
  ·rcases List.mem_or_eq_of_mem_set hy with hy | hy
   ·exact h.none y hy h7'
   ·rw [hy] at h7';exact absurd h7' h7
  ·rcases List.mem_or_eq_of_mem_set hy with hy | hy
   ·exact h.rule y hy r hr
   ·rw [hy] at hr ⊢;exact hr2 r hr
  ·rw [List.getElem?_set_ne (by omega)] at hy
   exact h0 j y (by omega) hy
structure za (n:Int) (l:List aL):Prop where
 len:l.length≤6
 kinds:∀q∈l,1≤q.Kind∧q.Kind≤8
 few:∀q∈l,q.Rules.length≤3
 none:∀q∈l,7≤q.Kind→q.Rules=[]
 rule:∀q∈l,∀r∈q.Rules,∃calls,oX n q.Kind calls r∧∀c∈calls,∃(i:Nat) (x:aL),c=i∧l[i]?=some x∧x.Kind≤4
theorem o8 {n:Int} (hn:0 < n):bK (il s n) (za n):=by
 refine (cH s (by omega)).bnd fun k hk=>(rj s k.toNat).bnd fun o ho=>?_
 refine (Ai s hn o.2 (o.1.map aL.Kind) (fun z hz=>?_) (l:=o.1) ⟨rfl,fun q hq=>by rw [ho.none q hq];exact Nat.zero_le _,fun q hq _=>ho.none q hq,fun q hq r hr=>by rw [ho.none q hq] at hr;cases hr⟩ ho.none k.toNat).mono fun l hl=>?_
 ·obtain ⟨q,hq,rfl⟩:=List.mem_map.1 hz
  exact ho.kinds q hq
 have hlen:l.length=o.1.length:=by have:=congrArg List.length hl.kind;simpa using this
 have hat:∀(i:Nat) (y:aL),o.1[i]?=some y→∃x,l[i]?=some x∧x.Kind=y.Kind:=fun i y hy=>by
  have hi:i < l.length:=by rw [hlen];exact (Ip hy).1
  refine ⟨_,Iz hi,?_⟩
  have:=congrArg (fun q:List Int=>q[i]?) hl.kind
  simp only [List.getElem?_map,hy,Iz hi,Option.map_some] at this
  exact Option.some.inj this
 refine ⟨by rw [hlen,ho.len];omega,fun q hq=>?_,hl.few,hl.none,fun q hq r hr=>⟨o.2,hl.rule q hq r hr,fun c hc=>?_⟩⟩
 ·have:q.Kind∈o.1.map aL.Kind:=by rw [←hl.kind];exact List.mem_map_of_mem hq
  obtain ⟨y,hy,he⟩:=List.mem_map.1 this
  rw [←he]
  exact ho.kinds y hy
 ·obtain ⟨i,y,h1,h2,h3⟩:=ho.calls c hc
  obtain ⟨x,h4,h5⟩:=hat i y h2
  exact ⟨i,x,h1,h4,by omega⟩
end Go.Proofs.YtpmdfoaadejmkaaGreatDoor
