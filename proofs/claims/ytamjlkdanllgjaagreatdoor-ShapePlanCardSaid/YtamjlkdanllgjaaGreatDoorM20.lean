/-
  The program: a rule, a lookup, as check looks at them.
-/
import Derived.Test.YtamjlkdanllgjaaGreatDoorM19
import Derived.Test.YtamjlkdanllgjaaGreatDoorM10
namespace Go.Proofs.YtamjlkdanllgjaaGreatDoor
open Go.RowKit
attribute [local irreducible] AT bF AX AO Av Kt b8 d9 DA cu
set_option maxRecDepth 8000
def CB (f:aY) (_:Nat) (l:List Int):Int:=ez (!(rC f l)) 41
def Cc (f:aY) (_:Nat) (n:Int):Int:=ez (!(m7 f n)) 32
def xE (kind:Int) (r:bJ):Int:=ez (decide (r.X≠0∧kind≠6)) 40
def pT (r:bJ):List (List Int):=r.Back++(r.In++r.Ahead)
theorem Cr (kind:Int) (r:bJ):bH Tryz.prog 258 [.iptr [aG kind],.iptr (bN r)] (ct (pS kind r,0)):=by
 refine aQ Tryz.func258 rfl Tryz.ntmps258 rfl fun B=>?_
 refine W0a ?_
 exact OS OA
theorem yH (f:aY) (i:Nat) (l:List Int):bH Tryz.prog 263 [aG i,.imm 1 (aL l),.iptr (cf f)] (aG (CB f i l)):=by
 refine aQ Tryz.func263 rfl Tryz.ntmps263 rfl fun B=>?_
 refine W0a ?_
 exact OL NZ
theorem Cs (f:aY) (r:bJ) (h:r.Back.length≤6∧r.In.length≤6∧r.Ahead.length≤6):bH Tryz.prog 260 [.iptr (bN r),.iptr (cf f)] (ct (dx (pT r) (CB f))):=by
 refine aQ Tryz.func260 rfl Tryz.ntmps260 rfl fun B=>?_
 refine W0f ?_
 refine b9 (hc:=⟨xJ [r.Back,r.In,r.Ahead] (by simp [gU];omega)⟩) ?_
 rw [show ([r.Back,r.In,r.Ahead]:List (List (List Int))).flatten=pT r by simp [pT]]
 repeat' (first|refine OE a7 KN ?_)
 refine bh [] [] (Ha (u:= .fn 263 [.iptr (cf f)]) (g:=263) rfl (pT r) _ (fun _ _=>True) [] trivial (dz (fun i x _=>yH f i x))) rfl rfl (Ok _) rfl fun c L1 hc=>?_
 have hc:c=ct (dx (pT r) (CB f)):=hc
 subst hc
 unfold ct
 refine W01 ?_
 exact OS OA
theorem Ct (kind:Int) (r:bJ) (hin:r.In≠[]):bH Tryz.prog 265 [.iptr [aG kind],.iptr (bN r)] (ct (ez (!(qd kind r)) 40,0)):=by
 refine aQ Tryz.func265 rfl Tryz.ntmps265 rfl fun B=>?_
 refine W01 ?_
 refine b9 (hc:=⟨HP kind r hin⟩) ?_
 refine W0a ?_
 exact OS OA
theorem yI (f:aY) (i:Nat) (n:Int):bH Tryz.prog 268 [aG i,aG n,.iptr (cf f)] (aG (Cc f i n)):=by
 refine aQ Tryz.func268 rfl Tryz.ntmps268 rfl fun B=>?_
 refine W0a ?_
 exact OL NZ
theorem Cu (f:aY) (r:bJ):bH Tryz.prog 267 [.iptr (bN r),.iptr (cf f)] (ct (dx r.Out (Cc f))):=by
 refine aQ Tryz.func267 rfl Tryz.ntmps267 rfl fun B=>?_
 refine W01 ?_
 refine bh [] [] (nh (u:= .fn 268 [.iptr (cf f)]) (g:=268) rfl r.Out _ (fun _ _=>True) [] trivial (dz (fun i x _=>yI f i x))) rfl rfl (Ok _) rfl fun c L1 hc=>?_
 have hc:c=ct (dx r.Out (Cc f)):=hc
 subst hc
 unfold ct
 refine W01 ?_
 exact OS OA
theorem Cv (f:aY) (kind:Int) (r:bJ):bH Tryz.prog 269 [.iptr (cf f),.iptr [aG kind],.iptr (bN r)] (ct (oy f kind r,0)):=by
 refine aQ Tryz.func269 rfl Tryz.ntmps269 rfl fun B=>?_
 refine W0a ?_
 exact OS OA
theorem Cw (r:bJ):bH Tryz.prog 271 [.iptr (bN r)] (ct (ez (!([r.X].all gP)) 1,0)):=by
 refine aQ Tryz.func271 rfl Tryz.ntmps271 rfl fun B=>?_
 refine W0G ?_
 exact OS OA
theorem Cx (kind:Int) (r:bJ):bH Tryz.prog 272 [.iptr (bN r),.iptr [aG kind]] (ct (xE kind r,0)):=by
 refine aQ Tryz.func272 rfl Tryz.ntmps272 rfl fun B=>?_
 unfold xE
 by_cases h:r.X≠0
 ·rw [show decide (r.X≠0∧kind≠6)=decide (kind≠6) from decide_eq_decide.2 ⟨fun q=>q.2,fun q=>⟨h,q⟩⟩]
  refine W01 ?_
  rw [decide_eq_true h]
  refine W13 ?_
  exact OS OA
 ·rw [show decide (r.X≠0∧kind≠6)=false from decide_eq_false (fun q=>h q.1)]
  refine W01 ?_
  rw [decide_eq_false h]
  refine W12 ?_
  exact OS OA
def lB (f:aY) (kind:Int) (r:bJ):Int:=(iK [(pS kind r,0),dx (pT r) (CB f),(ez (!(qd kind r)) 40,0),dx r.Out (Cc f),(oy f kind r,0),(ez (!([r.X].all gP)) 1,0),(xE kind r,0)]).1
set_option maxHeartbeats 1000000 in
theorem FC (f:aY) (kind:Int) (r:bJ):bH Tryz.prog 200 [cR f,aG kind,.agg (bN r)] (aG (lB f kind r)):=by
 refine aQ Tryz.func200 rfl Tryz.ntmps200 rfl fun B=>?_
 repeat' (first|refine O1 ?_|refine OE a7 KN ?_|refine br ?_|refine bO a7 ?_|fail)
 refine bh [] [] (jA [⟨258,[.iptr [aG kind],.iptr (bN r)],[],pS kind r,0⟩,⟨260,[.iptr (bN r),.iptr (cf f)],[],(dx (pT r) (CB f)).1,(dx (pT r) (CB f)).2⟩,⟨265,[.iptr [aG kind],.iptr (bN r)],[],ez (!(qd kind r)) 40,0⟩,⟨267,[.iptr (bN r),.iptr (cf f)],[],(dx r.Out (Cc f)).1,(dx r.Out (Cc f)).2⟩,⟨269,[.iptr (cf f),.iptr [aG kind],.iptr (bN r)],[],oy f kind r,0⟩,⟨271,[.iptr (bN r)],[],ez (!([r.X].all gP)) 1,0⟩,⟨272,[.iptr (bN r),.iptr [aG kind]],[],xE kind r,0⟩] ?_) rfl rfl (Ok _) rfl fun c L1 hc=>?_
 ·exact ⟨⟨inferInstance,Cr kind r⟩,fun h1=>⟨⟨inferInstance,Cs f r (Ao h1).2⟩,fun _=>⟨⟨inferInstance,Ct kind r (Ao h1).1⟩,fun _=>⟨⟨inferInstance,Cu f r⟩,fun _=>⟨⟨inferInstance,Cv f kind r⟩,fun _=>⟨⟨inferInstance,Cw r⟩,fun _=>⟨⟨inferInstance,Cx kind r⟩,fun _=>trivial⟩⟩⟩⟩⟩⟩⟩
 rw [kw] at hc
 subst hc
 unfold ct
 refine W01 ?_
 exact OL NZ
instance (f:aY) (kind:Int) (r:bJ):AD Tryz.prog 200 [cR f,aG kind,.agg (bN r)] (aG (lB f kind r)):=⟨FC f kind r⟩
theorem pE (l:bf):bH Tryz.prog 195 [.iptr (bC l)] (ct (ez (decide ((l.Rules.length:Int) > 60)) 2,0)):=by
 refine aQ Tryz.func195 rfl Tryz.ntmps195 rfl fun B=>?_
 rw [show (l.Rules.length:Int)=((l.Rules.map bN).length:Int) by rw [Ou]]
 refine W0a ?_
 exact OS OA
def vv (l:bf):Int:=ez (decide (l.Kind=7∨l.Kind=8) && decide ((l.Rules.length:Int) > 0)) 40
theorem pG (l:bf) (b:Bool) (hb:b=decide (l.Kind=7∨l.Kind=8)):bH Tryz.prog 196 [.iptr [cU b],.iptr (bC l)] (ct (vv l,0)):=by
 refine aQ Tryz.func196 rfl Tryz.ntmps196 rfl fun B=>?_
 unfold vv
 rw [←hb,show (l.Rules.length:Int)=((l.Rules.map bN).length:Int) by rw [Ou]]
 cases b
 ·refine W12 ?_
  exact OS OA
 ·refine W13 ?_
  exact OS OA
theorem uw (f:aY) (l:bf) (i:Nat) (r:bJ):bH Tryz.prog 199 [aG i,.agg (bN r),.iptr (cf f),.iptr (bC l)] (aG (lB f l.Kind r)):=by
 refine aQ Tryz.func199 rfl Tryz.ntmps199 rfl fun B=>?_
 refine W0T ?_
 exact OL NZ
theorem pH (f:aY) (l:bf):bH Tryz.prog 197 [.iptr (bC l),.iptr (cf f)] (ct (dx l.Rules fun _ r=>lB f l.Kind r)):=by
 refine aQ Tryz.func197 rfl Tryz.ntmps197 rfl fun B=>?_
 refine W01 ?_
 refine bh [] [] (H0 (u:= .fn 199 [.iptr (cf f),.iptr (bC l)]) (g:=199) rfl l.Rules _ (fun _ _=>True) [] trivial (dz (w:=fun _ r=>lB f l.Kind r) (fun i x _=>uw f l i x))) rfl rfl (Ok _) rfl fun c L1 hc=>?_
 have hc:c=ct (dx l.Rules fun _ r=>lB f l.Kind r):=hc
 subst hc
 unfold ct
 refine W01 ?_
 exact OS OA
def nE (f:aY) (l:bf):Int:=if l.Kind < 1∨l.Kind > 8 then 42 else (iK [(ez (decide ((l.Rules.length:Int) > 60)) 2,0),(vv l,0),dx l.Rules fun _ r=>lB f l.Kind r]).1
set_option maxHeartbeats 1000000 in
theorem yf (f:aY) (l:bf):bH Tryz.prog 119 [cR f,.agg (bC l)] (aG (nE f l)):=by
 refine aQ Tryz.func119 rfl Tryz.ntmps119 rfl fun B=>?_
 unfold nE
 refine W07 ?_
 refine cH [2,3] (l.Kind < 1∨l.Kind > 8) rfl (fun Q' K=>?_) (fun hC=>?_) (fun hC=>?_)
 ·repeat' (first|refine O1 ?_|refine OE a7 KN ?_|refine ON KN ?_|refine OP OA ?_|refine OR NZ (fun _=>?_) (fun _=>?_))
  all_goals exact K _ _ rfl rfl (by clear K;grind)
 ·rw [if_pos hC]
  refine W01 ?_
  exact OL NZ
 rw [if_neg hC]
 refine W01 ?_
 by_cases h7:l.Kind=7
 ·rw [decide_eq_true h7]
  repeat' (first|refine O1 ?_|refine OE a7 KN ?_|refine OP OA ?_|(apply aO;first|refine OG 5 a7 0 OD ?_|refine OG 5 a7 1 OD ?_|refine OG 5 a7 2 OD ?_|refine OF a7 0 OC ?_|refine OF a7 1 OC ?_|refine OF a7 2 OC ?_|refine OF a7 3 OC ?_|fail)|refine bi a7 fun _=>?_|refine bO a7 ?_|fail)
  refine bh [] [] (jA [⟨195,[.iptr (bC l)],[],ez (decide ((l.Rules.length:Int) > 60)) 2,0⟩,⟨196,[.iptr [cU true],.iptr (bC l)],[],vv l,0⟩,⟨197,[.iptr (bC l),.iptr (cf f)],[],(dx l.Rules fun _ r=>lB f l.Kind r).1,(dx l.Rules fun _ r=>lB f l.Kind r).2⟩] ⟨⟨inferInstance,pE l⟩,fun _=>⟨⟨inferInstance,pG l true (decide_eq_true (Or.inl h7)).symm⟩,fun _=>⟨⟨inferInstance,pH f l⟩,fun _=>trivial⟩⟩⟩) rfl rfl (Ok _) rfl fun c L1 hc=>?_
  rw [kw] at hc
  subst hc
  unfold ct
  refine W01 ?_
  exact OL NZ
 ·rw [decide_eq_false h7]
  repeat' (first|refine O1 ?_|refine OE a7 KN ?_|refine ON KN ?_|(apply aO;first|refine OG 5 a7 0 OD ?_|refine OG 5 a7 1 OD ?_|refine OG 5 a7 2 OD ?_|refine OF a7 0 OC ?_|refine OF a7 1 OC ?_|refine OF a7 2 OC ?_|refine OF a7 3 OC ?_|fail)|refine bi a7 fun _=>?_|refine bO a7 ?_|fail)
  refine bh [] [] (jA [⟨195,[.iptr (bC l)],[],ez (decide ((l.Rules.length:Int) > 60)) 2,0⟩,⟨196,[.iptr [cU (decide (l.Kind=8))],.iptr (bC l)],[],vv l,0⟩,⟨197,[.iptr (bC l),.iptr (cf f)],[],(dx l.Rules fun _ r=>lB f l.Kind r).1,(dx l.Rules fun _ r=>lB f l.Kind r).2⟩] ⟨⟨inferInstance,pE l⟩,fun _=>⟨⟨inferInstance,pG l (decide (l.Kind=8)) (decide_eq_decide.2 ⟨Or.inr,fun h=>h.resolve_left h7⟩)⟩,fun _=>⟨⟨inferInstance,pH f l⟩,fun _=>trivial⟩⟩⟩) rfl rfl (Ok _) rfl fun c L1 hc=>?_
  rw [kw] at hc
  subst hc
  unfold ct
  refine W01 ?_
  exact OL NZ
instance (f:aY) (l:bf):AD Tryz.prog 119 [cR f,.agg (bC l)] (aG (nE f l)):=⟨yf f l⟩
theorem ux (f:aY) (i:Nat) (l:bf):bH Tryz.prog 118 [aG i,.agg (bC l),.iptr (cf f)] (aG (nE f l)):=by
 refine aQ Tryz.func118 rfl Tryz.ntmps118 rfl fun B=>?_
 refine W0T ?_
 exact OL NZ
set_option maxRecDepth 8000
theorem Of {P:Program} {f:FuncId} {fn:Func} {c:Code} (hf:P.funcs[f]?=some fn) (hn:(fn.name== "runtime.NumGoroutine")=false:=by kernel_rfl) (hb:fn.body=some c:=by rfl):bK P f:=⟨aq hf hn hb⟩
instance:bK Tryz.prog 387:=Of Tryz.func387
instance:bK Tryz.prog 388:=Of Tryz.func388
instance:bK Tryz.prog 389:=Of Tryz.func389
instance:bK Tryz.prog 390:=Of Tryz.func390
instance:bK Tryz.prog 391:=Of Tryz.func391
theorem EF:mU Tryz.prog 428 "Len" 387 false 423:=iV (by kernel_rfl)
theorem rH:mU Tryz.prog 428 "Less" 388 false 423:=iV (by kernel_rfl)
theorem rI:mU Tryz.prog 428 "Swap" 389 false 423:=iV (by kernel_rfl)
theorem LN:mU Tryz.prog 428 "Pop" 390 true 423:=iV (by kernel_rfl)
theorem Kb:mU Tryz.prog 428 "Push" 391 true 423:=iV (by kernel_rfl)
section
variable {P:Program} {fr:bZ} {d:Option Tmp} {ty t t':TypeId} {pos:String} {af:Array Edge} {g:Option (Nat×Bool)} {x y:Operand}
theorem JA {z:Int} {n:Nat} (hz:z=(n:Int) - 1) (hx:bw fr x=some (aG z)) (hy:bw fr y=some (aG 2)) (hn:n≤9223372036854775807):Av P ⟨d,.binOp .quo t x y t',ty,pos,af,g⟩ fr (aG (((n - 1) / 2:Nat):Int)):=by
 have h:=IE (P:=P) (d:=d) (ty:=ty) (pos:=pos) (af:=af) (g:=g) (t:=t) (t':=t') hx hy (by omega)
 have e:IntKind.i64.wrap (z.tdiv 2)=(((n - 1) / 2:Nat):Int):=by
  subst hz
  have:((n:Int) - 1).tdiv 2=(((n - 1) / 2:Nat):Int):=by
   cases n with
   | zero=>rfl
   | succ m=>
    rw [show (((m+1:Nat):Int) - 1)=(m:Int) by omega,Int.tdiv_eq_ediv_of_nonneg (by omega)]
    simp
  rw [this,rp (by omega)]
 rwa [e] at h
end
abbrev HI (p:Nat):AV:= .sc (.iface 428 (.pointer (some ⟨p,0,none⟩)))
def CV (k:Option (Nat×List AV)) (n:Nat):Value:=match k with
 | none=> .slice none 0 0
 | some (b,cs)=> .slice (some ⟨b,0,none⟩) n cs.length
def rz (k:Option (Nat×List AV)):AL:=match k with
 | none=>[]
 | some (b,cs)=>[(b,.box cs 3)]
def hst (p:Nat) (k:Option (Nat×List AV)) (l:List Int):AL:=(p,.box [.sc (CV k l.length)] 423)::rz k
def pf (k:Option (Nat×List AV)) (l:List Int):Prop:=match k with
 | none=>l=[]
 | some (_,cs)=>cs.take l.length=l.map aG∧l.length≤cs.length∧0 < cs.length
theorem pf.get {b:Nat} {cs:List AV} {l:List Int} (h:pf (some (b,cs)) l) {a:Int} (h0:0≤a) (h1:a < l.length):∃x,l[a.toNat]?=some x∧cs[0+a.toNat * 1]?=some (aG x):=by
 obtain ⟨x,hx⟩:∃x,l[a.toNat]?=some x:=⟨_,Oz (by omega)⟩
 refine ⟨x,hx,?_⟩
 have h2:=congrArg (fun q=>q[a.toNat]?) h.1
 simp only [List.getElem?_take,List.getElem?_map,hx] at h2
 rw [if_pos (by omega)] at h2
 rw [Nat.zero_add,Nat.mul_one]
 exact h2
theorem yd (v:Value) (n c:Nat) (A:Option Addr) (hv:v= .slice A n c):bH Tryz.prog 387 [.sc v] (aG n):=by
 subst hv
 refine aQ Tryz.func387 rfl Tryz.ntmps387 rfl fun B=>?_
 refine W01 ?_
 exact OL NZ
theorem nD {b n c:Nat} {cs:List AV} {x y a e:Int} (ha:0≤a∧a < n) (he:0≤e∧e < n) (hx:cs[0+a.toNat * 1]?=some (aG x)) (hy:cs[0+e.toNat * 1]?=some (aG y)):AC Tryz.prog 388 [.sc (.slice (some ⟨b,0,none⟩) n c),aG a,aG e] [(b,.box cs 3)] fun r L=>r=cU (decide (x < y))∧L=[(b,.box cs 3)]:=by
 refine aQ Tryz.func388 rfl Tryz.ntmps388 rfl fun B=>?_
 refine W01 ?_
 refine bk 8 [(0,.v),(1,.v),(2,.v),(3,.l),(4,.v),(5,.v),(6,.v),(7,.l)] none ?_ trivial rfl (by kernel_rfl) (by kernel_rfl) (by kernel_rfl) mixed (by kernel_rfl) rfl
 refine W06 ?_
 refine c5 a7 rfl rfl rfl ha trivial ?_
 repeat' (first|refine aE ?_|fail)
 refine cW a7 0 rfl rfl rfl hx trivial ?_
 refine W06 ?_
 refine c5 a7 rfl rfl rfl he trivial ?_
 repeat' (first|refine aE ?_|fail)
 refine cW a7 0 rfl rfl rfl hy trivial ?_
 repeat' (first|fail)
 refine OO [10,14] KN ?_
 refine W0p ?_
 exact OK KN ⟨rfl,rfl⟩
theorem o5 {b n c:Nat} {cs:List AV} {x y a e:Int} (ha:0≤a∧a < n) (he:0≤e∧e < n) (hx:cs[0+a.toNat * 1]?=some (aG x)) (hy:cs[0+e.toNat * 1]?=some (aG y)) (hn:n≤cs.length):AC Tryz.prog 389 [.sc (.slice (some ⟨b,0,none⟩) n c),aG a,aG e] [(b,.box cs 3)] fun _ L=>L=[(b,.box ((cs.set a.toNat (aG y)).set e.toNat (aG x)) 3)]:=by
 refine aQ Tryz.func389 rfl Tryz.ntmps389 rfl fun B=>?_
 repeat' (first|fail)
 refine bk 14 [(0,.v),(1,.v),(2,.v),(3,.v),(4,.v),(5,.v),(6,.v),(7,.l),(8,.v),(9,.v),(10,.v),(11,.l),(12,.v),(13,.e)] none ?_ trivial rfl (by kernel_rfl) (by kernel_rfl) (by kernel_rfl) mixed (by kernel_rfl) rfl
 refine W06 ?_
 refine c5 a7 rfl rfl rfl he trivial ?_
 repeat' (first|refine aE ?_|fail)
 refine cW a7 0 rfl rfl rfl hy trivial ?_
 refine W06 ?_
 refine c5 a7 rfl rfl rfl ha trivial ?_
 repeat' (first|refine aE ?_|fail)
 refine cW a7 0 rfl rfl rfl hx trivial ?_
 repeat' (first|refine aE ?_|fail)
 refine c5 a7 rfl rfl rfl ha trivial ?_
 repeat' (first|refine aE ?_|fail)
 refine vP a7 0 rfl rfl rfl rfl rfl rfl (by rw [Nat.ble_eq];show _+1≤_;omega) trivial fun _=>?_
 repeat' (first|fail)
 refine OO [8,9,17] KN ?_
 refine W0i ?_
 refine ai a7 0 rfl rfl rfl rfl rfl rfl (by rw [Nat.ble_eq];show _+1≤(eR _ _ _).length;rw [jO];omega) ?_
 repeat' (first|refine O1 ?_|fail)
 refine cN rfl ?_
 simp only [fN,eR,Nat.zero_add,Nat.mul_one]
theorem pf.swap {b:Nat} {cs:List AV} {l:List Int} (h:pf (some (b,cs)) l) {a e x y:Int} (ha:0≤a∧a < l.length) (he:0≤e∧e < l.length) (hx:l[a.toNat]?=some x) (hy:l[e.toNat]?=some y):pf (some (b,(cs.set a.toNat (aG y)).set e.toNat (aG x))) ((l.set a.toNat y).set e.toNat x)∧((l.set a.toNat y).set e.toNat x).Perm l:=by
 obtain ⟨h1,h2,h3⟩:=h
 refine ⟨⟨?_,by simpa using h2,by simpa using h3⟩,?_⟩
 ·simp only [List.length_set]
  rw [List.take_set,List.take_set,h1,List.map_set,List.map_set]
 ·obtain ⟨hx1,hx2⟩:=Ol hx
  obtain ⟨hy1,hy2⟩:=Ol hy
  subst hx2;subst hy2
  exact List.set_set_perm hx1 hy1
set_option maxHeartbeats 4000000 in
theorem zB (p b:Nat) (cs0:List AV) (l0:List Int) (h:pf (some (b,cs0)) l0) (i0 n:Nat) (hn:n≤l0.length) (hl:l0.length≤1000000) (hi0:i0≤1000000):AC Tryz.prog 347 [HI p,aG i0,aG n] (hst p (some (b,cs0)) l0) fun _ L=>∃cs' l',L=hst p (some (b,cs')) l'∧pf (some (b,cs')) l'∧l'.Perm l0:=by
 refine aQ Tryz.func347 rfl Tryz.ntmps347 rfl fun B=>?_
 refine W03 ?_
 refine aJ [0,1,2] (α:=Nat×List AV×List Int) (fun x=>[(7,aG x.1)]) (fun x=>x.1≤1000000∧pf (some (b,x.2.1)) x.2.2∧x.2.2.Perm l0) (fun x=>hst p (some (b,x.2.1)) x.2.2) (fun x=>1000001 - x.1) (i0,cs0,l0) rfl ⟨rfl,trivial⟩ ⟨hi0,h,Ok _⟩ (fun _ _ h=>h) ?_
 rintro ⟨i,cs,l⟩ ⟨hi,hok,hpm⟩
 dsimp only at hi hok hpm ⊢
 have hll:=hpm.length_eq
 unfold hst rz CV
 dsimp only
 try dsimp only [Oq,Oo,Om,Oh]
 refine W0c ?_
 refine cH [0,1,2,7,8] (¬(2 * (i:Int)+1 < n)) rfl (fun Q' K=>?_) (fun hC=>?_) (fun hC=>?_)
 ·repeat' (first|refine O1 ?_|refine OE a7 KN ?_|refine ON KN ?_|refine OP OA ?_|refine OR NZ (fun _=>?_) (fun _=>?_))
  all_goals exact K _ _ rfl rfl (by clear K;simp_all <;> omega)
 ·refine W17 ?_
  exact OK KN ⟨cs,l,rfl,hok,hpm⟩
 have hC:=Decidable.not_not.1 hC
 obtain ⟨x,hx,hxc⟩:=hok.get (a:=i) (by omega) (by omega)
 refine W02 ?_
 refine OR NZ (fun h2=>?_) (fun h2=>?_)
 ·have h2':=Oy h2
  obtain ⟨u,hu,huc⟩:=hok.get (a:=2 * (i:Int)+1+1) (by omega) (by omega)
  obtain ⟨v,hv,hvc⟩:=hok.get (a:=2 * (i:Int)+1) (by omega) (by omega)
  refine W10 ?_
  refine dY 0 [(b,.box cs 3)] [(p,.box [.sc (.slice (some ⟨b,0,none⟩) l.length cs.length)] 423)] rH (cF a7 rfl) rfl rfl rfl rfl (List.Perm.swap ..) (nD (x:=u) (y:=v) ⟨by omega,by omega⟩ ⟨by omega,by omega⟩ huc hvc) rfl rfl fun c L1 ⟨hc,hL⟩=>?_
  subst hc;subst hL
  refine aX (aW (List.Perm.swap ..)) ?_
  refine W01 ?_
  refine aw rfl (fun h3=>?_) (fun h3=>?_)
  ·clear h3
   refine W01 ?_
   obtain ⟨y,hy,hyc⟩:=hok.get (a:=(2 * (i:Int)+1+1)) (by omega) (by omega)
   refine dY 0 [(b,.box cs 3)] [(p,.box [.sc (.slice (some ⟨b,0,none⟩) l.length cs.length)] 423)] rH (cF a7 rfl) rfl rfl rfl rfl (List.Perm.swap ..) (nD (x:=y) (y:=x) ⟨by omega,by omega⟩ ⟨by omega,by omega⟩ hyc hxc) rfl rfl fun c L1 ⟨hc,hL⟩=>?_
   subst hc;subst hL
   refine W01 ?_
   refine aw rfl (fun h5=>?_) (fun h5=>?_)
   ·refine W17 ?_
    refine b7 (aW (List.Perm.swap ..)) ?_
    exact OK KN ⟨cs,l,rfl,hok,hpm⟩
   refine W01 ?_
   refine aX (aW (List.Perm.swap ..)) ?_
   refine dY 0 [(b,.box cs 3)] [(p,.box [.sc (.slice (some ⟨b,0,none⟩) l.length cs.length)] 423)] rI (cF a7 rfl) rfl rfl rfl rfl (List.Perm.swap ..) (o5 (x:=x) (y:=y) ⟨by omega,by omega⟩ ⟨by omega,by omega⟩ hxc hyc hok.2.1) rfl rfl fun c L1 hL=>?_
   subst hL
   refine W01 ?_
   have hs:=hok.swap (a:=i) (e:=(2 * (i:Int)+1+1)) ⟨by omega,by omega⟩ ⟨by omega,by omega⟩ hx hy
   refine aD (((2 * (i:Int)+1+1)).toNat,(cs.set ((i:Int)).toNat (aG y)).set ((2 * (i:Int)+1+1)).toNat (aG x),(l.set ((i:Int)).toNat y).set ((2 * (i:Int)+1+1)).toNat x) rfl ⟨by rw [show ((((2 * (i:Int)+1+1)).toNat:Nat):Int)=(2 * (i:Int)+1+1) by omega];rfl,trivial⟩ ⟨by dsimp only;omega,hs.1,hs.2.trans hpm⟩ (by dsimp only;omega) (fun σ w h=>?_)
   have h:=h.perm (List.Perm.swap ..)
   simpa [hst,CV,rz,List.length_set] using h
  ·clear h3
   refine W01 ?_
   obtain ⟨y,hy,hyc⟩:=hok.get (a:=(2 * (i:Int)+1)) (by omega) (by omega)
   refine dY 0 [(b,.box cs 3)] [(p,.box [.sc (.slice (some ⟨b,0,none⟩) l.length cs.length)] 423)] rH (cF a7 rfl) rfl rfl rfl rfl (List.Perm.swap ..) (nD (x:=y) (y:=x) ⟨by omega,by omega⟩ ⟨by omega,by omega⟩ hyc hxc) rfl rfl fun c L1 ⟨hc,hL⟩=>?_
   subst hc;subst hL
   refine W01 ?_
   refine aw rfl (fun h5=>?_) (fun h5=>?_)
   ·refine W17 ?_
    refine b7 (aW (List.Perm.swap ..)) ?_
    exact OK KN ⟨cs,l,rfl,hok,hpm⟩
   refine W01 ?_
   refine aX (aW (List.Perm.swap ..)) ?_
   refine dY 0 [(b,.box cs 3)] [(p,.box [.sc (.slice (some ⟨b,0,none⟩) l.length cs.length)] 423)] rI (cF a7 rfl) rfl rfl rfl rfl (List.Perm.swap ..) (o5 (x:=x) (y:=y) ⟨by omega,by omega⟩ ⟨by omega,by omega⟩ hxc hyc hok.2.1) rfl rfl fun c L1 hL=>?_
   subst hL
   refine W01 ?_
   have hs:=hok.swap (a:=i) (e:=(2 * (i:Int)+1)) ⟨by omega,by omega⟩ ⟨by omega,by omega⟩ hx hy
   refine aD (((2 * (i:Int)+1)).toNat,(cs.set ((i:Int)).toNat (aG y)).set ((2 * (i:Int)+1)).toNat (aG x),(l.set ((i:Int)).toNat y).set ((2 * (i:Int)+1)).toNat x) rfl ⟨by rw [show ((((2 * (i:Int)+1)).toNat:Nat):Int)=(2 * (i:Int)+1) by omega];rfl,trivial⟩ ⟨by dsimp only;omega,hs.1,hs.2.trans hpm⟩ (by dsimp only;omega) (fun σ w h=>?_)
   have h:=h.perm (List.Perm.swap ..)
   simpa [hst,CV,rz,List.length_set] using h
 ·have h2':¬(2 * (i:Int)+1+1 < n):=Ox (by simpa using h2)
  refine W0Q ?_
  obtain ⟨y,hy,hyc⟩:=hok.get (a:=(2 * (i:Int)+1)) (by omega) (by omega)
  refine dY 0 [(b,.box cs 3)] [(p,.box [.sc (.slice (some ⟨b,0,none⟩) l.length cs.length)] 423)] rH (cF a7 rfl) rfl rfl rfl rfl (List.Perm.swap ..) (nD (x:=y) (y:=x) ⟨by omega,by omega⟩ ⟨by omega,by omega⟩ hyc hxc) rfl rfl fun c L1 ⟨hc,hL⟩=>?_
  subst hc;subst hL
  refine W01 ?_
  refine aw rfl (fun h5=>?_) (fun h5=>?_)
  ·refine W17 ?_
   refine b7 (aW (List.Perm.swap ..)) ?_
   exact OK KN ⟨cs,l,rfl,hok,hpm⟩
  refine W01 ?_
  refine aX (aW (List.Perm.swap ..)) ?_
  refine dY 0 [(b,.box cs 3)] [(p,.box [.sc (.slice (some ⟨b,0,none⟩) l.length cs.length)] 423)] rI (cF a7 rfl) rfl rfl rfl rfl (List.Perm.swap ..) (o5 (x:=x) (y:=y) ⟨by omega,by omega⟩ ⟨by omega,by omega⟩ hxc hyc hok.2.1) rfl rfl fun c L1 hL=>?_
  subst hL
  refine W01 ?_
  have hs:=hok.swap (a:=i) (e:=(2 * (i:Int)+1)) ⟨by omega,by omega⟩ ⟨by omega,by omega⟩ hx hy
  refine aD (((2 * (i:Int)+1)).toNat,(cs.set ((i:Int)).toNat (aG y)).set ((2 * (i:Int)+1)).toNat (aG x),(l.set ((i:Int)).toNat y).set ((2 * (i:Int)+1)).toNat x) rfl ⟨by rw [show ((((2 * (i:Int)+1)).toNat:Nat):Int)=(2 * (i:Int)+1) by omega];rfl,trivial⟩ ⟨by dsimp only;omega,hs.1,hs.2.trans hpm⟩ (by dsimp only;omega) (fun σ w h=>?_)
  have h:=h.perm (List.Perm.swap ..)
  simpa [hst,CV,rz,List.length_set] using h
theorem Ml (p b:Nat) (cs0:List AV) (l0:List Int) (h:pf (some (b,cs0)) l0) (j0:Nat) (hj0:j0 < l0.length) (hl:l0.length≤1000000):AC Tryz.prog 348 [HI p,aG j0] (hst p (some (b,cs0)) l0) fun _ L=>∃cs' l',L=hst p (some (b,cs')) l'∧pf (some (b,cs')) l'∧l'.Perm l0:=by
 refine aQ Tryz.func348 rfl Tryz.ntmps348 rfl fun B=>?_
 repeat' (first|refine ak ?_)
 refine aJ [0] (α:=Nat×List AV×List Int) (fun x=>[(1,aG x.1)]) (fun x=>x.1 < l0.length∧pf (some (b,x.2.1)) x.2.2∧x.2.2.Perm l0) (fun x=>hst p (some (b,x.2.1)) x.2.2) (fun x=>x.1) (j0,cs0,l0) rfl ⟨rfl,trivial⟩ ⟨hj0,h,Ok _⟩ (fun _ _ h=>h) ?_
 rintro ⟨j,cs,l⟩ ⟨hi,hok,hpm⟩
 dsimp only at hi hok hpm ⊢
 have hll:=hpm.length_eq
 unfold hst rz CV
 dsimp only
 try dsimp only [Oq,Oo,Om,Oh]
 refine W0c ?_
 refine aR ?_ (JA (n:=j) rfl rfl rfl (by omega))
 obtain ⟨x,hx,hxc⟩:=hok.get (a:=j) (by omega) (by omega)
 obtain ⟨y,hy,hyc⟩:=hok.get (a:=(((j - 1) / 2:Nat):Int)) (by omega) (by omega)
 refine W01 ?_
 refine OR NZ (fun h2=>?_) (fun h2=>?_)
 ·have h2':=Ox h2
  refine W10 ?_
  refine dY 0 [(b,.box cs 3)] [(p,.box [.sc (.slice (some ⟨b,0,none⟩) l.length cs.length)] 423)] rH (cF a7 rfl) rfl rfl rfl rfl (List.Perm.swap ..) (nD (x:=x) (y:=y) ⟨by omega,by omega⟩ ⟨by omega,by omega⟩ hxc hyc) rfl rfl fun c L1 ⟨hc,hL⟩=>?_
  subst hc;subst hL
  refine aX (aW (List.Perm.swap ..)) ?_
  refine W0y ?_
  refine aw rfl (fun h3=>?_) (fun h3=>?_)
  ·repeat' (first|refine O1 ?_|refine fD rfl ?_)
   exact cN rfl ⟨cs,l,rfl,hok,hpm⟩
  refine W01 ?_
  refine dY 0 [(b,.box cs 3)] [(p,.box [.sc (.slice (some ⟨b,0,none⟩) l.length cs.length)] 423)] rI (cF a7 rfl) rfl rfl rfl rfl (List.Perm.swap ..) (o5 (x:=y) (y:=x) ⟨by omega,by omega⟩ ⟨by omega,by omega⟩ hyc hxc hok.2.1) rfl rfl fun c L1 hL=>?_
  subst hL
  refine W01 ?_
  have hs:=hok.swap (a:=(((j - 1) / 2:Nat):Int)) (e:=j) ⟨by omega,by omega⟩ ⟨by omega,by omega⟩ hy hx
  refine aD ((j - 1) / 2,(cs.set (((j - 1) / 2:Nat):Int).toNat (aG x)).set (j:Int).toNat (aG y),(l.set (((j - 1) / 2:Nat):Int).toNat x).set (j:Int).toNat y) rfl ⟨rfl,trivial⟩ ⟨by dsimp only;omega,hs.1,hs.2.trans hpm⟩ (by dsimp only;omega) (fun σ w h=>?_)
  have h:=h.perm (List.Perm.swap ..)
  simpa [hst,CV,rz,List.length_set] using h
 ·repeat' (first|refine O1 ?_|refine fD rfl ?_|refine OE a7 KN ?_|refine OP OA ?_|refine bT rfl ?_)
  exact cN rfl ⟨cs,l,rfl,hok,hpm⟩
theorem Kr (p b:Nat) (cs:List AV) (l:List Int) (h:pf (some (b,cs)) l) (h0:0 < l.length) (hl:l.length≤1000000):AC Tryz.prog 390 [.sc (.pointer (some ⟨p,0,none⟩))] (hst p (some (b,cs)) l) fun c L=>∃z l',c= .sc (.iface 3 (.int .i64 z))∧L=hst p (some (b,cs)) l'∧pf (some (b,cs)) l'∧l=l'++[z]:=by
 refine aQ Tryz.func390 rfl Tryz.ntmps390 rfl fun B=>?_
 unfold hst rz CV
 dsimp only
 obtain ⟨z,hz,hzc⟩:=h.get (a:=(l.length:Int) - 1) (by omega) (by omega)
 have hcl:=h.2.1
 have hc1:=h.2.2
 repeat' (first|refine O1 ?_|refine OE a7 KN ?_|(apply bU;first|refine OH a7 0 OB ?_|refine OH a7 1 OB ?_|refine OH a7 2 OB ?_|refine OH a7 3 OB ?_|refine OJ a7 0 OB ?_|refine OJ a7 1 OB ?_|refine OJ a7 2 OB ?_|refine OM a7 1 NZ (by assumption) rfl ?_|refine OM a7 0 NZ (by assumption) rfl ?_|fail)|(apply aS;refine aR ?_)|(apply aV;first|refine aU a7 ?_|refine aN a7 ?_)|fail)
 refine ET a7 (l.length - 1) rfl rfl rfl (by omega) (by omega) (by omega) rfl ?_
 refine W09 ?_
 refine lU (by kernel_rfl) rfl rfl ?_
 refine W01 ?_
 have hlast:l.take (l.length - 1)++[z]=l:=by
  have h1:l.take (l.length - 1+1)=l:=List.take_of_length_le (by omega)
  rw [List.take_add_one,show l[l.length - 1]?=some z by rw [←hz];congr 1;omega] at h1
  exact h1
 have hlen:(l.take (l.length - 1)).length=l.length - 1:=by rw [List.length_take];omega
 refine OK KN ⟨z,l.take (l.length - 1),rfl,?_,⟨?_,by rw [hlen];omega,hc1⟩,hlast.symm⟩
 ·rw [hlen]
  rfl
 ·rw [hlen,List.map_take,←h.1,List.take_take]
  congr 1
  omega
theorem HS (p:Nat) (k:Option (Nat×List AV)) (l:List Int) (z:Int) (h:pf k l) (hl:l.length≤1000000):AC Tryz.prog 391 [.sc (.pointer (some ⟨p,0,none⟩)),.sc (.iface 3 (.int .i64 z))] (hst p k l) fun _ L=>∃b cs,L=hst p (some (b,cs)) (l++[z])∧pf (some (b,cs)) (l++[z]):=by
 refine aQ Tryz.func391 rfl Tryz.ntmps391 rfl fun B=>?_
 unfold hst rz CV
 cases k with
 | none=>
  have hl0:l=[]:=h
  subst hl0
  dsimp only
  repeat' (first|fail)
  refine bk 8 [(0,.v),(1,.v),(2,.v),(3,.l),(4,.v),(5,.v),(6,.v),(7,.e)] none ?_ trivial rfl (by kernel_rfl) (by kernel_rfl) (by kernel_rfl) mixed (by kernel_rfl) rfl
  refine W0t ?_
  refine vO (by kernel_rfl) rfl trivial ?_
  refine W0K ?_
  refine Bt a7 rfl rfl rfl rfl rfl rfl trivial fun b' cs' h1 h2=>?_
  repeat' (first|fail)
  refine OO [4,11] KN ?_
  refine W0N ?_
  exact b7 (aW (List.Perm.swap ..)) (cN rfl ⟨b',cs',rfl,h1,h2,h2⟩)
 | some q=>
  obtain ⟨b,cs⟩:=q
  dsimp only
  repeat' (first|fail)
  refine bk 8 [(0,.v),(1,.v),(2,.v),(3,.l),(4,.v),(5,.v),(6,.v),(7,.e)] none ?_ trivial rfl (by kernel_rfl) (by kernel_rfl) (by kernel_rfl) mixed (by kernel_rfl) rfl
  refine W0t ?_
  refine vO (by kernel_rfl) rfl trivial ?_
  refine W0K ?_
  refine Bq a7 1 rfl rfl rfl rfl rfl rfl rfl h.2.1 (by omega) (by omega) trivial fun b' cs' h1 h2=>?_
  repeat' (first|fail)
  refine OO [4,11] KN ?_
  refine W0N ?_
  refine b7 (aW (List.Perm.swap ..)) (cN rfl ⟨b',cs',?_,?_,by simpa using h2,by omega⟩)
  ·rw [List.length_append]
   rfl
  ·rw [List.length_append,List.map_append,←h.1]
   exact h1
theorem iS (p b:Nat) (cs:List AV) (l:List Int):hst p (some (b,cs)) l=[(p,.box [.sc (.slice (some ⟨b,0,none⟩) l.length cs.length)] 423),(b,.box cs 3)]:=rfl
set_option maxHeartbeats 1000000 in
theorem Eo (p:Nat) (k:Option (Nat×List AV)) (l:List Int) (z:Int) (h:pf k l) (hl:l.length < 1000000):AC Tryz.prog 312 [HI p,.sc (.iface 3 (.int .i64 z))] (hst p k l) fun _ L=>∃b cs l',L=hst p (some (b,cs)) l'∧pf (some (b,cs)) l'∧l'.Perm (l++[z]):=by
 refine aQ Tryz.func312 rfl Tryz.ntmps312 rfl fun B=>?_
 refine W01 ?_
 refine wm (hst p k l) [] Kb rfl rfl (by rw [List.append_nil]) (HS p k l z h (by omega)) rfl rfl fun c L1 ⟨b,cs,hL,hok⟩=>?_
 subst hL
 rw [List.append_nil,iS]
 have hll:(l++[z]).length=l.length+1:=by simp
 refine W01 ?_
 refine dY 0 [] [(p,.box [.sc (.slice (some ⟨b,0,none⟩) (l++[z]).length cs.length)] 423),(b,.box cs 3)] EF (cF a7 rfl) rfl rfl rfl rfl (Ok _) (yd _ (l++[z]).length _ _ rfl) rfl rfl fun c L1 hc=>?_
 have hc:c=aG (l++[z]).length:=hc
 subst hc
 refine aX (bS (List.sublist_append_right ..)) ?_
 rw [hll]
 refine W1r ?_
 have hup:=Ml p b cs (l++[z]) hok l.length (by rw [hll];omega) (by rw [hll];omega)
 rw [iS,hll] at hup
 rw [show (((l.length+1:Nat):Int) - 1)=(l.length:Int) by omega]
 refine bh _ [] hup rfl rfl (by rw [List.append_nil]) rfl fun c L1 ⟨cs',l',hL,hok',hpm⟩=>?_
 subst hL
 rw [List.append_nil]
 repeat' (first|refine O1 ?_|fail)
 exact cN rfl ⟨b,cs',l',rfl,hok',hpm⟩
set_option maxHeartbeats 1000000 in
theorem Hr (p b:Nat) (cs:List AV) (l:List Int) (h:pf (some (b,cs)) l) (h0:0 < l.length) (hl:l.length≤1000000):AC Tryz.prog 311 [HI p] (hst p (some (b,cs)) l) fun c L=>∃z cs' l',c= .sc (.iface 3 (.int .i64 z))∧L=hst p (some (b,cs')) l'∧pf (some (b,cs')) l'∧(l'++[z]).Perm l:=by
 refine aQ Tryz.func311 rfl Tryz.ntmps311 rfl fun B=>?_
 rw [iS]
 refine W01 ?_
 refine dY 0 [] [(p,.box [.sc (.slice (some ⟨b,0,none⟩) l.length cs.length)] 423),(b,.box cs 3)] EF (cF a7 rfl) rfl rfl rfl rfl (Ok _) (yd _ l.length _ _ rfl) rfl rfl fun c L1 hc=>?_
 have hc:c=aG l.length:=hc
 subst hc
 refine aX (bS (List.sublist_append_right ..)) ?_
 refine W02 ?_
 obtain ⟨x,hx,hxc⟩:=h.get (a:=0) (by omega) (by omega)
 obtain ⟨y,hy,hyc⟩:=h.get (a:=(l.length:Int) - 1) (by omega) (by omega)
 refine dY 0 [(b,.box cs 3)] [(p,.box [.sc (.slice (some ⟨b,0,none⟩) l.length cs.length)] 423)] rI (cF a7 rfl) rfl rfl rfl rfl (List.Perm.swap ..) (o5 (x:=x) (y:=y) ⟨by omega,by omega⟩ ⟨by omega,by omega⟩ hxc hyc h.2.1) rfl rfl fun c L1 hL=>?_
 subst hL
 have hs:=h.swap (a:=0) (e:=(l.length:Int) - 1) ⟨by omega,by omega⟩ ⟨by omega,by omega⟩ hx hy
 have hsl:=hs.2.length_eq
 refine aX (aW (List.Perm.swap ..)) ?_
 refine W01 ?_
 have hdn:=zB p b _ _ hs.1 0 (l.length - 1) (by rw [hsl];omega) (by rw [hsl];omega) (by omega)
 rw [iS,hsl,show (((l.length - 1:Nat)):Int)=(l.length:Int) - 1 by omega] at hdn
 rw [show cs.length=((cs.set (0:Int).toNat (aG y)).set ((l.length:Int) - 1).toNat (aG x)).length by simp]
 refine bh _ [] hdn rfl rfl (by rw [List.append_nil]) rfl fun c L1 ⟨cs',l',hL,hok',hpm⟩=>?_
 subst hL
 rw [List.append_nil]
 refine W01 ?_
 have hl':=hpm.length_eq
 refine wm (hst p (some (b,cs')) l') [] LN rfl rfl (by rw [List.append_nil]) (Kr p b cs' l' hok' (by omega) (by omega)) rfl rfl fun c L1 ⟨z,l2,hc,hL,hok2,he⟩=>?_
 subst hc;subst hL
 rw [List.append_nil]
 refine W01 ?_
 refine OK KN ⟨z,cs',l2,rfl,rfl,hok2,?_⟩
 rw [←he]
 exact hpm.trans hs.2
theorem K3 {k:Option (Nat×List AV)} {l:List Int} (h:pf k l):∃A c,CV k l.length= .slice A l.length c:=by
 cases k with
 | none=>rw [show l=[] from h];exact ⟨_,_,rfl⟩
 | some q=>exact ⟨_,_,rfl⟩
section
variable {P:Program} {fr:bZ} {d:Option Tmp} {ty t t':TypeId} {pos:String} {af:Array Edge} {g:Option (Nat×Bool)} {x y:Operand}
theorem Gl {n:Nat} (hx:bw fr x=some (aG n)) (hy:bw fr y=some (aG 2)) (hn:n≤9223372036854775807):Av P ⟨d,.binOp .quo t x y t',ty,pos,af,g⟩ fr (aG ((n / 2:Nat):Int)):=by
 have h:=IE (P:=P) (d:=d) (ty:=ty) (pos:=pos) (af:=af) (g:=g) (t:=t) (t':=t') hx hy (by omega)
 have e:IntKind.i64.wrap ((n:Int).tdiv 2)=((n / 2:Nat):Int):=by
  have:(n:Int).tdiv 2=((n / 2:Nat):Int):=by
   rw [Int.tdiv_eq_ediv_of_nonneg (by omega)]
   simp
  rw [this,rp (by omega)]
 rwa [e] at h
end
set_option maxHeartbeats 1000000 in
theorem En (p:Nat) (k:Option (Nat×List AV)) (l:List Int) (h:pf k l) (hl:l.length≤1000000):AC Tryz.prog 310 [HI p] (hst p k l) fun _ L=>∃k' l',L=hst p k' l'∧pf k' l'∧l'.Perm l:=by
 refine aQ Tryz.func310 rfl Tryz.ntmps310 rfl fun B=>?_
 obtain ⟨A,cc,hA⟩:=K3 h
 refine W01 ?_
 refine dY 0 [] (hst p k l) EF (cF a7 rfl) rfl rfl rfl rfl (Ok _) (yd _ l.length cc A hA) rfl rfl fun c L1 hc=>?_
 have hc:c=aG l.length:=hc
 subst hc
 refine aX (bS (List.sublist_append_right ..)) ?_
 refine W01 ?_
 refine aR ?_ (Gl (n:=l.length) rfl rfl (by omega))
 repeat' (first|refine ak ?_|refine O1 ?_|refine OE a7 KN ?_|(apply aS;refine aR ?_)|fail)
 refine aJ [0,2] (α:=Nat×Option (Nat×List AV)×List Int) (fun x=>[(3,aG ((x.1:Int) - 1))]) (fun x=>x.1≤l.length / 2∧pf x.2.1 x.2.2∧x.2.2.Perm l) (fun x=>hst p x.2.1 x.2.2) (fun x=>x.1) (l.length / 2,k,l) rfl ⟨rfl,trivial⟩ ⟨Nat.le_refl _,h,Ok _⟩ (fun _ _ h=>h) ?_
 rintro ⟨m,k,l'⟩ ⟨hm,hok,hpm⟩
 dsimp only at hm hok hpm ⊢
 have hll:=hpm.length_eq
 try dsimp only [Oq,Oo,Om,Oh]
 refine W01 ?_
 refine aw rfl (fun h2=>?_) (fun h2=>?_)
 ·have h2':=Oy h2
  cases k with
  | none=>rw [show l'=[] from hok] at hll;simp at hll;omega
  | some q=>
   obtain ⟨b,cs⟩:=q
   refine W03 ?_
   have hdn:=zB p b cs l' hok (m - 1) l.length (by omega) (by omega) (by omega)
   rw [show (((m - 1:Nat)):Int)=(m:Int) - 1 by omega] at hdn
   refine bh _ [] hdn rfl rfl (by rw [List.append_nil]) rfl fun c L1 ⟨cs',l2,hL,hok',hpm'⟩=>?_
   subst hL
   rw [List.append_nil]
   refine W02 ?_
   exact aD (m - 1,some (b,cs'),l2) rfl ⟨by rw [show (((m - 1:Nat)):Int)=(m:Int) - 1 by omega];rfl,trivial⟩ ⟨by dsimp only;omega,hok',hpm'.trans hpm⟩ (by dsimp only;omega) (fun _ _ h=>h)
 ·repeat' (first|refine O1 ?_|fail)
  exact cN rfl ⟨k,l',rfl,hok,hpm⟩
end Go.Proofs.YtamjlkdanllgjaaGreatDoor
