/-
  The program: a rule, a lookup, as check looks at them.
-/
import Derived.Test.YtpbinloeemebkaaGreatM12
import Derived.Test.YtpbinloeemebkaaGreatM10
namespace Go.Proofs.YtpbinloeemebkaaGreat
open Go.RowKit
attribute [local irreducible] AT bO AX AO Av Kt bo dU DA cT
def z8 (f:aL) (_:Nat) (l:List Int):Int:=dX (!(me f l)) 41
def yH (f:aL) (_:Nat) (n:Int):Int:=dX (!(kU f n)) 32
def xE (kind:Int) (r:bv):Int:=dX (decide (r.X≠0∧kind≠6)) 40
def oK (r:bv):List (List Int):=r.Back++(r.In++r.Ahead)
theorem yP (kind:Int) (r:bv):bM Tryz.prog 236 [.iptr [aH kind],.iptr (bJ r)] (ct (lR kind r,0)):=by
 refine aT Tryz.func236 rfl Tryz.ntmps236 rfl fun B=>?_
 repeat' (first|refine go ?_|refine HF a1 F8 ?_|(apply bD;refine bf ?_)|fail)
 exact bc rfl rfl rfl rfl
theorem wk (f:aL) (i:Nat) (l:List Int):bM Tryz.prog 240 [aH i,.imm 1 (aS l),.iptr (cf f)] (aH (z8 f i l)):=by
 refine aT Tryz.func240 rfl Tryz.ntmps240 rfl fun B=>?_
 repeat' (first|refine go ?_|refine HF a1 F8 ?_|(apply bD;refine bf ?_)|fail)
 exact HP HA
theorem yQ (f:aL) (r:bv) (h:r.Back.length≤6∧r.In.length≤6∧r.Ahead.length≤6):bM Tryz.prog 238 [.iptr (bJ r),.iptr (cf f)] (ct (d5 (oK r) (z8 f))):=by
 refine aT Tryz.func238 rfl Tryz.ntmps238 rfl fun B=>?_
 repeat' (first|refine go ?_|refine HF a1 F8 ?_|refine bI a1 ?_|fail)
 refine bf (hc:=⟨px [r.Back,r.In,r.Ahead] (by simp [fO];omega)⟩) ?_
 rw [show ([r.Back,r.In,r.Ahead]:List (List (List Int))).flatten=oK r by simp [oK]]
 repeat' (first|refine HF a1 F8 ?_)
 refine bb [] [] (CP (u:= .fn 240 [.iptr (cf f)]) (g:=240) rfl (oK r) _ (fun _ _=>True) [] trivial (dh (fun i x _=>wk f i x))) rfl rfl (Ho _) rfl fun c L1 hc=>?_
 have hc:c=ct (d5 (oK r) (z8 f)):=hc
 subst hc
 unfold ct
 repeat' (first|refine go ?_|refine HF a1 F8 ?_)
 exact bc rfl rfl rfl rfl
theorem yR (kind:Int) (r:bv) (hin:r.In≠[]):bM Tryz.prog 242 [.iptr [aH kind],.iptr (bJ r)] (ct (dX (!(oR kind r)) 40,0)):=by
 refine aT Tryz.func242 rfl Tryz.ntmps242 rfl fun B=>?_
 repeat' (first|refine go ?_|refine HF a1 F8 ?_)
 refine bf (hc:=⟨Da kind r hin⟩) ?_
 repeat' (first|refine go ?_|refine HF a1 F8 ?_|(apply bD;refine bf ?_)|fail)
 exact bc rfl rfl rfl rfl
theorem wl (f:aL) (i:Nat) (n:Int):bM Tryz.prog 245 [aH i,aH n,.iptr (cf f)] (aH (yH f i n)):=by
 refine aT Tryz.func245 rfl Tryz.ntmps245 rfl fun B=>?_
 repeat' (first|refine go ?_|refine HF a1 F8 ?_|(apply bD;refine bf ?_)|fail)
 exact HP HA
theorem yS (f:aL) (r:bv):bM Tryz.prog 244 [.iptr (bJ r),.iptr (cf f)] (ct (d5 r.Out (yH f))):=by
 refine aT Tryz.func244 rfl Tryz.ntmps244 rfl fun B=>?_
 repeat' (first|refine go ?_|refine HF a1 F8 ?_)
 refine bb [] [] (mE (u:= .fn 245 [.iptr (cf f)]) (g:=245) rfl r.Out _ (fun _ _=>True) [] trivial (dh (fun i x _=>wl f i x))) rfl rfl (Ho _) rfl fun c L1 hc=>?_
 have hc:c=ct (d5 r.Out (yH f)):=hc
 subst hc
 unfold ct
 repeat' (first|refine go ?_|refine HF a1 F8 ?_)
 exact bc rfl rfl rfl rfl
theorem yT (f:aL) (kind:Int) (r:bv):bM Tryz.prog 246 [.iptr (cf f),.iptr [aH kind],.iptr (bJ r)] (ct (kI f kind r,0)):=by
 refine aT Tryz.func246 rfl Tryz.ntmps246 rfl fun B=>?_
 repeat' (first|refine go ?_|refine HF a1 F8 ?_|(apply bD;refine bf ?_)|fail)
 exact bc rfl rfl rfl rfl
theorem yU (r:bv):bM Tryz.prog 248 [.iptr (bJ r)] (ct (dX (!([r.X].all gd)) 1,0)):=by
 refine aT Tryz.func248 rfl Tryz.ntmps248 rfl fun B=>?_
 repeat' (first|refine go ?_|refine HF a1 F8 ?_|refine bI a1 ?_|(apply bD;refine bf ?_)|fail)
 exact bc rfl rfl rfl rfl
theorem yV (kind:Int) (r:bv):bM Tryz.prog 249 [.iptr (bJ r),.iptr [aH kind]] (ct (xE kind r,0)):=by
 refine aT Tryz.func249 rfl Tryz.ntmps249 rfl fun B=>?_
 unfold xE
 by_cases h:r.X≠0
 ·rw [show decide (r.X≠0∧kind≠6)=decide (kind≠6) from decide_eq_decide.2 ⟨fun q=>q.2,fun q=>⟨h,q⟩⟩]
  repeat' (first|refine go ?_|refine HF a1 F8 ?_)
  rw [decide_eq_true h]
  repeat' (first|refine go ?_|refine HF a1 F8 ?_|refine HO F8 ?_|(apply bD;refine bf ?_)|fail)
  exact bc rfl rfl rfl rfl
 ·rw [show decide (r.X≠0∧kind≠6)=false from decide_eq_false (fun q=>h q.1)]
  repeat' (first|refine go ?_|refine HF a1 F8 ?_)
  rw [decide_eq_false h]
  repeat' (first|refine go ?_|refine HF a1 F8 ?_|refine HS HB ?_|(apply bD;refine bf ?_)|fail)
  exact bc rfl rfl rfl rfl
def js (f:aL) (kind:Int) (r:bv):Int:=(gu [(lR kind r,0),d5 (oK r) (z8 f),(dX (!(oR kind r)) 40,0),d5 r.Out (yH f),(kI f kind r,0),(dX (!([r.X].all gd)) 1,0),(xE kind r,0)]).1
set_option maxHeartbeats 1000000 in
theorem BH (f:aL) (kind:Int) (r:bv):bM Tryz.prog 177 [cx f,aH kind,.agg (bJ r)] (aH (js f kind r)):=by
 refine aT Tryz.func177 rfl Tryz.ntmps177 rfl fun B=>?_
 repeat' (first|refine go ?_|refine HF a1 F8 ?_|refine bC ?_|refine bI a1 ?_|fail)
 refine bb [] [] (jh [⟨236,[.iptr [aH kind],.iptr (bJ r)],[],lR kind r,0⟩,⟨238,[.iptr (bJ r),.iptr (cf f)],[],(d5 (oK r) (z8 f)).1,(d5 (oK r) (z8 f)).2⟩,⟨242,[.iptr [aH kind],.iptr (bJ r)],[],dX (!(oR kind r)) 40,0⟩,⟨244,[.iptr (bJ r),.iptr (cf f)],[],(d5 r.Out (yH f)).1,(d5 r.Out (yH f)).2⟩,⟨246,[.iptr (cf f),.iptr [aH kind],.iptr (bJ r)],[],kI f kind r,0⟩,⟨248,[.iptr (bJ r)],[],dX (!([r.X].all gd)) 1,0⟩,⟨249,[.iptr (bJ r),.iptr [aH kind]],[],xE kind r,0⟩] ?_) rfl rfl (Ho _) rfl fun c L1 hc=>?_
 ·exact ⟨⟨inferInstance,yP kind r⟩,fun h1=>⟨⟨inferInstance,yQ f r (xl h1).2⟩,fun _=>⟨⟨inferInstance,yR kind r (xl h1).1⟩,fun _=>⟨⟨inferInstance,yS f r⟩,fun _=>⟨⟨inferInstance,yT f kind r⟩,fun _=>⟨⟨inferInstance,yU r⟩,fun _=>⟨⟨inferInstance,yV kind r⟩,fun _=>trivial⟩⟩⟩⟩⟩⟩⟩
 rw [jR] at hc
 subst hc
 unfold ct
 repeat' (first|refine go ?_|refine HF a1 F8 ?_)
 exact HP HA
instance (f:aL) (kind:Int) (r:bv):AD Tryz.prog 177 [cx f,aH kind,.agg (bJ r)] (aH (js f kind r)):=⟨BH f kind r⟩
theorem oz (l:aP):bM Tryz.prog 172 [.iptr (bF l)] (ct (dX (decide ((l.Rules.length:Int) > 60)) 2,0)):=by
 refine aT Tryz.func172 rfl Tryz.ntmps172 rfl fun B=>?_
 rw [show (l.Rules.length:Int)=((l.Rules.map bJ).length:Int) by rw [Hu]]
 repeat' (first|refine go ?_|refine HF a1 F8 ?_|(apply bD;refine bf ?_)|fail)
 exact bc rfl rfl rfl rfl
def pf (l:aP):Int:=dX (decide (l.Kind=7∨l.Kind=8) && decide ((l.Rules.length:Int) > 0)) 40
theorem oA (l:aP) (b:Bool) (hb:b=decide (l.Kind=7∨l.Kind=8)):bM Tryz.prog 173 [.iptr [c9 b],.iptr (bF l)] (ct (pf l,0)):=by
 refine aT Tryz.func173 rfl Tryz.ntmps173 rfl fun B=>?_
 unfold pf
 rw [←hb,show (l.Rules.length:Int)=((l.Rules.map bJ).length:Int) by rw [Hu]]
 cases b
 ·repeat' (first|refine go ?_|refine HF a1 F8 ?_|refine HS HB ?_|(apply bD;refine bf ?_)|fail)
  exact bc rfl rfl rfl rfl
 ·repeat' (first|refine go ?_|refine HF a1 F8 ?_|refine HO F8 ?_|(apply bD;refine bf ?_)|fail)
  exact bc rfl rfl rfl rfl
theorem su (f:aL) (l:aP) (i:Nat) (r:bv):bM Tryz.prog 176 [aH i,.agg (bJ r),.iptr (cf f),.iptr (bF l)] (aH (js f l.Kind r)):=by
 refine aT Tryz.func176 rfl Tryz.ntmps176 rfl fun B=>?_
 repeat' (first|refine go ?_|refine HF a1 F8 ?_|refine bC ?_|(apply bD;refine bf ?_)|fail)
 exact HP HA
theorem oB (f:aL) (l:aP):bM Tryz.prog 174 [.iptr (bF l),.iptr (cf f)] (ct (d5 l.Rules fun _ r=>js f l.Kind r)):=by
 refine aT Tryz.func174 rfl Tryz.ntmps174 rfl fun B=>?_
 repeat' (first|refine go ?_|refine HF a1 F8 ?_)
 refine bb [] [] (CF (u:= .fn 176 [.iptr (cf f),.iptr (bF l)]) (g:=176) rfl l.Rules _ (fun _ _=>True) [] trivial (dh (w:=fun _ r=>js f l.Kind r) (fun i x _=>su f l i x))) rfl rfl (Ho _) rfl fun c L1 hc=>?_
 have hc:c=ct (d5 l.Rules fun _ r=>js f l.Kind r):=hc
 subst hc
 unfold ct
 repeat' (first|refine go ?_|refine HF a1 F8 ?_)
 exact bc rfl rfl rfl rfl
def lx (f:aL) (l:aP):Int:=if l.Kind < 1∨l.Kind > 8 then 42 else (gu [(dX (decide ((l.Rules.length:Int) > 60)) 2,0),(pf l,0),d5 l.Rules fun _ r=>js f l.Kind r]).1
set_option maxHeartbeats 1000000 in
theorem vT (f:aL) (l:aP):bM Tryz.prog 95 [cx f,.agg (bF l)] (aH (lx f l)):=by
 refine aT Tryz.func95 rfl Tryz.ntmps95 rfl fun B=>?_
 unfold lx
 repeat' (first|refine go ?_|refine HF a1 F8 ?_|refine bC ?_|fail)
 refine cN [2,3] (l.Kind < 1∨l.Kind > 8) rfl (fun Q' K=>?_) (fun hC=>?_) (fun hC=>?_)
 ·repeat' (first|refine go ?_|refine HF a1 F8 ?_|refine HO F8 ?_|refine HS HB ?_|refine be rfl rfl rfl (fun _=>?_) (fun _=>?_))
  all_goals exact K _ _ rfl rfl (by clear K;grind)
 ·rw [if_pos hC]
  repeat' (first|refine go ?_|refine HF a1 F8 ?_)
  exact HP HA
 rw [if_neg hC]
 repeat' (first|refine go ?_|refine HF a1 F8 ?_)
 by_cases h7:l.Kind=7
 ·rw [decide_eq_true h7]
  repeat' (first|refine go ?_|refine HF a1 F8 ?_|refine HS HB ?_|(apply aQ;first|refine HH 5 a1 0 HE ?_|refine HH 5 a1 1 HE ?_|refine HH 5 a1 2 HE ?_|refine HG a1 0 HD ?_|refine HG a1 1 HD ?_|refine HG a1 2 HD ?_|refine HG a1 3 HD ?_|fail)|refine bl a1 fun _=>?_|refine bI a1 ?_|fail)
  refine bb [] [] (jh [⟨172,[.iptr (bF l)],[],dX (decide ((l.Rules.length:Int) > 60)) 2,0⟩,⟨173,[.iptr [c9 true],.iptr (bF l)],[],pf l,0⟩,⟨174,[.iptr (bF l),.iptr (cf f)],[],(d5 l.Rules fun _ r=>js f l.Kind r).1,(d5 l.Rules fun _ r=>js f l.Kind r).2⟩] ⟨⟨inferInstance,oz l⟩,fun _=>⟨⟨inferInstance,oA l true (decide_eq_true (Or.inl h7)).symm⟩,fun _=>⟨⟨inferInstance,oB f l⟩,fun _=>trivial⟩⟩⟩) rfl rfl (Ho _) rfl fun c L1 hc=>?_
  rw [jR] at hc
  subst hc
  unfold ct
  repeat' (first|refine go ?_|refine HF a1 F8 ?_)
  exact HP HA
 ·rw [decide_eq_false h7]
  repeat' (first|refine go ?_|refine HF a1 F8 ?_|refine HO F8 ?_|(apply aQ;first|refine HH 5 a1 0 HE ?_|refine HH 5 a1 1 HE ?_|refine HH 5 a1 2 HE ?_|refine HG a1 0 HD ?_|refine HG a1 1 HD ?_|refine HG a1 2 HD ?_|refine HG a1 3 HD ?_|fail)|refine bl a1 fun _=>?_|refine bI a1 ?_|fail)
  refine bb [] [] (jh [⟨172,[.iptr (bF l)],[],dX (decide ((l.Rules.length:Int) > 60)) 2,0⟩,⟨173,[.iptr [c9 (decide (l.Kind=8))],.iptr (bF l)],[],pf l,0⟩,⟨174,[.iptr (bF l),.iptr (cf f)],[],(d5 l.Rules fun _ r=>js f l.Kind r).1,(d5 l.Rules fun _ r=>js f l.Kind r).2⟩] ⟨⟨inferInstance,oz l⟩,fun _=>⟨⟨inferInstance,oA l (decide (l.Kind=8)) (decide_eq_decide.2 ⟨Or.inr,fun h=>h.resolve_left h7⟩)⟩,fun _=>⟨⟨inferInstance,oB f l⟩,fun _=>trivial⟩⟩⟩) rfl rfl (Ho _) rfl fun c L1 hc=>?_
  rw [jR] at hc
  subst hc
  unfold ct
  repeat' (first|refine go ?_|refine HF a1 F8 ?_)
  exact HP HA
instance (f:aL) (l:aP):AD Tryz.prog 95 [cx f,.agg (bF l)] (aH (lx f l)):=⟨vT f l⟩
theorem sv (f:aL) (i:Nat) (l:aP):bM Tryz.prog 94 [aH i,.agg (bF l),.iptr (cf f)] (aH (lx f l)):=by
 refine aT Tryz.func94 rfl Tryz.ntmps94 rfl fun B=>?_
 repeat' (first|refine go ?_|refine HF a1 F8 ?_|refine bC ?_|(apply bD;refine bf ?_)|fail)
 exact HP HA
theorem Hj {P:Program} {f:FuncId} {fn:Func} {c:Code} (hf:P.funcs[f]?=some fn) (hn:(fn.name== "runtime.NumGoroutine")=false:=by kernel_rfl) (hb:fn.body=some c:=by rfl):bK P f:=⟨am hf hn hb⟩
instance:bK Tryz.prog 305:=Hj Tryz.func305
instance:bK Tryz.prog 306:=Hj Tryz.func306
instance:bK Tryz.prog 307:=Hj Tryz.func307
instance:bK Tryz.prog 308:=Hj Tryz.func308
instance:bK Tryz.prog 309:=Hj Tryz.func309
theorem B4:mw Tryz.prog 333 "Len" 305 false 328:=iA (by kernel_rfl)
theorem pU:mw Tryz.prog 333 "Less" 306 false 328:=iA (by kernel_rfl)
theorem pV:mw Tryz.prog 333 "Swap" 307 false 328:=iA (by kernel_rfl)
theorem FR:mw Tryz.prog 333 "Pop" 308 true 328:=iA (by kernel_rfl)
theorem EM:mw Tryz.prog 333 "Push" 309 true 328:=iA (by kernel_rfl)
section
variable {P:Program} {fr:c6} {d:Option Tmp} {ty t t':TypeId} {pos:String} {af:Array Edge} {g:Option (Nat×Bool)} {x y:Operand}
theorem Ei {z:Int} {n:Nat} (hz:z=(n:Int) - 1) (hx:bt fr x=some (aH z)) (hy:bt fr y=some (aH 2)) (hn:n≤9223372036854775807):Av P ⟨d,.binOp .quo t x y t',ty,pos,af,g⟩ fr (aH (((n - 1) / 2:Nat):Int)):=by
 have h:=DI (P:=P) (d:=d) (ty:=ty) (pos:=pos) (af:=af) (g:=g) (t:=t) (t':=t') hx hy (by omega)
 have e:IntKind.i64.wrap (z.tdiv 2)=(((n - 1) / 2:Nat):Int):=by
  subst hz
  have:((n:Int) - 1).tdiv 2=(((n - 1) / 2:Nat):Int):=by
   cases n with
   | zero=>rfl
   | succ m=>
    rw [show (((m+1:Nat):Int) - 1)=(m:Int) by omega,Int.tdiv_eq_ediv_of_nonneg (by omega)]
    simp
  rw [this,nI (by omega)]
 rwa [e] at h
end
abbrev HI (p:Nat):AV:= .sc (.iface 333 (.pointer (some ⟨p,0,none⟩)))
def tR (k:Option (Nat×List AV)) (n:Nat):Value:=match k with
 | none=> .slice none 0 0
 | some (b,cs)=> .slice (some ⟨b,0,none⟩) n cs.length
def pN (k:Option (Nat×List AV)):AL:=match k with
 | none=>[]
 | some (b,cs)=>[(b,.box cs 3)]
def hst (p:Nat) (k:Option (Nat×List AV)) (l:List Int):AL:=(p,.box [.sc (tR k l.length)] 328)::pN k
def oe (k:Option (Nat×List AV)) (l:List Int):Prop:=match k with
 | none=>l=[]
 | some (_,cs)=>cs.take l.length=l.map aH∧l.length≤cs.length∧0 < cs.length
theorem oe.get {b:Nat} {cs:List AV} {l:List Int} (h:oe (some (b,cs)) l) {a:Int} (h0:0≤a) (h1:a < l.length):∃x,l[a.toNat]?=some x∧cs[0+a.toNat * 1]?=some (aH x):=by
 obtain ⟨x,hx⟩:∃x,l[a.toNat]?=some x:=⟨_,Hz (by omega)⟩
 refine ⟨x,hx,?_⟩
 have h2:=congrArg (fun q=>q[a.toNat]?) h.1
 simp only [List.getElem?_take,List.getElem?_map,hx] at h2
 rw [if_pos (by omega)] at h2
 rw [Nat.zero_add,Nat.mul_one]
 exact h2
theorem vR (v:Value) (n c:Nat) (A:Option Addr) (hv:v= .slice A n c):bM Tryz.prog 305 [.sc v] (aH n):=by
 subst hv
 refine aT Tryz.func305 rfl Tryz.ntmps305 rfl fun B=>?_
 repeat' (first|refine go ?_|refine HF a1 F8 ?_)
 exact HP HA
theorem mO {b n c:Nat} {cs:List AV} {x y a e:Int} (ha:0≤a∧a < n) (he:0≤e∧e < n) (hx:cs[0+a.toNat * 1]?=some (aH x)) (hy:cs[0+e.toNat * 1]?=some (aH y)):AC Tryz.prog 306 [.sc (.slice (some ⟨b,0,none⟩) n c),aH a,aH e] [(b,.box cs 3)] fun r L=>r=c9 (decide (x < y))∧L=[(b,.box cs 3)]:=by
 refine aT Tryz.func306 rfl Tryz.ntmps306 rfl fun B=>?_
 repeat' (first|refine go ?_|refine HF a1 F8 ?_)
 refine bj 8 [(0,.v),(1,.v),(2,.v),(3,.l),(4,.v),(5,.v),(6,.v),(7,.l)] none ?_ trivial rfl (by kernel_rfl) (by kernel_rfl) (by kernel_rfl) mixed (by kernel_rfl) rfl
 repeat' (first|refine aE ?_|refine ba a1 ?_|fail)
 refine dx a1 rfl rfl rfl ha trivial ?_
 repeat' (first|refine aE ?_|fail)
 refine bX a1 0 rfl rfl rfl hx trivial ?_
 repeat' (first|refine aE ?_|refine ba a1 ?_|fail)
 refine dx a1 rfl rfl rfl he trivial ?_
 repeat' (first|refine aE ?_|fail)
 refine bX a1 0 rfl rfl rfl hy trivial ?_
 repeat' (first|fail)
 refine HR [10,14] F8 ?_
 repeat' (first|refine go ?_|refine a8 ?_|refine HF a1 F8 ?_)
 exact HN F8 ⟨rfl,rfl⟩
theorem nc {b n c:Nat} {cs:List AV} {x y a e:Int} (ha:0≤a∧a < n) (he:0≤e∧e < n) (hx:cs[0+a.toNat * 1]?=some (aH x)) (hy:cs[0+e.toNat * 1]?=some (aH y)) (hn:n≤cs.length):AC Tryz.prog 307 [.sc (.slice (some ⟨b,0,none⟩) n c),aH a,aH e] [(b,.box cs 3)] fun _ L=>L=[(b,.box ((cs.set a.toNat (aH y)).set e.toNat (aH x)) 3)]:=by
 refine aT Tryz.func307 rfl Tryz.ntmps307 rfl fun B=>?_
 repeat' (first|fail)
 refine bj 14 [(0,.v),(1,.v),(2,.v),(3,.v),(4,.v),(5,.v),(6,.v),(7,.l),(8,.v),(9,.v),(10,.v),(11,.l),(12,.v),(13,.e)] none ?_ trivial rfl (by kernel_rfl) (by kernel_rfl) (by kernel_rfl) mixed (by kernel_rfl) rfl
 repeat' (first|refine aE ?_|refine ba a1 ?_|fail)
 refine dx a1 rfl rfl rfl he trivial ?_
 repeat' (first|refine aE ?_|fail)
 refine bX a1 0 rfl rfl rfl hy trivial ?_
 repeat' (first|refine aE ?_|refine ba a1 ?_|fail)
 refine dx a1 rfl rfl rfl ha trivial ?_
 repeat' (first|refine aE ?_|fail)
 refine bX a1 0 rfl rfl rfl hx trivial ?_
 repeat' (first|refine aE ?_|fail)
 refine dx a1 rfl rfl rfl ha trivial ?_
 repeat' (first|refine aE ?_|fail)
 refine tC a1 0 rfl rfl rfl rfl rfl rfl (by rw [Nat.ble_eq];show _+1≤_;omega) trivial fun _=>?_
 repeat' (first|fail)
 refine HR [8,9,17] F8 ?_
 repeat' (first|(apply aX;first|refine aU a1 ?_|refine aK a1 ?_)|fail)
 refine ah a1 0 rfl rfl rfl rfl rfl rfl (by rw [Nat.ble_eq];show _+1≤(gg _ _ _).length;rw [gQ];omega) ?_
 repeat' (first|refine go ?_|fail)
 refine ce rfl ?_
 simp only [fi,gg,Nat.zero_add,Nat.mul_one]
theorem oe.swap {b:Nat} {cs:List AV} {l:List Int} (h:oe (some (b,cs)) l) {a e x y:Int} (ha:0≤a∧a < l.length) (he:0≤e∧e < l.length) (hx:l[a.toNat]?=some x) (hy:l[e.toNat]?=some y):oe (some (b,(cs.set a.toNat (aH y)).set e.toNat (aH x))) ((l.set a.toNat y).set e.toNat x)∧((l.set a.toNat y).set e.toNat x).Perm l:=by
 obtain ⟨h1,h2,h3⟩:=h
 refine ⟨⟨?_,by simpa using h2,by simpa using h3⟩,?_⟩
 ·simp only [List.length_set]
  rw [List.take_set,List.take_set,h1,List.map_set,List.map_set]
 ·obtain ⟨hx1,hx2⟩:=Hp hx
  obtain ⟨hy1,hy2⟩:=Hp hy
  subst hx2;subst hy2
  exact List.set_set_perm hx1 hy1
set_option maxHeartbeats 4000000 in
theorem wR (p b:Nat) (cs0:List AV) (l0:List Int) (h:oe (some (b,cs0)) l0) (i0 n:Nat) (hn:n≤l0.length) (hl:l0.length≤1000000) (hi0:i0≤1000000):AC Tryz.prog 282 [HI p,aH i0,aH n] (hst p (some (b,cs0)) l0) fun _ L=>∃cs' l',L=hst p (some (b,cs')) l'∧oe (some (b,cs')) l'∧l'.Perm l0:=by
 refine aT Tryz.func282 rfl Tryz.ntmps282 rfl fun B=>?_
 repeat' (first|refine go ?_|refine ak ?_|refine HF a1 F8 ?_)
 refine aR [0,1,2] (α:=Nat×List AV×List Int) (fun x=>[(7,aH x.1)]) (fun x=>x.1≤1000000∧oe (some (b,x.2.1)) x.2.2∧x.2.2.Perm l0) (fun x=>hst p (some (b,x.2.1)) x.2.2) (fun x=>1000001 - x.1) (i0,cs0,l0) rfl ⟨rfl,trivial⟩ ⟨hi0,h,Ho _⟩ (fun _ _ h=>h) ?_
 rintro ⟨i,cs,l⟩ ⟨hi,hok,hpm⟩
 dsimp only at hi hok hpm ⊢
 have hll:=hpm.length_eq
 unfold hst pN tR
 dsimp only
 try dsimp only [Hs,Hr,Hq,Hl]
 repeat' (first|refine go ?_|refine ak ?_|refine HF a1 F8 ?_|(apply aZ;refine aY ?_)|fail)
 refine cN [0,1,2,7,8] (¬(2 * (i:Int)+1 < n)) rfl (fun Q' K=>?_) (fun hC=>?_) (fun hC=>?_)
 ·repeat' (first|refine go ?_|refine HF a1 F8 ?_|refine HO F8 ?_|refine HS HB ?_|refine be rfl rfl rfl (fun _=>?_) (fun _=>?_))
  all_goals exact K _ _ rfl rfl (by clear K;simp_all <;> omega)
 ·repeat' (first|refine go ?_|refine bZ rfl ?_|refine HF a1 F8 ?_)
  exact HN F8 ⟨cs,l,rfl,hok,hpm⟩
 have hC:=Decidable.not_not.1 hC
 obtain ⟨x,hx,hxc⟩:=hok.get (a:=i) (by omega) (by omega)
 repeat' (first|refine go ?_|refine HF a1 F8 ?_|(apply aZ;refine aY ?_)|fail)
 refine be rfl rfl rfl (fun h2=>?_) (fun h2=>?_)
 ·have h2':=Hy h2
  obtain ⟨u,hu,huc⟩:=hok.get (a:=2 * (i:Int)+1+1) (by omega) (by omega)
  obtain ⟨v,hv,hvc⟩:=hok.get (a:=2 * (i:Int)+1) (by omega) (by omega)
  repeat' (first|refine HF a1 F8 ?_|refine HO F8 ?_)
  refine dK 0 [(b,.box cs 3)] [(p,.box [.sc (.slice (some ⟨b,0,none⟩) l.length cs.length)] 328)] pU (cz a1 rfl) rfl rfl rfl rfl (List.Perm.swap ..) (mO (x:=u) (y:=v) ⟨by omega,by omega⟩ ⟨by omega,by omega⟩ huc hvc) rfl rfl fun c L1 ⟨hc,hL⟩=>?_
  subst hc;subst hL
  refine aV (aJ (List.Perm.swap ..)) ?_
  repeat' (first|refine go ?_|refine HF a1 F8 ?_)
  refine ay rfl (fun h3=>?_) (fun h3=>?_)
  ·clear h3
   repeat' (first|refine go ?_|refine HF a1 F8 ?_)
   obtain ⟨y,hy,hyc⟩:=hok.get (a:=(2 * (i:Int)+1+1)) (by omega) (by omega)
   refine dK 0 [(b,.box cs 3)] [(p,.box [.sc (.slice (some ⟨b,0,none⟩) l.length cs.length)] 328)] pU (cz a1 rfl) rfl rfl rfl rfl (List.Perm.swap ..) (mO (x:=y) (y:=x) ⟨by omega,by omega⟩ ⟨by omega,by omega⟩ hyc hxc) rfl rfl fun c L1 ⟨hc,hL⟩=>?_
   subst hc;subst hL
   repeat' (first|refine go ?_|refine HF a1 F8 ?_)
   refine ay rfl (fun h5=>?_) (fun h5=>?_)
   ·repeat' (first|refine go ?_|refine bZ rfl ?_|refine HF a1 F8 ?_)
    refine bk (aJ (List.Perm.swap ..)) ?_
    exact HN F8 ⟨cs,l,rfl,hok,hpm⟩
   repeat' (first|refine go ?_|refine HF a1 F8 ?_)
   refine aV (aJ (List.Perm.swap ..)) ?_
   refine dK 0 [(b,.box cs 3)] [(p,.box [.sc (.slice (some ⟨b,0,none⟩) l.length cs.length)] 328)] pV (cz a1 rfl) rfl rfl rfl rfl (List.Perm.swap ..) (nc (x:=x) (y:=y) ⟨by omega,by omega⟩ ⟨by omega,by omega⟩ hxc hyc hok.2.1) rfl rfl fun c L1 hL=>?_
   subst hL
   repeat' (first|refine go ?_|refine HF a1 F8 ?_)
   have hs:=hok.swap (a:=i) (e:=(2 * (i:Int)+1+1)) ⟨by omega,by omega⟩ ⟨by omega,by omega⟩ hx hy
   refine aF (((2 * (i:Int)+1+1)).toNat,(cs.set ((i:Int)).toNat (aH y)).set ((2 * (i:Int)+1+1)).toNat (aH x),(l.set ((i:Int)).toNat y).set ((2 * (i:Int)+1+1)).toNat x) rfl ⟨by rw [show ((((2 * (i:Int)+1+1)).toNat:Nat):Int)=(2 * (i:Int)+1+1) by omega];rfl,trivial⟩ ⟨by dsimp only;omega,hs.1,hs.2.trans hpm⟩ (by dsimp only;omega) (fun σ w h=>?_)
   have h:=h.perm (List.Perm.swap ..)
   simpa [hst,tR,pN,List.length_set] using h
  ·clear h3
   repeat' (first|refine go ?_|refine HF a1 F8 ?_)
   obtain ⟨y,hy,hyc⟩:=hok.get (a:=(2 * (i:Int)+1)) (by omega) (by omega)
   refine dK 0 [(b,.box cs 3)] [(p,.box [.sc (.slice (some ⟨b,0,none⟩) l.length cs.length)] 328)] pU (cz a1 rfl) rfl rfl rfl rfl (List.Perm.swap ..) (mO (x:=y) (y:=x) ⟨by omega,by omega⟩ ⟨by omega,by omega⟩ hyc hxc) rfl rfl fun c L1 ⟨hc,hL⟩=>?_
   subst hc;subst hL
   repeat' (first|refine go ?_|refine HF a1 F8 ?_)
   refine ay rfl (fun h5=>?_) (fun h5=>?_)
   ·repeat' (first|refine go ?_|refine bZ rfl ?_|refine HF a1 F8 ?_)
    refine bk (aJ (List.Perm.swap ..)) ?_
    exact HN F8 ⟨cs,l,rfl,hok,hpm⟩
   repeat' (first|refine go ?_|refine HF a1 F8 ?_)
   refine aV (aJ (List.Perm.swap ..)) ?_
   refine dK 0 [(b,.box cs 3)] [(p,.box [.sc (.slice (some ⟨b,0,none⟩) l.length cs.length)] 328)] pV (cz a1 rfl) rfl rfl rfl rfl (List.Perm.swap ..) (nc (x:=x) (y:=y) ⟨by omega,by omega⟩ ⟨by omega,by omega⟩ hxc hyc hok.2.1) rfl rfl fun c L1 hL=>?_
   subst hL
   repeat' (first|refine go ?_|refine HF a1 F8 ?_)
   have hs:=hok.swap (a:=i) (e:=(2 * (i:Int)+1)) ⟨by omega,by omega⟩ ⟨by omega,by omega⟩ hx hy
   refine aF (((2 * (i:Int)+1)).toNat,(cs.set ((i:Int)).toNat (aH y)).set ((2 * (i:Int)+1)).toNat (aH x),(l.set ((i:Int)).toNat y).set ((2 * (i:Int)+1)).toNat x) rfl ⟨by rw [show ((((2 * (i:Int)+1)).toNat:Nat):Int)=(2 * (i:Int)+1) by omega];rfl,trivial⟩ ⟨by dsimp only;omega,hs.1,hs.2.trans hpm⟩ (by dsimp only;omega) (fun σ w h=>?_)
   have h:=h.perm (List.Perm.swap ..)
   simpa [hst,tR,pN,List.length_set] using h
 ·have h2':¬(2 * (i:Int)+1+1 < n):=Hx (by simpa using h2)
  repeat' (first|refine go ?_|refine HF a1 F8 ?_|refine HS HB ?_|refine bL rfl ?_)
  obtain ⟨y,hy,hyc⟩:=hok.get (a:=(2 * (i:Int)+1)) (by omega) (by omega)
  refine dK 0 [(b,.box cs 3)] [(p,.box [.sc (.slice (some ⟨b,0,none⟩) l.length cs.length)] 328)] pU (cz a1 rfl) rfl rfl rfl rfl (List.Perm.swap ..) (mO (x:=y) (y:=x) ⟨by omega,by omega⟩ ⟨by omega,by omega⟩ hyc hxc) rfl rfl fun c L1 ⟨hc,hL⟩=>?_
  subst hc;subst hL
  repeat' (first|refine go ?_|refine HF a1 F8 ?_)
  refine ay rfl (fun h5=>?_) (fun h5=>?_)
  ·repeat' (first|refine go ?_|refine bZ rfl ?_|refine HF a1 F8 ?_)
   refine bk (aJ (List.Perm.swap ..)) ?_
   exact HN F8 ⟨cs,l,rfl,hok,hpm⟩
  repeat' (first|refine go ?_|refine HF a1 F8 ?_)
  refine aV (aJ (List.Perm.swap ..)) ?_
  refine dK 0 [(b,.box cs 3)] [(p,.box [.sc (.slice (some ⟨b,0,none⟩) l.length cs.length)] 328)] pV (cz a1 rfl) rfl rfl rfl rfl (List.Perm.swap ..) (nc (x:=x) (y:=y) ⟨by omega,by omega⟩ ⟨by omega,by omega⟩ hxc hyc hok.2.1) rfl rfl fun c L1 hL=>?_
  subst hL
  repeat' (first|refine go ?_|refine HF a1 F8 ?_)
  have hs:=hok.swap (a:=i) (e:=(2 * (i:Int)+1)) ⟨by omega,by omega⟩ ⟨by omega,by omega⟩ hx hy
  refine aF (((2 * (i:Int)+1)).toNat,(cs.set ((i:Int)).toNat (aH y)).set ((2 * (i:Int)+1)).toNat (aH x),(l.set ((i:Int)).toNat y).set ((2 * (i:Int)+1)).toNat x) rfl ⟨by rw [show ((((2 * (i:Int)+1)).toNat:Nat):Int)=(2 * (i:Int)+1) by omega];rfl,trivial⟩ ⟨by dsimp only;omega,hs.1,hs.2.trans hpm⟩ (by dsimp only;omega) (fun σ w h=>?_)
  have h:=h.perm (List.Perm.swap ..)
  simpa [hst,tR,pN,List.length_set] using h
theorem Gc (p b:Nat) (cs0:List AV) (l0:List Int) (h:oe (some (b,cs0)) l0) (j0:Nat) (hj0:j0 < l0.length) (hl:l0.length≤1000000):AC Tryz.prog 283 [HI p,aH j0] (hst p (some (b,cs0)) l0) fun _ L=>∃cs' l',L=hst p (some (b,cs')) l'∧oe (some (b,cs')) l'∧l'.Perm l0:=by
 refine aT Tryz.func283 rfl Tryz.ntmps283 rfl fun B=>?_
 repeat' (first|refine ak ?_)
 refine aR [0] (α:=Nat×List AV×List Int) (fun x=>[(1,aH x.1)]) (fun x=>x.1 < l0.length∧oe (some (b,x.2.1)) x.2.2∧x.2.2.Perm l0) (fun x=>hst p (some (b,x.2.1)) x.2.2) (fun x=>x.1) (j0,cs0,l0) rfl ⟨rfl,trivial⟩ ⟨hj0,h,Ho _⟩ (fun _ _ h=>h) ?_
 rintro ⟨j,cs,l⟩ ⟨hi,hok,hpm⟩
 dsimp only at hi hok hpm ⊢
 have hll:=hpm.length_eq
 unfold hst pN tR
 dsimp only
 try dsimp only [Hs,Hr,Hq,Hl]
 repeat' (first|refine go ?_|refine ak ?_|refine HF a1 F8 ?_|(apply aZ;refine aY ?_)|fail)
 refine aY ?_ (Ei (n:=j) rfl rfl rfl (by omega))
 obtain ⟨x,hx,hxc⟩:=hok.get (a:=j) (by omega) (by omega)
 obtain ⟨y,hy,hyc⟩:=hok.get (a:=(((j - 1) / 2:Nat):Int)) (by omega) (by omega)
 repeat' (first|refine go ?_|refine HF a1 F8 ?_)
 refine be rfl rfl rfl (fun h2=>?_) (fun h2=>?_)
 ·have h2':=Hx h2
  repeat' (first|refine HF a1 F8 ?_|refine HO F8 ?_)
  refine dK 0 [(b,.box cs 3)] [(p,.box [.sc (.slice (some ⟨b,0,none⟩) l.length cs.length)] 328)] pU (cz a1 rfl) rfl rfl rfl rfl (List.Perm.swap ..) (mO (x:=x) (y:=y) ⟨by omega,by omega⟩ ⟨by omega,by omega⟩ hxc hyc) rfl rfl fun c L1 ⟨hc,hL⟩=>?_
  subst hc;subst hL
  refine aV (aJ (List.Perm.swap ..)) ?_
  repeat' (first|refine go ?_|refine HF a1 F8 ?_|refine HO F8 ?_)
  refine ay rfl (fun h3=>?_) (fun h3=>?_)
  ·repeat' (first|refine go ?_|refine bZ rfl ?_)
   exact ce rfl ⟨cs,l,rfl,hok,hpm⟩
  repeat' (first|refine go ?_|refine HF a1 F8 ?_)
  refine dK 0 [(b,.box cs 3)] [(p,.box [.sc (.slice (some ⟨b,0,none⟩) l.length cs.length)] 328)] pV (cz a1 rfl) rfl rfl rfl rfl (List.Perm.swap ..) (nc (x:=y) (y:=x) ⟨by omega,by omega⟩ ⟨by omega,by omega⟩ hyc hxc hok.2.1) rfl rfl fun c L1 hL=>?_
  subst hL
  repeat' (first|refine go ?_|refine HF a1 F8 ?_)
  have hs:=hok.swap (a:=(((j - 1) / 2:Nat):Int)) (e:=j) ⟨by omega,by omega⟩ ⟨by omega,by omega⟩ hy hx
  refine aF ((j - 1) / 2,(cs.set (((j - 1) / 2:Nat):Int).toNat (aH x)).set (j:Int).toNat (aH y),(l.set (((j - 1) / 2:Nat):Int).toNat x).set (j:Int).toNat y) rfl ⟨rfl,trivial⟩ ⟨by dsimp only;omega,hs.1,hs.2.trans hpm⟩ (by dsimp only;omega) (fun σ w h=>?_)
  have h:=h.perm (List.Perm.swap ..)
  simpa [hst,tR,pN,List.length_set] using h
 ·repeat' (first|refine go ?_|refine bZ rfl ?_|refine HF a1 F8 ?_|refine HS HB ?_|refine bR rfl ?_)
  exact ce rfl ⟨cs,l,rfl,hok,hpm⟩
theorem EX (p b:Nat) (cs:List AV) (l:List Int) (h:oe (some (b,cs)) l) (h0:0 < l.length) (hl:l.length≤1000000):AC Tryz.prog 308 [.sc (.pointer (some ⟨p,0,none⟩))] (hst p (some (b,cs)) l) fun c L=>∃z l',c= .sc (.iface 3 (.int .i64 z))∧L=hst p (some (b,cs)) l'∧oe (some (b,cs)) l'∧l=l'++[z]:=by
 refine aT Tryz.func308 rfl Tryz.ntmps308 rfl fun B=>?_
 unfold hst pN tR
 dsimp only
 obtain ⟨z,hz,hzc⟩:=h.get (a:=(l.length:Int) - 1) (by omega) (by omega)
 have hcl:=h.2.1
 have hc1:=h.2.2
 repeat' (first|refine go ?_|refine HF a1 F8 ?_|(apply bh;first|refine HJ a1 0 HC ?_|refine HJ a1 1 HC ?_|refine HJ a1 2 HC ?_|refine HJ a1 3 HC ?_|refine HK a1 0 HC ?_|refine HK a1 1 HC ?_|refine HK a1 2 HC ?_|refine HM a1 1 HA (by assumption) rfl ?_|refine HM a1 0 HA (by assumption) rfl ?_|fail)|(apply aZ;refine aY ?_)|(apply aX;first|refine aU a1 ?_|refine aK a1 ?_)|fail)
 refine Bg a1 (l.length - 1) rfl rfl rfl (by omega) (by omega) (by omega) rfl ?_
 repeat' (first|refine go ?_|refine HF a1 F8 ?_|(apply aQ;first|refine HG a1 0 HD ?_|refine HG a1 1 HD ?_|refine HG a1 2 HD ?_|refine HG a1 3 HD ?_|fail))
 refine mT (by kernel_rfl) rfl rfl ?_
 repeat' (first|refine go ?_|refine HF a1 F8 ?_)
 have hlast:l.take (l.length - 1)++[z]=l:=by
  have h1:l.take (l.length - 1+1)=l:=List.take_of_length_le (by omega)
  rw [List.take_add_one,show l[l.length - 1]?=some z by rw [←hz];congr 1;omega] at h1
  exact h1
 have hlen:(l.take (l.length - 1)).length=l.length - 1:=by rw [List.length_take];omega
 refine HN F8 ⟨z,l.take (l.length - 1),rfl,?_,⟨?_,by rw [hlen];omega,hc1⟩,hlast.symm⟩
 ·rw [hlen]
  rfl
 ·rw [hlen,List.map_take,←h.1,List.take_take]
  congr 1
  omega
theorem De (p:Nat) (k:Option (Nat×List AV)) (l:List Int) (z:Int) (h:oe k l) (hl:l.length≤1000000):AC Tryz.prog 309 [.sc (.pointer (some ⟨p,0,none⟩)),.sc (.iface 3 (.int .i64 z))] (hst p k l) fun _ L=>∃b cs,L=hst p (some (b,cs)) (l++[z])∧oe (some (b,cs)) (l++[z]):=by
 refine aT Tryz.func309 rfl Tryz.ntmps309 rfl fun B=>?_
 unfold hst pN tR
 cases k with
 | none=>
  have hl0:l=[]:=h
  subst hl0
  dsimp only
  repeat' (first|fail)
  refine bj 8 [(0,.v),(1,.v),(2,.v),(3,.l),(4,.v),(5,.v),(6,.v),(7,.e)] none ?_ trivial rfl (by kernel_rfl) (by kernel_rfl) (by kernel_rfl) mixed (by kernel_rfl) rfl
  repeat' (first|refine aE ?_|refine ba a1 ?_|refine bX a1 0 rfl rfl rfl rfl (by first|trivial|rfl) ?_)
  refine tA (by kernel_rfl) rfl trivial ?_
  repeat' (first|refine aE ?_|refine ek a1 ?_|fail)
  refine y5 a1 rfl rfl rfl rfl rfl rfl trivial fun b' cs' h1 h2=>?_
  repeat' (first|fail)
  refine HR [4,11] F8 ?_
  repeat' (first|refine go ?_|refine a8 ?_|refine HF a1 F8 ?_|(apply aQ;first|refine HG a1 0 HD ?_|refine HG a1 1 HD ?_|refine HG a1 2 HD ?_|refine HG a1 3 HD ?_|fail))
  exact bk (aJ (List.Perm.swap ..)) (ce rfl ⟨b',cs',rfl,h1,h2,h2⟩)
 | some q=>
  obtain ⟨b,cs⟩:=q
  dsimp only
  repeat' (first|fail)
  refine bj 8 [(0,.v),(1,.v),(2,.v),(3,.l),(4,.v),(5,.v),(6,.v),(7,.e)] none ?_ trivial rfl (by kernel_rfl) (by kernel_rfl) (by kernel_rfl) mixed (by kernel_rfl) rfl
  repeat' (first|refine aE ?_|refine ba a1 ?_|refine bX a1 0 rfl rfl rfl rfl (by first|trivial|rfl) ?_)
  refine tA (by kernel_rfl) rfl trivial ?_
  repeat' (first|refine aE ?_|refine ek a1 ?_|fail)
  refine y3 a1 1 rfl rfl rfl rfl rfl rfl rfl h.2.1 (by omega) (by omega) trivial fun b' cs' h1 h2=>?_
  repeat' (first|fail)
  refine HR [4,11] F8 ?_
  repeat' (first|refine go ?_|refine a8 ?_|refine HF a1 F8 ?_|(apply aQ;first|refine HG a1 0 HD ?_|refine HG a1 1 HD ?_|refine HG a1 2 HD ?_|refine HG a1 3 HD ?_|fail))
  refine bk (aJ (List.Perm.swap ..)) (ce rfl ⟨b',cs',?_,?_,by simpa using h2,by omega⟩)
  ·rw [List.length_append]
   rfl
  ·rw [List.length_append,List.map_append,←h.1]
   exact h1
theorem iy (p b:Nat) (cs:List AV) (l:List Int):hst p (some (b,cs)) l=[(p,.box [.sc (.slice (some ⟨b,0,none⟩) l.length cs.length)] 328),(b,.box cs 3)]:=rfl
set_option maxHeartbeats 1000000 in
theorem Ay (p:Nat) (k:Option (Nat×List AV)) (l:List Int) (z:Int) (h:oe k l) (hl:l.length < 1000000):AC Tryz.prog 271 [HI p,.sc (.iface 3 (.int .i64 z))] (hst p k l) fun _ L=>∃b cs l',L=hst p (some (b,cs)) l'∧oe (some (b,cs)) l'∧l'.Perm (l++[z]):=by
 refine aT Tryz.func271 rfl Tryz.ntmps271 rfl fun B=>?_
 repeat' (first|refine go ?_|refine HF a1 F8 ?_)
 refine u7 (hst p k l) [] EM rfl rfl (by rw [List.append_nil]) (De p k l z h (by omega)) rfl rfl fun c L1 ⟨b,cs,hL,hok⟩=>?_
 subst hL
 rw [List.append_nil,iy]
 have hll:(l++[z]).length=l.length+1:=by simp
 repeat' (first|refine go ?_|refine HF a1 F8 ?_)
 refine dK 0 [] [(p,.box [.sc (.slice (some ⟨b,0,none⟩) (l++[z]).length cs.length)] 328),(b,.box cs 3)] B4 (cz a1 rfl) rfl rfl rfl rfl (Ho _) (vR _ (l++[z]).length _ _ rfl) rfl rfl fun c L1 hc=>?_
 have hc:c=aH (l++[z]).length:=hc
 subst hc
 refine aV (cb (List.sublist_append_right ..)) ?_
 rw [hll]
 repeat' (first|(apply aZ;refine aY ?_)|fail)
 have hup:=Gc p b cs (l++[z]) hok l.length (by rw [hll];omega) (by rw [hll];omega)
 rw [iy,hll] at hup
 rw [show (((l.length+1:Nat):Int) - 1)=(l.length:Int) by omega]
 refine bb _ [] hup rfl rfl (by rw [List.append_nil]) rfl fun c L1 ⟨cs',l',hL,hok',hpm⟩=>?_
 subst hL
 rw [List.append_nil]
 repeat' (first|refine go ?_|fail)
 exact ce rfl ⟨b,cs',l',rfl,hok',hpm⟩
set_option maxHeartbeats 1000000 in
theorem CU (p b:Nat) (cs:List AV) (l:List Int) (h:oe (some (b,cs)) l) (h0:0 < l.length) (hl:l.length≤1000000):AC Tryz.prog 270 [HI p] (hst p (some (b,cs)) l) fun c L=>∃z cs' l',c= .sc (.iface 3 (.int .i64 z))∧L=hst p (some (b,cs')) l'∧oe (some (b,cs')) l'∧(l'++[z]).Perm l:=by
 refine aT Tryz.func270 rfl Tryz.ntmps270 rfl fun B=>?_
 rw [iy]
 repeat' (first|refine go ?_|refine HF a1 F8 ?_)
 refine dK 0 [] [(p,.box [.sc (.slice (some ⟨b,0,none⟩) l.length cs.length)] 328),(b,.box cs 3)] B4 (cz a1 rfl) rfl rfl rfl rfl (Ho _) (vR _ l.length _ _ rfl) rfl rfl fun c L1 hc=>?_
 have hc:c=aH l.length:=hc
 subst hc
 refine aV (cb (List.sublist_append_right ..)) ?_
 repeat' (first|refine go ?_|refine HF a1 F8 ?_|(apply aZ;refine aY ?_)|fail)
 obtain ⟨x,hx,hxc⟩:=h.get (a:=0) (by omega) (by omega)
 obtain ⟨y,hy,hyc⟩:=h.get (a:=(l.length:Int) - 1) (by omega) (by omega)
 refine dK 0 [(b,.box cs 3)] [(p,.box [.sc (.slice (some ⟨b,0,none⟩) l.length cs.length)] 328)] pV (cz a1 rfl) rfl rfl rfl rfl (List.Perm.swap ..) (nc (x:=x) (y:=y) ⟨by omega,by omega⟩ ⟨by omega,by omega⟩ hxc hyc h.2.1) rfl rfl fun c L1 hL=>?_
 subst hL
 have hs:=h.swap (a:=0) (e:=(l.length:Int) - 1) ⟨by omega,by omega⟩ ⟨by omega,by omega⟩ hx hy
 have hsl:=hs.2.length_eq
 refine aV (aJ (List.Perm.swap ..)) ?_
 repeat' (first|refine go ?_|refine HF a1 F8 ?_)
 have hdn:=wR p b _ _ hs.1 0 (l.length - 1) (by rw [hsl];omega) (by rw [hsl];omega) (by omega)
 rw [iy,hsl,show (((l.length - 1:Nat)):Int)=(l.length:Int) - 1 by omega] at hdn
 rw [show cs.length=((cs.set (0:Int).toNat (aH y)).set ((l.length:Int) - 1).toNat (aH x)).length by simp]
 refine bb _ [] hdn rfl rfl (by rw [List.append_nil]) rfl fun c L1 ⟨cs',l',hL,hok',hpm⟩=>?_
 subst hL
 rw [List.append_nil]
 repeat' (first|refine go ?_|refine HF a1 F8 ?_)
 have hl':=hpm.length_eq
 refine u7 (hst p (some (b,cs')) l') [] FR rfl rfl (by rw [List.append_nil]) (EX p b cs' l' hok' (by omega) (by omega)) rfl rfl fun c L1 ⟨z,l2,hc,hL,hok2,he⟩=>?_
 subst hc;subst hL
 rw [List.append_nil]
 repeat' (first|refine go ?_|refine HF a1 F8 ?_)
 refine HN F8 ⟨z,cs',l2,rfl,rfl,hok2,?_⟩
 rw [←he]
 exact hpm.trans hs.2
theorem EF {k:Option (Nat×List AV)} {l:List Int} (h:oe k l):∃A c,tR k l.length= .slice A l.length c:=by
 cases k with
 | none=>rw [show l=[] from h];exact ⟨_,_,rfl⟩
 | some q=>exact ⟨_,_,rfl⟩
section
variable {P:Program} {fr:c6} {d:Option Tmp} {ty t t':TypeId} {pos:String} {af:Array Edge} {g:Option (Nat×Bool)} {x y:Operand}
theorem Cd {n:Nat} (hx:bt fr x=some (aH n)) (hy:bt fr y=some (aH 2)) (hn:n≤9223372036854775807):Av P ⟨d,.binOp .quo t x y t',ty,pos,af,g⟩ fr (aH ((n / 2:Nat):Int)):=by
 have h:=DI (P:=P) (d:=d) (ty:=ty) (pos:=pos) (af:=af) (g:=g) (t:=t) (t':=t') hx hy (by omega)
 have e:IntKind.i64.wrap ((n:Int).tdiv 2)=((n / 2:Nat):Int):=by
  have:(n:Int).tdiv 2=((n / 2:Nat):Int):=by
   rw [Int.tdiv_eq_ediv_of_nonneg (by omega)]
   simp
  rw [this,nI (by omega)]
 rwa [e] at h
end
set_option maxHeartbeats 1000000 in
theorem Ax (p:Nat) (k:Option (Nat×List AV)) (l:List Int) (h:oe k l) (hl:l.length≤1000000):AC Tryz.prog 269 [HI p] (hst p k l) fun _ L=>∃k' l',L=hst p k' l'∧oe k' l'∧l'.Perm l:=by
 refine aT Tryz.func269 rfl Tryz.ntmps269 rfl fun B=>?_
 obtain ⟨A,cc,hA⟩:=EF h
 repeat' (first|refine go ?_|refine HF a1 F8 ?_)
 refine dK 0 [] (hst p k l) B4 (cz a1 rfl) rfl rfl rfl rfl (Ho _) (vR _ l.length cc A hA) rfl rfl fun c L1 hc=>?_
 have hc:c=aH l.length:=hc
 subst hc
 refine aV (cb (List.sublist_append_right ..)) ?_
 repeat' (first|refine go ?_|refine HF a1 F8 ?_)
 refine aY ?_ (Cd (n:=l.length) rfl rfl (by omega))
 repeat' (first|refine ak ?_|refine go ?_|refine HF a1 F8 ?_|(apply aZ;refine aY ?_)|fail)
 refine aR [0,2] (α:=Nat×Option (Nat×List AV)×List Int) (fun x=>[(3,aH ((x.1:Int) - 1))]) (fun x=>x.1≤l.length / 2∧oe x.2.1 x.2.2∧x.2.2.Perm l) (fun x=>hst p x.2.1 x.2.2) (fun x=>x.1) (l.length / 2,k,l) rfl ⟨rfl,trivial⟩ ⟨Nat.le_refl _,h,Ho _⟩ (fun _ _ h=>h) ?_
 rintro ⟨m,k,l'⟩ ⟨hm,hok,hpm⟩
 dsimp only at hm hok hpm ⊢
 have hll:=hpm.length_eq
 try dsimp only [Hs,Hr,Hq,Hl]
 repeat' (first|refine go ?_|refine HF a1 F8 ?_)
 refine ay rfl (fun h2=>?_) (fun h2=>?_)
 ·have h2':=Hy h2
  cases k with
  | none=>rw [show l'=[] from hok] at hll;simp at hll;omega
  | some q=>
   obtain ⟨b,cs⟩:=q
   repeat' (first|refine go ?_|refine ak ?_|refine HF a1 F8 ?_)
   have hdn:=wR p b cs l' hok (m - 1) l.length (by omega) (by omega) (by omega)
   rw [show (((m - 1:Nat)):Int)=(m:Int) - 1 by omega] at hdn
   refine bb _ [] hdn rfl rfl (by rw [List.append_nil]) rfl fun c L1 ⟨cs',l2,hL,hok',hpm'⟩=>?_
   subst hL
   rw [List.append_nil]
   repeat' (first|refine go ?_|refine HF a1 F8 ?_|(apply aZ;refine aY ?_)|fail)
   exact aF (m - 1,some (b,cs'),l2) rfl ⟨by rw [show (((m - 1:Nat)):Int)=(m:Int) - 1 by omega];rfl,trivial⟩ ⟨by dsimp only;omega,hok',hpm'.trans hpm⟩ (by dsimp only;omega) (fun _ _ h=>h)
 ·repeat' (first|refine go ?_|fail)
  exact ce rfl ⟨k,l',rfl,hok,hpm⟩
end Go.Proofs.YtpbinloeemebkaaGreat
