/-
  The maker: sets of glyphs, told as rows of its own.
-/
import Derived.Test.YtpmdfoaadejmkaaGreatDoorM27
import Derived.Test.YtpmdfoaadejmkaaGreatDoorM29
namespace Go.Proofs.YtpmdfoaadejmkaaGreatDoor
open Go.RowKit
attribute [local irreducible] AT br AX AO Av Kt b7 dm DA cA
def Iz (f:FuncId) (args:List AV) (s:List Int) (F:MF) {α:Type} (u:DM α) (out:Mem→α→AV):Prop:=∀(b:Nat) (m:MS),AQ Tryz.prog f (yk b::args) [dA b s F m] (fun σ=>out σ (u m).1) [dA b s F (u m).2]
theorem xH {f:FuncId} {fn:Func} {c:Code} {nt:Nat} {args:List AV} {s:List Int} {F:MF} {α:Type} {u:DM α} {out:Mem→α→AV} (hf:Tryz.prog.funcs[f]?=some fn) (hb:fn.body=some c) (hn:fn.ntmps=nt) (hs:Nat.ble (args.length+1) nt=true)
  (h:∀b m B,B.X=[dA b s F m].map (·.1)→(∀b,B.w.heap.size≤b→bG B.σ b)→AT Tryz.prog none c (bodyPost Tryz.prog fn (i8 B fun r L=>r=out B.σ (u m).1∧L=[dA b s F (u m).2])) nt [] (my 0 (yk b::args)) B [dA b s F m]):Iz f args s F u out:=
 fun b m=>@iU Tryz.prog f fn c nt (yk b::args) [dA b s F m] (fun σ r L=>r=out σ (u m).1∧L=[dA b s F (u m).2]) hf hb hn hs fun B hX hq=>h b m B hX hq
section
variable {r:Option Nat} {ops:Array Oper} {Q:Exit→Act→World→Prop} {nt:Nat} {D:List Deferred} {fr:bT} {B:Bs} {Z:AL} {rest:List Oper} {d b:Nat} {ty:TypeId} {pos:String} {af:Array Edge} {s:List Int} {F:MF} {m:MS} {args:Array Operand} {ts:Array TypeId}
theorem z8 {f:FuncId} [bD Tryz.prog f] {α:Type} {u:DM α} {out:Mem→α→AV} {az ds:List AV} (hc:Iz f az s F u out) (ha:∀x,d6 fun σ=>out σ x) (h:br Tryz.prog r ops Q nt D rest ((d,out B.σ (u m).1)::fr) B (dA b s F (u m).2::Z)) (hv:dy fr args.toList=some ds:=by rfl) (hi:gN ds=some (yk b::az):=by rfl) (hd:Nat.ble nt d=false:=by rfl):br Tryz.prog r ops Q nt D (⟨some d,.call ⟨.value (.func f),args,ts⟩,ty,pos,af,none⟩::rest) fr B (dA b s F m::Z):=
 G3 (c:=fun σ=>out σ (u m).1) Z (hc b m) (ha _) hv hi (Lm _) hd h
end
section
variable {l:List Oper} {fr:bT} {fin:iR} {sk:m6} {acc:bT} {k:Nat} {dd:Option Tmp} {ty:TypeId} {pos:String} {af:Array Edge} {g:Option (Nat×Bool)} {s:List Int} {F:MF} {b:Nat} {m:MS} {Z:AL} {args:Array Operand} {ts:Array TypeId}
theorem tK {f:FuncId} [bD Tryz.prog f] {α:Type} {u:DM α} {out:Mem→α→AV} {az ds:List AV} (hc:Iz f az s F u out) (ha:∀x,d6 fun σ=>out σ x) (hK:eC fin.gs (dA b s F (u m).2::Z)) (h:DA Tryz.prog l fr fin sk ((k,out fin.c0 (u m).1)::acc) (dA b s F (u m).2::Z)) (hv:dy (cx l.toArray acc fr af.toList) args.toList=some ds:=by rfl) (hi:gN ds=some (yk b::az):=by rfl) (hg:it ⟨dd,.call ⟨.value (.func f),args,ts⟩,ty,pos,af,g⟩ acc:=by first | trivial | rfl):cA Tryz.prog l fr fin k .f ⟨dd,.call ⟨.value (.func f),args,ts⟩,ty,pos,af,g⟩ sk acc (dA b s F m::Z):=
 CS (c:=fun σ=>out σ (u m).1) Z (hc b m) (ha _) hK hv hi (Lm _) hg h
end
def bF (q:Nat→Prop) (l:List (List Int)):List (List AV):=l.map fun s=>[.new q 1 (aQ s)]
theorem dI (q:Nat→Prop) (l:List (List Int)):(bF q l).length=l.length:=Lu ..
theorem iS.newQ {σ τ:Mem} (h:σ.le τ) (s:List Int):iS [.new (bG τ) 1 (aQ s)] [.new (bG σ) 1 (aQ s)]:=⟨d6.new 1 (aQ s) σ τ h,trivial⟩
theorem iQ (l:List (List Int)):d6 fun σ=> .imm 1 (bF (bG σ) l):=fun σ τ h=>c6.imm (s7.map (fun s=>iS.newQ h s) l)
variable (s:List Int) (hs:s.length≤1000000) (F:MF)
include hs
set_option maxHeartbeats 4000000 in
theorem ux {kg:Option (Nat×Nat)} {gl:List (List AV)} (hF:F.gl= .vec kg 9 gl) (n:Nat) (hn:gl.length=n) (h0:0 < n∧n≤1000):Iz 251 [] s F (o0 s n) fun σ l=> .new (bG σ) 1 (aQ l):=by
 refine xH Tryz.func251 rfl Tryz.ntmps251 rfl fun b m B hX hq=>?_
 refine W0d ?_
 rw [hF]
 refine W01 ?_
 rw [hn]
 refine cF ?_
 have hk:=cq s hs m.a (n:=n) (by omega)
 have hk:0≤(dr s n m).1∧(dr s n m).1 < n:=hk
 generalize e1:dr s n m=p1 at hk ⊢
 repeat' (first|refine a9 ?_|refine a4 ?_|refine ai ?_|refine a6 ?_|refine a7 ?_|refine LG a5 KZ ?_|(apply aU;refine aT ?_)|refine nP (d:=17) a5 fun _=>?_|fail)
 rename_i kb
 refine bM (aH (L':=[dA b s F p1.2]++(tok (some (kb,1)) 3 1 1++[])) (List.perm_append_comm (l₁:=[_]))) ?_
 have hmx:∀j,(fE s p1.1 j p1.2).1.length≤1+j:=fun j=>DQ s hs _ _ j
 refine aN [0,3] (α:=Nat×Option (Nat×Nat)) (fun x=>[(6,aI (p1.1+1+x.1)),(5,.vec x.2 1 (aQ (fE s p1.1 x.1 p1.2).1))]) (fun x=>x.1≤(n - (p1.1+1)).toNat) (fun x=>[dA b s F (fE s p1.1 x.1 p1.2).2]++(tok x.2 3 1 (aQ (fE s p1.1 x.1 p1.2).1).length++[])) (fun x=>(n - (p1.1+1)).toNat - x.1) (0,some (kb,1)) rfl ⟨by simp [ca],rfl,trivial⟩ (Nat.zero_le _) (fun _ _ h=>h) ?_
 rintro ⟨j,q⟩ hj
 dsimp only at hj ⊢
 have hl:=hmx j
 have hstop:=AW s hs p1.1 p1.2 (j:=j)
 have hstep:fE s p1.1 (j+1) p1.2=(if (fE s p1.1 j p1.2).1.length < 4 then cg (dr s 3) fun z=>ret (if z=0 then (fE s p1.1 j p1.2).1++[p1.1+1+j] else (fE s p1.1 j p1.2).1) else ret (fE s p1.1 j p1.2).1) (fE s p1.1 j p1.2).2:=rfl
 have hv:o0 s n m=fE s p1.1 (n - (p1.1+1)).toNat p1.2:=by
  unfold o0 cg
  rw [e1]
 generalize e2:fE s p1.1 j p1.2=st at hl hstop hstep ⊢
 have hil:(aQ st.1).length=st.1.length:=aX _
 try dsimp only [Lr,Lq,Lp,Li]
 refine W0k ?_
 by_cases hlt:p1.1+1+(j:Int) < (n:Int)
 ·rw [decide_eq_true hlt]
  refine W1w ?_
  refine ar rfl (fun h=>?_) (fun h=>?_)
  ·have h4:st.1.length < 4:=by have:=Lz h;omega
   refine W0v ?_
   rw [if_pos h4] at hstep
   unfold cg at hstep
   refine cF ?_
   generalize dr s 3 st.2=z at hstep ⊢
   dsimp only at hstep
   refine W0r ?_
   refine ar rfl (fun hz=>?_) (fun hz=>?_)
   ·rw [if_pos (Lz hz)] at hstep
    refine W1W ?_
    refine bE a5 _ rfl rfl rfl rfl (eK (A:=[_])) (by simp [aX];omega) (by simp [aX];omega) rfl fun q'=>?_
    refine aE (aH (eK (A:=[_])).symm) ?_
    refine W05 ?_
    exact aC (j+1,q') rfl ⟨by dsimp only;rw [show p1.1+1+((j+1:Nat):Int)=p1.1+1+(j:Int)+1 by omega];rfl,by rw [hstep];dsimp only [ret];rw [show aQ (st.1++[p1.1+1+(j:Int)])=aQ st.1++[[aI (p1.1+1+(j:Int))]] from List.map_append ..];rfl,trivial⟩ (by dsimp only;omega) (by dsimp only;omega) (fun _ _ h=>by dsimp only;rw [hstep];simpa [ret,aQ] using h)
   ·rw [if_neg (Ly hz)] at hstep
    refine W06 ?_
    exact aC (j+1,q) rfl ⟨by dsimp only;rw [show p1.1+1+((j+1:Nat):Int)=p1.1+1+(j:Int)+1 by omega];rfl,by rw [hstep];rfl,trivial⟩ (by dsimp only;omega) (by dsimp only;omega) (fun _ _ h=>by dsimp only;rw [hstep];simpa [ret] using h)
  ·have h4:¬st.1.length < 4:=by have:=Ly h;omega
   refine W02 ?_
   refine bc (aH (eK (A:=[_]))) ?_
   refine bc (wt (L0:=[dA b s F st.2]) (t:=2) hX hq rfl) (LM KZ ?_)
   rw [hv,hstop (by omega) _ hj]
   exact ⟨rfl,rfl⟩
 ·rw [decide_eq_false hlt]
  repeat' (first|refine a9 ?_|refine a4 ?_|refine am ?_|refine aP ?_|refine a6 ?_|refine aq ?_|refine ay ?_|refine au ?_|refine a7 ?_|refine LG a5 KZ ?_|refine LP LB ?_|refine bB rfl ?_)
  refine bc (aH (eK (A:=[_]))) ?_
  refine bc (wt (L0:=[dA b s F st.2]) (t:=2) hX hq rfl) (LM KZ ?_)
  rw [hv,show (n - (p1.1+1)).toNat=j by omega,e2]
  exact ⟨rfl,rfl⟩
set_option maxHeartbeats 2000000 in
theorem qd {kg:Option (Nat×Nat)} {gl:List (List AV)} (hF:F.gl= .vec kg 9 gl) (n:Nat) (hn:gl.length=n) (h0:0 < n∧n≤1000) (most:Int) (hm:0≤most∧most≤6):Iz 252 [aI most] s F (pP s n most) fun σ l=> .imm 1 (bF (bG σ) l):=by
 refine xH Tryz.func252 rfl Tryz.ntmps252 rfl fun b m B _ _=>?_
 refine W0L ?_
 refine cF ?_
 have hk:=cq s hs m.a (n:=most+1) (by omega)
 have hk:0≤(dr s (most+1) m).1∧(dr s (most+1) m).1 < most+1:=hk
 generalize e1:dr s (most+1) m=p1 at hk ⊢
 obtain ⟨k,hkk⟩:∃k:Nat,p1.1=k:=⟨p1.1.toNat,by omega⟩
 rw [hkk]
 have hln:∀j,(iG s n j p1.2).1.length=j:=fun j=>by
  induction j with
  | zero=>rfl
  | succ j ih=>
   have:iG s n (j+1) p1.2=((iG s n j p1.2).1++[(o0 s n (iG s n j p1.2).2).1],(o0 s n (iG s n j p1.2).2).2):=rfl
   rw [this]
   simp [ih]
 refine W04 ?_
 refine bM (bA (t:=5) (c':= .vec none 1 []) rfl fun σ v h=>cC 1 h) ?_
 refine aN [0,6] (α:=Nat×Option (Nat×Nat)) (fun x=>[(7,aI x.1),(5,.vec x.2 1 (bF (bG B.σ) (iG s n x.1 p1.2).1))]) (fun x=>x.1≤k) (fun x=>[dA b s F (iG s n x.1 p1.2).2]++(tok x.2 22 1 (bF (bG B.σ) (iG s n x.1 p1.2).1).length++[])) (fun x=>k - x.1) (0,none) rfl ⟨rfl,rfl,trivial⟩ (Nat.zero_le _) (fun _ _ h=>h) ?_
 rintro ⟨j,q⟩ hj
 dsimp only at hj ⊢
 have hl:=hln j
 have hstep:iG s n (j+1) p1.2=((iG s n j p1.2).1++[(o0 s n (iG s n j p1.2).2).1],(o0 s n (iG s n j p1.2).2).2):=rfl
 try dsimp only [Lr,Lq,Lp,Li]
 refine W01 ?_
 refine ar rfl (fun h=>?_) (fun h=>?_)
 ·have hjl:j < k:=by have:=Lz h;omega
  generalize iG s n j p1.2=st at hl hstep ⊢
  have hrl:=dI (bG B.σ) st.1
  refine W0v ?_
  refine z8 (ux s hs F hF n hn h0) (fun l=>d6.new 1 (aQ l)) ?_
  generalize o0 s n st.2=y at hstep ⊢
  repeat' (first|refine bQ a5 ?_|fail)
  refine bE a5 _ rfl rfl rfl rfl (eK (A:=[_])) (by simp [dI (bG B.σ)];omega) (by simp [dI (bG B.σ)];omega) rfl fun q'=>?_
  refine aE (aH (eK (A:=[_])).symm) ?_
  refine W05 ?_
  exact aC (j+1,q') rfl ⟨by rw [Lv];rfl,by rw [hstep];dsimp only;rw [show bF (bG B.σ) (st.1++[y.1])=bF (bG B.σ) st.1++[[.new (bG B.σ) 1 (aQ y.1)]] from List.map_append ..];rfl,trivial⟩ (by dsimp only;omega) (by dsimp only;omega) (fun _ _ h=>by dsimp only;rw [hstep];simpa [bF] using h)
 have hjl:j=k:=by have:=Ly h;omega
 subst hjl
 have hv:pP s n most m=iG s n j p1.2:=by
  unfold pP cg
  rw [e1]
  dsimp only
  rw [hkk]
  rfl
 rw [hv]
 generalize iG s n j p1.2=st
 refine W02 ?_
 refine bc (bP (L':=[dA b s F st.2]) (List.Sublist.cons_cons _ (List.nil_sublist _))) ?_
 exact bc (bA (t:=4) (c':= .imm 1 (bF (bG B.σ) st.1)) rfl fun σ v h=>VR.im h) (LM KZ ⟨rfl,rfl⟩)
end Go.Proofs.YtpmdfoaadejmkaaGreatDoor
namespace Go.Proofs.YtpmdfoaadejmkaaGreatDoor
open Go.RowKit
attribute [local irreducible] AT br AX AO Av Kt b7 dm DA cA
theorem jm {B:Bs} {σ:Mem} {w:World} {A R:AL} {k:Option (Nat×Nat)} {e sz n:Nat} {l:List (List AV)} {v:Value} {q:Nat→Prop} (hw:cL B σ (A++(tok k e sz n++R)) w) (hX:∀x∈B.X,x∈A.map (·.1)) (hq:∀b,B.w.heap.size≤b→q b) (h:VR σ (.vec k sz l) v):VR σ (.new q sz l) v:=
 iM hw (fun x hx=>by rw [List.map_append];exact List.mem_append_left _ (hX x hx)) eK hq h
theorem od {B:Bs} {σ:Mem} {w:World} {A T R:AL} {k:Option (Nat×Nat)} {e sz n:Nat} {l:List (List AV)} {v:Value} {q:Nat→Prop} (hw:cL B σ (A++(T++(tok k e sz n++R))) w) (hX:∀x∈B.X,x∈A.map (·.1)) (hq:∀b,B.w.heap.size≤b→q b) (h:VR σ (.vec k sz l) v):VR σ (.new q sz l) v:=
 iM hw (fun x hx=>by rw [List.map_append];exact List.mem_append_left _ (hX x hx)) Ij hq h
theorem AE {B:Bs} {b:Nat} {s:List Int} {F F':MF} {m m':MS} {R:AL} (hX:B.X=[dA b s F m].map (·.1)):∀x∈B.X,x∈(dA b s F' m'::R).map (·.1):=fun x hx=>by
 rw [hX] at hx
 simp only [Lp,Li,List.mem_singleton] at hx
 subst hx
 exact List.mem_cons_self ..
theorem c6.vecNN (q:Nat→Prop) (sz:Nat):c6 (.vec none sz []) (.new q sz []):=fun _ _ h=> .new _ _ _ _ h.im fun _ _ _ _ _ hn=>absurd rfl hn
def co (q:Nat→Prop) (r:b8):List AV:=[.imm 1 (bF q r.Back),.new q 1 (bF q r.In),.imm 1 (bF q r.Ahead),.new q 1 (aQ r.Out),.new q 2 (r.Calls.map dC),aI r.X]
theorem rI (q:Nat→Prop) (a:List Int) (l:List (List Int)):bF q [a]++bF q l=bF q (a::l):=rfl
variable (s:List Int) (hs:s.length≤1000000) (F:MF)
include hs
set_option maxHeartbeats 16000000 in
theorem Eo {kg:Option (Nat×Nat)} {gl:List (List AV)} (hF:F.gl= .vec kg 9 gl) (n:Nat) (hn:gl.length=n) (h0:0 < n∧n≤1000) (kind:Int) (hk:1≤kind∧kind≤6) (calls:List Int) (hcl:calls.length≤1000):Iz 176 [aI kind,.imm 1 (aQ calls)] s F (gR s n kind calls) fun σ r=> .agg (co (bG σ) r):=by
 refine xH Tryz.func176 rfl Tryz.ntmps176 rfl fun b m B hX hq=>?_
 refine W13 ?_
 intros
 rw [hF]
 refine W01 ?_
 rw [hn]
 rename_i tb rb
 refine aE (aH (L':=[dA b s F m,(rb,.box [bO,bO,bO,bO,bO,aI 0] 79),(tb,.box [bO,bO,bO,bO,bO,aI 0] 79)]) (List.perm_append_comm (l₁:=[_,_]))) ?_
 refine z8 (ux s hs F hF n hn h0) (fun l=>d6.new 1 (aQ l)) ?_
 have ha:=qf s (n:=n) (by omega) m
 generalize e1:o0 s n m=p1 at ha ⊢
 have haf:=ha.few
 repeat' (first|refine a9 ?_|refine a4 ?_|refine a6 ?_|refine a7 ?_|refine LG a5 KZ ?_|(apply aM;first|refine LH a5 0 LE ?_|refine LH a5 1 LE ?_|refine LH a5 2 LE ?_|refine LH a5 3 LE ?_|fail)|refine nP (d:=22) a5 fun _=>?_|fail)
 rename_i kb
 refine bM (aH (L':=[dA b s F p1.2,(rb,.box [bO,.vec (some (kb,1)) 1 (bF (bG B.σ) [p1.1]),bO,bO,bO,aI 0] 79),(tb,.box [bO,bO,bO,bO,bO,aI 0] 79)]++(tok (some (kb,1)) 22 1 1++[])) (List.perm_append_comm (l₁:=[_]))) ?_
 repeat' (first|fail)
 refine ar rfl (fun h6=>?_) (fun h6=>?_)
 ·have h6:=Lz h6
  subst h6
  repeat' (first|refine a9 ?_)
  refine dx [.cell (rb,1,.vec (some (kb,1)) 1 (bF (bG B.σ) [p1.1]))] 5 [(0,.v),(1,.k),(2,.v),(3,.f),(4,.v)] none ?_ trivial rfl (by kernel_rfl) (by kernel_rfl) (by kernel_rfl) bX (by kernel_rfl) rfl
  refine W0a ?_
  refine dP a5 0 rfl rfl rfl (bL 1 rfl rfl c8) (by first | trivial | rfl) ?_
  refine W0a ?_
  refine tK (ux s hs F hF n hn h0) (fun l=>d6.new 1 (aQ l)) (bL 1 rfl rfl c8) ?_
  generalize e2:o0 s n p1.2=p2
  refine W1e ?_
  refine LQ [0,6,7,27,30] KZ ?_
  repeat' (first|fail)
  refine bE a5 _ rfl rfl rfl rfl (eK (A:=[_,_,_])) (by simp [dI]) (by simp [dI]) rfl fun q'=>?_
  refine aE (aH (eK (A:=[_,_,_])).symm) ?_
  refine W0p ?_
  refine cF ?_
  have hx:=cq s hs p2.2.a (n:=41) (by omega)
  have hx:0≤(dr s 41 p2.2).1∧(dr s 41 p2.2).1 < 41:=hx
  generalize e3:dr s 41 p2.2=p3 at hx ⊢
  repeat' (first|refine a9 ?_|refine a4 ?_|refine am ?_|refine a6 ?_|refine aB ?_|refine a7 ?_|refine LG a5 KZ ?_|(apply bq;first|refine LJ a5 0 LC ?_|refine LJ a5 1 LC ?_|refine LJ a5 2 LC ?_|refine LJ a5 3 LC ?_|refine LK a5 0 LC ?_|refine LK a5 1 LC ?_|refine LK a5 2 LC ?_|refine LL a5 1 LA (by assumption) rfl ?_|refine LL a5 0 LA (by assumption) rfl ?_|fail)|(apply aU;refine aT ?_)|(apply aM;first|refine LH a5 0 LE ?_|refine LH a5 1 LE ?_|refine LH a5 2 LE ?_|refine LH a5 3 LE ?_|fail))
  have hv:gR s n 6 calls m=(⟨[],[p1.1,p2.1],[],[],[],p3.1 * 10 - 200⟩,p3.2):=by simp [gR,H9,cg,ret,e1,e2,e3]
  rw [hv]
  refine bc (eE 2 (cs':=co (bG B.σ) ⟨[],[p1.1,p2.1],[],[],[],p3.1 * 10 - 200⟩) rfl fun σ _ vs hw h=>wH.vrs (a:=[bO,.vec q' 1 (bF (bG B.σ) [p1.1,p2.1]),bO,bO,bO,aI (p3.1 * 10 - 200)]) (b:=co (bG B.σ) ⟨[],[p1.1,p2.1],[],[],[],p3.1 * 10 - 200⟩) ⟨c6.nil 1 _,fun v=>jm (A:=[_,_,_]) hw (AE hX) hq,c6.nil 1 _,c6.nilN _ 1 _,c6.nilN _ 2 _,fun _ h=>h,trivial⟩ h) (iH a5 2 [dA b s F p3.2] rfl rfl rfl rfl rfl (List.Sublist.cons_cons _ (List.nil_sublist _)) ⟨rfl,rfl⟩)
 have h6:=Ly h6
 refine bM (bC 1 (cs':=[.imm 1 [],.vec (some (kb,1)) 1 (bF (bG B.σ) [p1.1]),.imm 1 [],.vec none 1 [],.vec none 2 [],aI 0]) rfl fun σ vs h=>iS.vrs (a:=[bO,.vec (some (kb,1)) 1 (bF (bG B.σ) [p1.1]),bO,bO,bO,aI 0]) (b:=[.imm 1 [],.vec (some (kb,1)) 1 (bF (bG B.σ) [p1.1]),.imm 1 [],.vec none 1 [],.vec none 2 [],aI 0]) ⟨c6.nil 1,c6.refl _,c6.nil 1,c6.vecN 1,c6.vecN 2,c6.refl _,trivial⟩ h) ?_
 refine W0e ?_
 refine cF ?_
 generalize e2:dr s 2 p1.2=z
 refine W0r ?_
 refine qz [0,1,2,6,7,8] ([dA b s F (jG s n p1.2).2,(rb,.box [.imm 1 (bF (bG B.σ) (jG s n p1.2).1.1),.vec (some (kb,1)) 1 (bF (bG B.σ) [p1.1]),.imm 1 (bF (bG B.σ) (jG s n p1.2).1.2),.vec none 1 [],.vec none 2 [],aI 0] 79),(tb,.box [bO,bO,bO,bO,bO,aI 0] 79)]++(tok (some (kb,1)) 22 1 1++[])) rfl (fun Q' K=>?_) ?_
 ·refine ar rfl (fun hz=>?_) (fun hz=>?_)
  ·have hz:=Lz hz
   refine W0k ?_
   refine z8 (qd s hs F hF n hn h0 2 (by omega)) (fun l=>iQ l) ?_
   generalize e3:pP s n 2 z.2=y1
   refine W1A ?_
   refine z8 (qd s hs F hF n hn h0 2 (by omega)) (fun l=>iQ l) ?_
   generalize e4:pP s n 2 y1.2=y2
   refine W0M ?_
   have hv:jG s n p1.2=((y1.1,y2.1),y2.2):=by simp [jG,cg,ret,e2,e3,e4,hz]
   rw [hv] at K
   exact K _ rfl
  ·have hz:=Ly hz
   repeat' (first|refine aj ?_)
   have hv:jG s n p1.2=(([],[]),z.2):=by simp [jG,cg,ret,e2,hz]
   rw [hv] at K
   exact K _ rfl
 generalize e3:jG s n p1.2=w
 have ha0:(bF (bG B.σ) [p1.1])[0]?=some [.new (bG B.σ) 1 (aQ p1.1)]:=rfl
 have hial:(aQ p1.1).length=p1.1.length:=aX _
 by_cases h15:kind=1∨kind=5
 ·have hv:gR s n kind calls m=(⟨w.1.1,[p1.1],w.1.2,(gz s n p1.1.length w.2).1,[],0⟩,(gz s n p1.1.length w.2).2):=by simp [gR,cg,ret,e1,e3,h6,h15]
  rw [hv]
  rcases h15 with rfl | rfl
  all_goals
   refine W1Q ?_
   refine aN [0,6,7,8] (α:=Nat×Option (Nat×Nat)) (fun x=>[(9,aI x.1)]) (fun x=>x.1≤p1.1.length) (fun x=>[dA b s F (gz s n x.1 w.2).2,(rb,.box [.imm 1 (bF (bG B.σ) w.1.1),.vec (some (kb,1)) 1 (bF (bG B.σ) [p1.1]),.imm 1 (bF (bG B.σ) w.1.2),.vec x.2 1 (aQ (gz s n x.1 w.2).1),.vec none 2 [],aI 0] 79),(tb,.box [bO,bO,bO,bO,bO,aI 0] 79)]++(tok x.2 3 1 (aQ (gz s n x.1 w.2).1).length++(tok (some (kb,1)) 22 1 1++[]))) (fun x=>p1.1.length - x.1) (0,none) rfl ⟨rfl,trivial⟩ (Nat.zero_le _) (fun _ _ h=>h) ?_
   rintro ⟨i,q⟩ hi
   dsimp only at hi ⊢
   have hol:=w8 s hs n w.2 i
   have hstep:gz s n (i+1) w.2=((gz s n i w.2).1++[(dr s n (gz s n i w.2).2).1],(dr s n (gz s n i w.2).2).2):=rfl
   try dsimp only [Lr,Lq,Lp,Li]
   refine W0D ?_
   refine aE (bA (t:=92) (c':= .imm 1 (aQ p1.1)) rfl fun _ _ h=>VR.newIm h) ?_
   refine W0r ?_
   refine ar rfl (fun h=>?_) (fun h=>?_)
   ·have hil:i < p1.1.length:=by have:=Lz h;omega
    generalize gz s n i w.2=st at hol hstep ⊢
    have hoil:(aQ st.1).length=st.1.length:=aX _
    refine W0K ?_
    refine dx [.cell (rb,3,.vec q 1 (aQ st.1))] 6 [(0,.v),(1,.k),(2,.v),(3,.v),(4,.f),(5,.v)] none ?_ trivial rfl (by kernel_rfl) (by kernel_rfl) (by kernel_rfl) bX (by kernel_rfl) rfl
    refine W0a ?_
    refine dP a5 0 rfl rfl rfl (bL 1 rfl rfl c8) (by first | trivial | rfl) ?_
    refine W0a ?_
    refine f4 (bL 1 rfl rfl c8) ?_
    generalize dr s n st.2=o at hstep ⊢
    refine W1e ?_
    refine LQ [0,6,7,8,9,98,102] KZ ?_
    repeat' (first|fail)
    refine bE a5 _ rfl rfl rfl rfl (eK (A:=[_,_,_])) (by simp [aX];omega) (by simp [aX];omega) rfl fun q'=>?_
    refine aE (aH (eK (A:=[_,_,_])).symm) ?_
    refine W0g ?_
    exact aC (i+1,q') rfl ⟨by rw [Lv];rfl,trivial⟩ (by dsimp only;omega) (by dsimp only;omega) (fun _ _ h=>by dsimp only;rw [hstep];simpa [eF,fx,aQ] using h)
   have hil:i=p1.1.length:=by have:=Ly h;omega
   subst hil
   generalize gz s n p1.1.length w.2=st
   refine W0H ?_
   exact bc (eE 2 (cs':=co (bG B.σ) ⟨w.1.1,[p1.1],w.1.2,st.1,[],0⟩) rfl fun σ _ vs hw h=>wH.vrs (a:=[.imm 1 (bF (bG B.σ) w.1.1),.vec (some (kb,1)) 1 (bF (bG B.σ) [p1.1]),.imm 1 (bF (bG B.σ) w.1.2),.vec q 1 (aQ st.1),.vec none 2 [],aI 0]) (b:=co (bG B.σ) ⟨w.1.1,[p1.1],w.1.2,st.1,[],0⟩) ⟨fun _ h=>h,fun v=>od (A:=[_,_,_]) hw (AE hX) hq,fun _ h=>h,fun v=>jm (A:=[_,_,_]) hw (AE hX) hq,fun v=>c6.vecNN _ _ _ v,fun _ h=>h,trivial⟩ h) (iH a5 2 [dA b s F st.2] rfl rfl rfl rfl rfl (List.Sublist.cons_cons _ (List.nil_sublist _)) ⟨rfl,rfl⟩)
 by_cases h2:kind=2
 ·subst h2
  refine W1X ?_
  refine cF ?_
  have hc:=cq s hs w.2.a (n:=4) (by omega)
  have hc:0≤(dr s 4 w.2).1∧(dr s 4 w.2).1 < 4:=hc
  generalize e4:dr s 4 w.2=y at hc ⊢
  obtain ⟨k,hkk⟩:∃k:Nat,y.1=k:=⟨y.1.toNat,by omega⟩
  have hv:gR s n 2 calls m=(⟨w.1.1,[p1.1],w.1.2,(gz s n k y.2).1,[],0⟩,(gz s n k y.2).2):=by simp [gR,cg,ret,e1,e3,e4,hkk]
  rw [hv,hkk]
  refine W04 ?_
  refine aN [0,6,7,8,10] (α:=Nat×Option (Nat×Nat)) (fun x=>[(11,aI x.1)]) (fun x=>x.1≤k) (fun x=>[dA b s F (gz s n x.1 y.2).2,(rb,.box [.imm 1 (bF (bG B.σ) w.1.1),.vec (some (kb,1)) 1 (bF (bG B.σ) [p1.1]),.imm 1 (bF (bG B.σ) w.1.2),.vec x.2 1 (aQ (gz s n x.1 y.2).1),.vec none 2 [],aI 0] 79),(tb,.box [bO,bO,bO,bO,bO,aI 0] 79)]++(tok x.2 3 1 (aQ (gz s n x.1 y.2).1).length++(tok (some (kb,1)) 22 1 1++[]))) (fun x=>k - x.1) (0,none) rfl ⟨rfl,trivial⟩ (Nat.zero_le _) (fun _ _ h=>h) ?_
  rintro ⟨i,q⟩ hi
  dsimp only at hi ⊢
  have hol:=w8 s hs n y.2 i
  have hstep:gz s n (i+1) y.2=((gz s n i y.2).1++[(dr s n (gz s n i y.2).2).1],(dr s n (gz s n i y.2).2).2):=rfl
  try dsimp only [Lr,Lq,Lp,Li]
  refine W01 ?_
  refine ar rfl (fun h=>?_) (fun h=>?_)
  ·have hil:i < k:=by have:=Lz h;omega
   generalize gz s n i y.2=st at hol hstep ⊢
   have hoil:(aQ st.1).length=st.1.length:=aX _
   refine W0K ?_
   refine dx [.cell (rb,3,.vec q 1 (aQ st.1))] 6 [(0,.v),(1,.k),(2,.v),(3,.v),(4,.f),(5,.v)] none ?_ trivial rfl (by kernel_rfl) (by kernel_rfl) (by kernel_rfl) bX (by kernel_rfl) rfl
   refine W0a ?_
   refine dP a5 0 rfl rfl rfl (bL 1 rfl rfl c8) (by first | trivial | rfl) ?_
   refine W0a ?_
   refine f4 (bL 1 rfl rfl c8) ?_
   generalize dr s n st.2=o at hstep ⊢
   refine W1e ?_
   refine LQ [0,6,7,8,10,11,115,119] KZ ?_
   repeat' (first|fail)
   refine bE a5 _ rfl rfl rfl rfl (eK (A:=[_,_,_])) (by simp [aX];omega) (by simp [aX];omega) rfl fun q'=>?_
   refine aE (aH (eK (A:=[_,_,_])).symm) ?_
   refine W0g ?_
   exact aC (i+1,q') rfl ⟨by rw [Lv];rfl,trivial⟩ (by dsimp only;omega) (by dsimp only;omega) (fun _ _ h=>by dsimp only;rw [hstep];simpa [eF,fx,aQ] using h)
  have hil:i=k:=by have:=Ly h;omega
  subst hil
  generalize gz s n i y.2=st
  refine W0H ?_
  exact bc (eE 2 (cs':=co (bG B.σ) ⟨w.1.1,[p1.1],w.1.2,st.1,[],0⟩) rfl fun σ _ vs hw h=>wH.vrs (a:=[.imm 1 (bF (bG B.σ) w.1.1),.vec (some (kb,1)) 1 (bF (bG B.σ) [p1.1]),.imm 1 (bF (bG B.σ) w.1.2),.vec q 1 (aQ st.1),.vec none 2 [],aI 0]) (b:=co (bG B.σ) ⟨w.1.1,[p1.1],w.1.2,st.1,[],0⟩) ⟨fun _ h=>h,fun v=>od (A:=[_,_,_]) hw (AE hX) hq,fun _ h=>h,fun v=>jm (A:=[_,_,_]) hw (AE hX) hq,fun v=>c6.vecNN _ _ _ v,fun _ h=>h,trivial⟩ h) (iH a5 2 [dA b s F st.2] rfl rfl rfl rfl rfl (List.Sublist.cons_cons _ (List.nil_sublist _)) ⟨rfl,rfl⟩)
 have hrow:=nX s (n:=n) (by omega) w.2
 by_cases h3:kind=3
 ·subst h3
  refine W1X ?_
  refine dx [.cell (rb,1,.vec (some (kb,1)) 1 (bF (bG B.σ) [p1.1]))] 4 [(0,.v),(1,.k),(2,.v),(3,.f)] none ?_ trivial rfl (by kernel_rfl) (by kernel_rfl) (by kernel_rfl) bX (by kernel_rfl) rfl
  refine W0a ?_
  refine dP a5 0 rfl rfl rfl (bL 1 rfl rfl c8) (by first | trivial | rfl) ?_
  refine W0a ?_
  refine tK (qd s hs F hF n hn h0 2 (by omega)) (fun l=>iQ l) (bL 1 rfl rfl c8) ?_
  generalize e4:pP s n 2 w.2=y at hrow ⊢
  have hrl:=hrow.1
  repeat' (first|fail)
  refine LQ [0,6,7,8,125,127] KZ ?_
  repeat' (first|fail)
  refine bE a5 _ rfl rfl rfl rfl (eK (A:=[_,_,_])) (by simp [dI];omega) (by simp [dI];omega) rfl fun q'=>?_
  refine aE (aH (eK (A:=[_,_,_])).symm) ?_
  rw [rI]
  refine W1A ?_
  refine cF ?_
  generalize e5:dr s n y.2=o
  have hv:gR s n 3 calls m=(⟨w.1.1,p1.1::y.1,w.1.2,[o.1],[],0⟩,o.2):=by simp [gR,cg,ret,e1,e3,e4,e5]
  rw [hv]
  repeat' (first|refine a9 ?_|refine a4 ?_|refine am ?_|refine a6 ?_|refine aK ?_|refine a7 ?_|refine LG a5 KZ ?_|(apply bq;first|refine LJ a5 0 LC ?_|refine LJ a5 1 LC ?_|refine LJ a5 2 LC ?_|refine LJ a5 3 LC ?_|refine LK a5 0 LC ?_|refine LK a5 1 LC ?_|refine LK a5 2 LC ?_|refine LL a5 1 LA (by assumption) rfl ?_|refine LL a5 0 LA (by assumption) rfl ?_|fail)|(apply aM;first|refine LH a5 0 LE ?_|refine LH a5 1 LE ?_|refine LH a5 2 LE ?_|refine LH a5 3 LE ?_|fail)|refine nP (d:=133) a5 fun _=>?_|fail)
  rename_i ko
  exact bc (eE 3 (cs':=co (bG B.σ) ⟨w.1.1,p1.1::y.1,w.1.2,[o.1],[],0⟩) rfl fun σ _ vs hw h=>wH.vrs (a:=[.imm 1 (bF (bG B.σ) w.1.1),.vec q' 1 (bF (bG B.σ) (p1.1::y.1)),.imm 1 (bF (bG B.σ) w.1.2),.vec (some (ko,1)) 1 (aQ [o.1]),.vec none 2 [],aI 0]) (b:=co (bG B.σ) ⟨w.1.1,p1.1::y.1,w.1.2,[o.1],[],0⟩) ⟨fun _ h=>h,fun v=>jm (A:=[_,_,_,_]) hw (fun x hx=>Ls _ (AE hX x hx)) hq,fun _ h=>h,fun v=>iM (k:=some (ko,1)) (e:=3) (sz:=1) (n:=1) hw (AE hX) (Lm _) hq,fun v=>c6.vecNN _ _ _ v,fun _ h=>h,trivial⟩ h) (iH a5 3 [dA b s F o.2] rfl rfl rfl rfl rfl (.cons _ (List.Sublist.cons_cons _ (List.nil_sublist _))) ⟨rfl,rfl⟩)
 have h4:kind=4:=by omega
 subst h4
 repeat' (first|refine a9 ?_|refine a4 ?_|refine ai ?_|refine a6 ?_|refine a7 ?_|refine LG a5 KZ ?_|refine bB rfl ?_)
 refine dx [.cell (rb,1,.vec (some (kb,1)) 1 (bF (bG B.σ) [p1.1]))] 4 [(0,.v),(1,.k),(2,.v),(3,.f)] none ?_ trivial rfl (by kernel_rfl) (by kernel_rfl) (by kernel_rfl) bX (by kernel_rfl) rfl
 refine W0a ?_
 refine dP a5 0 rfl rfl rfl (bL 1 rfl rfl c8) (by first | trivial | rfl) ?_
 refine W0a ?_
 refine tK (qd s hs F hF n hn h0 2 (by omega)) (fun l=>iQ l) (bL 1 rfl rfl c8) ?_
 generalize e4:pP s n 2 w.2=y at hrow ⊢
 have hrl:=hrow.1
 repeat' (first|fail)
 refine LQ [0,2,6,7,50,52] KZ ?_
 repeat' (first|fail)
 refine bE a5 _ rfl rfl rfl rfl (eK (A:=[_,_,_])) (by simp [dI];omega) (by simp [dI];omega) rfl fun q1=>?_
 refine aE (aH (eK (A:=[_,_,_])).symm) ?_
 rw [rI]
 refine W0p ?_
 refine cF ?_
 have hc:=cq s hs y.2.a (n:=3) (by omega)
 have hc:0≤(dr s 3 y.2).1∧(dr s 3 y.2).1 < 3:=hc
 generalize e5:dr s 3 y.2=o at hc ⊢
 obtain ⟨k,hkk⟩:∃k:Nat,o.1=k:=⟨o.1.toNat,by omega⟩
 have hv:gR s n 4 calls m=(⟨w.1.1,p1.1::y.1,w.1.2,[],(fz s (p1.1::y.1).length calls (if calls.length=0 then 0 else k) o.2).1,0⟩,(fz s (p1.1::y.1).length calls (if calls.length=0 then 0 else k) o.2).2):=by simp [gR,cg,ret,e1,e3,e4,e5,hkk]
 rw [hv,hkk]
 have hrw:(bF (bG B.σ) (p1.1::y.1)).length=(p1.1::y.1).length:=dI _ _
 have hrw2:(p1.1::y.1).length=y.1.length+1:=rfl
 have hcal:(aQ calls).length=calls.length:=aX _
 refine W04 ?_
 have hcon:∀i,(fz s (p1.1::y.1).length calls i o.2).1.length=i:=fun i=>wZ s hs _ calls o.2 i
 generalize hKK:(if calls.length=0 then 0 else k)=KK
 have hK:∀i:Nat,i < KK↔i < k∧0 < calls.length:=fun i=>by rw [←hKK];split <;> omega
 refine aN [0,2,6,7,12] (α:=Nat×Option (Nat×Nat)) (fun x=>[(13,aI x.1)]) (fun x=>x.1≤KK) (fun x=>[dA b s F (fz s (p1.1::y.1).length calls x.1 o.2).2,(rb,.box [.imm 1 (bF (bG B.σ) w.1.1),.vec q1 1 (bF (bG B.σ) (p1.1::y.1)),.imm 1 (bF (bG B.σ) w.1.2),.vec none 1 [],.vec x.2 2 ((fz s (p1.1::y.1).length calls x.1 o.2).1.map dC),aI 0] 79),(tb,.box [bO,bO,bO,bO,bO,aI 0] 79)]++(tok x.2 81 2 ((fz s (p1.1::y.1).length calls x.1 o.2).1.map dC).length++(tok q1 22 1 (bF (bG B.σ) (p1.1::y.1)).length++[]))) (fun x=>KK - x.1) (0,none) rfl ⟨rfl,trivial⟩ (Nat.zero_le _) (fun _ _ h=>h) ?_
 rintro ⟨i,q⟩ hi
 dsimp only at hi ⊢
 have hol:=hcon i
 have hstep:fz s (p1.1::y.1).length calls (i+1) o.2=(cg (dr s (p1.1::y.1).length) fun a=>cg (dr s calls.length) fun z=>ret ((fz s (p1.1::y.1).length calls i o.2).1++[(⟨a,calls.getD z.toNat 0⟩:gO)])) (fz s (p1.1::y.1).length calls i o.2).2:=rfl
 try dsimp only [Lr,Lq,Lp,Li]
 refine W0k ?_
 by_cases hik:i < KK
 ·have hik2:=(hK i).1 hik
  rw [decide_eq_true (show ((i:Nat):Int) < (k:Int) by omega)]
  refine W1w ?_
  rw [decide_eq_true (show (0:Int) < (((aQ calls).length:Nat):Int) by omega)]
  generalize fz s (p1.1::y.1).length calls i o.2=st at hol hstep ⊢
  have hoil:(st.1.map dC).length=st.1.length:=Lu ..
  repeat' (first|refine a9 ?_|refine ai ?_|refine aj ?_|refine a6 ?_|refine bR rfl ?_)
  refine dx [.cell (rb,4,.vec q 2 (st.1.map dC))] 16 [(0,.v),(1,.k),(2,.v),(3,.v),(4,.l),(5,.v),(7,.v),(8,.v),(9,.v),(10,.v),(6,.f),(11,.f),(12,.v),(13,.v),(14,.v),(15,.v)] none ?_ trivial rfl (by kernel_rfl) (by kernel_rfl) (by kernel_rfl) bX (by kernel_rfl) rfl
  refine W0a ?_
  refine dP a5 0 rfl rfl rfl (bL 1 rfl rfl c8) (by first | trivial | rfl) ?_
  refine W2b ?_
  rw [hrw]
  refine f4 (bL 1 rfl rfl c8) ?_
  unfold cg at hstep
  generalize dr s (p1.1::y.1).length st.2=g1 at hstep ⊢
  dsimp only at hstep
  repeat' (first|refine aD ?_|fail)
  rw [hcal]
  refine f4 (bL 1 rfl rfl c8) ?_
  have hg:=cq s hs g1.2.a (n:=calls.length) (by omega)
  have hg:0≤(dr s calls.length g1.2).1∧(dr s calls.length g1.2).1 < calls.length:=hg
  generalize dr s calls.length g1.2=g2 at hg hstep ⊢
  have hgl:(aQ calls)[g2.1.toNat]?=some [aI (calls.getD g2.1.toNat 0)]:=bW (by rw [List.getD_eq_getElem?_getD,Iy (show g2.1.toNat < calls.length by omega)];rfl)
  dsimp only [ret] at hstep
  refine W2g ?_
  refine LQ [0,2,6,7,12,13,68,82] KZ ?_
  repeat' (first|fail)
  refine bE a5 _ rfl rfl rfl rfl (eK (A:=[_,_,_])) (by simp;omega) (by simp;omega) rfl fun q'=>?_
  refine aE (aH (eK (A:=[_,_,_])).symm) ?_
  refine W0g ?_
  exact aC (i+1,q') rfl ⟨by rw [Lv];rfl,trivial⟩ (by dsimp only;omega) (by dsimp only;omega) (fun _ _ h=>by dsimp only;rw [hstep];simpa [eF,fx,dC] using h)
 have hiK:i=KK:=by omega
 subst hiK
 generalize fz s (p1.1::y.1).length calls i o.2=st
 have hno:¬(i < k∧0 < calls.length):=fun h=>absurd ((hK i).2 h) (by omega)
 by_cases hik2:i < k
 ·rw [decide_eq_true (show ((i:Nat):Int) < (k:Int) by omega)]
  refine W1w ?_
  rw [decide_eq_false (show ¬(0:Int) < (((aQ calls).length:Nat):Int) by omega)]
  repeat' (first|refine a9 ?_|refine a4 ?_|refine am ?_|refine aP ?_|refine a6 ?_|refine aq ?_|refine aK ?_|refine ay ?_|refine au ?_|refine a7 ?_|(apply bq;first|refine LJ a5 0 LC ?_|refine LJ a5 1 LC ?_|refine LJ a5 2 LC ?_|refine LJ a5 3 LC ?_|refine LK a5 0 LC ?_|refine LK a5 1 LC ?_|refine LK a5 2 LC ?_|refine LL a5 1 LA (by assumption) rfl ?_|refine LL a5 0 LA (by assumption) rfl ?_|fail)|(apply aM;first|refine LH a5 0 LE ?_|refine LH a5 1 LE ?_|refine LH a5 2 LE ?_|refine LH a5 3 LE ?_|fail)|refine bB rfl ?_)
  exact bc (eE 2 (cs':=co (bG B.σ) ⟨w.1.1,p1.1::y.1,w.1.2,[],st.1,0⟩) rfl fun σ _ vs hw h=>wH.vrs (a:=[.imm 1 (bF (bG B.σ) w.1.1),.vec q1 1 (bF (bG B.σ) (p1.1::y.1)),.imm 1 (bF (bG B.σ) w.1.2),.vec none 1 [],.vec q 2 (st.1.map dC),aI 0]) (b:=co (bG B.σ) ⟨w.1.1,p1.1::y.1,w.1.2,[],st.1,0⟩) ⟨fun _ h=>h,fun v=>od (A:=[_,_,_]) hw (AE hX) hq,fun _ h=>h,fun v=>c6.vecNN _ _ _ v,fun v=>jm (A:=[_,_,_]) hw (AE hX) hq,fun _ h=>h,trivial⟩ h) (iH a5 2 [dA b s F st.2] rfl rfl rfl rfl rfl (List.Sublist.cons_cons _ (List.nil_sublist _)) ⟨rfl,rfl⟩)
 ·rw [decide_eq_false (show ¬((i:Nat):Int) < (k:Int) by omega)]
  repeat' (first|refine a9 ?_|refine a4 ?_|refine am ?_|refine aP ?_|refine a6 ?_|refine aq ?_|refine aK ?_|refine ay ?_|refine au ?_|refine a7 ?_|refine LG a5 KZ ?_|refine LP LB ?_|(apply bq;first|refine LJ a5 0 LC ?_|refine LJ a5 1 LC ?_|refine LJ a5 2 LC ?_|refine LJ a5 3 LC ?_|refine LK a5 0 LC ?_|refine LK a5 1 LC ?_|refine LK a5 2 LC ?_|refine LL a5 1 LA (by assumption) rfl ?_|refine LL a5 0 LA (by assumption) rfl ?_|fail)|(apply aM;first|refine LH a5 0 LE ?_|refine LH a5 1 LE ?_|refine LH a5 2 LE ?_|refine LH a5 3 LE ?_|fail)|refine bB rfl ?_)
  exact bc (eE 2 (cs':=co (bG B.σ) ⟨w.1.1,p1.1::y.1,w.1.2,[],st.1,0⟩) rfl fun σ _ vs hw h=>wH.vrs (a:=[.imm 1 (bF (bG B.σ) w.1.1),.vec q1 1 (bF (bG B.σ) (p1.1::y.1)),.imm 1 (bF (bG B.σ) w.1.2),.vec none 1 [],.vec q 2 (st.1.map dC),aI 0]) (b:=co (bG B.σ) ⟨w.1.1,p1.1::y.1,w.1.2,[],st.1,0⟩) ⟨fun _ h=>h,fun v=>od (A:=[_,_,_]) hw (AE hX) hq,fun _ h=>h,fun v=>c6.vecNN _ _ _ v,fun v=>jm (A:=[_,_,_]) hw (AE hX) hq,fun _ h=>h,trivial⟩ h) (iH a5 2 [dA b s F st.2] rfl rfl rfl rfl rfl (List.Sublist.cons_cons _ (List.nil_sublist _)) ⟨rfl,rfl⟩)
end Go.Proofs.YtpmdfoaadejmkaaGreatDoor
namespace Go.Proofs.YtpmdfoaadejmkaaGreatDoor
open Go.RowKit
attribute [local irreducible] AT br AX AO Av Kt b7 dm DA cA
def cU (q:Nat→Prop) (l:aO):List AV:=[aI l.Kind,eo l.Ignore,.new q 6 (l.Rules.map (co q))]
def eW (z:Nat→Prop) (i j:Nat) (l:aO):List AV:=[aI l.Kind,eo l.Ignore,if j < i then .new z 6 (l.Rules.map (co z)) else bO]
def dU (z:Nat→Prop) (i:Nat):Nat→List aO→List AV
 | _,[]=>[]
 | k,l::r=>eW z i k l++dU z i (k+1) r
theorem yZ (z:Nat→Prop) (i:Nat):∀(l:List aO) (k:Nat),(dU z i k l).length=l.length * 3
 | [],k=>rfl
 | x::l,k=>by
  rw [dU,List.length_append,yZ z i l (k+1),List.length_cons,Nat.add_mul]
  simp [eW]
  omega
theorem q9 (z:Nat→Prop) (i:Nat):∀(l:List aO) (k j c:Nat),c < 3→(dU z i k l)[j * 3+c]?=(l[j]?).bind fun x=>(eW z i (k+j) x)[c]?
 | [],k,j,c,_=>by simp [dU]
 | x::l,k,0,c,hc=>by
  rw [dU,List.getElem?_append_left (by simp [eW];omega)]
  simp
 | x::l,k,j+1,c,hc=>by
  rw [dU,List.getElem?_append_right (by simp [eW];omega)]
  have h1:(j+1) * 3+c - (eW z i k x).length=j * 3+c:=by simp [eW];omega
  rw [h1,q9 z i l (k+1) j c hc,List.getElem?_cons_succ]
  rw [show k+1+j=k+(j+1) by omega]
theorem vT (z:Nat→Prop) (i:Nat):∀(l:List aO) (k:Nat) (x:aO),dU z i k (l++[x])=dU z i k l++eW z i (k+l.length) x
 | [],k,x=>by simp [dU]
 | y::l,k,x=>by
  rw [Lr,dU,vT z i l (k+1) x,dU,List.append_assoc,List.length_cons,show k+1+l.length=k+(l.length+1) by omega]
theorem z3 (z:Nat→Prop) {i:Nat} {l:List aO} {q:aO} {rs:List b8} (hq:l[i]?=some q):(dU z i 0 l).set (i * 3+2) (.new z 6 (rs.map (co z)))=dU z (i+1) 0 (l.set i { q with Rules:=rs }):=by
 have hil:=(Ln hq).1
 apply List.ext_getElem?
 intro p
 obtain ⟨j,c,hc,rfl⟩:∃j c,c < 3∧p=j * 3+c:=⟨p / 3,p % 3,Nat.mod_lt _ (by omega),by omega⟩
 rw [q9 z _ _ _ _ _ hc]
 by_cases e:i * 3+2=j * 3+c
 ·have hj:j=i:=by omega
  have hc2:c=2:=by omega
  subst hj;subst hc2
  rw [List.getElem?_set_self (by rw [yZ z];omega),List.getElem?_set_self hil]
  simp [eW]
 ·rw [List.getElem?_set_ne e,q9 z _ _ _ _ _ hc]
  by_cases hj:i=j
  ·subst hj
   rw [hq,List.getElem?_set_self hil]
   have hc2:c=0∨c=1:=by omega
   rcases hc2 with rfl | rfl <;> rfl
  ·rw [List.getElem?_set_ne hj]
   cases l[j]? with
   | none=>rfl
   | some x=>
    simp only [Option.bind_some,Nat.zero_add]
    have hc3:c=0∨c=1∨c=2:=by omega
    rcases hc3 with rfl | rfl | rfl
    ·rfl
    ·rfl
    ·simp only [eW]
     by_cases hlt:j < i
     ·rw [if_pos hlt,if_pos (by omega)]
     ·rw [if_neg hlt,if_neg (by omega)]
theorem DB (z:Nat→Prop) {i:Nat} {l:List aO} {q:aO} (hq:l[i]?=some q) (h0:q.Rules=[]):(dU z i 0 l).set (i * 3+2) (.new z 6 [])=dU z (i+1) 0 l:=by
 have:=z3 z (rs:=[]) hq
 rw [show l.set i { q with Rules:=[] }=l from ?_] at this
 ·exact this
 ·have:({ q with Rules:=[] }:aO)=q:=by cases q;simp at h0;simp [h0]
  rw [this]
  apply List.ext_getElem?
  intro j
  by_cases e:i=j
  ·subst e;rw [List.getElem?_set_self (Ln hq).1,hq]
  ·rw [List.getElem?_set_ne e]
theorem yY (z:Nat→Prop):∀(l:List aO) (i k:Nat),k+l.length≤i→dU z i k l=(l.map (cU z)).flatten
 | [],i,k,_=>rfl
 | x::l,i,k,h=>by
  simp only [List.length_cons] at h
  rw [dU,yY z l i (k+1) (by omega),Lp,List.flatten_cons]
  congr 1
  simp only [eW]
  rw [if_pos (by omega)]
  rfl
def tV (z:Nat→Prop) (n i:Nat) (l:List aO):Option (Nat×List AV×Nat)→Prop
 | none=>n=0
 | some (_,cs,cap)=>cs.length=cap * 3∧n≤cap∧cap≤maxLen∧cs.take (n * 3)=dU z i 0 l
theorem yf {nt:Nat} {D:List Deferred} {B:Bs} {fr:bT} {b p e e' sz n cap k:Nat} {cs ds:List AV} {R:AL} {l:List (List AV)} {q:Nat→Prop} (hX:∀x∈B.X,x∈((p,AB.box ds e')::R).map (·.1)) (hq:∀b,B.w.heap.size≤b→q b) (hk:ds[k]?=some (.sc (.slice (some ⟨b,0,none⟩) n cap))) (hc:cs.take (n * sz)=l.flatten) (hcl:cs.length=cap * sz) (hs:∀q∈l,q.length=sz) (hn:l.length=n) (hnc:n≤cap) (hm:cap≤maxLen):jn nt D B fr ((b,.box cs e)::(p,.box ds e')::R) fr ((p,.box (ds.set k (.new q sz l)) e')::R):=by
 intro σ a w ha hw
 have hb:=hw.newOf hX (Lm _)
 obtain ⟨vs,ho,hvs,_⟩:=hw.boxCell (i:=1) rfl
 obtain ⟨τ,ha',hw'⟩:=tv hk hc hcl hs hn hnc hm σ a w ha hw
 refine ⟨τ,ha',?_⟩
 have:=hw'.cellsW (i:=0) (cs':=ds.set k (.new q sz l)) rfl fun us hu h=>?_
 ·exact this
 ·have he:us=vs:=by
   rw [ho] at hu
   simp only [Option.some.injEq,Obj.cells.injEq] at hu
   exact (List.toArray_inj hu.1).symm
  subst he
  have hkl:=(Ln hk).1
  refine ⟨by rw [List.length_set,←h.1,List.length_set],fun i c u hc hu=>?_⟩
  by_cases e:k=i
  ·subst e
   rw [List.getElem?_set_self hkl] at hc
   injection hc with hc
   subst hc
   refine .new q sz l u (h.2 k _ u (List.getElem?_set_self hkl) hu) fun b' off n' cap' hv _=>?_
   have h0:=(hvs.2 k _ u hk hu).sc_inv
   rw [hv] at h0
   cases h0
   exact ⟨rfl,hq _ hb⟩
  ·rw [List.getElem?_set_ne e] at hc
   exact h.2 i c u (by rw [List.getElem?_set_ne e];exact hc) hu
end Go.Proofs.YtpmdfoaadejmkaaGreatDoor
