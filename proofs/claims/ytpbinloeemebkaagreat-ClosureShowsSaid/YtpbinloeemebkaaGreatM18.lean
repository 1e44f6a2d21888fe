/-
  The program: rules that may come to match.
-/
import Derived.Test.YtpbinloeemebkaaGreatM17
namespace Go.Proofs.YtpbinloeemebkaaGreat
open Go.RowKit
attribute [local irreducible] AT bO AX AO Av Kt bo dU DA cT
structure iN where
 rule:bv
 kind:Int
 ign:Bool
 unmet:List (List Int)
def vK (h:iN):List AV:=bJ h.rule++[aH h.kind,c9 h.ign,.imm 1 (bz h.unmet)]
def er (x:Nat×iN):Nat×AB:=(x.1,.box (vK x.2) 135)
def gN (f:aL) (k:Option (Nat×Nat)) (qs:List Nat):List AV:=cf f++[.vec k 1 (qs.map fun q=>[fg q])]
def fx (f:aL) (S:List Int) (ign:Bool) (n:Int):Bool:=zp f.Glyphs.length S n && !(ign && u5 f n)
set_option maxHeartbeats 1000000 in
theorem xn (f:aL) (ap b gp q:Nat) (k kg:Option (Nat×Nat)) (S:List Int) (qs:List Nat) (h:iN) (n:Int):AC Tryz.prog 56 [aH n,.iptr [fg ap],.iptr [fg q],.iptr [fg gp]] (er (q,h)::(gp,.box (gN f kg qs) 131)::bg ap b f.Glyphs.length k S) fun c L=>c=c9 (fx f S h.ign n)∧L=er (q,h)::(gp,.box (gN f kg qs) 131)::bg ap b f.Glyphs.length k S:=by
 refine aT Tryz.func56 rfl Tryz.ntmps56 rfl fun B=>?_
 unfold fx
 repeat' (first|refine go ?_|refine HF a1 F8 ?_)
 refine bb (bg ap b f.Glyphs.length k S) [er (q,h),(gp,.box (gN f kg qs) 131)] (DP ap b f.Glyphs.length k S n) rfl rfl (List.perm_append_comm (l₁:=[er (q,h),(gp,.box (gN f kg qs) 131)])) rfl fun c L1 ⟨hc,hL⟩=>?_
 subst hc;subst hL
 refine aV (aJ List.perm_append_comm) ?_
 cases hi:zp f.Glyphs.length S n with
 | false=>
  repeat' (first|refine go ?_|refine HF a1 F8 ?_|refine HS HB ?_|refine cR rfl rfl rfl ?_)
  exact HN F8 ⟨rfl,rfl⟩
 | true=>
  have hr:0≤n∧n < f.Glyphs.length:=by
   unfold zp at hi
   rw [Bool.and_eq_true,decide_eq_true_eq] at hi
   exact hi.1
  obtain ⟨gl,hg⟩:∃g,f.Glyphs[n.toNat]?=some g:=⟨_,Hz (by omega)⟩
  have hgg:=bA (c:=bS) hg
  have hm:u5 f n=gl.Mark:=by unfold u5;rw [hg]
  rw [hm]
  obtain ⟨rule,kind,ign,unmet⟩:=h
  unfold er vK gN
  dsimp only
  repeat' (first|refine HF a1 F8 ?_|refine HO F8 ?_|(apply bh;first|refine HJ a1 0 HC ?_|refine HJ a1 1 HC ?_|refine HJ a1 2 HC ?_|refine HJ a1 3 HC ?_|refine HK a1 0 HC ?_|refine HK a1 1 HC ?_|refine HK a1 2 HC ?_|refine HM a1 1 HA (by assumption) rfl ?_|refine HM a1 0 HA (by assumption) rfl ?_|fail)|fail)
  cases ign
  ·repeat' (first|refine go ?_|refine HF a1 F8 ?_|refine HO F8 ?_|refine HS HB ?_)
   exact HN F8 ⟨rfl,rfl⟩
  ·repeat' (first|refine go ?_|refine HF a1 F8 ?_|refine HO F8 ?_|(apply bh;first|refine HJ a1 0 HC ?_|refine HJ a1 1 HC ?_|refine HJ a1 2 HC ?_|refine HJ a1 3 HC ?_|refine HK a1 0 HC ?_|refine HK a1 1 HC ?_|refine HK a1 2 HC ?_|refine HM a1 1 HA (by assumption) rfl ?_|refine HM a1 0 HA (by assumption) rfl ?_|fail)|(apply aX;first|refine aU a1 ?_|refine aK a1 ?_)|fail)
   exact HN F8 ⟨rfl,rfl⟩
def iN.rest (h:iN) (p:Int→Bool):iN:={ h with unmet:=h.unmet.dropWhile fun s=>s.any p }
set_option maxHeartbeats 1000000 in
theorem vW {g:FuncId} {caps:List AV} [bK Tryz.prog g] (q:Nat) (h:iN) (p:Int→Bool) (rest:AL) (hw:∀un z,AC Tryz.prog g ([aH z]++caps) (er (q,{ h with unmet:=un })::rest) fun c L'=>c=c9 (p z)∧L'=er (q,{ h with unmet:=un })::rest):AC Tryz.prog 57 [fg q,.fn g caps] (er (q,h)::rest) fun c L=>c=c9 (h.unmet.all fun s=>s.any p)∧L=er (q,h.rest p)::rest:=by
 refine aT Tryz.func57 rfl Tryz.ntmps57 rfl fun B=>?_
 repeat' (first|refine go ?_|refine ak ?_|refine HF a1 F8 ?_)
 refine aR [0,1] (α:=List (List Int)) (fun _=>[]) (fun un=>(h.unmet.all fun s=>s.any p)=(un.all fun s=>s.any p)∧(h.unmet.dropWhile fun s=>s.any p)=un.dropWhile fun s=>s.any p) (fun un=>er (q,{ h with unmet:=un })::rest) (fun un=>un.length) h.unmet rfl trivial ⟨rfl,rfl⟩ (fun _ _ h=>h) ?_
 rintro un ⟨h1,h2⟩
 try dsimp only [Hs,Hr,Hq,Hl]
 cases un with
 | nil=>
  unfold er vK
  dsimp only
  repeat' (first|refine go ?_|refine HF a1 F8 ?_|refine HS HB ?_|(apply bh;first|refine HJ a1 0 HC ?_|refine HJ a1 1 HC ?_|refine HJ a1 2 HC ?_|refine HJ a1 3 HC ?_|refine HK a1 0 HC ?_|refine HK a1 1 HC ?_|refine HK a1 2 HC ?_|refine HM a1 1 HA (by assumption) rfl ?_|refine HM a1 0 HA (by assumption) rfl ?_|fail)|refine bL rfl ?_)
  refine HN F8 ⟨by rw [h1];rfl,?_⟩
  unfold iN.rest
  rw [h2]
  rfl
 | cons s un=>
  have hsg:(bz (s::un))[(0:Int).toNat]?=some [.imm 1 (aS s)]:=rfl
  have hpos:decide (0 < (((bz (s::un)).length:Nat):Int))=true:=decide_eq_true (by rw [d3,List.length_cons];omega)
  have hw':=hw (s::un)
  unfold er vK at hw' ⊢
  dsimp only at hw' ⊢
  repeat' (first|refine go ?_|refine HF a1 F8 ?_|(apply bh;first|refine HJ a1 0 HC ?_|refine HJ a1 1 HC ?_|refine HJ a1 2 HC ?_|refine HJ a1 3 HC ?_|refine HK a1 0 HC ?_|refine HK a1 1 HC ?_|refine HK a1 2 HC ?_|refine HM a1 1 HA (by assumption) rfl ?_|refine HM a1 0 HA (by assumption) rfl ?_|fail)|fail)
  rw [hpos]
  repeat' (first|refine HF a1 F8 ?_|refine HO F8 ?_|(apply bh;first|refine HJ a1 0 HC ?_|refine HJ a1 1 HC ?_|refine HJ a1 2 HC ?_|refine HJ a1 3 HC ?_|refine HK a1 0 HC ?_|refine HK a1 1 HC ?_|refine HK a1 2 HC ?_|refine HM a1 1 HA (by assumption) rfl ?_|refine HM a1 0 HA (by assumption) rfl ?_|fail)|(apply aX;first|refine aU a1 ?_|refine aK a1 ?_)|fail)
  refine bb ((q,AB.box (bJ h.rule++[aH h.kind,c9 h.ign,AV.imm 1 (bz (s::un))]) 135)::rest) [] (y0 rfl s p _ hw') rfl rfl (bB rfl) rfl fun c L1 ⟨hc,hL⟩=>?_
  subst hc;subst hL
  rw [List.append_nil]
  cases hs:s.any p with
  | false=>
   repeat' (first|refine go ?_|refine HF a1 F8 ?_|(apply bh;first|refine HJ a1 0 HC ?_|refine HJ a1 1 HC ?_|refine HJ a1 2 HC ?_|refine HJ a1 3 HC ?_|refine HK a1 0 HC ?_|refine HK a1 1 HC ?_|refine HK a1 2 HC ?_|refine HM a1 1 HA (by assumption) rfl ?_|refine HM a1 0 HA (by assumption) rfl ?_|fail)|refine bL rfl ?_)
   refine HN F8 ⟨?_,?_⟩
   ·rw [h1,List.all_cons,hs]
    rfl
   ·unfold iN.rest
    rw [h2,List.dropWhile_cons_of_neg (by simpa using hs)]
  | true=>
   repeat' (first|refine go ?_|refine ak ?_|refine HF a1 F8 ?_|(apply bh;first|refine HJ a1 0 HC ?_|refine HJ a1 1 HC ?_|refine HJ a1 2 HC ?_|refine HJ a1 3 HC ?_|refine HK a1 0 HC ?_|refine HK a1 1 HC ?_|refine HK a1 2 HC ?_|refine HM a1 1 HA (by assumption) rfl ?_|refine HM a1 0 HA (by assumption) rfl ?_|fail)|refine bR rfl ?_)
   refine d8 (zD (lo:=1) (bq a1 rfl).1 rfl rfl rfl rfl rfl (by rw [d3,List.length_cons];omega)) rfl rfl ?_
   repeat' (first|refine go ?_|refine HF a1 F8 ?_|(apply aQ;first|refine HG a1 0 HD ?_|refine HG a1 1 HD ?_|refine HG a1 2 HD ?_|refine HG a1 3 HD ?_|fail))
   refine aF un rfl trivial ⟨?_,?_⟩ (by simp) (fun _ _ h=>h)
   ·rw [h1,List.all_cons,hs,Bool.true_and]
   ·rw [h2,List.dropWhile_cons_of_pos (by simpa using hs)]
section
variable {P:Program} {tt:TT} {l:List Oper} {fr:c6} {fin:iq} {sk:ky} {acc:c6} {L:AL} {k:Nat} {dd:Option Tmp} {ty t t':TypeId} {pos:String} {af:Array Edge} {g:Option (Nat×Bool)} {x y:Operand} {u:AV}
theorem vr (ok:ev P tt) (hi:Nat) {e sz by_ s:Nat} {l1:List (List AV)} {q:IntKind} {a:Int} (ht:jt tt t=some (e,sz,by_)) (hx:bt (cB l.toArray acc fr af.toList) x=some u) (hu:hQ u=some (s,l1)) (hs:Nat.beq s sz=true) (hy:bt (cB l.toArray acc fr af.toList) y=some (.sc (.int q a))) (ha:a=(hi:Int)) (h1:hi≤l1.length) (hg:iL ⟨dd,.slice t x none (some y) none,ty,pos,af,g⟩ acc) (h:DA P l fr fin sk ((k,.imm s (l1.take hi))::acc) L):
  cT P l fr fin k .v ⟨dd,.slice t x none (some y) none,ty,pos,af,g⟩ sk acc L:=f6 hg (fun _ _=>(zC (bq ok ht).1 hx (cM hu) hs hy ha h1).ao) h
end
def gT (h:iN) (p:Int→Bool):List Int:=if h.kind=1∨h.kind=5 then ((h.rule.Out.zip (h.rule.In.headD [])).filter fun x=>p x.2).map (·.1) else if h.kind=2 then h.rule.Out else if h.kind=3 then h.rule.Out.take 1 else []
theorem vN (l:List Int):(aS l).take (min l.length 1)=aS (l.take 1):=by
 cases l with
 | nil=>rfl
 | cons x l=>rw [show min (x::l).length 1=1 by rw [List.length_cons];omega];rfl
theorem uK {l k:List Int} {i:Nat} {a b:Int} (ha:l[i]?=some a) (hb:k[i]?=some b):(l.zip k).take (i+1)=(l.zip k).take i++[(a,b)]:=by
 rw [List.take_add_one,show (l.zip k)[i]?=some (a,b) by rw [List.getElem?_zip_eq_some];exact ⟨ha,hb⟩]
 rfl
set_option maxHeartbeats 4000000 in
theorem Du {g:FuncId} {caps:List AV} [bK Tryz.prog g] (q:Nat) (h:iN) (p:Int→Bool) (rest:AL) (hw:∀z,AC Tryz.prog g ([aH z]++caps) (er (q,h)::rest) fun c L'=>c=c9 (p z)∧L'=er (q,h)::rest) (hin:h.rule.In≠[]) (hout:h.rule.Out.length≤1000000) (np nb n:Nat) (k:Option (Nat×Nat)) (l:List Int) (hn:n≤1000000) (hl:cE n l):AC Tryz.prog 58 [fg q,.fn g caps,fg np] (er (q,h)::rest++bg np nb n k l) fun _ L=>∃k',L=er (q,h)::rest++bg np nb n k' (cg n l (gT h p)):=by
 refine aT Tryz.func58 rfl Tryz.ntmps58 rfl fun B=>?_
 obtain ⟨y,hy⟩:∃y,h.rule.In[0]?=some y:=⟨_,Hz (List.length_pos_iff.2 hin)⟩
 have hyg:=lE hy
 have hd:h.rule.In.headD []=y:=by
  cases hI:h.rule.In with
  | nil=>exact absurd hI hin
  | cons y' q=>rw [hI] at hy;simpa using hy
 have hadd:=mz np nb n k l
 have hOl:=aN h.rule.Out
 have hYl:=aN y
 by_cases h1:h.kind=1
 ·have ht:gT h p=((h.rule.Out.zip y).filter fun x=>p x.2).map (·.1):=by unfold gT;rw [if_pos (.inl h1),hd]
  rw [ht]
  unfold er vK at hw ⊢
  dsimp only at hw ⊢
  repeat' (first|refine go ?_|refine ak ?_|refine HF a1 F8 ?_|(apply bh;first|refine HJ a1 0 HC ?_|refine HJ a1 1 HC ?_|refine HJ a1 2 HC ?_|refine HJ a1 3 HC ?_|refine HK a1 0 HC ?_|refine HK a1 1 HC ?_|refine HK a1 2 HC ?_|refine HM a1 1 HA (by assumption) rfl ?_|refine HM a1 0 HA (by assumption) rfl ?_|fail)|fail)
  refine ay rfl (fun hh=>?_) (fun hh=>absurd h1 (Hx hh))
  rw [decide_eq_true h1]
  repeat' (first|refine go ?_|refine HF a1 F8 ?_|(apply bh;first|refine HJ a1 0 HC ?_|refine HJ a1 1 HC ?_|refine HJ a1 2 HC ?_|refine HJ a1 3 HC ?_|refine HK a1 0 HC ?_|refine HK a1 1 HC ?_|refine HK a1 2 HC ?_|refine HM a1 1 HA (by assumption) rfl ?_|refine HM a1 0 HA (by assumption) rfl ?_|fail)|(apply aX;first|refine aU a1 ?_|refine aK a1 ?_)|refine bR rfl ?_)
  refine bj 17 [(0,.v),(1,.v),(2,.v),(3,.v),(4,.l),(5,.v),(6,.v),(7,.v),(8,.v),(9,.l),(10,.v),(11,.v),(12,.v),(13,.v),(14,.v),(15,.v),(16,.v)] none ?_ trivial rfl (by kernel_rfl) (by kernel_rfl) (by kernel_rfl) mixed (by kernel_rfl) rfl
  repeat' (first|refine aE ?_|refine ba a1 ?_|refine bX a1 0 rfl rfl rfl rfl (by first|trivial|rfl) ?_)
  refine vr a1 (min h.rule.Out.length y.length) rfl rfl rfl rfl rfl (by rw [hOl,hYl];omega) (by rw [hOl];omega) trivial ?_
  repeat' (first|refine aE ?_|refine ba a1 ?_|fail)
  refine HR [1,2,6,37,38,39] F8 ?_
  repeat' (first|refine ak ?_|refine a8 ?_|refine go ?_|fail)
  have hm:((aS h.rule.Out).take (min h.rule.Out.length y.length)).length=min h.rule.Out.length y.length:=by rw [List.length_take,hOl];omega
  refine aR [1,2,6,37,38] (α:=Nat×Option (Nat×Nat)) (fun x=>[(39,aH x.1)]) (fun x=>x.1≤min h.rule.Out.length y.length) (fun x=>(q,AB.box (bJ h.rule++[aH h.kind,c9 h.ign,AV.imm 1 (bz h.unmet)]) 135)::rest++bg np nb n x.2 (cg n l ((((h.rule.Out.zip y).take x.1).filter fun x=>p x.2).map (·.1)))) (fun x=>min h.rule.Out.length y.length - x.1) (0,k) rfl ⟨rfl,trivial⟩ (Nat.zero_le _) (fun _ _ h=>h) ?_
  rintro ⟨i,k1⟩ hi
  dsimp only at hi ⊢
  try dsimp only [Hs,Hr,Hq,Hl]
  repeat' (first|refine go ?_|refine HF a1 F8 ?_)
  refine ay rfl (fun e=>?_) (fun e=>?_)
  ·have hil:i < min h.rule.Out.length y.length:=by have:=Hy e;rw [hm] at this;omega
   obtain ⟨o,ho⟩:∃z,h.rule.Out[i]?=some z:=⟨_,Hz (by omega)⟩
   obtain ⟨z,hz⟩:∃z,y[i]?=some z:=⟨_,Hz (by omega)⟩
   have hog:((aS h.rule.Out).take (min h.rule.Out.length y.length))[i]?=some [aH o]:=by rw [List.getElem?_take,if_pos hil];exact bG ho
   have hzg:=bG hz
   have hzt:=uK ho hz
   repeat' (first|refine go ?_|refine ak ?_|refine HF a1 F8 ?_|(apply aX;first|refine aU a1 ?_|refine aK a1 ?_)|fail)
   refine df ((q,AB.box (bJ h.rule++[aH h.kind,c9 h.ign,AV.imm 1 (bz h.unmet)]) 135)::rest) _ (hw z) rfl rfl rfl (Ho _) rfl rfl fun c L1 ⟨hc,hL⟩=>?_
   subst hc;subst hL
   repeat' (first|refine go ?_|fail)
   refine ay rfl (fun e2=>?_) (fun e2=>?_)
   ·repeat' (first|refine go ?_|refine HF a1 F8 ?_|refine bI a1 ?_|fail)
    refine bb (bg np nb n k1 (cg n l ((((h.rule.Out.zip y).take i).filter fun x=>p x.2).map (·.1)))) _ (mz np nb n k1 _ [o] hn (hl.add _)) rfl rfl List.perm_append_comm rfl fun c L1 ⟨k',hL⟩=>?_
    subst hL
    refine aV (aJ List.perm_append_comm) ?_
    repeat' (first|refine go ?_|refine HF a1 F8 ?_|(apply aZ;refine aY ?_)|fail)
    refine aF (i+1,k') rfl ⟨by rw [Hv];rfl,trivial⟩ (by dsimp only;omega) (by dsimp only;omega) (fun _ _ h=>?_)
    dsimp only
    rw [hzt,List.filter_append,List.map_append,←eI]
    simpa [e2] using h
   ·repeat' (first|refine go ?_|refine HF a1 F8 ?_|(apply aZ;refine aY ?_)|fail)
    refine aF (i+1,k1) rfl ⟨by rw [Hv];rfl,trivial⟩ (by dsimp only;omega) (by dsimp only;omega) (fun _ _ h=>?_)
    dsimp only
    rw [hzt,List.filter_append,List.map_append,←eI]
    simpa [e2,cg] using h
  ·have hil:i=min h.rule.Out.length y.length:=by have:=Hx e;rw [hm] at this;omega
   subst hil
   repeat' (first|refine go ?_|fail)
   refine ce rfl ⟨k1,?_⟩
   rw [List.take_of_length_le (by rw [List.length_zip];exact Nat.le_refl _)]
 by_cases h5:h.kind=5
 ·have ht:gT h p=((h.rule.Out.zip y).filter fun x=>p x.2).map (·.1):=by unfold gT;rw [if_pos (.inr h5),hd]
  rw [ht]
  unfold er vK at hw ⊢
  dsimp only at hw ⊢
  repeat' (first|refine go ?_|refine ak ?_|refine HF a1 F8 ?_|(apply bh;first|refine HJ a1 0 HC ?_|refine HJ a1 1 HC ?_|refine HJ a1 2 HC ?_|refine HJ a1 3 HC ?_|refine HK a1 0 HC ?_|refine HK a1 1 HC ?_|refine HK a1 2 HC ?_|refine HM a1 1 HA (by assumption) rfl ?_|refine HM a1 0 HA (by assumption) rfl ?_|fail)|fail)
  refine ay rfl (fun hh=>absurd (Hy hh) h1) (fun _=>?_)
  repeat' (first|refine go ?_|refine HF a1 F8 ?_)
  rw [decide_eq_true h5]
  repeat' (first|refine go ?_|refine HF a1 F8 ?_|(apply bh;first|refine HJ a1 0 HC ?_|refine HJ a1 1 HC ?_|refine HJ a1 2 HC ?_|refine HJ a1 3 HC ?_|refine HK a1 0 HC ?_|refine HK a1 1 HC ?_|refine HK a1 2 HC ?_|refine HM a1 1 HA (by assumption) rfl ?_|refine HM a1 0 HA (by assumption) rfl ?_|fail)|(apply aX;first|refine aU a1 ?_|refine aK a1 ?_)|refine bR rfl ?_)
  refine bj 17 [(0,.v),(1,.v),(2,.v),(3,.v),(4,.l),(5,.v),(6,.v),(7,.v),(8,.v),(9,.l),(10,.v),(11,.v),(12,.v),(13,.v),(14,.v),(15,.v),(16,.v)] none ?_ trivial rfl (by kernel_rfl) (by kernel_rfl) (by kernel_rfl) mixed (by kernel_rfl) rfl
  repeat' (first|refine aE ?_|refine ba a1 ?_|refine bX a1 0 rfl rfl rfl rfl (by first|trivial|rfl) ?_)
  refine vr a1 (min h.rule.Out.length y.length) rfl rfl rfl rfl rfl (by rw [hOl,hYl];omega) (by rw [hOl];omega) trivial ?_
  repeat' (first|refine aE ?_|refine ba a1 ?_|fail)
  refine HR [1,2,6,37,38,39] F8 ?_
  repeat' (first|refine ak ?_|refine a8 ?_|refine go ?_|fail)
  have hm:((aS h.rule.Out).take (min h.rule.Out.length y.length)).length=min h.rule.Out.length y.length:=by rw [List.length_take,hOl];omega
  refine aR [1,2,6,37,38] (α:=Nat×Option (Nat×Nat)) (fun x=>[(39,aH x.1)]) (fun x=>x.1≤min h.rule.Out.length y.length) (fun x=>(q,AB.box (bJ h.rule++[aH h.kind,c9 h.ign,AV.imm 1 (bz h.unmet)]) 135)::rest++bg np nb n x.2 (cg n l ((((h.rule.Out.zip y).take x.1).filter fun x=>p x.2).map (·.1)))) (fun x=>min h.rule.Out.length y.length - x.1) (0,k) rfl ⟨rfl,trivial⟩ (Nat.zero_le _) (fun _ _ h=>h) ?_
  rintro ⟨i,k1⟩ hi
  dsimp only at hi ⊢
  try dsimp only [Hs,Hr,Hq,Hl]
  repeat' (first|refine go ?_|refine HF a1 F8 ?_)
  refine ay rfl (fun e=>?_) (fun e=>?_)
  ·have hil:i < min h.rule.Out.length y.length:=by have:=Hy e;rw [hm] at this;omega
   obtain ⟨o,ho⟩:∃z,h.rule.Out[i]?=some z:=⟨_,Hz (by omega)⟩
   obtain ⟨z,hz⟩:∃z,y[i]?=some z:=⟨_,Hz (by omega)⟩
   have hog:((aS h.rule.Out).take (min h.rule.Out.length y.length))[i]?=some [aH o]:=by rw [List.getElem?_take,if_pos hil];exact bG ho
   have hzg:=bG hz
   have hzt:=uK ho hz
   repeat' (first|refine go ?_|refine ak ?_|refine HF a1 F8 ?_|(apply aX;first|refine aU a1 ?_|refine aK a1 ?_)|fail)
   refine df ((q,AB.box (bJ h.rule++[aH h.kind,c9 h.ign,AV.imm 1 (bz h.unmet)]) 135)::rest) _ (hw z) rfl rfl rfl (Ho _) rfl rfl fun c L1 ⟨hc,hL⟩=>?_
   subst hc;subst hL
   repeat' (first|refine go ?_|fail)
   refine ay rfl (fun e2=>?_) (fun e2=>?_)
   ·repeat' (first|refine go ?_|refine HF a1 F8 ?_|refine bI a1 ?_|fail)
    refine bb (bg np nb n k1 (cg n l ((((h.rule.Out.zip y).take i).filter fun x=>p x.2).map (·.1)))) _ (mz np nb n k1 _ [o] hn (hl.add _)) rfl rfl List.perm_append_comm rfl fun c L1 ⟨k',hL⟩=>?_
    subst hL
    refine aV (aJ List.perm_append_comm) ?_
    repeat' (first|refine go ?_|refine HF a1 F8 ?_|(apply aZ;refine aY ?_)|fail)
    refine aF (i+1,k') rfl ⟨by rw [Hv];rfl,trivial⟩ (by dsimp only;omega) (by dsimp only;omega) (fun _ _ h=>?_)
    dsimp only
    rw [hzt,List.filter_append,List.map_append,←eI]
    simpa [e2] using h
   ·repeat' (first|refine go ?_|refine HF a1 F8 ?_|(apply aZ;refine aY ?_)|fail)
    refine aF (i+1,k1) rfl ⟨by rw [Hv];rfl,trivial⟩ (by dsimp only;omega) (by dsimp only;omega) (fun _ _ h=>?_)
    dsimp only
    rw [hzt,List.filter_append,List.map_append,←eI]
    simpa [e2,cg] using h
  ·have hil:i=min h.rule.Out.length y.length:=by have:=Hx e;rw [hm] at this;omega
   subst hil
   repeat' (first|refine go ?_|fail)
   refine ce rfl ⟨k1,?_⟩
   rw [List.take_of_length_le (by rw [List.length_zip];exact Nat.le_refl _)]
 have ht:gT h p=if h.kind=2 then h.rule.Out else if h.kind=3 then h.rule.Out.take 1 else []:=by unfold gT;rw [if_neg (by omega)]
 rw [ht]
 unfold er vK
 dsimp only
 repeat' (first|refine go ?_|refine ak ?_|refine HF a1 F8 ?_|(apply bh;first|refine HJ a1 0 HC ?_|refine HJ a1 1 HC ?_|refine HJ a1 2 HC ?_|refine HJ a1 3 HC ?_|refine HK a1 0 HC ?_|refine HK a1 1 HC ?_|refine HK a1 2 HC ?_|refine HM a1 1 HA (by assumption) rfl ?_|refine HM a1 0 HA (by assumption) rfl ?_|fail)|fail)
 refine ay rfl (fun h=>absurd (Hy h) h1) (fun _=>?_)
 repeat' (first|refine go ?_|refine HF a1 F8 ?_)
 rw [decide_eq_false h5]
 repeat' (first|refine go ?_|refine HF a1 F8 ?_|refine bL rfl ?_)
 refine ay rfl (fun e=>?_) (fun e=>?_)
 ·have e':=Hy e
  rw [if_pos e']
  repeat' (first|refine go ?_|refine HF a1 F8 ?_|(apply bh;first|refine HJ a1 0 HC ?_|refine HJ a1 1 HC ?_|refine HJ a1 2 HC ?_|refine HJ a1 3 HC ?_|refine HK a1 0 HC ?_|refine HK a1 1 HC ?_|refine HK a1 2 HC ?_|refine HM a1 1 HA (by assumption) rfl ?_|refine HM a1 0 HA (by assumption) rfl ?_|fail)|fail)
  refine bb (bg np nb n k l) _ (mz np nb n k l h.rule.Out hn hl) rfl rfl List.perm_append_comm rfl fun c L1 ⟨k',hL⟩=>?_
  subst hL
  refine aV (aJ List.perm_append_comm) ?_
  repeat' (first|refine go ?_|fail)
  exact ce rfl ⟨k',rfl⟩
 have e2:=Hx e
 rw [if_neg e2]
 repeat' (first|refine go ?_|refine HF a1 F8 ?_)
 refine ay rfl (fun e=>?_) (fun e=>?_)
 ·have e':=Hy e
  rw [if_pos e']
  repeat' (first|fail)
  refine bj 15 [(0,.v),(1,.v),(2,.v),(3,.v),(4,.v),(5,.l),(6,.v),(7,.v),(8,.v),(9,.v),(10,.l),(11,.v),(12,.v),(13,.v),(14,.e)] none ?_ trivial rfl (by kernel_rfl) (by kernel_rfl) (by kernel_rfl) mixed (by kernel_rfl) rfl
  repeat' (first|refine aE ?_|refine ba a1 ?_|refine bX a1 0 rfl rfl rfl rfl (by first|trivial|rfl) ?_)
  refine vr a1 (min h.rule.Out.length 1) rfl rfl rfl rfl rfl (by rw [hOl];omega) (by rw [hOl];omega) trivial ?_
  repeat' (first|refine aE ?_|fail)
  refine fj (bg np nb n k l) _ (mz np nb n k l (h.rule.Out.take 1) hn hl) rfl (by rw [show (aS h.rule.Out).take (min h.rule.Out.length 1)=aS (h.rule.Out.take 1) from vN _];rfl) List.perm_append_comm trivial fun c L1 ⟨k',hL⟩=>?_
  subst hL
  repeat' (first|fail)
  refine HR [] F8 ?_
  repeat' (first|refine go ?_|refine a8 ?_|fail)
  exact bk (aJ List.perm_append_comm) (ce rfl ⟨k',rfl⟩)
 ·have e':=Hx e
  rw [if_neg e']
  repeat' (first|refine go ?_|fail)
  exact ce rfl ⟨k,rfl⟩
end Go.Proofs.YtpbinloeemebkaaGreat
namespace Go.Proofs.YtpbinloeemebkaaGreat
open Go.RowKit
attribute [local irreducible] AT bO AX AO Av Kt bo dU DA cT
section
variable {P:Program} {l:List Oper} {fr:c6} {fin:iq} {sk:ky} {acc:c6} {L:AL} {k:Nat} {dd:Option Tmp} {ty t t':TypeId} {pos:String} {af:Array Edge} {g:Option (Nat×Bool)} {x y:Operand} {u:AV}
theorem FB {cs:List AV} (hx:bt (cB l.toArray acc fr af.toList) x=some u) (hc:u.cells=some cs) (hg:iL ⟨dd,.box t x,ty,pos,af,g⟩ acc) (h:∀b,DA P l fr fin sk ((k,fg b)::acc) ((b,.box cs t)::L)):cT P l fr fin k .a ⟨dd,.box t x,ty,pos,af,g⟩ sk acc L:=
 Ab (fun c L' ⟨b,_,h2⟩=>⟨[(b,.box cs t)],h2⟩) hg (fun _=>va hx hc) fun c L' ⟨b,h1,h2⟩=>by subst h1;subst h2;exact h b
end
def jP (l:aP) (r:bv):iN:=⟨r,l.Kind,l.Ignore,r.In++(r.Back++r.Ahead)⟩
def gw (l:aP) (rs:List bv):List iN:=(rs.filter fun r=>decide (r.In≠[])).map (jP l)
def kR (f:aL) (n:Int):List iN:=match f.Lookups[n.toNat]? with
 | some l=>gw l l.Rules
 | none=>[]
def dR (f:aL) (ks:List Int):List iN:=ks.flatMap (kR f)
theorem tT {f:aL} {S:List Int} {i:Nat} {z:Int} (h:S[i]?=some z):dR f (S.take (i+1))=dR f (S.take i)++kR f z:=by
 unfold dR
 rw [List.take_add_one,h,Option.toList_some,List.flatMap_append]
 simp
abbrev HQ:=List (Nat×iN)
def fB (f:aL) (gp:Nat) (k:Option (Nat×Nat)) (hq:HQ) (Z:AL):AL:=(gp,.box (gN f k (hq.map (·.1))) 131)::(tok k 133 1 (hq.map (·.1)).length++(hq.map er++Z))
theorem vL {l:aP} {j:Nat} {r:bv} (h:l.Rules[j]?=some r) (hr:r.In≠[]):gw l (l.Rules.take (j+1))=gw l (l.Rules.take j)++[jP l r]:=by
 unfold gw
 rw [List.take_add_one,h,Option.toList_some,List.filter_append,List.map_append]
 simp [hr]
theorem yn {l:aP} {j:Nat} {r:bv} (h:l.Rules[j]?=some r) (hr:r.In=[]):gw l (l.Rules.take (j+1))=gw l (l.Rules.take j):=by
 unfold gw
 rw [List.take_add_one,h,Option.toList_some,List.filter_append,List.map_append]
 simp [hr]
theorem ui {R:AL} {a:Nat×AB} {t h M:AL}:(R++(a::(t++(h++M)))).Perm (a::(t++(h++(R++M)))):=by
 have:=List.perm_append_comm_assoc R (a::(t++h)) M
 simpa using this
theorem Bt {a b:Nat×AB} {t X Z:AL}:(t++(a::b::(X++Z))).Perm (b::(t++((X++[a])++Z))):=by
 refine (List.Perm.append_left t (List.Perm.swap ..)).trans ?_
 refine List.perm_middle.trans (List.Perm.cons _ (List.Perm.append_left t ?_))
 rw [List.append_assoc]
 exact List.perm_middle.symm
theorem Bx {l:aP} {rs:List bv}:(gw l rs).length≤rs.length:=by
 unfold gw
 rw [Hu]
 exact List.length_filter_le _ _
theorem o7 (l:List (List Int)):l.length≤qw l:=by
 unfold qw
 induction l with
 | nil=>simp
 | cons x l ih=>simp only [Hq,List.sum_cons,List.length_cons];omega
theorem dM.ruleSets {f:aL} (hs:dM f) {l:aP} {r:bv} (h:l∈f.Lookups) (hr:r∈l.Rules):fO [r.In,r.Back,r.Ahead]≤1000000:=by
 have h1:=hs.rule h hr
 unfold oJ at h1
 have h2:=o7 r.In
 have h3:=o7 r.Back
 have h4:=o7 r.Ahead
 simp only [fO,Hq,Hl,List.sum_cons,List.sum_nil]
 omega
theorem pP (f:aL) (hs:dM f) (S:List Int):(dR f S).length≤2000 * S.length:=by
 unfold dR
 induction S with
 | nil=>simp
 | cons n S ih=>
  rw [List.flatMap_cons,List.length_append,List.length_cons]
  have:(kR f n).length≤2000:=by
   unfold kR
   split
   ·rename_i l hl
    exact Nat.le_trans Bx (hs.rulesL (Hw hl))
   ·simp
  omega
set_option maxHeartbeats 8000000 in
theorem mU (f:aL) (hs:dM f) (ks:List Int):AC Tryz.prog 37 [cx f,.imm 1 (aS ks)] [] fun c L=>∃gp k hq,c=fg gp∧L=fB f gp k hq []∧hq.map (·.2)=dR f (cg f.Lookups.length [] ks):=by
 refine kB Tryz.func37 rfl Tryz.ntmps37 rfl fun B=>?_
 have hLk:=hs.lookups
 have hml:(f.Lookups.map bF).length=f.Lookups.length:=Hu ..
 repeat' (first|refine go ?_|refine HF a1 F8 ?_|(apply aQ;first|refine HH 5 a1 0 HE ?_|refine HH 5 a1 1 HE ?_|refine HH 5 a1 2 HE ?_|refine HH 8 a1 0 HE ?_|refine HH 8 a1 1 HE ?_|refine HH 8 a1 2 HE ?_|refine HH 10 a1 0 HE ?_|refine HH 10 a1 1 HE ?_|refine HH 10 a1 2 HE ?_|refine HG a1 0 HD ?_|refine HG a1 1 HD ?_|refine HG a1 2 HD ?_|refine HG a1 3 HD ?_|fail)|refine rF (d:=14) fun _=>?_|refine bC ?_|refine bl a1 fun _=>?_|fail)
 rw [hml]
 rename_i gp _
 refine aV (bE 0 (cs':=gN f none []) rfl fun σ vs h=>xy (cs:=cf f++[.sc (.slice none 0 0)]) rfl (fun i c c' h1 h2 v hv=>?_) h) ?_
 ·by_cases hi:i=9
  ·subst hi
   simp [gN,cf] at h1 h2
   subst h1;subst h2
   exact dg 1 hv
  ·have h3:i < 9:=by
    have:=(Hp h2).1
    simp [gN,cf] at this
    omega
   have e:some c=some c':=by
    rw [←h1,←h2]
    show (cf f++[_])[i]?=(cf f++[_])[i]?
    rw [List.getElem?_append_left (by simpa [cf] using h3),List.getElem?_append_left (by simpa [cf] using h3)]
   injection e with e
   rw [←e]
   exact hv
 refine bb [] [(gp,.box (gN f none []) 131)] (DW f.Lookups.length (by omega)) rfl rfl (Ho _) rfl fun c L1 ⟨p,b,hc,hL⟩=>?_
 subst hc;subst hL
 repeat' (first|refine go ?_|refine HF a1 F8 ?_)
 refine bb (dp p b f.Lookups.length none []) _ (zL p b f.Lookups.length none [] ks (by omega) cE.nil) rfl rfl (Ho _) rfl fun c L1 ⟨kS,hL⟩=>?_
 subst hL
 have hok:=(cE.nil (n:=f.Lookups.length)).add ks
 generalize cg f.Lookups.length [] ks=S at *
 have tR:=hok.len
 repeat' (first|refine go ?_|refine ak ?_|refine HF a1 F8 ?_|(apply bD;refine bf ?_)|fail)
 refine gD (fr':=[(23,.fn 51 [.iptr [fg p]]),(2,.iptr (cf f)),(5,.iptr [fg gp])]) (L':=dp p b f.Lookups.length kS S++[(gp,.box (gN f none []) 131)]) ⟨rfl,rfl,rfl,trivial⟩ (fun _ _ h=>h) ?_
 refine gK (ps:=[24]) rfl fun σ0 l db rec hrec=>?_
 have hy:∀(i:Nat) (x:HQ×Option (Nat×Nat)) (z:Int),(i≤S.length∧x.1.map (·.2)=dR f (S.take i))→S[i]?=some z→AY Tryz.prog σ0 l [aH z] (dp p b f.Lookups.length kS S++fB f gp x.2 x.1 ([(db,ec)]++[(l,eH rec)])) fun c L=>c=c9 true∧∃x':HQ×Option (Nat×Nat),(i+1≤S.length∧x'.1.map (·.2)=dR f (S.take (i+1)))∧L=dp p b f.Lookups.length kS S++fB f gp x'.2 x'.1 ([(db,ec)]++[(l,eH rec)]):=by
  rintro i ⟨hq,k⟩ z ⟨hi1,hh⟩ hz
  dsimp only at hi1 hh ⊢
  have hil:=(Hp hz).1
  have hzr:=hok.dom z (Hw hz)
  obtain ⟨x,hx⟩:∃x,f.Lookups[z.toNat]?=some x:=⟨_,Hz (by omega)⟩
  have hxm:=Hw hx
  have hxg:=bA (c:=bF) hx
  have hRl:=hs.rulesL hxm
  have hRm:(x.Rules.map bJ).length=x.Rules.length:=Hu ..
  have hxl:kR f z=gw x x.Rules:=by unfold kR;rw [hx]
  have hqs:=pP f hs (S.take i)
  rw [←hh,Hu,List.length_take] at hqs
  have hE:∀q:HQ,∀kk,dp p b f.Lookups.length kS S++fB f gp kk q ([(db,ec)]++[(l,eH rec)])=(dp p b f.Lookups.length kS S++(gp,.box (gN f kk (q.map (·.1))) 131)::(tok kk 133 1 (q.map (·.1)).length++(q.map er++[(db,ec)])))++[(l,eH rec)]:=fun q kk=>by unfold fB;simp
  rw [hE]
  refine oo hrec rfl rfl fun B1 hB1=>?_
  repeat' (first|refine go ?_|refine HF a1 F8 ?_)
  refine gL hrec.state ?_
  repeat' (first|refine go ?_|refine ak ?_|refine HF a1 F8 ?_|(apply aX;first|refine aU a1 ?_|refine aK a1 ?_)|(apply aQ;first|refine HH 5 a1 0 HE ?_|refine HH 5 a1 1 HE ?_|refine HH 5 a1 2 HE ?_|refine HH 8 a1 0 HE ?_|refine HH 8 a1 1 HE ?_|refine HH 8 a1 2 HE ?_|refine HH 10 a1 0 HE ?_|refine HH 10 a1 1 HE ?_|refine HH 10 a1 2 HE ?_|refine HG a1 0 HD ?_|refine HG a1 1 HD ?_|refine HG a1 2 HD ?_|refine HG a1 3 HD ?_|fail)|refine bl a1 fun _=>?_|fail)
  refine aR [2,5,8,24,31,32] (α:=Nat×HQ×Option (Nat×Nat)) (fun y=>[(33,aH y.1)]) (fun y=>y.1≤x.Rules.length∧y.2.1.map (·.2)=dR f (S.take i)++gw x (x.Rules.take y.1)) (fun y=>fB f gp y.2.2 y.2.1 (dp p b f.Lookups.length kS S++([(db,ec)]++[(l,eH { rec with state:= .busy })]))) (fun y=>x.Rules.length - y.1) (0,hq,k) rfl ⟨rfl,trivial⟩ ⟨Nat.zero_le _,by rw [hh];simp [gw]⟩ (fun σ w h=>?_) ?_
  ·refine cZ.perm h ?_
   have:=ui (R:=dp p b f.Lookups.length kS S) (a:=(gp,AB.box (gN f k (hq.map (·.1))) 131)) (t:=tok k 133 1 (hq.map (·.1)).length) (h:=hq.map er) (M:=[(db,ec)]++[(l,eH { rec with state:= .busy })])
   simpa [fB] using this
  clear hh
  rintro ⟨j,hq,k⟩ ⟨hj,hh⟩
  dsimp only at hj hh ⊢
  have hlen:=congrArg List.length hh
  rw [Hu,List.length_append] at hlen
  have hb1:=pP f hs (S.take i)
  rw [List.length_take] at hb1
  have hb2:=Bx (l:=x) (rs:=x.Rules.take j)
  rw [List.length_take] at hb2
  have hql:((hq.map (·.1)).map fun q=>[fg q]).length=hq.length:=by simp
  generalize hZ:dp p b f.Lookups.length kS S++([(db,ec)]++[(l,eH { rec with state:= .busy })])=Z
  try dsimp only [Hs,Hr,Hq,Hl]
  repeat' (first|refine go ?_|refine HF a1 F8 ?_)
  refine ay rfl (fun h=>?_) (fun h=>?_)
  ·have hjl:j < x.Rules.length:=by have:=Hy h;simp at this;omega
   obtain ⟨r,hr⟩:∃r,x.Rules[j]?=some r:=⟨_,Hz hjl⟩
   have hrm:=Hw hr
   have hrg:=bA (c:=bJ) hr
   have hIl:=d3 r.In
   clear h
   repeat' (first|refine go ?_|refine ak ?_|refine HF a1 F8 ?_|(apply aX;first|refine aU a1 ?_|refine aK a1 ?_)|(apply aQ;first|refine HH 5 a1 0 HE ?_|refine HH 5 a1 1 HE ?_|refine HH 5 a1 2 HE ?_|refine HH 8 a1 0 HE ?_|refine HH 8 a1 1 HE ?_|refine HH 8 a1 2 HE ?_|refine HH 10 a1 0 HE ?_|refine HH 10 a1 1 HE ?_|refine HH 10 a1 2 HE ?_|refine HG a1 0 HD ?_|refine HG a1 1 HD ?_|refine HG a1 2 HD ?_|refine HG a1 3 HD ?_|fail)|refine bl a1 fun _=>?_|fail)
   refine ay rfl (fun h=>?_) (fun h=>?_)
   ·have hIn:r.In≠[]:=fun e=>by have:=Hy h;rw [hIl,e] at this;simp at this
    clear h
    repeat' (first|refine go ?_|refine HF a1 F8 ?_|refine bI a1 ?_|fail)
    refine bf (hc:=⟨px [r.In,r.Back,r.Ahead] (hs.ruleSets hxm hrm)⟩) ?_
    rw [show ([r.In,r.Back,r.Ahead]:List (List (List Int))).flatten=r.In++(r.Back++r.Ahead) by simp]
    unfold fB gN
    repeat' (first|refine go ?_|refine HF a1 F8 ?_)
    refine bj 15 [(0,.v),(1,.v),(2,.v),(3,.v),(4,.l),(5,.v),(6,.v),(7,.v),(8,.v),(9,.v),(10,.v),(11,.v),(12,.a),(13,.v),(14,.e)] none ?_ trivial rfl (by kernel_rfl) (by kernel_rfl) (by kernel_rfl) mixed (by kernel_rfl) rfl
    repeat' (first|refine aE ?_|refine ba a1 ?_|refine bX a1 0 rfl rfl rfl rfl (by first|trivial|rfl) ?_)
    refine FB rfl rfl trivial fun q=>?_
    repeat' (first|refine aE ?_|refine ek a1 ?_|fail)
    refine fZ a1 _ rfl rfl rfl rfl (l6 (H:=[]) (T:=tok k 133 1 (hq.map (·.1)).length) (T':=[]) (by simp)) (by rw [hql];show _+1≤_;omega) (by rw [hql];show (_+1) * 8≤_;omega) trivial fun k'=>?_
    repeat' (first|fail)
    refine HR [2,5,8,24,31,32,33,49,63] F8 ?_
    refine aV (aJ (Bt (X:=hq.map er))) ?_
    repeat' (first|refine go ?_|refine HF a1 F8 ?_|(apply aZ;refine aY ?_)|(apply aQ;first|refine HH 5 a1 0 HE ?_|refine HH 5 a1 1 HE ?_|refine HH 5 a1 2 HE ?_|refine HH 8 a1 0 HE ?_|refine HH 8 a1 1 HE ?_|refine HH 8 a1 2 HE ?_|refine HH 10 a1 0 HE ?_|refine HH 10 a1 1 HE ?_|refine HH 10 a1 2 HE ?_|refine HG a1 0 HD ?_|refine HG a1 1 HD ?_|refine HG a1 2 HD ?_|refine HG a1 3 HD ?_|fail))
    have e:fB f gp k' (hq++[(q,jP x r)]) Z=(gp,AB.box (cf f++[AV.vec k' 1 (List.map (fun q=>[fg q]) (hq.map (·.1))++[[fg q]])]) 131)::(tok k' 133 1 (List.map (fun q=>[fg q]) (hq.map (·.1))++[[fg q]]).length++((hq.map er++[er (q,jP x r)])++Z)):=by unfold fB gN;simp
    exact aF (j+1,hq++[(q,jP x r)],k') rfl ⟨by rw [Hv];rfl,trivial⟩ ⟨by dsimp only;omega,by rw [vL hr hIn,List.map_append,hh,List.append_assoc];rfl⟩ (by dsimp only;omega) (fun σ w h=>by have h2:cZ B1 σ (fB f gp k' (hq++[(q,jP x r)]) Z) w:=(by rw [e];exact h);exact h2)
   ·have hIn:r.In=[]:=List.eq_nil_of_length_eq_zero (by have:=Hx h;rw [hIl] at this;omega)
    repeat' (first|refine go ?_|refine HF a1 F8 ?_|(apply aZ;refine aY ?_)|fail)
    exact aF (j+1,hq,k) rfl ⟨by rw [Hv];rfl,trivial⟩ ⟨by dsimp only;omega,by rw [yn hr hIn];exact hh⟩ (by dsimp only;omega) (fun _ _ h=>h)
  ·have hjl:j=x.Rules.length:=by have:=Hx h;simp at this;omega
   subst hjl
   rw [List.take_length] at hh
   repeat' (first|refine go ?_|fail)
   refine bk (L':=(dp p b f.Lookups.length kS S++(gp,.box (gN f k (hq.map (·.1))) 131)::(tok k 133 1 (hq.map (·.1)).length++(hq.map er++[(db,ec)])))++[(l,eH { rec with state:= .busy })]) (aJ ?_) (kF ?_)
   ·subst hZ
    have:=(ui (R:=dp p b f.Lookups.length kS S) (a:=(gp,AB.box (gN f k (hq.map (·.1))) 131)) (t:=tok k 133 1 (hq.map (·.1)).length) (h:=hq.map er) (M:=[(db,ec)]++[(l,eH { rec with state:= .busy })])).symm
    simpa [fB] using this
   ·rw [jq hrec.state hrec.pending]
    refine ⟨rfl,(hq,k),⟨hil,?_⟩,by simp [fB]⟩
    rw [tT hz,hxl]
    exact hh
 have hit:=Bq (σ0:=σ0) (l:=l) (p:=p) (b:=b) (n:=f.Lookups.length) (fun _=>S) (fun _=>kS) (fun x:HQ×Option (Nat×Nat)=>fB f gp x.2 x.1 ([(db,ec)]++[(l,eH rec)])) (fun i x=>i≤S.length∧x.1.map (·.2)=dR f (S.take i)) (by omega) (fun i x h=>⟨h.1,tR⟩) hy ([],none) ⟨Nat.zero_le _,rfl⟩
 refine ⟨_,hit.perm (List.Perm.of_eq (by simp [fB,tok])),?_⟩
 rintro c L' ⟨⟨hq,k⟩,⟨_,hh⟩,rfl⟩
 dsimp only at hh ⊢
 rw [List.take_length] at hh
 refine ⟨rec,dp p b f.Lookups.length kS S++fB f gp k hq [(db,ec)],List.Perm.of_eq (by simp [fB]),(by rw [hrec.state];intro h;cases h),?_⟩
 rw [hrec.pending]
 show AX _ _ _ _ _ _ _ _
 repeat' (first|refine go ?_|refine HF a1 F8 ?_)
 refine eY (List.sublist_append_right ..) ?_
 exact fG (cs:=[fg gp]) [db] (fB f gp k hq []) rfl (List.Perm.of_eq (by simp [fB])) ⟨rfl,trivial⟩ ⟨gp,k,hq,rfl,rfl,hh⟩
end Go.Proofs.YtpbinloeemebkaaGreat
