/-
  The program: rules that may come to match.
-/
import Derived.Test.YtjjpkibjffmceaaGreatM19
import Derived.Test.YtjjpkibjffmceaaGreatM13
import Derived.Test.YtjjpkibjffmceaaGreatM11
import Derived.Test.YtjjpkibjffmceaaGreatM05
import Derived.Test.YtjjpkibjffmceaaGreatM06
import Derived.Test.YtjjpkibjffmceaaGreatM15
namespace Go.Proofs.YtjjpkibjffmceaaGreat
open Go.RowKit
attribute [local irreducible] AT cg AX AO Av Kt bJ eC DA du
structure jq where
 rule:cb
 kind:Int
 ign:Bool
 unmet:List (List Int)
def w5 (h:jq):List AV:=bE h.rule++[aP h.kind,cM h.ign,.imm 1 (bw h.unmet)]
def f0 (x:Nat×jq):Nat×AB:=(x.1,.box (w5 x.2) 186)
def il (f:aL) (k:Option (Nat×Nat)) (qs:List Nat):List AV:=ci f++[.vec k 1 (qs.map fun q=>[gj q])]
def jo (f:aL) (S:List Int) (ign:Bool) (n:Int):Bool:=F5 f.Glyphs.length S n && !(ign && jH f n)
set_option maxHeartbeats 1000000 in
theorem xV (f:aL) (ap b gp q:Nat) (k kg:Option (Nat×Nat)) (S:List Int) (qs:List Nat) (h:jq) (n:Int):AC Tryz.prog 86 [aP n,.iptr [gj ap],.iptr [gj q],.iptr [gj gp]] (f0 (q,h)::(gp,.box (il f kg qs) 182)::ca ap b f.Glyphs.length k S) fun c L=>c=cM (jo f S h.ign n)∧L=f0 (q,h)::(gp,.box (il f kg qs) 182)::ca ap b f.Glyphs.length k S:=by
 refine aX Tryz.func86 rfl Tryz.ntmps86 rfl fun B=>?_
 unfold jo
 repeat' (first|refine go ?_|refine IG a6 EV ?_)
 refine bn (ca ap b f.Glyphs.length k S) [f0 (q,h),(gp,.box (il f kg qs) 182)] (Hh ap b f.Glyphs.length k S n) rfl rfl (List.perm_append_comm (l₁:=[f0 (q,h),(gp,.box (il f kg qs) 182)])) rfl fun c L1 ⟨hc,hL⟩=>?_
 subst hc;subst hL
 refine aK (aM List.perm_append_comm) ?_
 cases hi:F5 f.Glyphs.length S n with
 | false=>
  repeat' (first|refine go ?_|refine IG a6 EV ?_|refine IT IC ?_|refine dW rfl rfl rfl ?_)
  exact IM EV ⟨rfl,rfl⟩
 | true=>
  have hr:0≤n∧n < f.Glyphs.length:=by
   unfold F5 at hi
   rw [Bool.and_eq_true,decide_eq_true_eq] at hi
   exact hi.1
  obtain ⟨gl,hg⟩:∃g,f.Glyphs[n.toNat]?=some g:=⟨_,Jz (by omega)⟩
  have hgg:=bA (c:=bh) hg
  have hm:jH f n=gl.Mark:=by unfold jH;rw [hg]
  rw [hm]
  obtain ⟨rule,kind,ign,unmet⟩:=h
  unfold f0 w5 il
  dsimp only
  repeat' (first|refine IG a6 EV ?_|refine IR EV ?_|(apply bH;first|refine IJ a6 0 ID ?_|refine IJ a6 1 ID ?_|refine IJ a6 2 ID ?_|refine IJ a6 3 ID ?_|refine IK a6 0 ID ?_|refine IK a6 1 ID ?_|refine IK a6 2 ID ?_|refine IL a6 1 IB (by assumption) rfl ?_|refine IL a6 0 IB (by assumption) rfl ?_|fail)|fail)
  cases ign
  ·repeat' (first|refine go ?_|refine IG a6 EV ?_|refine IR EV ?_|refine IT IC ?_)
   exact IM EV ⟨rfl,rfl⟩
  ·repeat' (first|refine go ?_|refine IG a6 EV ?_|refine IR EV ?_|(apply bH;first|refine IJ a6 0 ID ?_|refine IJ a6 1 ID ?_|refine IJ a6 2 ID ?_|refine IJ a6 3 ID ?_|refine IK a6 0 ID ?_|refine IK a6 1 ID ?_|refine IK a6 2 ID ?_|refine IL a6 1 IB (by assumption) rfl ?_|refine IL a6 0 IB (by assumption) rfl ?_|fail)|(apply aV;first|refine aU a6 ?_|refine aN a6 ?_)|fail)
   exact IM EV ⟨rfl,rfl⟩
def jq.rest (h:jq) (p:Int→Bool):jq:={ h with unmet:=h.unmet.dropWhile fun s=>s.any p }
set_option maxHeartbeats 1000000 in
theorem wc {g:FuncId} {caps:List AV} [bT Tryz.prog g] (q:Nat) (h:jq) (p:Int→Bool) (rest:AL) (hw:∀un z,AC Tryz.prog g ([aP z]++caps) (f0 (q,{ h with unmet:=un })::rest) fun c L'=>c=cM (p z)∧L'=f0 (q,{ h with unmet:=un })::rest):AC Tryz.prog 88 [gj q,.fn g caps] (f0 (q,h)::rest) fun c L=>c=cM (h.unmet.all fun s=>s.any p)∧L=f0 (q,h.rest p)::rest:=by
 refine aX Tryz.func88 rfl Tryz.ntmps88 rfl fun B=>?_
 repeat' (first|refine go ?_|refine am ?_|refine IG a6 EV ?_)
 refine aO [0,1] (α:=List (List Int)) (fun _=>[]) (fun un=>(h.unmet.all fun s=>s.any p)=(un.all fun s=>s.any p)∧(h.unmet.dropWhile fun s=>s.any p)=un.dropWhile fun s=>s.any p) (fun un=>f0 (q,{ h with unmet:=un })::rest) (fun un=>un.length) h.unmet rfl trivial ⟨rfl,rfl⟩ (fun _ _ h=>h) ?_
 rintro un ⟨h1,h2⟩
 try dsimp only [Jr,Jq,Jp,Jk]
 cases un with
 | nil=>
  unfold f0 w5
  dsimp only
  repeat' (first|refine go ?_|refine IG a6 EV ?_|refine IT IC ?_|(apply bH;first|refine IJ a6 0 ID ?_|refine IJ a6 1 ID ?_|refine IJ a6 2 ID ?_|refine IJ a6 3 ID ?_|refine IK a6 0 ID ?_|refine IK a6 1 ID ?_|refine IK a6 2 ID ?_|refine IL a6 1 IB (by assumption) rfl ?_|refine IL a6 0 IB (by assumption) rfl ?_|fail)|refine bP rfl ?_)
  refine IM EV ⟨by rw [h1];rfl,?_⟩
  unfold jq.rest
  rw [h2]
  rfl
 | cons s un=>
  have hsg:(bw (s::un))[(0:Int).toNat]?=some [.imm 1 (aS s)]:=rfl
  have hpos:decide (0 < (((bw (s::un)).length:Nat):Int))=true:=decide_eq_true (by rw [fe,List.length_cons];omega)
  have hw':=hw (s::un)
  unfold f0 w5 at hw' ⊢
  dsimp only at hw' ⊢
  repeat' (first|refine go ?_|refine IG a6 EV ?_|(apply bH;first|refine IJ a6 0 ID ?_|refine IJ a6 1 ID ?_|refine IJ a6 2 ID ?_|refine IJ a6 3 ID ?_|refine IK a6 0 ID ?_|refine IK a6 1 ID ?_|refine IK a6 2 ID ?_|refine IL a6 1 IB (by assumption) rfl ?_|refine IL a6 0 IB (by assumption) rfl ?_|fail)|fail)
  rw [hpos]
  repeat' (first|refine IG a6 EV ?_|refine IR EV ?_|(apply bH;first|refine IJ a6 0 ID ?_|refine IJ a6 1 ID ?_|refine IJ a6 2 ID ?_|refine IJ a6 3 ID ?_|refine IK a6 0 ID ?_|refine IK a6 1 ID ?_|refine IK a6 2 ID ?_|refine IL a6 1 IB (by assumption) rfl ?_|refine IL a6 0 IB (by assumption) rfl ?_|fail)|(apply aV;first|refine aU a6 ?_|refine aN a6 ?_)|fail)
  refine bn ((q,AB.box (bE h.rule++[aP h.kind,cM h.ign,AV.imm 1 (bw (s::un))]) 186)::rest) [] (yB rfl s p _ hw') rfl rfl (ck rfl) rfl fun c L1 ⟨hc,hL⟩=>?_
  subst hc;subst hL
  rw [List.append_nil]
  cases hs:s.any p with
  | false=>
   repeat' (first|refine go ?_|refine IG a6 EV ?_|(apply bH;first|refine IJ a6 0 ID ?_|refine IJ a6 1 ID ?_|refine IJ a6 2 ID ?_|refine IJ a6 3 ID ?_|refine IK a6 0 ID ?_|refine IK a6 1 ID ?_|refine IK a6 2 ID ?_|refine IL a6 1 IB (by assumption) rfl ?_|refine IL a6 0 IB (by assumption) rfl ?_|fail)|refine bP rfl ?_)
   refine IM EV ⟨?_,?_⟩
   ·rw [h1,List.all_cons,hs]
    rfl
   ·unfold jq.rest
    rw [h2,List.dropWhile_cons_of_neg (by simpa using hs)]
  | true=>
   repeat' (first|refine go ?_|refine am ?_|refine IG a6 EV ?_|(apply bH;first|refine IJ a6 0 ID ?_|refine IJ a6 1 ID ?_|refine IJ a6 2 ID ?_|refine IJ a6 3 ID ?_|refine IK a6 0 ID ?_|refine IK a6 1 ID ?_|refine IK a6 2 ID ?_|refine IL a6 1 IB (by assumption) rfl ?_|refine IL a6 0 IB (by assumption) rfl ?_|fail)|refine cf rfl ?_)
   refine dT (Ax (lo:=1) (bW a6 rfl).1 rfl rfl rfl rfl rfl (by rw [fe,List.length_cons];omega)) rfl rfl ?_
   repeat' (first|refine go ?_|refine IG a6 EV ?_|(apply aJ;first|refine IH a6 0 IE ?_|refine IH a6 1 IE ?_|refine IH a6 2 IE ?_|refine IH a6 3 IE ?_|fail))
   refine aB un rfl trivial ⟨?_,?_⟩ (by simp) (fun _ _ h=>h)
   ·rw [h1,List.all_cons,hs,Bool.true_and]
   ·rw [h2,List.dropWhile_cons_of_pos (by simpa using hs)]
section
variable {P:Program} {tt:TT} {l:List Oper} {fr:cw} {fin:jb} {sk:lL} {acc:cw} {L:AL} {k:Nat} {dd:Option Tmp} {ty t t':TypeId} {pos:String} {af:Array Edge} {g:Option (Nat×Bool)} {x y:Operand} {u:AV}
theorem sh (ok:f6 P tt) (hi:Nat) {e sz by_ s:Nat} {l1:List (List AV)} {q:IntKind} {a:Int} (ht:kN tt t=some (e,sz,by_)) (hx:bU (da l.toArray acc fr af.toList) x=some u) (hu:gZ u=some (s,l1)) (hs:Nat.beq s sz=true) (hy:bU (da l.toArray acc fr af.toList) y=some (.sc (.int q a))) (ha:a=(hi:Int)) (h1:hi≤l1.length) (hg:iL ⟨dd,.slice t x none (some y) none,ty,pos,af,g⟩ acc) (h:DA P l fr fin sk ((k,.imm s (l1.take hi))::acc) L):
  du P l fr fin k .v ⟨dd,.slice t x none (some y) none,ty,pos,af,g⟩ sk acc L:=gq hg (fun _ _=>(vi (bW ok ht).1 hx (cS hu) hs hy ha h1).ao) h
end
def lf (h:jq) (p:Int→Bool):List Int:=if h.kind=1∨h.kind=5 then ((h.rule.Out.zip (h.rule.In.headD [])).filter fun x=>p x.2).map (·.1) else if h.kind=2 then h.rule.Out else if h.kind=3 then h.rule.Out.take 1 else []
theorem w7 (l:List Int):(aS l).take (min l.length 1)=aS (l.take 1):=by
 cases l with
 | nil=>rfl
 | cons x l=>rw [show min (x::l).length 1=1 by rw [List.length_cons];omega];rfl
theorem qU {l k:List Int} {i:Nat} {a b:Int} (ha:l[i]?=some a) (hb:k[i]?=some b):(l.zip k).take (i+1)=(l.zip k).take i++[(a,b)]:=by
 rw [List.take_add_one,show (l.zip k)[i]?=some (a,b) by rw [List.getElem?_zip_eq_some];exact ⟨ha,hb⟩]
 rfl
set_option maxHeartbeats 4000000 in
theorem EN {g:FuncId} {caps:List AV} [bT Tryz.prog g] (q:Nat) (h:jq) (p:Int→Bool) (rest:AL) (hw:∀z,AC Tryz.prog g ([aP z]++caps) (f0 (q,h)::rest) fun c L'=>c=cM (p z)∧L'=f0 (q,h)::rest) (hin:h.rule.In≠[]) (hout:h.rule.Out.length≤1000000) (np nb n:Nat) (k:Option (Nat×Nat)) (l:List Int) (hn:n≤1000000) (hl:cJ n l):AC Tryz.prog 89 [gj q,.fn g caps,gj np] (f0 (q,h)::rest++ca np nb n k l) fun _ L=>∃k',L=f0 (q,h)::rest++ca np nb n k' (dJ n l (lf h p)):=by
 refine aX Tryz.func89 rfl Tryz.ntmps89 rfl fun B=>?_
 obtain ⟨y,hy⟩:∃y,h.rule.In[0]?=some y:=⟨_,Jz (List.length_pos_iff.2 hin)⟩
 have hyg:=iP hy
 have hd:h.rule.In.headD []=y:=by
  cases hI:h.rule.In with
  | nil=>exact absurd hI hin
  | cons y' q=>rw [hI] at hy;simpa using hy
 have hadd:=mM np nb n k l
 have hOl:=aF h.rule.Out
 have hYl:=aF y
 by_cases h1:h.kind=1
 ·have ht:lf h p=((h.rule.Out.zip y).filter fun x=>p x.2).map (·.1):=by unfold lf;rw [if_pos (.inl h1),hd]
  rw [ht]
  unfold f0 w5 at hw ⊢
  dsimp only at hw ⊢
  repeat' (first|refine go ?_|refine am ?_|refine IG a6 EV ?_|(apply bH;first|refine IJ a6 0 ID ?_|refine IJ a6 1 ID ?_|refine IJ a6 2 ID ?_|refine IJ a6 3 ID ?_|refine IK a6 0 ID ?_|refine IK a6 1 ID ?_|refine IK a6 2 ID ?_|refine IL a6 1 IB (by assumption) rfl ?_|refine IL a6 0 IB (by assumption) rfl ?_|fail)|fail)
  refine au rfl (fun hh=>?_) (fun hh=>absurd h1 (Jx hh))
  rw [decide_eq_true h1]
  repeat' (first|refine go ?_|refine IG a6 EV ?_|(apply bH;first|refine IJ a6 0 ID ?_|refine IJ a6 1 ID ?_|refine IJ a6 2 ID ?_|refine IJ a6 3 ID ?_|refine IK a6 0 ID ?_|refine IK a6 1 ID ?_|refine IK a6 2 ID ?_|refine IL a6 1 IB (by assumption) rfl ?_|refine IL a6 0 IB (by assumption) rfl ?_|fail)|(apply aV;first|refine aU a6 ?_|refine aN a6 ?_)|refine cf rfl ?_)
  refine br 17 [(0,.v),(1,.v),(2,.v),(3,.v),(4,.l),(5,.v),(6,.v),(7,.v),(8,.v),(9,.l),(10,.v),(11,.v),(12,.v),(13,.v),(14,.v),(15,.v),(16,.v)] none ?_ trivial rfl (by kernel_rfl) (by kernel_rfl) (by kernel_rfl) mixed (by kernel_rfl) rfl
  repeat' (first|refine aC ?_|refine aY a6 ?_|refine dg a6 0 rfl rfl rfl rfl (by first|trivial|rfl) ?_)
  refine sh a6 (min h.rule.Out.length y.length) rfl rfl rfl rfl rfl (by rw [hOl,hYl];omega) (by rw [hOl];omega) trivial ?_
  repeat' (first|refine aC ?_|refine aY a6 ?_|fail)
  refine IQ [1,2,6,37,38,39] EV ?_
  repeat' (first|refine am ?_|refine aa ?_|refine go ?_|fail)
  have hm:((aS h.rule.Out).take (min h.rule.Out.length y.length)).length=min h.rule.Out.length y.length:=by rw [List.length_take,hOl];omega
  refine aO [1,2,6,37,38] (α:=Nat×Option (Nat×Nat)) (fun x=>[(39,aP x.1)]) (fun x=>x.1≤min h.rule.Out.length y.length) (fun x=>(q,AB.box (bE h.rule++[aP h.kind,cM h.ign,AV.imm 1 (bw h.unmet)]) 186)::rest++ca np nb n x.2 (dJ n l ((((h.rule.Out.zip y).take x.1).filter fun x=>p x.2).map (·.1)))) (fun x=>min h.rule.Out.length y.length - x.1) (0,k) rfl ⟨rfl,trivial⟩ (Nat.zero_le _) (fun _ _ h=>h) ?_
  rintro ⟨i,k1⟩ hi
  dsimp only at hi ⊢
  try dsimp only [Jr,Jq,Jp,Jk]
  repeat' (first|refine go ?_|refine IG a6 EV ?_)
  refine au rfl (fun e=>?_) (fun e=>?_)
  ·have hil:i < min h.rule.Out.length y.length:=by have:=Jy e;rw [hm] at this;omega
   obtain ⟨o,ho⟩:∃z,h.rule.Out[i]?=some z:=⟨_,Jz (by omega)⟩
   obtain ⟨z,hz⟩:∃z,y[i]?=some z:=⟨_,Jz (by omega)⟩
   have hog:((aS h.rule.Out).take (min h.rule.Out.length y.length))[i]?=some [aP o]:=by rw [List.getElem?_take,if_pos hil];exact bQ ho
   have hzg:=bQ hz
   have hzt:=qU ho hz
   repeat' (first|refine go ?_|refine am ?_|refine IG a6 EV ?_|(apply aV;first|refine aU a6 ?_|refine aN a6 ?_)|fail)
   refine dx ((q,AB.box (bE h.rule++[aP h.kind,cM h.ign,AV.imm 1 (bw h.unmet)]) 186)::rest) _ (hw z) rfl rfl rfl (Jn _) rfl rfl fun c L1 ⟨hc,hL⟩=>?_
   subst hc;subst hL
   repeat' (first|refine go ?_|fail)
   refine au rfl (fun e2=>?_) (fun e2=>?_)
   ·repeat' (first|refine go ?_|refine IG a6 EV ?_|refine bG a6 ?_|fail)
    refine bn (ca np nb n k1 (dJ n l ((((h.rule.Out.zip y).take i).filter fun x=>p x.2).map (·.1)))) _ (mM np nb n k1 _ [o] hn (hl.add _)) rfl rfl List.perm_append_comm rfl fun c L1 ⟨k',hL⟩=>?_
    subst hL
    refine aK (aM List.perm_append_comm) ?_
    repeat' (first|refine go ?_|refine IG a6 EV ?_|(apply aW;refine aT ?_)|fail)
    refine aB (i+1,k') rfl ⟨by rw [Jv];rfl,trivial⟩ (by dsimp only;omega) (by dsimp only;omega) (fun _ _ h=>?_)
    dsimp only
    rw [hzt,List.filter_append,List.map_append,←fp]
    simpa [e2] using h
   ·repeat' (first|refine go ?_|refine IG a6 EV ?_|(apply aW;refine aT ?_)|fail)
    refine aB (i+1,k1) rfl ⟨by rw [Jv];rfl,trivial⟩ (by dsimp only;omega) (by dsimp only;omega) (fun _ _ h=>?_)
    dsimp only
    rw [hzt,List.filter_append,List.map_append,←fp]
    simpa [e2,dJ] using h
  ·have hil:i=min h.rule.Out.length y.length:=by have:=Jx e;rw [hm] at this;omega
   subst hil
   repeat' (first|refine go ?_|fail)
   refine dB rfl ⟨k1,?_⟩
   rw [List.take_of_length_le (by rw [List.length_zip];exact Nat.le_refl _)]
 by_cases h5:h.kind=5
 ·have ht:lf h p=((h.rule.Out.zip y).filter fun x=>p x.2).map (·.1):=by unfold lf;rw [if_pos (.inr h5),hd]
  rw [ht]
  unfold f0 w5 at hw ⊢
  dsimp only at hw ⊢
  repeat' (first|refine go ?_|refine am ?_|refine IG a6 EV ?_|(apply bH;first|refine IJ a6 0 ID ?_|refine IJ a6 1 ID ?_|refine IJ a6 2 ID ?_|refine IJ a6 3 ID ?_|refine IK a6 0 ID ?_|refine IK a6 1 ID ?_|refine IK a6 2 ID ?_|refine IL a6 1 IB (by assumption) rfl ?_|refine IL a6 0 IB (by assumption) rfl ?_|fail)|fail)
  refine au rfl (fun hh=>absurd (Jy hh) h1) (fun _=>?_)
  repeat' (first|refine go ?_|refine IG a6 EV ?_)
  rw [decide_eq_true h5]
  repeat' (first|refine go ?_|refine IG a6 EV ?_|(apply bH;first|refine IJ a6 0 ID ?_|refine IJ a6 1 ID ?_|refine IJ a6 2 ID ?_|refine IJ a6 3 ID ?_|refine IK a6 0 ID ?_|refine IK a6 1 ID ?_|refine IK a6 2 ID ?_|refine IL a6 1 IB (by assumption) rfl ?_|refine IL a6 0 IB (by assumption) rfl ?_|fail)|(apply aV;first|refine aU a6 ?_|refine aN a6 ?_)|refine cf rfl ?_)
  refine br 17 [(0,.v),(1,.v),(2,.v),(3,.v),(4,.l),(5,.v),(6,.v),(7,.v),(8,.v),(9,.l),(10,.v),(11,.v),(12,.v),(13,.v),(14,.v),(15,.v),(16,.v)] none ?_ trivial rfl (by kernel_rfl) (by kernel_rfl) (by kernel_rfl) mixed (by kernel_rfl) rfl
  repeat' (first|refine aC ?_|refine aY a6 ?_|refine dg a6 0 rfl rfl rfl rfl (by first|trivial|rfl) ?_)
  refine sh a6 (min h.rule.Out.length y.length) rfl rfl rfl rfl rfl (by rw [hOl,hYl];omega) (by rw [hOl];omega) trivial ?_
  repeat' (first|refine aC ?_|refine aY a6 ?_|fail)
  refine IQ [1,2,6,37,38,39] EV ?_
  repeat' (first|refine am ?_|refine aa ?_|refine go ?_|fail)
  have hm:((aS h.rule.Out).take (min h.rule.Out.length y.length)).length=min h.rule.Out.length y.length:=by rw [List.length_take,hOl];omega
  refine aO [1,2,6,37,38] (α:=Nat×Option (Nat×Nat)) (fun x=>[(39,aP x.1)]) (fun x=>x.1≤min h.rule.Out.length y.length) (fun x=>(q,AB.box (bE h.rule++[aP h.kind,cM h.ign,AV.imm 1 (bw h.unmet)]) 186)::rest++ca np nb n x.2 (dJ n l ((((h.rule.Out.zip y).take x.1).filter fun x=>p x.2).map (·.1)))) (fun x=>min h.rule.Out.length y.length - x.1) (0,k) rfl ⟨rfl,trivial⟩ (Nat.zero_le _) (fun _ _ h=>h) ?_
  rintro ⟨i,k1⟩ hi
  dsimp only at hi ⊢
  try dsimp only [Jr,Jq,Jp,Jk]
  repeat' (first|refine go ?_|refine IG a6 EV ?_)
  refine au rfl (fun e=>?_) (fun e=>?_)
  ·have hil:i < min h.rule.Out.length y.length:=by have:=Jy e;rw [hm] at this;omega
   obtain ⟨o,ho⟩:∃z,h.rule.Out[i]?=some z:=⟨_,Jz (by omega)⟩
   obtain ⟨z,hz⟩:∃z,y[i]?=some z:=⟨_,Jz (by omega)⟩
   have hog:((aS h.rule.Out).take (min h.rule.Out.length y.length))[i]?=some [aP o]:=by rw [List.getElem?_take,if_pos hil];exact bQ ho
   have hzg:=bQ hz
   have hzt:=qU ho hz
   repeat' (first|refine go ?_|refine am ?_|refine IG a6 EV ?_|(apply aV;first|refine aU a6 ?_|refine aN a6 ?_)|fail)
   refine dx ((q,AB.box (bE h.rule++[aP h.kind,cM h.ign,AV.imm 1 (bw h.unmet)]) 186)::rest) _ (hw z) rfl rfl rfl (Jn _) rfl rfl fun c L1 ⟨hc,hL⟩=>?_
   subst hc;subst hL
   repeat' (first|refine go ?_|fail)
   refine au rfl (fun e2=>?_) (fun e2=>?_)
   ·repeat' (first|refine go ?_|refine IG a6 EV ?_|refine bG a6 ?_|fail)
    refine bn (ca np nb n k1 (dJ n l ((((h.rule.Out.zip y).take i).filter fun x=>p x.2).map (·.1)))) _ (mM np nb n k1 _ [o] hn (hl.add _)) rfl rfl List.perm_append_comm rfl fun c L1 ⟨k',hL⟩=>?_
    subst hL
    refine aK (aM List.perm_append_comm) ?_
    repeat' (first|refine go ?_|refine IG a6 EV ?_|(apply aW;refine aT ?_)|fail)
    refine aB (i+1,k') rfl ⟨by rw [Jv];rfl,trivial⟩ (by dsimp only;omega) (by dsimp only;omega) (fun _ _ h=>?_)
    dsimp only
    rw [hzt,List.filter_append,List.map_append,←fp]
    simpa [e2] using h
   ·repeat' (first|refine go ?_|refine IG a6 EV ?_|(apply aW;refine aT ?_)|fail)
    refine aB (i+1,k1) rfl ⟨by rw [Jv];rfl,trivial⟩ (by dsimp only;omega) (by dsimp only;omega) (fun _ _ h=>?_)
    dsimp only
    rw [hzt,List.filter_append,List.map_append,←fp]
    simpa [e2,dJ] using h
  ·have hil:i=min h.rule.Out.length y.length:=by have:=Jx e;rw [hm] at this;omega
   subst hil
   repeat' (first|refine go ?_|fail)
   refine dB rfl ⟨k1,?_⟩
   rw [List.take_of_length_le (by rw [List.length_zip];exact Nat.le_refl _)]
 have ht:lf h p=if h.kind=2 then h.rule.Out else if h.kind=3 then h.rule.Out.take 1 else []:=by unfold lf;rw [if_neg (by omega)]
 rw [ht]
 unfold f0 w5
 dsimp only
 repeat' (first|refine go ?_|refine am ?_|refine IG a6 EV ?_|(apply bH;first|refine IJ a6 0 ID ?_|refine IJ a6 1 ID ?_|refine IJ a6 2 ID ?_|refine IJ a6 3 ID ?_|refine IK a6 0 ID ?_|refine IK a6 1 ID ?_|refine IK a6 2 ID ?_|refine IL a6 1 IB (by assumption) rfl ?_|refine IL a6 0 IB (by assumption) rfl ?_|fail)|fail)
 refine au rfl (fun h=>absurd (Jy h) h1) (fun _=>?_)
 repeat' (first|refine go ?_|refine IG a6 EV ?_)
 rw [decide_eq_false h5]
 repeat' (first|refine go ?_|refine IG a6 EV ?_|refine bP rfl ?_)
 refine au rfl (fun e=>?_) (fun e=>?_)
 ·have e':=Jy e
  rw [if_pos e']
  repeat' (first|refine go ?_|refine IG a6 EV ?_|(apply bH;first|refine IJ a6 0 ID ?_|refine IJ a6 1 ID ?_|refine IJ a6 2 ID ?_|refine IJ a6 3 ID ?_|refine IK a6 0 ID ?_|refine IK a6 1 ID ?_|refine IK a6 2 ID ?_|refine IL a6 1 IB (by assumption) rfl ?_|refine IL a6 0 IB (by assumption) rfl ?_|fail)|fail)
  refine bn (ca np nb n k l) _ (mM np nb n k l h.rule.Out hn hl) rfl rfl List.perm_append_comm rfl fun c L1 ⟨k',hL⟩=>?_
  subst hL
  refine aK (aM List.perm_append_comm) ?_
  repeat' (first|refine go ?_|fail)
  exact dB rfl ⟨k',rfl⟩
 have e2:=Jx e
 rw [if_neg e2]
 repeat' (first|refine go ?_|refine IG a6 EV ?_)
 refine au rfl (fun e=>?_) (fun e=>?_)
 ·have e':=Jy e
  rw [if_pos e']
  repeat' (first|fail)
  refine br 15 [(0,.v),(1,.v),(2,.v),(3,.v),(4,.v),(5,.l),(6,.v),(7,.v),(8,.v),(9,.v),(10,.l),(11,.v),(12,.v),(13,.v),(14,.e)] none ?_ trivial rfl (by kernel_rfl) (by kernel_rfl) (by kernel_rfl) mixed (by kernel_rfl) rfl
  repeat' (first|refine aC ?_|refine aY a6 ?_|refine dg a6 0 rfl rfl rfl rfl (by first|trivial|rfl) ?_)
  refine sh a6 (min h.rule.Out.length 1) rfl rfl rfl rfl rfl (by rw [hOl];omega) (by rw [hOl];omega) trivial ?_
  repeat' (first|refine aC ?_|fail)
  refine f5 (ca np nb n k l) _ (mM np nb n k l (h.rule.Out.take 1) hn hl) rfl (by rw [show (aS h.rule.Out).take (min h.rule.Out.length 1)=aS (h.rule.Out.take 1) from w7 _];rfl) List.perm_append_comm trivial fun c L1 ⟨k',hL⟩=>?_
  subst hL
  repeat' (first|fail)
  refine IQ [] EV ?_
  repeat' (first|refine go ?_|refine aa ?_|fail)
  exact ba (aM List.perm_append_comm) (dB rfl ⟨k',rfl⟩)
 ·have e':=Jx e
  rw [if_neg e']
  repeat' (first|refine go ?_|fail)
  exact dB rfl ⟨k,rfl⟩
end Go.Proofs.YtjjpkibjffmceaaGreat
namespace Go.Proofs.YtjjpkibjffmceaaGreat
open Go.RowKit
section
variable {P:Program} {tt:TT} {r:Option Nat} {ops:Array Oper} {Q:Exit→Act→World→Prop} {nt:Nat} {D:List Deferred} {fr:cw} {B:Bs} {L:AL} {rest:List Oper} {d:Nat} {ty t t':TypeId} {pos:String} {af:Array Edge} {g:Option (Nat×Bool)} {x y z:Operand} {u:AV}
theorem Fv (ok:f6 P tt) {dd:Option Tmp} {n e:Nat} {k:IntKind} {i:Nat} {a:Int} {cs:List AV} (ht:vu tt t=some (n,e,1)) (he:Gu tt e=true) (hx:bU fr x=some (.agg cs)) (hy:bU fr y=some (.sc (.int k a))) (ha:a=(i:Int)) (h0:i < n) (hu:cs[i]?=some u):Av P ⟨dd,.index t x y,ty,pos,af,g⟩ fr u:=by
 intro σ ρ w hρ _
 subst ha
 obtain ⟨h1,h2⟩:=ln ok ht
 have hc:=dk ok he
 have hyv:=(hρ y _ hy).sc_inv
 obtain ⟨vs,hv,hs,_⟩:=(hρ x _ hx).agg_inv
 obtain ⟨v,g1,g2⟩:=hs.get hu
 have hso:(sizeOf e:Sem Nat).run P w= .ok 1 w:=by
  cases hi:P.info? e with
  | none=>rw [hi] at h2;cases h2
  | some i=>rw [hi] at h2;simp at h2;simp [sizeOf,typeInfo,hi,h2]
 refine ⟨v,?_,g2⟩
 have h3:(i:Int) < n:=by omega
 simp [execOp,hv,hyv,Instr.index,asIntOf,run_underlying h1,hso,part,hc.agg w,g1]
 intro hle
 omega
theorem Ge (ok:f6 P tt) (i:Nat) {n e:Nat} {k:IntKind} {a:Int} {cs:List AV} (ht:vu tt t=some (n,e,1)) (he:Gu tt e=true) (hx:bU fr x=some (.agg cs)) (hy:bU fr y=some (.sc (.int k a))) (ha:a=(i:Int)) (h0:i < n) (hu:cs[i]?=some u) (hd:Nat.ble nt d=false) (h:cg P r ops Q nt D rest ((d,u)::fr) B L):cg P r ops Q nt D (⟨some d,.index t x y,ty,pos,af,none⟩::rest) fr B L:=dT (Fv ok ht he hx hy ha h0 hu) hd rfl h
end
section
variable {P:Program} {tt:TT} {l:List Oper} {fr:cw} {fin:jb} {sk:lL} {acc:cw} {L:AL} {k:Nat} {dd:Option Tmp} {ty t:TypeId} {pos:String} {af:Array Edge} {g:Option (Nat×Bool)}
theorem tX (ok:f6 P tt) {zs:List Value} (hz:zI tt t=some zs) (h1:zs.all (·.oneCell')=true) (hg:iL ⟨dd,.alloc t,ty,pos,af,g⟩ acc) (h:∀b,DA P l fr fin sk ((k,.sc (.pointer (some ⟨b,0,none⟩)))::acc) ((b,.box (zs.map .sc) t)::L)):
  du P l fr fin k .a ⟨dd,.alloc t,ty,pos,af,g⟩ sk acc L:=
 vH (fun c L' ⟨b,_,h2⟩=>⟨[(b,_)],h2⟩) hg (fun _=>ga (eA ok hz) h1) fun c L' ⟨b,h1,h2⟩=>by subst h1;subst h2;exact h b
end
end Go.Proofs.YtjjpkibjffmceaaGreat
namespace Go.Proofs.YtjjpkibjffmceaaGreat
structure MS where
 a:Nat
 lo:Fin 3
abbrev DM (α:Type):=MS→α×MS
section
variable {α β:Type}
def df (x:α):DM α:=fun m=>(x,m)
def cA (g:DM α) (k:α→DM β):DM β:=fun m=>k (g m).1 (g m).2
def it (g:Nat→β→DM β) (b:β):Nat→DM β
 | 0=>df b
 | k+1=>cA (it g b k) (g k)
end
def sn (s:List Int) (a:Nat) (n:Int):Int:=match s[a]? with
 | some x=>x % n
 | none=>0
def dr (s:List Int) (n:Int):DM Int:=fun m=>(sn s m.a n,{ m with a:=m.a+1 })
def Hi:DM Unit:=fun m=>((),{ m with lo:=⟨m.lo.val - 1,Nat.lt_of_le_of_lt (Nat.sub_le ..) m.lo.isLt⟩ })
def ip (z:Fin 3):DM Unit:=fun m=>((),{ m with lo:=z })
def qb:DM Int:=fun m=>((m.lo.val:Int),m)
section
variable (s:List Int)
def Fg (p:Nat):DM eU:=cA (dr s 21) fun x=>cA (dr s 21) fun y=>if p=0 then df ⟨x * 50 - 100,y * 50 - 200,true⟩ else cA (dr s 4) fun z=>df ⟨x * 50 - 100,y * 50 - 200,decide (0 < z)⟩
def o8 (l:List eU) (k:Nat):DM (List eU):=it (fun p l=>cA (Fg s p) fun t=>df (l++[t])) l k
def iE (n:Nat):DM (List eU×List Int):=it (fun _ o=>cA (dr s 4) fun k=>cA (o8 s o.1 (2+k).toNat) fun l=>df (l,o.2++[(l.length:Int) - 1])) ([],[]) n
def jQ:DM (List eU×List Int):=cA (dr s 3) fun n=>iE s n.toNat
def i6 (q:Int):DM (List ep):=df [⟨39,0⟩,⟨1,16⟩,⟨17,0⟩,⟨36,2⟩,⟨1,q⟩,⟨2,0⟩]
def dp (n funcs:Int):DM (List ep):=cA (dr s (n+1)) fun p=>cA (dr s (n+1)) fun q=>cA (dr s 2) fun a=>cA (dr s 12) fun k=>
 if k=0 then df [⟨22,a⟩,⟨23,a⟩]
 else if k=1 then cA (dr s 6) fun z=>df [⟨24,z⟩]
 else if k=2∨k=3 then df [⟨1,p⟩,⟨1,p⟩,⟨29,0⟩,⟨15,0⟩,⟨32,0⟩]
 else if k=4 then cA (dr s 200) fun z=>df [⟨1,p⟩,⟨1,z - 100⟩,⟨31,0⟩]
 else if k=5 then df [⟨1,p⟩,⟨1,q⟩,⟨33,0⟩]
 else if k=6 then df [⟨34,a⟩]
 else if k=7 then df [⟨1,a⟩,⟨1,q⟩,⟨25,0⟩,⟨1,3⟩,⟨5,0⟩,⟨26,0⟩]
 else if k=8 then (if 0 < funcs then cA (dr s funcs) fun z=>df [⟨37,z⟩] else i6 q)
 else if k=9 then (if 0 < funcs then cA qb fun lo=>if 0 < lo then cA Hi fun _=>cA (dr s 5) fun y=>cA (dr s funcs) fun z=>df [⟨1,y⟩,⟨38,z⟩] else i6 q else i6 q)
 else if k=10 then df [⟨1,p⟩,⟨30,0⟩,⟨1,q⟩,⟨29,0⟩,⟨16,0⟩,⟨36,3⟩,⟨1,q⟩,⟨1,64⟩,⟨31,0⟩]
 else i6 q
def fT (n funcs:Int) (k:Nat):DM (List ep):=it (fun _ l=>cA (dp s n funcs) fun p=>df (l++p)) [] k
def n6 (n funcs most:Int):DM (List ep):=cA (dr s most) fun k=>fT s n funcs k.toNat
def fJ (a:Int) (k:Nat):DM (List Int):=it (fun j l=>if l.length < 4 then cA (dr s 3) fun z=>df (if z=0 then l++[a+1+j] else l) else df l) [a] k
def nw (n:Int):DM (List Int):=cA (dr s n) fun a=>fJ s a (n - (a+1)).toNat
def iF (n:Int) (k:Nat):DM (List (List Int)):=it (fun _ l=>cA (nw s n) fun x=>df (l++[x])) [] k
def pb (n most:Int):DM (List (List Int)):=cA (dr s (most+1)) fun k=>iF s n k.toNat
def gA (n:Int) (k:Nat):DM (List Int):=it (fun _ l=>cA (dr s n) fun x=>df (l++[x])) [] k
def fF (n:Int) (calls:List Int) (k:Nat):DM (List gy):=it (fun _ l=>cA (dr s n) fun a=>cA (dr s calls.length) fun z=>df (l++[⟨a,calls.getD z.toNat 0⟩])) [] k
def Fd (n:Int) (a:List Int):DM cb:=cA (nw s n) fun b=>cA (dr s 41) fun x=>df ⟨[],[a,b],[],[],[],x * 10 - 200⟩
def jv (n:Int):DM (List (List Int)×List (List Int)):=cA (dr s 2) fun z=>if z=0 then cA (pb s n 2) fun b=>cA (pb s n 2) fun c=>df (b,c) else df ([],[])
def gU (n kind:Int) (calls:List Int):DM cb:=cA (nw s n) fun a=>if kind=6 then Fd s n a else cA (jv s n) fun e=>
 if kind=1∨kind=5 then cA (gA s n a.length) fun o=>df ⟨e.1,[a],e.2,o,[],0⟩
 else if kind=2 then cA (dr s 4) fun k=>cA (gA s n k.toNat) fun o=>df ⟨e.1,[a],e.2,o,[],0⟩
 else if kind=3 then cA (pb s n 2) fun m=>cA (dr s n) fun o=>df ⟨e.1,a::m,e.2,[o],[],0⟩
 else cA (pb s n 2) fun m=>cA (dr s 3) fun k=>cA (fF s (a::m).length calls (if calls.length=0 then 0 else k.toNat)) fun c=>df ⟨e.1,a::m,e.2,[],c,0⟩
def g7:List Int:=[1,2,3,4,4,5,6,7,8,1]
def eW (k:Nat):DM (List bj×List Int):=it (fun i o=>cA (dr s 10) fun z=>cA (dr s 3) fun y=>df (o.1++[⟨g7.getD z.toNat 0,decide (y=0),[]⟩],if g7.getD z.toNat 0≤4 then o.2++[(i:Int)] else o.2)) ([],[]) k
def fx (n kind:Int) (calls:List Int) (k:Nat):DM (List cb):=it (fun _ l=>cA (gU s n kind calls) fun r=>df (l++[r])) [] k
def fI (n:Int) (calls:List Int) (l:List bj) (k:Nat):DM (List bj):=it (fun i l=>match l[i]? with
 | none=>df l
 | some q=>if q.Kind≥7 then df l else cA (dr s 3) fun k=>cA (fx s n q.Kind calls (1+k).toNat) fun rs=>df (l.set i { q with Rules:=rs })) l k
def j4 (n:Int):DM (List bj):=cA (dr s 7) fun k=>cA (eW s k.toNat) fun o=>fI s n o.2 o.1 k.toNat
def bytes (l:List UInt8):ByteArray:=⟨l.toArray⟩
def l8 (p:List UInt8) (n:Nat):ByteArray:=bytes (p++[(97+n).toUInt8])
def Ik:List UInt8:=[103]
def ym:List UInt8:=[97,120]
def C7:ByteArray:=bytes [46,110,111,116,100,101,102]
def dD (n:Nat):ByteArray:=if n=0 then C7 else l8 Ik n
def j8 (n:Nat):DM (List cD):=if 1 < n then cA (dr s 4) fun z=>if z=0 then cA (dr s 9) fun x=>cA (dr s 5) fun y=>df [⟨1,x * 50 - 200,y * 50⟩] else df [] else df []
def g9 (cl:Int):List (Int×Int):=[(1,0),(1,1),(3,0),(4,0),(2,cl)]
def fq (mark:Bool) (cl:Int) (k:Nat):DM (List dv):=it (fun i l=>cA (dr s 3) fun z=>if z=0∧(((g9 cl).getD i (0,0)).1≠2∨mark=true) then cA (dr s 21) fun x=>cA (dr s 21) fun y=>df (l++[⟨((g9 cl).getD i (0,0)).1,((g9 cl).getD i (0,0)).2,x * 50,y * 50 - 200⟩]) else df l) [] k
def iz (r:Nat) (l:List dK) (k:Nat):DM (List dK):=it (fun p l=>cA (dr s 3) fun z=>if z=0 then cA (dr s 41) fun x=>if p=0 then df (l++[⟨r,-1,x - 20,0⟩]) else cA (dr s 41) fun y=>df (l++[⟨r,(p:Int) - 1,x - 20,y - 20⟩]) else df l) l k
def gG (pts:Nat) (R:Nat):DM (List dK):=it (fun r l=>iz s r l (pts+1)) [] R
def km (R fn n:Nat):DM bL:=cA (dr s 19) fun ad=>cA (dr s 4) fun mk=>cA (jQ s) fun o=>cA (j8 s n) fun ps=>cA (dr s 2) fun cl=>cA (fq s (decide (mk=0) && decide (n≠0)) cl 5) fun an=>cA (gG s o.1.length R) fun de=>cA (ip 2) fun _=>cA (n6 s o.1.length fn 6) fun h=>df ⟨dD n,100+ad * 50,decide (mk=0) && decide (n≠0),o.1,o.2,ps,an,de,h⟩
def gJ (R fn k:Nat):DM (List bL):=it (fun i l=>cA (km s R fn i) fun g=>df (l++[g])) [] k
def kR (k:Nat):DM (List eB):=it (fun i l=>cA (dr s 3) fun a=>cA (dr s 4) fun b=>df (l++[⟨l8 ym i,0 - a * 100,0,b * 100⟩])) [] k
def kA:List eo:=[⟨0,64,64⟩,⟨0,32,64⟩,⟨-64,-64,0⟩,⟨-1,0,5⟩,⟨10,32,50⟩]
def iC (k:Nat):DM (List eo):=it (fun _ l=>cA (dr s 5) fun z=>df (l++[kA.getD z.toNat ⟨0,0,0⟩])) [] k
def kH (axes k:Nat):DM (List (List eo)):=it (fun _ l=>cA (iC s axes) fun r=>df (l++[r])) [] k
def ge (axes:Nat):DM (List (List eo)):=if axes=0 then df [] else cA (dr s 4) fun n=>kH s axes n.toNat
def iZ (k:Nat):DM (List (List ep)):=it (fun i l=>cA (ip 0) fun _=>cA (n6 s 6 i 4) fun h=>df (l++[h])) [] k
def pN (k:Nat):DM (List Int):=it (fun _ l=>cA (dr s 500) fun z=>df (l++[z - 100])) [] k
def fy:List Int:=[97,98,99,102,105,108,57345,57346,57601,57602,57603,57857,57861,58113,58114,58369]
def ix (n:Int) (k:Nat):DM (List ey):=it (fun i l=>cA (dr s 4) fun z=>if 0 < z then cA (dr s n) fun g=>df (l++[⟨fy.getD i 0,g⟩]) else df l) [] k
def eO:List ByteArray:=[bytes [108,105,103,97],bytes [105,115,111,108],bytes [105,110,105,116],bytes [109,101,100,105],bytes [102,105,110,97],bytes [107,101,114,110],bytes [109,97,114,107],bytes [99,97,108,116]]
def nO (k:Nat):DM (List Int):=it (fun i l=>cA (dr s 3) fun z=>df (if z=0 then l++[(i:Int)] else l)) [] k
def iA (n:Nat) (k:Nat):DM (List bX):=it (fun i l=>cA (nO s n) fun r=>cA (dr s 2) fun z=>df (if z=0 then l++[⟨eO.getD i ByteArray.empty,r⟩] else l)) [] k
def mF:List Int:=[1000,1024,100,2048]
def BO:DM aL:=cA (dr s 4) fun u=>cA (dr s 3) fun k=>cA (kR s k.toNat) fun ax=>cA (ge s k.toNat) fun rg=>cA (dr s 3) fun k2=>cA (iZ s k2.toNat) fun fu=>cA (dr s 4) fun k3=>cA (pN s k3.toNat) fun cv=>cA (dr s 9) fun k4=>cA (gJ s rg.length fu.length (2+k4).toNat) fun gl=>cA (ix s gl.length 16) fun ch=>cA (j4 s gl.length) fun lk=>cA (iA s lk.length 8) fun ft=>df ⟨mF.getD u.toNat 0,gl,ch,lk,ft,ax,rg,fu,cv⟩
def na:aL:=(BO s ⟨0,0⟩).1
def gV:List Int:=fy++[122]
def HB:List Int:=(s.take 20).map fun z=>gV.getD (z % 17).toNat 0
end
end Go.Proofs.YtjjpkibjffmceaaGreat
namespace Go.Proofs.YtjjpkibjffmceaaGreat
open Go.RowKit
attribute [local irreducible] AT cg AX AO Av Kt bJ eC DA du
structure MF where
 u:AV
 gl:AV
 ch:AV
 lk:AV
 ft:AV
 ax:AV
 rg:AV
 fu:AV
 cv:AV
def Hq (s:List Int) (F:MF) (m:MS):List AV:=[.imm 1 (aS s),aP (min m.a s.length:Nat),F.u,F.gl,F.ch,F.lk,F.ft,F.ax,F.rg,F.fu,F.cv,aP (m.lo.val:Nat)]
abbrev eJ (b:Nat) (s:List Int) (F:MF) (m:MS):Nat×AB:=(b,.box (Hq s F m) 153)
def qW (f:FuncId) (args:List AV) (s:List Int) (F:MF) {α:Type} (u:DM α) (out:α→AV):Prop:=∀(b:Nat) (m:MS),AC Tryz.prog f (gj b::args) [eJ b s F m] fun c L=>c=out (u m).1∧L=[eJ b s F (u m).2]
theorem Eo {x n:Int} (hn:0 < n):(x.tmod n+n).tmod n=x % n:=by
 have h0:=Int.lt_tmod_of_pos x hn
 rw [Int.tmod_eq_emod_of_nonneg (by omega),Int.add_emod_right]
 have h2:(x.tmod n) % n=(x - n * x.tdiv n) % n:=by rw [Int.tmod_def]
 rw [h2,Int.sub_mul_emod_self_left]
set_option maxHeartbeats 1000000 in
theorem o6 (s:List Int) (hs:s.length≤1000000) (F:MF) (n:Int) (hn:0 < n∧n≤1000000):qW 63 [aP n] s F (dr s n) aP:=by
 intro b m
 refine aX Tryz.func63 rfl Tryz.ntmps63 rfl fun B=>?_
 have hil:=aF s
 unfold eJ
 repeat' (first|refine go ?_|refine IG a6 EV ?_)
 refine br 9 [(0,.v),(1,.v),(2,.v),(3,.l),(4,.v),(5,.v),(6,.v),(7,.l),(8,.v)] none ?_ trivial rfl (by kernel_rfl) (by kernel_rfl) (by kernel_rfl) mixed (by kernel_rfl) rfl
 repeat' (first|refine aC ?_|refine aY a6 ?_|refine dg a6 0 rfl rfl rfl rfl (by first|trivial|rfl) ?_)
 refine IQ [0,1,9,14] EV ?_
 repeat' (first|refine go ?_|refine aa ?_|refine IG a6 EV ?_)
 refine au rfl (fun h=>?_) (fun h=>?_)
 ·have h1:s.length≤min m.a s.length:=by have:=Jy h;rw [hil] at this;omega
  repeat' (first|refine go ?_|refine IG a6 EV ?_)
  refine IM EV ⟨?_,?_⟩
  ·unfold dr sn
   rw [List.getElem?_eq_none (show s.length≤m.a by omega)]
  ·unfold dr Hq
   rw [show min m.a s.length=min (m.a+1) s.length by omega]
 have h1:m.a < s.length:=by have:=Jx h;rw [hil] at this;omega
 have h2:min m.a s.length=m.a:=by omega
 obtain ⟨x,hx⟩:∃x,s[m.a]?=some x:=⟨_,Jz h1⟩
 have hxg:=bQ hx
 unfold Hq
 rw [h2]
 repeat' (first|refine go ?_|fail)
 refine br 8 [(0,.v),(1,.v),(2,.v),(3,.l),(4,.v),(5,.v),(6,.v),(7,.l)] none ?_ trivial rfl (by kernel_rfl) (by kernel_rfl) (by kernel_rfl) mixed (by kernel_rfl) rfl
 repeat' (first|refine aC ?_|refine aY a6 ?_|refine dg a6 0 rfl rfl rfl rfl (by first|trivial|rfl) ?_)
 refine IQ [0,1,19,23] EV ?_
 repeat' (first|refine go ?_|refine aa ?_|refine IG a6 EV ?_|(apply bH;first|refine IJ a6 0 ID ?_|refine IJ a6 1 ID ?_|refine IJ a6 2 ID ?_|refine IJ a6 3 ID ?_|refine IK a6 0 ID ?_|refine IK a6 1 ID ?_|refine IK a6 2 ID ?_|refine IL a6 1 IB (by assumption) rfl ?_|refine IL a6 0 IB (by assumption) rfl ?_|fail)|(apply aW;refine aT ?_)|(apply aV;first|refine aU a6 ?_|refine aN a6 ?_)|(apply aJ;first|refine IH a6 0 IE ?_|refine IH a6 1 IE ?_|refine IH a6 2 IE ?_|refine IH a6 3 IE ?_|fail))
 refine gT ?_
 repeat' (first|refine IG a6 EV ?_)
 have hb:=Int.lt_tmod_of_pos x hn.1
 have hb2:=Int.tmod_lt_of_pos x hn.1
 refine aT ?_
 repeat' (first|refine IG a6 EV ?_)
 refine gT ?_
 repeat' (first|refine go ?_|refine IG a6 EV ?_)
 refine IM EV ⟨?_,?_⟩
 ·unfold dr sn
  rw [hx,Eo hn.1]
 ·unfold dr
  dsimp only
  rw [show min (m.a+1) s.length=m.a+1 by omega]
  rfl
section
variable {r:Option Nat} {ops:Array Oper} {Q:Exit→Act→World→Prop} {nt:Nat} {D:List Deferred} {fr:cw} {B:Bs} {rest:List Oper} {d:Nat} {ty:TypeId} {pos:String} {af:Array Edge} {s:List Int} {F:MF} {b:Nat} {m:MS} {Z:AL} {args:Array Operand} {ts:Array TypeId}
theorem uD {f:FuncId} [bT Tryz.prog f] {α:Type} {u:DM α} {out:α→AV} {az ds:List AV} (hc:qW f az s F u out) (h:cg Tryz.prog r ops Q nt D rest ((d,out (u m).1)::fr) B (eJ b s F (u m).2::Z)) (hv:eN fr args.toList=some ds:=by rfl) (hi:l6 ds=some (gj b::az):=by rfl) (hd:Nat.ble nt d=false:=by rfl):cg Tryz.prog r ops Q nt D (⟨some d,.call ⟨.value (.func f),args,ts⟩,ty,pos,af,none⟩::rest) fr B (eJ b s F m::Z):=
 bn [eJ b s F m] Z (hc b m) hv hi (Jn _) hd fun c L1 ⟨h1,h2⟩=>by subst h1;subst h2;exact h
theorem dh {n:Int} (h:cg Tryz.prog r ops Q nt D rest ((d,aP (dr s n m).1)::fr) B (eJ b s F (dr s n m).2::Z)) (hv:eN fr args.toList=some [gj b,aP n]:=by rfl) (hs:s.length≤1000000:=by assumption) (hn:0 < n∧n≤1000000:=by omega) (hd:Nat.ble nt d=false:=by rfl):cg Tryz.prog r ops Q nt D (⟨some d,.call ⟨.value (.func 63),args,ts⟩,ty,pos,af,none⟩::rest) fr B (eJ b s F m::Z):=
 uD (o6 s hs F n hn) h hv rfl hd
end
section
variable {l:List Oper} {fr:cw} {fin:jb} {sk:lL} {acc:cw} {k:Nat} {dd:Option Tmp} {ty:TypeId} {pos:String} {af:Array Edge} {g:Option (Nat×Bool)} {s:List Int} {F:MF} {b:Nat} {m:MS} {Z:AL} {args:Array Operand} {ts:Array TypeId}
theorem cu {L:AL}:eT [] L:=fun q hq=>by cases hq
theorem cj {q:Nat×Nat×AV} {gs:KpL} {L:AL} (i:Nat) {cs:List AV} {e:TypeId} (hL:L[i]?=some (q.1,.box cs e)) (hc:cs[q.2.1]?=some q.2.2) (h:eT gs L):eT (.cell q::gs) L:=fun p hp=>by
 rcases List.mem_cons.1 hp with rfl | hp
 ·exact show ∃cs e,(q.1,AB.box cs e)∈L∧cs[q.2.1]?=some q.2.2 from ⟨cs,e,Jw hL,hc⟩
 ·exact h p hp
theorem HX {f:FuncId} [bT Tryz.prog f] {α:Type} {u:DM α} {out:α→AV} {az ds:List AV} (hc:qW f az s F u out) (h:DA Tryz.prog l fr fin sk ((k,out (u m).1)::acc) (eJ b s F (u m).2::Z)) (hv:eN (da l.toArray acc fr af.toList) args.toList=some ds:=by rfl) (hi:l6 ds=some (gj b::az):=by rfl) (hg:iL ⟨dd,.call ⟨.value (.func f),args,ts⟩,ty,pos,af,g⟩ acc:=by first | trivial | rfl):du Tryz.prog l fr fin k .e ⟨dd,.call ⟨.value (.func f),args,ts⟩,ty,pos,af,g⟩ sk acc (eJ b s F m::Z):=
 f5 [eJ b s F m] Z (hc b m) hv hi (Jn _) hg fun c L1 ⟨h1,h2⟩=>by subst h1;subst h2;exact h
theorem rm {f:FuncId} [bT Tryz.prog f] {α:Type} {u:DM α} {out:α→AV} {az ds:List AV} (hc:qW f az s F u out) (hK:eT fin.gs (eJ b s F (u m).2::Z)) (h:DA Tryz.prog l fr fin sk ((k,out (u m).1)::acc) (eJ b s F (u m).2::Z)) (hv:eN (da l.toArray acc fr af.toList) args.toList=some ds:=by rfl) (hi:l6 ds=some (gj b::az):=by rfl) (hg:iL ⟨dd,.call ⟨.value (.func f),args,ts⟩,ty,pos,af,g⟩ acc:=by first | trivial | rfl):du Tryz.prog l fr fin k .f ⟨dd,.call ⟨.value (.func f),args,ts⟩,ty,pos,af,g⟩ sk acc (eJ b s F m::Z):=
 xl [eJ b s F m] Z (hc b m) hv hi (Jn _) hg (fun c L1 ⟨_,h2⟩ _=>by subst h2;exact hK) fun c L1 ⟨h1,h2⟩=>by subst h1;subst h2;exact h
theorem sj {n:Int} (h:DA Tryz.prog l fr fin sk ((k,aP (dr s n m).1)::acc) (eJ b s F (dr s n m).2::Z)) (hv:eN (da l.toArray acc fr af.toList) args.toList=some [gj b,aP n]:=by rfl) (hs:s.length≤1000000:=by assumption) (hn:0 < n∧n≤1000000:=by omega) (hg:iL ⟨dd,.call ⟨.value (.func 63),args,ts⟩,ty,pos,af,g⟩ acc:=by first | trivial | rfl):du Tryz.prog l fr fin k .e ⟨dd,.call ⟨.value (.func 63),args,ts⟩,ty,pos,af,g⟩ sk acc (eJ b s F m::Z):=
 HX (o6 s hs F n hn) h hv rfl hg
theorem fj {n:Int} (hK:eT fin.gs (eJ b s F (dr s n m).2::Z)) (h:DA Tryz.prog l fr fin sk ((k,aP (dr s n m).1)::acc) (eJ b s F (dr s n m).2::Z)) (hv:eN (da l.toArray acc fr af.toList) args.toList=some [gj b,aP n]:=by rfl) (hs:s.length≤1000000:=by assumption) (hn:0 < n∧n≤1000000:=by omega) (hg:iL ⟨dd,.call ⟨.value (.func 63),args,ts⟩,ty,pos,af,g⟩ acc:=by first | trivial | rfl):du Tryz.prog l fr fin k .f ⟨dd,.call ⟨.value (.func 63),args,ts⟩,ty,pos,af,g⟩ sk acc (eJ b s F m::Z):=
 rm (o6 s hs F n hn) hK h hv rfl hg
end
end Go.Proofs.YtjjpkibjffmceaaGreat
