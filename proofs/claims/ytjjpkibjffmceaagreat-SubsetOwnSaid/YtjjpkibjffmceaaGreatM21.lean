/-
  The program: rules that may come to match.
-/
import Derived.Test.YtjjpkibjffmceaaGreatM20
import Derived.Test.YtjjpkibjffmceaaGreatM14
import Derived.Test.YtjjpkibjffmceaaGreatM12
import Derived.Test.YtjjpkibjffmceaaGreatM06
import Derived.Test.YtjjpkibjffmceaaGreatM16
namespace Go.Proofs.YtjjpkibjffmceaaGreat
open Go.RowKit
attribute [local irreducible] AT bW AX AO Av Kt bA eI DA dl
structure jn where
 rule:bX
 kind:Int
 ign:Bool
 unmet:List (List Int)
def w9 (h:jn):List AV:=bI h.rule++[aP h.kind,cx h.ign,.imm 1 (bv h.unmet)]
def f3 (x:Nat×jn):Nat×AB:=(x.1,.box (w9 x.2) 186)
def i7 (f:aL) (k:Option (Nat×Nat)) (qs:List Nat):List AV:=cb f++[.vec k 1 (qs.map fun q=>[g9 q])]
def jk (f:aL) (S:List Int) (ign:Bool) (n:Int):Bool:=Eu f.Glyphs.length S n && !(ign && rZ f n)
set_option maxHeartbeats 1000000 in
theorem xr (f:aL) (ap b gp q:Nat) (k kg:Option (Nat×Nat)) (S:List Int) (qs:List Nat) (h:jn) (n:Int):AC Tryz.prog 86 [aP n,.iptr [g9 ap],.iptr [g9 q],.iptr [g9 gp]] (f3 (q,h)::(gp,.box (i7 f kg qs) 182)::bJ ap b f.Glyphs.length k S) fun c L=>c=cx (jk f S h.ign n)∧L=f3 (q,h)::(gp,.box (i7 f kg qs) 182)::bJ ap b f.Glyphs.length k S:=by
 refine aS Tryz.func86 rfl Tryz.ntmps86 rfl fun B=>?_
 unfold jk
 repeat' (first|refine go ?_|refine HK a6 FS ?_)
 refine ba (bJ ap b f.Glyphs.length k S) [f3 (q,h),(gp,.box (i7 f kg qs) 182)] (Gq ap b f.Glyphs.length k S n) rfl rfl (List.perm_append_comm (l₁:=[f3 (q,h),(gp,.box (i7 f kg qs) 182)])) rfl fun c L1 ⟨hc,hL⟩=>?_
 subst hc;subst hL
 refine aO (aK List.perm_append_comm) ?_
 cases hi:Eu f.Glyphs.length S n with
 | false=>
  repeat' (first|refine go ?_|refine HK a6 FS ?_|refine HW HF ?_|refine dN rfl rfl rfl ?_)
  exact HS FS ⟨rfl,rfl⟩
 | true=>
  have hr:0≤n∧n < f.Glyphs.length:=by
   unfold Eu at hi
   rw [Bool.and_eq_true,decide_eq_true_eq] at hi
   exact hi.1
  obtain ⟨gl,hg⟩:∃g,f.Glyphs[n.toNat]?=some g:=⟨_,Iz (by omega)⟩
  have hgg:=bi (c:=bC) hg
  have hm:rZ f n=gl.Mark:=by unfold rZ;rw [hg]
  rw [hm]
  obtain ⟨rule,kind,ign,unmet⟩:=h
  unfold f3 w9 i7
  dsimp only
  repeat' (first|refine HK a6 FS ?_|refine HV FS ?_|(apply bK;first|refine HO a6 0 HG ?_|refine HO a6 1 HG ?_|refine HO a6 2 HG ?_|refine HO a6 3 HG ?_|refine HP a6 0 HG ?_|refine HP a6 1 HG ?_|refine HP a6 2 HG ?_|refine HR a6 1 HE (by assumption) rfl ?_|refine HR a6 0 HE (by assumption) rfl ?_|fail)|fail)
  cases ign
  ·repeat' (first|refine go ?_|refine HK a6 FS ?_|refine HV FS ?_|refine HW HF ?_)
   exact HS FS ⟨rfl,rfl⟩
  ·repeat' (first|refine go ?_|refine HK a6 FS ?_|refine HV FS ?_|(apply bK;first|refine HO a6 0 HG ?_|refine HO a6 1 HG ?_|refine HO a6 2 HG ?_|refine HO a6 3 HG ?_|refine HP a6 0 HG ?_|refine HP a6 1 HG ?_|refine HP a6 2 HG ?_|refine HR a6 1 HE (by assumption) rfl ?_|refine HR a6 0 HE (by assumption) rfl ?_|fail)|(apply aU;first|refine aT a6 ?_|refine aM a6 ?_)|fail)
   exact HS FS ⟨rfl,rfl⟩
def jn.rest (h:jn) (p:Int→Bool):jn:={ h with unmet:=h.unmet.dropWhile fun s=>s.any p }
set_option maxHeartbeats 1000000 in
theorem wi {g:FuncId} {caps:List AV} [bN Tryz.prog g] (q:Nat) (h:jn) (p:Int→Bool) (rest:AL) (hw:∀un z,AC Tryz.prog g ([aP z]++caps) (f3 (q,{ h with unmet:=un })::rest) fun c L'=>c=cx (p z)∧L'=f3 (q,{ h with unmet:=un })::rest):AC Tryz.prog 88 [g9 q,.fn g caps] (f3 (q,h)::rest) fun c L=>c=cx (h.unmet.all fun s=>s.any p)∧L=f3 (q,h.rest p)::rest:=by
 refine aS Tryz.func88 rfl Tryz.ntmps88 rfl fun B=>?_
 repeat' (first|refine go ?_|refine ak ?_|refine HK a6 FS ?_)
 refine aJ [0,1] (α:=List (List Int)) (fun _=>[]) (fun un=>(h.unmet.all fun s=>s.any p)=(un.all fun s=>s.any p)∧(h.unmet.dropWhile fun s=>s.any p)=un.dropWhile fun s=>s.any p) (fun un=>f3 (q,{ h with unmet:=un })::rest) (fun un=>un.length) h.unmet rfl trivial ⟨rfl,rfl⟩ (fun _ _ h=>h) ?_
 rintro un ⟨h1,h2⟩
 try dsimp only [Ir,Iq,Ip,Ij]
 cases un with
 | nil=>
  unfold f3 w9
  dsimp only
  repeat' (first|refine go ?_|refine HK a6 FS ?_|refine HW HF ?_|(apply bK;first|refine HO a6 0 HG ?_|refine HO a6 1 HG ?_|refine HO a6 2 HG ?_|refine HO a6 3 HG ?_|refine HP a6 0 HG ?_|refine HP a6 1 HG ?_|refine HP a6 2 HG ?_|refine HR a6 1 HE (by assumption) rfl ?_|refine HR a6 0 HE (by assumption) rfl ?_|fail)|refine bF rfl ?_)
  refine HS FS ⟨by rw [h1];rfl,?_⟩
  unfold jn.rest
  rw [h2]
  rfl
 | cons s un=>
  have hsg:(bv (s::un))[(0:Int).toNat]?=some [.imm 1 (aZ s)]:=rfl
  have hpos:decide (0 < (((bv (s::un)).length:Nat):Int))=true:=decide_eq_true (by rw [gt,List.length_cons];omega)
  have hw':=hw (s::un)
  unfold f3 w9 at hw' ⊢
  dsimp only at hw' ⊢
  repeat' (first|refine go ?_|refine HK a6 FS ?_|(apply bK;first|refine HO a6 0 HG ?_|refine HO a6 1 HG ?_|refine HO a6 2 HG ?_|refine HO a6 3 HG ?_|refine HP a6 0 HG ?_|refine HP a6 1 HG ?_|refine HP a6 2 HG ?_|refine HR a6 1 HE (by assumption) rfl ?_|refine HR a6 0 HE (by assumption) rfl ?_|fail)|fail)
  rw [hpos]
  repeat' (first|refine HK a6 FS ?_|refine HV FS ?_|(apply bK;first|refine HO a6 0 HG ?_|refine HO a6 1 HG ?_|refine HO a6 2 HG ?_|refine HO a6 3 HG ?_|refine HP a6 0 HG ?_|refine HP a6 1 HG ?_|refine HP a6 2 HG ?_|refine HR a6 1 HE (by assumption) rfl ?_|refine HR a6 0 HE (by assumption) rfl ?_|fail)|(apply aU;first|refine aT a6 ?_|refine aM a6 ?_)|fail)
  refine ba ((q,AB.box (bI h.rule++[aP h.kind,cx h.ign,AV.imm 1 (bv (s::un))]) 186)::rest) [] (y4 rfl s p _ hw') rfl rfl (bR rfl) rfl fun c L1 ⟨hc,hL⟩=>?_
  subst hc;subst hL
  rw [List.append_nil]
  cases hs:s.any p with
  | false=>
   repeat' (first|refine go ?_|refine HK a6 FS ?_|(apply bK;first|refine HO a6 0 HG ?_|refine HO a6 1 HG ?_|refine HO a6 2 HG ?_|refine HO a6 3 HG ?_|refine HP a6 0 HG ?_|refine HP a6 1 HG ?_|refine HP a6 2 HG ?_|refine HR a6 1 HE (by assumption) rfl ?_|refine HR a6 0 HE (by assumption) rfl ?_|fail)|refine bF rfl ?_)
   refine HS FS ⟨?_,?_⟩
   ·rw [h1,List.all_cons,hs]
    rfl
   ·unfold jn.rest
    rw [h2,List.dropWhile_cons_of_neg (by simpa using hs)]
  | true=>
   repeat' (first|refine go ?_|refine ak ?_|refine HK a6 FS ?_|(apply bK;first|refine HO a6 0 HG ?_|refine HO a6 1 HG ?_|refine HO a6 2 HG ?_|refine HO a6 3 HG ?_|refine HP a6 0 HG ?_|refine HP a6 1 HG ?_|refine HP a6 2 HG ?_|refine HR a6 1 HE (by assumption) rfl ?_|refine HR a6 0 HE (by assumption) rfl ?_|fail)|refine bP rfl ?_)
   refine dX (EV (lo:=1) (cf a6 rfl).1 rfl rfl rfl rfl rfl (by rw [gt,List.length_cons];omega)) rfl rfl ?_
   repeat' (first|refine go ?_|refine HK a6 FS ?_|(apply aG;first|refine HM a6 0 HH ?_|refine HM a6 1 HH ?_|refine HM a6 2 HH ?_|refine HM a6 3 HH ?_|fail))
   refine aB un rfl trivial ⟨?_,?_⟩ (by simp) (fun _ _ h=>h)
   ·rw [h1,List.all_cons,hs,Bool.true_and]
   ·rw [h2,List.dropWhile_cons_of_pos (by simpa using hs)]
section
variable {P:Program} {tt:TT} {l:List Oper} {fr:cu} {fin:kF} {sk:mF} {acc:cu} {L:AL} {k:Nat} {dd:Option Tmp} {ty t t':TypeId} {pos:String} {af:Array Edge} {g:Option (Nat×Bool)} {x y:Operand} {u:AV}
theorem sF (ok:fp P tt) (hi:Nat) {e sz by_ s:Nat} {l1:List (List AV)} {q:IntKind} {a:Int} (ht:nH tt t=some (e,sz,by_)) (hx:bO (dc l.toArray acc fr af.toList) x=some u) (hu:j9 u=some (s,l1)) (hs:Nat.beq s sz=true) (hy:bO (dc l.toArray acc fr af.toList) y=some (.sc (.int q a))) (ha:a=(hi:Int)) (h1:hi≤l1.length) (hg:jt ⟨dd,.slice t x none (some y) none,ty,pos,af,g⟩ acc) (h:DA P l fr fin sk ((k,.imm s (l1.take hi))::acc) L):
  dl P l fr fin k .v ⟨dd,.slice t x none (some y) none,ty,pos,af,g⟩ sk acc L:=ir hg (fun _ _=>(zR (cf ok ht).1 hx (dm hu) hs hy ha h1).ao) h
end
def lp (h:jn) (p:Int→Bool):List Int:=if h.kind=1∨h.kind=5 then ((h.rule.Out.zip (h.rule.In.headD [])).filter fun x=>p x.2).map (·.1) else if h.kind=2 then h.rule.Out else if h.kind=3 then h.rule.Out.take 1 else []
theorem wb (l:List Int):(aZ l).take (min l.length 1)=aZ (l.take 1):=by
 cases l with
 | nil=>rfl
 | cons x l=>rw [show min (x::l).length 1=1 by rw [List.length_cons];omega];rfl
theorem r7 {l k:List Int} {i:Nat} {a b:Int} (ha:l[i]?=some a) (hb:k[i]?=some b):(l.zip k).take (i+1)=(l.zip k).take i++[(a,b)]:=by
 rw [List.take_add_one,show (l.zip k)[i]?=some (a,b) by rw [List.getElem?_zip_eq_some];exact ⟨ha,hb⟩]
 rfl
set_option maxHeartbeats 4000000 in
theorem Eh {g:FuncId} {caps:List AV} [bN Tryz.prog g] (q:Nat) (h:jn) (p:Int→Bool) (rest:AL) (hw:∀z,AC Tryz.prog g ([aP z]++caps) (f3 (q,h)::rest) fun c L'=>c=cx (p z)∧L'=f3 (q,h)::rest) (hin:h.rule.In≠[]) (hout:h.rule.Out.length≤1000000) (np nb n:Nat) (k:Option (Nat×Nat)) (l:List Int) (hn:n≤1000000) (hl:ci n l):AC Tryz.prog 89 [g9 q,.fn g caps,g9 np] (f3 (q,h)::rest++bJ np nb n k l) fun _ L=>∃k',L=f3 (q,h)::rest++bJ np nb n k' (di n l (lp h p)):=by
 refine aS Tryz.func89 rfl Tryz.ntmps89 rfl fun B=>?_
 obtain ⟨y,hy⟩:∃y,h.rule.In[0]?=some y:=⟨_,Iz (List.length_pos_iff.2 hin)⟩
 have hyg:=oo hy
 have hd:h.rule.In.headD []=y:=by
  cases hI:h.rule.In with
  | nil=>exact absurd hI hin
  | cons y' q=>rw [hI] at hy;simpa using hy
 have hadd:=lJ np nb n k l
 have hOl:=aQ h.rule.Out
 have hYl:=aQ y
 by_cases h1:h.kind=1
 ·have ht:lp h p=((h.rule.Out.zip y).filter fun x=>p x.2).map (·.1):=by unfold lp;rw [if_pos (.inl h1),hd]
  rw [ht]
  unfold f3 w9 at hw ⊢
  dsimp only at hw ⊢
  repeat' (first|refine go ?_|refine ak ?_|refine HK a6 FS ?_|(apply bK;first|refine HO a6 0 HG ?_|refine HO a6 1 HG ?_|refine HO a6 2 HG ?_|refine HO a6 3 HG ?_|refine HP a6 0 HG ?_|refine HP a6 1 HG ?_|refine HP a6 2 HG ?_|refine HR a6 1 HE (by assumption) rfl ?_|refine HR a6 0 HE (by assumption) rfl ?_|fail)|fail)
  refine ay rfl (fun hh=>?_) (fun hh=>absurd h1 (Ix hh))
  rw [decide_eq_true h1]
  repeat' (first|refine go ?_|refine HK a6 FS ?_|(apply bK;first|refine HO a6 0 HG ?_|refine HO a6 1 HG ?_|refine HO a6 2 HG ?_|refine HO a6 3 HG ?_|refine HP a6 0 HG ?_|refine HP a6 1 HG ?_|refine HP a6 2 HG ?_|refine HR a6 1 HE (by assumption) rfl ?_|refine HR a6 0 HE (by assumption) rfl ?_|fail)|(apply aU;first|refine aT a6 ?_|refine aM a6 ?_)|refine bP rfl ?_)
  refine bn 17 [(0,.v),(1,.v),(2,.v),(3,.v),(4,.l),(5,.v),(6,.v),(7,.v),(8,.v),(9,.l),(10,.v),(11,.v),(12,.v),(13,.v),(14,.v),(15,.v),(16,.v)] none ?_ trivial rfl (by kernel_rfl) (by kernel_rfl) (by kernel_rfl) mixed (by kernel_rfl) rfl
  repeat' (first|refine aC ?_|refine b7 a6 ?_|refine dt a6 0 rfl rfl rfl rfl (by first|trivial|rfl) ?_)
  refine sF a6 (min h.rule.Out.length y.length) rfl rfl rfl rfl rfl (by rw [hOl,hYl];omega) (by rw [hOl];omega) trivial ?_
  repeat' (first|refine aC ?_|refine b7 a6 ?_|fail)
  refine HU [1,2,6,37,38,39] FS ?_
  repeat' (first|refine ak ?_|refine aa ?_|refine go ?_|fail)
  have hm:((aZ h.rule.Out).take (min h.rule.Out.length y.length)).length=min h.rule.Out.length y.length:=by rw [List.length_take,hOl];omega
  refine aJ [1,2,6,37,38] (α:=Nat×Option (Nat×Nat)) (fun x=>[(39,aP x.1)]) (fun x=>x.1≤min h.rule.Out.length y.length) (fun x=>(q,AB.box (bI h.rule++[aP h.kind,cx h.ign,AV.imm 1 (bv h.unmet)]) 186)::rest++bJ np nb n x.2 (di n l ((((h.rule.Out.zip y).take x.1).filter fun x=>p x.2).map (·.1)))) (fun x=>min h.rule.Out.length y.length - x.1) (0,k) rfl ⟨rfl,trivial⟩ (Nat.zero_le _) (fun _ _ h=>h) ?_
  rintro ⟨i,k1⟩ hi
  dsimp only at hi ⊢
  try dsimp only [Ir,Iq,Ip,Ij]
  repeat' (first|refine go ?_|refine HK a6 FS ?_)
  refine ay rfl (fun e=>?_) (fun e=>?_)
  ·have hil:i < min h.rule.Out.length y.length:=by have:=Iy e;rw [hm] at this;omega
   obtain ⟨o,ho⟩:∃z,h.rule.Out[i]?=some z:=⟨_,Iz (by omega)⟩
   obtain ⟨z,hz⟩:∃z,y[i]?=some z:=⟨_,Iz (by omega)⟩
   have hog:((aZ h.rule.Out).take (min h.rule.Out.length y.length))[i]?=some [aP o]:=by rw [List.getElem?_take,if_pos hil];exact bT ho
   have hzg:=bT hz
   have hzt:=r7 ho hz
   repeat' (first|refine go ?_|refine ak ?_|refine HK a6 FS ?_|(apply aU;first|refine aT a6 ?_|refine aM a6 ?_)|fail)
   refine dw ((q,AB.box (bI h.rule++[aP h.kind,cx h.ign,AV.imm 1 (bv h.unmet)]) 186)::rest) _ (hw z) rfl rfl rfl (Im _) rfl rfl fun c L1 ⟨hc,hL⟩=>?_
   subst hc;subst hL
   repeat' (first|refine go ?_|fail)
   refine ay rfl (fun e2=>?_) (fun e2=>?_)
   ·repeat' (first|refine go ?_|refine HK a6 FS ?_|refine bG a6 ?_|fail)
    refine ba (bJ np nb n k1 (di n l ((((h.rule.Out.zip y).take i).filter fun x=>p x.2).map (·.1)))) _ (lJ np nb n k1 _ [o] hn (hl.add _)) rfl rfl List.perm_append_comm rfl fun c L1 ⟨k',hL⟩=>?_
    subst hL
    refine aO (aK List.perm_append_comm) ?_
    repeat' (first|refine go ?_|refine HK a6 FS ?_|(apply aW;refine aV ?_)|fail)
    refine aB (i+1,k') rfl ⟨by rw [Iv];rfl,trivial⟩ (by dsimp only;omega) (by dsimp only;omega) (fun _ _ h=>?_)
    dsimp only
    rw [hzt,List.filter_append,List.map_append,←f7]
    simpa [e2] using h
   ·repeat' (first|refine go ?_|refine HK a6 FS ?_|(apply aW;refine aV ?_)|fail)
    refine aB (i+1,k1) rfl ⟨by rw [Iv];rfl,trivial⟩ (by dsimp only;omega) (by dsimp only;omega) (fun _ _ h=>?_)
    dsimp only
    rw [hzt,List.filter_append,List.map_append,←f7]
    simpa [e2,di] using h
  ·have hil:i=min h.rule.Out.length y.length:=by have:=Ix e;rw [hm] at this;omega
   subst hil
   repeat' (first|refine go ?_|fail)
   refine dY rfl ⟨k1,?_⟩
   rw [List.take_of_length_le (by rw [List.length_zip];exact Nat.le_refl _)]
 by_cases h5:h.kind=5
 ·have ht:lp h p=((h.rule.Out.zip y).filter fun x=>p x.2).map (·.1):=by unfold lp;rw [if_pos (.inr h5),hd]
  rw [ht]
  unfold f3 w9 at hw ⊢
  dsimp only at hw ⊢
  repeat' (first|refine go ?_|refine ak ?_|refine HK a6 FS ?_|(apply bK;first|refine HO a6 0 HG ?_|refine HO a6 1 HG ?_|refine HO a6 2 HG ?_|refine HO a6 3 HG ?_|refine HP a6 0 HG ?_|refine HP a6 1 HG ?_|refine HP a6 2 HG ?_|refine HR a6 1 HE (by assumption) rfl ?_|refine HR a6 0 HE (by assumption) rfl ?_|fail)|fail)
  refine ay rfl (fun hh=>absurd (Iy hh) h1) (fun _=>?_)
  repeat' (first|refine go ?_|refine HK a6 FS ?_)
  rw [decide_eq_true h5]
  repeat' (first|refine go ?_|refine HK a6 FS ?_|(apply bK;first|refine HO a6 0 HG ?_|refine HO a6 1 HG ?_|refine HO a6 2 HG ?_|refine HO a6 3 HG ?_|refine HP a6 0 HG ?_|refine HP a6 1 HG ?_|refine HP a6 2 HG ?_|refine HR a6 1 HE (by assumption) rfl ?_|refine HR a6 0 HE (by assumption) rfl ?_|fail)|(apply aU;first|refine aT a6 ?_|refine aM a6 ?_)|refine bP rfl ?_)
  refine bn 17 [(0,.v),(1,.v),(2,.v),(3,.v),(4,.l),(5,.v),(6,.v),(7,.v),(8,.v),(9,.l),(10,.v),(11,.v),(12,.v),(13,.v),(14,.v),(15,.v),(16,.v)] none ?_ trivial rfl (by kernel_rfl) (by kernel_rfl) (by kernel_rfl) mixed (by kernel_rfl) rfl
  repeat' (first|refine aC ?_|refine b7 a6 ?_|refine dt a6 0 rfl rfl rfl rfl (by first|trivial|rfl) ?_)
  refine sF a6 (min h.rule.Out.length y.length) rfl rfl rfl rfl rfl (by rw [hOl,hYl];omega) (by rw [hOl];omega) trivial ?_
  repeat' (first|refine aC ?_|refine b7 a6 ?_|fail)
  refine HU [1,2,6,37,38,39] FS ?_
  repeat' (first|refine ak ?_|refine aa ?_|refine go ?_|fail)
  have hm:((aZ h.rule.Out).take (min h.rule.Out.length y.length)).length=min h.rule.Out.length y.length:=by rw [List.length_take,hOl];omega
  refine aJ [1,2,6,37,38] (α:=Nat×Option (Nat×Nat)) (fun x=>[(39,aP x.1)]) (fun x=>x.1≤min h.rule.Out.length y.length) (fun x=>(q,AB.box (bI h.rule++[aP h.kind,cx h.ign,AV.imm 1 (bv h.unmet)]) 186)::rest++bJ np nb n x.2 (di n l ((((h.rule.Out.zip y).take x.1).filter fun x=>p x.2).map (·.1)))) (fun x=>min h.rule.Out.length y.length - x.1) (0,k) rfl ⟨rfl,trivial⟩ (Nat.zero_le _) (fun _ _ h=>h) ?_
  rintro ⟨i,k1⟩ hi
  dsimp only at hi ⊢
  try dsimp only [Ir,Iq,Ip,Ij]
  repeat' (first|refine go ?_|refine HK a6 FS ?_)
  refine ay rfl (fun e=>?_) (fun e=>?_)
  ·have hil:i < min h.rule.Out.length y.length:=by have:=Iy e;rw [hm] at this;omega
   obtain ⟨o,ho⟩:∃z,h.rule.Out[i]?=some z:=⟨_,Iz (by omega)⟩
   obtain ⟨z,hz⟩:∃z,y[i]?=some z:=⟨_,Iz (by omega)⟩
   have hog:((aZ h.rule.Out).take (min h.rule.Out.length y.length))[i]?=some [aP o]:=by rw [List.getElem?_take,if_pos hil];exact bT ho
   have hzg:=bT hz
   have hzt:=r7 ho hz
   repeat' (first|refine go ?_|refine ak ?_|refine HK a6 FS ?_|(apply aU;first|refine aT a6 ?_|refine aM a6 ?_)|fail)
   refine dw ((q,AB.box (bI h.rule++[aP h.kind,cx h.ign,AV.imm 1 (bv h.unmet)]) 186)::rest) _ (hw z) rfl rfl rfl (Im _) rfl rfl fun c L1 ⟨hc,hL⟩=>?_
   subst hc;subst hL
   repeat' (first|refine go ?_|fail)
   refine ay rfl (fun e2=>?_) (fun e2=>?_)
   ·repeat' (first|refine go ?_|refine HK a6 FS ?_|refine bG a6 ?_|fail)
    refine ba (bJ np nb n k1 (di n l ((((h.rule.Out.zip y).take i).filter fun x=>p x.2).map (·.1)))) _ (lJ np nb n k1 _ [o] hn (hl.add _)) rfl rfl List.perm_append_comm rfl fun c L1 ⟨k',hL⟩=>?_
    subst hL
    refine aO (aK List.perm_append_comm) ?_
    repeat' (first|refine go ?_|refine HK a6 FS ?_|(apply aW;refine aV ?_)|fail)
    refine aB (i+1,k') rfl ⟨by rw [Iv];rfl,trivial⟩ (by dsimp only;omega) (by dsimp only;omega) (fun _ _ h=>?_)
    dsimp only
    rw [hzt,List.filter_append,List.map_append,←f7]
    simpa [e2] using h
   ·repeat' (first|refine go ?_|refine HK a6 FS ?_|(apply aW;refine aV ?_)|fail)
    refine aB (i+1,k1) rfl ⟨by rw [Iv];rfl,trivial⟩ (by dsimp only;omega) (by dsimp only;omega) (fun _ _ h=>?_)
    dsimp only
    rw [hzt,List.filter_append,List.map_append,←f7]
    simpa [e2,di] using h
  ·have hil:i=min h.rule.Out.length y.length:=by have:=Ix e;rw [hm] at this;omega
   subst hil
   repeat' (first|refine go ?_|fail)
   refine dY rfl ⟨k1,?_⟩
   rw [List.take_of_length_le (by rw [List.length_zip];exact Nat.le_refl _)]
 have ht:lp h p=if h.kind=2 then h.rule.Out else if h.kind=3 then h.rule.Out.take 1 else []:=by unfold lp;rw [if_neg (by omega)]
 rw [ht]
 unfold f3 w9
 dsimp only
 repeat' (first|refine go ?_|refine ak ?_|refine HK a6 FS ?_|(apply bK;first|refine HO a6 0 HG ?_|refine HO a6 1 HG ?_|refine HO a6 2 HG ?_|refine HO a6 3 HG ?_|refine HP a6 0 HG ?_|refine HP a6 1 HG ?_|refine HP a6 2 HG ?_|refine HR a6 1 HE (by assumption) rfl ?_|refine HR a6 0 HE (by assumption) rfl ?_|fail)|fail)
 refine ay rfl (fun h=>absurd (Iy h) h1) (fun _=>?_)
 repeat' (first|refine go ?_|refine HK a6 FS ?_)
 rw [decide_eq_false h5]
 repeat' (first|refine go ?_|refine HK a6 FS ?_|refine bF rfl ?_)
 refine ay rfl (fun e=>?_) (fun e=>?_)
 ·have e':=Iy e
  rw [if_pos e']
  repeat' (first|refine go ?_|refine HK a6 FS ?_|(apply bK;first|refine HO a6 0 HG ?_|refine HO a6 1 HG ?_|refine HO a6 2 HG ?_|refine HO a6 3 HG ?_|refine HP a6 0 HG ?_|refine HP a6 1 HG ?_|refine HP a6 2 HG ?_|refine HR a6 1 HE (by assumption) rfl ?_|refine HR a6 0 HE (by assumption) rfl ?_|fail)|fail)
  refine ba (bJ np nb n k l) _ (lJ np nb n k l h.rule.Out hn hl) rfl rfl List.perm_append_comm rfl fun c L1 ⟨k',hL⟩=>?_
  subst hL
  refine aO (aK List.perm_append_comm) ?_
  repeat' (first|refine go ?_|fail)
  exact dY rfl ⟨k',rfl⟩
 have e2:=Ix e
 rw [if_neg e2]
 repeat' (first|refine go ?_|refine HK a6 FS ?_)
 refine ay rfl (fun e=>?_) (fun e=>?_)
 ·have e':=Iy e
  rw [if_pos e']
  repeat' (first|fail)
  refine bn 15 [(0,.v),(1,.v),(2,.v),(3,.v),(4,.v),(5,.l),(6,.v),(7,.v),(8,.v),(9,.v),(10,.l),(11,.v),(12,.v),(13,.v),(14,.e)] none ?_ trivial rfl (by kernel_rfl) (by kernel_rfl) (by kernel_rfl) mixed (by kernel_rfl) rfl
  repeat' (first|refine aC ?_|refine b7 a6 ?_|refine dt a6 0 rfl rfl rfl rfl (by first|trivial|rfl) ?_)
  refine sF a6 (min h.rule.Out.length 1) rfl rfl rfl rfl rfl (by rw [hOl];omega) (by rw [hOl];omega) trivial ?_
  repeat' (first|refine aC ?_|fail)
  refine dJ (bJ np nb n k l) _ (lJ np nb n k l (h.rule.Out.take 1) hn hl) rfl (by rw [show (aZ h.rule.Out).take (min h.rule.Out.length 1)=aZ (h.rule.Out.take 1) from wb _];rfl) List.perm_append_comm trivial fun c L1 ⟨k',hL⟩=>?_
  subst hL
  repeat' (first|fail)
  refine HU [] FS ?_
  repeat' (first|refine go ?_|refine aa ?_|fail)
  exact bc (aK List.perm_append_comm) (dY rfl ⟨k',rfl⟩)
 ·have e':=Ix e
  rw [if_neg e']
  repeat' (first|refine go ?_|fail)
  exact dY rfl ⟨k,rfl⟩
end Go.Proofs.YtjjpkibjffmceaaGreat
namespace Go.Proofs.YtjjpkibjffmceaaGreat
open Go.RowKit
section
variable {P:Program} {tt:TT} {r:Option Nat} {ops:Array Oper} {Q:Exit→Act→World→Prop} {nt:Nat} {D:List Deferred} {fr:cu} {B:Bs} {L:AL} {rest:List Oper} {d:Nat} {ty t t':TypeId} {pos:String} {af:Array Edge} {g:Option (Nat×Bool)} {x y z:Operand} {u:AV}
theorem ER (ok:fp P tt) {dd:Option Tmp} {n e:Nat} {k:IntKind} {i:Nat} {a:Int} {cs:List AV} (ht:xO tt t=some (n,e,1)) (he:EF tt e=true) (hx:bO fr x=some (.agg cs)) (hy:bO fr y=some (.sc (.int k a))) (ha:a=(i:Int)) (h0:i < n) (hu:cs[i]?=some u):Av P ⟨dd,.index t x y,ty,pos,af,g⟩ fr u:=by
 intro σ ρ w hρ _
 subst ha
 obtain ⟨h1,h2⟩:=nR ok ht
 have hc:=dh ok he
 have hyv:=(hρ y _ hy).sc_inv
 obtain ⟨vs,hv,hs,_⟩:=(hρ x _ hx).agg_inv
 obtain ⟨v,g1,g2⟩:=hs.get hu
 have hso:(sizeOf e:Sem Nat).run P w= .ok 1 w:=by
  cases hi:P.info? e with
  | none=>rw [hi] at h2;cases h2
  | some i=>rw [hi] at h2;simp at h2;simp [sizeOf,typeInfo,hi,h2]
 refine ⟨v,?_,g2⟩
 have h3:(i:Int) < n:=by omega
 simp [execOp,hv,hyv,Instr.index,asIntOf,run_underlying h1,h3,hso,part,hc.agg w,g1]
 intro hle
 omega
theorem BE (ok:fp P tt) (i:Nat) {n e:Nat} {k:IntKind} {a:Int} {cs:List AV} (ht:xO tt t=some (n,e,1)) (he:EF tt e=true) (hx:bO fr x=some (.agg cs)) (hy:bO fr y=some (.sc (.int k a))) (ha:a=(i:Int)) (h0:i < n) (hu:cs[i]?=some u) (hd:Nat.ble nt d=false) (h:bW P r ops Q nt D rest ((d,u)::fr) B L):bW P r ops Q nt D (⟨some d,.index t x y,ty,pos,af,none⟩::rest) fr B L:=dX (ER ok ht he hx hy ha h0 hu) hd rfl h
end
end Go.Proofs.YtjjpkibjffmceaaGreat
namespace Go.Proofs.YtjjpkibjffmceaaGreat
structure MS where
 a:Nat
 lo:Fin 3
abbrev DM (α:Type):=MS→α×MS
section
variable {α β:Type}
def cQ (x:α):DM α:=fun m=>(x,m)
def co (g:DM α) (k:α→DM β):DM β:=fun m=>k (g m).1 (g m).2
def ii (g:Nat→β→DM β) (b:β):Nat→DM β
 | 0=>cQ b
 | k+1=>co (ii g b k) (g k)
end
def sJ (s:List Int) (a:Nat) (n:Int):Int:=match s[a]? with
 | some x=>x % n
 | none=>0
def dr (s:List Int) (n:Int):DM Int:=fun m=>(sJ s m.a n,{ m with a:=m.a+1 })
def Gr:DM Unit:=fun m=>((),{ m with lo:=⟨m.lo.val - 1,Nat.lt_of_le_of_lt (Nat.sub_le ..) m.lo.isLt⟩ })
def ib (z:Fin 3):DM Unit:=fun m=>((),{ m with lo:=z })
def qi:DM Int:=fun m=>((m.lo.val:Int),m)
section
variable (s:List Int)
def ED (p:Nat):DM eP:=co (dr s 21) fun x=>co (dr s 21) fun y=>if p=0 then cQ ⟨x * 50 - 100,y * 50 - 200,true⟩ else co (dr s 4) fun z=>cQ ⟨x * 50 - 100,y * 50 - 200,decide (0 < z)⟩
def ol (l:List eP) (k:Nat):DM (List eP):=ii (fun p l=>co (ED s p) fun t=>cQ (l++[t])) l k
def iA (n:Nat):DM (List eP×List Int):=ii (fun _ o=>co (dr s 4) fun k=>co (ol s o.1 (2+k).toNat) fun l=>cQ (l,o.2++[(l.length:Int) - 1])) ([],[]) n
def jJ:DM (List eP×List Int):=co (dr s 3) fun n=>iA s n.toNat
def gW (q:Int):DM (List eL):=cQ [⟨39,0⟩,⟨1,16⟩,⟨17,0⟩,⟨36,2⟩,⟨1,q⟩,⟨2,0⟩]
def cU (n funcs:Int):DM (List eL):=co (dr s (n+1)) fun p=>co (dr s (n+1)) fun q=>co (dr s 2) fun a=>co (dr s 12) fun k=>
 if k=0 then cQ [⟨22,a⟩,⟨23,a⟩]
 else if k=1 then co (dr s 6) fun z=>cQ [⟨24,z⟩]
 else if k=2∨k=3 then cQ [⟨1,p⟩,⟨1,p⟩,⟨29,0⟩,⟨15,0⟩,⟨32,0⟩]
 else if k=4 then co (dr s 200) fun z=>cQ [⟨1,p⟩,⟨1,z - 100⟩,⟨31,0⟩]
 else if k=5 then cQ [⟨1,p⟩,⟨1,q⟩,⟨33,0⟩]
 else if k=6 then cQ [⟨34,a⟩]
 else if k=7 then cQ [⟨1,a⟩,⟨1,q⟩,⟨25,0⟩,⟨1,3⟩,⟨5,0⟩,⟨26,0⟩]
 else if k=8 then (if 0 < funcs then co (dr s funcs) fun z=>cQ [⟨37,z⟩] else gW q)
 else if k=9 then (if 0 < funcs then co qi fun lo=>if 0 < lo then co Gr fun _=>co (dr s 5) fun y=>co (dr s funcs) fun z=>cQ [⟨1,y⟩,⟨38,z⟩] else gW q else gW q)
 else if k=10 then cQ [⟨1,p⟩,⟨30,0⟩,⟨1,q⟩,⟨29,0⟩,⟨16,0⟩,⟨36,3⟩,⟨1,q⟩,⟨1,64⟩,⟨31,0⟩]
 else gW q
def fU (n funcs:Int) (k:Nat):DM (List eL):=ii (fun _ l=>co (cU s n funcs) fun p=>cQ (l++p)) [] k
def nc (n funcs most:Int):DM (List eL):=co (dr s most) fun k=>fU s n funcs k.toNat
def fH (a:Int) (k:Nat):DM (List Int):=ii (fun j l=>if l.length < 4 then co (dr s 3) fun z=>cQ (if z=0 then l++[a+1+j] else l) else cQ l) [a] k
def nC (n:Int):DM (List Int):=co (dr s n) fun a=>fH s a (n - (a+1)).toNat
def iB (n:Int) (k:Nat):DM (List (List Int)):=ii (fun _ l=>co (nC s n) fun x=>cQ (l++[x])) [] k
def ph (n most:Int):DM (List (List Int)):=co (dr s (most+1)) fun k=>iB s n k.toNat
def gu (n:Int) (k:Nat):DM (List Int):=ii (fun _ l=>co (dr s n) fun x=>cQ (l++[x])) [] k
def fB (n:Int) (calls:List Int) (k:Nat):DM (List gw):=ii (fun _ l=>co (dr s n) fun a=>co (dr s calls.length) fun z=>cQ (l++[⟨a,calls.getD z.toNat 0⟩])) [] k
def EB (n:Int) (a:List Int):DM bX:=co (nC s n) fun b=>co (dr s 41) fun x=>cQ ⟨[],[a,b],[],[],[],x * 10 - 200⟩
def js (n:Int):DM (List (List Int)×List (List Int)):=co (dr s 2) fun z=>if z=0 then co (ph s n 2) fun b=>co (ph s n 2) fun c=>cQ (b,c) else cQ ([],[])
def gN (n kind:Int) (calls:List Int):DM bX:=co (nC s n) fun a=>if kind=6 then EB s n a else co (js s n) fun e=>
 if kind=1∨kind=5 then co (gu s n a.length) fun o=>cQ ⟨e.1,[a],e.2,o,[],0⟩
 else if kind=2 then co (dr s 4) fun k=>co (gu s n k.toNat) fun o=>cQ ⟨e.1,[a],e.2,o,[],0⟩
 else if kind=3 then co (ph s n 2) fun m=>co (dr s n) fun o=>cQ ⟨e.1,a::m,e.2,[o],[],0⟩
 else co (ph s n 2) fun m=>co (dr s 3) fun k=>co (fB s (a::m).length calls (if calls.length=0 then 0 else k.toNat)) fun c=>cQ ⟨e.1,a::m,e.2,[],c,0⟩
def g8:List Int:=[1,2,3,4,4,5,6,7,8,1]
def eY (k:Nat):DM (List bb×List Int):=ii (fun i o=>co (dr s 10) fun z=>co (dr s 3) fun y=>cQ (o.1++[⟨g8.getD z.toNat 0,decide (y=0),[]⟩],if g8.getD z.toNat 0≤4 then o.2++[(i:Int)] else o.2)) ([],[]) k
def fw (n kind:Int) (calls:List Int) (k:Nat):DM (List bX):=ii (fun _ l=>co (gN s n kind calls) fun r=>cQ (l++[r])) [] k
def fE (n:Int) (calls:List Int) (l:List bb) (k:Nat):DM (List bb):=ii (fun i l=>match l[i]? with
 | none=>cQ l
 | some q=>if q.Kind≥7 then cQ l else co (dr s 3) fun k=>co (fw s n q.Kind calls (1+k).toNat) fun rs=>cQ (l.set i { q with Rules:=rs })) l k
def iW (n:Int):DM (List bb):=co (dr s 7) fun k=>co (eY s k.toNat) fun o=>fE s n o.2 o.1 k.toNat
def bytes (l:List UInt8):ByteArray:=⟨l.toArray⟩
def iV (p:List UInt8) (n:Nat):ByteArray:=bytes (p++[(97+n).toUInt8])
def Hq:List UInt8:=[103]
def sA:List UInt8:=[97,120]
def BP:ByteArray:=bytes [46,110,111,116,100,101,102]
def cT (n:Nat):ByteArray:=if n=0 then BP else iV Hq n
def j4 (n:Nat):DM (List cP):=if 1 < n then co (dr s 4) fun z=>if z=0 then co (dr s 9) fun x=>co (dr s 5) fun y=>cQ [⟨1,x * 50 - 200,y * 50⟩] else cQ [] else cQ []
def fy (cl:Int):List (Int×Int):=[(1,0),(1,1),(3,0),(4,0),(2,cl)]
def fj (mark:Bool) (cl:Int) (k:Nat):DM (List dT):=ii (fun i l=>co (dr s 3) fun z=>if z=0∧(((fy cl).getD i (0,0)).1≠2∨mark=true) then co (dr s 21) fun x=>co (dr s 21) fun y=>cQ (l++[⟨((fy cl).getD i (0,0)).1,((fy cl).getD i (0,0)).2,x * 50,y * 50 - 200⟩]) else cQ l) [] k
def it (r:Nat) (l:List eb) (k:Nat):DM (List eb):=ii (fun p l=>co (dr s 3) fun z=>if z=0 then co (dr s 41) fun x=>if p=0 then cQ (l++[⟨r,-1,x - 20,0⟩]) else co (dr s 41) fun y=>cQ (l++[⟨r,(p:Int) - 1,x - 20,y - 20⟩]) else cQ l) l k
def gC (pts:Nat) (R:Nat):DM (List eb):=ii (fun r l=>it s r l (pts+1)) [] R
def km (R fn n:Nat):DM br:=co (dr s 19) fun ad=>co (dr s 4) fun mk=>co (jJ s) fun o=>co (j4 s n) fun ps=>co (dr s 2) fun cl=>co (fj s (decide (mk=0) && decide (n≠0)) cl 5) fun an=>co (gC s o.1.length R) fun de=>co (ib 2) fun _=>co (nc s o.1.length fn 6) fun h=>cQ ⟨cT n,100+ad * 50,decide (mk=0) && decide (n≠0),o.1,o.2,ps,an,de,h⟩
def gD (R fn k:Nat):DM (List br):=ii (fun i l=>co (km s R fn i) fun g=>cQ (l++[g])) [] k
def kM (k:Nat):DM (List eM):=ii (fun i l=>co (dr s 3) fun a=>co (dr s 4) fun b=>cQ (l++[⟨iV sA i,0 - a * 100,0,b * 100⟩])) [] k
def kw:List eu:=[⟨0,64,64⟩,⟨0,32,64⟩,⟨-64,-64,0⟩,⟨-1,0,5⟩,⟨10,32,50⟩]
def iy (k:Nat):DM (List eu):=ii (fun _ l=>co (dr s 5) fun z=>cQ (l++[kw.getD z.toNat ⟨0,0,0⟩])) [] k
def kE (axes k:Nat):DM (List (List eu)):=ii (fun _ l=>co (iy s axes) fun r=>cQ (l++[r])) [] k
def gd (axes:Nat):DM (List (List eu)):=if axes=0 then cQ [] else co (dr s 4) fun n=>kE s axes n.toNat
def iT (k:Nat):DM (List (List eL)):=ii (fun i l=>co (ib 0) fun _=>co (nc s 6 i 4) fun h=>cQ (l++[h])) [] k
def pW (k:Nat):DM (List Int):=ii (fun _ l=>co (dr s 500) fun z=>cQ (l++[z - 100])) [] k
def fx:List Int:=[97,98,99,102,105,108,57345,57346,57601,57602,57603,57857,57861,58113,58114,58369]
def iq (n:Int) (k:Nat):DM (List eN):=ii (fun i l=>co (dr s 4) fun z=>if 0 < z then co (dr s n) fun g=>cQ (l++[⟨fx.getD i 0,g⟩]) else cQ l) [] k
def eG:List ByteArray:=[bytes [108,105,103,97],bytes [105,115,111,108],bytes [105,110,105,116],bytes [109,101,100,105],bytes [102,105,110,97],bytes [107,101,114,110],bytes [109,97,114,107],bytes [99,97,108,116]]
def nS (k:Nat):DM (List Int):=ii (fun i l=>co (dr s 3) fun z=>cQ (if z=0 then l++[(i:Int)] else l)) [] k
def iu (n:Nat) (k:Nat):DM (List bL):=ii (fun i l=>co (nS s n) fun r=>co (dr s 2) fun z=>cQ (if z=0 then l++[⟨eG.getD i ByteArray.empty,r⟩] else l)) [] k
def mE:List Int:=[1000,1024,100,2048]
def Bv:DM aL:=co (dr s 4) fun u=>co (dr s 3) fun k=>co (kM s k.toNat) fun ax=>co (gd s k.toNat) fun rg=>co (dr s 3) fun k2=>co (iT s k2.toNat) fun fu=>co (dr s 4) fun k3=>co (pW s k3.toNat) fun cv=>co (dr s 9) fun k4=>co (gD s rg.length fu.length (2+k4).toNat) fun gl=>co (iq s gl.length 16) fun ch=>co (iW s gl.length) fun lk=>co (iu s lk.length 8) fun ft=>cQ ⟨mE.getD u.toNat 0,gl,ch,lk,ft,ax,rg,fu,cv⟩
def nh:aL:=(Bv s ⟨0,0⟩).1
def gJ:List Int:=fx++[122]
def GQ:List Int:=(s.take 20).map fun z=>gJ.getD (z % 17).toNat 0
end
end Go.Proofs.YtjjpkibjffmceaaGreat
namespace Go.Proofs.YtjjpkibjffmceaaGreat
open Go.RowKit
attribute [local irreducible] AT bW AX AO Av Kt bA eI DA dl
structure MF where
 u:AV
 gl:AV
 ch:AV
 lk:AV
 ft:AV
 ax:AV
 rg:AV
 fu:AV
 cv:AV
def Gz (s:List Int) (F:MF) (m:MS):List AV:=[.imm 1 (aZ s),aP (min m.a s.length:Nat),F.u,F.gl,F.ch,F.lk,F.ft,F.ax,F.rg,F.fu,F.cv,aP (m.lo.val:Nat)]
abbrev eF (b:Nat) (s:List Int) (F:MF) (m:MS):Nat×AB:=(b,.box (Gz s F m) 153)
def rc (f:FuncId) (args:List AV) (s:List Int) (F:MF) {α:Type} (u:DM α) (out:α→AV):Prop:=∀(b:Nat) (m:MS),AC Tryz.prog f (g9 b::args) [eF b s F m] fun c L=>c=out (u m).1∧L=[eF b s F (u m).2]
theorem DT {x n:Int} (hn:0 < n):(x.tmod n+n).tmod n=x % n:=by
 have h0:=Int.lt_tmod_of_pos x hn
 rw [Int.tmod_eq_emod_of_nonneg (by omega),Int.add_emod_right]
 have h2:(x.tmod n) % n=(x - n * x.tdiv n) % n:=by rw [Int.tmod_def]
 rw [h2,Int.sub_mul_emod_self_left]
set_option maxHeartbeats 1000000 in
theorem oe (s:List Int) (hs:s.length≤1000000) (F:MF) (n:Int) (hn:0 < n∧n≤1000000):rc 63 [aP n] s F (dr s n) aP:=by
 intro b m
 refine aS Tryz.func63 rfl Tryz.ntmps63 rfl fun B=>?_
 have hil:=aQ s
 unfold eF
 repeat' (first|refine go ?_|refine HK a6 FS ?_)
 refine bn 9 [(0,.v),(1,.v),(2,.v),(3,.l),(4,.v),(5,.v),(6,.v),(7,.l),(8,.v)] none ?_ trivial rfl (by kernel_rfl) (by kernel_rfl) (by kernel_rfl) mixed (by kernel_rfl) rfl
 repeat' (first|refine aC ?_|refine b7 a6 ?_|refine dt a6 0 rfl rfl rfl rfl (by first|trivial|rfl) ?_)
 refine HU [0,1,9,14] FS ?_
 repeat' (first|refine go ?_|refine aa ?_|refine HK a6 FS ?_)
 refine ay rfl (fun h=>?_) (fun h=>?_)
 ·have h1:s.length≤min m.a s.length:=by have:=Iy h;rw [hil] at this;omega
  repeat' (first|refine go ?_|refine HK a6 FS ?_)
  refine HS FS ⟨?_,?_⟩
  ·unfold dr sJ
   rw [List.getElem?_eq_none (show s.length≤m.a by omega)]
  ·unfold dr Gz
   rw [show min m.a s.length=min (m.a+1) s.length by omega]
 have h1:m.a < s.length:=by have:=Ix h;rw [hil] at this;omega
 have h2:min m.a s.length=m.a:=by omega
 obtain ⟨x,hx⟩:∃x,s[m.a]?=some x:=⟨_,Iz h1⟩
 have hxg:=bT hx
 unfold Gz
 rw [h2]
 repeat' (first|refine go ?_|fail)
 refine bn 8 [(0,.v),(1,.v),(2,.v),(3,.l),(4,.v),(5,.v),(6,.v),(7,.l)] none ?_ trivial rfl (by kernel_rfl) (by kernel_rfl) (by kernel_rfl) mixed (by kernel_rfl) rfl
 repeat' (first|refine aC ?_|refine b7 a6 ?_|refine dt a6 0 rfl rfl rfl rfl (by first|trivial|rfl) ?_)
 refine HU [0,1,19,23] FS ?_
 repeat' (first|refine go ?_|refine aa ?_|refine HK a6 FS ?_|(apply bK;first|refine HO a6 0 HG ?_|refine HO a6 1 HG ?_|refine HO a6 2 HG ?_|refine HO a6 3 HG ?_|refine HP a6 0 HG ?_|refine HP a6 1 HG ?_|refine HP a6 2 HG ?_|refine HR a6 1 HE (by assumption) rfl ?_|refine HR a6 0 HE (by assumption) rfl ?_|fail)|(apply aW;refine aV ?_)|(apply aU;first|refine aT a6 ?_|refine aM a6 ?_)|(apply aG;first|refine HM a6 0 HH ?_|refine HM a6 1 HH ?_|refine HM a6 2 HH ?_|refine HM a6 3 HH ?_|fail))
 refine BL ?_
 repeat' (first|refine HK a6 FS ?_)
 have hb:=Int.lt_tmod_of_pos x hn.1
 have hb2:=Int.tmod_lt_of_pos x hn.1
 refine aV ?_
 repeat' (first|refine HK a6 FS ?_)
 refine BL ?_
 repeat' (first|refine go ?_|refine HK a6 FS ?_)
 refine HS FS ⟨?_,?_⟩
 ·unfold dr sJ
  rw [hx,DT hn.1]
 ·unfold dr
  dsimp only
  rw [show min (m.a+1) s.length=m.a+1 by omega]
  rfl
section
variable {r:Option Nat} {ops:Array Oper} {Q:Exit→Act→World→Prop} {nt:Nat} {D:List Deferred} {fr:cu} {B:Bs} {rest:List Oper} {d:Nat} {ty:TypeId} {pos:String} {af:Array Edge} {s:List Int} {F:MF} {b:Nat} {m:MS} {Z:AL} {args:Array Operand} {ts:Array TypeId}
theorem uC {f:FuncId} [bN Tryz.prog f] {α:Type} {u:DM α} {out:α→AV} {az ds:List AV} (hc:rc f az s F u out) (h:bW Tryz.prog r ops Q nt D rest ((d,out (u m).1)::fr) B (eF b s F (u m).2::Z)) (hv:eB fr args.toList=some ds:=by rfl) (hi:jq ds=some (g9 b::az):=by rfl) (hd:Nat.ble nt d=false:=by rfl):bW Tryz.prog r ops Q nt D (⟨some d,.call ⟨.value (.func f),args,ts⟩,ty,pos,af,none⟩::rest) fr B (eF b s F m::Z):=
 ba [eF b s F m] Z (hc b m) hv hi (Im _) hd fun c L1 ⟨h1,h2⟩=>by subst h1;subst h2;exact h
theorem cS {n:Int} (h:bW Tryz.prog r ops Q nt D rest ((d,aP (dr s n m).1)::fr) B (eF b s F (dr s n m).2::Z)) (hv:eB fr args.toList=some [g9 b,aP n]:=by rfl) (hs:s.length≤1000000:=by assumption) (hn:0 < n∧n≤1000000:=by omega) (hd:Nat.ble nt d=false:=by rfl):bW Tryz.prog r ops Q nt D (⟨some d,.call ⟨.value (.func 63),args,ts⟩,ty,pos,af,none⟩::rest) fr B (eF b s F m::Z):=
 uC (oe s hs F n hn) h hv rfl hd
end
section
variable {l:List Oper} {fr:cu} {fin:kF} {sk:mF} {acc:cu} {k:Nat} {dd:Option Tmp} {ty:TypeId} {pos:String} {af:Array Edge} {g:Option (Nat×Bool)} {s:List Int} {F:MF} {b:Nat} {m:MS} {Z:AL} {args:Array Operand} {ts:Array TypeId}
theorem cg {L:AL}:eU [] L:=fun q hq=>by cases hq
theorem bU {q:Nat×Nat×AV} {gs:KpL} {L:AL} (i:Nat) {cs:List AV} {e:TypeId} (hL:L[i]?=some (q.1,.box cs e)) (hc:cs[q.2.1]?=some q.2.2) (h:eU gs L):eU (.cell q::gs) L:=fun p hp=>by
 rcases List.mem_cons.1 hp with rfl | hp
 ·exact show ∃cs e,(q.1,AB.box cs e)∈L∧cs[q.2.1]?=some q.2.2 from ⟨cs,e,Iw hL,hc⟩
 ·exact h p hp
theorem H9 {f:FuncId} [bN Tryz.prog f] {α:Type} {u:DM α} {out:α→AV} {az ds:List AV} (hc:rc f az s F u out) (h:DA Tryz.prog l fr fin sk ((k,out (u m).1)::acc) (eF b s F (u m).2::Z)) (hv:eB (dc l.toArray acc fr af.toList) args.toList=some ds:=by rfl) (hi:jq ds=some (g9 b::az):=by rfl) (hg:jt ⟨dd,.call ⟨.value (.func f),args,ts⟩,ty,pos,af,g⟩ acc:=by first | trivial | rfl):dl Tryz.prog l fr fin k .e ⟨dd,.call ⟨.value (.func f),args,ts⟩,ty,pos,af,g⟩ sk acc (eF b s F m::Z):=
 dJ [eF b s F m] Z (hc b m) hv hi (Im _) hg fun c L1 ⟨h1,h2⟩=>by subst h1;subst h2;exact h
theorem rG {f:FuncId} [bN Tryz.prog f] {α:Type} {u:DM α} {out:α→AV} {az ds:List AV} (hc:rc f az s F u out) (hK:eU fin.gs (eF b s F (u m).2::Z)) (h:DA Tryz.prog l fr fin sk ((k,out (u m).1)::acc) (eF b s F (u m).2::Z)) (hv:eB (dc l.toArray acc fr af.toList) args.toList=some ds:=by rfl) (hi:jq ds=some (g9 b::az):=by rfl) (hg:jt ⟨dd,.call ⟨.value (.func f),args,ts⟩,ty,pos,af,g⟩ acc:=by first | trivial | rfl):dl Tryz.prog l fr fin k .f ⟨dd,.call ⟨.value (.func f),args,ts⟩,ty,pos,af,g⟩ sk acc (eF b s F m::Z):=
 sE [eF b s F m] Z (hc b m) hv hi (Im _) hg (fun c L1 ⟨_,h2⟩ _=>by subst h2;exact hK) fun c L1 ⟨h1,h2⟩=>by subst h1;subst h2;exact h
theorem sG {n:Int} (h:DA Tryz.prog l fr fin sk ((k,aP (dr s n m).1)::acc) (eF b s F (dr s n m).2::Z)) (hv:eB (dc l.toArray acc fr af.toList) args.toList=some [g9 b,aP n]:=by rfl) (hs:s.length≤1000000:=by assumption) (hn:0 < n∧n≤1000000:=by omega) (hg:jt ⟨dd,.call ⟨.value (.func 63),args,ts⟩,ty,pos,af,g⟩ acc:=by first | trivial | rfl):dl Tryz.prog l fr fin k .e ⟨dd,.call ⟨.value (.func 63),args,ts⟩,ty,pos,af,g⟩ sk acc (eF b s F m::Z):=
 H9 (oe s hs F n hn) h hv rfl hg
theorem ff {n:Int} (hK:eU fin.gs (eF b s F (dr s n m).2::Z)) (h:DA Tryz.prog l fr fin sk ((k,aP (dr s n m).1)::acc) (eF b s F (dr s n m).2::Z)) (hv:eB (dc l.toArray acc fr af.toList) args.toList=some [g9 b,aP n]:=by rfl) (hs:s.length≤1000000:=by assumption) (hn:0 < n∧n≤1000000:=by omega) (hg:jt ⟨dd,.call ⟨.value (.func 63),args,ts⟩,ty,pos,af,g⟩ acc:=by first | trivial | rfl):dl Tryz.prog l fr fin k .f ⟨dd,.call ⟨.value (.func 63),args,ts⟩,ty,pos,af,g⟩ sk acc (eF b s F m::Z):=
 rG (oe s hs F n hn) hK h hv rfl hg
end
end Go.Proofs.YtjjpkibjffmceaaGreat
