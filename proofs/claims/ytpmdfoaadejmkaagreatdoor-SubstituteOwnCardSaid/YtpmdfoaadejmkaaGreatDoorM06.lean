/-
  Automata of rules: what reading a row of glyphs by states tells.
-/
import Derived.Test.YtpmdfoaadejmkaaGreatDoorM05
import Derived.Test.YtpmdfoaadejmkaaGreatDoorM04
import Derived.MapKept
namespace Go.Proofs.YtpmdfoaadejmkaaGreatDoor
open Go.RowKit
attribute [local irreducible] AT br AX AO Av Kt b7 dm DA cA
def cn (p:Nat→Bool):Nat→Nat
 | 0=>0
 | n+1=>cn p n ||| (if p n=true then 2 ^ n else 0)
theorem cm (p:Nat→Bool) (i:Nat):∀n,(cn p n).testBit i=(decide (i < n) && p i)
 | 0=>by simp [cn]
 | n+1=>by
  rw [cn,Nat.testBit_or,cm p i n]
  by_cases hi:i=n
  ·subst hi
   cases hp:p i <;> simp [Nat.testBit_two_pow_self]
  ·have h1:decide (i < n+1)=decide (i < n):=decide_eq_decide.2 (by omega)
   have h2:(if p n=true then 2 ^ n else 0).testBit i=false:=by
    split
    ·rw [Nat.testBit_two_pow_of_ne (by omega)]
    ·simp
   rw [h1,h2,Bool.or_false]
theorem nh (p:Nat→Bool) (n:Nat):cn p n < 2 ^ n:=Nat.lt_pow_two_of_testBit _ fun i hi=>by
 rw [cm,decide_eq_false (by omega),Bool.false_and]
theorem ic {x y:Nat} (h:∀i,x.testBit i=y.testBit i):x=y:=Nat.eq_of_testBit_eq h
theorem qE {p:Nat→Bool} {n:Nat}:cn p n=0↔∀i,i < n→p i=false:=by
 constructor
 ·intro h i hi
  have:=cm p i n
  rw [h,Nat.zero_testBit,decide_eq_true hi,Bool.true_and] at this
  exact this.symm
 ·intro h
  refine ic fun i=>?_
  rw [cm,Nat.zero_testBit]
  by_cases hi:i < n
  ·rw [h i hi,Bool.and_false]
  ·rw [decide_eq_false hi,Bool.false_and]
section
variable (cls:List Int) (rows:List (List (List Int))) (have_:Nat→Bool)
def fO (c:Nat) (s:List Int):Bool:=s.any fun g=>decide (0≤g) && (decide (g < cls.length) && decide (cls.getD g.toNat (-1)=(c:Int)))
def mC (m c:Nat) (n:Nat):Bool:=match rows[n]? with
 | some r=>match r[m]? with
  | some s=>fO cls c s
  | none=>false
 | none=>false
def jM (m:Nat) (n:Nat):Bool:=match rows[n]? with
 | some r=>decide (r.length=m)
 | none=>false
def jY (m c:Nat):Nat:=cn (mC cls rows m c) rows.length
def yN (m:Nat):Nat:=cn (jM rows m) rows.length
def lI:Nat×Nat:=(0,cn have_ rows.length)
def bH (p:Nat×Nat) (c:Nat):Nat×Nat:=if p.2 &&& jY cls rows p.1 c=0 then (0,0) else (p.1+1,p.2 &&& jY cls rows p.1 c)
def ii (p:Nat×Nat):Nat:=if p.2=0 then 0 else p.2 &&& yN rows p.1
structure qo (C:Nat) (tab:List (List Int)) (ends:List Nat):Prop where
 met:∃met:List (Nat×Nat),met[0]?=some (lI rows have_)∧met.length=tab.length∧met.length=ends.length∧
  (∀(i:Nat) p,met[i]?=some p→ends[i]?=some (ii rows p))∧
  (∀(i:Nat) p q,met[i]?=some p→tab[i]?=some q→q.length=C∧∀(c:Nat) z,q[c]?=some z→((bH cls rows p c).2=0∧z= -1)∨((bH cls rows p c).2≠0∧0≤z∧met[z.toNat]?=some (bH cls rows p c)))
end
def iE (cls:List Int) (tab:List (List Int)) (s:Int) (g:Int):Int:=
 if s < 0∨g < 0 then -1 else match tab[s.toNat]?,cls[g.toNat]? with
 | some ea,some c=>if c < 0 then -1 else match ea[c.toNat]? with
  | some z=>if 0≤z∧z < tab.length then z else -1
  | none=> -1
 | _,_=> -1
def jq (ends:List Nat) (s:Int):Nat:=if s < 0 then 0 else ends.getD s.toNat 0
def mG (cls:List Int) (tab:List (List Int)) (ends:List Nat):Int→List Int→Nat→Nat
 | _,[],told=>told
 | s,g::r,told=>if iE cls tab s g= -1 then told else mG cls tab ends (iE cls tab s g) r (told ||| jq ends (iE cls tab s g))
def gp (cls:List Int) (tab:List (List Int)) (ends:List Nat) (gl:List Int):Nat:=mG cls tab ends 0 gl (jq ends 0)
structure uK (n:Nat) (C:Nat) (cls:List Int) (sets:List (List Int)):Prop where
 len:cls.length=n
 dom:∀z∈cls,0≤z∧z < C
 apart:∀s∈sets,∀(i j:Nat) z,cls[i]?=some z→cls[j]?=some z→((i:Int)∈s↔(j:Int)∈s)
theorem w6 {cls:List Int} {n C:Nat} {sets:List (List Int)} (h:uK n C cls sets) {s:List Int} (hs:s∈sets) (hd:∀g∈s,0≤g∧g < n) {g:Int} (h0:0≤g) {c:Nat} (hc:cls[g.toNat]?=some (c:Int)):fO cls c s=s.contains g:=by
 rw [Bool.eq_iff_iff,List.contains_iff_mem]
 unfold fO
 rw [List.any_eq_true]
 constructor
 ·rintro ⟨x,hx,hb⟩
  simp only [Bool.and_eq_true,decide_eq_true_eq] at hb
  obtain ⟨h1,h2,h3⟩:=hb
  have hxc:cls[x.toNat]?=some (c:Int):=by
   rw [Iy (by omega)]
   rw [List.getD_eq_getElem?_getD,Iy (by omega)] at h3
   exact congrArg some h3
  have:=(h.apart s hs x.toNat g.toNat c hxc hc).1 (by rw [Int.toNat_of_nonneg h1];exact hx)
  rwa [Int.toNat_of_nonneg h0] at this
 ·intro hg
  refine ⟨g,hg,?_⟩
  have hl:=h.len
  have:=hd g hg
  simp only [Bool.and_eq_true,decide_eq_true_eq]
  refine ⟨h0,by omega,?_⟩
  rw [List.getD_eq_getElem?_getD,hc]
  rfl
def nK (rows:List (List (List Int))) (have_:Nat→Bool) (gl:List Int) (n:Nat):Bool:=match rows[n]? with
 | some r=>have_ n && (decide (gl.length≤r.length) && f8 (r.take gl.length) gl)
 | none=>false
theorem oG:∀{ss:List (List Int)} {gl:List Int} {s:List Int} {g:Int},ss.length=gl.length→f8 (ss++[s]) (gl++[g])=(f8 ss gl && s.contains g)
 | [],[],s,g,_=>by simp [f8]
 | [],_::_,_,_,h=>by simp at h
 | _::_,[],_,_,h=>by simp at h
 | s'::ss,g'::gl,s,g,h=>by
  rw [Lr,Lr,f8,oG (by simpa using h),f8,Bool.and_assoc]
theorem kP:∀{a:List (List Int)} {b:List Int},b.length < a.length→f8 a b=false
 | [],_,h=>by simp at h
 | _::_,[],_=>rfl
 | _::a,_::b,h=>by rw [f8,kP (by simpa using h),Bool.and_false]
theorem mg:∀{ss:List (List Int)} {gl x:List Int},ss.length≤gl.length→f8 ss (gl++x)=f8 ss gl
 | [],_,_,_=>rfl
 | _::_,[],_,h=>by simp at h
 | s::ss,g::gl,x,h=>by rw [Lr,f8,f8,mg (by simpa using h)]
section
variable {cls:List Int} {rows:List (List (List Int))} {have_:Nat→Bool} {N C:Nat} {sets:List (List Int)}
theorem DN (h:uK N C cls sets) (hs:∀r∈rows,∀s∈r,s∈sets∧∀g∈s,0≤g∧g < N) {gl:List Int} {g:Int} {c:Nat} (h0:0≤g) (hc:cls[g.toNat]?=some (c:Int)):
  cn (nK rows have_ gl) rows.length &&& jY cls rows gl.length c=cn (nK rows have_ (gl++[g])) rows.length:=by
 refine ic fun n=>?_
 rw [Nat.testBit_and,cm,jY,cm,cm]
 by_cases hn:n < rows.length
 ·simp only [decide_eq_true hn,Bool.true_and]
  unfold nK mC
  rw [Iy hn]
  dsimp only
  have hm:=List.getElem_mem hn
  generalize rows[n]=r at hm
  rw [List.length_append,List.length_singleton]
  by_cases hl:gl.length < r.length
  ·have hs':=hs r hm r[gl.length] (List.getElem_mem hl)
   rw [Iy hl,decide_eq_true (by omega:gl.length≤r.length),decide_eq_true (by omega:gl.length+1≤r.length),List.take_add_one,Iy hl]
   dsimp only [Option.toList]
   rw [oG (by rw [List.length_take];omega),w6 h hs'.1 hs'.2 h0 hc]
   cases have_ n <;> simp
  ·rw [List.getElem?_eq_none (by omega),decide_eq_false (by omega:¬gl.length+1≤r.length)]
   simp
 ·simp [decide_eq_false hn]
def fi (rows:List (List (List Int))) (have_:Nat→Bool) (gl:List Int) (n:Nat):Bool:=match rows[n]? with
 | some r=>have_ n && f8 r gl
 | none=>false
theorem pB {tab:List (List Int)} {ends:List Nat} (h:uK N C cls sets) (hs:∀r∈rows,∀s∈r,s∈sets∧∀g∈s,0≤g∧g < N) (ht:qo cls rows have_ C tab ends) (hC:∀z∈cls,z.toNat < C):
  ∀(gl:List Int),gp cls tab ends gl=cn (fi rows have_ gl) rows.length:=by
 obtain ⟨met,h0,hl,hle,he,hn⟩:=ht.met
 have hmt:=hl
 have key:∀(r gl:List Int) (s:Nat) (told:Nat) (p:Nat×Nat),met[s]?=some p→p.1=gl.length→p.2=cn (nK rows have_ gl) rows.length→told=cn (fi rows have_ gl) rows.length→
   (gl=[]∨p.2≠0)→mG cls tab ends s r told=cn (fi rows have_ (gl++r)) rows.length:=by
  intro r
  induction r with
  | nil=>intro gl s told p _ _ _ ht _;rw [mG,List.append_nil];exact ht
  | cons g r ih=>
   intro gl s told p hp hp1 hp2 htold hne
   have hsl:s < met.length:=(Ln hp).1
   obtain ⟨q,hq⟩:∃q,tab[s]?=some q:=⟨_,Iy (by omega)⟩
   obtain ⟨hqC,hqn⟩:=hn s p q hp hq
   have stop:(∀n,nK rows have_ (gl++[g]) n=false)→cn (fi rows have_ gl) rows.length=cn (fi rows have_ (gl++g::r)) rows.length:=by
    intro hz
    refine ic fun n=>?_
    rw [cm,cm]
    congr 1
    have hzn:=hz n
    unfold nK at hzn
    unfold fi
    cases hr:rows[n]? with
    | none=>rfl
    | some ea=>
     rw [hr] at hzn
     dsimp only at hzn ⊢
     by_cases hh:have_ n=true
     ·rw [hh,Bool.true_and] at hzn ⊢
      rw [Bool.true_and]
      by_cases hrl:ea.length≤gl.length
      ·rw [mg hrl]
      ·rw [List.length_append,List.length_singleton,decide_eq_true (by omega),Bool.true_and,List.take_add_one,Iy (by omega)] at hzn
       dsimp only [Option.toList] at hzn
       have e1:f8 ea gl=false:=by
        rw [Bool.eq_false_iff]
        intro hf
        rw [kP (by omega)] at hf
        cases hf
       have e2:f8 ea (gl++g::r)=false:=by
        have e3:ea=(ea.take gl.length++[ea[gl.length]])++ea.drop (gl.length+1):=by
         rw [List.append_assoc,List.singleton_append,List.getElem_cons_drop,List.take_append_drop]
        have e4:∀{a b:List (List Int)} {x:List Int},f8 (a++b) x=true→f8 a x=true:=by
         intro a
         induction a with
         | nil=>intro b x _;rfl
         | cons y a iha=>
          intro b x hx
          cases x with
          | nil=>cases hx
          | cons w x=>
           rw [Lr,f8,Bool.and_eq_true] at hx
           rw [f8,Bool.and_eq_true]
           exact ⟨hx.1,iha hx.2⟩
        rw [Bool.eq_false_iff]
        intro hf
        rw [e3] at hf
        have:=e4 hf
        rw [show gl++g::r=(gl++[g])++r by simp,mg (by simp;omega)] at this
        rw [this] at hzn
        cases hzn
       rw [e1,e2]
     ·simp [hh]
   rw [mG]
   by_cases hg:0≤g∧g.toNat < cls.length
   ·obtain ⟨hg0,hgl⟩:=hg
    obtain ⟨z,hz⟩:∃z,cls[g.toNat]?=some z:=⟨_,Iy hgl⟩
    have hzm:=Lw hz
    have hzd:=h.dom z hzm
    obtain ⟨c,rfl⟩:=Int.eq_ofNat_of_zero_le hzd.1
    have hcC:c < C:=by omega
    obtain ⟨t,htc⟩:∃t,q[c]?=some t:=⟨_,Iy (by omega)⟩
    have hstep:=DN (have_:=have_) (gl:=gl) h hs hg0 hz
    have hnx:iE cls tab s g=if 0≤t∧t < tab.length then t else -1:=by
     unfold iE
     rw [if_neg (by omega),Int.toNat_natCast,hq,hz]
     dsimp only
     rw [if_neg (by omega),Int.toNat_natCast,htc]
    have hbe:bH cls rows p c=if cn (nK rows have_ (gl++[g])) rows.length=0 then (0,0) else (gl.length+1,cn (nK rows have_ (gl++[g])) rows.length):=by
     unfold bH
     rw [hp1,hp2,hstep]
    rcases hqn c t htc with ⟨h1,h2⟩ | ⟨h1,h2,h3⟩
    ·subst h2
     have hno:¬((0:Int)≤-1∧(-1:Int) < tab.length):=fun e=>absurd e.1 (by decide)
     rw [hnx,if_neg hno,if_pos rfl,htold]
     refine stop fun n=>?_
     rw [hbe] at h1
     have hzero:cn (nK rows have_ (gl++[g])) rows.length=0:=by
      split at h1
      ·assumption
      ·exact h1
     by_cases hnl:n < rows.length
     ·exact qE.1 hzero n hnl
     ·unfold nK;rw [List.getElem?_eq_none (by omega)]
    ·have htl:t.toNat < tab.length:=by
      have:=(Ln h3).1
      omega
     have htz:¬t= -1:=by omega
     have hin:(0:Int)≤t∧t < tab.length:=⟨h2,by omega⟩
     rw [if_pos hin] at hnx
     rw [hnx,if_neg htz]
     rw [hbe] at h1 h3
     have hnz:¬cn (nK rows have_ (gl++[g])) rows.length=0:=by
      intro e
      rw [if_pos e] at h1
      exact h1 rfl
     rw [if_neg hnz] at h3
     have:=ih (gl++[g]) t.toNat (told ||| jq ends t) _ h3 (by simp) rfl ?_ (.inr hnz)
     ·rw [Int.toNat_of_nonneg h2] at this
      rw [this]
      simp
     ·
      have hen:=he _ _ h3
      unfold jq
      rw [if_neg (by omega),List.getD_eq_getElem?_getD,hen,htold]
      dsimp only [Option.getD]
      unfold ii
      rw [if_neg hnz]
      refine ic fun n=>?_
      rw [Nat.testBit_or,Nat.testBit_and,yN,cm,cm,cm,cm]
      by_cases hnl:n < rows.length
      ·simp only [decide_eq_true hnl,Bool.true_and]
       unfold fi nK jM
       rw [Iy hnl]
       dsimp only
       generalize rows[n]=ea
       cases have_ n
       ·simp
       ·simp only [Bool.true_and,List.length_append,List.length_singleton]
        by_cases hrl:ea.length≤gl.length
        ·rw [mg hrl,decide_eq_false (by omega:¬ea.length=gl.length+1),Bool.and_false,Bool.or_false]
        ·have e1:f8 ea gl=false:=kP (by omega)
         rw [e1,Bool.false_or]
         by_cases hre:ea.length=gl.length+1
         ·rw [decide_eq_true hre,Bool.and_true,decide_eq_true (by omega),Bool.true_and,List.take_of_length_le (by omega)]
         ·rw [decide_eq_false hre,Bool.and_false]
          exact (kP (by simp;omega)).symm
      ·simp [decide_eq_false hnl]
   ·have hnx:iE cls tab s g= -1:=by
     unfold iE
     by_cases hg0:g < 0
     ·rw [if_pos (.inr hg0)]
     ·rw [if_neg (by omega),Int.toNat_natCast,hq,List.getElem?_eq_none (by omega)]
    rw [hnx,if_pos rfl,htold]
    refine stop fun n=>?_
    unfold nK
    cases hr:rows[n]? with
    | none=>rfl
    | some ea=>
     dsimp only
     by_cases hrl:gl.length+1≤ea.length
     ·have hs':=hs ea (Lw hr) ea[gl.length] (List.getElem_mem (by omega))
      have hng:ea[gl.length].contains g=false:=by
       rw [Bool.eq_false_iff]
       intro hm
       rw [List.contains_iff_mem] at hm
       have:=hs'.2 g hm
       have hl:=h.len
       omega
      rw [List.length_append,List.length_singleton,List.take_add_one,Iy (by omega)]
      dsimp only [Option.toList]
      rw [oG (by rw [List.length_take];omega),hng]
      simp
     ·rw [List.length_append,List.length_singleton,decide_eq_false hrl]
      simp
 intro gl
 have h00:=key gl [] 0 (jq ends 0) _ h0 rfl ?_ ?_ (.inl rfl)
 ·rw [Lq] at h00
  exact h00
 ·refine ic fun n=>?_
  unfold lI
  rw [cm,cm]
  by_cases hnl:n < rows.length
  ·simp only [decide_eq_true hnl,Bool.true_and]
   unfold nK
   rw [Iy hnl]
   simp [f8]
  ·simp [decide_eq_false hnl]
 ·have hen:=he _ _ h0
  unfold jq
  rw [if_neg (by omega),List.getD_eq_getElem?_getD]
  rw [show (0:Int).toNat=0 from rfl,hen]
  dsimp only [Option.getD]
  refine ic fun n=>?_
  have hb:(ii rows (lI rows have_))=cn have_ rows.length &&& yN rows 0:=by
   unfold ii lI
   dsimp only
   split
   ·rename_i e
    rw [e,Nat.zero_and]
   ·rfl
  rw [hb,Nat.testBit_and,yN,cm,cm,cm]
  by_cases hnl:n < rows.length
  ·simp only [decide_eq_true hnl,Bool.true_and]
   unfold fi jM
   rw [Iy hnl]
   dsimp only
   generalize rows[n]=ea
   cases ea with
   | nil=>simp [f8]
   | cons s ea=>simp [f8]
  ·simp [decide_eq_false hnl]
end
end Go.Proofs.YtpmdfoaadejmkaaGreatDoor
namespace Go.Proofs.YtpmdfoaadejmkaaGreatDoor
open Go.RowKit
attribute [local irreducible] AT br AX AO Av Kt b7 dm DA cA
theorem oH:∀{ss:List (List Int)} {gl:List Int} {k:Nat},ss.length≤k→f8 ss (gl.take k)=f8 ss gl
 | [],_,_,_=>rfl
 | _::_,[],k,_=>by rw [List.take_nil]
 | _::ss,_::gl,0,h=>by simp at h
 | s::ss,g::gl,k+1,h=>by rw [List.take_succ_cons,f8,f8,oH (by simpa using h)]
theorem D6 {α:Type} {q:α→Bool} {l:List α}:l.find? q=(l.findIdx? q).bind fun i=>l[i]?:=by
  cases h:l.findIdx? q with
  | none => rw [List.find?_eq_none.2]; · rfl
            intro x hx
            rw [List.findIdx?_eq_none_iff] at h
            rw [h x hx];decide
  | some i=>
    obtain ⟨hi,h1,h2⟩:=List.findIdx?_eq_some_iff_getElem.1 h
    rw [Option.bind_some,Iy hi,List.find?_eq_some_iff_getElem]
    exact ⟨h1,i,hi,rfl,fun j hj=>by simpa using h2 j hj⟩
theorem xz {α:Type} {q:α→Bool} {l:List α} {b:Nat} (hb:∀n,b.testBit n=(l[n]?).any q):
  (∀i,l.findIdx? q=some i→b.testBit i=true∧∀j,j < i→b.testBit j=false)∧(l.findIdx? q=none→b=0):=by
 constructor
 ·intro i h
  obtain ⟨hi,h1,h2⟩:=List.findIdx?_eq_some_iff_getElem.1 h
  refine ⟨by rw [hb,Iy hi];exact h1,fun j hj=>?_⟩
  rw [hb,Iy (by omega)]
  simpa using h2 j hj
 ·intro h
  refine ic fun n=>?_
  rw [hb,Nat.zero_testBit]
  cases hn:l[n]? with
  | none=>rfl
  | some x=>exact List.findIdx?_eq_none_iff.1 h x (Lw hn)
def dT (r:b8):List (List Int):=if r.In.isEmpty then [] else r.In++r.Ahead
def sR (rs:List b8) (n:Nat):Bool:=match rs[n]? with
 | some r=> !r.In.isEmpty
 | none=>false
theorem zW {rs:List b8} {fg bg:List Int} {n:Nat}:(cn (fi (rs.map b8.Back) (fun _=>true) bg) (rs.map b8.Back).length &&& cn (fi (rs.map dT) (sR rs) fg) (rs.map dT).length).testBit n=(rs[n]?).any fun r=> !r.In.isEmpty && (f8 (r.In++r.Ahead) fg && f8 r.Back bg):=by
 rw [Nat.testBit_and,cm,cm]
 simp only [Lu]
 unfold fi sR
 simp only [List.getElem?_map]
 cases h:rs[n]? with
 | none=>simp
 | some r=>
  have hn:=(Ln h).1
  simp only [Option.map_some,Option.any_some,decide_eq_true hn,Bool.true_and]
  unfold dT
  cases r.In.isEmpty <;> simp [Bool.and_comm]
def f9 (rs:List b8):Nat:=rs.foldl (fun m r=>max m (r.In.length+r.Ahead.length)) 0
def gj (rs:List b8):Nat:=rs.foldl (fun m r=>max m r.Back.length) 0
theorem nr {α:Type} {g:α→Nat}:∀{l:List α} {m:Nat},m≤l.foldl (fun m r=>max m (g r)) m∧∀r∈l,g r≤l.foldl (fun m r=>max m (g r)) m
 | [],m=>⟨Nat.le_refl _,fun r h=>by cases h⟩
 | x::l,m=>by
  have ih:=nr (g:=g) (l:=l) (m:=max m (g x))
  rw [List.foldl_cons]
  refine ⟨by have:=ih.1;omega,fun r hr=>?_⟩
  rcases List.mem_cons.1 hr with rfl | hr
  ·have:=ih.1;omega
  ·exact ih.2 r hr
theorem xi {ms:List Bool} {ig:Bool} {run:List aR} {i:Nat} {rs:List b8} {b:Nat}
  (hb:∀n,b.testBit n=(rs[n]?).any fun r=> !r.In.isEmpty && (f8 (r.In++r.Ahead) (((eM ms ig run i).take (f9 rs)).map (eP run)) && f8 r.Back (((ng ms ig run i).take (gj rs)).map (eP run)))) (n:Nat):b.testBit n=(rs[n]?).any (fb ms ig run i):=by
 rw [hb]
 cases h:rs[n]? with
 | none=>rfl
 | some r=>
  have hm:=Lw h
  have h1:(r.In++r.Ahead).length≤f9 rs:=by rw [List.length_append];exact (nr (g:=fun r:b8=>r.In.length+r.Ahead.length)).2 r hm
  have h2:r.Back.length≤gj rs:=(nr (g:=fun r:b8=>r.Back.length)).2 r hm
  rw [Option.any_some,Option.any_some]
  unfold fb
  rw [List.map_take,List.map_take,oH h1,oH h2]
end Go.Proofs.YtpmdfoaadejmkaaGreatDoor
namespace Go.Proofs.YtpmdfoaadejmkaaGreatDoor
open Go.RowKit Go.MapKept
def lc (d:TypeDesc) (m:Value→Option AV) (σ:Mem) (o:Obj):Prop:=
 ∃es clock,o= .map es clock∧(∀x∈es.toList,IsKey d x.key∧∃c,m x.key=some c∧VR σ c x.val)∧es.toList.Pairwise (fun x y=>x.key≠y.key)∧∀k c,m k=some c→∃x∈es.toList,x.key=k
def cR (d:TypeDesc) (m:Value→Option AV):AB:= .dep (lc d m) fun σ τ o hle ⟨es,clock,h1,h2,h3,h4⟩=>⟨es,clock,h1,fun x hx=>by
 obtain ⟨a,c,e,f⟩:=h2 x hx
 exact ⟨a,c,e,f.mono hle⟩,h3,h4⟩
theorem lc.none {d:TypeDesc} {m:Value→Option AV} {σ:Mem} {es:Array MapEntry} {clock:Nat} {k:Value} (h:lc d m σ (.map es clock)) (hk:IsKey d k) (hm:m k=none):Instr.findNow d k es.toList 0=some none:=by
 obtain ⟨es',clock',h1,h2,h3,h4⟩:=h
 cases h1
 rcases findNow_spec hk es.toList 0 (fun x hx=>(h2 x hx).1) with ⟨h5,_⟩ | ⟨j,e,h5,h6,h7⟩
 ·exact h5
 ·obtain ⟨_,c,h8,_⟩:=h2 e (Lw h6)
  rw [h7,hm] at h8
  cases h8
theorem lc.some {d:TypeDesc} {m:Value→Option AV} {σ:Mem} {es:Array MapEntry} {clock:Nat} {k:Value} {c:AV} (h:lc d m σ (.map es clock)) (hk:IsKey d k) (hm:m k=some c):∃(j:Nat) (e:MapEntry),Instr.findNow d k es.toList 0=some (some (j,e.val))∧es[j]?=some e∧e.key=k∧VR σ c e.val:=by
 obtain ⟨es',clock',h1,h2,h3,h4⟩:=h
 cases h1
 rcases findNow_spec hk es.toList 0 (fun x hx=>(h2 x hx).1) with ⟨_,h5⟩ | ⟨j,e,h5,h6,h7⟩
 ·obtain ⟨x,hx,hk'⟩:=h4 k c hm
  exact absurd hk' (h5 x hx)
 ·obtain ⟨_,c',h8,h9⟩:=h2 e (Lw h6)
  rw [h7,hm] at h8
  cases h8
  exact ⟨j,e,by simpa using h5,by simpa using h6,h7,h9⟩
section
variable {P:Program} {fr:bT} {B:Bs} {L:AL} {d:Option Tmp} {ty t:TypeId} {pos:String} {af:Array Edge} {g:Option (Nat×Bool)} {x y z:Operand} {u:AV}
theorem wT (kd:TypeDesc):AO P ⟨d,.makeMap t none,ty,pos,af,g⟩ fr B L (fun c L'=>∃b,c= .sc (.map (some b))∧L'=(b,cR kd fun _=>none)::L):=by
 intro σ ρ w hρ hw
 have hr:(execOp ρ ⟨d,.makeMap t none,ty,pos,af,g⟩).run P w= .ok (.value (.map (some w.heap.size))) (w.alloc (.map #[] 0)):=by
  simp [execOp,Instr.makeMap]
 unfold gT
 rw [hr]
 exact ⟨σ,_,_,Mem.le_refl _,.sc _,hw.alloc _ (cR kd fun _=>Option.none) ⟨#[],0,rfl,by simp,by simp,by simp⟩,_,rfl,rfl⟩
theorem tH (i:Nat) {b kt et:Nat} {kd:TypeDesc} {k:Value} {m m':Value→Option AV} (ht:P.underlying t=some (.map kt et)) (hkt:P.underlying kt=some kd) (hx:bh fr x=some (.sc (.map (some b)))) (hy:bh fr y=some (.sc k)) (hk:IsKey kd k) (hz:bh fr z=some u) (hL:L[i]?=some (b,cR kd m)) (h1:m' k=some u) (h2:∀q,q≠k→m' q=m q):
  AO P ⟨d,.mapUpdate t x y z,ty,pos,af,g⟩ fr B L (fun _ L'=>L'=eF L i (cR kd m')):=by
 intro σ ρ w hρ hw
 obtain ⟨o,ho,hM⟩:=hw.here _ (Lw hL)
 have hM':lc kd m σ o:=hM
 obtain ⟨es,clock,rfl,h3,h4,h5⟩:=hM'
 have hM':lc kd m σ (.map es clock):=hM
 have hv:=hρ z u hz
 have hlt:b < w.heap.size:=(Array.getElem?_eq_some_iff.1 ho).1
 have key:∃es' clock',(Instr.mapUpdate t (.map (some b)) k (ρ z)).run P w= .ok () (w.putObj b (.map es' clock'))∧lc kd m' σ (.map es' clock'):=by
  cases hm:m k with
  | none=>
   refine ⟨es.push ⟨k,ρ z,clock⟩,clock+1,?_,_,_,rfl,?_,?_,?_⟩
   ·simp [Instr.mapUpdate,run_underlying ht,MapKept.run_getObj_map ho,run_checkKey hkt hk,run_findKey hkt (hM'.none hk hm),MapKept.run_setObj_map _ ho,Result.andThen,World.putObj]
   ·intro e he
    rw [Array.toList_push,List.mem_append,List.mem_singleton] at he
    rcases he with he | rfl
    ·obtain ⟨h6,c,h7,h8⟩:=h3 e he
     exact ⟨h6,c,by rw [h2 _ (fun e1=>by rw [e1,hm] at h7;cases h7)];exact h7,h8⟩
    ·exact ⟨hk,u,h1,hv⟩
   ·rw [Array.toList_push,List.pairwise_append]
    refine ⟨h4,by simp,fun e he e' he'=>?_⟩
    rw [List.mem_singleton] at he'
    subst he'
    obtain ⟨_,c,h7,_⟩:=h3 e he
    exact fun e1=>by rw [e1,hm] at h7;cases h7
   ·intro q c hq
    by_cases e:q=k
    ·subst e
     exact ⟨_,by rw [Array.toList_push];exact List.mem_append.2 (Or.inr (List.mem_singleton.2 rfl)),rfl⟩
    ·rw [h2 q e] at hq
     obtain ⟨y,hy,hy'⟩:=h5 q c hq
     exact ⟨y,by rw [Array.toList_push];exact List.mem_append.2 (Or.inl hy),hy'⟩
  | some c=>
   obtain ⟨j,e,h6,h7,h8,h9⟩:=hM'.some hk hm
   have hdis:∀n e',es[n]?=some e'→¬j=n→e'.key≠k:=by
    intro n e' hn hne
    rw [←Array.getElem?_toList] at hn h7
    rw [←h8]
    rw [List.pairwise_iff_getElem] at h4
    obtain ⟨hj1,hj2⟩:=Ln h7
    obtain ⟨hn1,hn2⟩:=Ln hn
    rcases Nat.lt_or_gt_of_ne hne with hlt | hgt
    ·have:=h4 j n hj1 hn1 hlt
     rw [hj2,hn2] at this
     exact this.symm
    ·have:=h4 n j hn1 hj1 hgt
     rw [hj2,hn2] at this
     exact this
   refine ⟨es.modify j (fun e'=>{ e' with key:=k,val:=ρ z }),clock,?_,_,_,rfl,?_,?_,?_⟩
   ·simp [Instr.mapUpdate,run_underlying ht,MapKept.run_getObj_map ho,run_checkKey hkt hk,run_findKey hkt h6,h7,h8,run_keyThatStays hk,MapKept.run_setObj_map _ ho,Result.andThen,World.putObj]
   ·intro e' he'
    obtain ⟨n,hn⟩:=List.mem_iff_getElem?.1 he'
    rw [Array.getElem?_toList,Array.getElem?_modify] at hn
    by_cases e1:j=n
    ·subst e1
     rw [if_pos rfl,h7] at hn
     simp at hn
     subst hn
     exact ⟨hk,u,h1,hv⟩
    ·rw [if_neg e1] at hn
     obtain ⟨h10,c',h11,h12⟩:=h3 e' (Lw (by rw [Array.getElem?_toList];exact hn))
     exact ⟨h10,c',by rw [h2 _ (hdis n e' hn e1)];exact h11,h12⟩
   ·have hkeys:(es.modify j (fun e'=>{ e' with key:=k,val:=ρ z })).toList.map MapEntry.key=es.toList.map MapEntry.key:=by
     apply List.ext_getElem?
     intro n
     rw [List.getElem?_map,List.getElem?_map,Array.getElem?_toList,Array.getElem?_toList,Array.getElem?_modify]
     by_cases e1:j=n
     ·subst e1
      rw [if_pos rfl,h7]
      simp [h8]
     ·rw [if_neg e1]
    refine (List.pairwise_map (f:=MapEntry.key) (R:=fun a b:Value=>a≠b)).1 ?_
    rw [hkeys]
    exact List.pairwise_map.2 h4
   ·intro q c hq
    by_cases e1:q=k
    ·subst e1
     refine ⟨{ e with key:=q,val:=ρ z },List.mem_iff_getElem?.2 ⟨j,?_⟩,rfl⟩
     rw [Array.getElem?_toList,Array.getElem?_modify,if_pos rfl,h7]
     rfl
    ·rw [h2 q e1] at hq
     obtain ⟨y,hy,hy'⟩:=h5 q c hq
     obtain ⟨n,hn⟩:=List.mem_iff_getElem?.1 hy
     rw [Array.getElem?_toList] at hn
     refine ⟨y,List.mem_iff_getElem?.2 ⟨n,?_⟩,hy'⟩
     rw [Array.getElem?_toList,Array.getElem?_modify,if_neg,hn]
     intro e2
     subst e2
     rw [h7] at hn
     injection hn with hn
     subst hn
     exact e1 (hy'.symm.trans h8)
 obtain ⟨es',clock',hr,hq⟩:=key
 unfold gT
 rw [show (execOp ρ ⟨d,.mapUpdate t x y z,ty,pos,af,g⟩).run P w= .ok .skip (w.putObj b (.map es' clock')) by simp only [execOp,(hρ x _ hx).sc_inv,(hρ y _ hy).sc_inv,Sem.run_bind,Sem.run_pure,Result.andThen,hr]]
 exact ⟨σ,.sc undef,_,Mem.le_refl _,.sc _,hw.putAt (a':=cR kd m') hL (fun _=>trivial) (lN w b _) (World.putObj_heap_same hlt) hq,rfl⟩
theorem rM {w:World} {b kt et:Nat} {kd:TypeDesc} {k v0:Value} {m:Value→Option AV} {es:Array MapEntry} {clock:Nat} {σ:Mem} (ht:P.underlying t=some (.map kt et)) (hkt:P.underlying kt=some kd) (hk:IsKey kd k) (ho:w.heap[b]?=some (.map es clock)) (hM:lc kd m σ (.map es clock)) (hz:(zeroValue et).run P w= .ok v0 w) (ok:Bool):
  ∃v,(Instr.lookup t (.map (some b)) k ok).run P w= .ok (bif ok then .tuple #[v,.bool (m k).isSome] else v) w∧match m k with | some c=>VR σ c v | none=>v=v0:=by
 cases hm:m k with
 | none=>
  refine ⟨v0,?_,rfl⟩
  cases ok <;> simp [Instr.lookup,run_underlying ht,MapKept.run_getObj_map ho,run_checkKey hkt hk,run_findKey hkt (hM.none hk hm),Result.andThen,hz]
 | some c=>
  obtain ⟨j,e,h6,h7,h8,h9⟩:=hM.some hk hm
  refine ⟨e.val,?_,h9⟩
  cases ok <;> simp [Instr.lookup,run_underlying ht,MapKept.run_getObj_map ho,run_checkKey hkt hk,run_findKey hkt h6,Result.andThen]
theorem m8 (i:Nat) {b kt et:Nat} {kd:TypeDesc} {k v0:Value} {m:Value→Option AV} {c0:AV} (ht:P.underlying t=some (.map kt et)) (hkt:P.underlying kt=some kd) (hx:bh fr x=some (.sc (.map (some b)))) (hy:bh fr y=some (.sc k)) (hk:IsKey kd k) (hL:L[i]?=some (b,cR kd m)) (hz:∀w,(zeroValue et).run P w= .ok v0 w) (h0:∀σ,VR σ c0 v0):
  AO P ⟨d,.lookup t x y false,ty,pos,af,g⟩ fr B L (fun c L'=>c=(m k).getD c0∧L'=L):=by
 intro σ ρ w hρ hw
 obtain ⟨o,ho,hM⟩:=hw.here _ (Lw hL)
 have hM':lc kd m σ o:=hM
 obtain ⟨es,clock,rfl,_⟩:=hM'
 obtain ⟨v,hr,hv⟩:=rM (t:=t) ht hkt hk ho hM (hz w) false
 unfold gT
 rw [show (execOp ρ ⟨d,.lookup t x y false,ty,pos,af,g⟩).run P w= .ok (.value v) w by simp only [execOp,(hρ x _ hx).sc_inv,(hρ y _ hy).sc_inv,Sem.run_bind,Sem.run_pure,Result.andThen,hr];rfl]
 refine ⟨σ,(m k).getD c0,_,Mem.le_refl _,?_,hw,rfl,rfl⟩
 cases hm:m k with
 | none=>rw [hm] at hv;dsimp only at hv;subst hv;exact h0 σ
 | some c=>rw [hm] at hv;exact hv
theorem wS (i:Nat) {b kt et:Nat} {kd:TypeDesc} {k v0:Value} {m:Value→Option AV} {c0:AV} (ht:P.underlying t=some (.map kt et)) (hkt:P.underlying kt=some kd) (hx:bh fr x=some (.sc (.map (some b)))) (hy:bh fr y=some (.sc k)) (hk:IsKey kd k) (hL:L[i]?=some (b,cR kd m)) (hz:∀w,(zeroValue et).run P w= .ok v0 w) (h0:∀σ,VR σ c0 v0):
  AO P ⟨d,.lookup t x y true,ty,pos,af,g⟩ fr B L (fun c L'=>c= .tup [(m k).getD c0,.sc (.bool (m k).isSome)]∧L'=L):=by
 intro σ ρ w hρ hw
 obtain ⟨o,ho,hM⟩:=hw.here _ (Lw hL)
 have hM':lc kd m σ o:=hM
 obtain ⟨es,clock,rfl,_⟩:=hM'
 obtain ⟨v,hr,hv⟩:=rM (t:=t) ht hkt hk ho hM (hz w) true
 unfold gT
 rw [show (execOp ρ ⟨d,.lookup t x y true,ty,pos,af,g⟩).run P w= .ok (.value (.tuple #[v,.bool (m k).isSome])) w by simp only [execOp,(hρ x _ hx).sc_inv,(hρ y _ hy).sc_inv,Sem.run_bind,Sem.run_pure,Result.andThen,hr];rfl]
 refine ⟨σ,.tup [(m k).getD c0,.sc (.bool (m k).isSome)],_,Mem.le_refl _,?_,hw,rfl,rfl⟩
 have h1:VR σ ((m k).getD c0) v:=by
  cases hm:m k with
  | none=>rw [hm] at hv;dsimp only at hv;subst hv;exact h0 σ
  | some c=>rw [hm] at hv;exact hv
 have h2:cS σ [(m k).getD c0,.sc (.bool (m k).isSome)] [v,.bool (m k).isSome]:= .cons h1 (.cons (.sc _) .nil)
 exact .tup _ _ h2.1 h2.2
def lZ (P:Program) (e:Nat) (v:Value):Bool:=match P.info? e with | some i=>(match i.zero with | some z=>zE z v | none=>false) | none=>false
theorem gw {e:Nat} {v:Value} (h:lZ P e v=true) (w:World):(zeroValue e).run P w= .ok v w:=by
 unfold lZ at h
 split at h
 ·rename_i i hi
  split at h
  ·rename_i z hz
   rw [←s5 h]
   simp [zeroValue,typeInfo,hi,hz]
  ·cases h
 ·cases h
end
section
variable {P:Program} {r:Option Nat} {ops:Array Oper} {Q:Exit→Act→World→Prop} {nt:Nat} {D:List Deferred} {fr:bT} {B:Bs} {L:AL} {rest:List Oper} {d:Nat} {ty t:TypeId} {pos:String} {af:Array Edge} {x y z:Operand} {u:AV}
theorem eX (kd:TypeDesc) (h:∀b,br P r ops Q nt D rest ((d,.sc (.map (some b)))::fr) B ((b,cR kd fun _=>none)::L)) (hd:Nat.ble nt d=false:=by rfl):br P r ops Q nt D (⟨some d,.makeMap t none,ty,pos,af,none⟩::rest) fr B L:=
 cw hd rfl (wT kd) fun c L' ⟨b,h1,h2⟩=>by subst h1;subst h2;exact h b
theorem dD (i:Nat) (m':Value→Option AV) {b kt et:Nat} {kd:TypeDesc} {k:Value} {m:Value→Option AV} (ht:P.underlying t=some (.map kt et)) (hkt:P.underlying kt=some kd) (hx:bh fr x=some (.sc (.map (some b)))) (hy:bh fr y=some (.sc k)) (hk:IsKey kd k) (hz:bh fr z=some u) (hL:L[i]?=some (b,cR kd m)) (h1:m' k=some u) (h2:∀q,q≠k→m' q=m q)
  (h:br P r ops Q nt D rest fr B (eF L i (cR kd m'))):br P r ops Q nt D (⟨none,.mapUpdate t x y z,ty,pos,af,none⟩::rest) fr B L:=
 iV rfl (tH i ht hkt hx hy hk hz hL h1 h2) fun c L' h3=>by subst h3;exact h
theorem io (i:Nat) (v0:Value) {b kt et:Nat} {kd:TypeDesc} {k:Value} {m:Value→Option AV} (ht:P.underlying t=some (.map kt et)) (hkt:P.underlying kt=some kd) (hx:bh fr x=some (.sc (.map (some b)))) (hy:bh fr y=some (.sc k)) (hk:IsKey kd k) (hL:L[i]?=some (b,cR kd m)) (hz:lZ P et v0=true) (hd:Nat.ble nt d=false)
  (h:br P r ops Q nt D rest ((d,(m k).getD (.sc v0))::fr) B L):br P r ops Q nt D (⟨some d,.lookup t x y false,ty,pos,af,none⟩::rest) fr B L:=
 cw hd rfl (m8 i ht hkt hx hy hk hL (gw hz) fun _=> .sc _) fun c L' ⟨h1,h2⟩=>by subst h1;subst h2;exact h
theorem gn (i:Nat) (v0:Value) {b kt et:Nat} {kd:TypeDesc} {k:Value} {m:Value→Option AV} (ht:P.underlying t=some (.map kt et)) (hkt:P.underlying kt=some kd) (hx:bh fr x=some (.sc (.map (some b)))) (hy:bh fr y=some (.sc k)) (hk:IsKey kd k) (hL:L[i]?=some (b,cR kd m)) (hz:lZ P et v0=true) (hd:Nat.ble nt d=false)
  (h:br P r ops Q nt D rest ((d,.tup [(m k).getD (.sc v0),.sc (.bool (m k).isSome)])::fr) B L):br P r ops Q nt D (⟨some d,.lookup t x y true,ty,pos,af,none⟩::rest) fr B L:=
 cw hd rfl (wS i ht hkt hx hy hk hL (gw hz) fun _=> .sc _) fun c L' ⟨h1,h2⟩=>by subst h1;subst h2;exact h
end
end Go.Proofs.YtpmdfoaadejmkaaGreatDoor
namespace Go.Proofs.YtpmdfoaadejmkaaGreatDoor
open Go.RowKit
section
variable {P:Program} {tt:TT} {r:Option Nat} {ops:Array Oper} {Q:Exit→Act→World→Prop} {nt:Nat} {D:List Deferred} {fr:bT} {B:Bs} {L:AL} {rest:List Oper} {d:Nat} {ty t:TypeId} {pos:String} {af:Array Edge} {x y z:Operand} {u:AV}
theorem iz (ok:eu P tt) (n:Nat) {e sz by_:Nat} {k k':IntKind} {a b:Int} {zs:List Value} (ht:kr tt t=some (e,sz,by_)) (hz:zI tt e=some zs) (h1:zs.all (·.oneCell')=true) (hx:bh fr x=some (.sc (.int k a))) (hy:bh fr y=some (.sc (.int k' b))) (ha:a=(n:Int)) (hb:b=(n:Int)) (hby:by_ * n≤281474976710656) (h63:n≤9223372036854775807) (hd:Nat.ble nt d=false)
  (h:∀b,br P r ops Q nt D rest ((d,.sc (.slice (some ⟨b,0,none⟩) n n))::fr) B ((b,.box ((List.replicate n (zs.map .sc)).flatten) e)::L)):br P r ops Q nt D (⟨some d,.makeSlice t x y,ty,pos,af,none⟩::rest) fr B L:=
 cw hd rfl (Fd (bo ok ht).1 (f5 ok hz) h1 (bo ok ht).2 hx hy ha hb hby h63) fun c L' ⟨b,h1,h2⟩=>by subst h1;subst h2;exact h b
theorem b9 {f:FuncId} {args:Array Operand} {ts:Array TypeId} {cs ds:List AV} {Post:AV→AL→Prop} [bD P f] (Lc Lf:AL) (hc:AC P f ds Lc Post) (hv:dy fr args.toList=some cs) (hi:gN cs=some ds) (hL:L.Perm (Lc++Lf)) (hd:Nat.ble nt d=false) (h:∀c L1,Post c L1→br P r ops Q nt D rest ((d,c)::fr) B (L1++Lf)):
  br P r ops Q nt D (⟨some d,.call ⟨.value (.func f),args,ts⟩,ty,pos,af,none⟩::rest) fr B L:=by
 have hc':=hc
 rw [←i4 hi] at hc'
 refine cw hd rfl (pU Lc Lf hv (fun σ vs h=>h.im) hL hc') fun c L' hh=>?_
 obtain ⟨L1,h1,h2⟩:=hh
 subst h2
 exact h c L1 h1
theorem za {σ0:Mem} {l:Nat} {args:Array Operand} {ts:Array TypeId} {cs ds:List AV} {Post:AV→AL→Prop} (Lc Lf:AL) (hB:σ0.le B.σ) (hc:AY P σ0 l ds Lc Post) (hz:bh fr z=some (.sc (.func (.yield l) #[] #[]))) (hv:dy fr args.toList=some cs) (hi:gN cs=some ds) (hL:L.Perm (Lc++Lf)) (hn:Oper.noDefer ⟨some d,.call ⟨.value z,args,ts⟩,ty,pos,af,none⟩=true) (hd:Nat.ble nt d=false) (h:∀c L1,Post c L1→br P r ops Q nt D rest ((d,c)::fr) B (L1++Lf)):
  br P r ops Q nt D (⟨some d,.call ⟨.value z,args,ts⟩,ty,pos,af,none⟩::rest) fr B L:=by
 have hc':=hc
 rw [←i4 hi] at hc'
 refine cw hd hn (Ct hB Lc Lf hz hv (fun σ vs h=>h.im) hL hc') fun c L' hh=>?_
 obtain ⟨L1,h1,h2⟩:=hh
 subst h2
 exact h c L1 h1
theorem dc {e:Exit} {L':AL} (hs:L'.Sublist L) (h:AX P e Q nt D fr B L'):AX P e Q nt D fr B L:=fun σ a w ha hw=>h σ a w ha (hw.sublist hs)
end
theorem zC {σ:Mem} {cs cs':List AV} {vs:List Value} (hl:cs.length=cs'.length) (h:∀(i:Nat) c c',cs[i]?=some c→cs'[i]?=some c'→∀v,VR σ c v→VR σ c' v) (hv:cS σ cs vs):cS σ cs' vs:=by
 refine ⟨hl.symm.trans hv.1,fun i c' u hc hu=>?_⟩
 have hi:i < cs.length:=by rw [hl];exact (Ln hc).1
 exact h i _ c' (Iy hi) hc _ (hv.2 i _ u (Iy hi) hu)
theorem bC {nt:Nat} {D:List Deferred} {B:Bs} {fr:bT} {L:AL} (i:Nat) {b:Nat} {cs cs':List AV} {e:TypeId} (hL:L[i]?=some (b,.box cs e)) (h:∀σ vs,cS σ cs vs→cS σ cs' vs):jn nt D B fr L fr (eF L i (.box cs' e)):=by
 intro σ a w ha hw0
 have hw:=hw0.perm (dY hL)
 obtain ⟨o,ho,vs,rfl,hvs,h1⟩:=hw.here _ (List.mem_cons_self ..)
 refine ⟨σ,ha,cL.perm (L:=(b,.box cs' e)::L.eraseIdx i) ?_ (jJ _ hL)⟩
 refine ⟨hw.os,hw.tape,hw.output,hw.size,hw.old,fun p hp=>?_,fun p hp=>?_,by simpa using hw.apart,hw.froz,fun p hp off hm=>?_,hw.grow,hw.same,hw.cold⟩
 ·rcases List.mem_cons.1 hp with rfl | hp'
  ·exact ⟨_,ho,vs,rfl,h σ vs hvs,h1⟩
  ·exact hw.here p (Ls _ hp')
 ·rcases List.mem_cons.1 hp with rfl | hp'
  ·exact hw.mine (b,.box cs e) (List.mem_cons_self ..)
  ·exact hw.mine p (Ls _ hp')
 ·rcases List.mem_cons.1 hp with rfl | hp'
  ·exact hw.free (b,.box cs e) (List.mem_cons_self ..) off trivial
  ·exact hw.free p (Ls _ hp') off hm
theorem jh {cs:List AV} {k:Nat} {c:AV}:fx cs k [c]=cs.set k c:=rfl
end Go.Proofs.YtpmdfoaadejmkaaGreatDoor
namespace Go.Proofs.YtpmdfoaadejmkaaGreatDoor
open Go.RowKit
def lj (u:AV):Option (FuncId×List AV):=match u with
 | .fn f cs=>some (f,cs)
 | .sc (.func (.func f) a b)=>match a.toList with
  | []=>match b.toList with
   | []=>some (f,[])
   | _=>none
  | _=>none
 | _=>none
theorem Db {u:AV} {f:FuncId} {cs:List AV} (h:lj u=some (f,cs)) {σ:Mem} {v:Value} (hv:VR σ u v):VR σ (.fn f cs) v:=by
 unfold lj at h
 split at h
 ·cases h;exact hv
 ·rename_i a b
  split at h
  ·rename_i ha
   split at h
   ·rename_i hb
    cases h
    have e1:a=#[]:=by apply Array.toList_inj.1;simpa using ha
    have e2:b=#[]:=by apply Array.toList_inj.1;simpa using hb
    subst e1;subst e2
    rw [hv.sc_inv]
    exact .fn f [] [] rfl (fun i c u h=>by simp at h)
   ·cases h
  ·cases h
 ·cases h
section
variable {P:Program} {r:Option Nat} {ops:Array Oper} {Q:Exit→Act→World→Prop} {nt:Nat} {D:List Deferred} {fr:bT} {B:Bs} {L:AL} {rest:List Oper} {d:Nat} {ty t:TypeId} {pos:String} {af:Array Edge} {x y z:Operand} {u:AV} {g:Option (Nat×Bool)}
theorem uY (Lc Lf:AL) {d:Option Tmp} {f:FuncId} {args:Array Operand} {ts:Array TypeId} {cs caps:List AV} {Post:AV→AL→Prop} [hf:bD P f] (hx:bh fr x=some u) (hu:lj u=some (f,caps)) (hv:dy fr args.toList=some cs) (hL:L.Perm (Lc++Lf)) (h:AC P f (cs++caps) Lc Post):
  AO P ⟨d,.call ⟨.value x,args,ts⟩,ty,pos,af,g⟩ fr B L (fun c L'=>∃L1,Post c L1∧L'=L1++Lf):=by
 intro σ ρ w hρ hw0
 have hw:=hw0.perm hL
 obtain ⟨ws,hw1,hw2⟩:=(Db hu (hρ x _ hx)).fn_inv
 have hvs:=ey hρ _ _ hv
 have e:args.map ρ=(args.toList.map ρ).toArray:=by apply Array.toList_inj.1;simp
 unfold gT
 rw [show (execOp ρ ⟨d,.call ⟨.value x,args,ts⟩,ty,pos,af,g⟩).run P w= .ok (.enter f (args.toList.map ρ++ws).toArray) w by
  simp [execOp,resolve,hw1,Deferred.ofValue,invoke,hf.enters]]
 have hall:cS σ (cs++caps) (args.toList.map ρ++ws):=by
  refine ⟨by rw [List.length_append,List.length_append,hvs.1,hw2.1],fun i c u hc hu=>?_⟩
  have hq:=hvs.1
  by_cases hi:i < cs.length
  ·rw [List.getElem?_append_left hi] at hc
   rw [List.getElem?_append_left (by omega)] at hu
   exact hvs.2 i c u hc hu
  ·rw [List.getElem?_append_right (by omega)] at hc
   rw [List.getElem?_append_right (by omega),←hq] at hu
   exact hw2.2 _ c u hc hu
 refine (h σ w _ hall hw.enter).mono fun en w' ⟨v,τ,c,L',h1,h2,h3,h4⟩=>⟨v,h1,τ,c,L'++Lf,h3.grow,h2,hw.leave h3,L',h4,rfl⟩
theorem dH {f:FuncId} {args:Array Operand} {ts:Array TypeId} {cs caps:List AV} {Post:AV→AL→Prop} [bD P f] (Lc Lf:AL) (hc:AC P f (cs++caps) Lc Post) (hx:bh fr x=some u) (hu:lj u=some (f,caps)) (hv:dy fr args.toList=some cs) (hL:L.Perm (Lc++Lf)) (hn:Oper.noDefer ⟨some d,.call ⟨.value x,args,ts⟩,ty,pos,af,none⟩=true) (hd:Nat.ble nt d=false) (h:∀c L1,Post c L1→br P r ops Q nt D rest ((d,c)::fr) B (L1++Lf)):
  br P r ops Q nt D (⟨some d,.call ⟨.value x,args,ts⟩,ty,pos,af,none⟩::rest) fr B L:=
 cw hd hn (uY Lc Lf hx hu hv hL hc) fun c L' ⟨L1,h1,h2⟩=>by subst h2;exact h c L1 h1
end
theorem jz.shadow2 {σ:Mem} {nt:Nat} {D:List Deferred} {fr:bT} {a:Act} {t:Nat} {v:AV} (h:jz σ nt D fr a) (hl:VR σ v (a.tmps.getD t undef)):jz σ nt D ((t,v)::fr) a:=
 ⟨h.size,h.defers,fun t' v' hl'=>by
  rw [bY] at hl'
  by_cases e:t=t'
  ·subst e;simp only [if_true,Option.some.injEq] at hl';subst hl';exact hl
  ·rw [if_neg e] at hl';exact h.look t' v' hl'⟩
theorem dz {P:Program} {r:Option Nat} {ops:Array Oper} {Q:Exit→Act→World→Prop} {nt:Nat} {D:List Deferred} {fr fr0:bT} {B:Bs} {L:AL} {rest:List Oper} {t:Nat} (ks:List Nat) (C:Prop) [Decidable C] (hks:gP fr ks=some fr0) (h:∀Q',(∀fr' b,gP fr' ks=some fr0→ca fr' t=some (.sc (.bool b))→(b=true↔C)→AX P .normal Q' nt D fr' B L)→br P r ops Q' nt D rest fr B L) (k:AX P .normal Q nt D ((t,.sc (.bool (decide C)))::fr0) B L):br P r ops Q nt D rest fr B L:=by
 refine h Q fun fr' b hk hb hC=>fun σ a w ha hw=>k σ a w ?_ hw
 have hb':b=decide C:=by
  by_cases hc:C
  ·rw [decide_eq_true hc,hC.2 hc]
  ·rw [decide_eq_false hc]
   cases b with
   | true=>exact absurd (hC.1 rfl) hc
   | false=>rfl
 subst hb'
 exact (ha.weak (eg _ hk)).shadow2 (ha.look t _ hb)
theorem AC.frame {P:Program} {f:FuncId} {args:List AV} {L Lf:AL} {Post:AV→AL→Prop} (h:AC P f args L Post):AC P f args (L++Lf) fun c L'=>∃L1,Post c L1∧L'=L1++Lf:=by
 intro σ w vs hv hs
 refine (h σ w vs hv hs.enter).mono fun en w' ⟨v,τ,c,L',h1,h2,h3,h4⟩=>⟨v,τ,c,L'++Lf,h1,h2,hs.leave h3,L',h4,rfl⟩
theorem Hd.perm {P:Program} {σ0:Mem} {f:FuncId} {args:List AV} {L L2:AL} {Post:AV→AL→Prop} (h:Hd P σ0 f args L Post) (hp:L2.Perm L):Hd P σ0 f args L2 Post:=by
 intro σ w vs hle hv hs
 refine (h σ w vs hle hv ?_).mono fun en w' ⟨v,τ,c,L',h1,h2,h3,h4⟩=>⟨v,τ,c,L',h1,h2,?_,h4⟩
 ·have:=hs.perm hp
  exact ⟨this.os,this.tape,this.output,this.size,fun k h1 h2=>this.old k h1 (fun h3=>h2 ((hp.map _).mem_iff.1 h3)),this.here,fun p hp'=>(this.mine p hp').imp id (fun h3=>(hp.map _).mem_iff.1 h3),this.apart,this.froz,this.free,this.grow,fun b h1 h2=>this.same b h1 (fun h3=>h2 ((hp.map _).mem_iff.1 h3)),fun b off u h1 h2=>this.cold b off u (h1.imp id (fun h3=>(hp.map _).mem_iff.2 h3)) h2⟩
 ·exact ⟨h3.os,h3.tape,h3.output,h3.size,fun k h1 h2=>h3.old k h1 (fun h3=>h2 ((hp.map _).mem_iff.2 h3)),h3.here,fun p hp'=>(h3.mine p hp').imp id (fun h3=>(hp.map _).mem_iff.2 h3),h3.apart,h3.froz,h3.free,h3.grow,fun b h1 h2=>h3.same b h1 (fun h3=>h2 ((hp.map _).mem_iff.2 h3)),fun b off u h1 h2=>h3.cold b off u (h1.imp id (fun h3=>(hp.map _).mem_iff.1 h3)) h2⟩
theorem bP {nt:Nat} {D:List Deferred} {B:Bs} {fr:bT} {L L':AL} (h:L'.Sublist L):jn nt D B fr L fr L':=fun σ _ _ ha hw=>⟨σ,ha,hw.sublist h⟩
section
variable {P:Program} {l:List Oper} {fr:bT} {fin:iR} {sk:m6} {acc:bT} {L:AL} {k:Nat} {dd:Option Tmp} {ty:TypeId} {pos:String} {af:Array Edge} {g:Option (Nat×Bool)} {x:Operand} {u:AV}
theorem kG {f:FuncId} {args:Array Operand} {ts:Array TypeId} {cs ds:List AV} {Post:AV→AL→Prop} [bD P f] (Lc Lf:AL) (hc:AC P f ds Lc Post) (hv:dy (cx l.toArray acc fr af.toList) args.toList=some cs) (hi:gN cs=some ds) (hL:L.Perm (Lc++Lf)) (hg:it ⟨dd,.call ⟨.value (.func f),args,ts⟩,ty,pos,af,g⟩ acc) (h:∀c L1,Post c L1→DA P l fr fin sk ((k,c)::acc) (L1++Lf)):
  cA P l fr fin k .e ⟨dd,.call ⟨.value (.func f),args,ts⟩,ty,pos,af,g⟩ sk acc L:=by
 have hc':=hc
 rw [←i4 hi] at hc'
 exact kH hg (fun B=>pU Lc Lf hv (fun σ vs h=>h.im) hL hc') fun c L' ⟨L1,h1,h2⟩=>by subst h2;exact h c L1 h1
theorem yH {f:FuncId} {args:Array Operand} {ts:Array TypeId} {cs ds:List AV} {Post:AV→AL→Prop} [bD P f] (Lc Lf:AL) (hc:AC P f ds Lc Post) (hv:dy (cx l.toArray acc fr af.toList) args.toList=some cs) (hi:gN cs=some ds) (hL:L.Perm (Lc++Lf)) (hg:it ⟨dd,.call ⟨.value (.func f),args,ts⟩,ty,pos,af,g⟩ acc) (hK:∀c L1,Post c L1→eC fin.gs L→eC fin.gs (L1++Lf)) (h:∀c L1,Post c L1→DA P l fr fin sk ((k,c)::acc) (L1++Lf)):
  cA P l fr fin k .f ⟨dd,.call ⟨.value (.func f),args,ts⟩,ty,pos,af,g⟩ sk acc L:=by
 have hc':=hc
 rw [←i4 hi] at hc'
 exact tN (fun c L' ⟨L1,h1,h2⟩ hk=>by subst h2;exact hK c L1 h1 hk) hg (fun B=>pU Lc Lf hv (fun σ vs h=>h.im) hL hc') fun c L' ⟨L1,h1,h2⟩=>by subst h2;exact h c L1 h1
end
theorem c5.any {P:Program} {f:FuncId} {args:List AV} {u:AV} (h:c5 P f args u) (L:AL):AC P f args L fun c L'=>c=u∧∃L1,L'=L1++L:=(AC.frame (Lf:=L) h).mono fun c L' ⟨L1,h1,h2⟩=>⟨h1,L1,h2⟩
end Go.Proofs.YtpmdfoaadejmkaaGreatDoor
