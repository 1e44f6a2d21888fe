/-
  The plan: which lookups are done, and for which forms.
-/
import Derived.Test.YtamjlkdanllgjaaGreatDoorM24
import Derived.Test.YtamjlkdanllgjaaGreatDoorM22
import Derived.Test.YtamjlkdanllgjaaGreatDoorM14
namespace Go.Proofs.YtamjlkdanllgjaaGreatDoor
open Go.RowKit
attribute [local irreducible] AT bz AX AO Av Kt aZ cY DA cu
set_option maxRecDepth 8000
theorem rq {want:List ByteArray} {i:Nat} {z:ByteArray} (h:want[i]?=some z) (s:ByteArray):nj (want.take (i+1)) s=(nj (want.take i) s || decide (z=s)):=by
 unfold nj
 rw [List.take_add_one,h,List.any_append]
 simp
def ou (want:List ByteArray):Value→Option AV
 | .string s=>if nj want s then some (cw true) else none
 | _=>none
theorem DO (want:List ByteArray) (s:ByteArray):(ou want (.string s)).getD (.sc (.bool false))=cw (nj want s):=by
 show ((if nj want s then some (cw true) else none:Option AV)).getD (.sc (.bool false))=_
 cases nj want s <;> rfl
def r5 (want:List ByteArray) (t:bQ):List (Int×Int):=if nj want t.Name then t.Lookups.map fun l=>(dy t.Name,l) else []
def bS (want:List ByteArray) (fs:List bQ):List (Int×Int):=(fs.map (r5 want)).flatten
def kP (ps:List (Int×Int)) (l:Int):Bool:=ps.any fun p=>decide (p.2=l)
def ec (ps:List (Int×Int)) (k l:Int):Bool:=ps.any fun p=>decide (p=(k,l))
def kc (ps:List (Int×Int)) (l:Int):List Bool:=[ec ps 0 l,ec ps 1 l,ec ps 2 l,ec ps 3 l,ec ps 4 l]
def iQ (ps:List (Int×Int)) (l:Int):List AV:=[cw (ec ps 0 l),cw (ec ps 1 l),cw (ec ps 2 l),cw (ec ps 3 l),cw (ec ps 4 l)]
def qH (ps:List (Int×Int)):Value→Option AV
 | .int .i64 l=>if kP ps l then some (.agg (iQ ps l)) else none
 | _=>none
def GW:List (Int×Int)→List Int
 | []=>[]
 | p::r=>if kP r p.2 then GW r else GW r++[p.2]
def nS (ps:List (Int×Int)):List Int:=GW ps.reverse
theorem BD (ps:List (Int×Int)) (l:Int):kP ps.reverse l=kP ps l:=by unfold kP;rw [List.any_reverse]
theorem Bb (ps:List (Int×Int)) (p:Int×Int):nS (ps++[p])=if kP ps p.2 then nS ps else nS ps++[p.2]:=by
 unfold nS
 rw [List.reverse_append,List.reverse_singleton,List.singleton_append,GW,BD]
theorem xd:∀ps:List (Int×Int),(GW ps).length≤ps.length
 | []=>Nat.le_refl _
 | p::r=>by
  have:=xd r
  unfold GW
  split
  ·simp;omega
  ·simp;omega
theorem se (ps:List (Int×Int)):(nS ps).length≤ps.length:=by have:=xd ps.reverse;rwa [List.length_reverse] at this
theorem ui {ps:List (Int×Int)} {l:Int} (h:kP ps l=false) (k:Int):ec ps k l=false:=by
 unfold kP at h
 unfold ec
 rw [List.any_eq_false] at h ⊢
 intro p hp he
 have:=Mz he
 subst this
 exact h _ hp (by simp)
theorem wt {ps:List (Int×Int)} {l:Int} (h:kP ps l=false):iQ ps l=[cw false,cw false,cw false,cw false,cw false]:=by
 unfold iQ
 simp only [ui h]
theorem o7 (ps:List (Int×Int)) (p:Int×Int) (k l:Int):ec (ps++[p]) k l=(ec ps k l || decide (p=(k,l))):=by
 unfold ec
 rw [List.any_append]
 simp
theorem wu (ps:List (Int×Int)) (m:Nat) (hm:m≤4) (l:Int):(iQ ps l).set m (cw true)=iQ (ps++[((m:Int),l)]) l:=by
 have:m=0∨m=1∨m=2∨m=3∨m=4:=by omega
 unfold iQ
 simp only [o7]
 rcases this with rfl | rfl | rfl | rfl | rfl <;> simp
theorem uG (ps:List (Int×Int)) {m:Int} {l l':Int} (h:l'≠l):iQ (ps++[(m,l)]) l'=iQ ps l':=by
 unfold iQ
 simp only [o7]
 have:∀k:Int,decide ((m,l)=(k,l'))=false:=fun k=>decide_eq_false fun e=>h (by injection e with _ e;exact e.symm)
 simp only [this,Bool.or_false]
theorem rp (ps:List (Int×Int)) (p:Int×Int) (l:Int):kP (ps++[p]) l=(kP ps l || decide (p.2=l)):=by
 unfold kP
 rw [List.any_append]
 simp
theorem Cg (ps:List (Int×Int)) (m l:Int):qH (ps++[(m,l)]) (.int .i64 l)=some (.agg (iQ (ps++[(m,l)]) l)):=by
 show (if kP (ps++[(m,l)]) l=true then some (AV.agg (iQ (ps++[(m,l)]) l)) else none)=_
 rw [rp]
 simp
theorem za (ps:List (Int×Int)) (m l:Int) (q:Value) (h:q≠ .int .i64 l):qH (ps++[(m,l)]) q=qH ps q:=by
 unfold qH
 split
 ·rename_i l'
  have hne:l'≠l:=fun e=>h (by rw [e])
  rw [rp,decide_eq_false (show ¬(m,l).2=l' from fun e=>hne e.symm),Bool.or_false,uG ps hne]
 ·rfl
theorem Cf (ps:List (Int×Int)) (l:Int):(qH ps (.int .i64 l)).getD (.agg [cw false,cw false,cw false,cw false,cw false])= .agg (iQ ps l)∧(qH ps (.int .i64 l)).isSome=kP ps l:=by
 unfold qH
 cases h:kP ps l with
 | true=>simp [h]
 | false=>simp [h,wt h]
def wQ (q:Option (Nat×Nat×List AV)) (ls:List Int):Prop:=match q with
 | none=>ls=[]
 | some (_,cap,js)=>ls.length+js.length=cap∧cap≤maxLen
def sq (q:Option (Nat×Nat×List AV)) (ls:List Int):AV:=match q with
 | none=> .sc (.slice none 0 0)
 | some (b,cap,_)=> .sc (.slice (some ⟨b,0,none⟩) ls.length cap)
def EQ (q:Option (Nat×Nat×List AV)) (ls:List Int):AL:=match q with
 | none=>[]
 | some (b,_,js)=>[(b,.box (ls.map aF++js) 3)]
def ct (want:List ByteArray) (f:aS):List Int:=f6 (nS (bS want f.Features))
def eX (want:List ByteArray) (f:aS):List (List Int):=(ct want f).map fun l=>eG (kc (bS want f.Features) l) 5
abbrev FI:TypeDesc:= .string
theorem uV (σ:bW):VR σ (.agg [cw false,cw false,cw false,cw false,cw false]) (.agg #[.bool false,.bool false,.bool false,.bool false,.bool false]):=
 .agg _ [.bool false,.bool false,.bool false,.bool false,.bool false] rfl (cR.cons (.sc _) (cR.cons (.sc _) (cR.cons (.sc _) (cR.cons (.sc _) (cR.cons (.sc _) cR.nil))))).2 (by intro u hu;simp at hu;rw [hu];rfl)
set_option maxHeartbeats 16000000 in
theorem Ct (f:aS) (want:List ByteArray) (hF:f.Features.length≤1000000) (hp:(bS want f.Features).length≤1000000):bD Tryz.prog 10 [cD f,.imm 1 (lA want)] (.tup [.imm 1 (aT (ct want f)),.imm 1 (bj (eX want f))]):=by
 refine aI Tryz.func10 rfl Tryz.ntmps10 rfl fun B=>?_
 refine cF 1 rfl rfl fun hlen=>?_
 have hsl:=uO want
 rw [hsl] at hlen
 repeat' (first|refine ae ?_|refine a6 ?_|refine a8 ?_|refine aa ?_|refine LR a7 LL ?_|refine bi ?_|fail)
 refine dJ FI fun ab=>?_
 repeat' (first|refine ae ?_|refine a6 ?_|refine ar ?_|refine a8 ?_|refine aa ?_|refine LR a7 LL ?_)
 refine aN [2,4,5,6,20,21] (α:=Nat) (fun i=>[(22,aF i)]) (fun i=>i≤want.length) (fun i=>[(ab,bV FI (ou (want.take i)))]) (fun i=>want.length - i) 0 rfl ⟨rfl,trivial⟩ (Nat.zero_le _) (fun σ w h=>?_) fun i hi=>?_
 ·rw [show ou (want.take 0)=fun _=>none from funext fun v=>by cases v <;> rfl]
  exact h
 try dsimp only [Mt,Ms,Mr,Mn]
 repeat' (first|refine ae ?_|refine a6 ?_|refine a8 ?_|refine aa ?_|refine LR a7 LL ?_)
 refine aB rfl (fun h=>?_) (fun h=>?_)
 ·have hil:i < want.length:=by have:=Mz h;omega
  obtain ⟨z,hz⟩:∃z,want[i]?=some z:=⟨_,Ia hil⟩
  have hzg:=Da hz
  clear h
  repeat' (first|refine ae ?_|refine a6 ?_|refine ar ?_|refine aq ?_|refine a8 ?_|refine aa ?_|refine LR a7 LL ?_|(apply aL;first|refine aK a7 ?_|refine aH a7 ?_)|fail)
  refine cZ 0 (ou (want.take (i+1))) Tryz.underlying86 Tryz.underlying9 rfl rfl trivial rfl rfl ?_ (fun q hq=>?_) ?_
  ·show (if nj (want.take (i+1)) z then some (cw true) else none)=_
   rw [rq hz]
   simp
  ·unfold ou
   split
   ·rename_i s
    rw [rq hz,decide_eq_false (show ¬z=s from fun e=>hq (by rw [e])),Bool.or_false]
   ·rfl
  repeat' (first|refine a6 ?_|refine a8 ?_|refine aP ?_|refine aa ?_|refine LR a7 LL ?_|(apply aY;refine aX ?_)|fail)
  exact aE (i+1) rfl ⟨by rw [Mw];rfl,trivial⟩ hil (by omega) (fun _ _ h=>h)
 have hil:i=want.length:=by have:=My h;omega
 subst hil
 rw [List.take_length]
 clear h
 repeat' (first|refine ae ?_|refine a6 ?_|refine aO ?_|refine a8 ?_|refine av ?_|refine aC ?_|refine aA ?_)
 refine dJ (.int .i64) fun nb=>?_
 repeat' (first|refine ae ?_|refine a6 ?_|refine ar ?_|refine a8 ?_|refine aa ?_|refine LR a7 LL ?_)
 have hfl:(f.Features.map bJ).length=f.Features.length:=Mv ..
 have hpre:∀i,(bS want (f.Features.take i)).length≤1000000:=fun i=>by
  have:bS want f.Features=bS want (f.Features.take i)++bS want (f.Features.drop i):=by
   unfold bS
   rw [←List.flatten_append,←List.map_append,List.take_append_drop]
  rw [this,List.length_append] at hp
  omega
 refine aN [5,6,9,31,32] (α:=Nat×Option (Nat×Nat×List AV)) (fun s=>[(4,sq s.2 (nS (bS want (f.Features.take s.1)))),(33,aF s.1)]) (fun s=>s.1≤f.Features.length∧wQ s.2 (nS (bS want (f.Features.take s.1)))) (fun s=>[(nb,bV (.int .i64) (qH (bS want (f.Features.take s.1)))),(ab,bV FI (ou want))]++EQ s.2 (nS (bS want (f.Features.take s.1)))) (fun s=>f.Features.length - s.1) (0,none) rfl ⟨rfl,rfl,trivial⟩ ⟨Nat.zero_le _,rfl⟩ (fun σ w h=>?_) ?_
 ·show cK B σ ([(nb,bV (.int .i64) (qH [])),(ab,bV FI (ou want))]++[]) w
  rw [show qH []=fun _=>none from funext fun v=>by
   unfold qH
   split <;> rfl]
  exact h
 rintro ⟨i,q⟩ ⟨hi,hq⟩
 dsimp only at hi hq ⊢
 try dsimp only [Mt,Ms,Mr,Mn]
 repeat' (first|refine ae ?_|refine a6 ?_|refine a8 ?_|refine aa ?_|refine LR a7 LL ?_)
 refine aB rfl (fun h=>?_) (fun h=>?_)
 ·have hil:i < f.Features.length:=by have:=Mz h;omega
  obtain ⟨t,ht⟩:∃z,f.Features[i]?=some z:=⟨_,Ia hil⟩
  have htg:=c6 (c:=bJ) ht
  have hsucc:bS want (f.Features.take (i+1))=bS want (f.Features.take i)++r5 want t:=by
   unfold bS
   rw [List.take_add_one,ht,List.map_append,List.flatten_append]
   simp
  clear h
  have hps:=hpre (i+1)
  rw [hsucc,List.length_append] at hps
  generalize bS want (f.Features.take i)=ps at *
  repeat' (first|refine ae ?_|refine a6 ?_|refine ar ?_|refine aq ?_|refine a8 ?_|refine aa ?_|refine LR a7 LL ?_|(apply aL;first|refine aK a7 ?_|refine aH a7 ?_)|(apply aU;first|refine LT 11 a7 0 LQ ?_|refine LT 11 a7 1 LQ ?_|refine LT 11 a7 2 LQ ?_|refine LU a7 0 LP ?_|refine LU a7 1 LP ?_|refine LU a7 2 LP ?_|refine LU a7 3 LP ?_|fail)|refine bf a7 fun _=>?_|fail)
  refine k6 1 (.bool false) Tryz.underlying86 Tryz.underlying9 rfl rfl trivial rfl (by kernel_rfl) rfl ?_
  rw [show (ou want (.string t.Name)).getD (.sc (.bool false))=cw (nj want t.Name) from DO want t.Name]
  repeat' (first|refine a8 ?_|refine aa ?_|refine LR a7 LL ?_)
  cases hw:nj want t.Name with
  | false=>
   have hft:r5 want t=[]:=by unfold r5;rw [hw];rfl
   rw [hft,List.append_nil] at hsucc
   repeat' (first|refine a6 ?_|refine aO ?_|refine a8 ?_|refine av ?_|refine aC ?_|refine aa ?_|refine LR a7 LL ?_|(apply aY;refine aX ?_)|refine bI rfl ?_)
   exact aE (i+1,q) rfl ⟨by rw [hsucc];rfl,by rw [Mw];rfl,trivial⟩ ⟨hil,by dsimp only;rw [hsucc];exact hq⟩ (by dsimp only;omega) (fun _ _ h=>by rw [hsucc];exact h)
  | true=>
   have hft:r5 want t=t.Lookups.map fun l=>(dy t.Name,l):=by unfold r5;rw [hw];rfl
   rw [hft] at hsucc hps
   rw [Mv] at hps
   have htl:=b7 t.Lookups
   repeat' (first|refine ae ?_|refine a6 ?_|refine ar ?_|refine aq ?_|refine a8 ?_|refine aa ?_|refine LR a7 LL ?_|(apply bk;refine b9 ?_)|refine bo rfl ?_)
   refine aN [5,6,9,12,31,32,33,46,47] (α:=Nat×Option (Nat×Nat×List AV)) (fun s=>[(4,sq s.2 (nS (ps++(t.Lookups.take s.1).map fun l=>(dy t.Name,l)))),(48,aF s.1)]) (fun s=>s.1≤t.Lookups.length∧wQ s.2 (nS (ps++(t.Lookups.take s.1).map fun l=>(dy t.Name,l)))) (fun s=>[(nb,bV (.int .i64) (qH (ps++(t.Lookups.take s.1).map fun l=>(dy t.Name,l)))),(ab,bV FI (ou want))]++EQ s.2 (nS (ps++(t.Lookups.take s.1).map fun l=>(dy t.Name,l)))) (fun s=>t.Lookups.length - s.1) (0,q) rfl ⟨?_,rfl,trivial⟩ ⟨Nat.zero_le _,?_⟩ (fun σ w h=>?_) ?_
   ·show some (sq q (nS ps))=some (sq q (nS (ps++[])));rw [List.append_nil]
   ·show wQ q (nS (ps++[]));rw [List.append_nil];exact hq
   ·show cK B σ ([(nb,bV (.int .i64) (qH (ps++[]))),(ab,bV FI (ou want))]++EQ q (nS (ps++[]))) w
    rw [List.append_nil]
    exact h
   clear hq
   rintro ⟨j,q⟩ ⟨hj,hq⟩
   dsimp only at hj hq ⊢
   try dsimp only [Mt,Ms,Mr,Mn]
   repeat' (first|refine ae ?_|refine a6 ?_|refine a8 ?_|refine aa ?_|refine LR a7 LL ?_)
   refine aB rfl (fun h=>?_) (fun h=>?_)
   ·have hjl:j < t.Lookups.length:=by have:=Mz h;omega
    obtain ⟨z,hz⟩:∃z,t.Lookups[j]?=some z:=⟨_,Ia hjl⟩
    have hzg:=bH hz
    have hs2:(ps++(t.Lookups.take (j+1)).map fun l=>(dy t.Name,l))=(ps++(t.Lookups.take j).map fun l=>(dy t.Name,l))++[(dy t.Name,z)]:=by
     rw [List.take_add_one,hz,List.map_append,←List.append_assoc]
     rfl
    have hpl:(ps++(t.Lookups.take j).map fun l=>(dy t.Name,l)).length < 1000000:=by
     rw [List.length_append,Mv,List.length_take]
     omega
    have hdl:=se (ps++(t.Lookups.take j).map fun l=>(dy t.Name,l))
    generalize (ps++(t.Lookups.take j).map fun l=>(dy t.Name,l))=pp at *
    clear h
    obtain ⟨e1,e2⟩:=Cf pp z
    repeat' (first|refine ae ?_|refine a6 ?_|refine ar ?_|refine aq ?_|refine a8 ?_|refine aa ?_|refine LR a7 LL ?_|(apply aL;first|refine aK a7 ?_|refine aH a7 ?_)|fail)
    refine ce rfl rfl (oZ 0 (c0:= .agg [cw false,cw false,cw false,cw false,cw false]) Tryz.underlying87 Tryz.underlying3 rfl rfl rfl rfl Tryz.zeroValue89 uV) fun c L' ⟨h1,h2⟩=>?_
    subst h1;subst h2
    rw [e1,e2]
    repeat' (first|refine ae ?_|refine a6 ?_|refine a8 ?_|refine aa ?_|refine LR a7 LL ?_|(apply aU;first|refine LT 11 a7 0 LQ ?_|refine LT 11 a7 1 LQ ?_|refine LT 11 a7 2 LQ ?_|refine LU a7 0 LP ?_|refine LU a7 1 LP ?_|refine LU a7 2 LP ?_|refine LU a7 3 LP ?_|fail)|refine bf a7 fun _=>?_|fail)
    rename_i rb
    have hd2:=Bb pp (dy t.Name,z)
    dsimp only at hd2
    refine oG (α:=Option (Nat×Nat×List AV)) [4,5,6,9,12,14,15,31,32,33,46,47,48] (fun q'=>[(4,sq q' (nS (pp++[(dy t.Name,z)]))),(5,.sc (.slice none 0 0)),(6,.sc (.map (some ab))),(9,.sc (.map (some nb))),(12,aF (dy t.Name)),(14,aF z),(15,.sc (.pointer (some ⟨rb,0,none⟩))),(31,.imm 2 (f.Features.map bJ)),(32,.sc (.int .i64 ((f.Features.map bJ).length:Int))),(33,aF i),(46,.imm 1 (aT t.Lookups)),(47,.sc (.int .i64 ((aT t.Lookups).length:Int))),(48,aF j)]) (fun q'=>(rb,.box (iQ pp z) 89)::([(nb,bV (.int .i64) (qH pp)),(ab,bV FI (ou want))]++EQ q' (nS (pp++[(dy t.Name,z)])))) (fun q'=>wQ q' (nS (pp++[(dy t.Name,z)]))) (fun Q' K=>?_) (fun q' hq'=>?_)
    ·cases hk:kP pp z with
     | true=>
      rw [hk,if_pos rfl] at hd2
      rw [hd2] at K
      repeat' (first|refine aq ?_|refine bo rfl ?_)
      exact K q _ hq rfl
     | false=>
      rw [hk,if_neg (by simp)] at hd2
      rw [hd2] at K
      generalize nS pp=ls at *
      repeat' (first|refine a6 ?_|refine LR a7 LL ?_|refine cA a7 ?_|refine bI rfl ?_)
      cases q with
      | none=>
       cases hq
       unfold sq
       refine w8 a7 rfl rfl rfl rfl rfl rfl rfl rfl fun b' cs' cap' c1 c2 c3 c4=>?_
       repeat' (first|refine aa ?_|refine LR a7 LL ?_)
       obtain ⟨js,rfl⟩:∃js,cs'=[z].map aF++js:=⟨cs'.drop 1,by
        have:=List.take_append_drop 1 cs'
        rw [show cs'.take 1=[aF z] from c2] at this
        exact this.symm⟩
       refine br (b8 (List.perm_append_comm (l₁:=[_]))) ?_
       exact K (some (b',cap',js)) _ ⟨by simpa [Nat.add_comm] using c1,c4⟩ rfl
      | some x=>
       obtain ⟨b,cap,js⟩:=x
       obtain ⟨q1,q2⟩:=hq
       unfold sq
       refine rD a7 3 rfl rfl rfl rfl rfl rfl rfl (by rw [List.length_append,Mv];omega) (by omega) q2 (by unfold maxLen;omega) (by omega) rfl fun b' cs' cap' c1 c2 c3 c4=>?_
       repeat' (first|refine aa ?_|refine LR a7 LL ?_)
       obtain ⟨js',rfl⟩:∃js',cs'=(ls++[z]).map aF++js':=⟨cs'.drop (ls.length+1),by
        have:=List.take_append_drop (ls.length+1) cs'
        rw [Nat.mul_one,Nat.mul_one,List.take_left' (by simp)] at c2
        rw [c2] at this
        rw [List.map_append]
        exact this.symm⟩
       refine br (b8 (List.perm_append_comm (l₁:=[_]))) ?_
       rw [List.length_append,Mv,Nat.mul_one] at c1
       have hl1:(ls++[z]).length=ls.length+1:=by rw [List.length_append];rfl
       exact K (some (b',cap',js')) _ ⟨c1,c4⟩ (by show fE _ _=some ((4,.sc (.slice _ (ls++[z]).length cap'))::_);rw [hl1];rfl)
    repeat' (first|refine ae ?_|refine a6 ?_|refine LR a7 LL ?_)
    obtain ⟨m,hm⟩:∃m:Nat,dy t.Name=m:=⟨(dy t.Name).toNat,by have:=u4 t.Name;omega⟩
    have hm4:m≤4:=by have:=u4 t.Name;omega
    refine sC a7 m rfl rfl rfl hm (by omega) rfl ?_
    repeat' (first|fail)
    refine k7 a7 0 m rfl rfl (by omega) rfl rfl rfl (by show m < 5;omega) ?_
    rw [wu pp m hm4 z,←hm]
    repeat' (first|refine a6 ?_|refine a8 ?_|refine aa ?_|refine LR a7 LL ?_|(apply bL;first|refine LV a7 0 LO ?_|refine LV a7 1 LO ?_|refine LV a7 2 LO ?_|refine LV a7 3 LO ?_|refine LW a7 0 LO ?_|refine LW a7 1 LO ?_|refine LW a7 2 LO ?_|refine LZ a7 1 LM (by assumption) rfl ?_|refine LZ a7 0 LM (by assumption) rfl ?_|fail)|fail)
    refine cZ 1 (qH (pp++[(dy t.Name,z)])) Tryz.underlying87 Tryz.underlying3 rfl rfl rfl rfl rfl (Cg pp (dy t.Name) z) (fun q hq=>za pp (dy t.Name) z q hq) ?_
    repeat' (first|refine a6 ?_|refine a8 ?_|refine aP ?_|refine aa ?_|refine LR a7 LL ?_|(apply aY;refine aX ?_)|fail)
    exact aE (j+1,q') rfl ⟨by dsimp only;rw [hs2];rfl,by rw [Mw];rfl,trivial⟩ ⟨hjl,by dsimp only;rw [hs2];exact hq'⟩ (by dsimp only;omega) (fun _ _ h=>by dsimp only;rw [hs2];exact cK.sublist h (List.sublist_cons_self ..))
   ·have hjl:j=t.Lookups.length:=by have:=My h;omega
    subst hjl
    rw [List.take_length] at hq ⊢
    clear h
    repeat' (first|refine a6 ?_|refine aO ?_|refine a8 ?_|refine av ?_|refine aP ?_|refine aC ?_|refine aA ?_|refine aa ?_|refine LR a7 LL ?_|(apply aY;refine aX ?_)|fail)
    exact aE (i+1,q) rfl ⟨by rw [hsucc];rfl,by rw [Mw];rfl,trivial⟩ ⟨hil,by dsimp only;rw [hsucc];exact hq⟩ (by dsimp only;omega) (fun _ _ h=>by rw [hsucc];exact h)
 have hil:i=f.Features.length:=by have:=My h;omega
 subst hil
 rw [List.take_length] at hq ⊢
 clear h hpre
 repeat' (first|refine ae ?_|refine a6 ?_|refine aO ?_|refine a8 ?_|refine av ?_|refine aC ?_|refine aA ?_|refine LR a7 LL ?_)
 have hdl:=se (bS want f.Features)
 have hsl2:=gj (nS (bS want f.Features))
 refine Az [4,5,9] [(4,.imm 1 (aT (ct want f))),(5,.sc (.slice none 0 0)),(9,.sc (.map (some nb)))] [(nb,bV (.int .i64) (qH (bS want f.Features)))] (fun Q1 K=>?_) ?_
 ·unfold ct at K
  generalize nS (bS want f.Features)=ls at *
  cases q with
  | none=>
   cases hq
   unfold sq
   refine aW [] _ (D6 none 0 []) rfl rfl (Mp _) rfl fun c L1 hL=>?_
   subst hL
   repeat' (first|refine aa ?_)
   refine br (bE (t:=4) (c':= .imm 1 (aT (f6 []))) rfl fun σ v h=>by rw [show aT (f6 [])=[] by simp [f6,aT]];exact dW 1 h) ?_
   refine cL (L':=[(nb,bV (.int .i64) (qH (bS want f.Features)))]) (List.Sublist.cons_cons _ (List.nil_sublist _)) ?_
   exact K _ rfl
  | some x=>
   obtain ⟨b,cap,js⟩:=x
   obtain ⟨q1,q2⟩:=hq
   unfold sq
   refine aW [(b,.box (ls.map aF++js) 3)] [(nb,bV (.int .i64) (qH (bS want f.Features))),(ab,bV FI (ou want))] (D5 b cap ls js (by omega)) rfl rfl (List.perm_append_comm (l₁:=[_,_])) rfl fun c L1 hL=>?_
   subst hL
   repeat' (first|refine aa ?_)
   refine br (cP (t:=4) (sz:=1) (l:=aT (f6 ls)) 0 rfl rfl (by rw [Nat.mul_one,←hsl2,List.take_left' (by rw [Mv]),←pO]) (by rw [List.length_append,Mv];omega) (fun q hq=>by obtain ⟨y,_,rfl⟩:=List.mem_map.1 hq;rfl) (by rw [b7,hsl2]) (by omega) q2) ?_
   refine cL (L':=[(nb,bV (.int .i64) (qH (bS want f.Features)))]) (List.Sublist.cons_cons _ (List.nil_sublist _)) ?_
   exact K _ rfl
 have hpl:(ct want f).length≤1000000:=by unfold ct;omega
 have hpi:=b7 (ct want f)
 repeat' (first|refine ae ?_|refine a6 ?_|refine ar ?_|refine a8 ?_|refine aa ?_|refine LR a7 LL ?_)
 refine cm (bE (t:=5) rfl fun σ v h=>eh 1 h) ?_
 refine aN [4,9,73,74] (α:=Nat×Option (Nat×Nat)) (fun s=>[(5,.vec s.2 1 (bj (((ct want f).take s.1).map fun l=>eG (kc (bS want f.Features) l) 5))),(75,aF s.1)]) (fun s=>s.1≤(ct want f).length) (fun s=>[(nb,bV (.int .i64) (qH (bS want f.Features)))]++tok s.2 22 1 (bj (((ct want f).take s.1).map fun l=>eG (kc (bS want f.Features) l) 5)).length) (fun s=>(ct want f).length - s.1) (0,none) rfl ⟨rfl,rfl,trivial⟩ (Nat.zero_le _) (fun _ _ h=>h) ?_
 rintro ⟨i,k⟩ hi
 dsimp only at hi ⊢
 try dsimp only [Mt,Ms,Mr,Mn]
 repeat' (first|refine ae ?_|refine a6 ?_|refine a8 ?_|refine aa ?_|refine LR a7 LL ?_)
 refine aB rfl (fun h=>?_) (fun h=>?_)
 ·have hil:i < (ct want f).length:=by have:=Mz h;omega
  obtain ⟨z,hz⟩:∃z,(ct want f)[i]?=some z:=⟨_,Ia hil⟩
  have hzg:=bH hz
  have hrl:(bj (((ct want f).take i).map fun l=>eG (kc (bS want f.Features) l) 5)).length=i:=by
   rw [c8,Mv,List.length_take]
   omega
  have hrs:bj (((ct want f).take (i+1)).map fun l=>eG (kc (bS want f.Features) l) 5)=bj (((ct want f).take i).map fun l=>eG (kc (bS want f.Features) l) 5)++[[.imm 1 (aT (eG (kc (bS want f.Features) z) 5))]]:=by
   rw [List.take_add_one,hz,List.map_append]
   simp [bj]
  have hrl2:(bj (((ct want f).take (i+1)).map fun l=>eG (kc (bS want f.Features) l) 5)).length=i+1:=by
   rw [hrs,List.length_append,hrl]
   rfl
  clear h
  have e1:=(Cf (bS want f.Features) z).1
  repeat' (first|refine ae ?_|refine a6 ?_|refine ar ?_|refine aq ?_|refine a8 ?_|refine aa ?_|refine LR a7 LL ?_|(apply aL;first|refine aK a7 ?_|refine aH a7 ?_)|fail)
  refine ce rfl rfl (iz 0 (c0:= .agg [cw false,cw false,cw false,cw false,cw false]) Tryz.underlying87 Tryz.underlying3 rfl rfl rfl rfl Tryz.zeroValue89 uV) fun c L' ⟨h1,h2⟩=>?_
  subst h1;subst h2
  rw [e1]
  refine b9 (hc:=⟨HP _ _ _ _ _⟩) ?_
  repeat' (first|refine cA a7 ?_|fail)
  refine cr a7 [(nb,bV (.int .i64) (qH (bS want f.Features)))] rfl rfl rfl rfl (List.perm_append_comm (l₁:=[_])) (by rw [hrl];simp;omega) (by rw [hrl];simp;omega) rfl fun k'=>?_
  rw [show bj (((ct want f).take i).map fun l=>eG (kc (bS want f.Features) l) 5)++[[.imm 1 (aT (eG [ec (bS want f.Features) 0 z,ec (bS want f.Features) 1 z,ec (bS want f.Features) 2 z,ec (bS want f.Features) 3 z,ec (bS want f.Features) 4 z] 5))]]=bj (((ct want f).take (i+1)).map fun l=>eG (kc (bS want f.Features) l) 5) from hrs.symm]
  refine bq (b8 (List.perm_append_comm (l₂:=[_]))) ?_
  repeat' (first|refine a6 ?_|refine a8 ?_|refine aP ?_|refine aa ?_|refine LR a7 LL ?_|(apply aY;refine aX ?_)|fail)
  exact aE (i+1,k') rfl ⟨rfl,by rw [Mw];rfl,trivial⟩ hil (by dsimp only;omega) (fun _ _ h=>h)
 ·have hil:i=(ct want f).length:=by have:=My h;omega
  subst hil
  rw [List.take_length]
  clear h
  repeat' (first|refine ae ?_|refine a6 ?_|refine am ?_|refine aO ?_|refine a8 ?_|refine av ?_|refine aC ?_|refine aA ?_|refine aa ?_|refine LR a7 LL ?_)
  refine br (bE (t:=5) rfl fun σ v h=>h.im) ?_
  refine cL (List.nil_sublist _) ?_
  exact MH LN
set_option maxRecDepth 8000
def jA (f:aS) (x:aM):aM:={ x with Advance:=((f.Glyphs[x.Glyph.toNat]?).map bn.Advance).getD 0 }
abbrev v6 (f f2:aS) (u:AV):AB:= .box (bY f++bY f2++[u]) 112
theorem oF {P:Program} {r:Option Nat} {C:Code} {Q:Exit→Act→World→Prop} {nt:Nat} {D:List Deferred} {fr:bP} {B:Bs} {L L':AL} (hs:L'.Sublist L) (h:AT P r C Q nt D fr B L'):AT P r C Q nt D fr B L:=cm (dE hs) h
theorem re {u:AV} {y:aM} (junk:List AV):∀{r:List aM} {i j:Nat} {x:aM},r[i]?=some x→j < 6→cg y=(cg x).set j u→(bO r++junk).set (i * 6+j) u=bO (r.set i y)++junk
 | [],i,_,_,h,_,_=>by simp at h
 | z::r,0,j,x,h,hj,hy=>by
  simp at h
  subst h
  rw [List.set_cons_zero,fq,fq,List.append_assoc,Nat.zero_mul,Nat.zero_add,List.set_append_left _ _ (show j < (cg z).length from hj),hy,List.append_assoc]
 | z::r,i+1,j,x,h,hj,hy=>by
  have:=re junk (r:=r) (i:=i) (by simpa using h) hj hy
  rw [List.set_cons_succ,fq,fq,List.append_assoc,List.append_assoc,List.set_append_right _ _ (show (cg z).length≤(i+1) * 6+j by show 6≤_;omega),←this]
  congr 2
  show (i+1) * 6+j - 6=_
  omega
def oV (f:aS) (run:List aM) (i:Nat):List aM:=(run.take i).map (jA f)++run.drop i
theorem Ai (f:aS) (run:List aM) (i:Nat):(oV f run i).length=run.length:=by
 unfold oV
 rw [List.length_append,Mv,List.length_take,List.length_drop]
 omega
theorem Ah {f:aS} {run:List aM} {i:Nat} {x:aM} (h:run[i]?=some x):(oV f run i)[i]?=some x:=by
 have hi:=(Mq h).1
 have hl:((run.take i).map (jA f)).length=i:=by rw [Mv,List.length_take];omega
 unfold oV
 rw [List.getElem?_append_right (by omega),hl,Nat.sub_self,List.getElem?_drop,Nat.add_zero]
 exact h
theorem Aj {f:aS} {run:List aM} {i:Nat} {x:aM} (h:run[i]?=some x):(oV f run i).set i (jA f x)=oV f run (i+1):=by
 have hi:=(Mq h).1
 have hl:((run.take i).map (jA f)).length=i:=by rw [Mv,List.length_take];omega
 unfold oV
 rw [List.set_append_right _ _ (by omega),hl,Nat.sub_self,List.take_add_one,h,List.map_append,List.drop_eq_getElem_cons hi,List.set_cons_zero,List.append_assoc]
 rfl
theorem G1 {α:Type} {s:α} {A C U:List α}:(A++(s::(C++U))).Perm (C++(A++(s::U))):=by
 refine ((List.perm_middle (a:=s) (l₁:=C) (l₂:=U)).symm.append_left A).trans ?_
 rw [←List.append_assoc,←List.append_assoc]
 exact List.perm_append_comm.append_right _
theorem Ji {α:Type} {s:α} {A C U:List α}:(C++(A++(s::U))).Perm (s::(A++(C++U))):=G1.symm.trans List.perm_middle
set_option maxHeartbeats 16000000 in
theorem zF (f f2:aS) (rs:List Int) (want:List ByteArray) (u:AV) (sb:Nat) (Lu:AL) (hr:rs.length≤1000000) (h20:qQ rs) (hc:f.Chars.length≤1000000) (hF:f.Features.length≤1000000) (hp:(bS want f.Features).length≤1000000)
  (hk:∀l∈ct want f,0≤l∧∃q,f.Lookups[l.toNat]?=some q∧1≤q.Kind∧q.Kind≤5) (run:List aM) (hu:∀q,cS q (cU f rs)→gF Tryz.prog u [.imm 1 (aT (ct want f)),.imm 1 (bj (eX want f)),cG q (cU f rs)] (dw q (cU f rs)++Lu) (Gi run Lu)) (hrl:run.length≤1000000) (hG:∀x∈run,0≤x.Glyph∧x.Glyph < f2.Glyphs.length):
  AC Tryz.prog 38 [eZ sb,.imm 1 (aT rs),.imm 1 (lA want)] ((sb,v6 f f2 u)::Lu) fun c L=>c= .imm 6 ((run.map (jA f2)).map cg)∧L=Lu:=by
 refine aI Tryz.func38 rfl Tryz.ntmps38 rfl fun B=>?_
 haveI i0:=AD.mk (Ct f want hF hp)
 have hst:=D8 f rs hr h20 hc
 have hpll:(ct want f).length≤1000000:=by
  have:=gj (nS (bS want f.Features))
  have:=se (bS want f.Features)
  unfold ct;omega
 have hpfl:(eX want f).length=(ct want f).length:=by unfold eX;rw [Mv]
 have hil:=b7 (ct want f)
 have hfl:=c8 (eX want f)
 repeat' (first|refine ae ?_|refine a6 ?_|refine a8 ?_|refine aa ?_|refine LR a7 LL ?_|(apply bL;first|refine LV a7 0 LO ?_|refine LV a7 1 LO ?_|refine LV a7 2 LO ?_|refine LV a7 3 LO ?_|refine LW a7 0 LO ?_|refine LW a7 1 LO ?_|refine LW a7 2 LO ?_|refine LZ a7 1 LM (by assumption) rfl ?_|refine LZ a7 0 LM (by assumption) rfl ?_|fail)|fail)
 rw [show AV.agg (List.take 9 (List.drop (0+0) (bY f++bY f2++[u])))=cD f from rfl]
 repeat' (first|refine ae ?_|refine a6 ?_|refine ar ?_|refine a8 ?_|refine aa ?_|refine LR a7 LL ?_|(apply bk;refine b9 ?_)|fail)
 refine cm (bE (t:=7) rfl fun σ v h=>eh 1 h) ?_
 refine cm (bE (t:=9) rfl fun σ v h=>eh 1 h) ?_
 refine aN [0,1,11,27,28] (α:=Nat×Option (Nat×Nat)×Option (Nat×Nat)) (fun s=>[(7,.vec s.2.1 1 (aT ((ct want f).take s.1))),(9,.vec s.2.2 1 (bj ((eX want f).take s.1))),(8,.sc (.slice none 0 0)),(29,aF s.1)]) (fun s=>s.1≤(ct want f).length) (fun s=>(sb,v6 f f2 u)::(tok s.2.1 3 1 s.1++(tok s.2.2 22 1 s.1++Lu))) (fun s=>(ct want f).length - s.1) (0,none,none) rfl ⟨rfl,rfl,rfl,rfl,trivial⟩ (Nat.zero_le _) (fun _ _ h=>h) ?_
 rintro ⟨i,k1,k2⟩ hi
 dsimp only at hi ⊢
 try dsimp only [Mt,Ms,Mr,Mn]
 repeat' (first|refine ae ?_|refine a6 ?_|refine a8 ?_|refine aa ?_|refine LR a7 LL ?_)
 refine aB rfl (fun h=>?_) (fun h=>?_)
 ·have hil:i < (ct want f).length:=by have:=Mz h;omega
  obtain ⟨z,hz⟩:∃z,(ct want f)[i]?=some z:=⟨_,Ia hil⟩
  obtain ⟨y,hy⟩:∃z,(eX want f)[i]?=some z:=⟨_,Ia (by omega)⟩
  have hzg:=bH hz
  have hyg:=gh hy
  obtain ⟨h0,lk,hlk,hk1,hk5⟩:=hk z (Mx hz)
  have hlg:=c6 (c:=bA) hlk
  clear h
  repeat' (first|refine ae ?_|refine a6 ?_|refine ar ?_|refine aq ?_|refine a8 ?_|refine aa ?_|refine LR a7 LL ?_|(apply bL;first|refine LV a7 0 LO ?_|refine LV a7 1 LO ?_|refine LV a7 2 LO ?_|refine LV a7 3 LO ?_|refine LW a7 0 LO ?_|refine LW a7 1 LO ?_|refine LW a7 2 LO ?_|refine LZ a7 1 LM (by assumption) rfl ?_|refine LZ a7 0 LM (by assumption) rfl ?_|fail)|(apply aL;first|refine aK a7 ?_|refine aH a7 ?_)|fail)
  refine oG (α:=Unit) [0,1,7,8,9,11,12,13,27,28,29,47] (fun _=>[(0,eZ sb),(1,.imm 1 (aT rs)),(7,.vec k1 1 (aT (List.take i (ct want f)))),(8,.sc (.slice none 0 0)),(9,.vec k2 1 (bj (List.take i (eX want f)))),(11,.imm 1 (bj (eX want f))),(12,aF i),(13,aF z),(27,.imm 1 (aT (ct want f))),(28,.sc (.int .i64 ((aT (ct want f)).length:Int))),(29,aF i),(47,cw true)]) (fun _=>(sb,v6 f f2 u)::(tok k1 3 1 i++(tok k2 22 1 i++Lu))) (fun _=>True) (fun Q' K=>?_) (fun _ _=>?_)
  ·have hkk:lk.Kind=1∨lk.Kind=2∨lk.Kind=3∨lk.Kind=4∨lk.Kind=5:=by omega
   rcases hkk with e | e | e | e | e <;> rw [e]
   all_goals
    repeat' (first|refine ae ?_|refine a6 ?_|refine aq ?_|refine a8 ?_|refine aa ?_|refine LR a7 LL ?_|refine bI rfl ?_|refine bo rfl ?_)
    exact K () _ trivial rfl
  have htl:(aT (List.take i (ct want f))).length=i:=by rw [b7,List.length_take];omega
  have htf:(bj (List.take i (eX want f))).length=i:=by rw [c8,List.length_take];omega
  have hs1:aT (List.take (i+1) (ct want f))=aT (List.take i (ct want f))++[[aF z]]:=by rw [List.take_add_one,hz];unfold aT;rw [List.map_append];rfl
  have hs2:bj (List.take (i+1) (eX want f))=bj (List.take i (eX want f))++[[.imm 1 (aT y)]]:=by rw [List.take_add_one,hy];simp [bj]
  repeat' (first|refine ae ?_|refine a6 ?_|refine LR a7 LL ?_|refine cA a7 ?_|refine bI rfl ?_)
  refine cr a7 ((sb,v6 f f2 u)::(tok k2 22 1 i++Lu)) rfl rfl rfl rfl (by rw [htl];exact List.perm_middle.symm) (by rw [htl];simp;omega) (by rw [htl];simp;omega) rfl fun k1'=>?_
  rw [show (aT (List.take i (ct want f))++[[aF z]]).length=i+1 by rw [List.length_append,htl];rfl]
  repeat' (first|refine a6 ?_|refine a8 ?_|refine aa ?_|refine LR a7 LL ?_|(apply aL;first|refine aK a7 ?_|refine aH a7 ?_)|refine cA a7 ?_|fail)
  refine cr a7 (tok k1' 3 1 (i+1)++(sb,v6 f f2 u)::Lu) rfl rfl rfl rfl (by rw [htf];exact G1) (by rw [htf];simp;omega) (by rw [htf];simp;omega) rfl fun k2'=>?_
  rw [show (bj (List.take i (eX want f))++[[AV.imm 1 (aT y)]]).length=i+1 by rw [List.length_append,htf];rfl]
  repeat' (first|refine a6 ?_|refine a8 ?_|refine aP ?_|refine aa ?_|refine LR a7 LL ?_|(apply aY;refine aX ?_)|fail)
  exact aE (i+1,k1',k2') rfl ⟨by dsimp only;rw [hs1];rfl,by dsimp only;rw [hs2];rfl,rfl,by rw [Mw];rfl,trivial⟩ hil (by dsimp only;omega) (fun _ _ h=>h.perm Ji)
 ·have hil2:i=(ct want f).length:=by have:=My h;omega
  subst hil2
  rw [List.take_length,List.take_of_length_le (Nat.le_of_eq hpfl)]
  clear h
  repeat' (first|refine ae ?_|refine aO ?_|refine a8 ?_|refine av ?_|refine aC ?_|refine aA ?_)
  refine cm (bE (t:=7) (c':= .imm 1 (aT (ct want f))) rfl fun σ v h=>VR.im h) ?_
  refine cm (bE (t:=9) (c':= .imm 1 (bj (eX want f))) rfl fun σ v h=>VR.im h) ?_
  refine oF (L':=(sb,v6 f f2 u)::Lu) (List.Sublist.cons_cons _ ((List.sublist_append_right _ _).trans (List.sublist_append_right _ _))) ?_
  repeat' (first|fail)
  refine lL [.cell (sb,18,u)] 12 [(0,.v),(1,.v),(2,.v),(3,.k),(4,.v),(5,.v),(6,.v),(7,.v),(8,.v),(9,.l),(10,.v),(11,.f)] none ?_ trivial rfl (by kernel_rfl) (by kernel_rfl) (by kernel_rfl) mixed (by kernel_rfl) rfl
  repeat' (first|refine aJ ?_|refine bw a7 ?_|fail)
  refine sd a7 0 rfl rfl rfl (iF 0 rfl rfl) (by first | trivial | rfl) ?_
  repeat' (first|refine aJ ?_|refine bw a7 ?_|refine sa a7 0 rfl rfl rfl rfl (by first|trivial|rfl) ?_)
  rw [show AV.agg (List.take 9 (List.drop (0+0) (bY f++bY f2++[u])))=cD f from rfl]
  repeat' (first|fail)
  refine xa [] ((sb,v6 f f2 u)::Lu) hst rfl rfl (Mp _) trivial (fun c L1 ⟨q,_,_,hL1⟩ _=>by
   subst hL1
   exact iF (dw q (cU f rs)).length (by rw [List.getElem?_append_right (Nat.le_refl _),Nat.sub_self];rfl) rfl) fun c L1 ⟨q,hq,hc1,hL1⟩=>?_
  subst hc1;subst hL1
  repeat' (first|fail)
  refine MG [0,8,68,69,70,76] LL ?_
  repeat' (first|fail)
  refine gp (dw q (cU f rs)++Lu) [(sb,v6 f f2 u)] (hu q hq) rfl rfl ?_ rfl rfl fun c L1 ⟨q2,hq2,hc2,hL2⟩=>?_
  ·rw [List.append_assoc]
   exact (List.perm_append_comm (l₁:=[_])).append_left _
  subst hc2;subst hL2
  refine bq (b8 (L':=dw q2 run++((sb,v6 f f2 u)::Lu)) (by rw [List.append_assoc];exact (List.perm_append_comm (l₁:=Lu)).append_left _)) ?_
  clear hst hu i0
  cases q2 with
  | none=>
   have he:=hq2.emp rfl
   subst he
   unfold cG dw
   dsimp only
   repeat' (first|refine ae ?_|refine a6 ?_|refine ar ?_|refine a8 ?_|refine aa ?_|refine LR a7 LL ?_)
   refine aN [0,8,14,79] (α:=Unit) (fun _=>[(80,aF 0),(14,.imm 6 [])]) (fun _=>True) (fun _=>[]++((sb,v6 f f2 u)::Lu)) (fun _=>0) () rfl ⟨rfl,rfl,trivial⟩ trivial (fun _ _ h=>h) ?_
   rintro ⟨⟩ -
   try dsimp only [Mt,Ms,Mr,Mn]
   repeat' (first|refine ae ?_|refine a6 ?_|refine ar ?_|refine aO ?_|refine a8 ?_|refine av ?_|refine aC ?_|refine aA ?_|refine aa ?_|refine LR a7 LL ?_|refine bo rfl ?_)
   refine aN [0,101,102] (α:=Unit) (fun _=>[(103,aF 0),(14,.imm 6 [])]) (fun _=>True) (fun _=>[]++((sb,v6 f f2 u)::Lu)) (fun _=>0) () rfl ⟨rfl,rfl,trivial⟩ trivial (fun _ _ h=>h) ?_
   rintro ⟨⟩ -
   try dsimp only [Mt,Ms,Mr,Mn]
   repeat' (first|refine ae ?_|refine a6 ?_|refine am ?_|refine aO ?_|refine a8 ?_|refine av ?_|refine aC ?_|refine aA ?_|refine aa ?_|refine LR a7 LL ?_|refine bo rfl ?_)
   refine cL (L':=Lu) (List.sublist_cons_self _ _) ?_
   exact MA LL ⟨rfl,rfl⟩
  | some m=>
   obtain ⟨m1,m2,m3⟩:=hq2.fit m rfl
   unfold cG dw
   dsimp only
   repeat' (first|refine ae ?_|refine a6 ?_|refine ar ?_|refine a8 ?_|refine aa ?_|refine LR a7 LL ?_)
   refine aN [0,8,14,79] (α:=Nat) (fun i=>[(80,aF i),(14,.sc (.slice (some ⟨m.rb,0,none⟩) run.length m.cap))]) (fun i=>i≤run.length) (fun i=>[(m.rb,.box (bO (oV f2 run i)++m.junk) 56)]++((sb,v6 f f2 u)::Lu)) (fun i=>run.length - i) 0 rfl ⟨rfl,rfl,trivial⟩ (Nat.zero_le _) (fun _ _ h=>h) fun i hi=>?_
   try dsimp only [Mt,Ms,Mr,Mn]
   repeat' (first|refine ae ?_|refine a6 ?_|refine a8 ?_|refine aa ?_|refine LR a7 LL ?_)
   refine aB rfl (fun h=>?_) (fun h=>?_)
   ·have hil:i < run.length:=by have:=Mz h;omega
    obtain ⟨x,hx⟩:∃z,run[i]?=some z:=⟨_,Ia hil⟩
    obtain ⟨g1,g2⟩:=hG x (Mx hx)
    obtain ⟨g,hg⟩:∃z,f2.Glyphs[x.Glyph.toNat]?=some z:=⟨_,Ia (by omega)⟩
    have hgg:=c6 (c:=bK) hg
    have hxr:=Ah (f:=f2) hx
    have hset:=Aj (f:=f2) hx
    have hal:=Ai f2 run i
    have hadv:jA f2 x={ x with Advance:=g.Advance }:=by unfold jA;rw [hg];rfl
    rw [hadv] at hset
    have hfx:=m4 m.junk hxr (j:=0) rfl
    have hput:=re m.junk hxr (j:=3) (u:=aF g.Advance) (y:={ x with Advance:=g.Advance }) (by omega) rfl
    rw [hset] at hput
    generalize oV f2 run i=rr at *
    clear h
    repeat' (first|refine ae ?_|refine a6 ?_|refine ar ?_|refine aq ?_|refine a8 ?_|refine aa ?_|refine LR a7 LL ?_)
    refine bB 15 [(0,.v),(1,.v),(2,.v),(3,.v),(4,.v),(5,.v),(6,.l),(7,.v),(8,.v),(9,.v),(10,.v),(11,.l),(12,.v),(13,.v),(14,.v)] none ?_ trivial rfl (by kernel_rfl) (by kernel_rfl) (by kernel_rfl) mixed (by kernel_rfl) rfl
    repeat' (first|refine aJ ?_|refine bw a7 ?_|refine cn a7 1 rfl rfl rfl rfl (by first|trivial|rfl) ?_)
    refine cx a7 rfl rfl rfl ⟨by omega,by omega⟩ trivial ?_
    repeat' (first|refine aJ ?_|refine bw a7 ?_|fail)
    refine cn a7 0 rfl rfl rfl hfx (by first | trivial | rfl) ?_
    repeat' (first|refine aJ ?_|refine bw a7 ?_|(apply cq;refine cQ a7 ?_)|fail)
    refine MG [0,8,14,79,80,83,84,97] LL ?_
    repeat' (first|refine LR a7 LL ?_|(apply aL;first|refine aK a7 ?_|refine aH a7 ?_)|fail)
    refine k7 a7 0 (i * 6+3) rfl rfl (by show 0+((i:Nat):Int).toNat * 6+3=_;rw [Int.toNat_natCast,Nat.zero_add]) rfl rfl rfl (by rw [List.length_append,cJ];omega) ?_
    rw [hput]
    repeat' (first|refine a6 ?_|refine a8 ?_|refine aP ?_|refine aa ?_|refine LR a7 LL ?_|(apply aY;refine aX ?_)|fail)
    exact aE (i+1) rfl ⟨by rw [Mw];rfl,rfl,trivial⟩ hil (by omega) (fun _ _ h=>h)
   ·have hil:i=run.length:=by have:=My h;omega
    subst hil
    have hall:oV f2 run run.length=run.map (jA f2):=by unfold oV;rw [List.take_length,List.drop_length,List.append_nil]
    rw [hall]
    clear h
    repeat' (first|refine ae ?_|refine a6 ?_|refine ar ?_|refine aO ?_|refine a8 ?_|refine av ?_|refine aC ?_|refine aA ?_|refine aa ?_|refine LR a7 LL ?_)
    refine aN [0,101,102] (α:=Unit) (fun _=>[(103,aF 0),(14,.sc (.slice (some ⟨m.rb,0,none⟩) run.length m.cap))]) (fun _=>True) (fun _=>(m.rb,.box (bO (run.map (jA f2))++m.junk) 56)::((sb,v6 f f2 u)::Lu)) (fun _=>0) () rfl ⟨rfl,rfl,trivial⟩ trivial (fun _ _ h=>h) ?_
    rintro ⟨⟩ -
    try dsimp only [Mt,Ms,Mr,Mn]
    repeat' (first|refine ae ?_|refine a6 ?_|refine am ?_|refine aO ?_|refine a8 ?_|refine av ?_|refine aC ?_|refine aA ?_|refine aa ?_|refine LR a7 LL ?_|refine bo rfl ?_)
    have hml:(run.map (jA f2)).length=run.length:=Mv ..
    refine br (kN (t:=6) (q:=some m) (run:=run.map (jA f2)) (Lf:=(sb,v6 f f2 u)::Lu) ⟨fun h=>(by cases h),fun m' hm=>?_⟩ (by unfold cG;dsimp only;rw [hml];rfl)) ?_
    ·cases hm
     rw [List.length_append,cJ] at m3 ⊢
     rw [hml]
     exact ⟨m1,m2,m3⟩
    refine cL (L':=Lu) (List.sublist_cons_self _ _) ?_
    exact MA LL ⟨rfl,rfl⟩
end Go.Proofs.YtamjlkdanllgjaaGreatDoor
