/-
  The plan: which lookups are done, and for which forms.
-/
import Derived.Test.YtamjlkdanllgjaaGreatDoorM27
import Derived.Test.YtamjlkdanllgjaaGreatDoorM26
import Derived.Test.YtamjlkdanllgjaaGreatDoorM12
namespace Go.Proofs.YtamjlkdanllgjaaGreatDoor
open Go.RowKit
attribute [local irreducible] AT bB AX AO Av Kt ba dt DA cz
set_option maxRecDepth 8000
theorem sA {want:List ByteArray} {i:Nat} {z:ByteArray} (h:want[i]?=some z) (s:ByteArray):nR (want.take (i+1)) s=(nR (want.take i) s || decide (z=s)):=by
 unfold nR
 rw [List.take_add_one,h,List.any_append]
 simp
def p6 (want:List ByteArray):Value→Option AV
 | .string s=>if nR want s then some (cQ true) else none
 | _=>none
theorem Er (want:List ByteArray) (s:ByteArray):(p6 want (.string s)).getD (.sc (.bool false))=cQ (nR want s):=by
 show ((if nR want s then some (cQ true) else none:Option AV)).getD (.sc (.bool false))=_
 cases nR want s <;> rfl
def se (want:List ByteArray) (t:bN):List (Int×Int):=if nR want t.Name then t.Lookups.map fun l=>(dN t.Name,l) else []
def c5 (want:List ByteArray) (fs:List bN):List (Int×Int):=(fs.map (se want)).flatten
def lA (ps:List (Int×Int)) (l:Int):Bool:=ps.any fun p=>decide (p.2=l)
def eE (ps:List (Int×Int)) (k l:Int):Bool:=ps.any fun p=>decide (p=(k,l))
def lK (ps:List (Int×Int)) (l:Int):List Bool:=[eE ps 0 l,eE ps 1 l,eE ps 2 l,eE ps 3 l,eE ps 4 l]
def jA (ps:List (Int×Int)) (l:Int):List AV:=[cQ (eE ps 0 l),cQ (eE ps 1 l),cQ (eE ps 2 l),cQ (eE ps 3 l),cQ (eE ps 4 l)]
def rN (ps:List (Int×Int)):Value→Option AV
 | .int .i64 l=>if lA ps l then some (.agg (jA ps l)) else none
 | _=>none
def Gl:List (Int×Int)→List Int
 | []=>[]
 | p::r=>if lA r p.2 then Gl r else Gl r++[p.2]
def p7 (ps:List (Int×Int)):List Int:=Gl ps.reverse
theorem Cp (ps:List (Int×Int)) (l:Int):lA ps.reverse l=lA ps l:=by unfold lA;rw [List.any_reverse]
theorem C7 (ps:List (Int×Int)) (p:Int×Int):p7 (ps++[p])=if lA ps p.2 then p7 ps else p7 ps++[p.2]:=by
 unfold p7
 rw [List.reverse_append,List.reverse_singleton,List.singleton_append,Gl,Cp]
theorem y4:∀ps:List (Int×Int),(Gl ps).length≤ps.length
 | []=>Nat.le_refl _
 | p::r=>by
  have:=y4 r
  unfold Gl
  split
  ·simp;omega
  ·simp;omega
theorem to (ps:List (Int×Int)):(p7 ps).length≤ps.length:=by have:=y4 ps.reverse;rwa [List.length_reverse] at this
theorem vf {ps:List (Int×Int)} {l:Int} (h:lA ps l=false) (k:Int):eE ps k l=false:=by
 unfold lA at h
 unfold eE
 rw [List.any_eq_false] at h ⊢
 intro p hp he
 have:=Ly he
 subst this
 exact h _ hp (by simp)
theorem xk {ps:List (Int×Int)} {l:Int} (h:lA ps l=false):jA ps l=[cQ false,cQ false,cQ false,cQ false,cQ false]:=by
 unfold jA
 simp only [vf h]
theorem oK (ps:List (Int×Int)) (p:Int×Int) (k l:Int):eE (ps++[p]) k l=(eE ps k l || decide (p=(k,l))):=by
 unfold eE
 rw [List.any_append]
 simp
theorem xl (ps:List (Int×Int)) (m:Nat) (hm:m≤4) (l:Int):(jA ps l).set m (cQ true)=jA (ps++[((m:Int),l)]) l:=by
 have:m=0∨m=1∨m=2∨m=3∨m=4:=by omega
 unfold jA
 simp only [oK]
 rcases this with rfl | rfl | rfl | rfl | rfl <;> simp
theorem vI (ps:List (Int×Int)) {m:Int} {l l':Int} (h:l'≠l):jA (ps++[(m,l)]) l'=jA ps l':=by
 unfold jA
 simp only [oK]
 have:∀k:Int,decide ((m,l)=(k,l'))=false:=fun k=>decide_eq_false fun e=>h (by injection e with _ e;exact e.symm)
 simp only [this,Bool.or_false]
theorem sy (ps:List (Int×Int)) (p:Int×Int) (l:Int):lA (ps++[p]) l=(lA ps l || decide (p.2=l)):=by
 unfold lA
 rw [List.any_append]
 simp
theorem D4 (ps:List (Int×Int)) (m l:Int):rN (ps++[(m,l)]) (.int .i64 l)=some (.agg (jA (ps++[(m,l)]) l)):=by
 show (if lA (ps++[(m,l)]) l=true then some (AV.agg (jA (ps++[(m,l)]) l)) else none)=_
 rw [sy]
 simp
theorem Ab (ps:List (Int×Int)) (m l:Int) (q:Value) (h:q≠ .int .i64 l):rN (ps++[(m,l)]) q=rN ps q:=by
 unfold rN
 split
 ·rename_i l'
  have hne:l'≠l:=fun e=>h (by rw [e])
  rw [sy,decide_eq_false (show ¬(m,l).2=l' from fun e=>hne e.symm),Bool.or_false,vI ps hne]
 ·rfl
theorem D3 (ps:List (Int×Int)) (l:Int):(rN ps (.int .i64 l)).getD (.agg [cQ false,cQ false,cQ false,cQ false,cQ false])= .agg (jA ps l)∧(rN ps (.int .i64 l)).isSome=lA ps l:=by
 unfold rN
 cases h:lA ps l with
 | true=>simp [h]
 | false=>simp [h,xk h]
def xG (q:Option (Nat×Nat×List AV)) (ls:List Int):Prop:=match q with
 | none=>ls=[]
 | some (_,cap,js)=>ls.length+js.length=cap∧cap≤maxLen
def tA (q:Option (Nat×Nat×List AV)) (ls:List Int):AV:=match q with
 | none=> .sc (.slice none 0 0)
 | some (b,cap,_)=> .sc (.slice (some ⟨b,0,none⟩) ls.length cap)
def Fg (q:Option (Nat×Nat×List AV)) (ls:List Int):AL:=match q with
 | none=>[]
 | some (b,_,js)=>[(b,.box (ls.map aH++js) 3)]
def cI (want:List ByteArray) (f:aV):List Int:=fI (p7 (c5 want f.Features))
def gk (want:List ByteArray) (f:aV):List (List Int):=(cI want f).map fun l=>fv (lK (c5 want f.Features) l) 5
abbrev Gb:TypeDesc:= .string
theorem vY (σ:cf):VR σ (.agg [cQ false,cQ false,cQ false,cQ false,cQ false]) (.agg #[.bool false,.bool false,.bool false,.bool false,.bool false]):=
 .agg _ [.bool false,.bool false,.bool false,.bool false,.bool false] rfl (cT.cons (.sc _) (cT.cons (.sc _) (cT.cons (.sc _) (cT.cons (.sc _) (cT.cons (.sc _) cT.nil))))).2 (by intro u hu;simp at hu;rw [hu];rfl)
set_option maxHeartbeats 16000000 in
theorem Dh (f:aV) (want:List ByteArray) (hF:f.Features.length≤1000000) (hp:(c5 want f.Features).length≤1000000):bH Tryz.prog 10 [cD f,.imm 1 (rq want)] (.tup [.imm 1 (aO (cI want f)),.imm 1 (aZ (gk want f))]):=by
 refine aP Tryz.func10 rfl Tryz.ntmps10 rfl fun B=>?_
 refine d7 1 rfl rfl fun hlen=>?_
 have hsl:=DS want
 rw [hsl] at hlen
 repeat' (first|refine ae ?_|refine a6 ?_|refine a8 ?_|refine aa ?_|refine LF a7 I9 ?_|refine bo ?_|fail)
 refine ec Gb fun ab=>?_
 repeat' (first|refine ae ?_|refine a6 ?_|refine am ?_|refine a8 ?_|refine aa ?_|refine LF a7 I9 ?_)
 refine aJ [2,4,5,6,20,21] (α:=Nat) (fun i=>[(22,aH i)]) (fun i=>i≤want.length) (fun i=>[(ab,ca Gb (p6 (want.take i)))]) (fun i=>want.length - i) 0 rfl ⟨rfl,trivial⟩ (Nat.zero_le _) (fun σ w h=>?_) fun i hi=>?_
 ·rw [show p6 (want.take 0)=fun _=>none from funext fun v=>by cases v <;> rfl]
  exact h
 try dsimp only [Lp,Lo,Ln,Lh]
 repeat' (first|refine ae ?_|refine a6 ?_|refine a8 ?_|refine aa ?_|refine LF a7 I9 ?_)
 refine ay rfl (fun h=>?_) (fun h=>?_)
 ·have hil:i < want.length:=by have:=Ly h;omega
  obtain ⟨z,hz⟩:∃z,want[i]?=some z:=⟨_,Lz hil⟩
  have hzg:=vS hz
  clear h
  repeat' (first|refine ae ?_|refine a6 ?_|refine am ?_|refine au ?_|refine a8 ?_|refine aa ?_|refine LF a7 I9 ?_|(apply aU;first|refine aT a7 ?_|refine aN a7 ?_)|fail)
  refine dp 0 (p6 (want.take (i+1))) Tryz.underlying86 Tryz.underlying9 rfl rfl trivial rfl rfl ?_ (fun q hq=>?_) ?_
  ·show (if nR (want.take (i+1)) z then some (cQ true) else none)=_
   rw [sA hz]
   simp
  ·unfold p6
   split
   ·rename_i s
    rw [sA hz,decide_eq_false (show ¬z=s from fun e=>hq (by rw [e])),Bool.or_false]
   ·rfl
  repeat' (first|refine a6 ?_|refine a8 ?_|refine aM ?_|refine aa ?_|refine LF a7 I9 ?_|(apply aY;refine aX ?_)|fail)
  exact aE (i+1) rfl ⟨by rw [Ls];rfl,trivial⟩ hil (by omega) (fun _ _ h=>h)
 have hil:i=want.length:=by have:=Lw h;omega
 subst hil
 rw [List.take_length]
 clear h
 repeat' (first|refine ae ?_|refine a6 ?_|refine aL ?_|refine a8 ?_|refine av ?_|refine aA ?_|refine aw ?_)
 refine ec (.int .i64) fun nb=>?_
 repeat' (first|refine ae ?_|refine a6 ?_|refine am ?_|refine a8 ?_|refine aa ?_|refine LF a7 I9 ?_)
 have hfl:(f.Features.map bE).length=f.Features.length:=Lr ..
 have hpre:∀i,(c5 want (f.Features.take i)).length≤1000000:=fun i=>by
  have:c5 want f.Features=c5 want (f.Features.take i)++c5 want (f.Features.drop i):=by
   unfold c5
   rw [←List.flatten_append,←List.map_append,List.take_append_drop]
  rw [this,List.length_append] at hp
  omega
 refine aJ [5,6,9,31,32] (α:=Nat×Option (Nat×Nat×List AV)) (fun s=>[(4,tA s.2 (p7 (c5 want (f.Features.take s.1)))),(33,aH s.1)]) (fun s=>s.1≤f.Features.length∧xG s.2 (p7 (c5 want (f.Features.take s.1)))) (fun s=>[(nb,ca (.int .i64) (rN (c5 want (f.Features.take s.1)))),(ab,ca Gb (p6 want))]++Fg s.2 (p7 (c5 want (f.Features.take s.1)))) (fun s=>f.Features.length - s.1) (0,none) rfl ⟨rfl,rfl,trivial⟩ ⟨Nat.zero_le _,rfl⟩ (fun σ w h=>?_) ?_
 ·show cZ B σ ([(nb,ca (.int .i64) (rN [])),(ab,ca Gb (p6 want))]++[]) w
  rw [show rN []=fun _=>none from funext fun v=>by
   unfold rN
   split <;> rfl]
  exact h
 rintro ⟨i,q⟩ ⟨hi,hq⟩
 dsimp only at hi hq ⊢
 try dsimp only [Lp,Lo,Ln,Lh]
 repeat' (first|refine ae ?_|refine a6 ?_|refine a8 ?_|refine aa ?_|refine LF a7 I9 ?_)
 refine ay rfl (fun h=>?_) (fun h=>?_)
 ·have hil:i < f.Features.length:=by have:=Ly h;omega
  obtain ⟨t,ht⟩:∃z,f.Features[i]?=some z:=⟨_,Lz hil⟩
  have htg:=c7 (c:=bE) ht
  have hsucc:c5 want (f.Features.take (i+1))=c5 want (f.Features.take i)++se want t:=by
   unfold c5
   rw [List.take_add_one,ht,List.map_append,List.flatten_append]
   simp
  clear h
  have hps:=hpre (i+1)
  rw [hsucc,List.length_append] at hps
  generalize c5 want (f.Features.take i)=ps at *
  repeat' (first|refine ae ?_|refine a6 ?_|refine am ?_|refine au ?_|refine a8 ?_|refine aa ?_|refine LF a7 I9 ?_|(apply aU;first|refine aT a7 ?_|refine aN a7 ?_)|(apply aK;first|refine LH 11 a7 0 LE ?_|refine LH 11 a7 1 LE ?_|refine LH 11 a7 2 LE ?_|refine LG a7 0 LD ?_|refine LG a7 1 LD ?_|refine LG a7 2 LD ?_|refine LG a7 3 LD ?_|fail)|refine bg a7 fun _=>?_|fail)
  refine kT 1 (.bool false) Tryz.underlying86 Tryz.underlying9 rfl rfl trivial rfl (by kernel_rfl) rfl ?_
  rw [show (p6 want (.string t.Name)).getD (.sc (.bool false))=cQ (nR want t.Name) from Er want t.Name]
  repeat' (first|refine a8 ?_|refine aa ?_|refine LF a7 I9 ?_)
  cases hw:nR want t.Name with
  | false=>
   have hft:se want t=[]:=by unfold se;rw [hw];rfl
   rw [hft,List.append_nil] at hsucc
   repeat' (first|refine a6 ?_|refine aL ?_|refine a8 ?_|refine av ?_|refine aA ?_|refine aa ?_|refine LF a7 I9 ?_|(apply aY;refine aX ?_)|refine bV rfl ?_)
   exact aE (i+1,q) rfl ⟨by rw [hsucc];rfl,by rw [Ls];rfl,trivial⟩ ⟨hil,by dsimp only;rw [hsucc];exact hq⟩ (by dsimp only;omega) (fun _ _ h=>by rw [hsucc];exact h)
  | true=>
   have hft:se want t=t.Lookups.map fun l=>(dN t.Name,l):=by unfold se;rw [hw];rfl
   rw [hft] at hsucc hps
   rw [Lr] at hps
   have htl:=aW t.Lookups
   repeat' (first|refine ae ?_|refine a6 ?_|refine am ?_|refine au ?_|refine a8 ?_|refine aa ?_|refine LF a7 I9 ?_|(apply bw;refine bi ?_)|refine bk rfl ?_)
   refine aJ [5,6,9,12,31,32,33,46,47] (α:=Nat×Option (Nat×Nat×List AV)) (fun s=>[(4,tA s.2 (p7 (ps++(t.Lookups.take s.1).map fun l=>(dN t.Name,l)))),(48,aH s.1)]) (fun s=>s.1≤t.Lookups.length∧xG s.2 (p7 (ps++(t.Lookups.take s.1).map fun l=>(dN t.Name,l)))) (fun s=>[(nb,ca (.int .i64) (rN (ps++(t.Lookups.take s.1).map fun l=>(dN t.Name,l)))),(ab,ca Gb (p6 want))]++Fg s.2 (p7 (ps++(t.Lookups.take s.1).map fun l=>(dN t.Name,l)))) (fun s=>t.Lookups.length - s.1) (0,q) rfl ⟨?_,rfl,trivial⟩ ⟨Nat.zero_le _,?_⟩ (fun σ w h=>?_) ?_
   ·show some (tA q (p7 ps))=some (tA q (p7 (ps++[])));rw [List.append_nil]
   ·show xG q (p7 (ps++[]));rw [List.append_nil];exact hq
   ·show cZ B σ ([(nb,ca (.int .i64) (rN (ps++[]))),(ab,ca Gb (p6 want))]++Fg q (p7 (ps++[]))) w
    rw [List.append_nil]
    exact h
   clear hq
   rintro ⟨j,q⟩ ⟨hj,hq⟩
   dsimp only at hj hq ⊢
   try dsimp only [Lp,Lo,Ln,Lh]
   repeat' (first|refine ae ?_|refine a6 ?_|refine a8 ?_|refine aa ?_|refine LF a7 I9 ?_)
   refine ay rfl (fun h=>?_) (fun h=>?_)
   ·have hjl:j < t.Lookups.length:=by have:=Ly h;omega
    obtain ⟨z,hz⟩:∃z,t.Lookups[j]?=some z:=⟨_,Lz hjl⟩
    have hzg:=bO hz
    have hs2:(ps++(t.Lookups.take (j+1)).map fun l=>(dN t.Name,l))=(ps++(t.Lookups.take j).map fun l=>(dN t.Name,l))++[(dN t.Name,z)]:=by
     rw [List.take_add_one,hz,List.map_append,←List.append_assoc]
     rfl
    have hpl:(ps++(t.Lookups.take j).map fun l=>(dN t.Name,l)).length < 1000000:=by
     rw [List.length_append,Lr,List.length_take]
     omega
    have hdl:=to (ps++(t.Lookups.take j).map fun l=>(dN t.Name,l))
    generalize (ps++(t.Lookups.take j).map fun l=>(dN t.Name,l))=pp at *
    clear h
    obtain ⟨e1,e2⟩:=D3 pp z
    repeat' (first|refine ae ?_|refine a6 ?_|refine am ?_|refine au ?_|refine a8 ?_|refine aa ?_|refine LF a7 I9 ?_|(apply aU;first|refine aT a7 ?_|refine aN a7 ?_)|fail)
    refine cj rfl rfl (pO 0 (c0:= .agg [cQ false,cQ false,cQ false,cQ false,cQ false]) Tryz.underlying87 Tryz.underlying3 rfl rfl rfl rfl Tryz.zeroValue89 vY) fun c L' ⟨h1,h2⟩=>?_
    subst h1;subst h2
    rw [e1,e2]
    repeat' (first|refine ae ?_|refine a6 ?_|refine a8 ?_|refine aa ?_|refine LF a7 I9 ?_|(apply aK;first|refine LH 11 a7 0 LE ?_|refine LH 11 a7 1 LE ?_|refine LH 11 a7 2 LE ?_|refine LG a7 0 LD ?_|refine LG a7 1 LD ?_|refine LG a7 2 LD ?_|refine LG a7 3 LD ?_|fail)|refine bg a7 fun _=>?_|fail)
    rename_i rb
    have hd2:=C7 pp (dN t.Name,z)
    dsimp only at hd2
    refine te (α:=Option (Nat×Nat×List AV)) [4,5,6,9,12,14,15,31,32,33,46,47,48] (fun q'=>[(4,tA q' (p7 (pp++[(dN t.Name,z)]))),(5,.sc (.slice none 0 0)),(6,.sc (.map (some ab))),(9,.sc (.map (some nb))),(12,aH (dN t.Name)),(14,aH z),(15,.sc (.pointer (some ⟨rb,0,none⟩))),(31,.imm 2 (f.Features.map bE)),(32,.sc (.int .i64 ((f.Features.map bE).length:Int))),(33,aH i),(46,.imm 1 (aO t.Lookups)),(47,.sc (.int .i64 ((aO t.Lookups).length:Int))),(48,aH j)]) (fun q'=>(rb,.box (jA pp z) 89)::([(nb,ca (.int .i64) (rN pp)),(ab,ca Gb (p6 want))]++Fg q' (p7 (pp++[(dN t.Name,z)])))) (fun q'=>xG q' (p7 (pp++[(dN t.Name,z)]))) (fun Q' K=>?_) (fun q' hq'=>?_)
    ·cases hk:lA pp z with
     | true=>
      rw [hk,if_pos rfl] at hd2
      rw [hd2] at K
      repeat' (first|refine au ?_|refine bk rfl ?_)
      exact K q _ hq rfl
     | false=>
      rw [hk,if_neg (by simp)] at hd2
      rw [hd2] at K
      generalize p7 pp=ls at *
      repeat' (first|refine a6 ?_|refine LF a7 I9 ?_|refine bS a7 ?_|refine bV rfl ?_)
      cases q with
      | none=>
       cases hq
       unfold tA
       refine x4 a7 rfl rfl rfl rfl rfl rfl rfl rfl fun b' cs' cap' c1 c2 c3 c4=>?_
       repeat' (first|refine aa ?_|refine LF a7 I9 ?_)
       obtain ⟨js,rfl⟩:∃js,cs'=[z].map aH++js:=⟨cs'.drop 1,by
        have:=List.take_append_drop 1 cs'
        rw [show cs'.take 1=[aH z] from c2] at this
        exact this.symm⟩
       refine b6 (aR (List.perm_append_comm (l₁:=[_]))) ?_
       exact K (some (b',cap',js)) _ ⟨by simpa [Nat.add_comm] using c1,c4⟩ rfl
      | some x=>
       obtain ⟨b,cap,js⟩:=x
       obtain ⟨q1,q2⟩:=hq
       unfold tA
       refine sJ a7 3 rfl rfl rfl rfl rfl rfl rfl (by rw [List.length_append,Lr];omega) (by omega) q2 (by unfold maxLen;omega) (by omega) rfl fun b' cs' cap' c1 c2 c3 c4=>?_
       repeat' (first|refine aa ?_|refine LF a7 I9 ?_)
       obtain ⟨js',rfl⟩:∃js',cs'=(ls++[z]).map aH++js':=⟨cs'.drop (ls.length+1),by
        have:=List.take_append_drop (ls.length+1) cs'
        rw [Nat.mul_one,Nat.mul_one,List.take_left' (by simp)] at c2
        rw [c2] at this
        rw [List.map_append]
        exact this.symm⟩
       refine b6 (aR (List.perm_append_comm (l₁:=[_]))) ?_
       rw [List.length_append,Lr,Nat.mul_one] at c1
       have hl1:(ls++[z]).length=ls.length+1:=by rw [List.length_append];rfl
       exact K (some (b',cap',js')) _ ⟨c1,c4⟩ (by show fE _ _=some ((4,.sc (.slice _ (ls++[z]).length cap'))::_);rw [hl1];rfl)
    repeat' (first|refine ae ?_|refine a6 ?_|refine LF a7 I9 ?_)
    obtain ⟨m,hm⟩:∃m:Nat,dN t.Name=m:=⟨(dN t.Name).toNat,by have:=uR t.Name;omega⟩
    have hm4:m≤4:=by have:=uR t.Name;omega
    refine x5 a7 m rfl rfl rfl hm (by omega) rfl ?_
    repeat' (first|fail)
    refine jt a7 0 m rfl rfl (by omega) rfl rfl rfl (by show m < 5;omega) ?_
    rw [xl pp m hm4 z,←hm]
    repeat' (first|refine a6 ?_|refine a8 ?_|refine aa ?_|refine LF a7 I9 ?_|(apply bL;first|refine LI a7 0 LC ?_|refine LI a7 1 LC ?_|refine LI a7 2 LC ?_|refine LI a7 3 LC ?_|refine LJ a7 0 LC ?_|refine LJ a7 1 LC ?_|refine LJ a7 2 LC ?_|refine LL a7 1 LA (by assumption) rfl ?_|refine LL a7 0 LA (by assumption) rfl ?_|fail)|fail)
    refine dp 1 (rN (pp++[(dN t.Name,z)])) Tryz.underlying87 Tryz.underlying3 rfl rfl rfl rfl rfl (D4 pp (dN t.Name) z) (fun q hq=>Ab pp (dN t.Name) z q hq) ?_
    repeat' (first|refine a6 ?_|refine a8 ?_|refine aM ?_|refine aa ?_|refine LF a7 I9 ?_|(apply aY;refine aX ?_)|fail)
    exact aE (j+1,q') rfl ⟨by dsimp only;rw [hs2];rfl,by rw [Ls];rfl,trivial⟩ ⟨hjl,by dsimp only;rw [hs2];exact hq'⟩ (by dsimp only;omega) (fun _ _ h=>by dsimp only;rw [hs2];exact cZ.sublist h (List.sublist_cons_self ..))
   ·have hjl:j=t.Lookups.length:=by have:=Lw h;omega
    subst hjl
    rw [List.take_length] at hq ⊢
    clear h
    repeat' (first|refine a6 ?_|refine aL ?_|refine a8 ?_|refine av ?_|refine aM ?_|refine aA ?_|refine aw ?_|refine aa ?_|refine LF a7 I9 ?_|(apply aY;refine aX ?_)|fail)
    exact aE (i+1,q) rfl ⟨by rw [hsucc];rfl,by rw [Ls];rfl,trivial⟩ ⟨hil,by dsimp only;rw [hsucc];exact hq⟩ (by dsimp only;omega) (fun _ _ h=>by rw [hsucc];exact h)
 have hil:i=f.Features.length:=by have:=Lw h;omega
 subst hil
 rw [List.take_length] at hq ⊢
 clear h hpre
 repeat' (first|refine ae ?_|refine a6 ?_|refine aL ?_|refine a8 ?_|refine av ?_|refine aA ?_|refine aw ?_|refine LF a7 I9 ?_)
 have hdl:=to (c5 want f.Features)
 have hsl2:=gL (p7 (c5 want f.Features))
 refine BK [4,5,9] [(4,.imm 1 (aO (cI want f))),(5,.sc (.slice none 0 0)),(9,.sc (.map (some nb)))] [(nb,ca (.int .i64) (rN (c5 want f.Features)))] (fun Q1 K=>?_) ?_
 ·unfold cI at K
  generalize p7 (c5 want f.Features)=ls at *
  cases q with
  | none=>
   cases hq
   unfold tA
   refine bh [] _ (DN none 0 []) rfl rfl (Ll _) rfl fun c L1 hL=>?_
   subst hL
   repeat' (first|refine aa ?_)
   refine b6 (bA (t:=4) (c':= .imm 1 (aO (fI []))) rfl fun σ v h=>by rw [show aO (fI [])=[] by simp [fI,aO]];exact dJ 1 h) ?_
   refine dW (L':=[(nb,ca (.int .i64) (rN (c5 want f.Features)))]) (List.Sublist.cons_cons _ (List.nil_sublist _)) ?_
   exact K _ rfl
  | some x=>
   obtain ⟨b,cap,js⟩:=x
   obtain ⟨q1,q2⟩:=hq
   unfold tA
   refine bh [(b,.box (ls.map aH++js) 3)] [(nb,ca (.int .i64) (rN (c5 want f.Features))),(ab,ca Gb (p6 want))] (DL b cap ls js (by omega)) rfl rfl (List.perm_append_comm (l₁:=[_,_])) rfl fun c L1 hL=>?_
   subst hL
   repeat' (first|refine aa ?_)
   refine b6 (cW (t:=4) (sz:=1) (l:=aO (fI ls)) 0 rfl rfl (by rw [Nat.mul_one,←hsl2,List.take_left' (by rw [Lr]),←qQ]) (by rw [List.length_append,Lr];omega) (fun q hq=>by obtain ⟨y,_,rfl⟩:=List.mem_map.1 hq;rfl) (by rw [aW,hsl2]) (by omega) q2) ?_
   refine dW (L':=[(nb,ca (.int .i64) (rN (c5 want f.Features)))]) (List.Sublist.cons_cons _ (List.nil_sublist _)) ?_
   exact K _ rfl
 have hpl:(cI want f).length≤1000000:=by unfold cI;omega
 have hpi:=aW (cI want f)
 repeat' (first|refine ae ?_|refine a6 ?_|refine am ?_|refine a8 ?_|refine aa ?_|refine LF a7 I9 ?_)
 refine bK (bA (t:=5) rfl fun σ v h=>cC 1 h) ?_
 refine aJ [4,9,73,74] (α:=Nat×Option (Nat×Nat)) (fun s=>[(5,.vec s.2 1 (aZ (((cI want f).take s.1).map fun l=>fv (lK (c5 want f.Features) l) 5))),(75,aH s.1)]) (fun s=>s.1≤(cI want f).length) (fun s=>[(nb,ca (.int .i64) (rN (c5 want f.Features)))]++tok s.2 22 1 (aZ (((cI want f).take s.1).map fun l=>fv (lK (c5 want f.Features) l) 5)).length) (fun s=>(cI want f).length - s.1) (0,none) rfl ⟨rfl,rfl,trivial⟩ (Nat.zero_le _) (fun _ _ h=>h) ?_
 rintro ⟨i,k⟩ hi
 dsimp only at hi ⊢
 try dsimp only [Lp,Lo,Ln,Lh]
 repeat' (first|refine ae ?_|refine a6 ?_|refine a8 ?_|refine aa ?_|refine LF a7 I9 ?_)
 refine ay rfl (fun h=>?_) (fun h=>?_)
 ·have hil:i < (cI want f).length:=by have:=Ly h;omega
  obtain ⟨z,hz⟩:∃z,(cI want f)[i]?=some z:=⟨_,Lz hil⟩
  have hzg:=bO hz
  have hrl:(aZ (((cI want f).take i).map fun l=>fv (lK (c5 want f.Features) l) 5)).length=i:=by
   rw [cw,Lr,List.length_take]
   omega
  have hrs:aZ (((cI want f).take (i+1)).map fun l=>fv (lK (c5 want f.Features) l) 5)=aZ (((cI want f).take i).map fun l=>fv (lK (c5 want f.Features) l) 5)++[[.imm 1 (aO (fv (lK (c5 want f.Features) z) 5))]]:=by
   rw [List.take_add_one,hz,List.map_append]
   simp [aZ]
  have hrl2:(aZ (((cI want f).take (i+1)).map fun l=>fv (lK (c5 want f.Features) l) 5)).length=i+1:=by
   rw [hrs,List.length_append,hrl]
   rfl
  clear h
  have e1:=(D3 (c5 want f.Features) z).1
  repeat' (first|refine ae ?_|refine a6 ?_|refine am ?_|refine au ?_|refine a8 ?_|refine aa ?_|refine LF a7 I9 ?_|(apply aU;first|refine aT a7 ?_|refine aN a7 ?_)|fail)
  refine cj rfl rfl (jh 0 (c0:= .agg [cQ false,cQ false,cQ false,cQ false,cQ false]) Tryz.underlying87 Tryz.underlying3 rfl rfl rfl rfl Tryz.zeroValue89 vY) fun c L' ⟨h1,h2⟩=>?_
  subst h1;subst h2
  rw [e1]
  refine bi (hc:=⟨HX _ _ _ _ _⟩) ?_
  repeat' (first|refine bS a7 ?_|fail)
  refine bP a7 [(nb,ca (.int .i64) (rN (c5 want f.Features)))] rfl rfl rfl rfl (List.perm_append_comm (l₁:=[_])) (by rw [hrl];simp;omega) (by rw [hrl];simp;omega) rfl fun k'=>?_
  rw [show aZ (((cI want f).take i).map fun l=>fv (lK (c5 want f.Features) l) 5)++[[.imm 1 (aO (fv [eE (c5 want f.Features) 0 z,eE (c5 want f.Features) 1 z,eE (c5 want f.Features) 2 z,eE (c5 want f.Features) 3 z,eE (c5 want f.Features) 4 z] 5))]]=aZ (((cI want f).take (i+1)).map fun l=>fv (lK (c5 want f.Features) l) 5) from hrs.symm]
  refine aS (aR (List.perm_append_comm (l₂:=[_]))) ?_
  repeat' (first|refine a6 ?_|refine a8 ?_|refine aM ?_|refine aa ?_|refine LF a7 I9 ?_|(apply aY;refine aX ?_)|fail)
  exact aE (i+1,k') rfl ⟨rfl,by rw [Ls];rfl,trivial⟩ hil (by dsimp only;omega) (fun _ _ h=>h)
 ·have hil:i=(cI want f).length:=by have:=Lw h;omega
  subst hil
  rw [List.take_length]
  clear h
  repeat' (first|refine ae ?_|refine a6 ?_|refine aq ?_|refine aL ?_|refine a8 ?_|refine av ?_|refine aA ?_|refine aw ?_|refine aa ?_|refine LF a7 I9 ?_)
  refine b6 (bA (t:=5) rfl fun σ v h=>h.im) ?_
  refine dW (List.nil_sublist _) ?_
  exact LR LB
set_option maxRecDepth 8000
def kw (f:aV) (x:bn):bn:={ x with Advance:=((f.Glyphs[x.Glyph.toNat]?).map bf.Advance).getD 0 }
abbrev w4 (f f2:aV) (u:AV):AB:= .box (c6 f++c6 f2++[u]) 112
theorem xQ {P:Program} {r:Option Nat} {C:Code} {Q:Exit→Act→World→Prop} {nt:Nat} {D:List Deferred} {fr:bY} {B:Bs} {L L':AL} (hs:L'.Sublist L) (h:AT P r C Q nt D fr B L'):AT P r C Q nt D fr B L:=bK (bX hs) h
theorem so {u:AV} {y:bn} (junk:List AV):∀{r:List bn} {i j:Nat} {x:bn},r[i]?=some x→j < 6→dB y=(dB x).set j u→(eu r++junk).set (i * 6+j) u=eu (r.set i y)++junk
 | [],i,_,_,h,_,_=>by simp at h
 | z::r,0,j,x,h,hj,hy=>by
  simp at h
  subst h
  rw [List.set_cons_zero,gE,gE,List.append_assoc,Nat.zero_mul,Nat.zero_add,List.set_append_left _ _ (show j < (dB z).length from hj),hy,List.append_assoc]
 | z::r,i+1,j,x,h,hj,hy=>by
  have:=so junk (r:=r) (i:=i) (by simpa using h) hj hy
  rw [List.set_cons_succ,gE,gE,List.append_assoc,List.append_assoc,List.set_append_right _ _ (show (dB z).length≤(i+1) * 6+j by show 6≤_;omega),←this]
  congr 2
  show (i+1) * 6+j - 6=_
  omega
def pH (f:aV) (run:List bn) (i:Nat):List bn:=(run.take i).map (kw f)++run.drop i
theorem By (f:aV) (run:List bn) (i:Nat):(pH f run i).length=run.length:=by
 unfold pH
 rw [List.length_append,Lr,List.length_take,List.length_drop]
 omega
theorem Bx {f:aV} {run:List bn} {i:Nat} {x:bn} (h:run[i]?=some x):(pH f run i)[i]?=some x:=by
 have hi:=(Lm h).1
 have hl:((run.take i).map (kw f)).length=i:=by rw [Lr,List.length_take];omega
 unfold pH
 rw [List.getElem?_append_right (by omega),hl,Nat.sub_self,List.getElem?_drop,Nat.add_zero]
 exact h
theorem Bz {f:aV} {run:List bn} {i:Nat} {x:bn} (h:run[i]?=some x):(pH f run i).set i (kw f x)=pH f run (i+1):=by
 have hi:=(Lm h).1
 have hl:((run.take i).map (kw f)).length=i:=by rw [Lr,List.length_take];omega
 unfold pH
 rw [List.set_append_right _ _ (by omega),hl,Nat.sub_self,List.take_add_one,h,List.map_append,List.drop_eq_getElem_cons hi,List.set_cons_zero,List.append_assoc]
 rfl
theorem Gx {α:Type} {s:α} {A C U:List α}:(A++(s::(C++U))).Perm (C++(A++(s::U))):=by
 refine ((List.perm_middle (a:=s) (l₁:=C) (l₂:=U)).symm.append_left A).trans ?_
 rw [←List.append_assoc,←List.append_assoc]
 exact List.perm_append_comm.append_right _
theorem Jd {α:Type} {s:α} {A C U:List α}:(C++(A++(s::U))).Perm (s::(A++(C++U))):=Gx.symm.trans List.perm_middle
set_option maxHeartbeats 16000000 in
theorem AN (f f2:aV) (rs:List Int) (want:List ByteArray) (u:AV) (sb:Nat) (Lu:AL) (hr:rs.length≤1000000) (h20:rV rs) (hc:f.Chars.length≤1000000) (hF:f.Features.length≤1000000) (hp:(c5 want f.Features).length≤1000000)
  (hk:∀l∈cI want f,0≤l∧∃q,f.Lookups[l.toNat]?=some q∧1≤q.Kind∧q.Kind≤5) (run:List bn) (hu:∀q,kD q (d8 f rs)→ja Tryz.prog u [.imm 1 (aO (cI want f)),.imm 1 (aZ (gk want f)),fH q (d8 f rs)] (eZ q (d8 f rs)++Lu) (GR run Lu)) (hrl:run.length≤1000000) (hG:∀x∈run,0≤x.Glyph∧x.Glyph < f2.Glyphs.length):
  AC Tryz.prog 38 [iO sb,.imm 1 (aO rs),.imm 1 (rq want)] ((sb,w4 f f2 u)::Lu) fun c L=>c= .imm 6 ((run.map (kw f2)).map dB)∧L=Lu:=by
 refine aP Tryz.func38 rfl Tryz.ntmps38 rfl fun B=>?_
 haveI i0:=AD.mk (Dh f want hF hp)
 have hst:=DP f rs hr h20 hc
 have hpll:(cI want f).length≤1000000:=by
  have:=gL (p7 (c5 want f.Features))
  have:=to (c5 want f.Features)
  unfold cI;omega
 have hpfl:(gk want f).length=(cI want f).length:=by unfold gk;rw [Lr]
 have hil:=aW (cI want f)
 have hfl:=cw (gk want f)
 repeat' (first|refine ae ?_|refine a6 ?_|refine a8 ?_|refine aa ?_|refine LF a7 I9 ?_|(apply bL;first|refine LI a7 0 LC ?_|refine LI a7 1 LC ?_|refine LI a7 2 LC ?_|refine LI a7 3 LC ?_|refine LJ a7 0 LC ?_|refine LJ a7 1 LC ?_|refine LJ a7 2 LC ?_|refine LL a7 1 LA (by assumption) rfl ?_|refine LL a7 0 LA (by assumption) rfl ?_|fail)|fail)
 rw [show AV.agg (List.take 9 (List.drop (0+0) (c6 f++c6 f2++[u])))=cD f from rfl]
 repeat' (first|refine ae ?_|refine a6 ?_|refine am ?_|refine a8 ?_|refine aa ?_|refine LF a7 I9 ?_|(apply bw;refine bi ?_)|fail)
 refine bK (bA (t:=7) rfl fun σ v h=>cC 1 h) ?_
 refine bK (bA (t:=9) rfl fun σ v h=>cC 1 h) ?_
 refine aJ [0,1,11,27,28] (α:=Nat×Option (Nat×Nat)×Option (Nat×Nat)) (fun s=>[(7,.vec s.2.1 1 (aO ((cI want f).take s.1))),(9,.vec s.2.2 1 (aZ ((gk want f).take s.1))),(8,.sc (.slice none 0 0)),(29,aH s.1)]) (fun s=>s.1≤(cI want f).length) (fun s=>(sb,w4 f f2 u)::(tok s.2.1 3 1 s.1++(tok s.2.2 22 1 s.1++Lu))) (fun s=>(cI want f).length - s.1) (0,none,none) rfl ⟨rfl,rfl,rfl,rfl,trivial⟩ (Nat.zero_le _) (fun _ _ h=>h) ?_
 rintro ⟨i,k1,k2⟩ hi
 dsimp only at hi ⊢
 try dsimp only [Lp,Lo,Ln,Lh]
 repeat' (first|refine ae ?_|refine a6 ?_|refine a8 ?_|refine aa ?_|refine LF a7 I9 ?_)
 refine ay rfl (fun h=>?_) (fun h=>?_)
 ·have hil:i < (cI want f).length:=by have:=Ly h;omega
  obtain ⟨z,hz⟩:∃z,(cI want f)[i]?=some z:=⟨_,Lz hil⟩
  obtain ⟨y,hy⟩:∃z,(gk want f)[i]?=some z:=⟨_,Lz (by omega)⟩
  have hzg:=bO hz
  have hyg:=jC hy
  obtain ⟨h0,lk,hlk,hk1,hk5⟩:=hk z (Lv hz)
  have hlg:=c7 (c:=bv) hlk
  clear h
  repeat' (first|refine ae ?_|refine a6 ?_|refine am ?_|refine au ?_|refine a8 ?_|refine aa ?_|refine LF a7 I9 ?_|(apply bL;first|refine LI a7 0 LC ?_|refine LI a7 1 LC ?_|refine LI a7 2 LC ?_|refine LI a7 3 LC ?_|refine LJ a7 0 LC ?_|refine LJ a7 1 LC ?_|refine LJ a7 2 LC ?_|refine LL a7 1 LA (by assumption) rfl ?_|refine LL a7 0 LA (by assumption) rfl ?_|fail)|(apply aU;first|refine aT a7 ?_|refine aN a7 ?_)|fail)
  refine te (α:=Unit) [0,1,7,8,9,11,12,13,27,28,29,47] (fun _=>[(0,iO sb),(1,.imm 1 (aO rs)),(7,.vec k1 1 (aO (List.take i (cI want f)))),(8,.sc (.slice none 0 0)),(9,.vec k2 1 (aZ (List.take i (gk want f)))),(11,.imm 1 (aZ (gk want f))),(12,aH i),(13,aH z),(27,.imm 1 (aO (cI want f))),(28,.sc (.int .i64 ((aO (cI want f)).length:Int))),(29,aH i),(47,cQ true)]) (fun _=>(sb,w4 f f2 u)::(tok k1 3 1 i++(tok k2 22 1 i++Lu))) (fun _=>True) (fun Q' K=>?_) (fun _ _=>?_)
  ·have hkk:lk.Kind=1∨lk.Kind=2∨lk.Kind=3∨lk.Kind=4∨lk.Kind=5:=by omega
   rcases hkk with e | e | e | e | e <;> rw [e]
   all_goals
    repeat' (first|refine ae ?_|refine a6 ?_|refine au ?_|refine a8 ?_|refine aa ?_|refine LF a7 I9 ?_|refine bV rfl ?_|refine bk rfl ?_)
    exact K () _ trivial rfl
  have htl:(aO (List.take i (cI want f))).length=i:=by rw [aW,List.length_take];omega
  have htf:(aZ (List.take i (gk want f))).length=i:=by rw [cw,List.length_take];omega
  have hs1:aO (List.take (i+1) (cI want f))=aO (List.take i (cI want f))++[[aH z]]:=by rw [List.take_add_one,hz];unfold aO;rw [List.map_append];rfl
  have hs2:aZ (List.take (i+1) (gk want f))=aZ (List.take i (gk want f))++[[.imm 1 (aO y)]]:=by rw [List.take_add_one,hy];simp [aZ]
  repeat' (first|refine ae ?_|refine a6 ?_|refine LF a7 I9 ?_|refine bS a7 ?_|refine bV rfl ?_)
  refine bP a7 ((sb,w4 f f2 u)::(tok k2 22 1 i++Lu)) rfl rfl rfl rfl (by rw [htl];exact List.perm_middle.symm) (by rw [htl];simp;omega) (by rw [htl];simp;omega) rfl fun k1'=>?_
  rw [show (aO (List.take i (cI want f))++[[aH z]]).length=i+1 by rw [List.length_append,htl];rfl]
  repeat' (first|refine a6 ?_|refine a8 ?_|refine aa ?_|refine LF a7 I9 ?_|(apply aU;first|refine aT a7 ?_|refine aN a7 ?_)|refine bS a7 ?_|fail)
  refine bP a7 (tok k1' 3 1 (i+1)++(sb,w4 f f2 u)::Lu) rfl rfl rfl rfl (by rw [htf];exact Gx) (by rw [htf];simp;omega) (by rw [htf];simp;omega) rfl fun k2'=>?_
  rw [show (aZ (List.take i (gk want f))++[[AV.imm 1 (aO y)]]).length=i+1 by rw [List.length_append,htf];rfl]
  repeat' (first|refine a6 ?_|refine a8 ?_|refine aM ?_|refine aa ?_|refine LF a7 I9 ?_|(apply aY;refine aX ?_)|fail)
  exact aE (i+1,k1',k2') rfl ⟨by dsimp only;rw [hs1];rfl,by dsimp only;rw [hs2];rfl,rfl,by rw [Ls];rfl,trivial⟩ hil (by dsimp only;omega) (fun _ _ h=>h.perm Jd)
 ·have hil2:i=(cI want f).length:=by have:=Lw h;omega
  subst hil2
  rw [List.take_length,List.take_of_length_le (Nat.le_of_eq hpfl)]
  clear h
  repeat' (first|refine ae ?_|refine aL ?_|refine a8 ?_|refine av ?_|refine aA ?_|refine aw ?_)
  refine bK (bA (t:=7) (c':= .imm 1 (aO (cI want f))) rfl fun σ v h=>VR.im h) ?_
  refine bK (bA (t:=9) (c':= .imm 1 (aZ (gk want f))) rfl fun σ v h=>VR.im h) ?_
  refine xQ (L':=(sb,w4 f f2 u)::Lu) (List.Sublist.cons_cons _ ((List.sublist_append_right _ _).trans (List.sublist_append_right _ _))) ?_
  repeat' (first|fail)
  refine dv [.cell (sb,18,u)] 12 [(0,.v),(1,.v),(2,.v),(3,.k),(4,.v),(5,.v),(6,.v),(7,.v),(8,.v),(9,.l),(10,.v),(11,.f)] none ?_ trivial rfl (by kernel_rfl) (by kernel_rfl) (by kernel_rfl) mixed (by kernel_rfl) rfl
  repeat' (first|refine aF ?_|refine b9 a7 ?_|fail)
  refine dH a7 0 rfl rfl rfl (mN 0 rfl rfl) (by first | trivial | rfl) ?_
  repeat' (first|refine aF ?_|refine b9 a7 ?_|refine pk a7 0 rfl rfl rfl rfl (by first|trivial|rfl) ?_)
  rw [show AV.agg (List.take 9 (List.drop (0+0) (c6 f++c6 f2++[u])))=cD f from rfl]
  repeat' (first|fail)
  refine tk [] ((sb,w4 f f2 u)::Lu) hst rfl rfl (Ll _) trivial (fun c L1 ⟨q,_,_,hL1⟩ _=>by
   subst hL1
   exact mN (eZ q (d8 f rs)).length (by rw [List.getElem?_append_right (Nat.le_refl _),Nat.sub_self];rfl) rfl) fun c L1 ⟨q,hq,hc1,hL1⟩=>?_
  subst hc1;subst hL1
  repeat' (first|fail)
  refine LP [0,8,68,69,70,76] I9 ?_
  repeat' (first|fail)
  refine lm (eZ q (d8 f rs)++Lu) [(sb,w4 f f2 u)] (hu q hq) rfl rfl ?_ rfl rfl fun c L1 ⟨q2,hq2,hc2,hL2⟩=>?_
  ·rw [List.append_assoc]
   exact (List.perm_append_comm (l₁:=[_])).append_left _
  subst hc2;subst hL2
  refine aS (aR (L':=eZ q2 run++((sb,w4 f f2 u)::Lu)) (by rw [List.append_assoc];exact (List.perm_append_comm (l₁:=Lu)).append_left _)) ?_
  clear hst hu i0
  cases q2 with
  | none=>
   have he:=hq2.emp rfl
   subst he
   unfold fH eZ
   dsimp only
   repeat' (first|refine ae ?_|refine a6 ?_|refine am ?_|refine a8 ?_|refine aa ?_|refine LF a7 I9 ?_)
   refine aJ [0,8,14,79] (α:=Unit) (fun _=>[(80,aH 0),(14,.imm 6 [])]) (fun _=>True) (fun _=>[]++((sb,w4 f f2 u)::Lu)) (fun _=>0) () rfl ⟨rfl,rfl,trivial⟩ trivial (fun _ _ h=>h) ?_
   rintro ⟨⟩ -
   try dsimp only [Lp,Lo,Ln,Lh]
   repeat' (first|refine ae ?_|refine a6 ?_|refine am ?_|refine aL ?_|refine a8 ?_|refine av ?_|refine aA ?_|refine aw ?_|refine aa ?_|refine LF a7 I9 ?_|refine bk rfl ?_)
   refine aJ [0,101,102] (α:=Unit) (fun _=>[(103,aH 0),(14,.imm 6 [])]) (fun _=>True) (fun _=>[]++((sb,w4 f f2 u)::Lu)) (fun _=>0) () rfl ⟨rfl,rfl,trivial⟩ trivial (fun _ _ h=>h) ?_
   rintro ⟨⟩ -
   try dsimp only [Lp,Lo,Ln,Lh]
   repeat' (first|refine ae ?_|refine a6 ?_|refine aq ?_|refine aL ?_|refine a8 ?_|refine av ?_|refine aA ?_|refine aw ?_|refine aa ?_|refine LF a7 I9 ?_|refine bk rfl ?_)
   refine dW (L':=Lu) (List.sublist_cons_self _ _) ?_
   exact LM I9 ⟨rfl,rfl⟩
  | some m=>
   obtain ⟨m1,m2,m3⟩:=hq2.fit m rfl
   unfold fH eZ
   dsimp only
   repeat' (first|refine ae ?_|refine a6 ?_|refine am ?_|refine a8 ?_|refine aa ?_|refine LF a7 I9 ?_)
   refine aJ [0,8,14,79] (α:=Nat) (fun i=>[(80,aH i),(14,.sc (.slice (some ⟨m.rb,0,none⟩) run.length m.cap))]) (fun i=>i≤run.length) (fun i=>[(m.rb,.box (eu (pH f2 run i)++m.junk) 56)]++((sb,w4 f f2 u)::Lu)) (fun i=>run.length - i) 0 rfl ⟨rfl,rfl,trivial⟩ (Nat.zero_le _) (fun _ _ h=>h) fun i hi=>?_
   try dsimp only [Lp,Lo,Ln,Lh]
   repeat' (first|refine ae ?_|refine a6 ?_|refine a8 ?_|refine aa ?_|refine LF a7 I9 ?_)
   refine ay rfl (fun h=>?_) (fun h=>?_)
   ·have hil:i < run.length:=by have:=Ly h;omega
    obtain ⟨x,hx⟩:∃z,run[i]?=some z:=⟨_,Lz hil⟩
    obtain ⟨g1,g2⟩:=hG x (Lv hx)
    obtain ⟨g,hg⟩:∃z,f2.Glyphs[x.Glyph.toNat]?=some z:=⟨_,Lz (by omega)⟩
    have hgg:=c7 (c:=bj) hg
    have hxr:=Bx (f:=f2) hx
    have hset:=Bz (f:=f2) hx
    have hal:=By f2 run i
    have hadv:kw f2 x={ x with Advance:=g.Advance }:=by unfold kw;rw [hg];rfl
    rw [hadv] at hset
    have hfx:=IJ m.junk hxr (j:=0) rfl
    have hput:=so m.junk hxr (j:=3) (u:=aH g.Advance) (y:={ x with Advance:=g.Advance }) (by omega) rfl
    rw [hset] at hput
    generalize pH f2 run i=rr at *
    clear h
    repeat' (first|refine ae ?_|refine a6 ?_|refine am ?_|refine au ?_|refine a8 ?_|refine aa ?_|refine LF a7 I9 ?_)
    refine bI 15 [(0,.v),(1,.v),(2,.v),(3,.v),(4,.v),(5,.v),(6,.l),(7,.v),(8,.v),(9,.v),(10,.v),(11,.l),(12,.v),(13,.v),(14,.v)] none ?_ trivial rfl (by kernel_rfl) (by kernel_rfl) (by kernel_rfl) mixed (by kernel_rfl) rfl
    repeat' (first|refine aF ?_|refine b9 a7 ?_|refine cS a7 1 rfl rfl rfl rfl (by first|trivial|rfl) ?_)
    refine df a7 rfl rfl rfl ⟨by omega,by omega⟩ trivial ?_
    repeat' (first|refine aF ?_|refine b9 a7 ?_|fail)
    refine cS a7 0 rfl rfl rfl hfx (by first | trivial | rfl) ?_
    repeat' (first|refine aF ?_|refine b9 a7 ?_|(apply cE;refine d5 a7 ?_)|fail)
    refine LP [0,8,14,79,80,83,84,97] I9 ?_
    repeat' (first|refine LF a7 I9 ?_|(apply aU;first|refine aT a7 ?_|refine aN a7 ?_)|fail)
    refine jt a7 0 (i * 6+3) rfl rfl (by show 0+((i:Nat):Int).toNat * 6+3=_;rw [Int.toNat_natCast,Nat.zero_add]) rfl rfl rfl (by rw [List.length_append,jl];omega) ?_
    rw [hput]
    repeat' (first|refine a6 ?_|refine a8 ?_|refine aM ?_|refine aa ?_|refine LF a7 I9 ?_|(apply aY;refine aX ?_)|fail)
    exact aE (i+1) rfl ⟨by rw [Ls];rfl,rfl,trivial⟩ hil (by omega) (fun _ _ h=>h)
   ·have hil:i=run.length:=by have:=Lw h;omega
    subst hil
    have hall:pH f2 run run.length=run.map (kw f2):=by unfold pH;rw [List.take_length,List.drop_length,List.append_nil]
    rw [hall]
    clear h
    repeat' (first|refine ae ?_|refine a6 ?_|refine am ?_|refine aL ?_|refine a8 ?_|refine av ?_|refine aA ?_|refine aw ?_|refine aa ?_|refine LF a7 I9 ?_)
    refine aJ [0,101,102] (α:=Unit) (fun _=>[(103,aH 0),(14,.sc (.slice (some ⟨m.rb,0,none⟩) run.length m.cap))]) (fun _=>True) (fun _=>(m.rb,.box (eu (run.map (kw f2))++m.junk) 56)::((sb,w4 f f2 u)::Lu)) (fun _=>0) () rfl ⟨rfl,rfl,trivial⟩ trivial (fun _ _ h=>h) ?_
    rintro ⟨⟩ -
    try dsimp only [Lp,Lo,Ln,Lh]
    repeat' (first|refine ae ?_|refine a6 ?_|refine aq ?_|refine aL ?_|refine a8 ?_|refine av ?_|refine aA ?_|refine aw ?_|refine aa ?_|refine LF a7 I9 ?_|refine bk rfl ?_)
    have hml:(run.map (kw f2)).length=run.length:=Lr ..
    refine b6 (sZ (t:=6) (q:=some m) (run:=run.map (kw f2)) (Lf:=(sb,w4 f f2 u)::Lu) ⟨fun h=>(by cases h),fun m' hm=>?_⟩ (by unfold fH;dsimp only;rw [hml];rfl)) ?_
    ·cases hm
     rw [List.length_append,jl] at m3 ⊢
     rw [hml]
     exact ⟨m1,m2,m3⟩
    refine dW (L':=Lu) (List.sublist_cons_self _ _) ?_
    exact LM I9 ⟨rfl,rfl⟩
end Go.Proofs.YtamjlkdanllgjaaGreatDoor
