/-
  Structs and arrays that are built; checks for nil; fields of values; arrays.
-/
import Derived.Test.YtamjlkdanllgjaaGreatDoorM03
import Derived.Laws.Tables
import Derived.RangeFuncNested
import Derived.RangeFuncLeaves
namespace Go.Proofs.YtamjlkdanllgjaaGreatDoor
open Go.RowKit
def ta (pl:Nat→Option (Nat×Nat)) (z:List AV):List (Nat×AV)→Option (List AV)
 | []=>some z
 | (i,c)::r=>match pl i with
  | none=>none
  | some (off,n)=>match c.cells with
   | none=>none
   | some ys=>bif Nat.beq ys.length n && Nat.ble (off+n) z.length then ta pl (eR z off ys) r else none
theorem rm {σ:cm} {pl:Nat→Option (Nat×Nat)}:∀{is:List Nat} {cs z out:List AV} {vs zc:List Value},d4 σ cs vs→d4 σ z zc→(∀u∈zc,u.oneCell'=true)→ta pl z (is.zip cs)=some out→∃oc:List Value,Instr.fill pl zc.toArray (is.zip vs)=some oc.toArray∧d4 σ out oc∧∀u∈oc,u.oneCell'=true
 | [],cs,z,out,vs,zc,_,hz,h1,h=>by
  simp only [List.zip_nil_left,ta,Option.some.injEq] at h
  subst h
  exact ⟨zc,by simp [Instr.fill],hz,h1⟩
 | i::is,[],z,out,vs,zc,hc,hz,h1,h=>by
  rw [hc.nil_inv]
  simp only [List.zip_nil_right,ta,Option.some.injEq] at h ⊢
  subst h
  exact ⟨zc,by simp [Instr.fill],hz,h1⟩
 | i::is,c::cs,z,out,vs,zc,hc,hz,h1,h=>by
  obtain ⟨v,ws,rfl,hv,hs⟩:=hc.inv
  simp only [List.zip_cons_cons,ta] at h ⊢
  cases hp:pl i with
  | none=>rw [hp] at h;cases h
  | some q=>
   obtain ⟨off,n⟩:=q
   rw [hp] at h
   simp only at h
   cases hcc:c.cells with
   | none=>rw [hcc] at h;cases h
   | some ys=>
    rw [hcc] at h
    simp only at h
    cases hb:(Nat.beq ys.length n && Nat.ble (off+n) z.length) with
    | false=>rw [hb] at h;cases h
    | true=>
     rw [hb] at h
     simp only [cond_true] at h
     simp only [Bool.and_eq_true,Nat.beq_eq,Nat.ble_eq] at hb
     obtain ⟨k1,k2⟩:=hv.cells hcc
     have hl1:=k1.1
     have hl2:=hz.1
     have hvs:v.cells.size=n:=by rw [←hb.1,hl1];simp
     obtain ⟨f1,f2⟩:=oH off v.cells.toList 0 zc.toArray
     have ef:v.cells.zipIdx.foldl (fun (cs:Array Value) (x:Value×Nat)=>cs.setIfInBounds (off+x.2) x.1) zc.toArray=(v.cells.toList.zipIdx 0).foldl (fun (a:Array Value) (p:Value×Nat)=>a.setIfInBounds (off+p.2) p.1) zc.toArray:=by
      rw [←Array.foldl_toList,Array.toList_zipIdx]
     generalize (v.cells.toList.zipIdx 0).foldl (fun (a:Array Value) (p:Value×Nat)=>a.setIfInBounds (off+p.2) p.1) zc.toArray=A at *
     have hA:d4 σ (eR z off ys) A.toList:=by
      refine ⟨by rw [jO];simp [f1,hl2],fun j c' u hc' hu=>?_⟩
      have hu':A[j]?=some u:=by simpa using hu
      rw [f2 j] at hu'
      rw [fx _ _ _ _ (by omega)] at hc'
      simp only [List.size_toArray,Nat.add_zero,List.getElem?_toArray] at hu'
      by_cases hj:off≤j∧j < off+ys.length
      ·rw [if_pos hj] at hc'
       rw [if_pos (by omega)] at hu'
       exact k1.2 _ c' u hc' hu'
      ·rw [if_neg hj] at hc'
       rw [if_neg (by omega)] at hu'
       exact hz.2 j c' u hc' hu'
     have hA1:∀u∈A.toList,u.oneCell'=true:=fun u hu=>by
      obtain ⟨j,hj,rfl⟩:=List.getElem_of_mem hu
      have hu':A[j]?=some (A.toList[j]):=by rw [←Array.getElem?_toList];exact Oz hj
      rw [f2 j] at hu'
      split at hu'
      ·exact k2 _ (Ow hu')
      ·exact h1 _ (Ow (by simpa using hu'))
     obtain ⟨oc,o1,o2,o3⟩:=rm hs hA hA1 h
     refine ⟨oc,?_,o2,o3⟩
     simp only [Instr.fill,hp]
     rw [if_neg (by simp [hvs];omega),ef]
     simpa using o1
def oI:List AV→Option (List AV)
 | []=>some []
 | v::r=>match oI r with
  | some q=>some (v::q)
  | none=>none
theorem tk:∀{l q:List AV},oI l=some q→q=l
 | [],q,h=>by simp [oI] at h;exact h
 | v::r,q,h=>by
  simp only [oI] at h
  cases hr:oI r with
  | none=>rw [hr] at h;cases h
  | some q'=>rw [hr] at h;injection h with h;rw [←h,tk hr]
def uQ (ti:TI) (i:Nat):Option (Nat×Nat):=match ti.k with
 | .struct offs=>match offs[i]? with
  | some (o,s,_)=>some (o,s)
  | none=>none
 | .arr _ _ sz=>some (i * sz,sz)
 | _=>none
def xy (ti:TI) (parts:List (Nat×AV)):Option (List AV):=match ta (uQ ti) (ti.zero.map .sc) parts with
 | some cs=>oI cs
 | none=>none
theorem pA {P:Program}:∀(fs:List Field) (r:List (Nat×Nat×Bool)),lP P fs r=true→fs.mapM (fun f=>(P.info? f.type).map fun i=>(f.offset,i.size))=some (r.map fun q=>(q.1,q.2.1))
 | [],[],_=>rfl
 | x::fs,(o',s',b')::r,h=>by
  simp only [lP,Bool.and_eq_true,Nat.beq_eq] at h
  obtain ⟨⟨⟨⟨h1,h2⟩,_⟩,_⟩,h5⟩:=h
  unfold pU at h2
  split at h2
  ·rename_i i hi
   rw [Nat.beq_eq] at h2
   simp [List.mapM_cons,hi,pA fs r h5,h1,h2]
  ·cases h2
 | [],_::_,h=>by cases h
 | _::_,[],h=>by cases h
theorem eh.built {P:Program} {tt:TT} (ok:eh P tt) {t:Nat} {ti:TI} (h:dC tt t=some ti) (hk:ti.k.agg=true) (parts:List (Nat×Value)):P.built t parts=Instr.fill (uQ ti) ti.zero.toArray parts:=by
 have h0:=ok.ok t ti h
 simp only [CM,Bool.and_eq_true] at h0
 obtain ⟨⟨_,h1⟩,h2⟩:=h0
 unfold Program.built
 split at h1
 ·rename_i i hi
  split at h1
  ·rename_i z hz
   have hzz:=lK h1
   have hz':z.cells=ti.zero.toArray:=by rw [←hzz]
   split at h2
   all_goals try (cases hq:ti.k <;> rw [hq] at h2 hk <;> simp_all [TK.agg];done)
   ·rename_i fs hu
    cases hq:ti.k with
    | struct offs=>
     rw [hq] at h2
     simp only [hi,hu,hz,pA _ _ h2,hz']
     congr 1
     funext x
     simp [uQ,hq]
     cases offs[x]? <;> rfl
    | _=>rw [hq] at h2;cases h2
   ·rename_i n e hu
    cases hq:ti.k with
    | arr n' e' sz=>
     rw [hq] at h2
     simp only [Bool.and_eq_true,Nat.beq_eq] at h2
     obtain ⟨⟨_,rfl⟩,h3⟩:=h2
     unfold pU at h3
     split at h3
     ·rename_i j hj
      rw [Nat.beq_eq] at h3
      simp only [hi,hu,hz,hj,hz',h3]
      congr 1
      funext x
      simp [uQ,hq]
     ·cases h3
    | _=>rw [hq] at h2;cases h2
   ·cases h2
  ·cases h1
 ·cases h1
section
variable {P:Program} {tt:TT} {fr:bZ} {B:Bs} {L:AL} {d:Option Tmp} {ty t t':TypeId} {pos:String} {af:Array Edge} {g:Option (Nat×Bool)} {x y:Operand} {u:AV}
theorem Gi (ok:eh P tt) {ti:TI} {parts:Array (Nat×Operand)} {vs out:List AV} (ht:dC tt t=some ti) (hk:ti.k.agg=true) (hz1:ti.zero.all (·.oneCell')=true) (hv:eB fr (parts.toList.map (·.2))=some vs) (hb:xy ti ((parts.toList.map (·.1)).zip vs)=some out):Av P ⟨d,.build t parts,ty,pos,af,g⟩ fr (.agg out):=by
 intro σ ρ w hρ _
 have hvs:=fh hρ _ _ hv
 generalize hws:(parts.toList.map (·.2)).map ρ=ws at *
 have e1:parts.map (fun p=>(p.1,ρ p.2))=((parts.toList.map (·.1)).zip ws).toArray:=by
  apply Array.toList_inj.1
  rw [←hws]
  simp only [Array.toList_map,List.map_map]
  induction parts.toList with
  | nil=>rfl
  | cons p l ih=>simp only [Om,List.zip_cons_cons,ih];rfl
 unfold xy at hb
 split at hb
 ·rename_i cs hf
  have:=tk hb
  subst this
  have hz:d4 σ (ti.zero.map .sc) ti.zero:=⟨by simp,fun i c u hc hu=>by
   rw [List.getElem?_map,hu] at hc
   simp at hc
   subst hc
   exact .sc u⟩
  obtain ⟨oc,o1,o2,o3⟩:=rm hvs hz (fun u hu=>List.all_eq_true.1 hz1 u hu) hf
  refine ⟨.agg oc.toArray,?_,.agg _ _ o2.1 o2.2 o3⟩
  have hr:=run_build (P:=P) w t ((parts.toList.map (·.1)).zip ws).toArray oc.toArray (by rw [ok.built ht hk];simpa using o1)
  simp only [execOp]
  rw [e1]
  simp [hr]
 ·cases hb
theorem JI {a:Addr} (hx:bw fr x=some (.sc (.pointer (some a)))):Av P ⟨d,.nilCheck x,ty,pos,af,g⟩ fr (.sc (.pointer (some a))):=
 eF fun ρ w hρ=>by simp [execOp,hρ _ _ hx]
theorem JH {cs:List AV} (hx:bw fr x=some (.iptr cs)):Av P ⟨d,.nilCheck x,ty,pos,af,g⟩ fr (.iptr cs):=fun σ ρ w hρ _=>by
 have h:=hρ x _ hx
 obtain ⟨b,off,hv,_⟩:=h.iptr_inv
 exact ⟨ρ x,by simp [execOp,hv],h⟩
theorem JG {f:FuncId} {cs:List AV} (hx:bw fr x=some (.fn f cs)):Av P ⟨d,.nilCheck x,ty,pos,af,g⟩ fr (.fn f cs):=fun σ ρ w hρ _=>by
 have h:=hρ x _ hx
 obtain ⟨vs,hv,_⟩:=h.fn_inv
 exact ⟨ρ x,by simp [execOp,hv],h⟩
theorem Gk (ok:eh P tt) {s f o z:Nat} {b:Bool} {ti:TI} {offs:List (Nat×Nat×Bool)} {cs:List AV} (ht:dC tt s=some ti) (hk:ti.k= .struct offs) (hf:offs[f]?=some (o,z,b)) (hx:bw fr x=some (.agg cs)) (hu:(bif b then (bif Nat.ble (o+z) cs.length then some (.agg ((cs.drop o).take z)) else none) else cs[o]?)=some u):Av P ⟨d,.field s x f,ty,pos,af,g⟩ fr u:=by
 intro σ ρ w hρ _
 obtain ⟨vs,hv,hs,h1⟩:=(hρ x _ hx).agg_inv
 obtain ⟨_,fl,fs,hus,hfl,hoff,hsz,hag⟩:=ok.fd ht hk hf
 have hszr:(sizeOf fl.type).run P w= .ok z w:=by
  cases hq:P.info? fl.type with
  | none=>rw [hq] at hsz;cases hsz
  | some i=>rw [hq] at hsz;simp only [Option.map_some,Option.some.injEq] at hsz;simp [sizeOf,typeInfo,hq,hsz]
 have hagr:(isAgg fl.type).run P w= .ok b w:=by
  unfold Gp at hag
  cases hq:P.underlying fl.type with
  | none=>rw [hq] at hag;cases hag
  | some dd=>
   rw [hq] at hag
   simp only [isAgg,Sem.run_bind,run_underlying hq,Result.andThen]
   cases dd <;> simp_all
 cases b with
 | true=>
  simp only [cond_true] at hu
  cases hb:Nat.ble (o+z) cs.length with
  | false=>rw [hb] at hu;cases hu
  | true=>
   rw [hb] at hu
   simp only [cond_true,Option.some.injEq] at hu
   subst hu
   rw [Nat.ble_eq] at hb
   have hl:=hs.1
   refine ⟨.agg ((vs.drop o).take z).toArray,?_,.agg _ _ (by simp [hl]) (fun i c u hc hu=>?_) fun u hu=>h1 u (List.mem_of_mem_drop (List.mem_of_mem_take hu))⟩
   ·simp [execOp,hv,Instr.field,run_underlying hus,hfl,part,hagr,hszr,asAgg,hoff]
   ·rw [List.getElem?_take] at hc hu
    split at hc
    ·rename_i hi
     rw [if_pos hi,List.getElem?_drop] at hu
     rw [List.getElem?_drop] at hc
     exact hs.2 _ c u hc hu
    ·cases hc
 | false=>
  simp only [cond_false] at hu
  obtain ⟨v,g1,g2⟩:=hs.get hu
  exact ⟨v,by simp [execOp,hv,Instr.field,run_underlying hus,hfl,part,hagr,asAgg,hoff,g1],g2⟩
def sj (tt:TT) (fr:bZ) (op:Op):Option AV:=match op with
 | .build t parts=>match dC tt t with
  | some ti=>bif ti.k.agg && ti.zero.all (·.oneCell') then (match eB fr (parts.toList.map (·.2)) with
   | some vs=>match xy ti ((parts.toList.map (·.1)).zip vs) with
    | some out=>some (.agg out)
    | none=>none
   | none=>none) else none
  | none=>none
 | .nilCheck x=>match bw fr x with
  | some (.sc (.pointer (some a)))=>some (.sc (.pointer (some a)))
  | some (.iptr cs)=>some (.iptr cs)
  | some (.fn f cs)=>some (.fn f cs)
  | _=>none
 | .field s x f=>match dC tt s with
  | some ⟨.struct offs,_,_⟩=>match offs[f]? with
   | some (o,z,b)=>match bw fr x with
    | some (.agg cs)=>(bif b then (bif Nat.ble (o+z) cs.length then some (.agg ((cs.drop o).take z)) else none) else cs[o]?)
    | _=>none
   | none=>none
  | _=>none
 | op=>Aw tt fr op
theorem sn (ok:eh P tt) {op:Op} {u:AV} (h:sj tt fr op=some u):Av P ⟨d,op,ty,pos,af,g⟩ fr u:=by
 unfold sj at h
 split at h
 ·split at h
  ·rename_i ti ht
   cases hb:(ti.k.agg && ti.zero.all (·.oneCell')) with
   | false=>rw [hb] at h;cases h
   | true=>
    rw [hb] at h
    simp only [cond_true] at h
    simp only [Bool.and_eq_true] at hb
    split at h
    ·rename_i vs hvs
     split at h
     ·rename_i out hout
      cases h
      exact Gi ok ht hb.1 hb.2 hvs hout
     ·cases h
    ·cases h
  ·cases h
 ·split at h <;> first | cases h | skip
  ·rename_i hx;exact JI hx
  ·rename_i hx;exact JH hx
  ·rename_i hx;exact JG hx
 ·split at h
  ·rename_i ht
   split at h
   ·rename_i hf
    split at h
    ·rename_i hx;exact Gk ok ht rfl hf hx h
    ·cases h
   ·cases h
  ·cases h
 ·exact yP ok h
end
end Go.Proofs.YtamjlkdanllgjaaGreatDoor
namespace Go.Proofs.YtamjlkdanllgjaaGreatDoor
open Go.RowKit
def kX (rec:Loop):AB:= .raw fun o=>o= .loop rec
def oA:AB:= .raw fun o=>o= .deferred (some [])
theorem lp (w:World) (l:Nat) (o:Obj):w.grownBy (w.putObj l o) (some l):=
 ⟨rfl,rfl,rfl,by simp [World.putObj],fun k _ hk=>World.putObj_heap_other (fun e=>hk (by rw [e]))⟩
theorem dg.turn {B:Bs} {σ:cm} {L:AL} {w:World} {l:Nat} {q:Obj→Prop} {a':AB} {o:Obj} (h:dg B σ (L++[(l,.raw q)]) w) (hq:a'.holds σ o):dg B σ (L++[(l,a')]) (w.putObj l o):=by
 have h1:dg B σ ((l,.raw q)::L) w:=h.perm List.perm_append_comm
 have hlt:=h1.lt (List.mem_cons_self ..)
 exact (h1.put (fun _=>trivial) (lp w l o) (World.putObj_heap_same hlt) hq).perm (List.perm_append_comm (l₁:=[(l,a')]))
def AY (P:Program) (σ0:cm) (l:Nat) (args:List AV) (L:AL) (Post:AV→AL→Prop):Prop:=∀σ w vs,σ0.le σ→d4 σ args vs→dg ⟨w,σ,L.map (·.1)⟩ σ L w→
 ∃f tmps assign body,(Instr.yield l vs.toArray).run P w= .ok (.round l f tmps assign body) w∧RoundIn Fence.wide 0 P l f tmps assign body w (it ⟨w,σ,L.map (·.1)⟩ Post)
def Iv (P:Program) (σ0:cm) (f:FuncId) (args:List AV) (L:AL) (Post:AV→AL→Prop):Prop:=∀σ w vs,σ0.le σ→d4 σ args vs→dg ⟨w,σ,L.map (·.1)⟩ σ L w→Calls P f vs.toArray w (it ⟨w,σ,L.map (·.1)⟩ Post)
section
variable {P:Program} {r:Option Nat} {ops:Array Oper} {Q:Exit→Act→World→Prop} {nt:Nat} {D:List Deferred} {fr:bZ} {B:Bs} {L:AL} {rest:List Oper} {σ0:cm}
variable {d:Option Tmp} {ty t t':TypeId} {pos:String} {af:Array Edge} {g:Option (Nat×Bool)} {x y z:Operand} {u:AV}
theorem Dt (hB:σ0.le B.σ) (Lc Lf:AL) {l:Nat} {args:Array Operand} {ts:Array TypeId} {cs cs':List AV} {Post:AV→AL→Prop} (hz:bw fr z=some (.sc (.func (.yield l) #[] #[]))) (hv:eB fr args.toList=some cs) (hcs:∀σ vs,d4 σ cs vs→d4 σ cs' vs) (hL:L.Perm (Lc++Lf)) (h:AY P σ0 l cs' Lc Post):
  AO P ⟨d,.call ⟨.value z,args,ts⟩,ty,pos,af,g⟩ fr B L (fun c L'=>∃L1,Post c L1∧L'=L1++Lf):=by
 intro σ ρ w hρ hw0
 have hw:=hw0.perm hL
 have e:args.map ρ=(args.toList.map ρ).toArray:=by apply Array.toList_inj.1;simp
 obtain ⟨f,tmps,assign,body,hy,hr⟩:=h σ w _ (cm.le_trans hB hw.grow) (hcs _ _ (fh hρ _ _ hv)) hw.enter
 unfold i8
 rw [show (execOp ρ ⟨d,.call ⟨.value z,args,ts⟩,ty,pos,af,g⟩).run P w= .ok (.round l f tmps assign body) w by
  simp [execOp,resolve,(hρ z _ hz).sc_inv,Deferred.ofValue,e,invoke,hy]]
 refine hr.mono fun en w' hh=>?_
 obtain ⟨v,τ,c,L',h1,h2,h3,h4⟩:=hh
 exact ⟨v,h1,τ,c,L'++Lf,h3.grow,h2,hw.leave h3,L',h4,rfl⟩
theorem xg {f:FuncId} {fn:Func} {c:Code} {args:List AV} {Post:AV→AL→Prop} (hf:P.funcs[f]?=some fn) (hb:fn.body=some c) (hn:fn.ntmps=nt) (hs:Nat.ble args.length nt=true)
  (h:∀B,σ0.le B.σ→AT P none c (bodyPost P fn (it B Post)) nt [] (mW 0 args) B L):Iv P σ0 f args L Post:=by
 intro σ w vs hle hv hst
 have hs':args.length≤nt:=by simpa [Nat.ble_eq] using hs
 have hl:=hv.1
 refine (callsIn_wide (n:=0)).1 (callsIn_of_wp hf hb trivial (h _ hle σ _ w ⟨?_,rfl,?_⟩ hst))
 ·simp [hn];omega
 ·intro t v hlk
  obtain ⟨_,h2⟩:=iE args 0 t v hlk
  simp only [Nat.sub_zero] at h2
  have hlt:t < vs.length:=by have:=(Ol h2).1;omega
  simp only [Array.getD_eq_getD_getElem?]
  rw [Array.getElem?_append_left (by simpa using hlt)]
  have:=hv.2 t v vs[t] h2 (Oz hlt)
  simpa [hlt] using this
theorem qK {f:FuncId} {fn:Func} {c:Code} {args:List AV} {Post:AV→AL→Prop} (hf:P.funcs[f]?=some fn) (hb:fn.body=some c) (hn:fn.ntmps=nt) (hs:Nat.ble args.length nt=true)
  (h:∀B,AT P none c (bodyPostM Fence.wide 0 P fn (it B Post)) nt [] (mW 0 args) B L):AC P f args L Post:=by
 intro σ w vs hv hst
 have hs':args.length≤nt:=by simpa [Nat.ble_eq] using hs
 have hl:=hv.1
 refine (callsIn_wide (n:=0)).1 (callsIn_of_wp_marks hf hb trivial (h _ σ _ w ⟨?_,rfl,?_⟩ hst))
 ·simp [hn];omega
 ·intro t v hlk
  obtain ⟨_,h2⟩:=iE args 0 t v hlk
  simp only [Nat.sub_zero] at h2
  have hlt:t < vs.length:=by have:=(Ol h2).1;omega
  simp only [Array.getD_eq_getD_getElem?]
  rw [Array.getElem?_append_left (by simpa using hlt)]
  have:=hv.2 t v vs[t] h2 (Oz hlt)
  simpa [hlt] using this
def mi (P:Program) (fr:bZ) (L:AL):List ResultVar→List AV→Prop
 | [],[]=>True
 | .tmp t::r,c::cs=>ce fr t=some c∧mi P fr L r cs
 | .cell t e::r,c::cs=>(∃(b i:Nat) (ds:List AV) (e':TypeId),ce fr t=some (.sc (.pointer (some ⟨b,0,none⟩)))∧L[i]?=some (b,.box ds e')∧((Ix P e∧ds[0]?=some c)∨(Je P e ds.length∧c= .agg ds)))∧mi P fr L r cs
 | _,_=>False
def qc:List AV→AV
 | [c]=>c
 | cs=> .tup cs
def Fp (tmps:Array Value):ResultVar→Sem Value
 | .tmp t=>pure (tmps.getD t undef)
 | .cell q t=>do loadVar t (←asAddr (tmps.getD q undef))
theorem mM {σ:cm} {a:Act} {w:World} (ha:j3 σ nt D fr a) (hw:dg B σ L w):∀(rs:List ResultVar) (cs:List AV),mi P fr L rs cs→∃vs:List Value,(rs.mapM (Fp a.tmps)).run P w= .ok vs w∧d4 σ cs vs
 | [],[],_=>⟨[],by simp,d4.nil⟩
 | .tmp t::r,c::cs,h=>by
  obtain ⟨vs,h1,h2⟩:=mM ha hw r cs h.2
  exact ⟨a.tmps.getD t undef::vs,by simp [List.mapM_cons,Fp,h1],d4.cons (ha.look t c h.1) h2⟩
 | .cell t e::r,c::cs,h=>by
  obtain ⟨⟨b,i,ds,e',hp,hL,hcase⟩,hr⟩:=h
  obtain ⟨vs,h1,h2⟩:=mM ha hw r cs hr
  obtain ⟨us,hb,hus,hone⟩:=hw.boxCell hL
  have hpv:=(ha.look t _ hp).sc_inv
  rcases hcase with ⟨hsc,hc⟩ | ⟨hag,rfl⟩
  ·obtain ⟨v,hv,hvr⟩:=hus.get hc
   have hcell:w.cell? ⟨b,0,none⟩=some v:=by rw [dm hb];simpa using hv
   haveI:=hsc
   refine ⟨v::vs,?_,d4.cons hvr h2⟩
   rw [List.mapM_cons]
   simp only [Fp,Sem.run_bind,hpv]
   simp [asAddr,gx (P:=P) (t:=e) hcell,h1]
  ·have hlen:=hus.1
   have hrun:=gw (P:=P) (t:=e) (w:=w) (b:=b) (o:=0) (cs:=us) (k:=ds.length) hlen.symm (fun j v hj=>by rw [Nat.zero_add,dm hb];simpa using hj)
   refine ⟨.agg us.toArray::vs,?_,d4.cons (.agg ds us hlen hus.2 hone) h2⟩
   rw [List.mapM_cons]
   simp only [Fp,Sem.run_bind,hpv]
   simp [asAddr,hrun,h1]
theorem jd {σ:cm} {a:Act} {w:World} {fn:Func} {cs:List AV} (ha:j3 σ nt D fr a) (hw:dg B σ L w) (h:mi P fr L fn.results.toList cs):∃v,(results fn a.tmps).run P w= .ok v w∧VR σ (qc cs) v:=by
 obtain ⟨vs,h1,h2⟩:=mM ha hw _ _ h
 have hl:=h2.1
 have e:(results fn a.tmps).run P w= .ok (if h:vs.toArray.size=1 then vs.toArray[0] else .tuple vs.toArray) w:=by
  have hfun:results fn a.tmps=(do let vs ←fn.results.mapM (Fp a.tmps);pure (if h:vs.size=1 then vs[0] else .tuple vs)):=by
   unfold results
   congr 1
  rw [hfun,Array.mapM_eq_mapM_toList]
  simp [h1]
 refine ⟨_,e,?_⟩
 clear e h1 h
 match cs,vs,hl,h2 with
 | [],[],_,h2=>exact VR.tup [] [] rfl (fun i c u h=>by simp at h)
 | [c],[v],_,h2=>exact h2.2 0 c v rfl rfl
 | c::c'::cs,v::v'::vs,_,h2=>simpa [qc] using VR.tup _ _ h2.1 h2.2
def marks (dbs:List Nat):List Deferred:=dbs.map fun b=>{ target:= .collected b,args:=#[] }
theorem nC {fn:Func} {R:Ending→World→Prop} {tmps:Array Value} {σ:cm}:∀(dbs:List Nat) (L:AL) (w:World),dg B σ (L++dbs.map fun b=>(b,oA)) w→(∀w',dg B σ L w'→LeavesInM Fence.wide 0 P fn tmps R [] .returning w')→LeavesInM Fence.wide 0 P fn tmps R (marks dbs) .returning w
 | [],L,w,hw,h=>h w (by simpa using hw)
 | b::dbs,L,w,hw,h=>by
  have hp:dg B σ ((L++dbs.map fun b=>(b,oA))++[(b,oA)]) w:=hw.perm (by
   simp only [Om,List.append_assoc]
   exact (List.perm_append_comm (l₁:=[_])).append_left L)
  obtain ⟨o,ho,hq⟩:=hp.here (b,oA) (by simp)
  have hq:o= .deferred (some []):=hq
  rw [hq] at ho
  refine ⟨by simp,.inl ⟨_,_,rfl,run_takeDeferred ho,nC dbs L _ ?_ h⟩⟩
  exact (hp.turn (a':= .raw fun _=>True) trivial).sublist (List.sublist_append_left ..)
theorem n5 {fn:Func} {Post:AV→AL→Prop} {cs:List AV} (dbs:List Nat) (L0:AL) (hD:D=marks dbs) (hL:L.Perm (L0++dbs.map fun b=>(b,oA))) (hr:mi P fr L0 fn.results.toList cs) (h:Post (qc cs) L0):AX P .ret (bodyPostM Fence.wide 0 P fn (it B Post)) nt D fr B L:=by
 intro σ a w ha hw
 show LeavesInM _ _ _ _ _ _ a.defers _ _
 rw [ha.defers,hD]
 refine nC dbs L0 w (hw.perm hL) fun w' hw'=>?_
 obtain ⟨v,h1,h2⟩:=jd ha hw' hr
 exact ⟨v,h1,v,σ,qc cs,L0,rfl,h2,hw',h⟩
theorem zo {fn:Func} {Post:AV→AL→Prop} {cs:List AV} (hr:mi P fr L fn.results.toList cs) (h:Post (qc cs) L):AX P .ret (bodyPost P fn (it B Post)) nt [] fr B L:=by
 intro σ a w ha hw
 obtain ⟨v,h1,h2⟩:=jd ha hw hr
 exact ⟨ha.defers,v,h1,v,σ,qc cs,L,rfl,h2,hw,h⟩
def sW:List Nat→List AV→bZ→bZ
 | p::ps,v::vs,fr=>sW ps vs ((p,v)::fr)
 | _,_,fr=>fr
theorem j3.fset {σ:cm} {D':List Deferred}:∀(ps:List Nat) (cs:List AV) (vs:List Value) (fr:bZ) (t:Array Value),ps.length=cs.length→(∀p∈ps,p < nt)→d4 σ cs vs→j3 σ nt D' fr ⟨t,D'⟩→j3 σ nt D' (sW ps cs fr) ⟨(ps.zip vs).foldl (fun t q=>t.setIfInBounds q.1 q.2) t,D'⟩
 | [],cs,vs,fr,t,_,_,_,h=>by simpa [sW] using h
 | p::ps,[],vs,fr,t,hl,_,_,h=>by simp at hl
 | p::ps,c::cs,vs,fr,t,hl,hp,hvs,h=>by
  obtain ⟨v,ws,rfl,hv,hs⟩:=hvs.inv
  simp only [sW,List.zip_cons_cons,List.foldl_cons]
  refine j3.fset ps cs ws _ _ (by simpa using hl) (fun q hq=>hp q (Ot _ hq)) hs ?_
  have:=h.put (hp p (List.mem_cons_self ..)) hv
  simpa [Act.put] using this
def Ng (P:Program) (l:Nat) (body:Code) (Qb:Exit→Act→World→Prop):Exit→Act→World→Prop:=Exit.then (fun a w=>∃w2,(Instr.beginRound l).run P w= .ok () w2∧body.wpIn (Wd (some l)) 0 P Qb a w2) (fun _ _ _=>False)
theorem qU {l:Nat} {body:Code} {Qb:Exit→Act→World→Prop} {rec:Loop} (hr:rec.state= .ready) (h:AT P (some l) body Qb nt D fr B (L++[(l,kX { rec with state:= .busy })])):AX P .normal (Ng P l body Qb) nt D fr B (L++[(l,kX rec)]):=by
 intro σ a w ha hw
 obtain ⟨o,ho,hq⟩:=hw.here (l,kX rec) (by simp)
 have hq:o= .loop rec:=hq
 rw [hq] at ho
 exact ⟨_,run_beginRound ho hr,h σ a _ ha (hw.turn (a':=kX { rec with state:= .busy }) rfl)⟩
def MG (P:Program) (l:Nat) (B:Bs) (Post:AV→AL→Prop):Exit→Act→World→Prop:=roundPost P l (it B Post)
theorem ub {l:Nat} {rec:Loop} {Post:AV→AL→Prop} (h:Post (.sc (.bool true)) (L++[(l,kX { rec with state:= .ready,pending:=none })])):AX P .normal (MG P l B Post) nt D fr B (L++[(l,kX rec)]):=by
 intro σ a w ha hw
 obtain ⟨o,ho,hq⟩:=hw.here (l,kX rec) (by simp)
 have hq:o= .loop rec:=hq
 rw [hq] at ho
 exact ⟨_,_,run_endRound none ho,_,σ,_,_,rfl,.sc _,hw.turn (a':=kX { rec with state:= .ready,pending:=none }) rfl,h⟩
theorem xr {l:Nat} {rec:Loop} {Post:AV→AL→Prop} (h:Post (.sc (.bool false)) (L++[(l,kX { rec with state:= .done,pending:=some .ret })])):AX P .ret (MG P l B Post) nt D fr B (L++[(l,kX rec)]):=by
 intro σ a w ha hw
 obtain ⟨o,ho,hq⟩:=hw.here (l,kX rec) (by simp)
 have hq:o= .loop rec:=hq
 rw [hq] at ho
 exact ⟨_,_,run_endRound (some .ret) ho,_,σ,_,_,rfl,.sc _,hw.turn (a':=kX { rec with state:= .done,pending:=some .ret }) rfl,h⟩
structure IC (rec:Loop) (σ0:cm) (nt:Nat) (fr:bZ) (ps:List Nat) (assign body:Code):Prop where
 state:rec.state= .ready
 pending:rec.pending=none
 params:rec.params=ps.toArray
 assign:rec.assign=assign
 body:rec.body=body
 size:rec.tmps.size=nt
 look:∀t c,ce fr t=some c→VR σ0 c (rec.tmps.getD t undef)
theorem DF {rec:Loop} {ps:List Nat} {assign body:Code} {l:Nat} {args:List AV} {Post:AV→AL→Prop} (hr:IC rec σ0 nt fr ps assign body) (hlen:ps.length=args.length) (hps:ps.all (fun p=>Nat.blt p nt)=true)
  (h:∀B,σ0.le B.σ→AT P (some l) assign (Ng P l body (MG P l B Post)) nt [] (sW ps args fr) B (L++[(l,kX rec)])):AY P σ0 l args (L++[(l,kX rec)]) Post:=by
 intro σ w vs hle hvs hst
 obtain ⟨o,ho,hq⟩:=hst.here (l,kX rec) (by simp)
 have hq:o= .loop rec:=hq
 rw [hq] at ho
 have hl:=hvs.1
 have hy:=run_yield (P:=P) (args:=vs.toArray) ho (by simp [hr.params];omega)
 refine ⟨_,_,_,_,hy,?_⟩
 rw [hr.assign,hr.body]
 refine roundIn_of_wpIn (F:=Fence.wide) trivial ?_
 have hag:j3 σ nt [] (sW ps args fr) ⟨(ps.zip vs).foldl (fun t q=>t.setIfInBounds q.1 q.2) rec.tmps,[]⟩:=j3.fset ps args vs fr rec.tmps hlen (fun p hp=>by have:=List.all_eq_true.1 hps p hp;simpa [Nat.blt_eq] using this) hvs ⟨hr.size,rfl,fun t c hc=>(hr.look t c hc).mono hle⟩
 have htm:(rec.params.zip vs.toArray).foldl (fun tmps (q:Nat×Value)=>tmps.setIfInBounds q.1 q.2) rec.tmps=(ps.zip vs).foldl (fun t q=>t.setIfInBounds q.1 q.2) rec.tmps:=by
  rw [hr.params]
  simp
 have:=h ⟨w,σ,(L++[(l,kX rec)]).map (·.1)⟩ hle σ _ w hag hst
 rw [←htm] at this
 exact this
def IT (P:Program) (Q:Exit→Act→World→Prop) (nt:Nat) (D:List Deferred) (fr:bZ) (B:Bs) (L:AL):Option Code→Prop
 | none=>AX P .normal Q nt D fr B L
 | some .ret=>AX P .ret Q nt D fr B L
 | some (.exit id)=>AX P (.exit id) Q nt D fr B L
 | _=>False
theorem qT {gv:Operand} {ps:List Nat} {assign body:Code} {gf:FuncId} {cap:List AV} [hf:bK P gf] (hg:bw fr gv=some (.fn gf cap))
  (h:∀σ0 l db rec,IC rec σ0 nt fr ps assign body→∃Post,Iv P σ0 gf (.sc (.func (.yield l) #[] #[])::cap) ((L++[(db,oA)])++[(l,kX rec)]) Post∧∀c L',Post c L'→∃rec' L1,L'.Perm (L1++[(l,kX rec')])∧rec'.state≠ .busy∧IT P Q nt ({ target:= .collected db,args:=#[] }::D) fr B L1 rec'.pending):
  AT P none (.rangeFunc gv ps.toArray assign body) Q nt D fr B L:=by
 intro σ a w ha hw
 refine wpIn_rangeFunc ?_
 intro fn hfn
 obtain ⟨rec,hrec⟩:∃rec:Loop,rec={ state:= .ready,pending:=none,fn,tmps:=a.tmps,params:=ps.toArray,assign,body,defers:=w.heap.size }:=⟨_,rfl⟩
 have h1:=(hw.alloc (.deferred (some [])) oA rfl).perm (List.perm_append_comm (l₁:=[(w.heap.size,oA)]))
 have h2:=(h1.alloc (.loop rec) (kX rec) rfl).perm (List.perm_append_comm (l₁:=[((w.alloc (.deferred (some []))).heap.size,kX rec)]))
 simp only [World.size_alloc] at h2
 obtain ⟨Post,hac,hpost⟩:=h σ (w.heap.size+1) w.heap.size rec (by rw [hrec];exact ⟨rfl,rfl,rfl,rfl,rfl,ha.size,ha.look⟩)
 obtain ⟨vs,hv,hvs⟩:=(ha.eval hg).fn_inv
 refine ⟨w.heap.size+1,[{ target:= .collected w.heap.size,args:=#[] }],(w.alloc (.deferred (some []))).alloc (.loop rec),{ target:= .fn (.func gf) vs.toArray,args:=#[.func (.yield (w.heap.size+1)) #[] #[]] },(w.alloc (.deferred (some []))).alloc (.loop rec),gf,
  #[.func (.yield (w.heap.size+1)) #[] #[]]++vs.toArray,(w.alloc (.deferred (some []))).alloc (.loop rec),?_,?_,fun _ _=>trivial,?_,fun h=>by simp [Fence.wide] at h,?_⟩
 ·rw [hrec];exact run_enterLoop_outer _ _ _ _ _
 ·simp only [resolve,rangeCall,hv]
  simp [Deferred.ofValue,Act.eval]
 ·simp [invoke,hf.enters]
 ·have hc:=hac σ _ (.func (.yield (w.heap.size+1)) #[] #[]::vs) (cm.le_refl _) (d4.cons (.sc _) hvs) (dg.enter (Lf:=[]) (by rw [List.append_nil];exact h2))
  have e:(#[.func (.yield (w.heap.size+1)) #[] #[]]++vs.toArray:Array Value)=(.func (.yield (w.heap.size+1)) #[] #[]::vs).toArray:=by simp
  rw [e]
  refine pu (hc.mono ?_)
  rintro en W' ⟨v,τ,c,L',rfl,_,hst,hp⟩
  obtain ⟨rec',L1,hperm,hnb,hj⟩:=hpost c L' hp
  have hst2:dg B τ (L1++[(w.heap.size+1,kX rec')]) W':=((dg.leave (Lf:=[]) (by rw [List.append_nil];exact h2) hst).perm (by rw [List.append_nil];exact hperm))
  obtain ⟨o,ho,hq⟩:=hst2.here (w.heap.size+1,kX rec') (by simp)
  have hq:o= .loop rec':=hq
  rw [hq] at ho
  have hst3:=(hst2.turn (a':= .raw fun _=>True) (o:= .loop { rec' with state:= .exhausted }) trivial).sublist (List.sublist_append_left ..)
  have hle:σ.le τ:=hst.grow
  have hag:j3 τ nt ({ target:= .collected w.heap.size,args:=#[] }::D) fr { a with defers:=[{ target:= .collected w.heap.size,args:=#[] }]++a.defers }:=⟨ha.size,by simp [ha.defers],(ha.mono hle).look⟩
  refine ⟨rec'.pending,_,run_endLoop ho hnb,?_⟩
  generalize W'.putObj _ _=W2 at hst3 ⊢
  unfold IT at hj
  split at hj
  ·rename_i hpe;rw [hpe];exact hj τ _ _ hag hst3
  ·rename_i hpe;rw [hpe];exact wpIn_ret (hj τ _ _ hag hst3)
  ·rename_i hpe;rw [hpe];exact wpIn_exit (hj τ _ _ hag hst3)
  ·exact hj.elim
end
end Go.Proofs.YtamjlkdanllgjaaGreatDoor
namespace Go.Proofs.YtamjlkdanllgjaaGreatDoor
open Go.RowKit
theorem zQ {σ:cm} {b:Nat} {cs:List AV} {xs:List Value} (hx:d4 σ cs xs) (h1:∀u∈xs,u.oneCell'=true) (hb:∀j u,xs[j]?=some u→σ b j=some u):VR σ (.iptr cs) (.pointer (some ⟨b,0,none⟩)):=by
 refine .iptr cs b 0 (fun j hj=>?_) fun j c u hc hu=>?_
 ·have hlt:j < xs.length:=by rw [←hx.1];exact hj
  rw [Nat.zero_add]
  exact ⟨xs[j],hb _ _ (Oz hlt),h1 _ (List.getElem_mem hlt)⟩
 ·have hlt:j < xs.length:=by rw [←hx.1];exact (Ol hc).1
  have:=hb _ _ (Oz hlt)
  rw [Nat.zero_add,this] at hu
  injection hu with hu
  subst hu
  exact hx.2 j c _ hc (Oz hlt)
section
variable {P:Program} {r:Option Nat} {ops:Array Oper} {Q:Exit→Act→World→Prop} {nt:Nat} {D:List Deferred} {fr fr':bZ} {B:Bs} {L L':AL} {rest:List Oper} {cd:Code}
variable {d:Option Tmp} {ty t t':TypeId} {pos:String} {af:Array Edge} {g:Option (Nat×Bool)} {x y:Operand} {u:AV}
theorem Gv {cs:List AV} (hx:bw fr x=some u) (hc:u.cells=some cs) (hn:Nat.ble cs.length 1000000=true):AO P ⟨d,.box t x,ty,pos,af,g⟩ fr B L (fun c L'=>c= .iptr cs∧L'=L):=by
 intro σ ρ w hρ hw
 rw [Nat.ble_eq] at hn
 obtain ⟨k1,k2⟩:=(hρ x u hx).cells hc
 have hl:=k1.1
 have hr:(execOp ρ ⟨d,.box t x,ty,pos,af,g⟩).run P w= .ok (.value (.pointer (some ⟨w.heap.size,0,none⟩))) (w.alloc (.cells (ρ x).cells t)):=by
  simp [execOp,Instr.box,newVar,newRow]
 unfold i8
 rw [hr]
 have ha:=hw.alloc (.cells (ρ x).cells t) (.vec t 1 0 cs.length) ⟨_,rfl,by simp at hl;omega,Nat.zero_le _,by unfold maxLen;omega⟩
 have hnb:(w.alloc (.cells (ρ x).cells t)).heap[w.heap.size]?=some (.cells (ρ x).cells t):=World.alloc_heap_new w _
 obtain ⟨hb,hle⟩:=ha.freezeHead (n':=cs.length) (xs:=(ρ x).cells.toList) (fun j u hj=>by rw [dm hnb];simpa using hj) (by omega) (Nat.zero_le _) (Nat.le_refl _)
 exact ⟨_,_,L,hle,zQ (k1.mono hle) k2 (fun j u hj=>cm.add_at hj),hb.sublist (.cons _ (List.Sublist.refl _)),rfl,rfl⟩
theorem aW {L':AL} (h:L.Perm L'):mq nt D B fr L fr L':=fun σ _ _ ha hw=>⟨σ,ha,hw.perm h⟩
theorem wZ {t b e:Nat} {cs:List AV} (i:Nat) (hl:ce fr t=some (.sc (.pointer (some ⟨b,0,none⟩)))) (hL:L[i]?=some (b,.box cs e)) (hn:Nat.ble cs.length 1000000=true):mq nt D B fr L ((t,.iptr cs)::fr) (L.eraseIdx i):=by
 intro σ a w ha hw0
 rw [Nat.ble_eq] at hn
 have hw:=hw0.perm (fC hL)
 obtain ⟨o,ho,vs,rfl,hvs,h1⟩:=hw.here _ (List.mem_cons_self ..)
 have hfree:=hw.free _ (List.mem_cons_self ..)
 have hvl:vs.length=cs.length:=hvs.1.symm
 have hst:dg B σ ((b,.vec e 1 0 cs.length)::L.eraseIdx i) w:=by
  refine ⟨hw.os,hw.tape,hw.output,hw.size,hw.old,fun p hp=>?_,fun p hp=>?_,by simpa using hw.apart,hw.froz,fun p hp off hm=>?_,hw.grow,hw.same⟩
  ·rcases List.mem_cons.1 hp with rfl | hp'
   ·exact ⟨_,ho,_,rfl,by simp [hvl],Nat.zero_le _,by unfold maxLen;omega⟩
   ·exact hw.here p (Ot _ hp')
  ·rcases List.mem_cons.1 hp with rfl | hp'
   ·exact hw.mine (b,.box cs e) (List.mem_cons_self ..)
   ·exact hw.mine p (Ot _ hp')
  ·rcases List.mem_cons.1 hp with rfl | hp'
   ·exact hfree off trivial
   ·exact hw.free p (Ot _ hp') off hm
 obtain ⟨hst',hle⟩:=hst.freezeHead (n':=cs.length) (xs:=vs) (fun j u hj=>by rw [dm ho];simpa using hj) (by omega) (Nat.zero_le _) (Nat.le_refl _)
 refine ⟨_,?_,hst'.sublist (.cons _ (List.Sublist.refl _))⟩
 have ha':=ha.mono hle
 refine ⟨ha'.size,ha'.defers,fun t' v' hl'=>?_⟩
 rw [ck] at hl'
 by_cases e:t=t'
 ·subst e
  simp only [if_true,Option.some.injEq] at hl'
  subst hl'
  rw [(ha.look t _ hl).sc_inv]
  exact zQ (hvs.mono hle) h1 (fun j u hj=>cm.add_at hj)
 ·rw [if_neg e] at hl'
  exact ha'.look t' v' hl'
end
end Go.Proofs.YtamjlkdanllgjaaGreatDoor
namespace Go.Proofs.YtamjlkdanllgjaaGreatDoor
open Go.RowKit
section
variable {P:Program} {r:Option Nat} {ops:Array Oper} {Q:Exit→Act→World→Prop} {nt:Nat} {D:List Deferred} {fr:bZ} {B:Bs} {L:AL} {rest:List Oper}
def HW (tt:TT) (nt:Nat):List Oper→bZ→List Oper×bZ
 | [],fr=>([],fr)
 | o::rest,fr=>match o.guard with
  | some _=>(o::rest,fr)
  | none=>match o.dst with
   | none=>(o::rest,fr)
   | some d=>match sj tt fr o.op with
    | none=>(o::rest,fr)
    | some u=>bif Nat.ble nt d then (o::rest,fr) else HW tt nt rest ((d,u)::fr)
theorem tQ {tt:TT} (ok:eh P tt):∀(l:List Oper) (fr:bZ) {rest':List Oper} {fr':bZ},HW tt nt l fr=(rest',fr')→bF P r ops Q nt D rest' fr' B L→bF P r ops Q nt D l fr B L
 | [],fr,_,_,h,hn=>by cases h;exact hn
 | o::rest,fr,rest',fr',h,hn=>by
  obtain ⟨dst,op,ty,pos,af,g⟩:=o
  simp only [HW] at h
  cases g with
  | some _=>cases h;exact hn
  | none=>
   cases dst with
   | none=>cases h;exact hn
   | some d=>
    simp only at h
    cases hs:sj tt fr op with
    | none=>rw [hs] at h;cases h;exact hn
    | some u=>
     rw [hs] at h
     cases hb:Nat.ble nt d with
     | true=>rw [hb] at h;cases h;exact hn
     | false=>
      rw [hb] at h
      have hnd:Oper.noDefer ⟨some d,op,ty,pos,af,none⟩=true:=by
       cases op <;> first | rfl | (simp [sj,Aw] at hs)
      exact cz (sn ok hs) hb hnd (tQ ok rest _ h hn)
end
section
variable {P:Program} {tt:TT} {r:Option Nat} {ops:Array Oper} {Q:Exit→Act→World→Prop} {nt:Nat} {D:List Deferred} {fr fr':bZ} {B:Bs} {L:AL} {rest rest':List Oper}
variable {d:Nat} {ty t t':TypeId} {pos:String} {af:Array Edge} {g:Option (Nat×Bool)} {x y z c:Operand} {u:AV}
theorem ae (ok:eh P tt) {op:Op} (_h1:sj tt fr op=some u) (h:HW tt nt (⟨some d,op,ty,pos,af,none⟩::rest) fr=(rest',fr')) (hn:bF P r ops Q nt D rest' fr' B L):bF P r ops Q nt D (⟨some d,op,ty,pos,af,none⟩::rest) fr B L:=tQ ok _ _ h hn
theorem OE (ok:eh P tt) {op:Op} (zz:sj tt fr op=some u∧HW tt nt (⟨some d,op,ty,pos,af,none⟩::rest) fr=(rest',fr')) (hn:bF P r ops Q nt D rest' fr' B L):bF P r ops Q nt D (⟨some d,op,ty,pos,af,none⟩::rest) fr B L:=ae ok zz.1 zz.2 hn
theorem aS {op:BinOp} (h:bF P r ops Q nt D (⟨some d,.binOp op t x y t',ty,pos,af,none⟩::rest) fr B L):bF P r ops Q nt D (⟨some d,.binOp op t x y t',ty,pos,af,none⟩::rest) fr B L:=h
theorem aR {op:BinOp} (h:bF P r ops Q nt D rest ((d,u)::fr) B L) (ho:Av P ⟨some d,.binOp op t x y t',ty,pos,af,none⟩ fr u:=by first | exact zb rfl rfl (by omega) | exact zi rfl rfl (by omega) | exact zh rfl rfl (by omega)) (hd:Nat.ble nt d=false:=by rfl):bF P r ops Q nt D (⟨some d,.binOp op t x y t',ty,pos,af,none⟩::rest) fr B L:=cz ho hd rfl h
def jW (tt:TT) (t:Nat):Option (Nat×Nat×Nat):=match dC tt t with
 | some ⟨.slice e sz by_,_,_⟩=>some (e,sz,by_)
 | _=>none
theorem bE (ok:eh P tt) {e sz by_:Nat} (h:jW tt t=some (e,sz,by_)):m8 P t e sz by_∧0 < sz:=by
 unfold jW at h
 split at h
 ·rename_i e' sz' by' _ _ ht
  cases h
  exact ok.isSl ht rfl
 ·cases h
theorem aV (h:bF P r ops Q nt D (⟨some d,.indexAddr t x y,ty,pos,af,none⟩::rest) fr B L):bF P r ops Q nt D (⟨some d,.indexAddr t x y,ty,pos,af,none⟩::rest) fr B L:=h
def gZ (u:AV):Option (Nat×List (List AV)):=match u with
 | .imm s l=>some (s,l)
 | .vec _ s l=>some (s,l)
 | _=>none
theorem cG {s:Nat} {l:List (List AV)} (h:gZ u=some (s,l)):u.im= .imm s l:=by
 unfold gZ at h
 split at h <;> cases h <;> rfl
theorem aU (ok:eh P tt) {e sz by_ s:Nat} {l:List (List AV)} {k:IntKind} {i:Int} {es:List AV} (h:bF P r ops Q nt D rest ((d,.iptr es)::fr) B L) (ht:jW tt t=some (e,sz,by_):=by rfl) (hx:bw fr x=some u:=by rfl) (hu:gZ u=some (s,l):=by rfl) (hs:Nat.beq s sz=true:=by rfl) (hy:bw fr y=some (.sc (.int k i)):=by rfl) (h0:0≤i:=by omega) (hl:l[i.toNat]?=some es:=by first | assumption | (simp only [Int.toNat_natCast];assumption)) (hd:Nat.ble nt d=false:=by rfl):
  bF P r ops Q nt D (⟨some d,.indexAddr t x y,ty,pos,af,none⟩::rest) fr B L:=cz (zf (bE ok ht).1 hx (cG hu) hs hy h0 hl) hd rfl h
theorem aN (ok:eh P tt) {e sz by_ b off n cap:Nat} {k:IntKind} {i:Int} (h:bF P r ops Q nt D rest ((d,.sc (.pointer (some ⟨b,off+i.toNat * sz,none⟩)))::fr) B L) (ht:jW tt t=some (e,sz,by_):=by rfl) (hx:bw fr x=some (.sc (.slice (some ⟨b,off,none⟩) n cap)):=by rfl) (hy:bw fr y=some (.sc (.int k i)):=by rfl) (h0:0≤i∧i < n:=by omega) (hd:Nat.ble nt d=false:=by rfl):
  bF P r ops Q nt D (⟨some d,.indexAddr t x y,ty,pos,af,none⟩::rest) fr B L:=cz (vp (bE ok ht).1 hx hy h0) hd rfl h
def HZ (tt:TT) (t:Nat):Bool:=match dC tt t with | some ti=> !ti.k.agg | none=>false
def KO (tt:TT) (t:Nat):Option Nat:=match dC tt t with | some ti=>bif ti.k.agg then some ti.size else none | none=>none
theorem cF (ok:eh P tt) (h:HZ tt t=true):Ix P t:=by
 unfold HZ at h
 split at h
 ·rename_i ti ht
  exact ok.sc ht (by simpa using h)
 ·cases h
theorem dZ (ok:eh P tt) {n:Nat} (h:KO tt t=some n):Je P t n:=by
 unfold KO at h
 split at h
 ·rename_i ti ht
  cases hk:ti.k.agg with
  | true=>rw [hk] at h;cases h;exact ok.ag ht hk
  | false=>rw [hk] at h;cases h
 ·cases h
def Il (tt:TT) (t:Nat):Option Nat:=match dC tt t with | some ti=>some ti.size | none=>none
theorem sr (ok:eh P tt) {n:Nat} (h:Il tt t=some n):(P.info? t).map (·.size)=some n:=by
 unfold Il at h
 split at h
 ·rename_i ti ht
  cases h
  exact ok.size ht
 ·cases h
def zI (tt:TT) (t:Nat):Option (List Value):=match dC tt t with | some ti=>some ti.zero | none=>none
theorem eA (ok:eh P tt) {zs:List Value} (h:zI tt t=some zs):CZ P t zs:=by
 unfold zI at h
 split at h
 ·rename_i ti ht
  cases h
  exact ok.zero ht
 ·cases h
theorem bU (h:bF P r ops Q nt D (⟨some d,.load t x,ty,pos,af,none⟩::rest) fr B L):bF P r ops Q nt D (⟨some d,.load t x,ty,pos,af,none⟩::rest) fr B L:=h
theorem aA (ok:eh P tt) (i:Nat) {b k:Nat} {cs:List AV} {e:TypeId} (ht:HZ tt t=true) (hx:bw fr x=some (.sc (.pointer (some ⟨b,k,none⟩)))) (hL:L[i]?=some (b,.box cs e)) (hc:cs[k]?=some u) (hd:Nat.ble nt d=false) (h:bF P r ops Q nt D rest ((d,u)::fr) B L):
  bF P r ops Q nt D (⟨some d,.load t x,ty,pos,af,none⟩::rest) fr B L:=cn hd rfl (u7 i (cF ok ht) hx hL hc) fun c L' ⟨h1,h2⟩=>by subst h1;subst h2;exact h
theorem OH (ok:eh P tt) (i:Nat) {b k:Nat} {cs:List AV} {e:TypeId} (zz:HZ tt t=true∧bw fr x=some (.sc (.pointer (some ⟨b,k,none⟩)))∧L[i]?=some (b,.box cs e)∧cs[k]?=some u∧Nat.ble nt d=false) (h:bF P r ops Q nt D rest ((d,u)::fr) B L):bF P r ops Q nt D (⟨some d,.load t x,ty,pos,af,none⟩::rest) fr B L:=aA ok i zz.1 zz.2.1 zz.2.2.1 zz.2.2.2.1 zz.2.2.2.2 h
theorem OM (ok:eh P tt) (i:Nat) {b k:Nat} {cs:List AV} {e:TypeId} (zz:HZ tt t=true∧bw fr x=some (.sc (.pointer (some ⟨b,k,none⟩)))∧L[i]?=some (b,.box cs e)) (hc:cs[k]?=some u) (hd:Nat.ble nt d=false) (h:bF P r ops Q nt D rest ((d,u)::fr) B L):bF P r ops Q nt D (⟨some d,.load t x,ty,pos,af,none⟩::rest) fr B L:=aA ok i zz.1 zz.2.1 zz.2.2 hc hd h
theorem aH (ok:eh P tt) (i:Nat) {b k n:Nat} {cs:List AV} {e:TypeId} (ht:KO tt t=some n) (hx:bw fr x=some (.sc (.pointer (some ⟨b,k,none⟩)))) (hL:L[i]?=some (b,.box cs e)) (hc:Nat.ble (k+n) cs.length=true) (hd:Nat.ble nt d=false) (h:bF P r ops Q nt D rest ((d,.agg ((cs.drop k).take n))::fr) B L):
  bF P r ops Q nt D (⟨some d,.load t x,ty,pos,af,none⟩::rest) fr B L:=cn hd rfl (vz i (dZ ok ht) hx hL hc) fun c L' ⟨h1,h2⟩=>by subst h1;subst h2;exact h
theorem OJ (ok:eh P tt) (i:Nat) {b k n:Nat} {cs:List AV} {e:TypeId} (zz:KO tt t=some n∧bw fr x=some (.sc (.pointer (some ⟨b,k,none⟩)))∧L[i]?=some (b,.box cs e)∧Nat.ble (k+n) cs.length=true∧Nat.ble nt d=false) (h:bF P r ops Q nt D rest ((d,.agg ((cs.drop k).take n))::fr) B L):bF P r ops Q nt D (⟨some d,.load t x,ty,pos,af,none⟩::rest) fr B L:=aH ok i zz.1 zz.2.1 zz.2.2.1 zz.2.2.2.1 zz.2.2.2.2 h
theorem aO (h:bF P r ops Q nt D (⟨none,.store t x y,ty,pos,af,none⟩::rest) fr B L):bF P r ops Q nt D (⟨none,.store t x y,ty,pos,af,none⟩::rest) fr B L:=h
theorem ai (ok:eh P tt) (i:Nat) {b k n:Nat} {cs ys:List AV} {e:TypeId} (ht:Il tt t=some n) (hx:bw fr x=some (.sc (.pointer (some ⟨b,k,none⟩)))) (hy:bw fr y=some u) (hu:u.cells=some ys) (hL:L[i]?=some (b,.box cs e)) (hn:Nat.beq ys.length n=true) (hk:Nat.ble (k+n) cs.length=true) (h:bF P r ops Q nt D rest fr B (fN L i (.box (eR cs k ys) e))):
  bF P r ops Q nt D (⟨none,.store t x y,ty,pos,af,none⟩::rest) fr B L:=n3 rfl (qR i (sr ok ht) hx hy hu hL hn hk) fun c L' h1=>by subst h1;exact h
theorem OF (ok:eh P tt) (i:Nat) {b k n:Nat} {cs ys:List AV} {e:TypeId} (zz:Il tt t=some n∧bw fr x=some (.sc (.pointer (some ⟨b,k,none⟩)))∧bw fr y=some u∧u.cells=some ys∧L[i]?=some (b,.box cs e)∧Nat.beq ys.length n=true∧Nat.ble (k+n) cs.length=true) (h:bF P r ops Q nt D rest fr B (fN L i (.box (eR cs k ys) e))):bF P r ops Q nt D (⟨none,.store t x y,ty,pos,af,none⟩::rest) fr B L:=ai ok i zz.1 zz.2.1 zz.2.2.1 zz.2.2.2.1 zz.2.2.2.2.1 zz.2.2.2.2.2.1 zz.2.2.2.2.2.2 h
theorem A4 {cs:List AV} (h:∀b,bF P r ops Q nt D rest ((d,.sc (.pointer (some ⟨b,0,none⟩)))::fr) B ((b,.box cs t)::L)) (hx:bw fr x=some u:=by rfl) (hc:u.cells=some cs:=by rfl) (hd:Nat.ble nt d=false:=by rfl):
  bF P r ops Q nt D (⟨some d,.box t x,ty,pos,af,none⟩::rest) fr B L:=cn hd rfl (JM hx hc) fun c L' hh=>by obtain ⟨b,h1,h2⟩:=hh;subst h1;subst h2;exact h b
theorem br {cs:List AV} (h:bF P r ops Q nt D rest ((d,.iptr cs)::fr) B L) (hx:bw fr x=some u:=by rfl) (hc:u.cells=some cs:=by rfl) (hn:Nat.ble cs.length 1000000=true:=by rfl) (hd:Nat.ble nt d=false:=by rfl):
  bF P r ops Q nt D (⟨some d,.box t x,ty,pos,af,none⟩::rest) fr B L:=cn hd rfl (Gv hx hc hn) fun c L' hh=>by obtain ⟨h1,h2⟩:=hh;subst h1;subst h2;exact h
theorem aj (tm:Nat) (ok:eh P tt) (i:Nat) {b n:Nat} {cs ys:List AV} {e:TypeId} (ht:Il tt t=some n) (hx:ce fr tm=some (.sc (.pointer (some ⟨b,0,none⟩)))) (hy:bw fr y=some u) (hu:u.cells=some ys) (hL:L[i]?=some (b,.box cs e)) (hn:Nat.beq ys.length n=true) (hk:Nat.beq n cs.length=true) (hn6:Nat.ble ys.length 1000000=true) (h:bF P r ops Q nt D rest ((tm,.iptr ys)::fr) B (L.eraseIdx i)):
  bF P r ops Q nt D (⟨none,.store t (.tmp tm) y,ty,pos,af,none⟩::rest) fr B L:=by
 have hn':ys.length=n:=by rwa [Nat.beq_eq] at hn
 have hk':n=cs.length:=by rwa [Nat.beq_eq] at hk
 refine n3 rfl (qR i (sr ok ht) hx hy hu hL hn (by rw [Nat.ble_eq];omega)) fun c L' h1=>?_
 subst h1
 have hput:eR cs 0 ys=ys:=by
  apply List.ext_getElem?
  intro j
  rw [fx _ _ _ _ (by omega)]
  by_cases hj:j < ys.length
  ·rw [if_pos (by omega),Nat.sub_zero]
  ·rw [if_neg (by omega),List.getElem?_eq_none (by omega),List.getElem?_eq_none (by omega)]
 rw [hput]
 have hgi:(fN L i (.box ys e))[i]?=some (b,.box ys e):=by
  clear h
  induction L generalizing i with
  | nil=>simp at hL
  | cons p q ih=>
   cases i with
   | zero=>simp at hL;subst hL;rfl
   | succ i=>simp only [List.getElem?_cons_succ] at hL;simp only [fN,List.getElem?_cons_succ];exact ih i hL
 have her:(fN L i (.box ys e)).eraseIdx i=L.eraseIdx i:=by
  clear h hgi
  induction L generalizing i with
  | nil=>simp at hL
  | cons p q ih=>
   cases i with
   | zero=>rfl
   | succ i=>simp only [List.getElem?_cons_succ] at hL;simp only [fN,List.eraseIdx_cons_succ];rw [ih i hL]
 have:=wZ (nt:=nt) (D:=D) (B:=B) (fr:=fr) i hx hgi hn6
 rw [her] at this
 exact aX this h
theorem OG (tm:Nat) (ok:eh P tt) (i:Nat) {b n:Nat} {cs ys:List AV} {e:TypeId} (zz:Il tt t=some n∧ce fr tm=some (.sc (.pointer (some ⟨b,0,none⟩)))∧bw fr y=some u∧u.cells=some ys∧L[i]?=some (b,.box cs e)∧Nat.beq ys.length n=true∧Nat.beq n cs.length=true∧Nat.ble ys.length 1000000=true) (h:bF P r ops Q nt D rest ((tm,.iptr ys)::fr) B (L.eraseIdx i)):bF P r ops Q nt D (⟨none,.store t (.tmp tm) y,ty,pos,af,none⟩::rest) fr B L:=aj tm ok i zz.1 zz.2.1 zz.2.2.1 zz.2.2.2.1 zz.2.2.2.2.1 zz.2.2.2.2.2.1 zz.2.2.2.2.2.2.1 zz.2.2.2.2.2.2.2 h
theorem bi (ok:eh P tt) {zs:List Value} (h:∀b,bF P r ops Q nt D rest ((d,.sc (.pointer (some ⟨b,0,none⟩)))::fr) B ((b,.box (zs.map .sc) t)::L)) (hz:zI tt t=some zs:=by rfl) (h1:zs.all (·.oneCell')=true:=by rfl) (hd:Nat.ble nt d=false:=by rfl):
  bF P r ops Q nt D (⟨some d,.alloc t,ty,pos,af,none⟩::rest) fr B L:=by
 have hz':=eA ok hz
 refine cn hd rfl (mY hz' h1) fun c L' hh=>?_
 obtain ⟨b,h1,h2⟩:=hh
 subst h1;subst h2
 exact h b
theorem jb (ok:eh P tt) {e sz by_ n:Nat} {parts:Array (Nat×Operand)} {vs:List AV} {xs:List (List AV)} (h:∀b,bF P r ops Q nt D rest ((d,.vec (some (b,n)) sz xs)::fr) B ((b,.vec e sz n n)::L)) (ht:jW tt t=some (e,sz,by_):=by rfl) (hv:eB fr (parts.toList.map (·.2))=some vs:=by rfl) (hxs:ji vs=some xs:=by rfl) (hn:Nat.beq xs.length n=true:=by rfl) (hi:parts.toList.map (·.1)=List.range' 0 n:=by rfl) (hz:xs.all (fun q=>Nat.beq q.length sz)=true:=by rfl) (h24:Nat.ble (n * sz) 16777216=true:=by rfl) (hd:Nat.ble nt d=false:=by rfl):
  bF P r ops Q nt D (⟨some d,.buildSlice t n parts,ty,pos,af,none⟩::rest) fr B L:=by
 obtain ⟨h1,h2⟩:=bE ok ht
 refine cn hd rfl (xn h1 h2 hv hxs hn hi hz h24) fun c L' hh=>?_
 obtain ⟨b,h1,h2⟩:=hh
 subst h1;subst h2
 exact h b
theorem bA (ok:eh P tt) (L0:AL) {e sz by_:Nat} {k:Option (Nat×Nat)} {l l2:List (List AV)} (ht:jW tt t=some (e,sz,by_)) (hx:bw fr x=some (.vec k sz l)) (hy:bw fr y=some u) (hu:gZ u=some (sz,l2)) (hL:L.Perm (_root_.Go.Proofs.YtamjlkdanllgjaaGreatDoor.tok k e sz l.length++L0)) (h63:l.length+l2.length≤9223372036854775807) (hby:(l.length+l2.length) * by_≤140737488355328) (hd:Nat.ble nt d=false)
  (h:∀k',bF P r ops Q nt D rest ((d,.vec k' sz (l++l2))::fr) B (_root_.Go.Proofs.YtamjlkdanllgjaaGreatDoor.tok k' e sz (l++l2).length++L0)):
  bF P r ops Q nt D (⟨some d,.call ⟨.builtin .append,#[x,y],#[t,t]⟩,ty,pos,af,none⟩::rest) fr B L:=cn hd rfl (oq L0 (bE ok ht).1 (bE ok ht).2 hx hy (cG hu) hL h63 hby) fun c L' ⟨k',h1,h2⟩=>by subst h1;subst h2;exact h k'
class AD (P:Program) (f:FuncId) (args:List AV) (u:outParam AV):Prop where
 det:bH P f args u
theorem bg {f:FuncId} {args:Array Operand} {ts:Array TypeId} (h:bF P r ops Q nt D (⟨some d,.call ⟨.value (.func f),args,ts⟩,ty,pos,af,none⟩::rest) fr B L):bF P r ops Q nt D (⟨some d,.call ⟨.value (.func f),args,ts⟩,ty,pos,af,none⟩::rest) fr B L:=h
theorem b9 {f:FuncId} {args:Array Operand} {ts:Array TypeId} {cs ds:List AV} [bK P f] (h:bF P r ops Q nt D rest ((d,u)::fr) B L) (hv:eB fr args.toList=some cs:=by rfl) (hi:lq cs=some ds:=by rfl) (hc:AD P f ds u:=by infer_instance) (hd:Nat.ble nt d=false:=by rfl):
  bF P r ops Q nt D (⟨some d,.call ⟨.value (.func f),args,ts⟩,ty,pos,af,none⟩::rest) fr B L:=cn hd rfl (Dq (u:=u) hv (by rw [iw hi];exact hc.det)) fun c L' hh=>by obtain ⟨h1,h2⟩:=hh;subst h1;subst h2;exact h
theorem bT {cd:Operand} {xx yy:Code} (hc:bw fr cd=some (.sc (.bool true))) (h:AT P r xx Q nt D fr B L):AT P r (.cond cd xx yy) Q nt D fr B L:=aw hc (fun _=>h) (fun e=>by cases e)
theorem bj {cd:Operand} {xx yy:Code} (hc:bw fr cd=some (.sc (.bool false))) (h:AT P r yy Q nt D fr B L):AT P r (.cond cd xx yy) Q nt D fr B L:=aw hc (fun e=>by cases e) (fun _=>h)
end
def fL (fr:bZ):List Nat→Option bZ
 | []=>some []
 | t::r=>match ce fr t with
  | some v=>match fL fr r with
   | some q=>some ((t,v)::q)
   | none=>none
  | none=>none
theorem ea {fr:bZ}:∀(ks:List Nat) {fr0:bZ},fL fr ks=some fr0→mr fr0 fr
 | [],fr0,h=>by simp [fL] at h;subst h;trivial
 | t::r,fr0,h=>by
  simp only [fL] at h
  split at h
  ·rename_i v hv
   split at h
   ·rename_i q hq
    cases h
    exact ⟨hv,ea r hq⟩
   ·cases h
  ·cases h
theorem mX {a b fr:bZ} (ha:mr a fr) (hb:mr b fr):mr (a++b) fr:=by
 induction a with
 | nil=>exact hb
 | cons p r ih=>obtain ⟨i,v⟩:=p;exact ⟨ha.1,ih ha.2⟩
section
variable {P:Program} {r:Option Nat} {Q:Exit→Act→World→Prop} {nt:Nat} {D:List Deferred} {fr:bZ} {B:Bs} {L:AL} {cd:Code}
def Jd (nt:Nat) (D:List Deferred) (B:Bs) {α:Type} (Inv:α→bZ) (J:α→AL→Prop) (μ:α→Nat) (x:α) (Q:Exit→Act→World→Prop):Exit→Act→World→Prop:=Exit.then (fun a w=>∃σ x' L',j3 σ nt D (Inv x') a∧J x' L'∧dg B σ L' w∧μ x' < μ x) Q
def b8 (nt:Nat) (D:List Deferred) (B:Bs) {α:Type} (V:α→bZ) (fr0:bZ) (C:α→Prop) (Lx:α→AL) (μ:α→Nat) (x:α) (Q:Exit→Act→World→Prop):Exit→Act→World→Prop:=Jd nt D B (fun x=>V x++fr0) (fun x L'=>C x∧L'=Lx x) μ x Q
theorem aJ (ks:List Nat) {α:Type} (V:α→bZ) (C:α→Prop) (Lx:α→AL) (μ:α→Nat) (x0:α) {fr0:bZ} (hk:fL fr ks=some fr0) (hV:mr (V x0) fr) (hC:C x0) (hL:∀σ w,dg B σ L w→dg B σ (Lx x0) w)
  (hb:∀x,C x→AT P r cd (b8 nt D B V fr0 C Lx μ x Q) nt D (V x++fr0) B (Lx x)):AT P r (.loop cd) Q nt D fr B L:=
 Gy (fun x=>V x++fr0) (fun x L'=>C x∧L'=Lx x) μ x0 (Lx x0) (mX hV (ea ks hk)) ⟨hC,rfl⟩ hL fun x L' ⟨h1,h2⟩=>by subst h2;exact hb x h1
theorem aD {α:Type} {V:α→bZ} {fr0:bZ} {C:α→Prop} {Lx:α→AL} {μ:α→Nat} {x:α} (x':α) (hk:fL fr (fr0.map (·.1))=some fr0) (hV:mr (V x') fr) (hC:C x') (hm:μ x' < μ x) (hL:∀σ w,dg B σ L w→dg B σ (Lx x') w):
  AX P .normal (b8 nt D B V fr0 C Lx μ x Q) nt D fr B L:=
 DC x' (Lx x') (mX hV (ea _ hk)) ⟨hC,rfl⟩ hL hm
theorem av {α:Type} {V:α→bZ} {fr0:bZ} {C:α→Prop} {Lx:α→AL} {μ:α→Nat} {x:α} {id:Nat} (h:AX P (.exit id) Q nt D fr B L):AX P (.exit id) (b8 nt D B V fr0 C Lx μ x Q) nt D fr B L:=fun σ a w ha hw=>h σ a w ha hw
instance aB2 {α:Type} {V:α→bZ} {fr0:bZ} {C:α→Prop} {Lx:α→AL} {μ:α→Nat} {x:α} {id:Nat}:O0 (AX P (.exit id) (b8 nt D B V fr0 C Lx μ x Q) nt D fr B L) (AX P (.exit id) Q nt D fr B L):=⟨av⟩
theorem bL {α:Type} {V:α→bZ} {fr0:bZ} {C:α→Prop} {Lx:α→AL} {μ:α→Nat} {x:α} (h:AX P .ret Q nt D fr B L):AX P .ret (b8 nt D B V fr0 C Lx μ x Q) nt D fr B L:=fun σ a w ha hw=>h σ a w ha hw
instance aB3 {α:Type} {V:α→bZ} {fr0:bZ} {C:α→Prop} {Lx:α→AL} {μ:α→Nat} {x:α}:O0 (AX P .ret (b8 nt D B V fr0 C Lx μ x Q) nt D fr B L) (AX P .ret Q nt D fr B L):=⟨bL⟩
theorem qk {fr0:bZ} (ks:List Nat) (hk:fL fr ks=some fr0) (h:AT P r cd Q nt D fr0 B L):AT P r cd Q nt D fr B L:=n2 (ea ks hk) (fun _ _ h=>h) h
end
theorem cH {P:Program} {r:Option Nat} {ops:Array Oper} {Q:Exit→Act→World→Prop} {nt:Nat} {D:List Deferred} {fr fr0:bZ} {B:Bs} {L:AL} {rest:List Oper} {A A':Code} {t:Nat} (ks:List Nat) (C:Prop) (hks:fL fr ks=some fr0) (h:∀Q',(∀fr' b,fL fr' ks=some fr0→ce fr' t=some (.sc (.bool b))→(b=true↔C)→AX P .normal Q' nt D fr' B L)→bF P r ops Q' nt D rest fr B L) (hA:C→AT P r A Q nt D fr0 B L) (hB:¬C→AT P r A' Q nt D fr0 B L):bF P r ops (Kt P r (.cond (.tmp t) A A') Q) nt D rest fr B L:=by
 refine h _ fun fr' b hk hb hC=>?_
 refine a8 (aw hb (fun e=>?_) (fun e=>?_))
 ·exact n2 (ea _ hk) (fun _ _ h=>h) (hA (hC.1 e))
 ·exact n2 (ea _ hk) (fun _ _ h=>h) (hB fun hc=>by have:=hC.2 hc;rw [e] at this;cases this)
end Go.Proofs.YtamjlkdanllgjaaGreatDoor
namespace Go.Proofs.YtamjlkdanllgjaaGreatDoor
open Go.RowKit
section
variable {P:Program} {r:Option Nat} {ops:Array Oper} {Q:Exit→Act→World→Prop} {nt:Nat} {D:List Deferred} {fr:bZ} {B:Bs} {L:AL} {rest:List Oper} {cd:Code} {φ:Prop}
theorem JN (hφ:∀σ a w,j3 σ nt D fr a→dg B σ L w→φ) (h:φ→AT P r cd Q nt D fr B L):AT P r cd Q nt D fr B L:=fun σ a w ha hw=>h (hφ σ a w ha hw) σ a w ha hw
theorem Gz (hφ:∀σ a w,j3 σ nt D fr a→dg B σ L w→φ) (h:φ→bF P r ops Q nt D rest fr B L):bF P r ops Q nt D rest fr B L:=fun σ a w ha hw=>h (hφ σ a w ha hw) σ a w ha hw
theorem Ep {σ:cm} {u:AV} {v:Value} {s:Nat} {l:List (List AV)} (h:VR σ u v) (hu:gZ u=some (s,l)):l.length≤9223372036854775807∧∀e∈l,e.length=s:=by
 have h1:=h.im
 rw [cG hu] at h1
 obtain ⟨_,_,_,h2,h3,h4,_⟩:=h1.imm_inv
 unfold maxLen at h3
 exact ⟨by omega,h4⟩
theorem cV (t:Nat) {u:AV} {s:Nat} {l:List (List AV)} (hl:ce fr t=some u) (hu:gZ u=some (s,l)) (h:l.length≤9223372036854775807→AT P r cd Q nt D fr B L):AT P r cd Q nt D fr B L:=
 JN (fun σ a w ha _=>(Ep (ha.look t u hl) hu).1) h
end
section
variable {P:Program} {nt:Nat} {fr:bZ} {B:Bs} {L:AL}
theorem DB {fn:Func} {Post:AV→AL→Prop} {t:Tmp} {c:AV} {s:Nat} {l:List (List AV)} (hr:fn.results=#[.tmp t]) (hv:ce fr t=some c) (hi:gZ c=some (s,l)) (h:Post (.imm s l) L):AX P .ret (bodyPost P fn (it B Post)) nt [] fr B L:=
 fun σ a w ha hw=>⟨ha.defers,_,results_tmp hr _ _ _,_,σ,.imm s l,L,rfl,by rw [←cG hi];exact (ha.look t c hv).im,hw,h⟩
end
section
variable {P:Program} {r:Option Nat} {ops:Array Oper} {Q:Exit→Act→World→Prop} {nt:Nat} {D:List Deferred} {fr:bZ} {B:Bs} {L:AL} {rest:List Oper} {d:Nat} {ty:TypeId} {pos:String} {af:Array Edge}
def G9 (P:Program) (f:FuncId) (args:List AV) (e s:Nat) (l:List (List AV)):Prop:=AC P f args [] fun c L=>∃k,c= .vec k s l∧L=_root_.Go.Proofs.YtamjlkdanllgjaaGreatDoor.tok k e s l.length
theorem A5 {f:FuncId} {args:Array Operand} {ts:Array TypeId} {cs ds:List AV} {e s:Nat} {l:List (List AV)} [bK P f] (hc:G9 P f ds e s l) (hv:eB fr args.toList=some cs) (hi:lq cs=some ds) (hd:Nat.ble nt d=false) (h:∀k,bF P r ops Q nt D rest ((d,.vec k s l)::fr) B (_root_.Go.Proofs.YtamjlkdanllgjaaGreatDoor.tok k e s l.length++L)):
  bF P r ops Q nt D (⟨some d,.call ⟨.value (.func f),args,ts⟩,ty,pos,af,none⟩::rest) fr B L:=by
 have hc':=hc
 rw [←iw hi] at hc'
 refine cn hd rfl (mZ [] L hv (fun σ vs h=>h.im) (Ok _) hc') fun c L' hh=>?_
 obtain ⟨L1,⟨k,h1,h2⟩,h3⟩:=hh
 subst h1;subst h2;subst h3
 exact h k
end
def aL (l:List Int):List (List AV):=l.map fun z=>[.sc (.int .i64 z)]
theorem aP (l:List Int):(aL l).length=l.length:=by simp [aL]
theorem bD {l:List Int} {i:Nat} {z:Int} (h:l[i]?=some z):(aL l)[i]?=some [.sc (.int .i64 z)]:=by simp [aL,h]
theorem W14 {A B:Prop} (k:B) (h:W00 B→A:=by intro k;(repeat' (first|refine O1 ?_|refine bj rfl ?_));exact k.g):A:=h ⟨k⟩
theorem W1r {A B:Prop} (k:B) (h:W00 B→A:=by intro k;(repeat' (first|(apply aS;refine aR ?_)|fail));exact k.g):A:=h ⟨k⟩
end Go.Proofs.YtamjlkdanllgjaaGreatDoor
