/-
  Structs and arrays that are built; checks for nil; fields of values; arrays.
-/
import Derived.Test.YtpmdfoaadejmkaaGreatDoorM03
import Derived.Laws.Tables
import Derived.RangeFuncNested
import Derived.RangeFuncLeaves
namespace Go.Proofs.YtpmdfoaadejmkaaGreatDoor
open Go.RowKit
def s6 (pl:Nat→Option (Nat×Nat)) (z:List AV):List (Nat×AV)→Option (List AV)
 | []=>some z
 | (i,c)::r=>match pl i with
  | none=>none
  | some (off,n)=>match c.cells with
   | none=>none
   | some ys=>bif Nat.beq ys.length n && Nat.ble (off+n) z.length then s6 pl (fj z off ys) r else none
theorem qh {σ:cr} {pl:Nat→Option (Nat×Nat)}:∀{is:List Nat} {cs z out:List AV} {vs zc:List Value},dh σ cs vs→dh σ z zc→(∀u∈zc,u.oneCell'=true)→s6 pl z (is.zip cs)=some out→∃oc:List Value,Instr.fill pl zc.toArray (is.zip vs)=some oc.toArray∧dh σ out oc∧∀u∈oc,u.oneCell'=true
 | [],cs,z,out,vs,zc,_,hz,h1,h=>by
  simp only [List.zip_nil_left,s6,Option.some.injEq] at h
  subst h
  exact ⟨zc,by simp [Instr.fill],hz,h1⟩
 | i::is,[],z,out,vs,zc,hc,hz,h1,h=>by
  rw [hc.nil_inv]
  simp only [List.zip_nil_right,s6,Option.some.injEq] at h ⊢
  subst h
  exact ⟨zc,by simp [Instr.fill],hz,h1⟩
 | i::is,c::cs,z,out,vs,zc,hc,hz,h1,h=>by
  obtain ⟨v,ws,rfl,hv,hs⟩:=hc.inv
  simp only [List.zip_cons_cons,s6] at h ⊢
  cases hp:pl i with
  | none=>rw [hp] at h;cases h
  | some q=>
   obtain ⟨off,n⟩:=q
   rw [hp] at h
   simp only at h
   cases hcc:c.cells with
   | none=>rw [hcc] at h;cases h
   | some ys=>
    rw [hcc] at h
    simp only at h
    cases hb:(Nat.beq ys.length n && Nat.ble (off+n) z.length) with
    | false=>rw [hb] at h;cases h
    | true=>
     rw [hb] at h
     simp only [cond_true] at h
     simp only [Bool.and_eq_true,Nat.beq_eq,Nat.ble_eq] at hb
     obtain ⟨k1,k2⟩:=hv.cells hcc
     have hl1:=k1.1
     have hl2:=hz.1
     have hvs:v.cells.size=n:=by rw [←hb.1,hl1];simp
     obtain ⟨f1,f2⟩:=o5 off v.cells.toList 0 zc.toArray
     have ef:v.cells.zipIdx.foldl (fun (cs:Array Value) (x:Value×Nat)=>cs.setIfInBounds (off+x.2) x.1) zc.toArray=(v.cells.toList.zipIdx 0).foldl (fun (a:Array Value) (p:Value×Nat)=>a.setIfInBounds (off+p.2) p.1) zc.toArray:=by
      rw [←Array.foldl_toList,Array.toList_zipIdx]
     generalize (v.cells.toList.zipIdx 0).foldl (fun (a:Array Value) (p:Value×Nat)=>a.setIfInBounds (off+p.2) p.1) zc.toArray=A at *
     have hA:dh σ (fj z off ys) A.toList:=by
      refine ⟨by rw [iO];simp [f1,hl2],fun j c' u hc' hu=>?_⟩
      have hu':A[j]?=some u:=by simpa using hu
      rw [f2 j] at hu'
      rw [gq _ _ _ _ (by omega)] at hc'
      simp only [List.size_toArray,Nat.add_zero,List.getElem?_toArray] at hu'
      by_cases hj:off≤j∧j < off+ys.length
      ·rw [if_pos hj] at hc'
       rw [if_pos (by omega)] at hu'
       exact k1.2 _ c' u hc' hu'
      ·rw [if_neg hj] at hc'
       rw [if_neg (by omega)] at hu'
       exact hz.2 j c' u hc' hu'
     have hA1:∀u∈A.toList,u.oneCell'=true:=fun u hu=>by
      obtain ⟨j,hj,rfl⟩:=List.getElem_of_mem hu
      have hu':A[j]?=some (A.toList[j]):=by rw [←Array.getElem?_toList];exact Hb hj
      rw [f2 j] at hu'
      split at hu'
      ·exact k2 _ (Jx hu')
      ·exact h1 _ (Jx (by simpa using hu'))
     obtain ⟨oc,o1,o2,o3⟩:=qh hs hA hA1 h
     refine ⟨oc,?_,o2,o3⟩
     simp only [Instr.fill,hp]
     rw [if_neg (by simp [hvs];omega),ef]
     simpa using o1
def o6:List AV→Option (List AV)
 | []=>some []
 | v::r=>match o6 r with
  | some q=>some (v::q)
  | none=>none
theorem sd:∀{l q:List AV},o6 l=some q→q=l
 | [],q,h=>by simp [o6] at h;exact h
 | v::r,q,h=>by
  simp only [o6] at h
  cases hr:o6 r with
  | none=>rw [hr] at h;cases h
  | some q'=>rw [hr] at h;injection h with h;rw [←h,sd hr]
def tN (ti:TI) (i:Nat):Option (Nat×Nat):=match ti.k with
 | .struct offs=>match offs[i]? with
  | some (o,s,_)=>some (o,s)
  | none=>none
 | .arr _ _ sz=>some (i * sz,sz)
 | _=>none
def wc (ti:TI) (parts:List (Nat×AV)):Option (List AV):=match s6 (tN ti) (ti.zero.map .sc) parts with
 | some cs=>o6 cs
 | none=>none
theorem oK {P:Program}:∀(fs:List Field) (r:List (Nat×Nat×Bool)),lF P fs r=true→fs.mapM (fun f=>(P.info? f.type).map fun i=>(f.offset,i.size))=some (r.map fun q=>(q.1,q.2.1))
 | [],[],_=>rfl
 | x::fs,(o',s',b')::r,h=>by
  simp only [lF,Bool.and_eq_true,Nat.beq_eq] at h
  obtain ⟨⟨⟨⟨h1,h2⟩,_⟩,_⟩,h5⟩:=h
  unfold p9 at h2
  split at h2
  ·rename_i i hi
   rw [Nat.beq_eq] at h2
   simp [List.mapM_cons,hi,oK fs r h5,h1,h2]
  ·cases h2
 | [],_::_,h=>by cases h
 | _::_,[],h=>by cases h
theorem er.built {P:Program} {tt:TT} (ok:er P tt) {t:Nat} {ti:TI} (h:df tt t=some ti) (hk:ti.k.agg=true) (parts:List (Nat×Value)):P.built t parts=Instr.fill (tN ti) ti.zero.toArray parts:=by
 have h0:=ok.ok t ti h
 simp only [Ar,Bool.and_eq_true] at h0
 obtain ⟨⟨_,h1⟩,h2⟩:=h0
 unfold Program.built
 split at h1
 ·rename_i i hi
  split at h1
  ·rename_i z hz
   have hzz:=lA h1
   have hz':z.cells=ti.zero.toArray:=by rw [←hzz]
   split at h2
   all_goals try (cases hq:ti.k <;> rw [hq] at h2 hk <;> simp_all [TK.agg];done)
   ·rename_i fs hu
    cases hq:ti.k with
    | struct offs=>
     rw [hq] at h2
     simp only [hi,hu,hz,oK _ _ h2,hz']
     congr 1
     funext x
     simp [tN,hq]
     cases offs[x]? <;> rfl
    | _=>rw [hq] at h2;cases h2
   ·rename_i n e hu
    cases hq:ti.k with
    | arr n' e' sz=>
     rw [hq] at h2
     simp only [Bool.and_eq_true,Nat.beq_eq] at h2
     obtain ⟨⟨_,rfl⟩,h3⟩:=h2
     unfold p9 at h3
     split at h3
     ·rename_i j hj
      rw [Nat.beq_eq] at h3
      simp only [hi,hu,hz,hj,hz',h3]
      congr 1
      funext x
      simp [tN,hq]
     ·cases h3
    | _=>rw [hq] at h2;cases h2
   ·cases h2
  ·cases h1
 ·cases h1
section
variable {P:Program} {tt:TT} {fr:c8} {B:Bs} {L:AL} {d:Option Tmp} {ty t t':TypeId} {pos:String} {af:Array Edge} {g:Option (Nat×Bool)} {x y:Operand} {u:AV}
theorem DI (ok:er P tt) {ti:TI} {parts:Array (Nat×Operand)} {vs out:List AV} (ht:df tt t=some ti) (hk:ti.k.agg=true) (hz1:ti.zero.all (·.oneCell')=true) (hv:eA fr (parts.toList.map (·.2))=some vs) (hb:wc ti ((parts.toList.map (·.1)).zip vs)=some out):Av P ⟨d,.build t parts,ty,pos,af,g⟩ fr (.agg out):=by
 intro σ ρ w hρ _
 have hvs:=f7 hρ _ _ hv
 generalize hws:(parts.toList.map (·.2)).map ρ=ws at *
 have e1:parts.map (fun p=>(p.1,ρ p.2))=((parts.toList.map (·.1)).zip ws).toArray:=by
  apply Array.toList_inj.1
  rw [←hws]
  simp only [Array.toList_map,List.map_map]
  induction parts.toList with
  | nil=>rfl
  | cons p l ih=>simp only [Jr,List.zip_cons_cons,ih];rfl
 unfold wc at hb
 split at hb
 ·rename_i cs hf
  have:=sd hb
  subst this
  have hz:dh σ (ti.zero.map .sc) ti.zero:=⟨by simp,fun i c u hc hu=>by
   rw [List.getElem?_map,hu] at hc
   simp at hc
   subst hc
   exact .sc u⟩
  obtain ⟨oc,o1,o2,o3⟩:=qh hvs hz (fun u hu=>List.all_eq_true.1 hz1 u hu) hf
  refine ⟨.agg oc.toArray,?_,.agg _ _ o2.1 o2.2 o3⟩
  have hr:=run_build (P:=P) w t ((parts.toList.map (·.1)).zip ws).toArray oc.toArray (by rw [ok.built ht hk];simpa using o1)
  simp only [execOp]
  rw [e1]
  simp [hr]
 ·cases hb
theorem Gq {a:Addr} (hx:bo fr x=some (.sc (.pointer (some a)))):Av P ⟨d,.nilCheck x,ty,pos,af,g⟩ fr (.sc (.pointer (some a))):=
 ew fun ρ w hρ=>by simp [execOp,hρ _ _ hx]
theorem Gp {cs:List AV} (hx:bo fr x=some (.iptr cs)):Av P ⟨d,.nilCheck x,ty,pos,af,g⟩ fr (.iptr cs):=fun σ ρ w hρ _=>by
 have h:=hρ x _ hx
 obtain ⟨b,off,hv,_⟩:=h.iptr_inv
 exact ⟨ρ x,by simp [execOp,hv],h⟩
theorem Gn {f:FuncId} {cs:List AV} (hx:bo fr x=some (.fn f cs)):Av P ⟨d,.nilCheck x,ty,pos,af,g⟩ fr (.fn f cs):=fun σ ρ w hρ _=>by
 have h:=hρ x _ hx
 obtain ⟨vs,hv,_⟩:=h.fn_inv
 exact ⟨ρ x,by simp [execOp,hv],h⟩
theorem DN (ok:er P tt) {s f o z:Nat} {b:Bool} {ti:TI} {offs:List (Nat×Nat×Bool)} {cs:List AV} (ht:df tt s=some ti) (hk:ti.k= .struct offs) (hf:offs[f]?=some (o,z,b)) (hx:bo fr x=some (.agg cs)) (hu:(bif b then (bif Nat.ble (o+z) cs.length then some (.agg ((cs.drop o).take z)) else none) else cs[o]?)=some u):Av P ⟨d,.field s x f,ty,pos,af,g⟩ fr u:=by
 intro σ ρ w hρ _
 obtain ⟨vs,hv,hs,h1⟩:=(hρ x _ hx).agg_inv
 obtain ⟨_,fl,fs,hus,hfl,hoff,hsz,hag⟩:=ok.fd ht hk hf
 have hszr:(sizeOf fl.type).run P w= .ok z w:=by
  cases hq:P.info? fl.type with
  | none=>rw [hq] at hsz;cases hsz
  | some i=>rw [hq] at hsz;simp only [Option.map_some,Option.some.injEq] at hsz;simp [sizeOf,typeInfo,hq,hsz]
 have hagr:(isAgg fl.type).run P w= .ok b w:=by
  unfold DR at hag
  cases hq:P.underlying fl.type with
  | none=>rw [hq] at hag;cases hag
  | some dd=>
   rw [hq] at hag
   simp only [isAgg,Sem.run_bind,run_underlying hq,Result.andThen]
   cases dd <;> simp_all
 cases b with
 | true=>
  simp only [cond_true] at hu
  cases hb:Nat.ble (o+z) cs.length with
  | false=>rw [hb] at hu;cases hu
  | true=>
   rw [hb] at hu
   simp only [cond_true,Option.some.injEq] at hu
   subst hu
   rw [Nat.ble_eq] at hb
   have hl:=hs.1
   refine ⟨.agg ((vs.drop o).take z).toArray,?_,.agg _ _ (by simp [hl]) (fun i c u hc hu=>?_) fun u hu=>h1 u (List.mem_of_mem_drop (List.mem_of_mem_take hu))⟩
   ·simp [execOp,hv,Instr.field,run_underlying hus,hfl,part,hagr,hszr,asAgg,hoff]
   ·rw [List.getElem?_take] at hc hu
    split at hc
    ·rename_i hi
     rw [if_pos hi,List.getElem?_drop] at hu
     rw [List.getElem?_drop] at hc
     exact hs.2 _ c u hc hu
    ·cases hc
 | false=>
  simp only [cond_false] at hu
  obtain ⟨v,g1,g2⟩:=hs.get hu
  exact ⟨v,by simp [execOp,hv,Instr.field,run_underlying hus,hfl,part,hagr,asAgg,hoff,g1],g2⟩
def rk (tt:TT) (fr:c8) (op:Op):Option AV:=match op with
 | .build t parts=>match df tt t with
  | some ti=>bif ti.k.agg && ti.zero.all (·.oneCell') then (match eA fr (parts.toList.map (·.2)) with
   | some vs=>match wc ti ((parts.toList.map (·.1)).zip vs) with
    | some out=>some (.agg out)
    | none=>none
   | none=>none) else none
  | none=>none
 | .nilCheck x=>match bo fr x with
  | some (.sc (.pointer (some a)))=>some (.sc (.pointer (some a)))
  | some (.iptr cs)=>some (.iptr cs)
  | some (.fn f cs)=>some (.fn f cs)
  | _=>none
 | .field s x f=>match df tt s with
  | some ⟨.struct offs,_,_⟩=>match offs[f]? with
   | some (o,z,b)=>match bo fr x with
    | some (.agg cs)=>(bif b then (bif Nat.ble (o+z) cs.length then some (.agg ((cs.drop o).take z)) else none) else cs[o]?)
    | _=>none
   | none=>none
  | _=>none
 | op=>yr tt fr op
theorem mz (ok:er P tt) {op:Op} {u:AV} (h:rk tt fr op=some u):Av P ⟨d,op,ty,pos,af,g⟩ fr u:=by
 unfold rk at h
 split at h
 ·split at h
  ·rename_i ti ht
   cases hb:(ti.k.agg && ti.zero.all (·.oneCell')) with
   | false=>rw [hb] at h;cases h
   | true=>
    rw [hb] at h
    simp only [cond_true] at h
    simp only [Bool.and_eq_true] at hb
    split at h
    ·rename_i vs hvs
     split at h
     ·rename_i out hout
      cases h
      exact DI ok ht hb.1 hb.2 hvs hout
     ·cases h
    ·cases h
  ·cases h
 ·split at h <;> first | cases h | skip
  ·rename_i hx;exact Gq hx
  ·rename_i hx;exact Gp hx
  ·rename_i hx;exact Gn hx
 ·split at h
  ·rename_i ht
   split at h
   ·rename_i hf
    split at h
    ·rename_i hx;exact DN ok ht rfl hf hx h
    ·cases h
   ·cases h
  ·cases h
 ·exact xj ok h
end
end Go.Proofs.YtpmdfoaadejmkaaGreatDoor
namespace Go.Proofs.YtpmdfoaadejmkaaGreatDoor
open Go.RowKit
def nI (rec:Loop):AB:= .raw fun o=>o= .loop rec
def u2:AB:= .raw fun o=>o= .deferred (some [])
theorem l9 (w:World) (l:Nat) (o:Obj):w.grownBy (w.putObj l o) (some l):=
 ⟨rfl,rfl,rfl,by simp [World.putObj],fun k _ hk=>World.putObj_heap_other (fun e=>hk (by rw [e]))⟩
theorem d7.turn {B:Bs} {σ:cr} {L:AL} {w:World} {l:Nat} {q:Obj→Prop} {a':AB} {o:Obj} (h:d7 B σ (L++[(l,.raw q)]) w) (hq:a'.holds σ o):d7 B σ (L++[(l,a')]) (w.putObj l o):=by
 have h1:d7 B σ ((l,.raw q)::L) w:=h.perm List.perm_append_comm
 have hlt:=h1.lt (List.mem_cons_self ..)
 exact (h1.put (fun _=>trivial) (l9 w l o) (World.putObj_heap_same hlt) hq).perm (List.perm_append_comm (l₁:=[(l,a')]))
def AY (P:Program) (σ0:cr) (l:Nat) (args:List AV) (L:AL) (Post:AV→AL→Prop):Prop:=∀σ w vs,σ0.le σ→dh σ args vs→d7 ⟨w,σ,L.map (·.1)⟩ σ L w→
 ∃f tmps assign body,(Instr.yield l vs.toArray).run P w= .ok (.round l f tmps assign body) w∧RoundIn Fence.wide 0 P l f tmps assign body w (jn ⟨w,σ,L.map (·.1)⟩ Post)
def FV (P:Program) (σ0:cr) (f:FuncId) (args:List AV) (L:AL) (Post:AV→AL→Prop):Prop:=∀σ w vs,σ0.le σ→dh σ args vs→d7 ⟨w,σ,L.map (·.1)⟩ σ L w→Calls P f vs.toArray w (jn ⟨w,σ,L.map (·.1)⟩ Post)
section
variable {P:Program} {r:Option Nat} {ops:Array Oper} {Q:Exit→Act→World→Prop} {nt:Nat} {D:List Deferred} {fr:c8} {B:Bs} {L:AL} {rest:List Oper} {σ0:cr}
variable {d:Option Tmp} {ty t t':TypeId} {pos:String} {af:Array Edge} {g:Option (Nat×Bool)} {x y z:Operand} {u:AV}
theorem Be (hB:σ0.le B.σ) (Lc Lf:AL) {l:Nat} {args:Array Operand} {ts:Array TypeId} {cs cs':List AV} {Post:AV→AL→Prop} (hz:bo fr z=some (.sc (.func (.yield l) #[] #[]))) (hv:eA fr args.toList=some cs) (hcs:∀σ vs,dh σ cs vs→dh σ cs' vs) (hL:L.Perm (Lc++Lf)) (h:AY P σ0 l cs' Lc Post):
  AO P ⟨d,.call ⟨.value z,args,ts⟩,ty,pos,af,g⟩ fr B L (fun c L'=>∃L1,Post c L1∧L'=L1++Lf):=by
 intro σ ρ w hρ hw0
 have hw:=hw0.perm hL
 have e:args.map ρ=(args.toList.map ρ).toArray:=by apply Array.toList_inj.1;simp
 obtain ⟨f,tmps,assign,body,hy,hr⟩:=h σ w _ (cr.le_trans hB hw.grow) (hcs _ _ (f7 hρ _ _ hv)) hw.enter
 unfold ia
 rw [show (execOp ρ ⟨d,.call ⟨.value z,args,ts⟩,ty,pos,af,g⟩).run P w= .ok (.round l f tmps assign body) w by
  simp [execOp,resolve,(hρ z _ hz).sc_inv,Deferred.ofValue,e,invoke,hy]]
 refine hr.mono fun en w' hh=>?_
 obtain ⟨v,τ,c,L',h1,h2,h3,h4⟩:=hh
 exact ⟨v,h1,τ,c,L'++Lf,h3.grow,h2,hw.leave h3,L',h4,rfl⟩
theorem B7 {f:FuncId} {fn:Func} {c:Code} {args:List AV} {Post:AV→AL→Prop} (hf:P.funcs[f]?=some fn) (hb:fn.body=some c) (hn:fn.ntmps=nt) (hs:Nat.ble args.length nt=true)
  (h:∀B,σ0.le B.σ→AT P none c (bodyPost P fn (jn B Post)) nt [] (pI 0 args) B L):FV P σ0 f args L Post:=by
 intro σ w vs hle hv hst
 have hs':args.length≤nt:=by simpa [Nat.ble_eq] using hs
 have hl:=hv.1
 refine (callsIn_wide (n:=0)).1 (callsIn_of_wp hf hb trivial (h _ hle σ _ w ⟨?_,rfl,?_⟩ hst))
 ·simp [hn];omega
 ·intro t v hlk
  obtain ⟨_,h2⟩:=jT args 0 t v hlk
  simp only [Nat.sub_zero] at h2
  have hlt:t < vs.length:=by have:=(Jq h2).1;omega
  simp only [Array.getD_eq_getD_getElem?]
  rw [Array.getElem?_append_left (by simpa using hlt)]
  have:=hv.2 t v vs[t] h2 (Hb hlt)
  simpa [hlt] using this
theorem B6 {f:FuncId} {fn:Func} {c:Code} {args:List AV} {Post:AV→AL→Prop} (hf:P.funcs[f]?=some fn) (hb:fn.body=some c) (hn:fn.ntmps=nt) (hs:Nat.ble args.length nt=true)
  (h:∀B,AT P none c (bodyPostM Fence.wide 0 P fn (jn B Post)) nt [] (pI 0 args) B L):AC P f args L Post:=by
 intro σ w vs hv hst
 have hs':args.length≤nt:=by simpa [Nat.ble_eq] using hs
 have hl:=hv.1
 refine (callsIn_wide (n:=0)).1 (callsIn_of_wp_marks hf hb trivial (h _ σ _ w ⟨?_,rfl,?_⟩ hst))
 ·simp [hn];omega
 ·intro t v hlk
  obtain ⟨_,h2⟩:=jT args 0 t v hlk
  simp only [Nat.sub_zero] at h2
  have hlt:t < vs.length:=by have:=(Jq h2).1;omega
  simp only [Array.getD_eq_getD_getElem?]
  rw [Array.getElem?_append_left (by simpa using hlt)]
  have:=hv.2 t v vs[t] h2 (Hb hlt)
  simpa [hlt] using this
def r5 (P:Program) (fr:c8) (L:AL):List ResultVar→List AV→Prop
 | [],[]=>True
 | .tmp t::r,c::cs=>cj fr t=some c∧r5 P fr L r cs
 | .cell t e::r,c::cs=>(∃(b i:Nat) (ds:List AV) (e':TypeId),cj fr t=some (.sc (.pointer (some ⟨b,0,none⟩)))∧L[i]?=some (b,.box ds e')∧((Fq P e∧ds[0]?=some c)∨(FX P e ds.length∧c= .agg ds)))∧r5 P fr L r cs
 | _,_=>False
def ve:List AV→AV
 | [c]=>c
 | cs=> .tup cs
def CX (tmps:Array Value):ResultVar→Sem Value
 | .tmp t=>pure (tmps.getD t undef)
 | .cell q t=>do loadVar t (←asAddr (tmps.getD q undef))
theorem mw {σ:cr} {a:Act} {w:World} (ha:j9 σ nt D fr a) (hw:d7 B σ L w):∀(rs:List ResultVar) (cs:List AV),r5 P fr L rs cs→∃vs:List Value,(rs.mapM (CX a.tmps)).run P w= .ok vs w∧dh σ cs vs
 | [],[],_=>⟨[],by simp,dh.nil⟩
 | .tmp t::r,c::cs,h=>by
  obtain ⟨vs,h1,h2⟩:=mw ha hw r cs h.2
  exact ⟨a.tmps.getD t undef::vs,by simp [List.mapM_cons,CX,h1],dh.cons (ha.look t c h.1) h2⟩
 | .cell t e::r,c::cs,h=>by
  obtain ⟨⟨b,i,ds,e',hp,hL,hcase⟩,hr⟩:=h
  obtain ⟨vs,h1,h2⟩:=mw ha hw r cs hr
  obtain ⟨us,hb,hus,hone⟩:=hw.boxCell hL
  have hpv:=(ha.look t _ hp).sc_inv
  rcases hcase with ⟨hsc,hc⟩ | ⟨hag,rfl⟩
  ·obtain ⟨v,hv,hvr⟩:=hus.get hc
   have hcell:w.cell? ⟨b,0,none⟩=some v:=by rw [cT hb];simpa using hv
   haveI:=hsc
   refine ⟨v::vs,?_,dh.cons hvr h2⟩
   rw [List.mapM_cons]
   simp only [CX,Sem.run_bind,hpv]
   simp [asAddr,gt (P:=P) (t:=e) hcell,h1]
  ·have hlen:=hus.1
   have hrun:=gr (P:=P) (t:=e) (w:=w) (b:=b) (o:=0) (cs:=us) (k:=ds.length) hlen.symm (fun j v hj=>by rw [Nat.zero_add,cT hb];simpa using hj)
   refine ⟨.agg us.toArray::vs,?_,dh.cons (.agg ds us hlen hus.2 hone) h2⟩
   rw [List.mapM_cons]
   simp only [CX,Sem.run_bind,hpv]
   simp [asAddr,hrun,h1]
theorem lr {σ:cr} {a:Act} {w:World} {fn:Func} {cs:List AV} (ha:j9 σ nt D fr a) (hw:d7 B σ L w) (h:r5 P fr L fn.results.toList cs):∃v,(results fn a.tmps).run P w= .ok v w∧VR σ (ve cs) v:=by
 obtain ⟨vs,h1,h2⟩:=mw ha hw _ _ h
 have hl:=h2.1
 have e:(results fn a.tmps).run P w= .ok (if h:vs.toArray.size=1 then vs.toArray[0] else .tuple vs.toArray) w:=by
  have hfun:results fn a.tmps=(do let vs ←fn.results.mapM (CX a.tmps);pure (if h:vs.size=1 then vs[0] else .tuple vs)):=by
   unfold results
   congr 1
  rw [hfun,Array.mapM_eq_mapM_toList]
  simp [h1]
 refine ⟨_,e,?_⟩
 clear e h1 h
 match cs,vs,hl,h2 with
 | [],[],_,h2=>exact VR.tup [] [] rfl (fun i c u h=>by simp at h)
 | [c],[v],_,h2=>exact h2.2 0 c v rfl rfl
 | c::c'::cs,v::v'::vs,_,h2=>simpa [ve] using VR.tup _ _ h2.1 h2.2
def Cy (dbs:List Nat):List Deferred:=dbs.map fun b=>{ target:= .collected b,args:=#[] }
theorem n6 {fn:Func} {R:Ending→World→Prop} {tmps:Array Value} {σ:cr}:∀(dbs:List Nat) (L:AL) (w:World),d7 B σ (L++dbs.map fun b=>(b,u2)) w→(∀w',d7 B σ L w'→LeavesInM Fence.wide 0 P fn tmps R [] .returning w')→LeavesInM Fence.wide 0 P fn tmps R (Cy dbs) .returning w
 | [],L,w,hw,h=>h w (by simpa using hw)
 | b::dbs,L,w,hw,h=>by
  have hp:d7 B σ ((L++dbs.map fun b=>(b,u2))++[(b,u2)]) w:=hw.perm (by
   simp only [Jr,List.append_assoc]
   exact (List.perm_append_comm (l₁:=[_])).append_left L)
  obtain ⟨o,ho,hq⟩:=hp.here (b,u2) (by simp)
  have hq:o= .deferred (some []):=hq
  rw [hq] at ho
  refine ⟨by simp,.inl ⟨_,_,rfl,run_takeDeferred ho,n6 dbs L _ ?_ h⟩⟩
  exact (hp.turn (a':= .raw fun _=>True) trivial).sublist (List.sublist_append_left ..)
theorem pu {fn:Func} {Post:AV→AL→Prop} {cs:List AV} (dbs:List Nat) (L0:AL) (hD:D=Cy dbs) (hL:L.Perm (L0++dbs.map fun b=>(b,u2))) (hr:r5 P fr L0 fn.results.toList cs) (h:Post (ve cs) L0):AX P .ret (bodyPostM Fence.wide 0 P fn (jn B Post)) nt D fr B L:=by
 intro σ a w ha hw
 show LeavesInM _ _ _ _ _ _ a.defers _ _
 rw [ha.defers,hD]
 refine n6 dbs L0 w (hw.perm hL) fun w' hw'=>?_
 obtain ⟨v,h1,h2⟩:=lr ha hw' hr
 exact ⟨v,h1,v,σ,ve cs,L0,rfl,h2,hw',h⟩
theorem xO {fn:Func} {Post:AV→AL→Prop} {cs:List AV} (hr:r5 P fr L fn.results.toList cs) (h:Post (ve cs) L):AX P .ret (bodyPost P fn (jn B Post)) nt [] fr B L:=by
 intro σ a w ha hw
 obtain ⟨v,h1,h2⟩:=lr ha hw hr
 exact ⟨ha.defers,v,h1,v,σ,ve cs,L,rfl,h2,hw,h⟩
def rT:List Nat→List AV→c8→c8
 | p::ps,v::vs,fr=>rT ps vs ((p,v)::fr)
 | _,_,fr=>fr
theorem j9.fset {σ:cr} {D':List Deferred}:∀(ps:List Nat) (cs:List AV) (vs:List Value) (fr:c8) (t:Array Value),ps.length=cs.length→(∀p∈ps,p < nt)→dh σ cs vs→j9 σ nt D' fr ⟨t,D'⟩→j9 σ nt D' (rT ps cs fr) ⟨(ps.zip vs).foldl (fun t q=>t.setIfInBounds q.1 q.2) t,D'⟩
 | [],cs,vs,fr,t,_,_,_,h=>by simpa [rT] using h
 | p::ps,[],vs,fr,t,hl,_,_,h=>by simp at hl
 | p::ps,c::cs,vs,fr,t,hl,hp,hvs,h=>by
  obtain ⟨v,ws,rfl,hv,hs⟩:=hvs.inv
  simp only [rT,List.zip_cons_cons,List.foldl_cons]
  refine j9.fset ps cs ws _ _ (by simpa using hl) (fun q hq=>hp q (Ju _ hq)) hs ?_
  have:=h.put (hp p (List.mem_cons_self ..)) hv
  simpa [Act.put] using this
def IU (P:Program) (l:Nat) (body:Code) (Qb:Exit→Act→World→Prop):Exit→Act→World→Prop:=Exit.then (fun a w=>∃w2,(Instr.beginRound l).run P w= .ok () w2∧body.wpIn (Wd (some l)) 0 P Qb a w2) (fun _ _ _=>False)
theorem uq {l:Nat} {body:Code} {Qb:Exit→Act→World→Prop} {rec:Loop} (hr:rec.state= .ready) (h:AT P (some l) body Qb nt D fr B (L++[(l,nI { rec with state:= .busy })])):AX P .normal (IU P l body Qb) nt D fr B (L++[(l,nI rec)]):=by
 intro σ a w ha hw
 obtain ⟨o,ho,hq⟩:=hw.here (l,nI rec) (by simp)
 have hq:o= .loop rec:=hq
 rw [hq] at ho
 exact ⟨_,run_beginRound ho hr,h σ a _ ha (hw.turn (a':=nI { rec with state:= .busy }) rfl)⟩
def Iu (P:Program) (l:Nat) (B:Bs) (Post:AV→AL→Prop):Exit→Act→World→Prop:=roundPost P l (jn B Post)
theorem Gx {l:Nat} {rec:Loop} {Post:AV→AL→Prop} (h:Post (.sc (.bool true)) (L++[(l,nI { rec with state:= .ready,pending:=none })])):AX P .normal (Iu P l B Post) nt D fr B (L++[(l,nI rec)]):=by
 intro σ a w ha hw
 obtain ⟨o,ho,hq⟩:=hw.here (l,nI rec) (by simp)
 have hq:o= .loop rec:=hq
 rw [hq] at ho
 exact ⟨_,_,run_endRound none ho,_,σ,_,_,rfl,.sc _,hw.turn (a':=nI { rec with state:= .ready,pending:=none }) rfl,h⟩
theorem w8 {l:Nat} {rec:Loop} {Post:AV→AL→Prop} (h:Post (.sc (.bool false)) (L++[(l,nI { rec with state:= .done,pending:=some .ret })])):AX P .ret (Iu P l B Post) nt D fr B (L++[(l,nI rec)]):=by
 intro σ a w ha hw
 obtain ⟨o,ho,hq⟩:=hw.here (l,nI rec) (by simp)
 have hq:o= .loop rec:=hq
 rw [hq] at ho
 exact ⟨_,_,run_endRound (some .ret) ho,_,σ,_,_,rfl,.sc _,hw.turn (a':=nI { rec with state:= .done,pending:=some .ret }) rfl,h⟩
structure Fy (rec:Loop) (σ0:cr) (nt:Nat) (fr:c8) (ps:List Nat) (assign body:Code):Prop where
 state:rec.state= .ready
 pending:rec.pending=none
 params:rec.params=ps.toArray
 assign:rec.assign=assign
 body:rec.body=body
 size:rec.tmps.size=nt
 look:∀t c,cj fr t=some c→VR σ0 c (rec.tmps.getD t undef)
theorem FC {rec:Loop} {ps:List Nat} {assign body:Code} {l:Nat} {args:List AV} {Post:AV→AL→Prop} (hr:Fy rec σ0 nt fr ps assign body) (hlen:ps.length=args.length) (hps:ps.all (fun p=>Nat.blt p nt)=true)
  (h:∀B,σ0.le B.σ→AT P (some l) assign (IU P l body (Iu P l B Post)) nt [] (rT ps args fr) B (L++[(l,nI rec)])):AY P σ0 l args (L++[(l,nI rec)]) Post:=by
 intro σ w vs hle hvs hst
 obtain ⟨o,ho,hq⟩:=hst.here (l,nI rec) (by simp)
 have hq:o= .loop rec:=hq
 rw [hq] at ho
 have hl:=hvs.1
 have hy:=run_yield (P:=P) (args:=vs.toArray) ho (by simp [hr.params];omega)
 refine ⟨_,_,_,_,hy,?_⟩
 rw [hr.assign,hr.body]
 refine roundIn_of_wpIn (F:=Fence.wide) trivial ?_
 have hag:j9 σ nt [] (rT ps args fr) ⟨(ps.zip vs).foldl (fun t q=>t.setIfInBounds q.1 q.2) rec.tmps,[]⟩:=j9.fset ps args vs fr rec.tmps hlen (fun p hp=>by have:=List.all_eq_true.1 hps p hp;simpa [Nat.blt_eq] using this) hvs ⟨hr.size,rfl,fun t c hc=>(hr.look t c hc).mono hle⟩
 have htm:(rec.params.zip vs.toArray).foldl (fun tmps (q:Nat×Value)=>tmps.setIfInBounds q.1 q.2) rec.tmps=(ps.zip vs).foldl (fun t q=>t.setIfInBounds q.1 q.2) rec.tmps:=by
  rw [hr.params]
  simp
 have:=h ⟨w,σ,(L++[(l,nI rec)]).map (·.1)⟩ hle σ _ w hag hst
 rw [←htm] at this
 exact this
def FO (P:Program) (Q:Exit→Act→World→Prop) (nt:Nat) (D:List Deferred) (fr:c8) (B:Bs) (L:AL):Option Code→Prop
 | none=>AX P .normal Q nt D fr B L
 | some .ret=>AX P .ret Q nt D fr B L
 | some (.exit id)=>AX P (.exit id) Q nt D fr B L
 | _=>False
theorem um {gv:Operand} {ps:List Nat} {assign body:Code} {gf:FuncId} {cap:List AV} [hf:bM P gf] (hg:bo fr gv=some (.fn gf cap))
  (h:∀σ0 l db rec,Fy rec σ0 nt fr ps assign body→∃Post,FV P σ0 gf (.sc (.func (.yield l) #[] #[])::cap) ((L++[(db,u2)])++[(l,nI rec)]) Post∧∀c L',Post c L'→∃rec' L1,L'.Perm (L1++[(l,nI rec')])∧rec'.state≠ .busy∧FO P Q nt ({ target:= .collected db,args:=#[] }::D) fr B L1 rec'.pending):
  AT P none (.rangeFunc gv ps.toArray assign body) Q nt D fr B L:=by
 intro σ a w ha hw
 refine wpIn_rangeFunc ?_
 intro fn hfn
 obtain ⟨rec,hrec⟩:∃rec:Loop,rec={ state:= .ready,pending:=none,fn,tmps:=a.tmps,params:=ps.toArray,assign,body,defers:=w.heap.size }:=⟨_,rfl⟩
 have h1:=(hw.alloc (.deferred (some [])) u2 rfl).perm (List.perm_append_comm (l₁:=[(w.heap.size,u2)]))
 have h2:=(h1.alloc (.loop rec) (nI rec) rfl).perm (List.perm_append_comm (l₁:=[((w.alloc (.deferred (some []))).heap.size,nI rec)]))
 simp only [World.size_alloc] at h2
 obtain ⟨Post,hac,hpost⟩:=h σ (w.heap.size+1) w.heap.size rec (by rw [hrec];exact ⟨rfl,rfl,rfl,rfl,rfl,ha.size,ha.look⟩)
 obtain ⟨vs,hv,hvs⟩:=(ha.eval hg).fn_inv
 refine ⟨w.heap.size+1,[{ target:= .collected w.heap.size,args:=#[] }],(w.alloc (.deferred (some []))).alloc (.loop rec),{ target:= .fn (.func gf) vs.toArray,args:=#[.func (.yield (w.heap.size+1)) #[] #[]] },(w.alloc (.deferred (some []))).alloc (.loop rec),gf,
  #[.func (.yield (w.heap.size+1)) #[] #[]]++vs.toArray,(w.alloc (.deferred (some []))).alloc (.loop rec),?_,?_,fun _ _=>trivial,?_,fun h=>by simp [Fence.wide] at h,?_⟩
 ·rw [hrec];exact run_enterLoop_outer _ _ _ _ _
 ·simp only [resolve,rangeCall,hv]
  simp [Deferred.ofValue,Act.eval]
 ·simp [invoke,hf.enters]
 ·have hc:=hac σ _ (.func (.yield (w.heap.size+1)) #[] #[]::vs) (cr.le_refl _) (dh.cons (.sc _) hvs) (d7.enter (Lf:=[]) (by rw [List.append_nil];exact h2))
  have e:(#[.func (.yield (w.heap.size+1)) #[] #[]]++vs.toArray:Array Value)=(.func (.yield (w.heap.size+1)) #[] #[]::vs).toArray:=by simp
  rw [e]
  refine oF (hc.mono ?_)
  rintro en W' ⟨v,τ,c,L',rfl,_,hst,hp⟩
  obtain ⟨rec',L1,hperm,hnb,hj⟩:=hpost c L' hp
  have hst2:d7 B τ (L1++[(w.heap.size+1,nI rec')]) W':=((d7.leave (Lf:=[]) (by rw [List.append_nil];exact h2) hst).perm (by rw [List.append_nil];exact hperm))
  obtain ⟨o,ho,hq⟩:=hst2.here (w.heap.size+1,nI rec') (by simp)
  have hq:o= .loop rec':=hq
  rw [hq] at ho
  have hst3:=(hst2.turn (a':= .raw fun _=>True) (o:= .loop { rec' with state:= .exhausted }) trivial).sublist (List.sublist_append_left ..)
  have hle:σ.le τ:=hst.grow
  have hag:j9 τ nt ({ target:= .collected w.heap.size,args:=#[] }::D) fr { a with defers:=[{ target:= .collected w.heap.size,args:=#[] }]++a.defers }:=⟨ha.size,by simp [ha.defers],(ha.mono hle).look⟩
  refine ⟨rec'.pending,_,run_endLoop ho hnb,?_⟩
  generalize W'.putObj _ _=W2 at hst3 ⊢
  unfold FO at hj
  split at hj
  ·rename_i hpe;rw [hpe];exact hj τ _ _ hag hst3
  ·rename_i hpe;rw [hpe];exact wpIn_ret (hj τ _ _ hag hst3)
  ·rename_i hpe;rw [hpe];exact wpIn_exit (hj τ _ _ hag hst3)
  ·exact hj.elim
end
end Go.Proofs.YtpmdfoaadejmkaaGreatDoor
namespace Go.Proofs.YtpmdfoaadejmkaaGreatDoor
open Go.RowKit
theorem y4 {σ:cr} {b:Nat} {cs:List AV} {xs:List Value} (hx:dh σ cs xs) (h1:∀u∈xs,u.oneCell'=true) (hb:∀j u,xs[j]?=some u→σ b j=some u):VR σ (.iptr cs) (.pointer (some ⟨b,0,none⟩)):=by
 refine .iptr cs b 0 (fun j hj=>?_) fun j c u hc hu=>?_
 ·have hlt:j < xs.length:=by rw [←hx.1];exact hj
  rw [Nat.zero_add]
  exact ⟨xs[j],hb _ _ (Hb hlt),h1 _ (List.getElem_mem hlt)⟩
 ·have hlt:j < xs.length:=by rw [←hx.1];exact (Jq hc).1
  have:=hb _ _ (Hb hlt)
  rw [Nat.zero_add,this] at hu
  injection hu with hu
  subst hu
  exact hx.2 j c _ hc (Hb hlt)
section
variable {P:Program} {r:Option Nat} {ops:Array Oper} {Q:Exit→Act→World→Prop} {nt:Nat} {D:List Deferred} {fr fr':c8} {B:Bs} {L L':AL} {rest:List Oper} {cd:Code}
variable {d:Option Tmp} {ty t t':TypeId} {pos:String} {af:Array Edge} {g:Option (Nat×Bool)} {x y:Operand} {u:AV}
theorem DS {cs:List AV} (hx:bo fr x=some u) (hc:u.cells=some cs) (hn:Nat.ble cs.length 1000000=true):AO P ⟨d,.box t x,ty,pos,af,g⟩ fr B L (fun c L'=>c= .iptr cs∧L'=L):=by
 intro σ ρ w hρ hw
 rw [Nat.ble_eq] at hn
 obtain ⟨k1,k2⟩:=(hρ x u hx).cells hc
 have hl:=k1.1
 have hr:(execOp ρ ⟨d,.box t x,ty,pos,af,g⟩).run P w= .ok (.value (.pointer (some ⟨w.heap.size,0,none⟩))) (w.alloc (.cells (ρ x).cells t)):=by
  simp [execOp,Instr.box,newVar,newRow]
 unfold ia
 rw [hr]
 have ha:=hw.alloc (.cells (ρ x).cells t) (.vec t 1 0 cs.length) ⟨_,rfl,by simp at hl;omega,Nat.zero_le _,by unfold maxLen;omega⟩
 have hnb:(w.alloc (.cells (ρ x).cells t)).heap[w.heap.size]?=some (.cells (ρ x).cells t):=World.alloc_heap_new w _
 obtain ⟨hb,hle⟩:=ha.freezeHead (n':=cs.length) (xs:=(ρ x).cells.toList) (fun j u hj=>by rw [cT hnb];simpa using hj) (by omega) (Nat.zero_le _) (Nat.le_refl _)
 exact ⟨_,_,L,hle,y4 (k1.mono hle) k2 (fun j u hj=>cr.add_at hj),hb.sublist (.cons _ (List.Sublist.refl _)),rfl,rfl⟩
theorem aR {L':AL} (h:L.Perm L'):mJ nt D B fr L fr L':=fun σ _ _ ha hw=>⟨σ,ha,hw.perm h⟩
theorem vF {t b e:Nat} {cs:List AV} (i:Nat) (hl:cj fr t=some (.sc (.pointer (some ⟨b,0,none⟩)))) (hL:L[i]?=some (b,.box cs e)) (hn:Nat.ble cs.length 1000000=true):mJ nt D B fr L ((t,.iptr cs)::fr) (L.eraseIdx i):=by
 intro σ a w ha hw0
 rw [Nat.ble_eq] at hn
 have hw:=hw0.perm (fp hL)
 obtain ⟨o,ho,vs,rfl,hvs,h1⟩:=hw.here _ (List.mem_cons_self ..)
 have hfree:=hw.free _ (List.mem_cons_self ..)
 have hvl:vs.length=cs.length:=hvs.1.symm
 have hst:d7 B σ ((b,.vec e 1 0 cs.length)::L.eraseIdx i) w:=by
  refine ⟨hw.os,hw.tape,hw.output,hw.size,hw.old,fun p hp=>?_,fun p hp=>?_,by simpa using hw.apart,hw.froz,fun p hp off hm=>?_,hw.grow,hw.same⟩
  ·rcases List.mem_cons.1 hp with rfl | hp'
   ·exact ⟨_,ho,_,rfl,by simp [hvl],Nat.zero_le _,by unfold maxLen;omega⟩
   ·exact hw.here p (Ju _ hp')
  ·rcases List.mem_cons.1 hp with rfl | hp'
   ·exact hw.mine (b,.box cs e) (List.mem_cons_self ..)
   ·exact hw.mine p (Ju _ hp')
  ·rcases List.mem_cons.1 hp with rfl | hp'
   ·exact hfree off trivial
   ·exact hw.free p (Ju _ hp') off hm
 obtain ⟨hst',hle⟩:=hst.freezeHead (n':=cs.length) (xs:=vs) (fun j u hj=>by rw [cT ho];simpa using hj) (by omega) (Nat.zero_le _) (Nat.le_refl _)
 refine ⟨_,?_,hst'.sublist (.cons _ (List.Sublist.refl _))⟩
 have ha':=ha.mono hle
 refine ⟨ha'.size,ha'.defers,fun t' v' hl'=>?_⟩
 rw [cw] at hl'
 by_cases e:t=t'
 ·subst e
  simp only [if_true,Option.some.injEq] at hl'
  subst hl'
  rw [(ha.look t _ hl).sc_inv]
  exact y4 (hvs.mono hle) h1 (fun j u hj=>cr.add_at hj)
 ·rw [if_neg e] at hl'
  exact ha'.look t' v' hl'
end
end Go.Proofs.YtpmdfoaadejmkaaGreatDoor
namespace Go.Proofs.YtpmdfoaadejmkaaGreatDoor
open Go.RowKit
section
variable {P:Program} {r:Option Nat} {ops:Array Oper} {Q:Exit→Act→World→Prop} {nt:Nat} {D:List Deferred} {fr:c8} {B:Bs} {L:AL} {rest:List Oper}
def EZ (tt:TT) (nt:Nat):List Oper→c8→List Oper×c8
 | [],fr=>([],fr)
 | o::rest,fr=>match o.guard with
  | some _=>(o::rest,fr)
  | none=>match o.dst with
   | none=>(o::rest,fr)
   | some d=>match rk tt fr o.op with
    | none=>(o::rest,fr)
    | some u=>bif Nat.ble nt d then (o::rest,fr) else EZ tt nt rest ((d,u)::fr)
theorem sJ {tt:TT} (ok:er P tt):∀(l:List Oper) (fr:c8) {rest':List Oper} {fr':c8},EZ tt nt l fr=(rest',fr')→bK P r ops Q nt D rest' fr' B L→bK P r ops Q nt D l fr B L
 | [],fr,_,_,h,hn=>by cases h;exact hn
 | o::rest,fr,rest',fr',h,hn=>by
  obtain ⟨dst,op,ty,pos,af,g⟩:=o
  simp only [EZ] at h
  cases g with
  | some _=>cases h;exact hn
  | none=>
   cases dst with
   | none=>cases h;exact hn
   | some d=>
    simp only at h
    cases hs:rk tt fr op with
    | none=>rw [hs] at h;cases h;exact hn
    | some u=>
     rw [hs] at h
     cases hb:Nat.ble nt d with
     | true=>rw [hb] at h;cases h;exact hn
     | false=>
      rw [hb] at h
      have hnd:Oper.noDefer ⟨some d,op,ty,pos,af,none⟩=true:=by
       cases op <;> first | rfl | (simp [rk,yr] at hs)
      exact cf (mz ok hs) hb hnd (sJ ok rest _ h hn)
end
section
variable {P:Program} {tt:TT} {r:Option Nat} {ops:Array Oper} {Q:Exit→Act→World→Prop} {nt:Nat} {D:List Deferred} {fr fr':c8} {B:Bs} {L:AL} {rest rest':List Oper}
variable {d:Nat} {ty t t':TypeId} {pos:String} {af:Array Edge} {g:Option (Nat×Bool)} {x y z c:Operand} {u:AV}
theorem a8 (ok:er P tt) {op:Op} (_h1:rk tt fr op=some u) (h:EZ tt nt (⟨some d,op,ty,pos,af,none⟩::rest) fr=(rest',fr')) (hn:bK P r ops Q nt D rest' fr' B L):bK P r ops Q nt D (⟨some d,op,ty,pos,af,none⟩::rest) fr B L:=sJ ok _ _ h hn
theorem JG (ok:er P tt) {op:Op} (zz:rk tt fr op=some u∧EZ tt nt (⟨some d,op,ty,pos,af,none⟩::rest) fr=(rest',fr')) (hn:bK P r ops Q nt D rest' fr' B L):bK P r ops Q nt D (⟨some d,op,ty,pos,af,none⟩::rest) fr B L:=a8 ok zz.1 zz.2 hn
theorem aS {op:BinOp} (h:bK P r ops Q nt D (⟨some d,.binOp op t x y t',ty,pos,af,none⟩::rest) fr B L):bK P r ops Q nt D (⟨some d,.binOp op t x y t',ty,pos,af,none⟩::rest) fr B L:=h
theorem aQ {op:BinOp} (h:bK P r ops Q nt D rest ((d,u)::fr) B L) (ho:Av P ⟨some d,.binOp op t x y t',ty,pos,af,none⟩ fr u:=by first | exact xB rfl rfl (by omega) | exact xJ rfl rfl (by omega) | exact xH rfl rfl (by omega)) (hd:Nat.ble nt d=false:=by rfl):bK P r ops Q nt D (⟨some d,.binOp op t x y t',ty,pos,af,none⟩::rest) fr B L:=cf ho hd rfl h
def jJ (tt:TT) (t:Nat):Option (Nat×Nat×Nat):=match df tt t with
 | some ⟨.slice e sz by_,_,_⟩=>some (e,sz,by_)
 | _=>none
theorem bv (ok:er P tt) {e sz by_:Nat} (h:jJ tt t=some (e,sz,by_)):kG P t e sz by_∧0 < sz:=by
 unfold jJ at h
 split at h
 ·rename_i e' sz' by' _ _ ht
  cases h
  exact ok.isSl ht rfl
 ·cases h
theorem aL (h:bK P r ops Q nt D (⟨some d,.indexAddr t x y,ty,pos,af,none⟩::rest) fr B L):bK P r ops Q nt D (⟨some d,.indexAddr t x y,ty,pos,af,none⟩::rest) fr B L:=h
def ii (u:AV):Option (Nat×List (List AV)):=match u with
 | .imm s l=>some (s,l)
 | .vec _ s l=>some (s,l)
 | _=>none
theorem cQ {s:Nat} {l:List (List AV)} (h:ii u=some (s,l)):u.im= .imm s l:=by
 unfold ii at h
 split at h <;> cases h <;> rfl
theorem aK (ok:er P tt) {e sz by_ s:Nat} {l:List (List AV)} {k:IntKind} {i:Int} {es:List AV} (h:bK P r ops Q nt D rest ((d,.iptr es)::fr) B L) (ht:jJ tt t=some (e,sz,by_):=by rfl) (hx:bo fr x=some u:=by rfl) (hu:ii u=some (s,l):=by rfl) (hs:Nat.beq s sz=true:=by rfl) (hy:bo fr y=some (.sc (.int k i)):=by rfl) (h0:0≤i:=by omega) (hl:l[i.toNat]?=some es:=by first | assumption | (simp only [Int.toNat_natCast];assumption)) (hd:Nat.ble nt d=false:=by rfl):
  bK P r ops Q nt D (⟨some d,.indexAddr t x y,ty,pos,af,none⟩::rest) fr B L:=cf (xF (bv ok ht).1 hx (cQ hu) hs hy h0 hl) hd rfl h
theorem aG (ok:er P tt) {e sz by_ b off n cap:Nat} {k:IntKind} {i:Int} (h:bK P r ops Q nt D rest ((d,.sc (.pointer (some ⟨b,off+i.toNat * sz,none⟩)))::fr) B L) (ht:jJ tt t=some (e,sz,by_):=by rfl) (hx:bo fr x=some (.sc (.slice (some ⟨b,off,none⟩) n cap)):=by rfl) (hy:bo fr y=some (.sc (.int k i)):=by rfl) (h0:0≤i∧i < n:=by omega) (hd:Nat.ble nt d=false:=by rfl):
  bK P r ops Q nt D (⟨some d,.indexAddr t x y,ty,pos,af,none⟩::rest) fr B L:=cf (ua (bv ok ht).1 hx hy h0) hd rfl h
def Ia (tt:TT) (t:Nat):Bool:=match df tt t with | some ti=> !ti.k.agg | none=>false
def Hc (tt:TT) (t:Nat):Option Nat:=match df tt t with | some ti=>bif ti.k.agg then some ti.size else none | none=>none
theorem d3 (ok:er P tt) (h:Ia tt t=true):Fq P t:=by
 unfold Ia at h
 split at h
 ·rename_i ti ht
  exact ok.sc ht (by simpa using h)
 ·cases h
theorem eK (ok:er P tt) {n:Nat} (h:Hc tt t=some n):FX P t n:=by
 unfold Hc at h
 split at h
 ·rename_i ti ht
  cases hk:ti.k.agg with
  | true=>rw [hk] at h;cases h;exact ok.ag ht hk
  | false=>rw [hk] at h;cases h
 ·cases h
def Hd (tt:TT) (t:Nat):Option Nat:=match df tt t with | some ti=>some ti.size | none=>none
theorem ny (ok:er P tt) {n:Nat} (h:Hd tt t=some n):(P.info? t).map (·.size)=some n:=by
 unfold Hd at h
 split at h
 ·rename_i ti ht
  cases h
  exact ok.size ht
 ·cases h
def zI (tt:TT) (t:Nat):Option (List Value):=match df tt t with | some ti=>some ti.zero | none=>none
theorem eJ (ok:er P tt) {zs:List Value} (h:zI tt t=some zs):CZ P t zs:=by
 unfold zI at h
 split at h
 ·rename_i ti ht
  cases h
  exact ok.zero ht
 ·cases h
theorem bF (h:bK P r ops Q nt D (⟨some d,.load t x,ty,pos,af,none⟩::rest) fr B L):bK P r ops Q nt D (⟨some d,.load t x,ty,pos,af,none⟩::rest) fr B L:=h
theorem ah (ok:er P tt) (i:Nat) {b k:Nat} {cs:List AV} {e:TypeId} (ht:Ia tt t=true) (hx:bo fr x=some (.sc (.pointer (some ⟨b,k,none⟩)))) (hL:L[i]?=some (b,.box cs e)) (hc:cs[k]?=some u) (hd:Nat.ble nt d=false) (h:bK P r ops Q nt D rest ((d,u)::fr) B L):
  bK P r ops Q nt D (⟨some d,.load t x,ty,pos,af,none⟩::rest) fr B L:=cP hd rfl (t1 i (d3 ok ht) hx hL hc) fun c L' ⟨h1,h2⟩=>by subst h1;subst h2;exact h
theorem JJ (ok:er P tt) (i:Nat) {b k:Nat} {cs:List AV} {e:TypeId} (zz:Ia tt t=true∧bo fr x=some (.sc (.pointer (some ⟨b,k,none⟩)))∧L[i]?=some (b,.box cs e)∧cs[k]?=some u∧Nat.ble nt d=false) (h:bK P r ops Q nt D rest ((d,u)::fr) B L):bK P r ops Q nt D (⟨some d,.load t x,ty,pos,af,none⟩::rest) fr B L:=ah ok i zz.1 zz.2.1 zz.2.2.1 zz.2.2.2.1 zz.2.2.2.2 h
theorem JL (ok:er P tt) (i:Nat) {b k:Nat} {cs:List AV} {e:TypeId} (zz:Ia tt t=true∧bo fr x=some (.sc (.pointer (some ⟨b,k,none⟩)))∧L[i]?=some (b,.box cs e)) (hc:cs[k]?=some u) (hd:Nat.ble nt d=false) (h:bK P r ops Q nt D rest ((d,u)::fr) B L):bK P r ops Q nt D (⟨some d,.load t x,ty,pos,af,none⟩::rest) fr B L:=ah ok i zz.1 zz.2.1 zz.2.2 hc hd h
theorem aB (ok:er P tt) (i:Nat) {b k n:Nat} {cs:List AV} {e:TypeId} (ht:Hc tt t=some n) (hx:bo fr x=some (.sc (.pointer (some ⟨b,k,none⟩)))) (hL:L[i]?=some (b,.box cs e)) (hc:Nat.ble (k+n) cs.length=true) (hd:Nat.ble nt d=false) (h:bK P r ops Q nt D rest ((d,.agg ((cs.drop k).take n))::fr) B L):
  bK P r ops Q nt D (⟨some d,.load t x,ty,pos,af,none⟩::rest) fr B L:=cP hd rfl (ui i (eK ok ht) hx hL hc) fun c L' ⟨h1,h2⟩=>by subst h1;subst h2;exact h
theorem JK (ok:er P tt) (i:Nat) {b k n:Nat} {cs:List AV} {e:TypeId} (zz:Hc tt t=some n∧bo fr x=some (.sc (.pointer (some ⟨b,k,none⟩)))∧L[i]?=some (b,.box cs e)∧Nat.ble (k+n) cs.length=true∧Nat.ble nt d=false) (h:bK P r ops Q nt D rest ((d,.agg ((cs.drop k).take n))::fr) B L):bK P r ops Q nt D (⟨some d,.load t x,ty,pos,af,none⟩::rest) fr B L:=aB ok i zz.1 zz.2.1 zz.2.2.1 zz.2.2.2.1 zz.2.2.2.2 h
theorem aM (h:bK P r ops Q nt D (⟨none,.store t x y,ty,pos,af,none⟩::rest) fr B L):bK P r ops Q nt D (⟨none,.store t x y,ty,pos,af,none⟩::rest) fr B L:=h
theorem aa (ok:er P tt) (i:Nat) {b k n:Nat} {cs ys:List AV} {e:TypeId} (ht:Hd tt t=some n) (hx:bo fr x=some (.sc (.pointer (some ⟨b,k,none⟩)))) (hy:bo fr y=some u) (hu:u.cells=some ys) (hL:L[i]?=some (b,.box cs e)) (hn:Nat.beq ys.length n=true) (hk:Nat.ble (k+n) cs.length=true) (h:bK P r ops Q nt D rest fr B (fq L i (.box (fj cs k ys) e))):
  bK P r ops Q nt D (⟨none,.store t x y,ty,pos,af,none⟩::rest) fr B L:=kO rfl (mM i (ny ok ht) hx hy hu hL hn hk) fun c L' h1=>by subst h1;exact h
theorem JH (ok:er P tt) (i:Nat) {b k n:Nat} {cs ys:List AV} {e:TypeId} (zz:Hd tt t=some n∧bo fr x=some (.sc (.pointer (some ⟨b,k,none⟩)))∧bo fr y=some u∧u.cells=some ys∧L[i]?=some (b,.box cs e)∧Nat.beq ys.length n=true∧Nat.ble (k+n) cs.length=true) (h:bK P r ops Q nt D rest fr B (fq L i (.box (fj cs k ys) e))):bK P r ops Q nt D (⟨none,.store t x y,ty,pos,af,none⟩::rest) fr B L:=aa ok i zz.1 zz.2.1 zz.2.2.1 zz.2.2.2.1 zz.2.2.2.2.1 zz.2.2.2.2.2.1 zz.2.2.2.2.2.2 h
theorem yc {cs:List AV} (h:∀b,bK P r ops Q nt D rest ((d,.sc (.pointer (some ⟨b,0,none⟩)))::fr) B ((b,.box cs t)::L)) (hx:bo fr x=some u:=by rfl) (hc:u.cells=some cs:=by rfl) (hd:Nat.ble nt d=false:=by rfl):
  bK P r ops Q nt D (⟨some d,.box t x,ty,pos,af,none⟩::rest) fr B L:=cP hd rfl (Gv hx hc) fun c L' hh=>by obtain ⟨b,h1,h2⟩:=hh;subst h1;subst h2;exact h b
theorem bf {cs:List AV} (h:bK P r ops Q nt D rest ((d,.iptr cs)::fr) B L) (hx:bo fr x=some u:=by rfl) (hc:u.cells=some cs:=by rfl) (hn:Nat.ble cs.length 1000000=true:=by rfl) (hd:Nat.ble nt d=false:=by rfl):
  bK P r ops Q nt D (⟨some d,.box t x,ty,pos,af,none⟩::rest) fr B L:=cP hd rfl (DS hx hc hn) fun c L' hh=>by obtain ⟨h1,h2⟩:=hh;subst h1;subst h2;exact h
theorem ae (tm:Nat) (ok:er P tt) (i:Nat) {b n:Nat} {cs ys:List AV} {e:TypeId} (ht:Hd tt t=some n) (hx:cj fr tm=some (.sc (.pointer (some ⟨b,0,none⟩)))) (hy:bo fr y=some u) (hu:u.cells=some ys) (hL:L[i]?=some (b,.box cs e)) (hn:Nat.beq ys.length n=true) (hk:Nat.beq n cs.length=true) (hn6:Nat.ble ys.length 1000000=true) (h:bK P r ops Q nt D rest ((tm,.iptr ys)::fr) B (L.eraseIdx i)):
  bK P r ops Q nt D (⟨none,.store t (.tmp tm) y,ty,pos,af,none⟩::rest) fr B L:=by
 have hn':ys.length=n:=by rwa [Nat.beq_eq] at hn
 have hk':n=cs.length:=by rwa [Nat.beq_eq] at hk
 refine kO rfl (mM i (ny ok ht) hx hy hu hL hn (by rw [Nat.ble_eq];omega)) fun c L' h1=>?_
 subst h1
 have hput:fj cs 0 ys=ys:=by
  apply List.ext_getElem?
  intro j
  rw [gq _ _ _ _ (by omega)]
  by_cases hj:j < ys.length
  ·rw [if_pos (by omega),Nat.sub_zero]
  ·rw [if_neg (by omega),List.getElem?_eq_none (by omega),List.getElem?_eq_none (by omega)]
 rw [hput]
 have hgi:(fq L i (.box ys e))[i]?=some (b,.box ys e):=by
  clear h
  induction L generalizing i with
  | nil=>simp at hL
  | cons p q ih=>
   cases i with
   | zero=>simp at hL;subst hL;rfl
   | succ i=>simp only [List.getElem?_cons_succ] at hL;simp only [fq,List.getElem?_cons_succ];exact ih i hL
 have her:(fq L i (.box ys e)).eraseIdx i=L.eraseIdx i:=by
  clear h hgi
  induction L generalizing i with
  | nil=>simp at hL
  | cons p q ih=>
   cases i with
   | zero=>rfl
   | succ i=>simp only [List.getElem?_cons_succ] at hL;simp only [fq,List.eraseIdx_cons_succ];rw [ih i hL]
 have:=vF (nt:=nt) (D:=D) (B:=B) (fr:=fr) i hx hgi hn6
 rw [her] at this
 exact aJ this h
theorem JI (tm:Nat) (ok:er P tt) (i:Nat) {b n:Nat} {cs ys:List AV} {e:TypeId} (zz:Hd tt t=some n∧cj fr tm=some (.sc (.pointer (some ⟨b,0,none⟩)))∧bo fr y=some u∧u.cells=some ys∧L[i]?=some (b,.box cs e)∧Nat.beq ys.length n=true∧Nat.beq n cs.length=true∧Nat.ble ys.length 1000000=true) (h:bK P r ops Q nt D rest ((tm,.iptr ys)::fr) B (L.eraseIdx i)):bK P r ops Q nt D (⟨none,.store t (.tmp tm) y,ty,pos,af,none⟩::rest) fr B L:=ae tm ok i zz.1 zz.2.1 zz.2.2.1 zz.2.2.2.1 zz.2.2.2.2.1 zz.2.2.2.2.2.1 zz.2.2.2.2.2.2.1 zz.2.2.2.2.2.2.2 h
theorem bj (ok:er P tt) {zs:List Value} (h:∀b,bK P r ops Q nt D rest ((d,.sc (.pointer (some ⟨b,0,none⟩)))::fr) B ((b,.box (zs.map .sc) t)::L)) (hz:zI tt t=some zs:=by rfl) (h1:zs.all (·.oneCell')=true:=by rfl) (hd:Nat.ble nt d=false:=by rfl):
  bK P r ops Q nt D (⟨some d,.alloc t,ty,pos,af,none⟩::rest) fr B L:=by
 have hz':=eJ ok hz
 refine cP hd rfl (mL hz' h1) fun c L' hh=>?_
 obtain ⟨b,h1,h2⟩:=hh
 subst h1;subst h2
 exact h b
theorem iL (ok:er P tt) {e sz by_ n:Nat} {parts:Array (Nat×Operand)} {vs:List AV} {xs:List (List AV)} (h:∀b,bK P r ops Q nt D rest ((d,.vec (some (b,n)) sz xs)::fr) B ((b,.vec e sz n n)::L)) (ht:jJ tt t=some (e,sz,by_):=by rfl) (hv:eA fr (parts.toList.map (·.2))=some vs:=by rfl) (hxs:jU vs=some xs:=by rfl) (hn:Nat.beq xs.length n=true:=by rfl) (hi:parts.toList.map (·.1)=List.range' 0 n:=by rfl) (hz:xs.all (fun q=>Nat.beq q.length sz)=true:=by rfl) (h24:Nat.ble (n * sz) 16777216=true:=by rfl) (hd:Nat.ble nt d=false:=by rfl):
  bK P r ops Q nt D (⟨some d,.buildSlice t n parts,ty,pos,af,none⟩::rest) fr B L:=by
 obtain ⟨h1,h2⟩:=bv ok ht
 refine cP hd rfl (Bc h1 h2 hv hxs hn hi hz h24) fun c L' hh=>?_
 obtain ⟨b,h1,h2⟩:=hh
 subst h1;subst h2
 exact h b
theorem bI (ok:er P tt) (L0:AL) {e sz by_:Nat} {k:Option (Nat×Nat)} {l l2:List (List AV)} (ht:jJ tt t=some (e,sz,by_)) (hx:bo fr x=some (.vec k sz l)) (hy:bo fr y=some u) (hu:ii u=some (sz,l2)) (hL:L.Perm (_root_.Go.Proofs.YtpmdfoaadejmkaaGreatDoor.tok k e sz l.length++L0)) (h63:l.length+l2.length≤9223372036854775807) (hby:(l.length+l2.length) * by_≤140737488355328) (hd:Nat.ble nt d=false)
  (h:∀k',bK P r ops Q nt D rest ((d,.vec k' sz (l++l2))::fr) B (_root_.Go.Proofs.YtpmdfoaadejmkaaGreatDoor.tok k' e sz (l++l2).length++L0)):
  bK P r ops Q nt D (⟨some d,.call ⟨.builtin .append,#[x,y],#[t,t]⟩,ty,pos,af,none⟩::rest) fr B L:=cP hd rfl (nO L0 (bv ok ht).1 (bv ok ht).2 hx hy (cQ hu) hL h63 hby) fun c L' ⟨k',h1,h2⟩=>by subst h1;subst h2;exact h k'
class AD (P:Program) (f:FuncId) (args:List AV) (u:outParam AV):Prop where
 det:bJ P f args u
theorem bw {f:FuncId} {args:Array Operand} {ts:Array TypeId} (h:bK P r ops Q nt D (⟨some d,.call ⟨.value (.func f),args,ts⟩,ty,pos,af,none⟩::rest) fr B L):bK P r ops Q nt D (⟨some d,.call ⟨.value (.func f),args,ts⟩,ty,pos,af,none⟩::rest) fr B L:=h
theorem bn {f:FuncId} {args:Array Operand} {ts:Array TypeId} {cs ds:List AV} [bM P f] (h:bK P r ops Q nt D rest ((d,u)::fr) B L) (hv:eA fr args.toList=some cs:=by rfl) (hi:lQ cs=some ds:=by rfl) (hc:AD P f ds u:=by infer_instance) (hd:Nat.ble nt d=false:=by rfl):
  bK P r ops Q nt D (⟨some d,.call ⟨.value (.func f),args,ts⟩,ty,pos,af,none⟩::rest) fr B L:=cP hd rfl (Ba (u:=u) hv (by rw [j5 hi];exact hc.det)) fun c L' hh=>by obtain ⟨h1,h2⟩:=hh;subst h1;subst h2;exact h
theorem bD {cd:Operand} {xx yy:Code} (hc:bo fr cd=some (.sc (.bool true))) (h:AT P r xx Q nt D fr B L):AT P r (.cond cd xx yy) Q nt D fr B L:=ar hc (fun _=>h) (fun e=>by cases e)
theorem bC {cd:Operand} {xx yy:Code} (hc:bo fr cd=some (.sc (.bool false))) (h:AT P r yy Q nt D fr B L):AT P r (.cond cd xx yy) Q nt D fr B L:=ar hc (fun e=>by cases e) (fun _=>h)
end
def gz (fr:c8):List Nat→Option c8
 | []=>some []
 | t::r=>match cj fr t with
  | some v=>match gz fr r with
   | some q=>some ((t,v)::q)
   | none=>none
  | none=>none
theorem dQ {fr:c8}:∀(ks:List Nat) {fr0:c8},gz fr ks=some fr0→m9 fr0 fr
 | [],fr0,h=>by simp [gz] at h;subst h;trivial
 | t::r,fr0,h=>by
  simp only [gz] at h
  split at h
  ·rename_i v hv
   split at h
   ·rename_i q hq
    cases h
    exact ⟨hv,dQ r hq⟩
   ·cases h
  ·cases h
theorem mK {a b fr:c8} (ha:m9 a fr) (hb:m9 b fr):m9 (a++b) fr:=by
 induction a with
 | nil=>exact hb
 | cons p r ih=>obtain ⟨i,v⟩:=p;exact ⟨ha.1,ih ha.2⟩
section
variable {P:Program} {r:Option Nat} {Q:Exit→Act→World→Prop} {nt:Nat} {D:List Deferred} {fr:c8} {B:Bs} {L:AL} {cd:Code}
def FW (nt:Nat) (D:List Deferred) (B:Bs) {α:Type} (Inv:α→c8) (J:α→AL→Prop) (μ:α→Nat) (x:α) (Q:Exit→Act→World→Prop):Exit→Act→World→Prop:=Exit.then (fun a w=>∃σ x' L',j9 σ nt D (Inv x') a∧J x' L'∧d7 B σ L' w∧μ x' < μ x) Q
def bh (nt:Nat) (D:List Deferred) (B:Bs) {α:Type} (V:α→c8) (fr0:c8) (C:α→Prop) (Lx:α→AL) (μ:α→Nat) (x:α) (Q:Exit→Act→World→Prop):Exit→Act→World→Prop:=FW nt D B (fun x=>V x++fr0) (fun x L'=>C x∧L'=Lx x) μ x Q
theorem aP (ks:List Nat) {α:Type} (V:α→c8) (C:α→Prop) (Lx:α→AL) (μ:α→Nat) (x0:α) {fr0:c8} (hk:gz fr ks=some fr0) (hV:m9 (V x0) fr) (hC:C x0) (hL:∀σ w,d7 B σ L w→d7 B σ (Lx x0) w)
  (hb:∀x,C x→AT P r cd (bh nt D B V fr0 C Lx μ x Q) nt D (V x++fr0) B (Lx x)):AT P r (.loop cd) Q nt D fr B L:=
 DX (fun x=>V x++fr0) (fun x L'=>C x∧L'=Lx x) μ x0 (Lx x0) (mK hV (dQ ks hk)) ⟨hC,rfl⟩ hL fun x L' ⟨h1,h2⟩=>by subst h2;exact hb x h1
theorem aC {α:Type} {V:α→c8} {fr0:c8} {C:α→Prop} {Lx:α→AL} {μ:α→Nat} {x:α} (x':α) (hk:gz fr (fr0.map (·.1))=some fr0) (hV:m9 (V x') fr) (hC:C x') (hm:μ x' < μ x) (hL:∀σ w,d7 B σ L w→d7 B σ (Lx x') w):
  AX P .normal (bh nt D B V fr0 C Lx μ x Q) nt D fr B L:=
 Bm x' (Lx x') (mK hV (dQ _ hk)) ⟨hC,rfl⟩ hL hm
theorem ay {α:Type} {V:α→c8} {fr0:c8} {C:α→Prop} {Lx:α→AL} {μ:α→Nat} {x:α} {id:Nat} (h:AX P (.exit id) Q nt D fr B L):AX P (.exit id) (bh nt D B V fr0 C Lx μ x Q) nt D fr B L:=fun σ a w ha hw=>h σ a w ha hw
instance aB2 {α:Type} {V:α→c8} {fr0:c8} {C:α→Prop} {Lx:α→AL} {μ:α→Nat} {x:α} {id:Nat}:go (AX P (.exit id) (bh nt D B V fr0 C Lx μ x Q) nt D fr B L) (AX P (.exit id) Q nt D fr B L):=⟨ay⟩
theorem bG {α:Type} {V:α→c8} {fr0:c8} {C:α→Prop} {Lx:α→AL} {μ:α→Nat} {x:α} (h:AX P .ret Q nt D fr B L):AX P .ret (bh nt D B V fr0 C Lx μ x Q) nt D fr B L:=fun σ a w ha hw=>h σ a w ha hw
instance aB3 {α:Type} {V:α→c8} {fr0:c8} {C:α→Prop} {Lx:α→AL} {μ:α→Nat} {x:α}:go (AX P .ret (bh nt D B V fr0 C Lx μ x Q) nt D fr B L) (AX P .ret Q nt D fr B L):=⟨bG⟩
theorem xM {fr0:c8} (ks:List Nat) (hk:gz fr ks=some fr0) (h:AT P r cd Q nt D fr0 B L):AT P r cd Q nt D fr B L:=pq (dQ ks hk) (fun _ _ h=>h) h
end
theorem bX {P:Program} {r:Option Nat} {ops:Array Oper} {Q:Exit→Act→World→Prop} {nt:Nat} {D:List Deferred} {fr fr0:c8} {B:Bs} {L:AL} {rest:List Oper} {A A':Code} {t:Nat} (ks:List Nat) (C:Prop) (hks:gz fr ks=some fr0) (h:∀Q',(∀fr' b,gz fr' ks=some fr0→cj fr' t=some (.sc (.bool b))→(b=true↔C)→AX P .normal Q' nt D fr' B L)→bK P r ops Q' nt D rest fr B L) (hA:C→AT P r A Q nt D fr0 B L) (hB:¬C→AT P r A' Q nt D fr0 B L):bK P r ops (Kt P r (.cond (.tmp t) A A') Q) nt D rest fr B L:=by
 refine h _ fun fr' b hk hb hC=>?_
 refine a6 (ar hb (fun e=>?_) (fun e=>?_))
 ·exact pq (dQ _ hk) (fun _ _ h=>h) (hA (hC.1 e))
 ·exact pq (dQ _ hk) (fun _ _ h=>h) (hB fun hc=>by have:=hC.2 hc;rw [e] at this;cases this)
end Go.Proofs.YtpmdfoaadejmkaaGreatDoor
namespace Go.Proofs.YtpmdfoaadejmkaaGreatDoor
open Go.RowKit
section
variable {P:Program} {r:Option Nat} {ops:Array Oper} {Q:Exit→Act→World→Prop} {nt:Nat} {D:List Deferred} {fr:c8} {B:Bs} {L:AL} {rest:List Oper} {cd:Code} {φ:Prop}
theorem Gw (hφ:∀σ a w,j9 σ nt D fr a→d7 B σ L w→φ) (h:φ→AT P r cd Q nt D fr B L):AT P r cd Q nt D fr B L:=fun σ a w ha hw=>h (hφ σ a w ha hw) σ a w ha hw
theorem DZ (hφ:∀σ a w,j9 σ nt D fr a→d7 B σ L w→φ) (h:φ→bK P r ops Q nt D rest fr B L):bK P r ops Q nt D rest fr B L:=fun σ a w ha hw=>h (hφ σ a w ha hw) σ a w ha hw
theorem Cc {σ:cr} {u:AV} {v:Value} {s:Nat} {l:List (List AV)} (h:VR σ u v) (hu:ii u=some (s,l)):l.length≤9223372036854775807∧∀e∈l,e.length=s:=by
 have h1:=h.im
 rw [cQ hu] at h1
 obtain ⟨_,_,_,h2,h3,h4,_⟩:=h1.imm_inv
 unfold maxLen at h3
 exact ⟨by omega,h4⟩
theorem cB (t:Nat) {u:AV} {s:Nat} {l:List (List AV)} (hl:cj fr t=some u) (hu:ii u=some (s,l)) (h:l.length≤9223372036854775807→AT P r cd Q nt D fr B L):AT P r cd Q nt D fr B L:=
 Gw (fun σ a w ha _=>(Cc (ha.look t u hl) hu).1) h
end
section
variable {P:Program} {nt:Nat} {fr:c8} {B:Bs} {L:AL}
theorem Bl {fn:Func} {Post:AV→AL→Prop} {t:Tmp} {c:AV} {s:Nat} {l:List (List AV)} (hr:fn.results=#[.tmp t]) (hv:cj fr t=some c) (hi:ii c=some (s,l)) (h:Post (.imm s l) L):AX P .ret (bodyPost P fn (jn B Post)) nt [] fr B L:=
 fun σ a w ha hw=>⟨ha.defers,_,results_tmp hr _ _ _,_,σ,.imm s l,L,rfl,by rw [←cQ hi];exact (ha.look t c hv).im,hw,h⟩
end
section
variable {P:Program} {r:Option Nat} {ops:Array Oper} {Q:Exit→Act→World→Prop} {nt:Nat} {D:List Deferred} {fr:c8} {B:Bs} {L:AL} {rest:List Oper} {d:Nat} {ty:TypeId} {pos:String} {af:Array Edge}
def J6 (P:Program) (f:FuncId) (args:List AV) (e s:Nat) (l:List (List AV)):Prop:=AC P f args [] fun c L=>∃k,c= .vec k s l∧L=_root_.Go.Proofs.YtpmdfoaadejmkaaGreatDoor.tok k e s l.length
end
def aW (l:List Int):List (List AV):=l.map fun z=>[.sc (.int .i64 z)]
theorem aZ (l:List Int):(aW l).length=l.length:=by simp [aW]
theorem bO {l:List Int} {i:Nat} {z:Int} (h:l[i]?=some z):(aW l)[i]?=some [.sc (.int .i64 z)]:=by simp [aW,h]
end Go.Proofs.YtpmdfoaadejmkaaGreatDoor
