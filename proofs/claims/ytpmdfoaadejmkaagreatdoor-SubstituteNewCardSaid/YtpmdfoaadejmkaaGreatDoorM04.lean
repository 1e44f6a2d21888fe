/-
  Structs and arrays that are built; checks for nil; fields of values; arrays.
-/
import Derived.Test.YtpmdfoaadejmkaaGreatDoorM03
import Derived.Laws.Tables
namespace Go.Proofs.YtpmdfoaadejmkaaGreatDoor
open Go.RowKit
def tz (pl:Nat→Option (Nat×Nat)) (z:List AV):List (Nat×AV)→Option (List AV)
 | []=>some z
 | (i,c)::r=>match pl i with
  | none=>none
  | some (off,n)=>match c.cells with
   | none=>none
   | some ys=>bif Nat.beq ys.length n && Nat.ble (off+n) z.length then tz pl (fS z off ys) r else none
theorem rP {σ:cF} {pl:Nat→Option (Nat×Nat)}:∀{is:List Nat} {cs z out:List AV} {vs zc:List Value},dI σ cs vs→dI σ z zc→(∀u∈zc,u.oneCell'=true)→tz pl z (is.zip cs)=some out→∃oc:List Value,Instr.fill pl zc.toArray (is.zip vs)=some oc.toArray∧dI σ out oc∧∀u∈oc,u.oneCell'=true
 | [],cs,z,out,vs,zc,_,hz,h1,h=>by
  simp only [List.zip_nil_left,tz,Option.some.injEq] at h
  subst h
  exact ⟨zc,by simp [Instr.fill],hz,h1⟩
 | i::is,[],z,out,vs,zc,hc,hz,h1,h=>by
  rw [hc.nil_inv]
  simp only [List.zip_nil_right,tz,Option.some.injEq] at h ⊢
  subst h
  exact ⟨zc,by simp [Instr.fill],hz,h1⟩
 | i::is,c::cs,z,out,vs,zc,hc,hz,h1,h=>by
  obtain ⟨v,ws,rfl,hv,hs⟩:=hc.inv
  simp only [List.zip_cons_cons,tz] at h ⊢
  cases hp:pl i with
  | none=>rw [hp] at h;cases h
  | some q=>
   obtain ⟨off,n⟩:=q
   rw [hp] at h
   simp only at h
   cases hcc:c.cells with
   | none=>rw [hcc] at h;cases h
   | some ys=>
    rw [hcc] at h
    simp only at h
    cases hb:(Nat.beq ys.length n && Nat.ble (off+n) z.length) with
    | false=>rw [hb] at h;cases h
    | true=>
     rw [hb] at h
     simp only [cond_true] at h
     simp only [Bool.and_eq_true,Nat.beq_eq,Nat.ble_eq] at hb
     obtain ⟨k1,k2⟩:=hv.cells hcc
     have hl1:=k1.1
     have hl2:=hz.1
     have hvs:v.cells.size=n:=by rw [←hb.1,hl1];simp
     obtain ⟨f1,f2⟩:=pE off v.cells.toList 0 zc.toArray
     have ef:v.cells.zipIdx.foldl (fun (cs:Array Value) (x:Value×Nat)=>cs.setIfInBounds (off+x.2) x.1) zc.toArray=(v.cells.toList.zipIdx 0).foldl (fun (a:Array Value) (p:Value×Nat)=>a.setIfInBounds (off+p.2) p.1) zc.toArray:=by
      rw [←Array.foldl_toList,Array.toList_zipIdx]
     generalize (v.cells.toList.zipIdx 0).foldl (fun (a:Array Value) (p:Value×Nat)=>a.setIfInBounds (off+p.2) p.1) zc.toArray=A at *
     have hA:dI σ (fS z off ys) A.toList:=by
      refine ⟨by rw [jM];simp [f1,hl2],fun j c' u hc' hu=>?_⟩
      have hu':A[j]?=some u:=by simpa using hu
      rw [f2 j] at hu'
      rw [i3 _ _ _ _ (by omega)] at hc'
      simp only [List.size_toArray,Nat.add_zero,List.getElem?_toArray] at hu'
      by_cases hj:off≤j∧j < off+ys.length
      ·rw [if_pos hj] at hc'
       rw [if_pos (by omega)] at hu'
       exact k1.2 _ c' u hc' hu'
      ·rw [if_neg hj] at hc'
       rw [if_neg (by omega)] at hu'
       exact hz.2 j c' u hc' hu'
     have hA1:∀u∈A.toList,u.oneCell'=true:=fun u hu=>by
      obtain ⟨j,hj,rfl⟩:=List.getElem_of_mem hu
      have hu':A[j]?=some (A.toList[j]):=by rw [←Array.getElem?_toList];exact Nz hj
      rw [f2 j] at hu'
      split at hu'
      ·exact k2 _ (Nw hu')
      ·exact h1 _ (Nw (by simpa using hu'))
     obtain ⟨oc,o1,o2,o3⟩:=rP hs hA hA1 h
     refine ⟨oc,?_,o2,o3⟩
     simp only [Instr.fill,hp]
     rw [if_neg (by simp [hvs];omega),ef]
     simpa using o1
def pG:List AV→Option (List AV)
 | []=>some []
 | v::r=>match pG r with
  | some q=>some (v::q)
  | none=>none
theorem tI:∀{l q:List AV},pG l=some q→q=l
 | [],q,h=>by simp [pG] at h;exact h
 | v::r,q,h=>by
  simp only [pG] at h
  cases hr:pG r with
  | none=>rw [hr] at h;cases h
  | some q'=>rw [hr] at h;injection h with h;rw [←h,tI hr]
def vk (ti:TI) (i:Nat):Option (Nat×Nat):=match ti.k with
 | .struct offs=>match offs[i]? with
  | some (o,s,_)=>some (o,s)
  | none=>none
 | .arr _ _ sz=>some (i * sz,sz)
 | _=>none
def y6 (ti:TI) (parts:List (Nat×AV)):Option (List AV):=match tz (vk ti) (ti.zero.map .sc) parts with
 | some cs=>pG cs
 | none=>none
theorem qp {P:Program}:∀(fs:List Field) (r:List (Nat×Nat×Bool)),mL P fs r=true→fs.mapM (fun f=>(P.info? f.type).map fun i=>(f.offset,i.size))=some (r.map fun q=>(q.1,q.2.1))
 | [],[],_=>rfl
 | x::fs,(o',s',b')::r,h=>by
  simp only [mL,Bool.and_eq_true,Nat.beq_eq] at h
  obtain ⟨⟨⟨⟨h1,h2⟩,_⟩,_⟩,h5⟩:=h
  unfold qL at h2
  split at h2
  ·rename_i i hi
   rw [Nat.beq_eq] at h2
   simp [List.mapM_cons,hi,qp fs r h5,h1,h2]
  ·cases h2
 | [],_::_,h=>by cases h
 | _::_,[],h=>by cases h
theorem eF.built {P:Program} {tt:TT} (ok:eF P tt) {t:Nat} {ti:TI} (h:dC tt t=some ti) (hk:ti.k.agg=true) (parts:List (Nat×Value)):P.built t parts=Instr.fill (vk ti) ti.zero.toArray parts:=by
 have h0:=ok.ok t ti h
 simp only [Dq,Bool.and_eq_true] at h0
 obtain ⟨⟨_,h1⟩,h2⟩:=h0
 unfold Program.built
 split at h1
 ·rename_i i hi
  split at h1
  ·rename_i z hz
   have hzz:=mD h1
   have hz':z.cells=ti.zero.toArray:=by rw [←hzz]
   split at h2
   all_goals try (cases hq:ti.k <;> rw [hq] at h2 hk <;> simp_all [TK.agg];done)
   ·rename_i fs hu
    cases hq:ti.k with
    | struct offs=>
     rw [hq] at h2
     simp only [hi,hu,hz,qp _ _ h2,hz']
     congr 1
     funext x
     simp [vk,hq]
     cases offs[x]? <;> rfl
    | _=>rw [hq] at h2;cases h2
   ·rename_i n e hu
    cases hq:ti.k with
    | arr n' e' sz=>
     rw [hq] at h2
     simp only [Bool.and_eq_true,Nat.beq_eq] at h2
     obtain ⟨⟨_,rfl⟩,h3⟩:=h2
     unfold qL at h3
     split at h3
     ·rename_i j hj
      rw [Nat.beq_eq] at h3
      simp only [hi,hu,hz,hj,hz',h3]
      congr 1
      funext x
      simp [vk,hq]
     ·cases h3
    | _=>rw [hq] at h2;cases h2
   ·cases h2
  ·cases h1
 ·cases h1
section
variable {P:Program} {tt:TT} {fr:cf} {B:Bs} {L:AL} {d:Option Tmp} {ty t t':TypeId} {pos:String} {af:Array Edge} {g:Option (Nat×Bool)} {x y:Operand} {u:AV}
theorem GS (ok:eF P tt) {ti:TI} {parts:Array (Nat×Operand)} {vs out:List AV} (ht:dC tt t=some ti) (hk:ti.k.agg=true) (hz1:ti.zero.all (·.oneCell')=true) (hv:eP fr (parts.toList.map (·.2))=some vs) (hb:y6 ti ((parts.toList.map (·.1)).zip vs)=some out):Av P ⟨d,.build t parts,ty,pos,af,g⟩ fr (.agg out):=by
 intro σ ρ w hρ _
 have hvs:=fL hρ _ _ hv
 generalize hws:(parts.toList.map (·.2)).map ρ=ws at *
 have e1:parts.map (fun p=>(p.1,ρ p.2))=((parts.toList.map (·.1)).zip ws).toArray:=by
  apply Array.toList_inj.1
  rw [←hws]
  simp only [Array.toList_map,List.map_map]
  induction parts.toList with
  | nil=>rfl
  | cons p l ih=>simp only [Nq,List.zip_cons_cons,ih];rfl
 unfold y6 at hb
 split at hb
 ·rename_i cs hf
  have:=tI hb
  subst this
  have hz:dI σ (ti.zero.map .sc) ti.zero:=⟨by simp,fun i c u hc hu=>by
   rw [List.getElem?_map,hu] at hc
   simp at hc
   subst hc
   exact .sc u⟩
  obtain ⟨oc,o1,o2,o3⟩:=rP hvs hz (fun u hu=>List.all_eq_true.1 hz1 u hu) hf
  refine ⟨.agg oc.toArray,?_,.agg _ _ o2.1 o2.2 o3⟩
  have hr:=run_build (P:=P) w t ((parts.toList.map (·.1)).zip ws).toArray oc.toArray (by rw [ok.built ht hk];simpa using o1)
  simp only [execOp]
  rw [e1]
  simp [hr]
 ·cases hb
theorem JB {a:Addr} (hx:bE fr x=some (.sc (.pointer (some a)))):Av P ⟨d,.nilCheck x,ty,pos,af,g⟩ fr (.sc (.pointer (some a))):=
 eH fun ρ w hρ=>by simp [execOp,hρ _ _ hx]
theorem JA {cs:List AV} (hx:bE fr x=some (.iptr cs)):Av P ⟨d,.nilCheck x,ty,pos,af,g⟩ fr (.iptr cs):=fun σ ρ w hρ _=>by
 have h:=hρ x _ hx
 obtain ⟨b,off,hv,_⟩:=h.iptr_inv
 exact ⟨ρ x,by simp [execOp,hv],h⟩
theorem Jz {f:FuncId} {cs:List AV} (hx:bE fr x=some (.fn f cs)):Av P ⟨d,.nilCheck x,ty,pos,af,g⟩ fr (.fn f cs):=fun σ ρ w hρ _=>by
 have h:=hρ x _ hx
 obtain ⟨vs,hv,_⟩:=h.fn_inv
 exact ⟨ρ x,by simp [execOp,hv],h⟩
theorem GW (ok:eF P tt) {s f o z:Nat} {b:Bool} {ti:TI} {offs:List (Nat×Nat×Bool)} {cs:List AV} (ht:dC tt s=some ti) (hk:ti.k= .struct offs) (hf:offs[f]?=some (o,z,b)) (hx:bE fr x=some (.agg cs)) (hu:(bif b then (bif Nat.ble (o+z) cs.length then some (.agg ((cs.drop o).take z)) else none) else cs[o]?)=some u):Av P ⟨d,.field s x f,ty,pos,af,g⟩ fr u:=by
 intro σ ρ w hρ _
 obtain ⟨vs,hv,hs,h1⟩:=(hρ x _ hx).agg_inv
 obtain ⟨_,fl,fs,hus,hfl,hoff,hsz,hag⟩:=ok.fd ht hk hf
 have hszr:(sizeOf fl.type).run P w= .ok z w:=by
  cases hq:P.info? fl.type with
  | none=>rw [hq] at hsz;cases hsz
  | some i=>rw [hq] at hsz;simp only [Option.map_some,Option.some.injEq] at hsz;simp [sizeOf,typeInfo,hq,hsz]
 have hagr:(isAgg fl.type).run P w= .ok b w:=by
  unfold H1 at hag
  cases hq:P.underlying fl.type with
  | none=>rw [hq] at hag;cases hag
  | some dd=>
   rw [hq] at hag
   simp only [isAgg,Sem.run_bind,run_underlying hq,Result.andThen]
   cases dd <;> simp_all
 cases b with
 | true=>
  simp only [cond_true] at hu
  cases hb:Nat.ble (o+z) cs.length with
  | false=>rw [hb] at hu;cases hu
  | true=>
   rw [hb] at hu
   simp only [cond_true,Option.some.injEq] at hu
   subst hu
   rw [Nat.ble_eq] at hb
   have hl:=hs.1
   refine ⟨.agg ((vs.drop o).take z).toArray,?_,.agg _ _ (by simp [hl]) (fun i c u hc hu=>?_) fun u hu=>h1 u (List.mem_of_mem_drop (List.mem_of_mem_take hu))⟩
   ·simp [execOp,hv,Instr.field,run_underlying hus,hfl,part,hagr,hszr,asAgg,hoff]
   ·rw [List.getElem?_take] at hc hu
    split at hc
    ·rename_i hi
     rw [if_pos hi,List.getElem?_drop] at hu
     rw [List.getElem?_drop] at hc
     exact hs.2 _ c u hc hu
    ·cases hc
 | false=>
  simp only [cond_false] at hu
  obtain ⟨v,g1,g2⟩:=hs.get hu
  exact ⟨v,by simp [execOp,hv,Instr.field,run_underlying hus,hfl,part,hagr,asAgg,hoff,g1],g2⟩
def sP (tt:TT) (fr:cf) (op:Op):Option AV:=match op with
 | .build t parts=>match dC tt t with
  | some ti=>bif ti.k.agg && ti.zero.all (·.oneCell') then (match eP fr (parts.toList.map (·.2)) with
   | some vs=>match y6 ti ((parts.toList.map (·.1)).zip vs) with
    | some out=>some (.agg out)
    | none=>none
   | none=>none) else none
  | none=>none
 | .nilCheck x=>match bE fr x with
  | some (.sc (.pointer (some a)))=>some (.sc (.pointer (some a)))
  | some (.iptr cs)=>some (.iptr cs)
  | some (.fn f cs)=>some (.fn f cs)
  | _=>none
 | .field s x f=>match dC tt s with
  | some ⟨.struct offs,_,_⟩=>match offs[f]? with
   | some (o,z,b)=>match bE fr x with
    | some (.agg cs)=>(bif b then (bif Nat.ble (o+z) cs.length then some (.agg ((cs.drop o).take z)) else none) else cs[o]?)
    | _=>none
   | none=>none
  | _=>none
 | op=>B7 tt fr op
theorem nS (ok:eF P tt) {op:Op} {u:AV} (h:sP tt fr op=some u):Av P ⟨d,op,ty,pos,af,g⟩ fr u:=by
 unfold sP at h
 split at h
 ·split at h
  ·rename_i ti ht
   cases hb:(ti.k.agg && ti.zero.all (·.oneCell')) with
   | false=>rw [hb] at h;cases h
   | true=>
    rw [hb] at h
    simp only [cond_true] at h
    simp only [Bool.and_eq_true] at hb
    split at h
    ·rename_i vs hvs
     split at h
     ·rename_i out hout
      cases h
      exact GS ok ht hb.1 hb.2 hvs hout
     ·cases h
    ·cases h
  ·cases h
 ·split at h <;> first | cases h | skip
  ·rename_i hx;exact JB hx
  ·rename_i hx;exact JA hx
  ·rename_i hx;exact Jz hx
 ·split at h
  ·rename_i ht
   split at h
   ·rename_i hf
    split at h
    ·rename_i hx;exact GW ok ht rfl hf hx h
    ·cases h
   ·cases h
  ·cases h
 ·exact zD ok h
end
def kf (rec:Loop):AB:= .raw fun o=>o= .loop rec
def lZ:AB:= .raw fun o=>o= .deferred (some [])
theorem mh (w:World) (l:Nat) (o:Obj):w.grownBy (w.putObj l o) (some l):=
 ⟨rfl,rfl,rfl,by simp [World.putObj],fun k _ hk=>World.putObj_heap_other (fun e=>hk (by rw [e]))⟩
theorem dw.turn {B:Bs} {σ:cF} {L:AL} {w:World} {l:Nat} {q:Obj→Prop} {a':AB} {o:Obj} (h:dw B σ (L++[(l,.raw q)]) w) (hq:a'.holds σ o):dw B σ (L++[(l,a')]) (w.putObj l o):=by
 have h1:dw B σ ((l,.raw q)::L) w:=h.perm List.perm_append_comm
 have hlt:=h1.lt (List.mem_cons_self ..)
 exact (h1.put (fun _=>trivial) (mh w l o) (World.putObj_heap_same hlt) hq).perm (List.perm_append_comm (l₁:=[(l,a')]))
def AY (P:Program) (σ0:cF) (l:Nat) (args:List AV) (L:AL) (Post:AV→AL→Prop):Prop:=∀σ w vs,σ0.le σ→dI σ args vs→dw ⟨w,σ,L.map (·.1)⟩ σ L w→
 ∃f tmps assign body,(Instr.yield l vs.toArray).run P w= .ok (.round l f tmps assign body) w∧RoundIn Fence.wide 0 P l f tmps assign body w (ki ⟨w,σ,L.map (·.1)⟩ Post)
def GJ (P:Program) (σ0:cF) (f:FuncId) (args:List AV) (L:AL) (Post:AV→AL→Prop):Prop:=∀σ w vs,σ0.le σ→dI σ args vs→dw ⟨w,σ,L.map (·.1)⟩ σ L w→Calls P f vs.toArray w (ki ⟨w,σ,L.map (·.1)⟩ Post)
section
variable {P:Program} {r:Option Nat} {ops:Array Oper} {Q:Exit→Act→World→Prop} {nt:Nat} {D:List Deferred} {fr:cf} {B:Bs} {L:AL} {rest:List Oper} {σ0:cF}
variable {d:Option Tmp} {ty t t':TypeId} {pos:String} {af:Array Edge} {g:Option (Nat×Bool)} {x y z:Operand} {u:AV}
theorem E4 (hB:σ0.le B.σ) (Lc Lf:AL) {l:Nat} {args:Array Operand} {ts:Array TypeId} {cs cs':List AV} {Post:AV→AL→Prop} (hz:bE fr z=some (.sc (.func (.yield l) #[] #[]))) (hv:eP fr args.toList=some cs) (hcs:∀σ vs,dI σ cs vs→dI σ cs' vs) (hL:L.Perm (Lc++Lf)) (h:AY P σ0 l cs' Lc Post):
  AO P ⟨d,.call ⟨.value z,args,ts⟩,ty,pos,af,g⟩ fr B L (fun c L'=>∃L1,Post c L1∧L'=L1++Lf):=by
 intro σ ρ w hρ hw0
 have hw:=hw0.perm hL
 have e:args.map ρ=(args.toList.map ρ).toArray:=by apply Array.toList_inj.1;simp
 obtain ⟨f,tmps,assign,body,hy,hr⟩:=h σ w _ (cF.le_trans hB hw.grow) (hcs _ _ (fL hρ _ _ hv)) hw.enter
 unfold j7
 rw [show (execOp ρ ⟨d,.call ⟨.value z,args,ts⟩,ty,pos,af,g⟩).run P w= .ok (.round l f tmps assign body) w by
  simp [execOp,resolve,(hρ z _ hz).sc_inv,Deferred.ofValue,e,invoke,hy]]
 refine hr.mono fun en w' hh=>?_
 obtain ⟨v,τ,c,L',h1,h2,h3,h4⟩:=hh
 exact ⟨v,h1,τ,c,L'++Lf,h3.grow,h2,hw.leave h3,L',h4,rfl⟩
theorem ux {f:FuncId} {fn:Func} {c:Code} {args:List AV} {Post:AV→AL→Prop} (hf:P.funcs[f]?=some fn) (hb:fn.body=some c) (hn:fn.ntmps=nt) (hs:Nat.ble args.length nt=true)
  (h:∀B,σ0.le B.σ→AT P none c (bodyPost P fn (ki B Post)) nt [] (rp 0 args) B L):GJ P σ0 f args L Post:=by
 intro σ w vs hle hv hst
 have hs':args.length≤nt:=by simpa [Nat.ble_eq] using hs
 have hl:=hv.1
 refine (callsIn_wide (n:=0)).1 (callsIn_of_wp hf hb trivial (h _ hle σ _ w ⟨?_,rfl,?_⟩ hst))
 ·simp [hn];omega
 ·intro t v hlk
  obtain ⟨_,h2⟩:=kT args 0 t v hlk
  simp only [Nat.sub_zero] at h2
  have hlt:t < vs.length:=by have:=(Np h2).1;omega
  simp only [Array.getD_eq_getD_getElem?]
  rw [Array.getElem?_append_left (by simpa using hlt)]
  have:=hv.2 t v vs[t] h2 (Nz hlt)
  simpa [hlt] using this
theorem uv {f:FuncId} {fn:Func} {c:Code} {args:List AV} {Post:AV→AL→Prop} (hf:P.funcs[f]?=some fn) (hb:fn.body=some c) (hn:fn.ntmps=nt) (hs:Nat.ble args.length nt=true)
  (h:∀B,AT P none c (bodyPostM Fence.wide 0 P fn (ki B Post)) nt [] (rp 0 args) B L):AC P f args L Post:=by
 intro σ w vs hv hst
 have hs':args.length≤nt:=by simpa [Nat.ble_eq] using hs
 have hl:=hv.1
 refine (callsIn_wide (n:=0)).1 (callsIn_of_wp_marks hf hb trivial (h _ σ _ w ⟨?_,rfl,?_⟩ hst))
 ·simp [hn];omega
 ·intro t v hlk
  obtain ⟨_,h2⟩:=kT args 0 t v hlk
  simp only [Nat.sub_zero] at h2
  have hlt:t < vs.length:=by have:=(Np h2).1;omega
  simp only [Array.getD_eq_getD_getElem?]
  rw [Array.getElem?_append_left (by simpa using hlt)]
  have:=hv.2 t v vs[t] h2 (Nz hlt)
  simpa [hlt] using this
def sC (P:Program) (fr:cf) (L:AL):List ResultVar→List AV→Prop
 | [],[]=>True
 | .tmp t::r,c::cs=>cB fr t=some c∧sC P fr L r cs
 | .cell t e::r,c::cs=>(∃(b i:Nat) (ds:List AV) (e':TypeId),cB fr t=some (.sc (.pointer (some ⟨b,0,none⟩)))∧L[i]?=some (b,.box ds e')∧((IF P e∧ds[0]?=some c)∨(J9 P e ds.length∧c= .agg ds)))∧sC P fr L r cs
 | _,_=>False
def x3:List AV→AV
 | [c]=>c
 | cs=> .tup cs
def G5 (tmps:Array Value):ResultVar→Sem Value
 | .tmp t=>pure (tmps.getD t undef)
 | .cell q t=>do loadVar t (←asAddr (tmps.getD q undef))
theorem nQ {σ:cF} {a:Act} {w:World} (ha:k6 σ nt D fr a) (hw:dw B σ L w):∀(rs:List ResultVar) (cs:List AV),sC P fr L rs cs→∃vs:List Value,(rs.mapM (G5 a.tmps)).run P w= .ok vs w∧dI σ cs vs
 | [],[],_=>⟨[],by simp,dI.nil⟩
 | .tmp t::r,c::cs,h=>by
  obtain ⟨vs,h1,h2⟩:=nQ ha hw r cs h.2
  exact ⟨a.tmps.getD t undef::vs,by simp [List.mapM_cons,G5,h1],dI.cons (ha.look t c h.1) h2⟩
 | .cell t e::r,c::cs,h=>by
  obtain ⟨⟨b,i,ds,e',hp,hL,hcase⟩,hr⟩:=h
  obtain ⟨vs,h1,h2⟩:=nQ ha hw r cs hr
  obtain ⟨us,hb,hus,hone⟩:=hw.boxCell hL
  have hpv:=(ha.look t _ hp).sc_inv
  rcases hcase with ⟨hsc,hc⟩ | ⟨hag,rfl⟩
  ·obtain ⟨v,hv,hvr⟩:=hus.get hc
   have hcell:w.cell? ⟨b,0,none⟩=some v:=by rw [dc hb];simpa using hv
   haveI:=hsc
   refine ⟨v::vs,?_,dI.cons hvr h2⟩
   rw [List.mapM_cons]
   simp only [G5,Sem.run_bind,hpv]
   simp [asAddr,i5 (P:=P) (t:=e) hcell,h1]
  ·have hlen:=hus.1
   have hrun:=i4 (P:=P) (t:=e) (w:=w) (b:=b) (o:=0) (cs:=us) (k:=ds.length) hlen.symm (fun j v hj=>by rw [Nat.zero_add,dc hb];simpa using hj)
   refine ⟨.agg us.toArray::vs,?_,dI.cons (.agg ds us hlen hus.2 hone) h2⟩
   rw [List.mapM_cons]
   simp only [G5,Sem.run_bind,hpv]
   simp [asAddr,hrun,h1]
theorem mx {σ:cF} {a:Act} {w:World} {fn:Func} {cs:List AV} (ha:k6 σ nt D fr a) (hw:dw B σ L w) (h:sC P fr L fn.results.toList cs):∃v,(results fn a.tmps).run P w= .ok v w∧VR σ (x3 cs) v:=by
 obtain ⟨vs,h1,h2⟩:=nQ ha hw _ _ h
 have hl:=h2.1
 have e:(results fn a.tmps).run P w= .ok (if h:vs.toArray.size=1 then vs.toArray[0] else .tuple vs.toArray) w:=by
  have hfun:results fn a.tmps=(do let vs ←fn.results.mapM (G5 a.tmps);pure (if h:vs.size=1 then vs[0] else .tuple vs)):=by
   unfold results
   congr 1
  rw [hfun,Array.mapM_eq_mapM_toList]
  simp [h1]
 refine ⟨_,e,?_⟩
 clear e h1 h
 match cs,vs,hl,h2 with
 | [],[],_,h2=>exact VR.tup [] [] rfl (fun i c u h=>by simp at h)
 | [c],[v],_,h2=>exact h2.2 0 c v rfl rfl
 | c::c'::cs,v::v'::vs,_,h2=>simpa [x3] using VR.tup _ _ h2.1 h2.2
def AG (dbs:List Nat):List Deferred:=dbs.map fun b=>{ target:= .collected b,args:=#[] }
theorem oD {fn:Func} {R:Ending→World→Prop} {tmps:Array Value} {σ:cF}:∀(dbs:List Nat) (L:AL) (w:World),dw B σ (L++dbs.map fun b=>(b,lZ)) w→(∀w',dw B σ L w'→LeavesInM Fence.wide 0 P fn tmps R [] .returning w')→LeavesInM Fence.wide 0 P fn tmps R (AG dbs) .returning w
 | [],L,w,hw,h=>h w (by simpa using hw)
 | b::dbs,L,w,hw,h=>by
  have hp:dw B σ ((L++dbs.map fun b=>(b,lZ))++[(b,lZ)]) w:=hw.perm (by
   simp only [Nq,List.append_assoc]
   exact (List.perm_append_comm (l₁:=[_])).append_left L)
  obtain ⟨o,ho,hq⟩:=hp.here (b,lZ) (by simp)
  have hq:o= .deferred (some []):=hq
  rw [hq] at ho
  refine ⟨by simp,.inl ⟨_,_,rfl,run_takeDeferred ho,oD dbs L _ ?_ h⟩⟩
  exact (hp.turn (a':= .raw fun _=>True) trivial).sublist (List.sublist_append_left ..)
theorem kU {fn:Func} {Post:AV→AL→Prop} {cs:List AV} (dbs:List Nat) (L0:AL) (hD:D=AG dbs) (hL:L.Perm (L0++dbs.map fun b=>(b,lZ))) (hr:sC P fr L0 fn.results.toList cs) (h:Post (x3 cs) L0):AX P .ret (bodyPostM Fence.wide 0 P fn (ki B Post)) nt D fr B L:=by
 intro σ a w ha hw
 show LeavesInM _ _ _ _ _ _ a.defers _ _
 rw [ha.defers,hD]
 refine oD dbs L0 w (hw.perm hL) fun w' hw'=>?_
 obtain ⟨v,h1,h2⟩:=mx ha hw' hr
 exact ⟨v,h1,v,σ,x3 cs,L0,rfl,h2,hw',h⟩
theorem A9 {fn:Func} {Post:AV→AL→Prop} {cs:List AV} (hr:sC P fr L fn.results.toList cs) (h:Post (x3 cs) L):AX P .ret (bodyPost P fn (ki B Post)) nt [] fr B L:=by
 intro σ a w ha hw
 obtain ⟨v,h1,h2⟩:=mx ha hw hr
 exact ⟨ha.defers,v,h1,v,σ,x3 cs,L,rfl,h2,hw,h⟩
def th:List Nat→List AV→cf→cf
 | p::ps,v::vs,fr=>th ps vs ((p,v)::fr)
 | _,_,fr=>fr
theorem k6.fset {σ:cF} {D':List Deferred}:∀(ps:List Nat) (cs:List AV) (vs:List Value) (fr:cf) (t:Array Value),ps.length=cs.length→(∀p∈ps,p < nt)→dI σ cs vs→k6 σ nt D' fr ⟨t,D'⟩→k6 σ nt D' (th ps cs fr) ⟨(ps.zip vs).foldl (fun t q=>t.setIfInBounds q.1 q.2) t,D'⟩
 | [],cs,vs,fr,t,_,_,_,h=>by simpa [th] using h
 | p::ps,[],vs,fr,t,hl,_,_,h=>by simp at hl
 | p::ps,c::cs,vs,fr,t,hl,hp,hvs,h=>by
  obtain ⟨v,ws,rfl,hv,hs⟩:=hvs.inv
  simp only [th,List.zip_cons_cons,List.foldl_cons]
  refine k6.fset ps cs ws _ _ (by simpa using hl) (fun q hq=>hp q (Nt _ hq)) hs ?_
  have:=h.put (hp p (List.mem_cons_self ..)) hv
  simpa [Act.put] using this
def MG (P:Program) (l:Nat) (body:Code) (Qb:Exit→Act→World→Prop):Exit→Act→World→Prop:=Exit.then (fun a w=>∃w2,(Instr.beginRound l).run P w= .ok () w2∧body.wpIn (Wd (some l)) 0 P Qb a w2) (fun _ _ _=>False)
theorem lT {l:Nat} {body:Code} {Qb:Exit→Act→World→Prop} {rec:Loop} (hr:rec.state= .ready) (h:AT P (some l) body Qb nt D fr B (L++[(l,kf { rec with state:= .busy })])):AX P .normal (MG P l body Qb) nt D fr B (L++[(l,kf rec)]):=by
 intro σ a w ha hw
 obtain ⟨o,ho,hq⟩:=hw.here (l,kf rec) (by simp)
 have hq:o= .loop rec:=hq
 rw [hq] at ho
 exact ⟨_,run_beginRound ho hr,h σ a _ ha (hw.turn (a':=kf { rec with state:= .busy }) rfl)⟩
def M5 (P:Program) (l:Nat) (B:Bs) (Post:AV→AL→Prop):Exit→Act→World→Prop:=roundPost P l (ki B Post)
theorem pq {l:Nat} {rec:Loop} {Post:AV→AL→Prop} (h:Post (.sc (.bool true)) (L++[(l,kf { rec with state:= .ready,pending:=none })])):AX P .normal (M5 P l B Post) nt D fr B (L++[(l,kf rec)]):=by
 intro σ a w ha hw
 obtain ⟨o,ho,hq⟩:=hw.here (l,kf rec) (by simp)
 have hq:o= .loop rec:=hq
 rw [hq] at ho
 exact ⟨_,_,run_endRound none ho,_,σ,_,_,rfl,.sc _,hw.turn (a':=kf { rec with state:= .ready,pending:=none }) rfl,h⟩
theorem rx {l:Nat} {rec:Loop} {Post:AV→AL→Prop} (h:Post (.sc (.bool false)) (L++[(l,kf { rec with state:= .done,pending:=some .ret })])):AX P .ret (M5 P l B Post) nt D fr B (L++[(l,kf rec)]):=by
 intro σ a w ha hw
 obtain ⟨o,ho,hq⟩:=hw.here (l,kf rec) (by simp)
 have hq:o= .loop rec:=hq
 rw [hq] at ho
 exact ⟨_,_,run_endRound (some .ret) ho,_,σ,_,_,rfl,.sc _,hw.turn (a':=kf { rec with state:= .done,pending:=some .ret }) rfl,h⟩
structure IK (rec:Loop) (σ0:cF) (nt:Nat) (fr:cf) (ps:List Nat) (assign body:Code):Prop where
 state:rec.state= .ready
 pending:rec.pending=none
 params:rec.params=ps.toArray
 assign:rec.assign=assign
 body:rec.body=body
 size:rec.tmps.size=nt
 look:∀t c,cB fr t=some c→VR σ0 c (rec.tmps.getD t undef)
theorem w9 {rec:Loop} {ps:List Nat} {assign body:Code} {l:Nat} {args:List AV} {Post:AV→AL→Prop} (hr:IK rec σ0 nt fr ps assign body) (hlen:ps.length=args.length) (hps:ps.all (fun p=>Nat.blt p nt)=true)
  (h:∀B,σ0.le B.σ→AT P (some l) assign (MG P l body (M5 P l B Post)) nt [] (th ps args fr) B (L++[(l,kf rec)])):AY P σ0 l args (L++[(l,kf rec)]) Post:=by
 intro σ w vs hle hvs hst
 obtain ⟨o,ho,hq⟩:=hst.here (l,kf rec) (by simp)
 have hq:o= .loop rec:=hq
 rw [hq] at ho
 have hl:=hvs.1
 have hy:=run_yield (P:=P) (args:=vs.toArray) ho (by simp [hr.params];omega)
 refine ⟨_,_,_,_,hy,?_⟩
 rw [hr.assign,hr.body]
 refine roundIn_of_wpIn (F:=Fence.wide) trivial ?_
 have hag:k6 σ nt [] (th ps args fr) ⟨(ps.zip vs).foldl (fun t q=>t.setIfInBounds q.1 q.2) rec.tmps,[]⟩:=k6.fset ps args vs fr rec.tmps hlen (fun p hp=>by have:=List.all_eq_true.1 hps p hp;simpa [Nat.blt_eq] using this) hvs ⟨hr.size,rfl,fun t c hc=>(hr.look t c hc).mono hle⟩
 have htm:(rec.params.zip vs.toArray).foldl (fun tmps (q:Nat×Value)=>tmps.setIfInBounds q.1 q.2) rec.tmps=(ps.zip vs).foldl (fun t q=>t.setIfInBounds q.1 q.2) rec.tmps:=by
  rw [hr.params]
  simp
 have:=h ⟨w,σ,(L++[(l,kf rec)]).map (·.1)⟩ hle σ _ w hag hst
 rw [←htm] at this
 exact this
def IY (P:Program) (Q:Exit→Act→World→Prop) (nt:Nat) (D:List Deferred) (fr:cf) (B:Bs) (L:AL):Option Code→Prop
 | none=>AX P .normal Q nt D fr B L
 | some .ret=>AX P .ret Q nt D fr B L
 | some (.exit id)=>AX P (.exit id) Q nt D fr B L
 | _=>False
theorem lQ {gv:Operand} {ps:List Nat} {assign body:Code} {gf:FuncId} {cap:List AV} [hf:bS P gf] (hg:bE fr gv=some (.fn gf cap))
  (h:∀σ0 l db rec,IK rec σ0 nt fr ps assign body→∃Post,GJ P σ0 gf (.sc (.func (.yield l) #[] #[])::cap) ((L++[(db,lZ)])++[(l,kf rec)]) Post∧∀c L',Post c L'→∃rec' L1,L'.Perm (L1++[(l,kf rec')])∧rec'.state≠ .busy∧IY P Q nt ({ target:= .collected db,args:=#[] }::D) fr B L1 rec'.pending):
  AT P none (.rangeFunc gv ps.toArray assign body) Q nt D fr B L:=by
 intro σ a w ha hw
 refine wpIn_rangeFunc ?_
 intro fn hfn
 obtain ⟨rec,hrec⟩:∃rec:Loop,rec={ state:= .ready,pending:=none,fn,tmps:=a.tmps,params:=ps.toArray,assign,body,defers:=w.heap.size }:=⟨_,rfl⟩
 have h1:=(hw.alloc (.deferred (some [])) lZ rfl).perm (List.perm_append_comm (l₁:=[(w.heap.size,lZ)]))
 have h2:=(h1.alloc (.loop rec) (kf rec) rfl).perm (List.perm_append_comm (l₁:=[((w.alloc (.deferred (some []))).heap.size,kf rec)]))
 simp only [World.size_alloc] at h2
 obtain ⟨Post,hac,hpost⟩:=h σ (w.heap.size+1) w.heap.size rec (by rw [hrec];exact ⟨rfl,rfl,rfl,rfl,rfl,ha.size,ha.look⟩)
 obtain ⟨vs,hv,hvs⟩:=(ha.eval hg).fn_inv
 refine ⟨w.heap.size+1,[{ target:= .collected w.heap.size,args:=#[] }],(w.alloc (.deferred (some []))).alloc (.loop rec),{ target:= .fn (.func gf) vs.toArray,args:=#[.func (.yield (w.heap.size+1)) #[] #[]] },(w.alloc (.deferred (some []))).alloc (.loop rec),gf,
  #[.func (.yield (w.heap.size+1)) #[] #[]]++vs.toArray,(w.alloc (.deferred (some []))).alloc (.loop rec),?_,?_,fun _ _=>trivial,?_,fun h=>by simp [Fence.wide] at h,?_⟩
 ·rw [hrec];exact run_enterLoop_outer _ _ _ _ _
 ·simp only [resolve,rangeCall,hv]
  simp [Deferred.ofValue,Act.eval]
 ·simp [invoke,hf.enters]
 ·have hc:=hac σ _ (.func (.yield (w.heap.size+1)) #[] #[]::vs) (cF.le_refl _) (dI.cons (.sc _) hvs) (dw.enter (Lf:=[]) (by rw [List.append_nil];exact h2))
  have e:(#[.func (.yield (w.heap.size+1)) #[] #[]]++vs.toArray:Array Value)=(.func (.yield (w.heap.size+1)) #[] #[]::vs).toArray:=by simp
  rw [e]
  refine qj (hc.mono ?_)
  rintro en W' ⟨v,τ,c,L',rfl,_,hst,hp⟩
  obtain ⟨rec',L1,hperm,hnb,hj⟩:=hpost c L' hp
  have hst2:dw B τ (L1++[(w.heap.size+1,kf rec')]) W':=((dw.leave (Lf:=[]) (by rw [List.append_nil];exact h2) hst).perm (by rw [List.append_nil];exact hperm))
  obtain ⟨o,ho,hq⟩:=hst2.here (w.heap.size+1,kf rec') (by simp)
  have hq:o= .loop rec':=hq
  rw [hq] at ho
  have hst3:=(hst2.turn (a':= .raw fun _=>True) (o:= .loop { rec' with state:= .exhausted }) trivial).sublist (List.sublist_append_left ..)
  have hle:σ.le τ:=hst.grow
  have hag:k6 τ nt ({ target:= .collected w.heap.size,args:=#[] }::D) fr { a with defers:=[{ target:= .collected w.heap.size,args:=#[] }]++a.defers }:=⟨ha.size,by simp [ha.defers],(ha.mono hle).look⟩
  refine ⟨rec'.pending,_,run_endLoop ho hnb,?_⟩
  generalize W'.putObj _ _=W2 at hst3 ⊢
  unfold IY at hj
  split at hj
  ·rename_i hpe;rw [hpe];exact hj τ _ _ hag hst3
  ·rename_i hpe;rw [hpe];exact wpIn_ret (hj τ _ _ hag hst3)
  ·rename_i hpe;rw [hpe];exact wpIn_exit (hj τ _ _ hag hst3)
  ·exact hj.elim
end
theorem Ar {σ:cF} {b:Nat} {cs:List AV} {xs:List Value} (hx:dI σ cs xs) (h1:∀u∈xs,u.oneCell'=true) (hb:∀j u,xs[j]?=some u→σ b j=some u):VR σ (.iptr cs) (.pointer (some ⟨b,0,none⟩)):=by
 refine .iptr cs b 0 (fun j hj=>?_) fun j c u hc hu=>?_
 ·have hlt:j < xs.length:=by rw [←hx.1];exact hj
  rw [Nat.zero_add]
  exact ⟨xs[j],hb _ _ (Nz hlt),h1 _ (List.getElem_mem hlt)⟩
 ·have hlt:j < xs.length:=by rw [←hx.1];exact (Np hc).1
  have:=hb _ _ (Nz hlt)
  rw [Nat.zero_add,this] at hu
  injection hu with hu
  subst hu
  exact hx.2 j c _ hc (Nz hlt)
section
variable {P:Program} {r:Option Nat} {ops:Array Oper} {Q:Exit→Act→World→Prop} {nt:Nat} {D:List Deferred} {fr fr':cf} {B:Bs} {L L':AL} {rest:List Oper} {cd:Code}
variable {d:Option Tmp} {ty t t':TypeId} {pos:String} {af:Array Edge} {g:Option (Nat×Bool)} {x y:Operand} {u:AV}
theorem H3 {cs:List AV} (hx:bE fr x=some u) (hc:u.cells=some cs) (hn:Nat.ble cs.length 1000000=true):AO P ⟨d,.box t x,ty,pos,af,g⟩ fr B L (fun c L'=>c= .iptr cs∧L'=L):=by
 intro σ ρ w hρ hw
 rw [Nat.ble_eq] at hn
 obtain ⟨k1,k2⟩:=(hρ x u hx).cells hc
 have hl:=k1.1
 have hr:(execOp ρ ⟨d,.box t x,ty,pos,af,g⟩).run P w= .ok (.value (.pointer (some ⟨w.heap.size,0,none⟩))) (w.alloc (.cells (ρ x).cells t)):=by
  simp [execOp,Instr.box,newVar,newRow]
 unfold j7
 rw [hr]
 have ha:=hw.alloc (.cells (ρ x).cells t) (.vec t 1 0 cs.length) ⟨_,rfl,by simp at hl;omega,Nat.zero_le _,by unfold maxLen;omega⟩
 have hnb:(w.alloc (.cells (ρ x).cells t)).heap[w.heap.size]?=some (.cells (ρ x).cells t):=World.alloc_heap_new w _
 obtain ⟨hb,hle⟩:=ha.freezeHead (n':=cs.length) (xs:=(ρ x).cells.toList) (fun j u hj=>by rw [dc hnb];simpa using hj) (by omega) (Nat.zero_le _) (Nat.le_refl _)
 exact ⟨_,_,L,hle,Ar (k1.mono hle) k2 (fun j u hj=>cF.add_at hj),hb.sublist (.cons _ (List.Sublist.refl _)),rfl,rfl⟩
theorem aQ {L':AL} (h:L.Perm L'):lP nt D B fr L fr L':=fun σ _ _ ha hw=>⟨σ,ha,hw.perm h⟩
theorem xB {t b e:Nat} {cs:List AV} (i:Nat) (hl:cB fr t=some (.sc (.pointer (some ⟨b,0,none⟩)))) (hL:L[i]?=some (b,.box cs e)) (hn:Nat.ble cs.length 1000000=true):lP nt D B fr L ((t,.iptr cs)::fr) (L.eraseIdx i):=by
 intro σ a w ha hw0
 rw [Nat.ble_eq] at hn
 have hw:=hw0.perm (fq hL)
 obtain ⟨o,ho,vs,rfl,hvs,h1⟩:=hw.here _ (List.mem_cons_self ..)
 have hfree:=hw.free _ (List.mem_cons_self ..)
 have hvl:vs.length=cs.length:=hvs.1.symm
 have hst:dw B σ ((b,.vec e 1 0 cs.length)::L.eraseIdx i) w:=by
  refine ⟨hw.os,hw.tape,hw.output,hw.size,hw.old,fun p hp=>?_,fun p hp=>?_,by simpa using hw.apart,hw.froz,fun p hp off hm=>?_,hw.grow,hw.same⟩
  ·rcases List.mem_cons.1 hp with rfl | hp'
   ·exact ⟨_,ho,_,rfl,by simp [hvl],Nat.zero_le _,by unfold maxLen;omega⟩
   ·exact hw.here p (Nt _ hp')
  ·rcases List.mem_cons.1 hp with rfl | hp'
   ·exact hw.mine (b,.box cs e) (List.mem_cons_self ..)
   ·exact hw.mine p (Nt _ hp')
  ·rcases List.mem_cons.1 hp with rfl | hp'
   ·exact hfree off trivial
   ·exact hw.free p (Nt _ hp') off hm
 obtain ⟨hst',hle⟩:=hst.freezeHead (n':=cs.length) (xs:=vs) (fun j u hj=>by rw [dc ho];simpa using hj) (by omega) (Nat.zero_le _) (Nat.le_refl _)
 refine ⟨_,?_,hst'.sublist (.cons _ (List.Sublist.refl _))⟩
 have ha':=ha.mono hle
 refine ⟨ha'.size,ha'.defers,fun t' v' hl'=>?_⟩
 rw [cJ] at hl'
 by_cases e:t=t'
 ·subst e
  simp only [if_true,Option.some.injEq] at hl'
  subst hl'
  rw [(ha.look t _ hl).sc_inv]
  exact Ar (hvs.mono hle) h1 (fun j u hj=>cF.add_at hj)
 ·rw [if_neg e] at hl'
  exact ha'.look t' v' hl'
end
section
variable {P:Program} {r:Option Nat} {ops:Array Oper} {Q:Exit→Act→World→Prop} {nt:Nat} {D:List Deferred} {fr:cf} {B:Bs} {L:AL} {rest:List Oper}
def Ib (tt:TT) (nt:Nat):List Oper→cf→List Oper×cf
 | [],fr=>([],fr)
 | o::rest,fr=>match o.guard with
  | some _=>(o::rest,fr)
  | none=>match o.dst with
   | none=>(o::rest,fr)
   | some d=>match sP tt fr o.op with
    | none=>(o::rest,fr)
    | some u=>bif Nat.ble nt d then (o::rest,fr) else Ib tt nt rest ((d,u)::fr)
theorem u9 {tt:TT} (ok:eF P tt):∀(l:List Oper) (fr:cf) {rest':List Oper} {fr':cf},Ib tt nt l fr=(rest',fr')→bP P r ops Q nt D rest' fr' B L→bP P r ops Q nt D l fr B L
 | [],fr,_,_,h,hn=>by cases h;exact hn
 | o::rest,fr,rest',fr',h,hn=>by
  obtain ⟨dst,op,ty,pos,af,g⟩:=o
  simp only [Ib] at h
  cases g with
  | some _=>cases h;exact hn
  | none=>
   cases dst with
   | none=>cases h;exact hn
   | some d=>
    simp only at h
    cases hs:sP tt fr op with
    | none=>rw [hs] at h;cases h;exact hn
    | some u=>
     rw [hs] at h
     cases hb:Nat.ble nt d with
     | true=>rw [hb] at h;cases h;exact hn
     | false=>
      rw [hb] at h
      have hnd:Oper.noDefer ⟨some d,op,ty,pos,af,none⟩=true:=by
       cases op <;> first | rfl | (simp [sP,B7] at hs)
      exact cr (nS ok hs) hb hnd (u9 ok rest _ h hn)
end
section
variable {P:Program} {tt:TT} {r:Option Nat} {ops:Array Oper} {Q:Exit→Act→World→Prop} {nt:Nat} {D:List Deferred} {fr fr':cf} {B:Bs} {L:AL} {rest rest':List Oper}
variable {d:Nat} {ty t t':TypeId} {pos:String} {af:Array Edge} {g:Option (Nat×Bool)} {x y z c:Operand} {u:AV}
theorem a8 (ok:eF P tt) {op:Op} (_h1:sP tt fr op=some u) (h:Ib tt nt (⟨some d,op,ty,pos,af,none⟩::rest) fr=(rest',fr')) (hn:bP P r ops Q nt D rest' fr' B L):bP P r ops Q nt D (⟨some d,op,ty,pos,af,none⟩::rest) fr B L:=u9 ok _ _ h hn
theorem NG (ok:eF P tt) {op:Op} (zz:sP tt fr op=some u∧Ib tt nt (⟨some d,op,ty,pos,af,none⟩::rest) fr=(rest',fr')) (hn:bP P r ops Q nt D rest' fr' B L):bP P r ops Q nt D (⟨some d,op,ty,pos,af,none⟩::rest) fr B L:=a8 ok zz.1 zz.2 hn
theorem aS {op:BinOp} (h:bP P r ops Q nt D (⟨some d,.binOp op t x y t',ty,pos,af,none⟩::rest) fr B L):bP P r ops Q nt D (⟨some d,.binOp op t x y t',ty,pos,af,none⟩::rest) fr B L:=h
theorem aR {op:BinOp} (h:bP P r ops Q nt D rest ((d,u)::fr) B L) (ho:Av P ⟨some d,.binOp op t x y t',ty,pos,af,none⟩ fr u:=by first | exact zV rfl rfl (by omega) | exact A4 rfl rfl (by omega) | exact A3 rfl rfl (by omega)) (hd:Nat.ble nt d=false:=by rfl):bP P r ops Q nt D (⟨some d,.binOp op t x y t',ty,pos,af,none⟩::rest) fr B L:=cr ho hd rfl h
def jP (tt:TT) (t:Nat):Option (Nat×Nat×Nat):=match dC tt t with
 | some ⟨.slice e sz by_,_,_⟩=>some (e,sz,by_)
 | _=>none
theorem bB (ok:eF P tt) {e sz by_:Nat} (h:jP tt t=some (e,sz,by_)):lw P t e sz by_∧0 < sz:=by
 unfold jP at h
 split at h
 ·rename_i e' sz' by' _ _ ht
  cases h
  exact ok.isSl ht rfl
 ·cases h
theorem aO (h:bP P r ops Q nt D (⟨some d,.indexAddr t x y,ty,pos,af,none⟩::rest) fr B L):bP P r ops Q nt D (⟨some d,.indexAddr t x y,ty,pos,af,none⟩::rest) fr B L:=h
def j2 (u:AV):Option (Nat×List (List AV)):=match u with
 | .imm s l=>some (s,l)
 | .vec _ s l=>some (s,l)
 | _=>none
theorem d4 {s:Nat} {l:List (List AV)} (h:j2 u=some (s,l)):u.im= .imm s l:=by
 unfold j2 at h
 split at h <;> cases h <;> rfl
theorem aN (ok:eF P tt) {e sz by_ s:Nat} {l:List (List AV)} {k:IntKind} {i:Int} {es:List AV} (h:bP P r ops Q nt D rest ((d,.iptr es)::fr) B L) (ht:jP tt t=some (e,sz,by_):=by rfl) (hx:bE fr x=some u:=by rfl) (hu:j2 u=some (s,l):=by rfl) (hs:Nat.beq s sz=true:=by rfl) (hy:bE fr y=some (.sc (.int k i)):=by rfl) (h0:0≤i:=by omega) (hl:l[i.toNat]?=some es:=by first | assumption | (simp only [Int.toNat_natCast];assumption)) (hd:Nat.ble nt d=false:=by rfl):
  bP P r ops Q nt D (⟨some d,.indexAddr t x y,ty,pos,af,none⟩::rest) fr B L:=cr (zY (bB ok ht).1 hx (d4 hu) hs hy h0 hl) hd rfl h
theorem aF (ok:eF P tt) {e sz by_ b off n cap:Nat} {k:IntKind} {i:Int} (h:bP P r ops Q nt D rest ((d,.sc (.pointer (some ⟨b,off+i.toNat * sz,none⟩)))::fr) B L) (ht:jP tt t=some (e,sz,by_):=by rfl) (hx:bE fr x=some (.sc (.slice (some ⟨b,off,none⟩) n cap)):=by rfl) (hy:bE fr y=some (.sc (.int k i)):=by rfl) (h0:0≤i∧i < n:=by omega) (hd:Nat.ble nt d=false:=by rfl):
  bP P r ops Q nt D (⟨some d,.indexAddr t x y,ty,pos,af,none⟩::rest) fr B L:=cr (vO (bB ok ht).1 hx hy h0) hd rfl h
def LH (tt:TT) (t:Nat):Bool:=match dC tt t with | some ti=> !ti.k.agg | none=>false
def Kw (tt:TT) (t:Nat):Option Nat:=match dC tt t with | some ti=>bif ti.k.agg then some ti.size else none | none=>none
theorem cZ (ok:eF P tt) (h:LH tt t=true):IF P t:=by
 unfold LH at h
 split at h
 ·rename_i ti ht
  exact ok.sc ht (by simpa using h)
 ·cases h
theorem eL (ok:eF P tt) {n:Nat} (h:Kw tt t=some n):J9 P t n:=by
 unfold Kw at h
 split at h
 ·rename_i ti ht
  cases hk:ti.k.agg with
  | true=>rw [hk] at h;cases h;exact ok.ag ht hk
  | false=>rw [hk] at h;cases h
 ·cases h
def Ky (tt:TT) (t:Nat):Option Nat:=match dC tt t with | some ti=>some ti.size | none=>none
theorem oX (ok:eF P tt) {n:Nat} (h:Ky tt t=some n):(P.info? t).map (·.size)=some n:=by
 unfold Ky at h
 split at h
 ·rename_i ti ht
  cases h
  exact ok.size ht
 ·cases h
def zI (tt:TT) (t:Nat):Option (List Value):=match dC tt t with | some ti=>some ti.zero | none=>none
theorem dX (ok:eF P tt) {zs:List Value} (h:zI tt t=some zs):CZ P t zs:=by
 unfold zI at h
 split at h
 ·rename_i ti ht
  cases h
  exact ok.zero ht
 ·cases h
theorem bz (h:bP P r ops Q nt D (⟨some d,.load t x,ty,pos,af,none⟩::rest) fr B L):bP P r ops Q nt D (⟨some d,.load t x,ty,pos,af,none⟩::rest) fr B L:=h
theorem ah (ok:eF P tt) (i:Nat) {b k:Nat} {cs:List AV} {e:TypeId} (ht:LH tt t=true) (hx:bE fr x=some (.sc (.pointer (some ⟨b,k,none⟩)))) (hL:L[i]?=some (b,.box cs e)) (hc:cs[k]?=some u) (hd:Nat.ble nt d=false) (h:bP P r ops Q nt D rest ((d,u)::fr) B L):
  bP P r ops Q nt D (⟨some d,.load t x,ty,pos,af,none⟩::rest) fr B L:=cT hd rfl (uA i (cZ ok ht) hx hL hc) fun c L' ⟨h1,h2⟩=>by subst h1;subst h2;exact h
theorem NJ (ok:eF P tt) (i:Nat) {b k:Nat} {cs:List AV} {e:TypeId} (zz:LH tt t=true∧bE fr x=some (.sc (.pointer (some ⟨b,k,none⟩)))∧L[i]?=some (b,.box cs e)∧cs[k]?=some u∧Nat.ble nt d=false) (h:bP P r ops Q nt D rest ((d,u)::fr) B L):bP P r ops Q nt D (⟨some d,.load t x,ty,pos,af,none⟩::rest) fr B L:=ah ok i zz.1 zz.2.1 zz.2.2.1 zz.2.2.2.1 zz.2.2.2.2 h
theorem NL (ok:eF P tt) (i:Nat) {b k:Nat} {cs:List AV} {e:TypeId} (zz:LH tt t=true∧bE fr x=some (.sc (.pointer (some ⟨b,k,none⟩)))∧L[i]?=some (b,.box cs e)) (hc:cs[k]?=some u) (hd:Nat.ble nt d=false) (h:bP P r ops Q nt D rest ((d,u)::fr) B L):bP P r ops Q nt D (⟨some d,.load t x,ty,pos,af,none⟩::rest) fr B L:=ah ok i zz.1 zz.2.1 zz.2.2 hc hd h
theorem ay (ok:eF P tt) (i:Nat) {b k n:Nat} {cs:List AV} {e:TypeId} (ht:Kw tt t=some n) (hx:bE fr x=some (.sc (.pointer (some ⟨b,k,none⟩)))) (hL:L[i]?=some (b,.box cs e)) (hc:Nat.ble (k+n) cs.length=true) (hd:Nat.ble nt d=false) (h:bP P r ops Q nt D rest ((d,.agg ((cs.drop k).take n))::fr) B L):
  bP P r ops Q nt D (⟨some d,.load t x,ty,pos,af,none⟩::rest) fr B L:=cT hd rfl (vY i (eL ok ht) hx hL hc) fun c L' ⟨h1,h2⟩=>by subst h1;subst h2;exact h
theorem NK (ok:eF P tt) (i:Nat) {b k n:Nat} {cs:List AV} {e:TypeId} (zz:Kw tt t=some n∧bE fr x=some (.sc (.pointer (some ⟨b,k,none⟩)))∧L[i]?=some (b,.box cs e)∧Nat.ble (k+n) cs.length=true∧Nat.ble nt d=false) (h:bP P r ops Q nt D rest ((d,.agg ((cs.drop k).take n))::fr) B L):bP P r ops Q nt D (⟨some d,.load t x,ty,pos,af,none⟩::rest) fr B L:=ay ok i zz.1 zz.2.1 zz.2.2.1 zz.2.2.2.1 zz.2.2.2.2 h
theorem aI (h:bP P r ops Q nt D (⟨none,.store t x y,ty,pos,af,none⟩::rest) fr B L):bP P r ops Q nt D (⟨none,.store t x y,ty,pos,af,none⟩::rest) fr B L:=h
theorem aa (ok:eF P tt) (i:Nat) {b k n:Nat} {cs ys:List AV} {e:TypeId} (ht:Ky tt t=some n) (hx:bE fr x=some (.sc (.pointer (some ⟨b,k,none⟩)))) (hy:bE fr y=some u) (hu:u.cells=some ys) (hL:L[i]?=some (b,.box cs e)) (hn:Nat.beq ys.length n=true) (hk:Nat.ble (k+n) cs.length=true) (h:bP P r ops Q nt D rest fr B (fx L i (.box (fS cs k ys) e))):
  bP P r ops Q nt D (⟨none,.store t x y,ty,pos,af,none⟩::rest) fr B L:=lR rfl (o6 i (oX ok ht) hx hy hu hL hn hk) fun c L' h1=>by subst h1;exact h
theorem NH (ok:eF P tt) (i:Nat) {b k n:Nat} {cs ys:List AV} {e:TypeId} (zz:Ky tt t=some n∧bE fr x=some (.sc (.pointer (some ⟨b,k,none⟩)))∧bE fr y=some u∧u.cells=some ys∧L[i]?=some (b,.box cs e)∧Nat.beq ys.length n=true∧Nat.ble (k+n) cs.length=true) (h:bP P r ops Q nt D rest fr B (fx L i (.box (fS cs k ys) e))):bP P r ops Q nt D (⟨none,.store t x y,ty,pos,af,none⟩::rest) fr B L:=aa ok i zz.1 zz.2.1 zz.2.2.1 zz.2.2.2.1 zz.2.2.2.2.1 zz.2.2.2.2.2.1 zz.2.2.2.2.2.2 h
theorem NV (ok:eF P tt) (i:Nat) {b k n:Nat} {cs ys:List AV} {e:TypeId} (zz:Ky tt t=some n∧bE fr x=some (.sc (.pointer (some ⟨b,k,none⟩)))∧bE fr y=some u∧u.cells=some ys∧L[i]?=some (b,.box cs e)∧Nat.beq ys.length n=true) (hk:Nat.ble (k+n) cs.length=true) (h:bP P r ops Q nt D rest fr B (fx L i (.box (fS cs k ys) e))):bP P r ops Q nt D (⟨none,.store t x y,ty,pos,af,none⟩::rest) fr B L:=aa ok i zz.1 zz.2.1 zz.2.2.1 zz.2.2.2.1 zz.2.2.2.2.1 zz.2.2.2.2.2 hk h
theorem wV {cs:List AV} (h:∀b,bP P r ops Q nt D rest ((d,.sc (.pointer (some ⟨b,0,none⟩)))::fr) B ((b,.box cs t)::L)) (hx:bE fr x=some u:=by rfl) (hc:u.cells=some cs:=by rfl) (hd:Nat.ble nt d=false:=by rfl):
  bP P r ops Q nt D (⟨some d,.box t x,ty,pos,af,none⟩::rest) fr B L:=cT hd rfl (JE hx hc) fun c L' hh=>by obtain ⟨b,h1,h2⟩:=hh;subst h1;subst h2;exact h b
theorem bq {cs:List AV} (h:bP P r ops Q nt D rest ((d,.iptr cs)::fr) B L) (hx:bE fr x=some u:=by rfl) (hc:u.cells=some cs:=by rfl) (hn:Nat.ble cs.length 1000000=true:=by rfl) (hd:Nat.ble nt d=false:=by rfl):
  bP P r ops Q nt D (⟨some d,.box t x,ty,pos,af,none⟩::rest) fr B L:=cT hd rfl (H3 hx hc hn) fun c L' hh=>by obtain ⟨h1,h2⟩:=hh;subst h1;subst h2;exact h
theorem ae (tm:Nat) (ok:eF P tt) (i:Nat) {b n:Nat} {cs ys:List AV} {e:TypeId} (ht:Ky tt t=some n) (hx:cB fr tm=some (.sc (.pointer (some ⟨b,0,none⟩)))) (hy:bE fr y=some u) (hu:u.cells=some ys) (hL:L[i]?=some (b,.box cs e)) (hn:Nat.beq ys.length n=true) (hk:Nat.beq n cs.length=true) (hn6:Nat.ble ys.length 1000000=true) (h:bP P r ops Q nt D rest ((tm,.iptr ys)::fr) B (L.eraseIdx i)):
  bP P r ops Q nt D (⟨none,.store t (.tmp tm) y,ty,pos,af,none⟩::rest) fr B L:=by
 have hn':ys.length=n:=by rwa [Nat.beq_eq] at hn
 have hk':n=cs.length:=by rwa [Nat.beq_eq] at hk
 refine lR rfl (o6 i (oX ok ht) hx hy hu hL hn (by rw [Nat.ble_eq];omega)) fun c L' h1=>?_
 subst h1
 have hput:fS cs 0 ys=ys:=by
  apply List.ext_getElem?
  intro j
  rw [i3 _ _ _ _ (by omega)]
  by_cases hj:j < ys.length
  ·rw [if_pos (by omega),Nat.sub_zero]
  ·rw [if_neg (by omega),List.getElem?_eq_none (by omega),List.getElem?_eq_none (by omega)]
 rw [hput]
 have hgi:(fx L i (.box ys e))[i]?=some (b,.box ys e):=by
  clear h
  induction L generalizing i with
  | nil=>simp at hL
  | cons p q ih=>
   cases i with
   | zero=>simp at hL;subst hL;rfl
   | succ i=>simp only [List.getElem?_cons_succ] at hL;simp only [fx,List.getElem?_cons_succ];exact ih i hL
 have her:(fx L i (.box ys e)).eraseIdx i=L.eraseIdx i:=by
  clear h hgi
  induction L generalizing i with
  | nil=>simp at hL
  | cons p q ih=>
   cases i with
   | zero=>rfl
   | succ i=>simp only [List.getElem?_cons_succ] at hL;simp only [fx,List.eraseIdx_cons_succ];rw [ih i hL]
 have:=xB (nt:=nt) (D:=D) (B:=B) (fr:=fr) i hx hgi hn6
 rw [her] at this
 exact aL this h
theorem NI (tm:Nat) (ok:eF P tt) (i:Nat) {b n:Nat} {cs ys:List AV} {e:TypeId} (zz:Ky tt t=some n∧cB fr tm=some (.sc (.pointer (some ⟨b,0,none⟩)))∧bE fr y=some u∧u.cells=some ys∧L[i]?=some (b,.box cs e)∧Nat.beq ys.length n=true∧Nat.beq n cs.length=true∧Nat.ble ys.length 1000000=true) (h:bP P r ops Q nt D rest ((tm,.iptr ys)::fr) B (L.eraseIdx i)):bP P r ops Q nt D (⟨none,.store t (.tmp tm) y,ty,pos,af,none⟩::rest) fr B L:=ae tm ok i zz.1 zz.2.1 zz.2.2.1 zz.2.2.2.1 zz.2.2.2.2.1 zz.2.2.2.2.2.1 zz.2.2.2.2.2.2.1 zz.2.2.2.2.2.2.2 h
theorem bn (ok:eF P tt) {zs:List Value} (h:∀b,bP P r ops Q nt D rest ((d,.sc (.pointer (some ⟨b,0,none⟩)))::fr) B ((b,.box (zs.map .sc) t)::L)) (hz:zI tt t=some zs:=by rfl) (h1:zs.all (·.oneCell')=true:=by rfl) (hd:Nat.ble nt d=false:=by rfl):
  bP P r ops Q nt D (⟨some d,.alloc t,ty,pos,af,none⟩::rest) fr B L:=by
 have hz':=dX ok hz
 refine cT hd rfl (kq hz' h1) fun c L' hh=>?_
 obtain ⟨b,h1,h2⟩:=hh
 subst h1;subst h2
 exact h b
theorem fR (ok:eF P tt) {e sz by_ n:Nat} {parts:Array (Nat×Operand)} {vs:List AV} {xs:List (List AV)} (h:∀b,bP P r ops Q nt D rest ((d,.vec (some (b,n)) sz xs)::fr) B ((b,.vec e sz n n)::L)) (ht:jP tt t=some (e,sz,by_):=by rfl) (hv:eP fr (parts.toList.map (·.2))=some vs:=by rfl) (hxs:ju vs=some xs:=by rfl) (hn:Nat.beq xs.length n=true:=by rfl) (hi:parts.toList.map (·.1)=List.range' 0 n:=by rfl) (hz:xs.all (fun q=>Nat.beq q.length sz)=true:=by rfl) (h24:Nat.ble (n * sz) 16777216=true:=by rfl) (hd:Nat.ble nt d=false:=by rfl):
  bP P r ops Q nt D (⟨some d,.buildSlice t n parts,ty,pos,af,none⟩::rest) fr B L:=by
 obtain ⟨h1,h2⟩:=bB ok ht
 refine cT hd rfl (uz h1 h2 hv hxs hn hi hz h24) fun c L' hh=>?_
 obtain ⟨b,h1,h2⟩:=hh
 subst h1;subst h2
 exact h b
theorem bo (ok:eF P tt) (L0:AL) {e sz by_:Nat} {k:Option (Nat×Nat)} {l l2:List (List AV)} (ht:jP tt t=some (e,sz,by_)) (hx:bE fr x=some (.vec k sz l)) (hy:bE fr y=some u) (hu:j2 u=some (sz,l2)) (hL:L.Perm (_root_.Go.Proofs.YtpmdfoaadejmkaaGreatDoor.tok k e sz l.length++L0)) (h63:l.length+l2.length≤9223372036854775807) (hby:(l.length+l2.length) * by_≤140737488355328) (hd:Nat.ble nt d=false)
  (h:∀k',bP P r ops Q nt D rest ((d,.vec k' sz (l++l2))::fr) B (_root_.Go.Proofs.YtpmdfoaadejmkaaGreatDoor.tok k' e sz (l++l2).length++L0)):
  bP P r ops Q nt D (⟨some d,.call ⟨.builtin .append,#[x,y],#[t,t]⟩,ty,pos,af,none⟩::rest) fr B L:=cT hd rfl (pn L0 (bB ok ht).1 (bB ok ht).2 hx hy (d4 hu) hL h63 hby) fun c L' ⟨k',h1,h2⟩=>by subst h1;subst h2;exact h k'
theorem NS (ok:eF P tt) (L0:AL) {e sz by_:Nat} {k:Option (Nat×Nat)} {l l2:List (List AV)} (zz:jP tt t=some (e,sz,by_)∧bE fr x=some (.vec k sz l)∧bE fr y=some u∧j2 u=some (sz,l2)) (hL:L.Perm (_root_.Go.Proofs.YtpmdfoaadejmkaaGreatDoor.tok k e sz l.length++L0)) (h63:l.length+l2.length≤9223372036854775807) (hby:(l.length+l2.length) * by_≤140737488355328) (hd:Nat.ble nt d=false) (h:∀k',bP P r ops Q nt D rest ((d,.vec k' sz (l++l2))::fr) B (_root_.Go.Proofs.YtpmdfoaadejmkaaGreatDoor.tok k' e sz (l++l2).length++L0)):bP P r ops Q nt D (⟨some d,.call ⟨.builtin .append,#[x,y],#[t,t]⟩,ty,pos,af,none⟩::rest) fr B L:=bo ok L0 zz.1 zz.2.1 zz.2.2.1 zz.2.2.2 hL h63 hby hd h
class AD (P:Program) (f:FuncId) (args:List AV) (u:outParam AV):Prop where
 det:bV P f args u
theorem bA {f:FuncId} {args:Array Operand} {ts:Array TypeId} (h:bP P r ops Q nt D (⟨some d,.call ⟨.value (.func f),args,ts⟩,ty,pos,af,none⟩::rest) fr B L):bP P r ops Q nt D (⟨some d,.call ⟨.value (.func f),args,ts⟩,ty,pos,af,none⟩::rest) fr B L:=h
theorem bw {f:FuncId} {args:Array Operand} {ts:Array TypeId} {cs ds:List AV} [bS P f] (h:bP P r ops Q nt D rest ((d,u)::fr) B L) (hv:eP fr args.toList=some cs:=by rfl) (hi:n9 cs=some ds:=by rfl) (hc:AD P f ds u:=by infer_instance) (hd:Nat.ble nt d=false:=by rfl):
  bP P r ops Q nt D (⟨some d,.call ⟨.value (.func f),args,ts⟩,ty,pos,af,none⟩::rest) fr B L:=cT hd rfl (E1 (u:=u) hv (by rw [jY hi];exact hc.det)) fun c L' hh=>by obtain ⟨h1,h2⟩:=hh;subst h1;subst h2;exact h
theorem bR {cd:Operand} {xx yy:Code} (hc:bE fr cd=some (.sc (.bool true))) (h:AT P r xx Q nt D fr B L):AT P r (.cond cd xx yy) Q nt D fr B L:=aj hc (fun _=>h) (fun e=>by cases e)
theorem bJ {cd:Operand} {xx yy:Code} (hc:bE fr cd=some (.sc (.bool false))) (h:AT P r yy Q nt D fr B L):AT P r (.cond cd xx yy) Q nt D fr B L:=aj hc (fun e=>by cases e) (fun _=>h)
end
def gW (fr:cf):List Nat→Option cf
 | []=>some []
 | t::r=>match cB fr t with
  | some v=>match gW fr r with
   | some q=>some ((t,v)::q)
   | none=>none
  | none=>none
theorem ez {fr:cf}:∀(ks:List Nat) {fr0:cf},gW fr ks=some fr0→nw fr0 fr
 | [],fr0,h=>by simp [gW] at h;subst h;trivial
 | t::r,fr0,h=>by
  simp only [gW] at h
  split at h
  ·rename_i v hv
   split at h
   ·rename_i q hq
    cases h
    exact ⟨hv,ez r hq⟩
   ·cases h
  ·cases h
theorem o5 {a b fr:cf} (ha:nw a fr) (hb:nw b fr):nw (a++b) fr:=by
 induction a with
 | nil=>exact hb
 | cons p r ih=>obtain ⟨i,v⟩:=p;exact ⟨ha.1,ih ha.2⟩
section
variable {P:Program} {r:Option Nat} {Q:Exit→Act→World→Prop} {nt:Nat} {D:List Deferred} {fr:cf} {B:Bs} {L:AL} {cd:Code}
def J7 (nt:Nat) (D:List Deferred) (B:Bs) {α:Type} (Inv:α→cf) (J:α→AL→Prop) (μ:α→Nat) (x:α) (Q:Exit→Act→World→Prop):Exit→Act→World→Prop:=Exit.then (fun a w=>∃σ x' L',k6 σ nt D (Inv x') a∧J x' L'∧dw B σ L' w∧μ x' < μ x) Q
def bb (nt:Nat) (D:List Deferred) (B:Bs) {α:Type} (V:α→cf) (fr0:cf) (C:α→Prop) (Lx:α→AL) (μ:α→Nat) (x:α) (Q:Exit→Act→World→Prop):Exit→Act→World→Prop:=J7 nt D B (fun x=>V x++fr0) (fun x L'=>C x∧L'=Lx x) μ x Q
theorem aM (ks:List Nat) {α:Type} (V:α→cf) (C:α→Prop) (Lx:α→AL) (μ:α→Nat) (x0:α) {fr0:cf} (hk:gW fr ks=some fr0) (hV:nw (V x0) fr) (hC:C x0) (hL:∀σ w,dw B σ L w→dw B σ (Lx x0) w)
  (hb:∀x,C x→AT P r cd (bb nt D B V fr0 C Lx μ x Q) nt D (V x++fr0) B (Lx x)):AT P r (.loop cd) Q nt D fr B L:=
 H5 (fun x=>V x++fr0) (fun x L'=>C x∧L'=Lx x) μ x0 (Lx x0) (o5 hV (ez ks hk)) ⟨hC,rfl⟩ hL fun x L' ⟨h1,h2⟩=>by subst h2;exact hb x h1
theorem aC {α:Type} {V:α→cf} {fr0:cf} {C:α→Prop} {Lx:α→AL} {μ:α→Nat} {x:α} (x':α) (hk:gW fr (fr0.map (·.1))=some fr0) (hV:nw (V x') fr) (hC:C x') (hm:μ x' < μ x) (hL:∀σ w,dw B σ L w→dw B σ (Lx x') w):
  AX P .normal (bb nt D B V fr0 C Lx μ x Q) nt D fr B L:=
 Ea x' (Lx x') (o5 hV (ez _ hk)) ⟨hC,rfl⟩ hL hm
theorem aw {α:Type} {V:α→cf} {fr0:cf} {C:α→Prop} {Lx:α→AL} {μ:α→Nat} {x:α} {id:Nat} (h:AX P (.exit id) Q nt D fr B L):AX P (.exit id) (bb nt D B V fr0 C Lx μ x Q) nt D fr B L:=fun σ a w ha hw=>h σ a w ha hw
instance aB2 {α:Type} {V:α→cf} {fr0:cf} {C:α→Prop} {Lx:α→AL} {μ:α→Nat} {x:α} {id:Nat}:go (AX P (.exit id) (bb nt D B V fr0 C Lx μ x Q) nt D fr B L) (AX P (.exit id) Q nt D fr B L):=⟨aw⟩
theorem aU {α:Type} {V:α→cf} {fr0:cf} {C:α→Prop} {Lx:α→AL} {μ:α→Nat} {x:α} (h:AX P .ret Q nt D fr B L):AX P .ret (bb nt D B V fr0 C Lx μ x Q) nt D fr B L:=fun σ a w ha hw=>h σ a w ha hw
instance aB3 {α:Type} {V:α→cf} {fr0:cf} {C:α→Prop} {Lx:α→AL} {μ:α→Nat} {x:α}:go (AX P .ret (bb nt D B V fr0 C Lx μ x Q) nt D fr B L) (AX P .ret Q nt D fr B L):=⟨aU⟩
theorem uC {fr0:cf} (ks:List Nat) (hk:gW fr ks=some fr0) (h:AT P r cd Q nt D fr0 B L):AT P r cd Q nt D fr B L:=mH (ez ks hk) (fun _ _ h=>h) h
end
theorem cu {P:Program} {r:Option Nat} {ops:Array Oper} {Q:Exit→Act→World→Prop} {nt:Nat} {D:List Deferred} {fr fr0:cf} {B:Bs} {L:AL} {rest:List Oper} {A A':Code} {t:Nat} (ks:List Nat) (C:Prop) (hks:gW fr ks=some fr0) (h:∀Q',(∀fr' b,gW fr' ks=some fr0→cB fr' t=some (.sc (.bool b))→(b=true↔C)→AX P .normal Q' nt D fr' B L)→bP P r ops Q' nt D rest fr B L) (hA:C→AT P r A Q nt D fr0 B L) (hB:¬C→AT P r A' Q nt D fr0 B L):bP P r ops (Kt P r (.cond (.tmp t) A A') Q) nt D rest fr B L:=by
 refine h _ fun fr' b hk hb hC=>?_
 refine a6 (aj hb (fun e=>?_) (fun e=>?_))
 ·exact mH (ez _ hk) (fun _ _ h=>h) (hA (hC.1 e))
 ·exact mH (ez _ hk) (fun _ _ h=>h) (hB fun hc=>by have:=hC.2 hc;rw [e] at this;cases this)
section
variable {P:Program} {r:Option Nat} {ops:Array Oper} {Q:Exit→Act→World→Prop} {nt:Nat} {D:List Deferred} {fr:cf} {B:Bs} {L:AL} {rest:List Oper} {cd:Code} {φ:Prop}
theorem JF (hφ:∀σ a w,k6 σ nt D fr a→dw B σ L w→φ) (h:φ→AT P r cd Q nt D fr B L):AT P r cd Q nt D fr B L:=fun σ a w ha hw=>h (hφ σ a w ha hw) σ a w ha hw
theorem H7 (hφ:∀σ a w,k6 σ nt D fr a→dw B σ L w→φ) (h:φ→bP P r ops Q nt D rest fr B L):bP P r ops Q nt D rest fr B L:=fun σ a w ha hw=>h (hφ σ a w ha hw) σ a w ha hw
theorem Fi {σ:cF} {u:AV} {v:Value} {s:Nat} {l:List (List AV)} (h:VR σ u v) (hu:j2 u=some (s,l)):l.length≤9223372036854775807∧∀e∈l,e.length=s:=by
 have h1:=h.im
 rw [d4 hu] at h1
 obtain ⟨_,_,_,h2,h3,h4,_⟩:=h1.imm_inv
 unfold maxLen at h3
 exact ⟨by omega,h4⟩
theorem cR (t:Nat) {u:AV} {s:Nat} {l:List (List AV)} (hl:cB fr t=some u) (hu:j2 u=some (s,l)) (h:l.length≤9223372036854775807→AT P r cd Q nt D fr B L):AT P r cd Q nt D fr B L:=
 JF (fun σ a w ha _=>(Fi (ha.look t u hl) hu).1) h
end
section
variable {P:Program} {nt:Nat} {fr:cf} {B:Bs} {L:AL}
theorem E9 {fn:Func} {Post:AV→AL→Prop} {t:Tmp} {c:AV} {s:Nat} {l:List (List AV)} (hr:fn.results=#[.tmp t]) (hv:cB fr t=some c) (hi:j2 c=some (s,l)) (h:Post (.imm s l) L):AX P .ret (bodyPost P fn (ki B Post)) nt [] fr B L:=
 fun σ a w ha hw=>⟨ha.defers,_,results_tmp hr _ _ _,_,σ,.imm s l,L,rfl,by rw [←d4 hi];exact (ha.look t c hv).im,hw,h⟩
end
section
variable {P:Program} {r:Option Nat} {ops:Array Oper} {Q:Exit→Act→World→Prop} {nt:Nat} {D:List Deferred} {fr:cf} {B:Bs} {L:AL} {rest:List Oper} {d:Nat} {ty:TypeId} {pos:String} {af:Array Edge}
def MU (P:Program) (f:FuncId) (args:List AV) (e s:Nat) (l:List (List AV)):Prop:=AC P f args [] fun c L=>∃k,c= .vec k s l∧L=_root_.Go.Proofs.YtpmdfoaadejmkaaGreatDoor.tok k e s l.length
end
def aW (l:List Int):List (List AV):=l.map fun z=>[.sc (.int .i64 z)]
theorem aJ (l:List Int):(aW l).length=l.length:=by simp [aW]
theorem bK {l:List Int} {i:Nat} {z:Int} (h:l[i]?=some z):(aW l)[i]?=some [.sc (.int .i64 z)]:=by simp [aW,h]
theorem W1R {A B:Prop} (k:B) (h:W00 B→A:=by intro k;(repeat' (first|(apply aS;refine aR ?_)|fail));exact k.g):A:=h ⟨k⟩
theorem W1T {A B:Prop} (k:B) (h:W00 B→A:=by intro k;(repeat' (first|(apply bA;refine bw ?_)|fail));exact k.g):A:=h ⟨k⟩
end Go.Proofs.YtpmdfoaadejmkaaGreatDoor
