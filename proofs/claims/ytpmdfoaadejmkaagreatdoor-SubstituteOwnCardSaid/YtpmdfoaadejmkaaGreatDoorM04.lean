/-
  A region whose order Go leaves open, over abstract values: the rule, and its steps.
-/
import Derived.Test.YtpmdfoaadejmkaaGreatDoorM03
import Derived.Laws.Tables
import Derived.RangeFuncNested
import Derived.RangeFuncLeaves
namespace Go.Proofs.YtpmdfoaadejmkaaGreatDoor
open Go.RowKit
def j3 (ops:Array Oper) (acc fr:bT):Nat→bT
 | 0=>fr
 | n+1=>match eV ops n with
  | some t=>(match ca acc n with
   | some v=>(t,v)::j3 ops acc fr n
   | none=>(t,.sc undef)::j3 ops acc fr n)
  | none=>j3 ops acc fr n
theorem sT {ops:Array Oper} {acc fr:bT} {ε:Nat→Value} {frC:Fr} {τ:Mem} (hf:∀t c,ca fr t=some c→∃v,fv frC t=some v∧VR τ c v):∀(n:Nat),(∀i,i < n→VR τ (rc acc i) (ε i))→∀t c,ca (j3 ops acc fr n) t=some c→∃v,fv (nv ops ε frC n) t=some v∧VR τ c v
 | 0,_,t,c,h=>hf t c h
 | n+1,hv,t,c,h=>by
  have ih:=sT (ops:=ops) (acc:=acc) (ε:=ε) hf n (fun i hi=>hv i (by omega)) t c
  simp only [j3,nv] at h ⊢
  cases hd:eV ops n with
  | none=>rw [hd] at h;exact ih h
  | some t'=>
   rw [hd] at h
   have key:∀u,rc acc n=u→ca ((t',u)::j3 ops acc fr n) t=some c→∃v,fv ((t',ε n)::nv ops ε frC n) t=some v∧VR τ c v:=by
    intro u hu h
    rw [bY] at h
    rw [iY]
    by_cases e1:t'=t
    ·rw [if_pos e1] at h ⊢
     injection h with h
     exact ⟨_,rfl,by rw [←h,←hu];exact hv n (by omega)⟩
    ·rw [if_neg e1] at h ⊢
     exact ih h
   simp only at h ⊢
   cases ha:ca acc n with
   | none=>rw [ha] at h;exact key _ (by simp [rc,ha]) h
   | some u=>rw [ha] at h;exact key _ (by simp [rc,ha]) h
def sH (fr:bT) (a:Act):Fr:=fr.map fun p=>(p.1,a.tmps.getD p.1 undef)
theorem qM (fr:bT) (a:Act) (t:Nat):fv (sH fr a) t=(ca fr t).map fun _=>a.tmps.getD t undef:=by
 induction fr with
 | nil=>rfl
 | cons p r ih=>
  obtain ⟨i,u⟩:=p
  show fv ((i,a.tmps.getD i undef)::sH r a) t=_
  rw [iY,bY]
  by_cases e:i=t
  ·subst e;simp
  ·rw [if_neg e,if_neg e];exact ih
section
variable {P:Program} {r:Option Nat} {Q:Exit→Act→World→Prop} {nt:Nat} {D:List Deferred} {fr:bT} {B:Bs} {l:List Oper}
def D5 (P:Program) (r:Option Nat) (l:List Oper) (n0:Nat) (Q:Exit→Act→World→Prop) (nt:Nat) (D:List Deferred) (fr:bT) (B:Bs) (al:Option (Nat×AB)) (acc:bT) (L:AL):Prop:=match al with
 | none=>br P r l.toArray Q nt D (l.drop n0) (j3 l.toArray acc fr n0) B L
 | some (k,ab)=>∀b,br P r l.toArray Q nt D (l.drop n0) (j3 l.toArray ((k,.sc (.pointer (some ⟨b,0,none⟩)))::acc) fr n0) B (L++[(b,ab)])
def IA (al:Option (Nat×AB)) (S:Nat→Bool) (ε:Nat→Value) (La:AL):Prop:=match al with
 | none=>La=[]
 | some (k,ab)=>∃b,(S k=true→ε k= .pointer (some ⟨b,0,none⟩))∧La=if S k then [(b,ab)] else []
def IV (P:Program) (l:List Oper) (al:Option (Nat×AB)):Prop:=match al with
 | none=>True
 | some (k,ab)=>∃o,l[k]?=some o∧o.guard=none∧∀fr B L,AO P o fr B L (fun c L'=>∃b,c= .sc (.pointer (some ⟨b,0,none⟩))∧L'=(b,ab)::L)
def pd (al:Option (Nat×AB)):List Nat:=match al with | none=>[] | some (k,_)=>[k]
def tF (n0:Nat) (sk:m6) (ks:List Nat):Bool:=((List.range n0).all fun k=>(sk.any fun p=>Nat.beq k p.1) || ks.any (Nat.beq k)) && (sk.all fun p=>Nat.blt p.1 n0 && !ks.any (Nat.beq p.1)) && ks.all fun k=>Nat.blt k n0
def DA (P:Program) (l:List Oper) (fr:bT) (fin:iR) (sk:m6) (acc:bT) (L:AL):Prop:=∃pl,dm P l fr fin pl sk acc L
theorem pb:∀(sk:m6) (dn:List Nat),pa l dn sk=true→(sk.map (·.1)).Nodup
 | [],_,_=>by simp
 | (k,s)::r,dn,h=>by
  obtain ⟨_,_,c2,_,_,c4⟩:=mM h
  simp only [Lp,List.nodup_cons]
  refine ⟨fun hm=>?_,pb r _ c4⟩
  obtain ⟨p,hp,he⟩:=List.mem_map.1 hm
  exact c2 p hp he
theorem dx {id:Nat} {L:AL} (gs:KpL) (n0:Nat) (sk:m6) (al:Option (Nat×AB)) (h:DA P l fr ⟨D5 P r l n0 Q nt D fr B al,gs,B.σ⟩ sk [] L) (hal:IV P l al) (hn0:Nat.ble n0 l.length=true) (ht:n5 l n0=true) (hck:pa l [] sk=true) (hcv:tF n0 sk (pd al)=true) (hm:P.follows .mixedOrders=true) (ok:kc l=true) (hs:mr nt l=true):
  AT P r (.region id l.toArray true) Q nt D fr B L:=by
 obtain ⟨pl,hpl⟩:=h
 intro σ a w ha hw
 have hn0':n0≤l.length:=by simpa [Nat.ble_eq] using hn0
 have okG:jZ l.toArray l=true:=by
  simp only [kc,Bool.and_eq_true] at ok
  exact ok.1.2
 simp only [tF,Bool.and_eq_true,List.all_eq_true,List.mem_range,Bool.or_eq_true,List.any_eq_true] at hcv
 obtain ⟨⟨hcv1,hcv2⟩,hcv3⟩:=hcv
 have hlt:∀p∈sk,p.1 < n0:=fun p hp=>by have:=(hcv2 p hp).1;simpa [Nat.blt_eq] using this
 have hnal:∀p∈sk,∀k ab,al=some (k,ab)→p.1≠k:=fun p hp k ab hal e=>by
  have:=(hcv2 p hp).2
  rw [hal] at this
  simp [pd,e] at this
 have hf0:∀(τ:Mem),σ.le τ→∀t c,ca fr t=some c→∃v,fv (sH fr a) t=some v∧VR τ c v:=fun τ hle t c hc=>⟨a.tmps.getD t undef,by rw [qM,hc];rfl,(ha.look t c hc).mono hle⟩
 refine GE (D:=D) (fr:=sH fr a) (I:=fun w'=>w'=w) n0 (J:=fun S ε w'=>∃τ La Lc,σ.le τ∧cL B τ (Lc++La) w'∧kx τ S ε pl L Lc∧IA al S ε La) hn0' ht hm ok hs ?_ ?_ ?_ a w ?_ rfl
 ·rintro w' n rfl
  refine ⟨σ,[],L,Mem.le_refl _,by rw [List.append_nil];exact hw.drew n,kx.fresh pl sk _ L hpl (fun _ _=>rfl),?_⟩
  unfold IA
  split
  ·rfl
  ·exact ⟨0,by simp,by simp⟩
 ·intro k o hk ho S ε hc hSk hd
  rcases hcv1 k hk with ⟨p,hp,he⟩ | ⟨k',hk',he⟩
  ·rw [Nat.beq_eq] at he
   have hks:∃s,(k,s)∈sk:=⟨p.2,by rw [he];exact hp⟩
   have hal':∀v La,IA al S ε La→IA al (mark S k) (p6 ε k v) La:=by
    intro v La h
    unfold IA at *
    split at h
    ·exact h
    ·rename_i k0 ab
     have hne:k0≠k:=fun e=>hnal p hp k0 ab rfl (by rw [←he,e])
     obtain ⟨b,h1,h2⟩:=h
     have m1:mark S k k0=S k0:=by simp [mark,hne]
     have m2:p6 ε k v k0=ε k0:=by simp [p6,hne]
     exact ⟨b,by rw [m1,m2];exact h1,by rw [m1];exact h2⟩
   have step:∀(ρ:Operand→Value) (w':World),(∀x v,BY (pZ l.toArray ε (sH fr a) o.after.toList) x=some v→ρ x=v)→∀τ La Lc,σ.le τ→cL B τ (Lc++La) w'→kx τ S ε pl L Lc→_:=fun ρ w' hρ τ La Lc hle hst hsh=>
    rN (B:=B) (La:=La) (w:=w') (Mem.le_refl _) okG ho hc hSk hd (hf0 τ hle) hρ pl sk [] [] L Lc hpl hck (by simp) hks hsh hst
   unfold Cn at step
   cases hg:o.guard with
   | none=>
    simp only [hg] at step
    intro ρ w' hρ ⟨τ,La,Lc,hle,hst,hsh,hA⟩
    exact (step ρ w' hρ τ La Lc hle hst hsh).mono fun v w'' ⟨τ',Lc',h1,h2,h3⟩=>⟨τ',La,Lc',Mem.le_trans hle h1,h3,h2,hal' v La hA⟩
   | some q=>
    obtain ⟨g,want⟩:=q
    simp only [hg] at step
    refine ⟨fun hy ρ w' hρ ⟨τ,La,Lc,hle,hst,hsh,hA⟩=>((step ρ w' hρ τ La Lc hle hst hsh).1 hy).mono fun v w'' ⟨τ',Lc',h1,h2,h3⟩=>⟨τ',La,Lc',Mem.le_trans hle h1,h3,h2,hal' v La hA⟩,fun hne w' ⟨τ,La,Lc,hle,hst,hsh,hA⟩=>?_⟩
    classical
    obtain ⟨Lc',h2,h3⟩:=(step (fun x=>(BY (pZ l.toArray ε (sH fr a) o.after.toList) x).getD undef) w' (fun x v hx=>by simp [hx]) τ La Lc hle hst hsh).2 hne
    exact ⟨τ,La,Lc',hle,h3,h2,hal' undef La hA⟩
  ·rw [Nat.beq_eq] at he
   subst he
   cases al with
   | none=>simp [pd] at hk'
   | some q=>
    obtain ⟨k0,ab⟩:=q
    simp only [pd,List.mem_singleton] at hk'
    subst hk'
    obtain ⟨o',ho',hg,hAO⟩:=hal
    have:o'=o:=by rw [ho] at ho';injection ho' with h;exact h.symm
    subst this
    simp only [hg]
    intro ρ w' hρ ⟨τ,La,Lc,hle,hst,hsh,b0,hA1,hA2⟩
    rw [hSk] at hA2
    simp only [Bool.false_eq_true,if_false] at hA2
    subst hA2
    refine (hAO [] B (Lc++[]) τ ρ w' (fun x c hx=>?_) hst).mono ?_
    ·cases x with
     | tmp t=>simp [bh,ca] at hx
     | const v=>simp only [bh,Option.some.injEq] at hx;subst hx;rw [hρ (.const v) v rfl];exact .sc _
     | global g=>simp only [bh,Option.some.injEq] at hx;subst hx;rw [hρ (.global g) _ rfl];exact .sc _
     | func f=>simp only [bh,Option.some.injEq] at hx;subst hx;rw [hρ (.func f) _ rfl];exact .sc _
    ·rintro v w'' ⟨τ',c,L',h1,h2,h3,b,rfl,rfl⟩
     have hv:=h2.sc_inv
     refine ⟨τ',[(b,ab)],Lc,Mem.le_trans hle h1,?_,kx.congr pl sk _ L Lc hpl (fun p hp=>?_) (hsh.mono h1),b,fun _=>by simp [p6,hv],by simp [mark]⟩
     ·rw [List.append_nil] at h3
      exact h3.perm (List.perm_append_comm (l₁:=[_]))
     ·have:=hnal p hp _ ab rfl
      simp [mark,p6,this]
 ·intro ε a' w' ha' ⟨τ,La,Lc,hle,hst,hsh,hA⟩
  obtain ⟨acc',hf,hv,hacc⟩:=uy pl sk [] L Lc hpl (fun p hp=>by simpa using hlt p hp) (by simp [ca]) (pb sk [] hck) hsh
  have hag:∀(acc2:bT),(∀i,i < n0→VR τ (rc acc2 i) (ε i))→jz τ nt D (j3 l.toArray acc2 fr n0) a':=fun acc2 hall=>⟨ha'.size,ha'.defers,fun t c hc=>by
   obtain ⟨v,h1,h2⟩:=sT (ops:=l.toArray) (acc:=acc2) (ε:=ε) (hf0 τ hle) n0 hall t c hc
   rw [ha'.look t v h1]
   exact h2⟩
  dsimp only at hf
  unfold D5 at hf
  cases al with
  | none=>
   have:La=[]:=hA
   subst this
   rw [List.append_nil] at hst
   refine hf τ a' w' (hag acc' fun i hi=>?_) hst
   rcases hcv1 i hi with ⟨p,hp,he⟩ | ⟨k',hk',_⟩
   ·rw [Nat.beq_eq] at he;rw [he];exact hv p hp
   ·simp [pd] at hk'
  | some q=>
   obtain ⟨k0,ab⟩:=q
   have hk0:k0 < n0:=by have:=hcv3 k0 (by simp [pd]);simpa [Nat.blt_eq] using this
   obtain ⟨b,hA1,hA2⟩:=hA
   simp only [hk0,decide_true,if_true] at hA1 hA2
   subst hA2
   refine hf b τ a' w' (hag _ fun i hi=>?_) hst
   rw [rd]
   by_cases e:k0=i
   ·subst e
    rw [if_pos rfl,hA1 trivial]
    exact .sc _
   ·rw [if_neg e]
    rcases hcv1 i hi with ⟨p,hp,he⟩ | ⟨k',hk',he⟩
    ·rw [Nat.beq_eq] at he;rw [he];exact hv p hp
    ·rw [Nat.beq_eq] at he
     simp only [pd,List.mem_singleton] at hk'
     omega
 ·refine ⟨ha.size,ha.defers,fun t v hv=>?_⟩
  rw [qM] at hv
  cases hq:ca fr t with
  | none=>rw [hq] at hv;cases hv
  | some c=>rw [hq] at hv;simpa using hv
theorem bz {id:Nat} {L:AL} (n0:Nat) (sk:m6) (al:Option (Nat×AB)) (h:DA P l fr ⟨D5 P r l n0 Q nt D fr B al,[],B.σ⟩ sk [] L) (hal:IV P l al) (hn0:Nat.ble n0 l.length=true) (ht:n5 l n0=true) (hck:pa l [] sk=true) (hcv:tF n0 sk (pd al)=true) (hm:P.follows .mixedOrders=true) (ok:kc l=true) (hs:mr nt l=true):
  AT P r (.region id l.toArray true) Q nt D fr B L:=dx [] n0 sk al h hal hn0 ht hck hcv hm ok hs
end
end Go.Proofs.YtpmdfoaadejmkaaGreatDoor
namespace Go.Proofs.YtpmdfoaadejmkaaGreatDoor
open Go.RowKit
def sM (pl:Nat→Option (Nat×Nat)) (z:List AV):List (Nat×AV)→Option (List AV)
 | []=>some z
 | (i,c)::r=>match pl i with
  | none=>none
  | some (off,n)=>match c.cells with
   | none=>none
   | some ys=>bif Nat.beq ys.length n && Nat.ble (off+n) z.length then sM pl (fx z off ys) r else none
theorem qU {σ:Mem} {pl:Nat→Option (Nat×Nat)}:∀{is:List Nat} {cs z out:List AV} {vs zc:List Value},cS σ cs vs→cS σ z zc→(∀u∈zc,u.oneCell'=true)→sM pl z (is.zip cs)=some out→∃oc:List Value,Instr.fill pl zc.toArray (is.zip vs)=some oc.toArray∧cS σ out oc∧∀u∈oc,u.oneCell'=true
 | [],cs,z,out,vs,zc,_,hz,h1,h=>by
  simp only [List.zip_nil_left,sM,Option.some.injEq] at h
  subst h
  exact ⟨zc,by simp [Instr.fill],hz,h1⟩
 | i::is,[],z,out,vs,zc,hc,hz,h1,h=>by
  rw [hc.nil_inv]
  simp only [List.zip_nil_right,sM,Option.some.injEq] at h ⊢
  subst h
  exact ⟨zc,by simp [Instr.fill],hz,h1⟩
 | i::is,c::cs,z,out,vs,zc,hc,hz,h1,h=>by
  obtain ⟨v,ws,rfl,hv,hs⟩:=hc.inv
  simp only [List.zip_cons_cons,sM] at h ⊢
  cases hp:pl i with
  | none=>rw [hp] at h;cases h
  | some q=>
   obtain ⟨off,n⟩:=q
   rw [hp] at h
   simp only at h
   cases hcc:c.cells with
   | none=>rw [hcc] at h;cases h
   | some ys=>
    rw [hcc] at h
    simp only at h
    cases hb:(Nat.beq ys.length n && Nat.ble (off+n) z.length) with
    | false=>rw [hb] at h;cases h
    | true=>
     rw [hb] at h
     simp only [cond_true] at h
     simp only [Bool.and_eq_true,Nat.beq_eq,Nat.ble_eq] at hb
     obtain ⟨k1,k2⟩:=hv.cells hcc
     have hl1:=k1.1
     have hl2:=hz.1
     have hvs:v.cells.size=n:=by rw [←hb.1,hl1];simp
     obtain ⟨f1,f2⟩:=oI off v.cells.toList 0 zc.toArray
     have ef:v.cells.zipIdx.foldl (fun (cs:Array Value) (x:Value×Nat)=>cs.setIfInBounds (off+x.2) x.1) zc.toArray=(v.cells.toList.zipIdx 0).foldl (fun (a:Array Value) (p:Value×Nat)=>a.setIfInBounds (off+p.2) p.1) zc.toArray:=by
      rw [←Array.foldl_toList,Array.toList_zipIdx]
     generalize (v.cells.toList.zipIdx 0).foldl (fun (a:Array Value) (p:Value×Nat)=>a.setIfInBounds (off+p.2) p.1) zc.toArray=A at *
     have hA:cS σ (fx z off ys) A.toList:=by
      refine ⟨by rw [je];simp [f1,hl2],fun j c' u hc' hu=>?_⟩
      have hu':A[j]?=some u:=by simpa using hu
      rw [f2 j] at hu'
      rw [gL _ _ _ _ (by omega)] at hc'
      simp only [List.size_toArray,Nat.add_zero,List.getElem?_toArray] at hu'
      by_cases hj:off≤j∧j < off+ys.length
      ·rw [if_pos hj] at hc'
       rw [if_pos (by omega)] at hu'
       exact k1.2 _ c' u hc' hu'
      ·rw [if_neg hj] at hc'
       rw [if_neg (by omega)] at hu'
       exact hz.2 j c' u hc' hu'
     have hA1:∀u∈A.toList,u.oneCell'=true:=fun u hu=>by
      obtain ⟨j,hj,rfl⟩:=List.getElem_of_mem hu
      have hu':A[j]?=some (A.toList[j]):=by rw [←Array.getElem?_toList];exact Iy hj
      rw [f2 j] at hu'
      split at hu'
      ·exact k2 _ (Lw hu')
      ·exact h1 _ (Lw (by simpa using hu'))
     obtain ⟨oc,o1,o2,o3⟩:=qU hs hA hA1 h
     refine ⟨oc,?_,o2,o3⟩
     simp only [Instr.fill,hp]
     rw [if_neg (by simp [hvs];omega),ef]
     simpa using o1
def oJ:List AV→Option (List AV)
 | []=>some []
 | v::r=>match oJ r with
  | some q=>some (v::q)
  | none=>none
theorem sQ:∀{l q:List AV},oJ l=some q→q=l
 | [],q,h=>by simp [oJ] at h;exact h
 | v::r,q,h=>by
  simp only [oJ] at h
  cases hr:oJ r with
  | none=>rw [hr] at h;cases h
  | some q'=>rw [hr] at h;injection h with h;rw [←h,sQ hr]
def uo (ti:TI) (i:Nat):Option (Nat×Nat):=match ti.k with
 | .struct offs=>match offs[i]? with
  | some (o,s,_)=>some (o,s)
  | none=>none
 | .arr _ _ sz=>some (i * sz,sz)
 | _=>none
def wX (ti:TI) (parts:List (Nat×AV)):Option (List AV):=match sM (uo ti) (ti.zero.map .sc) parts with
 | some cs=>oJ cs
 | none=>none
theorem ph {P:Program}:∀(fs:List Field) (r:List (Nat×Nat×Bool)),mc P fs r=true→fs.mapM (fun f=>(P.info? f.type).map fun i=>(f.offset,i.size))=some (r.map fun q=>(q.1,q.2.1))
 | [],[],_=>rfl
 | x::fs,(o',s',b')::r,h=>by
  simp only [mc,Bool.and_eq_true,Nat.beq_eq] at h
  obtain ⟨⟨⟨⟨h1,h2⟩,_⟩,_⟩,h5⟩:=h
  unfold pG at h2
  split at h2
  ·rename_i i hi
   rw [Nat.beq_eq] at h2
   simp [List.mapM_cons,hi,ph fs r h5,h1,h2]
  ·cases h2
 | [],_::_,h=>by cases h
 | _::_,[],h=>by cases h
theorem eu.built {P:Program} {tt:TT} (ok:eu P tt) {t:Nat} {ti:TI} (h:dw tt t=some ti) (hk:ti.k.agg=true) (parts:List (Nat×Value)):P.built t parts=Instr.fill (uo ti) ti.zero.toArray parts:=by
 have h0:=ok.ok t ti h
 simp only [BL,Bool.and_eq_true] at h0
 obtain ⟨⟨_,h1⟩,h2⟩:=h0
 unfold Program.built
 split at h1
 ·rename_i i hi
  split at h1
  ·rename_i z hz
   have hzz:=m5 h1
   have hz':z.cells=ti.zero.toArray:=by rw [←hzz]
   split at h2
   all_goals try (cases hq:ti.k <;> rw [hq] at h2 hk <;> simp_all [TK.agg];done)
   ·rename_i fs hu
    cases hq:ti.k with
    | struct offs=>
     rw [hq] at h2
     simp only [hi,hu,hz,ph _ _ h2,hz']
     congr 1
     funext x
     simp [uo,hq]
     cases offs[x]? <;> rfl
    | _=>rw [hq] at h2;cases h2
   ·rename_i n e hu
    cases hq:ti.k with
    | arr n' e' sz=>
     rw [hq] at h2
     simp only [Bool.and_eq_true,Nat.beq_eq] at h2
     obtain ⟨⟨_,rfl⟩,h3⟩:=h2
     unfold pG at h3
     split at h3
     ·rename_i j hj
      rw [Nat.beq_eq] at h3
      simp only [hi,hu,hz,hj,hz',h3]
      congr 1
      funext x
      simp [uo,hq]
     ·cases h3
    | _=>rw [hq] at h2;cases h2
   ·cases h2
  ·cases h1
 ·cases h1
section
variable {P:Program} {tt:TT} {fr:bT} {B:Bs} {L:AL} {d:Option Tmp} {ty t t':TypeId} {pos:String} {af:Array Edge} {g:Option (Nat×Bool)} {x y:Operand} {u:AV}
theorem F2 (ok:eu P tt) {ti:TI} {parts:Array (Nat×Operand)} {vs out:List AV} (ht:dw tt t=some ti) (hk:ti.k.agg=true) (hz1:ti.zero.all (·.oneCell')=true) (hv:dy fr (parts.toList.map (·.2))=some vs) (hb:wX ti ((parts.toList.map (·.1)).zip vs)=some out):Av P ⟨d,.build t parts,ty,pos,af,g⟩ fr (.agg out):=by
 intro σ ρ w hρ _
 have hvs:=ey hρ _ _ hv
 generalize hws:(parts.toList.map (·.2)).map ρ=ws at *
 have e1:parts.map (fun p=>(p.1,ρ p.2))=((parts.toList.map (·.1)).zip ws).toArray:=by
  apply Array.toList_inj.1
  rw [←hws]
  simp only [Array.toList_map,List.map_map]
  induction parts.toList with
  | nil=>rfl
  | cons p l ih=>simp only [Lp,List.zip_cons_cons,ih];rfl
 unfold wX at hb
 split at hb
 ·rename_i cs hf
  have:=sQ hb
  subst this
  have hz:cS σ (ti.zero.map .sc) ti.zero:=⟨by simp,fun i c u hc hu=>by
   rw [List.getElem?_map,hu] at hc
   simp at hc
   subst hc
   exact .sc u⟩
  obtain ⟨oc,o1,o2,o3⟩:=qU hvs hz (fun u hu=>List.all_eq_true.1 hz1 u hu) hf
  refine ⟨.agg oc.toArray,?_,.agg _ _ o2.1 o2.2 o3⟩
  have hr:=run_build (P:=P) w t ((parts.toList.map (·.1)).zip ws).toArray oc.toArray (by rw [ok.built ht hk];simpa using o1)
  simp only [execOp]
  rw [e1]
  simp [hr]
 ·cases hb
theorem HF {a:Addr} (hx:bh fr x=some (.sc (.pointer (some a)))):Av P ⟨d,.nilCheck x,ty,pos,af,g⟩ fr (.sc (.pointer (some a))):=
 eL fun ρ w hρ=>by simp [execOp,hρ _ _ hx]
theorem HE {cs:List AV} (hx:bh fr x=some (.iptr cs)):Av P ⟨d,.nilCheck x,ty,pos,af,g⟩ fr (.iptr cs):=fun σ ρ w hρ _=>by
 have h:=hρ x _ hx
 obtain ⟨b,off,hv,_⟩:=h.iptr_inv
 exact ⟨ρ x,by simp [execOp,hv],h⟩
theorem HD {f:FuncId} {cs:List AV} (hx:bh fr x=some (.fn f cs)):Av P ⟨d,.nilCheck x,ty,pos,af,g⟩ fr (.fn f cs):=fun σ ρ w hρ _=>by
 have h:=hρ x _ hx
 obtain ⟨vs,hv,_⟩:=h.fn_inv
 exact ⟨ρ x,by simp [execOp,hv],h⟩
theorem F6 (ok:eu P tt) {s f o z:Nat} {b:Bool} {ti:TI} {offs:List (Nat×Nat×Bool)} {cs:List AV} (ht:dw tt s=some ti) (hk:ti.k= .struct offs) (hf:offs[f]?=some (o,z,b)) (hx:bh fr x=some (.agg cs)) (hu:(bif b then (bif Nat.ble (o+z) cs.length then some (.agg ((cs.drop o).take z)) else none) else cs[o]?)=some u):Av P ⟨d,.field s x f,ty,pos,af,g⟩ fr u:=by
 intro σ ρ w hρ _
 obtain ⟨vs,hv,hs,h1⟩:=(hρ x _ hx).agg_inv
 obtain ⟨_,fl,fs,hus,hfl,hoff,hsz,hag⟩:=ok.fd ht hk hf
 have hszr:(sizeOf fl.type).run P w= .ok z w:=by
  cases hq:P.info? fl.type with
  | none=>rw [hq] at hsz;cases hsz
  | some i=>rw [hq] at hsz;simp only [Option.map_some,Option.some.injEq] at hsz;simp [sizeOf,typeInfo,hq,hsz]
 have hagr:(isAgg fl.type).run P w= .ok b w:=by
  unfold Fa at hag
  cases hq:P.underlying fl.type with
  | none=>rw [hq] at hag;cases hag
  | some dd=>
   rw [hq] at hag
   simp only [isAgg,Sem.run_bind,run_underlying hq,Result.andThen]
   cases dd <;> simp_all
 cases b with
 | true=>
  simp only [cond_true] at hu
  cases hb:Nat.ble (o+z) cs.length with
  | false=>rw [hb] at hu;cases hu
  | true=>
   rw [hb] at hu
   simp only [cond_true,Option.some.injEq] at hu
   subst hu
   rw [Nat.ble_eq] at hb
   have hl:=hs.1
   refine ⟨.agg ((vs.drop o).take z).toArray,?_,.agg _ _ (by simp [hl]) (fun i c u hc hu=>?_) fun u hu=>h1 u (List.mem_of_mem_drop (List.mem_of_mem_take hu))⟩
   ·simp [execOp,hv,Instr.field,run_underlying hus,hfl,part,hagr,hszr,asAgg,hoff]
   ·rw [List.getElem?_take] at hc hu
    split at hc
    ·rename_i hi
     rw [if_pos hi,List.getElem?_drop] at hu
     rw [List.getElem?_drop] at hc
     exact hs.2 _ c u hc hu
    ·cases hc
 | false=>
  simp only [cond_false] at hu
  obtain ⟨v,g1,g2⟩:=hs.get hu
  exact ⟨v,by simp [execOp,hv,Instr.field,run_underlying hus,hfl,part,hagr,asAgg,hoff,g1],g2⟩
def rU (tt:TT) (fr:bT) (op:Op):Option AV:=match op with
 | .build t parts=>match dw tt t with
  | some ti=>bif ti.k.agg && ti.zero.all (·.oneCell') then (match dy fr (parts.toList.map (·.2)) with
   | some vs=>match wX ti ((parts.toList.map (·.1)).zip vs) with
    | some out=>some (.agg out)
    | none=>none
   | none=>none) else none
  | none=>none
 | .nilCheck x=>match bh fr x with
  | some (.sc (.pointer (some a)))=>some (.sc (.pointer (some a)))
  | some (.iptr cs)=>some (.iptr cs)
  | some (.fn f cs)=>some (.fn f cs)
  | _=>none
 | .field s x f=>match dw tt s with
  | some ⟨.struct offs,_,_⟩=>match offs[f]? with
   | some (o,z,b)=>match bh fr x with
    | some (.agg cs)=>(bif b then (bif Nat.ble (o+z) cs.length then some (.agg ((cs.drop o).take z)) else none) else cs[o]?)
    | _=>none
   | none=>none
  | _=>none
 | op=>zq tt fr op
theorem kZ (ok:eu P tt) {op:Op} {u:AV} (h:rU tt fr op=some u):Av P ⟨d,op,ty,pos,af,g⟩ fr u:=by
 unfold rU at h
 split at h
 ·split at h
  ·rename_i ti ht
   cases hb:(ti.k.agg && ti.zero.all (·.oneCell')) with
   | false=>rw [hb] at h;cases h
   | true=>
    rw [hb] at h
    simp only [cond_true] at h
    simp only [Bool.and_eq_true] at hb
    split at h
    ·rename_i vs hvs
     split at h
     ·rename_i out hout
      cases h
      exact F2 ok ht hb.1 hb.2 hvs hout
     ·cases h
    ·cases h
  ·cases h
 ·split at h <;> first | cases h | skip
  ·rename_i hx;exact HF hx
  ·rename_i hx;exact HE hx
  ·rename_i hx;exact HD hx
 ·split at h
  ·rename_i ht
   split at h
   ·rename_i hf
    split at h
    ·rename_i hx;exact F6 ok ht rfl hf hx h
    ·cases h
   ·cases h
  ·cases h
 ·exact y8 ok h
end
end Go.Proofs.YtpmdfoaadejmkaaGreatDoor
namespace Go.Proofs.YtpmdfoaadejmkaaGreatDoor
open Go.RowKit
def oo (rec:Loop):AB:= .raw fun o=>o= .loop rec
def uH:AB:= .raw fun o=>o= .deferred (some [])
theorem lN (w:World) (l:Nat) (o:Obj):w.grownBy (w.putObj l o) (some l):=
 ⟨rfl,rfl,rfl,by simp [World.putObj],fun k _ hk=>World.putObj_heap_other (fun e=>hk (by rw [e]))⟩
theorem cL.turn {B:Bs} {σ:Mem} {L:AL} {w:World} {l:Nat} {q:Obj→Prop} {a':AB} {o:Obj} (h:cL B σ (L++[(l,.raw q)]) w) (hq:a'.holds σ o):cL B σ (L++[(l,a')]) (w.putObj l o):=by
 have h1:cL B σ ((l,.raw q)::L) w:=h.perm List.perm_append_comm
 have hlt:=h1.lt (List.mem_cons_self ..)
 exact (h1.put (fun _=>trivial) (lN w l o) (World.putObj_heap_same hlt) hq).perm (List.perm_append_comm (l₁:=[(l,a')]))
def AY (P:Program) (σ0:Mem) (l:Nat) (args:List AV) (L:AL) (Post:AV→AL→Prop):Prop:=∀σ w vs,σ0.le σ→cS σ args vs→cL ⟨w,σ,L.map (·.1)⟩ σ L w→
 ∃f tmps assign body,(Instr.yield l vs.toArray).run P w= .ok (.round l f tmps assign body) w∧RoundIn Fence.wide 0 P l f tmps assign body w (i8 ⟨w,σ,L.map (·.1)⟩ Post)
def Hd (P:Program) (σ0:Mem) (f:FuncId) (args:List AV) (L:AL) (Post:AV→AL→Prop):Prop:=∀σ w vs,σ0.le σ→cS σ args vs→cL ⟨w,σ,L.map (·.1)⟩ σ L w→Calls P f vs.toArray w (i8 ⟨w,σ,L.map (·.1)⟩ Post)
section
variable {P:Program} {r:Option Nat} {ops:Array Oper} {Q:Exit→Act→World→Prop} {nt:Nat} {D:List Deferred} {fr:bT} {B:Bs} {L:AL} {rest:List Oper} {σ0:Mem}
variable {d:Option Tmp} {ty t t':TypeId} {pos:String} {af:Array Edge} {g:Option (Nat×Bool)} {x y z:Operand} {u:AV}
theorem Ct (hB:σ0.le B.σ) (Lc Lf:AL) {l:Nat} {args:Array Operand} {ts:Array TypeId} {cs cs':List AV} {Post:AV→AL→Prop} (hz:bh fr z=some (.sc (.func (.yield l) #[] #[]))) (hv:dy fr args.toList=some cs) (hcs:∀σ vs,cS σ cs vs→cS σ cs' vs) (hL:L.Perm (Lc++Lf)) (h:AY P σ0 l cs' Lc Post):
  AO P ⟨d,.call ⟨.value z,args,ts⟩,ty,pos,af,g⟩ fr B L (fun c L'=>∃L1,Post c L1∧L'=L1++Lf):=by
 intro σ ρ w hρ hw0
 have hw:=hw0.perm hL
 have e:args.map ρ=(args.toList.map ρ).toArray:=by apply Array.toList_inj.1;simp
 obtain ⟨f,tmps,assign,body,hy,hr⟩:=h σ w _ (Mem.le_trans hB hw.grow) (hcs _ _ (ey hρ _ _ hv)) hw.enter
 unfold gT
 rw [show (execOp ρ ⟨d,.call ⟨.value z,args,ts⟩,ty,pos,af,g⟩).run P w= .ok (.round l f tmps assign body) w by
  simp [execOp,resolve,(hρ z _ hz).sc_inv,Deferred.ofValue,e,invoke,hy]]
 refine hr.mono fun en w' hh=>?_
 obtain ⟨v,τ,c,L',h1,h2,h3,h4⟩:=hh
 exact ⟨v,h1,τ,c,L'++Lf,h3.grow,h2,hw.leave h3,L',h4,rfl⟩
theorem Cl {f:FuncId} {fn:Func} {c:Code} {args:List AV} {Post:AV→AL→Prop} (hf:P.funcs[f]?=some fn) (hb:fn.body=some c) (hn:fn.ntmps=nt) (hs:Nat.ble args.length nt=true)
  (h:∀B,σ0.le B.σ→AT P none c (bodyPost P fn (i8 B Post)) nt [] (my 0 args) B L):Hd P σ0 f args L Post:=by
 intro σ w vs hle hv hst
 have hs':args.length≤nt:=by simpa [Nat.ble_eq] using hs
 have hl:=hv.1
 refine (callsIn_wide (n:=0)).1 (callsIn_of_wp hf hb trivial (h _ hle σ _ w ⟨?_,rfl,?_⟩ hst))
 ·simp [hn];omega
 ·intro t v hlk
  obtain ⟨_,h2⟩:=gV args 0 t v hlk
  simp only [Nat.sub_zero] at h2
  have hlt:t < vs.length:=by have:=(Ln h2).1;omega
  simp only [Array.getD_eq_getD_getElem?]
  rw [Array.getElem?_append_left (by simpa using hlt)]
  have:=hv.2 t v vs[t] h2 (Iy hlt)
  simpa [hlt] using this
theorem Ck {f:FuncId} {fn:Func} {c:Code} {args:List AV} {Post:AV→AL→Prop} (hf:P.funcs[f]?=some fn) (hb:fn.body=some c) (hn:fn.ntmps=nt) (hs:Nat.ble args.length nt=true)
  (h:∀B,AT P none c (bodyPostM Fence.wide 0 P fn (i8 B Post)) nt [] (my 0 args) B L):AC P f args L Post:=by
 intro σ w vs hv hst
 have hs':args.length≤nt:=by simpa [Nat.ble_eq] using hs
 have hl:=hv.1
 refine (callsIn_wide (n:=0)).1 (callsIn_of_wp_marks hf hb trivial (h _ σ _ w ⟨?_,rfl,?_⟩ hst))
 ·simp [hn];omega
 ·intro t v hlk
  obtain ⟨_,h2⟩:=gV args 0 t v hlk
  simp only [Nat.sub_zero] at h2
  have hlt:t < vs.length:=by have:=(Ln h2).1;omega
  simp only [Array.getD_eq_getD_getElem?]
  rw [Array.getElem?_append_left (by simpa using hlt)]
  have:=hv.2 t v vs[t] h2 (Iy hlt)
  simpa [hlt] using this
def rG (P:Program) (fr:bT) (L:AL):List ResultVar→List AV→Prop
 | [],[]=>True
 | .tmp t::r,c::cs=>ca fr t=some c∧rG P fr L r cs
 | .cell t e::r,c::cs=>(∃(b i:Nat) (ds:List AV) (e':TypeId),ca fr t=some (.sc (.pointer (some ⟨b,0,none⟩)))∧L[i]?=some (b,.box ds e')∧((EV P e∧ds[0]?=some c)∨(GN P e ds.length∧c= .agg ds)))∧rG P fr L r cs
 | _,_=>False
def w7:List AV→AV
 | [c]=>c
 | cs=> .tup cs
def Eg (tmps:Array Value):ResultVar→Sem Value
 | .tmp t=>pure (tmps.getD t undef)
 | .cell q t=>do loadVar t (←asAddr (tmps.getD q undef))
theorem mY {σ:Mem} {a:Act} {w:World} (ha:jz σ nt D fr a) (hw:cL B σ L w):∀(rs:List ResultVar) (cs:List AV),rG P fr L rs cs→∃vs:List Value,(rs.mapM (Eg a.tmps)).run P w= .ok vs w∧cS σ cs vs
 | [],[],_=>⟨[],by simp,cS.nil⟩
 | .tmp t::r,c::cs,h=>by
  obtain ⟨vs,h1,h2⟩:=mY ha hw r cs h.2
  exact ⟨a.tmps.getD t undef::vs,by simp [List.mapM_cons,Eg,h1],cS.cons (ha.look t c h.1) h2⟩
 | .cell t e::r,c::cs,h=>by
  obtain ⟨⟨b,i,ds,e',hp,hL,hcase⟩,hr⟩:=h
  obtain ⟨vs,h1,h2⟩:=mY ha hw r cs hr
  obtain ⟨us,hb,hus,hone⟩:=hw.boxCell hL
  have hpv:=(ha.look t _ hp).sc_inv
  rcases hcase with ⟨hsc,hc⟩ | ⟨hag,rfl⟩
  ·obtain ⟨v,hv,hvr⟩:=hus.get hc
   have hcell:w.cell? ⟨b,0,none⟩=some v:=by rw [cX hb];simpa using hv
   haveI:=hsc
   refine ⟨v::vs,?_,cS.cons hvr h2⟩
   rw [List.mapM_cons]
   simp only [Eg,Sem.run_bind,hpv]
   simp [asAddr,fJ (P:=P) (t:=e) hcell,h1]
  ·have hlen:=hus.1
   have hrun:=fI (P:=P) (t:=e) (w:=w) (b:=b) (o:=0) (cs:=us) (k:=ds.length) hlen.symm (fun j v hj=>by rw [Nat.zero_add,cX hb];simpa using hj)
   refine ⟨.agg us.toArray::vs,?_,cS.cons (.agg ds us hlen hus.2 hone) h2⟩
   rw [List.mapM_cons]
   simp only [Eg,Sem.run_bind,hpv]
   simp [asAddr,hrun,h1]
theorem lV {σ:Mem} {a:Act} {w:World} {fn:Func} {cs:List AV} (ha:jz σ nt D fr a) (hw:cL B σ L w) (h:rG P fr L fn.results.toList cs):∃v,(results fn a.tmps).run P w= .ok v w∧VR σ (w7 cs) v:=by
 obtain ⟨vs,h1,h2⟩:=mY ha hw _ _ h
 have hl:=h2.1
 have e:(results fn a.tmps).run P w= .ok (if h:vs.toArray.size=1 then vs.toArray[0] else .tuple vs.toArray) w:=by
  have hfun:results fn a.tmps=(do let vs ←fn.results.mapM (Eg a.tmps);pure (if h:vs.size=1 then vs[0] else .tuple vs)):=by
   unfold results
   congr 1
  rw [hfun,Array.mapM_eq_mapM_toList]
  simp [h1]
 refine ⟨_,e,?_⟩
 clear e h1 h
 match cs,vs,hl,h2 with
 | [],[],_,h2=>exact VR.tup [] [] rfl (fun i c u h=>by simp at h)
 | [c],[v],_,h2=>exact h2.2 0 c v rfl rfl
 | c::c'::cs,v::v'::vs,_,h2=>simpa [w7] using VR.tup _ _ h2.1 h2.2
def DJ (dbs:List Nat):List Deferred:=dbs.map fun b=>{ target:= .collected b,args:=#[] }
theorem nH {fn:Func} {R:Ending→World→Prop} {tmps:Array Value} {σ:Mem}:∀(dbs:List Nat) (L:AL) (w:World),cL B σ (L++dbs.map fun b=>(b,uH)) w→(∀w',cL B σ L w'→LeavesInM Fence.wide 0 P fn tmps R [] .returning w')→LeavesInM Fence.wide 0 P fn tmps R (DJ dbs) .returning w
 | [],L,w,hw,h=>h w (by simpa using hw)
 | b::dbs,L,w,hw,h=>by
  have hp:cL B σ ((L++dbs.map fun b=>(b,uH))++[(b,uH)]) w:=hw.perm (by
   simp only [Lp,List.append_assoc]
   exact (List.perm_append_comm (l₁:=[_])).append_left L)
  obtain ⟨o,ho,hq⟩:=hp.here (b,uH) (by simp)
  have hq:o= .deferred (some []):=hq
  rw [hq] at ho
  refine ⟨by simp,.inl ⟨_,_,rfl,run_takeDeferred ho,nH dbs L _ ?_ h⟩⟩
  exact (hp.turn (a':= .raw fun _=>True) trivial).sublist (List.sublist_append_left ..)
theorem pX {fn:Func} {Post:AV→AL→Prop} {cs:List AV} (dbs:List Nat) (L0:AL) (hD:D=DJ dbs) (hL:L.Perm (L0++dbs.map fun b=>(b,uH))) (hr:rG P fr L0 fn.results.toList cs) (h:Post (w7 cs) L0):AX P .ret (bodyPostM Fence.wide 0 P fn (i8 B Post)) nt D fr B L:=by
 intro σ a w ha hw
 show LeavesInM _ _ _ _ _ _ a.defers _ _
 rw [ha.defers,hD]
 refine nH dbs L0 w (hw.perm hL) fun w' hw'=>?_
 obtain ⟨v,h1,h2⟩:=lV ha hw' hr
 exact ⟨v,h1,v,σ,w7 cs,L0,rfl,h2,hw',h⟩
theorem yD {fn:Func} {Post:AV→AL→Prop} {cs:List AV} (hr:rG P fr L fn.results.toList cs) (h:Post (w7 cs) L):AX P .ret (bodyPost P fn (i8 B Post)) nt [] fr B L:=by
 intro σ a w ha hw
 obtain ⟨v,h1,h2⟩:=lV ha hw hr
 exact ⟨ha.defers,v,h1,v,σ,w7 cs,L,rfl,h2,hw,h⟩
def sC:List Nat→List AV→bT→bT
 | p::ps,v::vs,fr=>sC ps vs ((p,v)::fr)
 | _,_,fr=>fr
theorem jz.fset {σ:Mem} {D':List Deferred}:∀(ps:List Nat) (cs:List AV) (vs:List Value) (fr:bT) (t:Array Value),ps.length=cs.length→(∀p∈ps,p < nt)→cS σ cs vs→jz σ nt D' fr ⟨t,D'⟩→jz σ nt D' (sC ps cs fr) ⟨(ps.zip vs).foldl (fun t q=>t.setIfInBounds q.1 q.2) t,D'⟩
 | [],cs,vs,fr,t,_,_,_,h=>by simpa [sC] using h
 | p::ps,[],vs,fr,t,hl,_,_,h=>by simp at hl
 | p::ps,c::cs,vs,fr,t,hl,hp,hvs,h=>by
  obtain ⟨v,ws,rfl,hv,hs⟩:=hvs.inv
  simp only [sC,List.zip_cons_cons,List.foldl_cons]
  refine jz.fset ps cs ws _ _ (by simpa using hl) (fun q hq=>hp q (Ls _ hq)) hs ?_
  have:=h.put (hp p (List.mem_cons_self ..)) hv
  simpa [Act.put] using this
def Kh (P:Program) (l:Nat) (body:Code) (Qb:Exit→Act→World→Prop):Exit→Act→World→Prop:=Exit.then (fun a w=>∃w2,(Instr.beginRound l).run P w= .ok () w2∧body.wpIn (Wd (some l)) 0 P Qb a w2) (fun _ _ _=>False)
theorem vg {l:Nat} {body:Code} {Qb:Exit→Act→World→Prop} {rec:Loop} (hr:rec.state= .ready) (h:AT P (some l) body Qb nt D fr B (L++[(l,oo { rec with state:= .busy })])):AX P .normal (Kh P l body Qb) nt D fr B (L++[(l,oo rec)]):=by
 intro σ a w ha hw
 obtain ⟨o,ho,hq⟩:=hw.here (l,oo rec) (by simp)
 have hq:o= .loop rec:=hq
 rw [hq] at ho
 exact ⟨_,run_beginRound ho hr,h σ a _ ha (hw.turn (a':=oo { rec with state:= .busy }) rfl)⟩
def JL (P:Program) (l:Nat) (B:Bs) (Post:AV→AL→Prop):Exit→Act→World→Prop:=roundPost P l (i8 B Post)
theorem HP {l:Nat} {rec:Loop} {Post:AV→AL→Prop} (h:Post (.sc (.bool true)) (L++[(l,oo { rec with state:= .ready,pending:=none })])):AX P .normal (JL P l B Post) nt D fr B (L++[(l,oo rec)]):=by
 intro σ a w ha hw
 obtain ⟨o,ho,hq⟩:=hw.here (l,oo rec) (by simp)
 have hq:o= .loop rec:=hq
 rw [hq] at ho
 exact ⟨_,_,run_endRound none ho,_,σ,_,_,rfl,.sc _,hw.turn (a':=oo { rec with state:= .ready,pending:=none }) rfl,h⟩
theorem wU {l:Nat} {rec:Loop} {Post:AV→AL→Prop} (h:Post (.sc (.bool false)) (L++[(l,oo { rec with state:= .done,pending:=some .ret })])):AX P .ret (JL P l B Post) nt D fr B (L++[(l,oo rec)]):=by
 intro σ a w ha hw
 obtain ⟨o,ho,hq⟩:=hw.here (l,oo rec) (by simp)
 have hq:o= .loop rec:=hq
 rw [hq] at ho
 exact ⟨_,_,run_endRound (some .ret) ho,_,σ,_,_,rfl,.sc _,hw.turn (a':=oo { rec with state:= .done,pending:=some .ret }) rfl,h⟩
structure GP (rec:Loop) (σ0:Mem) (nt:Nat) (fr:bT) (ps:List Nat) (assign body:Code):Prop where
 state:rec.state= .ready
 pending:rec.pending=none
 params:rec.params=ps.toArray
 assign:rec.assign=assign
 body:rec.body=body
 size:rec.tmps.size=nt
 look:∀t c,ca fr t=some c→VR σ0 c (rec.tmps.getD t undef)
theorem GT {rec:Loop} {ps:List Nat} {assign body:Code} {l:Nat} {args:List AV} {Post:AV→AL→Prop} (hr:GP rec σ0 nt fr ps assign body) (hlen:ps.length=args.length) (hps:ps.all (fun p=>Nat.blt p nt)=true)
  (h:∀B,σ0.le B.σ→AT P (some l) assign (Kh P l body (JL P l B Post)) nt [] (sC ps args fr) B (L++[(l,oo rec)])):AY P σ0 l args (L++[(l,oo rec)]) Post:=by
 intro σ w vs hle hvs hst
 obtain ⟨o,ho,hq⟩:=hst.here (l,oo rec) (by simp)
 have hq:o= .loop rec:=hq
 rw [hq] at ho
 have hl:=hvs.1
 have hy:=run_yield (P:=P) (args:=vs.toArray) ho (by simp [hr.params];omega)
 refine ⟨_,_,_,_,hy,?_⟩
 rw [hr.assign,hr.body]
 refine roundIn_of_wpIn (F:=Fence.wide) trivial ?_
 have hag:jz σ nt [] (sC ps args fr) ⟨(ps.zip vs).foldl (fun t q=>t.setIfInBounds q.1 q.2) rec.tmps,[]⟩:=jz.fset ps args vs fr rec.tmps hlen (fun p hp=>by have:=List.all_eq_true.1 hps p hp;simpa [Nat.blt_eq] using this) hvs ⟨hr.size,rfl,fun t c hc=>(hr.look t c hc).mono hle⟩
 have htm:(rec.params.zip vs.toArray).foldl (fun tmps (q:Nat×Value)=>tmps.setIfInBounds q.1 q.2) rec.tmps=(ps.zip vs).foldl (fun t q=>t.setIfInBounds q.1 q.2) rec.tmps:=by
  rw [hr.params]
  simp
 have:=h ⟨w,σ,(L++[(l,oo rec)]).map (·.1)⟩ hle σ _ w hag hst
 rw [←htm] at this
 exact this
def H0 (P:Program) (Q:Exit→Act→World→Prop) (nt:Nat) (D:List Deferred) (fr:bT) (B:Bs) (L:AL):Option Code→Prop
 | none=>AX P .normal Q nt D fr B L
 | some .ret=>AX P .ret Q nt D fr B L
 | some (.exit id)=>AX P (.exit id) Q nt D fr B L
 | _=>False
theorem vd {gv:Operand} {ps:List Nat} {assign body:Code} {gf:FuncId} {cap:List AV} [hf:bD P gf] (hg:bh fr gv=some (.fn gf cap))
  (h:∀σ0 l db rec,GP rec σ0 nt fr ps assign body→∃Post,Hd P σ0 gf (.sc (.func (.yield l) #[] #[])::cap) ((L++[(db,uH)])++[(l,oo rec)]) Post∧∀c L',Post c L'→∃rec' L1,L'.Perm (L1++[(l,oo rec')])∧rec'.state≠ .busy∧H0 P Q nt ({ target:= .collected db,args:=#[] }::D) fr B L1 rec'.pending):
  AT P none (.rangeFunc gv ps.toArray assign body) Q nt D fr B L:=by
 intro σ a w ha hw
 refine wpIn_rangeFunc ?_
 intro fn hfn
 obtain ⟨rec,hrec⟩:∃rec:Loop,rec={ state:= .ready,pending:=none,fn,tmps:=a.tmps,params:=ps.toArray,assign,body,defers:=w.heap.size }:=⟨_,rfl⟩
 have h1:=(hw.alloc (.deferred (some [])) uH rfl).perm (List.perm_append_comm (l₁:=[(w.heap.size,uH)]))
 have h2:=(h1.alloc (.loop rec) (oo rec) rfl).perm (List.perm_append_comm (l₁:=[((w.alloc (.deferred (some []))).heap.size,oo rec)]))
 simp only [World.size_alloc] at h2
 obtain ⟨Post,hac,hpost⟩:=h σ (w.heap.size+1) w.heap.size rec (by rw [hrec];exact ⟨rfl,rfl,rfl,rfl,rfl,ha.size,ha.look⟩)
 obtain ⟨vs,hv,hvs⟩:=(ha.eval hg).fn_inv
 refine ⟨w.heap.size+1,[{ target:= .collected w.heap.size,args:=#[] }],(w.alloc (.deferred (some []))).alloc (.loop rec),{ target:= .fn (.func gf) vs.toArray,args:=#[.func (.yield (w.heap.size+1)) #[] #[]] },(w.alloc (.deferred (some []))).alloc (.loop rec),gf,
  #[.func (.yield (w.heap.size+1)) #[] #[]]++vs.toArray,(w.alloc (.deferred (some []))).alloc (.loop rec),?_,?_,fun _ _=>trivial,?_,fun h=>by simp [Fence.wide] at h,?_⟩
 ·rw [hrec];exact run_enterLoop_outer _ _ _ _ _
 ·simp only [resolve,rangeCall,hv]
  simp [Deferred.ofValue,Act.eval]
 ·simp [invoke,hf.enters]
 ·have hc:=hac σ _ (.func (.yield (w.heap.size+1)) #[] #[]::vs) (Mem.le_refl _) (cS.cons (.sc _) hvs) (cL.enter (Lf:=[]) (by rw [List.append_nil];exact h2))
  have e:(#[.func (.yield (w.heap.size+1)) #[] #[]]++vs.toArray:Array Value)=(.func (.yield (w.heap.size+1)) #[] #[]::vs).toArray:=by simp
  rw [e]
  refine pf (hc.mono ?_)
  rintro en W' ⟨v,τ,c,L',rfl,_,hst,hp⟩
  obtain ⟨rec',L1,hperm,hnb,hj⟩:=hpost c L' hp
  have hst2:cL B τ (L1++[(w.heap.size+1,oo rec')]) W':=((cL.leave (Lf:=[]) (by rw [List.append_nil];exact h2) hst).perm (by rw [List.append_nil];exact hperm))
  obtain ⟨o,ho,hq⟩:=hst2.here (w.heap.size+1,oo rec') (by simp)
  have hq:o= .loop rec':=hq
  rw [hq] at ho
  have hst3:=(hst2.turn (a':= .raw fun _=>True) (o:= .loop { rec' with state:= .exhausted }) trivial).sublist (List.sublist_append_left ..)
  have hle:σ.le τ:=hst.grow
  have hag:jz τ nt ({ target:= .collected w.heap.size,args:=#[] }::D) fr { a with defers:=[{ target:= .collected w.heap.size,args:=#[] }]++a.defers }:=⟨ha.size,by simp [ha.defers],(ha.mono hle).look⟩
  refine ⟨rec'.pending,_,run_endLoop ho hnb,?_⟩
  generalize W'.putObj _ _=W2 at hst3 ⊢
  unfold H0 at hj
  split at hj
  ·rename_i hpe;rw [hpe];exact hj τ _ _ hag hst3
  ·rename_i hpe;rw [hpe];exact wpIn_ret (hj τ _ _ hag hst3)
  ·rename_i hpe;rw [hpe];exact wpIn_exit (hj τ _ _ hag hst3)
  ·exact hj.elim
end
end Go.Proofs.YtpmdfoaadejmkaaGreatDoor
namespace Go.Proofs.YtpmdfoaadejmkaaGreatDoor
open Go.RowKit
theorem yV {σ:Mem} {b:Nat} {cs:List AV} {xs:List Value} (hx:cS σ cs xs) (h1:∀u∈xs,u.oneCell'=true) (hb:∀j u,xs[j]?=some u→σ b j=some u):VR σ (.iptr cs) (.pointer (some ⟨b,0,none⟩)):=by
 refine .iptr cs b 0 (fun j hj=>?_) fun j c u hc hu=>?_
 ·have hlt:j < xs.length:=by rw [←hx.1];exact hj
  rw [Nat.zero_add]
  exact ⟨xs[j],hb _ _ (Iy hlt),h1 _ (List.getElem_mem hlt)⟩
 ·have hlt:j < xs.length:=by rw [←hx.1];exact (Ln hc).1
  have:=hb _ _ (Iy hlt)
  rw [Nat.zero_add,this] at hu
  injection hu with hu
  subst hu
  exact hx.2 j c _ hc (Iy hlt)
section
variable {P:Program} {r:Option Nat} {ops:Array Oper} {Q:Exit→Act→World→Prop} {nt:Nat} {D:List Deferred} {fr fr':bT} {B:Bs} {L L':AL} {rest:List Oper} {cd:Code}
variable {d:Option Tmp} {ty t t':TypeId} {pos:String} {af:Array Edge} {g:Option (Nat×Bool)} {x y:Operand} {u:AV}
theorem Fb {cs:List AV} (hx:bh fr x=some u) (hc:u.cells=some cs) (hn:Nat.ble cs.length 1000000=true):AO P ⟨d,.box t x,ty,pos,af,g⟩ fr B L (fun c L'=>c= .iptr cs∧L'=L):=by
 intro σ ρ w hρ hw
 rw [Nat.ble_eq] at hn
 obtain ⟨k1,k2⟩:=(hρ x u hx).cells hc
 have hl:=k1.1
 have hr:(execOp ρ ⟨d,.box t x,ty,pos,af,g⟩).run P w= .ok (.value (.pointer (some ⟨w.heap.size,0,none⟩))) (w.alloc (.cells (ρ x).cells t)):=by
  simp [execOp,Instr.box,newVar,newRow]
 unfold gT
 rw [hr]
 have ha:=hw.alloc (.cells (ρ x).cells t) (.vec t 1 0 cs.length) ⟨_,rfl,by simp at hl;omega,Nat.zero_le _,by unfold maxLen;omega⟩
 have hnb:(w.alloc (.cells (ρ x).cells t)).heap[w.heap.size]?=some (.cells (ρ x).cells t):=World.alloc_heap_new w _
 obtain ⟨hb,hle⟩:=ha.freezeHead (n':=cs.length) (xs:=(ρ x).cells.toList) (fun j u hj=>by rw [cX hnb];simpa using hj) (by omega) (Nat.zero_le _) (Nat.le_refl _)
 exact ⟨_,_,L,hle,yV (k1.mono hle) k2 (fun j u hj=>Mem.add_at hj),hb.sublist (.cons _ (List.Sublist.refl _)),rfl,rfl⟩
theorem aH {L':AL} (h:L.Perm L'):jn nt D B fr L fr L':=fun σ _ _ ha hw=>⟨σ,ha,hw.perm h⟩
theorem s3 {t b e:Nat} {cs:List AV} (i:Nat) (hl:ca fr t=some (.sc (.pointer (some ⟨b,0,none⟩)))) (hL:L[i]?=some (b,.box cs e)) (hn:Nat.ble cs.length 1000000=true):jn nt D B fr L ((t,.iptr cs)::fr) (L.eraseIdx i):=by
 intro σ a w ha hw0
 rw [Nat.ble_eq] at hn
 have hw:=hw0.perm (dY hL)
 obtain ⟨o,ho,vs,rfl,hvs,h1⟩:=hw.here _ (List.mem_cons_self ..)
 have hfree:=hw.free _ (List.mem_cons_self ..)
 have hvl:vs.length=cs.length:=hvs.1.symm
 have hst:cL B σ ((b,.vec e 1 0 cs.length)::L.eraseIdx i) w:=by
  refine ⟨hw.os,hw.tape,hw.output,hw.size,hw.old,fun p hp=>?_,fun p hp=>?_,by simpa using hw.apart,hw.froz,fun p hp off hm=>?_,hw.grow,hw.same,hw.cold⟩
  ·rcases List.mem_cons.1 hp with rfl | hp'
   ·exact ⟨_,ho,_,rfl,by simp [hvl],Nat.zero_le _,by unfold maxLen;omega⟩
   ·exact hw.here p (Ls _ hp')
  ·rcases List.mem_cons.1 hp with rfl | hp'
   ·exact hw.mine (b,.box cs e) (List.mem_cons_self ..)
   ·exact hw.mine p (Ls _ hp')
  ·rcases List.mem_cons.1 hp with rfl | hp'
   ·exact hfree off trivial
   ·exact hw.free p (Ls _ hp') off hm
 obtain ⟨hst',hle⟩:=hst.freezeHead (n':=cs.length) (xs:=vs) (fun j u hj=>by rw [cX ho];simpa using hj) (by omega) (Nat.zero_le _) (Nat.le_refl _)
 refine ⟨_,?_,hst'.sublist (.cons _ (List.Sublist.refl _))⟩
 have ha':=ha.mono hle
 refine ⟨ha'.size,ha'.defers,fun t' v' hl'=>?_⟩
 rw [bY] at hl'
 by_cases e:t=t'
 ·subst e
  simp only [if_true,Option.some.injEq] at hl'
  subst hl'
  rw [(ha.look t _ hl).sc_inv]
  exact yV (hvs.mono hle) h1 (fun j u hj=>Mem.add_at hj)
 ·rw [if_neg e] at hl'
  exact ha'.look t' v' hl'
end
end Go.Proofs.YtpmdfoaadejmkaaGreatDoor
