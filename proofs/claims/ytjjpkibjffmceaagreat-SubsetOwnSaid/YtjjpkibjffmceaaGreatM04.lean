/-
  A region whose order Go leaves open, over abstract values: the rule, and its steps.
-/
import Derived.Test.YtjjpkibjffmceaaGreatM03
import Derived.Laws.Tables
import Derived.RangeFuncNested
import Derived.RangeFuncLeaves
namespace Go.Proofs.YtjjpkibjffmceaaGreat
open Go.RowKit
def iS (ops:Array Oper) (acc fr:cu):Nat→cu
 | 0=>fr
 | n+1=>match fb ops n with
  | some t=>(match cw acc n with
   | some v=>(t,v)::iS ops acc fr n
   | none=>(t,.sc undef)::iS ops acc fr n)
  | none=>iS ops acc fr n
theorem rQ {ops:Array Oper} {acc fr:cu} {ε:Nat→Value} {frC:Fr} {τ:ce} (hf:∀t c,cw fr t=some c→∃v,fz frC t=some v∧VR τ c v):∀(n:Nat),(∀i,i < n→VR τ (pe acc i) (ε i))→∀t c,cw (iS ops acc fr n) t=some c→∃v,fz (mY ops ε frC n) t=some v∧VR τ c v
 | 0,_,t,c,h=>hf t c h
 | n+1,hv,t,c,h=>by
  have ih:=rQ (ops:=ops) (acc:=acc) (ε:=ε) hf n (fun i hi=>hv i (by omega)) t c
  simp only [iS,mY] at h ⊢
  cases hd:fb ops n with
  | none=>rw [hd] at h;exact ih h
  | some t'=>
   rw [hd] at h
   have key:∀u,pe acc n=u→cw ((t',u)::iS ops acc fr n) t=some c→∃v,fz ((t',ε n)::mY ops ε frC n) t=some v∧VR τ c v:=by
    intro u hu h
    rw [cG] at h
    rw [iR]
    by_cases e1:t'=t
    ·rw [if_pos e1] at h ⊢
     injection h with h
     exact ⟨_,rfl,by rw [←h,←hu];exact hv n (by omega)⟩
    ·rw [if_neg e1] at h ⊢
     exact ih h
   simp only at h ⊢
   cases ha:cw acc n with
   | none=>rw [ha] at h;exact key _ (by simp [pe,ha]) h
   | some u=>rw [ha] at h;exact key _ (by simp [pe,ha]) h
def rF (fr:cu) (a:Act):Fr:=fr.map fun p=>(p.1,a.tmps.getD p.1 undef)
theorem pT (fr:cu) (a:Act) (t:Nat):fz (rF fr a) t=(cw fr t).map fun _=>a.tmps.getD t undef:=by
 induction fr with
 | nil=>rfl
 | cons p r ih=>
  obtain ⟨i,u⟩:=p
  show fz ((i,a.tmps.getD i undef)::rF r a) t=_
  rw [iR,cG]
  by_cases e:i=t
  ·subst e;simp
  ·rw [if_neg e,if_neg e];exact ih
section
variable {P:Program} {r:Option Nat} {Q:Exit→Act→World→Prop} {nt:Nat} {D:List Deferred} {fr:cu} {B:Bs} {l:List Oper}
def B0 (P:Program) (r:Option Nat) (l:List Oper) (n0:Nat) (Q:Exit→Act→World→Prop) (nt:Nat) (D:List Deferred) (fr:cu) (B:Bs) (al:Option (Nat×AB)) (acc:cu) (L:AL):Prop:=match al with
 | none=>bW P r l.toArray Q nt D (l.drop n0) (iS l.toArray acc fr n0) B L
 | some (k,ab)=>∀b,bW P r l.toArray Q nt D (l.drop n0) (iS l.toArray ((k,.sc (.pointer (some ⟨b,0,none⟩)))::acc) fr n0) B (L++[(b,ab)])
def FX (al:Option (Nat×AB)) (S:Nat→Bool) (ε:Nat→Value) (La:AL):Prop:=match al with
 | none=>La=[]
 | some (k,ab)=>∃b,(S k=true→ε k= .pointer (some ⟨b,0,none⟩))∧La=if S k then [(b,ab)] else []
def Gf (P:Program) (l:List Oper) (al:Option (Nat×AB)):Prop:=match al with
 | none=>True
 | some (k,ab)=>∃o,l[k]?=some o∧o.guard=none∧∀fr B L,AO P o fr B L (fun c L'=>∃b,c= .sc (.pointer (some ⟨b,0,none⟩))∧L'=(b,ab)::L)
def oI (al:Option (Nat×AB)):List Nat:=match al with | none=>[] | some (k,_)=>[k]
def su (n0:Nat) (sk:mF) (ks:List Nat):Bool:=((List.range n0).all fun k=>(sk.any fun p=>Nat.beq k p.1) || ks.any (Nat.beq k)) && (sk.all fun p=>Nat.blt p.1 n0 && !ks.any (Nat.beq p.1)) && ks.all fun k=>Nat.blt k n0
def DA (P:Program) (l:List Oper) (fr:cu) (fin:kF) (sk:mF) (acc:cu) (L:AL):Prop:=∃pl,eI P l fr fin pl sk acc L
theorem oH:∀(sk:mF) (dn:List Nat),oG l dn sk=true→(sk.map (·.1)).Nodup
 | [],_,_=>by simp
 | (k,s)::r,dn,h=>by
  obtain ⟨_,_,c2,_,_,c4⟩:=lZ h
  simp only [Ip,List.nodup_cons]
  refine ⟨fun hm=>?_,oH r _ c4⟩
  obtain ⟨p,hp,he⟩:=List.mem_map.1 hm
  exact c2 p hp he
theorem dz {id:Nat} {L:AL} (gs:KpL) (n0:Nat) (sk:mF) (al:Option (Nat×AB)) (h:DA P l fr ⟨B0 P r l n0 Q nt D fr B al,gs⟩ sk [] L) (hal:Gf P l al) (hn0:Nat.ble n0 l.length=true) (ht:mB l n0=true) (hck:oG l [] sk=true) (hcv:su n0 sk (oI al)=true) (hm:P.follows .mixedOrders=true) (ok:jK l=true) (hs:lF nt l=true):
  AT P r (.region id l.toArray true) Q nt D fr B L:=by
 obtain ⟨pl,hpl⟩:=h
 intro σ a w ha hw
 have hn0':n0≤l.length:=by simpa [Nat.ble_eq] using hn0
 have okG:jH l.toArray l=true:=by
  simp only [jK,Bool.and_eq_true] at ok
  exact ok.1.2
 simp only [su,Bool.and_eq_true,List.all_eq_true,List.mem_range,Bool.or_eq_true,List.any_eq_true] at hcv
 obtain ⟨⟨hcv1,hcv2⟩,hcv3⟩:=hcv
 have hlt:∀p∈sk,p.1 < n0:=fun p hp=>by have:=(hcv2 p hp).1;simpa [Nat.blt_eq] using this
 have hnal:∀p∈sk,∀k ab,al=some (k,ab)→p.1≠k:=fun p hp k ab hal e=>by
  have:=(hcv2 p hp).2
  rw [hal] at this
  simp [oI,e] at this
 have hf0:∀(τ:ce),σ.le τ→∀t c,cw fr t=some c→∃v,fz (rF fr a) t=some v∧VR τ c v:=fun τ hle t c hc=>⟨a.tmps.getD t undef,by rw [pT,hc];rfl,(ha.look t c hc).mono hle⟩
 refine Ef (D:=D) (fr:=rF fr a) (I:=fun w'=>w'=w) n0 (J:=fun S ε w'=>∃τ La Lc,σ.le τ∧dC B τ (Lc++La) w'∧jQ τ S ε pl L Lc∧FX al S ε La) hn0' ht hm ok hs ?_ ?_ ?_ a w ?_ rfl
 ·rintro w' n rfl
  refine ⟨σ,[],L,ce.le_refl _,by rw [List.append_nil];exact hw.drew n,jQ.fresh pl sk _ L hpl (fun _ _=>rfl),?_⟩
  unfold FX
  split
  ·rfl
  ·exact ⟨0,by simp,by simp⟩
 ·intro k o hk ho S ε hc hSk hd
  rcases hcv1 k hk with ⟨p,hp,he⟩ | ⟨k',hk',he⟩
  ·rw [Nat.beq_eq] at he
   have hks:∃s,(k,s)∈sk:=⟨p.2,by rw [he];exact hp⟩
   have hal':∀v La,FX al S ε La→FX al (mark S k) (oy ε k v) La:=by
    intro v La h
    unfold FX at *
    split at h
    ·exact h
    ·rename_i k0 ab
     have hne:k0≠k:=fun e=>hnal p hp k0 ab rfl (by rw [←he,e])
     obtain ⟨b,h1,h2⟩:=h
     have m1:mark S k k0=S k0:=by simp [mark,hne]
     have m2:oy ε k v k0=ε k0:=by simp [oy,hne]
     exact ⟨b,by rw [m1,m2];exact h1,by rw [m1];exact h2⟩
   have step:∀(ρ:Operand→Value) (w':World),(∀x v,zJ (pp l.toArray ε (rF fr a) o.after.toList) x=some v→ρ x=v)→∀τ La Lc,σ.le τ→dC B τ (Lc++La) w'→jQ τ S ε pl L Lc→_:=fun ρ w' hρ τ La Lc hle hst hsh=>
    qO (B:=B) (La:=La) (w:=w') okG ho hc hSk hd (hf0 τ hle) hρ pl sk [] [] L Lc hpl hck (by simp) hks hsh hst
   unfold Cn at step
   cases hg:o.guard with
   | none=>
    simp only [hg] at step
    intro ρ w' hρ ⟨τ,La,Lc,hle,hst,hsh,hA⟩
    exact (step ρ w' hρ τ La Lc hle hst hsh).mono fun v w'' ⟨τ',Lc',h1,h2,h3⟩=>⟨τ',La,Lc',ce.le_trans hle h1,h3,h2,hal' v La hA⟩
   | some q=>
    obtain ⟨g,want⟩:=q
    simp only [hg] at step
    refine ⟨fun hy ρ w' hρ ⟨τ,La,Lc,hle,hst,hsh,hA⟩=>((step ρ w' hρ τ La Lc hle hst hsh).1 hy).mono fun v w'' ⟨τ',Lc',h1,h2,h3⟩=>⟨τ',La,Lc',ce.le_trans hle h1,h3,h2,hal' v La hA⟩,fun hne w' ⟨τ,La,Lc,hle,hst,hsh,hA⟩=>?_⟩
    classical
    obtain ⟨Lc',h2,h3⟩:=(step (fun x=>(zJ (pp l.toArray ε (rF fr a) o.after.toList) x).getD undef) w' (fun x v hx=>by simp [hx]) τ La Lc hle hst hsh).2 hne
    exact ⟨τ,La,Lc',hle,h3,h2,hal' undef La hA⟩
  ·rw [Nat.beq_eq] at he
   subst he
   cases al with
   | none=>simp [oI] at hk'
   | some q=>
    obtain ⟨k0,ab⟩:=q
    simp only [oI,List.mem_singleton] at hk'
    subst hk'
    obtain ⟨o',ho',hg,hAO⟩:=hal
    have:o'=o:=by rw [ho] at ho';injection ho' with h;exact h.symm
    subst this
    simp only [hg]
    intro ρ w' hρ ⟨τ,La,Lc,hle,hst,hsh,b0,hA1,hA2⟩
    rw [hSk] at hA2
    simp only [Bool.false_eq_true,if_false] at hA2
    subst hA2
    refine (hAO [] B (Lc++[]) τ ρ w' (fun x c hx=>?_) hst).mono ?_
    ·cases x with
     | tmp t=>simp [bO,cw] at hx
     | const v=>simp only [bO,Option.some.injEq] at hx;subst hx;rw [hρ (.const v) v rfl];exact .sc _
     | global g=>simp only [bO,Option.some.injEq] at hx;subst hx;rw [hρ (.global g) _ rfl];exact .sc _
     | func f=>simp only [bO,Option.some.injEq] at hx;subst hx;rw [hρ (.func f) _ rfl];exact .sc _
    ·rintro v w'' ⟨τ',c,L',h1,h2,h3,b,rfl,rfl⟩
     have hv:=h2.sc_inv
     refine ⟨τ',[(b,ab)],Lc,ce.le_trans hle h1,?_,jQ.congr pl sk _ L Lc hpl (fun p hp=>?_) (hsh.mono h1),b,fun _=>by simp [oy,hv],by simp [mark]⟩
     ·rw [List.append_nil] at h3
      exact h3.perm (List.perm_append_comm (l₁:=[_]))
     ·have:=hnal p hp _ ab rfl
      simp [mark,oy,this]
 ·intro ε a' w' ha' ⟨τ,La,Lc,hle,hst,hsh,hA⟩
  obtain ⟨acc',hf,hv,hacc⟩:=tl pl sk [] L Lc hpl (fun p hp=>by simpa using hlt p hp) (by simp [cw]) (oH sk [] hck) hsh
  have hag:∀(acc2:cu),(∀i,i < n0→VR τ (pe acc2 i) (ε i))→jm τ nt D (iS l.toArray acc2 fr n0) a':=fun acc2 hall=>⟨ha'.size,ha'.defers,fun t c hc=>by
   obtain ⟨v,h1,h2⟩:=rQ (ops:=l.toArray) (acc:=acc2) (ε:=ε) (hf0 τ hle) n0 hall t c hc
   rw [ha'.look t v h1]
   exact h2⟩
  dsimp only at hf
  unfold B0 at hf
  cases al with
  | none=>
   have:La=[]:=hA
   subst this
   rw [List.append_nil] at hst
   refine hf τ a' w' (hag acc' fun i hi=>?_) hst
   rcases hcv1 i hi with ⟨p,hp,he⟩ | ⟨k',hk',_⟩
   ·rw [Nat.beq_eq] at he;rw [he];exact hv p hp
   ·simp [oI] at hk'
  | some q=>
   obtain ⟨k0,ab⟩:=q
   have hk0:k0 < n0:=by have:=hcv3 k0 (by simp [oI]);simpa [Nat.blt_eq] using this
   obtain ⟨b,hA1,hA2⟩:=hA
   simp only [hk0,decide_true,if_true] at hA1 hA2
   subst hA2
   refine hf b τ a' w' (hag _ fun i hi=>?_) hst
   rw [qj]
   by_cases e:k0=i
   ·subst e
    rw [if_pos rfl,hA1 trivial]
    exact .sc _
   ·rw [if_neg e]
    rcases hcv1 i hi with ⟨p,hp,he⟩ | ⟨k',hk',he⟩
    ·rw [Nat.beq_eq] at he;rw [he];exact hv p hp
    ·rw [Nat.beq_eq] at he
     simp only [oI,List.mem_singleton] at hk'
     omega
 ·refine ⟨ha.size,ha.defers,fun t v hv=>?_⟩
  rw [pT] at hv
  cases hq:cw fr t with
  | none=>rw [hq] at hv;cases hv
  | some c=>rw [hq] at hv;simpa using hv
theorem bn {id:Nat} {L:AL} (n0:Nat) (sk:mF) (al:Option (Nat×AB)) (h:DA P l fr ⟨B0 P r l n0 Q nt D fr B al,[]⟩ sk [] L) (hal:Gf P l al) (hn0:Nat.ble n0 l.length=true) (ht:mB l n0=true) (hck:oG l [] sk=true) (hcv:su n0 sk (oI al)=true) (hm:P.follows .mixedOrders=true) (ok:jK l=true) (hs:lF nt l=true):
  AT P r (.region id l.toArray true) Q nt D fr B L:=dz [] n0 sk al h hal hn0 ht hck hcv hm ok hs
end
end Go.Proofs.YtjjpkibjffmceaaGreat
namespace Go.Proofs.YtjjpkibjffmceaaGreat
open Go.RowKit
def rM (pl:Nat→Option (Nat×Nat)) (z:List AV):List (Nat×AV)→Option (List AV)
 | []=>some z
 | (i,c)::r=>match pl i with
  | none=>none
  | some (off,n)=>match c.cells with
   | none=>none
   | some ys=>bif Nat.beq ys.length n && Nat.ble (off+n) z.length then rM pl (iw z off ys) r else none
theorem qa {σ:ce} {pl:Nat→Option (Nat×Nat)}:∀{is:List Nat} {cs z out:List AV} {vs zc:List Value},dx σ cs vs→dx σ z zc→(∀u∈zc,u.oneCell'=true)→rM pl z (is.zip cs)=some out→∃oc:List Value,Instr.fill pl zc.toArray (is.zip vs)=some oc.toArray∧dx σ out oc∧∀u∈oc,u.oneCell'=true
 | [],cs,z,out,vs,zc,_,hz,h1,h=>by
  simp only [List.zip_nil_left,rM,Option.some.injEq] at h
  subst h
  exact ⟨zc,by simp [Instr.fill],hz,h1⟩
 | i::is,[],z,out,vs,zc,hc,hz,h1,h=>by
  rw [hc.nil_inv]
  simp only [List.zip_nil_right,rM,Option.some.injEq] at h ⊢
  subst h
  exact ⟨zc,by simp [Instr.fill],hz,h1⟩
 | i::is,c::cs,z,out,vs,zc,hc,hz,h1,h=>by
  obtain ⟨v,ws,rfl,hv,hs⟩:=hc.inv
  simp only [List.zip_cons_cons,rM] at h ⊢
  cases hp:pl i with
  | none=>rw [hp] at h;cases h
  | some q=>
   obtain ⟨off,n⟩:=q
   rw [hp] at h
   simp only at h
   cases hcc:c.cells with
   | none=>rw [hcc] at h;cases h
   | some ys=>
    rw [hcc] at h
    simp only at h
    cases hb:(Nat.beq ys.length n && Nat.ble (off+n) z.length) with
    | false=>rw [hb] at h;cases h
    | true=>
     rw [hb] at h
     simp only [cond_true] at h
     simp only [Bool.and_eq_true,Nat.beq_eq,Nat.ble_eq] at hb
     obtain ⟨k1,k2⟩:=hv.cells hcc
     have hl1:=k1.1
     have hl2:=hz.1
     have hvs:v.cells.size=n:=by rw [←hb.1,hl1];simp
     obtain ⟨f1,f2⟩:=o5 off v.cells.toList 0 zc.toArray
     have ef:v.cells.zipIdx.foldl (fun (cs:Array Value) (x:Value×Nat)=>cs.setIfInBounds (off+x.2) x.1) zc.toArray=(v.cells.toList.zipIdx 0).foldl (fun (a:Array Value) (p:Value×Nat)=>a.setIfInBounds (off+p.2) p.1) zc.toArray:=by
      rw [←Array.foldl_toList,Array.toList_zipIdx]
     generalize (v.cells.toList.zipIdx 0).foldl (fun (a:Array Value) (p:Value×Nat)=>a.setIfInBounds (off+p.2) p.1) zc.toArray=A at *
     have hA:dx σ (iw z off ys) A.toList:=by
      refine ⟨by rw [nw];simp [f1,hl2],fun j c' u hc' hu=>?_⟩
      have hu':A[j]?=some u:=by simpa using hu
      rw [f2 j] at hu'
      rw [nv _ _ _ _ (by omega)] at hc'
      simp only [List.size_toArray,Nat.add_zero,List.getElem?_toArray] at hu'
      by_cases hj:off≤j∧j < off+ys.length
      ·rw [if_pos hj] at hc'
       rw [if_pos (by omega)] at hu'
       exact k1.2 _ c' u hc' hu'
      ·rw [if_neg hj] at hc'
       rw [if_neg (by omega)] at hu'
       exact hz.2 j c' u hc' hu'
     have hA1:∀u∈A.toList,u.oneCell'=true:=fun u hu=>by
      obtain ⟨j,hj,rfl⟩:=List.getElem_of_mem hu
      have hu':A[j]?=some (A.toList[j]):=by rw [←Array.getElem?_toList];exact Iz hj
      rw [f2 j] at hu'
      split at hu'
      ·exact k2 _ (Iw hu')
      ·exact h1 _ (Iw (by simpa using hu'))
     obtain ⟨oc,o1,o2,o3⟩:=qa hs hA hA1 h
     refine ⟨oc,?_,o2,o3⟩
     simp only [Instr.fill,hp]
     rw [if_neg (by simp [hvs];omega),ef]
     simpa using o1
def o6:List AV→Option (List AV)
 | []=>some []
 | v::r=>match o6 r with
  | some q=>some (v::q)
  | none=>none
theorem rP:∀{l q:List AV},o6 l=some q→q=l
 | [],q,h=>by simp [o6] at h;exact h
 | v::r,q,h=>by
  simp only [o6] at h
  cases hr:o6 r with
  | none=>rw [hr] at h;cases h
  | some q'=>rw [hr] at h;injection h with h;rw [←h,rP hr]
def tf (ti:TI) (i:Nat):Option (Nat×Nat):=match ti.k with
 | .struct offs=>match offs[i]? with
  | some (o,s,_)=>some (o,s)
  | none=>none
 | .arr _ _ sz=>some (i * sz,sz)
 | _=>none
def vF (ti:TI) (parts:List (Nat×AV)):Option (List AV):=match rM (tf ti) (ti.zero.map .sc) parts with
 | some cs=>o6 cs
 | none=>none
theorem oO {P:Program}:∀(fs:List Field) (r:List (Nat×Nat×Bool)),lz P fs r=true→fs.mapM (fun f=>(P.info? f.type).map fun i=>(f.offset,i.size))=some (r.map fun q=>(q.1,q.2.1))
 | [],[],_=>rfl
 | x::fs,(o',s',b')::r,h=>by
  simp only [lz,Bool.and_eq_true,Nat.beq_eq] at h
  obtain ⟨⟨⟨⟨h1,h2⟩,_⟩,_⟩,h5⟩:=h
  unfold oZ at h2
  split at h2
  ·rename_i i hi
   rw [Nat.beq_eq] at h2
   simp [List.mapM_cons,hi,oO fs r h5,h1,h2]
  ·cases h2
 | [],_::_,h=>by cases h
 | _::_,[],h=>by cases h
theorem fp.built {P:Program} {tt:TT} (ok:fp P tt) {t:Nat} {ti:TI} (h:dP tt t=some ti) (hk:ti.k.agg=true) (parts:List (Nat×Value)):P.built t parts=Instr.fill (tf ti) ti.zero.toArray parts:=by
 have h0:=ok.ok t ti h
 simp only [zD,Bool.and_eq_true] at h0
 obtain ⟨⟨_,h1⟩,h2⟩:=h0
 unfold Program.built
 split at h1
 ·rename_i i hi
  split at h1
  ·rename_i z hz
   have hzz:=lq h1
   have hz':z.cells=ti.zero.toArray:=by rw [←hzz]
   split at h2
   all_goals try (cases hq:ti.k <;> rw [hq] at h2 hk <;> simp_all [TK.agg];done)
   ·rename_i fs hu
    cases hq:ti.k with
    | struct offs=>
     rw [hq] at h2
     simp only [hi,hu,hz,oO _ _ h2,hz']
     congr 1
     funext x
     simp [tf,hq]
     cases offs[x]? <;> rfl
    | _=>rw [hq] at h2;cases h2
   ·rename_i n e hu
    cases hq:ti.k with
    | arr n' e' sz=>
     rw [hq] at h2
     simp only [Bool.and_eq_true,Nat.beq_eq] at h2
     obtain ⟨⟨_,rfl⟩,h3⟩:=h2
     unfold oZ at h3
     split at h3
     ·rename_i j hj
      rw [Nat.beq_eq] at h3
      simp only [hi,hu,hz,hj,hz',h3]
      congr 1
      funext x
      simp [tf,hq]
     ·cases h3
    | _=>rw [hq] at h2;cases h2
   ·cases h2
  ·cases h1
 ·cases h1
section
variable {P:Program} {tt:TT} {fr:cu} {B:Bs} {L:AL} {d:Option Tmp} {ty t t':TypeId} {pos:String} {af:Array Edge} {g:Option (Nat×Bool)} {x y:Operand} {u:AV}
theorem CJ (ok:fp P tt) {ti:TI} {parts:Array (Nat×Operand)} {vs out:List AV} (ht:dP tt t=some ti) (hk:ti.k.agg=true) (hz1:ti.zero.all (·.oneCell')=true) (hv:eB fr (parts.toList.map (·.2))=some vs) (hb:vF ti ((parts.toList.map (·.1)).zip vs)=some out):Av P ⟨d,.build t parts,ty,pos,af,g⟩ fr (.agg out):=by
 intro σ ρ w hρ _
 have hvs:=f8 hρ _ _ hv
 generalize hws:(parts.toList.map (·.2)).map ρ=ws at *
 have e1:parts.map (fun p=>(p.1,ρ p.2))=((parts.toList.map (·.1)).zip ws).toArray:=by
  apply Array.toList_inj.1
  rw [←hws]
  simp only [Array.toList_map,List.map_map]
  induction parts.toList with
  | nil=>rfl
  | cons p l ih=>simp only [Ip,List.zip_cons_cons,ih];rfl
 unfold vF at hb
 split at hb
 ·rename_i cs hf
  have:=rP hb
  subst this
  have hz:dx σ (ti.zero.map .sc) ti.zero:=⟨by simp,fun i c u hc hu=>by
   rw [List.getElem?_map,hu] at hc
   simp at hc
   subst hc
   exact .sc u⟩
  obtain ⟨oc,o1,o2,o3⟩:=qa hvs hz (fun u hu=>List.all_eq_true.1 hz1 u hu) hf
  refine ⟨.agg oc.toArray,?_,.agg _ _ o2.1 o2.2 o3⟩
  have hr:=run_build (P:=P) w t ((parts.toList.map (·.1)).zip ws).toArray oc.toArray (by rw [ok.built ht hk];simpa using o1)
  simp only [execOp]
  rw [e1]
  simp [hr]
 ·cases hb
theorem F6 {a:Addr} (hx:bO fr x=some (.sc (.pointer (some a)))):Av P ⟨d,.nilCheck x,ty,pos,af,g⟩ fr (.sc (.pointer (some a))):=
 f9 fun ρ w hρ=>by simp [execOp,hρ _ _ hx]
theorem F5 {cs:List AV} (hx:bO fr x=some (.iptr cs)):Av P ⟨d,.nilCheck x,ty,pos,af,g⟩ fr (.iptr cs):=fun σ ρ w hρ _=>by
 have h:=hρ x _ hx
 obtain ⟨b,off,hv,_⟩:=h.iptr_inv
 exact ⟨ρ x,by simp [execOp,hv],h⟩
theorem F4 {f:FuncId} {cs:List AV} (hx:bO fr x=some (.fn f cs)):Av P ⟨d,.nilCheck x,ty,pos,af,g⟩ fr (.fn f cs):=fun σ ρ w hρ _=>by
 have h:=hρ x _ hx
 obtain ⟨vs,hv,_⟩:=h.fn_inv
 exact ⟨ρ x,by simp [execOp,hv],h⟩
theorem CK (ok:fp P tt) {s f o z:Nat} {b:Bool} {ti:TI} {offs:List (Nat×Nat×Bool)} {cs:List AV} (ht:dP tt s=some ti) (hk:ti.k= .struct offs) (hf:offs[f]?=some (o,z,b)) (hx:bO fr x=some (.agg cs)) (hu:(bif b then (bif Nat.ble (o+z) cs.length then some (.agg ((cs.drop o).take z)) else none) else cs[o]?)=some u):Av P ⟨d,.field s x f,ty,pos,af,g⟩ fr u:=by
 intro σ ρ w hρ _
 obtain ⟨vs,hv,hs,h1⟩:=(hρ x _ hx).agg_inv
 obtain ⟨_,fl,fs,hus,hfl,hoff,hsz,hag⟩:=ok.fd ht hk hf
 have hszr:(sizeOf fl.type).run P w= .ok z w:=by
  cases hq:P.info? fl.type with
  | none=>rw [hq] at hsz;cases hsz
  | some i=>rw [hq] at hsz;simp only [Option.map_some,Option.some.injEq] at hsz;simp [sizeOf,typeInfo,hq,hsz]
 have hagr:(isAgg fl.type).run P w= .ok b w:=by
  unfold CO at hag
  cases hq:P.underlying fl.type with
  | none=>rw [hq] at hag;cases hag
  | some dd=>
   rw [hq] at hag
   simp only [isAgg,Sem.run_bind,run_underlying hq,Result.andThen]
   cases dd <;> simp_all
 cases b with
 | true=>
  simp only [cond_true] at hu
  cases hb:Nat.ble (o+z) cs.length with
  | false=>rw [hb] at hu;cases hu
  | true=>
   rw [hb] at hu
   simp only [cond_true,Option.some.injEq] at hu
   subst hu
   rw [Nat.ble_eq] at hb
   have hl:=hs.1
   refine ⟨.agg ((vs.drop o).take z).toArray,?_,.agg _ _ (by simp [hl]) (fun i c u hc hu=>?_) fun u hu=>h1 u (List.mem_of_mem_drop (List.mem_of_mem_take hu))⟩
   ·simp [execOp,hv,Instr.field,run_underlying hus,hfl,part,hagr,hszr,asAgg,hoff]
   ·rw [List.getElem?_take] at hc hu
    split at hc
    ·rename_i hi
     rw [if_pos hi,List.getElem?_drop] at hu
     rw [List.getElem?_drop] at hc
     exact hs.2 _ c u hc hu
    ·cases hc
 | false=>
  simp only [cond_false] at hu
  obtain ⟨v,g1,g2⟩:=hs.get hu
  exact ⟨v,by simp [execOp,hv,Instr.field,run_underlying hus,hfl,part,hagr,asAgg,hoff,g1],g2⟩
def qR (tt:TT) (fr:cu) (op:Op):Option AV:=match op with
 | .build t parts=>match dP tt t with
  | some ti=>bif ti.k.agg && ti.zero.all (·.oneCell') then (match eB fr (parts.toList.map (·.2)) with
   | some vs=>match vF ti ((parts.toList.map (·.1)).zip vs) with
    | some out=>some (.agg out)
    | none=>none
   | none=>none) else none
  | none=>none
 | .nilCheck x=>match bO fr x with
  | some (.sc (.pointer (some a)))=>some (.sc (.pointer (some a)))
  | some (.iptr cs)=>some (.iptr cs)
  | some (.fn f cs)=>some (.fn f cs)
  | _=>none
 | .field s x f=>match dP tt s with
  | some ⟨.struct offs,_,_⟩=>match offs[f]? with
   | some (o,z,b)=>match bO fr x with
    | some (.agg cs)=>(bif b then (bif Nat.ble (o+z) cs.length then some (.agg ((cs.drop o).take z)) else none) else cs[o]?)
    | _=>none
   | none=>none
  | _=>none
 | op=>xw tt fr op
theorem qS (ok:fp P tt) {op:Op} {u:AV} (h:qR tt fr op=some u):Av P ⟨d,op,ty,pos,af,g⟩ fr u:=by
 unfold qR at h
 split at h
 ·split at h
  ·rename_i ti ht
   cases hb:(ti.k.agg && ti.zero.all (·.oneCell')) with
   | false=>rw [hb] at h;cases h
   | true=>
    rw [hb] at h
    simp only [cond_true] at h
    simp only [Bool.and_eq_true] at hb
    split at h
    ·rename_i vs hvs
     split at h
     ·rename_i out hout
      cases h
      exact CJ ok ht hb.1 hb.2 hvs hout
     ·cases h
    ·cases h
  ·cases h
 ·split at h <;> first | cases h | skip
  ·rename_i hx;exact F6 hx
  ·rename_i hx;exact F5 hx
  ·rename_i hx;exact F4 hx
 ·split at h
  ·rename_i ht
   split at h
   ·rename_i hf
    split at h
    ·rename_i hx;exact CK ok ht rfl hf hx h
    ·cases h
   ·cases h
  ·cases h
 ·exact wC ok h
end
end Go.Proofs.YtjjpkibjffmceaaGreat
namespace Go.Proofs.YtjjpkibjffmceaaGreat
open Go.RowKit
def gZ (rec:Loop):AB:= .raw fun o=>o= .loop rec
def iF:AB:= .raw fun o=>o= .deferred (some [])
theorem kY (w:World) (l:Nat) (o:Obj):w.grownBy (w.putObj l o) (some l):=
 ⟨rfl,rfl,rfl,by simp [World.putObj],fun k _ hk=>World.putObj_heap_other (fun e=>hk (by rw [e]))⟩
theorem dC.turn {B:Bs} {σ:ce} {L:AL} {w:World} {l:Nat} {q:Obj→Prop} {a':AB} {o:Obj} (h:dC B σ (L++[(l,.raw q)]) w) (hq:a'.holds σ o):dC B σ (L++[(l,a')]) (w.putObj l o):=by
 have h1:dC B σ ((l,.raw q)::L) w:=h.perm List.perm_append_comm
 have hlt:=h1.lt (List.mem_cons_self ..)
 exact (h1.put (fun _=>trivial) (kY w l o) (World.putObj_heap_same hlt) hq).perm (List.perm_append_comm (l₁:=[(l,a')]))
def AY (P:Program) (σ0:ce) (l:Nat) (args:List AV) (L:AL) (Post:AV→AL→Prop):Prop:=∀σ w vs,σ0.le σ→dx σ args vs→dC ⟨w,σ,L.map (·.1)⟩ σ L w→
 ∃f tmps assign body,(Instr.yield l vs.toArray).run P w= .ok (.round l f tmps assign body) w∧RoundIn Fence.wide 0 P l f tmps assign body w (j8 ⟨w,σ,L.map (·.1)⟩ Post)
def Cx (P:Program) (σ0:ce) (f:FuncId) (args:List AV) (L:AL) (Post:AV→AL→Prop):Prop:=∀σ w vs,σ0.le σ→dx σ args vs→dC ⟨w,σ,L.map (·.1)⟩ σ L w→Calls P f vs.toArray w (j8 ⟨w,σ,L.map (·.1)⟩ Post)
section
variable {P:Program} {r:Option Nat} {ops:Array Oper} {Q:Exit→Act→World→Prop} {nt:Nat} {D:List Deferred} {fr:cu} {B:Bs} {L:AL} {rest:List Oper} {σ0:ce}
variable {d:Option Tmp} {ty t t':TypeId} {pos:String} {af:Array Edge} {g:Option (Nat×Bool)} {x y z:Operand} {u:AV}
theorem Ah (hB:σ0.le B.σ) (Lc Lf:AL) {l:Nat} {args:Array Operand} {ts:Array TypeId} {cs cs':List AV} {Post:AV→AL→Prop} (hz:bO fr z=some (.sc (.func (.yield l) #[] #[]))) (hv:eB fr args.toList=some cs) (hcs:∀σ vs,dx σ cs vs→dx σ cs' vs) (hL:L.Perm (Lc++Lf)) (h:AY P σ0 l cs' Lc Post):
  AO P ⟨d,.call ⟨.value z,args,ts⟩,ty,pos,af,g⟩ fr B L (fun c L'=>∃L1,Post c L1∧L'=L1++Lf):=by
 intro σ ρ w hρ hw0
 have hw:=hw0.perm hL
 have e:args.map ρ=(args.toList.map ρ).toArray:=by apply Array.toList_inj.1;simp
 obtain ⟨f,tmps,assign,body,hy,hr⟩:=h σ w _ (ce.le_trans hB hw.grow) (hcs _ _ (f8 hρ _ _ hv)) hw.enter
 unfold iN
 rw [show (execOp ρ ⟨d,.call ⟨.value z,args,ts⟩,ty,pos,af,g⟩).run P w= .ok (.round l f tmps assign body) w by
  simp [execOp,resolve,(hρ z _ hz).sc_inv,Deferred.ofValue,e,invoke,hy]]
 refine hr.mono fun en w' hh=>?_
 obtain ⟨v,τ,c,L',h1,h2,h3,h4⟩:=hh
 exact ⟨v,h1,τ,c,L'++Lf,h3.grow,h2,hw.leave h3,L',h4,rfl⟩
theorem sv {f:FuncId} {fn:Func} {c:Code} {args:List AV} {Post:AV→AL→Prop} (hf:P.funcs[f]?=some fn) (hb:fn.body=some c) (hn:fn.ntmps=nt) (hs:Nat.ble args.length nt=true)
  (h:∀B,σ0.le B.σ→AT P none c (bodyPost P fn (j8 B Post)) nt [] (mL 0 args) B L):Cx P σ0 f args L Post:=by
 intro σ w vs hle hv hst
 have hs':args.length≤nt:=by simpa [Nat.ble_eq] using hs
 have hl:=hv.1
 refine (callsIn_wide (n:=0)).1 (callsIn_of_wp hf hb trivial (h _ hle σ _ w ⟨?_,rfl,?_⟩ hst))
 ·simp [hn];omega
 ·intro t v hlk
  obtain ⟨_,h2⟩:=gP args 0 t v hlk
  simp only [Nat.sub_zero] at h2
  have hlt:t < vs.length:=by have:=(Io h2).1;omega
  simp only [Array.getD_eq_getD_getElem?]
  rw [Array.getElem?_append_left (by simpa using hlt)]
  have:=hv.2 t v vs[t] h2 (Iz hlt)
  simpa [hlt] using this
theorem pC {f:FuncId} {fn:Func} {c:Code} {args:List AV} {Post:AV→AL→Prop} (hf:P.funcs[f]?=some fn) (hb:fn.body=some c) (hn:fn.ntmps=nt) (hs:Nat.ble args.length nt=true)
  (h:∀B,AT P none c (bodyPostM Fence.wide 0 P fn (j8 B Post)) nt [] (mL 0 args) B L):AC P f args L Post:=by
 intro σ w vs hv hst
 have hs':args.length≤nt:=by simpa [Nat.ble_eq] using hs
 have hl:=hv.1
 refine (callsIn_wide (n:=0)).1 (callsIn_of_wp_marks hf hb trivial (h _ σ _ w ⟨?_,rfl,?_⟩ hst))
 ·simp [hn];omega
 ·intro t v hlk
  obtain ⟨_,h2⟩:=gP args 0 t v hlk
  simp only [Nat.sub_zero] at h2
  have hlt:t < vs.length:=by have:=(Io h2).1;omega
  simp only [Array.getD_eq_getD_getElem?]
  rw [Array.getElem?_append_left (by simpa using hlt)]
  have:=hv.2 t v vs[t] h2 (Iz hlt)
  simpa [hlt] using this
def qE (P:Program) (fr:cu) (L:AL):List ResultVar→List AV→Prop
 | [],[]=>True
 | .tmp t::r,c::cs=>cw fr t=some c∧qE P fr L r cs
 | .cell t e::r,c::cs=>(∃(b i:Nat) (ds:List AV) (e':TypeId),cw fr t=some (.sc (.pointer (some ⟨b,0,none⟩)))∧L[i]?=some (b,.box ds e')∧((CA P e∧ds[0]?=some c)∨(Ek P e ds.length∧c= .agg ds)))∧qE P fr L r cs
 | _,_=>False
def uI:List AV→AV
 | [c]=>c
 | cs=> .tup cs
def C1 (tmps:Array Value):ResultVar→Sem Value
 | .tmp t=>pure (tmps.getD t undef)
 | .cell q t=>do loadVar t (←asAddr (tmps.getD q undef))
theorem mp {σ:ce} {a:Act} {w:World} (ha:jm σ nt D fr a) (hw:dC B σ L w):∀(rs:List ResultVar) (cs:List AV),qE P fr L rs cs→∃vs:List Value,(rs.mapM (C1 a.tmps)).run P w= .ok vs w∧dx σ cs vs
 | [],[],_=>⟨[],by simp,dx.nil⟩
 | .tmp t::r,c::cs,h=>by
  obtain ⟨vs,h1,h2⟩:=mp ha hw r cs h.2
  exact ⟨a.tmps.getD t undef::vs,by simp [List.mapM_cons,C1,h1],dx.cons (ha.look t c h.1) h2⟩
 | .cell t e::r,c::cs,h=>by
  obtain ⟨⟨b,i,ds,e',hp,hL,hcase⟩,hr⟩:=h
  obtain ⟨vs,h1,h2⟩:=mp ha hw r cs hr
  obtain ⟨us,hb,hus,hone⟩:=hw.boxCell hL
  have hpv:=(ha.look t _ hp).sc_inv
  rcases hcase with ⟨hsc,hc⟩ | ⟨hag,rfl⟩
  ·obtain ⟨v,hv,hvr⟩:=hus.get hc
   have hcell:w.cell? ⟨b,0,none⟩=some v:=by rw [ep hb];simpa using hv
   haveI:=hsc
   refine ⟨v::vs,?_,dx.cons hvr h2⟩
   rw [List.mapM_cons]
   simp only [C1,Sem.run_bind,hpv]
   simp [asAddr,fL (P:=P) (t:=e) hcell,h1]
  ·have hlen:=hus.1
   have hrun:=fK (P:=P) (t:=e) (w:=w) (b:=b) (o:=0) (cs:=us) (k:=ds.length) hlen.symm (fun j v hj=>by rw [Nat.zero_add,ep hb];simpa using hj)
   refine ⟨.agg us.toArray::vs,?_,dx.cons (.agg ds us hlen hus.2 hone) h2⟩
   rw [List.mapM_cons]
   simp only [C1,Sem.run_bind,hpv]
   simp [asAddr,hrun,h1]
theorem li {σ:ce} {a:Act} {w:World} {fn:Func} {cs:List AV} (ha:jm σ nt D fr a) (hw:dC B σ L w) (h:qE P fr L fn.results.toList cs):∃v,(results fn a.tmps).run P w= .ok v w∧VR σ (uI cs) v:=by
 obtain ⟨vs,h1,h2⟩:=mp ha hw _ _ h
 have hl:=h2.1
 have e:(results fn a.tmps).run P w= .ok (if h:vs.toArray.size=1 then vs.toArray[0] else .tuple vs.toArray) w:=by
  have hfun:results fn a.tmps=(do let vs ←fn.results.mapM (C1 a.tmps);pure (if h:vs.size=1 then vs[0] else .tuple vs)):=by
   unfold results
   congr 1
  rw [hfun,Array.mapM_eq_mapM_toList]
  simp [h1]
 refine ⟨_,e,?_⟩
 clear e h1 h
 match cs,vs,hl,h2 with
 | [],[],_,h2=>exact VR.tup [] [] rfl (fun i c u h=>by simp at h)
 | [c],[v],_,h2=>exact h2.2 0 c v rfl rfl
 | c::c'::cs,v::v'::vs,_,h2=>simpa [uI] using VR.tup _ _ h2.1 h2.2
def Bz (dbs:List Nat):List Deferred:=dbs.map fun b=>{ target:= .collected b,args:=#[] }
theorem nf {fn:Func} {R:Ending→World→Prop} {tmps:Array Value} {σ:ce}:∀(dbs:List Nat) (L:AL) (w:World),dC B σ (L++dbs.map fun b=>(b,iF)) w→(∀w',dC B σ L w'→LeavesInM Fence.wide 0 P fn tmps R [] .returning w')→LeavesInM Fence.wide 0 P fn tmps R (Bz dbs) .returning w
 | [],L,w,hw,h=>h w (by simpa using hw)
 | b::dbs,L,w,hw,h=>by
  have hp:dC B σ ((L++dbs.map fun b=>(b,iF))++[(b,iF)]) w:=hw.perm (by
   simp only [Ip,List.append_assoc]
   exact (List.perm_append_comm (l₁:=[_])).append_left L)
  obtain ⟨o,ho,hq⟩:=hp.here (b,iF) (by simp)
  have hq:o= .deferred (some []):=hq
  rw [hq] at ho
  refine ⟨by simp,.inl ⟨_,_,rfl,run_takeDeferred ho,nf dbs L _ ?_ h⟩⟩
  exact (hp.turn (a':= .raw fun _=>True) trivial).sublist (List.sublist_append_left ..)
theorem jU {fn:Func} {Post:AV→AL→Prop} {cs:List AV} (dbs:List Nat) (L0:AL) (hD:D=Bz dbs) (hL:L.Perm (L0++dbs.map fun b=>(b,iF))) (hr:qE P fr L0 fn.results.toList cs) (h:Post (uI cs) L0):AX P .ret (bodyPostM Fence.wide 0 P fn (j8 B Post)) nt D fr B L:=by
 intro σ a w ha hw
 show LeavesInM _ _ _ _ _ _ a.defers _ _
 rw [ha.defers,hD]
 refine nf dbs L0 w (hw.perm hL) fun w' hw'=>?_
 obtain ⟨v,h1,h2⟩:=li ha hw' hr
 exact ⟨v,h1,v,σ,uI cs,L0,rfl,h2,hw',h⟩
theorem pj {fn:Func} {Post:AV→AL→Prop} {cs:List AV} (hr:qE P fr L fn.results.toList cs) (h:Post (uI cs) L):AX P .ret (bodyPost P fn (j8 B Post)) nt [] fr B L:=by
 intro σ a w ha hw
 obtain ⟨v,h1,h2⟩:=li ha hw hr
 exact ⟨ha.defers,v,h1,v,σ,uI cs,L,rfl,h2,hw,h⟩
def rz:List Nat→List AV→cu→cu
 | p::ps,v::vs,fr=>rz ps vs ((p,v)::fr)
 | _,_,fr=>fr
theorem jm.fset {σ:ce} {D':List Deferred}:∀(ps:List Nat) (cs:List AV) (vs:List Value) (fr:cu) (t:Array Value),ps.length=cs.length→(∀p∈ps,p < nt)→dx σ cs vs→jm σ nt D' fr ⟨t,D'⟩→jm σ nt D' (rz ps cs fr) ⟨(ps.zip vs).foldl (fun t q=>t.setIfInBounds q.1 q.2) t,D'⟩
 | [],cs,vs,fr,t,_,_,_,h=>by simpa [rz] using h
 | p::ps,[],vs,fr,t,hl,_,_,h=>by simp at hl
 | p::ps,c::cs,vs,fr,t,hl,hp,hvs,h=>by
  obtain ⟨v,ws,rfl,hv,hs⟩:=hvs.inv
  simp only [rz,List.zip_cons_cons,List.foldl_cons]
  refine jm.fset ps cs ws _ _ (by simpa using hl) (fun q hq=>hp q (Is _ hq)) hs ?_
  have:=h.put (hp p (List.mem_cons_self ..)) hv
  simpa [Act.put] using this
def Ho (P:Program) (l:Nat) (body:Code) (Qb:Exit→Act→World→Prop):Exit→Act→World→Prop:=Exit.then (fun a w=>∃w2,(Instr.beginRound l).run P w= .ok () w2∧body.wpIn (Wd (some l)) 0 P Qb a w2) (fun _ _ _=>False)
theorem kK {l:Nat} {body:Code} {Qb:Exit→Act→World→Prop} {rec:Loop} (hr:rec.state= .ready) (h:AT P (some l) body Qb nt D fr B (L++[(l,gZ { rec with state:= .busy })])):AX P .normal (Ho P l body Qb) nt D fr B (L++[(l,gZ rec)]):=by
 intro σ a w ha hw
 obtain ⟨o,ho,hq⟩:=hw.here (l,gZ rec) (by simp)
 have hq:o= .loop rec:=hq
 rw [hq] at ho
 exact ⟨_,run_beginRound ho hr,h σ a _ ha (hw.turn (a':=gZ { rec with state:= .busy }) rfl)⟩
def H7 (P:Program) (l:Nat) (B:Bs) (Post:AV→AL→Prop):Exit→Act→World→Prop:=roundPost P l (j8 B Post)
theorem pM {l:Nat} {rec:Loop} {Post:AV→AL→Prop} (h:Post (.sc (.bool true)) (L++[(l,gZ { rec with state:= .ready,pending:=none })])):AX P .normal (H7 P l B Post) nt D fr B (L++[(l,gZ rec)]):=by
 intro σ a w ha hw
 obtain ⟨o,ho,hq⟩:=hw.here (l,gZ rec) (by simp)
 have hq:o= .loop rec:=hq
 rw [hq] at ho
 exact ⟨_,_,run_endRound none ho,_,σ,_,_,rfl,.sc _,hw.turn (a':=gZ { rec with state:= .ready,pending:=none }) rfl,h⟩
theorem vD {l:Nat} {rec:Loop} {Post:AV→AL→Prop} (h:Post (.sc (.bool false)) (L++[(l,gZ { rec with state:= .done,pending:=some .ret })])):AX P .ret (H7 P l B Post) nt D fr B (L++[(l,gZ rec)]):=by
 intro σ a w ha hw
 obtain ⟨o,ho,hq⟩:=hw.here (l,gZ rec) (by simp)
 have hq:o= .loop rec:=hq
 rw [hq] at ho
 exact ⟨_,_,run_endRound (some .ret) ho,_,σ,_,_,rfl,.sc _,hw.turn (a':=gZ { rec with state:= .done,pending:=some .ret }) rfl,h⟩
structure Em (rec:Loop) (σ0:ce) (nt:Nat) (fr:cu) (ps:List Nat) (assign body:Code):Prop where
 state:rec.state= .ready
 pending:rec.pending=none
 params:rec.params=ps.toArray
 assign:rec.assign=assign
 body:rec.body=body
 size:rec.tmps.size=nt
 look:∀t c,cw fr t=some c→VR σ0 c (rec.tmps.getD t undef)
theorem tU {rec:Loop} {ps:List Nat} {assign body:Code} {l:Nat} {args:List AV} {Post:AV→AL→Prop} (hr:Em rec σ0 nt fr ps assign body) (hlen:ps.length=args.length) (hps:ps.all (fun p=>Nat.blt p nt)=true)
  (h:∀B,σ0.le B.σ→AT P (some l) assign (Ho P l body (H7 P l B Post)) nt [] (rz ps args fr) B (L++[(l,gZ rec)])):AY P σ0 l args (L++[(l,gZ rec)]) Post:=by
 intro σ w vs hle hvs hst
 obtain ⟨o,ho,hq⟩:=hst.here (l,gZ rec) (by simp)
 have hq:o= .loop rec:=hq
 rw [hq] at ho
 have hl:=hvs.1
 have hy:=run_yield (P:=P) (args:=vs.toArray) ho (by simp [hr.params];omega)
 refine ⟨_,_,_,_,hy,?_⟩
 rw [hr.assign,hr.body]
 refine roundIn_of_wpIn (F:=Fence.wide) trivial ?_
 have hag:jm σ nt [] (rz ps args fr) ⟨(ps.zip vs).foldl (fun t q=>t.setIfInBounds q.1 q.2) rec.tmps,[]⟩:=jm.fset ps args vs fr rec.tmps hlen (fun p hp=>by have:=List.all_eq_true.1 hps p hp;simpa [Nat.blt_eq] using this) hvs ⟨hr.size,rfl,fun t c hc=>(hr.look t c hc).mono hle⟩
 have htm:(rec.params.zip vs.toArray).foldl (fun tmps (q:Nat×Value)=>tmps.setIfInBounds q.1 q.2) rec.tmps=(ps.zip vs).foldl (fun t q=>t.setIfInBounds q.1 q.2) rec.tmps:=by
  rw [hr.params]
  simp
 have:=h ⟨w,σ,(L++[(l,gZ rec)]).map (·.1)⟩ hle σ _ w hag hst
 rw [←htm] at this
 exact this
def Ew (P:Program) (Q:Exit→Act→World→Prop) (nt:Nat) (D:List Deferred) (fr:cu) (B:Bs) (L:AL):Option Code→Prop
 | none=>AX P .normal Q nt D fr B L
 | some .ret=>AX P .ret Q nt D fr B L
 | some (.exit id)=>AX P (.exit id) Q nt D fr B L
 | _=>False
theorem kI {gv:Operand} {ps:List Nat} {assign body:Code} {gf:FuncId} {cap:List AV} [hf:bN P gf] (hg:bO fr gv=some (.fn gf cap))
  (h:∀σ0 l db rec,Em rec σ0 nt fr ps assign body→∃Post,Cx P σ0 gf (.sc (.func (.yield l) #[] #[])::cap) ((L++[(db,iF)])++[(l,gZ rec)]) Post∧∀c L',Post c L'→∃rec' L1,L'.Perm (L1++[(l,gZ rec')])∧rec'.state≠ .busy∧Ew P Q nt ({ target:= .collected db,args:=#[] }::D) fr B L1 rec'.pending):
  AT P none (.rangeFunc gv ps.toArray assign body) Q nt D fr B L:=by
 intro σ a w ha hw
 refine wpIn_rangeFunc ?_
 intro fn hfn
 obtain ⟨rec,hrec⟩:∃rec:Loop,rec={ state:= .ready,pending:=none,fn,tmps:=a.tmps,params:=ps.toArray,assign,body,defers:=w.heap.size }:=⟨_,rfl⟩
 have h1:=(hw.alloc (.deferred (some [])) iF rfl).perm (List.perm_append_comm (l₁:=[(w.heap.size,iF)]))
 have h2:=(h1.alloc (.loop rec) (gZ rec) rfl).perm (List.perm_append_comm (l₁:=[((w.alloc (.deferred (some []))).heap.size,gZ rec)]))
 simp only [World.size_alloc] at h2
 obtain ⟨Post,hac,hpost⟩:=h σ (w.heap.size+1) w.heap.size rec (by rw [hrec];exact ⟨rfl,rfl,rfl,rfl,rfl,ha.size,ha.look⟩)
 obtain ⟨vs,hv,hvs⟩:=(ha.eval hg).fn_inv
 refine ⟨w.heap.size+1,[{ target:= .collected w.heap.size,args:=#[] }],(w.alloc (.deferred (some []))).alloc (.loop rec),{ target:= .fn (.func gf) vs.toArray,args:=#[.func (.yield (w.heap.size+1)) #[] #[]] },(w.alloc (.deferred (some []))).alloc (.loop rec),gf,
  #[.func (.yield (w.heap.size+1)) #[] #[]]++vs.toArray,(w.alloc (.deferred (some []))).alloc (.loop rec),?_,?_,fun _ _=>trivial,?_,fun h=>by simp [Fence.wide] at h,?_⟩
 ·rw [hrec];exact run_enterLoop_outer _ _ _ _ _
 ·simp only [resolve,rangeCall,hv]
  simp [Deferred.ofValue,Act.eval]
 ·simp [invoke,hf.enters]
 ·have hc:=hac σ _ (.func (.yield (w.heap.size+1)) #[] #[]::vs) (ce.le_refl _) (dx.cons (.sc _) hvs) (dC.enter (Lf:=[]) (by rw [List.append_nil];exact h2))
  have e:(#[.func (.yield (w.heap.size+1)) #[] #[]]++vs.toArray:Array Value)=(.func (.yield (w.heap.size+1)) #[] #[]::vs).toArray:=by simp
  rw [e]
  refine oK (hc.mono ?_)
  rintro en W' ⟨v,τ,c,L',rfl,_,hst,hp⟩
  obtain ⟨rec',L1,hperm,hnb,hj⟩:=hpost c L' hp
  have hst2:dC B τ (L1++[(w.heap.size+1,gZ rec')]) W':=((dC.leave (Lf:=[]) (by rw [List.append_nil];exact h2) hst).perm (by rw [List.append_nil];exact hperm))
  obtain ⟨o,ho,hq⟩:=hst2.here (w.heap.size+1,gZ rec') (by simp)
  have hq:o= .loop rec':=hq
  rw [hq] at ho
  have hst3:=(hst2.turn (a':= .raw fun _=>True) (o:= .loop { rec' with state:= .exhausted }) trivial).sublist (List.sublist_append_left ..)
  have hle:σ.le τ:=hst.grow
  have hag:jm τ nt ({ target:= .collected w.heap.size,args:=#[] }::D) fr { a with defers:=[{ target:= .collected w.heap.size,args:=#[] }]++a.defers }:=⟨ha.size,by simp [ha.defers],(ha.mono hle).look⟩
  refine ⟨rec'.pending,_,run_endLoop ho hnb,?_⟩
  generalize W'.putObj _ _=W2 at hst3 ⊢
  unfold Ew at hj
  split at hj
  ·rename_i hpe;rw [hpe];exact hj τ _ _ hag hst3
  ·rename_i hpe;rw [hpe];exact wpIn_ret (hj τ _ _ hag hst3)
  ·rename_i hpe;rw [hpe];exact wpIn_exit (hj τ _ _ hag hst3)
  ·exact hj.elim
end
end Go.Proofs.YtjjpkibjffmceaaGreat
namespace Go.Proofs.YtjjpkibjffmceaaGreat
open Go.RowKit
theorem x9 {σ:ce} {b:Nat} {cs:List AV} {xs:List Value} (hx:dx σ cs xs) (h1:∀u∈xs,u.oneCell'=true) (hb:∀j u,xs[j]?=some u→σ b j=some u):VR σ (.iptr cs) (.pointer (some ⟨b,0,none⟩)):=by
 refine .iptr cs b 0 (fun j hj=>?_) fun j c u hc hu=>?_
 ·have hlt:j < xs.length:=by rw [←hx.1];exact hj
  rw [Nat.zero_add]
  exact ⟨xs[j],hb _ _ (Iz hlt),h1 _ (List.getElem_mem hlt)⟩
 ·have hlt:j < xs.length:=by rw [←hx.1];exact (Io hc).1
  have:=hb _ _ (Iz hlt)
  rw [Nat.zero_add,this] at hu
  injection hu with hu
  subst hu
  exact hx.2 j c _ hc (Iz hlt)
section
variable {P:Program} {r:Option Nat} {ops:Array Oper} {Q:Exit→Act→World→Prop} {nt:Nat} {D:List Deferred} {fr fr':cu} {B:Bs} {L L':AL} {rest:List Oper} {cd:Code}
variable {d:Option Tmp} {ty t t':TypeId} {pos:String} {af:Array Edge} {g:Option (Nat×Bool)} {x y:Operand} {u:AV}
theorem CP {cs:List AV} (hx:bO fr x=some u) (hc:u.cells=some cs) (hn:Nat.ble cs.length 1000000=true):AO P ⟨d,.box t x,ty,pos,af,g⟩ fr B L (fun c L'=>c= .iptr cs∧L'=L):=by
 intro σ ρ w hρ hw
 rw [Nat.ble_eq] at hn
 obtain ⟨k1,k2⟩:=(hρ x u hx).cells hc
 have hl:=k1.1
 have hr:(execOp ρ ⟨d,.box t x,ty,pos,af,g⟩).run P w= .ok (.value (.pointer (some ⟨w.heap.size,0,none⟩))) (w.alloc (.cells (ρ x).cells t)):=by
  simp [execOp,Instr.box,newVar,newRow]
 unfold iN
 rw [hr]
 have ha:=hw.alloc (.cells (ρ x).cells t) (.vec t 1 0 cs.length) ⟨_,rfl,by simp at hl;omega,Nat.zero_le _,by unfold maxLen;omega⟩
 have hnb:(w.alloc (.cells (ρ x).cells t)).heap[w.heap.size]?=some (.cells (ρ x).cells t):=World.alloc_heap_new w _
 obtain ⟨hb,hle⟩:=ha.freezeHead (n':=cs.length) (xs:=(ρ x).cells.toList) (fun j u hj=>by rw [ep hnb];simpa using hj) (by omega) (Nat.zero_le _) (Nat.le_refl _)
 exact ⟨_,_,L,hle,x9 (k1.mono hle) k2 (fun j u hj=>ce.add_at hj),hb.sublist (.cons _ (List.Sublist.refl _)),rfl,rfl⟩
theorem aK {L':AL} (h:L.Perm L'):mK nt D B fr L fr L':=fun σ _ _ ha hw=>⟨σ,ha,hw.perm h⟩
theorem qX {t b e:Nat} {cs:List AV} (i:Nat) (hl:cw fr t=some (.sc (.pointer (some ⟨b,0,none⟩)))) (hL:L[i]?=some (b,.box cs e)) (hn:Nat.ble cs.length 1000000=true):mK nt D B fr L ((t,.iptr cs)::fr) (L.eraseIdx i):=by
 intro σ a w ha hw0
 rw [Nat.ble_eq] at hn
 have hw:=hw0.perm (fP hL)
 obtain ⟨o,ho,vs,rfl,hvs,h1⟩:=hw.here _ (List.mem_cons_self ..)
 have hfree:=hw.free _ (List.mem_cons_self ..)
 have hvl:vs.length=cs.length:=hvs.1.symm
 have hst:dC B σ ((b,.vec e 1 0 cs.length)::L.eraseIdx i) w:=by
  refine ⟨hw.os,hw.tape,hw.output,hw.size,hw.old,fun p hp=>?_,fun p hp=>?_,by simpa using hw.apart,hw.froz,fun p hp off hm=>?_,hw.grow,hw.same,hw.cold⟩
  ·rcases List.mem_cons.1 hp with rfl | hp'
   ·exact ⟨_,ho,_,rfl,by simp [hvl],Nat.zero_le _,by unfold maxLen;omega⟩
   ·exact hw.here p (Is _ hp')
  ·rcases List.mem_cons.1 hp with rfl | hp'
   ·exact hw.mine (b,.box cs e) (List.mem_cons_self ..)
   ·exact hw.mine p (Is _ hp')
  ·rcases List.mem_cons.1 hp with rfl | hp'
   ·exact hfree off trivial
   ·exact hw.free p (Is _ hp') off hm
 obtain ⟨hst',hle⟩:=hst.freezeHead (n':=cs.length) (xs:=vs) (fun j u hj=>by rw [ep ho];simpa using hj) (by omega) (Nat.zero_le _) (Nat.le_refl _)
 refine ⟨_,?_,hst'.sublist (.cons _ (List.Sublist.refl _))⟩
 have ha':=ha.mono hle
 refine ⟨ha'.size,ha'.defers,fun t' v' hl'=>?_⟩
 rw [cG] at hl'
 by_cases e:t=t'
 ·subst e
  simp only [if_true,Option.some.injEq] at hl'
  subst hl'
  rw [(ha.look t _ hl).sc_inv]
  exact x9 (hvs.mono hle) h1 (fun j u hj=>ce.add_at hj)
 ·rw [if_neg e] at hl'
  exact ha'.look t' v' hl'
end
end Go.Proofs.YtjjpkibjffmceaaGreat
