/-
  What is known of a slot's length; data as abstract values.
-/
import Derived.Test.YtjjpkibjffmceaaGreatM05
import Derived.Test.YtjjpkibjffmceaaGreatM04
import Derived.MapKept
namespace Go.Proofs.YtjjpkibjffmceaaGreat
open Go.RowKit
section
variable {P:Program} {r:Option Nat} {ops:Array Oper} {Q:Exit→Act→World→Prop} {nt:Nat} {D:List Deferred} {fr:cu} {B:Bs} {L:AL} {rest:List Oper} {cd:Code} {φ:Prop}
theorem F8 (hφ:∀σ a w,jm σ nt D fr a→dC B σ L w→φ) (h:φ→AT P r cd Q nt D fr B L):AT P r cd Q nt D fr B L:=fun σ a w ha hw=>h (hφ σ a w ha hw) σ a w ha hw
theorem CU (hφ:∀σ a w,jm σ nt D fr a→dC B σ L w→φ) (h:φ→bW P r ops Q nt D rest fr B L):bW P r ops Q nt D rest fr B L:=fun σ a w ha hw=>h (hφ σ a w ha hw) σ a w ha hw
theorem Be {σ:ce} {u:AV} {v:Value} {s:Nat} {l:List (List AV)} (h:VR σ u v) (hu:j9 u=some (s,l)):l.length≤9223372036854775807∧∀e∈l,e.length=s:=by
 have h1:=h.im
 rw [dm hu] at h1
 obtain ⟨_,_,_,h2,h3,h4,_⟩:=h1.imm_inv
 unfold maxLen at h3
 exact ⟨by omega,h4⟩
theorem cH (t:Nat) {u:AV} {s:Nat} {l:List (List AV)} (hl:cw fr t=some u) (hu:j9 u=some (s,l)) (h:l.length≤9223372036854775807→AT P r cd Q nt D fr B L):AT P r cd Q nt D fr B L:=
 F8 (fun σ a w ha _=>(Be (ha.look t u hl) hu).1) h
end
section
variable {P:Program} {nt:Nat} {fr:cu} {B:Bs} {L:AL}
theorem pL {fn:Func} {Post:AV→AL→Prop} {t:Tmp} {c:AV} {s:Nat} {l:List (List AV)} (hr:fn.results=#[.tmp t]) (hv:cw fr t=some c) (hi:j9 c=some (s,l)) (h:Post (.imm s l) L):AX P .ret (bodyPost P fn (j8 B Post)) nt [] fr B L:=
 fun σ a w ha hw=>⟨ha.defers,_,results_tmp hr _ _ _,_,σ,.imm s l,L,rfl,by rw [←dm hi];exact (ha.look t c hv).im,hw,h⟩
end
section
variable {P:Program} {r:Option Nat} {ops:Array Oper} {Q:Exit→Act→World→Prop} {nt:Nat} {D:List Deferred} {fr:cu} {B:Bs} {L:AL} {rest:List Oper} {d:Nat} {ty:TypeId} {pos:String} {af:Array Edge}
def EH (P:Program) (f:FuncId) (args:List AV) (e s:Nat) (l:List (List AV)):Prop:=AC P f args [] fun c L=>∃k,c= .vec k s l∧L=_root_.Go.Proofs.YtjjpkibjffmceaaGreat.tok k e s l.length
theorem xf {f:FuncId} {args:Array Operand} {ts:Array TypeId} {cs ds:List AV} {e s:Nat} {l:List (List AV)} [bN P f] (hc:EH P f ds e s l) (hv:eB fr args.toList=some cs) (hi:jq cs=some ds) (hd:Nat.ble nt d=false) (h:∀k,bW P r ops Q nt D rest ((d,.vec k s l)::fr) B (_root_.Go.Proofs.YtjjpkibjffmceaaGreat.tok k e s l.length++L)):
  bW P r ops Q nt D (⟨some d,.call ⟨.value (.func f),args,ts⟩,ty,pos,af,none⟩::rest) fr B L:=by
 have hc':=hc
 rw [←gE hi] at hc'
 refine dk hd rfl (mN [] L hv (fun σ vs h=>h.im) (Im _) hc') fun c L' hh=>?_
 obtain ⟨L1,⟨k,h1,h2⟩,h3⟩:=hh
 subst h1;subst h2;subst h3
 exact h k
end
def aZ (l:List Int):List (List AV):=l.map fun z=>[.sc (.int .i64 z)]
theorem aQ (l:List Int):(aZ l).length=l.length:=by simp [aZ]
theorem bT {l:List Int} {i:Nat} {z:Int} (h:l[i]?=some z):(aZ l)[i]?=some [.sc (.int .i64 z)]:=by simp [aZ,h]
end Go.Proofs.YtjjpkibjffmceaaGreat
namespace Go.Proofs.YtjjpkibjffmceaaGreat
open Go.RowKit
section
variable {P:Program} {tt:TT} {r:Option Nat} {Q:Exit→Act→World→Prop} {nt:Nat} {D:List Deferred} {fr:cu} {B:Bs} {L:AL} {l:List Oper} {fin:kF}
variable {k j:Nat} {s:Ak} {sk:mF} {acc:cu} {dd:Option Tmp} {op:Op} {ty t t':TypeId} {pos:String} {af:Array Edge} {g:Option (Nat×Bool)} {x y c:Operand} {u:AV} {want b:Bool}
def dl (P:Program) (l:List Oper) (fr:cu) (fin:kF) (k:Nat) (s:Ak) (o:Oper) (sk:mF) (acc:cu) (L:AL):Prop:=l[k]?=some o→DA P l fr fin ((k,s)::sk) acc L
theorem aC {o:Oper} (h:dl P l fr fin k s o sk acc L) (ho:l[k]?=some o:=by rfl):DA P l fr fin ((k,s)::sk) acc L:=h ho
def jt (o:Oper) (acc:cu):Prop:=match o.guard with
 | none=>True
 | some (j,want)=>pe acc j= .sc (.bool want)
theorem nQ {o:Oper} {R:AV→AL→Prop} (hg:jt o acc) (h:∀B,AO P o (dc l.toArray acc fr o.after.toList) B L R):xG P l fr o acc L R:=by
 unfold xG
 unfold jt at hg
 split
 ·exact h
 ·rename_i j want hq
  rw [hq] at hg
  exact .inl ⟨hg,h⟩
theorem ir {o:Oper} (hg:jt o acc) (h:∀B L,AO P o (dc l.toArray acc fr o.after.toList) B L (fun c L'=>c=u∧L'=L)) (hn:DA P l fr fin sk ((k,u)::acc) L):dl P l fr fin k .v o sk acc L:=by
 intro ho
 obtain ⟨pl,hpl⟩:=hn
 exact ⟨.val k u pl,.v,sk,o,rfl,ho,.inl ⟨rfl,fun L=>nQ hg fun B=>h B L⟩,hpl⟩
theorem AK {o:Oper} (hg:jt o acc) (h:∀B,AO P o (dc l.toArray acc fr o.after.toList) B L (fun c L'=>c=u∧L'=L)) (hn:DA P l fr fin sk ((k,u)::acc) L):dl P l fr fin k .l o sk acc L:=by
 intro ho
 obtain ⟨pl,hpl⟩:=hn
 exact ⟨.val k u pl,.l,sk,o,rfl,ho,.inr (.inl ⟨rfl,nQ hg fun B=>h B⟩),hpl⟩
theorem iQ {o:Oper} {R:AV→AL→Prop} (hg:jt o acc) (h:∀B,AO P o (dc l.toArray acc fr o.after.toList) B L R) (hn:∀c L',R c L'→DA P l fr fin sk ((k,c)::acc) L'):dl P l fr fin k .e o sk acc L:=by
 intro ho
 have hn':∀c L',∃pl,R c L'→eI P l fr fin pl sk ((k,c)::acc) L':=fun c L'=>by
  by_cases hr:R c L'
  ·obtain ⟨pl,hpl⟩:=hn c L' hr
   exact ⟨pl,fun _=>hpl⟩
  ·exact ⟨.fin,fun h=>absurd h hr⟩
 exact ⟨.eff k R fun c L'=>Classical.choose (hn' c L'),.e,sk,o,.inl rfl,rfl,ho,nQ hg h,fun c L' hr=>Classical.choose_spec (hn' c L') hr⟩
theorem AJ {o:Oper} (hK:eU fin.gs L) (hg:jt o acc) (h:∀B L,eU fin.gs L→AO P o (dc l.toArray acc fr o.after.toList) B L (fun c L'=>c=u∧L'=L)) (hn:DA P l fr fin sk ((k,u)::acc) L):dl P l fr fin k .k o sk acc L:=by
 intro ho
 obtain ⟨pl,hpl⟩:=hn
 exact ⟨.val k u pl,.k,sk,o,rfl,ho,.inr (.inr ⟨rfl,hK,fun L hL=>nQ hg fun B=>h B L hL⟩),hpl⟩
theorem sH {o:Oper} {R:AV→AL→Prop} (hX:∀c L',R c L'→eU fin.gs L→eU fin.gs L') (hg:jt o acc) (h:∀B,AO P o (dc l.toArray acc fr o.after.toList) B L R) (hn:∀c L',R c L'→DA P l fr fin sk ((k,c)::acc) L'):dl P l fr fin k .f o sk acc L:=by
 intro ho
 have hn':∀c L',∃pl,R c L'→eI P l fr fin pl sk ((k,c)::acc) L':=fun c L'=>by
  by_cases hr:R c L'
  ·obtain ⟨pl,hpl⟩:=hn c L' hr
   exact ⟨pl,fun _=>hpl⟩
  ·exact ⟨.fin,fun h=>absurd h hr⟩
 exact ⟨.eff k R fun c L'=>Classical.choose (hn' c L'),.f,sk,o,.inr (.inr ⟨rfl,hX⟩),rfl,ho,nQ hg h,fun c L' hr=>Classical.choose_spec (hn' c L') hr⟩
theorem F9 {o:Oper} {R:AV→AL→Prop} (hX:∀c L',R c L'→∃X,L'=X++L) (hg:jt o acc) (h:∀B,AO P o (dc l.toArray acc fr o.after.toList) B L R) (hn:∀c L',R c L'→DA P l fr fin sk ((k,c)::acc) L'):dl P l fr fin k .a o sk acc L:=by
 intro ho
 have hn':∀c L',∃pl,R c L'→eI P l fr fin pl sk ((k,c)::acc) L':=fun c L'=>by
  by_cases hr:R c L'
  ·obtain ⟨pl,hpl⟩:=hn c L' hr
   exact ⟨pl,fun _=>hpl⟩
  ·exact ⟨.fin,fun h=>absurd h hr⟩
 exact ⟨.eff k R fun c L'=>Classical.choose (hn' c L'),.a,sk,o,.inr (.inl ⟨rfl,hX⟩),rfl,ho,nQ hg h,fun c L' hr=>Classical.choose_spec (hn' c L') hr⟩
theorem lK {op:Op} (hj:pe acc j= .sc (.bool b)) (hb:(b==want)=false) (hn:DA P l fr fin sk ((k,.sc undef)::acc) L):dl P l fr fin k .v ⟨dd,op,ty,pos,af,some (j,want)⟩ sk acc L:=by
 intro ho
 obtain ⟨pl,hpl⟩:=hn
 exact ⟨.val k (.sc undef) pl,.v,sk,_,rfl,ho,.inl ⟨rfl,fun L=> .inr ⟨⟨_,hj,fun e=>by injection e with e;subst e;simp at hb⟩,rfl,rfl⟩⟩,hpl⟩
theorem Gl {op:Op} (hj:pe acc j= .sc undef) (hn:DA P l fr fin sk ((k,.sc undef)::acc) L):dl P l fr fin k .v ⟨dd,op,ty,pos,af,some (j,want)⟩ sk acc L:=by
 intro ho
 obtain ⟨pl,hpl⟩:=hn
 exact ⟨.val k (.sc undef) pl,.v,sk,_,rfl,ho,.inl ⟨rfl,fun L=> .inr ⟨⟨_,hj,fun e=>by simp [undef] at e⟩,rfl,rfl⟩⟩,hpl⟩
theorem FB {o:Oper} {fr:cu} (h:Av P o fr u):∀B L,AO P o fr B L (fun c L'=>c=u∧L'=L):=fun _ _=>h.ao
theorem b7 (ok:fp P tt) (h:DA P l fr fin sk ((k,u)::acc) L) (hu:qR tt (dc l.toArray acc fr af.toList) op=some u:=by rfl) (hg:jt ⟨dd,op,ty,pos,af,g⟩ acc:=by first | trivial | rfl):dl P l fr fin k .v ⟨dd,op,ty,pos,af,g⟩ sk acc L:=ir hg (FB (qS ok hu)) h
theorem fq {bop:BinOp} (h:dl P l fr fin k .v ⟨dd,.binOp bop t x y t',ty,pos,af,g⟩ sk acc L):dl P l fr fin k .v ⟨dd,.binOp bop t x y t',ty,pos,af,g⟩ sk acc L:=h
theorem gK {bop:BinOp} (h:DA P l fr fin sk ((k,u)::acc) L) (ho:Av P ⟨dd,.binOp bop t x y t',ty,pos,af,g⟩ (dc l.toArray acc fr af.toList) u:=by first | exact wK rfl rfl (by omega) | exact wQ rfl rfl (by omega) | exact wO rfl rfl (by omega)) (hg:jt ⟨dd,.binOp bop t x y t',ty,pos,af,g⟩ acc:=by first | trivial | rfl):dl P l fr fin k .v ⟨dd,.binOp bop t x y t',ty,pos,af,g⟩ sk acc L:=ir hg (FB ho) h
theorem bY (h:dl P l fr fin k .v ⟨dd,.indexAddr t x y,ty,pos,af,g⟩ sk acc L):dl P l fr fin k .v ⟨dd,.indexAddr t x y,ty,pos,af,g⟩ sk acc L:=h
theorem cn (ok:fp P tt) {e sz by_ s:Nat} {ll:List (List AV)} {ik:IntKind} {i:Int} {es:List AV} (h:DA P l fr fin sk ((k,.iptr es)::acc) L) (ht:nH tt t=some (e,sz,by_):=by rfl) (hx:bO (dc l.toArray acc fr af.toList) x=some u:=by rfl) (hu:j9 u=some (s,ll):=by rfl) (hs:Nat.beq s sz=true:=by rfl) (hy:bO (dc l.toArray acc fr af.toList) y=some (.sc (.int ik i)):=by rfl) (h0:0≤i:=by omega) (hl:ll[i.toNat]?=some es:=by first | assumption | (simp only [Int.toNat_natCast];assumption)) (hg:jt ⟨dd,.indexAddr t x y,ty,pos,af,g⟩ acc:=by first | trivial | rfl):dl P l fr fin k .v ⟨dd,.indexAddr t x y,ty,pos,af,g⟩ sk acc L:=ir hg (FB (wM (cf ok ht).1 hx (dm hu) hs hy h0 hl)) h
theorem bE {f:FuncId} {args:Array Operand} {ts:Array TypeId} (h:dl P l fr fin k .v ⟨dd,.call ⟨.value (.func f),args,ts⟩,ty,pos,af,g⟩ sk acc L):dl P l fr fin k .v ⟨dd,.call ⟨.value (.func f),args,ts⟩,ty,pos,af,g⟩ sk acc L:=h
theorem bS {f:FuncId} {args:Array Operand} {ts:Array TypeId} {cs ds:List AV} [bN P f] (h:DA P l fr fin sk ((k,u)::acc) L) (hv:eB (dc l.toArray acc fr af.toList) args.toList=some cs:=by rfl) (hi:jq cs=some ds:=by rfl) (hc:AD P f ds u:=by infer_instance) (hg:jt ⟨dd,.call ⟨.value (.func f),args,ts⟩,ty,pos,af,g⟩ acc:=by first | trivial | rfl):dl P l fr fin k .v ⟨dd,.call ⟨.value (.func f),args,ts⟩,ty,pos,af,g⟩ sk acc L:=ir hg (fun _ _=>Ac hv (by rw [gE hi];exact hc.det)) h
theorem dt (ok:fp P tt) (i:Nat) {b kk:Nat} {cs:List AV} {e:TypeId} (ht:EF tt t=true) (hx:bO (dc l.toArray acc fr af.toList) x=some (.sc (.pointer (some ⟨b,kk,none⟩)))) (hL:L[i]?=some (b,.box cs e)) (hc:cs[kk]?=some u) (hg:jt ⟨dd,.load t x,ty,pos,af,g⟩ acc) (h:DA P l fr fin sk ((k,u)::acc) L):dl P l fr fin k .l ⟨dd,.load t x,ty,pos,af,g⟩ sk acc L:=AK hg (fun _=>sw i (dh ok ht) hx hL hc) h
theorem wY (ok:fp P tt) (i:Nat) {b kk n:Nat} {cs:List AV} {e:TypeId} (ht:FU tt t=some n) (hx:bO (dc l.toArray acc fr af.toList) x=some (.sc (.pointer (some ⟨b,kk,none⟩)))) (hL:L[i]?=some (b,.box cs e)) (hc:Nat.ble (kk+n) cs.length=true) (hg:jt ⟨dd,.load t x,ty,pos,af,g⟩ acc) (h:DA P l fr fin sk ((k,.agg ((cs.drop kk).take n))::acc) L):dl P l fr fin k .l ⟨dd,.load t x,ty,pos,af,g⟩ sk acc L:=AK hg (fun _=>tL i (ct ok ht) hx hL hc) h
theorem yx {gs:KpL} {i b kk:Nat} {v:AV} (hi:gs[i]?=some (.cell (b,kk,v))) {L:AL} (h:eU gs L):∃(j:Nat) (cs:List AV) (e:TypeId),L[j]?=some (b,.box cs e)∧cs[kk]?=some v:=by
 obtain ⟨cs,e,h1,h2⟩:=h _ (Iw hi)
 obtain ⟨j,hj⟩:=List.mem_iff_getElem?.1 h1
 exact ⟨j,cs,e,hj,h2⟩
theorem eT (ok:fp P tt) (i:Nat) {b kk:Nat} (ht:EF tt t=true) (hx:bO (dc l.toArray acc fr af.toList) x=some (.sc (.pointer (some ⟨b,kk,none⟩)))) (hi:fin.gs[i]?=some (.cell (b,kk,u))) (hK:eU fin.gs L) (hg:jt ⟨dd,.load t x,ty,pos,af,g⟩ acc) (h:DA P l fr fin sk ((k,u)::acc) L):dl P l fr fin k .k ⟨dd,.load t x,ty,pos,af,g⟩ sk acc L:=
 AJ hK hg (fun _ L' hL'=>by
  obtain ⟨j,cs,e,h1,h2⟩:=yx hi hL'
  exact sw j (dh ok ht) hx h1 h2) h
theorem wR {d:Option Tmp} {e sz by_ n:Nat} {parts:Array (Nat×Operand)} {vs:List AV} {xs:List (List AV)} (hc:oC P t e sz by_) (hsz:0 < sz) (hv:eB fr (parts.toList.map (·.2))=some vs) (hxs:jS vs=some xs) (hn:Nat.beq xs.length n=true) (hi:parts.toList.map (·.1)=List.range' 0 n) (hz:xs.all (fun q=>Nat.beq q.length sz)=true) (h24:Nat.ble (n * sz) 16777216=true):
  AO P ⟨d,.buildSlice t n parts,ty,pos,af,g⟩ fr B L (fun c L'=>c= .imm sz xs∧L'=L):=by
 intro σ ρ w hρ hw
 refine (Ae hc hsz hv hxs hn hi hz h24 σ ρ w hρ hw).mono fun v w' hh=>?_
 obtain ⟨τ,c,L',h1,h2,h3,b,rfl,rfl⟩:=hh
 exact ⟨τ,_,L,h1,h2.im,h3.sublist (.cons _ (List.Sublist.refl _)),rfl,rfl⟩
theorem eS (ok:fp P tt) {e sz by_ n:Nat} {parts:Array (Nat×Operand)} {vs:List AV} {xs:List (List AV)} (h:DA P l fr fin sk ((k,.imm sz xs)::acc) L) (ht:nH tt t=some (e,sz,by_):=by rfl) (hv:eB (dc l.toArray acc fr af.toList) (parts.toList.map (·.2))=some vs:=by rfl) (hxs:jS vs=some xs:=by rfl) (hn:Nat.beq xs.length n=true:=by rfl) (hi:parts.toList.map (·.1)=List.range' 0 n:=by rfl) (hz:xs.all (fun q=>Nat.beq q.length sz)=true:=by rfl) (h24:Nat.ble (n * sz) 16777216=true:=by rfl) (hg:jt ⟨dd,.buildSlice t n parts,ty,pos,af,g⟩ acc:=by first | trivial | rfl):
  dl P l fr fin k .v ⟨dd,.buildSlice t n parts,ty,pos,af,g⟩ sk acc L:=ir hg (fun _ _=>wR (cf ok ht).1 (cf ok ht).2 hv hxs hn hi hz h24) h
theorem bG (ok:fp P tt) {r:Option Nat} {ops:Array Oper} {Q:Exit→Act→World→Prop} {nt:Nat} {D:List Deferred} {rest:List Oper} {d e sz by_ n:Nat} {parts:Array (Nat×Operand)} {vs:List AV} {xs:List (List AV)} (h:bW P r ops Q nt D rest ((d,.imm sz xs)::fr) B L) (ht:nH tt t=some (e,sz,by_):=by rfl) (hv:eB fr (parts.toList.map (·.2))=some vs:=by rfl) (hxs:jS vs=some xs:=by rfl) (hn:Nat.beq xs.length n=true:=by rfl) (hi:parts.toList.map (·.1)=List.range' 0 n:=by rfl) (hz:xs.all (fun q=>Nat.beq q.length sz)=true:=by rfl) (h24:Nat.ble (n * sz) 16777216=true:=by rfl) (hd:Nat.ble nt d=false:=by rfl):
  bW P r ops Q nt D (⟨some d,.buildSlice t n parts,ty,pos,af,none⟩::rest) fr B L:=by
 obtain ⟨h1,h2⟩:=cf ok ht
 refine dk hd rfl (wR h1 h2 hv hxs hn hi hz h24) fun c L' hh=>?_
 obtain ⟨h1,h2⟩:=hh
 subst h1;subst h2
 exact h
theorem bo {gs:KpL} {n0:Nat} {fr0:cu} {rest:List Oper} (ks:List Nat) (hk:i6 (iS l.toArray acc fr n0) ks=some fr0) (hr:l.drop n0=rest) (h:bW P r l.toArray Q nt D rest fr0 B L):DA P l fr ⟨B0 P r l n0 Q nt D fr B none,gs⟩ [] acc L:=
 ⟨.fin,rfl,by rw [←hr] at h;exact tR (eC ks hk) (fun _ _ h=>h) h⟩
theorem HU {gs:KpL} {n0:Nat} {fr0:cu} {rest:List Oper} (ks:List Nat) (zz:i6 (iS l.toArray acc fr n0) ks=some fr0∧l.drop n0=rest) (h:bW P r l.toArray Q nt D rest fr0 B L):DA P l fr ⟨B0 P r l n0 Q nt D fr B none,gs⟩ [] acc L:=bo ks zz.1 zz.2 h
theorem je {gs:KpL} {n0 kk:Nat} {ab:AB} {rest:List Oper} (ks:List Nat) (fr0:Nat→cu) (hk:∀b,i6 (iS l.toArray ((kk,.sc (.pointer (some ⟨b,0,none⟩)))::acc) fr n0) ks=some (fr0 b)) (hr:l.drop n0=rest) (h:∀b,bW P r l.toArray Q nt D rest (fr0 b) B (L++[(b,ab)])):DA P l fr ⟨B0 P r l n0 Q nt D fr B (some (kk,ab)),gs⟩ [] acc L:=
 ⟨.fin,rfl,fun b=>by have:=h b;rw [←hr] at this;exact tR (eC ks (hk b)) (fun _ _ h=>h) this⟩
end
end Go.Proofs.YtjjpkibjffmceaaGreat
namespace Go.Proofs.YtjjpkibjffmceaaGreat
open Go.RowKit
attribute [local irreducible] AT bW AX AO Av Kt bA eI DA dl
def mw (l:List Int) (n:Nat):List Int:=((List.range n).map Int.ofNat).filter (l.contains ·)
theorem kZ (a b:List Int):aZ a++aZ b=aZ (a++b):=by simp [aZ]
end Go.Proofs.YtjjpkibjffmceaaGreat
namespace Go.Proofs.YtjjpkibjffmceaaGreat
open Go.RowKit
abbrev aP (z:Int):AV:= .sc (.int .i64 z)
abbrev gO (s:ByteArray):AV:= .sc (.string s)
abbrev cx (b:Bool):AV:= .sc (.bool b)
structure eP where
 X:Int
 Y:Int
 On:Bool
structure cP where
 Glyph:Int
 X:Int
 Y:Int
structure dT where
 Kind:Int
 Class:Int
 X:Int
 Y:Int
structure eb where
 Region:Int
 Point:Int
 X:Int
 Y:Int
structure eL where
 Op:Int
 A:Int
structure br where
 Name:ByteArray
 Advance:Int
 Mark:Bool
 Points:List eP
 Ends:List Int
 Parts:List cP
 Anchors:List dT
 Deltas:List eb
 Hint:List eL
structure eN where
 Rune:Int
 Glyph:Int
structure gw where
 At:Int
 Lookup:Int
structure bX where
 Back:List (List Int)
 In:List (List Int)
 Ahead:List (List Int)
 Out:List Int
 Calls:List gw
 X:Int
structure bb where
 Kind:Int
 Ignore:Bool
 Rules:List bX
structure bL where
 Name:ByteArray
 Lookups:List Int
structure eM where
 Name:ByteArray
 Min:Int
 Def:Int
 Max:Int
structure eu where
 Start:Int
 Peak:Int
 End:Int
structure aL where
 Unit:Int
 Glyphs:List br
 Chars:List eN
 Lookups:List bb
 Features:List bL
 Axes:List eM
 Regions:List (List eu)
 Funcs:List (List eL)
 Cvt:List Int
def bv (l:List (List Int)):List (List AV):=l.map fun q=>[.imm 1 (aZ q)]
def gg (l:List ByteArray):List (List AV):=l.map fun s=>[gO s]
def cM (p:eP):List AV:=[aP p.X,aP p.Y,cx p.On]
def cm (p:cP):List AV:=[aP p.Glyph,aP p.X,aP p.Y]
def cF (p:dT):List AV:=[aP p.Kind,aP p.Class,aP p.X,aP p.Y]
def dq (p:eb):List AV:=[aP p.Region,aP p.Point,aP p.X,aP p.Y]
def dQ (p:eL):List AV:=[aP p.Op,aP p.A]
def bC (g:br):List AV:=[gO g.Name,aP g.Advance,cx g.Mark,.imm 3 (g.Points.map cM),.imm 1 (aZ g.Ends),.imm 3 (g.Parts.map cm),.imm 4 (g.Anchors.map cF),.imm 4 (g.Deltas.map dq),.imm 2 (g.Hint.map dQ)]
def cy (c:eN):List AV:=[aP c.Rune,aP c.Glyph]
def dI (c:gw):List AV:=[aP c.At,aP c.Lookup]
def bI (r:bX):List AV:=[.imm 1 (bv r.Back),.imm 1 (bv r.In),.imm 1 (bv r.Ahead),.imm 1 (aZ r.Out),.imm 2 (r.Calls.map dI),aP r.X]
def bj (l:bb):List AV:=[aP l.Kind,cx l.Ignore,.imm 6 (l.Rules.map bI)]
def bt (t:bL):List AV:=[gO t.Name,.imm 1 (aZ t.Lookups)]
def cD (a:eM):List AV:=[gO a.Name,aP a.Min,aP a.Def,aP a.Max]
def fY (t:eu):List AV:=[aP t.Start,aP t.Peak,aP t.End]
def bw (r:List eu):List AV:=[.imm 3 (r.map fY)]
def cR (l:List eL):List AV:=[.imm 2 (l.map dQ)]
def cb (f:aL):List AV:=[aP f.Unit,.imm 9 (f.Glyphs.map bC),.imm 2 (f.Chars.map cy),.imm 3 (f.Lookups.map bj),.imm 2 (f.Features.map bt),.imm 4 (f.Axes.map cD),.imm 1 (f.Regions.map bw),.imm 1 (f.Funcs.map cR),.imm 1 (aZ f.Cvt)]
abbrev cr (f:aL):AV:= .agg (cb f)
theorem bi {α:Type} {c:α→List AV} {l:List α} {i:Nat} {a:α} (h:l[i]?=some a):(l.map c)[i]?=some (c a):=by simp [h]
theorem fk (l:List ByteArray):(gg l).length=l.length:=by simp [gg]
theorem vb {l:List ByteArray} {i:Nat} {z:ByteArray} (h:l[i]?=some z):(gg l)[i]?=some [gO z]:=by simp [gg,h]
theorem gt (l:List (List Int)):(bv l).length=l.length:=by simp [bv]
theorem oo {l:List (List Int)} {i:Nat} {z:List Int} (h:l[i]?=some z):(bv l)[i]?=some [.imm 1 (aZ z)]:=by simp [bv,h]
end Go.Proofs.YtjjpkibjffmceaaGreat
namespace Go.Proofs.YtjjpkibjffmceaaGreat
open Go.RowKit
attribute [local irreducible] AT bW AX AO Av Kt bA eI DA dl
def gk (l:List ByteArray) (s:ByteArray):Bool:=l.any fun t=>decide (t=s)
theorem qe {l:List ByteArray} {s:ByteArray}:gk l s=true↔s∈l:=by
 unfold gk
 rw [List.any_eq_true]
 constructor
 ·rintro ⟨t,h1,h2⟩;rw [←Iy h2];exact h1
 ·intro h;exact ⟨s,h,decide_eq_true rfl⟩
def mP (f:aL) (n:Int):Bool:=match f.Lookups[n.toNat]? with
 | some l=>decide (0≤n∧(l.Kind=1∨l.Kind=2∨l.Kind=3∨l.Kind=4))
 | none=>false
theorem sB (f:aL) (n:Int):bV Tryz.prog 50 [cr f,aP n] (cx (mP f n)):=by
 refine aS Tryz.func50 rfl Tryz.ntmps50 rfl fun B=>?_
 repeat' (first|refine go ?_|refine HK a6 FS ?_|refine bh ?_|fail)
 refine eo [1,2] (n < 0∨(f.Lookups.length:Int)≤n) rfl (fun Q' K=>?_) (fun hC=>?_) (fun hC=>?_)
 ·repeat' (first|refine go ?_|refine HK a6 FS ?_|refine HV FS ?_|refine HW HF ?_|refine bk rfl rfl rfl (fun _=>?_) (fun _=>?_))
  all_goals exact K _ _ rfl rfl (by simp_all <;> omega)
 ·repeat' (first|refine go ?_|refine HK a6 FS ?_)
  refine HS FS ?_
  unfold mP
  split
  ·rename_i l hl
   have:=(Io hl).1
   rw [decide_eq_false (by omega)]
  ·rfl
 ·obtain ⟨l,hl⟩:∃l,f.Lookups[n.toNat]?=some l:=⟨_,Iz (by omega)⟩
  have hlg:=bi (c:=bj) hl
  have hcn:mP f n=decide (l.Kind=1∨l.Kind=2∨l.Kind=3∨l.Kind=4):=by
   unfold mP
   rw [hl]
   simp only [show 0≤n by omega,true_and]
  rw [hcn]
  repeat' (first|refine go ?_|refine ak ?_|refine HK a6 FS ?_|(apply aU;first|refine aT a6 ?_|refine aM a6 ?_)|fail)
  refine ay rfl (fun h1=>?_) (fun h1=>?_)
  ·repeat' (first|refine go ?_|fail)
   refine ay rfl (fun _=>?_) (fun h'=>absurd (h1.symm.trans h') (by decide))
   repeat' (first|refine go ?_|refine HK a6 FS ?_)
   refine HS FS ?_
   rw [decide_eq_true (Or.inl (Iy h1))]
  repeat' (first|refine go ?_|refine HK a6 FS ?_)
  refine ay rfl (fun h2=>?_) (fun h2=>?_)
  ·repeat' (first|refine go ?_|fail)
   refine ay rfl (fun _=>?_) (fun h'=>absurd (h2.symm.trans h') (by decide))
   repeat' (first|refine go ?_|refine HK a6 FS ?_)
   refine HS FS ?_
   rw [decide_eq_true (Or.inr (Or.inl (Iy h2)))]
  repeat' (first|refine go ?_|refine HK a6 FS ?_)
  refine ay rfl (fun h3=>?_) (fun h3=>?_)
  ·repeat' (first|refine go ?_|fail)
   refine ay rfl (fun _=>?_) (fun h'=>absurd (h3.symm.trans h') (by decide))
   repeat' (first|refine go ?_|refine HK a6 FS ?_)
   refine HS FS ?_
   rw [decide_eq_true (Or.inr (Or.inr (Or.inl (Iy h3))))]
  repeat' (first|refine go ?_|refine HK a6 FS ?_)
  refine ay rfl (fun h4=>?_) (fun h4=>?_)
  ·repeat' (first|refine go ?_|refine HK a6 FS ?_)
   refine HS FS ?_
   rw [decide_eq_true (Or.inr (Or.inr (Or.inr (Iy h4))))]
  repeat' (first|refine go ?_|refine HK a6 FS ?_)
  refine HS FS ?_
  rw [decide_eq_false]
  intro hh
  rcases hh with hh | hh | hh | hh
  ·exact Ix h1 hh
  ·exact Ix h2 hh
  ·exact Ix h3 hh
  ·exact Ix h4 hh
instance (f:aL) (n:Int):AD Tryz.prog 50 [cr f,aP n] (cx (mP f n)):=⟨sB f n⟩
def qN (l:List (List Int)):Nat:=(l.map fun q=>1+q.length).sum
def oX (r:bX):Nat:=r.Out.length+r.Calls.length+(qN r.Back+qN r.In+qN r.Ahead)
def mq (l:List bX):Nat:=l.length+(l.map oX).sum
def o9 (g:br):Nat:=g.Points.length+g.Parts.length+g.Anchors.length+g.Deltas.length+g.Hint.length+g.Name.size / 100
def featN (t:bL):Nat:=t.Lookups.length+t.Name.size / 100
def lM (f:aL):Nat:=f.Glyphs.length+f.Chars.length+f.Lookups.length+f.Features.length+f.Axes.length+f.Regions.length+f.Funcs.length+f.Cvt.length+(f.Glyphs.map o9).sum+(f.Lookups.map fun l=>mq l.Rules).sum+(f.Funcs.map (·.length)).sum+(f.Features.map featN).sum+(f.Regions.map (·.length)).sum
def ev (f:aL):Prop:=lM f≤2000
theorem tr {α:Type} {g:α→Nat} {l:List α} {a:α} (h:a∈l):g a≤(l.map g).sum:=by
 induction l with
 | nil=>cases h
 | cons b l ih=>
  rw [Ip,List.sum_cons]
  rcases List.mem_cons.1 h with h | h
  ·subst h;omega
  ·have:=ih h;omega
section
variable {f:aL} (hs:ev f)
include hs
theorem ev.glyphs:f.Glyphs.length≤2000:=by unfold ev lM at hs;omega
theorem ev.lookups:f.Lookups.length≤2000:=by unfold ev lM at hs;omega
theorem ev.features:f.Features.length≤2000:=by unfold ev lM at hs;omega
theorem ev.rules {l:bb} (h:l∈f.Lookups):mq l.Rules≤2000:=by
 have:=tr (g:=fun l:bb=>mq l.Rules) h
 unfold ev lM at hs
 omega
theorem ev.rulesL {l:bb} (h:l∈f.Lookups):l.Rules.length≤2000:=by
 have:=hs.rules h
 unfold mq at this
 omega
theorem ev.rule {l:bb} {r:bX} (h:l∈f.Lookups) (hr:r∈l.Rules):oX r≤2000:=by
 have:=hs.rules h
 have:=tr (g:=oX) hr
 unfold mq at *
 omega
theorem ev.calls {l:bb} {r:bX} (h:l∈f.Lookups) (hr:r∈l.Rules):r.Calls.length≤2000:=by
 have:=hs.rule h hr
 unfold oX at this
 omega
theorem ev.out {l:bb} {r:bX} (h:l∈f.Lookups) (hr:r∈l.Rules):r.Out.length≤2000:=by
 have:=hs.rule h hr
 unfold oX at this
 omega
end
inductive lI (f:aL) (fs:List ByteArray):Int→Prop
 | base {t:bL} {n:Int} (h:t∈f.Features) (hn:gk fs t.Name=true) (hm:n∈t.Lookups) (h0:0≤n) (h1:n < f.Lookups.length):lI f fs n
 | call {m:Int} {l:bb} {r:bX} {c:gw} (h:lI f fs m) (hl:f.Lookups[m.toNat]?=some l) (hk:l.Kind=4) (hr:r∈l.Rules) (hc:c∈r.Calls) (hn:mP f c.Lookup=true):lI f fs c.Lookup
theorem tY {f:aL} {n:Int} (h:mP f n=true):0≤n∧n < f.Lookups.length:=by
 unfold mP at h
 split at h
 ·rename_i l hl
  have:=(Io hl).1
  have:=Iy h
  omega
 ·cases h
theorem lI.in {f:aL} {fs:List ByteArray} {n:Int} (h:lI f fs n):0≤n∧n < f.Lookups.length:=by
 cases h with
 | base _ _ _ h0 h1=>exact ⟨h0,h1⟩
 | call _ _ _ _ _ h=>exact tY h
theorem Cd {l:List Int} {n:Nat} {z:Int}:z∈mw l n↔z∈l∧0≤z∧z < n:=by
 unfold mw
 rw [List.mem_filter,List.mem_map]
 constructor
 ·rintro ⟨⟨i,hi,rfl⟩,h⟩
  rw [List.mem_range] at hi
  refine ⟨by simpa using h,by simp,by simpa using hi⟩
 ·rintro ⟨h,h0,h1⟩
  exact ⟨⟨z.toNat,by rw [List.mem_range];omega,by simp;omega⟩,by simpa using h⟩
theorem wy (l:List Int) (n:Nat):(mw l n).Nodup:=by
 unfold mw
 rw [List.nodup_iff_pairwise_ne]
 refine List.Pairwise.filter _ ?_
 rw [List.pairwise_map]
 exact (List.nodup_iff_pairwise_ne.1 List.nodup_range).imp fun h e=>h (by injection e)
open Classical in
noncomputable def cW (f:aL) (fs:List ByteArray):List Int:=((List.range f.Lookups.length).map Int.ofNat).filter fun z=>decide (lI f fs z)
open Classical in
theorem wz {f:aL} {fs:List ByteArray} {l:List Int} (h:∀z:Int,0≤z→z < f.Lookups.length→(z∈l↔lI f fs z)):mw l f.Lookups.length=cW f fs:=by
 unfold mw cW
 refine List.filter_congr fun z hz=>?_
 rw [List.mem_map] at hz
 obtain ⟨i,hi,rfl⟩:=hz
 rw [List.mem_range] at hi
 have:=h (Int.ofNat i) (by simp) (by simpa using hi)
 rw [Bool.eq_iff_iff,List.contains_iff_mem,decide_eq_true_iff]
 exact this
theorem gH {l:List Int} {n:Nat} (h:l.Nodup) (hi:∀z∈l,0≤z∧z < n):l.length≤n:=by
 induction n generalizing l with
 | zero=>
  cases l with
  | nil=>exact Nat.zero_le _
  | cons a l=>have:=hi a (List.mem_cons_self ..);omega
 | succ n ih=>
  by_cases hm:(n:Int)∈l
  ·have h1:=ih (l:=l.erase n) (h.erase _) fun z hz=>by
    have:=(h.mem_erase_iff).1 hz
    have:=hi z this.2
    omega
   rw [List.length_erase_of_mem hm] at h1
   omega
  ·have:=ih h fun z hz=>by
    have:=hi z hz
    have:z≠n:=fun e=>hm (e▸hz)
    omega
   omega
end Go.Proofs.YtjjpkibjffmceaaGreat
namespace Go.Proofs.YtjjpkibjffmceaaGreat
open Go.RowKit Go.MapKept
def kH (d:TypeDesc) (m:Value→Option AV) (σ:ce) (o:Obj):Prop:=
 ∃es clock,o= .map es clock∧(∀x∈es.toList,IsKey d x.key∧∃c,m x.key=some c∧VR σ c x.val)∧es.toList.Pairwise (fun x y=>x.key≠y.key)∧∀k c,m k=some c→∃x∈es.toList,x.key=k
def cj (d:TypeDesc) (m:Value→Option AV):AB:= .dep (kH d m) fun σ τ o hle ⟨es,clock,h1,h2,h3,h4⟩=>⟨es,clock,h1,fun x hx=>by
 obtain ⟨a,c,e,f⟩:=h2 x hx
 exact ⟨a,c,e,f.mono hle⟩,h3,h4⟩
theorem kH.none {d:TypeDesc} {m:Value→Option AV} {σ:ce} {es:Array MapEntry} {clock:Nat} {k:Value} (h:kH d m σ (.map es clock)) (hk:IsKey d k) (hm:m k=none):Instr.findNow d k es.toList 0=some none:=by
 obtain ⟨es',clock',h1,h2,h3,h4⟩:=h
 cases h1
 rcases findNow_spec hk es.toList 0 (fun x hx=>(h2 x hx).1) with ⟨h5,_⟩ | ⟨j,e,h5,h6,h7⟩
 ·exact h5
 ·obtain ⟨_,c,h8,_⟩:=h2 e (Iw h6)
  rw [h7,hm] at h8
  cases h8
theorem kH.some {d:TypeDesc} {m:Value→Option AV} {σ:ce} {es:Array MapEntry} {clock:Nat} {k:Value} {c:AV} (h:kH d m σ (.map es clock)) (hk:IsKey d k) (hm:m k=some c):∃(j:Nat) (e:MapEntry),Instr.findNow d k es.toList 0=some (some (j,e.val))∧es[j]?=some e∧e.key=k∧VR σ c e.val:=by
 obtain ⟨es',clock',h1,h2,h3,h4⟩:=h
 cases h1
 rcases findNow_spec hk es.toList 0 (fun x hx=>(h2 x hx).1) with ⟨_,h5⟩ | ⟨j,e,h5,h6,h7⟩
 ·obtain ⟨x,hx,hk'⟩:=h4 k c hm
  exact absurd hk' (h5 x hx)
 ·obtain ⟨_,c',h8,h9⟩:=h2 e (Iw h6)
  rw [h7,hm] at h8
  cases h8
  exact ⟨j,e,by simpa using h5,by simpa using h6,h7,h9⟩
section
variable {P:Program} {fr:cu} {B:Bs} {L:AL} {d:Option Tmp} {ty t:TypeId} {pos:String} {af:Array Edge} {g:Option (Nat×Bool)} {x y z:Operand} {u:AV}
theorem vB (kd:TypeDesc):AO P ⟨d,.makeMap t none,ty,pos,af,g⟩ fr B L (fun c L'=>∃b,c= .sc (.map (some b))∧L'=(b,cj kd fun _=>none)::L):=by
 intro σ ρ w hρ hw
 have hr:(execOp ρ ⟨d,.makeMap t none,ty,pos,af,g⟩).run P w= .ok (.value (.map (some w.heap.size))) (w.alloc (.map #[] 0)):=by
  simp [execOp,Instr.makeMap]
 unfold iN
 rw [hr]
 exact ⟨σ,_,_,ce.le_refl _,.sc _,hw.alloc _ (cj kd fun _=>Option.none) ⟨#[],0,rfl,by simp,by simp,by simp⟩,_,rfl,rfl⟩
theorem sx (i:Nat) {b kt et:Nat} {kd:TypeDesc} {k:Value} {m m':Value→Option AV} (ht:P.underlying t=some (.map kt et)) (hkt:P.underlying kt=some kd) (hx:bO fr x=some (.sc (.map (some b)))) (hy:bO fr y=some (.sc k)) (hk:IsKey kd k) (hz:bO fr z=some u) (hL:L[i]?=some (b,cj kd m)) (h1:m' k=some u) (h2:∀q,q≠k→m' q=m q):
  AO P ⟨d,.mapUpdate t x y z,ty,pos,af,g⟩ fr B L (fun _ L'=>L'=g7 L i (cj kd m')):=by
 intro σ ρ w hρ hw
 obtain ⟨o,ho,hM⟩:=hw.here _ (Iw hL)
 have hM':kH kd m σ o:=hM
 obtain ⟨es,clock,rfl,h3,h4,h5⟩:=hM'
 have hM':kH kd m σ (.map es clock):=hM
 have hv:=hρ z u hz
 have hlt:b < w.heap.size:=(Array.getElem?_eq_some_iff.1 ho).1
 have key:∃es' clock',(Instr.mapUpdate t (.map (some b)) k (ρ z)).run P w= .ok () (w.putObj b (.map es' clock'))∧kH kd m' σ (.map es' clock'):=by
  cases hm:m k with
  | none=>
   refine ⟨es.push ⟨k,ρ z,clock⟩,clock+1,?_,_,_,rfl,?_,?_,?_⟩
   ·simp [Instr.mapUpdate,run_underlying ht,MapKept.run_getObj_map ho,run_checkKey hkt hk,run_findKey hkt (hM'.none hk hm),MapKept.run_setObj_map _ ho,Result.andThen,World.putObj]
   ·intro e he
    rw [Array.toList_push,List.mem_append,List.mem_singleton] at he
    rcases he with he | rfl
    ·obtain ⟨h6,c,h7,h8⟩:=h3 e he
     exact ⟨h6,c,by rw [h2 _ (fun e1=>by rw [e1,hm] at h7;cases h7)];exact h7,h8⟩
    ·exact ⟨hk,u,h1,hv⟩
   ·rw [Array.toList_push,List.pairwise_append]
    refine ⟨h4,by simp,fun e he e' he'=>?_⟩
    rw [List.mem_singleton] at he'
    subst he'
    obtain ⟨_,c,h7,_⟩:=h3 e he
    exact fun e1=>by rw [e1,hm] at h7;cases h7
   ·intro q c hq
    by_cases e:q=k
    ·subst e
     exact ⟨_,by rw [Array.toList_push];exact List.mem_append.2 (Or.inr (List.mem_singleton.2 rfl)),rfl⟩
    ·rw [h2 q e] at hq
     obtain ⟨y,hy,hy'⟩:=h5 q c hq
     exact ⟨y,by rw [Array.toList_push];exact List.mem_append.2 (Or.inl hy),hy'⟩
  | some c=>
   obtain ⟨j,e,h6,h7,h8,h9⟩:=hM'.some hk hm
   have hdis:∀n e',es[n]?=some e'→¬j=n→e'.key≠k:=by
    intro n e' hn hne
    rw [←Array.getElem?_toList] at hn h7
    rw [←h8]
    rw [List.pairwise_iff_getElem] at h4
    obtain ⟨hj1,hj2⟩:=Io h7
    obtain ⟨hn1,hn2⟩:=Io hn
    rcases Nat.lt_or_gt_of_ne hne with hlt | hgt
    ·have:=h4 j n hj1 hn1 hlt
     rw [hj2,hn2] at this
     exact this.symm
    ·have:=h4 n j hn1 hj1 hgt
     rw [hj2,hn2] at this
     exact this
   refine ⟨es.modify j (fun e'=>{ e' with key:=k,val:=ρ z }),clock,?_,_,_,rfl,?_,?_,?_⟩
   ·simp [Instr.mapUpdate,run_underlying ht,MapKept.run_getObj_map ho,run_checkKey hkt hk,run_findKey hkt h6,h7,h8,run_keyThatStays hk,MapKept.run_setObj_map _ ho,Result.andThen,World.putObj]
   ·intro e' he'
    obtain ⟨n,hn⟩:=List.mem_iff_getElem?.1 he'
    rw [Array.getElem?_toList,Array.getElem?_modify] at hn
    by_cases e1:j=n
    ·subst e1
     rw [if_pos rfl,h7] at hn
     simp at hn
     subst hn
     exact ⟨hk,u,h1,hv⟩
    ·rw [if_neg e1] at hn
     obtain ⟨h10,c',h11,h12⟩:=h3 e' (Iw (by rw [Array.getElem?_toList];exact hn))
     exact ⟨h10,c',by rw [h2 _ (hdis n e' hn e1)];exact h11,h12⟩
   ·have hkeys:(es.modify j (fun e'=>{ e' with key:=k,val:=ρ z })).toList.map MapEntry.key=es.toList.map MapEntry.key:=by
     apply List.ext_getElem?
     intro n
     rw [List.getElem?_map,List.getElem?_map,Array.getElem?_toList,Array.getElem?_toList,Array.getElem?_modify]
     by_cases e1:j=n
     ·subst e1
      rw [if_pos rfl,h7]
      simp [h8]
     ·rw [if_neg e1]
    refine (List.pairwise_map (f:=MapEntry.key) (R:=fun a b:Value=>a≠b)).1 ?_
    rw [hkeys]
    exact List.pairwise_map.2 h4
   ·intro q c hq
    by_cases e1:q=k
    ·subst e1
     refine ⟨{ e with key:=q,val:=ρ z },List.mem_iff_getElem?.2 ⟨j,?_⟩,rfl⟩
     rw [Array.getElem?_toList,Array.getElem?_modify,if_pos rfl,h7]
     rfl
    ·rw [h2 q e1] at hq
     obtain ⟨y,hy,hy'⟩:=h5 q c hq
     obtain ⟨n,hn⟩:=List.mem_iff_getElem?.1 hy
     rw [Array.getElem?_toList] at hn
     refine ⟨y,List.mem_iff_getElem?.2 ⟨n,?_⟩,hy'⟩
     rw [Array.getElem?_toList,Array.getElem?_modify,if_neg,hn]
     intro e2
     subst e2
     rw [h7] at hn
     injection hn with hn
     subst hn
     exact e1 (hy'.symm.trans h8)
 obtain ⟨es',clock',hr,hq⟩:=key
 unfold iN
 rw [show (execOp ρ ⟨d,.mapUpdate t x y z,ty,pos,af,g⟩).run P w= .ok .skip (w.putObj b (.map es' clock')) by simp only [execOp,(hρ x _ hx).sc_inv,(hρ y _ hy).sc_inv,Sem.run_bind,Sem.run_pure,Result.andThen,hr]]
 exact ⟨σ,.sc undef,_,ce.le_refl _,.sc _,hw.putAt (a':=cj kd m') hL (fun _=>trivial) (kY w b _) (World.putObj_heap_same hlt) hq,rfl⟩
theorem qI {w:World} {b kt et:Nat} {kd:TypeDesc} {k v0:Value} {m:Value→Option AV} {es:Array MapEntry} {clock:Nat} {σ:ce} (ht:P.underlying t=some (.map kt et)) (hkt:P.underlying kt=some kd) (hk:IsKey kd k) (ho:w.heap[b]?=some (.map es clock)) (hM:kH kd m σ (.map es clock)) (hz:(zeroValue et).run P w= .ok v0 w) (ok:Bool):
  ∃v,(Instr.lookup t (.map (some b)) k ok).run P w= .ok (bif ok then .tuple #[v,.bool (m k).isSome] else v) w∧match m k with | some c=>VR σ c v | none=>v=v0:=by
 cases hm:m k with
 | none=>
  refine ⟨v0,?_,rfl⟩
  cases ok <;> simp [Instr.lookup,run_underlying ht,MapKept.run_getObj_map ho,run_checkKey hkt hk,run_findKey hkt (hM.none hk hm),Result.andThen,hz]
 | some c=>
  obtain ⟨j,e,h6,h7,h8,h9⟩:=hM.some hk hm
  refine ⟨e.val,?_,h9⟩
  cases ok <;> simp [Instr.lookup,run_underlying ht,MapKept.run_getObj_map ho,run_checkKey hkt hk,run_findKey hkt h6,Result.andThen]
theorem jv (i:Nat) {b kt et:Nat} {kd:TypeDesc} {k v0:Value} {m:Value→Option AV} {c0:AV} (ht:P.underlying t=some (.map kt et)) (hkt:P.underlying kt=some kd) (hx:bO fr x=some (.sc (.map (some b)))) (hy:bO fr y=some (.sc k)) (hk:IsKey kd k) (hL:L[i]?=some (b,cj kd m)) (hz:∀w,(zeroValue et).run P w= .ok v0 w) (h0:∀σ,VR σ c0 v0):
  AO P ⟨d,.lookup t x y false,ty,pos,af,g⟩ fr B L (fun c L'=>c=(m k).getD c0∧L'=L):=by
 intro σ ρ w hρ hw
 obtain ⟨o,ho,hM⟩:=hw.here _ (Iw hL)
 have hM':kH kd m σ o:=hM
 obtain ⟨es,clock,rfl,_⟩:=hM'
 obtain ⟨v,hr,hv⟩:=qI (t:=t) ht hkt hk ho hM (hz w) false
 unfold iN
 rw [show (execOp ρ ⟨d,.lookup t x y false,ty,pos,af,g⟩).run P w= .ok (.value v) w by simp only [execOp,(hρ x _ hx).sc_inv,(hρ y _ hy).sc_inv,Sem.run_bind,Sem.run_pure,Result.andThen,hr];rfl]
 refine ⟨σ,(m k).getD c0,_,ce.le_refl _,?_,hw,rfl,rfl⟩
 cases hm:m k with
 | none=>rw [hm] at hv;dsimp only at hv;subst hv;exact h0 σ
 | some c=>rw [hm] at hv;exact hv
theorem vA (i:Nat) {b kt et:Nat} {kd:TypeDesc} {k v0:Value} {m:Value→Option AV} {c0:AV} (ht:P.underlying t=some (.map kt et)) (hkt:P.underlying kt=some kd) (hx:bO fr x=some (.sc (.map (some b)))) (hy:bO fr y=some (.sc k)) (hk:IsKey kd k) (hL:L[i]?=some (b,cj kd m)) (hz:∀w,(zeroValue et).run P w= .ok v0 w) (h0:∀σ,VR σ c0 v0):
  AO P ⟨d,.lookup t x y true,ty,pos,af,g⟩ fr B L (fun c L'=>c= .tup [(m k).getD c0,.sc (.bool (m k).isSome)]∧L'=L):=by
 intro σ ρ w hρ hw
 obtain ⟨o,ho,hM⟩:=hw.here _ (Iw hL)
 have hM':kH kd m σ o:=hM
 obtain ⟨es,clock,rfl,_⟩:=hM'
 obtain ⟨v,hr,hv⟩:=qI (t:=t) ht hkt hk ho hM (hz w) true
 unfold iN
 rw [show (execOp ρ ⟨d,.lookup t x y true,ty,pos,af,g⟩).run P w= .ok (.value (.tuple #[v,.bool (m k).isSome])) w by simp only [execOp,(hρ x _ hx).sc_inv,(hρ y _ hy).sc_inv,Sem.run_bind,Sem.run_pure,Result.andThen,hr];rfl]
 refine ⟨σ,.tup [(m k).getD c0,.sc (.bool (m k).isSome)],_,ce.le_refl _,?_,hw,rfl,rfl⟩
 have h1:VR σ ((m k).getD c0) v:=by
  cases hm:m k with
  | none=>rw [hm] at hv;dsimp only at hv;subst hv;exact h0 σ
  | some c=>rw [hm] at hv;exact hv
 have h2:dx σ [(m k).getD c0,.sc (.bool (m k).isSome)] [v,.bool (m k).isSome]:= .cons h1 (.cons (.sc _) .nil)
 exact .tup _ _ h2.1 h2.2
def kz (P:Program) (e:Nat) (v:Value):Bool:=match P.info? e with | some i=>(match i.zero with | some z=>xF z v | none=>false) | none=>false
theorem fO {e:Nat} {v:Value} (h:kz P e v=true) (w:World):(zeroValue e).run P w= .ok v w:=by
 unfold kz at h
 split at h
 ·rename_i i hi
  split at h
  ·rename_i z hz
   rw [←r6 h]
   simp [zeroValue,typeInfo,hi,hz]
  ·cases h
 ·cases h
end
section
variable {P:Program} {r:Option Nat} {ops:Array Oper} {Q:Exit→Act→World→Prop} {nt:Nat} {D:List Deferred} {fr:cu} {B:Bs} {L:AL} {rest:List Oper} {d:Nat} {ty t:TypeId} {pos:String} {af:Array Edge} {x y z:Operand} {u:AV}
theorem eQ (kd:TypeDesc) (h:∀b,bW P r ops Q nt D rest ((d,.sc (.map (some b)))::fr) B ((b,cj kd fun _=>none)::L)) (hd:Nat.ble nt d=false:=by rfl):bW P r ops Q nt D (⟨some d,.makeMap t none,ty,pos,af,none⟩::rest) fr B L:=
 dk hd rfl (vB kd) fun c L' ⟨b,h1,h2⟩=>by subst h1;subst h2;exact h b
theorem dB (i:Nat) (m':Value→Option AV) {b kt et:Nat} {kd:TypeDesc} {k:Value} {m:Value→Option AV} (ht:P.underlying t=some (.map kt et)) (hkt:P.underlying kt=some kd) (hx:bO fr x=some (.sc (.map (some b)))) (hy:bO fr y=some (.sc k)) (hk:IsKey kd k) (hz:bO fr z=some u) (hL:L[i]?=some (b,cj kd m)) (h1:m' k=some u) (h2:∀q,q≠k→m' q=m q)
  (h:bW P r ops Q nt D rest fr B (g7 L i (cj kd m'))):bW P r ops Q nt D (⟨none,.mapUpdate t x y z,ty,pos,af,none⟩::rest) fr B L:=
 kJ rfl (sx i ht hkt hx hy hk hz hL h1 h2) fun c L' h3=>by subst h3;exact h
theorem qu (i:Nat) (v0:Value) {b kt et:Nat} {kd:TypeDesc} {k:Value} {m:Value→Option AV} (ht:P.underlying t=some (.map kt et)) (hkt:P.underlying kt=some kd) (hx:bO fr x=some (.sc (.map (some b)))) (hy:bO fr y=some (.sc k)) (hk:IsKey kd k) (hL:L[i]?=some (b,cj kd m)) (hz:kz P et v0=true) (hd:Nat.ble nt d=false)
  (h:bW P r ops Q nt D rest ((d,(m k).getD (.sc v0))::fr) B L):bW P r ops Q nt D (⟨some d,.lookup t x y false,ty,pos,af,none⟩::rest) fr B L:=
 dk hd rfl (jv i ht hkt hx hy hk hL (fO hz) fun _=> .sc _) fun c L' ⟨h1,h2⟩=>by subst h1;subst h2;exact h
theorem jE (i:Nat) (v0:Value) {b kt et:Nat} {kd:TypeDesc} {k:Value} {m:Value→Option AV} (ht:P.underlying t=some (.map kt et)) (hkt:P.underlying kt=some kd) (hx:bO fr x=some (.sc (.map (some b)))) (hy:bO fr y=some (.sc k)) (hk:IsKey kd k) (hL:L[i]?=some (b,cj kd m)) (hz:kz P et v0=true) (hd:Nat.ble nt d=false)
  (h:bW P r ops Q nt D rest ((d,.tup [(m k).getD (.sc v0),.sc (.bool (m k).isSome)])::fr) B L):bW P r ops Q nt D (⟨some d,.lookup t x y true,ty,pos,af,none⟩::rest) fr B L:=
 dk hd rfl (vA i ht hkt hx hy hk hL (fO hz) fun _=> .sc _) fun c L' ⟨h1,h2⟩=>by subst h1;subst h2;exact h
end
end Go.Proofs.YtjjpkibjffmceaaGreat
namespace Go.Proofs.YtjjpkibjffmceaaGreat
open Go.RowKit
section
variable {P:Program} {tt:TT} {r:Option Nat} {ops:Array Oper} {Q:Exit→Act→World→Prop} {nt:Nat} {D:List Deferred} {fr:cu} {B:Bs} {L:AL} {rest:List Oper} {d:Nat} {ty t:TypeId} {pos:String} {af:Array Edge} {x y z:Operand} {u:AV}
theorem lb (ok:fp P tt) (n:Nat) {e sz by_:Nat} {k k':IntKind} {a b:Int} {zs:List Value} (ht:nH tt t=some (e,sz,by_)) (hz:zI tt e=some zs) (h1:zs.all (·.oneCell')=true) (hx:bO fr x=some (.sc (.int k a))) (hy:bO fr y=some (.sc (.int k' b))) (ha:a=(n:Int)) (hb:b=(n:Int)) (hby:by_ * n≤281474976710656) (h63:n≤9223372036854775807) (hd:Nat.ble nt d=false)
  (h:∀b,bW P r ops Q nt D rest ((d,.sc (.slice (some ⟨b,0,none⟩) n n))::fr) B ((b,.box ((List.replicate n (zs.map .sc)).flatten) e)::L)):bW P r ops Q nt D (⟨some d,.makeSlice t x y,ty,pos,af,none⟩::rest) fr B L:=
 dk hd rfl (CQ (cf ok ht).1 (f5 ok hz) h1 (cf ok ht).2 hx hy ha hb hby h63) fun c L' ⟨b,h1,h2⟩=>by subst h1;subst h2;exact h b
theorem ba {f:FuncId} {args:Array Operand} {ts:Array TypeId} {cs ds:List AV} {Post:AV→AL→Prop} [bN P f] (Lc Lf:AL) (hc:AC P f ds Lc Post) (hv:eB fr args.toList=some cs) (hi:jq cs=some ds) (hL:L.Perm (Lc++Lf)) (hd:Nat.ble nt d=false) (h:∀c L1,Post c L1→bW P r ops Q nt D rest ((d,c)::fr) B (L1++Lf)):
  bW P r ops Q nt D (⟨some d,.call ⟨.value (.func f),args,ts⟩,ty,pos,af,none⟩::rest) fr B L:=by
 have hc':=hc
 rw [←gE hi] at hc'
 refine dk hd rfl (mN Lc Lf hv (fun σ vs h=>h.im) hL hc') fun c L' hh=>?_
 obtain ⟨L1,h1,h2⟩:=hh
 subst h2
 exact h c L1 h1
theorem pt {σ0:ce} {l:Nat} {args:Array Operand} {ts:Array TypeId} {cs ds:List AV} {Post:AV→AL→Prop} (Lc Lf:AL) (hB:σ0.le B.σ) (hc:AY P σ0 l ds Lc Post) (hz:bO fr z=some (.sc (.func (.yield l) #[] #[]))) (hv:eB fr args.toList=some cs) (hi:jq cs=some ds) (hL:L.Perm (Lc++Lf)) (hn:Oper.noDefer ⟨some d,.call ⟨.value z,args,ts⟩,ty,pos,af,none⟩=true) (hd:Nat.ble nt d=false) (h:∀c L1,Post c L1→bW P r ops Q nt D rest ((d,c)::fr) B (L1++Lf)):
  bW P r ops Q nt D (⟨some d,.call ⟨.value z,args,ts⟩,ty,pos,af,none⟩::rest) fr B L:=by
 have hc':=hc
 rw [←gE hi] at hc'
 refine dk hd hn (Ah hB Lc Lf hz hv (fun σ vs h=>h.im) hL hc') fun c L' hh=>?_
 obtain ⟨L1,h1,h2⟩:=hh
 subst h2
 exact h c L1 h1
theorem cX {e:Exit} {L':AL} (hs:L'.Sublist L) (h:AX P e Q nt D fr B L'):AX P e Q nt D fr B L:=fun σ a w ha hw=>h σ a w ha (hw.sublist hs)
end
theorem xB {σ:ce} {cs cs':List AV} {vs:List Value} (hl:cs.length=cs'.length) (h:∀(i:Nat) c c',cs[i]?=some c→cs'[i]?=some c'→∀v,VR σ c v→VR σ c' v) (hv:dx σ cs vs):dx σ cs' vs:=by
 refine ⟨hl.symm.trans hv.1,fun i c' u hc hu=>?_⟩
 have hi:i < cs.length:=by rw [hl];exact (Io hc).1
 exact h i _ c' (Iz hi) hc _ (hv.2 i _ u (Iz hi) hu)
theorem bD {nt:Nat} {D:List Deferred} {B:Bs} {fr:cu} {L:AL} (i:Nat) {b:Nat} {cs cs':List AV} {e:TypeId} (hL:L[i]?=some (b,.box cs e)) (h:∀σ vs,dx σ cs vs→dx σ cs' vs):mK nt D B fr L fr (g7 L i (.box cs' e)):=by
 intro σ a w ha hw0
 have hw:=hw0.perm (fP hL)
 obtain ⟨o,ho,vs,rfl,hvs,h1⟩:=hw.here _ (List.mem_cons_self ..)
 refine ⟨σ,ha,dC.perm (L:=(b,.box cs' e)::L.eraseIdx i) ?_ (lw _ hL)⟩
 refine ⟨hw.os,hw.tape,hw.output,hw.size,hw.old,fun p hp=>?_,fun p hp=>?_,by simpa using hw.apart,hw.froz,fun p hp off hm=>?_,hw.grow,hw.same,hw.cold⟩
 ·rcases List.mem_cons.1 hp with rfl | hp'
  ·exact ⟨_,ho,vs,rfl,h σ vs hvs,h1⟩
  ·exact hw.here p (Is _ hp')
 ·rcases List.mem_cons.1 hp with rfl | hp'
  ·exact hw.mine (b,.box cs e) (List.mem_cons_self ..)
  ·exact hw.mine p (Is _ hp')
 ·rcases List.mem_cons.1 hp with rfl | hp'
  ·exact hw.free (b,.box cs e) (List.mem_cons_self ..) off trivial
  ·exact hw.free p (Is _ hp') off hm
theorem gI {cs:List AV} {k:Nat} {c:AV}:iw cs k [c]=cs.set k c:=rfl
end Go.Proofs.YtjjpkibjffmceaaGreat
namespace Go.Proofs.YtjjpkibjffmceaaGreat
open Go.RowKit
attribute [local irreducible] AT bW AX AO Av Kt bA eI DA dl
def Ce (n:Nat):List (List Int)→Nat
 | []=>n
 | q::r=>if n≤2000 then Ce (n+1+q.length) r else n
def Ep (n:Nat):List (List (List Int))→Nat
 | []=>n
 | s::r=>Ep (Ce n s) r
def FH (n:Nat) (r:bX):Nat:=Ep (n+r.Out.length+r.Calls.length) [r.Back,r.In,r.Ahead]
def xq (n:Nat):List bX→Nat
 | []=>n
 | r::rs=>if n≤2000 then xq (FH n r) rs else n
def sY:Nat:=140737488355328
structure zP (r:bX):Prop where
 out:r.Out.length≤sY
 calls:r.Calls.length≤sY
 sets:∀s∈[r.Back,r.In,r.Ahead],s.length≤sY∧∀q∈s,q.length≤sY
def Hw (g n t:Nat):Prop:=(n+t≤2000→g=n+t)∧(2000 < n+t→2000 < g)
def GP {α:Type} (g:α→Nat) (n:Nat):List α→Nat
 | []=>n
 | a::l=>if n≤2000 then GP g (n+g a) l else n
structure FY (f:aL):Prop where
 top:f.Glyphs.length≤140737488355328∧f.Chars.length≤140737488355328∧f.Lookups.length≤140737488355328∧f.Features.length≤140737488355328∧f.Axes.length≤140737488355328∧f.Regions.length≤140737488355328∧f.Funcs.length≤140737488355328∧f.Cvt.length≤140737488355328
 glyph:∀g∈f.Glyphs,g.Points.length≤140737488355328∧g.Parts.length≤140737488355328∧g.Anchors.length≤140737488355328∧g.Deltas.length≤140737488355328∧g.Hint.length≤140737488355328∧g.Name.size≤140737488355328
 rules:∀l∈f.Lookups,l.Rules.length≤140737488355328∧∀r∈l.Rules,zP r
 funcs:∀c∈f.Funcs,c.length≤140737488355328
 feats:∀t∈f.Features,t.Lookups.length≤140737488355328∧t.Name.size≤140737488355328
 regions:∀r∈f.Regions,r.length≤140737488355328
 axes:∀a∈f.Axes,a.Name.size≤140737488355328
def Hk (l:bb):Nat:=xq l.Rules.length l.Rules
def Hz (f:aL):Nat:=f.Glyphs.length+f.Chars.length+f.Lookups.length+f.Features.length+f.Axes.length+f.Regions.length+f.Funcs.length+f.Cvt.length
end Go.Proofs.YtjjpkibjffmceaaGreat
