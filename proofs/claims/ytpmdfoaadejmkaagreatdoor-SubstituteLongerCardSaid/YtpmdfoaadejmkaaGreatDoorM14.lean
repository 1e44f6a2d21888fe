/-
  How many keys a map has.
-/
import Derived.Test.YtpmdfoaadejmkaaGreatDoorM06
import Derived.Test.YtpmdfoaadejmkaaGreatDoorM04
import Derived.Test.YtpmdfoaadejmkaaGreatDoorM09
import Derived.Test.YtpmdfoaadejmkaaGreatDoorM05
import Derived.Test.YtpmdfoaadejmkaaGreatDoorM13
import Derived.Test.YtpmdfoaadejmkaaGreatDoorM07
import Derived.Scope
import Derived.Test.YtpmdfoaadejmkaaGreatDoorM10
namespace Go.Proofs.YtpmdfoaadejmkaaGreatDoor
open Go.RowKit Go.MapKept
section
variable {P:Program} {fr:bW} {B:Bs} {L:AL} {d:Option Tmp} {ty t:TypeId} {pos:String} {af:Array Edge} {g:Option (Nat×Bool)} {x y z:Operand} {u:AV}
theorem xy (i:Nat) {b kt et:Nat} {kd:TypeDesc} {m:Value→Option AV} {ks:List Value} (ht:P.underlying t=some (.map kt et)) (hx:bc fr x=some (.sc (.map (some b)))) (hL:L[i]?=some (b,cN kd m)) (hn:ks.Pairwise (·≠ ·)) (hk:∀k,(m k).isSome=true↔k∈ks):
    AO P ⟨d,.call ⟨.builtin .len,#[x],#[t]⟩,ty,pos,af,g⟩ fr B L (fun c L'=>c= .sc (.int .i64 ks.length)∧L'=L):=by
  intro σ ρ w hρ hw
  obtain ⟨o,ho,hM⟩:=hw.here _ (Iw hL)
  have hM':jT kd m σ o:=hM
  obtain ⟨es,clock,rfl,h1,h2,h3⟩:=hM'
  have hl:es.size=ks.length:=by
    have key:∀(es:List MapEntry) (ks:List Value),es.Pairwise (fun x y=>x.key≠y.key)→ks.Pairwise (·≠ ·)→(∀k,(∃x∈es,x.key=k)↔k∈ks)→es.length=ks.length:=by
      intro es
      induction es with
      | nil=>
        intro ks _ _ h
        cases ks with
        | nil=>rfl
        | cons k ks=>obtain ⟨x,hx,_⟩:=(h k).2 (by simp);cases hx
      | cons e es ih=>
        intro ks he hks h
        obtain ⟨he1,he2⟩:=List.pairwise_cons.1 he
        obtain ⟨a,c,rfl⟩:=List.append_of_mem ((h e.key).1 ⟨e,by simp,rfl⟩)
        obtain ⟨p1,p2,p3⟩:=List.pairwise_append.1 hks
        obtain ⟨p4,p5⟩:=List.pairwise_cons.1 p2
        have:=ih (a++c) he2 (List.pairwise_append.2 ⟨p1,p5,fun x hx y hy=>p3 x hx y (by simp [hy])⟩) fun k=>by
          constructor
          · rintro ⟨x,hx,rfl⟩
            have hm:=(h x.key).1 ⟨x,by simp [hx],rfl⟩
            rw [List.mem_append,List.mem_cons] at hm
            rw [List.mem_append]
            rcases hm with hm | hm | hm
            · exact .inl hm
            · exact absurd hm.symm (he1 x hx)
            · exact .inr hm
          · intro hk
            obtain ⟨x,hx,hxk⟩:=(h k).2 (by rw [List.mem_append] at hk;rw [List.mem_append,List.mem_cons];rcases hk with hk | hk;exact .inl hk;exact .inr (.inr hk))
            rcases List.mem_cons.1 hx with rfl | hx
            · exfalso
              rw [List.mem_append] at hk
              rcases hk with hk | hk
              · exact p3 k hk _ (List.mem_cons_self ..) hxk.symm
              · exact p4 k hk hxk
            · exact ⟨x,hx,hxk⟩
        rw [List.length_cons,this,List.length_append,List.length_append,List.length_cons]
        omega
    have:=key es.toList ks h2 hn fun k=>by
      rw [←hk]
      constructor
      · rintro ⟨x,hx,rfl⟩
        obtain ⟨_,c,hc,_⟩:=h1 x hx
        rw [hc];rfl
      · intro h
        obtain ⟨c,hc⟩:=Option.isSome_iff_exists.1 h
        exact h3 k c hc
    simpa using this
  unfold gV
  have hg:=MapKept.run_getObj_map (P:=P) ho
  rw [show (execOp ρ ⟨d,.call ⟨.builtin .len,#[x],#[t]⟩,ty,pos,af,g⟩).run P w= .ok (.value (.int .i64 ks.length)) w by
    simp [execOp,resolve,(hρ x _ hx).sc_inv,invoke,builtin,Builtin.len_,run_underlying ht,hg,goInt,hl,Result.andThen]]
  exact ⟨σ,.sc _,_,cj.le_refl _,.sc _,hw,rfl,rfl⟩
end
section
variable {P:Program} {tt:TT} {r:Option Nat} {ops:Array Oper} {Q:Exit→Act→World→Prop} {nt:Nat} {D:List Deferred} {fr:bW} {B:Bs} {L:AL} {rest:List Oper} {d:Nat} {ty t t':TypeId} {pos:String} {af:Array Edge} {x y z:Operand} {u:AV}
theorem Bp (i:Nat) (ks:List Value) {b kt et:Nat} {kd:TypeDesc} {m:Value→Option AV} (ht:P.underlying t=some (.map kt et)) (hx:bc fr x=some (.sc (.map (some b)))) (hL:L[i]?=some (b,cN kd m)) (hn:ks.Pairwise (·≠ ·)) (hk:∀k,(m k).isSome=true↔k∈ks) (hd:Nat.ble nt d=false) (h:br P r ops Q nt D rest ((d,.sc (.int .i64 ks.length))::fr) B L):br P r ops Q nt D (⟨some d,.call ⟨.builtin .len,#[x],#[t]⟩,ty,pos,af,none⟩::rest) fr B L:=
  cI hd rfl (xy i ht hx hL hn hk) fun c L' ⟨h1,h2⟩=>by subst h1;subst h2;exact h
end
end Go.Proofs.YtpmdfoaadejmkaaGreatDoor
namespace Go.Proofs.YtpmdfoaadejmkaaGreatDoor
open Go.RowKit
attribute [local irreducible] AT br AX AO Av Kt bb df DA cC
open Go.MapKept
abbrev KJ:TypeDesc:= .int .i64
def HS (l:List Int):Value→Option AV
 | .int .i64 z=>if z∈l then some (ej true) else none
 | _=>none
def HQ (f:aY) (n:Int):Bool:=match f.Glyphs[n.toNat]? with | some g=>g.Mark | none=>false
end Go.Proofs.YtpmdfoaadejmkaaGreatDoor
namespace Go.Proofs.YtpmdfoaadejmkaaGreatDoor
open Go.RowKit
section
variable {P:Program} {tt:TT} {r:Option Nat} {ops:Array Oper} {Q:Exit→Act→World→Prop} {nt:Nat} {D:List Deferred} {fr:bW} {B:Bs} {L:AL} {rest:List Oper} {d:Nat} {ty t t':TypeId} {pos:String} {af:Array Edge} {x y z:Operand} {u:AV}
theorem Dq (ok:dY P tt) (hi:Nat) {s e sz by_:Nat} {l:List (List AV)} {k:IntKind} {a:Int} (ht:jl tt t=some (e,sz,by_)) (hx:bc fr x=some u) (hu:ij u=some (s,l)) (hs:Nat.beq s sz=true) (hy:bc fr y=some (.sc (.int k a))) (ha:a=(hi:Int)) (h1:hi≤l.length) (hd:Nat.ble nt d=false) (h:br P r ops Q nt D rest ((d,.imm s (l.take hi))::fr) B L):
  br P r ops Q nt D (⟨some d,.slice t x none (some y) none,ty,pos,af,none⟩::rest) fr B L:=cf (EK (bi ok ht).1 hx (cM hu) hs hy ha h1) hd rfl h
end
end Go.Proofs.YtpmdfoaadejmkaaGreatDoor
namespace Go.Proofs.YtpmdfoaadejmkaaGreatDoor
open Go.RowKit
section
variable {P:Program} {r:Option Nat} {Q:Exit→Act→World→Prop} {nt:Nat} {D:List Deferred} {fr:bW} {B:Bs} {L:AL}
theorem CC {α:Type} {A C:Code} (ks:List Nat) (fr1:α→bW) (L1:α→AL) (φ:α→Prop) (hA:∀Q',(∀x fr',φ x→gm fr' ks=some (fr1 x)→AX P .normal Q' nt D fr' B (L1 x))→AT P r A Q' nt D fr B L) (hB:∀x,φ x→AT P r C Q nt D (fr1 x) B (L1 x)):AT P r A (Kt P r C Q) nt D fr B L:=
 hA _ fun x _ hx h=>a6 (wz ks h (hB x hx))
end
theorem tN {α:Type} {sz:Nat}:∀(l:List (List α)) (i c:Nat) (e:List α) (v:α),(∀e∈l,e.length=sz)→l[i]?=some e→c < sz→l.flatten.set (i * sz+c) v=(l.set i (e.set c v)).flatten
 | [],i,c,e,v,_,h,_=>by simp at h
 | x::l,0,c,e,v,hs,h,hc=>by
  simp at h
  subst h
  have hx:=hs x (List.mem_cons_self ..)
  rw [List.flatten_cons,List.set_cons_zero,List.flatten_cons,Nat.zero_mul,Nat.zero_add,List.set_append_left _ _ (by omega)]
 | x::l,i+1,c,e,v,hs,h,hc=>by
  have hx:=hs x (List.mem_cons_self ..)
  rw [List.flatten_cons,List.set_cons_succ,List.flatten_cons,←tN l i c e v (fun e he=>hs e (It _ he)) (by simpa using h) hc,List.set_append_right _ _ (by rw [hx,Nat.add_mul];omega),hx,show (i+1) * sz+c - sz=i * sz+c by rw [Nat.add_mul];omega]
end Go.Proofs.YtpmdfoaadejmkaaGreatDoor
namespace Go.Proofs.YtpmdfoaadejmkaaGreatDoor
open Go.RowKit
theorem k7 {P:Program} (w:World) (t tn ty e:TypeId) (i:TypeInfo) (z:Value) (k kn:IntKind) (ht:P.underlying t=some (.slice e)) (htn:P.underlying tn=some (.int kn)) (hi:P.info? e=some i) (hz:i.zero=some z)
  (b:Addr) (sLen sCap:Nat) (olds:List Value) (hlo:olds.length=sLen * i.size) (holds:∀j v,olds[j]?=some v→w.cell? (b.add j)=some v)
  (n:Nat) (h0:0 < n) (hs:0 < i.size) (hg:sCap < sLen+n) (h63:((sLen+n:Nat):Int)≤9223372036854775807) (h48:n * i.bytes≤281474976710656) (hfit:Builtin.nextslicecap (sLen+n) sCap * i.bytes≤281474976710656):
  (Builtin.append_ #[t,tn] ty #[.slice (some b) sLen sCap,.int k n]).run P w=
   .ok (.slice (some ⟨w.heap.size,0,none⟩) (sLen+n) (grownCap w (sLen+n) sCap e)) (w.drew.alloc (.cells (olds.toArray++Builtin.zeroCells z.cells n++Builtin.zeroCells z.cells (grownCap w (sLen+n) sCap e - (sLen+n))) e)):=by
 have hn:n≠0:=by omega
 have hnn:¬(sLen+n≤sCap):=by omega
 have hw:IntKind.i64.wrap (n:Int)=n:=by rw [IntKind.wrap_i64];omega
 have h63':¬(9223372036854775807 < ((sLen:Int)+(n:Int))):=by omega
 have h48':¬(281474976710656 < Builtin.nextslicecap (sLen+n) sCap * i.bytes):=by omega
 have h48i:¬(281474976710656 < (n:Int) * (i.bytes:Int)):=by
  rw [←Int.natCast_mul]
  omega
 have hneg:¬((n:Int) < 0):=by omega
 have hns:¬(n * i.size=0):=Nat.mul_ne_zero hn (by omega)
 have hfo:=run_firstCells_some (P:=P) w.drew i.size sLen b sLen sCap olds hlo (by simpa using holds)
 simp [Builtin.append_,run_underlying ht,run_underlying htn,sizeOf,typeInfo,zeroValue,hi,hz,asInt,asIntOf,hw,hn,hnn,hneg,hns,h63',h48',h48i,Question.forced,hfo,newRow,grownCap]
section
variable {P:Program} {fr:bW} {B:Bs} {L:AL} {d:Option Tmp} {ty t t' tn:TypeId} {pos:String} {af:Array Edge} {g:Option (Nat×Bool)} {x y z q:Operand} {u:AV}
theorem tc (i:Nat) {e sz by_ b n cap m:Nat} {k kn:IntKind} {a:Int} {cs:List AV} {zs:List Value} (hc:k8 P t e sz by_) (hs0:0 < sz) (hz:CZ P e zs) (hz1:zs.all (·.oneCell')=true) (hn':P.underlying tn=some (.int kn)) (hx:bc fr x=some (.sc (.slice (some ⟨b,0,none⟩) n cap))) (hy:bc fr y=some (.sc (.int k a))) (ha:a=(m:Int)) (h0:0 < m) (hL:L[i]?=some (b,.box cs e)) (hcl:cap * sz≤cs.length) (hn:n≤cap) (hg:cap < n+m) (h63:n+m≤maxLen) (hby:(n+m) * by_≤140737488355328):
  AO P ⟨d,.call ⟨.builtin .append,#[x,y],#[t,tn]⟩,ty,pos,af,g⟩ fr B L (fun r L'=>∃b' cs' cap',r= .sc (.slice (some ⟨b',0,none⟩) (n+m) cap')∧cap' * sz≤cs'.length∧cs'.take (n * sz)=cs.take (n * sz)∧n+m≤cap'∧cap'≤maxLen∧L'=(b',.box cs' e)::L):=by
 intro σ ρ w hρ hw
 subst ha
 have hxv:=(hρ x _ hx).sc_inv
 haveI:=hc
 obtain ⟨inf,zz,hi,hsz,rfl,hzz,hzs⟩:=hc.info
 have hzc:=hz.cells hi hzz w
 obtain ⟨o,ho,vs,rfl,hvs,h1⟩:=hw.here _ (Iw hL)
 have hl:=hvs.1
 have hnc:n * sz≤cap * sz:=Nat.mul_le_mul_right _ hn
 have hm63:=h63
 unfold maxLen at h63
 unfold gV
 have holds:∀j v,(vs.take (n * sz))[j]?=some v→w.cell? ((⟨b,0,none⟩:Addr).add j)=some v:=fun j v hj=>by
  rw [dk,Nat.zero_add,cL ho]
  have hjl:=(Ip hj).1
  rw [List.length_take] at hjl
  rw [List.getElem?_take_of_lt (by omega)] at hj
  simpa using hj
 have hbm:m * inf.bytes≤(n+m) * inf.bytes:=Nat.mul_le_mul_right _ (by omega)
 have hr:=k7 (P:=P) w t tn ty e inf zz k kn hc.under hn' hi hzz ⟨b,0,none⟩ n cap (vs.take (n * sz)) (by rw [hsz,List.length_take];omega) holds m h0 (by omega) hg (by omega) (by omega) (growslice_fits (by omega) hby)
 rw [show (execOp ρ ⟨d,.call ⟨.builtin .append,#[x,y],#[t,tn]⟩,ty,pos,af,g⟩).run P w= .ok (.value (.slice (some ⟨w.heap.size,0,none⟩) (n+m) (grownCap w (n+m) cap e))) (w.drew.alloc (.cells ((vs.take (n * sz)).toArray++Builtin.zeroCells zz.cells m++Builtin.zeroCells zz.cells (grownCap w (n+m) cap e - (n+m))) e)) by
  simp [execOp,resolve,hxv,(hρ y _ hy).sc_inv,invoke,builtin,hr]]
 have hge:=grownCap_ge w (n+m) cap e
 have hgm:=grownCap_le_maxLen w (n+m) cap e hm63
 have hzl:∀k,(Builtin.zeroCells zz.cells k).toList.length=k * sz:=fun k=>by rw [Array.length_toList,size_zeroCells,hzs]
 have hzm:∀k,∀v∈(Builtin.zeroCells zz.cells k).toList,v.oneCell'=true:=fun k v hv=>by
  have:=fE hv
  rw [hzc] at this
  exact List.all_eq_true.1 hz1 v (by simpa using this)
 generalize grownCap w (n+m) cap e=cap' at *
 have hmc:cap' * sz=n * sz+(m * sz+(cap' - (n+m)) * sz):=by rw [←Nat.add_mul,←Nat.add_mul];congr 1;omega
 have hzl':=hzl (cap' - (n+m))
 have hzm':=hzm (cap' - (n+m))
 have hzl2:=hzl m
 have hzm2:=hzm m
 generalize Builtin.zeroCells zz.cells (cap' - (n+m))=zc at *
 generalize Builtin.zeroCells zz.cells m=zd at *
 refine ⟨σ,.sc _,_,cj.le_refl _,.sc _,(hw.drew _).alloc _ (.box (cs.take (n * sz)++zd.toList.map AV.sc++zc.toList.map AV.sc) e) ⟨vs.take (n * sz)++zd.toList++zc.toList,by simp,ec (ec (gJ hvs _) (mV _)) (mV _),fun u hu=>?_⟩,w.heap.size,_,cap',rfl,?_,?_,hge,hgm,rfl⟩
 ·rcases Im hu with hu | hu
  ·rcases Im hu with hu | hu
   ·exact h1 _ (List.mem_of_mem_take hu)
   ·exact hzm2 u hu
  ·exact hzm' u hu
 ·simp only [List.length_append,Iu,hzl',hzl2,List.length_take];omega
 ·rw [List.append_assoc,List.take_append_of_le_length (by simp;omega),List.take_of_length_le (by simp;omega)]
end
section
variable {P:Program} {tt:TT} {r:Option Nat} {ops:Array Oper} {Q:Exit→Act→World→Prop} {nt:Nat} {D:List Deferred} {fr:bW} {B:Bs} {L:AL} {rest:List Oper} {d:Nat} {ty t t' tn:TypeId} {pos:String} {af:Array Edge} {x y z:Operand} {u:AV}
theorem vO (ok:dY P tt) (i m:Nat) {e sz by_ b n cap:Nat} {k kn:IntKind} {a:Int} {cs:List AV} {zs:List Value} (ht:jl tt t=some (e,sz,by_)) (hz:zI tt e=some zs) (hz1:zs.all (·.oneCell')=true) (hn':P.underlying tn=some (.int kn)) (hx:bc fr x=some (.sc (.slice (some ⟨b,0,none⟩) n cap))) (hy:bc fr y=some (.sc (.int k a))) (ha:a=(m:Int)) (h0:0 < m) (hL:L[i]?=some (b,.box cs e)) (hcl:cap * sz≤cs.length) (hn:n≤cap) (hg:cap < n+m) (h63:n+m≤maxLen) (hby:(n+m) * by_≤140737488355328) (hd:Nat.ble nt d=false)
  (h:∀b' cs' cap',cap' * sz≤cs'.length→cs'.take (n * sz)=cs.take (n * sz)→n+m≤cap'→cap'≤maxLen→br P r ops Q nt D rest ((d,.sc (.slice (some ⟨b',0,none⟩) (n+m) cap'))::fr) B ((b',.box cs' e)::L)):
  br P r ops Q nt D (⟨some d,.call ⟨.builtin .append,#[x,y],#[t,tn]⟩,ty,pos,af,none⟩::rest) fr B L:=
 cI hd rfl (tc i (bi ok ht).1 (bi ok ht).2 (ew ok hz) hz1 hn' hx hy ha h0 hL hcl hn hg h63 hby) fun c L' ⟨b',cs',cap',h1,h2,h3,h4,h5,h7⟩=>by subst h1;subst h7;exact h b' cs' cap' h2 h3 h4 h5
theorem Fn (ok:dY P tt) (lo hi:Nat) {e sz by_ b n cap:Nat} {k k2:IntKind} {a a2:Int} {q:Operand} (ht:jl tt t=some (e,sz,by_)) (hx:bc fr x=some (.sc (.slice (some ⟨b,0,none⟩) n cap))) (hq:bc fr q=some (.sc (.int k2 a2))) (ha2:a2=(lo:Int)) (hy:bc fr y=some (.sc (.int k a))) (ha:a=(hi:Int)) (h0:lo < hi) (h1:hi≤cap) (hd:Nat.ble nt d=false) (h:br P r ops Q nt D rest ((d,.sc (.slice (some ⟨b,lo * sz,none⟩) (hi - lo) (cap - lo)))::fr) B L):
  br P r ops Q nt D (⟨some d,.slice t x (some q) (some y) none,ty,pos,af,none⟩::rest) fr B L:=by
 refine cf (fun σ ρ w hρ _=>?_) hd rfl h
 haveI:=(bi ok ht).1
 subst ha;subst ha2
 have e6:¬(cap - lo=0):=by omega
 have e7:¬(cap=lo):=by omega
 have e8:lo≤hi:=by omega
 refine ⟨_,?_,.sc _⟩
 simp [execOp,(hρ x _ hx).sc_inv,(hρ y _ hy).sc_inv,(hρ q _ hq).sc_inv,Instr.sliceAt,Instr.slice,Instr.sliceBounds,Instr.sliceBound,asIntOf,run_underlying (bi ok ht).1.under,cO (t:=t),e6,e7,e8,h1,dk]
theorem Fo (ok:dY P tt) (lo hi m:Nat) {e sz by_ b n cap:Nat} {k k' k2:IntKind} {a a' a2:Int} {q:Operand} (ht:jl tt t=some (e,sz,by_)) (hx:bc fr x=some (.sc (.slice (some ⟨b,0,none⟩) n cap))) (hq:bc fr q=some (.sc (.int k2 a2))) (ha2:a2=(lo:Int)) (hy:bc fr y=some (.sc (.int k a))) (ha:a=(hi:Int)) (hz:bc fr z=some (.sc (.int k' a'))) (ha':a'=(m:Int)) (h0:lo < hi) (h1:hi≤m) (h2:m≤cap) (hd:Nat.ble nt d=false) (h:br P r ops Q nt D rest ((d,.sc (.slice (some ⟨b,lo * sz,none⟩) (hi - lo) (m - lo)))::fr) B L):
  br P r ops Q nt D (⟨some d,.slice t x (some q) (some y) (some z),ty,pos,af,none⟩::rest) fr B L:=by
 refine cf (fun σ ρ w hρ _=>?_) hd rfl h
 haveI:=(bi ok ht).1
 subst ha;subst ha';subst ha2
 have e4:¬(cap < m):=by omega
 have e6:¬(m - lo=0):=by omega
 have e7:¬(m=lo):=by omega
 have e8:lo≤hi:=by omega
 refine ⟨_,?_,.sc _⟩
 simp [execOp,(hρ x _ hx).sc_inv,(hρ y _ hy).sc_inv,(hρ z _ hz).sc_inv,(hρ q _ hq).sc_inv,Instr.sliceAt,Instr.slice,Instr.sliceBounds,Instr.sliceBound,asIntOf,run_underlying (bi ok ht).1.under,cO (t:=t),e4,e6,e7,e8,h1,h2,dk]
end
theorem Cs {P:Program} {fr:bW} {t ty:TypeId} {x y:Operand} {pos:String} {af:Array Edge} {g:Option (Nat×Bool)} {dd:Option Tmp} {e sz by_ b n cap lo:Nat} {k:IntKind} {a:Int} (hc:k8 P t e sz by_) (hx:bc fr x=some (.sc (.slice (some ⟨b,0,none⟩) n cap))) (hy:bc fr y=some (.sc (.int k a))) (ha:a=(lo:Int)) (h:lo≤n) (hn:n≤cap):Av P ⟨dd,.slice t x (some y) none none,ty,pos,af,g⟩ fr (.sc (.slice (some ⟨b,if cap=lo then 0 else lo * sz,none⟩) (n - lo) (cap - lo))):=by
 intro σ ρ w hρ _
 subst ha
 haveI:=hc
 refine ⟨_,?_,.sc _⟩
 by_cases h3:cap=lo
 ·have:n=lo:=by omega
  subst h3;subst this
  simp [execOp,(hρ x _ hx).sc_inv,(hρ y _ hy).sc_inv,Instr.sliceAt,Instr.slice,Instr.sliceBounds,Instr.sliceBound,asIntOf,run_underlying hc.under,cO (t:=t)]
 ·simp [execOp,(hρ x _ hx).sc_inv,(hρ y _ hy).sc_inv,Instr.sliceAt,Instr.slice,Instr.sliceBounds,Instr.sliceBound,asIntOf,run_underlying hc.under,cO (t:=t),h,h3,dk]
section
variable {P:Program} {tt:TT} {l:List Oper} {fr:bW} {fin:jn} {sk:lW} {acc:bW} {L:AL} {k:Nat} {dd:Option Tmp} {ty t:TypeId} {pos:String} {af:Array Edge} {g:Option (Nat×Bool)} {x y:Operand}
theorem CN (ok:dY P tt) (hi:Nat) {e sz by_ b off n cap:Nat} {q:IntKind} {a:Int} (ht:jl tt t=some (e,sz,by_)) (hx:bc (ct l.toArray acc fr af.toList) x=some (.sc (.slice (some ⟨b,off,none⟩) n cap))) (hy:bc (ct l.toArray acc fr af.toList) y=some (.sc (.int q a))) (ha:a=(hi:Int)) (h1:hi≤cap) (hg:iA ⟨dd,.slice t x none (some y) none,ty,pos,af,g⟩ acc) (h:DA P l fr fin sk ((k,.sc (.slice (some ⟨b,off,none⟩) hi cap))::acc) L):cC P l fr fin k .v ⟨dd,.slice t x none (some y) none,ty,pos,af,g⟩ sk acc L:=eW hg (yq (wr (bi ok ht).1 hx hy ha h1)) h
theorem wE (ok:dY P tt) (lo:Nat) {e sz by_ b n cap:Nat} {q:IntKind} {a:Int} (ht:jl tt t=some (e,sz,by_)) (hx:bc (ct l.toArray acc fr af.toList) x=some (.sc (.slice (some ⟨b,0,none⟩) n cap))) (hy:bc (ct l.toArray acc fr af.toList) y=some (.sc (.int q a))) (ha:a=(lo:Int)) (h1:lo≤n) (hn:n≤cap) (hg:iA ⟨dd,.slice t x (some y) none none,ty,pos,af,g⟩ acc) (h:DA P l fr fin sk ((k,.sc (.slice (some ⟨b,if cap=lo then 0 else lo * sz,none⟩) (n - lo) (cap - lo)))::acc) L):cC P l fr fin k .v ⟨dd,.slice t x (some y) none none,ty,pos,af,g⟩ sk acc L:=eW hg (yq (Cs (bi ok ht).1 hx hy ha h1 hn)) h
end
section
variable {P:Program} {tt:TT} {l:List Oper} {fr:bW} {fin:jn} {sk:lW} {acc:bW} {L:AL} {k:Nat} {dd:Option Tmp} {ty t:TypeId} {pos:String} {af:Array Edge} {g:Option (Nat×Bool)} {x y:Operand} {u:AV}
theorem A8 (ok:dY P tt) (i:Nat) {b q n:Nat} {cs ys:List AV} {e:TypeId} (ht:FP tt t=some n) (hx:bc (ct l.toArray acc fr af.toList) x=some (.sc (.pointer (some ⟨b,q,none⟩)))) (hy:bc (ct l.toArray acc fr af.toList) y=some u) (hu:u.cells=some ys) (hL:L[i]?=some (b,.box cs e)) (hn:Nat.beq ys.length n=true) (hk:Nat.ble (q+n) cs.length=true) (hK:eB fin.gs (fa L i (.box (f4 cs q ys) e))) (hg:iA ⟨dd,.store t x y,ty,pos,af,g⟩ acc) (h:∀c,DA P l fr fin sk ((k,c)::acc) (fa L i (.box (f4 cs q ys) e))):
  cC P l fr fin k .f ⟨dd,.store t x y,ty,pos,af,g⟩ sk acc L:=s4 (fun c L' h1 _=>by subst h1;exact hK) hg (fun _=>m7 i (mM ok ht) hx hy hu hL hn hk) fun c L' h1=>by subst h1;exact h c
end
theorem mq {q:Nat×Nat×AV} {L:AL} (i:Nat) {cs:List AV} {e:TypeId} (hL:L[i]?=some (q.1,.box cs e)) (hc:cs[q.2.1]?=some q.2.2):eB [.cell q] L:=fun p hp=>by
 rw [List.mem_singleton] at hp
 subst hp
 exact ⟨cs,e,Iw hL,hc⟩
end Go.Proofs.YtpmdfoaadejmkaaGreatDoor
namespace Go.Proofs.YtpmdfoaadejmkaaGreatDoor
open Go.RowKit
section
variable {P:Program} {b:Frame} {a:Act} {k:List Item} {cs:List Frame} {w:World} {Q:Exit→Act→World→Prop} {F:Fence} {n:Nat}
theorem fQ {c:Code}:step P (lone (b.atR a (.code (.scope c)::k)) cs w)= .next (lone (b.atR a (.code c:: .inScope c::k)) cs w):=
 step_lone_go (by simp [stepG,stepG.exec,Frame.atR])
theorem qL {c:Code}:step P (lone (b.atR a (.inScope c::k)) cs w)= .next (lone (b.atR a k) cs w):=
 step_lone_go (by simp [stepG,stepG.exec,Frame.atR])
theorem wl {c:Code} (h:c.wpIn F n P (Exit.noGoto Q) a w):(Code.scope c).wpIn F n P Q a w:=by
 intro b k cs hro hb hr
 have h0:(lone (b.atR a (.code (.scope c)::k)) cs w).fenced P F:=fenced_calm hb hr rfl
 obtain ⟨e,a₁,w₁,hq,harr⟩:=h b (.inScope c::k) cs hro hb hr
 cases e with
 | normal=>exact ⟨.normal,a₁,w₁,hq,.head h0 fQ (StepsIn.trans harr (.one (fenced_calm hb hr rfl) qL))⟩
 | exit id=>
  have hx:exitTo id (.inScope c::k)=exitTo id k:=by simp [exitTo]
  exact ⟨.exit id,a₁,w₁,hq,fun k' hk=> .head h0 fQ (harr.1 k' (by rw [hx];exact hk)),
   fun hr' hk=>let ⟨k₁,h1,h2⟩:=harr.2 hr' (by rw [hx];exact hk);⟨k₁,h1,.head h0 fQ h2⟩⟩
 | goto l=>exact hq.elim
 | ret=>exact ⟨_,a₁,w₁,hq,.of_steps (.one h0 fQ) harr⟩
 | panic ch=>exact ⟨_,a₁,w₁,hq,.of_steps (.one h0 fQ) harr⟩
 | outgrown=>exact ⟨_,a₁,w₁,hq,.of_steps (.one h0 fQ) harr⟩
end
section
variable {P:Program} {r:Option Nat} {Q:Exit→Act→World→Prop} {nt:Nat} {D:List Deferred} {fr:bW} {B:Bs} {L:AL}
theorem zH {c:Code} (h:AT P r c (Exit.noGoto Q) nt D fr B L):AT P r (.scope c) Q nt D fr B L:=fun σ a w ha hw=>wl (h σ a w ha hw)
theorem F5 (h:AX P .normal Q nt D fr B L):AX P .normal (Exit.noGoto Q) nt D fr B L:=fun σ a w ha hw=>h σ a w ha hw
end
end Go.Proofs.YtpmdfoaadejmkaaGreatDoor
namespace Go.Proofs.YtpmdfoaadejmkaaGreatDoor
open Go.RowKit
section
variable {nt:Nat} {fr:bW} {B:Bs} {L:AL} {D:List Deferred}
theorem kS {t b e sz n cap:Nat} {cs:List AV} {l:List (List AV)} (i:Nat) (hl:c6 fr t=some (.sc (.slice (some ⟨b,0,none⟩) n cap))) (hL:L[i]?=some (b,.box cs e)) (hc:cs.take (n * sz)=l.flatten) (hcl:n * sz≤cs.length) (hs:∀q∈l,q.length=sz) (hn:l.length=n) (hnc:n≤cap) (hm:cap≤maxLen):m4 nt D B fr L ((t,.imm sz l)::fr) (L.eraseIdx i):=by
 intro σ a w ha hw0
 have hw:=hw0.perm (f9 hL)
 obtain ⟨o,ho,vs,rfl,hvs,h1⟩:=hw.here _ (List.mem_cons_self ..)
 have hfree:=hw.free _ (List.mem_cons_self ..)
 have hvl:vs.length=cs.length:=hvs.1.symm
 have hst:cW B σ ((b,.vec e cs.length 0 1)::L.eraseIdx i) w:=by
  refine ⟨hw.os,hw.tape,hw.output,hw.size,hw.old,fun p hp=>?_,fun p hp=>?_,by simpa using hw.apart,hw.froz,fun p hp off hm=>?_,hw.grow,hw.same⟩
  ·rcases List.mem_cons.1 hp with rfl | hp'
   ·exact ⟨_,ho,_,rfl,by simp [hvl],Nat.zero_le _,by unfold maxLen;omega⟩
   ·exact hw.here p (It _ hp')
  ·rcases List.mem_cons.1 hp with rfl | hp'
   ·exact hw.mine (b,.box cs e) (List.mem_cons_self ..)
   ·exact hw.mine p (It _ hp')
  ·rcases List.mem_cons.1 hp with rfl | hp'
   ·exact hfree off trivial
   ·exact hw.free p (It _ hp') off hm
 obtain ⟨hst',hle⟩:=hst.freezeHead (n':=1) (xs:=vs) (fun j u hj=>by rw [cL ho];simpa using hj) (by omega) (Nat.zero_le _) (Nat.le_refl _)
 have hv:VR (σ.add b vs) (.vec (some (b,cap)) sz l) (.slice (some ⟨b,0,none⟩) n cap):=by
  have:=kT (σ:=σ.add b vs) (b:=b) (cap:=cap) hs (by rw [←hc];exact (gJ hvs _).mono hle) (fun u hu=>h1 u (List.mem_of_mem_take hu)) (by omega) hm (fun j u hj=>cj.add_at (by
   rw [List.getElem?_take] at hj
   split at hj
   ·exact hj
   ·cases hj))
  rwa [hn] at this
 refine ⟨_,?_,hst'.sublist (.cons _ (List.Sublist.refl _))⟩
 have ha':=ha.mono hle
 refine ⟨ha'.size,ha'.defers,fun t' v' hl'=>?_⟩
 rw [cm] at hl'
 by_cases e:t=t'
 ·subst e
  simp only [if_true,Option.some.injEq] at hl'
  subst hl'
  rw [(ha.look t _ hl).sc_inv]
  exact hv.im
 ·rw [if_neg e] at hl'
  exact ha'.look t' v' hl'
end
end Go.Proofs.YtpmdfoaadejmkaaGreatDoor
namespace Go.Proofs.YtpmdfoaadejmkaaGreatDoor
open Go.RowKit
attribute [local irreducible] AT br AX AO Av Kt bb df DA cC
def Gm (l:List ByteArray) (s:ByteArray):Bool:=l.any fun t=>decide (t=s)
def Eg (f:aY) (n:Int):Bool:=match f.Lookups[n.toNat]? with
 | some l=>decide (0≤n∧(l.Kind=1∨l.Kind=2∨l.Kind=3∨l.Kind=4))
 | none=>false
def BV (l:List (List Int)):Nat:=(l.map fun q=>1+q.length).sum
def GL (r:b8):Nat:=r.Out.length+r.Calls.length+(BV r.Back+BV r.In+BV r.Ahead)
def FH (l:List b8):Nat:=l.length+(l.map GL).sum
def Fc (g:bj):Nat:=g.Points.length+g.Parts.length+g.Anchors.length+g.Deltas.length+g.Hint.length+g.Name.size / 100
def featN (t:bV):Nat:=t.Lookups.length+t.Name.size / 100
def Gk (f:aY):Nat:=f.Glyphs.length+f.Chars.length+f.Lookups.length+f.Features.length+f.Axes.length+f.Regions.length+f.Funcs.length+f.Cvt.length+(f.Glyphs.map Fc).sum+(f.Lookups.map fun l=>FH l.Rules).sum+(f.Funcs.map (·.length)).sum+(f.Features.map featN).sum+(f.Regions.map (·.length)).sum
def FW (f:aY):Prop:=Gk f≤2000
section
variable {f:aY} (hs:FW f)
include hs
end
inductive t2 (f:aY) (fs:List ByteArray):Int→Prop
 | base {t:bV} {n:Int} (h:t∈f.Features) (hn:Gm fs t.Name=true) (hm:n∈t.Lookups) (h0:0≤n) (h1:n < f.Lookups.length):t2 f fs n
 | call {m:Int} {l:aL} {r:b8} {c:gD} (h:t2 f fs m) (hl:f.Lookups[m.toNat]?=some l) (hk:l.Kind=4) (hr:r∈l.Rules) (hc:c∈r.Calls) (hn:Eg f c.Lookup=true):t2 f fs c.Lookup
open Classical in
noncomputable def Ht (f:aY) (fs:List ByteArray):List Int:=((List.range f.Lookups.length).map Int.ofNat).filter fun z=>decide (t2 f fs z)
theorem fA {l:List Int} {n:Nat} (h:l.Nodup) (hi:∀z∈l,0≤z∧z < n):l.length≤n:=by
 induction n generalizing l with
 | zero=>
  cases l with
  | nil=>exact Nat.zero_le _
  | cons a l=>have:=hi a (List.mem_cons_self ..);omega
 | succ n ih=>
  by_cases hm:(n:Int)∈l
  ·have h1:=ih (l:=l.erase n) (h.erase _) fun z hz=>by
    have:=(h.mem_erase_iff).1 hz
    have:=hi z this.2
    omega
   rw [List.length_erase_of_mem hm] at h1
   omega
  ·have:=ih h fun z hz=>by
    have:=hi z hz
    have:z≠n:=fun e=>hm (e▸hz)
    omega
   omega
end Go.Proofs.YtpmdfoaadejmkaaGreatDoor
namespace Go.Proofs.YtpmdfoaadejmkaaGreatDoor
open Go.RowKit
attribute [local irreducible] AT br AX AO Av Kt bb df DA cC
def jU (l:List Int):Prop:=l.Pairwise (· < ·)
theorem BI {l:List Int} (h:jU l) {i:Nat} {x y:Int} (hx:l[i]?=some x) (hy:l[i+1]?=some y):x < y:=by
 obtain ⟨h1,h2⟩:=Ip hx
 obtain ⟨h3,h4⟩:=Ip hy
 have:=List.pairwise_iff_getElem.1 h i (i+1) h1 h3 (by omega)
 rw [h2,h4] at this
 exact this
theorem gH {l:List Int} (h:jU l):l.Nodup:=h.imp fun hlt=>by omega
theorem sN (l:List Int) (h:jU l):bN Tryz.prog 253 [.imm 1 (aT l)] (ej true):=by
 refine aN Tryz.func253 rfl Tryz.ntmps253 rfl fun B=>?_
 refine cK 0 rfl rfl fun hlen=>?_
 have hll:=aZ l
 rw [hll] at hlen
 repeat' (first|refine If ?_|refine ak ?_|refine IF a5 FN ?_)
 refine aO [0] (α:=Nat) (fun i=>[(3,aF ((i:Int)+1))]) (fun i=>i≤l.length) (fun _=>[]) (fun i=>l.length - i) 0 rfl ⟨rfl,trivial⟩ (Nat.zero_le _) (fun _ _ h=>h) fun i hi=>?_
 try dsimp only [Is,Ir,Iq,Ik]
 repeat' (first|refine If ?_|refine IF a5 FN ?_)
 refine aq rfl (fun h1=>?_) (fun h1=>?_)
 ·have hil:i+1 < l.length:=by have:=Iy h1;omega
  obtain ⟨x,hx⟩:∃z,l[i]?=some z:=⟨_,Iz (by omega)⟩
  obtain ⟨y,hy⟩:∃z,l[i+1]?=some z:=⟨_,Iz hil⟩
  have hxy:=BI h hx hy
  have e1:((i:Int)+1).toNat=i+1:=by omega
  have e2:((i:Int)+1 - 1).toNat=i:=by omega
  have hxg:(aT l)[((i:Int)+1 - 1).toNat]?=some [aF x]:=by rw [e2];exact bR hx
  have hyg:(aT l)[((i:Int)+1).toNat]?=some [aF y]:=by rw [e1];exact bR hy
  clear h1
  repeat' (first|refine If ?_|refine ak ?_)
  refine bz 9 [(0,.v),(1,.v),(2,.v),(3,.v),(4,.v),(5,.v),(6,.v),(7,.v),(8,.v)] none ?_ trivial rfl (by kernel_rfl) (by kernel_rfl) (by kernel_rfl) bT (by kernel_rfl) rfl
  repeat' (first|refine aC ?_|refine b6 a5 ?_|(apply dW;refine fz ?_)|(apply cB;refine cS a5 ?_)|fail)
  refine IQ [0,3,13,18] FN ?_
  repeat' (first|refine If ?_|refine a7 ?_|refine IF a5 FN ?_)
  refine aq rfl (fun h2=>?_) (fun _=>?_)
  ·have:=Iy h2
   omega
  repeat' (first|refine If ?_|refine IF a5 FN ?_|(apply aV;refine aU ?_)|fail)
  exact aD (i+1) rfl ⟨by rw [Iv];rfl,trivial⟩ (by omega) (by omega) (fun _ _ h=>h)
 ·repeat' (first|refine If ?_|refine IF a5 FN ?_)
  exact IM IA
theorem BU (l:List Int) (h:jU l):bN Tryz.prog 177 [.imm 1 (aT l)] (.imm 1 (aT l)):=by
 refine aN Tryz.func177 rfl Tryz.ntmps177 rfl fun B=>?_
 haveI:=AD.mk (sN l h)
 repeat' (first|refine If ?_|refine IF a5 FN ?_|(apply bv;refine bn ?_)|refine bQ rfl ?_)
 exact IM IA
def tM (k:Int) (t:List Int):Value→Option AV
 | .int .i64 z=>if t.contains z=true then some (aF (k+(t.idxOf z:Nat))) else none
 | _=>none
theorem C2 (k:Int):tM k []=fun _=>none:=by
 funext v
 unfold tM
 split <;> rfl
theorem sU {k:Int} {t:List Int} {z:Int} (h:z∈t):tM k t (.int .i64 z)=some (aF (k+(t.idxOf z:Nat))):=if_pos (List.contains_iff_mem.2 h)
theorem xg {k:Int} {t:List Int} {z:Int} (h:z∉t):tM k t (.int .i64 z)=none:=if_neg fun e=>h (List.contains_iff_mem.1 e)
theorem C3 {k:Int} {t:List Int} {z:Int} (h:z∉t):tM k (dN t z) (.int .i64 z)=some (aF (k+(t.length:Nat))):=by rw [sU (kQ t z),mO h]
theorem xf {k:Int} {t:List Int} {z:Int} (h:z∉t):∀q,q≠ .int .i64 z→tM k (dN t z) q=tM k t q:=by
 intro q hq
 unfold tM
 split
 ·rename_i y
  have hne:y≠z:=fun e=>hq (by rw [e])
  have hm:(dN t z).contains y=t.contains y:=by
   rw [gi h,Bool.eq_iff_iff,List.contains_iff_mem,List.contains_iff_mem]
   simp [hne]
  rw [hm]
  split
  ·rename_i hc
   rw [qn z (List.contains_iff_mem.1 hc)]
  ·rfl
 ·rfl
theorem DX (k:Int) (t:List Int):∀v,(tM k t v).isSome=true↔v∈t.map (Value.int .i64):=by
 intro v
 unfold tM
 split
 ·rename_i z
  rw [List.mem_map]
  split
  ·rename_i hc
   exact ⟨fun _=>⟨z,List.contains_iff_mem.1 hc,rfl⟩,fun _=>rfl⟩
  ·rename_i hc
   refine ⟨fun h=>(by cases h),fun ⟨y,hy,he⟩=>?_⟩
   cases he
   exact absurd (List.contains_iff_mem.2 hy) hc
 ·rename_i hv
  refine ⟨fun h=>(by cases h),fun h=>?_⟩
  obtain ⟨y,_,rfl⟩:=List.mem_map.1 h
  exact absurd rfl (hv y)
theorem vC {t:List Int} (h:t.Nodup):(t.map (Value.int .i64)).Pairwise (·≠ ·):=List.pairwise_map.2 (h.imp fun hne e=>hne (by cases e;rfl))
def dp (l:List Int):List AV:=l.map fun z=>aF z
theorem i6 (l:List Int):(dp l).length=l.length:=by simp [dp]
theorem pi {l:List Int} {i:Nat} {z:Int} (h:l[i]?=some z):(dp l)[0+((i:Nat):Int).toNat * 1]?=some (aF z):=by simp [dp,h]
theorem i7 {l:List Int} {i:Nat} {z:Int}:f4 (dp l) (0+((i:Nat):Int).toNat * 1) [aF z]=dp (l.set i z):=by
 rw [iw]
 unfold dp
 rw [List.map_set]
 simp
theorem nV (n:Nat):(List.replicate n [aF 0]).flatten=dp (List.replicate n 0):=by
 induction n with
 | zero=>rfl
 | succ n ih=>rw [List.replicate_succ,List.flatten_cons,ih,List.replicate_succ];rfl
theorem nU (l:List Int):dp l=(aT l).flatten:=by
 induction l with
 | nil=>rfl
 | cons z l ih=>simp [dp,aT] at ih ⊢;exact ih
theorem ma {mb cb:Nat} {M:AB} {c c':List AV} (h:c=c'):[(mb,M),(cb,AB.box c 3)]=[(mb,M),(cb,.box c' 3)]:=by rw [h]
theorem Dg {l:List Int} {g:Int} {z:Int} (h:l[g.toNat]?=some z):l.getD g.toNat 0=z:=by rw [List.getD_eq_getElem?_getD,h];rfl
theorem z2 {l:List Int} {k:Nat} {z:Int} (h:l[k]?=some z):(gj (l.take k)++l.drop k).set k ((dN (iB (l.take k)) z).idxOf z:Nat)=gj (l.take (k+1))++l.drop (k+1):=by
 have hk:=(Ip h).1
 rw [List.set_append,if_neg (by rw [gA,List.length_take];omega),gA,List.length_take,Nat.min_eq_left (by omega),Nat.sub_self,List.drop_eq_getElem_cons hk,List.set_cons_zero,List.take_add_one,h]
 dsimp only [Option.toList]
 rw [wj,List.append_assoc]
 rfl
theorem E0 {l:List Int} {k:Nat} {z:Int} (h:l[k]?=some z):(gj (l.take k)++l.drop k)[k]?=some z:=by
 have hk:=(Ip h).1
 rw [List.getElem?_append_right (by rw [gA,List.length_take];omega),gA,List.length_take,Nat.min_eq_left (by omega),Nat.sub_self,List.getElem?_drop]
 exact h
theorem yV {l:List Int} {k:Nat} {z:Int} (h:l[k]?=some z):iB (l.take (k+1))=dN (iB (l.take k)) z:=by
 rw [List.take_add_one,h]
 exact jj _ _
set_option maxHeartbeats 8000000 in
theorem qI (n:Nat) (h0:0 < n) (hn:n≤65536) (sets:List (List Int)) (hs:∀s∈sets,jU s∧∀g∈s,0≤g∧g < (n:Int)) (hsl:sets.length≤1000000):bN Tryz.prog 98 [aF n,.imm 1 (b7 sets)] (.imm 1 (aT (dH n sets))):=by
 refine aN Tryz.func98 rfl Tryz.ntmps98 rfl fun B=>?_
 have hrl:=cq sets
 repeat' (first|refine If ?_|refine IF a5 FN ?_)
 refine c9 [0,1] False rfl (fun Q' K=>?_) (fun hC=>hC.elim) (fun _=>?_)
 ·repeat' (first|refine If ?_|refine IF a5 FN ?_|refine IN FN ?_|refine IP IB ?_|refine IR IA (fun _=>?_) (fun _=>?_))
  all_goals exact K _ _ rfl rfl (by simp_all <;> omega)
 repeat' (first|refine If ?_|refine IF a5 FN ?_)
 refine kL a5 n rfl rfl rfl rfl rfl rfl rfl (by omega) (by omega) rfl fun cb=>?_
 rw [show (List.replicate n (List.map AV.sc [Value.int .i64 0])).flatten=dp (List.replicate n 0) from nV n]
 repeat' (first|refine If ?_|refine ak ?_|refine IF a5 FN ?_)
 refine aO [0,5,28,29] (α:=Nat×List Int×Int) (fun s=>[(30,aF s.1),(6,aF s.2.2)]) (fun s=>s.1≤sets.length∧(sets.drop s.1).foldl jK (s.2.1,s.2.2)=mC n sets∧s.2.1.length=n∧0≤s.2.2∧s.2.2≤1+s.1 * 65536) (fun s=>[(cb,.box (dp s.2.1) 3)]) (fun s=>sets.length - s.1) (0,List.replicate n 0,1) rfl ⟨rfl,rfl,trivial⟩ ⟨Nat.zero_le _,rfl,by simp,by dsimp only;omega,by dsimp only;omega⟩ (fun _ _ h=>h) ?_
 ·rintro ⟨k,cls,k0⟩ ⟨hk,hf,hcl,hk0,hk1⟩
  dsimp only at hk hf hcl hk0 hk1 ⊢
  try dsimp only [Is,Ir,Iq,Ik]
  repeat' (first|refine If ?_|refine IF a5 FN ?_)
  refine aq rfl (fun h1=>?_) (fun h1=>?_)
  ·have hk2:k < sets.length:=by have:=Iy h1;omega
   obtain ⟨s,hsk⟩:∃z,sets[k]?=some z:=⟨_,Iz hk2⟩
   have hsg:=i3 hsk
   obtain ⟨hri,hdm⟩:=hs s (Iw hsk)
   have hsn:s.length≤n:=fA (gH hri) hdm
   have hil:=aZ s
   haveI:=AD.mk (BU s hri)
   rw [List.drop_eq_getElem_cons hk2,(Ip hsk).2,List.foldl_cons] at hf
   clear h1
   repeat' (first|refine If ?_|refine ak ?_|refine IF a5 FN ?_|(apply aS;first|refine aR a5 ?_|refine aH a5 ?_)|fail)
   refine fO KJ fun mb=>?_
   rw [←C2 k0]
   repeat' (first|refine If ?_|refine ak ?_|refine IF a5 FN ?_|(apply bv;refine bn ?_)|fail)
   refine aO [0,5,9,28,29,30,36,37] (α:=Nat×List Int×List Int) (fun t=>[(38,aF t.1),(6,aF (k0+(t.2.2.length:Nat)))]) (fun t=>t.1≤s.length∧(s.drop t.1).foldl (io k0) (t.2.1,t.2.2)=s.foldl (io k0) (cls,[])∧t.2.1.length=n∧t.2.2.length≤t.1) (fun t=>[(mb,cN KJ (tM k0 t.2.2)),(cb,.box (dp t.2.1) 3)]) (fun t=>s.length - t.1) (0,cls,[]) rfl ⟨rfl,by simp;rfl,trivial⟩ ⟨Nat.zero_le _,rfl,hcl,Nat.le_refl _⟩ (fun _ _ h=>h) ?_
   rintro ⟨j,cl1,ap⟩ ⟨hj,hjf,hjl,hja⟩
   dsimp only at hj hjf hjl hja ⊢
   try dsimp only [Is,Ir,Iq,Ik]
   repeat' (first|refine If ?_|refine IF a5 FN ?_)
   refine aq rfl (fun h1=>?_) (fun h1=>?_)
   ·have hj2:j < s.length:=by have:=Iy h1;omega
    obtain ⟨g,hg⟩:∃z,s[j]?=some z:=⟨_,Iz hj2⟩
    have hgg:=bR hg
    obtain ⟨hg0,hgn⟩:=hdm g (Iw hg)
    obtain ⟨z,hz⟩:∃z,cl1[g.toNat]?=some z:=⟨_,Iz (by omega)⟩
    have hgt:((g.toNat:Nat):Int)=g:=Int.toNat_of_nonneg hg0
    have hzc:=pi hz
    rw [hgt] at hzc
    have hcc:=i6 cl1
    have hput:∀y,f4 (dp cl1) (0+g.toNat * 1) [aF y]=dp (cl1.set g.toNat y):=fun y=>by
     have:=i7 (l:=cl1) (i:=g.toNat) (z:=y)
     rwa [hgt] at this
    rw [List.drop_eq_getElem_cons hj2,(Ip hg).2,List.foldl_cons] at hjf
    have hmk:io k0 (cl1,ap) g=(cl1.set g.toNat (k0+((dN ap z).idxOf z:Nat)),dN ap z):=by
     unfold io
     rw [Dg hz]
    rw [hmk] at hjf
    have hal:=qo ap z
    clear h1
    repeat' (first|refine If ?_|refine ak ?_|refine IF a5 FN ?_|(apply aS;first|refine aR a5 ?_|refine aH a5 ?_)|fail)
    refine c9 [0,5,6,9,11,28,29,30,36,37,38] False rfl (fun Q' K=>?_) (fun hC=>hC.elim) (fun _=>?_)
    ·repeat' (first|refine If ?_|refine IF a5 FN ?_|refine IN FN ?_|refine IP IB ?_|refine IR IA (fun _=>?_) (fun _=>?_))
     all_goals exact K _ _ rfl rfl (by simp_all <;> omega)
    repeat' (first|refine If ?_|refine IF a5 FN ?_|(apply bw;first|refine II a5 0 IC ?_|refine II a5 1 IC ?_|refine II a5 2 IC ?_|refine II a5 3 IC ?_|refine IJ a5 0 IC ?_|refine IJ a5 1 IC ?_|refine IJ a5 2 IC ?_|refine IK a5 1 IA (by assumption) rfl ?_|refine IK a5 0 IA (by assumption) rfl ?_|fail)|(apply aS;first|refine aR a5 ?_|refine aH a5 ?_)|fail)
    refine hZ 0 (.int .i64 0) Tryz.underlying257 Tryz.underlying3 rfl rfl rfl rfl (by kernel_rfl) rfl ?_
    by_cases hm:z∈ap
    ·have hgs:=sU (k:=k0) hm
     have hta:=fD hm
     rw [hta] at hjf
     rw [hgs]
     repeat' (first|refine If ?_|refine IF a5 FN ?_|refine bI rfl ?_)
     refine mx 0 (.int .i64 0) Tryz.underlying257 Tryz.underlying3 rfl rfl rfl rfl (by kernel_rfl) rfl ?_
     rw [hgs]
     repeat' (first|(apply aS;first|refine aR a5 ?_|refine aH a5 ?_)|fail)
     refine aa a5 1 rfl rfl rfl rfl rfl rfl (Nat.ble_eq_true_of_le (by rw [hcc];simp;omega)) ?_
     refine aJ (aI (L':=[(mb,cN KJ (tM k0 ap)),(cb,.box (dp (cl1.set g.toNat (k0+(ap.idxOf z:Nat)))) 3)]) (List.Perm.of_eq (ma (hput _)))) ?_
     repeat' (first|refine If ?_|refine IF a5 FN ?_|(apply aV;refine aU ?_)|fail)
     exact aD (j+1,_,ap) rfl ⟨by rw [Iv];rfl,rfl,trivial⟩ ⟨hj2,hjf,by rw [List.length_set];exact hjl,by dsimp only;omega⟩ (by dsimp only;omega) (fun _ _ h=>h)
    ·have hgn2:=xg (k:=k0) hm
     have hgp:=C3 (k:=k0) hm
     have hnew:=mO hm
     have hnl:(dN ap z).length=ap.length+1:=by rw [gi hm,List.length_append,List.length_singleton]
     rw [hgn2]
     repeat' (first|refine If ?_|refine IF a5 FN ?_|refine bQ rfl ?_)
     refine dU 0 (tM k0 (dN ap z)) Tryz.underlying257 Tryz.underlying3 rfl rfl rfl rfl rfl hgp (xf hm) ?_
     repeat' (first|refine If ?_|refine IF a5 FN ?_|(apply aV;refine aU ?_)|fail)
     refine mx 0 (.int .i64 0) Tryz.underlying257 Tryz.underlying3 rfl rfl rfl rfl (by kernel_rfl) rfl ?_
     rw [hgp]
     repeat' (first|(apply aS;first|refine aR a5 ?_|refine aH a5 ?_)|fail)
     refine aa a5 1 rfl rfl rfl rfl rfl rfl (Nat.ble_eq_true_of_le (by rw [hcc];simp;omega)) ?_
     refine aJ (aI (L':=[(mb,cN KJ (tM k0 (dN ap z))),(cb,.box (dp (cl1.set g.toNat (k0+(ap.length:Nat)))) 3)]) (List.Perm.of_eq (ma (hput _)))) ?_
     repeat' (first|refine If ?_|refine IF a5 FN ?_|(apply aV;refine aU ?_)|fail)
     rw [hnew] at hjf
     refine aD (j+1,_,dN ap z) rfl ⟨by rw [Iv];rfl,?_,trivial⟩ ⟨hj2,hjf,by rw [List.length_set];exact hjl,by dsimp only;omega⟩ (by dsimp only;omega) (fun _ _ h=>h)
     show some (AV.sc (.int .i64 (k0+(ap.length:Nat)+1)))=some (aF (k0+((dN ap z).length:Nat)))
     rw [hnl,Iv,Int.add_assoc]
     rfl
   ·have hj2:j=s.length:=by have:=Ix h1;omega
    subst hj2
    rw [List.drop_length] at hjf
    have hjf2:(cl1,ap)=s.foldl (io k0) (cls,[]):=hjf
    have hps:jK (cls,k0) s=(cl1,k0+(ap.length:Nat)):=by
     unfold jK
     dsimp only
     rw [←hjf2]
    rw [hps] at hf
    clear h1
    repeat' (first|refine If ?_|refine IF a5 FN ?_|(apply aV;refine aU ?_)|fail)
    exact aD (k+1,cl1,k0+(ap.length:Nat)) rfl ⟨by rw [Iv];rfl,rfl,trivial⟩ ⟨hk2,hf,hjl,by dsimp only;omega,by dsimp only;omega⟩ (by dsimp only;omega) (fun _ _ h=>h.sublist (List.sublist_cons_self ..))
  ·have hk2:k=sets.length:=by have:=Ix h1;omega
   subst hk2
   rw [List.drop_length] at hf
   have hf2:(cls,k0)=mC n sets:=hf
   have hpv:dH n sets=gj cls:=by unfold dH;rw [←hf2]
   rw [hpv]
   clear h1
   repeat' (first|refine If ?_|fail)
   refine fO KJ fun tb=>?_
   rw [←C2 0]
   repeat' (first|refine If ?_|refine ak ?_|refine IF a5 FN ?_)
   refine aO [5,15,75,76] (α:=Nat) (fun i=>[(77,aF i)]) (fun i=>i≤cls.length) (fun i=>[(tb,cN KJ (tM 0 (iB (cls.take i)))),(cb,.box (dp (gj (cls.take i)++cls.drop i)) 3)]) (fun i=>cls.length - i) 0 rfl ⟨rfl,trivial⟩ (Nat.zero_le _) (fun _ _ h=>h) fun i hi=>?_
   try dsimp only [Is,Ir,Iq,Ik]
   repeat' (first|refine If ?_|refine IF a5 FN ?_)
   refine aq rfl (fun h1=>?_) (fun h1=>?_)
   ·have hi2:i < cls.length:=by have:=Iy h1;omega
    obtain ⟨z,hz⟩:∃z,cls[i]?=some z:=⟨_,Iz hi2⟩
    have hzc:=pi (E0 hz)
    have hcc:=i6 (gj (cls.take i)++cls.drop i)
    have hcl2:(gj (cls.take i)++cls.drop i).length=cls.length:=by rw [List.length_append,gA,List.length_take,List.length_drop];omega
    have htc:=z2 hz
    have htt:=yV hz
    have hnd:=wd (cls.take i)
    clear h1
    repeat' (first|refine If ?_|refine ak ?_|refine IF a5 FN ?_|(apply bw;first|refine II a5 0 IC ?_|refine II a5 1 IC ?_|refine II a5 2 IC ?_|refine II a5 3 IC ?_|refine IJ a5 0 IC ?_|refine IJ a5 1 IC ?_|refine IJ a5 2 IC ?_|refine IK a5 1 IA (by assumption) rfl ?_|refine IK a5 0 IA (by assumption) rfl ?_|fail)|(apply aS;first|refine aR a5 ?_|refine aH a5 ?_)|fail)
    refine hZ 0 (.int .i64 0) Tryz.underlying257 Tryz.underlying3 rfl rfl rfl rfl (by kernel_rfl) rfl ?_
    by_cases hm:z∈iB (cls.take i)
    ·have hgs:=sU (k:=0) hm
     have hta:=fD hm
     rw [hta] at htc htt
     rw [hgs]
     repeat' (first|refine If ?_|refine IF a5 FN ?_|refine bI rfl ?_)
     refine mx 0 (.int .i64 0) Tryz.underlying257 Tryz.underlying3 rfl rfl rfl rfl (by kernel_rfl) rfl ?_
     rw [hgs]
     repeat' (first|(apply aS;first|refine aR a5 ?_|refine aH a5 ?_)|fail)
     refine aa a5 1 rfl rfl rfl rfl rfl rfl (Nat.ble_eq_true_of_le (by rw [hcc,hcl2,Int.toNat_natCast];show 0+i * 1+1≤_;omega)) ?_
     refine aJ (aI (L':=[(tb,cN KJ (tM 0 (iB (cls.take i)))),(cb,.box (dp (gj (cls.take (i+1))++cls.drop (i+1))) 3)]) (List.Perm.of_eq (ma (by rw [←htc,←i7,Int.zero_add])))) ?_
     repeat' (first|refine If ?_|refine IF a5 FN ?_|(apply aV;refine aU ?_)|fail)
     exact aD (i+1) rfl ⟨by rw [Iv];rfl,trivial⟩ (by omega) (by omega) (fun _ _ h=>by rw [htt];exact h)
    ·have hgn2:=xg (k:=0) hm
     have hgp:=C3 (k:=0) hm
     have hnew:=mO hm
     rw [hgn2]
     repeat' (first|refine If ?_|refine IF a5 FN ?_|refine bQ rfl ?_)
     refine Bp 0 _ Tryz.underlying257 rfl rfl (vC hnd) (DX 0 _) rfl ?_
     rw [Iu]
     rw [Int.zero_add] at hgp
     repeat' (first|fail)
     refine dU 0 (tM 0 (dN (iB (cls.take i)) z)) Tryz.underlying257 Tryz.underlying3 rfl rfl rfl rfl rfl hgp (xf hm) ?_
     repeat' (first|refine If ?_|refine IF a5 FN ?_)
     refine mx 0 (.int .i64 0) Tryz.underlying257 Tryz.underlying3 rfl rfl rfl rfl (by kernel_rfl) rfl ?_
     rw [hgp]
     repeat' (first|(apply aS;first|refine aR a5 ?_|refine aH a5 ?_)|fail)
     refine aa a5 1 rfl rfl rfl rfl rfl rfl (Nat.ble_eq_true_of_le (by rw [hcc,hcl2,Int.toNat_natCast];show 0+i * 1+1≤_;omega)) ?_
     refine aJ (aI (L':=[(tb,cN KJ (tM 0 (dN (iB (cls.take i)) z))),(cb,.box (dp (gj (cls.take (i+1))++cls.drop (i+1))) 3)]) (List.Perm.of_eq (ma (by rw [←htc,←i7,hnew])))) ?_
     repeat' (first|refine If ?_|refine IF a5 FN ?_|(apply aV;refine aU ?_)|fail)
     exact aD (i+1) rfl ⟨by rw [Iv];rfl,trivial⟩ (by omega) (by omega) (fun _ _ h=>by rw [htt];exact h)
   ·have hi2:i=cls.length:=by have:=Ix h1;omega
    subst hi2
    rw [List.take_length,List.drop_length,List.append_nil]
    clear h1
    repeat' (first|refine If ?_|refine IF a5 FN ?_)
    have htl:=gA cls
    have hcc:=i6 (gj cls)
    refine bf (kS (t:=4) (sz:=1) (n:=n) (cap:=n) (l:=aT (gj cls)) 1 rfl rfl ?_ (by omega) (fun e he=>?_) (by rw [aZ];omega) (Nat.le_refl _) (by unfold maxLen;omega)) ?_
    ·rw [←nU,Nat.mul_one,List.take_of_length_le (by omega)]
    ·unfold aT at he
     obtain ⟨y,_,rfl⟩:=List.mem_map.1 he
     rfl
    refine fb (List.nil_sublist _) ?_
    exact IM IA
end Go.Proofs.YtpmdfoaadejmkaaGreatDoor
