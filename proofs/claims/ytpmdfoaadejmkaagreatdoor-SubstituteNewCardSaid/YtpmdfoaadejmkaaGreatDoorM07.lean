/-
  Rows of numbers that are written and appended to; interface values; structs of two numbers compared.
-/
import Derived.Test.YtpmdfoaadejmkaaGreatDoorM06
import Derived.Lib.AppendZeros
namespace Go.Proofs.YtpmdfoaadejmkaaGreatDoor
open Go.RowKit
section
variable {P:Program} {fr:cf} {B:Bs} {L:AL} {d:Option Tmp} {ty t t':TypeId} {pos:String} {af:Array Edge} {g:Option (Nat×Bool)} {x y z q:Operand} {u:AV}
theorem CZ.int {e:TypeId} {i:TypeInfo} {zz:Value} (hz:CZ P e [.int .i64 0]) (hi:P.info? e=some i) (hzz:i.zero=some zz) (w:World):zz.cells=#[.int .i64 0]:=by
 obtain ⟨v,hv,hr⟩:=hz.run
 have:=hr w
 simp [zeroValue,typeInfo,hi,hzz] at this
 rw [this,hv]
theorem nu (n:Nat):Builtin.zeroCells #[.int .i64 0] n=(List.replicate n (Value.int .i64 0)).toArray:=by
 apply Array.toList_inj.1
 simp only [Builtin.zeroCells,List.size_toArray,List.length_cons,List.length_nil]
 apply List.ext_getElem
 ·simp
 ·intro i h1 h2
  simp [Nat.mod_one]
theorem gF {σ:cF} {cs:List AV} {vs:List Value} (h:dI σ cs vs) (n:Nat):dI σ (cs.take n) (vs.take n):=by
 refine ⟨by rw [List.length_take,List.length_take,h.1],fun i c u hc hu=>?_⟩
 rw [List.getElem?_take] at hc hu
 split at hc
 ·rename_i hi
  rw [if_pos hi] at hu
  exact h.2 i c u hc hu
 ·cases hc
theorem mB {σ:cF} {cs:List AV} {vs:List Value} (h:dI σ cs vs) (n:Nat):dI σ (cs.drop n) (vs.drop n):=by
 refine ⟨by rw [List.length_drop,List.length_drop,h.1],fun i c u hc hu=>?_⟩
 rw [List.getElem?_drop] at hc hu
 exact h.2 _ c u hc hu
theorem ec {σ:cF} {cs ds:List AV} {vs ws:List Value} (h:dI σ cs vs) (k:dI σ ds ws):dI σ (cs++ds) (vs++ws):=by
 refine ⟨by rw [List.length_append,List.length_append,h.1,k.1],fun i c u hc hu=>?_⟩
 have hq:=h.1
 by_cases hi:i < cs.length
 ·rw [List.getElem?_append_left hi] at hc
  rw [List.getElem?_append_left (by omega)] at hu
  exact h.2 i c u hc hu
 ·rw [List.getElem?_append_right (by omega)] at hc
  rw [List.getElem?_append_right (by omega),←hq] at hu
  exact k.2 _ c u hc hu
theorem Bh {σ:cF} (v:Value) (n:Nat):dI σ (List.replicate n (.sc v)) (List.replicate n v):=by
 refine ⟨by simp,fun i c u hc hu=>?_⟩
 rw [List.getElem?_replicate] at hc hu
 split at hc
 ·rename_i hi
  rw [if_pos hi] at hu
  cases hc;cases hu
  exact .sc _
 ·cases hc
theorem rr (i:Nat) {e by_ b n cap:Nat} {cs:List AV} {c:AV} (hc:lw P t e 1 by_) (hz:CZ P e [.int .i64 0]) (hx:bE fr x=some (.sc (.slice (some ⟨b,0,none⟩) n cap))) (hy:bE fr y=some u) (hu:u.im= .imm 1 [[c]]) (hL:L[i]?=some (b,.box cs e)) (hcl:cs.length=cap) (hn:n≤cap) (h63:n+1≤9223372036854775807) (hby:(n+1) * by_≤140737488355328):
  AO P ⟨d,.call ⟨.builtin .append,#[x,y],#[t,t]⟩,ty,pos,af,g⟩ fr B L (fun r L'=>∃b' cs',r= .sc (.slice (some ⟨b',0,none⟩) (n+1) cs'.length)∧cs'.take (n+1)=cs.take n++[c]∧n+1≤cs'.length∧L'=(b',.box cs' e)::L.eraseIdx i):=by
 intro σ ρ w hρ hw0
 have hw:=hw0.perm (fq hL)
 have hxv:=(hρ x _ hx).sc_inv
 have hyv:=(hρ y u hy).im
 rw [hu] at hyv
 obtain ⟨A2,c2,hA2,_⟩:=hyv.imm_inv
 rw [hA2] at hyv
 obtain ⟨_,_,_,hs2,ys,hyl,hyr,hy1,hyc⟩:=hyv.row
 obtain ⟨b2,off2,rfl,hycc⟩:=hyc (by simp)
 haveI:=hc
 obtain ⟨inf,zz,hi,hsz,rfl,hzz,hzs⟩:=hc.info
 have hzc:=hz.int hi hzz w
 obtain ⟨o,ho,vs,rfl,hvs,h1⟩:=hw.here _ (List.mem_cons_self ..)
 have hl:=hvs.1
 have hyl':ys.length=1 * inf.size:=by rw [hsz];exact hyl
 have hys1:ys.length=1:=by simpa using hyl
 obtain ⟨yv,rfl⟩:∃yv,ys=[yv]:=by
  match ys,hys1 with
  | [yv],_=>exact ⟨yv,rfl⟩
 have hyr':dI σ [c] [yv]:=hyr
 have hnews:∀j v,[yv][j]?=some v→w.cell? ((⟨b2,off2,none⟩:Addr).add j)=some v:=fun j v hj=>by rw [dS];exact hw.froz _ _ _ (hycc j v hj)
 have hA2':ρ y= .slice (some ⟨b2,off2,none⟩) 1 c2:=hA2
 unfold j7
 by_cases hroom:n+1≤cap
 ·have hr:=run_append_room (P:=P) w t ty e inf hc.under hi b n cap vs.toArray ho ⟨b2,off2,none⟩ 1 c2 [yv] hyl' hnews hy1 hroom (by rw [hsz];simp;omega)
  rw [show (execOp ρ ⟨d,.call ⟨.builtin .append,#[x,y],#[t,t]⟩,ty,pos,af,g⟩).run P w= .ok (.value (.slice (some ⟨b,0,none⟩) (n+1) cap)) (w.setRow b (vs.toArray.toList.take (n * inf.size)++[yv]++vs.toArray.toList.drop (n * inf.size+[yv].length)).toArray) by
   simp [execOp,resolve,hxv,hA2',invoke,builtin,hr]]
  simp only [hsz,Nat.mul_one,List.length_cons,List.length_nil,Nat.zero_add]
  have hcl':(cs.take n++[c]++cs.drop (n+1)).length=cap:=by simp;omega
  refine ⟨σ,.sc _,_,cF.le_refl _,.sc _,hw.put (a':= .box (cs.take n++[c]++cs.drop (n+1)) e) (fun _=>trivial) ⟨rfl,rfl,rfl,by simp,fun k _ hk=>setRow_other w b k _ (fun e=>hk (by simp [e]))⟩ (setRow_heap w b _ _ e _ ho) ⟨_,rfl,ec (ec (gF hvs n) hyr') (mB hvs (n+1)),fun u hu=>?_⟩,b,_,by rw [hcl'],?_,by rw [hcl'];exact hroom,rfl⟩
  ·rcases Nm hu with hu | hu
   ·rcases Nm hu with hu | hu
    ·exact h1 _ (List.mem_of_mem_take hu)
    ·exact hy1 _ hu
   ·exact h1 _ (List.mem_of_mem_drop hu)
  ·rw [List.take_append_of_le_length (by simp;omega),List.take_of_length_le (by simp;omega)]
 ·have hncap:n=cap:=by omega
  subst hncap
  have holds:∀j v,vs[j]?=some v→w.cell? ((⟨b,0,none⟩:Addr).add j)=some v:=fun j v hj=>by
   rw [dS,Nat.zero_add,dc ho]
   simpa using hj
  have hr:=run_append_grow (P:=P) w t ty e inf zz hc.under hi hzz ⟨b,0,none⟩ n n vs (by rw [hsz];omega) holds ⟨b2,off2,none⟩ 1 c2 [yv] hyl' hnews (by omega) (by omega) (growslice_fits (by omega) hby)
  rw [show (execOp ρ ⟨d,.call ⟨.builtin .append,#[x,y],#[t,t]⟩,ty,pos,af,g⟩).run P w= .ok (.value (.slice (some ⟨w.heap.size,0,none⟩) (n+1) (grownCap w (n+1) n e))) (w.drew.alloc (.cells (vs.toArray++[yv].toArray++Builtin.zeroCells zz.cells (grownCap w (n+1) n e - (n+1))) e)) by
   simp [execOp,resolve,hxv,hA2',invoke,builtin,hr]]
  rw [hzc,nu]
  have hge:=grownCap_ge w (n+1) n e
  generalize grownCap w (n+1) n e=cap' at *
  have hlen:(cs++[c]++List.replicate (cap' - (n+1)) (AV.sc (.int .i64 0))).length=cap':=by simp;omega
  refine ⟨σ,.sc _,_,cF.le_refl _,.sc _,((hw.sublist (List.sublist_cons_self ..)).drew _).alloc _ (.box (cs++[c]++List.replicate (cap' - (n+1)) (.sc (.int .i64 0))) e) ⟨vs++[yv]++List.replicate (cap' - (n+1)) (.int .i64 0),by simp,ec (ec hvs hyr') (Bh _ _),fun u hu=>?_⟩,w.heap.size,_,by rw [hlen],?_,by rw [hlen];exact hge,rfl⟩
  ·rcases Nm hu with hu | hu
   ·rcases Nm hu with hu | hu
    ·exact h1 _ hu
    ·exact hy1 _ hu
   ·rw [(List.mem_replicate.1 hu).2];rfl
  ·rw [List.take_append_of_le_length (by simp;omega),List.take_of_length_le (by simp;omega),List.take_of_length_le (by omega)]
theorem rt {e by_:Nat} {c:AV} (hc:lw P t e 1 by_) (hz:CZ P e [.int .i64 0]) (hx:bE fr x=some (.sc (.slice none 0 0))) (hy:bE fr y=some u) (hu:u.im= .imm 1 [[c]]) (hby:by_≤140737488355328):
  AO P ⟨d,.call ⟨.builtin .append,#[x,y],#[t,t]⟩,ty,pos,af,g⟩ fr B L (fun r L'=>∃b' cs',r= .sc (.slice (some ⟨b',0,none⟩) 1 cs'.length)∧cs'.take 1=[c]∧1≤cs'.length∧L'=(b',.box cs' e)::L):=by
 intro σ ρ w hρ hw
 have hxv:=(hρ x _ hx).sc_inv
 have hyv:=(hρ y u hy).im
 rw [hu] at hyv
 obtain ⟨A2,c2,hA2,_⟩:=hyv.imm_inv
 rw [hA2] at hyv
 obtain ⟨_,_,_,hs2,ys,hyl,hyr,hy1,hyc⟩:=hyv.row
 obtain ⟨b2,off2,rfl,hycc⟩:=hyc (by simp)
 haveI:=hc
 obtain ⟨inf,zz,hi,hsz,rfl,hzz,hzs⟩:=hc.info
 have hzc:=hz.int hi hzz w
 have hyl':ys.length=1 * inf.size:=by rw [hsz];exact hyl
 have hys1:ys.length=1:=by simpa using hyl
 obtain ⟨yv,rfl⟩:∃yv,ys=[yv]:=by
  match ys,hys1 with
  | [yv],_=>exact ⟨yv,rfl⟩
 have hyr':dI σ [c] [yv]:=hyr
 have hnews:∀j v,[yv][j]?=some v→w.cell? ((⟨b2,off2,none⟩:Addr).add j)=some v:=fun j v hj=>by rw [dS];exact hw.froz _ _ _ (hycc j v hj)
 have hA2':ρ y= .slice (some ⟨b2,off2,none⟩) 1 c2:=hA2
 have hr:=run_append_nil (P:=P) w t ty e inf zz hc.under hi hzz ⟨b2,off2,none⟩ 1 c2 [yv] hyl' hnews (by omega) (by omega) (by omega)
 unfold j7
 rw [show (execOp ρ ⟨d,.call ⟨.builtin .append,#[x,y],#[t,t]⟩,ty,pos,af,g⟩).run P w= .ok (.value (.slice (some ⟨w.heap.size,0,none⟩) 1 (grownCap w 1 0 e))) (w.drew.alloc (.cells ([yv].toArray++Builtin.zeroCells zz.cells (grownCap w 1 0 e - 1)) e)) by
  simp [execOp,resolve,hxv,hA2',invoke,builtin,hr]]
 rw [hzc,nu]
 have hge:=grownCap_ge w 1 0 e
 generalize grownCap w 1 0 e=cap' at *
 have hlen:([c]++List.replicate (cap' - 1) (AV.sc (.int .i64 0))).length=cap':=by simp;omega
 refine ⟨σ,.sc _,_,cF.le_refl _,.sc _,(hw.drew _).alloc _ (.box ([c]++List.replicate (cap' - 1) (.sc (.int .i64 0))) e) ⟨[yv]++List.replicate (cap' - 1) (.int .i64 0),by simp,ec hyr' (Bh _ _),fun u hu=>?_⟩,w.heap.size,_,by rw [hlen],by simp,by rw [hlen];exact hge,rfl⟩
 rcases Nm hu with hu | hu
 ·exact hy1 _ hu
 ·rw [(List.mem_replicate.1 hu).2];rfl
theorem Jk {e by_ b n cap hi:Nat} {k:IntKind} {a:Int} (hc:lw P t e 1 by_) (hx:bE fr x=some (.sc (.slice (some ⟨b,0,none⟩) n cap))) (hy:bE fr y=some (.sc (.int k a))) (ha:a=(hi:Int)) (h:hi≤cap) (h0:0 < cap):Av P ⟨d,.slice t x none (some y) none,ty,pos,af,g⟩ fr (.sc (.slice (some ⟨b,0,none⟩) hi cap)):=by
 intro σ ρ w hρ _
 subst ha
 haveI:=hc
 refine ⟨_,?_,.sc _⟩
 have h3:cap≠0:=by omega
 simp [execOp,(hρ x _ hx).sc_inv,(hρ y _ hy).sc_inv,Instr.sliceAt,Instr.slice,Instr.sliceBounds,Instr.sliceBound,asIntOf,run_underlying hc.under,df (t:=t),h,h3,dS]
def jK (P:Program) (t:TypeId):Bool:=match P.underlying t with | some (.interface _)=>false | some _=>true | none=>false
theorem nk (h:jK P t=true):∃d,P.underlying t=some d∧∀ms,d≠ .interface ms:=by
 unfold jK at h
 split at h
 ·cases h
 ·rename_i d hd hu
  exact ⟨d,hu,fun ms e=>hd ms e⟩
 ·cases h
theorem GZ {v:Value} (ht:jK P t=true) (hx:bE fr x=some (.sc v)):Av P ⟨d,.makeInterface t x,ty,pos,af,g⟩ fr (.sc (.iface t v)):=by
 obtain ⟨dd,hu,hn⟩:=nk ht
 refine eH fun ρ w hρ=>?_
 have:(Instr.makeInterface t v).run P w= .ok (.iface t v) w:=by
  simp only [Instr.makeInterface,Sem.run_bind,run_underlying hu,Result.andThen]
  cases dd with
  | interface ms=>exact absurd rfl (hn ms)
  | _=>rfl
 simp only [execOp,hρ x _ hx,Sem.run_bind,this,Result.andThen,Sem.run_pure]
theorem vN {v:Value} (ht:jK P t=true) (hx:bE fr x=some (.sc (.iface t v))):Av P ⟨d,.typeAssert x t' t false,ty,pos,af,g⟩ fr (.sc v):=by
 obtain ⟨dd,hu,hn⟩:=nk ht
 refine eH fun ρ w hρ=>?_
 have:(Instr.typeAssert (.iface t v) t' t false).run P w= .ok v w:=by
  simp only [Instr.typeAssert,Sem.run_bind,run_underlying hu,Result.andThen]
  cases dd with
  | interface ms=>exact absurd rfl (hn ms)
  | _=>simp
 simp only [execOp,hρ x _ hx,Sem.run_bind,this,Result.andThen,Sem.run_pure]
structure o0 (P:Program) (t:TypeId) (name:String) (f:FuncId) (ptr:Bool) (e:TypeId):Prop where
 under:P.underlying t=some (.pointer e)
 ex:∃ti m,P.info? t=some ti∧ti.methods.find? (·.name==name)=some m∧m.path=#[]∧m.func=some (f,ptr)
theorem o0.run {name:String} {f:FuncId} {e:TypeId} (h:o0 P t name f true e) (v:Value) (n:Nat) (w:World):(method (n+1) t v name).run P w= .ok (f,v) w:=by
 obtain ⟨hu,ti,m,h1,h2,h3,h4⟩:=h
 rw [method]
 simp [typeInfo,h1,h2,h3,h4,follow,receiverAt,run_underlying hu,Result.andThen,Place.get]
theorem xm {t t':TypeId} {a:Addr} {p q:String} {w:World}:(Builtin.ssaWrapNilChk_ #[t] t' #[.pointer (some a),strVal p,strVal q]).run P w= .ok (.pointer (some a)) w:=rfl
theorem o0.runV {name:String} {f:FuncId} {e:TypeId} (h:o0 P t name f false e) {a:Addr} {v:Value} {w:World} (hl:(loadVar e a).run P w= .ok v w) (n:Nat):(method (n+1) t (.pointer (some a)) name).run P w= .ok (f,v) w:=by
 obtain ⟨hu,ti,m,h1,h2,h3,h4⟩:=h
 unfold method
 simp [typeInfo,h1,h2,h3,h4,follow,receiverAt,run_underlying hu,Result.andThen,Place.get,xm,asAddr,hl]
theorem sH {ρ:Operand→Value} {w:World} {f:FuncId} {name:String} {v rv:Value} {args:Array Operand} {ts:Array TypeId} (hf:bS P f) (hxv:ρ x= .iface t v) (hm:(method (P.types.size+Made.depth) t v name).run P w= .ok (f,rv) w):(execOp ρ ⟨d,.call ⟨.invoke x name,args,ts⟩,ty,pos,af,g⟩).run P w= .ok (.enter f (rv::args.toList.map ρ).toArray) w:=by
 have e0:(#[ρ x]++args.map ρ)[0]?=some (.iface t v):=by rw [hxv,←Array.getElem?_toList];simp
 have e1:(#[ρ x]++args.map ρ).extract 1 (#[ρ x]++args.map ρ).size=args.map ρ:=by
  apply Array.toList_inj.1
  simp
  exact List.take_of_length_le (by simp)
 have e2:(rv::args.toList.map ρ).toArray=#[rv]++args.map ρ:=by
  apply Array.toList_inj.1
  simp
 rw [e2]
 have h3:(callMethod (.iface t v) name (args.map ρ)).run P w= .ok (.enter f (#[rv]++args.map ρ)) w:=by
  simp only [callMethod,Sem.run_bind,run_program,Result.andThen,hm,hf.enters]
 have h4:(invoke (.fn (.method name) #[]) (#[ρ x]++args.map ρ)).run P w= .ok (.enter f (#[rv]++args.map ρ)) w:=by
  unfold invoke
  rw [e0,e1]
  exact h3
 simp only [execOp,resolve,Sem.run_bind,Sem.run_pure,Result.andThen,h4]
theorem Bx (Lc Lf:AL) {f:FuncId} {name:String} {e:TypeId} {a:Addr} {args:Array Operand} {ts:Array TypeId} {cs:List AV} {Post:AV→AL→Prop} [hf:bS P f] (hm:o0 P t name f true e) (hx:bE fr x=some (.sc (.iface t (.pointer (some a))))) (hv:eP fr args.toList=some cs) (hL:L.Perm (Lc++Lf)) (h:AC P f (.sc (.pointer (some a))::cs) Lc Post):
  AO P ⟨d,.call ⟨.invoke x name,args,ts⟩,ty,pos,af,g⟩ fr B L (fun c L'=>∃L1,Post c L1∧L'=L1++Lf):=by
 intro σ ρ w hρ hw0
 have hw:=hw0.perm hL
 have hxv:=(hρ x _ hx).sc_inv
 have hvs:=fL hρ _ _ hv
 unfold j7
 rw [show (execOp ρ ⟨d,.call ⟨.invoke x name,args,ts⟩,ty,pos,af,g⟩).run P w= .ok (.enter f (.pointer (some a)::args.toList.map ρ).toArray) w from sH hf hxv (by
  have hmr:=hm.run (.pointer (some a)) (P.types.size+Made.depth - 1) w
  rwa [show P.types.size+Made.depth - 1+1=P.types.size+Made.depth by unfold Made.depth;omega] at hmr)]
 refine (h σ w _ (.cons (.sc _) hvs) hw.enter).mono fun en w' ⟨v,τ,c,L',h1,h2,h3,h4⟩=>⟨v,h1,τ,c,L'++Lf,h3.grow,h2,hw.leave h3,L',h4,rfl⟩
theorem xX (i:Nat) (Lc Lf:AL) {f:FuncId} {name:String} {e b:Nat} {e':TypeId} {args:Array Operand} {ts:Array TypeId} {cs ds:List AV} {Post:AV→AL→Prop} [hf:bS P f] (hm:o0 P t name f false e) (he:IF P e) (hx:bE fr x=some (.sc (.iface t (.pointer (some ⟨b,0,none⟩))))) (hi:L[i]?=some (b,.box ds e')) (hd:ds[0]?=some u) (hv:eP fr args.toList=some cs) (hL:L.Perm (Lc++Lf)) (h:AC P f (u::cs) Lc Post):
  AO P ⟨d,.call ⟨.invoke x name,args,ts⟩,ty,pos,af,g⟩ fr B L (fun c L'=>∃L1,Post c L1∧L'=L1++Lf):=by
 intro σ ρ w hρ hw0
 have hw:=hw0.perm hL
 have hxv:=(hρ x _ hx).sc_inv
 have hvs:=fL hρ _ _ hv
 obtain ⟨vs,hb,hs,_⟩:=hw0.boxCell hi
 obtain ⟨v,hv1,hr1⟩:=hs.get hd
 have hcell:w.cell? ⟨b,0,none⟩=some v:=by rw [dc hb];simpa using hv1
 have hload:(loadVar e ⟨b,0,none⟩).run P w= .ok v w:=i5 hcell
 unfold j7
 rw [show (execOp ρ ⟨d,.call ⟨.invoke x name,args,ts⟩,ty,pos,af,g⟩).run P w= .ok (.enter f (v::args.toList.map ρ).toArray) w from sH hf hxv (by
  have hmr:=hm.runV hload (P.types.size+Made.depth - 1)
  rwa [show P.types.size+Made.depth - 1+1=P.types.size+Made.depth by unfold Made.depth;omega] at hmr)]
 refine (h σ w _ (.cons hr1 hvs) hw.enter).mono fun en w' ⟨v,τ,c,L',h1,h2,h3,h4⟩=>⟨v,h1,τ,c,L'++Lf,h3.grow,h2,hw.leave h3,L',h4,rfl⟩
theorem Jp {a b c e:Int} (ht:kS P t) (hg:P.eqGuardType P.depth t=false) (hx:bE fr x=some (.agg [.sc (.int .i64 a),.sc (.int .i64 b)])) (hy:bE fr y=some (.agg [.sc (.int .i64 c),.sc (.int .i64 e)])):Av P ⟨d,.binOp .eql t x y t',ty,pos,af,g⟩ fr (.sc (.bool (decide (a=c∧b=e)))):=by
 intro σ ρ w hρ _
 refine ⟨_,?_,.sc _⟩
 have h1:=vC (hρ x _ hx)
 have h2:=vC (hρ y _ hy)
 have h3:=ht.eq a b c e w
 unfold Op.equal at h3
 rw [show Op.maxDepth=10000 from rfl] at h3
 simp only [execOp,h1,h2,Sem.run_bind,run_eqGuard_agg w .eql t x y _ _ hg,run_eql_struct,h3,Result.andThen,Sem.run_pure]
end
section
variable {P:Program} {tt:TT} {r:Option Nat} {ops:Array Oper} {Q:Exit→Act→World→Prop} {nt:Nat} {D:List Deferred} {fr:cf} {B:Bs} {L:AL} {rest:List Oper} {d:Nat} {ty t t':TypeId} {pos:String} {af:Array Edge} {x y z:Operand} {u:AV}
theorem CB (ok:eF P tt) (i:Nat) {e by_ b n cap:Nat} {cs:List AV} {c:AV} (ht:jP tt t=some (e,1,by_)) (hz:zI tt e=some [.int .i64 0]) (hx:bE fr x=some (.sc (.slice (some ⟨b,0,none⟩) n cap))) (hy:bE fr y=some u) (hu:j2 u=some (1,[[c]])) (hL:L[i]?=some (b,.box cs e)) (hcl:cs.length=cap) (hn:n≤cap) (h63:n+1≤9223372036854775807) (hby:(n+1) * by_≤140737488355328) (hd:Nat.ble nt d=false)
  (h:∀b' cs',cs'.take (n+1)=cs.take n++[c]→n+1≤cs'.length→bP P r ops Q nt D rest ((d,.sc (.slice (some ⟨b',0,none⟩) (n+1) cs'.length))::fr) B ((b',.box cs' e)::L.eraseIdx i)):
  bP P r ops Q nt D (⟨some d,.call ⟨.builtin .append,#[x,y],#[t,t]⟩,ty,pos,af,none⟩::rest) fr B L:=
 cT hd rfl (rr i (bB ok ht).1 (dX ok hz) hx hy (d4 hu) hL hcl hn h63 hby) fun q L' ⟨b',cs',h1,h2,h3,h4⟩=>by subst h1;subst h4;exact h b' cs' h2 h3
theorem CC (ok:eF P tt) {e by_:Nat} {c:AV} (ht:jP tt t=some (e,1,by_)) (hz:zI tt e=some [.int .i64 0]) (hx:bE fr x=some (.sc (.slice none 0 0))) (hy:bE fr y=some u) (hu:j2 u=some (1,[[c]])) (hby:Nat.ble by_ 140737488355328=true) (hd:Nat.ble nt d=false)
  (h:∀b' cs',cs'.take 1=[c]→1≤cs'.length→bP P r ops Q nt D rest ((d,.sc (.slice (some ⟨b',0,none⟩) 1 cs'.length))::fr) B ((b',.box cs' e)::L)):
  bP P r ops Q nt D (⟨some d,.call ⟨.builtin .append,#[x,y],#[t,t]⟩,ty,pos,af,none⟩::rest) fr B L:=
 cT hd rfl (rt (bB ok ht).1 (dX ok hz) hx hy (d4 hu) (Nat.ble_eq .. ▸hby)) fun q L' ⟨b',cs',h1,h2,h3,h4⟩=>by subst h1;subst h4;exact h b' cs' h2 h3
theorem FN (ok:eF P tt) (hi:Nat) {e by_ b n cap:Nat} {k:IntKind} {a:Int} (ht:jP tt t=some (e,1,by_)) (hx:bE fr x=some (.sc (.slice (some ⟨b,0,none⟩) n cap))) (hy:bE fr y=some (.sc (.int k a))) (ha:a=(hi:Int)) (h1:hi≤cap) (h0:0 < cap) (hd:Nat.ble nt d=false) (h:bP P r ops Q nt D rest ((d,.sc (.slice (some ⟨b,0,none⟩) hi cap))::fr) B L):
  bP P r ops Q nt D (⟨some d,.slice t x none (some y) none,ty,pos,af,none⟩::rest) fr B L:=cr (Jk (bB ok ht).1 hx hy ha h1 h0) hd rfl h
theorem oH {v:Value} (ht:jK P t=true) (hx:bE fr x=some (.sc v)) (hd:Nat.ble nt d=false) (h:bP P r ops Q nt D rest ((d,.sc (.iface t v))::fr) B L):bP P r ops Q nt D (⟨some d,.makeInterface t x,ty,pos,af,none⟩::rest) fr B L:=cr (GZ ht hx) hd rfl h
theorem FJ {v:Value} (ht:jK P t=true) (hx:bE fr x=some (.sc (.iface t v))) (hd:Nat.ble nt d=false) (h:bP P r ops Q nt D rest ((d,.sc v)::fr) B L):bP P r ops Q nt D (⟨some d,.typeAssert x t' t false,ty,pos,af,none⟩::rest) fr B L:=cr (vN ht hx) hd rfl h
theorem wW (Lc Lf:AL) {f:FuncId} {name:String} {e:TypeId} {a:Addr} {args:Array Operand} {ts:Array TypeId} {cs:List AV} {Post:AV→AL→Prop} [hf:bS P f] (hm:o0 P t name f true e) (hx:bE fr x=some (.sc (.iface t (.pointer (some a))))) (hv:eP fr args.toList=some cs) (hL:L.Perm (Lc++Lf)) (hc:AC P f (.sc (.pointer (some a))::cs) Lc Post) (hn:Oper.noDefer ⟨some d,.call ⟨.invoke x name,args,ts⟩,ty,pos,af,none⟩=true) (hd:Nat.ble nt d=false) (h:∀c L1,Post c L1→bP P r ops Q nt D rest ((d,c)::fr) B (L1++Lf)):
  bP P r ops Q nt D (⟨some d,.call ⟨.invoke x name,args,ts⟩,ty,pos,af,none⟩::rest) fr B L:=cT hd hn (Bx Lc Lf hm hx hv hL hc) fun c L' ⟨L1,h1,h2⟩=>by subst h2;exact h c L1 h1
theorem ew (i:Nat) (Lc Lf:AL) {f:FuncId} {name:String} {e b:Nat} {e':TypeId} {args:Array Operand} {ts:Array TypeId} {cs ds:List AV} {Post:AV→AL→Prop} [hf:bS P f] (hm:o0 P t name f false e) (he:IF P e) (hx:bE fr x=some (.sc (.iface t (.pointer (some ⟨b,0,none⟩))))) (hi:L[i]?=some (b,.box ds e')) (hd0:ds[0]?=some u) (hv:eP fr args.toList=some cs) (hL:L.Perm (Lc++Lf)) (hc:AC P f (u::cs) Lc Post) (hn:Oper.noDefer ⟨some d,.call ⟨.invoke x name,args,ts⟩,ty,pos,af,none⟩=true) (hd:Nat.ble nt d=false) (h:∀c L1,Post c L1→bP P r ops Q nt D rest ((d,c)::fr) B (L1++Lf)):
  bP P r ops Q nt D (⟨some d,.call ⟨.invoke x name,args,ts⟩,ty,pos,af,none⟩::rest) fr B L:=cT hd hn (xX i Lc Lf hm he hx hi hd0 hv hL hc) fun c L' ⟨L1,h1,h2⟩=>by subst h2;exact h c L1 h1
theorem K7 {a b c e:Int} (ht:kS P t) (hg:P.eqGuardType P.depth t=false) (hx:bE fr x=some (.agg [.sc (.int .i64 a),.sc (.int .i64 b)])) (hy:bE fr y=some (.agg [.sc (.int .i64 c),.sc (.int .i64 e)])) (hd:Nat.ble nt d=false) (h:bP P r ops Q nt D rest ((d,.sc (.bool (decide (a=c∧b=e))))::fr) B L):bP P r ops Q nt D (⟨some d,.binOp .eql t x y t',ty,pos,af,none⟩::rest) fr B L:=cr (Jp ht hg hx hy) hd rfl h
end
section
variable {P:Program} {fr:cf} {B:Bs} {L:AL} {d:Option Tmp} {ty t t' tn:TypeId} {pos:String} {af:Array Edge} {g:Option (Nat×Bool)} {x y z q:Operand} {u:AV}
theorem xW {e sz by_ n:Nat} {k kn:IntKind} {a:Int} (hc:lw P t e sz by_) (hsz:0 < sz) (hn:P.underlying tn=some (.int kn)) (hx:bE fr x=some (.sc (.slice none 0 0))) (hy:bE fr y=some (.sc (.int k a))) (ha:a=(n:Int)) (h0:0 < n) (h63:n≤9223372036854775807) (hby:n * by_≤281474976710656):
  AO P ⟨d,.call ⟨.builtin .append,#[x,y],#[t,tn]⟩,ty,pos,af,g⟩ fr B L (fun r L'=>∃b cap,r= .sc (.slice (some ⟨b,0,none⟩) n cap)∧n≤cap∧cap≤maxLen∧L'=(b,.vec e sz 0 cap)::L):=by
 intro σ ρ w hρ hw
 subst ha
 haveI:=hc
 obtain ⟨inf,zz,hi,rfl,rfl,hzz,hzs⟩:=hc.info
 have hr:=Lib.run_append_nil_zeros (P:=P) w t tn ty e inf zz k kn hc.under hn hi hzz n h0 hsz (by omega) hby
 unfold j7
 rw [show (execOp ρ ⟨d,.call ⟨.builtin .append,#[x,y],#[t,tn]⟩,ty,pos,af,g⟩).run P w= .ok (.value (.slice (some ⟨w.heap.size,0,none⟩) n (grownCap w n 0 e))) (w.drew.alloc (.cells (Builtin.zeroCells zz.cells n++Builtin.zeroCells zz.cells (grownCap w n 0 e - n)) e)) by
  simp [execOp,resolve,(hρ x _ hx).sc_inv,(hρ y _ hy).sc_inv,invoke,builtin,hr]]
 have hge:=grownCap_ge w n 0 e
 have hm:=grownCap_le_maxLen w n 0 e (by unfold maxLen;omega)
 refine ⟨σ,.sc _,_,cF.le_refl _,.sc _,(hw.drew _).alloc _ (.vec e inf.size 0 (grownCap w n 0 e)) ⟨_,rfl,?_,Nat.zero_le _,hm⟩,w.heap.size,_,rfl,hge,hm,rfl⟩
 rw [Array.size_append,size_zeroCells,size_zeroCells,hzs,←Nat.add_mul]
 congr 1
 omega
theorem Jj {A:Option Addr} {n c e sz by_:Nat} (hc:lw P t e sz by_) (hx:bE fr x=some (.sc (.slice A n c))):Av P ⟨d,.call ⟨.builtin .cap,#[x],#[t]⟩,ty,pos,af,g⟩ fr (.sc (.int .i64 c)):=
 eH fun ρ w hρ=>by simp [execOp,resolve,hρ _ _ hx,invoke,builtin,Builtin.cap_,run_underlying hc.under,Result.andThen,goInt]
theorem Jn {e sz by_:Nat} {k:IntKind} (hc:lw P t e sz by_) (hx:bE fr x=some (.sc (.slice none 0 0))) (hy:bE fr y=some (.sc (.int k 0))):Av P ⟨d,.slice t x none (some y) none,ty,pos,af,g⟩ fr (.sc (.slice none 0 0)):=by
 intro σ ρ w hρ _
 haveI:=hc
 refine ⟨_,?_,.sc _⟩
 simp [execOp,(hρ x _ hx).sc_inv,(hρ y _ hy).sc_inv,Instr.sliceAt,Instr.slice,Instr.sliceBounds,Instr.sliceBound,asIntOf,run_underlying hc.under,df (t:=t)]
end
section
variable {P:Program} {tt:TT} {r:Option Nat} {ops:Array Oper} {Q:Exit→Act→World→Prop} {nt:Nat} {D:List Deferred} {fr:cf} {B:Bs} {L:AL} {rest:List Oper} {d:Nat} {ty t t' tn:TypeId} {pos:String} {af:Array Edge} {x y z:Operand} {u:AV}
theorem CE (ok:eF P tt) (n:Nat) {e sz by_:Nat} {k kn:IntKind} {a:Int} (ht:jP tt t=some (e,sz,by_)) (hn:P.underlying tn=some (.int kn)) (hx:bE fr x=some (.sc (.slice none 0 0))) (hy:bE fr y=some (.sc (.int k a))) (ha:a=(n:Int)) (h0:0 < n) (h63:n≤9223372036854775807) (hby:n * by_≤281474976710656) (hd:Nat.ble nt d=false)
  (h:∀b cap,n≤cap→cap≤maxLen→bP P r ops Q nt D rest ((d,.sc (.slice (some ⟨b,0,none⟩) n cap))::fr) B ((b,.vec e sz 0 cap)::L)):
  bP P r ops Q nt D (⟨some d,.call ⟨.builtin .append,#[x,y],#[t,tn]⟩,ty,pos,af,none⟩::rest) fr B L:=
 cT hd rfl (xW (bB ok ht).1 (bB ok ht).2 hn hx hy ha h0 h63 hby) fun q L' ⟨b,cap,h1,h2,h3,h4⟩=>by subst h1;subst h4;exact h b cap h2 h3
theorem v5 (ok:eF P tt) {A:Option Addr} {n c e sz by_:Nat} (ht:jP tt t=some (e,sz,by_)) (hx:bE fr x=some (.sc (.slice A n c))) (hd:Nat.ble nt d=false) (h:bP P r ops Q nt D rest ((d,.sc (.int .i64 c))::fr) B L):bP P r ops Q nt D (⟨some d,.call ⟨.builtin .cap,#[x],#[t]⟩,ty,pos,af,none⟩::rest) fr B L:=cr (Jj (bB ok ht).1 hx) hd rfl h
theorem K5 (ok:eF P tt) {e sz by_:Nat} {k:IntKind} (ht:jP tt t=some (e,sz,by_)) (hx:bE fr x=some (.sc (.slice none 0 0))) (hy:bE fr y=some (.sc (.int k 0))) (hd:Nat.ble nt d=false) (h:bP P r ops Q nt D rest ((d,.sc (.slice none 0 0))::fr) B L):
  bP P r ops Q nt D (⟨some d,.slice t x none (some y) none,ty,pos,af,none⟩::rest) fr B L:=cr (Jn (bB ok ht).1 hx hy) hd rfl h
end
theorem IA {σ:cF} {b cap sz:Nat} {v:Value} (hm:cap≤maxLen) (h:VR σ (.sc (.slice (some ⟨b,0,none⟩) 0 cap)) v):VR σ (.vec (some (b,cap)) sz []) v:=by
 rw [h.sc_inv]
 exact mA (l:=[]) (xs:=[]) (by simp) dI.nil (by simp) (Nat.zero_le _) hm (by simp)
end Go.Proofs.YtpmdfoaadejmkaaGreatDoor
