/-
  The document's automata: the first state, the state behind one, what ends, and where a state stands.
-/
import Derived.Test.YtpmdfoaadejmkaaGreatDoorM19
import Derived.Test.YtpmdfoaadejmkaaGreatDoorM13
import Derived.Laws.BytesString
namespace Go.Proofs.YtpmdfoaadejmkaaGreatDoor
open Go.RowKit
section
attribute [local irreducible] AT bP AX AO Av Kt bb dh DA cG
theorem fX (l:List Int) (z:Int):aW l++[[aK z]]=aW (l++[z]):=by simp [aW]
def nY (s:sX):List AV:=[aK s.1,.imm 1 (aW s.2)]
def jU (l:aY):Prop:=l.Rules.length≤6∧∀r∈l.Rules,r.In.length+r.Ahead.length≤200∧r.Back.length≤200
theorem jU.row {l:aY} (h:jU l) (back:Bool):∀r∈l.Rules,(lH back r).length≤200:=fun r hr=>by
 have:=h.2 r hr
 unfold lH
 split
 ·exact this.2
 ·rw [List.length_append];exact this.1
set_option maxHeartbeats 8000000 in
theorem wq (l:aY) (hl:jU l) (back:Bool):bV Tryz.prog 167 [.agg (br l),dy back] (.agg (nY (0,eU back l.Rules l.Rules.length))):=by
 refine aV Tryz.func167 rfl Tryz.ntmps167 rfl fun B=>?_
 have hrl:(l.Rules.map bI).length=l.Rules.length:=Nu ..
 have h6:=hl.1
 repeat' (first|refine Ng ?_|refine ak ?_|refine NG a5 IG ?_|(apply aI;first|refine NH a5 0 NE ?_|refine NH a5 1 NE ?_|refine NH a5 2 NE ?_|refine NH a5 3 NE ?_|fail)|refine bq ?_|refine bn a5 fun _=>?_|fail)
 rename_i b4 b5
 refine bU (bL 0 (cs':=[aK 0,.vec none 1 []]) rfl fun σ vs hh=>mF.vrs (a:=[aK 0,(AV.sc (.slice none 0 0))]) (b:=[aK 0,.vec none 1 []]) ⟨d7.refl _,fun σ v h=>cW 1 h,trivial⟩ hh) ?_
 refine aM [1,2,4,5] (α:=Nat×Option (Nat×Nat)) (fun s=>[(6,aK s.1)]) (fun s=>s.1≤l.Rules.length) (fun s=>(b5,.box [aK 0,.vec s.2 1 (aW (eU back l.Rules s.1))] 241)::(b4,.box [aK 0,(AV.sc (.slice none 0 0))] 241)::tok s.2 3 1 (eU back l.Rules s.1).length) (fun s=>l.Rules.length - s.1) (0,none) rfl ⟨rfl,trivial⟩ (Nat.zero_le _) (fun _ _ h=>h) ?_
 rintro ⟨i,q⟩ hi
 dsimp only at hi ⊢
 try dsimp only [Ns,Nr,Nq,Nk]
 refine W01 ?_
 refine aj rfl (fun h=>?_) (fun h=>?_)
 ·have hil:i < l.Rules.length:=by have:=Ny h;omega
  obtain ⟨r,hr⟩:∃z,l.Rules[i]?=some z:=⟨_,Nz hil⟩
  have hrg:=bG (c:=bI) hr
  have hr2:=hl.2 r (Nw hr)
  haveI a1:AD Tryz.prog 238 [.agg (bI r),dy back] (.tup [.imm 1 (b6 (lH back r)),dy (lc back r)]):=⟨pQ r back (by omega)⟩
  have hst:=wr (back:=back) hr
  have hfl:(eU back l.Rules i).length≤6:=by
   unfold eU
   have:=List.length_filter_le (An back l.Rules) (zO i)
   rw [Be] at this
   omega
  have hil2:=aJ (eU back l.Rules i)
  clear h
  refine W0w ?_
  refine aj rfl (fun h=>?_) (fun h=>?_)
  ·rw [if_pos h] at hst
   refine W0d ?_
   refine NS a5 [(b5,.box [aK 0,.vec q 1 (aW (eU back l.Rules i))] 241),(b4,.box [aK 0,(AV.sc (.slice none 0 0))] 241)] NB (by rw [hil2];exact List.perm_append_comm (l₁:=[_,_])) (by rw [hil2];simp;omega) (by rw [hil2];simp;omega) rfl fun q'=>?_
   refine aL (aQ (L':=(b5,.box [aK 0,.vec q 1 (aW (eU back l.Rules i))] 241)::(b4,.box [aK 0,(AV.sc (.slice none 0 0))] 241)::tok q' 3 1 (aW (eU back l.Rules i++[(i:Int)])).length) (by rw [←fX];exact List.perm_append_comm (l₂:=[_,_]))) ?_
   refine W0f ?_
   refine aC (i+1,q') rfl ⟨by rw [Nv];rfl,trivial⟩ (by dsimp only;omega) (by dsimp only;omega) (fun σ w hh=>?_)
   dsimp only
   rw [hst]
   rw [aJ] at hh
   rw [←fX]
   exact hh
  ·rw [if_neg (by rw [h];simp)] at hst
   refine W02 ?_
   refine aC (i+1,q) rfl ⟨by rw [Nv];rfl,trivial⟩ (by dsimp only;omega) (by dsimp only;omega) (fun σ w hh=>?_)
   dsimp only
   rw [hst]
   exact hh
 have hil:i=l.Rules.length:=by have:=Nx h;omega
 subst hil
 clear h
 refine bU (bL 0 (cs':=nY (0,eU back l.Rules l.Rules.length)) rfl fun σ vs hh=>mF.vrs (a:=[aK 0,.vec q 1 (aW (eU back l.Rules l.Rules.length))]) (b:=nY (0,eU back l.Rules l.Rules.length)) ⟨d7.refl _,d7.im,trivial⟩ hh) ?_
 refine W07 ?_
 exact NU a5 1 [] NC (List.nil_sublist _) rfl
end
section
open Go.MapKept
section
variable {P:Program} {fr:cf} {B:Bs} {L:AL} {d:Option Tmp} {ty t:TypeId} {pos:String} {af:Array Edge} {g:Option (Nat×Bool)} {x y z:Operand} {u:AV}
theorem By (i:Nat) {b kt et:Nat} {kd:TypeDesc} {m:Value→Option AV} {ks:List Value} (ht:P.underlying t=some (.map kt et)) (hx:bE fr x=some (.sc (.map (some b)))) (hL:L[i]?=some (b,cx kd m)) (hn:ks.Pairwise (·≠ ·)) (hk:∀k,(m k).isSome=true↔k∈ks):
    AO P ⟨d,.call ⟨.builtin .len,#[x],#[t]⟩,ty,pos,af,g⟩ fr B L (fun c L'=>c= .sc (.int .i64 ks.length)∧L'=L):=by
  intro σ ρ w hρ hw
  obtain ⟨o,ho,hM⟩:=hw.here _ (Nw hL)
  have hM':lx kd m σ o:=hM
  obtain ⟨es,clock,rfl,h1,h2,h3⟩:=hM'
  have hl:es.size=ks.length:=by
    have key:∀(es:List MapEntry) (ks:List Value),es.Pairwise (fun x y=>x.key≠y.key)→ks.Pairwise (·≠ ·)→(∀k,(∃x∈es,x.key=k)↔k∈ks)→es.length=ks.length:=by
      intro es
      induction es with
      | nil=>
        intro ks _ _ h
        cases ks with
        | nil=>rfl
        | cons k ks=>obtain ⟨x,hx,_⟩:=(h k).2 (by simp);cases hx
      | cons e es ih=>
        intro ks he hks h
        obtain ⟨he1,he2⟩:=List.pairwise_cons.1 he
        obtain ⟨a,c,rfl⟩:=List.append_of_mem ((h e.key).1 ⟨e,by simp,rfl⟩)
        obtain ⟨p1,p2,p3⟩:=List.pairwise_append.1 hks
        obtain ⟨p4,p5⟩:=List.pairwise_cons.1 p2
        have:=ih (a++c) he2 (List.pairwise_append.2 ⟨p1,p5,fun x hx y hy=>p3 x hx y (by simp [hy])⟩) fun k=>by
          constructor
          · rintro ⟨x,hx,rfl⟩
            have hm:=(h x.key).1 ⟨x,by simp [hx],rfl⟩
            rw [List.mem_append,List.mem_cons] at hm
            rw [List.mem_append]
            rcases hm with hm | hm | hm
            · exact .inl hm
            · exact absurd hm.symm (he1 x hx)
            · exact .inr hm
          · intro hk
            obtain ⟨x,hx,hxk⟩:=(h k).2 (by rw [List.mem_append] at hk;rw [List.mem_append,List.mem_cons];rcases hk with hk | hk;exact .inl hk;exact .inr (.inr hk))
            rcases List.mem_cons.1 hx with rfl | hx
            · exfalso
              rw [List.mem_append] at hk
              rcases hk with hk | hk
              · exact p3 k hk _ (List.mem_cons_self ..) hxk.symm
              · exact p4 k hk hxk
            · exact ⟨x,hx,hxk⟩
        rw [List.length_cons,this,List.length_append,List.length_append,List.length_cons]
        omega
    have:=key es.toList ks h2 hn fun k=>by
      rw [←hk]
      constructor
      · rintro ⟨x,hx,rfl⟩
        obtain ⟨_,c,hc,_⟩:=h1 x hx
        rw [hc];rfl
      · intro h
        obtain ⟨c,hc⟩:=Option.isSome_iff_exists.1 h
        exact h3 k c hc
    simpa using this
  unfold j7
  have hg:=MapKept.run_getObj_map (P:=P) ho
  rw [show (execOp ρ ⟨d,.call ⟨.builtin .len,#[x],#[t]⟩,ty,pos,af,g⟩).run P w= .ok (.value (.int .i64 ks.length)) w by
    simp [execOp,resolve,(hρ x _ hx).sc_inv,invoke,builtin,Builtin.len_,run_underlying ht,hg,goInt,hl,Result.andThen]]
  exact ⟨σ,.sc _,_,cF.le_refl _,.sc _,hw,rfl,rfl⟩
end
section
variable {P:Program} {tt:TT} {r:Option Nat} {ops:Array Oper} {Q:Exit→Act→World→Prop} {nt:Nat} {D:List Deferred} {fr:cf} {B:Bs} {L:AL} {rest:List Oper} {d:Nat} {ty t t':TypeId} {pos:String} {af:Array Edge} {x y z:Operand} {u:AV}
theorem FO (i:Nat) (ks:List Value) {b kt et:Nat} {kd:TypeDesc} {m:Value→Option AV} (ht:P.underlying t=some (.map kt et)) (hx:bE fr x=some (.sc (.map (some b)))) (hL:L[i]?=some (b,cx kd m)) (hn:ks.Pairwise (·≠ ·)) (hk:∀k,(m k).isSome=true↔k∈ks) (hd:Nat.ble nt d=false) (h:bP P r ops Q nt D rest ((d,.sc (.int .i64 ks.length))::fr) B L):bP P r ops Q nt D (⟨some d,.call ⟨.builtin .len,#[x],#[t]⟩,ty,pos,af,none⟩::rest) fr B L:=
  cT hd rfl (By i ht hx hL hn hk) fun c L' ⟨h1,h2⟩=>by subst h1;subst h2;exact h
end
end
section
variable {P:Program} {fr:cf} {B:Bs} {L:AL} {d:Option Tmp} {ty t t':TypeId} {pos:String} {af:Array Edge} {g:Option (Nat×Bool)} {x y z:Operand} {u:AV}
theorem DW {dd:Option Tmp} {k kk:IntKind} {a b:Int} (i:Nat) (hx:bE fr x=some (.sc (.int k a))) (hy:bE fr y=some (.sc (.int kk b))) (hb:b=(i:Int)):Av P ⟨dd,.binOp .shl t x y t',ty,pos,af,g⟩ fr (.sc (.int k (k.wrap (a * 2 ^ min i k.bits)))):=by
 intro σ ρ w hρ _
 subst hb
 refine ⟨_,?_,.sc _⟩
 have h:=shift_shl_any k kk a (i:Int) (Int.natCast_nonneg i)
 simp [execOp,(hρ x _ hx).sc_inv,(hρ y _ hy).sc_inv,eqGuard,binOp,h]
theorem DP {dd:Option Tmp} {n e sz b:Nat} (ha:P.underlying t=some (.array n e)) (hs:(P.info? e).map (·.size)=some sz) (hx:bE fr x=some (.sc (.pointer (some ⟨b,0,none⟩)))):Av P ⟨dd,.slice t x none none none,ty,pos,af,g⟩ fr (.sc (.slice (some ⟨b,0,none⟩) n n)):=by
 intro σ ρ w hρ _
 refine ⟨_,?_,.sc _⟩
 obtain ⟨i,hi,hi2⟩:∃i,P.info? e=some i∧i.size=sz:=by
  cases hi:P.info? e with
  | none=>rw [hi] at hs;cases hs
  | some i=>rw [hi] at hs;exact ⟨i,rfl,by simpa using hs⟩
 simp [execOp,(hρ x _ hx).sc_inv,Instr.sliceAt,Instr.sliceBounds,Instr.sureAddr,run_underlying ha,sizeOf,typeInfo,hi,dS]
theorem Bv (i:Nat) {dd:Option Tmp} {e sz by_ b n cap:Nat} {e':TypeId} (ns:List Int) (hs:lw P t e sz by_) (he:Dv P e .u8) (hd:Dw P t') (hx:bE fr x=some (.sc (.slice (some ⟨b,0,none⟩) n cap))) (hL:L[i]?=some (b,.box (ns.map fun z=> .sc (.int .u8 z)) e')) (hn:ns.length=n):
  AO P ⟨dd,.convert t t' x,ty,pos,af,g⟩ fr B L (fun c L'=>c= .sc (.string (ns.foldl (fun r n=>r.push (UInt8.ofNat n.toNat)) ByteArray.empty))∧L'=L):=by
 intro σ ρ w hρ hw
 obtain ⟨o,ho,vs,rfl,hvs,h1⟩:=hw.here _ (Nw hL)
 have hvs':vs=ns.map (Value.int .u8):=by
  have hl:=hvs.1
  rw [Nu] at hl
  apply List.ext_getElem?
  intro j
  by_cases hj:j < ns.length
  ·obtain ⟨z,hz⟩:∃z,ns[j]?=some z:=⟨_,Nz hj⟩
   obtain ⟨v,hv⟩:∃v,vs[j]?=some v:=⟨_,Nz (by omega)⟩
   have:=hvs.2 j _ v (by rw [List.getElem?_map,hz];rfl) hv
   rw [hv,List.getElem?_map,hz,this.sc_inv]
   rfl
  ·rw [List.getElem?_eq_none (by omega),List.getElem?_eq_none (by rw [Nu];omega)]
 have hload:(loadCells ⟨b,0,none⟩ n).run P w= .ok (ns.map (Value.int .u8)).toArray w:=by
  have:=run_loadCells_list (P:=P) w ⟨b,0,none⟩ vs fun j v hj=>by
   rw [dS,Nat.zero_add,dc ho]
   simpa using hj
  rw [←hvs.1,Nu,hn] at this
  rw [this,hvs']
 have hr:=run_bytesToString (P:=P) w ⟨b,0,none⟩ n cap ns hload
 haveI:=hs
 unfold j7
 rw [show (execOp ρ ⟨dd,.convert t t' x,ty,pos,af,g⟩).run P w= .ok (.value (.string (ns.foldl (fun r n=>r.push (UInt8.ofNat n.toNat)) ByteArray.empty))) w by
  simp [execOp,(hρ x _ hx).sc_inv,run_convert_bytes_string w t t' e _ _ _ hs.under he.under hd.under,hr]]
 exact ⟨σ,.sc _,_,cF.le_refl _,.sc _,hw,rfl,rfl⟩
end
section
variable {P:Program} {tt:TT} {r:Option Nat} {ops:Array Oper} {Q:Exit→Act→World→Prop} {nt:Nat} {D:List Deferred} {fr:cf} {B:Bs} {L:AL} {rest:List Oper} {d:Nat} {ty t t':TypeId} {pos:String} {af:Array Edge} {x y z:Operand} {u:AV}
theorem FM (ok:eF P tt) {n e sz b:Nat} (ha:Bz tt t=some (n,e,sz)) (hx:bE fr x=some (.sc (.pointer (some ⟨b,0,none⟩)))) (hd:Nat.ble nt d=false) (h:bP P r ops Q nt D rest ((d,.sc (.slice (some ⟨b,0,none⟩) n n))::fr) B L):bP P r ops Q nt D (⟨some d,.slice t x none none none,ty,pos,af,none⟩::rest) fr B L:=
 cr (DP (jn ok ha).1 (jn ok ha).2 hx) hd rfl h
theorem FK (ok:eF P tt) (i:Nat) (ns:List Int) {e sz by_ b n cap:Nat} {e':TypeId} {ti ti':TI} (ht:jP tt t=some (e,sz,by_)) (he:dC tt e=some ti) (hk:ti.k= .int .u8) (ht':dC tt t'=some ti') (hk':ti'.k= .str) (hx:bE fr x=some (.sc (.slice (some ⟨b,0,none⟩) n cap))) (hL:L[i]?=some (b,.box (ns.map fun z=> .sc (.int .u8 z)) e')) (hn:ns.length=n) (hd:Nat.ble nt d=false) (h:bP P r ops Q nt D rest ((d,.sc (.string (ns.foldl (fun r n=>r.push (UInt8.ofNat n.toNat)) ByteArray.empty)))::fr) B L):bP P r ops Q nt D (⟨some d,.convert t t' x,ty,pos,af,none⟩::rest) fr B L:=
 cT hd rfl (Bv i ns (bB ok ht).1 (ok.int he hk) (ok.str ht' hk') hx hL hn) fun c L' ⟨h1,h2⟩=>by subst h1;subst h2;exact h
theorem Ka (i:Nat) {k kk:IntKind} {a b:Int} (hx:bE fr x=some (.sc (.int k a))) (hy:bE fr y=some (.sc (.int kk b))) (hb:b=(i:Int)) (hd:Nat.ble nt d=false) (h:bP P r ops Q nt D rest ((d,.sc (.int k (k.wrap (a * 2 ^ min i k.bits))))::fr) B L):bP P r ops Q nt D (⟨some d,.binOp .shl t x y t',ty,pos,af,none⟩::rest) fr B L:=cr (DW i hx hy hb) hd rfl h
end
section
variable {P:Program} {tt:TT} {l:List Oper} {fr:cf} {fin:jR} {sk:n7} {acc:cf} {L:AL} {k:Nat} {dd:Option Tmp} {ty t t':TypeId} {pos:String} {af:Array Edge} {g:Option (Nat×Bool)} {x y:Operand} {u:AV}
theorem yj (i:Nat) {q q':IntKind} {a b:Int} (hx:bE (cK l.toArray acc fr af.toList) x=some (.sc (.int q a))) (hy:bE (cK l.toArray acc fr af.toList) y=some (.sc (.int q' b))) (hb:b=(i:Int)) (hg:jh ⟨dd,.binOp .shl t x y t',ty,pos,af,g⟩ acc) (h:DA P l fr fin sk ((k,.sc (.int q (q.wrap (a * 2 ^ min i q.bits))))::acc) L):cG P l fr fin k .v ⟨dd,.binOp .shl t x y t',ty,pos,af,g⟩ sk acc L:=fA hg (AK (DW i hx hy hb)) h
theorem Hg {q:IntKind} {a b:Int} (hx:bE (cK l.toArray acc fr af.toList) x=some (.sc (.int q a))) (hy:bE (cK l.toArray acc fr af.toList) y=some (.sc (.int q b))) (hg:jh ⟨dd,.binOp .or t x y t',ty,pos,af,g⟩ acc) (h:DA P l fr fin sk ((k,.sc (.int q (bits .or q a b)))::acc) L):cG P l fr fin k .v ⟨dd,.binOp .or t x y t',ty,pos,af,g⟩ sk acc L:=fA hg (AK (zW hx hy)) h
end
section
attribute [local irreducible] AT bP AX AO Av Kt bb dh DA cG
theorem B8 {R:List Int} {n:Nat} (h:R.Sublist (zO n)):R.length≤n:=by
 have:=h.length_le
 rw [Be] at this
 exact this
theorem B9 {R:List Int} {n:Nat} (h:R.Sublist (zO n)):∀i∈R,0≤i∧i < (n:Int):=fun i hi=>Iz (h.subset hi)
set_option maxHeartbeats 8000000 in
theorem uE (l:aY) (hl:jU l) (back:Bool) (m:Nat) (R:List Int) (hm:m≤1000) (hR:R.Sublist (zO l.Rules.length)) (g:Int):bV Tryz.prog 168 [.agg (br l),dy back,.agg (nY (m,R)),aK g] (.agg (nY (m+1,cL back l.Rules m g R))):=by
 refine aV Tryz.func168 rfl Tryz.ntmps168 rfl fun B=>?_
 have hrl:(l.Rules.map bI).length=l.Rules.length:=Nu ..
 have h6:=hl.1
 have hRi:=aJ R
 have hRl:=B8 hR
 have hRm:=B9 hR
 have hm1:((m:Int)+1)=((m+1:Nat):Int):=rfl
 unfold nY
 dsimp only
 repeat' (first|refine Ng ?_|refine ak ?_|refine NG a5 IG ?_|(apply aS;refine aR ?_)|(apply aI;first|refine NH a5 0 NE ?_|refine NH a5 1 NE ?_|refine NH a5 2 NE ?_|refine NH a5 3 NE ?_|fail)|refine bq ?_|refine bn a5 fun _=>?_|fail)
 rename_i b8 b9
 refine bU (bL 0 (cs':=[aK ((m:Int)+1),.vec none 1 []]) rfl fun σ vs hh=>mF.vrs (a:=[aK ((m:Int)+1),(AV.sc (.slice none 0 0))]) (b:=[aK ((m:Int)+1),.vec none 1 []]) ⟨d7.refl _,fun σ v h=>cW 1 h,trivial⟩ hh) ?_
 refine aM [1,3,4,6,8,9] (α:=Nat×Option (Nat×Nat)) (fun s=>[(10,aK s.1)]) (fun s=>s.1≤R.length) (fun s=>(b9,.box [aK ((m:Int)+1),.vec s.2 1 (aW (cL back l.Rules m g (R.take s.1)))] 241)::(b8,.box [aK 0,(AV.sc (.slice none 0 0))] 241)::tok s.2 3 1 (cL back l.Rules m g (R.take s.1)).length) (fun s=>R.length - s.1) (0,none) rfl ⟨rfl,trivial⟩ (Nat.zero_le _) (fun _ _ h=>h) ?_
 rintro ⟨k,q⟩ hk
 dsimp only at hk ⊢
 try dsimp only [Ns,Nr,Nq,Nk]
 refine W01 ?_
 refine aj rfl (fun h=>?_) (fun h=>?_)
 ·have hkl:k < R.length:=by have:=Ny h;omega
  obtain ⟨i,hi⟩:∃z,R[k]?=some z:=⟨_,Nz hkl⟩
  have hig:=bK hi
  have hib:=hRm i (Nw hi)
  obtain ⟨r,hr⟩:∃z,l.Rules[i.toNat]?=some z:=⟨_,Nz (by omega)⟩
  have hrg:=bG (c:=bI) hr
  have hr2:=hl.2 r (Nw hr)
  haveI a1:AD Tryz.prog 238 [.agg (bI r),dy back] (.tup [.imm 1 (b6 (lH back r)),dy (lc back r)]):=⟨pQ r back (by omega)⟩
  have hst:=uF (back:=back) (rs:=l.Rules) (m:=m) (g:=g) hi
  have hfl:(cL back l.Rules m g (R.take k)).length≤6:=by
   unfold cL
   have:=List.length_filter_le (mn back l.Rules m g) (R.take k)
   rw [List.length_take] at this
   omega
  have hil2:=aJ (cL back l.Rules m g (R.take k))
  have hkp:mn back l.Rules m g i=match (lH back r)[m]? with | some s=>s.contains g | none=>false:=by unfold mn;rw [hr];rfl
  generalize mn back l.Rules m g i=kp at hst hkp
  have hrw:=bO (lH back r)
  clear h
  refine W0n ?_
  refine bv 15 [(0,.v),(1,.v),(2,.v),(3,.v),(4,.v),(5,.v),(6,.v),(7,.v),(8,.v),(9,.v),(10,.v),(11,.v),(12,.v),(13,.v),(14,.v)] none ?_ trivial rfl (by kernel_rfl) (by kernel_rfl) (by kernel_rfl) bQ (by kernel_rfl) rfl
  refine W14 ?_
  refine NP [1,3,4,6,8,9,10,11,37] IG ?_
  refine W0k ?_
  refine bY (t:=51) [1,3,4,6,8,9,10] (kp=true) rfl (fun Q' K=>?_) ?_
  ·by_cases hm2:m < (lH back r).length
   ·obtain ⟨s,hs⟩:∃z,(lH back r)[m]?=some z:=⟨_,Nz hm2⟩
    have hsg:=fv hs
    rw [hs] at hkp
    dsimp only at hkp
    rw [decide_eq_true (show (m:Int) < ((b6 (lH back r)).length:Int) by rw [hrw];omega)]
    refine W1k ?_
    exact K _ _ rfl rfl (by rw [hkp])
   ·rw [List.getElem?_eq_none (by omega)] at hkp
    dsimp only at hkp
    rw [decide_eq_false (show ¬(m:Int) < ((b6 (lH back r)).length:Int) by rw [hrw];omega)]
    refine W1F ?_
    exact K _ _ rfl rfl (by rw [hkp])
  repeat' (first|refine Ng ?_|fail)
  refine aj rfl (fun h=>?_) (fun h=>?_)
  ·have hkp1:=Ny h
   rw [if_pos hkp1] at hst
   clear h
   refine bv 8 [(0,.v),(1,.l),(2,.v),(3,.v),(4,.v),(5,.v),(6,.v),(7,.v)] none ?_ trivial rfl (by kernel_rfl) (by kernel_rfl) (by kernel_rfl) bQ (by kernel_rfl) rfl
   refine W1i ?_
   refine NP [1,3,4,6,8,9,10,53,59] IG ?_
   refine NS a5 [(b9,.box [aK ((m:Int)+1),.vec q 1 (aW (cL back l.Rules m g (R.take k)))] 241),(b8,.box [aK 0,(AV.sc (.slice none 0 0))] 241)] NB (by rw [hil2];exact List.perm_append_comm (l₁:=[_,_])) (by rw [hil2];simp;omega) (by rw [hil2];simp;omega) rfl fun q'=>?_
   refine aL (aQ (L':=(b9,.box [aK ((m:Int)+1),.vec q 1 (aW (cL back l.Rules m g (R.take k)))] 241)::(b8,.box [aK 0,(AV.sc (.slice none 0 0))] 241)::tok q' 3 1 (aW (cL back l.Rules m g (R.take k)++[i])).length) (by rw [←fX];exact List.perm_append_comm (l₂:=[_,_]))) ?_
   refine W0f ?_
   refine aC (k+1,q') rfl ⟨by rw [Nv];rfl,trivial⟩ (by dsimp only;omega) (by dsimp only;omega) (fun σ w hh=>?_)
   dsimp only
   rw [hst]
   rw [aJ] at hh
   rw [←fX]
   exact hh
  ·rw [if_neg (Nx h)] at hst
   refine W02 ?_
   refine aC (k+1,q) rfl ⟨by rw [Nv];rfl,trivial⟩ (by dsimp only;omega) (by dsimp only;omega) (fun σ w hh=>?_)
   dsimp only
   rw [hst]
   exact hh
 have hkl:k=R.length:=by have:=Nx h;omega
 subst hkl
 rw [List.take_length]
 clear h
 refine bU (bL 0 (cs':=nY (m+1,cL back l.Rules m g R)) rfl fun σ vs hh=>mF.vrs (a:=[aK ((m:Int)+1),.vec q 1 (aW (cL back l.Rules m g R))]) (b:=nY (m+1,cL back l.Rules m g R)) ⟨d7.refl _,d7.im,trivial⟩ hh) ?_
 refine W07 ?_
 exact NU a5 1 [] NC (List.nil_sublist _) rfl
end
section
variable {P:Program} {tt:TT} {r:Option Nat} {ops:Array Oper} {Q:Exit→Act→World→Prop} {nt:Nat} {D:List Deferred} {fr:cf} {B:Bs} {L:AL} {rest:List Oper} {d:Nat} {ty t t':TypeId} {pos:String} {af:Array Edge} {g:Option (Nat×Bool)} {x y z:Operand} {u:AV}
theorem K1 (ok:eF P tt) {a:Int} {q q':IntKind} {ti ti':TI} (hx:bE fr x=some (.sc (.int q a))) (ht:dC tt t=some ti) (hk:ti.k= .int q) (ht':dC tt t'=some ti') (hk':ti'.k= .int q') (hd:Nat.ble nt d=false) (h:bP P r ops Q nt D rest ((d,.sc (.int q' (q'.wrap a)))::fr) B L):
  bP P r ops Q nt D (⟨some d,.convert t t' x,ty,pos,af,none⟩::rest) fr B L:=by
 haveI:=ok.int ht hk
 haveI:=ok.int ht' hk'
 exact cr (pj hx) hd rfl h
end
section
attribute [local irreducible] AT bP AX AO Av Kt bb dh DA cG
set_option maxHeartbeats 8000000 in
theorem BZ (l:aY) (hl:jU l) (back:Bool) (m:Nat) (R:List Int) (hm:m≤1000) (hR:R.Sublist (zO l.Rules.length)):AC Tryz.prog 170 [.agg (br l),dy back,.agg (nY (m,R))] [] fun c L=>L=[]∧∃z:Int,c= .sc (.int .u64 z):=by
 refine aV Tryz.func170 rfl Tryz.ntmps170 rfl fun B=>?_
 have hrl:(l.Rules.map bI).length=l.Rules.length:=Nu ..
 have h6:=hl.1
 have hRi:=aJ R
 have hRl:=B8 hR
 have hRm:=B9 hR
 unfold nY
 dsimp only
 refine W0y ?_
 refine aM [1,3,5] (α:=Nat×Int) (fun s=>[(8,aK s.1),(7,.sc (.int .u64 s.2))]) (fun s=>s.1≤R.length) (fun s=>[]) (fun s=>R.length - s.1) (0,0) rfl ⟨rfl,rfl,trivial⟩ (Nat.zero_le _) (fun _ _ h=>h) ?_
 rintro ⟨k,z⟩ hk
 dsimp only at hk ⊢
 try dsimp only [Ns,Nr,Nq,Nk]
 refine W01 ?_
 refine aj rfl (fun h=>?_) (fun h=>?_)
 ·have hkl:k < R.length:=by have:=Ny h;omega
  obtain ⟨i,hi⟩:∃z,R[k]?=some z:=⟨_,Nz hkl⟩
  have hig:=bK hi
  have hib:=hRm i (Nw hi)
  obtain ⟨r,hr⟩:∃z,l.Rules[i.toNat]?=some z:=⟨_,Nz (by omega)⟩
  have hrg:=bG (c:=bI) hr
  have hr2:=hl.2 r (Nw hr)
  haveI a1:AD Tryz.prog 238 [.agg (bI r),dy back] (.tup [.imm 1 (b6 (lH back r)),dy (lc back r)]):=⟨pQ r back (by omega)⟩
  clear h
  refine W0n ?_
  refine bv 15 [(0,.v),(1,.v),(2,.v),(3,.v),(4,.v),(5,.v),(6,.v),(7,.v),(8,.v),(9,.v),(10,.v),(11,.v),(12,.v),(13,.v),(14,.v)] none ?_ trivial rfl (by kernel_rfl) (by kernel_rfl) (by kernel_rfl) bQ (by kernel_rfl) rfl
  refine W14 ?_
  refine NP [1,3,5,7,8,9,31] IG ?_
  refine W0k ?_
  refine aj rfl (fun h=>?_) (fun h=>?_)
  ·refine W0i ?_
   obtain ⟨n,rfl⟩:∃n:Nat,i=n:=⟨i.toNat,by omega⟩
   refine K1 a5 rfl rfl rfl rfl rfl rfl ?_
   rw [show IntKind.wrap .u64 (n:Int)=(n:Int) from (by decide:∀k:Nat,k < 6→IntKind.wrap .u64 (k:Int)=(k:Int)) n (by omega)]
   refine Ka n rfl rfl rfl rfl ?_
   refine K0 rfl rfl rfl ?_
   refine W02 ?_
   exact aC (k+1,_) rfl ⟨by rw [Nv];rfl,rfl,trivial⟩ (by dsimp only;omega) (by dsimp only;omega) (fun _ _ hh=>hh)
  ·refine W02 ?_
   exact aC (k+1,z) rfl ⟨by rw [Nv];rfl,rfl,trivial⟩ (by dsimp only;omega) (by dsimp only;omega) (fun _ _ hh=>hh)
 have hkl:k=R.length:=by have:=Nx h;omega
 refine W01 ?_
 exact NM IG ⟨rfl,z,rfl⟩
set_option maxHeartbeats 8000000 in
theorem yo (all:List sX) (hal:all.length≤1000000) (m:Nat) (R:List Int):bV Tryz.prog 169 [.imm 2 (all.map nY),.agg (nY (m,R))] (aK (ot all (m,R))):=by
 refine aV Tryz.func169 rfl Tryz.ntmps169 rfl fun B=>?_
 have hml:(all.map nY).length=all.length:=Nu ..
 refine W0y ?_
 refine aM [0,3] (α:=Nat) (fun i=>[(5,aK i)]) (fun i=>i≤all.length∧∀j y,j < i→all[j]?=some y→y≠(m,R)) (fun _=>[]) (fun i=>all.length - i) 0 rfl ⟨rfl,trivial⟩ ⟨Nat.zero_le _,fun _ _ h=>absurd h (Nat.not_lt_zero _)⟩ (fun _ _ h=>h) ?_
 rintro i ⟨hi,ha⟩
 try dsimp only [Ns,Nr,Nq,Nk]
 refine W01 ?_
 refine aj rfl (fun h=>?_) (fun h=>?_)
 ·have hil:i < all.length:=by have:=Ny h;omega
  obtain ⟨⟨m2,R2⟩,hx⟩:∃z,all[i]?=some z:=⟨_,Nz hil⟩
  have hxg:=bG (c:=nY) hx
  haveI a1:AD Tryz.prog 239 [.imm 1 (aW R2),.imm 1 (aW R)] (dy (R2==R)):=⟨zx R2 R⟩
  unfold nY at hxg
  dsimp only at hxg
  unfold nY
  dsimp only
  clear h
  refine W0n ?_
  have hno:¬(m2=m∧R2=R)→∀j y,j < i+1→all[j]?=some y→y≠(m,R):=fun hn j y hj hy e=>by
   by_cases hji:j=i
   ·subst hji
    rw [hx] at hy
    cases hy
    cases e
    exact hn ⟨rfl,rfl⟩
   ·exact ha j y (by omega) hy e
  refine bv 16 [(0,.v),(1,.v),(2,.v),(3,.v),(4,.v),(5,.v),(6,.v),(7,.v),(8,.v),(9,.v),(10,.v),(11,.v),(12,.v),(13,.v),(14,.v),(15,.v)] none ?_ trivial rfl (by kernel_rfl) (by kernel_rfl) (by kernel_rfl) bQ (by kernel_rfl) rfl
  refine W0b ?_
  by_cases hm2:m2=m
  ·subst hm2
   rw [decide_eq_true (show (m2:Int)=(m2:Int) from rfl)]
   refine W0b ?_
   refine NP [0,3,5,20,25,27] IG ?_
   repeat' (first|refine Ng ?_|refine a7 ?_|refine NG a5 IG ?_|refine NN IG ?_|(apply bA;refine bw ?_)|fail)
   refine aj rfl (fun h=>?_) (fun h=>?_)
   ·have hR:R2=R:=by simpa using h
    subst hR
    refine W01 ?_
    exact NM IG (by rw [ET hx ha])
   ·have hR:¬R2=R:=by simpa using h
    refine W02 ?_
    exact aC (i+1) rfl ⟨by rw [Nv];rfl,trivial⟩ ⟨by omega,hno fun k=>hR k.2⟩ (by omega) (fun _ _ hh=>hh)
  ·rw [decide_eq_false (show ¬(m2:Int)=(m:Int) by omega)]
   refine W1s ?_
   refine NP [0,3,5,20,25,27] IG ?_
   refine W1x ?_
   exact aC (i+1) rfl ⟨by rw [Nv];rfl,trivial⟩ ⟨by omega,hno fun k=>hm2 k.1⟩ (by omega) (fun _ _ hh=>hh)
 have hil:i=all.length:=by have:=Nx h;omega
 subst hil
 refine W01 ?_
 refine NM IG ?_
 rw [yp]
 intro hm
 obtain ⟨j,hj⟩:=List.mem_iff_getElem?.1 hm
 exact ha j _ (Np hj).1 hj rfl
end
section
variable {P:Program} {tt:TT} {r:Option Nat} {ops:Array Oper} {Q:Exit→Act→World→Prop} {nt:Nat} {D:List Deferred} {fr:cf} {B:Bs} {L:AL} {rest:List Oper} {d:Nat} {ty t t':TypeId} {pos:String} {af:Array Edge} {x y z:Operand} {u:AV}
theorem I1 (ok:eF P tt) (hi:Nat) {s e sz by_:Nat} {l:List (List AV)} {k:IntKind} {a:Int} (ht:jP tt t=some (e,sz,by_)) (hx:bE fr x=some u) (hu:j2 u=some (s,l)) (hs:Nat.beq s sz=true) (hy:bE fr y=some (.sc (.int k a))) (ha:a=(hi:Int)) (h1:hi≤l.length) (hd:Nat.ble nt d=false) (h:bP P r ops Q nt D rest ((d,.imm s (l.take hi))::fr) B L):
  bP P r ops Q nt D (⟨some d,.slice t x none (some y) none,ty,pos,af,none⟩::rest) fr B L:=cr (Jl (bB ok ht).1 hx (d4 hu) hs hy ha h1) hd rfl h
end
section
variable {P:Program} {fr:cf} {B:Bs} {L:AL} {d:Option Tmp} {ty t t':TypeId} {pos:String} {af:Array Edge} {g:Option (Nat×Bool)} {x y z q:Operand} {u:AV}
theorem vV (i:Nat) {e sz by_ b n cap m:Nat} {cs es:List AV} {zs:List Value} (hc:lw P t e sz by_) (hs0:0 < sz) (hz:CZ P e zs) (hz1:zs.all (·.oneCell')=true) (hx:bE fr x=some (.sc (.slice (some ⟨b,0,none⟩) n cap))) (hy:uu fr B L y sz m es) (hL:L[i]?=some (b,.box cs e)) (hcl:cs.length=cap * sz) (hn:n≤cap) (hcm:cap≤maxLen) (h63:n+m≤maxLen) (hby:(n+m) * by_≤140737488355328):
  AO P ⟨d,.call ⟨.builtin .append,#[x,y],#[t,t]⟩,ty,pos,af,g⟩ fr B L (fun r L'=>∃b' cs' cap',r= .sc (.slice (some ⟨b',0,none⟩) (n+m) cap')∧cs'.length=cap' * sz∧cs'.take ((n+m) * sz)=cs.take (n * sz)++es∧n+m≤cap'∧cap'≤maxLen∧L'=(b',.box cs' e)::L.eraseIdx i):=by
 intro σ ρ w hρ hw0
 obtain ⟨A2,c2,ys,hA2,hyr,hy1,hyl,hycc⟩:=hy σ ρ w hρ hw0
 have hw:=hw0.perm (fq hL)
 have hxv:=(hρ x _ hx).sc_inv
 haveI:=hc
 obtain ⟨inf,zz,hi,hsz,rfl,hzz,hzs⟩:=hc.info
 have hzc:=hz.cells hi hzz w
 obtain ⟨o,ho,vs,rfl,hvs,h1⟩:=hw.here _ (List.mem_cons_self ..)
 have hl:=hvs.1
 have hel:es.length=m * sz:=by rw [←hyl];exact hyr.1
 have hyl':ys.length=m * inf.size:=by rw [hsz];exact hyl
 have hmul:(n+m) * sz=n * sz+m * sz:=Nat.add_mul ..
 have hnc:n * sz≤cap * sz:=Nat.mul_le_mul_right _ hn
 unfold maxLen at hcm h63
 unfold j7
 by_cases hm0:m=0
 ·subst hm0
  have hes:es=[]:=List.eq_nil_of_length_eq_zero (by rw [hel];omega)
  subst hes
  rw [show (execOp ρ ⟨d,.call ⟨.builtin .append,#[x,y],#[t,t]⟩,ty,pos,af,g⟩).run P w= .ok (.value (.slice (some ⟨b,0,none⟩) n cap)) w by
   simp [execOp,resolve,hxv,hA2,invoke,builtin,j4 (t:=t) hn]]
  refine ⟨σ,.sc _,_,cF.le_refl _,.sc _,hw,b,cs,cap,rfl,hcl,?_,hn,by unfold maxLen;omega,rfl⟩
  ·simp
 obtain ⟨b2,off2,rfl,hnews⟩:=hycc (by omega)
 by_cases hroom:n+m≤cap
 ·have hnc1:(n+m) * sz≤cap * sz:=Nat.mul_le_mul_right _ hroom
  have hr:=run_append_room (P:=P) w t ty e inf hc.under hi b n cap vs.toArray ho ⟨b2,off2,none⟩ m c2 ys hyl' hnews hy1 hroom (by rw [hsz];simp;omega)
  rw [show (execOp ρ ⟨d,.call ⟨.builtin .append,#[x,y],#[t,t]⟩,ty,pos,af,g⟩).run P w= .ok (.value (.slice (some ⟨b,0,none⟩) (n+m) cap)) (w.setRow b (vs.toArray.toList.take (n * inf.size)++ys++vs.toArray.toList.drop (n * inf.size+ys.length)).toArray) by
   simp [execOp,resolve,hxv,hA2,invoke,builtin,hr]]
  rw [hsz,hyl]
  refine ⟨σ,.sc _,_,cF.le_refl _,.sc _,hw.put (a':= .box (cs.take (n * sz)++es++cs.drop (n * sz+m * sz)) e) (fun _=>trivial) ⟨rfl,rfl,rfl,by simp,fun k _ hk=>setRow_other w b k _ (fun e=>hk (by simp [e]))⟩ (setRow_heap w b _ _ e _ ho) ⟨_,rfl,ec (ec (gF hvs _) hyr) (mB hvs _),fun u hu=>?_⟩,b,_,cap,rfl,?_,?_,hroom,by unfold maxLen;omega,rfl⟩
  ·rcases Nm hu with hu | hu
   ·rcases Nm hu with hu | hu
    ·exact h1 _ (List.mem_of_mem_take hu)
    ·exact hy1 _ hu
   ·exact h1 _ (List.mem_of_mem_drop hu)
  ·simp only [List.length_append,List.length_take,List.length_drop,hel];omega
  ·rw [List.take_append_of_le_length (by simp;omega),List.take_of_length_le (by simp;omega)]
 ·have holds:∀j v,(vs.take (n * sz))[j]?=some v→w.cell? ((⟨b,0,none⟩:Addr).add j)=some v:=fun j v hj=>by
   rw [dS,Nat.zero_add,dc ho]
   have hjl:=(Np hj).1
   rw [List.length_take] at hjl
   rw [List.getElem?_take_of_lt (by omega)] at hj
   simpa using hj
  have hr:=run_append_grow (P:=P) w t ty e inf zz hc.under hi hzz ⟨b,0,none⟩ n cap (vs.take (n * sz)) (by rw [hsz,List.length_take];omega) holds ⟨b2,off2,none⟩ m c2 ys hyl' hnews (by omega) (by omega) (growslice_fits (by omega) hby)
  rw [show (execOp ρ ⟨d,.call ⟨.builtin .append,#[x,y],#[t,t]⟩,ty,pos,af,g⟩).run P w= .ok (.value (.slice (some ⟨w.heap.size,0,none⟩) (n+m) (grownCap w (n+m) cap e))) (w.drew.alloc (.cells ((vs.take (n * sz)).toArray++ys.toArray++Builtin.zeroCells zz.cells (grownCap w (n+m) cap e - (n+m))) e)) by
   simp [execOp,resolve,hxv,hA2,invoke,builtin,hr]]
  have hge:=grownCap_ge w (n+m) cap e
  have hgm:=grownCap_le_maxLen w (n+m) cap e (by unfold maxLen;omega)
  have hzl:∀k,(Builtin.zeroCells zz.cells k).toList.length=k * sz:=fun k=>by rw [Array.length_toList,size_zeroCells,hzs]
  have hzm:∀k,∀v∈(Builtin.zeroCells zz.cells k).toList,v.oneCell'=true:=fun k v hv=>by
   have:=fw hv
   rw [hzc] at this
   exact List.all_eq_true.1 hz1 v (by simpa using this)
  generalize grownCap w (n+m) cap e=cap' at *
  have hmc:cap' * sz=(n+m) * sz+(cap' - (n+m)) * sz:=by rw [←Nat.add_mul];congr 1;omega
  have hzl':=hzl (cap' - (n+m))
  have hzm':=hzm (cap' - (n+m))
  generalize Builtin.zeroCells zz.cells (cap' - (n+m))=zc at *
  refine ⟨σ,.sc _,_,cF.le_refl _,.sc _,((hw.sublist (List.sublist_cons_self ..)).drew _).alloc _ (.box (cs.take (n * sz)++es++zc.toList.map AV.sc) e) ⟨vs.take (n * sz)++ys++zc.toList,by simp,ec (ec (gF hvs _) hyr) (n6 _),fun u hu=>?_⟩,w.heap.size,_,cap',rfl,?_,?_,hge,hgm,rfl⟩
  ·rcases Nm hu with hu | hu
   ·rcases Nm hu with hu | hu
    ·exact h1 _ (List.mem_of_mem_take hu)
    ·exact hy1 _ hu
   ·exact hzm' u hu
  ·simp only [List.length_append,Nu,hzl',List.length_take,hel];omega
  ·rw [List.take_append_of_le_length (by simp;omega),List.take_of_length_le (by simp;omega)]
end
section
variable {P:Program} {tt:TT} {r:Option Nat} {ops:Array Oper} {Q:Exit→Act→World→Prop} {nt:Nat} {D:List Deferred} {fr:cf} {B:Bs} {L:AL} {rest:List Oper} {d:Nat} {ty t t':TypeId} {pos:String} {af:Array Edge} {x y z:Operand} {u:AV}
theorem sh (ok:eF P tt) (i:Nat) {e sz by_ b n cap m:Nat} {cs es:List AV} {zs:List Value} (ht:jP tt t=some (e,sz,by_)) (hz:zI tt e=some zs) (hz1:zs.all (·.oneCell')=true) (hx:bE fr x=some (.sc (.slice (some ⟨b,0,none⟩) n cap))) (hy:uu fr B L y sz m es) (hL:L[i]?=some (b,.box cs e)) (hcl:cs.length=cap * sz) (hn:n≤cap) (hcm:cap≤maxLen) (h63:n+m≤maxLen) (hby:(n+m) * by_≤140737488355328) (hd:Nat.ble nt d=false)
  (h:∀b' cs' cap',cs'.length=cap' * sz→cs'.take ((n+m) * sz)=cs.take (n * sz)++es→n+m≤cap'→cap'≤maxLen→bP P r ops Q nt D rest ((d,.sc (.slice (some ⟨b',0,none⟩) (n+m) cap'))::fr) B ((b',.box cs' e)::L.eraseIdx i)):
  bP P r ops Q nt D (⟨some d,.call ⟨.builtin .append,#[x,y],#[t,t]⟩,ty,pos,af,none⟩::rest) fr B L:=
 cT hd rfl (vV i (bB ok ht).1 (bB ok ht).2 (dX ok hz) hz1 hx hy hL hcl hn hcm h63 hby) fun c L' ⟨b',cs',cap',h1,h2,h3,h4,h5,h7⟩=>by subst h1;subst h7;exact h b' cs' cap' h2 h3 h4 h5
end
section
variable {P:Program} {r:Option Nat} {Q:Exit→Act→World→Prop} {nt:Nat} {D:List Deferred} {fr:cf} {B:Bs} {L:AL}
theorem o7 {α:Type} {A C:Code} (ks:List Nat) (fr1:α→cf) (L1:α→AL) (φ:α→Prop) (hA:∀Q',(∀x fr',φ x→gW fr' ks=some (fr1 x)→AX P .normal Q' nt D fr' B (L1 x))→AT P r A Q' nt D fr B L) (hB:∀x,φ x→AT P r C Q nt D (fr1 x) B (L1 x)):AT P r A (Kt P r C Q) nt D fr B L:=
 hA _ fun x _ hx h=>a6 (uC ks h (hB x hx))
end
section
variable {P:Program} {tt:TT} {l:List Oper} {fr:cf} {fin:jR} {sk:n7} {acc:cf} {L:AL} {k:Nat} {dd:Option Tmp} {ty t t':TypeId} {pos:String} {af:Array Edge} {g:Option (Nat×Bool)} {x y z:Operand} {u:AV}
theorem Ez (ok:eF P tt) {e sz by_ n:Nat} {parts:Array (Nat×Operand)} {vs:List AV} {xs:List (List AV)} (ht:jP tt t=some (e,sz,by_)) (hv:eP (cK l.toArray acc fr af.toList) (parts.toList.map (·.2))=some vs) (hxs:ju vs=some xs) (hn:Nat.beq xs.length n=true) (hi:parts.toList.map (·.1)=List.range' 0 n) (hz:xs.all (fun q=>Nat.beq q.length sz)=true) (h24:Nat.ble (n * sz) 16777216=true) (hg:jh ⟨dd,.buildSlice t n parts,ty,pos,af,g⟩ acc) (h:∀b,DA P l fr fin sk ((k,.vec (some (b,n)) sz xs)::acc) ((b,.vec e sz n n)::L)):
  cG P l fr fin k .a ⟨dd,.buildSlice t n parts,ty,pos,af,g⟩ sk acc L:=
 ED (fun c L' ⟨b,_,h2⟩=>⟨[(b,_)],h2⟩) hg (fun _=>uz (bB ok ht).1 (bB ok ht).2 hv hxs hn hi hz h24) fun c L' ⟨b,h1,h2⟩=>by subst h1;subst h2;exact h b
theorem Ai {q:IntKind} {a b:Int} (h:DA P l fr fin sk ((k,.sc (.int q (a.tmod b)))::acc) L) (hx:bE (cK l.toArray acc fr af.toList) x=some (.sc (.int q a)):=by rfl) (hy:bE (cK l.toArray acc fr af.toList) y=some (.sc (.int q b)):=by rfl) (hb:b≠0:=by omega) (hg:jh ⟨dd,.binOp .rem t x y t',ty,pos,af,g⟩ acc:=by first | trivial | rfl):
  cG P l fr fin k .v ⟨dd,.binOp .rem t x y t',ty,pos,af,g⟩ sk acc L:=fA hg (AK (IQ hx hy hb)) h
end
theorem rk (a:Int) {b:Int} (hb:0 < b): -b < a.tmod b∧a.tmod b < b:=⟨Int.lt_tmod_of_pos a hb,Int.tmod_lt_of_pos a hb⟩
theorem dt {a b:Int} (ha:0≤a) (hb:0 < b):0≤a.tmod b∧a.tmod b < b:=⟨Int.tmod_nonneg b ha,Int.tmod_lt_of_pos a hb⟩
theorem rT {α:Type} {sz:Nat}:∀(l:List (List α)) (i c:Nat) (e:List α) (v:α),(∀e∈l,e.length=sz)→l[i]?=some e→c < sz→l.flatten.set (i * sz+c) v=(l.set i (e.set c v)).flatten
 | [],i,c,e,v,_,h,_=>by simp at h
 | x::l,0,c,e,v,hs,h,hc=>by
  simp at h
  subst h
  have hx:=hs x (List.mem_cons_self ..)
  rw [List.flatten_cons,List.set_cons_zero,List.flatten_cons,Nat.zero_mul,Nat.zero_add,List.set_append_left _ _ (by omega)]
 | x::l,i+1,c,e,v,hs,h,hc=>by
  have hx:=hs x (List.mem_cons_self ..)
  rw [List.flatten_cons,List.set_cons_succ,List.flatten_cons,←rT l i c e v (fun e he=>hs e (Nt _ he)) (by simpa using h) hc,List.set_append_right _ _ (by rw [hx,Nat.add_mul];omega),hx,show (i+1) * sz+c - sz=i * sz+c by rw [Nat.add_mul];omega]
theorem B0 {α:Type} {sz n i c:Nat} {cs:List α} {l:List (List α)} {e:List α} {v:α} (h:cs.take (n * sz)=l.flatten) (hs:∀e∈l,e.length=sz) (hl:l.length=n) (he:l[i]?=some e) (hv:e[c]?=some v):cs[i * sz+c]?=some v:=by
 have h1:=r9 l i c e v hs he hv
 have hi:=(Np he).1
 have hc:c < sz:=by rw [←hs e (Nw he)];exact (Np hv).1
 have h2:(i+1) * sz≤n * sz:=Nat.mul_le_mul_right _ (by omega)
 rw [Nat.add_mul] at h2
 rw [←h,List.getElem?_take_of_lt (by omega)] at h1
 exact h1
theorem B2 {α:Type} {sz n i c:Nat} {cs:List α} {l:List (List α)} {e:List α} (v:α) (h:cs.take (n * sz)=l.flatten) (hs:∀e∈l,e.length=sz) (he:l[i]?=some e) (hc:c < sz):(cs.set (i * sz+c) v).take (n * sz)=(l.set i (e.set c v)).flatten:=by
 rw [←rT l i c e v hs he hc,←h,List.take_set]
end Go.Proofs.YtpmdfoaadejmkaaGreatDoor
