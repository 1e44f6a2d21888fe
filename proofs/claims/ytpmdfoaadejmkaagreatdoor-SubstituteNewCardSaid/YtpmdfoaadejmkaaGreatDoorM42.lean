/-
  The law New.
-/
import Derived.Test.YtpmdfoaadejmkaaGreatDoorM29
import Derived.Test.YtpmdfoaadejmkaaGreatDoorM31
import Derived.Test.YtpmdfoaadejmkaaGreatDoorM36
import Derived.Test.YtpmdfoaadejmkaaGreatDoorM41
import Derived.ShutString
import Derived.Below
import Derived.Deep.Slices
import Derived.Deep.SlicePairs
import Derived.Lib.SmallJoins
namespace Go.Proofs.YtpmdfoaadejmkaaGreatDoor
open Go.RowKit
section
attribute [local irreducible] AT bP AX AO Av Kt bb dh DA cG
theorem wR (l:List Int):bV Tryz.prog 14 [.imm 1 (aW l)] (ca (s9 (l.take 300))):=by
 refine aV Tryz.func14 rfl Tryz.ntmps14 rfl fun B=>?_
 refine cR 0 rfl rfl fun hl=>?_
 have hil:=aJ l
 refine W1P ?_
 intros
 refine I1 a5 (min l.length 300) rfl rfl rfl rfl rfl (by omega) (by omega) rfl ?_
 have ht:l.take (min l.length 300)=l.take 300:=by
  rcases Nat.le_total l.length 300 with h | h
  ·rw [Nat.min_eq_left h,List.take_length,List.take_of_length_le h]
  ·rw [Nat.min_eq_right h]
 rw [show (aW l).take (min l.length 300)=aW (l.take 300) from by rw [←ht];unfold aW;rw [List.map_take]]
 refine bw (hc:=⟨Fz (l.take 300) (by rw [List.length_take];omega)⟩) ?_
 refine W0O ?_
 exact A8 a5 0 rfl rfl rfl rfl rfl rfl
set_option maxHeartbeats 16000000 in
theorem I4 (l:List Int) (q0 q1 q2:Int):AC Tryz.prog 5 [.imm 1 (aW l),.agg [aK q0,aK q1,aK q2]] [eu] fun c L=>c=dy true∧L=[eu]:=by
 refine aV Tryz.func5 rfl Tryz.ntmps5 rfl fun B=>?_
 haveI c2:AD Tryz.prog 14 [.imm 1 (aW l)] (ca (s9 (l.take 300))):=⟨wR l⟩
 have hM:=HY (l.take 300)
 refine W08 ?_
 refine b7 [eu] [] Gq rfl rfl (Nn _) rfl fun c L1 ⟨hc,hL⟩=>?_
 subst hc;subst hL
 refine W01 ?_
 generalize s9 (l.take 300)=f0 at hM c2 ⊢
 refine bv 5 [(0,.v),(1,.v),(2,.v),(3,.e)] (some (4,.box _ 32)) ?_ ⟨_,rfl,rfl,fun _ _ _=>kq (dX a5 rfl) rfl⟩ rfl (by kernel_rfl) (by kernel_rfl) (by kernel_rfl) bQ (by kernel_rfl) rfl
 refine W0t ?_
 refine iF [] _ (xC f0 hM q0 q1 q2) rfl rfl (Nn _) trivial fun c L1 hh=>?_
 obtain ⟨⟨f,rfl,hT⟩,rfl⟩:=hh
 refine r7 [5,6,17] (fun _=>_) (fun _=>rfl) rfl fun _=>?_
 repeat' (first|refine Ng ?_|refine a7 ?_|refine NG a5 IG ?_|(apply aI;first|refine NI 6 a5 0 NF ?_|refine NI 6 a5 1 NF ?_|refine NI 6 a5 2 NF ?_|refine NH a5 0 NE ?_|refine NH a5 1 NE ?_|refine NH a5 2 NE ?_|refine NH a5 3 NE ?_|fail))
 refine aL (aQ (L':=[eu]) (Nn _)) ?_
 have hck:=EY f
 have hD:=EX f hT.small fun a ha=>Nat.le_trans (hT.aname a ha) (by omega)
 have hlm:(f.Lookups.map br).length=f.Lookups.length:=Nu ..
 have hLs:=hT.small.lookups
 by_cases hE:(iN f).1=0
 ·rw [hE] at hck hD
  have hN:=hT.fontN hE
  refine b7 [] _ (FQ f hN.new hck) rfl rfl (Nn _) rfl fun c L1 ⟨E,hEn,hc⟩=>?_
  subst hc
  refine aL (bF (L':=[eu]) (List.sublist_append_right ..)) ?_
  refine W01 ?_
  refine b7 [] _ hck rfl rfl (Nn _) rfl fun c L1 ⟨n1,hc⟩=>?_
  subst hc
  refine aL (bF (L':=[eu]) (List.sublist_append_right ..)) ?_
  unfold co
  refine W01 ?_
  refine b7 [] _ hD rfl rfl (Nn _) rfl fun c L1 ⟨hL,j,hc⟩=>?_
  subst hc;subst hL
  refine W1O ?_
  refine aM [5,6,7,8] (α:=Nat) (fun k=>[(12,aK k),(11,aK 0)]) (fun k=>k≤f.Lookups.length) (fun _=>[eu]) (fun k=>f.Lookups.length - k) 0 rfl ⟨rfl,rfl,trivial⟩ (Nat.zero_le _) (fun _ _ h=>h) fun k hk=>?_
  try dsimp only [Ns,Nr,Nq,Nk]
  refine W01 ?_
  by_cases hkl:k < f.Lookups.length
  ·obtain ⟨lk,hlk⟩:∃z,f.Lookups[k]?=some z:=⟨_,Nz hkl⟩
   have hlg:=bG (c:=br) hlk
   rw [decide_eq_true (show (k:Int) < ((f.Lookups.map br).length:Int) by omega)]
   repeat' (first|refine Ng ?_|refine ak ?_|refine NG a5 IG ?_|refine NN IG ?_|(apply aO;first|refine aN a5 ?_|refine aF a5 ?_)|refine bR rfl ?_)
   refine aj rfl (fun h=>?_) (fun h=>?_)
   ·refine W01 ?_
    refine b7 [] _ (y5 f k lk hlk (hN.lookFew (Nw hlk)) hN.glyphs.1 hN.glyphs.2 (by omega)) rfl rfl (Nn _) rfl fun c L1 ⟨a,hc⟩=>?_
    subst hc
    refine aL (bF (L':=[eu]) (List.sublist_append_right ..)) ?_
    refine W02 ?_
    exact aC (k+1) rfl ⟨by rw [Nv];rfl,rfl,trivial⟩ (by omega) (by omega) (fun _ _ hh=>hh)
   ·refine W02 ?_
    exact aC (k+1) rfl ⟨by rw [Nv];rfl,rfl,trivial⟩ (by omega) (by omega) (fun _ _ hh=>hh)
  ·rw [decide_eq_false (show ¬(k:Int) < ((f.Lookups.map br).length:Int) by omega)]
   refine W1E ?_
   refine nL Tryz.underlying34 rfl rfl rfl rfl ?_
   refine W0J ?_
   refine cr (xO rfl rfl Tryz.underlying4) rfl rfl ?_
   refine W01 ?_
   exact NM IG ⟨rfl,rfl⟩
 ·haveI c3:=AD.mk (I3 f _ hE hck)
  generalize (iN f).1=e at hck hD hE c3
  refine W0e ?_
  refine b7 [] _ hck rfl rfl (Nn _) rfl fun c L1 ⟨n1,hc⟩=>?_
  subst hc
  refine aL (bF (L':=[eu]) (List.sublist_append_right ..)) ?_
  unfold co
  refine W01 ?_
  refine b7 [] _ hD rfl rfl (Nn _) rfl fun c L1 ⟨hL,j,hc⟩=>?_
  subst hc;subst hL
  refine W01 ?_
  refine aj rfl (fun h=>absurd rfl (Ny h)) (fun _=>?_)
  refine W03 ?_
  refine aM [5,6,7,8] (α:=Nat) (fun k=>[(12,aK k),(11,aK e)]) (fun k=>k≤f.Lookups.length) (fun _=>[eu]) (fun k=>f.Lookups.length - k) 0 rfl ⟨rfl,rfl,trivial⟩ (Nat.zero_le _) (fun _ _ h=>h) fun k hk=>?_
  try dsimp only [Ns,Nr,Nq,Nk]
  refine W01 ?_
  by_cases hkl:k < f.Lookups.length
  ·rw [decide_eq_true (show (k:Int) < ((f.Lookups.map br).length:Int) by omega)]
   refine W0I ?_
   refine aj rfl (fun h=>absurd (Ny h) hE) (fun h=>?_)
   refine W0I ?_
   rw [decide_eq_true (show e=e from rfl)]
   refine W0J ?_
   refine nL Tryz.underlying34 rfl rfl rfl rfl ?_
   refine W0J ?_
   rw [decide_eq_false hE]
   refine cr (xO rfl rfl Tryz.underlying4) rfl rfl ?_
   refine W01 ?_
   exact NM IG ⟨rfl,rfl⟩
  ·rw [decide_eq_false (show ¬(k:Int) < ((f.Lookups.map br).length:Int) by omega)]
   refine W1E ?_
   rw [decide_eq_true (show e=e from rfl)]
   refine W0J ?_
   refine nL Tryz.underlying34 rfl rfl rfl rfl ?_
   refine W0J ?_
   rw [decide_eq_false hE]
   refine cr (xO rfl rfl Tryz.underlying4) rfl rfl ?_
   refine W01 ?_
   exact NM IG ⟨rfl,rfl⟩
end
section
open Go.ChangeShapes Go.WideShapes Go.ChangeAt
section
variable {H:Type} {enc:TypeId×Value→H} {W:World}
set_option maxRecDepth 100000 in
theorem CH {base:Nat} {v:Value} {d:DataW H} {p:List MemPlace} (hok:Value.okWide Tryz.prog W .any base 50 v) (h:DataW.Trod enc Tryz.prog W 0 (fun _=>true) true 50 v d p):∃a b c:Int,∀σ,VR σ (.agg [aK a,aK b,aK c]) v:=by
 have hc:∃cs,v= .agg cs:=by
  simp only [Value.okWide,Tryz.underlying50] at hok
  obtain ⟨cs,h1,_⟩:=hok
  exact ⟨cs,h1⟩
 obtain ⟨cs,rfl⟩:=hc
 obtain ⟨fuel,hf⟩:=h
 obtain ⟨xs,m,_,_,h1,h2,h3⟩:=DataW.trod_array Tryz.underlying50 (show DataW.trod enc Tryz.prog W 0 (fun _=>true) true fuel 50 cs.toList=some _ by simpa [Value.cells] using hf)
 have c1:Tryz.prog.cellsOf 3=1:=by kernel_rfl
 have c3:Tryz.prog.cellsOf 50=3:=by kernel_rfl
 rw [c1] at h3
 rw [c3] at h1
 obtain ⟨ls⟩:=cs
 have k:∀i,i < 3→∃z,(ls.drop (i * 1)).take 1=[.int .i64 z]:=fun i hi=>by
  have h4:=h3 i hi
  rw [Nz (show i < xs.length by omega)] at h4
  obtain ⟨z,hz,_⟩:=DataW.trod_int Tryz.underlying3 h4
  exact ⟨z,hz⟩
 obtain ⟨a,ha⟩:=k 0 (by omega)
 obtain ⟨b,hb⟩:=k 1 (by omega)
 obtain ⟨c,hc⟩:=k 2 (by omega)
 match ls,h1 with
 | [x,y,z],_=>
  simp at ha hb hc
  subst ha
  subst hb
  subst hc
  exact ⟨a,b,c,fun σ=> .agg _ _ rfl (dI.cons (.sc _) (dI.cons (.sc _) (dI.cons (.sc _) dI.nil))).2 (by intro u hu;simp at hu;rcases hu with rfl | rfl | rfl <;> rfl)⟩
end
end
section
open Go.ChangeShapes Go.WideShapes Go.ChangeAt Go.Deep Go.Joins
section
variable {H:Type} {enc:TypeId×Value→H} {P:Program} {W:World}
def Jf (enc:TypeId×Value→H) (P:Program) (W:World) (t:TypeId) {α:Type} (c:α→List AV):Prop:=
 ∀fuel cs x,DataW.trod enc P W 0 (fun _=>true) true fuel t cs=some x→∃a,dI (se W) (c a) cs∧(∀u∈cs,u.oneCell'=true)∧∀u k,cs[0]?=some u→u≠ .int .u8 k
theorem FV {t:TypeId} (ht:P.underlying t=some (.int .i64)):Jf enc P W t (fun z:Int=>[aK z]):=fun fuel cs x h=>by
 obtain ⟨z,rfl,-,-⟩:=DataW.trod_int ht h
 exact ⟨z,dI.cons (.sc _) dI.nil,by intro u hu;rw [Nl hu];rfl,fun u k hu=>by simp at hu;subst hu;simp⟩
theorem zh {t e:TypeId} {sz:Nat} {α:Type} [Inhabited α] {c:α→List AV} (hT:∀off u,W.cell? ⟨0,off,none⟩=some u→∃k,u= .int .u8 k) (ht:P.underlying t=some (.slice e)) (hs:P.cellsOf e=sz) (h0:0 < sz) (he:Jf enc P W e c) (hc:∀a,(c a).length=sz):
  Jf enc P W t (fun l:List α=>[.imm sz (l.map c)]):=fun fuel cs x h=>by
 rcases open_slice ht h with ⟨rfl,rfl⟩ | ⟨a,len,cap,m,n,D,Pl,rfl,_,hlc,hm,hmm,rfl,hx⟩
 ·exact ⟨[],dI.cons (jm sz (.sc _)) dI.nil,by intro u hu;rw [Nl hu];rfl,fun u k hu=>by simp at hu;subst hu;simp⟩
 have hmle:len≤m:=by rw [hmm];split <;> omega
 have each:∀i,i < len→∃q:α×List Value,W.cells? 0 (a.add (i * sz)) sz=some q.2∧dI (se W) (c q.1) q.2∧(∀u∈q.2,u.oneCell'=true)∧∀u k,q.2[0]?=some u→u≠ .int .u8 k:=by
  intro i hi
  obtain ⟨cs',h1,h2⟩:=hx i (by omega)
  rw [hs] at h1
  obtain ⟨a',k1,k2,k3⟩:=he n cs' _ h2
  exact ⟨(a',cs'),h1,k1,k2,k3⟩
 obtain ⟨f,hf⟩:=choose_lt each
 refine ⟨(List.range len).map fun i=>(f i).1,dI.cons ?_ dI.nil,by intro u hu;rw [Nl hu];rfl,fun u k hu=>by simp at hu;subst hu;simp⟩
 have hll:(((List.range len).map fun i=>(f i).1).map c).length=len:=by simp
 have hcell:∀i,i < len→∀j,j < sz→W.cell? (a.add (i * sz+j))=(f i).2[j]?:=by
  intro i hi j hj
  have:=(World.cells?_some (hf i hi).1).2.2 j hj
  rw [add_add] at this
  exact this
 have hcl:∀i,i < len→(f i).2.length=sz:=fun i hi=>(World.cells?_some (hf i hi).1).2.1
 have hnone:0 < len→∃b off,a=⟨b,off,none⟩∧b≠0:=by
  intro hp
  have h1:=hcell 0 hp 0 h0
  have h2:=(hf 0 hp).2.2.2
  rw [Nat.zero_mul,Nat.zero_add,Nz (by rw [hcl 0 hp];exact h0)] at h1
  obtain ⟨b,off,sp⟩:=a
  have e:(⟨b,off,sp⟩:Addr).add 0=⟨b,off,sp⟩:=by simp [Addr.add]
  rw [e] at h1
  cases sp with
  | some s=>
   simp only [World.cell?] at h1
   split at h1
   ·simp at h1
   ·cases h1
  | none=>
   refine ⟨b,off,rfl,fun e=>?_⟩
   subst e
   obtain ⟨k,hk⟩:=hT off _ h1
   exact h2 _ k (Nz (by rw [hcl 0 hp];exact h0)) hk
 have hmem:∀b off,a=⟨b,off,none⟩→∀i,i < len→∀j,j < sz→se W b (off+i * sz+j)=(f i).2[j]?:=by
  intro b off ha i hi j hj
  have:=hcell i hi j hj
  obtain ⟨b',off',ha',hb⟩:=hnone (by omega)
  rw [ha] at this
  have hb0:b≠0:=by
   rw [ha] at ha'
   injection ha' with e1 e2 e3
   rw [e1]
   exact hb
  unfold se
  rw [if_neg hb0,←this]
  have e:(⟨b,off,none⟩:Addr).add (i * sz+j)=⟨b,off+(i * sz+j),none⟩:=by
   unfold Addr.add
   by_cases h:i * sz+j=0
   ·rw [if_pos h,h,Nat.add_zero]
   ·rw [if_neg h]
  rw [e,Nat.add_assoc]
 have hgo:=VR.imm (σ:=se W) sz (((List.range len).map fun i=>(f i).1).map c) (some a) cap (by rw [hll];exact hlc) hm (fun e he=>by
   obtain ⟨y,_,rfl⟩:=List.mem_map.1 he
   exact hc y) (fun hne=>by
   have:0 < len:=by
    rcases Nat.eq_zero_or_pos len with h | h
    ·subst h;exact absurd rfl hne
    ·exact h
   obtain ⟨b,off,rfl,_⟩:=hnone this
   exact ⟨b,off,rfl⟩) (fun i b off j hA hi hj=>by
   rw [hll] at hi
   injection hA with hA
   have h1:=hmem b off hA i hi j hj
   have h2:j < (f i).2.length:=by rw [hcl i hi];exact hj
   rw [Nz h2] at h1
   exact ⟨_,h1,(hf i hi).2.2.1 _ (List.getElem_mem h2)⟩) (fun i e b off j c' u hi hA hj hu=>by
   injection hA with hA
   have hil:i < len:=by have:=(Np hi).1;simpa using this
   rw [List.getElem?_map,List.getElem?_map,List.getElem?_range hil] at hi
   simp only [Option.map_some,Option.some.injEq] at hi
   subst hi
   have hjs:j < sz:=by rw [←hc (f i).1];exact (Np hj).1
   rw [hmem b off hA i hil j hjs] at hu
   exact (hf i hil).2.1.2 j c' u hj hu)
 rw [hll] at hgo
 exact hgo
theorem Dn (h:W.heap[0]?=some (.cells (lp.map (Value.int .u8)).toArray 364 (0,0))):∀off u,W.cell? ⟨0,off,none⟩=some u→∃k,u= .int .u8 k:=fun off u hu=>by
 rw [dc h,List.getElem?_toArray,List.getElem?_map] at hu
 cases hk:lp[off]? with
 | none=>rw [hk] at hu;cases hu
 | some k=>rw [hk] at hu;exact ⟨k,(Option.some.inj hu).symm⟩
set_option maxRecDepth 100000 in
theorem zg (hT:W.heap[0]?=some (.cells (lp.map (Value.int .u8)).toArray 364 (0,0))) {base:Nat} {v:Value} {d:DataW H} {p:List MemPlace} (hok:Value.okWide Tryz.prog W .any base 22 v) (h:DataW.Trod enc Tryz.prog W 0 (fun _=>true) true 22 v d p):∃l,VR (se W) (.imm 1 (aW l)) v:=by
 obtain ⟨a0,len,cap,rfl⟩:=okWide_slice Tryz.underlying22 hok
 obtain ⟨fuel,hf⟩:=h
 obtain ⟨l,h1,_⟩:=zh (enc:=enc) (Dn hT) Tryz.underlying22 (by kernel_rfl) Nat.one_pos (FV Tryz.underlying3) (fun _=>rfl) fuel [.slice a0 len cap] _ (by simpa [Value.cells] using hf)
 exact ⟨l,h1.2 0 _ _ rfl rfl⟩
end
end
end Go.Proofs.YtpmdfoaadejmkaaGreatDoor
