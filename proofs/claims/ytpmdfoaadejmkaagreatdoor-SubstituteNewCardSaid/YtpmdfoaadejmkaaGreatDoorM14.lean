/-
  The document's states of rules: how many there are.
-/
import Derived.Test.YtpmdfoaadejmkaaGreatDoorM11
namespace Go.Proofs.YtpmdfoaadejmkaaGreatDoor
theorem tX {α:Type} [DecidableEq α]:∀(l P:List α),l.Nodup→(∀x∈l,x∈P)→l.length≤P.length
 | [],_,_,_=>Nat.zero_le _
 | x::l,P,h,hs=>by
  obtain ⟨h1,h2⟩:=List.nodup_cons.1 h
  have hx:=hs x (List.mem_cons_self ..)
  have h3:=tX l (P.erase x) h2 fun y hy=>(List.mem_erase_of_ne (fun e:y=x=>h1 (by rw [←e];exact hy))).2 (hs y (Nt _ hy))
  rw [List.length_erase_of_mem hx] at h3
  have:=List.length_pos_of_mem hx
  rw [List.length_cons]
  omega
def zO (n:Nat):List Int:=(List.range n).map Int.ofNat
theorem xG (n:Nat):zO (n+1)=zO n++[(n:Int)]:=by
 unfold zO
 rw [List.range_succ,List.map_append]
 rfl
theorem Iz {n:Nat} {z:Int} (h:z∈zO n):0≤z∧z < n:=by
 obtain ⟨i,hi,rfl⟩:=List.mem_map.1 h
 have:=List.mem_range.1 hi
 exact ⟨Int.natCast_nonneg i,by show ((i:Nat):Int) < n;omega⟩
theorem Be (n:Nat):(zO n).length=n:=by unfold zO;rw [Nu,List.length_range]
def sT:Nat→List (List Int)
  | 0=>[[]]
  | n+1=>sT n++(sT n).map (·++[(n:Int)])
theorem uf:∀n,(sT n).length=2 ^ n
 | 0=>rfl
 | n+1=>by
  unfold sT
  rw [List.length_append,Nu,uf n,Nat.pow_succ]
  omega
theorem ug:∀(n:Nat) (R:List Int),R.Sublist (zO n)→R∈sT n
 | 0,R,h=>by
  have:R=[]:=List.sublist_nil.1 (show R.Sublist [] from h)
  rw [this]
  exact List.mem_singleton.2 rfl
 | n+1,R,h=>by
  rw [xG] at h
  obtain ⟨R1,R2,rfl,h1,h2⟩:=List.sublist_append_iff.1 h
  have k:=ug n R1 h1
  unfold sT
  rw [List.mem_append]
  have h3:R2=[]∨R2=[(n:Int)]:=by
   cases h2 with
   | cons _ h=>exact .inl (List.sublist_nil.1 h)
   | cons_cons _ h=>exact .inr (by rw [List.sublist_nil.1 h])
  rcases h3 with e | e
  ·rw [e,List.append_nil]
   exact .inl k
  ·rw [e]
   exact .inr (List.mem_map.2 ⟨R1,k,rfl⟩)
abbrev sX:=Nat×List Int
def L3 (n M:Nat):List sX:=(List.range M).flatMap fun m=>(sT n).map fun R=>(m,R)
theorem DX (n M:Nat):(L3 n M).length=M * 2 ^ n:=by
 unfold L3
 induction M with
 | zero=>simp
 | succ M ih=>rw [List.range_succ,List.flatMap_append,List.length_append,ih,List.flatMap_singleton,Nu,uf,Nat.succ_mul]
theorem zC {n M:Nat} {all:List sX} (hn:all.Nodup) (h:∀s∈all,s.1 < M∧s.2.Sublist (zO n)):all.length≤M * 2 ^ n:=by
 rw [←DX]
 refine tX _ _ hn fun s hs=>?_
 obtain ⟨h1,h2⟩:=h s hs
 exact List.mem_flatMap.2 ⟨s.1,List.mem_range.2 h1,List.mem_map.2 ⟨s.2,ug n _ h2,rfl⟩⟩
def lH (back:Bool) (r:bk):List (List Int):=if back=true then r.Back else r.In++r.Ahead
def lc (back:Bool) (r:bk):Bool:=back || decide (0 < r.In.length)
def An (back:Bool) (rs:List bk) (i:Int):Bool:=match rs[i.toNat]? with | some r=>lc back r | none=>false
def eU (back:Bool) (rs:List bk) (k:Nat):List Int:=(zO k).filter (An back rs)
theorem wr {back:Bool} {rs:List bk} {k:Nat} {r:bk} (h:rs[k]?=some r):eU back rs (k+1)=if lc back r=true then eU back rs k++[(k:Int)] else eU back rs k:=by
 have hk:An back rs (k:Int)=lc back r:=by unfold An;rw [Int.toNat_natCast,h]
 unfold eU
 rw [xG,List.filter_append]
 cases hb:lc back r with
 | true=>rw [if_pos rfl,List.filter_cons_of_pos (by rw [hk,hb]),List.filter_nil]
 | false=>rw [if_neg (by simp),List.filter_cons_of_neg (by rw [hk,hb];simp),List.filter_nil,List.append_nil]
def mn (back:Bool) (rs:List bk) (m:Nat) (g i:Int):Bool:=match rs[i.toNat]? with | some r=>(match (lH back r)[m]? with | some s=>s.contains g | none=>false) | none=>false
def cL (back:Bool) (rs:List bk) (m:Nat) (g:Int) (R:List Int):List Int:=R.filter (mn back rs m g)
theorem wa {back:Bool} {rs:List bk} {m:Nat} {g:Int} {R:List Int} (h:cL back rs m g R≠[]):∃r∈rs,m < (lH back r).length:=by
 obtain ⟨i,hi⟩:=List.exists_mem_of_ne_nil _ h
 have hk:=(List.mem_filter.1 hi).2
 unfold mn at hk
 split at hk
 ·rename_i r hr
  refine ⟨r,Nw hr,?_⟩
  split at hk
  ·rename_i s hs
   exact (Np hs).1
  ·cases hk
 ·cases hk
theorem uF {back:Bool} {rs:List bk} {m:Nat} {g:Int} {R:List Int} {k:Nat} {i:Int} (h:R[k]?=some i):cL back rs m g (R.take (k+1))=if mn back rs m g i=true then cL back rs m g (R.take k)++[i] else cL back rs m g (R.take k):=by
 unfold cL
 rw [List.take_add_one,h,Option.toList_some,List.filter_append]
 cases hb:mn back rs m g i with
 | true=>rw [if_pos rfl,List.filter_cons_of_pos hb,List.filter_nil]
 | false=>rw [if_neg (by simp),List.filter_cons_of_neg (by rw [hb];simp),List.filter_nil,List.append_nil]
structure lL (back:Bool) (rs:List bk) (all:List sX):Prop where
 one:all.Nodup
 sub:∀s∈all,s.2.Sublist (zO rs.length)
 met:∀s∈all,s.1≤200
theorem lL.few {back:Bool} {rs:List bk} {all:List sX} (h:lL back rs all) (hr:rs.length≤6):all.length≤12864:=by
 have h1:=zC (M:=201) h.one fun s hs=>⟨by have:=h.met s hs;omega,h.sub s hs⟩
 have h2:(2:Nat) ^ rs.length≤2 ^ 6:=Nat.pow_le_pow_right (by omega) hr
 omega
theorem lL.start (back:Bool) (rs:List bk):lL back rs [(0,eU back rs rs.length)]:=⟨by simp,fun s hs=>by rw [Nl hs];exact List.filter_sublist,fun s hs=>by rw [Nl hs];exact Nat.zero_le _⟩
theorem lL.add {back:Bool} {rs:List bk} {all:List sX} (h:lL back rs all) (hrow:∀r∈rs,(lH back r).length≤200) {s:sX} (hs:s∈all) {g:Int} (hne:cL back rs s.1 g s.2≠[]) (hnew:(s.1+1,cL back rs s.1 g s.2)∉all):lL back rs (all++[(s.1+1,cL back rs s.1 g s.2)]):=by
 obtain ⟨r,hr,hm⟩:=wa hne
 have:=hrow r hr
 refine ⟨List.nodup_append.2 ⟨h.one,by simp,fun a ha b hb=>?_⟩,fun x hx=>?_,fun x hx=>?_⟩
 ·rw [Nl hb]
  exact fun e=>hnew (e▸ha)
 ·rcases Nm hx with hx | hx
  ·exact h.sub x hx
  ·rw [Nl hx]
   exact List.Sublist.trans List.filter_sublist (h.sub s hs)
 ·rcases Nm hx with hx | hx
  ·exact h.met x hx
  ·rw [Nl hx]
   dsimp only
   omega
def ot (all:List sX) (s:sX):Int:=match all.findIdx? (fun x=>decide (x=s)) with | some i=>i | none=> -1
theorem yp {all:List sX} {s:sX} (h:s∉all):ot all s= -1:=by
 unfold ot
 rw [List.findIdx?_eq_none_iff.2 fun x hx=>decide_eq_false fun e:x=s=>h (by rw [←e];exact hx)]
theorem ET {all:List sX} {s:sX} {i:Nat} (h:all[i]?=some s) (hn:∀j y,j < i→all[j]?=some y→y≠s):ot all s=i:=by
 unfold ot
 have hi:=(Np h).1
 rw [List.findIdx?_eq_some_iff_getElem.2 ⟨hi,by rw [(Np h).2];exact decide_eq_true rfl,fun j hj=>by
  have:=hn j _ hj (Nz (by omega))
  simpa using this⟩]
theorem C7 {all:List sX} {s:sX} (h:ot all s < 0):s∉all:=by
 intro hm
 unfold ot at h
 cases hf:all.findIdx? (fun x=>decide (x=s)) with
 | some i=>rw [hf] at h;dsimp only at h;omega
 | none=>
  rw [List.findIdx?_eq_none_iff] at hf
  have:=hf s hm
  simp at this
section
open Go.RowKit Go.MapKept
attribute [local irreducible] AT bP AX AO Av Kt bb dh DA cG
section
variable {P:Program} {r:Option Nat} {ops:Array Oper} {Q:Exit→Act→World→Prop} {nt:Nat} {D:List Deferred} {fr:cf} {B:Bs} {L:AL} {rest:List Oper} {d:Nat} {ty t:TypeId} {pos:String} {af:Array Edge} {x y z:Operand} {u:AV} {cd:Code}
theorem kA {f:FuncId} {args:Array Operand} {ts:Array TypeId} {cs caps:List AV} {v:AV} [bS P f] (hc:bV P f (cs++caps) v) (hx:bE fr x=some u) (hu:lG u=some (f,caps)) (hv:eP fr args.toList=some cs) (hn:Oper.noDefer ⟨some d,.call ⟨.value x,args,ts⟩,ty,pos,af,none⟩=true) (hd:Nat.ble nt d=false) (h:bP P r ops Q nt D rest ((d,v)::fr) B L):
  bP P r ops Q nt D (⟨some d,.call ⟨.value x,args,ts⟩,ty,pos,af,none⟩::rest) fr B L:=
 dE [] L hc hx hu hv (Nn _) hn hd fun c L1 hc=>by
  have hc':c=v:=hc
  subst hc'
  exact aL (bF (List.sublist_append_right ..)) h
theorem H8 (t:Nat) {u:AV} {s:Nat} {l:List (List AV)} (hl:cB fr t=some u) (hu:j2 u=some (s,l)) (h:l.length≤9223372036854775807→bP P r ops Q nt D rest fr B L):bP P r ops Q nt D rest fr B L:=
 H7 (fun σ a w ha _=>(Fi (ha.look t u hl) hu).1) h
end
def tR (t:c6) (i:Nat) (l:Int):Bool:=match i with | 0=>false | j+1=>match t.Lookups[j]? with | some b=>decide (l≤b) | none=>false
def iG (f:aT) (t:c6) (i:Nat) (l:Int):Int:=d3 (decide (l < 0∨l≥f.Lookups.length) || tR t i l) 43
set_option maxHeartbeats 1000000 in
theorem C3 (f:aT) (t:c6) (i:Nat) (l:Int) (hl:t.Lookups[i]?=some l) (hn:t.Lookups.length≤9223372036854775807):bV Tryz.prog 144 [aK i,aK l,.iptr (cn f),.iptr (cg t)] (aK (iG f t i l)):=by
 refine aV Tryz.func144 rfl Tryz.ntmps144 rfl fun B=>?_
 have hil:=(Np hl).1
 unfold iG
 cases i with
 | zero=>
  refine W01 ?_
  refine bY (t:=7) [] (l < 0∨l≥f.Lookups.length) rfl (fun Q' K=>?_) ?_
  ·repeat' (first|refine Ng ?_|refine NG a5 IG ?_|refine NN IG ?_|refine NO NB ?_|refine cq rfl rfl rfl ?_|refine NR NA (fun _=>?_) (fun _=>?_))
   all_goals exact K _ _ rfl rfl (by clear K;simp_all <;> omega)
  refine W0e ?_
  refine NM IG ?_
  simp [tR]
 | succ j=>
  obtain ⟨b,hb⟩:∃b,t.Lookups[j]?=some b:=⟨_,Nz (by omega)⟩
  have hbg:(aW t.Lookups)[(((j+1:Nat):Int) - 1).toNat]?=some [aK b]:=by rw [show (((j+1:Nat):Int) - 1).toNat=j by omega];exact bK hb
  have hlt:tR t (j+1) l=decide (l≤b):=by simp [tR,hb]
  have hpos:decide (0 < ((j+1:Nat):Int))=true:=decide_eq_true (by omega)
  rw [hlt]
  refine W01 ?_
  refine bY (t:=7) [] ((l < 0∨l≥f.Lookups.length)∨l≤b) rfl (fun Q' K=>?_) ?_
  ·repeat' (first|refine Ng ?_|refine NG a5 IG ?_|refine NN IG ?_|refine NO NB ?_|refine cq rfl rfl rfl ?_|(apply aS;refine aR ?_)|(apply aO;first|refine aN a5 ?_|refine aF a5 ?_)|refine NR NA (fun _=>?_) (fun _=>?_))
   all_goals exact K _ _ rfl rfl (by clear K;simp_all <;> omega)
  refine W0e ?_
  refine NM IG ?_
  rw [Bool.decide_or]
def wn (f:aT) (t:c6) (name:Int):Int:=if name≠0 then name else (cw t.Lookups (iG f t)).1
theorem wo (f:aT) (t:c6) (name:Int):bV Tryz.prog 65 [ca f,.agg (cg t),aK name] (aK (wn f t name)):=by
 refine aV Tryz.func65 rfl Tryz.ntmps65 rfl fun B=>?_
 unfold wn
 refine W08 ?_
 refine aj rfl (fun h=>?_) (fun h=>?_)
 ·rw [if_pos (Ny h)]
  refine W01 ?_
  exact NQ NA
 rw [if_neg (Nx h)]
 refine W01 ?_
 refine H8 14 rfl rfl fun hlen=>?_
 rw [aJ] at hlen
 refine b7 [] [] (om (u:= .fn 144 [.iptr (cn f),.iptr (cg t)]) (g:=144) rfl t.Lookups _ (fun _ _=>True) [] trivial (dH (fun i x hx=>C3 f t i x hx (by omega)))) rfl rfl (Nn _) rfl fun c L1 hc=>?_
 have hc:c=co (cw t.Lookups (iG f t)):=hc
 subst hc
 unfold co
 refine W01 ?_
 exact NQ NA
instance (f:aT) (t:c6) (name:Int):AD Tryz.prog 65 [ca f,.agg (cg t),aK name] (aK (wn f t name)):=⟨wo f t name⟩
def dD (names:List ByteArray) (s:ByteArray):Option Nat:=names.findIdx? (fun x=>decide (x=s))
def cM (names:List ByteArray) (v:Value):Option AV:=match v with
 | .string s=>(dD names s).map fun (n:Nat)=>aK (n:Int)
 | _=>none
theorem l6 {names:List ByteArray} {i:Nat} {s:ByteArray} (h:names[i]?=some s) (q:ByteArray):dD (names.take (i+1)) q=match dD (names.take i) q with | some n=>some n | none=>if s=q then some i else none:=by
 unfold dD
 have hlt:=(Np h).1
 have hlen:(names.take i).length=i:=by rw [List.length_take];omega
 rw [List.take_add_one,h,Option.toList_some,List.findIdx?_append,hlen]
 cases List.findIdx? (fun x=>decide (x=q)) (names.take i) with
 | some n=>rfl
 | none=>
  by_cases e:s=q
  ·simp [e]
  ·simp [e]
theorem nB:cM []=fun _=>none:=by
 funext v
 cases v <;> rfl
theorem mc {names:List ByteArray} {s:ByteArray}:(cM names (.string s)).isSome=(dD names s).isSome:=by
 show (Option.map (fun n:Nat=>aK (n:Int)) (dD names s)).isSome=_
 cases dD names s <;> rfl
theorem l7 {names:List ByteArray} {i:Nat} {s:ByteArray} (h:names[i]?=some s) (hk:(dD (names.take i) s).isSome=true):cM (names.take (i+1))=cM (names.take i):=by
 funext v
 cases v with
 | string q=>
  simp only [cM]
  rw [l6 h]
  cases hq:dD (names.take i) q with
  | some n=>rfl
  | none=>
   by_cases e:s=q
   ·subst e;rw [hq] at hk;cases hk
   ·simp [e]
 | _=>rfl
theorem ma {names:List ByteArray} {i:Nat} {s:ByteArray} (h:names[i]?=some s) (hk:(dD (names.take i) s).isSome=false):cM (names.take (i+1)) (.string s)=some (aK i):=by
 simp only [cM]
 rw [l6 h]
 cases hq:dD (names.take i) s with
 | some n=>rw [hq] at hk;cases hk
 | none=>simp
theorem l8 {names:List ByteArray} {i:Nat} {s:ByteArray} (h:names[i]?=some s) (q:Value) (hne:q≠ .string s):cM (names.take (i+1)) q=cM (names.take i) q:=by
 cases q with
 | string q=>
  have hne':s≠q:=fun e=>hne (by rw [e])
  simp only [cM]
  rw [l6 h]
  cases hq:dD (names.take i) q with
  | some n=>rfl
  | none=>simp [hne']
 | _=>rfl
theorem sj (g:bj):bV Tryz.prog 42 [.agg (bD g)] (vE g.Name):=by
 refine aV Tryz.func42 rfl Tryz.ntmps42 rfl fun B=>?_
 refine W08 ?_
 exact NQ NA
theorem sl (g:c6):bV Tryz.prog 44 [.agg (cg g)] (vE g.Name):=by
 refine aV Tryz.func44 rfl Tryz.ntmps44 rfl fun B=>?_
 refine W08 ?_
 exact NQ NA
theorem sm (g:ej):bV Tryz.prog 46 [.agg (cO g)] (vE g.Name):=by
 refine aV Tryz.func46 rfl Tryz.ntmps46 rfl fun B=>?_
 refine W08 ?_
 exact NQ NA
set_option maxHeartbeats 1000000 in
theorem wt (l:List bj):AC Tryz.prog 41 [.imm 9 (l.map bD),.sc (.func (.func 42) #[] #[])] [] fun c L=>∃m,c= .sc (.map (some m))∧L=[(m,cx .string (cM (l.map bj.Name)))]:=by
 refine aV Tryz.func41 rfl Tryz.ntmps41 rfl fun B=>?_
 refine cR 0 rfl rfl fun hlen=>?_
 rw [Nu] at hlen
 refine W01 ?_
 refine eV .string fun m=>?_
 refine W03 ?_
 refine aM [1,5,11,12] (α:=Nat) (fun i=>[(13,aK i)]) (fun i=>i≤l.length) (fun i=>[(m,cx .string (cM ((l.map bj.Name).take i)))]) (fun i=>l.length - i) 0 rfl ⟨rfl,trivial⟩ (Nat.zero_le _) (fun _ _ h=>by rw [List.take_zero,nB];exact h) fun i hi=>?_
 try dsimp only [Ns,Nr,Nq,Nk]
 refine W01 ?_
 refine aj rfl (fun h=>?_) (fun h=>?_)
 ·have hil:i < l.length:=by have:=Ny h;simp at this;omega
  obtain ⟨z,hz⟩:∃z,l[i]?=some z:=⟨_,Nz hil⟩
  have hzg:=bG (c:=bD) hz
  have hzn:(l.map bj.Name)[i]?=some z.Name:=by rw [List.getElem?_map,hz];rfl
  refine W06 ?_
  intros
  refine kA (cs:=[.agg (bD z)]) (caps:=[]) (sj z) rfl rfl rfl rfl rfl ?_
  refine jq 0 (.int .i64 0) Tryz.underlying129 Tryz.underlying9 rfl rfl trivial rfl (by kernel_rfl) rfl ?_
  rw [mc]
  refine W01 ?_
  refine aj rfl (fun h2=>?_) (fun h2=>?_)
  ·have h2':(dD ((l.map bj.Name).take i) z.Name).isSome=false:=by simpa using h2
   refine W01 ?_
   refine kA (cs:=[.agg (bD z)]) (caps:=[]) (sj z) rfl rfl rfl rfl rfl ?_
   repeat' (first|refine NG a5 IG ?_)
   refine dg 0 (cM ((l.map bj.Name).take (i+1))) Tryz.underlying129 Tryz.underlying9 rfl rfl trivial rfl rfl (ma hzn h2') (l8 hzn) ?_
   refine W02 ?_
   exact aC (i+1) rfl ⟨by rw [Nv];rfl,trivial⟩ (by omega) (by omega) (fun _ _ h=>h)
  ·have h2':(dD ((l.map bj.Name).take i) z.Name).isSome=true:=by simpa using h2
   refine W02 ?_
   exact aC (i+1) rfl ⟨by rw [Nv];rfl,trivial⟩ (by omega) (by omega) (fun _ _ h=>by rw [l7 hzn h2'];exact h)
 ·have hil:i=l.length:=by have:=Nx h;simp at this;omega
  subst hil
  rw [List.take_of_length_le (by simp)]
  refine W01 ?_
  exact NM IG ⟨_,rfl,rfl⟩
set_option maxHeartbeats 1000000 in
theorem wu (l:List c6):AC Tryz.prog 43 [.imm 2 (l.map cg),.sc (.func (.func 44) #[] #[])] [] fun c L=>∃m,c= .sc (.map (some m))∧L=[(m,cx .string (cM (l.map c6.Name)))]:=by
 refine aV Tryz.func43 rfl Tryz.ntmps43 rfl fun B=>?_
 refine cR 0 rfl rfl fun hlen=>?_
 rw [Nu] at hlen
 refine W01 ?_
 refine eV .string fun m=>?_
 refine W03 ?_
 refine aM [1,5,11,12] (α:=Nat) (fun i=>[(13,aK i)]) (fun i=>i≤l.length) (fun i=>[(m,cx .string (cM ((l.map c6.Name).take i)))]) (fun i=>l.length - i) 0 rfl ⟨rfl,trivial⟩ (Nat.zero_le _) (fun _ _ h=>by rw [List.take_zero,nB];exact h) fun i hi=>?_
 try dsimp only [Ns,Nr,Nq,Nk]
 refine W01 ?_
 refine aj rfl (fun h=>?_) (fun h=>?_)
 ·have hil:i < l.length:=by have:=Ny h;simp at this;omega
  obtain ⟨z,hz⟩:∃z,l[i]?=some z:=⟨_,Nz hil⟩
  have hzg:=bG (c:=cg) hz
  have hzn:(l.map c6.Name)[i]?=some z.Name:=by rw [List.getElem?_map,hz];rfl
  refine W06 ?_
  intros
  refine kA (cs:=[.agg (cg z)]) (caps:=[]) (sl z) rfl rfl rfl rfl rfl ?_
  refine jq 0 (.int .i64 0) Tryz.underlying129 Tryz.underlying9 rfl rfl trivial rfl (by kernel_rfl) rfl ?_
  rw [mc]
  refine W01 ?_
  refine aj rfl (fun h2=>?_) (fun h2=>?_)
  ·have h2':(dD ((l.map c6.Name).take i) z.Name).isSome=false:=by simpa using h2
   refine W01 ?_
   refine kA (cs:=[.agg (cg z)]) (caps:=[]) (sl z) rfl rfl rfl rfl rfl ?_
   repeat' (first|refine NG a5 IG ?_)
   refine dg 0 (cM ((l.map c6.Name).take (i+1))) Tryz.underlying129 Tryz.underlying9 rfl rfl trivial rfl rfl (ma hzn h2') (l8 hzn) ?_
   refine W02 ?_
   exact aC (i+1) rfl ⟨by rw [Nv];rfl,trivial⟩ (by omega) (by omega) (fun _ _ h=>h)
  ·have h2':(dD ((l.map c6.Name).take i) z.Name).isSome=true:=by simpa using h2
   refine W02 ?_
   exact aC (i+1) rfl ⟨by rw [Nv];rfl,trivial⟩ (by omega) (by omega) (fun _ _ h=>by rw [l7 hzn h2'];exact h)
 ·have hil:i=l.length:=by have:=Nx h;simp at this;omega
  subst hil
  rw [List.take_of_length_le (by simp)]
  refine W01 ?_
  exact NM IG ⟨_,rfl,rfl⟩
set_option maxHeartbeats 1000000 in
theorem wv (l:List ej):AC Tryz.prog 45 [.imm 4 (l.map cO),.sc (.func (.func 46) #[] #[])] [] fun c L=>∃m,c= .sc (.map (some m))∧L=[(m,cx .string (cM (l.map ej.Name)))]:=by
 refine aV Tryz.func45 rfl Tryz.ntmps45 rfl fun B=>?_
 refine cR 0 rfl rfl fun hlen=>?_
 rw [Nu] at hlen
 refine W01 ?_
 refine eV .string fun m=>?_
 refine W03 ?_
 refine aM [1,5,11,12] (α:=Nat) (fun i=>[(13,aK i)]) (fun i=>i≤l.length) (fun i=>[(m,cx .string (cM ((l.map ej.Name).take i)))]) (fun i=>l.length - i) 0 rfl ⟨rfl,trivial⟩ (Nat.zero_le _) (fun _ _ h=>by rw [List.take_zero,nB];exact h) fun i hi=>?_
 try dsimp only [Ns,Nr,Nq,Nk]
 refine W01 ?_
 refine aj rfl (fun h=>?_) (fun h=>?_)
 ·have hil:i < l.length:=by have:=Ny h;simp at this;omega
  obtain ⟨z,hz⟩:∃z,l[i]?=some z:=⟨_,Nz hil⟩
  have hzg:=bG (c:=cO) hz
  have hzn:(l.map ej.Name)[i]?=some z.Name:=by rw [List.getElem?_map,hz];rfl
  refine W06 ?_
  intros
  refine kA (cs:=[.agg (cO z)]) (caps:=[]) (sm z) rfl rfl rfl rfl rfl ?_
  refine jq 0 (.int .i64 0) Tryz.underlying129 Tryz.underlying9 rfl rfl trivial rfl (by kernel_rfl) rfl ?_
  rw [mc]
  refine W01 ?_
  refine aj rfl (fun h2=>?_) (fun h2=>?_)
  ·have h2':(dD ((l.map ej.Name).take i) z.Name).isSome=false:=by simpa using h2
   refine W01 ?_
   refine kA (cs:=[.agg (cO z)]) (caps:=[]) (sm z) rfl rfl rfl rfl rfl ?_
   repeat' (first|refine NG a5 IG ?_)
   refine dg 0 (cM ((l.map ej.Name).take (i+1))) Tryz.underlying129 Tryz.underlying9 rfl rfl trivial rfl rfl (ma hzn h2') (l8 hzn) ?_
   refine W02 ?_
   exact aC (i+1) rfl ⟨by rw [Nv];rfl,trivial⟩ (by omega) (by omega) (fun _ _ h=>h)
  ·have h2':(dD ((l.map ej.Name).take i) z.Name).isSome=true:=by simpa using h2
   refine W02 ?_
   exact aC (i+1) rfl ⟨by rw [Nv];rfl,trivial⟩ (by omega) (by omega) (fun _ _ h=>by rw [l7 hzn h2'];exact h)
 ·have hil:i=l.length:=by have:=Nx h;simp at this;omega
  subst hil
  rw [List.take_of_length_le (by simp)]
  refine W01 ?_
  exact NM IG ⟨_,rfl,rfl⟩
end
section
open Go.RowKit
attribute [local irreducible] AT bP AX AO Av Kt bb dh DA cG
theorem m9 (names:List ByteArray) (s:ByteArray):(cM names (.string s)).getD (.sc (.int .i64 0))=aK ((dD names s).getD 0:Nat):=by
 show (Option.map (fun n:Nat=>aK (n:Int)) (dD names s)).getD (.sc (.int .i64 0))=_
 cases dD names s <;> rfl
def eY (names:List ByteArray) (i:Nat) (s:ByteArray):Bool:=decide ((((dD names s).getD 0:Nat):Int) < (i:Int))
def fa (f:aT):List ByteArray:=f.Glyphs.map bj.Name
def iB (f:aT):List ByteArray:=f.Features.map c6.Name
def it (f:aT):List ByteArray:=f.Axes.map ej.Name
def cX (f:aT) (i:Nat) (g:bj):Int:=nI f g (gJ (dx g.Name) (eY (fa f) i g.Name))
def f9 (f:aT) (i:Nat) (t:c6):Int:=wn f t (gJ (dU t.Name) (eY (iB f) i t.Name))
def fV (f:aT) (i:Nat) (a:ej):Int:=w7 a (gJ (dx a.Name) (eY (it f) i a.Name))
set_option maxHeartbeats 1000000 in
theorem rV (f:aT) (i:Nat) (g:bj) (m:Nat):AC Tryz.prog 51 [aK i,.agg (bD g),.iptr (cn f),.iptr [.sc (.map (some m))]] [(m,cx .string (cM (fa f)))] fun c L=>c=aK (cX f i g)∧L=[(m,cx .string (cM (fa f)))]:=by
 refine aV Tryz.func51 rfl Tryz.ntmps51 rfl fun B=>?_
 refine W08 ?_
 refine bv 12 [(0,.v),(1,.v),(2,.v),(3,.v),(4,.v),(5,.v),(6,.v),(7,.v),(9,.v),(8,.e),(10,.v),(11,.v)] none ?_ trivial rfl (by kernel_rfl) (by kernel_rfl) (by kernel_rfl) bQ (by kernel_rfl) rfl
 refine W0t ?_
 refine rL 0 (.int .i64 0) Tryz.underlying129 Tryz.underlying9 rfl rfl trivial rfl (by kernel_rfl) trivial ?_
 rw [m9]
 refine W0t ?_
 refine NP [7,8,18] IG ?_
 refine W0T ?_
 exact NM IG ⟨rfl,rfl⟩
set_option maxHeartbeats 1000000 in
theorem C4 (f:aT) (i:Nat) (t:c6) (m:Nat):AC Tryz.prog 64 [aK i,.agg (cg t),.iptr (cn f),.iptr [.sc (.map (some m))]] [(m,cx .string (cM (iB f)))] fun c L=>c=aK (f9 f i t)∧L=[(m,cx .string (cM (iB f)))]:=by
 refine aV Tryz.func64 rfl Tryz.ntmps64 rfl fun B=>?_
 refine W08 ?_
 refine bv 12 [(0,.v),(1,.v),(2,.v),(3,.v),(4,.v),(5,.v),(6,.v),(7,.v),(9,.v),(8,.e),(10,.v),(11,.v)] none ?_ trivial rfl (by kernel_rfl) (by kernel_rfl) (by kernel_rfl) bQ (by kernel_rfl) rfl
 refine W0t ?_
 refine rL 0 (.int .i64 0) Tryz.underlying129 Tryz.underlying9 rfl rfl trivial rfl (by kernel_rfl) trivial ?_
 rw [m9]
 refine W0t ?_
 refine NP [7,8,18] IG ?_
 refine W0T ?_
 exact NM IG ⟨rfl,rfl⟩
set_option maxHeartbeats 1000000 in
theorem BB (f:aT) (i:Nat) (a:ej) (m:Nat):AC Tryz.prog 68 [aK i,.agg (cO a),.iptr [.sc (.map (some m))]] [(m,cx .string (cM (it f)))] fun c L=>c=aK (fV f i a)∧L=[(m,cx .string (cM (it f)))]:=by
 refine aV Tryz.func68 rfl Tryz.ntmps68 rfl fun B=>?_
 refine W08 ?_
 refine bv 11 [(0,.v),(1,.v),(2,.v),(3,.v),(4,.v),(5,.v),(6,.v),(8,.v),(7,.e),(9,.v),(10,.v)] none ?_ trivial rfl (by kernel_rfl) (by kernel_rfl) (by kernel_rfl) bQ (by kernel_rfl) rfl
 refine W0t ?_
 refine rL 0 (.int .i64 0) Tryz.underlying129 Tryz.underlying9 rfl rfl trivial rfl (by kernel_rfl) trivial ?_
 rw [m9]
 refine W0t ?_
 refine NP [6,16] IG ?_
 refine W0T ?_
 exact NM IG ⟨rfl,rfl⟩
theorem HO (n:Nat) (hn:n≤1000000):AC Tryz.prog 271 [.sc (.slice none 0 0),aK n] [] fun c L=>∃k,c= .vec k 1 []∧L=tok k 22 1 0:=by
 refine aV Tryz.func271 rfl Tryz.ntmps271 rfl fun B=>?_
 refine W0W ?_
 refine v5 a5 rfl rfl rfl ?_
 refine W02 ?_
 by_cases h0:n=0
 ·subst h0
  refine W0W ?_
  refine bf (bH (t:=4) (c':= .vec none 1 []) rfl fun σ v h=>cW 1 h) (NM IG ⟨none,rfl,rfl⟩)
 ·refine aj rfl (fun h2=>?_) (fun h2=>?_)
  ·refine W01 ?_
   refine v5 a5 rfl rfl rfl ?_
   refine K5 a5 rfl rfl rfl rfl ?_
   repeat' (first|refine NG a5 IG ?_)
   refine CE a5 n rfl Tryz.underlying3 rfl rfl (by omega) (by omega) (by omega) (by omega) rfl fun b cap h3 h4=>?_
   repeat' (first|refine NG a5 IG ?_)
   refine FN a5 0 rfl rfl rfl rfl (by omega) (by omega) rfl ?_
   refine W01 ?_
   refine bf (bH (t:=4) (c':= .vec (some (b,cap)) 1 []) rfl fun σ v h=>IA h4 h) (NM IG ⟨some (b,cap),rfl,rfl⟩)
  ·exact absurd (Nx h2) (by omega)
def sE (l:List (List (List Int))):List (List AV):=l.map fun r=>[.imm 1 (b6 r)]
def gt (l:List (List (List Int))):Nat:=(l.map List.length).sum
theorem qN {l:List (List (List Int))} {i:Nat} {r:List (List Int)} (h:l[i]?=some r):gt (l.take (i+1))=gt (l.take i)+r.length:=by
 unfold gt
 rw [List.take_add_one,h]
 simp
theorem uh (l:List (List (List Int))) (i:Nat):gt (l.take i)≤gt l:=by
 have h:((l.take i++l.drop i).map List.length).sum=(l.map List.length).sum:=by rw [List.take_append_drop]
 rw [List.map_append,List.sum_append] at h
 unfold gt
 omega
theorem EV (l:List (List (List Int))):l.flatten.length=gt l:=by
 unfold gt
 rw [List.length_flatten]
theorem mW (a b:List (List Int)):b6 a++b6 b=b6 (a++b):=by unfold b6;rw [List.map_append]
set_option maxHeartbeats 1000000 in
theorem yh (l:List (List (List Int))) (hs:gt l≤1000000):bV Tryz.prog 216 [.imm 1 (sE l)] (.imm 1 (b6 l.flatten)):=by
 refine aV Tryz.func216 rfl Tryz.ntmps216 rfl fun B=>?_
 have hrl:(sE l).length=l.length:=by simp [sE]
 refine cR 0 rfl rfl fun hlen=>?_
 rw [hrl] at hlen
 refine W03 ?_
 refine aM [0,9,10] (α:=Nat) (fun i=>[(11,aK i),(3,aK (gt (l.take i)))]) (fun i=>i≤l.length) (fun _=>[]) (fun i=>l.length - i) 0 rfl ⟨rfl,rfl,trivial⟩ (Nat.zero_le _) (fun _ _ h=>h) fun i hi=>?_
 try dsimp only [Ns,Nr,Nq,Nk]
 refine W01 ?_
 refine aj rfl (fun h=>?_) (fun h=>?_)
 ·have hil:i < l.length:=by have:=Ny h;rw [hrl] at this;omega
  obtain ⟨z,hz⟩:∃z,l[i]?=some z:=⟨_,Nz hil⟩
  have hzg:(sE l)[i]?=some [.imm 1 (b6 z)]:=by simp [sE,hz]
  have hsz:=qN hz
  have hle:=uh l (i+1)
  have hzl:(b6 z).length=z.length:=by simp [b6]
  repeat' (first|refine Ng ?_|refine ak ?_|refine NG a5 IG ?_|(apply aS;refine aR ?_)|(apply aO;first|refine aN a5 ?_|refine aF a5 ?_)|refine bJ rfl ?_)
  exact aC (i+1) rfl ⟨by rw [Nv];rfl,by rw [hsz,Nv,hzl];rfl,trivial⟩ (by omega) (by omega) (fun _ _ h=>h)
 have hil:i=l.length:=by have:=Nx h;rw [hrl] at this;omega
 subst hil
 rw [List.take_length]
 clear h
 refine W01 ?_
 refine b7 [] [] (HO (gt l) hs) rfl rfl (Nn _) rfl fun c L1 ⟨k,hc,hL⟩=>?_
 subst hc;subst hL
 rw [List.append_nil]
 refine W03 ?_
 refine aM [25,26] (α:=Nat×Option (Nat×Nat)) (fun x=>[(27,aK x.1),(6,.vec x.2 1 (b6 (l.take x.1).flatten))]) (fun x=>x.1≤l.length) (fun x=>tok x.2 22 1 (b6 (l.take x.1).flatten).length) (fun x=>l.length - x.1) (0,k) rfl ⟨rfl,rfl,trivial⟩ (Nat.zero_le _) (fun _ _ h=>h) ?_
 rintro ⟨i,k⟩ hi
 dsimp only at hi ⊢
 try dsimp only [Ns,Nr,Nq,Nk]
 refine W01 ?_
 refine aj rfl (fun h=>?_) (fun h=>?_)
 ·have hil:i < l.length:=by have:=Ny h;rw [hrl] at this;omega
  obtain ⟨z,hz⟩:∃z,l[i]?=some z:=⟨_,Nz hil⟩
  have hzg:(sE l)[i]?=some [.imm 1 (b6 z)]:=by simp [sE,hz]
  have hsz:=qN hz
  have hle:=uh l (i+1)
  have hzl:(b6 z).length=z.length:=by simp [b6]
  have hfl:(b6 (l.take i).flatten).length=gt (l.take i):=by rw [bO,EV]
  have hcat:b6 (l.take i).flatten++b6 z=b6 (l.take (i+1)).flatten:=by rw [mW,List.take_add_one,hz];simp
  refine W0a ?_
  refine NS a5 [] NB (by rw [List.append_nil]) (by rw [hfl,hzl];omega) (by rw [hfl,hzl];omega) rfl fun k'=>?_
  rw [hcat,List.append_nil]
  refine W02 ?_
  exact aC (i+1,k') rfl ⟨by rw [Nv];rfl,rfl,trivial⟩ (by dsimp only;omega) (by dsimp only;omega) (fun _ _ h=>h)
 ·have hil:i=l.length:=by have:=Nx h;rw [hrl] at this;omega
  subst hil
  rw [List.take_length]
  refine W01 ?_
  exact E9 rfl rfl rfl rfl
end
end Go.Proofs.YtpmdfoaadejmkaaGreatDoor
