/-
  An engine is applied, and run.
-/
import Derived.Test.YtamjlkdanllgjaaGreatDoorM23
import Derived.Test.YtamjlkdanllgjaaGreatDoorM12
import Derived.Test.YtamjlkdanllgjaaGreatDoorM15
import Derived.Test.YtamjlkdanllgjaaGreatDoorM22
namespace Go.Proofs.YtamjlkdanllgjaaGreatDoor
open Go.RowKit
attribute [local irreducible] AT bF AX AO Av Kt b8 d9 DA cu
set_option maxRecDepth 8000
theorem vC (k:Int):bH Tryz.prog 138 [aG k] (cU (decide (1≤k∧k≤6))):=by
 refine aQ Tryz.func138 rfl Tryz.ntmps138 rfl fun B=>?_
 repeat' (first|refine O1 ?_|refine OE a7 KN ?_|refine ON KN ?_|refine OP OA ?_|refine OR NZ (fun _=>?_) (fun _=>?_))
 all_goals exact OK KN (by simp_all <;> omega)
instance (k:Int):AD Tryz.prog 138 [aG k] (cU (decide (1≤k∧k≤6))):=⟨vC k⟩
section
variable {nt:Nat} {fr:bZ} {B:Bs} {D:List Deferred}
theorem pa {t:Nat} {q:Option pZ} {run:List bv} {Lf:AL} (hq:kM q run) (hl:ce fr t=some (f7 q run)):mq nt D B fr (eT q run++Lf) ((t,.imm 6 (run.map dw))::fr) Lf:=by
 cases q with
 | none=>
  have he:=hq.emp rfl
  subst he
  exact bq hl fun σ v h=>h
 | some m=>
  obtain ⟨h1,h2,h3⟩:=hq.fit m rfl
  have hfl:=jB run
  have hcl:run.length * 6≤(eH run++m.junk).length:=by rw [List.length_append];omega
  have htk:(eH run++m.junk).take (run.length * 6)=(run.map dw).flatten:=by
   have:=BD run m.junk (Nat.le_refl _)
   rw [List.take_length] at this
   exact this
  exact dl (sz:=6) (n:=run.length) (cap:=m.cap) (l:=run.map dw) 0 hl rfl htk hcl (fun e he=>by obtain ⟨z,_,rfl⟩:=List.mem_map.1 he;rfl) (Ou ..) h1 h2
end
section
variable {E:x9} (hE:qF E)
include hE
end
def Na (ap:Int→List bv→List Int→List bv):List Int→List (List Int)→List bv→List bv
 | [],_,run=>run
 | n::ns,fs,run=>Na ap ns (fs.drop 1) (ap n run (fs.headD []))
structure ND (u:AV) (ap:Int→List bv→List Int→List bv):Prop where
 ac:∀(n:Int) (run:List bv) (forms:List Int),run.length≤1000000→AC Tryz.prog 140 [u,aG n,.imm 6 (run.map dw),.imm 1 (aL forms)] [wW] fun c L=>c= .imm 6 ((ap n run forms).map dw)∧L=[wW]
 len:∀(n:Int) (run:List bv) (forms:List Int),run.length≤1000000→(ap n run forms).length≤1000000
def MR:AV→Bool
 | .iptr _=>true
 | .sc (.pointer none)=>true
 | _=>false
end Go.Proofs.YtamjlkdanllgjaaGreatDoor
namespace Go.Proofs.YtamjlkdanllgjaaGreatDoor
open Go.RowKit
attribute [local irreducible] AT bF AX AO Av Kt b8 d9 DA cu
set_option maxRecDepth 8000
theorem AC.frozen {P:Program} {f:FuncId} {args:List AV} {run:List bv} (h:AC P f args [] fun c L=>∃q,kM q run∧c=f7 q run∧L=eT q run):bH P f args (.imm 6 (run.map dw)):=by
 intro σ w vs hv hs
 refine (h σ w vs hv hs).mono fun en w' ⟨v,τ,c,L',h1,h2,h3,q,h4,h5,h6⟩=>?_
 subst h5;subst h6
 obtain ⟨τ',k1,k2⟩:=(pa (nt:=1) (D:=[]) (fr:=[(0,f7 q run)]) (t:=0) (Lf:=[]) h4 rfl) τ ⟨#[v],[]⟩ w' ⟨rfl,rfl,fun t c hc=>by
  rw [ck] at hc
  by_cases e:0=t
  ·subst e
   simp only [if_true,Option.some.injEq] at hc
   subst hc
   exact h2
  ·rw [if_neg e] at hc
   cases hc⟩ (by rw [List.append_nil];exact h3)
 exact ⟨v,τ',_,[],h1,k1.look 0 _ rfl,k2,rfl⟩
theorem pV (f:aY) (rs:List Int) (hr:rs.length≤39) (hc:f.Chars.length≤1000000):bH Tryz.prog 15 [cR f,.imm 1 (aL rs)] (.imm 6 ((cC f rs).map dw)):=(wU f rs (by omega) (tq hr) hc).frozen
theorem BJ (cs:List dt) (r:Int) {k:Nat} {c:dt} (h:cs[k]?=some c):rx (cs.drop k) r=if c.Rune=r then c.Glyph else rx (cs.drop (k+1)) r:=by
 obtain ⟨hk,he⟩:=Ol h
 rw [List.drop_eq_getElem_cons hk,he]
 unfold rx
 by_cases hc:c.Rune=r
 ·rw [if_pos hc,List.find?_cons_of_pos (by simpa using hc)]
  rfl
 ·rw [if_neg hc,List.find?_cons_of_neg (by simpa using hc)]
set_option maxHeartbeats 8000000 in
theorem pW (f:aY) (rs:List Int) (hr:rs.length≤1000000) (hc:f.Chars.length≤1000000):bH Tryz.prog 17 [cR f,.imm 1 (aL rs)] (.imm 6 ((cC f rs).map dw)):=by
 refine aQ Tryz.func17 rfl Tryz.ntmps17 rfl fun B=>?_
 have hil:=aP rs
 have hcl:(f.Chars.map dv).length=f.Chars.length:=Ou ..
 have i0:=wy rs hr
 rw [yu] at i0
 have i1:=vV rs hr
 rw [xU] at i1
 haveI:=AD.mk i0
 haveI:=AD.mk i1
 have hok:=lA rs
 have hfl:=oK rs
 have hol:=aP ((dq rs).map fun (n:Nat)=>(n:Int))
 rw [Ou] at hol
 have hsl:(cC f rs).length=(dq rs).length:=Ou ..
 repeat' (first|refine O1 ?_|refine ak ?_|refine OE a7 KN ?_|refine br ?_|refine jb (d:=11) a7 fun _=>?_|(apply bg;refine b9 ?_)|fail)
 rename_i b0
 refine aJ [1,2,6,7] (α:=Nat×Option (Nat×Nat)) (fun s=>[(5,.vec s.2 6 (((cC f rs).take s.1).map dw)),(8,aG s.1)]) (fun s=>s.1≤(dq rs).length) (fun s=>tok s.2 56 6 s.1) (fun s=>(dq rs).length - s.1) (0,some (b0,0)) rfl ⟨rfl,rfl,trivial⟩ (Nat.zero_le _) (fun _ _ h=>h) ?_
 rintro ⟨i,k⟩ hi
 dsimp only at hi ⊢
 try dsimp only [Oq,Oo,Om,Oh]
 refine W01 ?_
 refine aw rfl (fun h=>?_) (fun h=>?_)
 ·have hil2:i < (dq rs).length:=by have:=Oy h;omega
  obtain ⟨a,ha⟩:∃z,(dq rs)[i]?=some z:=⟨_,Oz hil2⟩
  have hag:=bD (l:=(dq rs).map fun (n:Nat)=>(n:Int)) (i:=i) (z:=(a:Int)) (by rw [List.getElem?_map,ha];rfl)
  have halt:a < rs.length:=hok.2 a (Ow ha)
  have hrg:=bD (dk halt)
  have hfg:=bD (dk (l:=iO rs) (i:=a) (by omega))
  have hsx:(cC f rs)[i]?=some ⟨rx f.Chars (rs.getD a 0),a,(iO rs).getD a 0,0,0,0⟩:=by
   unfold cC
   rw [List.getElem?_map,ha]
   rfl
  have htl:(((cC f rs).take i).map dw).length=i:=by rw [Ou,List.length_take];omega
  have hts:((cC f rs).take (i+1)).map dw=((cC f rs).take i).map dw++[[aG (rx f.Chars (rs.getD a 0)),aG a,aG ((iO rs).getD a 0),aG 0,aG 0,aG 0]]:=by
   rw [List.take_add_one,hsx,List.map_append]
   rfl
  clear h hsx
  generalize ((cC f rs).take i).map dw=R at *
  generalize rs.getD a 0=r at *
  generalize (iO rs).getD a 0=fo at *
  refine W0z ?_
  refine bk 13 [(0,.v),(1,.v),(2,.v),(3,.v),(4,.v),(5,.v),(6,.v),(7,.v),(8,.v),(9,.v),(10,.v),(11,.v)] (some (12,.box _ 56)) ?_ ⟨_,rfl,rfl,fun _ _ _=>mY (eA a7 rfl) rfl⟩ rfl (by kernel_rfl) (by kernel_rfl) (by kernel_rfl) mixed (by kernel_rfl) rfl
  refine W0l ?_
  refine ug [1,2,5,6,7,8,9,33] (fun _=>_) (fun _=>rfl) rfl fun _=>?_
  rename_i xb
  refine aX (aW List.perm_append_comm) ?_
  repeat' (first|refine O1 ?_|refine ak ?_|refine OE a7 KN ?_|(apply aS;refine aR ?_)|(apply aO;first|refine OF a7 0 OC ?_|refine OF a7 1 OC ?_|refine OF a7 2 OC ?_|refine OF a7 3 OC ?_|fail))
  have hg0:rx (f.Chars.drop f.Chars.length) r=0:=by rw [List.drop_length];rfl
  refine aJ [1,2,5,6,7,8,9] (α:=Nat) (fun j=>[(10,aG ((j:Int) - 1))]) (fun j=>j≤f.Chars.length) (fun j=>(xb,.box [aG (rx (f.Chars.drop j) r),aG a,aG fo,aG 0,aG 0,aG 0] 56)::tok k 56 6 i) (fun j=>j) f.Chars.length rfl ⟨by rw [hcl];rfl,trivial⟩ (Nat.le_refl _) (fun _ _ h=>by rw [hg0];exact h) fun j hj=>?_
  try dsimp only [Oq,Oo,Om,Oh]
  refine W01 ?_
  refine aw rfl (fun h=>?_) (fun h=>?_)
  ·obtain ⟨j,rfl⟩:∃m,j=m+1:=⟨j - 1,by have:=Oy h;omega⟩
   obtain ⟨c,hcc⟩:∃c,f.Chars[j]?=some c:=⟨_,Oz (by omega)⟩
   have hcg:=c7 (c:=dv) hcc
   have hgd:=BJ f.Chars r hcc
   clear h
   generalize rx (f.Chars.drop (j+1)) r=gl at *
   rw [show ((j+1:Nat):Int) - 1=(j:Int) by omega]
   refine W0z ?_
   refine bk 13 [(0,.v),(1,.v),(2,.v),(3,.v),(4,.v),(5,.v),(6,.v),(7,.v),(8,.v),(9,.v),(10,.v),(11,.v),(12,.v)] none ?_ trivial rfl (by kernel_rfl) (by kernel_rfl) (by kernel_rfl) mixed (by kernel_rfl) rfl
   refine W0l ?_
   refine OO [1,2,5,6,7,8,9,10,47,54] KN ?_
   refine W0p ?_
   refine aw rfl (fun h=>?_) (fun h=>?_)
   ·rw [if_pos (Oy h)] at hgd
    clear h
    repeat' (first|refine O1 ?_|refine OE a7 KN ?_|(apply aS;refine aR ?_)|(apply aV;first|refine aU a7 ?_|refine aN a7 ?_)|(apply aO;first|refine OF a7 0 OC ?_|refine OF a7 1 OC ?_|refine OF a7 2 OC ?_|refine OF a7 3 OC ?_|fail))
    exact aD j rfl ⟨rfl,trivial⟩ (by omega) (by omega) (fun _ _ h=>by rw [hgd];exact h)
   ·rw [if_neg (Ox h)] at hgd
    clear h
    refine W02 ?_
    exact aD j rfl ⟨rfl,trivial⟩ (by omega) (by omega) (fun _ _ h=>by rw [hgd];exact h)
  ·obtain rfl:j=0:=by have:=Ox h;omega
   rw [List.drop_zero]
   clear h
   refine W0b ?_
   refine bA a7 [(xb,.box [aG (rx f.Chars r),aG a,aG fo,aG 0,aG 0,aG 0] 56)] rfl rfl rfl rfl (by rw [htl];exact List.perm_append_comm (l₁:=[_])) (by rw [htl];simp;omega) (by rw [htl];simp;omega) rfl fun k'=>?_
   rw [show (R++_).length=i+1 by rw [List.length_append,htl];rfl]
   refine W02 ?_
   refine du (L':=tok k' 56 6 (i+1)) (List.sublist_append_left _ _) ?_
   exact aD (i+1,k') rfl ⟨by dsimp only;rw [hts];rfl,by rw [Ov];rfl,trivial⟩ hil2 (by dsimp only;omega) (fun _ _ h=>h)
 ·have hil2:i=(dq rs).length:=by have:=Ox h;omega
  subst hil2
  rw [List.take_of_length_le (Nat.le_of_eq hsl)]
  clear h
  refine W01 ?_
  refine b7 (bq (t:=4) (c':= .imm 6 ((cC f rs).map dw)) rfl fun σ v h=>h.im) ?_
  refine du (List.nil_sublist _) ?_
  exact OL NZ
set_option maxRecDepth 8000
def pt (out:List Int) (x:Int):Nat:=(out.takeWhile fun y=>decide (y < x)).length
def oN (out:List Int) (x:Int):List Int:=if out[pt out x]?=some x then out else out.take (pt out x)++x::out.drop (pt out x)
def vg (l:List Int):List Int:=l.foldl oN []
theorem Dv (out:List Int) (x:Int):pt out x≤out.length:=(List.takeWhile_sublist _).length_le
theorem xp {x:Int}:∀{out:List Int} {n:Nat},n≤out.length→(∀i,i < n→out.getD i 0 < x)→(n < out.length→¬out.getD n 0 < x)→pt out x=n
 | [],n,h,_,_=>by simp at h;subst h;rfl
 | y::r,0,h,h1,h2=>by
  have:=h2 (by simp)
  unfold pt
  rw [List.takeWhile_cons,decide_eq_false (by simpa using this)]
  rfl
 | y::r,n+1,h,h1,h2=>by
  have hy:y < x:=by simpa using h1 0 (by omega)
  have:=xp (out:=r) (n:=n) (x:=x) (by simpa using h) (fun i hi=>by simpa using h1 (i+1) (by omega)) (fun hn=>by simpa using h2 (by simpa using hn))
  unfold pt at this ⊢
  rw [List.takeWhile_cons,decide_eq_true hy]
  simp [this]
theorem Es (out:List Int) (x:Int):(oN out x).length≤out.length+1:=by
 unfold oN
 split
 ·omega
 ·rw [List.length_append,List.length_cons,List.length_take,List.length_drop]
  have:=Dv out x
  omega
theorem Aa (l:List Int):(vg l).length≤l.length:=by
 have:∀(l out:List Int),(l.foldl oN out).length≤out.length+l.length:=by
  intro l
  induction l with
  | nil=>intro out;simp
  | cons x r ih=>
   intro out
   rw [List.foldl_cons]
   have h1:=ih (oN out x)
   have h2:=Es out x
   rw [List.length_cons]
   omega
 simpa [vg] using this l []
theorem F6 (l:List Int) {i:Nat} {x:Int} (h:l[i]?=some x):vg (l.take (i+1))=oN (vg (l.take i)) x:=by
 unfold vg
 rw [List.take_add_one,h,List.foldl_append]
 rfl
set_option maxHeartbeats 4000000 in
theorem wu (l:List Int) (hl:l.length≤1000000):bH Tryz.prog 31 [.imm 1 (aL l)] (.imm 1 (aL (vg l))):=by
 refine aQ Tryz.func31 rfl Tryz.ntmps31 rfl fun B=>?_
 have hil:=aP l
 repeat' (first|refine O1 ?_|refine ak ?_|refine OE a7 KN ?_|refine jb (n:=0) a7 fun _=>?_|fail)
 refine bM (bq (t:=3) (c':= .imm 1 (aL [])) rfl fun σ v h=>h.im) ?_
 refine bM (bS (L':=[]) (List.nil_sublist _)) ?_
 refine aJ [0] (α:=Nat) (fun i=>[(3,.imm 1 (aL (vg (l.take i)))),(4,aG i)]) (fun i=>i≤l.length) (fun _=>[]) (fun i=>l.length - i) 0 rfl ⟨rfl,rfl,trivial⟩ (Nat.zero_le _) (fun _ _ h=>h) fun i hi=>?_
 try dsimp only [Oq,Oo,Om,Oh]
 refine W01 ?_
 refine aw rfl (fun h=>?_) (fun h=>?_)
 ·have hil2:i < l.length:=by have:=Oy h;omega
  obtain ⟨x,hx⟩:∃x,l[i]?=some x:=⟨_,Oz hil2⟩
  have hxg:=bD hx
  have hsucc:=F6 l hx
  have hol:=Aa (l.take i)
  rw [List.length_take] at hol
  clear h
  generalize vg (l.take i)=out at *
  have hoi:=aP out
  repeat' (first|refine O1 ?_|fail)
  refine ak ?_
  refine W01 ?_
  refine iu (α:=Unit) [0,3,4,5] (fun _=>[(0,.imm 1 (aL l)),(3,.imm 1 (aL out)),(4,aG i),(5,aG (pt out x))]) (fun _=>[]) (fun _=>True) (fun Q' K=>?_) (fun _ _=>?_)
  ·refine ak ?_
   refine aJ [0,3,4] (α:=Nat) (fun n=>[(5,aG n)]) (fun n=>n≤out.length∧∀k,k < n→out.getD k 0 < x) (fun _=>[]) (fun n=>out.length - n) 0 rfl ⟨rfl,trivial⟩ ⟨Nat.zero_le _,fun k hk=>by omega⟩ (fun _ _ h=>h) fun n hn=>?_
   obtain ⟨hn1,hn2⟩:=hn
   try dsimp only [Oq,Oo,Om,Oh]
   rcases Nat.lt_or_ge n out.length with hlt | hge
   ·obtain ⟨y,hy⟩:∃y,out[n]?=some y:=⟨_,Oz hlt⟩
    have hyg:=bD hy
    have hyd:out.getD n 0=y:=by rw [List.getD_eq_getElem?_getD,hy];rfl
    repeat' (first|refine O1 ?_|fail)
    refine bk 13 [(0,.v),(1,.v),(2,.v),(3,.v),(4,.v),(5,.v),(6,.v),(7,.v),(8,.v),(9,.v),(10,.v),(11,.v),(12,.v)] none ?_ trivial rfl (by kernel_rfl) (by kernel_rfl) (by kernel_rfl) mixed (by kernel_rfl) rfl
    refine W06 ?_
    rw [decide_eq_true (show ((n:Nat):Int) < (((aL out).length:Nat):Int) by omega)]
    refine W0l ?_
    refine OO [0,3,4,5,18,22,26] KN ?_
    refine W1p ?_
    refine aw rfl (fun h=>?_) (fun h=>?_)
    ·have hyx:y < x:=Oy h
     clear h
     refine W0c ?_
     refine aD (n+1) rfl ⟨by rw [Ov];rfl,trivial⟩ ⟨hlt,fun k hk=>?_⟩ (by omega) (fun _ _ h=>h)
     rcases Nat.lt_or_eq_of_le (Nat.le_of_lt_succ hk) with h1 | rfl
     ·exact hn2 k h1
     ·rw [hyd];exact hyx
    ·have hyx:¬y < x:=Ox h
     clear h
     have hat:pt out x=n:=xp hn1 hn2 fun _=>by rw [hyd];exact hyx
     rw [hat] at K
     repeat' (first|refine O1 ?_|fail)
     exact K () _ trivial rfl
   ·have hne:n=out.length:=by omega
    have hat:pt out x=n:=xp hn1 hn2 fun h=>by omega
    rw [hat] at K
    repeat' (first|refine O1 ?_|fail)
    refine bk 13 [(0,.v),(1,.v),(2,.v),(3,.v),(4,.v),(5,.v),(6,.v),(7,.v),(8,.v),(9,.v),(10,.v),(11,.v),(12,.v)] none ?_ trivial rfl (by kernel_rfl) (by kernel_rfl) (by kernel_rfl) mixed (by kernel_rfl) rfl
    refine W06 ?_
    rw [decide_eq_false (show ¬((n:Nat):Int) < (((aL out).length:Nat):Int) by omega)]
    refine W1a ?_
    refine OO [0,3,4,5,18,22,26] KN ?_
    repeat' (first|refine O1 ?_|refine aa ?_|refine OE a7 KN ?_|refine OP OA ?_|refine bj rfl ?_)
    exact K () _ trivial rfl
  have hal:=Dv out x
  have hins:oN out x=if out[pt out x]?=some x then out else out.take (pt out x)++x::out.drop (pt out x):=rfl
  generalize pt out x=n at *
  refine ah ?_
  refine ah ?_
  refine iu (α:=Unit) [0,3,4,5,45] (fun _=>[(0,.imm 1 (aL l)),(3,.imm 1 (aL out)),(4,aG i),(5,aG n),(45,cU (decide (out[n]?=some x)))]) (fun _=>[]) (fun _=>True) (fun Q' K=>?_) (fun _ _=>?_)
  ·rcases Nat.lt_or_ge n out.length with hlt | hge
   ·obtain ⟨y,hy⟩:∃y,out[n]?=some y:=⟨_,Oz hlt⟩
    have hyg:=bD hy
    rw [show decide (out[n]?=some x)=decide (y=x) by rw [hy];simp] at K
    repeat' (first|fail)
    refine bk 13 [(0,.v),(1,.v),(2,.v),(3,.v),(4,.v),(5,.v),(6,.v),(7,.v),(8,.v),(9,.v),(10,.v),(11,.v),(12,.v)] none ?_ trivial rfl (by kernel_rfl) (by kernel_rfl) (by kernel_rfl) mixed (by kernel_rfl) rfl
    refine W06 ?_
    rw [decide_eq_true (show ((n:Nat):Int) < (((aL out).length:Nat):Int) by omega)]
    refine W0l ?_
    refine OO [0,3,4,5,35,39,43] KN ?_
    refine W1p ?_
    exact K () _ trivial rfl
   ·rw [decide_eq_false (show ¬out[n]?=some x by rw [List.getElem?_eq_none hge];simp)] at K
    repeat' (first|fail)
    refine bk 13 [(0,.v),(1,.v),(2,.v),(3,.v),(4,.v),(5,.v),(6,.v),(7,.v),(8,.v),(9,.v),(10,.v),(11,.v),(12,.v)] none ?_ trivial rfl (by kernel_rfl) (by kernel_rfl) (by kernel_rfl) mixed (by kernel_rfl) rfl
    refine W06 ?_
    rw [decide_eq_false (show ¬((n:Nat):Int) < (((aL out).length:Nat):Int) by omega)]
    refine W1a ?_
    refine OO [0,3,4,5,35,39,43] KN ?_
    repeat' (first|refine O1 ?_|refine aa ?_|refine OE a7 KN ?_|refine OP OA ?_)
    exact K () _ trivial rfl
  repeat' (first|fail)
  refine aw rfl (fun h=>?_) (fun h=>?_)
  ·rw [if_pos (Oy h)] at hins
   clear h
   refine W02 ?_
   exact aD (i+1) rfl ⟨by rw [hsucc,hins];rfl,by rw [Ov];rfl,trivial⟩ hil2 (by omega) (fun _ _ h=>h)
  ·rw [if_neg (Ox h)] at hins
   clear h
   repeat' (first|refine O1 ?_|fail)
   refine bk 8 [(0,.v),(1,.v),(2,.v),(3,.v),(5,.v),(6,.v),(7,.v),(4,.e)] none ?_ trivial rfl (by kernel_rfl) (by kernel_rfl) (by kernel_rfl) mixed (by kernel_rfl) rfl
   refine W0l ?_
   refine GQ a7 n rfl rfl rfl rfl rfl rfl (by omega) trivial ?_
   rw [show (aL out).drop n=aL (out.drop n) by unfold aL;rw [List.map_drop]]
   repeat' (first|refine aE ?_|fail)
   refine GR a7 rfl rfl rfl rfl rfl rfl rfl trivial fun b2=>?_
   repeat' (first|fail)
   refine OO [0,3,4,5,50,53] KN ?_
   repeat' (first|fail)
   have hdl:(aL (out.drop n)).length≤1000000:=by rw [aP,List.length_drop];omega
   have htl:(aL (out.take n)).length≤1000000:=by rw [aP,List.length_take];omega
   refine bA a7 [] rfl rfl rfl rfl (Ok _) (by simp;omega) (by simp;omega) rfl fun k1=>?_
   repeat' (first|refine O1 ?_|refine OE a7 KN ?_|refine jb (d:=55) a7 fun _=>?_|fail)
   refine A6 a7 n rfl rfl rfl rfl rfl rfl (by omega) rfl ?_
   rw [show (aL out).take n=aL (out.take n) by unfold aL;rw [List.map_take]]
   repeat' (first|fail)
   rename_i b3
   refine aX (bS (L':=[(b3,.vec 3 1 0 0)]) (List.Sublist.cons_cons _ (List.nil_sublist _))) ?_
   refine bA a7 [] rfl rfl rfl rfl (Ok _) (by simp;omega) (by simp;omega) rfl fun k2=>?_
   repeat' (first|refine OE a7 KN ?_)
   refine bA a7 [] rfl rfl rfl rfl (by rw [List.append_nil]) (by simp;omega) (by simp;omega) rfl fun k3=>?_
   refine W02 ?_
   refine b7 (bq (t:=3) (c':= .imm 1 (aL (vg (l.take (i+1))))) rfl fun σ v h=>?_) ?_
   ·rw [hsucc,hins,show aL (out.take n++x::out.drop n)=([]++aL (out.take n))++([[aG x]]++aL (out.drop n)) by simp [aL]]
    exact h.im
   refine du (List.nil_sublist _) ?_
   exact aD (i+1) rfl ⟨rfl,by rw [Ov];rfl,trivial⟩ hil2 (by omega) (fun _ _ h=>h)
 ·have hil2:i=l.length:=by have:=Ox h;omega
  subst hil2
  rw [List.take_length]
  clear h
  refine W01 ?_
  exact OL NZ
set_option maxRecDepth 8000
def iF (want:List ByteArray) (fs:List bz):List Int:=(fs.map fun t=>if gq want t.Name then t.Lookups else []).flatten
def ip (want:List ByteArray) (fs:List bz) (l:Int):List Int:=(fs.map fun t=>if gq want t.Name && t.Lookups.contains l then [cT t.Name] else []).flatten
def mo (want:List ByteArray) (fs:List bz) (l:Int):Bool:=(ip want fs l).contains 0
def gm (want:List ByteArray) (fs:List bz) (l:Int):List Int:=vg (if mo want fs l then [] else ip want fs l)
theorem AS {want:List ByteArray} {fs:List bz} {i:Nat} {t:bz} (h:fs[i]?=some t):iF want (fs.take (i+1))=iF want (fs.take i)++if gq want t.Name then t.Lookups else []:=by
 unfold iF
 rw [List.take_add_one,h,List.map_append,List.flatten_append]
 simp
theorem yq {want:List ByteArray} {fs:List bz} {i:Nat} {t:bz} {l:Int} (h:fs[i]?=some t):ip want (fs.take (i+1)) l=ip want (fs.take i) l++if gq want t.Name && t.Lookups.contains l then [cT t.Name] else []:=by
 unfold ip
 rw [List.take_add_one,h,List.map_append,List.flatten_append]
 simp
theorem Gt (want:List ByteArray) (fs:List bz) (i:Nat):(iF want (fs.take i)).length≤(iF want fs).length:=by
 conv=>rhs;rw [←List.take_append_drop i fs]
 unfold iF
 rw [List.map_append,List.flatten_append,List.length_append]
 omega
theorem oS (want:List ByteArray) (l:Int):∀fs:List bz,(ip want fs l).length≤fs.length
 | []=>Nat.le_refl _
 | t::r=>by
  have:=oS want l r
  unfold ip at this ⊢
  rw [Om,List.flatten_cons,List.length_append,List.length_cons]
  split
  ·simp only [List.length_singleton];omega
  ·simp only [List.length_nil];omega
def Ad (f:aY) (want:List ByteArray):AV:= .agg [.imm 1 (aL (vg (iF want f.Features))),.imm 1 (aZ ((vg (iF want f.Features)).map (gm want f.Features)))]
abbrev G8 (rb:Nat):Nat×AB:=(rb,.box [.sc (.slice none 0 0),.sc (.slice none 0 0)] 43)
set_option maxHeartbeats 16000000 in
theorem Cg (f:aY) (want:List ByteArray) (hF:f.Features.length≤1000000) (hp:(iF want f.Features).length≤1000000):bH Tryz.prog 11 [cR f,.imm 1 (fK want)] (Ad f want):=by
 refine aQ Tryz.func11 rfl Tryz.ntmps11 rfl fun B=>?_
 have hfl:(f.Features.map bI).length=f.Features.length:=Ou ..
 repeat' (first|refine O1 ?_|refine ak ?_|refine OE a7 KN ?_|refine br ?_|refine bi a7 fun _=>?_|refine jb (n:=0) a7 fun _=>?_|fail)
 rename_i rb ab
 refine aJ [1,2,4] (α:=Nat×Option (Nat×Nat)) (fun s=>[(5,.vec s.2 1 (aL (iF want (f.Features.take s.1)))),(6,aG s.1)]) (fun s=>s.1≤f.Features.length) (fun s=>tok s.2 3 1 (iF want (f.Features.take s.1)).length++[G8 rb]) (fun s=>f.Features.length - s.1) (0,some (ab,0)) rfl ⟨rfl,rfl,trivial⟩ (Nat.zero_le _) (fun _ _ h=>h) ?_
 rintro ⟨i,k⟩ hi
 dsimp only at hi ⊢
 try dsimp only [Oq,Oo,Om,Oh]
 refine W01 ?_
 refine aw rfl (fun h=>?_) (fun h=>?_)
 ·have hil:i < f.Features.length:=by have:=Oy h;omega
  obtain ⟨t,ht⟩:∃z,f.Features[i]?=some z:=⟨_,Oz hil⟩
  have htg:=c7 (c:=bI) ht
  have hsucc:=AS (want:=want) ht
  have hle:=Gt want f.Features (i+1)
  have hal:=aP (iF want (f.Features.take i))
  have hll:=aP t.Lookups
  clear h
  generalize iF want (f.Features.take i)=ls at *
  refine W0x ?_
  refine aw rfl (fun h=>?_) (fun h=>?_)
  ·rw [if_pos h] at hsucc
   rw [hsucc,List.length_append] at hle
   clear h
   refine W0o ?_
   refine bA a7 [G8 rb] rfl rfl rfl rfl (by rw [hal]) (by omega) (by omega) rfl fun k'=>?_
   rw [ny,←hsucc]
   refine W02 ?_
   exact aD (i+1,k') rfl ⟨rfl,by rw [Ov];rfl,trivial⟩ hil (by dsimp only;omega) (fun _ _ h=>by rw [aP] at h;exact h)
  ·rw [if_neg (by rw [h];simp),List.append_nil] at hsucc
   clear h
   refine W02 ?_
   exact aD (i+1,k) rfl ⟨by dsimp only;rw [hsucc];rfl,by rw [Ov];rfl,trivial⟩ hil (by dsimp only;omega) (fun _ _ h=>by dsimp only;rw [hsucc];exact h)
 have hil:i=f.Features.length:=by have:=Ox h;omega
 subst hil
 rw [List.take_length]
 clear h
 haveI i0:=AD.mk (wu (iF want f.Features) hp)
 have hol:=Aa (iF want f.Features)
 refine bM (bq (t:=5) (c':= .imm 1 (aL (iF want f.Features))) rfl fun σ v h=>h.im) ?_
 refine bM (bS (L':=[G8 rb]) (List.sublist_append_right _ _)) ?_
 unfold Ad
 generalize vg (iF want f.Features)=L at *
 have hLi:=aP L
 repeat' (first|refine O1 ?_|refine ak ?_|refine OE a7 KN ?_|(apply aO;first|refine OG 12 a7 0 OD ?_|refine OG 12 a7 1 OD ?_|refine OG 12 a7 2 OD ?_|refine OF a7 0 OC ?_|refine OF a7 1 OC ?_|refine OF a7 2 OC ?_|refine OF a7 3 OC ?_|fail)|refine bi a7 fun _=>?_|(apply bg;refine b9 ?_)|fail)
 refine bM (bB 0 (cs':=[.imm 1 (aL L),.vec none 1 []]) rfl fun σ vs h=>l8.vrs ?_ h) ?_
 ·exact ⟨d5.refl _,fun σ v h=>cM 1 h,trivial⟩
 rename_i pb
 refine aJ [1,2,4,7] (α:=Nat×Option (Nat×Nat)) (fun s=>[(8,aG s.1)]) (fun s=>s.1≤L.length) (fun s=>(pb,.box [.imm 1 (aL L),.vec s.2 1 (aZ ((L.take s.1).map (gm want f.Features)))] 43)::(tok s.2 22 1 s.1++[G8 rb])) (fun s=>L.length - s.1) (0,none) rfl ⟨rfl,trivial⟩ (Nat.zero_le _) (fun _ _ h=>h) ?_
 rintro ⟨j,kf⟩ hj
 dsimp only at hj ⊢
 try dsimp only [Oq,Oo,Om,Oh]
 refine W05 ?_
 refine aw rfl (fun h=>?_) (fun h=>?_)
 ·have hjl:j < L.length:=by have:=Oy h;omega
  obtain ⟨z,hz⟩:∃z,L[j]?=some z:=⟨_,Oz hjl⟩
  have hzg:=bD hz
  have hsucc:(L.take (j+1)).map (gm want f.Features)=(L.take j).map (gm want f.Features)++[gm want f.Features z]:=by rw [List.take_add_one,hz,List.map_append];rfl
  have hrl:(aZ ((L.take j).map (gm want f.Features))).length=j:=by rw [cr,Ou,List.length_take];omega
  clear h
  generalize (L.take j).map (gm want f.Features)=R at *
  repeat' (first|refine O1 ?_|refine ak ?_|refine OE a7 KN ?_|refine jb (d:=47) a7 fun _=>?_|fail)
  rename_i lb
  refine aJ [1,2,4,7,8] (α:=Nat×Option (Nat×Nat)) (fun s=>[(9,.vec s.2 1 (aL (ip want (f.Features.take s.1) z))),(10,cU (mo want (f.Features.take s.1) z)),(11,aG s.1)]) (fun s=>s.1≤f.Features.length) (fun s=>(pb,.box [.imm 1 (aL L),.vec kf 1 (aZ R)] 43)::(tok s.2 3 1 (ip want (f.Features.take s.1) z).length++(tok kf 22 1 j++[G8 rb]))) (fun s=>f.Features.length - s.1) (0,some (lb,0)) rfl ⟨rfl,rfl,rfl,trivial⟩ (Nat.zero_le _) (fun _ _ h=>h.perm (List.Perm.swap ..)) ?_
  rintro ⟨i,ko⟩ hi2
  dsimp only at hi2 ⊢
  try dsimp only [Oq,Oo,Om,Oh]
  refine W01 ?_
  refine aw rfl (fun h=>?_) (fun h=>?_)
  ·have hil:i < f.Features.length:=by have:=Oy h;omega
   obtain ⟨t,ht⟩:∃z,f.Features[i]?=some z:=⟨_,Oz hil⟩
   have htg:=c7 (c:=bI) ht
   have hs1:=yq (want:=want) (l:=z) ht
   have hs2:mo want (f.Features.take (i+1)) z=(mo want (f.Features.take i) z || ((gq want t.Name && t.Lookups.contains z) && decide (cT t.Name=0))):=by
    unfold mo
    rw [hs1]
    cases gq want t.Name && t.Lookups.contains z <;> simp [eq_comm]
   have hle:=oS want z (f.Features.take i)
   rw [List.length_take] at hle
   have hoi:=aP (ip want (f.Features.take i) z)
   clear h
   generalize ip want (f.Features.take i) z=os at *
   generalize mo want (f.Features.take i) z=wz at *
   repeat' (first|refine O1 ?_|refine ak ?_|refine OE a7 KN ?_|(apply aV;first|refine aU a7 ?_|refine aN a7 ?_)|(apply aO;first|refine OG 12 a7 0 OD ?_|refine OG 12 a7 1 OD ?_|refine OG 12 a7 2 OD ?_|refine OF a7 0 OC ?_|refine OF a7 1 OC ?_|refine OF a7 2 OC ?_|refine OF a7 3 OC ?_|fail)|refine bi a7 fun _=>?_|fail)
   cases hw:gq want t.Name with
   | false=>
    rw [hw] at hs1 hs2
    simp only [Bool.false_and,Bool.false_eq_true,if_false,List.append_nil,Bool.or_false] at hs1 hs2
    refine bk 12 [(0,.v),(1,.v),(2,.v),(3,.v),(4,.v),(5,.v),(6,.v),(7,.v),(8,.l),(9,.v),(10,.v),(11,.v)] none ?_ trivial rfl (by kernel_rfl) (by kernel_rfl) (by kernel_rfl) mixed (by kernel_rfl) rfl
    refine W0j ?_
    rw [hw]
    refine W1a ?_
    refine JW rfl rfl ?_
    refine W1a ?_
    refine OO [1,2,4,7,8,9,10,11,12,64,66,71] KN ?_
    repeat' (first|refine O1 ?_|refine aa ?_|refine OE a7 KN ?_|refine OP OA ?_|(apply aS;refine aR ?_)|refine bj rfl ?_)
    exact aD (i+1,ko) rfl ⟨by dsimp only;rw [hs1];rfl,by dsimp only;rw [hs2];rfl,by rw [Ov];rfl,trivial⟩ hil (by dsimp only;omega) (fun _ _ h=>by dsimp only;rw [hs1];exact h)
   | true=>
    rw [hw] at hs1 hs2
    simp only [Bool.true_and] at hs1 hs2
    refine bk 12 [(0,.v),(1,.v),(2,.v),(3,.v),(4,.v),(5,.v),(6,.v),(7,.v),(8,.l),(9,.v),(10,.v),(11,.v)] none ?_ trivial rfl (by kernel_rfl) (by kernel_rfl) (by kernel_rfl) mixed (by kernel_rfl) rfl
    refine W0j ?_
    rw [hw]
    refine W18 ?_
    refine OO [1,2,4,7,8,9,10,11,12,64,66,71] KN ?_
    refine W1h ?_
    refine aw rfl (fun h=>?_) (fun h=>?_)
    ·have h2:t.Lookups.contains z=true:=h
     rw [h2] at hs1 hs2
     simp only [if_true,Bool.true_and] at hs1 hs2
     clear h
     refine W0G ?_
     refine bA a7 ((pb,.box [.imm 1 (aL L),.vec kf 1 (aZ R)] 43)::(tok kf 22 1 j++[G8 rb])) rfl rfl rfl rfl (by rw [hoi];exact List.perm_middle.symm) (by simp only [List.length_singleton];omega) (by simp only [List.length_singleton];omega) rfl fun ko'=>?_
     rw [show aL os++[[AV.sc (.int .i64 (cT t.Name))]]=aL (os++[cT t.Name]) by simp [aL]]
     cases wz with
     | true=>
      rw [Bool.true_or] at hs2
      repeat' (first|refine O1 ?_|refine OE a7 KN ?_|refine OP OA ?_|(apply aS;refine aR ?_)|fail)
      exact aD (i+1,ko') rfl ⟨by dsimp only;rw [hs1];rfl,by dsimp only;rw [hs2];rfl,by rw [Ov];rfl,trivial⟩ hil (by dsimp only;omega) (fun _ _ h=>by dsimp only;rw [hs1];rw [aP] at h;exact h.perm List.perm_middle)
     | false=>
      rw [Bool.false_or] at hs2
      repeat' (first|refine O1 ?_|refine OE a7 KN ?_|refine ON KN ?_|(apply aS;refine aR ?_)|(apply bg;refine b9 ?_)|fail)
      exact aD (i+1,ko') rfl ⟨by dsimp only;rw [hs1];rfl,by dsimp only;rw [hs2];rfl,by rw [Ov];rfl,trivial⟩ hil (by dsimp only;omega) (fun _ _ h=>by dsimp only;rw [hs1];rw [aP] at h;exact h.perm List.perm_middle)
    ·have h2:t.Lookups.contains z=false:=h
     rw [h2] at hs1 hs2
     simp only [Bool.false_eq_true,if_false,List.append_nil,Bool.false_and,Bool.or_false] at hs1 hs2
     clear h
     refine W02 ?_
     exact aD (i+1,ko) rfl ⟨by dsimp only;rw [hs1];rfl,by dsimp only;rw [hs2];rfl,by rw [Ov];rfl,trivial⟩ hil (by dsimp only;omega) (fun _ _ h=>by dsimp only;rw [hs1];exact h)
  ·have hil:i=f.Features.length:=by have:=Ox h;omega
   subst hil
   rw [List.take_length]
   clear h
   have hfd:gm want f.Features z=vg (if mo want f.Features z then [] else ip want f.Features z):=rfl
   have hon:=oS want z f.Features
   generalize ip want f.Features z=os at *
   generalize mo want f.Features z=wz at *
   refine W01 ?_
   refine iu (α:=Unit) [1,2,4,7,8,9] (fun _=>[(1,.imm 1 (fK want)),(2,.iptr (cf f)),(4,.sc (.pointer (some ⟨rb,0,none⟩))),(7,.sc (.pointer (some ⟨pb,0,none⟩))),(8,aG j),(9,.imm 1 (aL (if wz then [] else os)))]) (fun _=>(pb,.box [.imm 1 (aL L),.vec kf 1 (aZ R)] 43)::(tok kf 22 1 j++[G8 rb])) (fun _=>True) (fun Q' K=>?_) (fun _ _=>?_)
   ·refine bM (bq (t:=9) (c':= .imm 1 (aL os)) rfl fun σ v h=>h.im) ?_
    refine bM (bS (L':=(pb,.box [.imm 1 (aL L),.vec kf 1 (aZ R)] 43)::(tok kf 22 1 j++[G8 rb])) (List.Sublist.cons_cons _ (List.sublist_append_right _ _))) ?_
    cases wz with
    | true=>
     refine W0k ?_
     refine b7 (bq (t:=9) (c':= .imm 1 (aL [])) rfl fun σ v h=>dV 1 h) ?_
     exact K () _ trivial rfl
    | false=>
     refine W14 ?_
     exact K () _ trivial rfl
   have hwo:(if wz then [] else os).length≤1000000:=by
    cases wz with
    | true=>exact Nat.zero_le _
    | false=>show os.length≤_;omega
   haveI i1:=AD.mk (wu (if wz then [] else os) hwo)
   rw [←hfd] at i1
   generalize gm want f.Features z=fz at *
   repeat' (first|fail)
   refine bk 5 [(0,.v),(1,.l),(2,.v),(3,.v),(4,.v)] none ?_ trivial rfl (by kernel_rfl) (by kernel_rfl) (by kernel_rfl) mixed (by kernel_rfl) rfl
   repeat' (first|refine aE ?_|refine b6 a7 ?_|(apply cI;refine d8 ?_)|refine ec a7 ?_|refine cW a7 0 rfl rfl rfl rfl (by first|trivial|rfl) ?_)
   refine OO [1,2,4,7,8,89,92] KN ?_
   repeat' (first|fail)
   refine bA a7 ((pb,.box [.imm 1 (aL L),.vec kf 1 (aZ R)] 43)::[G8 rb]) rfl rfl rfl rfl (by rw [hrl];exact List.perm_middle.symm) (by rw [hrl];simp;omega) (by rw [hrl];simp;omega) rfl fun kf'=>?_
   have hst:aZ ((L.take (j+1)).map (gm want f.Features))=aZ R++[[.imm 1 (aL fz)]]:=by rw [hsucc];simp [aZ]
   rw [show (aZ R++_).length=j+1 by rw [List.length_append,hrl];rfl]
   refine aX (aW List.perm_middle) ?_
   repeat' (first|refine O1 ?_|refine OE a7 KN ?_|(apply aS;refine aR ?_)|(apply aO;first|refine OG 12 a7 0 OD ?_|refine OG 12 a7 1 OD ?_|refine OG 12 a7 2 OD ?_|refine OF a7 0 OC ?_|refine OF a7 1 OC ?_|refine OF a7 2 OC ?_|refine OF a7 3 OC ?_|fail))
   exact aD (j+1,kf') rfl ⟨by rw [Ov];rfl,trivial⟩ hjl (by dsimp only;omega) (fun _ _ h=>by dsimp only;rw [hst];exact h)
 ·have hjl:j=L.length:=by have:=Ox h;omega
  subst hjl
  rw [List.take_length]
  clear h
  refine bM (bB 0 (cs':=[.imm 1 (aL L),.imm 1 (aZ (L.map (gm want f.Features)))]) rfl fun σ vs h=>l8.vrs ?_ h) ?_
  ·exact ⟨d5.refl _,fun σ v h=>h.im,trivial⟩
  refine bM (bS (L':=[(pb,.box [.imm 1 (aL L),.imm 1 (aZ (L.map (gm want f.Features)))] 43),G8 rb]) (List.Sublist.cons_cons _ (List.sublist_append_right _ _))) ?_
  repeat' (first|refine O1 ?_|(apply bU;first|refine OH a7 0 OB ?_|refine OH a7 1 OB ?_|refine OH a7 2 OB ?_|refine OH a7 3 OB ?_|refine OJ a7 0 OB ?_|refine OJ a7 1 OB ?_|refine OJ a7 2 OB ?_|refine OM a7 1 NZ (by assumption) rfl ?_|refine OM a7 0 NZ (by assumption) rfl ?_|fail)|(apply aO;first|refine OG 12 a7 0 OD ?_|refine OG 12 a7 1 OD ?_|refine OG 12 a7 2 OD ?_|refine OF a7 0 OC ?_|refine OF a7 1 OC ?_|refine OF a7 2 OC ?_|refine OF a7 3 OC ?_|fail))
  exact zm a7 1 rfl rfl rfl rfl rfl rfl
set_option maxRecDepth 8000
abbrev D4 (l:List Int):Prop:=l.Pairwise (· < ·)
theorem Fs {a b:List Int} (ha:D4 a) (hb:D4 b) (h:∀x,x∈a↔x∈b):a=b:=by
  have na:a.Nodup:=ha.imp fun h=>by omega
  have nb:b.Nodup:=hb.imp fun h=>by omega
  exact List.Perm.eq_of_pairwise (le:=(· < ·)) (fun x y _ _ h1 h2=>by omega) ha hb ((List.perm_ext_iff_of_nodup na nb).2 h)
theorem Jc {x:Int}:∀{out:List Int},D4 out→(∀y∈out.take (pt out x),y < x)∧∀y∈out.drop (pt out x),x≤y
 | [],_=>⟨fun y h=>by simp at h,fun y h=>by simp at h⟩
 | z::r,h=>by
  obtain ⟨h1,h2⟩:=List.pairwise_cons.1 h
  by_cases hz:z < x
  ·have e:pt (z::r) x=pt r x+1:=by
    unfold pt
    rw [List.takeWhile_cons,decide_eq_true hz]
    rfl
   obtain ⟨k1,k2⟩:=Jc (x:=x) h2
   rw [e,List.take_succ_cons,List.drop_succ_cons]
   refine ⟨fun y hy=>?_,k2⟩
   rcases List.mem_cons.1 hy with rfl | hy
   ·exact hz
   ·exact k1 y hy
  ·have e:pt (z::r) x=0:=by
    unfold pt
    rw [List.takeWhile_cons,decide_eq_false hz]
    rfl
   rw [e]
   refine ⟨fun y hy=>by simp at hy,fun y hy=>?_⟩
   rcases List.mem_cons.1 hy with rfl | hy
   ·omega
   ·have:=h1 y hy
    omega
theorem Ht {out:List Int} (h:D4 out) (x:Int):D4 (oN out x)∧∀y,y∈oN out x↔y∈out∨y=x:=by
 obtain ⟨k1,k2⟩:=Jc (x:=x) h
 have hs:=List.take_append_drop (pt out x) out
 unfold oN
 split
 ·rename_i hx
  exact ⟨h,fun y=>⟨.inl,fun hy=>hy.elim id fun e=>by rw [e];exact Ow hx⟩⟩
 ·rename_i hx
  have hd:∀y∈out.drop (pt out x),x < y:=fun y hy=>by
   have h1:=k2 y hy
   by_cases e:x=y
   ·exfalso
    subst e
    obtain ⟨i,hi⟩:=List.mem_iff_getElem?.1 hy
    cases i with
    | zero=>
     rw [List.getElem?_drop,Nat.add_zero] at hi
     exact hx hi
    | succ i=>
     have hlt:=(Ol hi).1
     have h0:(out.drop (pt out x))[0]?=some (out.drop (pt out x))[0]:=Oz (by omega)
     have h2:=k2 _ (Ow h0)
     have hp:D4 (out.drop (pt out x)):=h.sublist (List.drop_sublist ..)
     have h3:=List.pairwise_iff_getElem.1 hp 0 (i+1) (by omega) hlt (by omega)
     rw [(Ol hi).2] at h3
     omega
   ·omega
  refine ⟨List.pairwise_append.2 ⟨h.sublist (List.take_sublist ..),List.pairwise_cons.2 ⟨hd,h.sublist (List.drop_sublist ..)⟩,fun a ha b hb=>?_⟩,fun y=>?_⟩
  ·have:=k1 a ha
   rcases List.mem_cons.1 hb with rfl | hb
   ·exact this
   ·have:=hd b hb
    omega
  ·rw [List.mem_append,List.mem_cons]
   constructor
   ·rintro (h1 | rfl | h1)
    ·exact .inl (List.mem_of_mem_take h1)
    ·exact .inr rfl
    ·exact .inl (List.mem_of_mem_drop h1)
   ·rintro (h1 | rfl)
    ·rw [←hs,List.mem_append] at h1
     exact h1.elim .inl fun h=> .inr (.inr h)
    ·exact .inr (.inl rfl)
theorem F5 (l:List Int):D4 (vg l)∧∀y,y∈vg l↔y∈l:=by
 have:∀(l out:List Int),D4 out→D4 (l.foldl oN out)∧∀y,y∈l.foldl oN out↔y∈out∨y∈l:=by
  intro l
  induction l with
  | nil=>intro out h;exact ⟨h,fun y=>by simp⟩
  | cons x r ih=>
   intro out h
   obtain ⟨h1,h2⟩:=Ht h x
   obtain ⟨h3,h4⟩:=ih _ h1
   rw [List.foldl_cons]
   refine ⟨h3,fun y=>?_⟩
   rw [h4,h2,List.mem_cons,or_assoc]
 obtain ⟨h1,h2⟩:=this l [] List.Pairwise.nil
 exact ⟨h1,fun y=>by rw [show vg l=l.foldl oN [] from rfl,h2];simp⟩
theorem E2:∀ps:List (Int×Int),(CT ps).Nodup∧∀y,y∈CT ps↔iR ps y=true
 | []=>⟨List.nodup_nil,fun y=>by simp [CT,iR]⟩
 | p::r=>by
  obtain ⟨h1,h2⟩:=E2 r
  have hc:∀y,iR (p::r) y=(decide (p.2=y) || iR r y):=fun y=>rfl
  unfold CT
  split
  ·rename_i hp
   refine ⟨h1,fun y=>?_⟩
   rw [h2,hc]
   by_cases e:p.2=y
   ·subst e;simp [hp]
   ·simp [e]
  ·rename_i hp
   refine ⟨List.nodup_append.2 ⟨h1,by simp,fun a ha b hb=>?_⟩,fun y=>?_⟩
   ·rw [Oi hb]
    rintro rfl
    exact hp ((h2 _).1 ha)
   ·rw [List.mem_append,List.mem_singleton,h2,hc]
    by_cases e:p.2=y
    ·subst e;simp
    ·simp [e,show ¬y=p.2 from fun h=>e h.symm]
theorem Fg (want:List ByteArray) (f:aY):D4 (cx want f)∧∀y,y∈cx want f↔iR (bP want f.Features) y=true:=by
 obtain ⟨h1,h2⟩:=E2 (bP want f.Features).reverse
 have hp:=wS (ng (bP want f.Features))
 have hn:(cx want f).Nodup:=(hp.nodup_iff).2 h1
 refine ⟨?_,fun y=>?_⟩
 ·have hle:=CF (ng (bP want f.Features))
  exact List.Pairwise.imp₂ (fun a b h1 h2=>by omega) hle hn
 ·rw [show cx want f=f8 (ng (bP want f.Features)) from rfl,hp.mem_iff,show ng (bP want f.Features)=CT (bP want f.Features).reverse from rfl,h2,vZ]
theorem oT (want:List ByteArray) (fs:List bz) (k l:Int):(k,l)∈bP want fs↔∃t∈fs,gq want t.Name=true∧l∈t.Lookups∧cT t.Name=k:=by
 unfold bP
 rw [List.mem_flatten]
 constructor
 ·rintro ⟨r,hr,hm⟩
  obtain ⟨t,ht,rfl⟩:=List.mem_map.1 hr
  unfold ni at hm
  split at hm
  ·rename_i hw
   obtain ⟨z,hz,he⟩:=List.mem_map.1 hm
   injection he with e1 e2
   subst e2
   exact ⟨t,ht,hw,hz,e1⟩
  ·cases hm
 ·rintro ⟨t,ht,hw,hl,rfl⟩
  refine ⟨_,List.mem_map.2 ⟨t,ht,rfl⟩,?_⟩
  unfold ni
  rw [if_pos hw]
  exact List.mem_map.2 ⟨l,hl,rfl⟩
theorem Hq (want:List ByteArray) (fs:List bz) (l:Int):iR (bP want fs) l=true↔∃t∈fs,gq want t.Name=true∧l∈t.Lookups:=by
 unfold iR
 rw [List.any_eq_true]
 constructor
 ·rintro ⟨⟨k,m⟩,hp,he⟩
  have e:m=l:=Oy he
  subst e
  obtain ⟨t,h1,h2,h3,_⟩:=(oT ..).1 hp
  exact ⟨t,h1,h2,h3⟩
 ·rintro ⟨t,h1,h2,h3⟩
  exact ⟨(cT t.Name,l),(oT ..).2 ⟨t,h1,h2,h3,rfl⟩,by simp⟩
theorem mF (want:List ByteArray) (fs:List bz) (k l:Int):dR (bP want fs) k l=true↔∃t∈fs,gq want t.Name=true∧l∈t.Lookups∧cT t.Name=k:=by
 rw [←oT]
 unfold dR
 rw [List.any_eq_true]
 exact ⟨fun ⟨p,hp,he⟩=>by rw [←Oy he];exact hp,fun h=>⟨_,h,by simp⟩⟩
theorem Gu (want:List ByteArray) (fs:List bz) (l:Int):l∈iF want fs↔∃t∈fs,gq want t.Name=true∧l∈t.Lookups:=by
 unfold iF
 rw [List.mem_flatten]
 constructor
 ·rintro ⟨r,hr,hm⟩
  obtain ⟨t,ht,rfl⟩:=List.mem_map.1 hr
  split at hm
  ·rename_i hw
   exact ⟨t,ht,hw,hm⟩
  ·cases hm
 ·rintro ⟨t,ht,hw,hl⟩
  exact ⟨_,List.mem_map.2 ⟨t,ht,rfl⟩,by rw [if_pos hw];exact hl⟩
theorem ww (want:List ByteArray) (fs:List bz) (l k:Int):k∈ip want fs l↔∃t∈fs,gq want t.Name=true∧l∈t.Lookups∧cT t.Name=k:=by
 unfold ip
 rw [List.mem_flatten]
 constructor
 ·rintro ⟨r,hr,hm⟩
  obtain ⟨t,ht,rfl⟩:=List.mem_map.1 hr
  split at hm
  ·rename_i hw
   rw [Bool.and_eq_true] at hw
   exact ⟨t,ht,hw.1,by simpa using hw.2,(Oi hm).symm⟩
  ·cases hm
 ·rintro ⟨t,ht,hw,hl,rfl⟩
  exact ⟨_,List.mem_map.2 ⟨t,ht,rfl⟩,by rw [if_pos (by rw [hw];simpa using hl)];exact List.mem_singleton.2 rfl⟩
theorem Kq (want:List ByteArray) (f:aY):vg (iF want f.Features)=cx want f:=by
 obtain ⟨h1,h2⟩:=F5 (iF want f.Features)
 obtain ⟨h3,h4⟩:=Fg want f
 refine Fs h1 h3 fun x=>?_
 rw [h2,h4,Gu,Hq]
theorem HV (bs:List Bool) (n:Nat):D4 (eK bs n)∧∀x:Int,x∈eK bs n↔∃k:Nat,k < n∧bs.getD k false=true∧bs.getD 0 false=false∧(k:Int)=x:=by
 unfold eK
 refine ⟨?_,fun x=>?_⟩
 ·refine List.Pairwise.map _ (fun a b (h:a < b)=>by omega) (List.Pairwise.filter _ (List.pairwise_lt_range ..))
 ·rw [List.mem_map]
  constructor
  ·rintro ⟨k,hk,rfl⟩
   rw [List.mem_filter,List.mem_range,Bool.and_eq_true] at hk
   exact ⟨k,hk.1,hk.2.1,by simpa using hk.2.2,rfl⟩
  ·rintro ⟨k,h1,h2,h3,rfl⟩
   exact ⟨k,by rw [List.mem_filter,List.mem_range,h2,h3];exact ⟨h1,rfl⟩,rfl⟩
theorem Hj (want:List ByteArray) (fs:List bz) (l:Int):gm want fs l=eK (jR (bP want fs) l) 5:=by
 have hz:mo want fs l=dR (bP want fs) 0 l:=by
  unfold mo
  rw [Bool.eq_iff_iff,List.contains_iff_mem,ww,mF]
 obtain ⟨h1,h2⟩:=HV (jR (bP want fs) l) 5
 unfold gm
 rw [hz]
 have h0:(jR (bP want fs) l).getD 0 false=dR (bP want fs) 0 l:=rfl
 cases hm:dR (bP want fs) 0 l with
 | true=>
  rw [if_pos rfl]
  refine Fs List.Pairwise.nil h1 fun x=>?_
  rw [h2]
  refine ⟨(fun h=>by cases h),fun h=>?_⟩
  obtain ⟨k,_,_,h,_⟩:=h
  rw [h0,hm] at h
  cases h
 | false=>
  rw [if_neg (by simp)]
  obtain ⟨h3,h4⟩:=F5 (ip want fs l)
  refine Fs h3 h1 fun x=>?_
  rw [h4,ww,←mF,h2]
  constructor
  ·intro h
   obtain ⟨t,_,_,_,he⟩:=(mF ..).1 h
   have hb:=rt t.Name
   rw [he] at hb
   refine ⟨x.toNat,by omega,?_,by rw [h0];exact hm,by omega⟩
   have:x=0∨x=1∨x=2∨x=3∨x=4:=by omega
   rcases this with rfl | rfl | rfl | rfl | rfl <;> exact h
  ·rintro ⟨k,hk,hb,_,rfl⟩
   have:k=0∨k=1∨k=2∨k=3∨k=4:=by omega
   rcases this with rfl | rfl | rfl | rfl | rfl <;> exact hb
theorem Ci (f:aY) (want:List ByteArray):Ad f want= .agg [.imm 1 (aL (cx want f)),.imm 1 (aZ (fw want f))]:=by
 unfold Ad fw
 rw [Kq]
 rw [List.map_congr_left fun l _=>Hj want f.Features l]
end Go.Proofs.YtamjlkdanllgjaaGreatDoor
