/-
  The order in which runes are shown.
-/
import Derived.Test.YtamjlkdanllgjaaGreatDoorM25
import Derived.Test.YtamjlkdanllgjaaGreatDoorM17
import Derived.Test.YtamjlkdanllgjaaGreatDoorM06
import Derived.Test.YtamjlkdanllgjaaGreatDoorM11
import Derived.Test.YtamjlkdanllgjaaGreatDoorM12
import Derived.Test.YtamjlkdanllgjaaGreatDoorM05
import Derived.Test.YtamjlkdanllgjaaGreatDoorM13
namespace Go.Proofs.YtamjlkdanllgjaaGreatDoor
open Go.RowKit
attribute [local irreducible] AT bB AX AO Av Kt ba dt DA cz
set_option maxRecDepth 8000
def rV (rs:List Int):Prop:=∀g∈dC rs,E8 rs g≤20
theorem CP (rs:List Int) (g:Nat×Nat):E8 rs g≤g.2 - g.1:=by unfold E8;split <;> omega
theorem nP {rs:List Int} (h:rs.length≤20):rV rs:=fun g hg=>by
 have:=CP rs g
 have:=my (gh rs) g hg
 omega
theorem vg (rs:List Int):E8 rs (0,0)≤20:=by have:=CP rs (0,0);dsimp only at this;omega
abbrev JK:=List AV×List Nat×(Nat×Nat)
def Fv (gb sb b n:Nat) (x:JK):AL:=(sb,.box [aH x.2.2.1,aH x.2.2.2] 103)::(gb,.box [.sc (.slice (some ⟨b,0,none⟩) x.2.1.length n)] 22)::[(b,.box x.1 3)]
theorem Aa (o:List Nat):di o=(aO (o.map fun (n:Nat)=>(n:Int))).flatten:=by
 rw [←qQ,List.map_map]
 rfl
section
variable {nt:Nat} {D:List Deferred} {fr:bY} {B:Bs} {L:AL}
theorem G3 {t b:Nat} {e:TypeId} {o:List Nat} {cs:List AV} (i:Nat) (hl:c8 fr t=some (.sc (.slice (some ⟨b,0,none⟩) o.length cs.length))) (hL:L[i]?=some (b,.box cs e)) (h:pC o cs) (hm:cs.length≤maxLen):lR nt D B fr L ((t,.imm 1 (aO (o.map fun (n:Nat)=>(n:Int))))::fr) (L.eraseIdx i):=by
 refine cW i hl hL (by rw [Nat.mul_one,h.1,Aa]) (by rw [Nat.mul_one];exact h.2) (fun q hq=>?_) (by rw [aW,Lr]) h.2 hm
 obtain ⟨z,_,rfl⟩:=List.mem_map.1 hq
 rfl
end
def mF (rs:List Int) (k:Nat):List Nat×(Nat×Nat):=((dC rs).take k).foldl (oW rs) ([],(0,0))
theorem qx {rs:List Int} {k:Nat} {g:Nat×Nat} (h:(dC rs)[k]?=some g):mF rs (k+1)=oW rs (mF rs k) g:=by
 unfold mF
 rw [List.take_add_one,h,List.foldl_append]
 rfl
theorem zH (rs:List Int):mF rs (dC rs).length=(dC rs).foldl (oW rs) ([],(0,0)):=by unfold mF;rw [List.take_length]
theorem nJ {rs:List Int}:∀k,k≤(dC rs).length→∃a,a≤rs.length∧ui rs.length a (mF rs k)∧GJ a ((dC rs).drop k) rs.length
 | 0,_=>⟨0,Nat.zero_le _,⟨Nat.le_refl _,rfl,(fun x hx=>by cases hx),Nat.zero_le _⟩,by rw [List.drop_zero];exact gh rs⟩
 | k+1,h=>by
  obtain ⟨a,h1,h2,h3⟩:=nJ (rs:=rs) k (by omega)
  have hk:k < (dC rs).length:=by omega
  have hg:(dC rs)[k]?=some (dC rs)[k]:=Lz hk
  rw [List.drop_eq_getElem_cons hk] at h3
  obtain ⟨k1,k2,k3⟩:=h3
  have hm:=my (gh rs) _ (List.getElem_mem hk)
  exact ⟨_,hm.2.2,by rw [qx hg];exact yK h2 k1 k2 hm.2.2,k3⟩
set_option maxHeartbeats 8000000 in
theorem sK (rs:List Int) (hr:rs.length≤1000000) (h20:rV rs):bH Tryz.prog 20 [.imm 1 (aO rs)] (.imm 1 (aO ((dI rs).map fun (n:Nat)=>(n:Int)))):=by
 refine pG Tryz.func20 rfl Tryz.ntmps20 rfl fun B=>?_
 have hil:=aW rs
 repeat' (first|refine ae ?_|refine a6 ?_|refine a8 ?_|refine aa ?_|refine LF a7 I9 ?_|refine bo ?_|fail)
 refine vl a7 rs.length rfl rfl rfl rfl rfl (by rw [hil]) (by omega) (by omega) rfl fun b0=>?_
 repeat' (first|refine ae ?_|refine a6 ?_|refine am ?_|refine a8 ?_|refine aa ?_|refine LF a7 I9 ?_|(apply aK;first|refine LH 5 a7 0 LE ?_|refine LH 5 a7 1 LE ?_|refine LH 5 a7 2 LE ?_|refine LG a7 0 LD ?_|refine LG a7 1 LD ?_|refine LG a7 2 LD ?_|refine LG a7 3 LD ?_|fail)|refine bg a7 fun _=>?_|(apply bw;refine bi ?_)|fail)
 rename_i gb sb
 have hz:(List.replicate rs.length (([Value.int .i64 0]:List Value).map AV.sc)).flatten.length=rs.length:=by simp
 refine mr (fr':=[(12,.fn 64 [.iptr [.imm 1 (aO rs)]]),(1,.iptr [.imm 1 (aO rs)]),(3,.sc (.pointer (some ⟨gb,0,none⟩))),(4,.sc (.pointer (some ⟨sb,0,none⟩)))]) (L':=Fv gb sb b0 rs.length ((List.replicate rs.length (([Value.int .i64 0]:List Value).map AV.sc)).flatten,[],(0,0))) ⟨rfl,rfl,rfl,rfl,trivial⟩ (fun _ _ h=>h) ?_
 refine pR (ps:=[13]) rfl fun σ0 l db rec hrec=>?_
 have hy:∀(k:Nat) (x:JK) (g:Nat×Nat),(x.2=mF rs k∧pC x.2.1 x.1∧x.1.length=rs.length∧E8 rs x.2.2≤20)→(dC rs)[k]?=some g→AY Tryz.prog σ0 l [.agg [aH g.1,aH g.2]] (Fv gb sb b0 rs.length x++[(db,nE)]++[(l,ky rec)]) fun c L=>c=cQ true∧∃x':JK,(x'.2=mF rs (k+1)∧pC x'.2.1 x'.1∧x'.1.length=rs.length∧E8 rs x'.2.2≤20)∧L=Fv gb sb b0 rs.length x'++[(db,nE)]++[(l,ky rec)]:=by
  rintro k ⟨cs,o,s⟩ g ⟨hf,hP,hcl,hm⟩ hk
  dsimp only at hf hP hcl hm ⊢
  have hgm:=Lv hk
  obtain ⟨-,hg1,hg2⟩:=my (gh rs) g hgm
  have hkl:=(Lm hk).1
  obtain ⟨a,ha1,ha2,ha3⟩:=nJ (rs:=rs) k (by omega)
  rw [←hf] at ha2
  have hlen:=ha2.len
  dsimp only at hlen
  have hs1:s.1≤s.2:=ha2.le
  have hs2:s.2≤rs.length:=ha2.top
  have hga:g.1=a:=by
   rw [List.drop_eq_getElem_cons hkl] at ha3
   rw [Lz hkl] at hk
   rw [←Option.some.inj hk]
   exact ha3.1
  have hrun:=bO (eC (show g.1 < rs.length by omega))
  refine BO hrec rfl rfl fun B1 hB1=>?_
  repeat' (first|refine a6 ?_|refine aa ?_|(apply aK;first|refine LH 5 a7 0 LE ?_|refine LH 5 a7 1 LE ?_|refine LH 5 a7 2 LE ?_|refine LG a7 0 LD ?_|refine LG a7 1 LD ?_|refine LG a7 2 LD ?_|refine LG a7 3 LD ?_|fail)|refine bg a7 fun _=>?_|fail)
  refine pS hrec.state ?_
  unfold Fv
  dsimp only
  simp only [Lp,Lo]
  repeat' (first|refine ae ?_|refine a6 ?_|refine am ?_|refine a8 ?_|refine aa ?_|refine LF a7 I9 ?_|(apply aU;first|refine aT a7 ?_|refine aN a7 ?_)|(apply bw;refine bi ?_)|fail)
  have hst:=qx hk
  rw [←hf] at hst
  unfold oW at hst
  dsimp only at hst
  have hgs:∀(cs1:List AV) (o1:List Nat),pC o1 cs1→cs1.length=rs.length→o1.length≤a→AC Tryz.prog 41 [.sc (.slice (some ⟨b0,0,none⟩) o1.length rs.length),.imm 1 (aO rs),.agg [aH g.1,aH g.2]] [(b0,.box cs1 3)] (DG b0 rs.length (o1++cP rs g)):=fun cs1 o1 h1 h2 h3=>by
   have:=u7 rs b0 cs1 o1 g (by omega) hg2 (h20 g hgm) h1 (by omega) (by omega) hr
   rwa [h2] at this
  have hss:=u7 rs b0 cs o s hs1 hs2 hm hP (by omega) (by omega) hr
  rw [hcl] at hss
  have hol1:(o++cP rs s).length≤a:=by
   rw [List.length_append,eM]
   omega
  refine ay rfl (fun h=>?_) (fun h=>?_)
  ·have h5:d3 (rs.getD g.1 0)≠5:=Ly h
   simp only [if_neg h5] at hst
   clear h
   repeat' (first|refine ae ?_|refine a6 ?_|refine LF a7 I9 ?_|(apply bL;first|refine LI a7 0 LC ?_|refine LI a7 1 LC ?_|refine LI a7 2 LC ?_|refine LI a7 3 LC ?_|refine LJ a7 0 LC ?_|refine LJ a7 1 LC ?_|refine LJ a7 2 LC ?_|refine LL a7 1 LA (by assumption) rfl ?_|refine LL a7 0 LA (by assumption) rfl ?_|fail)|fail)
   refine bh [(b0,.box cs 3)] [(sb,.box [aH s.1,aH s.2] 103),(gb,.box [.sc (.slice (some ⟨b0,0,none⟩) o.length rs.length)] 22),(db,nE),(l,ky { rec with state:= .busy })] hss rfl rfl (List.perm_middle (l₁:=[_,_])) rfl fun c1 L1 ⟨cs1,hP1,hc1,hc,hL⟩=>?_
   subst hc;subst hL
   simp only [Lp,Lo]
   repeat' (first|refine ae ?_|refine a6 ?_|refine a8 ?_|refine aa ?_|refine LF a7 I9 ?_|(apply aK;first|refine LH 5 a7 0 LE ?_|refine LH 5 a7 1 LE ?_|refine LH 5 a7 2 LE ?_|refine LG a7 0 LD ?_|refine LG a7 1 LD ?_|refine LG a7 2 LD ?_|refine LG a7 3 LD ?_|fail))
   refine ay rfl (fun h=>?_) (fun h=>?_)
   ·have h4:d3 (rs.getD g.1 0)=4:=Ly h
    rw [if_pos h4] at hst
    repeat' (first|refine a6 ?_|refine aM ?_|refine aa ?_|refine LF a7 I9 ?_|(apply aK;first|refine LH 5 a7 0 LE ?_|refine LH 5 a7 1 LE ?_|refine LH 5 a7 2 LE ?_|refine LG a7 0 LD ?_|refine LG a7 1 LD ?_|refine LG a7 2 LD ?_|refine LG a7 3 LD ?_|fail))
    refine b6 (L':=Fv gb sb b0 rs.length (cs1,o++cP rs s,g)++[(db,nE)]++[(l,ky { rec with state:= .busy })]) (aR (List.perm_middle (l₁:=[_,_])).symm) (tg ?_)
    rw [n6 hrec.state hrec.pending]
    exact ⟨rfl,(cs1,_,g),⟨hst.symm,hP1,hc1,h20 g hgm⟩,rfl⟩
   ·have h4:¬d3 (rs.getD g.1 0)=4:=Lw h
    rw [if_neg h4] at hst
    clear h
    repeat' (first|refine a6 ?_|refine LF a7 I9 ?_|(apply bL;first|refine LI a7 0 LC ?_|refine LI a7 1 LC ?_|refine LI a7 2 LC ?_|refine LI a7 3 LC ?_|refine LJ a7 0 LC ?_|refine LJ a7 1 LC ?_|refine LJ a7 2 LC ?_|refine LL a7 1 LA (by assumption) rfl ?_|refine LL a7 0 LA (by assumption) rfl ?_|fail)|fail)
    refine bh [(b0,.box cs1 3)] _ (hgs cs1 _ hP1 hc1 hol1) rfl rfl (Ll _) rfl fun c1 L1 ⟨cs2,hP2,hc2,hc,hL⟩=>?_
    subst hc;subst hL
    repeat' (first|refine aM ?_|refine aa ?_|(apply aK;first|refine LH 5 a7 0 LE ?_|refine LH 5 a7 1 LE ?_|refine LH 5 a7 2 LE ?_|refine LG a7 0 LD ?_|refine LG a7 1 LD ?_|refine LG a7 2 LD ?_|refine LG a7 3 LD ?_|fail))
    refine b6 (L':=Fv gb sb b0 rs.length (cs2,o++cP rs s++cP rs g,(0,0))++[(db,nE)]++[(l,ky { rec with state:= .busy })]) (aR (List.perm_middle (l₁:=[_,_])).symm) (tg ?_)
    rw [n6 hrec.state hrec.pending]
    exact ⟨rfl,(cs2,_,(0,0)),⟨hst.symm,hP2,hc2,vg rs⟩,rfl⟩
  ·have h5:d3 (rs.getD g.1 0)=5:=Decidable.not_not.1 (Lw h)
   simp only [if_pos h5,if_neg (show ¬d3 (rs.getD g.1 0)=4 by omega)] at hst
   clear h
   repeat' (first|refine ae ?_|refine a6 ?_|refine au ?_|refine a8 ?_|refine aa ?_|refine LF a7 I9 ?_)
   refine ay rfl (fun h=>by have:=Ly h;omega) (fun h=>?_)
   clear h
   repeat' (first|refine a6 ?_|refine LF a7 I9 ?_|(apply bL;first|refine LI a7 0 LC ?_|refine LI a7 1 LC ?_|refine LI a7 2 LC ?_|refine LI a7 3 LC ?_|refine LJ a7 0 LC ?_|refine LJ a7 1 LC ?_|refine LJ a7 2 LC ?_|refine LL a7 1 LA (by assumption) rfl ?_|refine LL a7 0 LA (by assumption) rfl ?_|fail)|fail)
   refine bh [(b0,.box cs 3)] [(sb,.box [aH s.1,aH s.2] 103),(gb,.box [.sc (.slice (some ⟨b0,0,none⟩) o.length rs.length)] 22),(db,nE),(l,ky { rec with state:= .busy })] (hgs cs _ hP hcl (by omega)) rfl rfl (List.perm_middle (l₁:=[_,_])) rfl fun c1 L1 ⟨cs2,hP2,hc2,hc,hL⟩=>?_
   subst hc;subst hL
   repeat' (first|refine aM ?_|refine aa ?_|(apply aK;first|refine LH 5 a7 0 LE ?_|refine LH 5 a7 1 LE ?_|refine LH 5 a7 2 LE ?_|refine LG a7 0 LD ?_|refine LG a7 1 LD ?_|refine LG a7 2 LD ?_|refine LG a7 3 LD ?_|fail))
   refine b6 (L':=Fv gb sb b0 rs.length (cs2,o++cP rs g,s)++[(db,nE)]++[(l,ky { rec with state:= .busy })]) (aR (List.perm_middle (l₁:=[_,_])).symm) (tg ?_)
   rw [n6 hrec.state hrec.pending]
   exact ⟨rfl,(cs2,_,s),⟨hst.symm,hP2,hc2,hm⟩,rfl⟩
 have hit:=Co (σ0:=σ0) (l:=l) rs hr (fun x=>Fv gb sb b0 rs.length x++[(db,nE)]++[(l,ky rec)]) (fun k x=>x.2=mF rs k∧pC x.2.1 x.1∧x.1.length=rs.length∧E8 rs x.2.2≤20) hy ((List.replicate rs.length (([Value.int .i64 0]:List Value).map AV.sc)).flatten,[],(0,0)) ⟨rfl,⟨rfl,Nat.zero_le _⟩,hz,vg rs⟩
 refine ⟨_,hit,?_⟩
 rintro c L' ⟨⟨cs,o,s⟩,⟨hf,hP,hcl,hm⟩,rfl⟩
 dsimp only at hf hP hcl hm ⊢
 refine ⟨rec,_,Ll _,(by rw [hrec.state];intro h;cases h),?_⟩
 rw [hrec.pending]
 show AX _ _ _ _ _ _ _ _
 clear hy hit
 obtain ⟨a,ha1,ha2,-⟩:=nJ (rs:=rs) _ (Nat.le_refl _)
 rw [←hf] at ha2
 rw [zH] at hf
 have hlen:=ha2.len
 dsimp only at hlen
 have hss:=u7 rs b0 cs o s ha2.le ha2.top hm hP (by omega) (by omega) hr
 rw [hcl] at hss
 unfold Fv
 dsimp only
 simp only [Lp,Lo]
 repeat' (first|refine ae ?_|refine a6 ?_|refine a8 ?_|refine aM ?_|refine LF a7 I9 ?_|(apply bL;first|refine LI a7 0 LC ?_|refine LI a7 1 LC ?_|refine LI a7 2 LC ?_|refine LI a7 3 LC ?_|refine LJ a7 0 LC ?_|refine LJ a7 1 LC ?_|refine LJ a7 2 LC ?_|refine LL a7 1 LA (by assumption) rfl ?_|refine LL a7 0 LA (by assumption) rfl ?_|fail)|fail)
 refine bh [(b0,.box cs 3)] [(sb,.box [aH s.1,aH s.2] 103),(gb,.box [.sc (.slice (some ⟨b0,0,none⟩) o.length rs.length)] 22),(db,nE)] hss rfl rfl (List.perm_middle (l₁:=[_,_])) rfl fun c1 L1 ⟨cs1,hP1,hc1,hc,hL⟩=>?_
 subst hc;subst hL
 simp only [Lp,Lo]
 repeat' (first|refine aq ?_|refine a8 ?_|refine aa ?_|refine LF a7 I9 ?_)
 have hord:dI rs=o++cP rs s:=by
  unfold dI
  rw [←hf]
 rw [←hc1]
 refine b6 (G3 (t:=2) (cs:=cs1) 0 rfl rfl hP1 (by unfold maxLen;omega)) ?_
 rw [hord]
 exact mv (cs:=[.imm 1 (aO ((o++cP rs s).map fun (n:Nat)=>(n:Int)))]) [db] [(sb,.box [aH s.1,aH s.2] 103),(gb,.box [.sc (.slice (some ⟨b0,0,none⟩) o.length rs.length)] 22)] rfl (List.Perm.of_eq (by rw [hc1];rfl)) ⟨rfl,trivial⟩ rfl
end Go.Proofs.YtamjlkdanllgjaaGreatDoor
namespace Go.Proofs.YtamjlkdanllgjaaGreatDoor
open Go.RowKit
section
variable {P:Program} {tt:TT} {r:Option Nat} {ops:Array Oper} {Q:Exit→Act→World→Prop} {nt:Nat} {D:List Deferred} {fr:bY} {B:Bs} {L:AL} {rest:List Oper}
variable {d:Nat} {ty t:TypeId} {pos:String} {af:Array Edge} {x y:Operand} {u:AV}
theorem x9 (kd:TypeDesc) {k:IntKind} {a:Int} {kt et:Nat} (ht:P.underlying t=some (.map kt et)) (hx:br fr x=some (.sc (.int k a))) (h:∀b,bB P r ops Q nt D rest ((d,.sc (.map (some b)))::fr) B ((b,ca kd fun _=>none)::L)) (hd:Nat.ble nt d=false:=by rfl):bB P r ops Q nt D (⟨some d,.makeMap t (some x),ty,pos,af,none⟩::rest) fr B L:=by
 refine cj (R:=fun c L'=>∃b,c= .sc (.map (some b))∧L'=(b,ca kd fun _=>none)::L) hd rfl (fun σ ρ w hρ hw=>?_) fun c L' ⟨b,h1,h2⟩=>by subst h1;subst h2;exact h b
 have hr:(execOp ρ ⟨some d,.makeMap t (some x),ty,pos,af,none⟩).run P w= .ok (.value (.map (some w.heap.size))) (w.alloc (.map #[] 0)):=by
  simp [execOp,Instr.makeMap,(hρ x _ hx).sc_inv,run_underlying ht,asInt,asIntOf]
 unfold gX
 rw [hr]
 exact ⟨σ,_,_,cf.le_refl _,.sc _,hw.alloc _ (ca kd fun _=>Option.none) ⟨#[],0,rfl,by simp,by simp,by simp⟩,_,rfl,rfl⟩
end
end Go.Proofs.YtamjlkdanllgjaaGreatDoor
namespace Go.Proofs.YtamjlkdanllgjaaGreatDoor
open Go.RowKit
attribute [local irreducible] AT bB AX AO Av Kt ba dt DA cz
set_option maxRecDepth 8000
def p9 (cs:List cR) (r:Int):Int:=((cs.find? fun c=>decide (c.Rune=r)).map cR.Glyph).getD 0
def uT (cs:List cR):Value→Option AV
 | .int .i64 r=>(cs.find? fun c=>decide (c.Rune=r)).map fun c=>aH c.Glyph
 | _=>none
theorem Hv (cs:List cR) (r:Int):(uT cs (.int .i64 r)).getD (.sc (.int .i64 0))=aH (p9 cs r):=by
 show ((cs.find? fun c=>decide (c.Rune=r)).map fun c=>aH c.Glyph).getD (.sc (.int .i64 0))=aH (((cs.find? fun c=>decide (c.Rune=r)).map cR.Glyph).getD 0)
 cases cs.find? fun c=>decide (c.Rune=r) <;> rfl
theorem nG (cs:List cR) (c:cR) (r:Int):(cs++[c]).find? (fun c=>decide (c.Rune=r))=((cs.find? fun c=>decide (c.Rune=r)) <|> if c.Rune=r then some c else none):=by
 rw [List.find?_append]
 cases cs.find? fun c=>decide (c.Rune=r) with
 | some _=>simp
 | none=>by_cases h:c.Rune=r <;> simp [h]
theorem F9 {cs:List cR} {c:cR} (h:(uT cs (.int .i64 c.Rune)).isSome=true):uT (cs++[c])=uT cs:=by
 funext v
 unfold uT at h ⊢
 split
 ·rename_i r
  rw [nG]
  cases hf:cs.find? fun c=>decide (c.Rune=r) with
  | some _=>simp
  | none=>
   have hne:c.Rune≠r:=fun e=>by rw [←e] at hf;simp [hf] at h
   simp [hne]
 ·rfl
theorem F8 {cs:List cR} {c:cR} (h:(uT cs (.int .i64 c.Rune)).isSome=false):uT (cs++[c]) (.int .i64 c.Rune)=some (aH c.Glyph):=by
 unfold uT at h ⊢
 dsimp only at h ⊢
 rw [nG]
 cases hf:cs.find? fun d=>decide (d.Rune=c.Rune) with
 | some _=>rw [hf] at h;simp at h
 | none=>simp
theorem zL {cs:List cR} {c:cR} (q:Value) (h:q≠ .int .i64 c.Rune):uT (cs++[c]) q=uT cs q:=by
 unfold uT
 split
 ·rename_i r
  have hne:c.Rune≠r:=fun e=>h (by rw [e])
  rw [nG,if_neg hne]
  cases cs.find? fun c=>decide (c.Rune=r) <;> rfl
 ·rfl
def i6 (cs:List cR) (rs:List Int) (a:Nat):bn:=⟨p9 cs (rs.getD a 0),a,(jS rs).getD a 0,0,0,0⟩
def d8 (f:aV) (rs:List Int):List bn:=(dI rs).map (i6 f.Chars rs)
def JI (m:oZ) (run:List bn):Prop:=run.length≤m.cap∧m.cap≤maxLen∧(eu run++m.junk).length=m.cap * 6
set_option maxHeartbeats 8000000 in
theorem DP (f:aV) (rs:List Int) (hr:rs.length≤1000000) (h20:rV rs) (hc:f.Chars.length≤1000000):AC Tryz.prog 15 [cD f,.imm 1 (aO rs)] [] fun c L=>∃q,kD q (d8 f rs)∧c=fH q (d8 f rs)∧L=eZ q (d8 f rs):=by
 refine aP Tryz.func15 rfl Tryz.ntmps15 rfl fun B=>?_
 have hil:=aW rs
 have hcl:(f.Chars.map dc).length=f.Chars.length:=Lr ..
 have hol:=aW ((dI rs).map fun (n:Nat)=>(n:Int))
 rw [Lr] at hol
 have hok:=mY rs
 have hfl:=sv rs
 haveI:=AD.mk (su rs hr)
 haveI:=AD.mk (sK rs hr h20)
 repeat' (first|refine ae ?_|refine a6 ?_|refine a8 ?_|refine aa ?_|refine LF a7 I9 ?_|refine bo ?_|fail)
 refine x9 (.int .i64) Tryz.underlying96 rfl fun mb=>?_
 repeat' (first|refine ae ?_|refine a6 ?_|refine am ?_|refine a8 ?_|refine aa ?_|refine LF a7 I9 ?_)
 refine aJ [1,5,19,20] (α:=Nat) (fun i=>[(21,aH i)]) (fun i=>i≤f.Chars.length) (fun i=>[(mb,ca (.int .i64) (uT (f.Chars.take i)))]) (fun i=>f.Chars.length - i) 0 rfl ⟨rfl,trivial⟩ (Nat.zero_le _) (fun σ w h=>?_) fun i hi=>?_
 ·rw [show uT (f.Chars.take 0)=fun _=>none from funext fun v=>by
   unfold uT
   split <;> rfl]
  exact h
 try dsimp only [Lp,Lo,Ln,Lh]
 repeat' (first|refine ae ?_|refine a6 ?_|refine a8 ?_|refine aa ?_|refine LF a7 I9 ?_)
 refine ay rfl (fun h=>?_) (fun h=>?_)
 ·have hil:i < f.Chars.length:=by have:=Ly h;omega
  obtain ⟨t,ht⟩:∃z,f.Chars[i]?=some z:=⟨_,Lz hil⟩
  have htg:=c7 (c:=dc) ht
  have hsucc:f.Chars.take (i+1)=f.Chars.take i++[t]:=by rw [List.take_add_one,ht];rfl
  clear h
  generalize f.Chars.take i=cs at *
  repeat' (first|refine ae ?_|refine a6 ?_|refine am ?_|refine au ?_|refine a8 ?_|refine aa ?_|refine LF a7 I9 ?_|(apply aU;first|refine aT a7 ?_|refine aN a7 ?_)|(apply aK;first|refine LH 7 a7 0 LE ?_|refine LH 7 a7 1 LE ?_|refine LH 7 a7 2 LE ?_|refine LG a7 0 LD ?_|refine LG a7 1 LD ?_|refine LG a7 2 LD ?_|refine LG a7 3 LD ?_|fail)|refine bg a7 fun _=>?_|fail)
  refine gH 0 (.int .i64 0) Tryz.underlying96 Tryz.underlying3 rfl rfl rfl rfl (by kernel_rfl) rfl ?_
  cases hm:(uT cs (.int .i64 t.Rune)).isSome with
  | true=>
   rw [←F9 hm] at *
   repeat' (first|refine ae ?_|refine a6 ?_|refine au ?_|refine a8 ?_|refine aM ?_|refine aa ?_|refine LF a7 I9 ?_|(apply aY;refine aX ?_)|refine bk rfl ?_)
   exact aE (i+1) rfl ⟨by rw [Ls];rfl,trivial⟩ hil (by omega) (fun _ _ h=>by rw [hsucc];exact h)
  | false=>
   repeat' (first|refine ae ?_|refine a6 ?_|refine a8 ?_|refine aa ?_|refine LF a7 I9 ?_|refine bV rfl ?_)
   refine dp 0 (uT (cs++[t])) Tryz.underlying96 Tryz.underlying3 rfl rfl rfl rfl rfl (F8 hm) zL ?_
   repeat' (first|refine a6 ?_|refine a8 ?_|refine aM ?_|refine aa ?_|refine LF a7 I9 ?_|(apply aY;refine aX ?_)|fail)
   exact aE (i+1) rfl ⟨by rw [Ls];rfl,trivial⟩ hil (by omega) (fun _ _ h=>by rw [hsucc];exact h)
 have hil2:i=f.Chars.length:=by have:=Lw h;omega
 subst hil2
 rw [List.take_length]
 clear h
 repeat' (first|refine ae ?_|refine a6 ?_|refine aL ?_|refine a8 ?_|refine av ?_|refine aA ?_|refine aw ?_|refine aa ?_|refine LF a7 I9 ?_|(apply bw;refine bi ?_)|fail)
 refine vl a7 rs.length rfl rfl rfl rfl rfl (by rw [hil]) (by omega) (by omega) rfl fun b=>?_
 repeat' (first|refine ae ?_|refine a6 ?_|refine am ?_|refine a8 ?_|refine aa ?_|refine LF a7 I9 ?_|(apply bw;refine bi ?_)|fail)
 refine aJ [1,5,10,46,47] (α:=Nat×oZ) (fun s=>[(11,fH (some s.2) (((dI rs).take s.1).map (i6 f.Chars rs))),(48,aH s.1)]) (fun s=>s.1≤(dI rs).length∧JI s.2 (((dI rs).take s.1).map (i6 f.Chars rs))) (fun s=>eZ (some s.2) (((dI rs).take s.1).map (i6 f.Chars rs))++[(mb,ca (.int .i64) (uT f.Chars))]) (fun s=>(dI rs).length - s.1) (0,⟨b,rs.length,(List.replicate rs.length [aH 0,aH 0,aH 0,aH 0,aH 0,aH 0]).flatten⟩) rfl ⟨rfl,rfl,trivial⟩ ⟨Nat.zero_le _,Nat.zero_le _,by unfold maxLen;dsimp only;omega,?_⟩ (fun _ _ h=>h) ?_
 ·show ([]++(List.replicate rs.length _).flatten).length=_
  rw [Lo,bR (sz:=6) (fun e he=>by rw [List.eq_of_mem_replicate he];rfl),List.length_replicate]
 rintro ⟨i,m⟩ ⟨hi,hm1,hm2,hm3⟩
 dsimp only at hi hm1 hm2 hm3 ⊢
 try dsimp only [Lp,Lo,Ln,Lh]
 repeat' (first|refine ae ?_|refine a6 ?_|refine a8 ?_|refine aa ?_|refine LF a7 I9 ?_)
 refine ay rfl (fun h=>?_) (fun h=>?_)
 ·have hil:i < (dI rs).length:=by have:=Ly h;omega
  obtain ⟨a,ha⟩:∃z,(dI rs)[i]?=some z:=⟨_,Lz hil⟩
  have hag:=bO (l:=(dI rs).map fun (n:Nat)=>(n:Int)) (i:=i) (z:=(a:Int)) (by rw [List.getElem?_map,ha];rfl)
  have halt:a < rs.length:=hok.2 a (Lv ha)
  have hrg:=bO (eC halt)
  have hfg:=bO (eC (l:=jS rs) (i:=a) (by omega))
  have hsucc:((dI rs).take (i+1)).map (i6 f.Chars rs)=((dI rs).take i).map (i6 f.Chars rs)++[i6 f.Chars rs a]:=by rw [List.take_add_one,ha,List.map_append];rfl
  have hel:(((dI rs).take i).map (i6 f.Chars rs)).length=i:=by rw [Lr,List.length_take];omega
  have hgl:=Hv f.Chars (rs.getD a 0)
  clear h
  generalize ((dI rs).take i).map (i6 f.Chars rs)=es at *
  have hfe:=jl es
  unfold fH eZ
  dsimp only
  repeat' (first|refine ae ?_|refine a6 ?_|refine am ?_|refine au ?_|refine a8 ?_|refine aa ?_|refine LF a7 I9 ?_|(apply aU;first|refine aT a7 ?_|refine aN a7 ?_)|fail)
  refine bI 14 [(0,.v),(1,.v),(2,.v),(3,.v),(4,.v),(5,.v),(7,.v),(8,.v),(9,.v),(10,.v),(11,.v),(6,.e),(12,.v),(13,.v)] none ?_ trivial rfl (by kernel_rfl) (by kernel_rfl) (by kernel_rfl) mixed (by kernel_rfl) rfl
  repeat' (first|refine aF ?_|refine b9 a7 ?_|(apply cE;refine d5 a7 ?_)|fail)
  refine mC 1 (.int .i64 0) Tryz.underlying96 Tryz.underlying3 rfl rfl rfl rfl (by kernel_rfl) trivial ?_
  rw [hgl]
  repeat' (first|refine aF ?_|refine b9 a7 ?_|refine dX a7 ?_|fail)
  refine LP [1,5,10,46,47,48,52,65] I9 ?_
  repeat' (first|fail)
  refine sJ a7 0 rfl rfl rfl rfl rfl rfl rfl hm3 hm1 hm2 (by unfold maxLen;omega) (by omega) rfl fun b' cs' cap' c1 c2 c3 c4=>?_
  rw [List.take_left' (show (eu es).length=es.length * 6 from hfe)] at c2
  repeat' (first|refine a6 ?_|refine a8 ?_|refine aM ?_|refine aa ?_|refine LF a7 I9 ?_|(apply aY;refine aX ?_)|fail)
  have hcs:cs'=eu (es++[i6 f.Chars rs a])++cs'.drop ((es.length+1) * 6):=by
   conv=>lhs;rw [←List.take_append_drop ((es.length+1) * 6) cs',c2]
   rw [sl]
   rfl
  have hel2:(es++[i6 f.Chars rs a]).length=es.length+1:=by rw [List.length_append];rfl
  refine aE (i+1,⟨b',cap',cs'.drop ((es.length+1) * 6)⟩) rfl ⟨by dsimp only;rw [hsucc];rw [hel2];rfl,by rw [Ls];rfl,trivial⟩ ⟨hil,by dsimp only;rw [hsucc,hel2];omega,c4,by dsimp only;rw [hsucc,←hcs,c1]⟩ (by dsimp only;omega) (fun _ _ h=>by dsimp only;rw [hsucc];rw [←hcs];exact h)
 ·have hil:i=(dI rs).length:=by have:=Lw h;omega
  subst hil
  rw [List.take_length] at hm1 hm3 ⊢
  clear h
  repeat' (first|refine ae ?_|refine a6 ?_|refine aq ?_|refine aL ?_|refine a8 ?_|refine av ?_|refine aA ?_|refine aw ?_|refine aa ?_|refine LF a7 I9 ?_)
  refine fP (cs:=[fH (some m) (d8 f rs)]) (eZ (some m) (d8 f rs)) ⟨rfl,trivial⟩ (List.sublist_append_left ..) ⟨some m,⟨fun h=>by (cases h),fun m' hm=>?_⟩,rfl,rfl⟩
  cases hm
  exact ⟨hm1,hm2,Nat.le_of_eq hm3.symm⟩
end Go.Proofs.YtamjlkdanllgjaaGreatDoor
namespace Go.Proofs.YtamjlkdanllgjaaGreatDoor
open Go.RowKit
end Go.Proofs.YtamjlkdanllgjaaGreatDoor
namespace Go.Proofs.YtamjlkdanllgjaaGreatDoor
open Go.RowKit
attribute [local irreducible] AT bB AX AO Av Kt ba dt DA cz
set_option maxRecDepth 8000
structure px (e:B8):Prop where
 few:e.l.Rules.length≤6
 ends:GK e
 fore:∀gl,Dm e.cls e.fore e.foreE gl=cn (gB (e.l.Rules.map f7) (Ci e.l.Rules) gl) (e.l.Rules.map f7).length
 back:∀gl,Dm e.cls e.back e.backE gl=cn (gB (e.l.Rules.map bz.Back) (fun _=>true) gl) (e.l.Rules.map bz.Back).length
 long:lE e.l.Rules≤1000000∧lC e.l.Rules≤1000000
section
variable {e:B8} (h:px e)
include h
end
def JZ (E:w6) (l:b7) (run:List bn) (i:Nat) (forms:List Int):AV:=match tJ E.ms l run i forms with
 | none=> .tup [J5,.sc (.slice none 0 0)]
 | some r=> .tup [.iptr (bG (rp r)),.imm 1 (Gv (lu E.ms l run i r))]
abbrev Kc (wb:Nat) (E:w6) (q:Option oZ) (run:List bn):AL:=KX wb (.iptr (q9 E)) q run++[vU]
end Go.Proofs.YtamjlkdanllgjaaGreatDoor
namespace Go.Proofs.YtamjlkdanllgjaaGreatDoor
open Go.RowKit
section
variable {P:Program} {tt:TT} {r:Option Nat} {ops:Array Oper} {Q:Exit→Act→World→Prop} {nt:Nat} {D:List Deferred} {fr:bY} {B:Bs} {L:AL} {rest:List Oper} {d:Nat} {ty t t':TypeId} {pos:String} {af:Array Edge} {g:Option (Nat×Bool)} {x y z:Operand} {u:AV}
theorem GY (ok:ej P tt) {dd:Option Tmp} {n e:Nat} {k:IntKind} {i:Nat} {a:Int} {cs:List AV} (ht:uy tt t=some (n,e,1)) (he:FE tt e=true) (hx:br fr x=some (.agg cs)) (hy:br fr y=some (.sc (.int k a))) (ha:a=(i:Int)) (h0:i < n) (hu:cs[i]?=some u):Av P ⟨dd,.index t x y,ty,pos,af,g⟩ fr u:=by
 intro σ ρ w hρ _
 subst ha
 obtain ⟨h1,h2⟩:=gA ok ht
 have hc:=cu ok he
 have hyv:=(hρ y _ hy).sc_inv
 obtain ⟨vs,hv,hs,_⟩:=(hρ x _ hx).agg_inv
 obtain ⟨v,g1,g2⟩:=hs.get hu
 have hso:(sizeOf e:Sem Nat).run P w= .ok 1 w:=by
  cases hi:P.info? e with
  | none=>rw [hi] at h2;cases h2
  | some i=>rw [hi] at h2;simp at h2;simp [sizeOf,typeInfo,hi,h2]
 refine ⟨v,?_,g2⟩
 have h3:(i:Int) < n:=by omega
 simp [execOp,hv,hyv,Instr.index,asIntOf,run_underlying h1,h3,hso,part,hc.agg w,g1]
 intro hle
 omega
theorem HK (ok:ej P tt) (i:Nat) {n e:Nat} {k:IntKind} {a:Int} {cs:List AV} (ht:uy tt t=some (n,e,1)) (he:FE tt e=true) (hx:br fr x=some (.agg cs)) (hy:br fr y=some (.sc (.int k a))) (ha:a=(i:Int)) (h0:i < n) (hu:cs[i]?=some u) (hd:Nat.ble nt d=false) (h:bB P r ops Q nt D rest ((d,u)::fr) B L):bB P r ops Q nt D (⟨some d,.index t x y,ty,pos,af,none⟩::rest) fr B L:=cU (GY ok ht he hx hy ha h0 hu) hd rfl h
end
end Go.Proofs.YtamjlkdanllgjaaGreatDoor
namespace Go.Proofs.YtamjlkdanllgjaaGreatDoor
open Go.RowKit
attribute [local irreducible] AT bB AX AO Av Kt ba dt DA cz
set_option maxRecDepth 8000
theorem zG (run:List bn) (junk:List AV) {k:Nat} (h:k≤run.length):(eu run++junk).take (k * 6)=eu (run.take k):=by
 have e:eu run=eu (run.take k)++eu (run.drop k):=by rw [←sl,List.take_append_drop]
 have hl:=jl (run.take k)
 rw [List.length_take,Nat.min_eq_left h] at hl
 rw [e,List.append_assoc,←hl,List.take_left]
set_option maxRecDepth 8000
def KN (x:bn) (l:List Int):List bn:=l.map fun g=>{ x with Glyph:=g }
set_option maxRecDepth 8000
set_option maxRecDepth 8000
structure KD (run:List bn):Prop where
 len:run.length≤500
 mono:run.Pairwise fun a b=>a.Cluster≤b.Cluster
set_option maxRecDepth 8000
set_option maxRecDepth 8000
structure Ii (run:List bn) (ps:List Nat):Prop where
  some_:ps≠[]
  lt:∀j∈ps,j < run.length
  inc:ps.Pairwise (· < ·)
structure w8 (r:bz):Prop where
 some_:r.In≠[]
 out:r.Out.length≤1000000
 calls:r.Calls.length≤1000000
 at_:∀c∈r.Calls,0≤c.At∧c.At≤1000000
abbrev Hr (wb:Nat) (e:B8) (r:bz) (ps:List Nat) (deep:Nat):List AV:=[iO wb,.iptr (iX e),.iptr (bG (rp r)),.imm 1 (Gv ps),aH deep]
def Bn (wb:Nat) (E:w6) (run':List bn):AV→AL→Prop:=fun _ L=>∃q',kD q' run'∧L=Kc wb E q' run'
section
variable {E:w6} {wb:Nat} {m:oZ} {run:List bn} (hq:kD (some m) run) (hr:run.length≤1000000) {e:B8} {r:bz} (hro:w8 r) {ps:List Nat} (hps:Ii run ps) (deep:Nat)
include hq hr hro hps
end
end Go.Proofs.YtamjlkdanllgjaaGreatDoor
namespace Go.Proofs.YtamjlkdanllgjaaGreatDoor
open Go.RowKit
attribute [local irreducible] AT bB AX AO Av Kt ba dt DA cz
set_option maxRecDepth 8000
structure pz (E:w6):Prop where
 auto:∀e∈E.lks,1≤e.l.Kind→e.l.Kind≤6→px e
 rule:∀e∈E.lks,∀r∈e.l.Rules,r.In≠[]→w8 r
abbrev w6.ls (E:w6):List b7:=E.lks.map (·.l)
def KL (a b:Nat):Prop:=b≤max a 500
section
variable {E:w6} (hE:pz E) (wb:Nat)
def KC (E:w6) (wb deep k:Nat):Prop:=∀(e:B8) (r:bz) (ps:List Nat) (q:Option oZ) (run:List bn),e∈E.lks→1≤e.l.Kind→e.l.Kind≤6→w8 r→Ii run ps→kD q run→run.length≤1000000→
 AC Tryz.prog 285 (Hr wb e r ps deep) (Kc wb E q run) (Bn wb E (Ib E.ms E.ls k e.l r ps run))
def JG (E:w6) (wb deep k:Nat):Prop:=∀(n:Int) (i:Nat) (q:Option oZ) (run:List bn),i < run.length→kD q run→run.length≤1000000→
 AC Tryz.prog 357 [iO wb,aH n,aH i,aH deep] (Kc wb E q run) (Bn wb E (Gi E.ms E.ls (Ib E.ms E.ls k) n i run))
end
end Go.Proofs.YtamjlkdanllgjaaGreatDoor
namespace Go.Proofs.YtamjlkdanllgjaaGreatDoor
open Go.RowKit
attribute [local irreducible] AT bB AX AO Av Kt ba dt DA cz
set_option maxRecDepth 8000
theorem Hn (run:List bn) (hr:run.length≤1000000):AC Tryz.prog 141 [.imm 6 (run.map dB)] [] fun c L=>∃q,kD q run∧c=fH q run∧L=eZ q run:=by
 refine aP Tryz.func141 rfl Tryz.ntmps141 rfl fun B=>?_
 have hml:(run.map dB).length=run.length:=Lr ..
 repeat' (first|refine ae ?_|refine a6 ?_|refine a8 ?_|refine aa ?_|refine LF a7 I9 ?_)
 refine tN a7 rfl rfl rfl rfl rfl fun b hb=>?_
 repeat' (first|refine a8 ?_|refine aa ?_)
 cases b with
 | true=>
  have hn:run=[]:=by simpa using hb rfl
  subst hn
  repeat' (first|refine ae ?_|refine a6 ?_|refine aq ?_|refine a8 ?_|refine aC ?_|refine aa ?_|refine LF a7 I9 ?_|refine bV rfl ?_)
  refine b6 (bA (t:=2) (c':= .imm 6 []) rfl fun σ v h=>dJ 6 h) ?_
  exact LM I9 ⟨none,⟨fun _=>rfl,fun m h=>by cases h⟩,rfl,rfl⟩
 | false=>
  repeat' (first|refine ae ?_|refine a6 ?_|refine au ?_|refine a8 ?_|refine LF a7 I9 ?_|refine CX (d:=5) a7 rfl rfl fun _=>?_|refine bk rfl ?_)
  rename_i b5
  refine nW a7 0 rfl rfl rfl rfl (fN rfl rfl) rfl (Nat.zero_le _) (Nat.le_refl _) (Nat.zero_le _) (by rw [hml];unfold maxLen;omega) (by rw [hml];omega) rfl fun b' cs' cap' e1 e2 e3 e4 e5=>?_
  repeat' (first|refine aq ?_|refine a8 ?_|refine aa ?_|refine LF a7 I9 ?_)
  have hcs:cs'=eu run++cs'.drop (run.length * 6):=by
   conv=>lhs;rw [←List.take_append_drop (run.length * 6) cs']
   rw [Nat.zero_add,hml] at e2
   rw [e2]
   rfl
  refine LM I9 ⟨some ⟨b',cap',cs'.drop (run.length * 6)⟩,⟨fun h=>(by cases h),fun m hm=>?_⟩,?_,?_⟩
  ·cases hm
   dsimp only
   rw [←hcs]
   exact ⟨by omega,e4,e1⟩
  ·unfold fH
   dsimp only
   rw [Nat.zero_add,hml]
  ·unfold eZ
   dsimp only
   rw [←hcs]
   rfl
set_option maxRecDepth 8000
section
variable {E:w6} (hE:pz E) (wb:Nat)
include hE
end
end Go.Proofs.YtamjlkdanllgjaaGreatDoor
namespace Go.Proofs.YtamjlkdanllgjaaGreatDoor
open Go.RowKit
attribute [local irreducible] AT bB AX AO Av Kt ba dt DA cz
set_option maxRecDepth 8000
theorem ux (k:Int):bH Tryz.prog 138 [aH k] (cQ (decide (1≤k∧k≤6))):=by
 refine aP Tryz.func138 rfl Tryz.ntmps138 rfl fun B=>?_
 repeat' (first|refine ae ?_|refine a6 ?_|refine aq ?_|refine a8 ?_|refine aa ?_|refine LF a7 I9 ?_|refine LN I9 ?_|refine LO LB ?_|refine bc rfl rfl rfl (fun _=>?_) (fun _=>?_))
 all_goals exact LM I9 (by simp_all <;> omega)
instance (k:Int):AD Tryz.prog 138 [aH k] (cQ (decide (1≤k∧k≤6))):=⟨ux k⟩
section
variable {nt:Nat} {fr:bY} {B:Bs} {D:List Deferred}
theorem sZ {t:Nat} {q:Option oZ} {run:List bn} {Lf:AL} (hq:kD q run) (hl:c8 fr t=some (fH q run)):lR nt D B fr (eZ q run++Lf) ((t,.imm 6 (run.map dB))::fr) Lf:=by
 cases q with
 | none=>
  have he:=hq.emp rfl
  subst he
  exact bA hl fun σ v h=>h
 | some m=>
  obtain ⟨h1,h2,h3⟩:=hq.fit m rfl
  have hfl:=jl run
  have hcl:run.length * 6≤(eu run++m.junk).length:=by rw [List.length_append];omega
  have htk:(eu run++m.junk).take (run.length * 6)=(run.map dB).flatten:=by
   have:=zG run m.junk (Nat.le_refl _)
   rw [List.take_length] at this
   exact this
  exact cW (sz:=6) (n:=run.length) (cap:=m.cap) (l:=run.map dB) 0 hl rfl htk hcl (fun e he=>by obtain ⟨z,_,rfl⟩:=List.mem_map.1 he;rfl) (Lr ..) h1 h2
end
section
variable {E:w6} (hE:pz E)
include hE
end
def Kb (ap:Int→List bn→List Int→List bn):List Int→List (List Int)→List bn→List bn
 | [],_,run=>run
 | n::ns,fs,run=>Kb ap ns (fs.drop 1) (ap n run (fs.headD []))
structure KB (u:AV) (ap:Int→List bn→List Int→List bn):Prop where
 ac:∀(n:Int) (run:List bn) (forms:List Int),run.length≤1000000→AC Tryz.prog 140 [u,aH n,.imm 6 (run.map dB),.imm 1 (aO forms)] [vU] fun c L=>c= .imm 6 ((ap n run forms).map dB)∧L=[vU]
 len:∀(n:Int) (run:List bn) (forms:List Int),run.length≤1000000→(ap n run forms).length≤1000000
def JU:AV→Bool
 | .iptr _=>true
 | .sc (.pointer none)=>true
 | _=>false
end Go.Proofs.YtamjlkdanllgjaaGreatDoor
namespace Go.Proofs.YtamjlkdanllgjaaGreatDoor
open Go.RowKit
attribute [local irreducible] AT bB AX AO Av Kt ba dt DA cz
set_option maxRecDepth 8000
def GR (run:List bn) (L0:AL):AV→AL→Prop:=fun c L=>∃q,kD q run∧c=fH q run∧L=eZ q run++L0
theorem yH (cs:List AV) (q:Option oZ) (run:List bn) (hq:kD q run) (hr:run.length≤1000000):AC Tryz.prog 62 [.iptr cs,.imm 1 (aO []),.imm 1 (aZ []),fH q run] (eZ q run++[]) (GR run []):=by
 refine aP Tryz.func62 rfl Tryz.ntmps62 rfl fun B=>?_
 have hcl:=Hn run hr
 refine bK (sZ (t:=3) hq rfl) ?_
 repeat' (first|refine ae ?_|refine a6 ?_|refine a8 ?_|refine aa ?_|refine LF a7 I9 ?_)
 refine bh [] [] hcl rfl rfl (Ll _) rfl fun c L1 ⟨q',hq',hc,hL⟩=>?_
 subst hc;subst hL
 repeat' (first|refine ae ?_|refine a6 ?_|refine am ?_|refine a8 ?_|refine aa ?_|refine LF a7 I9 ?_)
 refine aJ [2,9,17,18] (α:=Unit) (fun _=>[(19,aH 0),(3,fH q' run)]) (fun _=>True) (fun _=>eZ q' run++[]) (fun _=>0) () rfl ⟨rfl,rfl,trivial⟩ trivial (fun _ _ h=>h) ?_
 rintro ⟨⟩ -
 try dsimp only [Lp,Lo,Ln,Lh]
 repeat' (first|refine ae ?_|refine a6 ?_|refine aq ?_|refine aL ?_|refine a8 ?_|refine av ?_|refine aA ?_|refine aw ?_|refine aa ?_|refine LF a7 I9 ?_|refine bk rfl ?_)
 exact LM I9 ⟨q',hq',rfl,rfl⟩
end Go.Proofs.YtamjlkdanllgjaaGreatDoor
