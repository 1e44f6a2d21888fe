/-
  The program: subset.Font.
-/
import Derived.Test.YtjjpkibjffmceaaGreatM24
import Derived.Test.YtjjpkibjffmceaaGreatM20
import Derived.Test.YtjjpkibjffmceaaGreatM23
import Derived.Test.YtjjpkibjffmceaaGreatM06
import Derived.Test.YtjjpkibjffmceaaGreatM21
import Derived.Test.YtjjpkibjffmceaaGreatM19
namespace Go.Proofs.YtjjpkibjffmceaaGreat
open Go.RowKit
attribute [local irreducible] AT bW AX AO Av Kt bA eI DA dl
open Go.MapKept
theorem tA.few {g:br} (h:tA g):EI g:=⟨by have:=h.pts.1;omega,by have:=h.ends.1;omega,by have:=h.parts.1;omega,by have:=h.anchors.1;omega,by have:=h.deltas.1;omega,by have:=h.hint.1;omega⟩
theorem pB.few {l:List (List Int)} (h:pB l):l.length≤1000000∧∀q∈l,q.length≤1000000:=⟨by have:=h.1;omega,fun q hq=>by have:=(h.2 q hq).1;omega⟩
theorem pb.few {r:bX} (h:pb r):rq r:=⟨h.back.few,h.ins.few,h.ahead.few,by have:=h.out.1;omega,by have:=h.calls.1;omega⟩
theorem CE.few {l:bb} (h:CE l):EK l:=⟨by have:=h.rules.1;omega,fun r hr=>(h.rules.2 r hr).few⟩
set_option maxHeartbeats 2000000 in
theorem yo (f:aL) (hf:lW f) (mg ml:Nat) (G K:List Int) (hG:ci f.Glyphs.length G) (n:Int) (hn:n∈G):AC Tryz.prog 26 [aP n,.iptr (cK f mg ml),.iptr (cb f)] (kL mg ml G K) fun c L=>(∃y b,c= .tup [.agg (bC y),cx b]∧f.Glyphs[n.toNat]?.map (fa G)=if b=true then some y else none)∧L=kL mg ml G K:=by
 refine aS Tryz.func26 rfl Tryz.ntmps26 rfl fun B=>?_
 have hd:=hG.dom n hn
 obtain ⟨g,hg⟩:∃x,f.Glyphs[n.toNat]?=some x:=⟨_,Iz (by omega)⟩
 have hgg:=bi (c:=bC) hg
 have hc:=ub f mg ml G K g (hf.glyphs.2 g (Iw hg)).few
 repeat' (first|refine go ?_|refine HK a6 FS ?_|refine aX a6 fun _=>?_|fail)
 rename_i b
 refine bn 6 [(0,.v),(1,.v),(2,.v),(3,.v),(4,.v),(5,.v)] none ?_ trivial rfl (by kernel_rfl) (by kernel_rfl) (by kernel_rfl) mixed (by kernel_rfl) rfl
 repeat' (first|refine aC ?_|refine b7 a6 ?_|(apply bY;refine cn a6 ?_)|fail)
 refine HU [4,6,11] FS ?_
 repeat' (first|fail)
 refine ba (kL mg ml G K) [(b,_)] hc rfl rfl (List.perm_append_singleton _ _).symm rfl fun c L1 ⟨hc,hL⟩=>?_
 subst hc;subst hL
 repeat' (first|refine go ?_|refine HK a6 FS ?_|(apply aG;first|refine HM a6 0 HH ?_|refine HM a6 1 HH ?_|refine HM a6 2 HH ?_|refine HM a6 3 HH ?_|fail))
 exact dv (cs:=[.agg (bC (fa G g)),cx true]) (kL mg ml G K) ⟨⟨_,2,_,_,rfl,rfl,.inr ⟨ct a6 rfl,rfl⟩⟩,rfl,trivial⟩ (List.sublist_append_left (kL mg ml G K) [_]) ⟨⟨fa G g,true,rfl,by rw [hg];rfl⟩,rfl⟩
set_option maxHeartbeats 2000000 in
theorem Br (f:aL) (hf:lW f) (mg ml:Nat) (G K:List Int) (hG:ci f.Glyphs.length G) (n:Int) (hn:0≤n∧n < f.Lookups.length):AC Tryz.prog 30 [aP n,.iptr (cK f mg ml),.iptr (cb f)] (kL mg ml G K) fun c L=>(∃y b,c= .tup [.agg (bj y),cx b]∧f.Lookups[n.toNat]?.map (ey f G K)=if b=true then some y else none)∧L=kL mg ml G K:=by
 refine aS Tryz.func30 rfl Tryz.ntmps30 rfl fun B=>?_
 obtain ⟨g,hg⟩:∃x,f.Lookups[n.toNat]?=some x:=⟨_,Iz (by omega)⟩
 have hgg:=bi (c:=bj) hg
 have hc:=DI f mg ml G K hG g (hf.looks.2 g (Iw hg)).few
 repeat' (first|refine go ?_|refine HK a6 FS ?_|refine aX a6 fun _=>?_|fail)
 rename_i b
 refine bn 6 [(0,.v),(1,.v),(2,.v),(3,.v),(4,.v),(5,.v)] none ?_ trivial rfl (by kernel_rfl) (by kernel_rfl) (by kernel_rfl) mixed (by kernel_rfl) rfl
 repeat' (first|refine aC ?_|refine b7 a6 ?_|(apply bY;refine cn a6 ?_)|fail)
 refine HU [4,6,11] FS ?_
 repeat' (first|fail)
 refine ba (kL mg ml G K) [(b,_)] hc rfl rfl (List.perm_append_singleton _ _).symm rfl fun c L1 ⟨hc,hL⟩=>?_
 subst hc;subst hL
 repeat' (first|refine go ?_|refine HK a6 FS ?_|(apply aG;first|refine HM a6 0 HH ?_|refine HM a6 1 HH ?_|refine HM a6 2 HH ?_|refine HM a6 3 HH ?_|fail))
 exact dv (cs:=[.agg (bj (ey f G K g)),cx true]) (kL mg ml G K) ⟨⟨_,2,_,_,rfl,rfl,.inr ⟨ct a6 rfl,rfl⟩⟩,rfl,trivial⟩ (List.sublist_append_left (kL mg ml G K) [_]) ⟨⟨ey f G K g,true,rfl,by rw [hg];rfl⟩,rfl⟩
theorem sd (r:List eu) (hr:r.length≤1000000):AC Tryz.prog 34 [.agg (bw r)] [] fun c L=>(∃y b,c= .tup [.agg (bw y),cx b]∧some r=if b=true then some y else none)∧L=[]:=by
 refine aS Tryz.func34 rfl Tryz.ntmps34 rfl fun B=>?_
 haveI:=AD.mk (CX r hr)
 repeat' (first|refine go ?_|refine HK a6 FS ?_|(apply aG;first|refine HM a6 0 HH ?_|refine HM a6 1 HH ?_|refine HM a6 2 HH ?_|refine HM a6 3 HH ?_|fail)|refine bh ?_|refine aX a6 fun _=>?_|(apply bq;refine bg ?_)|fail)
 exact dv (cs:=[.agg (bw r),cx true]) [] ⟨⟨_,0,_,_,rfl,rfl,.inr ⟨ct a6 rfl,rfl⟩⟩,rfl,trivial⟩ (List.nil_sublist _) ⟨⟨r,true,rfl,rfl⟩,rfl⟩
theorem wW (r:List eL) (hr:r.length≤1000000):AC Tryz.prog 37 [.imm 2 (r.map dQ)] [] fun c L=>(∃y b,c= .tup [.imm 2 (y.map dQ),cx b]∧some r=if b=true then some y else none)∧L=[]:=by
 refine aS Tryz.func37 rfl Tryz.ntmps37 rfl fun B=>?_
 haveI:=AD.mk (wT r hr)
 repeat' (first|refine go ?_|refine HK a6 FS ?_|(apply bq;refine bg ?_)|fail)
 exact HX HE ⟨⟨r,true,rfl,rfl⟩,rfl⟩
theorem iI (f:aL) (fs:List ByteArray):(cW f fs).Nodup:=by
 unfold cW
 refine List.Nodup.sublist List.filter_sublist ?_
 unfold List.Nodup
 rw [List.pairwise_map]
 exact List.nodup_range.imp fun h=>fun e=>h (Int.ofNat_inj.1 e)
theorem qC {f:aL} {fs:List ByteArray} {z:Int} (h:z∈cW f fs):0≤z∧z < f.Lookups.length:=by
 unfold cW at h
 obtain ⟨k,hk,e⟩:=List.mem_map.1 (List.mem_filter.1 h).1
 have:=List.mem_range.1 hk
 subst e
 exact ⟨Int.natCast_nonneg k,Int.ofNat_lt.2 this⟩
set_option maxHeartbeats 8000000 in
theorem qU (f:aL) (hf:lW f) (hs:ev f) (rs:List Int) (fs:List ByteArray) (G:List Int) (hG:ci f.Glyphs.length G) (hg:bV Tryz.prog 12 [cr f,jR rs fs] (.tup [.imm 1 (aZ G),aP 0])):bV Tryz.prog 11 [cr f,jR rs fs] (.tup [cr (pV f rs fs G (cW f fs)),.imm 1 (aZ G),aP 0]):=by
 refine aS Tryz.func11 rfl Tryz.ntmps11 rfl fun B=>?_
 haveI:=AD.mk hg
 haveI a1:AD Tryz.prog 13 [cr f,.imm 1 (gg fs)] (.imm 1 (aZ (cW f fs))):=⟨iG f fs hs⟩
 unfold cr jR at *
 repeat' (first|refine go ?_|refine HK a6 FS ?_|refine bh ?_|refine aX a6 fun _=>?_|(apply bq;refine bg ?_)|refine bF rfl ?_)
 rename_i b
 refine bn 7 [(0,.v),(1,.v),(3,.v),(2,.e),(4,.e),(5,.v)] (some (6,.box _ 102)) ?_ ⟨_,rfl,rfl,fun _ _ _=>gA (f5 a6 rfl) rfl⟩ rfl (by kernel_rfl) (by kernel_rfl) (by kernel_rfl) mixed (by kernel_rfl) rfl
 repeat' (first|refine aC ?_|refine b7 a6 ?_|fail)
 refine dJ [] [(b,_)] (jj G hG.nodup) rfl rfl (Im _) (by first | trivial | rfl) fun c L1 ⟨mg,hc,hL⟩=>?_
 subst hc;subst hL
 repeat' (first|refine aC ?_|fail)
 refine dJ [] [(mg,_),(b,_)] (jj (cW f fs) (iI f fs)) rfl rfl (Im _) (by first | trivial | rfl) fun c L1 ⟨ml,hc,hL⟩=>?_
 subst hc;subst hL
 repeat' (first|refine aC ?_|refine b7 a6 ?_|fail)
 refine je [2,3,4,7,9,10,31] (fun _=>_) (fun _=>rfl) rfl fun _=>?_
 repeat' (first|refine go ?_|refine aa ?_|(apply aG;first|refine HM a6 0 HH ?_|refine HM a6 1 HH ?_|refine HM a6 2 HH ?_|refine HM a6 3 HH ?_|fail))
 refine bH (qX (t:=10) 3 rfl rfl rfl) ?_
 refine bH (aK (L':=(mg,cj KJ (kr G))::(ml,cj KJ (kr (cW f fs)))::[(b,_)]) (List.Perm.swap _ _ _)) ?_
 generalize hK:cW f fs=K
 have hKd:∀z∈K,0≤z∧z < f.Lookups.length:=fun z hz=>qC (by rw [hK];exact hz)
 have hKl:K.length≤1000000:=by
  have:=gH (by rw [←hK];exact iI f fs) hKd
  have:=hf.looks.1
  omega
 have hGl:G.length≤1000000:=by
  have:=hG.len
  have:=hf.glyphs.1
  omega
 have e1:=Fc (u:= .fn 26 [.iptr (cK f mg ml),.iptr (cb f)]) rfl G hGl (fun n=>f.Glyphs[n.toNat]?.map (fa G)) (kL mg ml G K) fun n hn=> .fn (yo f hf mg ml G K hG n hn)
 have e2:=u9 f (by have:=hf.chars.1;omega) mg ml G K rs
 have e3:=Fd (u:= .fn 30 [.iptr (cK f mg ml),.iptr (cb f)]) rfl K hKl (fun n=>f.Lookups[n.toNat]?.map (ey f G K)) (kL mg ml G K) fun n hn=> .fn (Br f hf mg ml G K hG n (hKd n hn))
 have e4:=wS f.Axes (by have:=hf.axes.1;omega)
 have e5:=AP (u:= .sc (.func (.func 34) #[] #[])) rfl f.Regions (by have:=hf.regs.1;omega) some [] fun r hr=> .fn0 (sd r (by have:=(hf.regs.2 r hr).1;omega))
 have e6:=AQ (u:= .sc (.func (.func 37) #[] #[])) rfl f.Funcs (by have:=hf.funcs.1;omega) some [] fun r hr=> .fn0 (wW r (by have:=(hf.funcs.2 r hr).1;omega))
 have e7:=sC f.Cvt (by have:=hf.cvt.1;omega)
 have e8:=ui f (by have:=hf.feats.1;omega) (fun t ht=>by have:=(hf.feats.2 t ht).2.1;omega) mg ml G K fs
 rw [List.filterMap_some] at e5 e6
 haveI:=AD.mk e4
 haveI:AD Tryz.prog 39 [.imm 1 (aZ f.Cvt)] (.imm 1 (aZ f.Cvt)):=AD.mk e7
 repeat' (first|fail)
 refine bn 26 [(0,.v),(1,.v),(2,.v),(3,.v),(5,.v),(6,.v),(7,.v),(9,.v),(10,.v),(12,.v),(13,.v),(15,.v),(16,.v),(18,.v),(19,.v),(21,.v),(22,.v),(4,.e),(8,.e),(11,.e),(14,.v),(17,.e),(20,.e),(23,.v),(24,.v)] (some (25,.box _ 36)) ?_ ⟨_,rfl,rfl,fun _ _ _=>gA (f5 a6 rfl) rfl⟩ rfl (by kernel_rfl) (by kernel_rfl) (by kernel_rfl) mixed (by kernel_rfl) rfl
 repeat' (first|refine aC ?_|refine b7 a6 ?_|fail)
 refine dJ (kL mg ml G K) [(b,_)] e1 rfl rfl (Im _) (by first | trivial | rfl) fun c L1 ⟨hc,hL⟩=>?_
 subst hc;subst hL
 repeat' (first|refine aC ?_|fail)
 refine dJ (kL mg ml G K) [(b,_)] e2 rfl rfl (Im _) (by first | trivial | rfl) fun c L1 ⟨hc,hL⟩=>?_
 subst hc;subst hL
 repeat' (first|refine aC ?_|fail)
 refine dJ (kL mg ml G K) [(b,_)] e3 rfl rfl (Im _) (by first | trivial | rfl) fun c L1 ⟨hc,hL⟩=>?_
 subst hc;subst hL
 repeat' (first|refine aC ?_|(apply bE;refine bS ?_)|fail)
 refine dJ [] (kL mg ml G K++[(b,_)]) e5 rfl rfl (Im _) (by first | trivial | rfl) fun c L1 ⟨hc,hL⟩=>?_
 subst hc;subst hL
 repeat' (first|refine aC ?_|fail)
 refine dJ [] (kL mg ml G K++[(b,_)]) e6 rfl rfl (Im _) (by first | trivial | rfl) fun c L1 ⟨hc,hL⟩=>?_
 subst hc;subst hL
 repeat' (first|refine aC ?_|refine b7 a6 ?_|(apply bE;refine bS ?_)|fail)
 refine je [3,4,7,10,11,56] (fun _=>_) (fun _=>rfl) rfl fun _=>?_
 repeat' (first|refine go ?_|refine aa ?_|refine HK a6 FS ?_|(apply aG;first|refine HM a6 0 HH ?_|refine HM a6 1 HH ?_|refine HM a6 2 HH ?_|refine HM a6 3 HH ?_|fail))
 rename_i bs
 refine ba (kL mg ml G K) [(b,_),(bs,_)] e8 rfl rfl (Im _) rfl fun c L1 ⟨hc,hL⟩=>?_
 subst hc;subst hL
 repeat' (first|refine go ?_|refine HK a6 FS ?_|(apply aG;first|refine HM a6 0 HH ?_|refine HM a6 1 HH ?_|refine HM a6 2 HH ?_|refine HM a6 3 HH ?_|fail))
 refine HP a6 3 HG ?_
 repeat' (first|refine go ?_|refine HK a6 FS ?_|(apply aG;first|refine HM a6 0 HH ?_|refine HM a6 1 HH ?_|refine HM a6 2 HH ?_|refine HM a6 3 HH ?_|fail))
 exact dv (cs:=[cr (pV f rs fs G K),.imm 1 (aZ G),aP 0]) [] ⟨⟨_,2,_,_,rfl,rfl,.inr ⟨ct a6 rfl,rfl⟩⟩,rfl,rfl,trivial⟩ (List.nil_sublist _) rfl
end Go.Proofs.YtjjpkibjffmceaaGreat
namespace Go.Proofs.YtjjpkibjffmceaaGreat
open Go.RowKit
attribute [local irreducible] AT bW AX AO Av Kt bA eI DA dl
def Fz:ByteArray:=⟨#[108,105,103,97]⟩
def BN:ByteArray:=⟨#[99,97,108,116]⟩
def Hh:ByteArray:=⟨#[110,111,110,101]⟩
def Bk (fs:List ByteArray):List Int:=(if gk fs Fz || gk fs BN then [0] else [])++(if gk fs BN then [1] else [])
def GX (rs:List Int) (fs:List ByteArray):List Int:=ga sT 6 (dg sT rs) (eZ sT (di 2 [] (mw (Bk fs) 2)))
def Hi:aL:=⟨0,[],[],[],[],[],[],[],[]⟩
theorem sP {n:Nat} {l:List Int} {z:Int}:Eu n l z=true↔(0≤z∧z < n)∧z∈l:=by
 unfold Eu
 rw [Bool.and_eq_true,decide_eq_true_iff,List.contains_iff_mem]
theorem mv {f:aL} {S T:List Int} (h:∀z∈S,z∈T) {ign:Bool} {z:Int} (hs:jk f S ign z=true):jk f T ign z=true:=by
 unfold jk at hs ⊢
 rw [Bool.and_eq_true] at hs ⊢
 exact ⟨sP.2 ⟨(sP.1 hs.1).1,h _ (sP.1 hs.1).2⟩,hs.2⟩
theorem wF {h:jn} {p q:Int→Bool} (hpq:∀z,p z=true→q z=true) {z:Int} (hz:z∈lp h p):z∈lp h q:=by
 unfold lp at hz ⊢
 split
 ·rename_i hk
  rw [if_pos hk] at hz
  obtain ⟨x,hx,rfl⟩:=List.mem_map.1 hz
  rw [List.mem_filter] at hx
  exact List.mem_map.2 ⟨x,List.mem_filter.2 ⟨hx.1,hpq _ hx.2⟩,rfl⟩
 ·rename_i hk
  rw [if_neg hk] at hz
  exact hz
theorem lS {f:aL} {S T:List Int} (h:∀z∈S,z∈T) {x:jn} {z:Int} (hz:z∈eg f S x):z∈eg f T x:=by
 unfold eg at hz ⊢
 split at hz
 ·rename_i hc
  rw [if_pos]
  ·exact wF (fun _=>mv h) hz
  ·rw [List.all_eq_true] at hc ⊢
   intro s hs
   have:=hc s hs
   rw [List.any_eq_true] at this ⊢
   obtain ⟨y,hy,hp⟩:=this
   exact ⟨y,hy,mv h hp⟩
 ·cases hz
theorem tg {f:aL} {ks gs:List Int} {z:Int}:z∈fI f ks gs↔(z∈fM f (di f.Glyphs.length [] gs)∨∃h∈eZ f (di f.Lookups.length [] ks),z∈eg f (di f.Glyphs.length [] gs) h)∧0≤z∧z < f.Glyphs.length:=by
 unfold fI ej
 rw [gy,List.mem_append,List.mem_flatMap]
 constructor
 ·rintro (h | h)
  ·cases h
  ·exact h
 ·exact Or.inr
theorem pD {n:Nat} {a b:List Int} (h:∀z∈a,z∈b):∀z∈di n [] a,z∈di n [] b:=by
 intro z hz
 rcases gy.1 hz with k | ⟨k,k2⟩
 ·cases k
 ·exact gy.2 (Or.inr ⟨h z k,k2⟩)
theorem rj {f:aL} {ks ks' gs gs':List Int} (hk:∀z∈ks,z∈ks') (hg:∀z∈gs,z∈gs'):∀z∈fI f ks gs,z∈fI f ks' gs':=by
 intro z hz
 rw [tg] at hz ⊢
 refine ⟨?_,hz.2⟩
 rcases hz.1 with h | ⟨x,hx,h⟩
 ·refine Or.inl ?_
  unfold fM at h ⊢
  obtain ⟨y,hy,h⟩:=List.mem_flatMap.1 h
  exact List.mem_flatMap.2 ⟨y,pD hg y hy,h⟩
 ·refine Or.inr ⟨x,?_,lS (pD hg) h⟩
  unfold eZ at hx ⊢
  obtain ⟨y,hy,h⟩:=List.mem_flatMap.1 hx
  exact List.mem_flatMap.2 ⟨y,pD hk y hy,h⟩
end Go.Proofs.YtjjpkibjffmceaaGreat
namespace Go.Proofs.YtjjpkibjffmceaaGreat
section
variable {f:aL}
theorem Co {S T:List Int} (h:∀z∈S,z∈T) (x:jn):eg f T (adv f S x)=eg f T x:=by
 have hall:∀l:List (List Int),((l.dropWhile fun s=>s.any (jk f S x.ign)).all fun s=>s.any (jk f T x.ign))=l.all fun s=>s.any (jk f T x.ign):=by
  intro l
  induction l with
  | nil=>rfl
  | cons s l ih=>
   rw [List.dropWhile_cons]
   split
   ·rename_i hs
    have:(s.any (jk f T x.ign))=true:=by
     rw [List.any_eq_true] at hs ⊢
     obtain ⟨y,hy,hp⟩:=hs
     exact ⟨y,hy,mv h hp⟩
    rw [ih,List.all_cons,this,Bool.true_and]
   ·rfl
 unfold eg adv jn.rest
 dsimp only
 rw [hall]
 rfl
def lr (f:aL) (S:List Int) (hs hs':List jn):Prop:=∀T,(∀z∈S,z∈T)→hs.map (eg f T)=hs'.map (eg f T)
theorem lr.step {S:List Int} {hs hs':List jn} (h:lr f S hs hs') {T:List Int} (hT:∀z∈S,z∈T):ej f T hs=ej f T hs':=by
 unfold ej
 rw [List.flatMap_def,List.flatMap_def,h T hT]
theorem lr.adv {S:List Int} {hs hs':List jn} (h:lr f S hs hs') {T:List Int} (hT:∀z∈S,z∈T):lr f T (hs.map (adv f S)) hs':=by
 intro U hU
 rw [←h U fun z hz=>hU z (hT z hz),List.map_map]
 exact List.map_congr_left fun x _=>Co (fun z hz=>hU z (hT z hz)) x
theorem zw {S:List Int} {hs:List jn} {z:Int}:z∈ej f S hs↔(z∈fM f S∨∃h∈hs,z∈eg f S h)∧0≤z∧z < f.Glyphs.length:=by
 unfold ej
 rw [gy,List.mem_append,List.mem_flatMap]
 exact ⟨fun h=>h.elim (fun h=>by cases h) id,.inr⟩
theorem my {S T:List Int} (h:∀z∈S,z∈T) {hs:List jn} {z:Int} (hz:z∈ej f S hs):z∈ej f T hs:=by
 rw [zw] at hz ⊢
 refine ⟨?_,hz.2⟩
 rcases hz.1 with k | ⟨x,hx,k⟩
 ·refine .inl ?_
  unfold fM at k ⊢
  obtain ⟨y,hy,k⟩:=List.mem_flatMap.1 k
  exact List.mem_flatMap.2 ⟨y,h y hy,k⟩
 ·exact .inr ⟨x,hx,lS h k⟩
theorem Cb {S T:List Int} (hS:S.Nodup) (hT:T.Nodup) (h:∀z∈S,z∈T) (hl:T.length=S.length):∀z∈T,z∈S:=by
 intro z hz
 refine Classical.byContradiction fun hn=>?_
 have:=qz (S:=z::S) (T:=T) (List.nodup_cons.2 ⟨hn,hS⟩) fun y hy=>by
  rcases List.mem_cons.1 hy with rfl | hy
  ·exact hz
  ·exact h y hy
 rw [List.length_cons] at this
 omega
theorem uW (hs0:List jn):∀(k:Nat) (S:List Int) (hs:List jn),ci f.Glyphs.length S→f.Glyphs.length < S.length+k→lr f S hs hs0→∀K,ga f k S hs=K→ci f.Glyphs.length K∧(∀z∈S,z∈K)∧(∀z∈ej f K hs0,z∈K)∧∀C,(∀z∈S,z∈C)→(∀z∈ej f C hs0,z∈C)→∀z∈K,z∈C
 | 0,S,hs,hS,hl,_,K,_=>by have:=hS.len;omega
 | k+1,S,hs,hS,hl,hh,K,hK=>by
  have he:ej f S hs=ej f S hs0:=hh.step fun _ h=>h
  have hsub:=ow (hs:=hs) hS
  have hok:=nD f S hs
  rw [ga] at hK
  split at hK
  ·rename_i heq
   subst hK
   refine ⟨hS,fun _ h=>h,fun z hz=>?_,fun C hC _=>hC⟩
   rw [←he] at hz
   exact Cb hS.nodup hok.nodup hsub heq z hz
  ·rename_i hne
   have hlen:=qz hS.nodup hsub
   obtain ⟨h1,h2,h3,h4⟩:=uW hs0 k (ej f S hs) (hs.map (Go.Proofs.YtjjpkibjffmceaaGreat.adv f S)) hok (by omega) (hh.adv hsub) K hK
   refine ⟨h1,fun z hz=>h2 z (hsub z hz),h3,fun C hC hcl=>h4 C (fun z hz=>?_) hcl⟩
   rw [he] at hz
   exact hcl z (my hC hz)
theorem ci.start {n:Nat} {l:List Int}:ci n (di n [] l):=ci.nil.add _
structure EJ (f:aL) (rs:List Int) (fs:List ByteArray) (K:List Int):Prop where
 ok:ci f.Glyphs.length K
 start:∀z∈dg f rs,z∈K
 closed:∀z∈fI f (cW f fs) K,z∈K
 least:∀C,(∀z∈dg f rs,z∈C)→(∀z∈fI f (cW f fs) C,z∈C)→∀z∈K,z∈C
theorem qB {ks C:List Int} {z:Int} (hz:z∈fI f ks C):z∈ej f C (eZ f (di f.Lookups.length [] ks)):=by
 unfold fI at hz
 refine my (fun y hy=>?_) hz
 rcases gy.1 hy with k | k
 ·cases k
 ·exact k.1
theorem qT {ks C:List Int} {z:Int} (hC:∀z∈C,0≤z∧z < f.Glyphs.length) (hz:z∈ej f C (eZ f (di f.Lookups.length [] ks))):z∈fI f ks C:=by
 unfold fI
 exact my (fun y hy=>gy.2 (.inr ⟨hy,hC y hy⟩)) hz
theorem sS (rs:List Int) (fs:List ByteArray):EJ f rs fs (nd f rs fs):=by
 have hS:ci f.Glyphs.length (dg f rs):=ci.start
 obtain ⟨h1,h2,h3,h4⟩:=uW (f:=f) (eZ f (di f.Lookups.length [] (cW f fs))) (f.Glyphs.length+1) (dg f rs) _ hS (by omega) (fun T _=>rfl) _ rfl
 refine ⟨h1,h2,fun z hz=>h3 z (qB hz),fun C hC hcl z hz=>?_⟩
 have:=h4 (C.filter fun z=>decide (0≤z∧z < f.Glyphs.length)) (fun z hz=>List.mem_filter.2 ⟨hC z hz,decide_eq_true (hS.dom z hz)⟩) (fun z hz=>?_) z hz
 ·exact (List.mem_filter.1 this).1
 ·have hd:=(nD f _ _).dom z hz
  refine List.mem_filter.2 ⟨hcl z ?_,decide_eq_true hd⟩
  refine rj (fun _ h=>h) (fun y hy=>(List.mem_filter.1 hy).1) z (qT (fun y hy=>?_) hz)
  exact Iy (List.mem_filter.1 hy).2
end
end Go.Proofs.YtjjpkibjffmceaaGreat
namespace Go.Proofs.YtjjpkibjffmceaaGreat
open Go.RowKit
attribute [local irreducible] AT bW AX AO Av Kt bA eI DA dl
structure GV (f:aL) (rs rt:List Int) (fs ft:List ByteArray):Prop where
 runes:∀c∈f.Chars,(c.Rune∈rs↔c.Rune∈rt)
 names:∀t∈f.Features,gk fs t.Name=gk ft t.Name
end Go.Proofs.YtjjpkibjffmceaaGreat
namespace Go.Proofs.YtjjpkibjffmceaaGreat
section
variable {α β:Type}
def bZ (g:DM α) (P:α→Prop):Prop:=∀m,P (g m).1
theorem bZ.ret {x:α} {P:α→Prop} (h:P x):bZ (cQ x) P:=fun _=>h
theorem bZ.bnd {g:DM α} {k:α→DM β} {P:α→Prop} {Q:β→Prop} (h:bZ g P) (hk:∀x,P x→bZ (k x) Q):bZ (co g k) Q:=fun m=>hk _ (h m) _
theorem bZ.mono {g:DM α} {P Q:α→Prop} (h:bZ g P) (hq:∀x,P x→Q x):bZ g Q:=fun m=>hq _ (h m)
theorem bZ.any (g:DM α):bZ g fun _=>True:=fun _=>trivial
theorem bZ.runs {g:Nat→β→DM β} (I:Nat→β→Prop) {b:β}:∀(k:Nat),I 0 b→(∀i l,i < k→I i l→bZ (g i l) (I (i+1)))→bZ (ii g b k) (I k)
 | 0,h0,_=>bZ.ret h0
 | k+1,h0,hs=>bZ.bnd (bZ.runs I k h0 fun i l hi hl=>hs i l (by omega) hl) fun l hl=>hs k l (by omega) hl
theorem bZ.ite {c:Prop} [Decidable c] {g k:DM α} {P:α→Prop} (h:c→bZ g P) (h':¬c→bZ k P):bZ (if c then g else k) P:=by
 split
 ·exact h ‹_›
 ·exact h' ‹_›
end
variable (s:List Int)
theorem D4 (a:Nat) {n:Int} (hn:0 < n):0≤sJ s a n∧sJ s a n < n:=by
 unfold sJ
 split
 ·rename_i x _
  exact ⟨Int.emod_nonneg x (by omega),Int.emod_lt_of_pos x hn⟩
 ·omega
theorem df {n:Int} (hn:0 < n):bZ (dr s n) fun z=>0≤z∧z < n:=fun m=>D4 s m.a hn
def uQ (p:eP):Prop:= -100≤p.X∧p.X≤900∧-200≤p.Y∧p.Y≤800
theorem FG (p:Nat):bZ (ED s p) uQ:=by
 refine (df s (by omega)).bnd fun x hx=>(df s (by omega)).bnd fun y hy=>bZ.ite (fun _=>bZ.ret ?_) fun _=>(bZ.any _).bnd fun z _=>bZ.ret ?_
 all_goals (unfold uQ;dsimp only;omega)
theorem xo (l:List eP) (hl:∀p∈l,uQ p) (k:Nat):bZ (ol s l k) fun q=>q.length=l.length+k∧∀p∈q,uQ p:=by
 refine bZ.runs (fun i (q:List eP)=>q.length=l.length+i∧∀p∈q,uQ p) k ⟨rfl,hl⟩ fun i q _ ⟨h1,h2⟩=>(FG s i).bnd fun t ht=>bZ.ret ⟨by simp;omega,fun p hp=>?_⟩
 rcases Il hp with hp | hp
 ·exact h2 p hp
 ·rw [Ik hp];exact ht
theorem rK {n m:Int} (h:n+2≤m):∀(l:List Int) (last:Int),fD n last l=true→fD m last (l++[m - 1])=true
 | [],last,hl=>by
  have:last=n - 1:=Iy hl
  rw [Iq,fD,if_neg (by omega),fD]
  simp
 | e::l,last,hl=>by
  rw [fD] at hl
  split at hl
  ·cases hl
  ·rw [Ir,fD,if_neg (by omega)]
   exact rK h l e hl
structure tC (n:Nat) (o:List eP×List Int):Prop where
 pts:∀p∈o.1,uQ p
 len:o.1.length≤5 * n
 ends:fD o.1.length (-1) o.2=true
 endl:o.2.length=n
theorem uK (n:Nat):bZ (iA s n) (tC n):=by
 refine bZ.runs (fun i o=>tC i o) n ⟨fun p hp=>(by cases hp),Nat.le_refl _,rfl,rfl⟩ fun i o _ h=>(df s (by omega)).bnd fun k hk=>(xo s o.1 h.pts _).bnd fun l hl=>bZ.ret ?_
 refine ⟨hl.2,by have:=h.len;dsimp only;omega,?_,by simp [h.endl]⟩
 dsimp only
 exact rK (by omega) _ _ h.ends
theorem oV:bZ (jJ s) fun o=>∃n,n≤2∧tC n o:=by
 refine (df s (by omega)).bnd fun n hn=>(uK s _).mono fun o ho=>⟨_,by omega,ho⟩
def jh (i:eL):Prop:=1≤i.Op∧i.Op≤39∧-100000≤i.A∧i.A≤100000
def gQ (k:Nat) (l:List eL):Prop:=l.length≤k∧∀i∈l,jh i
theorem sa {n funcs:Int} (hn:0≤n∧n≤1000) (hf:funcs≤1000):bZ (cU s n funcs) (gQ 9):=by
 have hsz:∀q,0≤q→q < n+1→bZ (gW q) (gQ 9):=fun q h0 h1=>bZ.ret ⟨by simp,by simp only [List.mem_cons,List.not_mem_nil,or_false,forall_eq_or_imp,forall_eq,jh];omega⟩
 unfold cU
 refine (df s (by omega)).bnd fun p hp=>(df s (by omega)).bnd fun q hq=>(df s (by omega)).bnd fun a ha=>(df s (by omega)).bnd fun k hk=>?_
 refine bZ.ite (fun _=>bZ.ret ?_) fun _=>?_
 ·exact ⟨by simp,by simp only [List.mem_cons,List.not_mem_nil,or_false,forall_eq_or_imp,forall_eq,jh];omega⟩
 refine bZ.ite (fun _=>(df s (by omega)).bnd fun z hz=>bZ.ret ?_) fun _=>?_
 ·exact ⟨by simp,by simp only [List.mem_cons,List.not_mem_nil,or_false,forall_eq_or_imp,forall_eq,jh];omega⟩
 refine bZ.ite (fun _=>bZ.ret ?_) fun _=>?_
 ·exact ⟨by simp,by simp only [List.mem_cons,List.not_mem_nil,or_false,forall_eq_or_imp,forall_eq,jh];omega⟩
 refine bZ.ite (fun _=>(df s (by omega)).bnd fun z hz=>bZ.ret ?_) fun _=>?_
 ·exact ⟨by simp,by simp only [List.mem_cons,List.not_mem_nil,or_false,forall_eq_or_imp,forall_eq,jh];omega⟩
 refine bZ.ite (fun _=>bZ.ret ?_) fun _=>?_
 ·exact ⟨by simp,by simp only [List.mem_cons,List.not_mem_nil,or_false,forall_eq_or_imp,forall_eq,jh];omega⟩
 refine bZ.ite (fun _=>bZ.ret ?_) fun _=>?_
 ·exact ⟨by simp,by simp only [List.mem_cons,List.not_mem_nil,or_false,forall_eq_or_imp,forall_eq,jh];omega⟩
 refine bZ.ite (fun _=>bZ.ret ?_) fun _=>?_
 ·exact ⟨by simp,by simp only [List.mem_cons,List.not_mem_nil,or_false,forall_eq_or_imp,forall_eq,jh];omega⟩
 refine bZ.ite (fun _=>bZ.ite (fun _=>(df s (by omega)).bnd fun z hz=>bZ.ret ?_) fun _=>hsz q hq.1 hq.2) fun _=>?_
 ·exact ⟨by simp,by simp only [List.mem_cons,List.not_mem_nil,or_false,forall_eq_or_imp,forall_eq,jh];omega⟩
 refine bZ.ite (fun _=>bZ.ite (fun _=>(bZ.any _).bnd fun lo _=>bZ.ite (fun _=>(bZ.any _).bnd fun _ _=>(df s (by omega)).bnd fun y hy=>(df s (by omega)).bnd fun z hz=>bZ.ret ?_) fun _=>hsz q hq.1 hq.2) fun _=>hsz q hq.1 hq.2) fun _=>?_
 ·exact ⟨by simp,by simp only [List.mem_cons,List.not_mem_nil,or_false,forall_eq_or_imp,forall_eq,jh];omega⟩
 refine bZ.ite (fun _=>bZ.ret ?_) fun _=>hsz q hq.1 hq.2
 exact ⟨by simp,by simp only [List.mem_cons,List.not_mem_nil,or_false,forall_eq_or_imp,forall_eq,jh];omega⟩
theorem uq {n funcs most:Int} (hn:0≤n∧n≤1000) (hf:funcs≤1000) (hm:0 < most∧most≤6):bZ (nc s n funcs most) (gQ 45):=by
 refine (df s hm.1).bnd fun k hk=>?_
 refine (bZ.runs (fun i l=>gQ (9 * i) l) k.toNat ⟨Nat.le_refl _,fun i hi=>by cases hi⟩ fun i l _ h=>(sa s hn hf).bnd fun p hp=>bZ.ret ⟨by rw [List.length_append];have:=h.1;have:=hp.1;omega,fun x hx=>?_⟩).mono fun l h=>⟨by have:=h.1;omega,h.2⟩
 rcases Il hx with hx | hx
 ·exact h.2 x hx
 ·exact hp.2 x hx
structure ss (n:Int) (l:List Int):Prop where
  ne:l≠[]
  few:l.length≤4
  up:l.Pairwise (· < ·)
  dom:∀z∈l,0≤z∧z < n
theorem pw {n:Int} (hn:0 < n):bZ (nC s n) (ss n):=by
  refine (df s hn).bnd fun a ha=>?_
  refine (bZ.runs (fun i (l:List Int)=>(l≠[]∧l.length≤4∧l.Pairwise (· < ·))∧∀z∈l,0≤z∧z≤a+i) (n - (a+1)).toNat ⟨⟨by simp,by simp,by simp⟩,fun z hz=>?_⟩ fun i l hi ⟨⟨h1,h2,h3⟩,h4⟩=>?_).mono fun l ⟨⟨h1,h2,h3⟩,h4⟩=>⟨h1,h2,h3,fun z hz=>by have:=h4 z hz;omega⟩
  · rw [Ik hz];omega
  · refine bZ.ite (fun h5=>(bZ.any _).bnd fun z _=>bZ.ret ?_) fun _=>bZ.ret ⟨⟨h1,h2,h3⟩,fun z hz=>by have:=h4 z hz;omega⟩
    split
    · refine ⟨⟨by simp,by simp;omega,?_⟩,fun z hz=>?_⟩
      · rw [List.pairwise_append]
        exact ⟨h3,List.pairwise_singleton ..,fun x hx y hy=>by rw [Ik hy];have:=h4 x hx;omega⟩
      · rcases Il hz with hz | hz
        · have:=h4 z hz;omega
        · rw [Ik hz];omega
    · exact ⟨⟨h1,h2,h3⟩,fun z hz=>by have:=h4 z hz;omega⟩
def fe (n:Int) (k:Nat) (l:List (List Int)):Prop:=l.length≤k∧∀q∈l,ss n q
theorem ny {n:Int} (hn:0 < n):bZ (ph s n 2) (fe n 2):=by
 refine (df s (by omega)).bnd fun k hk=>?_
 refine (bZ.runs (fun i l=>fe n i l) k.toNat ⟨Nat.le_refl _,fun i hi=>by cases hi⟩ fun i l _ h=>(pw s hn).bnd fun p hp=>bZ.ret ⟨by rw [List.length_append];have:=h.1;simp;omega,fun x hx=>?_⟩).mono fun l h=>⟨by have:=h.1;omega,h.2⟩
 rcases Il hx with hx | hx
 ·exact h.2 x hx
 ·rw [Ik hx];exact hp
theorem xi {n:Int} (hn:0 < n) (k:Nat):bZ (gu s n k) fun l=>l.length=k∧∀z∈l,0≤z∧z < n:=by
 refine bZ.runs (fun i (l:List Int)=>l.length=i∧∀z∈l,0≤z∧z < n) k ⟨rfl,fun z hz=>by cases hz⟩ fun i l _ ⟨h1,h2⟩=>(df s hn).bnd fun x hx=>bZ.ret ⟨by simp [h1],fun z hz=>?_⟩
 rcases Il hz with hz | hz
 ·exact h2 z hz
 ·rw [Ik hz];exact hx
structure mJ (n kind:Int) (calls:List Int) (r:bX):Prop where
 back:fe n 2 r.Back
 ahead:fe n 2 r.Ahead
 ins:fe n 3 r.In
 rows:fo kind r=false
 out:pf kind r=true
 outs:r.Out.length≤4∧∀z∈r.Out,0≤z∧z < n
 callsN:r.Calls.length≤2
 callsK:kind≠4→r.Calls=[]
 callsIn:∀c∈r.Calls,(0≤c.At∧c.At < r.In.length)∧c.Lookup∈calls
 x: -200≤r.X∧r.X≤200
 x0:kind≠6→r.X=0
theorem fe.nil (n:Int) (k:Nat):fe n k []:=⟨Nat.zero_le _,fun q hq=>by cases hq⟩
theorem fe.one {n:Int} {a:List Int} (h:ss n a):fe n 3 [a]:=⟨by simp,fun q hq=>by rw [Ik hq];exact h⟩
theorem fe.cons {n:Int} {a:List Int} (h:ss n a) {l:List (List Int)} (hl:fe n 2 l):fe n 3 (a::l):=⟨by have:=hl.1;simp;omega,fun q hq=>by
 rcases List.mem_cons.1 hq with rfl | hq
 ·exact h
 ·exact hl.2 q hq⟩
theorem xU {n:Int} (hn:0 < n) (calls:List Int) (k:Nat):bZ (fB s n calls (if calls.length=0 then 0 else k)) fun c=>c.length≤k∧∀x∈c,(0≤x.At∧x.At < n)∧x.Lookup∈calls:=by
 by_cases h0:calls.length=0
 ·rw [if_pos h0]
  exact bZ.ret ⟨Nat.zero_le _,fun x hx=>by cases hx⟩
 rw [if_neg h0]
 refine (bZ.runs (fun i (l:List gw)=>l.length=i∧∀x∈l,(0≤x.At∧x.At < n)∧x.Lookup∈calls) k ⟨rfl,fun z hz=>by cases hz⟩ fun i l _ ⟨h1,h2⟩=>(df s hn).bnd fun a ha=>(df s (by omega)).bnd fun z hz=>bZ.ret ⟨by simp [h1],fun x hx=>?_⟩).mono fun l h=>⟨Nat.le_of_eq h.1,h.2⟩
 rcases Il hx with hx | hx
 ·exact h2 x hx
 ·rw [Ik hx]
  refine ⟨ha,?_⟩
  have hlt:z.toNat < calls.length:=by omega
  rw [List.getD_eq_getElem?_getD,Iz hlt]
  exact List.getElem_mem hlt
theorem C8 {n kind:Int} (hn:0 < n) (hk:1≤kind∧kind≤6) (calls:List Int):bZ (gN s n kind calls) (mJ n kind calls):=by
 have hsides:bZ (js s n) fun e=>fe n 2 e.1∧fe n 2 e.2:=by
  refine (bZ.any _).bnd fun z _=>bZ.ite (fun _=>(ny s hn).bnd fun b hb=>(ny s hn).bnd fun c hc=>bZ.ret ⟨hb,hc⟩) fun _=>bZ.ret ⟨fe.nil ..,fe.nil ..⟩
 refine (pw s hn).bnd fun a ha=>bZ.ite (fun hk6=>(pw s hn).bnd fun b hb=>(df s (by omega)).bnd fun x hx=>bZ.ret ?_) fun hk6=>hsides.bnd fun e he=>?_
 ·subst hk6
  exact ⟨fe.nil ..,fe.nil ..,⟨by simp,by simp [ha,hb]⟩,by simp [fo],by simp [pf],⟨by simp,by simp⟩,by simp,fun _=>rfl,by simp,by dsimp only;omega,fun h=>absurd rfl h⟩
 refine bZ.ite (fun h15=>(xi s hn _).bnd fun o ho=>bZ.ret ?_) fun h15=>?_
 ·refine ⟨he.1,he.2,fe.one ha,?_,?_,⟨by rw [ho.1];exact ha.few,ho.2⟩,by simp,fun _=>rfl,by simp,by simp,fun _=>rfl⟩
  ·unfold fo;rw [if_pos (by omega)];simp
  ·unfold pf;rw [if_pos h15];simp [ho.1]
 refine bZ.ite (fun h2=>(df s (by omega)).bnd fun k hk=>(xi s hn _).bnd fun o ho=>bZ.ret ?_) fun h2=>?_
 ·subst h2
  exact ⟨he.1,he.2,fe.one ha,by simp [fo],by simp only [pf];simp;omega,⟨by dsimp only;omega,ho.2⟩,by simp,fun _=>rfl,by simp,by simp,fun _=>rfl⟩
 refine bZ.ite (fun h3=>(ny s hn).bnd fun m hm=>(df s hn).bnd fun o ho=>bZ.ret ?_) fun h3=>?_
 ·subst h3
  exact ⟨he.1,he.2,fe.cons ha hm,by simp [fo];omega,by simp [pf],⟨by simp,fun z hz=>by rw [Ik hz];exact ho⟩,by simp,fun _=>rfl,by simp,by simp,fun _=>rfl⟩
 have h4:kind=4:=by omega
 subst h4
 refine (ny s hn).bnd fun m hm=>(df s (by omega)).bnd fun k hk=>(xU s (by simp) calls _).bnd fun c hc=>bZ.ret ?_
 exact ⟨he.1,he.2,fe.cons ha hm,by simp [fo];omega,by simp [pf],⟨by simp,by simp⟩,by have:=hc.1;dsimp only;omega,fun h=>absurd rfl h,fun x hx=>hc.2 x hx,by simp,fun _=>rfl⟩
theorem Bi {z:Int} (h:0≤z∧z < 10):1≤g8.getD z.toNat 0∧g8.getD z.toNat 0≤8:=by
 have:∀k < 10,1≤g8.getD k 0∧g8.getD k 0≤8:=by decide
 exact this _ (by omega)
structure El (k:Nat) (o:List bb×List Int):Prop where
 len:o.1.length=k
 kinds:∀l∈o.1,1≤l.Kind∧l.Kind≤8
 none:∀l∈o.1,l.Rules=[]
 calls:∀c∈o.2,∃(i:Nat) (l:bb),c=i∧o.1[i]?=some l∧l.Kind≤4
theorem rV (k:Nat):bZ (eY s k) (El k):=by
 refine bZ.runs (fun i o=>El i o) k ⟨rfl,fun l hl=>(by cases hl),fun l hl=>(by cases hl),fun c hc=>(by cases hc)⟩ fun i o hi h=>(df s (by omega)).bnd fun z hz=>(bZ.any _).bnd fun y _=>bZ.ret ?_
 have hkz:=Bi hz
 have hold:∀c∈o.2,∃(i:Nat) (l:bb),c=i∧(o.1++[⟨g8.getD z.toNat 0,decide (y=0),[]⟩])[i]?=some l∧l.Kind≤4:=fun c hc=>by
  obtain ⟨j,l,h1,h2,h3⟩:=h.calls c hc
  exact ⟨j,l,h1,by rw [List.getElem?_append_left (Io h2).1];exact h2,h3⟩
 refine ⟨by simp [h.len],fun l hl=>?_,fun l hl=>?_,fun c hc=>?_⟩
 ·rcases Il hl with hl | hl
  ·exact h.kinds l hl
  ·rw [Ik hl];exact hkz
 ·rcases Il hl with hl | hl
  ·exact h.none l hl
  ·rw [Ik hl]
 ·dsimp only at hc ⊢
  split at hc
  ·rename_i h4
   rcases Il hc with hc | hc
   ·exact hold c hc
   ·exact ⟨i,_,Ik hc,by rw [←h.len,List.getElem?_append_right (Nat.le_refl _),Nat.sub_self];rfl,h4⟩
  ·exact hold c hc
structure zL (n:Int) (calls:List Int) (kinds:List Int) (l:List bb):Prop where
 kind:l.map bb.Kind=kinds
 few:∀q∈l,q.Rules.length≤3
 none:∀q∈l,7≤q.Kind→q.Rules=[]
 rule:∀q∈l,∀r∈q.Rules,mJ n q.Kind calls r
theorem AZ {n:Int} (hn:0 < n) (calls kinds:List Int) (hkd:∀z∈kinds,1≤z∧z≤8) {l:List bb} (hl:zL n calls kinds l) (hno:∀q∈l,q.Rules=[]) (k:Nat):bZ (fE s n calls l k) (zL n calls kinds):=by
 refine (bZ.runs (fun i q=>zL n calls kinds q∧∀(j:Nat) x,i≤j→q[j]?=some x→x.Rules=[]) k ⟨hl,fun j x _ hx=>hno x (Iw hx)⟩ fun i q hi ⟨h,h0⟩=>?_).mono fun _ h=>h.1
 cases hq:q[i]? with
 | none=>exact bZ.ret ⟨h,fun j x hj hx=>h0 j x (by omega) hx⟩
 | some x=>
  dsimp only
  refine bZ.ite (fun h7=>bZ.ret ⟨h,fun j x hj hx=>h0 j x (by omega) hx⟩) fun h7=>(df s (by omega)).bnd fun c hc=>?_
  have hxm:=Iw hq
  have hxk:x.Kind∈kinds:=by rw [←h.kind];exact List.mem_map_of_mem hxm
  have hxk:=hkd _ hxk
  have hr:bZ (fw s n x.Kind calls (1+c).toNat) fun rs=>rs.length≤3∧∀r∈rs,mJ n x.Kind calls r:=by
   refine (bZ.runs (fun i rs=>rs.length=i∧∀r∈rs,mJ n x.Kind calls r) (1+c).toNat ⟨rfl,fun r hr=>by cases hr⟩ fun i rs _ ⟨h1,h2⟩=>(C8 s hn (by omega) calls).bnd fun r hr=>bZ.ret ⟨by simp [h1],fun y hy=>?_⟩).mono fun rs ⟨h1,h2⟩=>⟨by omega,h2⟩
   rcases Il hy with hy | hy
   ·exact h2 y hy
   ·rw [Ik hy];exact hr
  refine hr.bnd fun rs ⟨hr1,hr2⟩=>bZ.ret ⟨⟨?_,fun y hy=>?_,fun y hy h7'=>?_,fun y hy r hr=>?_⟩,fun j y hj hy=>?_⟩
  ·rw [←h.kind]
   apply List.ext_getElem?
   intro j
   rw [List.getElem?_map,List.getElem?_map]
   by_cases e:i=j
   ·subst e
    rw [List.getElem?_set_self (Io hq).1,hq]
    rfl
   ·rw [List.getElem?_set_ne e]
  ·rcases List.mem_or_eq_of_mem_set hy with hy | hy
   ·exact h.few y hy
   ·rw [hy];exact hr1
  ·rcases List.mem_or_eq_of_mem_set hy with hy | hy
   ·exact h.none y hy h7'
   ·rw [hy] at h7';exact absurd h7' h7
  ·rcases List.mem_or_eq_of_mem_set hy with hy | hy
   ·exact h.rule y hy r hr
   ·rw [hy] at hr ⊢;exact hr2 r hr
  ·rw [List.getElem?_set_ne (by omega)] at hy
   exact h0 j y (by omega) hy
structure zM (n:Int) (l:List bb):Prop where
 len:l.length≤6
 kinds:∀q∈l,1≤q.Kind∧q.Kind≤8
 few:∀q∈l,q.Rules.length≤3
 none:∀q∈l,7≤q.Kind→q.Rules=[]
 rule:∀q∈l,∀r∈q.Rules,∃calls,mJ n q.Kind calls r∧∀c∈calls,∃(i:Nat) (x:bb),c=i∧l[i]?=some x∧x.Kind≤4
theorem oT {n:Int} (hn:0 < n):bZ (iW s n) (zM n):=by
 refine (df s (by omega)).bnd fun k hk=>(rV s k.toNat).bnd fun o ho=>?_
 refine (AZ s hn o.2 (o.1.map bb.Kind) (fun z hz=>?_) (l:=o.1) ⟨rfl,fun q hq=>by rw [ho.none q hq];exact Nat.zero_le _,fun q hq _=>ho.none q hq,fun q hq r hr=>by rw [ho.none q hq] at hr;cases hr⟩ ho.none k.toNat).mono fun l hl=>?_
 ·obtain ⟨q,hq,rfl⟩:=List.mem_map.1 hz
  exact ho.kinds q hq
 have hlen:l.length=o.1.length:=by have:=congrArg List.length hl.kind;simpa using this
 have hat:∀(i:Nat) (y:bb),o.1[i]?=some y→∃x,l[i]?=some x∧x.Kind=y.Kind:=fun i y hy=>by
  have hi:i < l.length:=by rw [hlen];exact (Io hy).1
  refine ⟨_,Iz hi,?_⟩
  have:=congrArg (fun q:List Int=>q[i]?) hl.kind
  simp only [List.getElem?_map,hy,Iz hi,Option.map_some] at this
  exact Option.some.inj this
 refine ⟨by rw [hlen,ho.len];omega,fun q hq=>?_,hl.few,hl.none,fun q hq r hr=>⟨o.2,hl.rule q hq r hr,fun c hc=>?_⟩⟩
 ·have:q.Kind∈o.1.map bb.Kind:=by rw [←hl.kind];exact List.mem_map_of_mem hq
  obtain ⟨y,hy,he⟩:=List.mem_map.1 this
  rw [←he]
  exact ho.kinds y hy
 ·obtain ⟨i,y,h1,h2,h3⟩:=ho.calls c hc
  obtain ⟨x,h4,h5⟩:=hat i y h2
  exact ⟨i,x,h1,h4,by omega⟩
end Go.Proofs.YtjjpkibjffmceaaGreat
namespace Go.Proofs.YtjjpkibjffmceaaGreat
variable (s:List Int)
def kD (a:dT):Int×Int:=(a.Kind,a.Class)
structure Cy (cl:Int) (mark:Bool) (l:List dT):Prop where
 sub:(l.map kD).Sublist (fy cl)
 at':∀a∈l,(0≤a.X∧a.X≤1000)∧(-200≤a.Y∧a.Y≤800)∧(a.Kind=2→mark=true)
theorem tH {cl:Int} {i:Nat} (h:i < 5):(fy cl)[i]?=some ((fy cl).getD i (0,0)):=by
 rw [List.getD_eq_getElem?_getD,Iz (show i < (fy cl).length from h)]
 rfl
theorem tI (mark:Bool) (cl:Int):bZ (fj s mark cl 5) (Cy cl mark):=by
 refine (bZ.runs (b:=[]) (fun i (l:List dT)=>(l.map kD).Sublist ((fy cl).take i)∧∀a∈l,(0≤a.X∧a.X≤1000)∧(-200≤a.Y∧a.Y≤800)∧(a.Kind=2→mark=true)) 5 ⟨List.nil_sublist _,fun a ha=>by cases ha⟩ fun i l hi ⟨h1,h2⟩=>(bZ.any _).bnd fun z _=>bZ.ite (fun h3=>(df s (by omega)).bnd fun x hx=>(df s (by omega)).bnd fun y hy=>bZ.ret ⟨?_,fun a ha=>?_⟩) fun _=>bZ.ret ⟨?_,h2⟩).mono fun l ⟨h1,h2⟩=>⟨h1,h2⟩
 ·rw [List.take_add_one,tH hi,List.map_append]
  exact h1.append (List.Sublist.refl _)
 ·rcases Il ha with ha | ha
  ·exact h2 a ha
  ·rw [Ik ha]
   refine ⟨by dsimp only;omega,by dsimp only;omega,fun hk=>?_⟩
   rcases h3.2 with h4 | h4
   ·exact absurd hk h4
   ·exact h4
 ·rw [List.take_add_one]
  exact h1.trans (List.sublist_append_left _ _)
def H0 (a b:eb):Prop:=a.Region < b.Region∨(a.Region=b.Region∧a.Point < b.Point)
structure CC (R pts:Nat) (l:List eb):Prop where
 up:l.Pairwise H0
 len:l.length≤R * (pts+1)
 dom:∀d∈l,(0≤d.Region∧d.Region < R)∧(-1≤d.Point∧d.Point < pts)∧(-20≤d.X∧d.X≤20)∧(-20≤d.Y∧d.Y≤20)∧(d.Point= -1→d.Y=0)
structure tz (r p pts:Nat) (l:List eb):Prop where
 up:l.Pairwise H0
 len:l.length≤r * (pts+1)+p
 dom:∀d∈l,(0≤d.Region∧(d.Region < r∨(d.Region=r∧d.Point < (p:Int) - 1)))∧(-1≤d.Point∧d.Point < pts)∧(-20≤d.X∧d.X≤20)∧(-20≤d.Y∧d.Y≤20)∧(d.Point= -1→d.Y=0)
theorem tz.more {r p pts:Nat} {l:List eb} (h:tz r p pts l):tz r (p+1) pts l:=⟨h.up,by have:=h.len;omega,fun d hd=>by have:=h.dom d hd;omega⟩
theorem tz.add {r p pts:Nat} {l:List eb} (h:tz r p pts l) {x y:Int} (hp:p≤pts) (hx: -20≤x∧x≤20) (hy: -20≤y∧y≤20) (h0:p=0→y=0):tz r (p+1) pts (l++[⟨r,(p:Int) - 1,x,y⟩]):=by
 refine ⟨?_,by have:=h.len;simp;omega,fun d hd=>?_⟩
 ·rw [List.pairwise_append]
  refine ⟨h.up,List.pairwise_singleton ..,fun a ha b hb=>?_⟩
  rw [Ik hb]
  have:=h.dom a ha
  unfold H0
  dsimp only
  omega
 ·rcases Il hd with hd | hd
  ·have:=h.dom d hd;omega
  ·rw [Ik hd]
   dsimp only
   refine ⟨by omega,by omega,hx,hy,fun hq=>h0 (by omega)⟩
theorem pZ (pts R:Nat):bZ (gC s pts R) (CC R pts):=by
 refine (bZ.runs (fun r l=>tz r 0 pts l) R ⟨.nil,by simp,fun d hd=>by cases hd⟩ fun r l _ h=>?_).mono fun l h=>⟨h.up,h.len,fun d hd=>by have:=h.dom d hd;omega⟩
 refine (bZ.runs (fun p l=>tz r p pts l) (pts+1) h fun p l hp h=>(bZ.any _).bnd fun z _=>bZ.ite (fun _=>(df s (by omega)).bnd fun x hx=>bZ.ite (fun h0=>bZ.ret ?_) fun h0=>(df s (by omega)).bnd fun y hy=>bZ.ret ?_) fun _=>bZ.ret h.more).mono fun l h=>⟨h.up,by have:=h.len;rw [Nat.add_mul];omega,fun d hd=>by have:=h.dom d hd;omega⟩
 ·subst h0
  exact h.add (by omega) (by omega) (by omega) fun _=>rfl
 ·exact h.add (by omega) (by omega) (by omega) fun e=>absurd e h0
structure xH (R n:Nat) (g:br):Prop where
 name:g.Name=cT n
 adv:100≤g.Advance∧g.Advance≤1000
 out:∃k,k≤2∧tC k (g.Points,g.Ends)
 parts:g.Parts=[]∨(1 < n∧∃x y:Int,g.Parts=[⟨1,x,y⟩]∧(-200≤x∧x≤200)∧0≤y∧y≤200)
 anch:∃cl,(0≤cl∧cl < 2)∧Cy cl g.Mark g.Anchors
 dels:CC R g.Points.length g.Deltas
 hint:gQ 45 g.Hint
theorem yn {R fn n:Nat} (hf:fn≤1000):bZ (km s R fn n) (xH R n):=by
 have hparts:bZ (j4 s n) fun ps=>ps=[]∨(1 < n∧∃x y:Int,ps=[⟨1,x,y⟩]∧(-200≤x∧x≤200)∧0≤y∧y≤200):=by
  refine bZ.ite (fun h1=>(bZ.any _).bnd fun z _=>bZ.ite (fun _=>(df s (by omega)).bnd fun x hx=>(df s (by omega)).bnd fun y hy=>bZ.ret (.inr ⟨h1,_,_,rfl,by omega,by omega⟩)) fun _=>bZ.ret (.inl rfl)) fun _=>bZ.ret (.inl rfl)
 refine (df s (by omega)).bnd fun ad had=>(bZ.any _).bnd fun mk _=>(oV s).bnd fun o ho=>hparts.bnd fun ps hps=>(df s (by omega)).bnd fun cl hcl=>(tI s _ cl).bnd fun an han=>(pZ s _ R).bnd fun de hde=>(bZ.any _).bnd fun _ _=>?_
 have hl:o.1.length≤10:=by obtain ⟨k,h1,h2⟩:=ho;have:=h2.len;omega
 exact (uq s (n:=o.1.length) (funcs:=fn) (most:=6) (by omega) (by omega) (by omega)).bnd fun h hh=>bZ.ret ⟨rfl,by dsimp only;omega,ho,hps,⟨cl,hcl,han⟩,hde,hh⟩
def mC (t:eu):Prop:=qW 0 t=0
structure fc (f:aL):Prop where
  unit:16≤f.Unit∧f.Unit≤4096
  glyN:2≤f.Glyphs.length∧f.Glyphs.length≤10
  gly:∀(i:Nat) g,f.Glyphs[i]?=some g→xH f.Regions.length i g
  chars:f.Chars.length≤16
  charR:(f.Chars.map eN.Rune).Sublist fx
  charG:∀c∈f.Chars,0≤c.Glyph∧c.Glyph < f.Glyphs.length
  looks:zM f.Glyphs.length f.Lookups
  featN:(f.Features.map bL.Name).Sublist eG
  featL:∀t∈f.Features,t.Lookups.Pairwise (· < ·)∧t.Lookups.length≤6∧∀z∈t.Lookups,0≤z∧z < f.Lookups.length
  axes:f.Axes.length≤2
  axisN:f.Axes.map eM.Name=(List.range f.Axes.length).map (iV sA)
  axis:∀a∈f.Axes,(-200≤a.Min∧a.Min≤0)∧a.Def=0∧0≤a.Max∧a.Max≤300
  regs:f.Regions.length≤3
  reg:∀r∈f.Regions,r.length=f.Axes.length∧∀t∈r,mC t
  funcs:f.Funcs.length≤2
  func:∀c∈f.Funcs,gQ 45 c
  cvt:f.Cvt.length≤3
  cvtM:∀z∈f.Cvt,-100≤z∧z < 400
theorem ul {α:Type} {l:List α} {i:Nat} (h:i < l.length) (d:α):l.getD i d∈l:=by
 rw [List.getD_eq_getElem?_getD,Iz h]
 exact List.getElem_mem h
theorem lA {α:Type} {l:List α} {i:Nat} (h:i < l.length) (d:α):l[i]?=some (l.getD i d):=by
 rw [List.getD_eq_getElem?_getD,Iz h]
 rfl
theorem Bw:bZ (Bv s) fc:=by
  have hax:∀k:Nat,bZ (kM s k) fun l=>l.length=k∧l.map eM.Name=(List.range k).map (iV sA)∧∀a∈l,(-200≤a.Min∧a.Min≤0)∧a.Def=0∧0≤a.Max∧a.Max≤300:=fun k=>by
    refine bZ.runs (fun i (l:List eM)=>l.length=i∧l.map eM.Name=(List.range i).map (iV sA)∧∀a∈l,(-200≤a.Min∧a.Min≤0)∧a.Def=0∧0≤a.Max∧a.Max≤300) k ⟨rfl,rfl,fun a ha=>by cases ha⟩ fun i l _ ⟨h1,h2,h3⟩=>(df s (by omega)).bnd fun a ha=>(df s (by omega)).bnd fun b hb=>bZ.ret ⟨by simp [h1],by simp [h2,List.range_succ],fun x hx=>?_⟩
    rcases Il hx with hx | hx
    · exact h3 x hx
    · rw [Ik hx];dsimp only;omega
  have hrg:∀k:Nat,bZ (gd s k) fun l=>l.length≤3∧∀r∈l,r.length=k∧∀t∈r,mC t:=fun k=>by
    refine bZ.ite (fun _=>bZ.ret ⟨Nat.zero_le _,fun r hr=>by cases hr⟩) fun _=>(df s (by omega)).bnd fun n hn=>?_
    refine (bZ.runs (fun i (l:List (List eu))=>l.length=i∧∀r∈l,r.length=k∧∀t∈r,mC t) n.toNat ⟨rfl,fun a ha=>by cases ha⟩ fun i l _ ⟨h1,h2⟩=>?_).mono fun l ⟨h1,h2⟩=>⟨by omega,h2⟩
    refine (bZ.runs (fun i (r:List eu)=>r.length=i∧∀t∈r,mC t) k ⟨rfl,fun a ha=>by cases ha⟩ fun i r _ ⟨h1,h2⟩=>(df s (by omega)).bnd fun z hz=>bZ.ret ⟨by simp [h1],fun x hx=>?_⟩).bnd fun r hr=>bZ.ret ⟨by simp [h1],fun x hx=>?_⟩
    · rcases Il hx with hx | hx
      · exact h2 x hx
      · rw [Ik hx]
        have:∀t∈kw,mC t:=by unfold mC;decide
        exact this _ (ul (by simp only [kw,List.length_cons,List.length_nil];omega) _)
    · rcases Il hx with hx | hx
      · exact h2 x hx
      · rw [Ik hx];exact hr
  have hfu:∀k:Nat,k≤1000→bZ (iT s k) fun l=>l.length=k∧∀c∈l,gQ 45 c:=fun k hk=>by
    refine bZ.runs (fun i (l:List (List eL))=>l.length=i∧∀c∈l,gQ 45 c) k ⟨rfl,fun a ha=>by cases ha⟩ fun i l hi ⟨h1,h2⟩=>(bZ.any _).bnd fun _ _=>(uq s (by omega) (by omega) (by omega)).bnd fun h hh=>bZ.ret ⟨by simp [h1],fun x hx=>?_⟩
    rcases Il hx with hx | hx
    · exact h2 x hx
    · rw [Ik hx];exact hh
  have hcv:∀k:Nat,bZ (pW s k) fun l=>l.length=k∧∀z∈l,-100≤z∧z < 400:=fun k=>by
    refine bZ.runs (fun i (l:List Int)=>l.length=i∧∀z∈l,-100≤z∧z < 400) k ⟨rfl,fun a ha=>by cases ha⟩ fun i l hi ⟨h1,h2⟩=>(df s (by omega)).bnd fun z hz=>bZ.ret ⟨by simp [h1],fun x hx=>?_⟩
    rcases Il hx with hx | hx
    · exact h2 x hx
    · rw [Ik hx];omega
  have hgl:∀R fn k:Nat,fn≤1000→bZ (gD s R fn k) fun l=>l.length=k∧∀(i:Nat) g,l[i]?=some g→xH R i g:=fun R fn k hf=>by
    refine bZ.runs (fun i (l:List br)=>l.length=i∧∀(j:Nat) g,l[j]?=some g→xH R j g) k ⟨rfl,fun j g h=>by simp at h⟩ fun i l hi ⟨h1,h2⟩=>(yn s hf).bnd fun g hg=>bZ.ret ⟨by simp [h1],fun j x hx=>?_⟩
    rcases Nat.lt_or_ge j l.length with h | h
    · rw [List.getElem?_append_left h] at hx
      exact h2 j x hx
    · have hj:=(Io hx).1
      have:j=l.length:=by simp at hj;omega
      subst this
      rw [List.getElem?_append_right (Nat.le_refl _),Nat.sub_self] at hx
      cases hx
      rw [h1]
      exact hg
  have hch:∀n:Int,0 < n→bZ (iq s n 16) fun l=>(l.map eN.Rune).Sublist fx∧∀c∈l,0≤c.Glyph∧c.Glyph < n:=fun n hn=>by
    refine (bZ.runs (b:=[]) (fun i (l:List eN)=>(l.map eN.Rune).Sublist (fx.take i)∧∀c∈l,0≤c.Glyph∧c.Glyph < n) 16 ⟨List.nil_sublist _,fun a ha=>by cases ha⟩ fun i l hi ⟨h1,h2⟩=>(bZ.any _).bnd fun z _=>bZ.ite (fun _=>(df s hn).bnd fun g hg=>bZ.ret ⟨?_,fun x hx=>?_⟩) fun _=>bZ.ret ⟨?_,h2⟩).mono fun l h=>h
    · rw [List.take_add_one,lA (l:=fx) (i:=i) hi 0,List.map_append]
      exact h1.append (List.Sublist.refl _)
    · rcases Il hx with hx | hx
      · exact h2 x hx
      · rw [Ik hx];exact hg
    · rw [List.take_add_one]
      exact h1.trans (List.sublist_append_left _ _)
  have hft:∀n:Nat,n≤6→bZ (iu s n 8) fun l=>(l.map bL.Name).Sublist eG∧∀t∈l,t.Lookups.Pairwise (· < ·)∧t.Lookups.length≤6∧∀z∈t.Lookups,0≤z∧z < n:=fun n hn=>by
    have hask:bZ (nS s n) fun l=>l.Pairwise (· < ·)∧l.length≤n∧∀z∈l,0≤z∧z < n:=by
      refine bZ.runs (fun i (l:List Int)=>l.Pairwise (· < ·)∧l.length≤i∧∀z∈l,0≤z∧z < i) n ⟨.nil,Nat.le_refl _,fun a ha=>by cases ha⟩ fun i l hi ⟨h1,h2,h3⟩=>(bZ.any _).bnd fun z _=>bZ.ret ?_
      split
      · refine ⟨?_,by simp;omega,fun x hx=>?_⟩
        · rw [List.pairwise_append]
          exact ⟨h1,List.pairwise_singleton ..,fun a ha b hb=>by rw [Ik hb];have:=h3 a ha;omega⟩
        · rcases Il hx with hx | hx
          · have:=h3 x hx;omega
          · rw [Ik hx];omega
      · exact ⟨h1,by omega,fun x hx=>by have:=h3 x hx;omega⟩
    refine (bZ.runs (b:=[]) (fun i (l:List bL)=>(l.map bL.Name).Sublist (eG.take i)∧∀t∈l,t.Lookups.Pairwise (· < ·)∧t.Lookups.length≤6∧∀z∈t.Lookups,0≤z∧z < n) 8 ⟨List.nil_sublist _,fun a ha=>by cases ha⟩ fun i l hi ⟨h1,h2⟩=>hask.bnd fun r hr=>(bZ.any _).bnd fun z _=>bZ.ret ?_).mono fun l h=>h
    split
    · refine ⟨?_,fun x hx=>?_⟩
      · rw [List.take_add_one,lA (l:=eG) (i:=i) hi ByteArray.empty,List.map_append]
        exact h1.append (List.Sublist.refl _)
      · rcases Il hx with hx | hx
        · exact h2 x hx
        · rw [Ik hx];exact ⟨hr.1,by have:=hr.2.1;dsimp only;omega,hr.2.2⟩
    · rw [List.take_add_one]
      exact ⟨h1.trans (List.sublist_append_left _ _),h2⟩
  refine (df s (by omega)).bnd fun u hu=>(df s (by omega)).bnd fun k hk=>(hax _).bnd fun ax ⟨ha1,ha2,ha3⟩=>(hrg _).bnd fun rg ⟨hr1,hr2⟩=>(df s (by omega)).bnd fun k2 hk2=>(hfu _ (by omega)).bnd fun fu ⟨hf1,hf2⟩=>(df s (by omega)).bnd fun k3 hk3=>(hcv _).bnd fun cv ⟨hc1,hc2⟩=>(df s (by omega)).bnd fun k4 hk4=>(hgl _ _ _ (by omega)).bnd fun gl ⟨hg1,hg2⟩=>(hch gl.length (by omega)).bnd fun ch ⟨hh1,hh2⟩=>(oT s (n:=gl.length) (by omega)).bnd fun lk hlk=>(hft lk.length hlk.len).bnd fun ft ⟨ht1,ht2⟩=>bZ.ret ?_
  refine ⟨?_,by dsimp only;omega,hg2,?_,hh1,hh2,hlk,ht1,ht2,by dsimp only;omega,by dsimp only;rw [ha1];exact ha2,ha3,hr1,fun r hr=>⟨by dsimp only;rw [ha1];exact (hr2 r hr).1,(hr2 r hr).2⟩,by dsimp only;omega,hf2,by dsimp only;omega,hc2⟩
  · have:∀j < 4,16≤mE.getD j 0∧mE.getD j 0≤4096:=by decide
    exact this _ (by omega)
  · have:=hh1.length_le
    simpa [fx] using this
theorem DJ:fc (nh s):=Bw s ⟨0,0⟩
end Go.Proofs.YtjjpkibjffmceaaGreat
