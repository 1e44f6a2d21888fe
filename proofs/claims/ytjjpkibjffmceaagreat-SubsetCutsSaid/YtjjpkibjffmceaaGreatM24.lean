/-
  The program: subset.Font.
-/
import Derived.Test.YtjjpkibjffmceaaGreatM23
import Derived.Test.YtjjpkibjffmceaaGreatM19
import Derived.Test.YtjjpkibjffmceaaGreatM22
import Derived.Test.YtjjpkibjffmceaaGreatM06
import Derived.Test.YtjjpkibjffmceaaGreatM20
import Derived.Test.YtjjpkibjffmceaaGreatM18
namespace Go.Proofs.YtjjpkibjffmceaaGreat
open Go.RowKit
attribute [local irreducible] AT cg AX AO Av Kt bJ eC DA du
open Go.MapKept
theorem tk.few {g:bL} (h:tk g):GM g:=⟨by have:=h.pts.1;omega,by have:=h.ends.1;omega,by have:=h.parts.1;omega,by have:=h.anchors.1;omega,by have:=h.deltas.1;omega,by have:=h.hint.1;omega⟩
theorem p5.few {l:List (List Int)} (h:p5 l):l.length≤1000000∧∀q∈l,q.length≤1000000:=⟨by have:=h.1;omega,fun q hq=>by have:=(h.2 q hq).1;omega⟩
theorem mL.few {r:cb} (h:mL r):wV r:=⟨h.back.few,h.ins.few,h.ahead.few,by have:=h.out.1;omega,by have:=h.calls.1;omega⟩
theorem CR.few {l:bj} (h:CR l):GN l:=⟨by have:=h.rules.1;omega,fun r hr=>(h.rules.2 r hr).few⟩
set_option maxHeartbeats 2000000 in
theorem yV (f:aL) (hf:mG f) (mg ml:Nat) (G K:List Int) (hG:cJ f.Glyphs.length G) (n:Int) (hn:n∈G):AC Tryz.prog 26 [aP n,.iptr (cK f mg ml),.iptr (ci f)] (kL mg ml G K) fun c L=>(∃y b,c= .tup [.agg (bh y),cM b]∧f.Glyphs[n.toNat]?.map (f8 G)=if b=true then some y else none)∧L=kL mg ml G K:=by
 refine aX Tryz.func26 rfl Tryz.ntmps26 rfl fun B=>?_
 have hd:=hG.dom n hn
 obtain ⟨g,hg⟩:∃x,f.Glyphs[n.toNat]?=some x:=⟨_,Jz (by omega)⟩
 have hgg:=bA (c:=bh) hg
 have hc:=tU f mg ml G K g (hf.glyphs.2 g (Jw hg)).few
 repeat' (first|refine go ?_|refine IG a6 EV ?_|refine bc a6 fun _=>?_|fail)
 rename_i b
 refine br 6 [(0,.v),(1,.v),(2,.v),(3,.v),(4,.v),(5,.v)] none ?_ trivial rfl (by kernel_rfl) (by kernel_rfl) (by kernel_rfl) mixed (by kernel_rfl) rfl
 repeat' (first|refine aC ?_|refine aY a6 ?_|(apply bS;refine ce a6 ?_)|fail)
 refine IQ [4,6,11] EV ?_
 repeat' (first|fail)
 refine bn (kL mg ml G K) [(b,_)] hc rfl rfl (List.perm_append_singleton _ _).symm rfl fun c L1 ⟨hc,hL⟩=>?_
 subst hc;subst hL
 repeat' (first|refine go ?_|refine IG a6 EV ?_|(apply aJ;first|refine IH a6 0 IE ?_|refine IH a6 1 IE ?_|refine IH a6 2 IE ?_|refine IH a6 3 IE ?_|fail))
 exact er (cs:=[.agg (bh (f8 G g)),cM true]) (kL mg ml G K) ⟨⟨_,2,_,_,rfl,rfl,.inr ⟨cV a6 rfl,rfl⟩⟩,rfl,trivial⟩ (List.sublist_append_left (kL mg ml G K) [_]) ⟨⟨f8 G g,true,rfl,by rw [hg];rfl⟩,rfl⟩
set_option maxHeartbeats 2000000 in
theorem BL (f:aL) (hf:mG f) (mg ml:Nat) (G K:List Int) (hG:cJ f.Glyphs.length G) (n:Int) (hn:0≤n∧n < f.Lookups.length):AC Tryz.prog 30 [aP n,.iptr (cK f mg ml),.iptr (ci f)] (kL mg ml G K) fun c L=>(∃y b,c= .tup [.agg (bi y),cM b]∧f.Lookups[n.toNat]?.map (fv f G K)=if b=true then some y else none)∧L=kL mg ml G K:=by
 refine aX Tryz.func30 rfl Tryz.ntmps30 rfl fun B=>?_
 obtain ⟨g,hg⟩:∃x,f.Lookups[n.toNat]?=some x:=⟨_,Jz (by omega)⟩
 have hgg:=bA (c:=bi) hg
 have hc:=Eb f mg ml G K hG g (hf.looks.2 g (Jw hg)).few
 repeat' (first|refine go ?_|refine IG a6 EV ?_|refine bc a6 fun _=>?_|fail)
 rename_i b
 refine br 6 [(0,.v),(1,.v),(2,.v),(3,.v),(4,.v),(5,.v)] none ?_ trivial rfl (by kernel_rfl) (by kernel_rfl) (by kernel_rfl) mixed (by kernel_rfl) rfl
 repeat' (first|refine aC ?_|refine aY a6 ?_|(apply bS;refine ce a6 ?_)|fail)
 refine IQ [4,6,11] EV ?_
 repeat' (first|fail)
 refine bn (kL mg ml G K) [(b,_)] hc rfl rfl (List.perm_append_singleton _ _).symm rfl fun c L1 ⟨hc,hL⟩=>?_
 subst hc;subst hL
 repeat' (first|refine go ?_|refine IG a6 EV ?_|(apply aJ;first|refine IH a6 0 IE ?_|refine IH a6 1 IE ?_|refine IH a6 2 IE ?_|refine IH a6 3 IE ?_|fail))
 exact er (cs:=[.agg (bi (fv f G K g)),cM true]) (kL mg ml G K) ⟨⟨_,2,_,_,rfl,rfl,.inr ⟨cV a6 rfl,rfl⟩⟩,rfl,trivial⟩ (List.sublist_append_left (kL mg ml G K) [_]) ⟨⟨fv f G K g,true,rfl,by rw [hg];rfl⟩,rfl⟩
theorem zK (r:List eo) (hr:r.length≤1000000):AC Tryz.prog 34 [.agg (bI r)] [] fun c L=>(∃y b,c= .tup [.agg (bI y),cM b]∧some r=if b=true then some y else none)∧L=[]:=by
 refine aX Tryz.func34 rfl Tryz.ntmps34 rfl fun B=>?_
 haveI:=AD.mk (Dl r hr)
 repeat' (first|refine go ?_|refine IG a6 EV ?_|(apply aJ;first|refine IH a6 0 IE ?_|refine IH a6 1 IE ?_|refine IH a6 2 IE ?_|refine IH a6 3 IE ?_|fail)|refine bD ?_|refine bc a6 fun _=>?_|(apply bB;refine bq ?_)|fail)
 exact er (cs:=[.agg (bI r),cM true]) [] ⟨⟨_,0,_,_,rfl,rfl,.inr ⟨cV a6 rfl,rfl⟩⟩,rfl,trivial⟩ (List.nil_sublist _) ⟨⟨r,true,rfl,rfl⟩,rfl⟩
theorem Dp (r:List ep) (hr:r.length≤1000000):AC Tryz.prog 37 [.imm 2 (r.map ea)] [] fun c L=>(∃y b,c= .tup [.imm 2 (y.map ea),cM b]∧some r=if b=true then some y else none)∧L=[]:=by
 refine aX Tryz.func37 rfl Tryz.ntmps37 rfl fun B=>?_
 haveI:=AD.mk (xi r hr)
 repeat' (first|refine go ?_|refine IG a6 EV ?_|(apply bB;refine bq ?_)|fail)
 exact IU IB ⟨⟨r,true,rfl,rfl⟩,rfl⟩
theorem nl (f:aL) (fs:List ByteArray):(dG f fs).Nodup:=by
 unfold dG
 refine List.Nodup.sublist List.filter_sublist ?_
 unfold List.Nodup
 rw [List.pairwise_map]
 exact List.nodup_range.imp fun h=>fun e=>h (Int.ofNat_inj.1 e)
theorem qr {f:aL} {fs:List ByteArray} {z:Int} (h:z∈dG f fs):0≤z∧z < f.Lookups.length:=by
 unfold dG at h
 obtain ⟨k,hk,e⟩:=List.mem_map.1 (List.mem_filter.1 h).1
 have:=List.mem_range.1 hk
 subst e
 exact ⟨Int.natCast_nonneg k,Int.ofNat_lt.2 this⟩
set_option maxHeartbeats 8000000 in
theorem qO (f:aL) (hf:mG f) (hs:dP f) (rs:List Int) (fs:List ByteArray) (G:List Int) (hG:cJ f.Glyphs.length G) (hg:bZ Tryz.prog 12 [cr f,kM rs fs] (.tup [.imm 1 (aS G),aP 0])):bZ Tryz.prog 11 [cr f,kM rs fs] (.tup [cr (sf f rs fs G (dG f fs)),.imm 1 (aS G),aP 0]):=by
 refine aX Tryz.func11 rfl Tryz.ntmps11 rfl fun B=>?_
 haveI:=AD.mk hg
 haveI a1:AD Tryz.prog 13 [cr f,.imm 1 (gP fs)] (.imm 1 (aS (dG f fs))):=⟨ku f fs hs⟩
 unfold cr kM at *
 repeat' (first|refine go ?_|refine IG a6 EV ?_|refine bD ?_|refine bc a6 fun _=>?_|(apply bB;refine bq ?_)|refine bP rfl ?_)
 rename_i b
 refine br 7 [(0,.v),(1,.v),(3,.v),(2,.e),(4,.e),(5,.v)] (some (6,.box _ 102)) ?_ ⟨_,rfl,rfl,fun _ _ _=>ga (eA a6 rfl) rfl⟩ rfl (by kernel_rfl) (by kernel_rfl) (by kernel_rfl) mixed (by kernel_rfl) rfl
 repeat' (first|refine aC ?_|refine aY a6 ?_|fail)
 refine f5 [] [(b,_)] (oO G hG.nodup) rfl rfl (Jn _) (by first | trivial | rfl) fun c L1 ⟨mg,hc,hL⟩=>?_
 subst hc;subst hL
 repeat' (first|refine aC ?_|fail)
 refine f5 [] [(mg,_),(b,_)] (oO (dG f fs) (nl f fs)) rfl rfl (Jn _) (by first | trivial | rfl) fun c L1 ⟨ml,hc,hL⟩=>?_
 subst hc;subst hL
 repeat' (first|refine aC ?_|refine aY a6 ?_|fail)
 refine ji [2,3,4,7,9,10,31] (fun _=>_) (fun _=>rfl) rfl fun _=>?_
 repeat' (first|refine go ?_|refine aa ?_|(apply aJ;first|refine IH a6 0 IE ?_|refine IH a6 1 IE ?_|refine IH a6 2 IE ?_|refine IH a6 3 IE ?_|fail))
 refine bN (qR (t:=10) 3 rfl rfl rfl) ?_
 refine bN (aM (L':=(mg,cn KJ (la G))::(ml,cn KJ (la (dG f fs)))::[(b,_)]) (List.Perm.swap _ _ _)) ?_
 generalize hK:dG f fs=K
 have hKd:∀z∈K,0≤z∧z < f.Lookups.length:=fun z hz=>qr (by rw [hK];exact hz)
 have hKl:K.length≤1000000:=by
  have:=gc (by rw [←hK];exact nl f fs) hKd
  have:=hf.looks.1
  omega
 have hGl:G.length≤1000000:=by
  have:=hG.len
  have:=hf.glyphs.1
  omega
 have e1:=FR (u:= .fn 26 [.iptr (cK f mg ml),.iptr (ci f)]) rfl G hGl (fun n=>f.Glyphs[n.toNat]?.map (f8 G)) (kL mg ml G K) fun n hn=> .fn (yV f hf mg ml G K hG n hn)
 have e2:=B5 f (by have:=hf.chars.1;omega) mg ml G K rs
 have e3:=FS (u:= .fn 30 [.iptr (cK f mg ml),.iptr (ci f)]) rfl K hKl (fun n=>f.Lookups[n.toNat]?.map (fv f G K)) (kL mg ml G K) fun n hn=> .fn (BL f hf mg ml G K hG n (hKd n hn))
 have e4:=Dk f.Axes (by have:=hf.axes.1;omega)
 have e5:=FT (u:= .sc (.func (.func 34) #[] #[])) rfl f.Regions (by have:=hf.regs.1;omega) some [] fun r hr=> .fn0 (zK r (by have:=(hf.regs.2 r hr).1;omega))
 have e6:=FU (u:= .sc (.func (.func 37) #[] #[])) rfl f.Funcs (by have:=hf.funcs.1;omega) some [] fun r hr=> .fn0 (Dp r (by have:=(hf.funcs.2 r hr).1;omega))
 have e7:=xj f.Cvt (by have:=hf.cvt.1;omega)
 have e8:=ua f (by have:=hf.feats.1;omega) (fun t ht=>by have:=(hf.feats.2 t ht).2.1;omega) mg ml G K fs
 rw [List.filterMap_some] at e5 e6
 haveI:=AD.mk e4
 haveI:AD Tryz.prog 39 [.imm 1 (aS f.Cvt)] (.imm 1 (aS f.Cvt)):=AD.mk e7
 repeat' (first|fail)
 refine br 26 [(0,.v),(1,.v),(2,.v),(3,.v),(5,.v),(6,.v),(7,.v),(9,.v),(10,.v),(12,.v),(13,.v),(15,.v),(16,.v),(18,.v),(19,.v),(21,.v),(22,.v),(4,.e),(8,.e),(11,.e),(14,.v),(17,.e),(20,.e),(23,.v),(24,.v)] (some (25,.box _ 36)) ?_ ⟨_,rfl,rfl,fun _ _ _=>ga (eA a6 rfl) rfl⟩ rfl (by kernel_rfl) (by kernel_rfl) (by kernel_rfl) mixed (by kernel_rfl) rfl
 repeat' (first|refine aC ?_|refine aY a6 ?_|fail)
 refine f5 (kL mg ml G K) [(b,_)] e1 rfl rfl (Jn _) (by first | trivial | rfl) fun c L1 ⟨hc,hL⟩=>?_
 subst hc;subst hL
 repeat' (first|refine aC ?_|fail)
 refine f5 (kL mg ml G K) [(b,_)] e2 rfl rfl (Jn _) (by first | trivial | rfl) fun c L1 ⟨hc,hL⟩=>?_
 subst hc;subst hL
 repeat' (first|refine aC ?_|fail)
 refine f5 (kL mg ml G K) [(b,_)] e3 rfl rfl (Jn _) (by first | trivial | rfl) fun c L1 ⟨hc,hL⟩=>?_
 subst hc;subst hL
 repeat' (first|refine aC ?_|(apply bK;refine bR ?_)|fail)
 refine f5 [] (kL mg ml G K++[(b,_)]) e5 rfl rfl (Jn _) (by first | trivial | rfl) fun c L1 ⟨hc,hL⟩=>?_
 subst hc;subst hL
 repeat' (first|refine aC ?_|fail)
 refine f5 [] (kL mg ml G K++[(b,_)]) e6 rfl rfl (Jn _) (by first | trivial | rfl) fun c L1 ⟨hc,hL⟩=>?_
 subst hc;subst hL
 repeat' (first|refine aC ?_|refine aY a6 ?_|(apply bK;refine bR ?_)|fail)
 refine ji [3,4,7,10,11,56] (fun _=>_) (fun _=>rfl) rfl fun _=>?_
 repeat' (first|refine go ?_|refine aa ?_|refine IG a6 EV ?_|(apply aJ;first|refine IH a6 0 IE ?_|refine IH a6 1 IE ?_|refine IH a6 2 IE ?_|refine IH a6 3 IE ?_|fail))
 rename_i bs
 refine bn (kL mg ml G K) [(b,_),(bs,_)] e8 rfl rfl (Jn _) rfl fun c L1 ⟨hc,hL⟩=>?_
 subst hc;subst hL
 repeat' (first|refine go ?_|refine IG a6 EV ?_|(apply aJ;first|refine IH a6 0 IE ?_|refine IH a6 1 IE ?_|refine IH a6 2 IE ?_|refine IH a6 3 IE ?_|fail))
 refine IK a6 3 ID ?_
 repeat' (first|refine go ?_|refine IG a6 EV ?_|(apply aJ;first|refine IH a6 0 IE ?_|refine IH a6 1 IE ?_|refine IH a6 2 IE ?_|refine IH a6 3 IE ?_|fail))
 exact er (cs:=[cr (sf f rs fs G K),.imm 1 (aS G),aP 0]) [] ⟨⟨_,2,_,_,rfl,rfl,.inr ⟨cV a6 rfl,rfl⟩⟩,rfl,rfl,trivial⟩ (List.nil_sublist _) rfl
end Go.Proofs.YtjjpkibjffmceaaGreat
namespace Go.Proofs.YtjjpkibjffmceaaGreat
open Go.RowKit
attribute [local irreducible] AT cg AX AO Av Kt bJ eC DA du
def Gi:ByteArray:=⟨#[108,105,103,97]⟩
def C5:ByteArray:=⟨#[99,97,108,116]⟩
def I8:ByteArray:=⟨#[110,111,110,101]⟩
def BE (fs:List ByteArray):List Int:=(if fR fs Gi || fR fs C5 then [0] else [])++(if fR fs C5 then [1] else [])
def HJ (rs:List Int) (fs:List ByteArray):List Int:=ij sA 6 (fg sA rs) (eX sA (dJ 2 [] (mv (BE fs) 2)))
def I9:aL:=⟨0,[],[],[],[],[],[],[],[]⟩
theorem sv {n:Nat} {l:List Int} {z:Int}:F5 n l z=true↔(0≤z∧z < n)∧z∈l:=by
 unfold F5
 rw [Bool.and_eq_true,decide_eq_true_iff,List.contains_iff_mem]
theorem mt {f:aL} {S T:List Int} (h:∀z∈S,z∈T) {ign:Bool} {z:Int} (hs:jo f S ign z=true):jo f T ign z=true:=by
 unfold jo at hs ⊢
 rw [Bool.and_eq_true] at hs ⊢
 exact ⟨sv.2 ⟨(sv.1 hs.1).1,h _ (sv.1 hs.1).2⟩,hs.2⟩
theorem wO {h:jq} {p q:Int→Bool} (hpq:∀z,p z=true→q z=true) {z:Int} (hz:z∈lf h p):z∈lf h q:=by
 unfold lf at hz ⊢
 split
 ·rename_i hk
  rw [if_pos hk] at hz
  obtain ⟨x,hx,rfl⟩:=List.mem_map.1 hz
  rw [List.mem_filter] at hx
  exact List.mem_map.2 ⟨x,List.mem_filter.2 ⟨hx.1,hpq _ hx.2⟩,rfl⟩
 ·rename_i hk
  rw [if_neg hk] at hz
  exact hz
theorem lT {f:aL} {S T:List Int} (h:∀z∈S,z∈T) {x:jq} {z:Int} (hz:z∈ew f S x):z∈ew f T x:=by
 unfold ew at hz ⊢
 split at hz
 ·rename_i hc
  rw [if_pos]
  ·exact wO (fun _=>mt h) hz
  ·rw [List.all_eq_true] at hc ⊢
   intro s hs
   have:=hc s hs
   rw [List.any_eq_true] at this ⊢
   obtain ⟨y,hy,hp⟩:=this
   exact ⟨y,hy,mt h hp⟩
 ·cases hz
theorem sQ {f:aL} {ks gs:List Int} {z:Int}:z∈fK f ks gs↔(z∈fN f (dJ f.Glyphs.length [] gs)∨∃h∈eX f (dJ f.Lookups.length [] ks),z∈ew f (dJ f.Glyphs.length [] gs) h)∧0≤z∧z < f.Glyphs.length:=by
 unfold fK eZ
 rw [gD,List.mem_append,List.mem_flatMap]
 constructor
 ·rintro (h | h)
  ·cases h
  ·exact h
 ·exact Or.inr
theorem px {n:Nat} {a b:List Int} (h:∀z∈a,z∈b):∀z∈dJ n [] a,z∈dJ n [] b:=by
 intro z hz
 rcases gD.1 hz with k | ⟨k,k2⟩
 ·cases k
 ·exact gD.2 (Or.inr ⟨h z k,k2⟩)
theorem r4 {f:aL} {ks ks' gs gs':List Int} (hk:∀z∈ks,z∈ks') (hg:∀z∈gs,z∈gs'):∀z∈fK f ks gs,z∈fK f ks' gs':=by
 intro z hz
 rw [sQ] at hz ⊢
 refine ⟨?_,hz.2⟩
 rcases hz.1 with h | ⟨x,hx,h⟩
 ·refine Or.inl ?_
  unfold fN at h ⊢
  obtain ⟨y,hy,h⟩:=List.mem_flatMap.1 h
  exact List.mem_flatMap.2 ⟨y,px hg y hy,h⟩
 ·refine Or.inr ⟨x,?_,lT (px hg) h⟩
  unfold eX at hx ⊢
  obtain ⟨y,hy,h⟩:=List.mem_flatMap.1 hx
  exact List.mem_flatMap.2 ⟨y,px hk y hy,h⟩
end Go.Proofs.YtjjpkibjffmceaaGreat
namespace Go.Proofs.YtjjpkibjffmceaaGreat
section
variable {f:aL}
theorem CI {S T:List Int} (h:∀z∈S,z∈T) (x:jq):ew f T (adv f S x)=ew f T x:=by
 have hall:∀l:List (List Int),((l.dropWhile fun s=>s.any (jo f S x.ign)).all fun s=>s.any (jo f T x.ign))=l.all fun s=>s.any (jo f T x.ign):=by
  intro l
  induction l with
  | nil=>rfl
  | cons s l ih=>
   rw [List.dropWhile_cons]
   split
   ·rename_i hs
    have:(s.any (jo f T x.ign))=true:=by
     rw [List.any_eq_true] at hs ⊢
     obtain ⟨y,hy,hp⟩:=hs
     exact ⟨y,hy,mt h hp⟩
    rw [ih,List.all_cons,this,Bool.true_and]
   ·rfl
 unfold ew adv jq.rest
 dsimp only
 rw [hall]
 rfl
def li (f:aL) (S:List Int) (hs hs':List jq):Prop:=∀T,(∀z∈S,z∈T)→hs.map (ew f T)=hs'.map (ew f T)
theorem li.step {S:List Int} {hs hs':List jq} (h:li f S hs hs') {T:List Int} (hT:∀z∈S,z∈T):eZ f T hs=eZ f T hs':=by
 unfold eZ
 rw [List.flatMap_def,List.flatMap_def,h T hT]
theorem li.adv {S:List Int} {hs hs':List jq} (h:li f S hs hs') {T:List Int} (hT:∀z∈S,z∈T):li f T (hs.map (adv f S)) hs':=by
 intro U hU
 rw [←h U fun z hz=>hU z (hT z hz),List.map_map]
 exact List.map_congr_left fun x _=>CI (fun z hz=>hU z (hT z hz)) x
theorem A9 {S:List Int} {hs:List jq} {z:Int}:z∈eZ f S hs↔(z∈fN f S∨∃h∈hs,z∈ew f S h)∧0≤z∧z < f.Glyphs.length:=by
 unfold eZ
 rw [gD,List.mem_append,List.mem_flatMap]
 exact ⟨fun h=>h.elim (fun h=>by cases h) id,.inr⟩
theorem my {S T:List Int} (h:∀z∈S,z∈T) {hs:List jq} {z:Int} (hz:z∈eZ f S hs):z∈eZ f T hs:=by
 rw [A9] at hz ⊢
 refine ⟨?_,hz.2⟩
 rcases hz.1 with k | ⟨x,hx,k⟩
 ·refine .inl ?_
  unfold fN at k ⊢
  obtain ⟨y,hy,k⟩:=List.mem_flatMap.1 k
  exact List.mem_flatMap.2 ⟨y,h y hy,k⟩
 ·exact .inr ⟨x,hx,lT h k⟩
theorem CB {S T:List Int} (hS:S.Nodup) (hT:T.Nodup) (h:∀z∈S,z∈T) (hl:T.length=S.length):∀z∈T,z∈S:=by
 intro z hz
 refine Classical.byContradiction fun hn=>?_
 have:=sK (S:=z::S) (T:=T) (List.nodup_cons.2 ⟨hn,hS⟩) fun y hy=>by
  rcases List.mem_cons.1 hy with rfl | hy
  ·exact hz
  ·exact h y hy
 rw [List.length_cons] at this
 omega
theorem uW (hs0:List jq):∀(k:Nat) (S:List Int) (hs:List jq),cJ f.Glyphs.length S→f.Glyphs.length < S.length+k→li f S hs hs0→∀K,ij f k S hs=K→cJ f.Glyphs.length K∧(∀z∈S,z∈K)∧(∀z∈eZ f K hs0,z∈K)∧∀C,(∀z∈S,z∈C)→(∀z∈eZ f C hs0,z∈C)→∀z∈K,z∈C
 | 0,S,hs,hS,hl,_,K,_=>by have:=hS.len;omega
 | k+1,S,hs,hS,hl,hh,K,hK=>by
  have he:eZ f S hs=eZ f S hs0:=hh.step fun _ h=>h
  have hsub:=rQ (hs:=hs) hS
  have hok:=qJ f S hs
  rw [ij] at hK
  split at hK
  ·rename_i heq
   subst hK
   refine ⟨hS,fun _ h=>h,fun z hz=>?_,fun C hC _=>hC⟩
   rw [←he] at hz
   exact CB hS.nodup hok.nodup hsub heq z hz
  ·rename_i hne
   have hlen:=sK hS.nodup hsub
   obtain ⟨h1,h2,h3,h4⟩:=uW hs0 k (eZ f S hs) (hs.map (Go.Proofs.YtjjpkibjffmceaaGreat.adv f S)) hok (by omega) (hh.adv hsub) K hK
   refine ⟨h1,fun z hz=>h2 z (hsub z hz),h3,fun C hC hcl=>h4 C (fun z hz=>?_) hcl⟩
   rw [he] at hz
   exact hcl z (my hC hz)
theorem cJ.start {n:Nat} {l:List Int}:cJ n (dJ n [] l):=cJ.nil.add _
structure Fn (f:aL) (rs:List Int) (fs:List ByteArray) (K:List Int):Prop where
 ok:cJ f.Glyphs.length K
 start:∀z∈fg f rs,z∈K
 closed:∀z∈fK f (dG f fs) K,z∈K
 least:∀C,(∀z∈fg f rs,z∈C)→(∀z∈fK f (dG f fs) C,z∈C)→∀z∈K,z∈C
theorem qq {ks C:List Int} {z:Int} (hz:z∈fK f ks C):z∈eZ f C (eX f (dJ f.Lookups.length [] ks)):=by
 unfold fK at hz
 refine my (fun y hy=>?_) hz
 rcases gD.1 hy with k | k
 ·cases k
 ·exact k.1
theorem qK {ks C:List Int} {z:Int} (hC:∀z∈C,0≤z∧z < f.Glyphs.length) (hz:z∈eZ f C (eX f (dJ f.Lookups.length [] ks))):z∈fK f ks C:=by
 unfold fK
 exact my (fun y hy=>gD.2 (.inr ⟨hy,hC y hy⟩)) hz
theorem sx (rs:List Int) (fs:List ByteArray):Fn f rs fs (q9 f rs fs):=by
 have hS:cJ f.Glyphs.length (fg f rs):=cJ.start
 obtain ⟨h1,h2,h3,h4⟩:=uW (f:=f) (eX f (dJ f.Lookups.length [] (dG f fs))) (f.Glyphs.length+1) (fg f rs) _ hS (by omega) (fun T _=>rfl) _ rfl
 refine ⟨h1,h2,fun z hz=>h3 z (qq hz),fun C hC hcl z hz=>?_⟩
 have:=h4 (C.filter fun z=>decide (0≤z∧z < f.Glyphs.length)) (fun z hz=>List.mem_filter.2 ⟨hC z hz,decide_eq_true (hS.dom z hz)⟩) (fun z hz=>?_) z hz
 ·exact (List.mem_filter.1 this).1
 ·have hd:=(qJ f _ _).dom z hz
  refine List.mem_filter.2 ⟨hcl z ?_,decide_eq_true hd⟩
  refine r4 (fun _ h=>h) (fun y hy=>(List.mem_filter.1 hy).1) z (qK (fun y hy=>?_) hz)
  exact Jy (List.mem_filter.1 hy).2
end
end Go.Proofs.YtjjpkibjffmceaaGreat
namespace Go.Proofs.YtjjpkibjffmceaaGreat
open Go.RowKit
attribute [local irreducible] AT cg AX AO Av Kt bJ eC DA du
structure HF (f:aL) (rs rt:List Int) (fs ft:List ByteArray):Prop where
 runes:∀c∈f.Chars,(c.Rune∈rs↔c.Rune∈rt)
 names:∀t∈f.Features,fR fs t.Name=fR ft t.Name
end Go.Proofs.YtjjpkibjffmceaaGreat
namespace Go.Proofs.YtjjpkibjffmceaaGreat
section
variable {α β:Type}
def co (g:DM α) (P:α→Prop):Prop:=∀m,P (g m).1
theorem co.ret {x:α} {P:α→Prop} (h:P x):co (df x) P:=fun _=>h
theorem co.bnd {g:DM α} {k:α→DM β} {P:α→Prop} {Q:β→Prop} (h:co g P) (hk:∀x,P x→co (k x) Q):co (cA g k) Q:=fun m=>hk _ (h m) _
theorem co.mono {g:DM α} {P Q:α→Prop} (h:co g P) (hq:∀x,P x→Q x):co g Q:=fun m=>hq _ (h m)
theorem co.any (g:DM α):co g fun _=>True:=fun _=>trivial
theorem co.runs {g:Nat→β→DM β} (I:Nat→β→Prop) {b:β}:∀(k:Nat),I 0 b→(∀i l,i < k→I i l→co (g i l) (I (i+1)))→co (it g b k) (I k)
 | 0,h0,_=>co.ret h0
 | k+1,h0,hs=>co.bnd (co.runs I k h0 fun i l hi hl=>hs i l (by omega) hl) fun l hl=>hs k l (by omega) hl
theorem co.ite {c:Prop} [Decidable c] {g k:DM α} {P:α→Prop} (h:c→co g P) (h':¬c→co k P):co (if c then g else k) P:=by
 split
 ·exact h ‹_›
 ·exact h' ‹_›
end
variable (s:List Int)
theorem Dw (a:Nat) {n:Int} (hn:0 < n):0≤sn s a n∧sn s a n < n:=by
 unfold sn
 split
 ·rename_i x _
  exact ⟨Int.emod_nonneg x (by omega),Int.emod_lt_of_pos x hn⟩
 ·omega
theorem dA {n:Int} (hn:0 < n):co (dr s n) fun z=>0≤z∧z < n:=fun m=>Dw s m.a hn
def wv (p:eU):Prop:= -100≤p.X∧p.X≤900∧-200≤p.Y∧p.Y≤800
theorem Gr (p:Nat):co (Fg s p) wv:=by
 refine (dA s (by omega)).bnd fun x hx=>(dA s (by omega)).bnd fun y hy=>co.ite (fun _=>co.ret ?_) fun _=>(co.any _).bnd fun z _=>co.ret ?_
 all_goals (unfold wv;dsimp only;omega)
theorem xQ (l:List eU) (hl:∀p∈l,wv p) (k:Nat):co (o8 s l k) fun q=>q.length=l.length+k∧∀p∈q,wv p:=by
 refine co.runs (fun i (q:List eU)=>q.length=l.length+i∧∀p∈q,wv p) k ⟨rfl,hl⟩ fun i q _ ⟨h1,h2⟩=>(Gr s i).bnd fun t ht=>co.ret ⟨by simp;omega,fun p hp=>?_⟩
 rcases Jm hp with hp | hp
 ·exact h2 p hp
 ·rw [Jl hp];exact ht
theorem rr {n m:Int} (h:n+2≤m):∀(l:List Int) (last:Int),fH n last l=true→fH m last (l++[m - 1])=true
 | [],last,hl=>by
  have:last=n - 1:=Jy hl
  rw [Jq,fH,if_neg (by omega),fH]
  simp
 | e::l,last,hl=>by
  rw [fH] at hl
  split at hl
  ·cases hl
  ·rw [Jr,fH,if_neg (by omega)]
   exact rr h l e hl
structure tu (n:Nat) (o:List eU×List Int):Prop where
 pts:∀p∈o.1,wv p
 len:o.1.length≤5 * n
 ends:fH o.1.length (-1) o.2=true
 endl:o.2.length=n
theorem uK (n:Nat):co (iE s n) (tu n):=by
 refine co.runs (fun i o=>tu i o) n ⟨fun p hp=>(by cases hp),Nat.le_refl _,rfl,rfl⟩ fun i o _ h=>(dA s (by omega)).bnd fun k hk=>(xQ s o.1 h.pts _).bnd fun l hl=>co.ret ?_
 refine ⟨hl.2,by have:=h.len;dsimp only;omega,?_,by simp [h.endl]⟩
 dsimp only
 exact rr (by omega) _ _ h.ends
theorem oP:co (jQ s) fun o=>∃n,n≤2∧tu n o:=by
 refine (dA s (by omega)).bnd fun n hn=>(uK s _).mono fun o ho=>⟨_,by omega,ho⟩
def jF (i:ep):Prop:=1≤i.Op∧i.Op≤39∧-100000≤i.A∧i.A≤100000
def iT (k:Nat) (l:List ep):Prop:=l.length≤k∧∀i∈l,jF i
theorem rI {n funcs:Int} (hn:0≤n∧n≤1000) (hf:funcs≤1000):co (dp s n funcs) (iT 9):=by
 have hsz:∀q,0≤q→q < n+1→co (i6 q) (iT 9):=fun q h0 h1=>co.ret ⟨by simp,by simp only [List.mem_cons,List.not_mem_nil,or_false,forall_eq_or_imp,forall_eq,jF];omega⟩
 unfold dp
 refine (dA s (by omega)).bnd fun p hp=>(dA s (by omega)).bnd fun q hq=>(dA s (by omega)).bnd fun a ha=>(dA s (by omega)).bnd fun k hk=>?_
 refine co.ite (fun _=>co.ret ?_) fun _=>?_
 ·exact ⟨by simp,by simp only [List.mem_cons,List.not_mem_nil,or_false,forall_eq_or_imp,forall_eq,jF];omega⟩
 refine co.ite (fun _=>(dA s (by omega)).bnd fun z hz=>co.ret ?_) fun _=>?_
 ·exact ⟨by simp,by simp only [List.mem_cons,List.not_mem_nil,or_false,forall_eq,jF];omega⟩
 refine co.ite (fun _=>co.ret ?_) fun _=>?_
 ·exact ⟨by simp,by simp only [List.mem_cons,List.not_mem_nil,or_false,forall_eq_or_imp,forall_eq,jF];omega⟩
 refine co.ite (fun _=>(dA s (by omega)).bnd fun z hz=>co.ret ?_) fun _=>?_
 ·exact ⟨by simp,by simp only [List.mem_cons,List.not_mem_nil,or_false,forall_eq_or_imp,forall_eq,jF];omega⟩
 refine co.ite (fun _=>co.ret ?_) fun _=>?_
 ·exact ⟨by simp,by simp only [List.mem_cons,List.not_mem_nil,or_false,forall_eq_or_imp,forall_eq,jF];omega⟩
 refine co.ite (fun _=>co.ret ?_) fun _=>?_
 ·exact ⟨by simp,by simp only [List.mem_cons,List.not_mem_nil,or_false,forall_eq,jF];omega⟩
 refine co.ite (fun _=>co.ret ?_) fun _=>?_
 ·exact ⟨by simp,by simp only [List.mem_cons,List.not_mem_nil,or_false,forall_eq_or_imp,forall_eq,jF];omega⟩
 refine co.ite (fun _=>co.ite (fun _=>(dA s (by omega)).bnd fun z hz=>co.ret ?_) fun _=>hsz q hq.1 hq.2) fun _=>?_
 ·exact ⟨by simp,by simp only [List.mem_cons,List.not_mem_nil,or_false,forall_eq,jF];omega⟩
 refine co.ite (fun _=>co.ite (fun _=>(co.any _).bnd fun lo _=>co.ite (fun _=>(co.any _).bnd fun _ _=>(dA s (by omega)).bnd fun y hy=>(dA s (by omega)).bnd fun z hz=>co.ret ?_) fun _=>hsz q hq.1 hq.2) fun _=>hsz q hq.1 hq.2) fun _=>?_
 ·exact ⟨by simp,by simp only [List.mem_cons,List.not_mem_nil,or_false,forall_eq_or_imp,forall_eq,jF];omega⟩
 refine co.ite (fun _=>co.ret ?_) fun _=>hsz q hq.1 hq.2
 exact ⟨by simp,by simp only [List.mem_cons,List.not_mem_nil,or_false,forall_eq_or_imp,forall_eq,jF];omega⟩
theorem uq {n funcs most:Int} (hn:0≤n∧n≤1000) (hf:funcs≤1000) (hm:0 < most∧most≤6):co (n6 s n funcs most) (iT 45):=by
 refine (dA s hm.1).bnd fun k hk=>?_
 refine (co.runs (fun i l=>iT (9 * i) l) k.toNat ⟨Nat.le_refl _,fun i hi=>by cases hi⟩ fun i l _ h=>(rI s hn hf).bnd fun p hp=>co.ret ⟨by rw [List.length_append];have:=h.1;have:=hp.1;omega,fun x hx=>?_⟩).mono fun l h=>⟨by have:=h.1;omega,h.2⟩
 rcases Jm hx with hx | hx
 ·exact h.2 x hx
 ·exact hp.2 x hx
structure yb (n:Int) (l:List Int):Prop where
  ne:l≠[]
  few:l.length≤4
  up:l.Pairwise (· < ·)
  dom:∀z∈l,0≤z∧z < n
theorem po {n:Int} (hn:0 < n):co (nw s n) (yb n):=by
  refine (dA s hn).bnd fun a ha=>?_
  refine (co.runs (fun i (l:List Int)=>(l≠[]∧l.length≤4∧l.Pairwise (· < ·))∧∀z∈l,0≤z∧z≤a+i) (n - (a+1)).toNat ⟨⟨by simp,by simp,by simp⟩,fun z hz=>?_⟩ fun i l hi ⟨⟨h1,h2,h3⟩,h4⟩=>?_).mono fun l ⟨⟨h1,h2,h3⟩,h4⟩=>⟨h1,h2,h3,fun z hz=>by have:=h4 z hz;omega⟩
  · rw [Jl hz];omega
  · refine co.ite (fun h5=>(co.any _).bnd fun z _=>co.ret ?_) fun _=>co.ret ⟨⟨h1,h2,h3⟩,fun z hz=>by have:=h4 z hz;omega⟩
    split
    · refine ⟨⟨by simp,by simp;omega,?_⟩,fun z hz=>?_⟩
      · rw [List.pairwise_append]
        exact ⟨h3,List.pairwise_singleton ..,fun x hx y hy=>by rw [Jl hy];have:=h4 x hx;omega⟩
      · rcases Jm hz with hz | hz
        · have:=h4 z hz;omega
        · rw [Jl hz];omega
    · exact ⟨⟨h1,h2,h3⟩,fun z hz=>by have:=h4 z hz;omega⟩
def fi (n:Int) (k:Nat) (l:List (List Int)):Prop:=l.length≤k∧∀q∈l,yb n q
theorem nq {n:Int} (hn:0 < n):co (pb s n 2) (fi n 2):=by
 refine (dA s (by omega)).bnd fun k hk=>?_
 refine (co.runs (fun i l=>fi n i l) k.toNat ⟨Nat.le_refl _,fun i hi=>by cases hi⟩ fun i l _ h=>(po s hn).bnd fun p hp=>co.ret ⟨by rw [List.length_append];have:=h.1;simp;omega,fun x hx=>?_⟩).mono fun l h=>⟨by have:=h.1;omega,h.2⟩
 rcases Jm hx with hx | hx
 ·exact h.2 x hx
 ·rw [Jl hx];exact hp
theorem xK {n:Int} (hn:0 < n) (k:Nat):co (gA s n k) fun l=>l.length=k∧∀z∈l,0≤z∧z < n:=by
 refine co.runs (fun i (l:List Int)=>l.length=i∧∀z∈l,0≤z∧z < n) k ⟨rfl,fun z hz=>by cases hz⟩ fun i l _ ⟨h1,h2⟩=>(dA s hn).bnd fun x hx=>co.ret ⟨by simp [h1],fun z hz=>?_⟩
 rcases Jm hz with hz | hz
 ·exact h2 z hz
 ·rw [Jl hz];exact hx
structure pu (n kind:Int) (calls:List Int) (r:cb):Prop where
 back:fi n 2 r.Back
 ahead:fi n 2 r.Ahead
 ins:fi n 3 r.In
 rows:fw kind r=false
 out:p9 kind r=true
 outs:r.Out.length≤4∧∀z∈r.Out,0≤z∧z < n
 callsN:r.Calls.length≤2
 callsK:kind≠4→r.Calls=[]
 callsIn:∀c∈r.Calls,(0≤c.At∧c.At < r.In.length)∧c.Lookup∈calls
 x: -200≤r.X∧r.X≤200
 x0:kind≠6→r.X=0
theorem fi.nil (n:Int) (k:Nat):fi n k []:=⟨Nat.zero_le _,fun q hq=>by cases hq⟩
theorem fi.one {n:Int} {a:List Int} (h:yb n a):fi n 3 [a]:=⟨by simp,fun q hq=>by rw [Jl hq];exact h⟩
theorem fi.cons {n:Int} {a:List Int} (h:yb n a) {l:List (List Int)} (hl:fi n 2 l):fi n 3 (a::l):=⟨by have:=hl.1;simp;omega,fun q hq=>by
 rcases List.mem_cons.1 hq with rfl | hq
 ·exact h
 ·exact hl.2 q hq⟩
theorem yr {n:Int} (hn:0 < n) (calls:List Int) (k:Nat):co (fF s n calls (if calls.length=0 then 0 else k)) fun c=>c.length≤k∧∀x∈c,(0≤x.At∧x.At < n)∧x.Lookup∈calls:=by
 by_cases h0:calls.length=0
 ·rw [if_pos h0]
  exact co.ret ⟨Nat.zero_le _,fun x hx=>by cases hx⟩
 rw [if_neg h0]
 refine (co.runs (fun i (l:List gy)=>l.length=i∧∀x∈l,(0≤x.At∧x.At < n)∧x.Lookup∈calls) k ⟨rfl,fun z hz=>by cases hz⟩ fun i l _ ⟨h1,h2⟩=>(dA s hn).bnd fun a ha=>(dA s (by omega)).bnd fun z hz=>co.ret ⟨by simp [h1],fun x hx=>?_⟩).mono fun l h=>⟨Nat.le_of_eq h.1,h.2⟩
 rcases Jm hx with hx | hx
 ·exact h2 x hx
 ·rw [Jl hx]
  refine ⟨ha,?_⟩
  have hlt:z.toNat < calls.length:=by omega
  rw [List.getD_eq_getElem?_getD,Jz hlt]
  exact List.getElem_mem hlt
theorem Cv {n kind:Int} (hn:0 < n) (hk:1≤kind∧kind≤6) (calls:List Int):co (gU s n kind calls) (pu n kind calls):=by
 have hsides:co (jv s n) fun e=>fi n 2 e.1∧fi n 2 e.2:=by
  refine (co.any _).bnd fun z _=>co.ite (fun _=>(nq s hn).bnd fun b hb=>(nq s hn).bnd fun c hc=>co.ret ⟨hb,hc⟩) fun _=>co.ret ⟨fi.nil ..,fi.nil ..⟩
 refine (po s hn).bnd fun a ha=>co.ite (fun hk6=>(po s hn).bnd fun b hb=>(dA s (by omega)).bnd fun x hx=>co.ret ?_) fun hk6=>hsides.bnd fun e he=>?_
 ·subst hk6
  exact ⟨fi.nil ..,fi.nil ..,⟨by simp,by simp [ha,hb]⟩,by simp [fw],by simp [p9],⟨by simp,by simp⟩,by simp,fun _=>rfl,by simp,by dsimp only;omega,fun h=>absurd rfl h⟩
 refine co.ite (fun h15=>(xK s hn _).bnd fun o ho=>co.ret ?_) fun h15=>?_
 ·refine ⟨he.1,he.2,fi.one ha,?_,?_,⟨by rw [ho.1];exact ha.few,ho.2⟩,by simp,fun _=>rfl,by simp,by simp,fun _=>rfl⟩
  ·unfold fw;rw [if_pos (by omega)];simp
  ·unfold p9;rw [if_pos h15];simp [ho.1]
 refine co.ite (fun h2=>(dA s (by omega)).bnd fun k hk=>(xK s hn _).bnd fun o ho=>co.ret ?_) fun h2=>?_
 ·subst h2
  exact ⟨he.1,he.2,fi.one ha,by simp [fw],by simp only [p9];simp;omega,⟨by dsimp only;omega,ho.2⟩,by simp,fun _=>rfl,by simp,by simp,fun _=>rfl⟩
 refine co.ite (fun h3=>(nq s hn).bnd fun m hm=>(dA s hn).bnd fun o ho=>co.ret ?_) fun h3=>?_
 ·subst h3
  exact ⟨he.1,he.2,fi.cons ha hm,by simp [fw];omega,by simp [p9],⟨by simp,fun z hz=>by rw [Jl hz];exact ho⟩,by simp,fun _=>rfl,by simp,by simp,fun _=>rfl⟩
 have h4:kind=4:=by omega
 subst h4
 refine (nq s hn).bnd fun m hm=>(dA s (by omega)).bnd fun k hk=>(yr s (by simp) calls _).bnd fun c hc=>co.ret ?_
 exact ⟨he.1,he.2,fi.cons ha hm,by simp [fw];omega,by simp [p9],⟨by simp,by simp⟩,by have:=hc.1;dsimp only;omega,fun h=>absurd rfl h,fun x hx=>hc.2 x hx,by simp,fun _=>rfl⟩
theorem BB {z:Int} (h:0≤z∧z < 10):1≤g7.getD z.toNat 0∧g7.getD z.toNat 0≤8:=by
 have:∀k < 10,1≤g7.getD k 0∧g7.getD k 0≤8:=by decide
 exact this _ (by omega)
structure EW (k:Nat) (o:List bj×List Int):Prop where
 len:o.1.length=k
 kinds:∀l∈o.1,1≤l.Kind∧l.Kind≤8
 none:∀l∈o.1,l.Rules=[]
 calls:∀c∈o.2,∃(i:Nat) (l:bj),c=i∧o.1[i]?=some l∧l.Kind≤4
theorem rD (k:Nat):co (eW s k) (EW k):=by
 refine co.runs (fun i o=>EW i o) k ⟨rfl,fun l hl=>(by cases hl),fun l hl=>(by cases hl),fun c hc=>(by cases hc)⟩ fun i o hi h=>(dA s (by omega)).bnd fun z hz=>(co.any _).bnd fun y _=>co.ret ?_
 have hkz:=BB hz
 have hold:∀c∈o.2,∃(i:Nat) (l:bj),c=i∧(o.1++[⟨g7.getD z.toNat 0,decide (y=0),[]⟩])[i]?=some l∧l.Kind≤4:=fun c hc=>by
  obtain ⟨j,l,h1,h2,h3⟩:=h.calls c hc
  exact ⟨j,l,h1,by rw [List.getElem?_append_left (Jo h2).1];exact h2,h3⟩
 refine ⟨by simp [h.len],fun l hl=>?_,fun l hl=>?_,fun c hc=>?_⟩
 ·rcases Jm hl with hl | hl
  ·exact h.kinds l hl
  ·rw [Jl hl];exact hkz
 ·rcases Jm hl with hl | hl
  ·exact h.none l hl
  ·rw [Jl hl]
 ·dsimp only at hc ⊢
  split at hc
  ·rename_i h4
   rcases Jm hc with hc | hc
   ·exact hold c hc
   ·exact ⟨i,_,Jl hc,by rw [←h.len,List.getElem?_append_right (Nat.le_refl _),Nat.sub_self];rfl,h4⟩
  ·exact hold c hc
structure Ai (n:Int) (calls:List Int) (kinds:List Int) (l:List bj):Prop where
 kind:l.map bj.Kind=kinds
 few:∀q∈l,q.Rules.length≤3
 none:∀q∈l,7≤q.Kind→q.Rules=[]
 rule:∀q∈l,∀r∈q.Rules,pu n q.Kind calls r
theorem Bj {n:Int} (hn:0 < n) (calls kinds:List Int) (hkd:∀z∈kinds,1≤z∧z≤8) {l:List bj} (hl:Ai n calls kinds l) (hno:∀q∈l,q.Rules=[]) (k:Nat):co (fI s n calls l k) (Ai n calls kinds):=by
 refine (co.runs (fun i q=>Ai n calls kinds q∧∀(j:Nat) x,i≤j→q[j]?=some x→x.Rules=[]) k ⟨hl,fun j x _ hx=>hno x (Jw hx)⟩ fun i q hi ⟨h,h0⟩=>?_).mono fun _ h=>h.1
 cases hq:q[i]? with
 | none=>exact co.ret ⟨h,fun j x hj hx=>h0 j x (by omega) hx⟩
 | some x=>
  dsimp only
  refine co.ite (fun h7=>co.ret ⟨h,fun j x hj hx=>h0 j x (by omega) hx⟩) fun h7=>(dA s (by omega)).bnd fun c hc=>?_
  have hxm:=Jw hq
  have hxk:x.Kind∈kinds:=by rw [←h.kind];exact List.mem_map_of_mem hxm
  have hxk:=hkd _ hxk
  have hr:co (fx s n x.Kind calls (1+c).toNat) fun rs=>rs.length≤3∧∀r∈rs,pu n x.Kind calls r:=by
   refine (co.runs (fun i rs=>rs.length=i∧∀r∈rs,pu n x.Kind calls r) (1+c).toNat ⟨rfl,fun r hr=>by cases hr⟩ fun i rs _ ⟨h1,h2⟩=>(Cv s hn (by omega) calls).bnd fun r hr=>co.ret ⟨by simp [h1],fun y hy=>?_⟩).mono fun rs ⟨h1,h2⟩=>⟨by omega,h2⟩
   rcases Jm hy with hy | hy
   ·exact h2 y hy
   ·rw [Jl hy];exact hr
  refine hr.bnd fun rs ⟨hr1,hr2⟩=>co.ret ⟨⟨?_,fun y hy=>?_,fun y hy h7'=>?_,fun y hy r hr=>?_⟩,fun j y hj hy=>?_⟩
  ·rw [←h.kind]
   apply List.ext_getElem?
   intro j
   rw [List.getElem?_map,List.getElem?_map]
   by_cases e:i=j
   ·subst e
    rw [List.getElem?_set_self (Jo hq).1,hq]
    rfl
   ·rw [List.getElem?_set_ne e]
  ·rcases List.mem_or_eq_of_mem_set hy with hy | hy
   ·exact h.few y hy
   ·rw [hy];exact hr1
  ·rcases List.mem_or_eq_of_mem_set hy with hy | hy
   ·exact h.none y hy h7'
   ·rw [hy] at h7';exact absurd h7' h7
  ·rcases List.mem_or_eq_of_mem_set hy with hy | hy
   ·exact h.rule y hy r hr
   ·rw [hy] at hr ⊢;exact hr2 r hr
  ·rw [List.getElem?_set_ne (by omega)] at hy
   exact h0 j y (by omega) hy
structure Aj (n:Int) (l:List bj):Prop where
 len:l.length≤6
 kinds:∀q∈l,1≤q.Kind∧q.Kind≤8
 few:∀q∈l,q.Rules.length≤3
 none:∀q∈l,7≤q.Kind→q.Rules=[]
 rule:∀q∈l,∀r∈q.Rules,∃calls,pu n q.Kind calls r∧∀c∈calls,∃(i:Nat) (x:bj),c=i∧l[i]?=some x∧x.Kind≤4
theorem oM {n:Int} (hn:0 < n):co (j4 s n) (Aj n):=by
 refine (dA s (by omega)).bnd fun k hk=>(rD s k.toNat).bnd fun o ho=>?_
 refine (Bj s hn o.2 (o.1.map bj.Kind) (fun z hz=>?_) (l:=o.1) ⟨rfl,fun q hq=>by rw [ho.none q hq];exact Nat.zero_le _,fun q hq _=>ho.none q hq,fun q hq r hr=>by rw [ho.none q hq] at hr;cases hr⟩ ho.none k.toNat).mono fun l hl=>?_
 ·obtain ⟨q,hq,rfl⟩:=List.mem_map.1 hz
  exact ho.kinds q hq
 have hlen:l.length=o.1.length:=by have:=congrArg List.length hl.kind;simpa using this
 have hat:∀(i:Nat) (y:bj),o.1[i]?=some y→∃x,l[i]?=some x∧x.Kind=y.Kind:=fun i y hy=>by
  have hi:i < l.length:=by rw [hlen];exact (Jo hy).1
  refine ⟨_,Jz hi,?_⟩
  have:=congrArg (fun q:List Int=>q[i]?) hl.kind
  simp only [List.getElem?_map,hy,Jz hi,Option.map_some] at this
  exact Option.some.inj this
 refine ⟨by rw [hlen,ho.len];omega,fun q hq=>?_,hl.few,hl.none,fun q hq r hr=>⟨o.2,hl.rule q hq r hr,fun c hc=>?_⟩⟩
 ·have:q.Kind∈o.1.map bj.Kind:=by rw [←hl.kind];exact List.mem_map_of_mem hq
  obtain ⟨y,hy,he⟩:=List.mem_map.1 this
  rw [←he]
  exact ho.kinds y hy
 ·obtain ⟨i,y,h1,h2,h3⟩:=ho.calls c hc
  obtain ⟨x,h4,h5⟩:=hat i y h2
  exact ⟨i,x,h1,h4,by omega⟩
end Go.Proofs.YtjjpkibjffmceaaGreat
namespace Go.Proofs.YtjjpkibjffmceaaGreat
variable (s:List Int)
def xL (a:dv):Int×Int:=(a.Kind,a.Class)
structure GJ (cl:Int) (mark:Bool) (l:List dv):Prop where
 sub:(l.map xL).Sublist (g9 cl)
 at':∀a∈l,(0≤a.X∧a.X≤1000)∧(-200≤a.Y∧a.Y≤800)∧(a.Kind=2→mark=true)
theorem tD {cl:Int} {i:Nat} (h:i < 5):(g9 cl)[i]?=some ((g9 cl).getD i (0,0)):=by
 rw [List.getD_eq_getElem?_getD,Jz (show i < (g9 cl).length from h)]
 rfl
theorem tE (mark:Bool) (cl:Int):co (fq s mark cl 5) (GJ cl mark):=by
 refine (co.runs (b:=[]) (fun i (l:List dv)=>(l.map xL).Sublist ((g9 cl).take i)∧∀a∈l,(0≤a.X∧a.X≤1000)∧(-200≤a.Y∧a.Y≤800)∧(a.Kind=2→mark=true)) 5 ⟨List.nil_sublist _,fun a ha=>by cases ha⟩ fun i l hi ⟨h1,h2⟩=>(co.any _).bnd fun z _=>co.ite (fun h3=>(dA s (by omega)).bnd fun x hx=>(dA s (by omega)).bnd fun y hy=>co.ret ⟨?_,fun a ha=>?_⟩) fun _=>co.ret ⟨?_,h2⟩).mono fun l ⟨h1,h2⟩=>⟨h1,h2⟩
 ·rw [List.take_add_one,tD hi,List.map_append]
  exact h1.append (List.Sublist.refl _)
 ·rcases Jm ha with ha | ha
  ·exact h2 a ha
  ·rw [Jl ha]
   refine ⟨by dsimp only;omega,by dsimp only;omega,fun hk=>?_⟩
   rcases h3.2 with h4 | h4
   ·exact absurd hk h4
   ·exact h4
 ·rw [List.take_add_one]
  exact h1.trans (List.sublist_append_left _ _)
def I3 (a b:dK):Prop:=a.Region < b.Region∨(a.Region=b.Region∧a.Point < b.Point)
structure GK (R pts:Nat) (l:List dK):Prop where
 up:l.Pairwise I3
 len:l.length≤R * (pts+1)
 dom:∀d∈l,(0≤d.Region∧d.Region < R)∧(-1≤d.Point∧d.Point < pts)∧(-20≤d.X∧d.X≤20)∧(-20≤d.Y∧d.Y≤20)∧(d.Point= -1→d.Y=0)
structure tp (r p pts:Nat) (l:List dK):Prop where
 up:l.Pairwise I3
 len:l.length≤r * (pts+1)+p
 dom:∀d∈l,(0≤d.Region∧(d.Region < r∨(d.Region=r∧d.Point < (p:Int) - 1)))∧(-1≤d.Point∧d.Point < pts)∧(-20≤d.X∧d.X≤20)∧(-20≤d.Y∧d.Y≤20)∧(d.Point= -1→d.Y=0)
theorem tp.more {r p pts:Nat} {l:List dK} (h:tp r p pts l):tp r (p+1) pts l:=⟨h.up,by have:=h.len;omega,fun d hd=>by have:=h.dom d hd;omega⟩
theorem tp.add {r p pts:Nat} {l:List dK} (h:tp r p pts l) {x y:Int} (hp:p≤pts) (hx: -20≤x∧x≤20) (hy: -20≤y∧y≤20) (h0:p=0→y=0):tp r (p+1) pts (l++[⟨r,(p:Int) - 1,x,y⟩]):=by
 refine ⟨?_,by have:=h.len;simp;omega,fun d hd=>?_⟩
 ·rw [List.pairwise_append]
  refine ⟨h.up,List.pairwise_singleton ..,fun a ha b hb=>?_⟩
  rw [Jl hb]
  have:=h.dom a ha
  unfold I3
  dsimp only
  omega
 ·rcases Jm hd with hd | hd
  ·have:=h.dom d hd;omega
  ·rw [Jl hd]
   dsimp only
   refine ⟨by omega,by omega,hx,hy,fun hq=>h0 (by omega)⟩
theorem pR (pts R:Nat):co (gG s pts R) (GK R pts):=by
 refine (co.runs (fun r l=>tp r 0 pts l) R ⟨.nil,by simp,fun d hd=>by cases hd⟩ fun r l _ h=>?_).mono fun l h=>⟨h.up,h.len,fun d hd=>by have:=h.dom d hd;omega⟩
 refine (co.runs (fun p l=>tp r p pts l) (pts+1) h fun p l hp h=>(co.any _).bnd fun z _=>co.ite (fun _=>(dA s (by omega)).bnd fun x hx=>co.ite (fun h0=>co.ret ?_) fun h0=>(dA s (by omega)).bnd fun y hy=>co.ret ?_) fun _=>co.ret h.more).mono fun l h=>⟨h.up,by have:=h.len;rw [Nat.add_mul];omega,fun d hd=>by have:=h.dom d hd;omega⟩
 ·subst h0
  exact h.add (by omega) (by omega) (by omega) fun _=>rfl
 ·exact h.add (by omega) (by omega) (by omega) fun e=>absurd e h0
structure D0 (R n:Nat) (g:bL):Prop where
 name:g.Name=dD n
 adv:100≤g.Advance∧g.Advance≤1000
 out:∃k,k≤2∧tu k (g.Points,g.Ends)
 parts:g.Parts=[]∨(1 < n∧∃x y:Int,g.Parts=[⟨1,x,y⟩]∧(-200≤x∧x≤200)∧0≤y∧y≤200)
 anch:∃cl,(0≤cl∧cl < 2)∧GJ cl g.Mark g.Anchors
 dels:GK R g.Points.length g.Deltas
 hint:iT 45 g.Hint
theorem yU {R fn n:Nat} (hf:fn≤1000):co (km s R fn n) (D0 R n):=by
 have hparts:co (j8 s n) fun ps=>ps=[]∨(1 < n∧∃x y:Int,ps=[⟨1,x,y⟩]∧(-200≤x∧x≤200)∧0≤y∧y≤200):=by
  refine co.ite (fun h1=>(co.any _).bnd fun z _=>co.ite (fun _=>(dA s (by omega)).bnd fun x hx=>(dA s (by omega)).bnd fun y hy=>co.ret (.inr ⟨h1,_,_,rfl,by omega,by omega⟩)) fun _=>co.ret (.inl rfl)) fun _=>co.ret (.inl rfl)
 refine (dA s (by omega)).bnd fun ad had=>(co.any _).bnd fun mk _=>(oP s).bnd fun o ho=>hparts.bnd fun ps hps=>(dA s (by omega)).bnd fun cl hcl=>(tE s _ cl).bnd fun an han=>(pR s _ R).bnd fun de hde=>(co.any _).bnd fun _ _=>?_
 have hl:o.1.length≤10:=by obtain ⟨k,h1,h2⟩:=ho;have:=h2.len;omega
 exact (uq s (n:=o.1.length) (funcs:=fn) (most:=6) (by omega) (by omega) (by omega)).bnd fun h hh=>co.ret ⟨rfl,by dsimp only;omega,ho,hps,⟨cl,hcl,han⟩,hde,hh⟩
def mD (t:eo):Prop:=qP 0 t=0
structure fW (f:aL):Prop where
  unit:16≤f.Unit∧f.Unit≤4096
  glyN:2≤f.Glyphs.length∧f.Glyphs.length≤10
  gly:∀(i:Nat) g,f.Glyphs[i]?=some g→D0 f.Regions.length i g
  chars:f.Chars.length≤16
  charR:(f.Chars.map ey.Rune).Sublist fy
  charG:∀c∈f.Chars,0≤c.Glyph∧c.Glyph < f.Glyphs.length
  looks:Aj f.Glyphs.length f.Lookups
  featN:(f.Features.map bX.Name).Sublist eO
  featL:∀t∈f.Features,t.Lookups.Pairwise (· < ·)∧t.Lookups.length≤6∧∀z∈t.Lookups,0≤z∧z < f.Lookups.length
  axes:f.Axes.length≤2
  axisN:f.Axes.map eB.Name=(List.range f.Axes.length).map (l8 ym)
  axis:∀a∈f.Axes,(-200≤a.Min∧a.Min≤0)∧a.Def=0∧0≤a.Max∧a.Max≤300
  regs:f.Regions.length≤3
  reg:∀r∈f.Regions,r.length=f.Axes.length∧∀t∈r,mD t
  funcs:f.Funcs.length≤2
  func:∀c∈f.Funcs,iT 45 c
  cvt:f.Cvt.length≤3
  cvtM:∀z∈f.Cvt,-100≤z∧z < 400
theorem Br {α:Type} {l:List α} {i:Nat} (h:i < l.length) (d:α):l.getD i d∈l:=by
 rw [List.getD_eq_getElem?_getD,Jz h]
 exact List.getElem_mem h
theorem lu {α:Type} {l:List α} {i:Nat} (h:i < l.length) (d:α):l[i]?=some (l.getD i d):=by
 rw [List.getD_eq_getElem?_getD,Jz h]
 rfl
theorem BP:co (BO s) fW:=by
  have hax:∀k:Nat,co (kR s k) fun l=>l.length=k∧l.map eB.Name=(List.range k).map (l8 ym)∧∀a∈l,(-200≤a.Min∧a.Min≤0)∧a.Def=0∧0≤a.Max∧a.Max≤300:=fun k=>by
    refine co.runs (fun i (l:List eB)=>l.length=i∧l.map eB.Name=(List.range i).map (l8 ym)∧∀a∈l,(-200≤a.Min∧a.Min≤0)∧a.Def=0∧0≤a.Max∧a.Max≤300) k ⟨rfl,rfl,fun a ha=>by cases ha⟩ fun i l _ ⟨h1,h2,h3⟩=>(dA s (by omega)).bnd fun a ha=>(dA s (by omega)).bnd fun b hb=>co.ret ⟨by simp [h1],by simp [h2,List.range_succ],fun x hx=>?_⟩
    rcases Jm hx with hx | hx
    · exact h3 x hx
    · rw [Jl hx];dsimp only;omega
  have hrg:∀k:Nat,co (ge s k) fun l=>l.length≤3∧∀r∈l,r.length=k∧∀t∈r,mD t:=fun k=>by
    refine co.ite (fun _=>co.ret ⟨Nat.zero_le _,fun r hr=>by cases hr⟩) fun _=>(dA s (by omega)).bnd fun n hn=>?_
    refine (co.runs (fun i (l:List (List eo))=>l.length=i∧∀r∈l,r.length=k∧∀t∈r,mD t) n.toNat ⟨rfl,fun a ha=>by cases ha⟩ fun i l _ ⟨h1,h2⟩=>?_).mono fun l ⟨h1,h2⟩=>⟨by omega,h2⟩
    refine (co.runs (fun i (r:List eo)=>r.length=i∧∀t∈r,mD t) k ⟨rfl,fun a ha=>by cases ha⟩ fun i r _ ⟨h1,h2⟩=>(dA s (by omega)).bnd fun z hz=>co.ret ⟨by simp [h1],fun x hx=>?_⟩).bnd fun r hr=>co.ret ⟨by simp [h1],fun x hx=>?_⟩
    · rcases Jm hx with hx | hx
      · exact h2 x hx
      · rw [Jl hx]
        have:∀t∈kA,mD t:=by unfold mD;decide
        exact this _ (Br (by simp only [kA,List.length_cons,List.length_nil];omega) _)
    · rcases Jm hx with hx | hx
      · exact h2 x hx
      · rw [Jl hx];exact hr
  have hfu:∀k:Nat,k≤1000→co (iZ s k) fun l=>l.length=k∧∀c∈l,iT 45 c:=fun k hk=>by
    refine co.runs (fun i (l:List (List ep))=>l.length=i∧∀c∈l,iT 45 c) k ⟨rfl,fun a ha=>by cases ha⟩ fun i l hi ⟨h1,h2⟩=>(co.any _).bnd fun _ _=>(uq s (by omega) (by omega) (by omega)).bnd fun h hh=>co.ret ⟨by simp [h1],fun x hx=>?_⟩
    rcases Jm hx with hx | hx
    · exact h2 x hx
    · rw [Jl hx];exact hh
  have hcv:∀k:Nat,co (pN s k) fun l=>l.length=k∧∀z∈l,-100≤z∧z < 400:=fun k=>by
    refine co.runs (fun i (l:List Int)=>l.length=i∧∀z∈l,-100≤z∧z < 400) k ⟨rfl,fun a ha=>by cases ha⟩ fun i l hi ⟨h1,h2⟩=>(dA s (by omega)).bnd fun z hz=>co.ret ⟨by simp [h1],fun x hx=>?_⟩
    rcases Jm hx with hx | hx
    · exact h2 x hx
    · rw [Jl hx];omega
  have hgl:∀R fn k:Nat,fn≤1000→co (gJ s R fn k) fun l=>l.length=k∧∀(i:Nat) g,l[i]?=some g→D0 R i g:=fun R fn k hf=>by
    refine co.runs (fun i (l:List bL)=>l.length=i∧∀(j:Nat) g,l[j]?=some g→D0 R j g) k ⟨rfl,fun j g h=>by simp at h⟩ fun i l hi ⟨h1,h2⟩=>(yU s hf).bnd fun g hg=>co.ret ⟨by simp [h1],fun j x hx=>?_⟩
    rcases Nat.lt_or_ge j l.length with h | h
    · rw [List.getElem?_append_left h] at hx
      exact h2 j x hx
    · have hj:=(Jo hx).1
      have:j=l.length:=by simp at hj;omega
      subst this
      rw [List.getElem?_append_right (Nat.le_refl _),Nat.sub_self] at hx
      cases hx
      rw [h1]
      exact hg
  have hch:∀n:Int,0 < n→co (ix s n 16) fun l=>(l.map ey.Rune).Sublist fy∧∀c∈l,0≤c.Glyph∧c.Glyph < n:=fun n hn=>by
    refine (co.runs (b:=[]) (fun i (l:List ey)=>(l.map ey.Rune).Sublist (fy.take i)∧∀c∈l,0≤c.Glyph∧c.Glyph < n) 16 ⟨List.nil_sublist _,fun a ha=>by cases ha⟩ fun i l hi ⟨h1,h2⟩=>(co.any _).bnd fun z _=>co.ite (fun _=>(dA s hn).bnd fun g hg=>co.ret ⟨?_,fun x hx=>?_⟩) fun _=>co.ret ⟨?_,h2⟩).mono fun l h=>h
    · rw [List.take_add_one,lu (l:=fy) (i:=i) hi 0,List.map_append]
      exact h1.append (List.Sublist.refl _)
    · rcases Jm hx with hx | hx
      · exact h2 x hx
      · rw [Jl hx];exact hg
    · rw [List.take_add_one]
      exact h1.trans (List.sublist_append_left _ _)
  have hft:∀n:Nat,n≤6→co (iA s n 8) fun l=>(l.map bX.Name).Sublist eO∧∀t∈l,t.Lookups.Pairwise (· < ·)∧t.Lookups.length≤6∧∀z∈t.Lookups,0≤z∧z < n:=fun n hn=>by
    have hask:co (nO s n) fun l=>l.Pairwise (· < ·)∧l.length≤n∧∀z∈l,0≤z∧z < n:=by
      refine co.runs (fun i (l:List Int)=>l.Pairwise (· < ·)∧l.length≤i∧∀z∈l,0≤z∧z < i) n ⟨.nil,Nat.le_refl _,fun a ha=>by cases ha⟩ fun i l hi ⟨h1,h2,h3⟩=>(co.any _).bnd fun z _=>co.ret ?_
      split
      · refine ⟨?_,by simp;omega,fun x hx=>?_⟩
        · rw [List.pairwise_append]
          exact ⟨h1,List.pairwise_singleton ..,fun a ha b hb=>by rw [Jl hb];have:=h3 a ha;omega⟩
        · rcases Jm hx with hx | hx
          · have:=h3 x hx;omega
          · rw [Jl hx];omega
      · exact ⟨h1,by omega,fun x hx=>by have:=h3 x hx;omega⟩
    refine (co.runs (b:=[]) (fun i (l:List bX)=>(l.map bX.Name).Sublist (eO.take i)∧∀t∈l,t.Lookups.Pairwise (· < ·)∧t.Lookups.length≤6∧∀z∈t.Lookups,0≤z∧z < n) 8 ⟨List.nil_sublist _,fun a ha=>by cases ha⟩ fun i l hi ⟨h1,h2⟩=>hask.bnd fun r hr=>(co.any _).bnd fun z _=>co.ret ?_).mono fun l h=>h
    split
    · refine ⟨?_,fun x hx=>?_⟩
      · rw [List.take_add_one,lu (l:=eO) (i:=i) hi ByteArray.empty,List.map_append]
        exact h1.append (List.Sublist.refl _)
      · rcases Jm hx with hx | hx
        · exact h2 x hx
        · rw [Jl hx];exact ⟨hr.1,by have:=hr.2.1;dsimp only;omega,hr.2.2⟩
    · rw [List.take_add_one]
      exact ⟨h1.trans (List.sublist_append_left _ _),h2⟩
  refine (dA s (by omega)).bnd fun u hu=>(dA s (by omega)).bnd fun k hk=>(hax _).bnd fun ax ⟨ha1,ha2,ha3⟩=>(hrg _).bnd fun rg ⟨hr1,hr2⟩=>(dA s (by omega)).bnd fun k2 hk2=>(hfu _ (by omega)).bnd fun fu ⟨hf1,hf2⟩=>(dA s (by omega)).bnd fun k3 hk3=>(hcv _).bnd fun cv ⟨hc1,hc2⟩=>(dA s (by omega)).bnd fun k4 hk4=>(hgl _ _ _ (by omega)).bnd fun gl ⟨hg1,hg2⟩=>(hch gl.length (by omega)).bnd fun ch ⟨hh1,hh2⟩=>(oM s (n:=gl.length) (by omega)).bnd fun lk hlk=>(hft lk.length hlk.len).bnd fun ft ⟨ht1,ht2⟩=>co.ret ?_
  refine ⟨?_,by dsimp only;omega,hg2,?_,hh1,hh2,hlk,ht1,ht2,by dsimp only;omega,by dsimp only;rw [ha1];exact ha2,ha3,hr1,fun r hr=>⟨by dsimp only;rw [ha1];exact (hr2 r hr).1,(hr2 r hr).2⟩,by dsimp only;omega,hf2,by dsimp only;omega,hc2⟩
  · have:∀j < 4,16≤mF.getD j 0∧mF.getD j 0≤4096:=by decide
    exact this _ (by omega)
  · have:=hh1.length_le
    simpa [fy] using this
theorem Ee:fW (na s):=BP s ⟨0,0⟩
end Go.Proofs.YtjjpkibjffmceaaGreat
