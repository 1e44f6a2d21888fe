/-
  DERIVED: THE SHELF's CONTRACTS AT THIS DUMP, IN PLAIN WORDS (tools/lay-plain.mjs out of 'YtjjpkibjffmceaaGreatSortIn.lean', which tools/lay-shelf.mjs wrote): THE SAME DECLARATIONS UNDER THE SAME NAMES: 'import', 'namespace', 'open', 'def', 'theorem' AND NOTHING ELSE: no command of the shelf's: FOR A HAND-IN. Each laying: the table of numbers ('.._ren') and one theorem, a field a fact of the dump's own or the kernel's comparison; each contract: ONE APPLICATION.
-/
import Derived.Shelf.Slices.In.SortNone
import Derived.Shelf.Slices.In.SortAlone
import Derived.Ground.NamesProg
import Derived.Test.YtjjpkibjffmceaaGreatProg
import Derived.Test.YtjjpkibjffmceaaGreatM16
import Derived.Lib.SortBridge
import Derived.Test.YtjjpkibjffmceaaGreatM17
namespace Go.Proofs
open Go.Shelf
def Tryz.laysSort_ren:Go.Shelf.Ren:=⟨fun | 189=>90 | 125=>150 | 257=>149 | 128=>211 | 129=>212 | 294=>202 | 295=>203 | 296=>204 | 297=>205 | 298=>206 | 299=>207 | 216=>208 | 300=>209 | 301=>210 | 328=>244 | 329=>245 | 330=>246 | 331=>247 | 332=>248 | 215=>249 | 343=>261 | n=>n,fun | 28=>22 | 3=>3 | 46=>261 | 0=>0 | 51=>23 | 53=>309 | 4=>4 | 183=>301 | 182=>300 | 131=>161 | 5=>5 | 9=>9 | 218=>330 | 222=>334 | 228=>352 | 229=>353 | n=>n,fun | n=>n⟩
theorem Tryz.laysSort:Go.Proofs.Lays.n189 Tryz.prog Tryz.laysSort_ren:={
 mixed:=by kernel_rfl
 f125:=Tryz.func150.trans (congrArg some (by kernel_rfl))
 f128:=Tryz.func211.trans (congrArg some (by kernel_rfl))
 f129:=Tryz.func212.trans (congrArg some (by kernel_rfl))
 f189:=Tryz.func90.trans (congrArg some (by kernel_rfl))
 f215:=Tryz.func249.trans (congrArg some (by kernel_rfl))
 f216:=Tryz.func208.trans (congrArg some (by kernel_rfl))
 f257:=Tryz.func149.trans (congrArg some (by kernel_rfl))
 f294:=Tryz.func202.trans (congrArg some (by kernel_rfl))
 f295:=Tryz.func203.trans (congrArg some (by kernel_rfl))
 f296:=Tryz.func204.trans (congrArg some (by kernel_rfl))
 f297:=Tryz.func205.trans (congrArg some (by kernel_rfl))
 f298:=Tryz.func206.trans (congrArg some (by kernel_rfl))
 f299:=Tryz.func207.trans (congrArg some (by kernel_rfl))
 f300:=Tryz.func209.trans (congrArg some (by kernel_rfl))
 f301:=Tryz.func210.trans (congrArg some (by kernel_rfl))
 f328:=Tryz.func244.trans (congrArg some (by kernel_rfl))
 f329:=Tryz.func245.trans (congrArg some (by kernel_rfl))
 f330:=Tryz.func246.trans (congrArg some (by kernel_rfl))
 f331:=Tryz.func247.trans (congrArg some (by kernel_rfl))
 f332:=Tryz.func248.trans (congrArg some (by kernel_rfl))
 f343:=Tryz.func261.trans (congrArg some (by kernel_rfl))
 t0:=Tryz.underlying0
 a0:=Tryz.isAgg0
 z0:=Tryz.sizeOf0
 v0:=Tryz.zeroValue0
 t3:=Tryz.underlying3
 a3:=Tryz.isAgg3
 z3:=Tryz.sizeOf3
 v3:=Tryz.zeroValue3
 t4:=Tryz.underlying4
 a4:=Tryz.isAgg4
 z4:=Tryz.sizeOf4
 v4:=Tryz.zeroValue4
 t5:=Tryz.underlying5
 a5:=Tryz.isAgg5
 z5:=Tryz.sizeOf5
 v5:=Tryz.zeroValue5
 t9:=Tryz.underlying9
 a9:=Tryz.isAgg9
 z9:=Tryz.sizeOf9
 v9:=Tryz.zeroValue9
 t28:=Tryz.underlying22
 a28:=Tryz.isAgg22
 z28:=Tryz.sizeOf22
 v28:=Tryz.zeroValue22
 t46:=Tryz.underlying261
 a46:=Tryz.isAgg261
 z46:=Tryz.sizeOf261
 v46:=Tryz.zeroValue261
 t51:=Tryz.underlying23
 a51:=Tryz.isAgg23
 z51:=Tryz.sizeOf23
 v51:=Tryz.zeroValue23
 t53:=Tryz.underlying309
 a53:=Tryz.isAgg309
 z53:=Tryz.sizeOf309
 v53:=Tryz.zeroValue309
 t131:=Tryz.underlying161
 a131:=Tryz.isAgg161
 z131:=Tryz.sizeOf161
 v131:=Tryz.zeroValue161
 t182:=Tryz.underlying300
 a182:=Tryz.isAgg300
 z182:=Tryz.sizeOf300
 v182:=Tryz.zeroValue300
 t183:=Tryz.underlying301
 a183:=Tryz.isAgg301
 z183:=Tryz.sizeOf301
 v183:=Tryz.zeroValue301
 t218:=Tryz.underlying330
 a218:=Tryz.isAgg330
 z218:=Tryz.sizeOf330
 v218:=Tryz.zeroValue330
 t222:=Tryz.underlying334
 a222:=Tryz.isAgg334
 z222:=Tryz.sizeOf334
 v222:=Tryz.zeroValue334
 t228:=Tryz.underlying352
 a228:=Tryz.isAgg352
 z228:=Tryz.sizeOf352
 v228:=Tryz.zeroValue352
 t229:=Tryz.underlying353
 a229:=Tryz.isAgg353
 z229:=Tryz.sizeOf353
 v229:=Tryz.zeroValue353 }
end Go.Proofs
namespace Go.Proofs.YtjjpkibjffmceaaGreat
open Go.RowKit Go.Shelf Go.Sort
def dW (l:List Int):List Int:=l.mergeSort fun x y=>decide (x≤y)
theorem j7 (l:List Int):(dW l).length=l.length:=by simp [dW]
theorem wB (b n:Nat) (l:List Int) (w:World) (hn:l.length=n) (hl:n≤1000000) (hb:w.heap[b]?=some (.cells (l.map (Value.int .i64)).toArray 3 (0,0))):
  Calls Tryz.prog 90 #[.slice (some ⟨b,0,none⟩) n n] w fun e w'=>e= .returned (.tuple #[])∧w.grownBy w' (some b)∧w'.heap[b]?=some (.cells ((dW l).map (Value.int .i64)).toArray 3 (0,0)):=by
 have hH:Holds (Value.int .i64) w b 0 l.toArray:=by
  intro j hj
  have hj':j < l.length:=by simpa using hj
  rw [Nat.zero_add,ep hb,rT hb]
  refine ⟨?_,rfl⟩
  simp [hj']
 have hlt:b < w.heap.size:=(Array.getElem?_eq_some_iff.1 hb).1
 subst hn
 have h:=calls_of_every_depth fun D=>AnyS.slices_Sort_int_alone Tryz.laysSort D b 0 l.length l w hH hlt (by omega)
 refine Calls.mono h fun e w' ⟨he,q,os,hw⟩=>⟨he,?_⟩
 rw [Lib.sorted_world _ w b 0 q _ _ os hH (by simp),show (l.mergeSort fun x y=>decide (x≤y))=dW l from rfl] at hw
 have hb':(w.drewN q).heap[b]?=some (.cells (l.map (Value.int .i64)).toArray 3 (0,0)):=hb
 obtain ⟨hg,cs',hh,hs',hj⟩:=i3 b ((dW l).map (Value.int .i64)) 0 (w.drewN q) _ 3 (0,0) hb'
 have hsz:(w.drewN q).heap.size=w.heap.size:=rfl
 have hgs:=hg.size
 subst hw
 refine ⟨⟨hg.os,hg.tape,hg.output,?_,fun k hk hkb=>?_⟩,?_⟩
 ·show w.heap.size≤(((w.drewN q).setCells b 0 ((dW l).map (Value.int .i64))).heap++os).size
  rw [Array.size_append]
  exact Nat.le_trans hgs (Nat.le_add_right _ _)
 ·show (((w.drewN q).setCells b 0 ((dW l).map (Value.int .i64))).heap++os)[k]?=_
  rw [Array.getElem?_append_left (Nat.lt_of_lt_of_le hk hgs)]
  exact hg.block k hk hkb
 ·show (((w.drewN q).setCells b 0 ((dW l).map (Value.int .i64))).heap++os)[b]?=_
  rw [Array.getElem?_append_left (Nat.lt_of_lt_of_le hlt hgs)]
  refine hh.trans ?_
  congr 2
  apply Array.ext_getElem?
  intro j
  rw [hj j]
  simp only [It,j7,List.size_toArray,List.getElem?_toArray]
  by_cases hjl:j < l.length
  ·rw [if_pos (by omega)];rfl
  ·rw [if_neg (by omega),List.getElem?_eq_none (by simpa using hjl),List.getElem?_eq_none (by simpa [j7] using hjl)]
theorem tp (b n:Nat) (l:List Int) (hn:l.length=n) (hl:n≤1000000):AC Tryz.prog 90 [.sc (.slice (some ⟨b,0,none⟩) n n)] [(b,.box (l.map aP) 3)] fun _ L=>L=[(b,.box ((dW l).map aP) 3)]:=by
 intro σ w vs hv hst
 obtain ⟨v,ws,rfl,h1,h2⟩:=hv.inv
 rw [h2.nil_inv,h1.sc_inv]
 obtain ⟨o,ho,us,rfl,hus,hu1⟩:=hst.here _ (List.mem_cons_self ..)
 have hmap:∀(l:List Int) (us:List Value),dx σ (l.map aP) us→us=l.map (Value.int .i64):=by
  intro l
  induction l with
  | nil=>intro us h;exact h.nil_inv
  | cons z l ih=>
   intro us h
   obtain ⟨v,ws,rfl,h1,h2⟩:=h.inv
   rw [h1.sc_inv,ih ws h2]
   rfl
 have e:=hmap l us hus
 subst e
 refine (wB b n l w hn hl ho).mono fun e w' ⟨he,hg,hh⟩=>⟨_,σ,.tup [],_,he,.tup [] [] rfl (fun i c u h=>by simp at h),?_,rfl⟩
 refine hst.put (fun _=>trivial) hg hh ⟨_,rfl,⟨by simp,fun i c u hc hu=>?_⟩,fun u hu=>?_⟩
 ·rw [List.getElem?_map] at hc hu
  cases hz:(dW l)[i]? with
  | none=>rw [hz] at hc;cases hc
  | some z=>rw [hz] at hc hu;cases hc;cases hu;exact .sc _
 ·obtain ⟨z,_,rfl⟩:=List.mem_map.1 hu
  rfl
theorem ij (l:List Int):(dW l).Perm l:=List.mergeSort_perm ..
theorem zu (l:List Int):(dW l).Pairwise (·≤ ·):=by
  have:=List.pairwise_mergeSort (le:=fun x y:Int=>decide (x≤y)) (fun a b c h1 h2=>by simp at *;omega) (fun a b=>by simp;omega) l
  exact this.imp fun h=>by simpa using h
theorem mx {n:Nat} {l:List Int} (h:ci n l):dW l=mw l n:=by
  have h1:(dW l).Pairwise (· < ·):=by
    have hn:(dW l).Nodup:=(ij l).nodup_iff.2 h.nodup
    have hp:=zu l
    rw [List.nodup_iff_pairwise_ne] at hn
    exact (hp.and hn).imp fun ⟨a,b⟩=>by omega
  have h2:(mw l n).Pairwise (· < ·):=by
    unfold mw
    refine List.Pairwise.filter _ ?_
    rw [List.pairwise_map]
    exact List.pairwise_lt_range.imp fun h=>by simpa using h
  have hmem:∀z,z∈dW l↔z∈mw l n:=fun z=>by
    rw [(ij l).mem_iff,Cd]
    exact ⟨fun hz=>⟨hz,h.dom z hz⟩,fun hz=>hz.1⟩
  have hp:(dW l).Perm (mw l n):=by
    rw [List.perm_ext_iff_of_nodup]
    · exact hmem
    · exact (ij l).nodup_iff.2 h.nodup
    · exact wy l n
  exact List.Perm.eq_of_pairwise (le:=fun a b:Int=>a < b) (fun a b _ _ h1 h2=>by omega) h1 h2 hp
end Go.Proofs.YtjjpkibjffmceaaGreat
namespace Go.Proofs.YtjjpkibjffmceaaGreat
open Go.RowKit
attribute [local irreducible] AT bW AX AO Av Kt bA eI DA dl
def eX (l:List Int) (i:Nat):List AV:=(l.take i++List.replicate (l.length - i) 0).map aP
theorem pn (l:List Int) {i:Nat} (h:i≤l.length):(eX l i).length=l.length:=by simp [eX];omega
theorem mX (l:List Int) (m:Nat) (hm:m=l.length):(List.replicate m [aP 0]).flatten=eX l 0:=by
 subst hm
 unfold eX
 rw [List.take_zero,Iq,Nat.sub_zero,List.map_replicate]
 generalize l.length=m
 induction m with
 | zero=>rfl
 | succ m ih=>rw [List.replicate_succ,List.flatten_cons,ih,List.replicate_succ];rfl
theorem po {l:List Int} {i:Nat} {z:Int} (h:l[i]?=some z):(eX l i).set (0+(i:Int).toNat * 1) (aP z)=eX l (i+1):=by
 have hi:=(Io h).1
 rw [Nat.zero_add,Nat.mul_one,Int.toNat_natCast]
 unfold eX
 rw [←List.map_set (f:=aP)]
 congr 1
 rw [List.set_append_right _ _ (by simp;omega),List.take_add_one,h,List.append_assoc]
 congr 1
 rw [show l.length - i=(l.length - (i+1))+1 by omega,List.replicate_succ,show i - (l.take i).length=0 by simp;omega]
 rfl
theorem pm (l:List Int):eX l l.length=l.map aP:=by simp [eX]
theorem jz (l:List Int):(aZ l).flatten=l.map aP:=by
 unfold aZ
 induction l with
 | nil=>rfl
 | cons z l ih=>rw [Ip,List.flatten_cons,ih];rfl
theorem C3 (p b n:Nat) (k:Option (Nat×Nat)) (l:List Int) (hl:l.length≤1000000):AC Tryz.prog 51 [g9 p] (dV p b n k l) fun c L=>c= .imm 1 (aZ (dW l))∧L=dV p b n k l:=by
 refine aS Tryz.func51 rfl Tryz.ntmps51 rfl fun B=>?_
 repeat' (first|refine go ?_|refine HK a6 FS ?_|(apply bK;first|refine HO a6 0 HG ?_|refine HO a6 1 HG ?_|refine HO a6 2 HG ?_|refine HO a6 3 HG ?_|refine HP a6 0 HG ?_|refine HP a6 1 HG ?_|refine HP a6 2 HG ?_|refine HR a6 1 HE (by assumption) rfl ?_|refine HR a6 0 HE (by assumption) rfl ?_|fail)|fail)
 refine lb a6 l.length rfl rfl rfl rfl rfl (by rw [aQ]) (by rw [aQ]) (by omega) (by omega) rfl fun b3=>?_
 rw [show (List.replicate l.length (List.map AV.sc [Value.int .i64 0])).flatten=eX l 0 from mX l _ rfl]
 repeat' (first|refine go ?_|refine ak ?_|refine HK a6 FS ?_|(apply bK;first|refine HO a6 0 HG ?_|refine HO a6 1 HG ?_|refine HO a6 2 HG ?_|refine HO a6 3 HG ?_|refine HP a6 0 HG ?_|refine HP a6 1 HG ?_|refine HP a6 2 HG ?_|refine HR a6 1 HE (by assumption) rfl ?_|refine HR a6 0 HE (by assumption) rfl ?_|fail)|fail)
 refine aJ [3,15,16] (α:=Nat) (fun i=>[(17,aP i)]) (fun i=>i≤l.length) (fun i=>(b3,.box (eX l i) 3)::dV p b n k l) (fun i=>l.length - i) 0 rfl ⟨rfl,trivial⟩ (Nat.zero_le _) (fun _ _ h=>h) fun i hi=>?_
 try dsimp only [Ir,Iq,Ip,Ij]
 repeat' (first|refine go ?_|refine HK a6 FS ?_)
 refine ay rfl (fun h=>?_) (fun h=>?_)
 ·have hil:i < l.length:=by have:=Iy h;simp [aQ] at this;omega
  obtain ⟨z,hz⟩:∃z,l[i]?=some z:=⟨_,Iz hil⟩
  have hzg:=bT hz
  repeat' (first|refine go ?_|refine ak ?_|refine HK a6 FS ?_|(apply aU;first|refine aT a6 ?_|refine aM a6 ?_)|fail)
  refine aj a6 0 rfl rfl rfl rfl rfl rfl (by rw [Nat.ble_eq,pn l hi];show _+1≤l.length;omega) ?_
  rw [gI,po hz]
  repeat' (first|refine go ?_|refine HK a6 FS ?_|(apply aW;refine aV ?_)|fail)
  exact aB (i+1) rfl ⟨by rw [Iv];rfl,trivial⟩ (by omega) (by omega) (fun _ _ h=>h)
 ·have hil:i=l.length:=by have:=Ix h;simp [aQ] at this;omega
  subst hil
  rw [pm]
  repeat' (first|refine go ?_|refine HK a6 FS ?_)
  refine ba [(b3,.box (l.map aP) 3)] (dV p b n k l) (tp b3 l.length l rfl hl) rfl rfl (Im _) rfl fun c L1 hL1=>?_
  subst hL1
  repeat' (first|refine go ?_|refine HK a6 FS ?_)
  refine bc (nF (t:=2) (sz:=1) (l:=aZ (dW l)) 0 rfl rfl (jz _).symm (by simp [aZ]) (by rw [aQ,j7]) (by omega)) ?_
  exact cX (List.sublist_cons_self ..) (pL rfl rfl rfl ⟨rfl,rfl⟩)
theorem GM {n i:Nat} (h:i < n):(eX (cV n) i).set (0+(i:Int).toNat * 1) (aP i)=eX (cV n) (i+1):=po (jM h)
set_option maxHeartbeats 1000000 in
theorem BT (f:aL) (hf:Few f) (hr:kG f.Glyphs.length (prt f)∨AC Tryz.prog 227 [cr f] [] fun c _=>∃z:Int,c=aP z):AC Tryz.prog 171 [cr f] [] fun c _=>(∃T,c= .tup [.imm 1 (aZ T),aP 0,aP 0]∧ja f.Glyphs.length (prt f) T∧T.length=f.Glyphs.length)∨(¬kG f.Glyphs.length (prt f)∧∃z:Int,c= .tup [.imm 1 [],aP z,aP 33]):=by
 refine aS Tryz.func171 rfl Tryz.ntmps171 rfl fun B=>?_
 have hn:=hf.n
 have hln:=DG f hf
 have hml:(f.Glyphs.map bC).length=f.Glyphs.length:=It ..
 generalize hN:f.Glyphs.length=n at *
 repeat' (first|refine go ?_|refine HK a6 FS ?_|refine bh ?_|fail)
 rw [hml]
 refine lb a6 n rfl rfl rfl rfl rfl rfl rfl (by omega) (by omega) rfl fun b=>?_
 rw [show (List.replicate n (List.map AV.sc [Value.int .i64 0])).flatten=eX (cV n) 0 from mX (cV n) n (fm n).symm]
 have hul:=fm n
 repeat' (first|refine go ?_|refine ak ?_|refine HK a6 FS ?_)
 refine aJ [1,5,13] (α:=Nat) (fun i=>[(14,aP i)]) (fun i=>i≤n) (fun i=>[(b,.box (eX (cV n) i) 3)]) (fun i=>n - i) 0 rfl ⟨rfl,trivial⟩ (Nat.zero_le _) (fun _ _ h=>h) fun i hi=>?_
 try dsimp only [Ir,Iq,Ip,Ij]
 repeat' (first|refine go ?_|refine HK a6 FS ?_)
 refine ay rfl (fun h=>?_) (fun h=>?_)
 ·have hil:i < n:=by have:=Iy h;omega
  repeat' (first|refine go ?_|refine ak ?_|refine HK a6 FS ?_|(apply aU;first|refine aT a6 ?_|refine aM a6 ?_)|fail)
  refine aj a6 0 rfl rfl rfl rfl rfl rfl (by rw [Nat.ble_eq,pn (cV n) (by omega),hul];show _+1≤n;omega) ?_
  rw [gI,GM hil]
  repeat' (first|refine go ?_|refine HK a6 FS ?_|(apply aW;refine aV ?_)|fail)
  exact aB (i+1) rfl ⟨by rw [Iv];rfl,trivial⟩ (by omega) (by omega) (fun _ _ h=>h)
 ·have hil:i=n:=by have:=Ix h;omega
  subst hil
  clear h
  rw [show eX (cV i) i=(cV i).map aP by have:=pm (cV i);rw [hul] at this;exact this]
  refine bH (nF (t:=5) (sz:=1) (l:=aZ (cV i)) 0 rfl rfl (jz _).symm (by simp [aZ]) (by rw [aQ,hul]) (by omega)) ?_
  repeat' (first|refine go ?_|refine HK a6 FS ?_)
  refine ba [] _ hln rfl rfl (Im _) rfl fun c L1 ⟨T,hc,hT⟩=>?_
  subst hc
  have hTl:=aQ T
  have hIl:=aQ (cV i)
  have hTn:=hT.len
  rw [hul] at hIl
  refine aO (ck (List.nil_sublist _)) ?_
  repeat' (first|refine go ?_|refine HK a6 FS ?_)
  refine ay rfl (fun h=>?_) (fun h=>?_)
  ·have hlt:=Iy h
   rw [hTl,hIl] at hlt
   have hna:¬kG i (prt f):=fun ha=>by
    have:=hT.len_all (hT.all ha fun g p hp=>by have:=FF hp;rw [hN] at this;exact this)
    omega
   rcases hr with hr | hr
   ·exact absurd hr hna
   repeat' (first|refine go ?_|refine HK a6 FS ?_)
   refine ba [] [] hr rfl rfl (Im _) rfl fun c L1 ⟨z,hc⟩=>?_
   subst hc
   repeat' (first|refine go ?_|refine HK a6 FS ?_)
   refine bc (bf (t:=2) (c':= .imm 1 []) rfl fun σ v h=>fX 1 h) ?_
   exact pj (cs:=[.imm 1 [],aP z,aP 33]) ⟨rfl,rfl,rfl,trivial⟩ (.inr ⟨hna,z,rfl⟩)
  ·have hlt:=Ix h
   rw [hTl,hIl] at hlt
   repeat' (first|refine go ?_|refine HK a6 FS ?_)
   exact pj (cs:=[.imm 1 (aZ T),aP 0,aP 0]) ⟨rfl,rfl,rfl,trivial⟩ (.inl ⟨T,rfl,hT,by omega⟩)
def dF (D:Int→Int) (ps:List cP):Int:=ps.foldl (fun a p=>max a (D p.Glyph+1)) 0
def pF (P:Int→Int) (ps:List cP) (k:Int):Int:=ps.foldl (fun a p=>min (a+P p.Glyph) 1001) k
def eV (n:Nat) (D:Int→Int):List AV:=(cV n).map fun z=>aP (D z)
def iJ (D:Int→Int) (z v:Int):Int→Int:=fun q=>if q=z then v else D q
theorem lH {D:Int→Int} {z v:Int}:iJ D z v z=v:=by simp [iJ]
theorem ky {D:Int→Int} {z v q:Int} (h:q≠z):iJ D z v q=D q:=by simp [iJ,h]
theorem sq (D:Int→Int) (z v w:Int):iJ (iJ D z v) z w=iJ D z w:=by
 funext q
 unfold iJ
 by_cases e:q=z
 ·rw [if_pos e,if_pos e]
 ·rw [if_neg e,if_neg e,if_neg e]
theorem jX (n:Nat) (D:Int→Int):(eV n D).length=n:=by simp [eV,cV]
theorem jW {n:Nat} {D:Int→Int} {z:Int} (h0:0≤z) (h1:z < n):(eV n D)[0+z.toNat * 1]?=some (aP (D z)):=by
 rw [Nat.zero_add,Nat.mul_one]
 unfold eV
 rw [List.getElem?_map,jM (by omega),Option.map_some,show ((z.toNat:Nat):Int)=z by omega]
theorem m8 {n:Nat} {D:Int→Int} {z v:Int} (h0:0≤z) (h1:z < n):(eV n D).set (0+z.toNat * 1) (aP v)=eV n (iJ D z v):=by
 rw [Nat.zero_add,Nat.mul_one]
 apply List.ext_getElem?
 intro i
 rw [List.getElem?_set,jX]
 unfold eV iJ
 by_cases hi:z.toNat=i
 ·subst hi
  rw [if_pos rfl,if_pos (by omega),List.getElem?_map,jM (by omega),Option.map_some,if_pos (by omega)]
 ·rw [if_neg hi,List.getElem?_map,List.getElem?_map]
  by_cases hn:i < n
  ·rw [jM hn,Option.map_some,Option.map_some,if_neg (by omega)]
  ·rw [List.getElem?_eq_none (by rw [fm];omega)];rfl
theorem oL (n:Nat):(List.replicate n [aP 0]).flatten=eV n fun _=>0:=by
 rw [mX (cV n) n (fm n).symm]
 unfold eX eV
 rw [List.take_zero,Iq,Nat.sub_zero,fm,List.map_replicate]
 apply List.ext_getElem?
 intro i
 rw [List.getElem?_replicate,List.getElem?_map]
 by_cases h:i < n
 ·rw [if_pos h,jM h];rfl
 ·rw [if_neg h,List.getElem?_eq_none (by rw [fm];omega)];rfl
theorem D2 {D:Int→Int} {ps:List cP} {j:Nat} {p:cP} (h:ps[j]?=some p):dF D (ps.take (j+1))=max (dF D (ps.take j)) (D p.Glyph+1):=by
 unfold dF
 rw [List.take_add_one,h,Option.toList_some,List.foldl_append]
 rfl
theorem DQ {P:Int→Int} {ps:List cP} {k:Int} {j:Nat} {p:cP} (h:ps[j]?=some p):pF P (ps.take (j+1)) k=min (pF P (ps.take j) k+P p.Glyph) 1001:=by
 unfold pF
 rw [List.take_add_one,h,Option.toList_some,List.foldl_append]
 rfl
theorem mh {α β:Type} {F G:α→β→α}:∀(l:List β) (a:α),(∀b∈l,∀a,F a b=G a b)→l.foldl F a=l.foldl G a
 | [],_,_=>rfl
 | b::l,a,h=>by rw [List.foldl_cons,List.foldl_cons,h b (List.mem_cons_self ..)];exact mh l _ fun c hc=>h c (Is _ hc)
theorem ud {D D':Int→Int} {ps:List cP} (h:∀p∈ps,D p.Glyph=D' p.Glyph):dF D ps=dF D' ps:=mh ps 0 fun p hp a=>by rw [h p hp]
theorem uL {P P':Int→Int} {ps:List cP} {k:Int} (h:∀p∈ps,P p.Glyph=P' p.Glyph):pF P ps k=pF P' ps k:=mh ps k fun p hp a=>by rw [h p hp]
theorem Gj {D:Int→Int} {m:Int} (h:∀z,0≤D z∧D z≤m):∀(ps:List cP),0≤dF D ps∧dF D ps≤m+1:=by
 intro ps
 have hm:0≤m:=by have:=h 0;omega
 have:∀(ps:List cP) (a:Int),0≤a→a≤m+1→0≤ps.foldl (fun a p=>max a (D p.Glyph+1)) a∧ps.foldl (fun a p=>max a (D p.Glyph+1)) a≤m+1:=by
  intro ps
  induction ps with
  | nil=>intro a h0 h1;exact ⟨h0,h1⟩
  | cons p ps ih=>intro a h0 h1;have:=h p.Glyph;exact ih (max a (D p.Glyph+1)) (by omega) (by omega)
 exact this ps 0 (by omega) (by omega)
theorem EA {P:Int→Int} {k:Int} (h:∀z,0≤P z∧P z≤1000000) (hk:0≤k∧k≤1000000) (ps:List cP):0≤pF P ps k∧pF P ps k≤1000000:=by
 unfold pF
 induction ps generalizing k with
 | nil=>exact hk
 | cons p ps ih=>have:=h p.Glyph;exact ih (k:=min (k+P p.Glyph) 1001) (by omega)
def jO (f:aL) (D P:Int→Int):Prop:=∀z:Int,0≤z→z < f.Glyphs.length→∀gl,f.Glyphs[z.toNat]?=some gl→D z=dF D gl.Parts∧P z=pF P gl.Parts gl.Points.length
structure vl (f:aL):Prop extends Few f where
 points:∀gl∈f.Glyphs,gl.Points.length≤1000000
 there:∀gl∈f.Glyphs,∀p∈gl.Parts,l9 f p.Glyph=true
theorem tj {f:aL} (hf:vl f) {z:Int} {gl:br} (h:f.Glyphs[z.toNat]?=some gl):prt f z=gl.Parts.map cP.Glyph:=by
 unfold prt
 rw [h]
 refine List.filter_eq_self.2 fun y hy=>?_
 obtain ⟨p,hp,rfl⟩:=List.mem_map.1 hy
 exact hf.there gl (Iw h) p hp
def pY (_:Nat) (levels:Int):Int:=eH (decide (levels > 4)) 34
def qn (_:Nat) (all:Int):Int:=eH (decide (all≥1001)) 2
theorem vJ (i:Nat) (n:Int):bV Tryz.prog 174 [aP i,aP n] (aP (pY i n)):=by
 refine aS Tryz.func174 rfl Tryz.ntmps174 rfl fun B=>?_
 repeat' (first|refine go ?_|refine HK a6 FS ?_|(apply bq;refine bg ?_)|fail)
 exact HT HE
theorem vK (i:Nat) (n:Int):bV Tryz.prog 176 [aP i,aP n] (aP (qn i n)):=by
 refine aS Tryz.func176 rfl Tryz.ntmps176 rfl fun B=>?_
 repeat' (first|refine go ?_|refine HK a6 FS ?_|(apply bq;refine bg ?_)|fail)
 exact HT HE
theorem xZ (l:List Int):bV Tryz.prog 172 [.iptr [.imm 1 (aZ l)]] (cJ (dE l pY)):=by
 refine aS Tryz.func172 rfl Tryz.ntmps172 rfl fun B=>?_
 repeat' (first|refine go ?_|refine HK a6 FS ?_)
 refine ba [] [] (mU (u:= .sc (.func (.func 174) #[] #[])) (g:=174) (caps:=[]) rfl l _ (fun _ _=>True) [] trivial (dM (fun i x _=>vJ i x))) rfl rfl (Im _) rfl fun c L1 hc=>?_
 have hc:c=cJ (dE l pY):=hc
 subst hc
 unfold cJ
 repeat' (first|refine go ?_|refine HK a6 FS ?_)
 exact be rfl rfl rfl rfl
theorem y3 (l:List Int):bV Tryz.prog 175 [.iptr [.imm 1 (aZ l)]] (cJ (dE l qn)):=by
 refine aS Tryz.func175 rfl Tryz.ntmps175 rfl fun B=>?_
 repeat' (first|refine go ?_|refine HK a6 FS ?_)
 refine ba [] [] (mU (u:= .sc (.func (.func 176) #[] #[])) (g:=176) (caps:=[]) rfl l _ (fun _ _=>True) [] trivial (dM (fun i x _=>vK i x))) rfl rfl (Im _) rfl fun c L1 hc=>?_
 have hc:c=cJ (dE l qn):=hc
 subst hc
 unfold cJ
 repeat' (first|refine go ?_|refine HK a6 FS ?_)
 exact be rfl rfl rfl rfl
structure vk (f:aL) (T:List Int) (i:Nat) (D P:Int→Int):Prop where
 deep:∀z,0≤D z∧D z≤i
 many:∀z,0≤P z∧P z≤1000000
 done:∀(j:Nat) (z:Int),j < i→T[j]?=some z→∀gl,f.Glyphs[z.toNat]?=some gl→D z=dF D gl.Parts∧P z=pF P gl.Parts gl.Points.length
 rest:∀z,z∉T.take i→D z=0
theorem vk.start {f:aL} {T:List Int}:vk f T 0 (fun _=>0) (fun _=>0):=⟨fun _=>by simp,fun _=>by simp,fun j _ h=>absurd h (Nat.not_lt_zero _),fun _ _=>rfl⟩
theorem vk.next {f:aL} {T:List Int} (hf:vl f) (hT:ja f.Glyphs.length (prt f) T) {i:Nat} {D P:Int→Int} (h:vk f T i D P) {x:Int} {gl:br} (hx:T[i]?=some x) (hgl:f.Glyphs[x.toNat]?=some gl):vk f T (i+1) (iJ D x (dF D gl.Parts)) (iJ P x (pF P gl.Parts gl.Points.length)):=by
 have hgm:=Iw hgl
 have hnot:∀(j:Nat) (z:Int),j≤i→T[j]?=some z→∀g,f.Glyphs[z.toNat]?=some g→∀p∈g.Parts,p.Glyph≠x:=by
  intro j z hj hz g hg p hp e
  have h1:=hT.topo j z hz p.Glyph (by rw [tj hf hg];exact List.mem_map_of_mem hp)
  rw [e] at h1
  obtain ⟨k,hk⟩:=List.mem_iff_getElem?.1 h1
  rw [List.getElem?_take] at hk
  split at hk
  ·rename_i hlt
   obtain ⟨k1,k2⟩:=Io hk
   obtain ⟨i1,i2⟩:=Io hx
   have e1:=hT.nodup.idxOf_getElem k k1
   have e2:=hT.nodup.idxOf_getElem i i1
   rw [k2] at e1
   rw [i2] at e2
   omega
  ·cases hk
 have hd:=Gj h.deep gl.Parts
 have hp:=EA (k:=(gl.Points.length:Int)) h.many (by have:=hf.points gl hgm;omega) gl.Parts
 refine ⟨fun z=>?_,fun z=>?_,fun j z hj hz g hg=>?_,fun z hz=>?_⟩
 ·unfold iJ
  split
  ·omega
  ·have:=h.deep z;omega
 ·unfold iJ
  split
  ·exact hp
  ·exact h.many z
 ·rw [ud (D:=iJ D x (dF D gl.Parts)) (D':=D) fun p hp=>ky (hnot j z (by omega) hz g hg p hp),uL (P:=iJ P x (pF P gl.Parts gl.Points.length)) (P':=P) fun p hp=>ky (hnot j z (by omega) hz g hg p hp)]
  by_cases e:z=x
  ·subst e
   rw [hgl] at hg
   cases hg
   rw [lH,lH]
   exact ⟨rfl,rfl⟩
  ·rw [ky e,ky e]
   have hji:j < i:=by
    rcases Nat.lt_or_ge j i with h1 | h1
    ·exact h1
    ·have:j=i:=by omega
     subst this
     rw [hx] at hz
     cases hz
     exact absurd rfl e
   exact h.done j z hji hz g hg
 ·rw [List.take_add_one,hx,Option.toList_some,List.mem_append,List.mem_singleton] at hz
  rw [ky (fun e=>hz (.inr e))]
  exact h.rest z fun hm=>hz (.inl hm)
def oM (n:Nat) (D P:Int→Int):Int×Int:=gR [dE ((cV n).map D) pY,dE ((cV n).map P) qn]
set_option maxHeartbeats 8000000 in
theorem ua (f:aL) (hf:vl f) (hr:kG f.Glyphs.length (prt f)∨AC Tryz.prog 227 [cr f] [] fun c _=>∃z:Int,c=aP z):AC Tryz.prog 122 [cr f] [] fun c _=>(∃D P,jO f D P∧kG f.Glyphs.length (prt f)∧c=cJ (oM f.Glyphs.length D P))∨(¬kG f.Glyphs.length (prt f)∧∃z:Int,c=cJ (33,z)):=by
 refine aS Tryz.func122 rfl Tryz.ntmps122 rfl fun B=>?_
 have hn:=hf.n
 have hml:(f.Glyphs.map bC).length=f.Glyphs.length:=It ..
 repeat' (first|refine go ?_|refine HK a6 FS ?_|refine bh ?_|fail)
 refine ba [] [] (BT f hf.toFew hr) rfl rfl (Im _) rfl fun c L1 hc=>?_
 refine aO (ck (List.nil_sublist _)) ?_
 rcases hc with ⟨T,hc,hT,hTl⟩ | ⟨hna,z,hc⟩
 rotate_left
 ·subst hc
  repeat' (first|refine go ?_|refine HK a6 FS ?_|refine bP rfl ?_)
  exact HX HE (.inr ⟨hna,z,rfl⟩)
 subst hc
 have hall:=hT.all_of_len hTl
 have hacy:=hT.acyc hall
 have hTi:=aQ T
 repeat' (first|refine go ?_|refine HK a6 FS ?_|refine bF rfl ?_)
 rw [hml]
 refine lb a6 f.Glyphs.length rfl rfl rfl rfl rfl rfl rfl (by omega) (by omega) rfl fun bd=>?_
 rw [show (List.replicate f.Glyphs.length (List.map AV.sc [Value.int .i64 0])).flatten=eV f.Glyphs.length fun _=>0 from oL _]
 repeat' (first|refine go ?_|refine HK a6 FS ?_|(apply aG;first|refine HN 7 a6 0 HJ ?_|refine HN 7 a6 1 HJ ?_|refine HN 7 a6 2 HJ ?_|refine HN 8 a6 0 HJ ?_|refine HN 8 a6 1 HJ ?_|refine HN 8 a6 2 HJ ?_|refine HN 12 a6 0 HJ ?_|refine HN 12 a6 1 HJ ?_|refine HN 12 a6 2 HJ ?_|refine HM a6 0 HH ?_|refine HM a6 1 HH ?_|refine HM a6 2 HH ?_|refine HM a6 3 HH ?_|fail)|refine aX a6 fun _=>?_|fail)
 rw [hml]
 refine lb a6 f.Glyphs.length rfl rfl rfl rfl rfl rfl rfl (by omega) (by omega) rfl fun bp=>?_
 rw [show (List.replicate f.Glyphs.length (List.map AV.sc [Value.int .i64 0])).flatten=eV f.Glyphs.length fun _=>0 from oL _]
 repeat' (first|refine go ?_|refine ak ?_|refine HK a6 FS ?_|(apply aG;first|refine HN 7 a6 0 HJ ?_|refine HN 7 a6 1 HJ ?_|refine HN 7 a6 2 HJ ?_|refine HN 8 a6 0 HJ ?_|refine HN 8 a6 1 HJ ?_|refine HN 8 a6 2 HJ ?_|refine HN 12 a6 0 HJ ?_|refine HN 12 a6 1 HJ ?_|refine HN 12 a6 2 HJ ?_|refine HM a6 0 HH ?_|refine HM a6 1 HH ?_|refine HM a6 2 HH ?_|refine HM a6 3 HH ?_|fail)|refine aX a6 fun _=>?_|fail)
 refine aJ [1,7,8,31,32] (α:=Nat×(Int→Int)×(Int→Int)) (fun x=>[(33,aP x.1)]) (fun x=>x.1≤f.Glyphs.length∧vk f T x.1 x.2.1 x.2.2) (fun x=>[(bp,.box (eV f.Glyphs.length x.2.2) 3),(bd,.box (eV f.Glyphs.length x.2.1) 3)]) (fun x=>f.Glyphs.length - x.1) (0,(fun _=>0),(fun _=>0)) rfl ⟨rfl,trivial⟩ ⟨Nat.zero_le _,vk.start⟩ (fun _ _ h=>h) ?_
 rintro ⟨i,D,P⟩ ⟨hi,hC⟩
 dsimp only at hi hC ⊢
 try dsimp only [Ir,Iq,Ip,Ij]
 repeat' (first|refine go ?_|refine HK a6 FS ?_)
 refine ay rfl (fun h=>?_) (fun h=>?_)
 ·have hil:i < T.length:=by have:=Iy h;rw [hTi] at this;omega
  obtain ⟨x,hx⟩:∃x,T[i]?=some x:=⟨_,Iz hil⟩
  have hxi:=bT hx
  have hxr:=hT.dom x (Iw hx)
  obtain ⟨gl,hgl⟩:∃z,f.Glyphs[x.toNat]?=some z:=⟨_,Iz (by omega)⟩
  have hgm:=Iw hgl
  have hgg:=bi (c:=bC) hgl
  have hpm:(gl.Points.map cM).length=gl.Points.length:=It ..
  have hpl:=hf.points gl hgm
  clear h
  repeat' (first|refine go ?_|refine ak ?_|refine HK a6 FS ?_|(apply aU;first|refine aT a6 ?_|refine aM a6 ?_)|fail)
  refine bn 10 [(0,.v),(1,.v),(2,.v),(3,.v),(4,.v),(5,.v),(6,.v),(7,.v),(8,.v),(9,.v)] none ?_ trivial rfl (by kernel_rfl) (by kernel_rfl) (by kernel_rfl) mixed (by kernel_rfl) rfl
  repeat' (first|refine aC ?_|refine b7 a6 ?_|(apply bY;refine cn a6 ?_)|fail)
  refine HU [1,7,8,10,31,32,33,37,38,46] FS ?_
  repeat' (first|(apply aU;first|refine aT a6 ?_|refine aM a6 ?_)|fail)
  refine aj a6 0 rfl rfl rfl rfl rfl rfl (by rw [Nat.ble_eq,jX];show _+1≤_;omega) ?_
  rw [gI,m8 hxr.1 hxr.2,hpm]
  repeat' (first|refine go ?_|refine ak ?_|refine HK a6 FS ?_|(apply aU;first|refine aT a6 ?_|refine aM a6 ?_)|fail)
  have hTx:x∉T.take i:=fun hm=>by
   obtain ⟨k,hk⟩:=List.mem_iff_getElem?.1 hm
   rw [List.getElem?_take] at hk
   split at hk
   ·obtain ⟨k1,k2⟩:=Io hk
    obtain ⟨i1,i2⟩:=Io hx
    have e1:=hT.nodup.idxOf_getElem k k1
    have e2:=hT.nodup.idxOf_getElem i i1
    rw [k2] at e1
    rw [i2] at e2
    omega
   ·cases hk
  have hD0:iJ D x 0=D:=by
   funext q
   unfold iJ
   split
   ·rename_i e;rw [e,hC.rest x hTx]
   ·rfl
  have hql:(gl.Parts.map cm).length=gl.Parts.length:=It ..
  have hqn:=hf.parts gl hgm
  refine aJ [1,7,8,10,31,32,33,53,54] (α:=Nat) (fun j=>[(55,aP j)]) (fun j=>j≤gl.Parts.length) (fun j=>[(bp,.box (eV f.Glyphs.length (iJ P x (pF P (gl.Parts.take j) gl.Points.length))) 3),(bd,.box (eV f.Glyphs.length (iJ D x (dF D (gl.Parts.take j)))) 3)]) (fun j=>gl.Parts.length - j) 0 rfl ⟨rfl,trivial⟩ (Nat.zero_le _) (fun _ _ h=>by rw [List.take_zero,show dF D []=0 from rfl,hD0];exact h) fun j hj=>?_
  try dsimp only [Ir,Iq,Ip,Ij]
  repeat' (first|refine go ?_|refine HK a6 FS ?_)
  refine ay rfl (fun h=>?_) (fun h=>?_)
  ·have hjl:j < gl.Parts.length:=by have:=Iy h;omega
   obtain ⟨q,hq⟩:∃q,gl.Parts[j]?=some q:=⟨_,Iz hjl⟩
   have hqg:=bi (c:=cm) hq
   have hqr:=pq.1 (hf.there gl hgm q (Iw hq))
   have hne:q.Glyph≠x:=fun e=>by
    have h1:=hT.topo i x hx q.Glyph (by rw [tj hf hgl];exact List.mem_map_of_mem (Iw hq))
    rw [e] at h1
    exact hTx h1
   have hc1:(eV f.Glyphs.length (iJ D x (dF D (gl.Parts.take j))))[0+x.toNat * 1]?=some (aP (dF D (gl.Parts.take j))):=by rw [jW hxr.1 hxr.2,lH]
   have hc2:(eV f.Glyphs.length (iJ D x (dF D (gl.Parts.take j))))[0+q.Glyph.toNat * 1]?=some (aP (D q.Glyph)):=by rw [jW hqr.1 hqr.2,ky hne]
   have hc3:(eV f.Glyphs.length (iJ P x (pF P (gl.Parts.take j) gl.Points.length)))[0+x.toNat * 1]?=some (aP (pF P (gl.Parts.take j) gl.Points.length)):=by rw [jW hxr.1 hxr.2,lH]
   have hc4:(eV f.Glyphs.length (iJ P x (pF P (gl.Parts.take j) gl.Points.length)))[0+q.Glyph.toNat * 1]?=some (aP (P q.Glyph)):=by rw [jW hqr.1 hqr.2,ky hne]
   have hDq:=hC.deep q.Glyph
   have hPq:=hC.many q.Glyph
   have hPj:=EA (k:=(gl.Points.length:Int)) hC.many (by omega) (gl.Parts.take j)
   clear h
   repeat' (first|refine go ?_|refine ak ?_|refine HK a6 FS ?_|(apply aU;first|refine aT a6 ?_|refine aM a6 ?_)|(apply aG;first|refine HN 7 a6 0 HJ ?_|refine HN 7 a6 1 HJ ?_|refine HN 7 a6 2 HJ ?_|refine HN 8 a6 0 HJ ?_|refine HN 8 a6 1 HJ ?_|refine HN 8 a6 2 HJ ?_|refine HN 12 a6 0 HJ ?_|refine HN 12 a6 1 HJ ?_|refine HN 12 a6 2 HJ ?_|refine HM a6 0 HH ?_|refine HM a6 1 HH ?_|refine HM a6 2 HH ?_|refine HM a6 3 HH ?_|fail)|refine aX a6 fun _=>?_|fail)
   refine bn 13 [(0,.v),(1,.v),(2,.v),(3,.v),(4,.v),(5,.l),(6,.v),(7,.v),(8,.v),(9,.v),(10,.l),(11,.v),(12,.v)] none ?_ trivial rfl (by kernel_rfl) (by kernel_rfl) (by kernel_rfl) mixed (by kernel_rfl) rfl
   repeat' (first|refine aC ?_|refine b7 a6 ?_|fail)
   refine fC a6 rfl rfl rfl hxr trivial ?_
   repeat' (first|refine aC ?_|fail)
   refine dt a6 1 rfl rfl rfl hc1 trivial ?_
   repeat' (first|refine aC ?_|refine b7 a6 ?_|fail)
   refine fC a6 rfl rfl rfl hqr trivial ?_
   repeat' (first|refine aC ?_|fail)
   refine dt a6 1 rfl rfl rfl hc2 trivial ?_
   repeat' (first|refine aC ?_|refine b7 a6 ?_|(apply fq;refine gK ?_)|fail)
   refine HU [1,7,8,10,12,31,32,33,53,54,55,59,60,71] FS ?_
   repeat' (first|(apply aU;first|refine aT a6 ?_|refine aM a6 ?_)|fail)
   refine aj a6 1 rfl rfl rfl rfl rfl rfl (by rw [Nat.ble_eq,jX];show _+1≤_;omega) ?_
   rw [gI,m8 hxr.1 hxr.2,sq,←D2 hq]
   repeat' (first|refine go ?_|fail)
   refine bn 13 [(0,.v),(1,.v),(2,.v),(3,.v),(4,.v),(5,.l),(6,.v),(7,.v),(8,.v),(9,.v),(10,.l),(11,.v),(12,.v)] none ?_ trivial rfl (by kernel_rfl) (by kernel_rfl) (by kernel_rfl) mixed (by kernel_rfl) rfl
   repeat' (first|refine aC ?_|refine b7 a6 ?_|fail)
   refine fC a6 rfl rfl rfl hxr trivial ?_
   repeat' (first|refine aC ?_|fail)
   refine dt a6 0 rfl rfl rfl hc3 trivial ?_
   repeat' (first|refine aC ?_|refine b7 a6 ?_|fail)
   refine fC a6 rfl rfl rfl hqr trivial ?_
   repeat' (first|refine aC ?_|fail)
   refine dt a6 0 rfl rfl rfl hc4 trivial ?_
   repeat' (first|refine aC ?_|refine b7 a6 ?_|(apply fq;refine gK ?_)|fail)
   refine HU [1,7,8,10,31,32,33,53,54,55,73,74,85] FS ?_
   repeat' (first|(apply aU;first|refine aT a6 ?_|refine aM a6 ?_)|fail)
   refine aj a6 0 rfl rfl rfl rfl rfl rfl (by rw [Nat.ble_eq,jX];show _+1≤_;omega) ?_
   rw [gI,m8 hxr.1 hxr.2,sq,←DQ hq]
   repeat' (first|refine go ?_|refine HK a6 FS ?_|(apply aW;refine aV ?_)|fail)
   exact aB (j+1) rfl ⟨by rw [Iv];rfl,trivial⟩ (by omega) (by omega) (fun _ _ h=>h)
  ·have hjl:j=gl.Parts.length:=by have:=Ix h;omega
   subst hjl
   rw [List.take_length]
   repeat' (first|refine go ?_|refine HK a6 FS ?_|(apply aW;refine aV ?_)|fail)
   exact aB (i+1,_,_) rfl ⟨by rw [Iv];rfl,trivial⟩ ⟨by dsimp only;omega,hC.next hf hT hx hgl⟩ (by dsimp only;omega) (fun _ _ h=>h)
 ·have hil:i=f.Glyphs.length:=by have:=Ix h;rw [hTi] at this;omega
  subst hil
  clear h
  have hdeep:jO f D P:=by
   intro z h0 h1 gl hgl
   obtain ⟨j,hj⟩:=List.mem_iff_getElem?.1 (hall z h0 h1)
   exact hC.done j z (by have:=(Io hj).1;omega) hj gl hgl
  have hcd:∀F:Int→Int,eV f.Glyphs.length F=(aZ ((cV f.Glyphs.length).map F)).flatten:=fun F=>by rw [jz];unfold eV;rw [List.map_map];rfl
  have hcl:∀F:Int→Int,(aZ ((cV f.Glyphs.length).map F)).length=f.Glyphs.length:=fun F=>by rw [aQ,It,fm]
  refine bH (sn (t:=7) (sz:=1) (l:=aZ ((cV f.Glyphs.length).map D)) 1 rfl rfl (hcd D) (by simp [aZ]) (hcl D) (by omega)) ?_
  refine bH (sn (t:=8) (sz:=1) (l:=aZ ((cV f.Glyphs.length).map P)) 1 rfl rfl (hcd P) (by simp [aZ]) (hcl P) (by omega)) ?_
  repeat' (first|refine go ?_|refine HK a6 FS ?_|refine bG a6 ?_|fail)
  refine ba [] _ (jw [⟨172,[.iptr [.imm 1 (aZ ((cV f.Glyphs.length).map D))]],[],(dE ((cV f.Glyphs.length).map D) pY).1,(dE ((cV f.Glyphs.length).map D) pY).2⟩,⟨175,[.iptr [.imm 1 (aZ ((cV f.Glyphs.length).map P))]],[],(dE ((cV f.Glyphs.length).map P) qn).1,(dE ((cV f.Glyphs.length).map P) qn).2⟩] ⟨⟨inferInstance,xZ _⟩,fun _=>⟨⟨inferInstance,y3 _⟩,fun _=>trivial⟩⟩) rfl rfl (Im _) rfl fun c L1 hc=>?_
  rw [kp] at hc
  have hc:c=cJ (oM f.Glyphs.length D P):=hc
  subst hc
  unfold cJ
  repeat' (first|refine go ?_|refine HK a6 FS ?_)
  exact HX HE (.inl ⟨D,P,hdeep,hacy,rfl⟩)
end Go.Proofs.YtjjpkibjffmceaaGreat
