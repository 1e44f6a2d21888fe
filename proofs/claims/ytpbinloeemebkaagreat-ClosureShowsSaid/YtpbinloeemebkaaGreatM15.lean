/-
  DERIVED: THE SHELF's CONTRACTS AT THIS DUMP, IN PLAIN WORDS (tools/lay-plain.mjs out of 'YtpbinloeemebkaaGreatSortIn.lean', which tools/lay-shelf.mjs wrote): THE SAME DECLARATIONS UNDER THE SAME NAMES: 'import', 'namespace', 'open', 'def', 'theorem' AND NOTHING ELSE: no command of the shelf's: FOR A HAND-IN. Each laying: the table of numbers ('.._ren') and one theorem, a field a fact of the dump's own or the kernel's comparison; each contract: ONE APPLICATION.
-/
import Derived.Shelf.Slices.In.SortNone
import Derived.Shelf.Slices.In.SortAlone
import Derived.Ground.NamesProg
import Derived.Test.YtpbinloeemebkaaGreatProg
import Derived.Test.YtpbinloeemebkaaGreatM11
import Derived.Lib.SortBridge
import Derived.Test.YtpbinloeemebkaaGreatM14
namespace Go.Proofs
open Go.Shelf
def Tryz.laysSort_ren:Go.Shelf.Ren:=⟨fun | 189=>52 | 125=>73 | 257=>72 | 128=>145 | 129=>146 | 294=>136 | 295=>137 | 296=>138 | 297=>139 | 298=>140 | 299=>141 | 216=>142 | 300=>143 | 301=>144 | 328=>215 | 329=>216 | 330=>217 | 331=>218 | 332=>219 | 215=>220 | 343=>266 | n=>n,fun | 28=>29 | 3=>3 | 46=>163 | 0=>0 | 51=>239 | 53=>241 | 4=>4 | 183=>232 | 182=>231 | 131=>217 | 5=>5 | 9=>9 | 218=>290 | 222=>294 | 228=>323 | 229=>324 | n=>n,fun | n=>n⟩
theorem Tryz.laysSort:Go.Proofs.Lays.n189 Tryz.prog Tryz.laysSort_ren:={
 mixed:=by kernel_rfl
 f125:=Tryz.func73.trans (congrArg some (by kernel_rfl))
 f128:=Tryz.func145.trans (congrArg some (by kernel_rfl))
 f129:=Tryz.func146.trans (congrArg some (by kernel_rfl))
 f189:=Tryz.func52.trans (congrArg some (by kernel_rfl))
 f215:=Tryz.func220.trans (congrArg some (by kernel_rfl))
 f216:=Tryz.func142.trans (congrArg some (by kernel_rfl))
 f257:=Tryz.func72.trans (congrArg some (by kernel_rfl))
 f294:=Tryz.func136.trans (congrArg some (by kernel_rfl))
 f295:=Tryz.func137.trans (congrArg some (by kernel_rfl))
 f296:=Tryz.func138.trans (congrArg some (by kernel_rfl))
 f297:=Tryz.func139.trans (congrArg some (by kernel_rfl))
 f298:=Tryz.func140.trans (congrArg some (by kernel_rfl))
 f299:=Tryz.func141.trans (congrArg some (by kernel_rfl))
 f300:=Tryz.func143.trans (congrArg some (by kernel_rfl))
 f301:=Tryz.func144.trans (congrArg some (by kernel_rfl))
 f328:=Tryz.func215.trans (congrArg some (by kernel_rfl))
 f329:=Tryz.func216.trans (congrArg some (by kernel_rfl))
 f330:=Tryz.func217.trans (congrArg some (by kernel_rfl))
 f331:=Tryz.func218.trans (congrArg some (by kernel_rfl))
 f332:=Tryz.func219.trans (congrArg some (by kernel_rfl))
 f343:=Tryz.func266.trans (congrArg some (by kernel_rfl))
 t0:=Tryz.underlying0
 a0:=Tryz.isAgg0
 z0:=Tryz.sizeOf0
 v0:=Tryz.zeroValue0
 t3:=Tryz.underlying3
 a3:=Tryz.isAgg3
 z3:=Tryz.sizeOf3
 v3:=Tryz.zeroValue3
 t4:=Tryz.underlying4
 a4:=Tryz.isAgg4
 z4:=Tryz.sizeOf4
 v4:=Tryz.zeroValue4
 t5:=Tryz.underlying5
 a5:=Tryz.isAgg5
 z5:=Tryz.sizeOf5
 v5:=Tryz.zeroValue5
 t9:=Tryz.underlying9
 a9:=Tryz.isAgg9
 z9:=Tryz.sizeOf9
 v9:=Tryz.zeroValue9
 t28:=Tryz.underlying29
 a28:=Tryz.isAgg29
 z28:=Tryz.sizeOf29
 v28:=Tryz.zeroValue29
 t46:=Tryz.underlying163
 a46:=Tryz.isAgg163
 z46:=Tryz.sizeOf163
 v46:=Tryz.zeroValue163
 t51:=Tryz.underlying239
 a51:=Tryz.isAgg239
 z51:=Tryz.sizeOf239
 v51:=Tryz.zeroValue239
 t53:=Tryz.underlying241
 a53:=Tryz.isAgg241
 z53:=Tryz.sizeOf241
 v53:=Tryz.zeroValue241
 t131:=Tryz.underlying217
 a131:=Tryz.isAgg217
 z131:=Tryz.sizeOf217
 v131:=Tryz.zeroValue217
 t182:=Tryz.underlying231
 a182:=Tryz.isAgg231
 z182:=Tryz.sizeOf231
 v182:=Tryz.zeroValue231
 t183:=Tryz.underlying232
 a183:=Tryz.isAgg232
 z183:=Tryz.sizeOf232
 v183:=Tryz.zeroValue232
 t218:=Tryz.underlying290
 a218:=Tryz.isAgg290
 z218:=Tryz.sizeOf290
 v218:=Tryz.zeroValue290
 t222:=Tryz.underlying294
 a222:=Tryz.isAgg294
 z222:=Tryz.sizeOf294
 v222:=Tryz.zeroValue294
 t228:=Tryz.underlying323
 a228:=Tryz.isAgg323
 z228:=Tryz.sizeOf323
 v228:=Tryz.zeroValue323
 t229:=Tryz.underlying324
 a229:=Tryz.isAgg324
 z229:=Tryz.sizeOf324
 v229:=Tryz.zeroValue324 }
end Go.Proofs
namespace Go.Proofs.YtpbinloeemebkaaGreat
open Go.RowKit Go.Shelf Go.Sort
def dt (l:List Int):List Int:=l.mergeSort fun x y=>decide (x≤y)
theorem iJ (l:List Int):(dt l).length=l.length:=by simp [dt]
theorem wx (b n:Nat) (l:List Int) (w:World) (hn:l.length=n) (hl:n≤1000000) (hb:w.heap[b]?=some (.cells (l.map (Value.int .i64)).toArray 3 (0,0))):
  Calls Tryz.prog 52 #[.slice (some ⟨b,0,none⟩) n n] w fun e w'=>e= .returned (.tuple #[])∧w.grownBy w' (some b)∧w'.heap[b]?=some (.cells ((dt l).map (Value.int .i64)).toArray 3 (0,0)):=by
 have hH:Holds (Value.int .i64) w b 0 l.toArray:=by
  intro j hj
  have hj':j < l.length:=by simpa using hj
  rw [Nat.zero_add,cY hb,nQ hb]
  refine ⟨?_,rfl⟩
  simp [hj']
 have hlt:b < w.heap.size:=(Array.getElem?_eq_some_iff.1 hb).1
 subst hn
 have h:=calls_of_every_depth fun D=>AnyS.slices_Sort_int_alone Tryz.laysSort D b 0 l.length l w hH hlt (by omega)
 refine Calls.mono h fun e w' ⟨he,q,os,hw⟩=>⟨he,?_⟩
 rw [Lib.sorted_world _ w b 0 q _ _ os hH (by simp),show (l.mergeSort fun x y=>decide (x≤y))=dt l from rfl] at hw
 have hb':(w.drewN q).heap[b]?=some (.cells (l.map (Value.int .i64)).toArray 3 (0,0)):=hb
 obtain ⟨hg,cs',hh,hs',hj⟩:=gG b ((dt l).map (Value.int .i64)) 0 (w.drewN q) _ 3 (0,0) hb'
 have hsz:(w.drewN q).heap.size=w.heap.size:=rfl
 have hgs:=hg.size
 subst hw
 refine ⟨⟨hg.os,hg.tape,hg.output,?_,fun k hk hkb=>?_⟩,?_⟩
 ·show w.heap.size≤(((w.drewN q).setCells b 0 ((dt l).map (Value.int .i64))).heap++os).size
  rw [Array.size_append]
  exact Nat.le_trans hgs (Nat.le_add_right _ _)
 ·show (((w.drewN q).setCells b 0 ((dt l).map (Value.int .i64))).heap++os)[k]?=_
  rw [Array.getElem?_append_left (Nat.lt_of_lt_of_le hk hgs)]
  exact hg.block k hk hkb
 ·show (((w.drewN q).setCells b 0 ((dt l).map (Value.int .i64))).heap++os)[b]?=_
  rw [Array.getElem?_append_left (Nat.lt_of_lt_of_le hlt hgs)]
  refine hh.trans ?_
  congr 2
  apply Array.ext_getElem?
  intro j
  rw [hj j]
  simp only [Hu,iJ,List.size_toArray,List.getElem?_toArray]
  by_cases hjl:j < l.length
  ·rw [if_pos (by omega)];rfl
  ·rw [if_neg (by omega),List.getElem?_eq_none (by simpa using hjl),List.getElem?_eq_none (by simpa [iJ] using hjl)]
theorem xp (b n:Nat) (l:List Int) (hn:l.length=n) (hl:n≤1000000):AC Tryz.prog 52 [.sc (.slice (some ⟨b,0,none⟩) n n)] [(b,.box (l.map aH) 3)] fun _ L=>L=[(b,.box ((dt l).map aH) 3)]:=by
 intro σ w vs hv hst
 obtain ⟨v,ws,rfl,h1,h2⟩:=hv.inv
 rw [h2.nil_inv,h1.sc_inv]
 obtain ⟨o,ho,us,rfl,hus,hu1⟩:=hst.here _ (List.mem_cons_self ..)
 have hmap:∀(l:List Int) (us:List Value),dv σ (l.map aH) us→us=l.map (Value.int .i64):=by
  intro l
  induction l with
  | nil=>intro us h;exact h.nil_inv
  | cons z l ih=>
   intro us h
   obtain ⟨v,ws,rfl,h1,h2⟩:=h.inv
   rw [h1.sc_inv,ih ws h2]
   rfl
 have e:=hmap l us hus
 subst e
 refine (wx b n l w hn hl ho).mono fun e w' ⟨he,hg,hh⟩=>⟨_,σ,.tup [],_,he,.tup [] [] rfl (fun i c u h=>by simp at h),?_,rfl⟩
 refine hst.put (fun _=>trivial) hg hh ⟨_,rfl,⟨by simp,fun i c u hc hu=>?_⟩,fun u hu=>?_⟩
 ·rw [List.getElem?_map] at hc hu
  cases hz:(dt l)[i]? with
  | none=>rw [hz] at hc;cases hc
  | some z=>rw [hz] at hc hu;cases hc;cases hu;exact .sc _
 ·obtain ⟨z,_,rfl⟩:=List.mem_map.1 hu
  rfl
theorem j3 (l:List Int):(dt l).Perm l:=List.mergeSort_perm ..
theorem zg (l:List Int):(dt l).Pairwise (·≤ ·):=by
  have:=List.pairwise_mergeSort (le:=fun x y:Int=>decide (x≤y)) (fun a b c h1 h2=>by simp at *;omega) (fun a b=>by simp;omega) l
  exact this.imp fun h=>by simpa using h
theorem qy {n:Nat} {l:List Int} (h:cE n l):dt l=ii l n:=by
  have h1:(dt l).Pairwise (· < ·):=by
    have hn:(dt l).Nodup:=(j3 l).nodup_iff.2 h.nodup
    have hp:=zg l
    rw [List.nodup_iff_pairwise_ne] at hn
    exact (hp.and hn).imp fun ⟨a,b⟩=>by omega
  have h2:(ii l n).Pairwise (· < ·):=by
    unfold ii
    refine List.Pairwise.filter _ ?_
    rw [List.pairwise_map]
    exact List.pairwise_lt_range.imp fun h=>by simpa using h
  have hmem:∀z,z∈dt l↔z∈ii l n:=fun z=>by
    rw [(j3 l).mem_iff,BN]
    exact ⟨fun hz=>⟨hz,h.dom z hz⟩,fun hz=>hz.1⟩
  have hp:(dt l).Perm (ii l n):=by
    rw [List.perm_ext_iff_of_nodup]
    · exact hmem
    · exact (j3 l).nodup_iff.2 h.nodup
    · exact wr l n
  exact List.Perm.eq_of_pairwise (le:=fun a b:Int=>a < b) (fun a b _ _ h1 h2=>by omega) h1 h2 hp
end Go.Proofs.YtpbinloeemebkaaGreat
namespace Go.Proofs.YtpbinloeemebkaaGreat
open Go.RowKit
attribute [local irreducible] AT bO AX AO Av Kt bo dU DA cT
def eD (l:List Int) (i:Nat):List AV:=(l.take i++List.replicate (l.length - i) 0).map aH
theorem sd (l:List Int) {i:Nat} (h:i≤l.length):(eD l i).length=l.length:=by simp [eD];omega
theorem oX (l:List Int) (m:Nat) (hm:m=l.length):(List.replicate m [aH 0]).flatten=eD l 0:=by
 subst hm
 unfold eD
 rw [List.take_zero,Hr,Nat.sub_zero,List.map_replicate]
 generalize l.length=m
 induction m with
 | zero=>rfl
 | succ m ih=>rw [List.replicate_succ,List.flatten_cons,ih,List.replicate_succ];rfl
theorem se {l:List Int} {i:Nat} {z:Int} (h:l[i]?=some z):(eD l i).set (0+(i:Int).toNat * 1) (aH z)=eD l (i+1):=by
 have hi:=(Hp h).1
 rw [Nat.zero_add,Nat.mul_one,Int.toNat_natCast]
 unfold eD
 rw [←List.map_set (f:=aH)]
 congr 1
 rw [List.set_append_right _ _ (by simp;omega),List.take_add_one,h,List.append_assoc]
 congr 1
 rw [show l.length - i=(l.length - (i+1))+1 by omega,List.replicate_succ,show i - (l.take i).length=0 by simp;omega]
 rfl
theorem sb (l:List Int):eD l l.length=l.map aH:=by simp [eD]
theorem lu (l:List Int):(aS l).flatten=l.map aH:=by
 unfold aS
 induction l with
 | nil=>rfl
 | cons z l ih=>rw [Hq,List.flatten_cons,ih];rfl
theorem BD (p b n:Nat) (k:Option (Nat×Nat)) (l:List Int) (hl:l.length≤1000000):AC Tryz.prog 30 [fg p] (dp p b n k l) fun c L=>c= .imm 1 (aS (dt l))∧L=dp p b n k l:=by
 refine aT Tryz.func30 rfl Tryz.ntmps30 rfl fun B=>?_
 repeat' (first|refine go ?_|refine HF a1 F8 ?_|(apply bh;first|refine HJ a1 0 HC ?_|refine HJ a1 1 HC ?_|refine HJ a1 2 HC ?_|refine HJ a1 3 HC ?_|refine HK a1 0 HC ?_|refine HK a1 1 HC ?_|refine HK a1 2 HC ?_|refine HM a1 1 HA (by assumption) rfl ?_|refine HM a1 0 HA (by assumption) rfl ?_|fail)|fail)
 refine jb a1 l.length rfl rfl rfl rfl rfl (by rw [aN]) (by rw [aN]) (by omega) (by omega) rfl fun b3=>?_
 rw [show (List.replicate l.length (List.map AV.sc [Value.int .i64 0])).flatten=eD l 0 from oX l _ rfl]
 repeat' (first|refine go ?_|refine ak ?_|refine HF a1 F8 ?_|(apply bh;first|refine HJ a1 0 HC ?_|refine HJ a1 1 HC ?_|refine HJ a1 2 HC ?_|refine HJ a1 3 HC ?_|refine HK a1 0 HC ?_|refine HK a1 1 HC ?_|refine HK a1 2 HC ?_|refine HM a1 1 HA (by assumption) rfl ?_|refine HM a1 0 HA (by assumption) rfl ?_|fail)|fail)
 refine aR [3,15,16] (α:=Nat) (fun i=>[(17,aH i)]) (fun i=>i≤l.length) (fun i=>(b3,.box (eD l i) 3)::dp p b n k l) (fun i=>l.length - i) 0 rfl ⟨rfl,trivial⟩ (Nat.zero_le _) (fun _ _ h=>h) fun i hi=>?_
 try dsimp only [Hs,Hr,Hq,Hl]
 repeat' (first|refine go ?_|refine HF a1 F8 ?_)
 refine ay rfl (fun h=>?_) (fun h=>?_)
 ·have hil:i < l.length:=by have:=Hy h;simp [aN] at this;omega
  obtain ⟨z,hz⟩:∃z,l[i]?=some z:=⟨_,Hz hil⟩
  have hzg:=bG hz
  repeat' (first|refine go ?_|refine ak ?_|refine HF a1 F8 ?_|(apply aX;first|refine aU a1 ?_|refine aK a1 ?_)|fail)
  refine ah a1 0 rfl rfl rfl rfl rfl rfl (by rw [Nat.ble_eq,sd l hi];show _+1≤l.length;omega) ?_
  rw [gh,se hz]
  repeat' (first|refine go ?_|refine HF a1 F8 ?_|(apply aZ;refine aY ?_)|fail)
  exact aF (i+1) rfl ⟨by rw [Hv];rfl,trivial⟩ (by omega) (by omega) (fun _ _ h=>h)
 ·have hil:i=l.length:=by have:=Hx h;simp [aN] at this;omega
  subst hil
  rw [sb]
  repeat' (first|refine go ?_|refine HF a1 F8 ?_)
  refine bb [(b3,.box (l.map aH) 3)] (dp p b n k l) (xp b3 l.length l rfl hl) rfl rfl (Ho _) rfl fun c L1 hL1=>?_
  subst hL1
  repeat' (first|refine go ?_|refine HF a1 F8 ?_)
  refine bk (qG (t:=2) (sz:=1) (l:=aS (dt l)) 0 rfl rfl (lu _).symm (by simp [aS]) (by rw [aN,iJ]) (by omega)) ?_
  exact eY (List.sublist_cons_self ..) (pn rfl rfl rfl ⟨rfl,rfl⟩)
theorem G9 {n i:Nat} (h:i < n):(eD (cH n) i).set (0+(i:Int).toNat * 1) (aH i)=eD (cH n) (i+1):=se (jv h)
set_option maxHeartbeats 1000000 in
theorem Bm (f:aL) (hf:Few f) (hr:kx f.Glyphs.length (prt f)∨AC Tryz.prog 235 [cx f] [] fun c _=>∃z:Int,c=aH z):AC Tryz.prog 162 [cx f] [] fun c _=>(∃T,c= .tup [.imm 1 (aS T),aH 0,aH 0]∧iO f.Glyphs.length (prt f) T∧T.length=f.Glyphs.length)∨(¬kx f.Glyphs.length (prt f)∧∃z:Int,c= .tup [.imm 1 [],aH z,aH 33]):=by
 refine aT Tryz.func162 rfl Tryz.ntmps162 rfl fun B=>?_
 have hn:=hf.n
 have hln:=CY f hf
 have hml:(f.Glyphs.map bS).length=f.Glyphs.length:=Hu ..
 generalize hN:f.Glyphs.length=n at *
 repeat' (first|refine go ?_|refine HF a1 F8 ?_|refine bC ?_|fail)
 rw [hml]
 refine jb a1 n rfl rfl rfl rfl rfl rfl rfl (by omega) (by omega) rfl fun b=>?_
 rw [show (List.replicate n (List.map AV.sc [Value.int .i64 0])).flatten=eD (cH n) 0 from oX (cH n) n (eS n).symm]
 have hul:=eS n
 repeat' (first|refine go ?_|refine ak ?_|refine HF a1 F8 ?_)
 refine aR [1,5,13] (α:=Nat) (fun i=>[(14,aH i)]) (fun i=>i≤n) (fun i=>[(b,.box (eD (cH n) i) 3)]) (fun i=>n - i) 0 rfl ⟨rfl,trivial⟩ (Nat.zero_le _) (fun _ _ h=>h) fun i hi=>?_
 try dsimp only [Hs,Hr,Hq,Hl]
 repeat' (first|refine go ?_|refine HF a1 F8 ?_)
 refine ay rfl (fun h=>?_) (fun h=>?_)
 ·have hil:i < n:=by have:=Hy h;omega
  repeat' (first|refine go ?_|refine ak ?_|refine HF a1 F8 ?_|(apply aX;first|refine aU a1 ?_|refine aK a1 ?_)|fail)
  refine ah a1 0 rfl rfl rfl rfl rfl rfl (by rw [Nat.ble_eq,sd (cH n) (by omega),hul];show _+1≤n;omega) ?_
  rw [gh,G9 hil]
  repeat' (first|refine go ?_|refine HF a1 F8 ?_|(apply aZ;refine aY ?_)|fail)
  exact aF (i+1) rfl ⟨by rw [Hv];rfl,trivial⟩ (by omega) (by omega) (fun _ _ h=>h)
 ·have hil:i=n:=by have:=Hx h;omega
  subst hil
  clear h
  rw [show eD (cH i) i=(cH i).map aH by have:=sb (cH i);rw [hul] at this;exact this]
  refine bW (qG (t:=5) (sz:=1) (l:=aS (cH i)) 0 rfl rfl (lu _).symm (by simp [aS]) (by rw [aN,hul]) (by omega)) ?_
  repeat' (first|refine go ?_|refine HF a1 F8 ?_)
  refine bb [] _ hln rfl rfl (Ho _) rfl fun c L1 ⟨T,hc,hT⟩=>?_
  subst hc
  have hTl:=aN T
  have hIl:=aN (cH i)
  have hTn:=hT.len
  rw [hul] at hIl
  refine aV (cb (List.nil_sublist _)) ?_
  repeat' (first|refine go ?_|refine HF a1 F8 ?_)
  refine ay rfl (fun h=>?_) (fun h=>?_)
  ·have hlt:=Hy h
   rw [hTl,hIl] at hlt
   have hna:¬kx i (prt f):=fun ha=>by
    have:=hT.len_all (hT.all ha fun g p hp=>by have:=EY hp;rw [hN] at this;exact this)
    omega
   rcases hr with hr | hr
   ·exact absurd hr hna
   repeat' (first|refine go ?_|refine HF a1 F8 ?_)
   refine bb [] [] hr rfl rfl (Ho _) rfl fun c L1 ⟨z,hc⟩=>?_
   subst hc
   repeat' (first|refine go ?_|refine HF a1 F8 ?_)
   refine bk (cA (t:=2) (c':= .imm 1 []) rfl fun σ v h=>ke 1 h) ?_
   exact s5 (cs:=[.imm 1 [],aH z,aH 33]) ⟨rfl,rfl,rfl,trivial⟩ (.inr ⟨hna,z,rfl⟩)
  ·have hlt:=Hx h
   rw [hTl,hIl] at hlt
   repeat' (first|refine go ?_|refine HF a1 F8 ?_)
   exact s5 (cs:=[.imm 1 (aS T),aH 0,aH 0]) ⟨rfl,rfl,rfl,trivial⟩ (.inl ⟨T,rfl,hT,by omega⟩)
def dF (D:Int→Int) (ps:List cX):Int:=ps.foldl (fun a p=>max a (D p.Glyph+1)) 0
def pF (P:Int→Int) (ps:List cX) (k:Int):Int:=ps.foldl (fun a p=>min (a+P p.Glyph) 1001) k
def eh (n:Nat) (D:Int→Int):List AV:=(cH n).map fun z=>aH (D z)
def ij (D:Int→Int) (z v:Int):Int→Int:=fun q=>if q=z then v else D q
theorem lF {D:Int→Int} {z v:Int}:ij D z v z=v:=by simp [ij]
theorem k9 {D:Int→Int} {z v q:Int} (h:q≠z):ij D z v q=D q:=by simp [ij,h]
theorem rU (D:Int→Int) (z v w:Int):ij (ij D z v) z w=ij D z w:=by
 funext q
 unfold ij
 by_cases e:q=z
 ·rw [if_pos e,if_pos e]
 ·rw [if_neg e,if_neg e,if_neg e]
theorem jE (n:Nat) (D:Int→Int):(eh n D).length=n:=by simp [eh,cH]
theorem jD {n:Nat} {D:Int→Int} {z:Int} (h0:0≤z) (h1:z < n):(eh n D)[0+z.toNat * 1]?=some (aH (D z)):=by
 rw [Nat.zero_add,Nat.mul_one]
 unfold eh
 rw [List.getElem?_map,jv (by omega),Option.map_some,show ((z.toNat:Nat):Int)=z by omega]
theorem m6 {n:Nat} {D:Int→Int} {z v:Int} (h0:0≤z) (h1:z < n):(eh n D).set (0+z.toNat * 1) (aH v)=eh n (ij D z v):=by
 rw [Nat.zero_add,Nat.mul_one]
 apply List.ext_getElem?
 intro i
 rw [List.getElem?_set,jE]
 unfold eh ij
 by_cases hi:z.toNat=i
 ·subst hi
  rw [if_pos rfl,if_pos (by omega),List.getElem?_map,jv (by omega),Option.map_some,if_pos (by omega)]
 ·rw [if_neg hi,List.getElem?_map,List.getElem?_map]
  by_cases hn:i < n
  ·rw [jv hn,Option.map_some,Option.map_some,if_neg (by omega)]
  ·rw [List.getElem?_eq_none (by rw [eS];omega)];rfl
theorem ot (n:Nat):(List.replicate n [aH 0]).flatten=eh n fun _=>0:=by
 rw [oX (cH n) n (eS n).symm]
 unfold eD eh
 rw [List.take_zero,Hr,Nat.sub_zero,eS,List.map_replicate]
 apply List.ext_getElem?
 intro i
 rw [List.getElem?_replicate,List.getElem?_map]
 by_cases h:i < n
 ·rw [if_pos h,jv h];rfl
 ·rw [if_neg h,List.getElem?_eq_none (by rw [eS];omega)];rfl
theorem Cv {D:Int→Int} {ps:List cX} {j:Nat} {p:cX} (h:ps[j]?=some p):dF D (ps.take (j+1))=max (dF D (ps.take j)) (D p.Glyph+1):=by
 unfold dF
 rw [List.take_add_one,h,Option.toList_some,List.foldl_append]
 rfl
theorem Db {P:Int→Int} {ps:List cX} {k:Int} {j:Nat} {p:cX} (h:ps[j]?=some p):pF P (ps.take (j+1)) k=min (pF P (ps.take j) k+P p.Glyph) 1001:=by
 unfold pF
 rw [List.take_add_one,h,Option.toList_some,List.foldl_append]
 rfl
theorem mc {α β:Type} {F G:α→β→α}:∀(l:List β) (a:α),(∀b∈l,∀a,F a b=G a b)→l.foldl F a=l.foldl G a
 | [],_,_=>rfl
 | b::l,a,h=>by rw [List.foldl_cons,List.foldl_cons,h b (List.mem_cons_self ..)];exact mc l _ fun c hc=>h c (Ht _ hc)
theorem tz {D D':Int→Int} {ps:List cX} (h:∀p∈ps,D p.Glyph=D' p.Glyph):dF D ps=dF D' ps:=mc ps 0 fun p hp a=>by rw [h p hp]
theorem uh {P P':Int→Int} {ps:List cX} {k:Int} (h:∀p∈ps,P p.Glyph=P' p.Glyph):pF P ps k=pF P' ps k:=mc ps k fun p hp a=>by rw [h p hp]
theorem FA {D:Int→Int} {m:Int} (h:∀z,0≤D z∧D z≤m):∀(ps:List cX),0≤dF D ps∧dF D ps≤m+1:=by
 intro ps
 have hm:0≤m:=by have:=h 0;omega
 have:∀(ps:List cX) (a:Int),0≤a→a≤m+1→0≤ps.foldl (fun a p=>max a (D p.Glyph+1)) a∧ps.foldl (fun a p=>max a (D p.Glyph+1)) a≤m+1:=by
  intro ps
  induction ps with
  | nil=>intro a h0 h1;exact ⟨h0,h1⟩
  | cons p ps ih=>intro a h0 h1;have:=h p.Glyph;exact ih (max a (D p.Glyph+1)) (by omega) (by omega)
 exact this ps 0 (by omega) (by omega)
theorem DY {P:Int→Int} {k:Int} (h:∀z,0≤P z∧P z≤1000000) (hk:0≤k∧k≤1000000) (ps:List cX):0≤pF P ps k∧pF P ps k≤1000000:=by
 unfold pF
 induction ps generalizing k with
 | nil=>exact hk
 | cons p ps ih=>have:=h p.Glyph;exact ih (k:=min (k+P p.Glyph) 1001) (by omega)
def jw (f:aL) (D P:Int→Int):Prop:=∀z:Int,0≤z→z < f.Glyphs.length→∀gl,f.Glyphs[z.toNat]?=some gl→D z=dF D gl.Parts∧P z=pF P gl.Parts gl.Points.length
structure uQ (f:aL):Prop extends Few f where
 points:∀gl∈f.Glyphs,gl.Points.length≤1000000
 there:∀gl∈f.Glyphs,∀p∈gl.Parts,kU f p.Glyph=true
theorem sK {f:aL} (hf:uQ f) {z:Int} {gl:bn} (h:f.Glyphs[z.toNat]?=some gl):prt f z=gl.Parts.map cX.Glyph:=by
 unfold prt
 rw [h]
 refine List.filter_eq_self.2 fun y hy=>?_
 obtain ⟨p,hp,rfl⟩:=List.mem_map.1 hy
 exact hf.there gl (Hw h) p hp
def pA (_:Nat) (levels:Int):Int:=dX (decide (levels > 4)) 34
def pX (_:Nat) (all:Int):Int:=dX (decide (all≥1001)) 2
theorem vn (i:Nat) (n:Int):bM Tryz.prog 165 [aH i,aH n] (aH (pA i n)):=by
 refine aT Tryz.func165 rfl Tryz.ntmps165 rfl fun B=>?_
 repeat' (first|refine go ?_|refine HF a1 F8 ?_|(apply bD;refine bf ?_)|fail)
 exact HP HA
theorem vo (i:Nat) (n:Int):bM Tryz.prog 167 [aH i,aH n] (aH (pX i n)):=by
 refine aT Tryz.func167 rfl Tryz.ntmps167 rfl fun B=>?_
 repeat' (first|refine go ?_|refine HF a1 F8 ?_|(apply bD;refine bf ?_)|fail)
 exact HP HA
theorem xY (l:List Int):bM Tryz.prog 163 [.iptr [.imm 1 (aS l)]] (ct (d5 l pA)):=by
 refine aT Tryz.func163 rfl Tryz.ntmps163 rfl fun B=>?_
 repeat' (first|refine go ?_|refine HF a1 F8 ?_)
 refine bb [] [] (mE (u:= .sc (.func (.func 165) #[] #[])) (g:=165) (caps:=[]) rfl l _ (fun _ _=>True) [] trivial (dh (fun i x _=>vn i x))) rfl rfl (Ho _) rfl fun c L1 hc=>?_
 have hc:c=ct (d5 l pA):=hc
 subst hc
 unfold ct
 repeat' (first|refine go ?_|refine HF a1 F8 ?_)
 exact bc rfl rfl rfl rfl
theorem xZ (l:List Int):bM Tryz.prog 166 [.iptr [.imm 1 (aS l)]] (ct (d5 l pX)):=by
 refine aT Tryz.func166 rfl Tryz.ntmps166 rfl fun B=>?_
 repeat' (first|refine go ?_|refine HF a1 F8 ?_)
 refine bb [] [] (mE (u:= .sc (.func (.func 167) #[] #[])) (g:=167) (caps:=[]) rfl l _ (fun _ _=>True) [] trivial (dh (fun i x _=>vo i x))) rfl rfl (Ho _) rfl fun c L1 hc=>?_
 have hc:c=ct (d5 l pX):=hc
 subst hc
 unfold ct
 repeat' (first|refine go ?_|refine HF a1 F8 ?_)
 exact bc rfl rfl rfl rfl
structure uP (f:aL) (T:List Int) (i:Nat) (D P:Int→Int):Prop where
 deep:∀z,0≤D z∧D z≤i
 many:∀z,0≤P z∧P z≤1000000
 done:∀(j:Nat) (z:Int),j < i→T[j]?=some z→∀gl,f.Glyphs[z.toNat]?=some gl→D z=dF D gl.Parts∧P z=pF P gl.Parts gl.Points.length
 rest:∀z,z∉T.take i→D z=0
theorem uP.start {f:aL} {T:List Int}:uP f T 0 (fun _=>0) (fun _=>0):=⟨fun _=>by simp,fun _=>by simp,fun j _ h=>absurd h (Nat.not_lt_zero _),fun _ _=>rfl⟩
theorem uP.next {f:aL} {T:List Int} (hf:uQ f) (hT:iO f.Glyphs.length (prt f) T) {i:Nat} {D P:Int→Int} (h:uP f T i D P) {x:Int} {gl:bn} (hx:T[i]?=some x) (hgl:f.Glyphs[x.toNat]?=some gl):uP f T (i+1) (ij D x (dF D gl.Parts)) (ij P x (pF P gl.Parts gl.Points.length)):=by
 have hgm:=Hw hgl
 have hnot:∀(j:Nat) (z:Int),j≤i→T[j]?=some z→∀g,f.Glyphs[z.toNat]?=some g→∀p∈g.Parts,p.Glyph≠x:=by
  intro j z hj hz g hg p hp e
  have h1:=hT.topo j z hz p.Glyph (by rw [sK hf hg];exact List.mem_map_of_mem hp)
  rw [e] at h1
  obtain ⟨k,hk⟩:=List.mem_iff_getElem?.1 h1
  rw [List.getElem?_take] at hk
  split at hk
  ·rename_i hlt
   obtain ⟨k1,k2⟩:=Hp hk
   obtain ⟨i1,i2⟩:=Hp hx
   have e1:=hT.nodup.idxOf_getElem k k1
   have e2:=hT.nodup.idxOf_getElem i i1
   rw [k2] at e1
   rw [i2] at e2
   omega
  ·cases hk
 have hd:=FA h.deep gl.Parts
 have hp:=DY (k:=(gl.Points.length:Int)) h.many (by have:=hf.points gl hgm;omega) gl.Parts
 refine ⟨fun z=>?_,fun z=>?_,fun j z hj hz g hg=>?_,fun z hz=>?_⟩
 ·unfold ij
  split
  ·omega
  ·have:=h.deep z;omega
 ·unfold ij
  split
  ·exact hp
  ·exact h.many z
 ·rw [tz (D:=ij D x (dF D gl.Parts)) (D':=D) fun p hp=>k9 (hnot j z (by omega) hz g hg p hp),uh (P:=ij P x (pF P gl.Parts gl.Points.length)) (P':=P) fun p hp=>k9 (hnot j z (by omega) hz g hg p hp)]
  by_cases e:z=x
  ·subst e
   rw [hgl] at hg
   cases hg
   rw [lF,lF]
   exact ⟨rfl,rfl⟩
  ·rw [k9 e,k9 e]
   have hji:j < i:=by
    rcases Nat.lt_or_ge j i with h1 | h1
    ·exact h1
    ·have:j=i:=by omega
     subst this
     rw [hx] at hz
     cases hz
     exact absurd rfl e
   exact h.done j z hji hz g hg
 ·rw [List.take_add_one,hx,Option.toList_some,List.mem_append,List.mem_singleton] at hz
  rw [k9 (fun e=>hz (.inr e))]
  exact h.rest z fun hm=>hz (.inl hm)
def ou (n:Nat) (D P:Int→Int):Int×Int:=gu [d5 ((cH n).map D) pA,d5 ((cH n).map P) pX]
set_option maxHeartbeats 8000000 in
theorem tx (f:aL) (hf:uQ f) (hr:kx f.Glyphs.length (prt f)∨AC Tryz.prog 235 [cx f] [] fun c _=>∃z:Int,c=aH z):AC Tryz.prog 89 [cx f] [] fun c _=>(∃D P,jw f D P∧kx f.Glyphs.length (prt f)∧c=ct (ou f.Glyphs.length D P))∨(¬kx f.Glyphs.length (prt f)∧∃z:Int,c=ct (33,z)):=by
 refine aT Tryz.func89 rfl Tryz.ntmps89 rfl fun B=>?_
 have hn:=hf.n
 have hml:(f.Glyphs.map bS).length=f.Glyphs.length:=Hu ..
 repeat' (first|refine go ?_|refine HF a1 F8 ?_|refine bC ?_|fail)
 refine bb [] [] (Bm f hf.toFew hr) rfl rfl (Ho _) rfl fun c L1 hc=>?_
 refine aV (cb (List.nil_sublist _)) ?_
 rcases hc with ⟨T,hc,hT,hTl⟩ | ⟨hna,z,hc⟩
 rotate_left
 ·subst hc
  repeat' (first|refine go ?_|refine HF a1 F8 ?_|refine bR rfl ?_)
  exact HT HA (.inr ⟨hna,z,rfl⟩)
 subst hc
 have hall:=hT.all_of_len hTl
 have hacy:=hT.acyc hall
 have hTi:=aN T
 repeat' (first|refine go ?_|refine HF a1 F8 ?_|refine bL rfl ?_)
 rw [hml]
 refine jb a1 f.Glyphs.length rfl rfl rfl rfl rfl rfl rfl (by omega) (by omega) rfl fun bd=>?_
 rw [show (List.replicate f.Glyphs.length (List.map AV.sc [Value.int .i64 0])).flatten=eh f.Glyphs.length fun _=>0 from ot _]
 repeat' (first|refine go ?_|refine HF a1 F8 ?_|(apply aQ;first|refine HH 7 a1 0 HE ?_|refine HH 7 a1 1 HE ?_|refine HH 7 a1 2 HE ?_|refine HH 8 a1 0 HE ?_|refine HH 8 a1 1 HE ?_|refine HH 8 a1 2 HE ?_|refine HH 12 a1 0 HE ?_|refine HH 12 a1 1 HE ?_|refine HH 12 a1 2 HE ?_|refine HG a1 0 HD ?_|refine HG a1 1 HD ?_|refine HG a1 2 HD ?_|refine HG a1 3 HD ?_|fail)|refine bl a1 fun _=>?_|fail)
 rw [hml]
 refine jb a1 f.Glyphs.length rfl rfl rfl rfl rfl rfl rfl (by omega) (by omega) rfl fun bp=>?_
 rw [show (List.replicate f.Glyphs.length (List.map AV.sc [Value.int .i64 0])).flatten=eh f.Glyphs.length fun _=>0 from ot _]
 repeat' (first|refine go ?_|refine ak ?_|refine HF a1 F8 ?_|(apply aQ;first|refine HH 7 a1 0 HE ?_|refine HH 7 a1 1 HE ?_|refine HH 7 a1 2 HE ?_|refine HH 8 a1 0 HE ?_|refine HH 8 a1 1 HE ?_|refine HH 8 a1 2 HE ?_|refine HH 12 a1 0 HE ?_|refine HH 12 a1 1 HE ?_|refine HH 12 a1 2 HE ?_|refine HG a1 0 HD ?_|refine HG a1 1 HD ?_|refine HG a1 2 HD ?_|refine HG a1 3 HD ?_|fail)|refine bl a1 fun _=>?_|fail)
 refine aR [1,7,8,31,32] (α:=Nat×(Int→Int)×(Int→Int)) (fun x=>[(33,aH x.1)]) (fun x=>x.1≤f.Glyphs.length∧uP f T x.1 x.2.1 x.2.2) (fun x=>[(bp,.box (eh f.Glyphs.length x.2.2) 3),(bd,.box (eh f.Glyphs.length x.2.1) 3)]) (fun x=>f.Glyphs.length - x.1) (0,(fun _=>0),(fun _=>0)) rfl ⟨rfl,trivial⟩ ⟨Nat.zero_le _,uP.start⟩ (fun _ _ h=>h) ?_
 rintro ⟨i,D,P⟩ ⟨hi,hC⟩
 dsimp only at hi hC ⊢
 try dsimp only [Hs,Hr,Hq,Hl]
 repeat' (first|refine go ?_|refine HF a1 F8 ?_)
 refine ay rfl (fun h=>?_) (fun h=>?_)
 ·have hil:i < T.length:=by have:=Hy h;rw [hTi] at this;omega
  obtain ⟨x,hx⟩:∃x,T[i]?=some x:=⟨_,Hz hil⟩
  have hxi:=bG hx
  have hxr:=hT.dom x (Hw hx)
  obtain ⟨gl,hgl⟩:∃z,f.Glyphs[x.toNat]?=some z:=⟨_,Hz (by omega)⟩
  have hgm:=Hw hgl
  have hgg:=bA (c:=bS) hgl
  have hpm:(gl.Points.map dA).length=gl.Points.length:=Hu ..
  have hpl:=hf.points gl hgm
  clear h
  repeat' (first|refine go ?_|refine ak ?_|refine HF a1 F8 ?_|(apply aX;first|refine aU a1 ?_|refine aK a1 ?_)|fail)
  refine bj 10 [(0,.v),(1,.v),(2,.v),(3,.v),(4,.v),(5,.v),(6,.v),(7,.v),(8,.v),(9,.v)] none ?_ trivial rfl (by kernel_rfl) (by kernel_rfl) (by kernel_rfl) mixed (by kernel_rfl) rfl
  repeat' (first|refine aE ?_|refine ba a1 ?_|(apply co;refine cJ a1 ?_)|fail)
  refine HR [1,7,8,10,31,32,33,37,38,46] F8 ?_
  repeat' (first|(apply aX;first|refine aU a1 ?_|refine aK a1 ?_)|fail)
  refine ah a1 0 rfl rfl rfl rfl rfl rfl (by rw [Nat.ble_eq,jE];show _+1≤_;omega) ?_
  rw [gh,m6 hxr.1 hxr.2,hpm]
  repeat' (first|refine go ?_|refine ak ?_|refine HF a1 F8 ?_|(apply aX;first|refine aU a1 ?_|refine aK a1 ?_)|fail)
  have hTx:x∉T.take i:=fun hm=>by
   obtain ⟨k,hk⟩:=List.mem_iff_getElem?.1 hm
   rw [List.getElem?_take] at hk
   split at hk
   ·obtain ⟨k1,k2⟩:=Hp hk
    obtain ⟨i1,i2⟩:=Hp hx
    have e1:=hT.nodup.idxOf_getElem k k1
    have e2:=hT.nodup.idxOf_getElem i i1
    rw [k2] at e1
    rw [i2] at e2
    omega
   ·cases hk
  have hD0:ij D x 0=D:=by
   funext q
   unfold ij
   split
   ·rename_i e;rw [e,hC.rest x hTx]
   ·rfl
  have hql:(gl.Parts.map dW).length=gl.Parts.length:=Hu ..
  have hqn:=hf.parts gl hgm
  refine aR [1,7,8,10,31,32,33,53,54] (α:=Nat) (fun j=>[(55,aH j)]) (fun j=>j≤gl.Parts.length) (fun j=>[(bp,.box (eh f.Glyphs.length (ij P x (pF P (gl.Parts.take j) gl.Points.length))) 3),(bd,.box (eh f.Glyphs.length (ij D x (dF D (gl.Parts.take j)))) 3)]) (fun j=>gl.Parts.length - j) 0 rfl ⟨rfl,trivial⟩ (Nat.zero_le _) (fun _ _ h=>by rw [List.take_zero,show dF D []=0 from rfl,hD0];exact h) fun j hj=>?_
  try dsimp only [Hs,Hr,Hq,Hl]
  repeat' (first|refine go ?_|refine HF a1 F8 ?_)
  refine ay rfl (fun h=>?_) (fun h=>?_)
  ·have hjl:j < gl.Parts.length:=by have:=Hy h;omega
   obtain ⟨q,hq⟩:∃q,gl.Parts[j]?=some q:=⟨_,Hz hjl⟩
   have hqg:=bA (c:=dW) hq
   have hqr:=oY.1 (hf.there gl hgm q (Hw hq))
   have hne:q.Glyph≠x:=fun e=>by
    have h1:=hT.topo i x hx q.Glyph (by rw [sK hf hgl];exact List.mem_map_of_mem (Hw hq))
    rw [e] at h1
    exact hTx h1
   have hc1:(eh f.Glyphs.length (ij D x (dF D (gl.Parts.take j))))[0+x.toNat * 1]?=some (aH (dF D (gl.Parts.take j))):=by rw [jD hxr.1 hxr.2,lF]
   have hc2:(eh f.Glyphs.length (ij D x (dF D (gl.Parts.take j))))[0+q.Glyph.toNat * 1]?=some (aH (D q.Glyph)):=by rw [jD hqr.1 hqr.2,k9 hne]
   have hc3:(eh f.Glyphs.length (ij P x (pF P (gl.Parts.take j) gl.Points.length)))[0+x.toNat * 1]?=some (aH (pF P (gl.Parts.take j) gl.Points.length)):=by rw [jD hxr.1 hxr.2,lF]
   have hc4:(eh f.Glyphs.length (ij P x (pF P (gl.Parts.take j) gl.Points.length)))[0+q.Glyph.toNat * 1]?=some (aH (P q.Glyph)):=by rw [jD hqr.1 hqr.2,k9 hne]
   have hDq:=hC.deep q.Glyph
   have hPq:=hC.many q.Glyph
   have hPj:=DY (k:=(gl.Points.length:Int)) hC.many (by omega) (gl.Parts.take j)
   clear h
   repeat' (first|refine go ?_|refine ak ?_|refine HF a1 F8 ?_|(apply aX;first|refine aU a1 ?_|refine aK a1 ?_)|(apply aQ;first|refine HH 7 a1 0 HE ?_|refine HH 7 a1 1 HE ?_|refine HH 7 a1 2 HE ?_|refine HH 8 a1 0 HE ?_|refine HH 8 a1 1 HE ?_|refine HH 8 a1 2 HE ?_|refine HH 12 a1 0 HE ?_|refine HH 12 a1 1 HE ?_|refine HH 12 a1 2 HE ?_|refine HG a1 0 HD ?_|refine HG a1 1 HD ?_|refine HG a1 2 HD ?_|refine HG a1 3 HD ?_|fail)|refine bl a1 fun _=>?_|fail)
   refine bj 13 [(0,.v),(1,.v),(2,.v),(3,.v),(4,.v),(5,.l),(6,.v),(7,.v),(8,.v),(9,.v),(10,.l),(11,.v),(12,.v)] none ?_ trivial rfl (by kernel_rfl) (by kernel_rfl) (by kernel_rfl) mixed (by kernel_rfl) rfl
   repeat' (first|refine aE ?_|refine ba a1 ?_|fail)
   refine dx a1 rfl rfl rfl hxr trivial ?_
   repeat' (first|refine aE ?_|fail)
   refine bX a1 1 rfl rfl rfl hc1 trivial ?_
   repeat' (first|refine aE ?_|refine ba a1 ?_|fail)
   refine dx a1 rfl rfl rfl hqr trivial ?_
   repeat' (first|refine aE ?_|fail)
   refine bX a1 1 rfl rfl rfl hc2 trivial ?_
   repeat' (first|refine aE ?_|refine ba a1 ?_|(apply dB;refine eK ?_)|fail)
   refine HR [1,7,8,10,12,31,32,33,53,54,55,59,60,71] F8 ?_
   repeat' (first|(apply aX;first|refine aU a1 ?_|refine aK a1 ?_)|fail)
   refine ah a1 1 rfl rfl rfl rfl rfl rfl (by rw [Nat.ble_eq,jE];show _+1≤_;omega) ?_
   rw [gh,m6 hxr.1 hxr.2,rU,←Cv hq]
   repeat' (first|refine go ?_|fail)
   refine bj 13 [(0,.v),(1,.v),(2,.v),(3,.v),(4,.v),(5,.l),(6,.v),(7,.v),(8,.v),(9,.v),(10,.l),(11,.v),(12,.v)] none ?_ trivial rfl (by kernel_rfl) (by kernel_rfl) (by kernel_rfl) mixed (by kernel_rfl) rfl
   repeat' (first|refine aE ?_|refine ba a1 ?_|fail)
   refine dx a1 rfl rfl rfl hxr trivial ?_
   repeat' (first|refine aE ?_|fail)
   refine bX a1 0 rfl rfl rfl hc3 trivial ?_
   repeat' (first|refine aE ?_|refine ba a1 ?_|fail)
   refine dx a1 rfl rfl rfl hqr trivial ?_
   repeat' (first|refine aE ?_|fail)
   refine bX a1 0 rfl rfl rfl hc4 trivial ?_
   repeat' (first|refine aE ?_|refine ba a1 ?_|(apply dB;refine eK ?_)|fail)
   refine HR [1,7,8,10,31,32,33,53,54,55,73,74,85] F8 ?_
   repeat' (first|(apply aX;first|refine aU a1 ?_|refine aK a1 ?_)|fail)
   refine ah a1 0 rfl rfl rfl rfl rfl rfl (by rw [Nat.ble_eq,jE];show _+1≤_;omega) ?_
   rw [gh,m6 hxr.1 hxr.2,rU,←Db hq]
   repeat' (first|refine go ?_|refine HF a1 F8 ?_|(apply aZ;refine aY ?_)|fail)
   exact aF (j+1) rfl ⟨by rw [Hv];rfl,trivial⟩ (by omega) (by omega) (fun _ _ h=>h)
  ·have hjl:j=gl.Parts.length:=by have:=Hx h;omega
   subst hjl
   rw [List.take_length]
   repeat' (first|refine go ?_|refine HF a1 F8 ?_|(apply aZ;refine aY ?_)|fail)
   exact aF (i+1,_,_) rfl ⟨by rw [Hv];rfl,trivial⟩ ⟨by dsimp only;omega,hC.next hf hT hx hgl⟩ (by dsimp only;omega) (fun _ _ h=>h)
 ·have hil:i=f.Glyphs.length:=by have:=Hx h;rw [hTi] at this;omega
  subst hil
  clear h
  have hdeep:jw f D P:=by
   intro z h0 h1 gl hgl
   obtain ⟨j,hj⟩:=List.mem_iff_getElem?.1 (hall z h0 h1)
   exact hC.done j z (by have:=(Hp hj).1;omega) hj gl hgl
  have hcd:∀F:Int→Int,eh f.Glyphs.length F=(aS ((cH f.Glyphs.length).map F)).flatten:=fun F=>by rw [lu];unfold eh;rw [List.map_map];rfl
  have hcl:∀F:Int→Int,(aS ((cH f.Glyphs.length).map F)).length=f.Glyphs.length:=fun F=>by rw [aN,Hu,eS]
  refine bW (rS (t:=7) (sz:=1) (l:=aS ((cH f.Glyphs.length).map D)) 1 rfl rfl (hcd D) (by simp [aS]) (hcl D) (by omega)) ?_
  refine bW (rS (t:=8) (sz:=1) (l:=aS ((cH f.Glyphs.length).map P)) 1 rfl rfl (hcd P) (by simp [aS]) (hcl P) (by omega)) ?_
  repeat' (first|refine go ?_|refine HF a1 F8 ?_|refine bI a1 ?_|fail)
  refine bb [] _ (jh [⟨163,[.iptr [.imm 1 (aS ((cH f.Glyphs.length).map D))]],[],(d5 ((cH f.Glyphs.length).map D) pA).1,(d5 ((cH f.Glyphs.length).map D) pA).2⟩,⟨166,[.iptr [.imm 1 (aS ((cH f.Glyphs.length).map P))]],[],(d5 ((cH f.Glyphs.length).map P) pX).1,(d5 ((cH f.Glyphs.length).map P) pX).2⟩] ⟨⟨inferInstance,xY _⟩,fun _=>⟨⟨inferInstance,xZ _⟩,fun _=>trivial⟩⟩) rfl rfl (Ho _) rfl fun c L1 hc=>?_
  rw [jR] at hc
  have hc:c=ct (ou f.Glyphs.length D P):=hc
  subst hc
  unfold ct
  repeat' (first|refine go ?_|refine HF a1 F8 ?_)
  exact HT HA (.inl ⟨D,P,hdeep,hacy,rfl⟩)
end Go.Proofs.YtpbinloeemebkaaGreat
