/-
  What an engine's rules do with a run: chains, and calls.
-/
import Derived.Test.YtpmdfoaadejmkaaGreatDoorM18
import Derived.Test.YtpmdfoaadejmkaaGreatDoorM14
import Derived.Test.YtpmdfoaadejmkaaGreatDoorM15
namespace Go.Proofs.YtpmdfoaadejmkaaGreatDoor
open Go.RowKit
attribute [local irreducible] AT br AX AO Av Kt bb df DA cC
structure li (E:ow):Prop where
 auto:∀e∈E.lks,1≤e.l.Kind→e.l.Kind≤6→kc e
 rule:∀e∈E.lks,∀r∈e.l.Rules,r.In≠[]→ke r
abbrev ow.ls (E:ow):List aL:=E.lks.map (·.l)
theorem yp {ms:List Bool} {ig:Bool} {run:List aK} {i:Nat} (hi:i < run.length) {n:Int} (h0:0≤n):qG ms ig run i n=if jN ms ig run i=true then (if n=0 then some i else qG ms ig run (i+1) (n - 1)) else qG ms ig run (i+1) n:=by
 unfold qG
 rw [if_pos h0,lJ hi]
 split
 ·split
  ·rename_i hn
   subst hn
   rfl
  ·rw [if_pos (by omega),show n.toNat=(n - 1).toNat+1 by omega,List.getElem?_cons_succ]
 ·rfl
theorem Bv {ms:List Bool} {ig:Bool} {run:List aK} {i:Nat} (hi:run.length≤i) (n:Int):qG ms ig run i n=none:=by
 unfold qG
 rw [rf hi]
 split <;> simp
theorem y6 {ms:List Bool} {ig:Bool} {run:List aK} {i:Nat}:(dJ ms ig run i).Pairwise (· < ·):=by
  unfold dJ
  exact List.Pairwise.filter _ (List.pairwise_lt_range' ..)
theorem FE {ms:List Bool} {l:aL} {run:List aK} {i:Nat} {forms:List Int} {r:b8} (h:eK ms l run i forms=some r):ox run (di ms l run i r)∧r∈l.Rules∧r.In≠[]∧i < run.length∧(di ms l run i r).head?=some i:=by
 unfold eK at h
 split at h
 ·rename_i hb
  have hm:=List.mem_of_find?_eq_some h
  obtain ⟨h1,h2⟩:=om (List.find?_some h)
  unfold kl at hb
  split at hb
  ·rename_i x hx
   have hil:=(Ip hx).1
   rw [Bool.and_eq_true] at hb
   have hs:jN ms l.Ignore run i=true:=by rw [nG hx];exact hb.1
   have hf:dJ ms l.Ignore run i=i::dJ ms l.Ignore run (i+1):=by rw [lJ hil,if_pos hs]
   obtain ⟨n,hn⟩:∃n,r.In.length=n+1:=⟨r.In.length - 1,by omega⟩
   have hp:di ms l run i r=i::(dJ ms l.Ignore run (i+1)).take n:=by unfold di;rw [hf,hn,List.take_succ_cons]
   refine ⟨⟨by rw [hp];simp,fun j hj=>(Aw j (List.mem_of_mem_take hj)).2.1,?_⟩,hm,fun e=>by rw [e] at h1;simp at h1,hil,by rw [hp];rfl⟩
   exact y6.sublist (List.take_sublist ..)
  ·cases hb
 ·cases h
def ga (a b:Nat):Prop:=b≤max a 500
theorem rJ {l:aL} {r:b8} {ps:List Nat} {run:List aK}:ga run.length (fq l r ps run).length:=by
 unfold fq ga
 split
 ·unfold fm;split <;> (try split) <;> (try split) <;> (try rw [List.length_set]) <;> omega
 split
 ·unfold gw
  split
  ·omega
  ·split
   ·omega
   ·rename_i x hx hh
    have:=(Ip hx).1
    simp only [List.length_append,List.length_take,List.length_drop,Iu]
    omega
 split
 ·unfold kI
  split
  ·split
   ·refine Nat.le_trans iX.length_le ?_
    rw [List.length_set];omega
   ·omega
  ·omega
 split
 ·unfold oe;split <;> (try rw [List.length_set]) <;> omega
 ·omega
theorem ga.trans {a b c:Nat} (h:ga a b) (k:ga b c):ga a c:=by unfold ga at *;omega
theorem qU {ms:List Bool} {ls:List aL} {d:FM} (hd:∀l r ps run,ga run.length (d l r ps run).length) {n:Int} {i:Nat} {run:List aK}:ga run.length (kq ms ls d n i run).length:=by
 unfold kq
 split
 ·unfold ga;omega
 ·split
  ·unfold ga;omega
  ·split
   ·unfold ga;omega
   ·split
    ·unfold ga;omega
    ·exact hd ..
theorem kY {ms:List Bool} {ls:List aL}:∀(k:Nat) (l:aL) (r:b8) (ps:List Nat) (run:List aK),ga run.length (iG ms ls k l r ps run).length
 | 0,_,_,_,_=>rJ
 | k+1,l,r,ps,run=>by
  unfold iG
  split
  ·have key:∀(cs:List gD) (run:List aK),ga run.length (cs.foldl (eU ms ls (iG ms ls k) l.Ignore (ps.headD 0)) run).length:=by
    intro cs
    induction cs with
    | nil=>intro run;unfold ga;simp;omega
    | cons c cs ih=>
     intro run
     rw [List.foldl_cons]
     refine ga.trans ?_ (ih _)
     unfold eU
     split
     ·unfold ga;omega
     ·exact qU (kY k)
   exact key _ _
  ·exact rJ
theorem ga.big {a b:Nat} (h:ga a b) (ha:a≤1000000):b≤1000000:=by unfold ga at h;omega
section
variable {E:ow} (hE:li E) (wb:Nat)
def FS (E:ow) (wb deep k:Nat):Prop:=∀(e:oE) (r:b8) (ps:List Nat) (q:Option fW) (run:List aK),e∈E.lks→1≤e.l.Kind→e.l.Kind≤6→ke r→ox run ps→dI q run→run.length≤1000000→
 AC Tryz.prog 103 (jz wb e r ps deep) (iT wb E q run) (gr wb E (iG E.ms E.ls k e.l r ps run))
def uH (E:ow) (wb deep k:Nat):Prop:=∀(n:Int) (i:Nat) (q:Option fW) (run:List aK),i < run.length→dI q run→run.length≤1000000→
 AC Tryz.prog 261 [fT wb,aF n,aF i,aF deep] (iT wb E q run) (gr wb E (kq E.ms E.ls (iG E.ms E.ls k) n i run))
theorem qT (E:ow):(E.lks.map fv).length=E.lks.length:=by simp
include hE in
set_option maxHeartbeats 4000000 in
theorem CI {deep k:Nat} (hd:deep≤4) (hdo:FS E wb deep k):uH E wb deep k:=by
 intro n i q run hi hq hr
 refine aN Tryz.func261 rfl Tryz.ntmps261 rfl fun B=>?_
 have hll:=qT E
 repeat' (first|refine If ?_|refine IF a5 FN ?_)
 refine c9 [0,1,2,3] (n < 0∨(E.lks.length:Int)≤n) rfl (fun Q' K=>?_) (fun hC=>?_) (fun hC=>?_)
 ·repeat' (first|refine If ?_|refine IF a5 FN ?_|refine IN FN ?_|refine IP IB ?_|(apply bw;first|refine II a5 0 IC ?_|refine II a5 1 IC ?_|refine II a5 2 IC ?_|refine II a5 3 IC ?_|refine IJ a5 0 IC ?_|refine IJ a5 1 IC ?_|refine IJ a5 2 IC ?_|refine IK a5 1 IA (by assumption) rfl ?_|refine IK a5 0 IA (by assumption) rfl ?_|fail)|refine IR IA (fun _=>?_) (fun _=>?_))
  all_goals exact K _ _ rfl rfl (by simp_all <;> omega)
 ·have hv:kq E.ms E.ls (iG E.ms E.ls k) n i run=run:=by
   unfold kq
   by_cases h0:n < 0
   ·rw [if_pos h0]
   ·rw [if_neg h0,List.getElem?_eq_none (by rw [Iu];omega)]
  rw [hv]
  repeat' (first|refine If ?_|fail)
  exact oJ rfl ⟨q,hq,rfl⟩
 obtain ⟨e,he⟩:∃e,E.lks[n.toNat]?=some e:=⟨_,Iz (by omega)⟩
 have heg:(E.lks.map fv)[n.toNat]?=some (fv e):=by simp [he]
 have hem:=Iw he
 have hcv:kq E.ms E.ls (iG E.ms E.ls k) n i run=if e.l.Kind < 1∨4 < e.l.Kind then run else match eK E.ms e.l run i [] with
   | none=>run
   | some r=>iG E.ms E.ls k e.l r (di E.ms e.l run i r) run:=by
  unfold kq
  rw [if_neg (by omega),List.getElem?_map,he]
  rfl
 repeat' (first|refine If ?_|refine IF a5 FN ?_|(apply bw;first|refine II a5 0 IC ?_|refine II a5 1 IC ?_|refine II a5 2 IC ?_|refine II a5 3 IC ?_|refine IJ a5 0 IC ?_|refine IJ a5 1 IC ?_|refine IJ a5 2 IC ?_|refine IK a5 1 IA (by assumption) rfl ?_|refine IK a5 0 IA (by assumption) rfl ?_|fail)|(apply aS;first|refine aR a5 ?_|refine aH a5 ?_)|fail)
 refine c9 [0,2,3,8] (e.l.Kind < 1∨4 < e.l.Kind) rfl (fun Q' K=>?_) (fun hC2=>?_) (fun hC2=>?_)
 ·repeat' (first|refine If ?_|refine IF a5 FN ?_|refine IN FN ?_|refine IP IB ?_|refine IR IA (fun _=>?_) (fun _=>?_))
  all_goals exact K _ _ rfl rfl (by simp_all <;> omega)
 ·rw [if_pos hC2] at hcv
  rw [hcv]
  repeat' (first|refine If ?_|fail)
  exact oJ rfl ⟨q,hq,rfl⟩
 rw [if_neg hC2] at hcv
 rw [hcv]
 have hau:=hE.auto e hem (by omega) (by omega)
 have hma:=AC.args (a:=[fT wb,.iptr (fv e),aF i,.sc (.slice none 0 0)]) (pN E e hau wb q run hq hr i (by omega) []) ⟨cP.refl _,cP.refl _,cP.refl _,cP.nil 1,trivial⟩
 repeat' (first|refine If ?_|refine IF a5 FN ?_)
 refine b9 (iT wb E q run) [] hma rfl rfl (by rw [List.append_nil]) rfl fun c L1 ⟨hc,hL⟩=>?_
 subst hc;subst hL
 unfold kK
 cases hmv:eK E.ms e.l run i [] with
 | none=>
  dsimp only
  repeat' (first|refine If ?_|refine IF a5 FN ?_)
  refine sx Tryz.underlying190 rfl rfl rfl rfl ?_
  repeat' (first|refine If ?_|refine bI rfl ?_)
  exact cA rfl ⟨q,hq,by rw [List.append_nil]⟩
 | some r=>
  dsimp only
  obtain ⟨hps,hrm,hin,_,_⟩:=FE hmv
  have hdc:=hdo e r (di E.ms e.l run i r) q run hem (by omega) (by omega) (hE.rule e hem r hrm hin) hps hq hr
  repeat' (first|refine If ?_|refine IF a5 FN ?_)
  refine sx Tryz.underlying190 rfl rfl rfl rfl ?_
  repeat' (first|refine If ?_|refine IF a5 FN ?_|refine bQ rfl ?_)
  refine b9 (iT wb E q run) [] hdc rfl rfl (by rw [List.append_nil]) rfl fun c L1 ⟨q',h1,h2⟩=>?_
  subst h2
  repeat' (first|refine If ?_|fail)
  exact cA rfl ⟨q',h1,by rw [List.append_nil]⟩
set_option maxHeartbeats 4000000 in
theorem zV {deep k:Nat} (hd:deep < 4) (hca:uH E wb (deep+1) k) (e:oE) (cs:List gD) (hcs:cs.length≤1000000) (hca0:∀c∈cs,0≤c.At∧c.At≤1000000) (p:Nat) (hp:p≤1000000) (q:Option fW) (run:List aK) (hq:dI q run) (hr:run.length≤1000000):
  AC Tryz.prog 193 [fT wb,.iptr (fv e),.imm 2 (cs.map eS),aF p,aF deep] (iT wb E q run) (gr wb E (cs.foldl (eU E.ms E.ls (iG E.ms E.ls k) e.l.Ignore p) run)):=by
 refine aN Tryz.func193 rfl Tryz.ntmps193 rfl fun B=>?_
 have hcl:(cs.map eS).length=cs.length:=by simp
 repeat' (first|fail)
 refine zH ?_
 repeat' (first|refine If ?_|refine ak ?_|refine zF ?_|refine IF a5 FN ?_)
 refine aO [0,1,3,4,14,15] (α:=Nat×Option fW×List aK) (fun s=>[(16,aF s.1)]) (fun s=>s.1≤cs.length∧dI s.2.1 s.2.2∧s.2.2.length≤1000000∧(cs.drop s.1).foldl (eU E.ms E.ls (iG E.ms E.ls k) e.l.Ignore p) s.2.2=cs.foldl (eU E.ms E.ls (iG E.ms E.ls k) e.l.Ignore p) run) (fun s=>iT wb E s.2.1 s.2.2) (fun s=>cs.length - s.1) (0,q,run) rfl ⟨rfl,trivial⟩ ⟨Nat.zero_le _,hq,hr,rfl⟩ (fun _ _ h=>h) ?_
 rintro ⟨n,q1,run1⟩ ⟨hn,hq1,hr1,hf⟩
 dsimp only at hn hq1 hr1 hf ⊢
 try dsimp only [Is,Ir,Iq,Ik]
 repeat' (first|refine If ?_|refine IF a5 FN ?_)
 refine aq rfl (fun h=>?_) (fun h=>?_)
 ·have hn2:n < cs.length:=by have:=Iy h;omega
  obtain ⟨c,hc⟩:∃c,cs[n]?=some c:=⟨_,Iz hn2⟩
  have hcg:(cs.map eS)[n]?=some (eS c):=by simp [hc]
  obtain ⟨ha0,ha1⟩:=hca0 c (Iw hc)
  have hfd:(cs.drop (n+1)).foldl (eU E.ms E.ls (iG E.ms E.ls k) e.l.Ignore p) (eU E.ms E.ls (iG E.ms E.ls k) e.l.Ignore p run1 c)=cs.foldl (eU E.ms E.ls (iG E.ms E.ls k) e.l.Ignore p) run:=by
   rw [←hf,List.drop_eq_getElem_cons hn2,List.foldl_cons,(Ip hc).2]
  clear h
  repeat' (first|refine If ?_|refine ak ?_|refine IF a5 FN ?_|(apply aS;first|refine aR a5 ?_|refine aH a5 ?_)|(apply aM;first|refine IH 11 a5 0 IE ?_|refine IH 11 a5 1 IE ?_|refine IH 11 a5 2 IE ?_|refine IG a5 0 ID ?_|refine IG a5 1 ID ?_|refine IG a5 2 ID ?_|refine IG a5 3 ID ?_|fail)|refine bh a5 fun _=>?_|fail)
  refine aO [0,1,3,4,11,14,15,16] (α:=Nat×Int) (fun s=>[(13,aF s.1),(12,aF s.2)]) (fun s=>0≤s.2∧s.2≤1000000∧s.1≤1000000∧qG E.ms e.l.Ignore run1 p c.At=qG E.ms e.l.Ignore run1 s.1 s.2) (fun s=>iT wb E q1 run1) (fun s=>run1.length - s.1) (p,c.At) rfl ⟨rfl,rfl,trivial⟩ ⟨ha0,ha1,hp,rfl⟩ (fun _ _ h=>h) ?_
  rintro ⟨i,left⟩ ⟨hl0,hl1,hi1,hnth⟩
  dsimp only at hl0 hl1 hi1 hnth ⊢
  try dsimp only [Is,Ir,Iq,Ik]
  repeat' (first|refine If ?_|refine IF a5 FN ?_|(apply bw;first|refine II a5 0 IC ?_|refine II a5 1 IC ?_|refine II a5 2 IC ?_|refine II a5 3 IC ?_|refine IJ a5 0 IC ?_|refine IJ a5 1 IC ?_|refine IJ a5 2 IC ?_|refine IK a5 1 IA (by assumption) rfl ?_|refine IK a5 0 IA (by assumption) rfl ?_|fail)|fail)
  refine lM a5 rfl hq1 rfl rfl ?_
  repeat' (first|refine If ?_|refine IF a5 FN ?_)
  refine aq rfl (fun h=>?_) (fun h=>?_)
  ·have hi2:i < run1.length:=by have:=Iy h;omega
   obtain ⟨m,rfl⟩:=hq1.lt hi2
   obtain ⟨x,hx⟩:∃x,run1[i]?=some x:=⟨_,Iz hi2⟩
   have hse:=sL E e wb m run1 i x hx
   have hst:=yp (ms:=E.ms) (ig:=e.l.Ignore) hi2 hl0
   rw [nG hx] at hst
   clear h
   repeat' (first|refine If ?_|refine ak ?_|refine IF a5 FN ?_)
   refine b9 (uD wb (.iptr (dR E)) (some m) run1) [dv] hse rfl rfl (Io _) rfl fun c1 L1 ⟨hc1,hL⟩=>?_
   subst hc1;subst hL
   repeat' (first|refine If ?_|refine IF a5 FN ?_)
   refine aq rfl (fun hb=>?_) (fun hb=>?_)
   ·rw [if_neg (by simpa using hb)] at hst
    repeat' (first|refine If ?_|refine IF a5 FN ?_|(apply aV;refine aU ?_)|fail)
    exact aD (i+1,left) rfl ⟨by rw [Iv];rfl,rfl,trivial⟩ ⟨hl0,hl1,by dsimp only;omega,by rw [hnth,hst]⟩ (by dsimp only;omega) (fun _ _ h=>h)
   ·rw [if_pos (by simpa using hb)] at hst
    repeat' (first|refine If ?_|refine IF a5 FN ?_)
    refine aq rfl (fun h0=>?_) (fun h0=>?_)
    ·have hz:=Iy h0
     subst hz
     rw [if_pos rfl] at hst
     have hcc:=hca c.Lookup i (some m) run1 hi2 hq1 hr1
     have hch:eU E.ms E.ls (iG E.ms E.ls k) e.l.Ignore p run1 c=kq E.ms E.ls (iG E.ms E.ls k) c.Lookup i run1:=by
      unfold eU
      rw [hnth,hst]
     rw [hch] at hfd
     clear h0
     repeat' (first|refine If ?_|refine IF a5 FN ?_|(apply aV;refine aU ?_)|fail)
     refine b9 (iT wb E (some m) run1) [] hcc rfl (by rw [Iv];rfl) (by rw [List.append_nil]) rfl fun c2 L2 ⟨q',h1,h2⟩=>?_
     subst h2
     repeat' (first|refine If ?_|refine dP rfl ?_|refine IF a5 FN ?_|(apply aV;refine aU ?_)|fail)
     exact aD (n+1,q',_) rfl ⟨by rw [Iv];rfl,trivial⟩ ⟨hn2,h1,(qU (kY k)).big hr1,hfd⟩ (by dsimp only;omega) (fun _ _ h=>by rw [List.append_nil] at h;exact h)
    ·have hz:=Ix h0
     rw [if_neg hz] at hst
     repeat' (first|refine If ?_|refine IF a5 FN ?_|(apply aV;refine aU ?_)|fail)
     exact aD (i+1,left - 1) rfl ⟨by rw [Iv];rfl,rfl,trivial⟩ ⟨by dsimp only;omega,by dsimp only;omega,by dsimp only;omega,by rw [hnth,hst]⟩ (by dsimp only;omega) (fun _ _ h=>h)
  ·have hi2:run1.length≤i:=by have:=Ix h;omega
   have hch:eU E.ms E.ls (iG E.ms E.ls k) e.l.Ignore p run1 c=run1:=by
    unfold eU
    rw [hnth,Bv hi2]
   rw [hch] at hfd
   clear h
   repeat' (first|refine If ?_|refine IF a5 FN ?_|(apply aV;refine aU ?_)|fail)
   exact aD (n+1,q1,run1) rfl ⟨by rw [Iv];rfl,trivial⟩ ⟨hn2,hq1,hr1,hfd⟩ (by dsimp only;omega) (fun _ _ h=>h)
 ·have hn2:n=cs.length:=by have:=Ix h;omega
  subst hn2
  rw [List.drop_length] at hf
  have hf2:run1=cs.foldl (eU E.ms E.ls (iG E.ms E.ls k) e.l.Ignore p) run:=hf
  repeat' (first|refine If ?_|fail)
  refine F5 ?_
  exact cA rfl ⟨q1,by rw [←hf2];exact hq1,by rw [←hf2];rfl⟩
set_option maxHeartbeats 4000000 in
theorem Fb {deep k:Nat} (hd:deep < 4) (hca:uH E wb (deep+1) k) (e:oE) (hk:e.l.Kind=4) (r:b8) (hro:ke r) (ps:List Nat) (q:Option fW) (run:List aK) (hps:ox run ps) (hq:dI q run) (hr:run.length≤1000000):
  AC Tryz.prog 103 (jz wb e r ps deep) (iT wb E q run) (gr wb E (iG E.ms E.ls (k+1) e.l r ps run)):=by
 obtain ⟨p,ps',rfl⟩:=List.exists_cons_of_ne_nil hps.some_
 have hpl:=hps.lt p (by simp)
 have hch:=zV wb hd hca e r.Calls hro.calls hro.at_ p (by omega) q run hq hr
 have hdv:iG E.ms E.ls (k+1) e.l r (p::ps') run=r.Calls.foldl (eU E.ms E.ls (iG E.ms E.ls k) e.l.Ignore p) run:=by
  rw [iG]
  exact if_pos hk
 rw [hdv]
 obtain ⟨⟨kd,ig,rs⟩,cls,fo,ba,fe,be⟩:=e
 dsimp only at hk
 subst hk
 have hp0:(cZ (p::ps'))[(0:Int).toNat]?=some [aF p]:=rfl
 refine aN Tryz.func103 rfl Tryz.ntmps103 rfl fun B=>?_
 repeat' (first|refine If ?_|refine ak ?_|refine IF a5 FN ?_|(apply aS;first|refine aR a5 ?_|refine aH a5 ?_)|refine bQ rfl ?_|refine bI rfl ?_)
 refine aq rfl (fun h=>?_) (fun h=>?_)
 ·clear h
  repeat' (first|refine If ?_|refine IF a5 FN ?_)
  refine b9 (iT wb E q run) [] hch rfl rfl (by rw [List.append_nil]) rfl fun c L1 ⟨q',h1,h2⟩=>?_
  subst h2
  repeat' (first|refine If ?_|fail)
  exact cA rfl ⟨q',h1,by rw [List.append_nil]⟩
 ·have:=Ix h
  omega
set_option maxHeartbeats 4000000 in
theorem CQ (e:oE) (hk:e.l.Kind=4) (r:b8) (ps:List Nat) (q:Option fW) (run:List aK) (hps:ox run ps) (hq:dI q run):
  AC Tryz.prog 103 (jz wb e r ps 4) (iT wb E q run) (gr wb E (iG E.ms E.ls 0 e.l r ps run)):=by
 obtain ⟨p,ps',rfl⟩:=List.exists_cons_of_ne_nil hps.some_
 have hdv:iG E.ms E.ls 0 e.l r (p::ps') run=run:=by
  rw [iG]
  dsimp only
  unfold fq
  rw [hk]
  rfl
 rw [hdv]
 obtain ⟨⟨kd,ig,rs⟩,cls,fo,ba,fe,be⟩:=e
 dsimp only at hk
 subst hk
 have hp0:(cZ (p::ps'))[(0:Int).toNat]?=some [aF p]:=rfl
 refine aN Tryz.func103 rfl Tryz.ntmps103 rfl fun B=>?_
 repeat' (first|refine If ?_|refine ak ?_|refine IF a5 FN ?_|(apply aS;first|refine aR a5 ?_|refine aH a5 ?_)|refine bQ rfl ?_|refine bI rfl ?_)
 exact cA rfl ⟨q,hq,rfl⟩
theorem tE (deep k:Nat) (e:oE) (h1:1≤e.l.Kind) (h6:e.l.Kind≤6) (h4:e.l.Kind≠4) (r:b8) (hro:ke r) (ps:List Nat) (q:Option fW) (run:List aK) (hps:ox run ps) (hq:dI q run) (hr:run.length≤1000000):
  AC Tryz.prog 103 (jz wb e r ps deep) (iT wb E q run) (gr wb E (iG E.ms E.ls k e.l r ps run)):=by
 obtain ⟨p,ps',rfl⟩:=List.exists_cons_of_ne_nil hps.some_
 obtain ⟨m,rfl⟩:=hq.lt (hps.lt p (by simp))
 have hdv:iG E.ms E.ls k e.l r (p::ps') run=fq e.l r (p::ps') run:=by
  cases k with
  | zero=>rw [iG]
  | succ k=>rw [iG];exact if_neg h4
 rw [hdv]
 have hc:e.l.Kind=1∨e.l.Kind=2∨e.l.Kind=3∨e.l.Kind=5∨e.l.Kind=6:=by omega
 rcases hc with hk | hk | hk | hk | hk
 ·exact HZ hq hr hro hps deep hk
 ·exact I0 hq hr hro hps deep hk
 ·exact I1 hq hr hro hps deep hk
 ·exact I2 hq hr hro hps deep hk
 ·exact I3 hq hr hro hps deep hk
include hE in
theorem Ab:∀(k deep:Nat),deep+k=4→FS E wb deep k
 | 0,deep,hd=>by
  intro e r ps q run _ h1 h6 hro hps hq hr
  have nu:deep=4:=by omega
  subst nu
  by_cases h4:e.l.Kind=4
  ·exact CQ wb e h4 r ps q run hps hq
  ·exact tE wb 4 0 e h1 h6 h4 r hro ps q run hps hq hr
 | k+1,deep,hd=>by
  intro e r ps q run _ h1 h6 hro hps hq hr
  by_cases h4:e.l.Kind=4
  ·exact Fb wb (by omega) (CI hE wb (by omega) (Ab k (deep+1) (by omega))) e h4 r hro ps q run hps hq hr
  ·exact tE wb deep (k+1) e h1 h6 h4 r hro ps q run hps hq hr
end
end Go.Proofs.YtpmdfoaadejmkaaGreatDoor
namespace Go.Proofs.YtpmdfoaadejmkaaGreatDoor
open Go.RowKit
attribute [local irreducible] AT br AX AO Av Kt bb df DA cC
theorem zY (run:List aK) (hr:run.length≤1000000):AC Tryz.prog 36 [.imm 6 (run.map bU)] [] fun c L=>∃q,dI q run∧c=eM q run∧L=nF q run:=by
 refine aN Tryz.func36 rfl Tryz.ntmps36 rfl fun B=>?_
 have hml:(run.map bU).length=run.length:=Iu ..
 repeat' (first|refine If ?_|refine IF a5 FN ?_)
 refine sv a5 rfl rfl rfl rfl rfl fun b hb=>?_
 repeat' (first|refine If ?_|fail)
 cases b with
 | true=>
  have hn:run=[]:=by simpa using hb rfl
  subst hn
  repeat' (first|refine If ?_|refine IF a5 FN ?_|refine bQ rfl ?_)
  refine bf (bO (t:=2) (c':= .imm 6 []) rfl fun σ v h=>gZ 6 h) ?_
  exact IL FN ⟨none,⟨fun _=>rfl,fun m h=>by cases h⟩,rfl,rfl⟩
 | false=>
  repeat' (first|refine If ?_|refine IF a5 FN ?_|refine Fv (d:=5) a5 rfl rfl fun _=>?_|refine bI rfl ?_)
  rename_i b5
  refine la a5 0 rfl rfl rfl rfl (ut rfl rfl) rfl (Nat.zero_le _) (Nat.le_refl _) (Nat.zero_le _) (by rw [hml];unfold maxLen;omega) (by rw [hml];omega) rfl fun b' cs' cap' e1 e2 e3 e4 e5=>?_
  repeat' (first|refine If ?_|refine IF a5 FN ?_)
  have hcs:cs'=bY run++cs'.drop (run.length * 6):=by
   conv=>lhs;rw [←List.take_append_drop (run.length * 6) cs']
   rw [Nat.zero_add,hml] at e2
   rw [e2]
   rfl
  refine IL FN ⟨some ⟨b',cap',cs'.drop (run.length * 6)⟩,⟨fun h=>(by cases h),fun m hm=>?_⟩,?_,?_⟩
  ·cases hm
   dsimp only
   rw [←hcs]
   exact ⟨by omega,e4,e1⟩
  ·unfold eM
   dsimp only
   rw [Nat.zero_add,hml]
  ·unfold nF
   dsimp only
   rw [←hcs]
   rfl
theorem pv {R:List aK}:∀{l:List Nat},R.length≤(fp l R).length+l.length
 | []=>by simp [fp]
 | z::l=>by
  have:=pv (R:=R) (l:=l)
  have h2:(fp l R).length≤((fp l R).eraseIdx z).length+1:=by rw [List.length_eraseIdx];split <;> omega
  rw [fp,List.length_cons]
  omega
theorem x8 {run:List aK} {p:Nat} {q:List Nat} (h:ox run (p::q)):p+q.length≤(p::q).getLastD p∧(p::q).getLastD p < run.length∧(q≠[]↔p < (p::q).getLastD p):=by
  have key:∀(q:List Nat) (p:Nat),(p::q).Pairwise (· < ·)→p+q.length≤(p::q).getLast (by simp):=by
    intro q
    induction q with
    | nil=>intro p _;simp
    | cons a q ih=>
      intro p hp
      obtain ⟨h1,h2⟩:=List.pairwise_cons.1 hp
      have:=ih a h2
      have:=h1 a (by simp)
      rw [List.getLast_cons (by simp),List.length_cons]
      omega
  have hk:=key q p h.inc
  have he:(p::q).getLastD p=(p::q).getLast (by simp):=by rw [List.getLastD_eq_getLast?,List.getLast?_eq_some_getLast (by simp)];rfl
  rw [he]
  refine ⟨hk,h.lt _ (List.getLast_mem _),fun hq=>?_,fun hq e=>?_⟩
  · have:0 < q.length:=List.length_pos_iff.2 hq
    omega
  · subst e
    simp at hq
theorem ql {l:aL} {r:b8} {run:List aK} {p:Nat} {q:List Nat} (h:ox run (p::q)):run.length - 1 - (p::q).getLastD p≤(fq l r (p::q) run).length:=by
 obtain ⟨h1,h2,_⟩:=x8 h
 unfold fq
 split
 ·unfold fm;split <;> (try split) <;> (try split) <;> (try rw [List.length_set]) <;> omega
 split
 ·unfold gw
  split
  ·omega
  ·split
   ·omega
   ·simp only [List.length_append,List.length_take,List.length_drop,Iu,List.headD_cons]
    omega
 split
 ·unfold kI
  split
  ·rename_i heq _
   cases heq
   split
   ·rename_i x hx
    have key:∀y:aK,run.length - 1 - (p::q).getLastD p≤(fp q (run.set p y)).length:=fun y=>by
     have:=pv (R:=run.set p y) (l:=q)
     rw [List.length_set] at this
     omega
    exact key _
   ·omega
  ·omega
 split
 ·unfold oe;split <;> (try rw [List.length_set]) <;> omega
 ·omega
theorem Aa {ms:List Bool} {ls:List aL} {k:Nat} {l:aL} (hk:l.Kind≠4) {r:b8} {run:List aK} {p:Nat} {q:List Nat} (h:ox run (p::q)):run.length - 1 - (p::q).getLastD p≤(iG ms ls k l r (p::q) run).length:=by
 cases k with
 | zero=>rw [iG];exact ql h
 | succ k=>rw [iG];dsimp only;rw [if_neg hk];exact ql h
theorem vT {p:Nat} {q:List Nat}:(cZ (p::q))[(((p::q).length:Int) - 1).toNat]?=some [aF ((p::q).getLastD p:Nat)]:=by
 have he:(p::q).getLastD p=(p::q).getLast (by simp):=by rw [List.getLastD_eq_getLast?,List.getLast?_eq_some_getLast (by simp)];rfl
 have hi:(((p::q).length:Int) - 1).toNat=(p::q).length - 1:=by omega
 rw [hi,he]
 unfold cZ
 refine bR ?_
 rw [List.getElem?_map,←List.getLast?_eq_getElem?,List.getLast?_eq_some_getLast (by simp)]
 rfl
section
variable {E:ow} (hE:li E) (wb:Nat)
include hE
set_option maxHeartbeats 8000000 in
theorem GC (e:oE) (he:e∈E.lks) (h1:1≤e.l.Kind) (h6:e.l.Kind≤6) (forms:List Int) (q0:Option fW) (run0:List aK) (hq0:dI q0 run0) (hr0:run0.length≤1000000):
  AC Tryz.prog 37 [fT wb,.iptr (fv e),.imm 1 (aT forms)] (iT wb E q0 run0) (gr wb E (uE E.ms E.ls e.l forms run0.length 0 run0)):=by
 refine aN Tryz.func37 rfl Tryz.ntmps37 rfl fun B=>?_
 have hau:=hE.auto e he h1 h6
 repeat' (first|refine If ?_|refine ak ?_|refine IF a5 FN ?_)
 refine aO [0,1,2] (α:=Nat×Nat×Option fW×List aK) (fun s=>[(6,aF s.1)]) (fun s=>dI s.2.2.1 s.2.2.2∧s.2.2.2.length≤1000000∧s.1≤1000001∧s.2.2.2.length - s.1≤s.2.1∧uE E.ms E.ls e.l forms s.2.1 s.1 s.2.2.2=uE E.ms E.ls e.l forms run0.length 0 run0) (fun s=>iT wb E s.2.2.1 s.2.2.2) (fun s=>s.2.1) (0,run0.length,q0,run0) rfl ⟨rfl,trivial⟩ ⟨hq0,hr0,by dsimp only;omega,by dsimp only;omega,rfl⟩ (fun _ _ h=>h) ?_
 rintro ⟨i,k,q,run⟩ ⟨hq,hr,hi1,hk,hv⟩
 dsimp only at hq hr hi1 hk hv ⊢
 try dsimp only [Is,Ir,Iq,Ik]
 repeat' (first|refine If ?_|refine IF a5 FN ?_|(apply bw;first|refine II a5 0 IC ?_|refine II a5 1 IC ?_|refine II a5 2 IC ?_|refine II a5 3 IC ?_|refine IJ a5 0 IC ?_|refine IJ a5 1 IC ?_|refine IJ a5 2 IC ?_|refine IK a5 1 IA (by assumption) rfl ?_|refine IK a5 0 IA (by assumption) rfl ?_|fail)|fail)
 refine lM a5 rfl hq rfl rfl ?_
 repeat' (first|refine If ?_|refine IF a5 FN ?_)
 refine aq rfl (fun h=>?_) (fun h=>?_)
 ·have hi:i < run.length:=by have:=Iy h;omega
  obtain ⟨k,rfl⟩:∃j,k=j+1:=⟨k - 1,by omega⟩
  rw [uE,if_pos hi] at hv
  have hma:=pN E e hau wb q run hq hr i (by omega) forms
  clear h
  repeat' (first|refine If ?_|refine ak ?_|refine IF a5 FN ?_)
  refine b9 (iT wb E q run) [] hma rfl rfl (by rw [List.append_nil];exact Io _) rfl fun c L1 ⟨hc,hL⟩=>?_
  subst hc;subst hL
  unfold kK
  cases hmv:eK E.ms e.l run i forms with
  | none=>
   rw [hmv] at hv
   dsimp only at hv ⊢
   repeat' (first|refine If ?_|refine IF a5 FN ?_)
   refine pR Tryz.underlying190 rfl rfl rfl rfl ?_
   repeat' (first|refine If ?_|refine IF a5 FN ?_|(apply aV;refine aU ?_)|refine bQ rfl ?_)
   exact aD (i+1,k,q,run) rfl ⟨by rw [Iv];rfl,trivial⟩ ⟨hq,hr,by dsimp only;omega,by dsimp only;omega,hv⟩ (by dsimp only;omega) (fun _ _ h=>by rw [List.append_nil] at h;exact h)
  | some r=>
   rw [hmv] at hv
   dsimp only at hv ⊢
   obtain ⟨hps,hrm,hin,_,hhd⟩:=FE hmv
   have hro:=hE.rule e he r hrm hin
   have hdo:=Ab hE wb 4 0 rfl e r (di E.ms e.l run i r) q run he h1 h6 hro hps hq hr
   generalize di E.ms e.l run i r=ps at *
   obtain ⟨p,ps',rfl⟩:=List.exists_cons_of_ne_nil hps.some_
   simp only [List.head?_cons,Option.some.injEq] at hhd
   subst hhd
   obtain ⟨l1,l2,l3⟩:=x8 hps
   have hlg:=vT (p:=p) (q:=ps')
   have hnl:=lb (p::ps')
   have hlen:=kY (ms:=E.ms) (ls:=E.ls) 4 e.l r (p::ps') run
   have hr2:=hlen.big hr
   have hleft:e.l.Kind≠4→run.length - 1 - (p::ps').getLastD p≤(iG E.ms E.ls 4 e.l r (p::ps') run).length:=fun h4=>Aa h4 hps
   have hpl1:(p::ps').length=ps'.length+1:=rfl
   have hlen1:(1 < ((cZ (p::ps')).length:Int))↔p < (p::ps').getLastD p:=by
    rw [hnl,hpl1,←l3,←List.length_pos_iff]
    omega
   have hpair:e.l.Kind=6→(iG E.ms E.ls 4 e.l r (p::ps') run).length=run.length:=fun h6=>by
    rw [iG]
    dsimp only
    rw [if_neg (by omega)]
    unfold fq
    rw [if_neg (by omega),if_neg (by omega),if_neg (by omega),if_pos h6]
    unfold oe
    split
    ·rw [List.length_set]
    ·rfl
   generalize iG E.ms E.ls 4 e.l r (p::ps') run=run2 at *
   generalize (p::ps').getLastD p=last at *
   repeat' (first|refine If ?_|refine IF a5 FN ?_)
   refine pR Tryz.underlying190 rfl rfl rfl rfl ?_
   repeat' (first|refine If ?_|refine IF a5 FN ?_|(apply aV;refine aU ?_)|refine bI rfl ?_)
   refine aR a5 ?_ (hl:=by rw [hnl];exact hlg) (h0:=by rw [hnl,hpl1];omega)
   repeat' (first|refine If ?_|refine IF a5 FN ?_|(apply bw;first|refine II a5 0 IC ?_|refine II a5 1 IC ?_|refine II a5 2 IC ?_|refine II a5 3 IC ?_|refine IJ a5 0 IC ?_|refine IJ a5 1 IC ?_|refine IJ a5 2 IC ?_|refine IK a5 1 IA (by assumption) rfl ?_|refine IK a5 0 IA (by assumption) rfl ?_|fail)|fail)
   refine lM a5 rfl hq rfl rfl ?_
   repeat' (first|refine If ?_|refine IF a5 FN ?_|(apply aV;refine aU ?_)|fail)
   refine b9 (iT wb E q run) [] hdo rfl rfl (by rw [List.append_nil]) rfl fun c L1 ⟨q',g1,g2⟩=>?_
   subst g2
   repeat' (first|refine If ?_|refine IF a5 FN ?_|(apply bw;first|refine II a5 0 IC ?_|refine II a5 1 IC ?_|refine II a5 2 IC ?_|refine II a5 3 IC ?_|refine IJ a5 0 IC ?_|refine IJ a5 1 IC ?_|refine IJ a5 2 IC ?_|refine IK a5 1 IA (by assumption) rfl ?_|refine IK a5 0 IA (by assumption) rfl ?_|fail)|fail)
   refine lM a5 rfl g1 rfl rfl ?_
   repeat' (first|refine If ?_|refine ak ?_|refine IF a5 FN ?_|(apply aV;refine aU ?_)|fail)
   refine aq rfl (fun h4=>?_) (fun h4=>?_)
   ·have hk4:e.l.Kind=4:=Iy h4
    unfold rx at hv
    rw [if_pos hk4] at hv
    repeat' (first|refine If ?_|refine IF a5 FN ?_|(apply aV;refine aU ?_)|fail)
    refine aD (max (run2.length - (run.length - 1 - last)) (p+1),k,q',run2) rfl ⟨?_,trivial⟩ ⟨g1,hr2,by dsimp only;omega,by dsimp only;omega,hv⟩ (by dsimp only;omega) (fun _ _ h=>by rw [List.append_nil] at h;exact h)
    show some (AV.sc (.int .i64 (max ((run2.length:Int) - ((run.length:Int) - 1 - last)) ((p:Int)+1))))=some (aF ((max (run2.length - (run.length - 1 - last)) (p+1):Nat):Int))
    rw [show max ((run2.length:Int) - ((run.length:Int) - 1 - last)) ((p:Int)+1)=((max (run2.length - (run.length - 1 - last)) (p+1):Nat):Int) by omega]
   ·have hk4:e.l.Kind≠4:=Ix h4
    have hlf:=hleft hk4
    repeat' (first|refine If ?_|refine IF a5 FN ?_)
    refine c9 [0,1,2,9,11] (e.l.Kind=6∧p < last) rfl (fun Q' K=>?_) (fun hC=>?_) (fun hC=>?_)
    ·repeat' (first|refine If ?_|refine IF a5 FN ?_|refine IN FN ?_|refine IP IB ?_|refine IR IA (fun _=>?_) (fun _=>?_))
     all_goals exact K _ _ rfl rfl (by rw [←hlen1];simp_all)
    ·unfold rx at hv
     rw [if_neg hk4,if_pos hC] at hv
     repeat' (first|refine If ?_|refine IF a5 FN ?_)
     refine aD (last,k,q',run2) rfl ⟨rfl,trivial⟩ ⟨g1,hr2,by dsimp only;omega,by have:=hpair hC.1;dsimp only;omega,hv⟩ (by dsimp only;omega) (fun _ _ h=>by rw [List.append_nil] at h;exact h)
    ·unfold rx at hv
     rw [if_neg hk4,if_neg hC] at hv
     repeat' (first|refine If ?_|refine IF a5 FN ?_)
     refine aD (run2.length - (run.length - 1 - last),k,q',run2) rfl ⟨?_,trivial⟩ ⟨g1,hr2,by dsimp only;omega,by dsimp only;omega,hv⟩ (by dsimp only;omega) (fun _ _ h=>by rw [List.append_nil] at h;exact h)
     show some (AV.sc (.int .i64 ((run2.length:Int) - ((run.length:Int) - 1 - last))))=some (aF ((run2.length - (run.length - 1 - last):Nat):Int))
     rw [show (run2.length:Int) - ((run.length:Int) - 1 - last)=((run2.length - (run.length - 1 - last):Nat):Int) by omega]
 ·have hi:run.length≤i:=by have:=Ix h;omega
  have hrun:run=uE E.ms E.ls e.l forms run0.length 0 run0:=by
   rw [←hv]
   cases k with
   | zero=>rw [uE]
   | succ k=>rw [uE,if_neg (by omega)]
  repeat' (first|refine If ?_|fail)
  exact cA rfl ⟨q,by rw [←hrun];exact hq,by rw [←hrun];rfl⟩
set_option maxHeartbeats 8000000 in
theorem Ad (e:oE) (he:e∈E.lks) (h1:1≤e.l.Kind) (h6:e.l.Kind≤6) (forms:List Int) (q0:Option fW) (run0:List aK) (hq0:dI q0 run0) (hr0:run0.length≤1000000):
  AC Tryz.prog 38 [fT wb,.iptr (fv e),.imm 1 (aT forms)] (iT wb E q0 run0) (gr wb E (iH E.ms E.ls e.l forms run0.length run0)):=by
 refine aN Tryz.func38 rfl Tryz.ntmps38 rfl fun B=>?_
 have hau:=hE.auto e he h1 h6
 repeat' (first|refine If ?_|refine IF a5 FN ?_|(apply bw;first|refine II a5 0 IC ?_|refine II a5 1 IC ?_|refine II a5 2 IC ?_|refine II a5 3 IC ?_|refine IJ a5 0 IC ?_|refine IJ a5 1 IC ?_|refine IJ a5 2 IC ?_|refine IK a5 1 IA (by assumption) rfl ?_|refine IK a5 0 IA (by assumption) rfl ?_|fail)|fail)
 refine lM a5 rfl hq0 rfl rfl ?_
 repeat' (first|refine ak ?_|refine If ?_|refine IF a5 FN ?_|(apply aV;refine aU ?_)|fail)
 refine aO [0,1,2] (α:=Nat×Option fW×List aK) (fun s=>[(6,aF ((s.1:Int) - 1))]) (fun s=>dI s.2.1 s.2.2∧s.2.2.length≤1000000∧s.1≤1000000∧iH E.ms E.ls e.l forms s.1 s.2.2=iH E.ms E.ls e.l forms run0.length run0) (fun s=>iT wb E s.2.1 s.2.2) (fun s=>s.1) (run0.length,q0,run0) rfl ⟨rfl,trivial⟩ ⟨hq0,hr0,hr0,rfl⟩ (fun _ _ h=>h) ?_
 rintro ⟨n,q,run⟩ ⟨hq,hr,hn1,hv⟩
 dsimp only at hq hr hn1 hv ⊢
 try dsimp only [Is,Ir,Iq,Ik]
 repeat' (first|refine If ?_|refine IF a5 FN ?_)
 refine aq rfl (fun h=>?_) (fun h=>?_)
 ·have hn0:0 < n:=by have:=Iy h;omega
  obtain ⟨i,rfl⟩:∃j,n=j+1:=⟨n - 1,by omega⟩
  rw [iH] at hv
  have hi0:((i+1:Nat):Int) - 1=(i:Int):=by omega
  have hma:=pN E e hau wb q run hq hr i (by omega) forms
  clear h
  rw [hi0]
  repeat' (first|refine If ?_|refine ak ?_|refine IF a5 FN ?_)
  refine b9 (iT wb E q run) [] hma rfl rfl (by rw [List.append_nil];exact Io _) rfl fun c L1 ⟨hc,hL⟩=>?_
  subst hc;subst hL
  unfold kK
  cases hmv:eK E.ms e.l run i forms with
  | none=>
   rw [hmv] at hv
   dsimp only at hv ⊢
   repeat' (first|refine If ?_|refine IF a5 FN ?_)
   refine sx Tryz.underlying190 rfl rfl rfl rfl ?_
   repeat' (first|refine If ?_|refine IF a5 FN ?_|(apply aV;refine aU ?_)|refine bI rfl ?_)
   exact aD (i,q,run) rfl ⟨rfl,trivial⟩ ⟨hq,hr,by dsimp only;omega,hv⟩ (by dsimp only;omega) (fun _ _ h=>by rw [List.append_nil] at h;exact h)
  | some r=>
   rw [hmv] at hv
   dsimp only at hv ⊢
   obtain ⟨hps,hrm,hin,_,hhd⟩:=FE hmv
   have hro:=hE.rule e he r hrm hin
   have hdo:=Ab hE wb 4 0 rfl e r (di E.ms e.l run i r) q run he h1 h6 hro hps hq hr
   have hr2:=(kY (ms:=E.ms) (ls:=E.ls) 4 e.l r (di E.ms e.l run i r) run).big hr
   repeat' (first|refine If ?_|refine IF a5 FN ?_)
   refine sx Tryz.underlying190 rfl rfl rfl rfl ?_
   repeat' (first|refine If ?_|refine IF a5 FN ?_|refine bQ rfl ?_)
   refine b9 (iT wb E q run) [] hdo rfl rfl (by rw [List.append_nil]) rfl fun c L1 ⟨q',g1,g2⟩=>?_
   subst g2
   repeat' (first|refine If ?_|refine IF a5 FN ?_|(apply aV;refine aU ?_)|fail)
   exact aD (i,q',_) rfl ⟨rfl,trivial⟩ ⟨g1,hr2,by dsimp only;omega,hv⟩ (by dsimp only;omega) (fun _ _ h=>by rw [List.append_nil] at h;exact h)
 ·have hn0:n=0:=by have:=Ix h;omega
  subst hn0
  have hrun:run=iH E.ms E.ls e.l forms run0.length run0:=by rw [←hv,iH]
  repeat' (first|refine If ?_|fail)
  exact cA rfl ⟨q,by rw [←hrun];exact hq,by rw [←hrun];rfl⟩
end
end Go.Proofs.YtpmdfoaadejmkaaGreatDoor
