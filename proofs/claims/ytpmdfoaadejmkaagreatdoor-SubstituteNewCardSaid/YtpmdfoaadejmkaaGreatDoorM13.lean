/-
  An engine's run: its memory; which items are seen.
-/
import Derived.Test.YtpmdfoaadejmkaaGreatDoorM12
import Derived.Laws.Shifts
import Derived.Laws.Pointers
import Derived.Laws.BitsAllLaws
import Derived.Test.YtpmdfoaadejmkaaGreatDoorRows
import Derived.ProofKit
import Derived.OpenShut
import Derived.ChangeOld
import Derived.SizedLaws
import Derived.Deep.DeepHandedRow
import Derived.Lib.LaidTab
namespace Go.Proofs.YtpmdfoaadejmkaaGreatDoor
open Go.RowKit
section
attribute [local irreducible] AT bP AX AO Av Kt bb dh DA cG
abbrev gT (b:Nat):AV:= .sc (.pointer (some ⟨b,0,none⟩))
abbrev Mq:AV:= .sc (.pointer none)
structure gV where
 rb:Nat
 cap:Nat
 junk:List AV
def ct (run:List bc):List AV:=(run.map cP).flatten
def fE (q:Option gV) (run:List bc):AV:=match q with
 | none=> .imm 6 []
 | some m=> .sc (.slice (some ⟨m.rb,0,none⟩) run.length m.cap)
def pR (q:Option gV) (run:List bc):AL:=match q with
 | none=>[]
 | some m=>[(m.rb,.box (ct run++m.junk) 67)]
structure eG (q:Option gV) (run:List bc):Prop where
 emp:q=none→run=[]
 fit:∀m,q=some m→run.length≤m.cap∧m.cap≤maxLen∧m.cap * 6≤(ct run++m.junk).length
abbrev xI (wb:Nat) (eng:AV) (q:Option gV) (run:List bc):AL:=(wb,.box [eng,fE q run] 102)::pR q run
theorem dT (run:List bc):(ct run).length=run.length * 6:=by
 induction run with
 | nil=>rfl
 | cons x r ih=>simp [ct] at ih ⊢;simp [cP,ih];omega
theorem nD (x:bc) (r:List bc):ct (x::r)=cP x++ct r:=by simp [ct]
theorem jo (a b:List bc):ct (a++b)=ct a++ct b:=by simp [ct]
theorem tF:∀{run:List bc} {i j:Nat} {x:bc} {u:AV} (junk:List AV),run[i]?=some x→(cP x)[j]?=some u→(ct run++junk)[i * 6+j]?=some u
 | [],i,_,_,_,_,h,_=>by simp at h
 | y::r,0,j,x,u,junk,h,hj=>by
  simp at h
  subst h
  rw [nD,List.append_assoc,Nat.zero_mul,Nat.zero_add,List.getElem?_append_left (Np hj).1]
  exact hj
 | y::r,i+1,j,x,u,junk,h,hj=>by
  rw [nD,List.append_assoc,List.getElem?_append_right (by simp [cP];omega)]
  have:=tF (i:=i) junk (by simpa using h) hj
  rw [show (i+1) * 6+j - (cP y).length=i * 6+j by simp [cP];omega]
  exact this
structure qU where
 l:aY
 cls:List Int
 fore:List (List Int)
 back:List (List Int)
 foreE:List Nat
 backE:List Nat
abbrev kl (z:Nat):AV:= .sc (.int .u64 (z:Int))
def ie (l:List Nat):List (List AV):=l.map fun z=>[kl z]
def fF (r:bk):bk:={ r with Back:=[],Ahead:=[] }
def kc (l:aY):aY:={ l with Rules:=l.Rules.map fF }
def L4 (e:qU):List AV:=[.imm 1 (aW e.cls),.imm 1 (b6 e.fore),.imm 1 (b6 e.back),.imm 1 (ie e.foreE),.imm 1 (ie e.backE)]
def gk (e:qU):List AV:=[aK e.l.Kind,dy e.l.Ignore,.imm 6 ((kc e.l).Rules.map bI),.imm 1 (aW e.cls),.imm 1 (b6 e.fore),.imm 1 (b6 e.back),.imm 1 (ie e.foreE),.imm 1 (ie e.backE),aK (gP e.l.Rules),aK (jv e.l.Rules)]
def pu (l:List Bool):List (List AV):=l.map fun b=>[dy b]
theorem wc (l:List Bool):(pu l).length=l.length:=by simp [pu]
theorem Ei {l:List Bool} {i:Nat} {b:Bool} (h:l[i]?=some b):(pu l)[i]?=some [dy b]:=by simp [pu,h]
structure qV where
 lks:List qU
 ms:List Bool
def eZ (E:qV):List AV:=[.imm 10 (E.lks.map gk),.imm 1 (pu E.ms)]
theorem eG.lt {q:Option gV} {run:List bc} (h:eG q run) {i:Nat} (hi:i < run.length):∃m,q=some m:=by
 cases q with
 | none=>rw [h.emp rfl] at hi;simp at hi
 | some m=>exact ⟨m,rfl⟩
section
variable {P:Program} {tt:TT} {r:Option Nat} {ops:Array Oper} {Q:Exit→Act→World→Prop} {nt:Nat} {D:List Deferred} {fr:cf} {B:Bs} {L:AL} {rest:List Oper} {d:Nat} {ty t t':TypeId} {pos:String} {af:Array Edge} {g:Option (Nat×Bool)} {x y z:Operand} {q:Option gV} {run:List bc}
theorem Jt {dd:Option Tmp} {e sz by_:Nat} (hc:lw P t e sz by_) (hq:eG q run) (hx:bE fr x=some (fE q run)):Av P ⟨dd,.call ⟨.builtin .len,#[x],#[t]⟩,ty,pos,af,g⟩ fr (.sc (.int .i64 run.length)):=by
 cases q with
 | none=>
  rw [hq.emp rfl] at hx ⊢
  exact xP hc hx rfl
 | some m=>exact DS hc hx
theorem nK (ok:eF P tt) {e sz by_:Nat} (ht:jP tt t=some (e,sz,by_)) (hq:eG q run) (hx:bE fr x=some (fE q run)) (hd:Nat.ble nt d=false) (h:bP P r ops Q nt D rest ((d,.sc (.int .i64 run.length))::fr) B L):bP P r ops Q nt D (⟨some d,.call ⟨.builtin .len,#[x],#[t]⟩,ty,pos,af,none⟩::rest) fr B L:=cr (Jt (bB ok ht).1 hq hx) hd rfl h
end
theorem qu {run:List bc} {i j:Nat} {x:bc} {u:AV} (junk:List AV) (h:run[i]?=some x) (hj:(cP x)[j]?=some u):(ct run++junk)[0+((i:Nat):Int).toNat * 6+j]?=some u:=by
 rw [Int.toNat_natCast,Nat.zero_add]
 exact tF junk h hj
set_option maxHeartbeats 1000000 in
theorem vq (E:qV) (e:qU) (wb:Nat) (m:gV) (run:List bc) (i:Nat) (x:bc) (hx:run[i]?=some x):AC Tryz.prog 186 [gT wb,.iptr (gk e),aK i] (xI wb (.iptr (eZ E)) (some m) run) fun c L=>c=dy (qK E.ms e.l.Ignore x)∧L=xI wb (.iptr (eZ E)) (some m) run:=by
 refine aV Tryz.func186 rfl Tryz.ntmps186 rfl fun B=>?_
 have hil:=(Np hx).1
 have h0:=qu (j:=0) m.junk hx rfl
 have hbl:=wc E.ms
 refine W01 ?_
 refine bv 16 [(0,.v),(1,.v),(2,.v),(3,.l),(4,.v),(5,.v),(6,.v),(7,.l),(8,.v),(9,.v),(10,.v),(11,.l),(12,.v),(13,.v),(14,.v),(15,.v)] none ?_ trivial rfl (by kernel_rfl) (by kernel_rfl) (by kernel_rfl) bQ (by kernel_rfl) rfl
 refine W0m ?_
 refine du a5 rfl rfl rfl ⟨by omega,by omega⟩ trivial ?_
 refine W09 ?_
 refine ce a5 1 rfl rfl rfl h0 trivial ?_
 refine W0m ?_
 refine NP [1,7,23] IG ?_
 have hs:qK E.ms e.l.Ignore x=(!e.l.Ignore || (decide (x.Glyph < 0) || (decide (x.Glyph≥E.ms.length) || !(E.ms.getD x.Glyph.toNat false)))):=by
  unfold qK IZ
  by_cases h1:0≤x.Glyph
  ·by_cases h2:x.Glyph≥E.ms.length
   ·rw [List.getD_eq_getElem?_getD,List.getElem?_eq_none (by omega)];simp [h1,h2]
   ·rw [decide_eq_false h2,decide_eq_false (by omega:¬x.Glyph < 0),decide_eq_true h1];cases e.l.Ignore <;> simp
  ·simp [h1,show x.Glyph < 0 by omega]
 rw [hs]
 repeat' (first|refine Ng ?_|refine NG a5 IG ?_|refine NN IG ?_|refine NO NB ?_|refine NR NA (fun _=>?_) (fun _=>?_))
 ·rename_i h1 h2 h3
  have h4:¬((pu E.ms).length:Int)≤x.Glyph:=Nx h3
  have h5:=Nx h2
  obtain ⟨b,hb⟩:∃b,E.ms[x.Glyph.toNat]?=some b:=⟨_,Nz (by omega)⟩
  have hbg:=Ei hb
  refine W1w ?_
  refine NM IG ⟨?_,rfl⟩
  rw [h1,h2,decide_eq_false (by omega:¬x.Glyph≥E.ms.length),List.getD_eq_getElem?_getD,hb]
  rfl
 ·rename_i h1 h2 h3
  refine NM IG ⟨?_,rfl⟩
  rw [hbl] at h3
  rw [h1,h2,show decide (x.Glyph≥E.ms.length)=true from h3]
  rfl
 ·rename_i h1 h2
  refine NM IG ⟨?_,rfl⟩
  rw [h1,h2]
  rfl
 ·rename_i h1
  refine NM IG ⟨?_,rfl⟩
  rw [h1]
  rfl
section
variable {ms:List Bool} {ig:Bool} {run:List bc}
theorem tK {i:Nat} (h:run.length≤i):fk ms ig run i=[]:=by
 unfold fk
 rw [show run.length - i=0 by omega]
 rfl
theorem nG {i:Nat} (h:i < run.length):fk ms ig run i=if lm ms ig run i=true then i::fk ms ig run (i+1) else fk ms ig run (i+1):=by
 unfold fk
 rw [show run.length - i=(run.length - (i+1))+1 by omega,List.range'_succ,List.filter_cons]
theorem pT {i:Nat} {x:bc} (h:run[i]?=some x):lm ms ig run i=qK ms ig x:=by
 unfold lm
 rw [h]
theorem yF {i:Nat} {x:bc} (h:run[i]?=some x):hH run i=x.Glyph:=by
 unfold hH
 rw [h]
theorem F1 {i:Nat}:∀p∈fk ms ig run i,i≤p∧p < run.length∧lm ms ig run p=true:=fun p hp=>by
 unfold fk at hp
 obtain ⟨h1,h2⟩:=List.mem_filter.1 hp
 obtain ⟨h3,h4⟩:=List.mem_range'_1.1 h1
 exact ⟨h3,by omega,h2⟩
end
def dZ (l:List Nat):List (List AV):=aW (l.map Int.ofNat)
theorem mR (l:List Nat):(dZ l).length=l.length:=by simp [dZ,aW]
theorem CF (l:List Nat) (i:Nat):dZ l++[[aK i]]=dZ (l++[i]):=by simp [dZ,aW]
def qP (run:List bc) (l:List Nat):List (List AV):=aW (l.map (hH run))
theorem F8 (run:List bc) (l:List Nat):(qP run l).length=l.length:=by simp [qP,aW]
theorem F7 {run:List bc} (l:List Nat) {i:Nat} {x:bc} (h:run[i]?=some x):qP run l++[[aK x.Glyph]]=qP run (l++[i]):=by simp [qP,aW,yF h]
def jO (ms:List Bool) (ig:Bool) (run:List bc) (up:Bool) (a:Int):List Nat:=if up=true then fk ms ig run a.toNat else o9 ms ig run (a+1).toNat
def pb (up:Bool):Int:=if up=true then 1 else -1
def nv (run:List bc) (up:Bool) (a:Int):Prop:= -1≤a∧(up=true→0≤a)∧(up=false→a < run.length)
theorem D7 {ms:List Bool} {ig:Bool} {run:List bc} {up:Bool} {a:Int} (h:nv run up a) (ho:¬(0≤a∧a < run.length)):jO ms ig run up a=[]:=by
 obtain ⟨h1,h2,h3⟩:=h
 unfold jO
 cases up with
 | true=>exact tK (by have:=h2 rfl;omega)
 | false=>
  have:=h3 rfl
  rw [show (a+1).toNat=0 by omega]
  rfl
theorem Gh {ms:List Bool} {ig:Bool} {run:List bc} {up:Bool} {a:Int} (h0:0≤a) (h1:a < run.length):jO ms ig run up a=if lm ms ig run a.toNat=true then a.toNat::jO ms ig run up (a+pb up) else jO ms ig run up (a+pb up):=by
 unfold jO pb
 cases up with
 | true=>
  rw [if_pos rfl,if_pos rfl,if_pos rfl,nG (by omega),show (a+1).toNat=a.toNat+1 by omega]
 | false=>
  simp only [Bool.false_eq_true,if_false]
  rw [show (a+1).toNat=a.toNat+1 by omega,o9,show (a+ -1+1).toNat=a.toNat by omega]
theorem nv.next {run:List bc} {up:Bool} {a:Int} (h0:0≤a) (h1:a < run.length):nv run up (a+pb up):=by
 unfold nv pb
 cases up <;> simp <;> omega
def qy (run:List bc) (up:Bool) (a:Int):Nat:=if up=true then (run.length - a).toNat else (a+1).toNat
theorem yQ {run:List bc} {up:Bool} {a:Int} (h0:0≤a) (h1:a < run.length):qy run up (a+pb up) < qy run up a:=by
 unfold qy pb
 cases up <;> simp <;> omega
set_option maxHeartbeats 4000000 in
theorem B5 (E:qV) (e:qU) (wb:Nat) (q:Option gV) (run:List bc) (hq:eG q run) (hr:run.length≤1000000) (up:Bool) (a:Int) (ha:nv run up a) (ha2:a≤1000000) (most:Nat):AC Tryz.prog 188 [gT wb,.iptr (gk e),aK a,aK (pb up),aK most] (xI wb (.iptr (eZ E)) q run) fun c L=>c= .tup [.imm 1 (dZ ((jO E.ms e.l.Ignore run up a).take most)),.imm 1 (qP run ((jO E.ms e.l.Ignore run up a).take most))]∧L=xI wb (.iptr (eZ E)) q run:=by
 refine aV Tryz.func188 rfl Tryz.ntmps188 rfl fun B=>?_
 refine W03 ?_
 refine bU (bH (t:=10) (c':= .vec none 1 []) rfl fun σ v h=>cW 1 h) ?_
 refine bU (bH (t:=11) (c':= .vec none 1 []) rfl fun σ v h=>cW 1 h) ?_
 refine aM [0,1,3,4] (α:=Int×List Nat×Option (Nat×Nat)×Option (Nat×Nat)) (fun x=>[(12,aK x.1),(10,.vec x.2.2.1 1 (dZ x.2.1)),(11,.vec x.2.2.2 1 (qP run x.2.1))]) (fun x=>nv run up x.1∧x.1≤1000000∧jO E.ms e.l.Ignore run up a=x.2.1++jO E.ms e.l.Ignore run up x.1∧x.2.1.length≤most∧x.2.1.length+qy run up x.1≤qy run up a) (fun x=>xI wb (.iptr (eZ E)) q run++(tok x.2.2.1 3 1 (dZ x.2.1).length++tok x.2.2.2 3 1 (qP run x.2.1).length)) (fun x=>qy run up x.1) (a,[],none,none) rfl ⟨rfl,rfl,rfl,trivial⟩ ⟨ha,ha2,by simp,Nat.zero_le _,by simp⟩ (fun _ _ h=>by simpa [tok] using h) ?_
 have hlN:qy run up a≤1000001:=by
  have:=ha.1
  unfold qy
  have:=ha.2.1
  cases up <;> simp at this ⊢ <;> omega
 rintro ⟨k,ps,q1,q2⟩ ⟨hk,hk2,hps,hpl,hpk⟩
 dsimp only at hk hk2 hps hpl hpk ⊢
 have hnl:=mR ps
 have hgl:=F8 run ps
 try dsimp only [Ns,Nr,Nq,Nk]
 refine W01 ?_
 refine cu [0,1,3,4,10,11,12] ((0≤k∧k < run.length)∧ps.length < most) rfl (fun Q' K=>?_) (fun hC=>?_) (fun hC=>?_)
 ·repeat' (first|refine Ng ?_|refine NG a5 IG ?_|refine NN IG ?_|refine NO NB ?_|(apply bz;first|refine NJ a5 0 NC ?_|refine NJ a5 1 NC ?_|refine NJ a5 2 NC ?_|refine NJ a5 3 NC ?_|refine NK a5 0 NC ?_|refine NK a5 1 NC ?_|refine NK a5 2 NC ?_|refine NL a5 1 NA (by assumption) rfl ?_|refine NL a5 0 NA (by assumption) rfl ?_|fail)|refine NR NA (fun _=>?_) (fun _=>?_))
  ·refine nK a5 rfl hq rfl rfl ?_
   repeat' (first|refine Ng ?_|refine NG a5 IG ?_|refine NN IG ?_|refine NO NB ?_|refine NR NA (fun _=>?_) (fun _=>?_))
   all_goals exact K _ _ rfl rfl (by simp_all <;> omega)
  ·exact K _ _ rfl rfl (by simp_all <;> omega)
 ·obtain ⟨⟨h0,h1⟩,h2⟩:=hC
  obtain ⟨m,rfl⟩:=hq.lt (i:=k.toNat) (by omega)
  obtain ⟨x,hx⟩:∃x,run[k.toNat]?=some x:=⟨_,Nz (by omega)⟩
  have hk0:((k.toNat:Nat):Int)=k:=Int.toNat_of_nonneg h0
  have hse:=vq E e wb m run k.toNat x hx
  rw [hk0] at hse
  have hst:=Gh (ms:=E.ms) (ig:=e.l.Ignore) (up:=up) h0 h1
  rw [pT hx] at hst
  have hnx:=nv.next (up:=up) h0 h1
  have hln:=yQ (up:=up) h0 h1
  have hk3:k+pb up≤1000000:=by have:=hnx.1;unfold pb;split <;> omega
  have hk4: -9223372036854775808≤k+pb up∧k+pb up≤9223372036854775807:=by have:=hnx.1;omega
  refine W03 ?_
  refine b7 (xI wb (.iptr (eZ E)) (some m) run) _ hse rfl rfl (Nn _) rfl fun c L1 ⟨hc,hL⟩=>?_
  subst hc;subst hL
  repeat' (first|refine Ng ?_|fail)
  refine aj rfl (fun hb=>?_) (fun hb=>?_)
  ·rw [hb,if_pos rfl] at hst
   refine W0g ?_
   refine NS a5 (xI wb (.iptr (eZ E)) (some m) run++tok q2 3 1 (qP run ps).length) NB ?_ (by rw [hnl];simp;omega) (by rw [hnl];simp;omega) rfl fun q1'=>?_
   ·exact (List.perm_append_comm_assoc ..)
   refine aL (aQ (L':=xI wb (.iptr (eZ E)) (some m) run++(tok q1' 3 1 (dZ ps++[[aK k]]).length++tok q2 3 1 (qP run ps).length)) (List.perm_append_comm_assoc ..)) ?_
   have hg0:=qu (j:=0) m.junk hx rfl
   rw [hk0] at hg0
   repeat' (first|refine Ng ?_|refine NG a5 IG ?_|(apply bz;first|refine NJ a5 0 NC ?_|refine NJ a5 1 NC ?_|refine NJ a5 2 NC ?_|refine NJ a5 3 NC ?_|refine NK a5 0 NC ?_|refine NK a5 1 NC ?_|refine NK a5 2 NC ?_|refine NL a5 1 NA (by assumption) rfl ?_|refine NL a5 0 NA (by assumption) rfl ?_|fail)|(apply aO;first|refine aN a5 ?_|refine aF a5 ?_)|refine bM a5 ?_|fail)
   refine NS a5 (xI wb (.iptr (eZ E)) (some m) run++tok q1' 3 1 (dZ ps++[[aK k]]).length) NB ?_ (by rw [hgl];simp;omega) (by rw [hgl];simp;omega) rfl fun q2'=>?_
   ·rw [←List.append_assoc]
    exact List.perm_append_comm
   refine aL (aQ (L':=xI wb (.iptr (eZ E)) (some m) run++(tok q1' 3 1 (dZ ps++[[aK k]]).length++tok q2' 3 1 (qP run ps++[[aK x.Glyph]]).length)) (List.perm_append_comm.trans (by rw [List.append_assoc]))) ?_
   refine W02 ?_
   have e1:dZ ps++[[aK k]]=dZ (ps++[k.toNat]):=by rw [←CF,hk0]
   have e2:=F7 ps hx
   exact aC (k+pb up,ps++[k.toNat],q1',q2') rfl ⟨rfl,by rw [←e1];rfl,by rw [←e2];rfl,trivial⟩ ⟨hnx,hk3,by rw [hps,hst];simp,by rw [List.length_append,List.length_singleton];omega,by rw [List.length_append,List.length_singleton];dsimp only;omega⟩ hln (fun _ _ h=>by dsimp only;rw [←e1,←e2];exact h)
  ·rw [hb,if_neg (by decide)] at hst
   refine W02 ?_
   exact aC (k+pb up,ps,q1,q2) rfl ⟨rfl,rfl,rfl,trivial⟩ ⟨hnx,hk3,by rw [hps,hst],hpl,by dsimp only;omega⟩ hln (fun _ _ h=>h)
 ·have hres:(jO E.ms e.l.Ignore run up a).take most=ps:=by
   by_cases h1:ps.length < most
   ·rw [hps,D7 hk (fun h=>hC ⟨h,h1⟩),List.append_nil,List.take_of_length_le (by omega)]
   ·rw [hps,List.take_append_of_le_length (by omega),List.take_of_length_le (by omega)]
  rw [hres]
  refine W01 ?_
  refine ea (L':=xI wb (.iptr (eZ E)) q run) (List.sublist_append_left ..) ?_
  refine bf (bH (t:=10) (c':= .imm 1 (dZ ps)) rfl fun σ v h=>VR.im h) ?_
  refine bf (bH (t:=11) (c':= .imm 1 (qP run ps)) rfl fun σ v h=>VR.im h) ?_
  exact NT NA ⟨rfl,rfl⟩
end
section
variable {P:Program} {tt:TT} {r:Option Nat} {ops:Array Oper} {Q:Exit→Act→World→Prop} {nt:Nat} {D:List Deferred} {fr:cf} {B:Bs} {L:AL} {rest:List Oper} {d:Nat} {ty t t':TypeId} {pos:String} {af:Array Edge} {g:Option (Nat×Bool)} {x y z:Operand} {u:AV}
theorem JC {dd:Option Tmp} {k kk:IntKind} {a b:Int} (i:Nat) (hx:bE fr x=some (.sc (.int k a))) (hy:bE fr y=some (.sc (.int kk b))) (hb:b=(i:Int)):Av P ⟨dd,.binOp .shr t x y t',ty,pos,af,g⟩ fr (.sc (.int k (a / 2 ^ min i k.bits))):=by
 intro σ ρ w hρ _
 subst hb
 refine ⟨_,?_,.sc _⟩
 have h:=shift_shr_any k kk a (i:Int) (Int.natCast_nonneg i)
 simp [execOp,(hρ x _ hx).sc_inv,(hρ y _ hy).sc_inv,eqGuard,binOp,h]
theorem Ji {dd:Option Tmp} {k:IntKind} {a b:Int} (hx:bE fr x=some (.sc (.int k a))) (hy:bE fr y=some (.sc (.int k b))):Av P ⟨dd,.binOp .and t x y t',ty,pos,af,g⟩ fr (.sc (.int k (bits .and k a b))):=by
 intro σ ρ w hρ _
 refine ⟨_,?_,.sc _⟩
 simp [execOp,(hρ x _ hx).sc_inv,(hρ y _ hy).sc_inv,eqGuard,binOp,intBits_and]
theorem zW {dd:Option Tmp} {k:IntKind} {a b:Int} (hx:bE fr x=some (.sc (.int k a))) (hy:bE fr y=some (.sc (.int k b))):Av P ⟨dd,.binOp .or t x y t',ty,pos,af,g⟩ fr (.sc (.int k (bits .or k a b))):=by
 intro σ ρ w hρ _
 refine ⟨_,?_,.sc _⟩
 simp [execOp,(hρ x _ hx).sc_inv,(hρ y _ hy).sc_inv,eqGuard,binOp,intBits_or]
theorem z5 (i:Nat) {k kk:IntKind} {a b:Int} (hx:bE fr x=some (.sc (.int k a))) (hy:bE fr y=some (.sc (.int kk b))) (hb:b=(i:Int)) (hd:Nat.ble nt d=false) (h:bP P r ops Q nt D rest ((d,.sc (.int k (a / 2 ^ min i k.bits)))::fr) B L):
  bP P r ops Q nt D (⟨some d,.binOp .shr t x y t',ty,pos,af,none⟩::rest) fr B L:=cr (JC i hx hy hb) hd rfl h
theorem v3 {k:IntKind} {a b:Int} (hx:bE fr x=some (.sc (.int k a))) (hy:bE fr y=some (.sc (.int k b))) (hd:Nat.ble nt d=false) (h:bP P r ops Q nt D rest ((d,.sc (.int k (bits .and k a b)))::fr) B L):
  bP P r ops Q nt D (⟨some d,.binOp .and t x y t',ty,pos,af,none⟩::rest) fr B L:=cr (Ji hx hy) hd rfl h
theorem v4 {k:IntKind} {a b:Int} (hx:bE fr x=some (.sc (.int k a))) (hy:bE fr y=some (.sc (.int k b))) (hd:Nat.ble nt d=false) (h:bP P r ops Q nt D rest ((d,.sc (.int k (bits .or k a b)))::fr) B L):
  bP P r ops Q nt D (⟨some d,.binOp .or t x y t',ty,pos,af,none⟩::rest) fr B L:=cr (zW hx hy) hd rfl h
end
def CS:AV→Option Bool
 | .iptr _=>some false
 | .sc (.pointer none)=>some true
 | .sc (.pointer (some _))=>some false
 | _=>none
theorem u2 {u:AV} {b:Bool} (h:CS u=some b) {σ:cF} {v:Value} (hv:VR σ u v):∃p,v= .pointer p∧p.isNone=b:=by
 unfold CS at h
 split at h
 ·cases h
  obtain ⟨b',off,h1,_⟩:=hv.iptr_inv
  exact ⟨_,h1,rfl⟩
 ·cases h
  exact ⟨none,hv.sc_inv,rfl⟩
 ·cases h
  exact ⟨_,hv.sc_inv,rfl⟩
 ·cases h
section
variable {P:Program} {fr:cf} {B:Bs} {L:AL} {d:Option Tmp} {ty t t':TypeId} {pos:String} {af:Array Edge} {g:Option (Nat×Bool)} {x y z q:Operand} {u:AV}
theorem sx {e:TypeId} (h:P.underlying t=some (.pointer e)):P.underlying t=some (.pointer (P.pointee t)):=by
 rw [show P.pointee t=e by simp [Program.pointee,h]];exact h
theorem Jq {e:TypeId} {b:Bool} (ht:P.underlying t=some (.pointer e)) (hx:bE fr x=some u) (hu:CS u=some b) (hy:bE fr y=some (.sc (.pointer none))):Av P ⟨d,.binOp .eql t x y t',ty,pos,af,g⟩ fr (.sc (.bool b)):=fun σ ρ w hρ _=>by
 obtain ⟨p,hp,hb⟩:=u2 hu (hρ x u hx)
 refine ⟨_,?_,.sc _⟩
 subst hb
 simp [execOp,hp,(hρ y _ hy).sc_inv,eqGuard,run_eql_pointer_nil w t p (sx ht)]
theorem Jx {e:TypeId} {b:Bool} (ht:P.underlying t=some (.pointer e)) (hx:bE fr x=some u) (hu:CS u=some b) (hy:bE fr y=some (.sc (.pointer none))):Av P ⟨d,.binOp .neq t x y t',ty,pos,af,g⟩ fr (.sc (.bool (!b))):=fun σ ρ w hρ _=>by
 obtain ⟨p,hp,hb⟩:=u2 hu (hρ x u hx)
 refine ⟨_,?_,.sc _⟩
 subst hb
 simp [execOp,hp,(hρ y _ hy).sc_inv,eqGuard,run_neq_pointer_nil w t p (sx ht)]
theorem Jh {n e sz k b off:Nat} {qq:IntKind} {a:Int} (ht:P.underlying t=some (.array n e)) (hs:(P.info? e).map (·.size)=some sz) (hx:bE fr x=some (.sc (.pointer (some ⟨b,off,none⟩)))) (hy:bE fr y=some (.sc (.int qq a))) (ha:a=(k:Int)) (hk:k < n):Av P ⟨d,.indexAddr t x y,ty,pos,af,g⟩ fr (.sc (.pointer (some ⟨b,off+k * sz,none⟩))):=
 fun σ ρ w hρ _=>by
  subst ha
  have hyv:=(hρ y _ hy).sc_inv
  have hv:=(hρ x _ hx).sc_inv
  have hk':(k:Int) < (n:Int):=by omega
  have hso:(sizeOf e:Sem Nat).run P w= .ok sz w:=by
   cases hi:P.info? e with
   | none=>rw [hi] at hs;cases hs
   | some i=>rw [hi] at hs;simp at hs;simp [sizeOf,typeInfo,hi,hs]
  refine ⟨.pointer (some ⟨b,off+k * sz,none⟩),?_,.sc _⟩
  simp [execOp,hv,hyv,Instr.indexAt,asIntOf,run_underlying ht,hk',hso,Instr.sureAddr,Addr.add]
  by_cases hn:n≤1 <;> by_cases h0:k * sz=0 <;> simp [hn,run_underlying ht,hso,hk,h0]
theorem H4 {e sz by_:Nat} {parts:Array (Nat×Operand)} (hc:lw P t e sz by_) (hsz:0 < sz) (hp:parts=#[]):AO P ⟨d,.buildSlice t 0 parts,ty,pos,af,g⟩ fr B L (fun c L'=>∃b,c= .sc (.slice (some ⟨b,0,none⟩) 0 0)∧L'=(b,.box [] e)::L):=by
 intro σ ρ w hρ hw
 subst hp
 haveI:=hc
 have hr:=Gf (P:=P) (t:=t) (by simpa [Nat.blt_eq] using hsz) [] (by simp) (by simp [Nat.ble_eq]) w
 simp at hr
 unfold j7
 rw [show (execOp ρ ⟨d,.buildSlice t 0 #[],ty,pos,af,g⟩).run P w= .ok (.value (.slice (some ⟨w.heap.size,0,none⟩) 0 0)) (w.alloc (.cells #[] e)) by
  simp [execOp,hr]]
 exact ⟨σ,.sc _,_,cF.le_refl _,.sc _,hw.alloc _ (.box [] e) ⟨[],rfl,dI.nil,by simp⟩,_,rfl,rfl⟩
end
section
variable {P:Program} {tt:TT} {r:Option Nat} {ops:Array Oper} {Q:Exit→Act→World→Prop} {nt:Nat} {D:List Deferred} {fr:cf} {B:Bs} {L:AL} {rest:List Oper} {d:Nat} {ty t t':TypeId} {pos:String} {af:Array Edge} {x y z:Operand} {u:AV}
theorem v7 {e:TypeId} {b:Bool} (ht:P.underlying t=some (.pointer e)) (hx:bE fr x=some u) (hu:CS u=some b) (hy:bE fr y=some (.sc (.pointer none))) (hd:Nat.ble nt d=false) (h:bP P r ops Q nt D rest ((d,.sc (.bool b))::fr) B L):bP P r ops Q nt D (⟨some d,.binOp .eql t x y t',ty,pos,af,none⟩::rest) fr B L:=cr (Jq ht hx hu hy) hd rfl h
theorem nL {e:TypeId} {b:Bool} (ht:P.underlying t=some (.pointer e)) (hx:bE fr x=some u) (hu:CS u=some b) (hy:bE fr y=some (.sc (.pointer none))) (hd:Nat.ble nt d=false) (h:bP P r ops Q nt D rest ((d,.sc (.bool (!b)))::fr) B L):bP P r ops Q nt D (⟨some d,.binOp .neq t x y t',ty,pos,af,none⟩::rest) fr B L:=cr (Jx ht hx hu hy) hd rfl h
theorem yZ (ok:eF P tt) (k:Nat) {n e sz b off:Nat} {q:IntKind} {a:Int} (ht:Bz tt t=some (n,e,sz)) (hx:bE fr x=some (.sc (.pointer (some ⟨b,off,none⟩)))) (hy:bE fr y=some (.sc (.int q a))) (ha:a=(k:Int)) (hk:k < n) (hd:Nat.ble nt d=false) (h:bP P r ops Q nt D rest ((d,.sc (.pointer (some ⟨b,off+k * sz,none⟩)))::fr) B L):
  bP P r ops Q nt D (⟨some d,.indexAddr t x y,ty,pos,af,none⟩::rest) fr B L:=cr (Jh (jn ok ht).1 (jn ok ht).2 hx hy ha hk) hd rfl h
theorem z2 (ok:eF P tt) {e sz by_:Nat} (ht:jP tt t=some (e,sz,by_)) (hd:Nat.ble nt d=false) (h:∀b,bP P r ops Q nt D rest ((d,.sc (.slice (some ⟨b,0,none⟩) 0 0))::fr) B ((b,.box [] e)::L)):
  bP P r ops Q nt D (⟨some d,.buildSlice t 0 #[],ty,pos,af,none⟩::rest) fr B L:=cT hd rfl (H4 (bB ok ht).1 (bB ok ht).2 rfl) fun c L' ⟨b,h1,h2⟩=>by subst h1;subst h2;exact h b
theorem K0 {k:IntKind} {a b:Int} (hx:bE fr x=some (.sc (.int k a))) (hy:bE fr y=some (.sc (.int k b))) (hd:Nat.ble nt d=false) (h:bP P r ops Q nt D rest ((d,.sc (.int k (k.wrap (a+b))))::fr) B L):bP P r ops Q nt D (⟨some d,.binOp .add t x y t',ty,pos,af,none⟩::rest) fr B L:=cr (DN hx hy) hd rfl h
theorem K8 {k:IntKind} {a b:Int} (hx:bE fr x=some (.sc (.int k a))) (hy:bE fr y=some (.sc (.int k b))) (hd:Nat.ble nt d=false) (h:bP P r ops Q nt D rest ((d,.sc (.int k (k.wrap (a * b))))::fr) B L):bP P r ops Q nt D (⟨some d,.binOp .mul t x y t',ty,pos,af,none⟩::rest) fr B L:=cr (IN hx hy) hd rfl h
theorem K9 {k:IntKind} {a:Int} (hx:bE fr x=some (.sc (.int k a))) (hd:Nat.ble nt d=false) (h:bP P r ops Q nt D rest ((d,.sc (.int k (k.wrap (0 - a))))::fr) B L):bP P r ops Q nt D (⟨some d,.unOp .neg t x,ty,pos,af,none⟩::rest) fr B L:=cr (KV hx) hd rfl h
theorem v6 (ok:eF P tt) {a:Int} {q q':IntKind} {ti ti':TI} (hx:bE fr x=some (.sc (.int q a))) (ht:dC tt t=some ti) (hk:ti.k= .int q) (ht':dC tt t'=some ti') (hk':ti'.k= .int q') (hd:Nat.ble nt d=false) (h:bP P r ops Q nt D rest ((d,.sc (.int q' (q'.wrap a)))::fr) B L):
  bP P r ops Q nt D (⟨some d,.convert t t' x,ty,pos,af,none⟩::rest) fr B L:=by
 haveI:=ok.int ht hk
 haveI:=ok.int ht' hk'
 exact cr (pj hx) hd rfl h
end
section
attribute [local irreducible] AT bP AX AO Av Kt bb dh DA cG
abbrev KH (cls:List Int) (tab:List (List Int)) (ends:List Nat):AV:= .agg [.imm 1 (aW cls),.imm 1 (b6 tab),.imm 1 (ie ends)]
theorem pa (l:List Nat):(ie l).length=l.length:=by simp [ie]
theorem xF {l:List Nat} {i:Nat} {z:Nat} (h:l[i]?=some z):(ie l)[i]?=some [kl z]:=by simp [ie,h]
section
variable (cls:List Int) (tab:List (List Int)) (ends:List Nat)
theorem Eh (s:Int):bV Tryz.prog 301 [KH cls tab ends,aK s] (kl (jX ends s)):=by
 refine aV Tryz.func301 rfl Tryz.ntmps301 rfl fun B=>?_
 have hel:=pa ends
 refine W08 ?_
 refine cu [1,2] (s < 0∨(ends.length:Int)≤s) rfl (fun Q' K=>?_) (fun hC=>?_) (fun hC=>?_)
 ·repeat' (first|refine Ng ?_|refine NG a5 IG ?_|refine NN IG ?_|refine NO NB ?_|refine NR NA (fun _=>?_) (fun _=>?_))
  all_goals exact K _ _ rfl rfl (by simp_all <;> omega)
 ·refine W01 ?_
  refine NM IG ?_
  unfold jX
  rcases hC with h | h
  ·rw [if_pos h];rfl
  ·by_cases h0:s < 0
   ·rw [if_pos h0];rfl
   ·rw [if_neg h0,List.getD_eq_getElem?_getD,List.getElem?_eq_none (by omega)];rfl
 ·obtain ⟨z,hz⟩:∃z,ends[s.toNat]?=some z:=⟨_,Nz (by omega)⟩
  have hzg:=xF hz
  refine W0i ?_
  refine NM IG ?_
  unfold jX
  rw [if_neg (fun h=>hC (.inl h)),List.getD_eq_getElem?_getD,hz]
  rfl
instance (s:Int):AD Tryz.prog 301 [KH cls tab ends,aK s] (kl (jX ends s)):=⟨Eh cls tab ends s⟩
theorem FS (s g:Int):bV Tryz.prog 302 [KH cls tab ends,aK s,aK g] (aK (jb cls tab s g)):=by
 refine aV Tryz.func302 rfl Tryz.ntmps302 rfl fun B=>?_
 have hcl:=aJ cls
 have htl:=bO tab
 refine W08 ?_
 refine cu [1,2,3] ((s < 0∨(tab.length:Int)≤s)∨(g < 0∨(cls.length:Int)≤g)) rfl (fun Q' K=>?_) (fun hC=>?_) (fun hC=>?_)
 ·repeat' (first|refine Ng ?_|refine NG a5 IG ?_|refine NN IG ?_|refine NO NB ?_|refine NR NA (fun _=>?_) (fun _=>?_))
  all_goals exact K _ _ rfl rfl (by simp_all <;> omega)
 ·refine W01 ?_
  refine NM IG ?_
  unfold jb
  by_cases h0:s < 0∨g < 0
  ·rw [if_pos h0]
  ·rw [if_neg h0]
   split
   ·rename_i h1 h2
    have:=(Np h1).1
    have:=(Np h2).1
    omega
   ·rfl
 ·obtain ⟨eK,hrow⟩:∃z,tab[s.toNat]?=some z:=⟨_,Nz (by omega)⟩
  obtain ⟨c,hc⟩:∃z,cls[g.toNat]?=some z:=⟨_,Nz (by omega)⟩
  have hrg:=fv hrow
  have hcg:=bK hc
  have hrl:=aJ eK
  have hN:jb cls tab s g=if c < 0 then -1 else match eK[c.toNat]? with
   | some z=>if 0≤z∧z < tab.length then z else -1
   | none=> -1:=by
   unfold jb
   rw [if_neg (by omega),hrow,hc]
   rfl
  rw [hN]
  repeat' (first|refine Ng ?_|fail)
  refine bv 11 [(0,.v),(1,.v),(2,.v),(3,.v),(4,.v),(5,.v),(6,.v),(7,.v),(8,.v),(9,.v),(10,.v)] none ?_ trivial rfl (by kernel_rfl) (by kernel_rfl) (by kernel_rfl) bQ (by kernel_rfl) rfl
  refine W0b ?_
  refine NP [3,7,39] IG ?_
  refine W0k ?_
  refine cu [3,7,8] (c < 0∨(eK.length:Int)≤c) rfl (fun Q' K=>?_) (fun hC2=>?_) (fun hC2=>?_)
  ·repeat' (first|refine Ng ?_|refine NG a5 IG ?_|refine NN IG ?_|refine NO NB ?_|refine NR NA (fun _=>?_) (fun _=>?_))
   all_goals exact K _ _ rfl rfl (by simp_all <;> omega)
  ·refine W01 ?_
   refine NM IG ?_
   by_cases h0:c < 0
   ·rw [if_pos h0]
   ·rw [if_neg h0,List.getElem?_eq_none (by omega)]
  ·obtain ⟨z,hz⟩:∃z,eK[c.toNat]?=some z:=⟨_,Nz (by omega)⟩
   have hzg:=bK hz
   rw [if_neg (fun h=>hC2 (.inl h)),hz]
   dsimp only
   refine W0i ?_
   refine cu [9] (0≤z∧z < tab.length) rfl (fun Q' K=>?_) (fun hC3=>?_) (fun hC3=>?_)
   ·repeat' (first|refine Ng ?_|refine NG a5 IG ?_|refine NN IG ?_|refine NO NB ?_|refine NR NA (fun _=>?_) (fun _=>?_))
    all_goals exact K _ _ rfl rfl (by simp_all <;> omega)
   ·rw [if_pos hC3]
    refine W01 ?_
    exact NQ NA
   ·rw [if_neg hC3]
    refine W01 ?_
    exact NQ NA
instance (s g:Int):AD Tryz.prog 302 [KH cls tab ends,aK s,aK g] (aK (jb cls tab s g)):=⟨FS cls tab ends s g⟩
theorem lV {ends:List Nat} (h:∀z∈ends,z < 18446744073709551616) (s:Int):jX ends s < 18446744073709551616:=by
 unfold jX
 split
 ·decide
 ·rw [List.getD_eq_getElem?_getD]
  cases hz:ends[s.toNat]? with
  | none=>decide
  | some z=>exact h z (Nw hz)
theorem FX {a b:Nat} (ha:a < 18446744073709551616) (hb:b < 18446744073709551616):a ||| b < 18446744073709551616:=Nat.or_lt_two_pow (n:=64) ha hb
theorem xd {cls:List Int} {tab:List (List Int)} {ends:List Nat} (h:∀z∈ends,z < 18446744073709551616):∀(gl:List Int) (s:Int) (told:Nat),told < 18446744073709551616→nl cls tab ends s gl told < 18446744073709551616
 | [],_,_,ht=>ht
 | g::r,s,told,ht=>by
  rw [nl]
  split
  ·exact ht
  ·exact xd h r _ _ (FX ht (lV h _))
theorem xh (h:∀z∈ends,z < 18446744073709551616) (gl:List Int):gQ cls tab ends gl < 18446744073709551616:=xd h gl 0 _ (lV h _)
theorem xi (hE:∀z∈ends,z < 18446744073709551616) (gl:List Int):bV Tryz.prog 286 [KH cls tab ends,.imm 1 (aW gl)] (kl (gQ cls tab ends gl)):=by
 refine aV Tryz.func286 rfl Tryz.ntmps286 rfl fun B=>?_
 have hgl:=aJ gl
 refine cR 1 rfl rfl fun hlen=>?_
 repeat' (first|refine Ng ?_|refine ak ?_|refine NG a5 IG ?_|refine bq ?_|(apply bA;refine bw ?_)|fail)
 refine aM [2,12,13] (α:=Nat×Int×Nat) (fun x=>[(14,aK x.1),(5,aK x.2.1),(6,kl x.2.2)]) (fun x=>x.1≤gl.length∧x.2.2 < 18446744073709551616∧nl cls tab ends x.2.1 (gl.drop x.1) x.2.2=gQ cls tab ends gl) (fun _=>[]) (fun x=>gl.length - x.1) (0,0,jX ends 0) rfl ⟨rfl,rfl,rfl,trivial⟩ ⟨Nat.zero_le _,lV hE 0,rfl⟩ (fun _ _ h=>h) ?_
 rintro ⟨i,s,told⟩ ⟨hi,ht,hr⟩
 dsimp only at hi ht hr ⊢
 try dsimp only [Ns,Nr,Nq,Nk]
 refine W01 ?_
 refine aj rfl (fun h=>?_) (fun h=>?_)
 ·have hil:i < gl.length:=by have:=Ny h;omega
  obtain ⟨z,hz⟩:∃z,gl[i]?=some z:=⟨_,Nz hil⟩
  have hzg:=bK hz
  have hd:gl.drop i=z::gl.drop (i+1):=by
   rw [List.drop_eq_getElem_cons hil,(Np hz).2]
  rw [hd,nl] at hr
  clear h
  refine W0w ?_
  refine aj rfl (fun h=>?_) (fun h=>?_)
  ·have h2:jb cls tab s z= -1:=Ny h
   rw [if_pos h2] at hr
   refine W1f ?_
   refine NM IG ?_
   rw [hr]
  ·have h2:¬jb cls tab s z= -1:=Nx h
   rw [if_neg h2] at hr
   refine W0e ?_
   refine v4 rfl rfl rfl ?_
   rw [u64_or_nat _ _ ht (lV hE _)]
   refine W02 ?_
   exact aC (i+1,jb cls tab s z,told ||| jX ends (jb cls tab s z)) rfl ⟨by rw [Nv];rfl,rfl,rfl,trivial⟩ ⟨hil,FX ht (lV hE _),hr⟩ (by dsimp only;omega) (fun _ _ h=>h)
 ·have hil:i=gl.length:=by have:=Nx h;omega
  subst hil
  rw [List.drop_length,nl] at hr
  refine W01 ?_
  refine NM IG ?_
  rw [hr]
end
abbrev DL (e:qU):AV:= .agg (L4 e)
structure uq (e:qU):Prop where
 fore:∀z∈e.foreE,z < 18446744073709551616
 back:∀z∈e.backE,z < 18446744073709551616
theorem F2 (e:qU) (h:uq e) (gl:List Int):bV Tryz.prog 257 [DL e,.imm 1 (aW gl)] (kl (gQ e.cls e.fore e.foreE gl)):=by
 refine aV Tryz.func257 rfl Tryz.ntmps257 rfl fun B=>?_
 haveI:=AD.mk (xi e.cls e.fore e.foreE h.fore gl)
 refine W0Z ?_
 exact NQ NA
theorem Ee (e:qU) (h:uq e) (gl:List Int):bV Tryz.prog 256 [DL e,.imm 1 (aW gl)] (kl (gQ e.cls e.back e.backE gl)):=by
 refine aV Tryz.func256 rfl Tryz.ntmps256 rfl fun B=>?_
 haveI:=AD.mk (xi e.cls e.back e.backE h.back gl)
 refine W0Z ?_
 exact NQ NA
def lp:List Int:=[0,1,56,2,57,49,28,3,61,58,42,50,38,29,17,4,62,47,59,36,45,43,51,22,53,39,33,30,24,18,12,5,63,55,48,27,60,41,37,16,46,35,44,21,52,32,23,11,54,26,40,15,34,20,31,10,25,14,19,9,13,8,7,6]
def zG:List AV:=lp.map fun z=> .sc (.int .u8 z)
abbrev eu:Nat×AB:=(0,.box zG 364)
def Na (x:Int):Int:=bits .and .u64 x (IntKind.u64.wrap (0 - x))
def MB (x:Int):Int:=IntKind.u64.wrap (Na x * 285870213051353865) / 2 ^ min 58 IntKind.u64.bits
def M2 (x:Nat):Int:=lp.getD (MB x).toNat 0
theorem xD:∀(n:Nat),n < 64→n≠0→0≤MB (n:Nat)∧MB (n:Nat) < 64:=by decide+kernel
theorem GB:∀(n:Nat),n < 64→∀(i:Nat),i < 6→n.testBit i=true→(∀(j:Nat),j < i→n.testBit j=false)→M2 n=(i:Nat):=by decide+kernel
theorem Gw {k:Nat} (h:k < 64):zG[0+k * 1]?=some (.sc (.int .u8 (lp.getD k 0))):=by
 have hl:lp.length=64:=rfl
 unfold zG
 rw [List.getElem?_map,Nat.zero_add,Nat.mul_one,Nz (by omega),List.getD_eq_getElem?_getD,Nz (by omega)]
 rfl
theorem LM (x:Nat) (hx:x < 64) (h0:x≠0):AC Tryz.prog 258 [kl x] [eu] fun c L=>c=aK (M2 x)∧L=[eu]:=by
 refine aV Tryz.func258 rfl Tryz.ntmps258 rfl fun B=>?_
 have hz:¬((x:Int)=0):=by omega
 obtain ⟨k,hk⟩:=Int.eq_ofNat_of_zero_le (xD x hx h0).1
 have hk64:k < 64:=by have:=(xD x hx h0).2;omega
 have hkc:=Gw hk64
 refine W01 ?_
 refine aj rfl (fun h=>absurd (Ny h) hz) (fun _=>?_)
 refine W01 ?_
 refine K9 rfl rfl ?_
 refine v3 rfl rfl rfl ?_
 refine K8 rfl rfl rfl ?_
 refine z5 58 rfl rfl rfl rfl ?_
 refine yZ a5 k rfl rfl rfl hk hk64 rfl ?_
 refine NL a5 0 NA hkc rfl ?_
 refine v6 a5 rfl rfl rfl rfl rfl rfl ?_
 refine W01 ?_
 refine NM IG ⟨?_,rfl⟩
 unfold M2
 rw [hk,Int.toNat_natCast]
 have hb:∀k < 64,IntKind.i64.wrap (lp.getD k 0)=lp.getD k 0:=by decide
 rw [hb k hk64]
def uK (b:Nat):Int:=if b=0 then -1 else M2 b
theorem Bl (e:qU) (h:uq e) (bg fg:List Int) (hb:gQ e.cls e.back e.backE bg &&& gQ e.cls e.fore e.foreE fg < 64):AC Tryz.prog 189 [DL e,.imm 1 (aW bg),.imm 1 (aW fg)] [eu] fun c L=>c=aK (uK (gQ e.cls e.back e.backE bg &&& gQ e.cls e.fore e.foreE fg))∧L=[eu]:=by
 refine aV Tryz.func189 rfl Tryz.ntmps189 rfl fun B=>?_
 haveI:=AD.mk (F2 e h fg)
 haveI:=AD.mk (Ee e h bg)
 have h1:=xh e.cls e.back e.backE h.back bg
 have h2:=xh e.cls e.fore e.foreE h.fore fg
 refine W08 ?_
 refine bv 5 [(0,.v),(1,.v),(2,.v),(3,.v),(4,.v)] none ?_ trivial rfl (by kernel_rfl) (by kernel_rfl) (by kernel_rfl) bQ (by kernel_rfl) rfl
 refine W0t ?_
 refine NP [10,11,12] IG ?_
 refine W1T ?_
 refine v3 rfl rfl rfl ?_
 rw [u64_and_nat _ _ h1 h2]
 generalize gQ e.cls e.back e.backE bg &&& gQ e.cls e.fore e.foreE fg=b at hb ⊢
 refine W01 ?_
 unfold uK
 refine aj rfl (fun h=>?_) (fun h=>?_)
 ·have hb0:b=0:=by have:=Ny h;omega
  rw [if_pos hb0]
  refine W01 ?_
  exact NM IG ⟨rfl,rfl⟩
 ·have hb0:b≠0:=by have:=Nx h;omega
  rw [if_neg hb0]
  refine W01 ?_
  refine b7 [eu] [] (LM b hb hb0) rfl rfl (Nn _) rfl fun c L1 ⟨hc,hL⟩=>?_
  subst hc;subst hL
  refine W01 ?_
  exact NM IG ⟨rfl,rfl⟩
end
section
open Go.ChangeShapes Go.WideShapes Go.ChangeAt
attribute [local irreducible] AT bP AX AO Av Kt bb dh DA cG
theorem Tryz.own:ownKnob Tryz.prog.godebug=none:=by kernel_rfl
theorem Tryz.laidOut:laidOutB Tryz.prog=true:=by kernel_rfl
theorem Lg:Tryz.prog.globalNamed "math/bits.deBruijn64tab" =some 0:=by kernel_rfl
theorem F4:(Tryz.prog.globals[0]?).map (·.type)=some 364:=by kernel_rfl
theorem En:Tryz.prog.cellsOf 364=64:=by kernel_rfl
theorem Hd:Tryz.prog.cellsOf 5=1:=by kernel_rfl
theorem Kn:(((begin Tryz.prog (fun _ _=>0) default).world.heap)[0]?).bind Obj.row?=some ((List.replicate 64 (Value.int .u8 0)).toArray,364):=by kernel_rfl
def Lj:List (String×DataW Unit):=[("math/bits.deBruijn64tab",Lib.tabData .u8 lp)]
theorem J6 {W:World} (hL:laidMet Tryz.prog Lj W) (hS:W.ShapedOpen Tryz.prog):W.heap[0]?=some (.cells (lp.map (Value.int .u8)).toArray 364 (0,0)):=by
 have h:Lib.TabIs Tryz.prog W "math/bits.deBruijn64tab" .u8 lp:=Lib.tabIs_of_head (rest:=[]) Lg F4 Tryz.underlying364 Tryz.underlying5 Hd En hL
 obtain ⟨cs,h1,_,_⟩:=hS.1 0 _ 364 (Ny (by kernel_rfl)) Kn
 unfold Lib.TabIs World.var? at h
 rw [Lg,Option.bind_some,h1] at h
 cases h
 exact h1
def se (W:World):cF:=fun b off=>if b=0 then none else W.cell? ⟨b,off,none⟩
theorem IC {σ:cF}:dI σ zG (lp.map (Value.int .u8)):=by
 unfold zG
 generalize lp=l
 induction l with
 | nil=>exact dI.nil
 | cons x l ih=>exact dI.cons (.sc _) ih
theorem xH {σ:cF} {vs:List Value} (h:dI σ zG vs):vs=lp.map (Value.int .u8):=by
 unfold zG at h
 revert vs
 generalize lp=l
 induction l with
 | nil=>
  intro vs h
  exact List.eq_nil_of_length_eq_zero h.1.symm
 | cons x l ih=>
  intro vs h
  obtain ⟨y,u,rfl,h1,h2⟩:=dI.inv h
  rw [h1.sc_inv,ih h2]
  rfl
theorem HZ {W:World} (h:W.heap[0]?=some (.cells (lp.map (Value.int .u8)).toArray 364 (0,0))):dw ⟨W,se W,[0]⟩ (se W) [eu] W:=by
 have h0:0 < W.heap.size:=by
  rcases Nat.lt_or_ge 0 W.heap.size with h' | h'
  ·exact h'
  ·rw [Array.getElem?_eq_none h'] at h;cases h
 refine ⟨rfl,rfl,rfl,Nat.le_refl _,fun _ _ _=>rfl,fun p hp=>?_,fun p hp=>?_,by simp,fun b off u hu=>?_,fun p hp off _=>?_,fun _ _ _ h=>h,fun _ _ _ _=>rfl⟩
 ·rw [Nl hp]
  exact ⟨_,h,_,rfl,IC,fun u hu=>by
   obtain ⟨z,_,rfl⟩:=List.mem_map.1 hu
   rfl⟩
 ·rw [Nl hp]
  exact .inr (by simp)
 ·unfold se at hu
  split at hu
  ·cases hu
  ·exact hu
 ·rw [Nl hp]
  rfl
theorem Dm {f:FuncId} {args:List AV} {u:Value} (h:AC Tryz.prog f args [eu] fun c L=>c= .sc u∧L=[eu]) (W:World) (hT:W.heap[0]?=some (.cells (lp.map (Value.int .u8)).toArray 364 (0,0))) (vs:List Value) (hv:dI (se W) args vs):Calls Tryz.prog f vs.toArray W fun e W'=>∃v,e= .returned v∧Below W.heap.size W W'∧v=u:=
 (h (se W) W vs hv (HZ hT)).mono fun e W' ⟨v,τ,c,L',he,hr,hst,hc,hL⟩=>by
  subst hc
  subst hL
  refine ⟨v,he,⟨hst.os,hst.tape,hst.output,hst.size,fun k hk=>?_⟩,hr.sc_inv⟩
  by_cases h0:k=0
  ·subst h0
   obtain ⟨o,h1,vs',h2,h3,_⟩:=hst.here eu (by simp)
   rw [h1,h2,hT,xH h3]
  ·exact hst.old k hk (by simp [h0])
end
end Go.Proofs.YtpmdfoaadejmkaaGreatDoor
