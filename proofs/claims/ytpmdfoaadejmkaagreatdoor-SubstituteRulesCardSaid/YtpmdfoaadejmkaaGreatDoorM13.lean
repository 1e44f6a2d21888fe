/-
  An engine's run: its memory; which items are seen.
-/
import Derived.Test.YtpmdfoaadejmkaaGreatDoorM05
import Derived.Test.YtpmdfoaadejmkaaGreatDoorM12
import Derived.Test.YtpmdfoaadejmkaaGreatDoorM11
import Derived.Laws.Shifts
import Derived.Laws.Pointers
import Derived.Laws.BitsAllLaws
import Derived.Test.YtpmdfoaadejmkaaGreatDoorRows
import Derived.WalkKit
import Derived.ProofKit
import Derived.OpenShut
import Derived.ChangeOld
import Derived.SizedLaws
import Derived.Deep.DeepHandedRow
import Derived.Lib.LaidTab
namespace Go.Proofs.YtpmdfoaadejmkaaGreatDoor
open Go.RowKit
attribute [local irreducible] AT bJ AX AO Av Kt bi dq DA cG
abbrev dA (b:Nat):AV:= .sc (.pointer (some ⟨b,0,none⟩))
abbrev JB:AV:= .sc (.pointer none)
structure dD where
 rb:Nat
 cap:Nat
 junk:List AV
def bB (run:List aJ):List AV:=(run.map bO).flatten
def cM (q:Option dD) (run:List aJ):AV:=match q with
 | none=> .imm 6 []
 | some m=> .sc (.slice (some ⟨m.rb,0,none⟩) run.length m.cap)
def fP (q:Option dD) (run:List aJ):AL:=match q with
 | none=>[]
 | some m=>[(m.rb,.box (bB run++m.junk) 67)]
structure cu (q:Option dD) (run:List aJ):Prop where
 emp:q=none→run=[]
 fit:∀m,q=some m→run.length≤m.cap∧m.cap≤maxLen∧m.cap * 6≤(bB run++m.junk).length
abbrev wx (wb:Nat) (eng:AV) (q:Option dD) (run:List aJ):AL:=(wb,.box [eng,cM q run] 102)::fP q run
theorem co (run:List aJ):(bB run).length=run.length * 6:=by
 induction run with
 | nil=>rfl
 | cons x r ih=>simp [bB] at ih ⊢;simp [bO,ih];omega
theorem mY (x:aJ) (r:List aJ):bB (x::r)=bO x++bB r:=by simp [bB]
theorem gi (a b:List aJ):bB (a++b)=bB a++bB b:=by simp [bB]
theorem sZ:∀{run:List aJ} {i j:Nat} {x:aJ} {u:AV} (junk:List AV),run[i]?=some x→(bO x)[j]?=some u→(bB run++junk)[i * 6+j]?=some u
 | [],i,_,_,_,_,h,_=>by simp at h
 | y::r,0,j,x,u,junk,h,hj=>by
  simp at h
  subst h
  rw [mY,List.append_assoc,Nat.zero_mul,Nat.zero_add,List.getElem?_append_left (Ko hj).1]
  exact hj
 | y::r,i+1,j,x,u,junk,h,hj=>by
  rw [mY,List.append_assoc,List.getElem?_append_right (by simp [bO];omega)]
  have:=sZ (i:=i) junk (by simpa using h) hj
  rw [show (i+1) * 6+j - (bO y).length=i * 6+j by simp [bO];omega]
  exact this
structure pY where
 l:aL
 cls:List Int
 fore:List (List Int)
 back:List (List Int)
 foreE:List Nat
 backE:List Nat
abbrev jS (z:Nat):AV:= .sc (.int .u64 (z:Int))
def gJ (l:List Nat):List (List AV):=l.map fun z=>[jS z]
def fj (r:bh):bh:={ r with Back:=[],Ahead:=[] }
def jO (l:aL):aL:={ l with Rules:=l.Rules.map fj }
def Iq (e:pY):List AV:=[.imm 1 (aW e.cls),.imm 1 (bc e.fore),.imm 1 (bc e.back),.imm 1 (gJ e.foreE),.imm 1 (gJ e.backE)]
def fM (e:pY):List AV:=[aF e.l.Kind,d6 e.l.Ignore,.imm 6 ((jO e.l).Rules.map bC),.imm 1 (aW e.cls),.imm 1 (bc e.fore),.imm 1 (bc e.back),.imm 1 (gJ e.foreE),.imm 1 (gJ e.backE),aF (dP e.l.Rules),aF (eQ e.l.Rules)]
def oI (l:List Bool):List (List AV):=l.map fun b=>[d6 b]
theorem vb (l:List Bool):(oI l).length=l.length:=by simp [oI]
theorem Ci {l:List Bool} {i:Nat} {b:Bool} (h:l[i]?=some b):(oI l)[i]?=some [d6 b]:=by simp [oI,h]
structure pZ where
 lks:List pY
 ms:List Bool
def eC (E:pZ):List AV:=[.imm 10 (E.lks.map fM),.imm 1 (oI E.ms)]
theorem cu.lt {q:Option dD} {run:List aJ} (h:cu q run) {i:Nat} (hi:i < run.length):∃m,q=some m:=by
 cases q with
 | none=>rw [h.emp rfl] at hi;simp at hi
 | some m=>exact ⟨m,rfl⟩
section
variable {P:Program} {tt:TT} {r:Option Nat} {ops:Array Oper} {Q:Exit→Act→World→Prop} {nt:Nat} {D:List Deferred} {fr:cf} {B:Bs} {L:AL} {rest:List Oper} {d:Nat} {ty t t':TypeId} {pos:String} {af:Array Edge} {g:Option (Nat×Bool)} {x y z:Operand} {q:Option dD} {run:List aJ}
theorem H5 {dd:Option Tmp} {e sz by_:Nat} (hc:kv P t e sz by_) (hq:cu q run) (hx:br fr x=some (cM q run)):Av P ⟨dd,.call ⟨.builtin .len,#[x],#[t]⟩,ty,pos,af,g⟩ fr (.sc (.int .i64 run.length)):=by
 cases q with
 | none=>
  rw [hq.emp rfl] at hx ⊢
  exact wF hc hx rfl
 | some m=>exact BR hc hx
theorem iw (ok:ez P tt) {e sz by_:Nat} (ht:jN tt t=some (e,sz,by_)) (hq:cu q run) (hx:br fr x=some (cM q run)) (hd:Nat.ble nt d=false) (h:bJ P r ops Q nt D rest ((d,.sc (.int .i64 run.length))::fr) B L):bJ P r ops Q nt D (⟨some d,.call ⟨.builtin .len,#[x],#[t]⟩,ty,pos,af,none⟩::rest) fr B L:=cw (H5 (bz ok ht).1 hq hx) hd rfl h
end
theorem ic {run:List aJ} {i j:Nat} {x:aJ} {u:AV} (junk:List AV) (h:run[i]?=some x) (hj:(bO x)[j]?=some u):(bB run++junk)[0+((i:Nat):Int).toNat * 6+j]?=some u:=by
 rw [Int.toNat_natCast,Nat.zero_add]
 exact sZ junk h hj
set_option maxHeartbeats 1000000 in
theorem uy (E:pZ) (e:pY) (wb:Nat) (m:dD) (run:List aJ) (i:Nat) (x:aJ) (hx:run[i]?=some x):AC Tryz.prog 186 [dA wb,.iptr (fM e),aF i] (wx wb (.iptr (eC E)) (some m) run) fun c L=>c=d6 (iG E.ms e.l.Ignore x)∧L=wx wb (.iptr (eC E)) (some m) run:=by
 refine aN Tryz.func186 rfl Tryz.ntmps186 rfl fun B=>?_
 have hil:=(Ko hx).1
 have h0:=ic (j:=0) m.junk hx rfl
 have hbl:=vb E.ms
 repeat' (first|refine L3 ?_|refine KG a4 HY ?_)
 refine bn 16 [(0,.v),(1,.v),(2,.v),(3,.l),(4,.v),(5,.v),(6,.v),(7,.l),(8,.v),(9,.v),(10,.v),(11,.l),(12,.v),(13,.v),(14,.v),(15,.v)] none ?_ trivial rfl (by kernel_rfl) (by kernel_rfl) (by kernel_rfl) bI (by kernel_rfl) rfl
 repeat' (first|refine aB ?_|refine aX a4 ?_|refine KY a4 0 KB (by first|trivial|rfl) ?_)
 refine cR a4 rfl rfl rfl ⟨by omega,by omega⟩ trivial ?_
 repeat' (first|refine aB ?_|refine aX a4 ?_|fail)
 refine bN a4 1 rfl rfl rfl h0 trivial ?_
 repeat' (first|refine aB ?_|refine aX a4 ?_|refine KY a4 0 KB (by first|trivial|rfl) ?_)
 refine KU [1,7,23] HY ?_
 have hs:iG E.ms e.l.Ignore x=(!e.l.Ignore || (decide (x.Glyph < 0) || (decide (x.Glyph≥E.ms.length) || !(E.ms.getD x.Glyph.toNat false)))):=by
  unfold iG pB
  by_cases h1:0≤x.Glyph
  ·by_cases h2:x.Glyph≥E.ms.length
   ·rw [List.getD_eq_getElem?_getD,List.getElem?_eq_none (by omega)];simp [h1,h2]
   ·rw [decide_eq_false h2,decide_eq_false (by omega:¬x.Glyph < 0),decide_eq_true h1];cases e.l.Ignore <;> simp
  ·simp [h1,show x.Glyph < 0 by omega]
 rw [hs]
 repeat' (first|refine L3 ?_|refine KG a4 HY ?_|refine KR HY ?_|refine KV KB ?_|refine KW KA (fun _=>?_) (fun _=>?_))
 ·rename_i h1 h2 h3
  have h4:¬((oI E.ms).length:Int)≤x.Glyph:=Kx h3
  have h5:=Kx h2
  obtain ⟨b,hb⟩:∃b,E.ms[x.Glyph.toNat]?=some b:=⟨_,Kz (by omega)⟩
  have hbg:=Ci hb
  repeat' (first|refine L3 ?_|refine KG a4 HY ?_|refine KR HY ?_|(apply aQ;first|refine aO a4 ?_|refine aG a4 ?_)|fail)
  refine KP HY ⟨?_,rfl⟩
  rw [h1,h2,decide_eq_false (by omega:¬x.Glyph≥E.ms.length),List.getD_eq_getElem?_getD,hb]
  rfl
 ·rename_i h1 h2 h3
  refine KP HY ⟨?_,rfl⟩
  rw [hbl] at h3
  rw [h1,h2,show decide (x.Glyph≥E.ms.length)=true from h3]
  rfl
 ·rename_i h1 h2
  refine KP HY ⟨?_,rfl⟩
  rw [h1,h2]
  rfl
 ·rename_i h1
  refine KP HY ⟨?_,rfl⟩
  rw [h1]
  rfl
end Go.Proofs.YtpmdfoaadejmkaaGreatDoor
namespace Go.Proofs.YtpmdfoaadejmkaaGreatDoor
open Go.RowKit
attribute [local irreducible] AT bJ AX AO Av Kt bi dq DA cG
section
variable {ms:List Bool} {ig:Bool} {run:List aJ}
theorem t2 {i:Nat} (h:run.length≤i):dk ms ig run i=[]:=by
 unfold dk
 rw [show run.length - i=0 by omega]
 rfl
theorem n3 {i:Nat} (h:i < run.length):dk ms ig run i=if jK ms ig run i=true then i::dk ms ig run (i+1) else dk ms ig run (i+1):=by
 unfold dk
 rw [show run.length - i=(run.length - (i+1))+1 by omega,List.range'_succ,List.filter_cons]
theorem mz {i:Nat} {x:aJ} (h:run[i]?=some x):jK ms ig run i=iG ms ig x:=by
 unfold jK
 rw [h]
theorem rd {i:Nat} {x:aJ} (h:run[i]?=some x):cV run i=x.Glyph:=by
 unfold cV
 rw [h]
theorem rc {i:Nat}:∀p∈dk ms ig run i,i≤p∧p < run.length∧jK ms ig run p=true:=fun p hp=>by
 unfold dk at hp
 obtain ⟨h1,h2⟩:=List.mem_filter.1 hp
 obtain ⟨h3,h4⟩:=List.mem_range'_1.1 h1
 exact ⟨h3,by omega,h2⟩
theorem qI:∀{i:Nat},∀p∈gN ms ig run i,p < i∧jK ms ig run p=true
 | 0,p,h=>by cases h
 | i+1,p,h=>by
  rw [gN] at h
  split at h
  ·rename_i hs
   rcases List.mem_cons.1 h with rfl | h
   ·exact ⟨Nat.lt_succ_self _,hs⟩
   ·have:=qI p h
    exact ⟨by omega,this.2⟩
  ·have:=qI p h
   exact ⟨by omega,this.2⟩
end
end Go.Proofs.YtpmdfoaadejmkaaGreatDoor
namespace Go.Proofs.YtpmdfoaadejmkaaGreatDoor
open Go.RowKit
attribute [local irreducible] AT bJ AX AO Av Kt bi dq DA cG
def bQ (l:List Nat):List (List AV):=aW (l.map Int.ofNat)
theorem f8 (l:List Nat):(bQ l).length=l.length:=by simp [bQ,aW]
theorem tf (l:List Nat) (i:Nat):bQ l++[[aF i]]=bQ (l++[i]):=by simp [bQ,aW]
def pQ (run:List aJ) (l:List Nat):List (List AV):=aW (l.map (cV run))
theorem CU (run:List aJ) (l:List Nat):(pQ run l).length=l.length:=by simp [pQ,aW]
theorem CT {run:List aJ} (l:List Nat) {i:Nat} {x:aJ} (h:run[i]?=some x):pQ run l++[[aF x.Glyph]]=pQ run (l++[i]):=by simp [pQ,aW,rd h]
def cg (ms:List Bool) (ig:Bool) (run:List aJ) (up:Bool) (a:Int):List Nat:=if up=true then dk ms ig run a.toNat else gN ms ig run (a+1).toNat
def iy (up:Bool):Int:=if up=true then 1 else -1
def gS (run:List aJ) (up:Bool) (a:Int):Prop:= -1≤a∧(up=true→0≤a)∧(up=false→a < run.length)
theorem tw {ms:List Bool} {ig:Bool} {run:List aJ} {up:Bool} {a:Int} (h:gS run up a) (ho:¬(0≤a∧a < run.length)):cg ms ig run up a=[]:=by
 obtain ⟨h1,h2,h3⟩:=h
 unfold cg
 cases up with
 | true=>exact t2 (by have:=h2 rfl;omega)
 | false=>
  have:=h3 rfl
  rw [show (a+1).toNat=0 by omega]
  rfl
theorem wg {ms:List Bool} {ig:Bool} {run:List aJ} {up:Bool} {a:Int} (h0:0≤a) (h1:a < run.length):cg ms ig run up a=if jK ms ig run a.toNat=true then a.toNat::cg ms ig run up (a+iy up) else cg ms ig run up (a+iy up):=by
 unfold cg iy
 cases up with
 | true=>
  rw [if_pos rfl,if_pos rfl,if_pos rfl,n3 (by omega),show (a+1).toNat=a.toNat+1 by omega]
 | false=>
  simp only [Bool.false_eq_true,if_false]
  rw [show (a+1).toNat=a.toNat+1 by omega,gN,show (a+ -1+1).toNat=a.toNat by omega]
theorem gS.next {run:List aJ} {up:Bool} {a:Int} (h0:0≤a) (h1:a < run.length):gS run up (a+iy up):=by
 unfold gS iy
 cases up <;> simp <;> omega
def k8 (run:List aJ) (up:Bool) (a:Int):Nat:=if up=true then (run.length - a).toNat else (a+1).toNat
theorem rj {run:List aJ} {up:Bool} {a:Int} (h0:0≤a) (h1:a < run.length):k8 run up (a+iy up) < k8 run up a:=by
 unfold k8 iy
 cases up <;> simp <;> omega
set_option maxHeartbeats 4000000 in
theorem zf (E:pZ) (e:pY) (wb:Nat) (q:Option dD) (run:List aJ) (hq:cu q run) (hr:run.length≤1000000) (up:Bool) (a:Int) (ha:gS run up a) (ha2:a≤1000000) (most:Nat):AC Tryz.prog 188 [dA wb,.iptr (fM e),aF a,aF (iy up),aF most] (wx wb (.iptr (eC E)) q run) fun c L=>c= .tup [.imm 1 (bQ ((cg E.ms e.l.Ignore run up a).take most)),.imm 1 (pQ run ((cg E.ms e.l.Ignore run up a).take most))]∧L=wx wb (.iptr (eC E)) q run:=by
 refine aN Tryz.func188 rfl Tryz.ntmps188 rfl fun B=>?_
 repeat' (first|refine L3 ?_|refine ak ?_|refine KG a4 HY ?_)
 refine c8 (bS (t:=10) (c':= .vec none 1 []) rfl fun σ v h=>d5 1 h) ?_
 refine c8 (bS (t:=11) (c':= .vec none 1 []) rfl fun σ v h=>d5 1 h) ?_
 refine aR [0,1,3,4] (α:=Int×List Nat×Option (Nat×Nat)×Option (Nat×Nat)) (fun x=>[(12,aF x.1),(10,.vec x.2.2.1 1 (bQ x.2.1)),(11,.vec x.2.2.2 1 (pQ run x.2.1))]) (fun x=>gS run up x.1∧x.1≤1000000∧cg E.ms e.l.Ignore run up a=x.2.1++cg E.ms e.l.Ignore run up x.1∧x.2.1.length≤most∧x.2.1.length+k8 run up x.1≤k8 run up a) (fun x=>wx wb (.iptr (eC E)) q run++(tok x.2.2.1 3 1 (bQ x.2.1).length++tok x.2.2.2 3 1 (pQ run x.2.1).length)) (fun x=>k8 run up x.1) (a,[],none,none) rfl ⟨rfl,rfl,rfl,trivial⟩ ⟨ha,ha2,by simp,Nat.zero_le _,by simp⟩ (fun _ _ h=>by simpa [tok] using h) ?_
 have hlN:k8 run up a≤1000001:=by
  have:=ha.1
  unfold k8
  have:=ha.2.1
  cases up <;> simp at this ⊢ <;> omega
 rintro ⟨k,ps,q1,q2⟩ ⟨hk,hk2,hps,hpl,hpk⟩
 dsimp only at hk hk2 hps hpl hpk ⊢
 have hnl:=f8 ps
 have hgl:=CU run ps
 try dsimp only [Kr,Kq,Kp,Lv]
 repeat' (first|refine L3 ?_|refine KG a4 HY ?_)
 refine ce [0,1,3,4,10,11,12] ((0≤k∧k < run.length)∧ps.length < most) rfl (fun Q' K=>?_) (fun hC=>?_) (fun hC=>?_)
 ·repeat' (first|refine L3 ?_|refine KG a4 HY ?_|refine KR HY ?_|refine KV KB ?_|(apply bo;first|refine KM a4 0 KC ?_|refine KM a4 1 KC ?_|refine KM a4 2 KC ?_|refine KM a4 3 KC ?_|refine KN a4 0 KC ?_|refine KN a4 1 KC ?_|refine KN a4 2 KC ?_|refine KO a4 1 KA (by assumption) rfl ?_|refine KO a4 0 KA (by assumption) rfl ?_|fail)|refine KW KA (fun _=>?_) (fun _=>?_))
  ·refine iw a4 rfl hq rfl rfl ?_
   repeat' (first|refine L3 ?_|refine KG a4 HY ?_|refine KR HY ?_|refine KV KB ?_|refine KW KA (fun _=>?_) (fun _=>?_))
   all_goals exact K _ _ rfl rfl (by simp_all <;> omega)
  ·exact K _ _ rfl rfl (by simp_all <;> omega)
 ·obtain ⟨⟨h0,h1⟩,h2⟩:=hC
  obtain ⟨m,rfl⟩:=hq.lt (i:=k.toNat) (by omega)
  obtain ⟨x,hx⟩:∃x,run[k.toNat]?=some x:=⟨_,Kz (by omega)⟩
  have hk0:((k.toNat:Nat):Int)=k:=Int.toNat_of_nonneg h0
  have hse:=uy E e wb m run k.toNat x hx
  rw [hk0] at hse
  have hst:=wg (ms:=E.ms) (ig:=e.l.Ignore) (up:=up) h0 h1
  rw [mz hx] at hst
  have hnx:=gS.next (up:=up) h0 h1
  have hln:=rj (up:=up) h0 h1
  have hk3:k+iy up≤1000000:=by have:=hnx.1;unfold iy;split <;> omega
  have hk4: -9223372036854775808≤k+iy up∧k+iy up≤9223372036854775807:=by have:=hnx.1;omega
  repeat' (first|refine L3 ?_|refine ak ?_|refine KG a4 HY ?_)
  refine b6 (wx wb (.iptr (eC E)) (some m) run) _ hse rfl rfl (Lz _) rfl fun c L1 ⟨hc,hL⟩=>?_
  subst hc;subst hL
  repeat' (first|refine L3 ?_|fail)
  refine aw rfl (fun hb=>?_) (fun hb=>?_)
  ·rw [hb,if_pos rfl] at hst
   repeat' (first|refine L3 ?_|refine KG a4 HY ?_|refine bW a4 ?_|fail)
   refine bV a4 (wx wb (.iptr (eC E)) (some m) run++tok q2 3 1 (pQ run ps).length) rfl rfl rfl rfl ?_ (by rw [hnl];simp;omega) (by rw [hnl];simp;omega) rfl fun q1'=>?_
   ·exact (List.perm_append_comm_assoc ..)
   refine aP (aI (L':=wx wb (.iptr (eC E)) (some m) run++(tok q1' 3 1 (bQ ps++[[aF k]]).length++tok q2 3 1 (pQ run ps).length)) (List.perm_append_comm_assoc ..)) ?_
   have hg0:=ic (j:=0) m.junk hx rfl
   rw [hk0] at hg0
   repeat' (first|refine L3 ?_|refine KG a4 HY ?_|(apply bo;first|refine KM a4 0 KC ?_|refine KM a4 1 KC ?_|refine KM a4 2 KC ?_|refine KM a4 3 KC ?_|refine KN a4 0 KC ?_|refine KN a4 1 KC ?_|refine KN a4 2 KC ?_|refine KO a4 1 KA (by assumption) rfl ?_|refine KO a4 0 KA (by assumption) rfl ?_|fail)|(apply aQ;first|refine aO a4 ?_|refine aG a4 ?_)|refine bW a4 ?_|fail)
   refine bV a4 (wx wb (.iptr (eC E)) (some m) run++tok q1' 3 1 (bQ ps++[[aF k]]).length) rfl rfl rfl rfl ?_ (by rw [hgl];simp;omega) (by rw [hgl];simp;omega) rfl fun q2'=>?_
   ·rw [←List.append_assoc]
    exact List.perm_append_comm
   refine aP (aI (L':=wx wb (.iptr (eC E)) (some m) run++(tok q1' 3 1 (bQ ps++[[aF k]]).length++tok q2' 3 1 (pQ run ps++[[aF x.Glyph]]).length)) (List.perm_append_comm.trans (by rw [List.append_assoc]))) ?_
   repeat' (first|refine L3 ?_|refine KG a4 HY ?_|(apply aU;refine aT ?_)|fail)
   have e1:bQ ps++[[aF k]]=bQ (ps++[k.toNat]):=by rw [←tf,hk0]
   have e2:=CT ps hx
   exact aD (k+iy up,ps++[k.toNat],q1',q2') rfl ⟨rfl,by rw [←e1];rfl,by rw [←e2];rfl,trivial⟩ ⟨hnx,hk3,by rw [hps,hst];simp,by rw [List.length_append,List.length_singleton];omega,by rw [List.length_append,List.length_singleton];dsimp only;omega⟩ hln (fun _ _ h=>by dsimp only;rw [←e1,←e2];exact h)
  ·rw [hb,if_neg (by decide)] at hst
   repeat' (first|refine L3 ?_|refine KG a4 HY ?_|(apply aU;refine aT ?_)|fail)
   exact aD (k+iy up,ps,q1,q2) rfl ⟨rfl,rfl,rfl,trivial⟩ ⟨hnx,hk3,by rw [hps,hst],hpl,by dsimp only;omega⟩ hln (fun _ _ h=>h)
 ·have hres:(cg E.ms e.l.Ignore run up a).take most=ps:=by
   by_cases h1:ps.length < most
   ·rw [hps,tw hk (fun h=>hC ⟨h,h1⟩),List.append_nil,List.take_of_length_le (by omega)]
   ·rw [hps,List.take_append_of_le_length (by omega),List.take_of_length_le (by omega)]
  rw [hres]
  repeat' (first|refine L3 ?_|refine KG a4 HY ?_)
  refine dH (L':=wx wb (.iptr (eC E)) q run) (List.sublist_append_left ..) ?_
  refine bj (bS (t:=10) (c':= .imm 1 (bQ ps)) rfl fun σ v h=>VR.im h) ?_
  refine bj (bS (t:=11) (c':= .imm 1 (pQ run ps)) rfl fun σ v h=>VR.im h) ?_
  exact KX KA ⟨rfl,rfl⟩
end Go.Proofs.YtpmdfoaadejmkaaGreatDoor
namespace Go.Proofs.YtpmdfoaadejmkaaGreatDoor
open Go.RowKit
section
variable {P:Program} {tt:TT} {r:Option Nat} {ops:Array Oper} {Q:Exit→Act→World→Prop} {nt:Nat} {D:List Deferred} {fr:cf} {B:Bs} {L:AL} {rest:List Oper} {d:Nat} {ty t t':TypeId} {pos:String} {af:Array Edge} {g:Option (Nat×Bool)} {x y z:Operand} {u:AV}
theorem Hf {dd:Option Tmp} {k kk:IntKind} {a b:Int} (i:Nat) (hx:br fr x=some (.sc (.int k a))) (hy:br fr y=some (.sc (.int kk b))) (hb:b=(i:Int)):Av P ⟨dd,.binOp .shr t x y t',ty,pos,af,g⟩ fr (.sc (.int k (a / 2 ^ min i k.bits))):=by
 intro σ ρ w hρ _
 subst hb
 refine ⟨_,?_,.sc _⟩
 have h:=shift_shr_any k kk a (i:Int) (Int.natCast_nonneg i)
 simp [execOp,(hρ x _ hx).sc_inv,(hρ y _ hy).sc_inv,eqGuard,binOp,h]
theorem GU {dd:Option Tmp} {k:IntKind} {a b:Int} (hx:br fr x=some (.sc (.int k a))) (hy:br fr y=some (.sc (.int k b))):Av P ⟨dd,.binOp .and t x y t',ty,pos,af,g⟩ fr (.sc (.int k (bits .and k a b))):=by
 intro σ ρ w hρ _
 refine ⟨_,?_,.sc _⟩
 simp [execOp,(hρ x _ hx).sc_inv,(hρ y _ hy).sc_inv,eqGuard,binOp,intBits_and]
theorem yl {dd:Option Tmp} {k:IntKind} {a b:Int} (hx:br fr x=some (.sc (.int k a))) (hy:br fr y=some (.sc (.int k b))):Av P ⟨dd,.binOp .or t x y t',ty,pos,af,g⟩ fr (.sc (.int k (bits .or k a b))):=by
 intro σ ρ w hρ _
 refine ⟨_,?_,.sc _⟩
 simp [execOp,(hρ x _ hx).sc_inv,(hρ y _ hy).sc_inv,eqGuard,binOp,intBits_or]
theorem uh (i:Nat) {k kk:IntKind} {a b:Int} (hx:br fr x=some (.sc (.int k a))) (hy:br fr y=some (.sc (.int kk b))) (hb:b=(i:Int)) (hd:Nat.ble nt d=false) (h:bJ P r ops Q nt D rest ((d,.sc (.int k (a / 2 ^ min i k.bits)))::fr) B L):
  bJ P r ops Q nt D (⟨some d,.binOp .shr t x y t',ty,pos,af,none⟩::rest) fr B L:=cw (Hf i hx hy hb) hd rfl h
theorem rA {k:IntKind} {a b:Int} (hx:br fr x=some (.sc (.int k a))) (hy:br fr y=some (.sc (.int k b))) (hd:Nat.ble nt d=false) (h:bJ P r ops Q nt D rest ((d,.sc (.int k (bits .and k a b)))::fr) B L):
  bJ P r ops Q nt D (⟨some d,.binOp .and t x y t',ty,pos,af,none⟩::rest) fr B L:=cw (GU hx hy) hd rfl h
theorem ud {k:IntKind} {a b:Int} (hx:br fr x=some (.sc (.int k a))) (hy:br fr y=some (.sc (.int k b))) (hd:Nat.ble nt d=false) (h:bJ P r ops Q nt D rest ((d,.sc (.int k (bits .or k a b)))::fr) B L):
  bJ P r ops Q nt D (⟨some d,.binOp .or t x y t',ty,pos,af,none⟩::rest) fr B L:=cw (yl hx hy) hd rfl h
end
end Go.Proofs.YtpmdfoaadejmkaaGreatDoor
namespace Go.Proofs.YtpmdfoaadejmkaaGreatDoor
open Go.RowKit
def AZ:AV→Option Bool
 | .iptr _=>some false
 | .sc (.pointer none)=>some true
 | .sc (.pointer (some _))=>some false
 | _=>none
theorem tk {u:AV} {b:Bool} (h:AZ u=some b) {σ:cr} {v:Value} (hv:VR σ u v):∃p,v= .pointer p∧p.isNone=b:=by
 unfold AZ at h
 split at h
 ·cases h
  obtain ⟨b',off,h1,_⟩:=hv.iptr_inv
  exact ⟨_,h1,rfl⟩
 ·cases h
  exact ⟨none,hv.sc_inv,rfl⟩
 ·cases h
  exact ⟨_,hv.sc_inv,rfl⟩
 ·cases h
section
variable {P:Program} {fr:cf} {B:Bs} {L:AL} {d:Option Tmp} {ty t t':TypeId} {pos:String} {af:Array Edge} {g:Option (Nat×Bool)} {x y z q:Operand} {u:AV}
theorem rO {e:TypeId} (h:P.underlying t=some (.pointer e)):P.underlying t=some (.pointer (P.pointee t)):=by
 rw [show P.pointee t=e by simp [Program.pointee,h]];exact h
theorem H2 {e:TypeId} {b:Bool} (ht:P.underlying t=some (.pointer e)) (hx:br fr x=some u) (hu:AZ u=some b) (hy:br fr y=some (.sc (.pointer none))):Av P ⟨d,.binOp .eql t x y t',ty,pos,af,g⟩ fr (.sc (.bool b)):=fun σ ρ w hρ _=>by
 obtain ⟨p,hp,hb⟩:=tk hu (hρ x u hx)
 refine ⟨_,?_,.sc _⟩
 subst hb
 simp [execOp,hp,(hρ y _ hy).sc_inv,eqGuard,run_eql_pointer_nil w t p (rO ht)]
theorem H9 {e:TypeId} {b:Bool} (ht:P.underlying t=some (.pointer e)) (hx:br fr x=some u) (hu:AZ u=some b) (hy:br fr y=some (.sc (.pointer none))):Av P ⟨d,.binOp .neq t x y t',ty,pos,af,g⟩ fr (.sc (.bool (!b))):=fun σ ρ w hρ _=>by
 obtain ⟨p,hp,hb⟩:=tk hu (hρ x u hx)
 refine ⟨_,?_,.sc _⟩
 subst hb
 simp [execOp,hp,(hρ y _ hy).sc_inv,eqGuard,run_neq_pointer_nil w t p (rO ht)]
theorem GT {n e sz k b off:Nat} {qq:IntKind} {a:Int} (ht:P.underlying t=some (.array n e)) (hs:(P.info? e).map (·.size)=some sz) (hx:br fr x=some (.sc (.pointer (some ⟨b,off,none⟩)))) (hy:br fr y=some (.sc (.int qq a))) (ha:a=(k:Int)) (hk:k < n):Av P ⟨d,.indexAddr t x y,ty,pos,af,g⟩ fr (.sc (.pointer (some ⟨b,off+k * sz,none⟩))):=
 fun σ ρ w hρ _=>by
  subst ha
  have hyv:=(hρ y _ hy).sc_inv
  have hv:=(hρ x _ hx).sc_inv
  have hk':(k:Int) < (n:Int):=by omega
  have hso:(sizeOf e:Sem Nat).run P w= .ok sz w:=by
   cases hi:P.info? e with
   | none=>rw [hi] at hs;cases hs
   | some i=>rw [hi] at hs;simp at hs;simp [sizeOf,typeInfo,hi,hs]
  refine ⟨.pointer (some ⟨b,off+k * sz,none⟩),?_,.sc _⟩
  simp [execOp,hv,hyv,Instr.indexAt,asIntOf,run_underlying ht,hk',hso,Instr.sureAddr,Addr.add]
  by_cases hn:n≤1 <;> by_cases h0:k * sz=0 <;> simp [hn,run_underlying ht,hso,hk,h0]
theorem EM {e sz by_:Nat} {parts:Array (Nat×Operand)} (hc:kv P t e sz by_) (hsz:0 < sz) (hp:parts=#[]):AO P ⟨d,.buildSlice t 0 parts,ty,pos,af,g⟩ fr B L (fun c L'=>∃b,c= .sc (.slice (some ⟨b,0,none⟩) 0 0)∧L'=(b,.box [] e)::L):=by
 intro σ ρ w hρ hw
 subst hp
 haveI:=hc
 have hr:=E6 (P:=P) (t:=t) (by simpa [Nat.blt_eq] using hsz) [] (by simp) (by simp [Nat.ble_eq]) w
 simp at hr
 unfold gR
 rw [show (execOp ρ ⟨d,.buildSlice t 0 #[],ty,pos,af,g⟩).run P w= .ok (.value (.slice (some ⟨w.heap.size,0,none⟩) 0 0)) (w.alloc (.cells #[] e)) by
  simp [execOp,hr]]
 exact ⟨σ,.sc _,_,cr.le_refl _,.sc _,hw.alloc _ (.box [] e) ⟨[],rfl,dB.nil,by simp⟩,_,rfl,rfl⟩
end
section
variable {P:Program} {tt:TT} {r:Option Nat} {ops:Array Oper} {Q:Exit→Act→World→Prop} {nt:Nat} {D:List Deferred} {fr:cf} {B:Bs} {L:AL} {rest:List Oper} {d:Nat} {ty t t':TypeId} {pos:String} {af:Array Edge} {x y z:Operand} {u:AV}
theorem rD {e:TypeId} {b:Bool} (ht:P.underlying t=some (.pointer e)) (hx:br fr x=some u) (hu:AZ u=some b) (hy:br fr y=some (.sc (.pointer none))) (hd:Nat.ble nt d=false) (h:bJ P r ops Q nt D rest ((d,.sc (.bool b))::fr) B L):bJ P r ops Q nt D (⟨some d,.binOp .eql t x y t',ty,pos,af,none⟩::rest) fr B L:=cw (H2 ht hx hu hy) hd rfl h
theorem ug {e:TypeId} {b:Bool} (ht:P.underlying t=some (.pointer e)) (hx:br fr x=some u) (hu:AZ u=some b) (hy:br fr y=some (.sc (.pointer none))) (hd:Nat.ble nt d=false) (h:bJ P r ops Q nt D rest ((d,.sc (.bool (!b)))::fr) B L):bJ P r ops Q nt D (⟨some d,.binOp .neq t x y t',ty,pos,af,none⟩::rest) fr B L:=cw (H9 ht hx hu hy) hd rfl h
theorem xM (ok:ez P tt) (k:Nat) {n e sz b off:Nat} {q:IntKind} {a:Int} (ht:zH tt t=some (n,e,sz)) (hx:br fr x=some (.sc (.pointer (some ⟨b,off,none⟩)))) (hy:br fr y=some (.sc (.int q a))) (ha:a=(k:Int)) (hk:k < n) (hd:Nat.ble nt d=false) (h:bJ P r ops Q nt D rest ((d,.sc (.pointer (some ⟨b,off+k * sz,none⟩)))::fr) B L):
  bJ P r ops Q nt D (⟨some d,.indexAddr t x y,ty,pos,af,none⟩::rest) fr B L:=cw (GT (iP ok ht).1 (iP ok ht).2 hx hy ha hk) hd rfl h
theorem HF (ok:ez P tt) {e sz by_:Nat} (ht:jN tt t=some (e,sz,by_)) (hd:Nat.ble nt d=false) (h:∀b,bJ P r ops Q nt D rest ((d,.sc (.slice (some ⟨b,0,none⟩) 0 0))::fr) B ((b,.box [] e)::L)):
  bJ P r ops Q nt D (⟨some d,.buildSlice t 0 #[],ty,pos,af,none⟩::rest) fr B L:=cN hd rfl (EM (bz ok ht).1 (bz ok ht).2 rfl) fun c L' ⟨b,h1,h2⟩=>by subst h1;subst h2;exact h b
theorem HG {k:IntKind} {a b:Int} (hx:br fr x=some (.sc (.int k a))) (hy:br fr y=some (.sc (.int k b))) (hd:Nat.ble nt d=false) (h:bJ P r ops Q nt D rest ((d,.sc (.int k (k.wrap (a * b))))::fr) B L):bJ P r ops Q nt D (⟨some d,.binOp .mul t x y t',ty,pos,af,none⟩::rest) fr B L:=cw (Gu hx hy) hd rfl h
theorem HH {k:IntKind} {a:Int} (hx:br fr x=some (.sc (.int k a))) (hd:Nat.ble nt d=false) (h:bJ P r ops Q nt D rest ((d,.sc (.int k (k.wrap (0 - a))))::fr) B L):bJ P r ops Q nt D (⟨some d,.unOp .neg t x,ty,pos,af,none⟩::rest) fr B L:=cw (Ij hx) hd rfl h
theorem nP (ok:ez P tt) {a:Int} {q q':IntKind} {ti ti':TI} (hx:br fr x=some (.sc (.int q a))) (ht:dy tt t=some ti) (hk:ti.k= .int q) (ht':dy tt t'=some ti') (hk':ti'.k= .int q') (hd:Nat.ble nt d=false) (h:bJ P r ops Q nt D rest ((d,.sc (.int q' (q'.wrap a)))::fr) B L):
  bJ P r ops Q nt D (⟨some d,.convert t t' x,ty,pos,af,none⟩::rest) fr B L:=by
 haveI:=ok.int ht hk
 haveI:=ok.int ht' hk'
 exact cw (sJ hx) hd rfl h
end
end Go.Proofs.YtpmdfoaadejmkaaGreatDoor
namespace Go.Proofs.YtpmdfoaadejmkaaGreatDoor
open Go.RowKit
attribute [local irreducible] AT bJ AX AO Av Kt bi dq DA cG
abbrev I9 (cls:List Int) (tab:List (List Int)) (ends:List Nat):AV:= .agg [.imm 1 (aW cls),.imm 1 (bc tab),.imm 1 (gJ ends)]
theorem ou (l:List Nat):(gJ l).length=l.length:=by simp [gJ]
theorem wv {l:List Nat} {i:Nat} {z:Nat} (h:l[i]?=some z):(gJ l)[i]?=some [jS z]:=by simp [gJ,h]
section
variable (cls:List Int) (tab:List (List Int)) (ends:List Nat)
theorem Cg (s:Int):bU Tryz.prog 301 [I9 cls tab ends,aF s] (jS (jv ends s)):=by
 refine aN Tryz.func301 rfl Tryz.ntmps301 rfl fun B=>?_
 have hel:=ou ends
 repeat' (first|refine L3 ?_|refine KG a4 HY ?_|refine bA ?_|fail)
 refine ce [1,2] (s < 0∨(ends.length:Int)≤s) rfl (fun Q' K=>?_) (fun hC=>?_) (fun hC=>?_)
 ·repeat' (first|refine L3 ?_|refine KG a4 HY ?_|refine KR HY ?_|refine KV KB ?_|refine KW KA (fun _=>?_) (fun _=>?_))
  all_goals exact K _ _ rfl rfl (by simp_all <;> omega)
 ·repeat' (first|refine L3 ?_|refine KG a4 HY ?_)
  refine KP HY ?_
  unfold jv
  rcases hC with h | h
  ·rw [if_pos h];rfl
  ·by_cases h0:s < 0
   ·rw [if_pos h0];rfl
   ·rw [if_neg h0,List.getD_eq_getElem?_getD,List.getElem?_eq_none (by omega)];rfl
 ·obtain ⟨z,hz⟩:∃z,ends[s.toNat]?=some z:=⟨_,Kz (by omega)⟩
  have hzg:=wv hz
  repeat' (first|refine L3 ?_|refine KG a4 HY ?_|(apply aQ;first|refine aO a4 ?_|refine aG a4 ?_)|fail)
  refine KP HY ?_
  unfold jv
  rw [if_neg (fun h=>hC (.inl h)),List.getD_eq_getElem?_getD,hz]
  rfl
instance (s:Int):AD Tryz.prog 301 [I9 cls tab ends,aF s] (jS (jv ends s)):=⟨Cg cls tab ends s⟩
theorem DH (s g:Int):bU Tryz.prog 302 [I9 cls tab ends,aF s,aF g] (aF (iD cls tab s g)):=by
 refine aN Tryz.func302 rfl Tryz.ntmps302 rfl fun B=>?_
 have hcl:=bb cls
 have htl:=bY tab
 repeat' (first|refine L3 ?_|refine KG a4 HY ?_|refine bA ?_|fail)
 refine ce [1,2,3] ((s < 0∨(tab.length:Int)≤s)∨(g < 0∨(cls.length:Int)≤g)) rfl (fun Q' K=>?_) (fun hC=>?_) (fun hC=>?_)
 ·repeat' (first|refine L3 ?_|refine KG a4 HY ?_|refine KR HY ?_|refine KV KB ?_|refine KW KA (fun _=>?_) (fun _=>?_))
  all_goals exact K _ _ rfl rfl (by simp_all <;> omega)
 ·repeat' (first|refine L3 ?_|refine KG a4 HY ?_)
  refine KP HY ?_
  unfold iD
  by_cases h0:s < 0∨g < 0
  ·rw [if_pos h0]
  ·rw [if_neg h0]
   split
   ·rename_i h1 h2
    have:=(Ko h1).1
    have:=(Ko h2).1
    omega
   ·rfl
 ·obtain ⟨f9,hrow⟩:∃z,tab[s.toNat]?=some z:=⟨_,Kz (by omega)⟩
  obtain ⟨c,hc⟩:∃z,cls[g.toNat]?=some z:=⟨_,Kz (by omega)⟩
  have hrg:=gn hrow
  have hcg:=bP hc
  have hrl:=bb f9
  have hN:iD cls tab s g=if c < 0 then -1 else match f9[c.toNat]? with
   | some z=>if 0≤z∧z < tab.length then z else -1
   | none=> -1:=by
   unfold iD
   rw [if_neg (by omega),hrow,hc]
   rfl
  rw [hN]
  repeat' (first|refine L3 ?_|fail)
  refine bn 11 [(0,.v),(1,.v),(2,.v),(3,.v),(4,.v),(5,.v),(6,.v),(7,.v),(8,.v),(9,.v),(10,.v)] none ?_ trivial rfl (by kernel_rfl) (by kernel_rfl) (by kernel_rfl) bI (by kernel_rfl) rfl
  repeat' (first|refine aB ?_|refine aX a4 ?_|(apply cm;refine cA a4 ?_)|fail)
  refine KU [3,7,39] HY ?_
  repeat' (first|refine L3 ?_|refine a7 ?_|refine KG a4 HY ?_)
  refine ce [3,7,8] (c < 0∨(f9.length:Int)≤c) rfl (fun Q' K=>?_) (fun hC2=>?_) (fun hC2=>?_)
  ·repeat' (first|refine L3 ?_|refine KG a4 HY ?_|refine KR HY ?_|refine KV KB ?_|refine KW KA (fun _=>?_) (fun _=>?_))
   all_goals exact K _ _ rfl rfl (by simp_all <;> omega)
  ·repeat' (first|refine L3 ?_|refine KG a4 HY ?_)
   refine KP HY ?_
   by_cases h0:c < 0
   ·rw [if_pos h0]
   ·rw [if_neg h0,List.getElem?_eq_none (by omega)]
  ·obtain ⟨z,hz⟩:∃z,f9[c.toNat]?=some z:=⟨_,Kz (by omega)⟩
   have hzg:=bP hz
   rw [if_neg (fun h=>hC2 (.inl h)),hz]
   dsimp only
   repeat' (first|refine L3 ?_|refine KG a4 HY ?_|(apply aQ;first|refine aO a4 ?_|refine aG a4 ?_)|fail)
   refine ce [9] (0≤z∧z < tab.length) rfl (fun Q' K=>?_) (fun hC3=>?_) (fun hC3=>?_)
   ·repeat' (first|refine L3 ?_|refine KG a4 HY ?_|refine KR HY ?_|refine KV KB ?_|refine KW KA (fun _=>?_) (fun _=>?_))
    all_goals exact K _ _ rfl rfl (by simp_all <;> omega)
   ·rw [if_pos hC3]
    repeat' (first|refine L3 ?_|refine KG a4 HY ?_)
    exact KQ KA
   ·rw [if_neg hC3]
    repeat' (first|refine L3 ?_|refine KG a4 HY ?_)
    exact KQ KA
instance (s g:Int):AD Tryz.prog 302 [I9 cls tab ends,aF s,aF g] (aF (iD cls tab s g)):=⟨DH cls tab ends s g⟩
theorem lB {ends:List Nat} (h:∀z∈ends,z < 18446744073709551616) (s:Int):jv ends s < 18446744073709551616:=by
 unfold jv
 split
 ·decide
 ·rw [List.getD_eq_getElem?_getD]
  cases hz:ends[s.toNat]? with
  | none=>decide
  | some z=>exact h z (Kw hz)
theorem DL {a b:Nat} (ha:a < 18446744073709551616) (hb:b < 18446744073709551616):a ||| b < 18446744073709551616:=Nat.or_lt_two_pow (n:=64) ha hb
theorem w6 {cls:List Int} {tab:List (List Int)} {ends:List Nat} (h:∀z∈ends,z < 18446744073709551616):∀(gl:List Int) (s:Int) (told:Nat),told < 18446744073709551616→mL cls tab ends s gl told < 18446744073709551616
 | [],_,_,ht=>ht
 | g::r,s,told,ht=>by
  rw [mL]
  split
  ·exact ht
  ·exact w6 h r _ _ (DL ht (lB h _))
theorem w7 (h:∀z∈ends,z < 18446744073709551616) (gl:List Int):gk cls tab ends gl < 18446744073709551616:=w6 h gl 0 _ (lB h _)
theorem w8 (hE:∀z∈ends,z < 18446744073709551616) (gl:List Int):bU Tryz.prog 286 [I9 cls tab ends,.imm 1 (aW gl)] (jS (gk cls tab ends gl)):=by
 refine aN Tryz.func286 rfl Tryz.ntmps286 rfl fun B=>?_
 have hgl:=bb gl
 refine cW 1 rfl rfl fun hlen=>?_
 repeat' (first|refine L3 ?_|refine ak ?_|refine KG a4 HY ?_|refine bA ?_|(apply bF;refine bv ?_)|fail)
 refine aR [2,12,13] (α:=Nat×Int×Nat) (fun x=>[(14,aF x.1),(5,aF x.2.1),(6,jS x.2.2)]) (fun x=>x.1≤gl.length∧x.2.2 < 18446744073709551616∧mL cls tab ends x.2.1 (gl.drop x.1) x.2.2=gk cls tab ends gl) (fun _=>[]) (fun x=>gl.length - x.1) (0,0,jv ends 0) rfl ⟨rfl,rfl,rfl,trivial⟩ ⟨Nat.zero_le _,lB hE 0,rfl⟩ (fun _ _ h=>h) ?_
 rintro ⟨i,s,told⟩ ⟨hi,ht,hr⟩
 dsimp only at hi ht hr ⊢
 try dsimp only [Kr,Kq,Kp,Lv]
 repeat' (first|refine L3 ?_|refine KG a4 HY ?_)
 refine aw rfl (fun h=>?_) (fun h=>?_)
 ·have hil:i < gl.length:=by have:=Ky h;omega
  obtain ⟨z,hz⟩:∃z,gl[i]?=some z:=⟨_,Kz hil⟩
  have hzg:=bP hz
  have hd:gl.drop i=z::gl.drop (i+1):=by
   rw [List.drop_eq_getElem_cons hil,(Ko hz).2]
  rw [hd,mL] at hr
  clear h
  repeat' (first|refine L3 ?_|refine ak ?_|refine KG a4 HY ?_|(apply aQ;first|refine aO a4 ?_|refine aG a4 ?_)|(apply bF;refine bv ?_)|fail)
  refine aw rfl (fun h=>?_) (fun h=>?_)
  ·have h2:iD cls tab s z= -1:=Ky h
   rw [if_pos h2] at hr
   repeat' (first|refine L3 ?_|refine c9 rfl ?_|refine KG a4 HY ?_)
   refine KP HY ?_
   rw [hr]
  ·have h2:¬iD cls tab s z= -1:=Kx h
   rw [if_neg h2] at hr
   repeat' (first|refine L3 ?_|refine KG a4 HY ?_|(apply bF;refine bv ?_)|fail)
   refine ud rfl rfl rfl ?_
   rw [u64_or_nat _ _ ht (lB hE _)]
   repeat' (first|refine L3 ?_|refine KG a4 HY ?_|(apply aU;refine aT ?_)|fail)
   exact aD (i+1,iD cls tab s z,told ||| jv ends (iD cls tab s z)) rfl ⟨by rw [Kv];rfl,rfl,rfl,trivial⟩ ⟨hil,DL ht (lB hE _),hr⟩ (by dsimp only;omega) (fun _ _ h=>h)
 ·have hil:i=gl.length:=by have:=Kx h;omega
  subst hil
  rw [List.drop_length,mL] at hr
  repeat' (first|refine L3 ?_|refine KG a4 HY ?_)
  refine KP HY ?_
  rw [hr]
end
abbrev BM (e:pY):AV:= .agg (Iq e)
structure tJ (e:pY):Prop where
 fore:∀z∈e.foreE,z < 18446744073709551616
 back:∀z∈e.backE,z < 18446744073709551616
theorem CQ (e:pY) (h:tJ e) (gl:List Int):bU Tryz.prog 257 [BM e,.imm 1 (aW gl)] (jS (gk e.cls e.fore e.foreE gl)):=by
 refine aN Tryz.func257 rfl Tryz.ntmps257 rfl fun B=>?_
 haveI:=AD.mk (w8 e.cls e.fore e.foreE h.fore gl)
 repeat' (first|refine L3 ?_|refine KG a4 HY ?_|refine bA ?_|(apply bF;refine bv ?_)|fail)
 exact KQ KA
theorem Cd (e:pY) (h:tJ e) (gl:List Int):bU Tryz.prog 256 [BM e,.imm 1 (aW gl)] (jS (gk e.cls e.back e.backE gl)):=by
 refine aN Tryz.func256 rfl Tryz.ntmps256 rfl fun B=>?_
 haveI:=AD.mk (w8 e.cls e.back e.backE h.back gl)
 repeat' (first|refine L3 ?_|refine KG a4 HY ?_|refine bA ?_|(apply bF;refine bv ?_)|fail)
 exact KQ KA
def kY:List Int:=[0,1,56,2,57,49,28,3,61,58,42,50,38,29,17,4,62,47,59,36,45,43,51,22,53,39,33,30,24,18,12,5,63,55,48,27,60,41,37,16,46,35,44,21,52,32,23,11,54,26,40,15,34,20,31,10,25,14,19,9,13,8,7,6]
def y9:List AV:=kY.map fun z=> .sc (.int .u8 z)
abbrev dN:Nat×AB:=(0,.box y9 364)
def Kk (x:Int):Int:=bits .and .u64 x (IntKind.u64.wrap (0 - x))
def JM (x:Int):Int:=IntKind.u64.wrap (Kk x * 285870213051353865) / 2 ^ min 58 IntKind.u64.bits
def Jf (x:Nat):Int:=kY.getD (JM x).toNat 0
theorem wu:∀(n:Nat),n < 64→n≠0→0≤JM (n:Nat)∧JM (n:Nat) < 64:=by decide+kernel
theorem Eo:∀(n:Nat),n < 64→∀(i:Nat),i < 6→n.testBit i=true→(∀(j:Nat),j < i→n.testBit j=false)→Jf n=(i:Nat):=by decide+kernel
theorem Ej {k:Nat} (h:k < 64):y9[0+k * 1]?=some (.sc (.int .u8 (kY.getD k 0))):=by
 have hl:kY.length=64:=rfl
 unfold y9
 rw [List.getElem?_map,Nat.zero_add,Nat.mul_one,Kz (by omega),List.getD_eq_getElem?_getD,Kz (by omega)]
 rfl
theorem J3 (x:Nat) (hx:x < 64) (h0:x≠0):AC Tryz.prog 258 [jS x] [dN] fun c L=>c=aF (Jf x)∧L=[dN]:=by
 refine aN Tryz.func258 rfl Tryz.ntmps258 rfl fun B=>?_
 have hz:¬((x:Int)=0):=by omega
 obtain ⟨k,hk⟩:=Int.eq_ofNat_of_zero_le (wu x hx h0).1
 have hk64:k < 64:=by have:=(wu x hx h0).2;omega
 have hkc:=Ej hk64
 repeat' (first|refine L3 ?_|refine KG a4 HY ?_)
 refine aw rfl (fun h=>absurd (Ky h) hz) (fun _=>?_)
 repeat' (first|refine L3 ?_|refine KG a4 HY ?_)
 refine HH rfl rfl ?_
 refine rA rfl rfl rfl ?_
 refine HG rfl rfl rfl ?_
 refine uh 58 rfl rfl rfl rfl ?_
 refine xM a4 k rfl rfl rfl hk hk64 rfl ?_
 refine KO a4 0 KA hkc rfl ?_
 refine nP a4 rfl rfl rfl rfl rfl rfl ?_
 repeat' (first|refine L3 ?_|refine KG a4 HY ?_)
 refine KP HY ⟨?_,rfl⟩
 unfold Jf
 rw [hk,Int.toNat_natCast]
 have hb:∀k < 64,IntKind.i64.wrap (kY.getD k 0)=kY.getD k 0:=by decide
 rw [hb k hk64]
def tW (b:Nat):Int:=if b=0 then -1 else Jf b
theorem zw (e:pY) (h:tJ e) (bg fg:List Int) (hb:gk e.cls e.back e.backE bg &&& gk e.cls e.fore e.foreE fg < 64):AC Tryz.prog 189 [BM e,.imm 1 (aW bg),.imm 1 (aW fg)] [dN] fun c L=>c=aF (tW (gk e.cls e.back e.backE bg &&& gk e.cls e.fore e.foreE fg))∧L=[dN]:=by
 refine aN Tryz.func189 rfl Tryz.ntmps189 rfl fun B=>?_
 haveI:=AD.mk (CQ e h fg)
 haveI:=AD.mk (Cd e h bg)
 have h1:=w7 e.cls e.back e.backE h.back bg
 have h2:=w7 e.cls e.fore e.foreE h.fore fg
 repeat' (first|refine L3 ?_|refine KG a4 HY ?_|refine bA ?_|fail)
 refine bn 5 [(0,.v),(1,.v),(2,.v),(3,.v),(4,.v)] none ?_ trivial rfl (by kernel_rfl) (by kernel_rfl) (by kernel_rfl) bI (by kernel_rfl) rfl
 repeat' (first|refine aB ?_|refine aX a4 ?_|(apply dh;refine dK ?_)|fail)
 refine KU [10,11,12] HY ?_
 repeat' (first|(apply bF;refine bv ?_)|fail)
 refine rA rfl rfl rfl ?_
 rw [u64_and_nat _ _ h1 h2]
 generalize gk e.cls e.back e.backE bg &&& gk e.cls e.fore e.foreE fg=b at hb ⊢
 repeat' (first|refine L3 ?_|refine KG a4 HY ?_)
 unfold tW
 refine aw rfl (fun h=>?_) (fun h=>?_)
 ·have hb0:b=0:=by have:=Ky h;omega
  rw [if_pos hb0]
  repeat' (first|refine L3 ?_|refine KG a4 HY ?_)
  exact KP HY ⟨rfl,rfl⟩
 ·have hb0:b≠0:=by have:=Kx h;omega
  rw [if_neg hb0]
  repeat' (first|refine L3 ?_|refine KG a4 HY ?_)
  refine b6 [dN] [] (J3 b hb hb0) rfl rfl (Lz _) rfl fun c L1 ⟨hc,hL⟩=>?_
  subst hc;subst hL
  repeat' (first|refine L3 ?_|refine KG a4 HY ?_)
  exact KP HY ⟨rfl,rfl⟩
end Go.Proofs.YtpmdfoaadejmkaaGreatDoor
namespace Go.Proofs.YtpmdfoaadejmkaaGreatDoor
open Go.RowKit
attribute [local irreducible] AT bJ AX AO Av Kt bi dq DA cG
open Go.ChangeShapes Go.WideShapes Go.ChangeAt Go.RowKit
theorem Tryz.own:ownKnob Tryz.prog.godebug=none:=by kernel_rfl
theorem Tryz.laidOut:laidOutB Tryz.prog=true:=by kernel_rfl
theorem Iz:Tryz.prog.globalNamed "math/bits.deBruijn64tab" =some 0:=by kernel_rfl
theorem CS:(Tryz.prog.globals[0]?).map (·.type)=some 364:=by kernel_rfl
theorem Cm:Tryz.prog.cellsOf 364=64:=by kernel_rfl
theorem EW:Tryz.prog.cellsOf 5=1:=by kernel_rfl
theorem HV:(((begin Tryz.prog (fun _ _=>0) default).world.heap)[0]?).bind Obj.row?=some ((List.replicate 64 (Value.int .u8 0)).toArray,364):=by kernel_rfl
def IC:List (String×DataW Unit):=[("math/bits.deBruijn64tab",Lib.tabData .u8 kY)]
theorem zm {W:World} (hL:laidMet Tryz.prog IC W) (hS:W.ShapedOpen Tryz.prog):W.heap[0]?=some (.cells (kY.map (Value.int .u8)).toArray 364 (0,0)):=by
 have h:Lib.TabIs Tryz.prog W "math/bits.deBruijn64tab" .u8 kY:=Lib.tabIs_of_head (rest:=[]) Iz CS Tryz.underlying364 Tryz.underlying5 EW Cm hL
 obtain ⟨cs,h1,_,_⟩:=hS.1 0 _ 364 (Ky (by kernel_rfl)) HV
 unfold Lib.TabIs World.var? at h
 rw [Iz,Option.bind_some,h1] at h
 cases h
 exact h1
def ru (W:World):cr:=fun b off=>if b=0 then none else W.cell? ⟨b,off,none⟩
theorem Gh {σ:cr}:dB σ y9 (kY.map (Value.int .u8)):=by
 unfold y9
 generalize kY=l
 induction l with
 | nil=>exact dB.nil
 | cons x l ih=>exact dB.cons (.sc _) ih
theorem ww {σ:cr} {vs:List Value} (h:dB σ y9 vs):vs=kY.map (Value.int .u8):=by
 unfold y9 at h
 revert vs
 generalize kY=l
 induction l with
 | nil=>
  intro vs h
  exact List.eq_nil_of_length_eq_zero h.1.symm
 | cons x l ih=>
  intro vs h
  obtain ⟨y,u,rfl,h1,h2⟩:=dB.inv h
  rw [h1.sc_inv,ih h2]
  rfl
theorem FF {W:World} (h:W.heap[0]?=some (.cells (kY.map (Value.int .u8)).toArray 364 (0,0))):di ⟨W,ru W,[0]⟩ (ru W) [dN] W:=by
 have h0:0 < W.heap.size:=by
  rcases Nat.lt_or_ge 0 W.heap.size with h' | h'
  ·exact h'
  ·rw [Array.getElem?_eq_none h'] at h;cases h
 refine ⟨rfl,rfl,rfl,Nat.le_refl _,fun _ _ _=>rfl,fun p hp=>?_,fun p hp=>?_,by simp,fun b off u hu=>?_,fun p hp off _=>?_,fun _ _ _ h=>h,fun _ _ _ _=>rfl⟩
 ·rw [Lw hp]
  exact ⟨_,h,_,rfl,Gh,fun u hu=>by
   obtain ⟨z,_,rfl⟩:=List.mem_map.1 hu
   rfl⟩
 ·rw [Lw hp]
  exact .inr (by simp)
 ·unfold ru at hu
  split at hu
  ·cases hu
  ·exact hu
 ·rw [Lw hp]
  rfl
theorem Bq {f:FuncId} {args:List AV} {u:Value} (h:AC Tryz.prog f args [dN] fun c L=>c= .sc u∧L=[dN]) (W:World) (hT:W.heap[0]?=some (.cells (kY.map (Value.int .u8)).toArray 364 (0,0))) (vs:List Value) (hv:dB (ru W) args vs):Calls Tryz.prog f vs.toArray W fun e W'=>∃v,e= .returned v∧Below W.heap.size W W'∧v=u:=
 (h (ru W) W vs hv (FF hT)).mono fun e W' ⟨v,τ,c,L',he,hr,hst,hc,hL⟩=>by
  subst hc
  subst hL
  refine ⟨v,he,⟨hst.os,hst.tape,hst.output,hst.size,fun k hk=>?_⟩,hr.sc_inv⟩
  by_cases h0:k=0
  ·subst h0
   obtain ⟨o,h1,vs',h2,h3,_⟩:=hst.here dN (by simp)
   rw [h1,h2,hT,ww h3]
  ·exact hst.old k hk (by simp [h0])
end Go.Proofs.YtpmdfoaadejmkaaGreatDoor
namespace Go.Proofs.YtpmdfoaadejmkaaGreatDoor
open Go.RowKit
attribute [local irreducible] AT bJ AX AO Av Kt bi dq DA cG
theorem vu:∀{a b:List (List Int)} {gl:List Int},dv (a++b) gl=(dv a gl && dv b (gl.drop a.length))
 | [],b,gl=>by simp [dv]
 | _::_,b,[]=>by simp [dv]
 | s::a,b,g::gl=>by
  rw [Kr,dv,vu,dv,List.length_cons,List.drop_succ_cons,Bool.and_assoc]
def GC (q:List Nat):Nat→List aJ→List aJ
 | _,[]=>[]
 | k,x::r=>if k∈q then GC q (k+1) r else x::GC q (k+1) r
end Go.Proofs.YtpmdfoaadejmkaaGreatDoor
