/-
  States that were met, by their texts: the walk.
-/
import Derived.Test.YtpmdfoaadejmkaaGreatDoorM15
import Derived.Test.YtpmdfoaadejmkaaGreatDoorM12
namespace Go.Proofs.YtpmdfoaadejmkaaGreatDoor
open Go.RowKit
attribute [local irreducible] AT br AX AO Av Kt bb df DA cC
def pg (m r:Nat):List Int:=[m,0,0,0,0,0,0,0,r,0,0,0,0,0,0,0]
def iz (p:Pl):ByteArray:=(pg p.1 p.2).foldl (fun r n=>r.push (UInt8.ofNat n.toNat)) ByteArray.empty
def kf (p:Pl):Prop:=p.1 < 256∧p.2 < 256
theorem wh (p:Pl):(iz p).data.toList=(pg p.1 p.2).map fun n=>UInt8.ofNat n.toNat:=by
 unfold iz
 have:∀(l:List Int) (b:ByteArray),(l.foldl (fun r n=>r.push (UInt8.ofNat n.toNat)) b).data.toList=b.data.toList++l.map fun n=>UInt8.ofNat n.toNat:=by
  intro l
  induction l with
  | nil=>intro b;simp
  | cons x l ih=>intro b;rw [List.foldl_cons,ih];simp [ByteArray.push]
 rw [this]
 rfl
theorem Cb {a b:Nat} (ha:a < 256) (hb:b < 256) (h:UInt8.ofNat a=UInt8.ofNat b):a=b:=by
 have:=congrArg UInt8.toNat h
 simpa [UInt8.toNat_ofNat',Nat.mod_eq_of_lt ha,Nat.mod_eq_of_lt hb] using this
theorem rM {p q:Pl} (hp:kf p) (hq:kf q) (h:iz p=iz q):p=q:=by
 have hd:=congrArg (fun b=>b.data.toList) h
 simp only [wh] at hd
 unfold pg at hd
 simp only [Iq,List.cons.injEq,Int.toNat_natCast] at hd
 exact Prod.ext (Cb hp.1 hq.1 hd.1) (Cb hp.2 hq.2 hd.2.2.2.2.2.2.2.2.1)
def sQ (M:List Pl) (v:Value):Option AV:=match v with
 | .string s=>(M.findIdx? fun p=>decide (iz p=s)).map fun i=>aF (i:Nat)
 | _=>none
theorem DT:sQ []=fun _=>none:=by
 funext v
 unfold sQ
 split <;> rfl
section
variable {M:List Pl} (hM:∀x∈M,kf x) {p:Pl} (hp:kf p)
include hM hp
theorem uv (h:p∈M):sQ M (.string (iz p))=some (aF (M.idxOf p:Nat)):=by
  have hi:=List.idxOf_lt_length_of_mem h
  have:(M.findIdx? fun x=>decide (iz x=iz p))=some (M.idxOf p):=by
    rw [List.findIdx?_eq_some_iff_getElem]
    refine ⟨hi,by simp [List.getElem_idxOf hi],fun j hj=>?_⟩
    have hne:M[j]≠p:=by
      intro e
      have:=List.not_of_lt_findIdx (p:=(·==p)) (xs:=M) hj
      rw [e] at this
      simp at this
    simp only [decide_eq_true_eq]
    exact fun e=>hne (rM (hM _ (List.getElem_mem _)) hp e)
  unfold sQ
  dsimp only
  rw [this]
  rfl
theorem BY (h:p∉M):sQ M (.string (iz p))=none:=by
 have:(M.findIdx? fun x=>decide (iz x=iz p))=none:=by
  rw [List.findIdx?_eq_none_iff]
  intro x hx
  rw [decide_eq_false_iff_not]
  exact fun e=>h (rM (hM x hx) hp e▸hx)
 unfold sQ
 dsimp only
 rw [this]
 rfl
theorem DU (h:p∉M):sQ (M++[p]) (.string (iz p))=some (aF (M.length:Nat)):=by
 rw [uv (fun x hx=>by rw [List.mem_append,List.mem_singleton] at hx;rcases hx with hx | rfl;exact hM x hx;exact hp) hp (by simp),List.idxOf_append,if_neg h,List.idxOf_cons_self,Nat.zero_add]
end
theorem yU {M:List Pl} {p:Pl}:∀v,v≠ .string (iz p)→sQ (M++[p]) v=sQ M v:=by
 intro v hv
 unfold sQ
 split
 ·rename_i s
  have:decide (iz p=s)=false:=by rw [decide_eq_false_iff_not];exact fun e=>hv (by rw [e])
  rw [List.findIdx?_append]
  simp [this]
 ·rfl
def ph (l:List Int):List AV:=l.map fun z=> .sc (.int .u8 z)
def qk (m r i:Nat):List Int:=if i=0 then List.replicate 16 0 else pg m r
theorem GO {m r:Nat} (hm:m < 256) (hr:r < 256) {i:Nat} (hi:i < 8):f4 (f4 (ph (qk m r i)) (0+i * 1) [.sc (.int .u8 (IntKind.u8.wrap ((m:Int) / 2 ^ min (8 * i) IntKind.i64.bits)))]) (0+(8+i) * 1) [.sc (.int .u8 (IntKind.u8.wrap ((r:Int) / 2 ^ min (8 * i) IntKind.u64.bits)))]=ph (qk m r (i+1)):=by
 have h0:∀z:Nat,z < 256→∀k,0 < k→k < 8→IntKind.u8.wrap ((z:Int) / 2 ^ min (8 * k) 64)=0:=by
  intro z hz k hk hk8
  have:(z:Int) / 2 ^ min (8 * k) 64=0:=by
   have e:min (8 * k) 64=8 * k:=by omega
   rw [e]
   have h1:2 ^ 8≤2 ^ (8 * k):=Nat.pow_le_pow_right (by omega) (by omega)
   have h2:z / 2 ^ (8 * k)=0:=Nat.div_eq_of_lt (by omega)
   have h3:(2:Int) ^ (8 * k)=((2 ^ (8 * k):Nat):Int):=(Int.natCast_pow 2 _).symm
   rw [h3,←Int.natCast_ediv,h2]
   rfl
  rw [this]
  decide
 have h1:∀z:Nat,z < 256→IntKind.u8.wrap ((z:Int) / 2 ^ min (8 * 0) 64)=(z:Int):=by
  intro z hz
  rw [Nat.mul_zero,Nat.zero_min,Int.pow_zero,Int.ediv_one,IntKind.wrap_u8]
  omega
 show f4 (f4 _ _ [.sc (.int .u8 (IntKind.u8.wrap ((m:Int) / 2 ^ min (8 * i) 64)))]) _ [.sc (.int .u8 (IntKind.u8.wrap ((r:Int) / 2 ^ min (8 * i) 64)))]=_
 match i,hi with
 | 0,_=>rw [h1 m hm,h1 r hr];rfl
 | 1,_=>rw [h0 m hm 1 (by omega) (by omega),h0 r hr 1 (by omega) (by omega)];rfl
 | 2,_=>rw [h0 m hm 2 (by omega) (by omega),h0 r hr 2 (by omega) (by omega)];rfl
 | 3,_=>rw [h0 m hm 3 (by omega) (by omega),h0 r hr 3 (by omega) (by omega)];rfl
 | 4,_=>rw [h0 m hm 4 (by omega) (by omega),h0 r hr 4 (by omega) (by omega)];rfl
 | 5,_=>rw [h0 m hm 5 (by omega) (by omega),h0 r hr 5 (by omega) (by omega)];rfl
 | 6,_=>rw [h0 m hm 6 (by omega) (by omega),h0 r hr 6 (by omega) (by omega)];rfl
 | 7,_=>rw [h0 m hm 7 (by omega) (by omega),h0 r hr 7 (by omega) (by omega)];rfl
set_option maxHeartbeats 4000000 in
theorem DZ (p:Pl) (hp:kf p):bN Tryz.prog 179 [.agg (lD p)] (.sc (.string (iz p))):=by
 refine aN Tryz.func179 rfl Tryz.ntmps179 rfl fun B=>?_
 obtain ⟨m,r⟩:=p
 obtain ⟨hm,hr⟩:=hp
 dsimp only at hm hr
 repeat' (first|refine If ?_|refine ak ?_|refine IF a5 FN ?_|refine bk ?_|refine bh a5 fun _=>?_|fail)
 rename_i ab
 refine aO [1,3] (α:=Nat) (fun i=>[(5,aF i)]) (fun i=>i≤8) (fun i=>[(ab,.box (ph (qk m r i)) 328)]) (fun i=>8 - i) 0 rfl ⟨rfl,trivial⟩ (Nat.zero_le _) (fun _ _ h=>h) fun i hi=>?_
 try dsimp only [Is,Ir,Iq,Ik]
 repeat' (first|refine If ?_|refine IF a5 FN ?_)
 refine aq rfl (fun h1=>?_) (fun h1=>?_)
 ·have hi8:i < 8:=by have:=Iy h1;omega
  have hst:=GO hm hr hi8
  have hcl:(ph (qk m r i)).length=16:=by unfold ph qk;split <;> rfl
  clear h1
  repeat' (first|refine If ?_|refine ak ?_|refine IF a5 FN ?_|(apply aV;refine aU ?_)|fail)
  refine vS (8 * i) rfl rfl (by rw [Int.natCast_mul];rfl) rfl ?_
  repeat' (first|fail)
  refine oQ a5 rfl rfl rfl rfl rfl rfl ?_
  refine vP a5 i rfl rfl rfl rfl (by omega) rfl ?_
  refine aa a5 0 rfl rfl rfl rfl rfl rfl (Nat.ble_eq_true_of_le (by rw [hcl];show 0+i * 1+1≤16;omega)) ?_
  repeat' (first|refine If ?_|refine IF a5 FN ?_|(apply aV;refine aU ?_)|fail)
  refine vS (8 * i) rfl rfl (by rw [Int.natCast_mul];rfl) rfl ?_
  refine oQ a5 rfl rfl rfl rfl rfl rfl ?_
  refine vP a5 (8+i) rfl rfl rfl (by rw [Iv];rfl) (by omega) rfl ?_
  refine aa a5 0 rfl rfl rfl rfl rfl rfl (Nat.ble_eq_true_of_le (by rw [iv,hcl];show 0+(8+i) * 1+1≤16;omega)) ?_
  repeat' (first|refine If ?_|refine IF a5 FN ?_|(apply aV;refine aU ?_)|fail)
  exact aD (i+1) rfl ⟨by rw [Iv];rfl,trivial⟩ (by omega) (by omega) (fun _ _ h=>by rw [←hst];exact h)
 ·have hi8:i=8:=by have:=Ix h1;omega
  subst hi8
  repeat' (first|refine If ?_|fail)
  refine Bn a5 rfl rfl rfl ?_
  refine Bl a5 0 (pg m r) rfl rfl rfl rfl rfl rfl rfl rfl rfl ?_
  repeat' (first|refine If ?_|refine IF a5 FN ?_)
  refine fb (List.nil_sublist _) ?_
  exact IM IA
end Go.Proofs.YtpmdfoaadejmkaaGreatDoor
namespace Go.Proofs.YtpmdfoaadejmkaaGreatDoor
open Go.RowKit
attribute [local irreducible] AT br AX AO Av Kt bb df DA cC
section
variable {P:Program} {tt:TT} {r:Option Nat} {ops:Array Oper} {Q:Exit→Act→World→Prop} {nt:Nat} {D:List Deferred} {fr:bW} {B:Bs} {L:AL} {rest:List Oper} {d:Nat} {ty t t':TypeId} {pos:String} {af:Array Edge} {x y z:Operand} {u:AV}
theorem Dr (ok:dY P tt) (n:Nat) {e sz by_:Nat} {k k':IntKind} {b:Int} {zs:List Value} (ht:jl tt t=some (e,sz,by_)) (hz:zI tt e=some zs) (hzl:Nat.beq zs.length sz=true) (hx:bc fr x=some (.sc (.int k 0))) (hy:bc fr y=some (.sc (.int k' b))) (hb:b=(n:Int)) (hby:by_ * n≤281474976710656) (h63:n≤9223372036854775807) (hd:Nat.ble nt d=false)
  (h:∀b,br P r ops Q nt D rest ((d,.vec (some (b,n)) sz [])::fr) B ((b,.vec e sz 0 n)::L)):br P r ops Q nt D (⟨some d,.makeSlice t x y,ty,pos,af,none⟩::rest) fr B L:=
 cI hd rfl (zB (bi ok ht).1 (ew ok hz) (Nat.eq_of_beq_eq_true hzl) (bi ok ht).2 hx hy hb hby h63) fun c L' ⟨b,h1,h2⟩=>by subst h1;subst h2;exact h b
end
def sq (nb kb mb:Nat) (M:List Pl) (q:Option (Nat×Nat)):AL:=(nb,.box [.sc (.map (some kb))] 129)::(kb,cN .string (sQ M))::(mb,.box [.vec q 2 (M.map lD)] 259)::tok q 261 2 M.length
def Ck (nb kb mb:Nat) (M:List Pl) (u:AV):AV→AL→Prop:=fun c L=>c=u∧∃q,L=sq nb kb mb M q
set_option maxHeartbeats 4000000 in
theorem wW (nb kb mb:Nat) (M:List Pl) (hM:∀x∈M,kf x) (hl:M.length≤1000000) (q:Option (Nat×Nat)) (p:Pl) (hp:kf p):AC Tryz.prog 178 ([.agg (lD p)]++[fT nb,fT mb]) (sq nb kb mb M q) (Ck nb kb mb (dN M p) (aF ((dN M p).idxOf p:Nat))):=by
 refine aN Tryz.func178 rfl Tryz.ntmps178 rfl fun B=>?_
 haveI:=AD.mk (DZ p hp)
 have hml:(M.map lD).length=M.length:=Iu ..
 unfold sq
 repeat' (first|refine If ?_|refine IF a5 FN ?_|(apply bw;first|refine II a5 0 IC ?_|refine II a5 1 IC ?_|refine II a5 2 IC ?_|refine II a5 3 IC ?_|refine IJ a5 0 IC ?_|refine IJ a5 1 IC ?_|refine IJ a5 2 IC ?_|refine IK a5 1 IA (by assumption) rfl ?_|refine IK a5 0 IA (by assumption) rfl ?_|fail)|refine bk ?_|(apply bv;refine bn ?_)|fail)
 refine hZ 1 (.int .i64 0) Tryz.underlying129 Tryz.underlying9 rfl rfl trivial rfl (by kernel_rfl) rfl ?_
 by_cases hm:p∈M
 ·have hg:=uv hM hp hm
  have ht:=fD hm
  rw [hg,ht]
  repeat' (first|refine If ?_|refine IF a5 FN ?_|refine bI rfl ?_)
  exact IL FN ⟨rfl,q,rfl⟩
 ·have hg:=BY hM hp hm
  have hpu:=DU hM hp hm
  have ht:=gi hm
  have hn:=mO hm
  rw [hg]
  repeat' (first|refine If ?_|refine IF a5 FN ?_|(apply bw;first|refine II a5 0 IC ?_|refine II a5 1 IC ?_|refine II a5 2 IC ?_|refine II a5 3 IC ?_|refine IJ a5 0 IC ?_|refine IJ a5 1 IC ?_|refine IJ a5 2 IC ?_|refine IK a5 1 IA (by assumption) rfl ?_|refine IK a5 0 IA (by assumption) rfl ?_|fail)|refine bQ rfl ?_)
  refine dU 1 (sQ (M++[p])) Tryz.underlying129 Tryz.underlying9 rfl rfl trivial (by rw [hml];rfl) rfl hpu yU ?_
  repeat' (first|refine If ?_|refine IF a5 FN ?_|(apply bw;first|refine II a5 0 IC ?_|refine II a5 1 IC ?_|refine II a5 2 IC ?_|refine II a5 3 IC ?_|refine IJ a5 0 IC ?_|refine IJ a5 1 IC ?_|refine IJ a5 2 IC ?_|refine IK a5 1 IA (by assumption) rfl ?_|refine IK a5 0 IA (by assumption) rfl ?_|fail)|refine bG a5 ?_|fail)
  refine bJ a5 [(nb,.box [.sc (.map (some kb))] 129),(kb,cN .string (sQ (M++[p]))),(mb,.box [.vec q 2 (M.map lD)] 259)] rfl rfl rfl rfl ?_ (by rw [hml];simp;omega) (by rw [hml];simp;omega) rfl fun q'=>?_
  ·rw [hml]
   exact List.perm_append_comm (l₁:=[_,_,_])
  have hsn:M.map lD++[lD p]=(M++[p]).map lD:=by rw [List.map_append];rfl
  refine aJ (aI (L':=(nb,.box [.sc (.map (some kb))] 129)::(kb,cN .string (sQ (M++[p])))::(mb,.box [.vec q 2 (M.map lD)] 259)::tok q' 261 2 (M.map lD++[lD p]).length) (List.perm_append_comm (l₂:=[_,_,_]))) ?_
  repeat' (first|refine If ?_|refine IF a5 FN ?_|(apply aM;first|refine IG a5 0 ID ?_|refine IG a5 1 ID ?_|refine IG a5 2 ID ?_|refine IG a5 3 ID ?_|fail))
  refine IL FN ⟨?_,q',?_⟩
  ·rw [hml,hn]
  ·rw [ht,hsn,Iu]
   unfold sq
   rw [←hsn]
   rfl
theorem xB (r:b8):bN Tryz.prog 185 [.agg (bA r)] (.tup [.imm 1 (b7 r.Back),ej true]):=by
 refine aN Tryz.func185 rfl Tryz.ntmps185 rfl fun B=>?_
 repeat' (first|refine If ?_|refine IF a5 FN ?_|refine bk ?_|fail)
 exact aX rfl rfl rfl rfl
set_option maxHeartbeats 4000000 in
theorem y5 (r:b8) (h1:r.In.length≤1000000) (h2:r.Ahead.length≤1000000):bN Tryz.prog 184 [.agg (bA r)] (.tup [.imm 1 (b7 (dz r)),ej (!r.In.isEmpty)]):=by
 refine aN Tryz.func184 rfl Tryz.ntmps184 rfl fun B=>?_
 have hil:=cq r.In
 have hal:=cq r.Ahead
 repeat' (first|refine If ?_|refine IF a5 FN ?_|refine bk ?_|fail)
 refine aq rfl (fun h=>?_) (fun h=>?_)
 ·have hz:r.In=[]:=List.eq_nil_of_length_eq_zero (by have:=Iy h;omega)
  unfold dz
  rw [hz]
  clear h
  repeat' (first|refine If ?_|refine IF a5 FN ?_)
  refine bf (bO (t:=2) (c':= .imm 1 []) rfl fun σ v h=>gZ 1 h) ?_
  exact aX rfl rfl rfl rfl
 ·have hz:r.In≠[]:=fun e=>by have:=Ix h;rw [hil,e] at this;simp at this
  have he:r.In.isEmpty=false:=by cases hr:r.In;exact absurd hr hz;rfl
  unfold dz
  rw [he]
  clear h
  repeat' (first|refine If ?_|refine IF a5 FN ?_|(apply aV;refine aU ?_)|fail)
  refine Dr a5 (r.In.length+r.Ahead.length) rfl rfl rfl rfl rfl (by rw [hil,hal,Iv]) (by omega) (by omega) rfl fun b=>?_
  repeat' (first|refine If ?_|refine IF a5 FN ?_)
  refine bJ a5 [] rfl rfl rfl rfl (by rw [List.append_nil];exact Io _) (by simp;omega) (by simp;omega) rfl fun q1=>?_
  repeat' (first|refine If ?_|refine IF a5 FN ?_)
  refine bJ a5 [] rfl rfl rfl rfl (Io _) (by simp;omega) (by simp;omega) rfl fun q2=>?_
  repeat' (first|refine If ?_|refine IF a5 FN ?_)
  have hra:b7 (r.In++r.Ahead)=[]++b7 r.In++b7 r.Ahead:=by simp [b7]
  refine bf (bO (t:=2) (c':= .imm 1 (b7 (r.In++r.Ahead))) rfl fun σ v h=>by rw [hra];exact VR.im h) ?_
  refine fb (List.nil_sublist _) ?_
  exact aX rfl rfl rfl rfl
end Go.Proofs.YtpmdfoaadejmkaaGreatDoor
namespace Go.Proofs.YtpmdfoaadejmkaaGreatDoor
open Go.RowKit
attribute [local irreducible] AT br AX AO Av Kt bb df DA cC
abbrev v6 (rs:List b8) (cls:List Int):List AV:=[.imm 6 (rs.map bA),.imm 1 (aT cls)]
def jI (w:b8→List (List Int)×Bool) (rs:List b8) (n:Nat):Bool:=match rs[n]? with
 | some r=>(w r).2
 | none=>false
def q9 (w:b8→List (List Int)×Bool) (rs:List b8) (cls:List Int):RD:=⟨rs.map fun r=>(w r).1,ca (jI w rs) rs.length,cls,(gn cls).toNat⟩
theorem w4 (l:List (List (List Int))) (r:List (List Int)):jh l++[[.imm 1 (b7 r)]]=jh (l++[r]):=by simp [jh]
theorem vM {l:List Int} {k:Nat} {z:Int} (h:l[k]?=some z):gn (l.take (k+1))=max (gn (l.take k)) (z+1):=by
 unfold gn
 rw [List.take_add_one,h]
 simp
set_option maxHeartbeats 8000000 in
theorem pk (w:b8→List (List Int)×Bool) (u:AV) (rs:List b8) (hrs:rs.length≤6) (hw:∀r∈rs,jo Tryz.prog u [.agg (bA r)] [] fun c _=>c= .tup [.imm 1 (b7 (w r).1),ej (w r).2]) (cls:List Int) (hcl:∀z∈cls,0≤z∧z≤1000000) (hcl2:cls.length≤1000000):AC Tryz.prog 183 [.agg (v6 rs cls),u] [] fun c L=>∃rb,c=fT rb∧L=eQ (q9 w rs cls) rb 0 none:=by
 refine aN Tryz.func183 rfl Tryz.ntmps183 rfl fun B=>?_
 have hrl:(rs.map bA).length=rs.length:=Iu ..
 have hil:=aZ cls
 repeat' (first|refine If ?_|refine ak ?_|refine IF a5 FN ?_|refine wX (d:=15) fun _=>?_|refine bk ?_|fail)
 rename_i rb
 refine bP (bo 0 (cs':=[.vec none 1 [],iW 0,.imm 1 (aT cls),aF 0,.vec none 2 []]) rfl fun σ vs h=>lX.vrs (a:=[.sc (.slice none 0 0),iW 0,.imm 1 (aT cls),aF 0,.sc (.slice none 0 0)]) (b:=[.vec none 1 [],iW 0,.imm 1 (aT cls),aF 0,.vec none 2 []]) ⟨fun σ v h=>cJ 1 h,cP.refl _,cP.refl _,cP.refl _,fun σ v h=>cJ 2 h,trivial⟩ h) ?_
 refine aO [1,2,5,17,18] (α:=Nat×Option (Nat×Nat)) (fun s=>[(19,aF s.1)]) (fun s=>s.1≤rs.length) (fun s=>(rb,.box [.vec s.2 1 (jh ((rs.take s.1).map fun r=>(w r).1)),iW (ca (jI w rs) s.1),.imm 1 (aT cls),aF 0,.vec none 2 []] 268)::tok s.2 45 1 s.1) (fun s=>rs.length - s.1) (0,none) rfl ⟨rfl,trivial⟩ (Nat.zero_le _) (fun _ _ h=>h) ?_
 ·rintro ⟨n,q⟩ hn
  dsimp only at hn ⊢
  try dsimp only [Is,Ir,Iq,Ik]
  repeat' (first|refine If ?_|refine IF a5 FN ?_)
  refine aq rfl (fun h1=>?_) (fun h1=>?_)
  ·have hn2:n < rs.length:=by have:=Iy h1;omega
   obtain ⟨r,hr⟩:∃z,rs[n]?=some z:=⟨_,Iz hn2⟩
   have hrg:(rs.map bA)[n]?=some (bA r):=by simp [hr]
   have hwr:=hw r (Iw hr)
   have htk:((rs.take (n+1)).map fun r=>(w r).1)=((rs.take n).map fun r=>(w r).1)++[(w r).1]:=by rw [List.take_add_one,hr];simp
   have hbit:ca (jI w rs) (n+1)=ca (jI w rs) n ||| (if (w r).2=true then 2 ^ n else 0):=by
    rw [ca]
    unfold jI
    rw [hr]
   have hml:(jh ((rs.take n).map fun r=>(w r).1)).length=n:=by rw [rD,Iu,List.length_take];omega
   have hsn:=w4 ((rs.take n).map fun r=>(w r).1) (w r).1
   rw [←htk] at hsn
   have hb1:=na (p:=jI w rs) (n:=n) (by omega)
   have hb2:=Ef (n:=n) (by omega)
   have hub:=xh n (by omega)
   generalize jh ((rs.take n).map fun r=>(w r).1)=l3 at *
   clear h1
   repeat' (first|refine If ?_|refine ak ?_|refine IF a5 FN ?_|(apply aS;first|refine aR a5 ?_|refine aH a5 ?_)|(apply aM;first|refine IH 7 a5 0 IE ?_|refine IH 7 a5 1 IE ?_|refine IH 7 a5 2 IE ?_|refine IG a5 0 ID ?_|refine IG a5 1 ID ?_|refine IG a5 2 ID ?_|refine IG a5 3 ID ?_|fail)|refine bh a5 fun _=>?_|fail)
   refine iK [] ((rb,.box [.vec q 1 l3,iW (ca (jI w rs) n),.imm 1 (aT cls),aF 0,.vec none 2 []] 268)::tok q 45 1 n) hwr rfl rfl (Io _) rfl rfl fun c L1 hc=>?_
   subst hc
   refine aJ (bM (List.sublist_append_right ..)) ?_
   repeat' (first|refine If ?_|refine IF a5 FN ?_|(apply bw;first|refine II a5 0 IC ?_|refine II a5 1 IC ?_|refine II a5 2 IC ?_|refine II a5 3 IC ?_|refine IJ a5 0 IC ?_|refine IJ a5 1 IC ?_|refine IJ a5 2 IC ?_|refine IK a5 1 IA (by assumption) rfl ?_|refine IK a5 0 IA (by assumption) rfl ?_|fail)|refine bG a5 ?_|fail)
   refine bJ a5 [(rb,.box [.vec q 1 l3,iW (ca (jI w rs) n),.imm 1 (aT cls),aF 0,.vec none 2 []] 268)] rfl rfl rfl rfl (by rw [hml];exact List.perm_append_comm (l₁:=[_])) (by rw [hml];simp;omega) (by rw [hml];simp;omega) rfl fun q'=>?_
   refine aJ (aI (L':=(rb,.box [.vec q 1 l3,iW (ca (jI w rs) n),.imm 1 (aT cls),aF 0,.vec none 2 []] 268)::tok q' 45 1 (n+1)) (by rw [List.length_append,hml];exact List.perm_append_comm (l₂:=[_]))) ?_
   repeat' (first|refine If ?_|refine IF a5 FN ?_|(apply aM;first|refine IH 7 a5 0 IE ?_|refine IH 7 a5 1 IE ?_|refine IH 7 a5 2 IE ?_|refine IG a5 0 ID ?_|refine IG a5 1 ID ?_|refine IG a5 2 ID ?_|refine IG a5 3 ID ?_|fail))
   refine aq rfl (fun h1=>?_) (fun h1=>?_)
   ·rw [if_pos h1] at hbit
    repeat' (first|fail)
    refine bz 6 [(0,.v),(1,.v),(2,.v),(3,.l),(4,.v),(5,.v)] none ?_ trivial rfl (by kernel_rfl) (by kernel_rfl) (by kernel_rfl) bT (by kernel_rfl) rfl
    repeat' (first|refine aC ?_|refine b6 a5 ?_|refine bZ a5 0 rfl rfl rfl rfl (by first|trivial|rfl) ?_)
    refine vh n rfl rfl rfl trivial ?_
    repeat' (first|fail)
    refine IQ [1,2,5,17,18,19,41,44,46] FN ?_
    refine sr rfl rfl rfl ?_
    rw [hub,u64_or_nat _ _ hb1 hb2,←hbit]
    repeat' (first|refine If ?_|refine IF a5 FN ?_|(apply aV;refine aU ?_)|(apply aM;first|refine IH 7 a5 0 IE ?_|refine IH 7 a5 1 IE ?_|refine IH 7 a5 2 IE ?_|refine IG a5 0 ID ?_|refine IG a5 1 ID ?_|refine IG a5 2 ID ?_|refine IG a5 3 ID ?_|fail))
    exact aD (n+1,q') rfl ⟨by rw [Iv];rfl,trivial⟩ hn2 (by dsimp only;omega) (fun _ _ h=>by dsimp only;rw [←hsn];exact h)
   ·rw [if_neg (by rw [h1];decide),Nat.or_zero] at hbit
    repeat' (first|refine If ?_|refine IF a5 FN ?_|(apply aV;refine aU ?_)|fail)
    exact aD (n+1,q') rfl ⟨by rw [Iv];rfl,trivial⟩ hn2 (by dsimp only;omega) (fun _ _ h=>by dsimp only;rw [←hsn,hbit];exact h)
  ·have hn2:n=rs.length:=by have:=Ix h1;omega
   subst hn2
   rw [List.take_length]
   clear h1
   repeat' (first|refine If ?_|refine ak ?_|refine IF a5 FN ?_)
   refine aO [5,52,53] (α:=Nat) (fun k=>[(54,aF k)]) (fun k=>k≤cls.length) (fun k=>(rb,.box [.vec q 1 (jh (rs.map fun r=>(w r).1)),iW (ca (jI w rs) rs.length),.imm 1 (aT cls),aF (gn (cls.take k)),.vec none 2 []] 268)::tok q 45 1 rs.length) (fun k=>cls.length - k) 0 rfl ⟨rfl,trivial⟩ (Nat.zero_le _) (fun _ _ h=>h) fun k hk=>?_
   try dsimp only [Is,Ir,Iq,Ik]
   repeat' (first|refine If ?_|refine IF a5 FN ?_)
   refine aq rfl (fun h1=>?_) (fun h1=>?_)
   ·have hk2:k < cls.length:=by have:=Iy h1;omega
    obtain ⟨z,hz⟩:∃z,cls[k]?=some z:=⟨_,Iz hk2⟩
    have hzg:=bR hz
    have hzb:=hcl z (Iw hz)
    have hmc:=vM hz
    clear h1
    repeat' (first|refine If ?_|refine ak ?_|refine IF a5 FN ?_|(apply bw;first|refine II a5 0 IC ?_|refine II a5 1 IC ?_|refine II a5 2 IC ?_|refine II a5 3 IC ?_|refine IJ a5 0 IC ?_|refine IJ a5 1 IC ?_|refine IJ a5 2 IC ?_|refine IK a5 1 IA (by assumption) rfl ?_|refine IK a5 0 IA (by assumption) rfl ?_|fail)|(apply aV;refine aU ?_)|(apply aS;first|refine aR a5 ?_|refine aH a5 ?_)|(apply aM;first|refine IH 7 a5 0 IE ?_|refine IH 7 a5 1 IE ?_|refine IH 7 a5 2 IE ?_|refine IG a5 0 ID ?_|refine IG a5 1 ID ?_|refine IG a5 2 ID ?_|refine IG a5 3 ID ?_|fail))
    exact aD (k+1) rfl ⟨by rw [Iv];rfl,trivial⟩ hk2 (by omega) (fun _ _ h=>by rw [hmc];exact h)
   ·have hk2:k=cls.length:=by have:=Ix h1;omega
    subst hk2
    rw [List.take_length]
    clear h1
    repeat' (first|refine If ?_|refine IF a5 FN ?_)
    have hC:(gn cls)=(((gn cls).toNat:Nat):Int):=by have:=(pL (l:=cls) (m:=0)).1;unfold gn;omega
    refine bf (bo 0 (cs':=CH (q9 w rs cls) (.vec none 2 (yh (q9 w rs cls) 0))) rfl fun σ vs h=>lX.vrs (a:=[.vec q 1 (jh (rs.map fun r=>(w r).1)),iW (ca (jI w rs) rs.length),.imm 1 (aT cls),aF (gn cls),.vec none 2 []]) (b:=CH (q9 w rs cls) (.vec none 2 (yh (q9 w rs cls) 0))) ⟨fun σ v h=>VR.im h,cP.refl _,cP.refl _,by unfold q9;dsimp only;rw [←hC];exact cP.refl _,cP.refl _,trivial⟩ h) ?_
    refine fb (L':=eQ (q9 w rs cls) rb 0 none) (List.sublist_append_left [_] _) ?_
    exact IL FN ⟨rb,rfl,rfl⟩
def nY (r:b8):List (List Int)×Bool:=(dz r, !r.In.isEmpty)
def pd (r:b8):List (List Int)×Bool:=(r.Back,true)
structure zh (rs:List b8) (cls:List Int):Prop where
 few:rs.length≤6
 dom:∀z∈cls,0≤z∧z≤1000000
 len:cls.length≤1000000
 rows:∀r∈rs,r.In.length≤1000000∧r.Ahead.length≤1000000
theorem Ay {rs:List b8} {cls:List Int} (h:zh rs cls):AC Tryz.prog 100 [.agg (v6 rs cls)] [] fun c L=>∃rb,c=fT rb∧L=eQ (q9 nY rs cls) rb 0 none:=by
 refine aN Tryz.func100 rfl Tryz.ntmps100 rfl fun B=>?_
 have hc:=pk nY (.sc (.func (.func 184) #[] #[])) rs h.few (fun r hr=>jo.fn0 (f:=184) (by rw [List.append_nil];exact y5 r (h.rows r hr).1 (h.rows r hr).2)) cls h.dom h.len
 repeat' (first|refine If ?_|refine IF a5 FN ?_|refine bk ?_|fail)
 refine b9 [] [] hc rfl rfl (Io _) rfl fun c L1 ⟨rb,hc1,hL⟩=>?_
 subst hc1;subst hL
 repeat' (first|refine If ?_|refine IF a5 FN ?_)
 exact IL FN ⟨rb,rfl,by rw [List.append_nil]⟩
theorem zN {rs:List b8} {cls:List Int} (h:zh rs cls):AC Tryz.prog 101 [.agg (v6 rs cls)] [] fun c L=>∃rb,c=fT rb∧L=eQ (q9 pd rs cls) rb 0 none:=by
 refine aN Tryz.func101 rfl Tryz.ntmps101 rfl fun B=>?_
 have hc:=pk pd (.sc (.func (.func 185) #[] #[])) rs h.few (fun r _=>jo.fn0 (f:=185) (by rw [List.append_nil];exact xB r)) cls h.dom h.len
 repeat' (first|refine If ?_|refine IF a5 FN ?_|refine bk ?_|fail)
 refine b9 [] [] hc rfl rfl (Io _) rfl fun c L1 ⟨rb,hc1,hL⟩=>?_
 subst hc1;subst hL
 repeat' (first|refine If ?_|refine IF a5 FN ?_)
 exact IL FN ⟨rb,rfl,by rw [List.append_nil]⟩
structure SS where
 M:List Pl
 q:Option (Nat×Nat)
 k:Nat
 qr:Option (Nat×Nat)
abbrev nu (R:RD) (nb kb mb rb:Nat) (s:SS) (X:AL):AL:=(nb,.box [.sc (.map (some kb))] 129)::(kb,cN .string (sQ s.M))::(mb,.box [.vec s.q 2 (s.M.map lD)] 259)::qb R rb s.k s.qr::(tok s.q 261 2 s.M.length++(tok s.qr 330 2 s.k++X))
theorem sb {R:RD} {nb kb mb rb:Nat} {s:SS} {X:AL}:(nu R nb kb mb rb s X).Perm (sq nb kb mb s.M s.q++(qb R rb s.k s.qr::(tok s.qr 330 2 s.k++X))):=by
 unfold sq
 refine List.Perm.cons _ (List.Perm.cons _ (List.Perm.cons _ ?_))
 exact (List.perm_middle (l₁:=tok s.q 261 2 s.M.length)).symm
theorem mn {R:RD} {nb kb mb rb:Nat} {s:SS} {X:AL}:(nu R nb kb mb rb s X).Perm (eQ R rb s.k s.qr++((nb,.box [.sc (.map (some kb))] 129)::(kb,cN .string (sQ s.M))::(mb,.box [.vec s.q 2 (s.M.map lD)] 259)::(tok s.q 261 2 s.M.length++X))):=by
 have h1:(nu R nb kb mb rb s X).Perm (qb R rb s.k s.qr::([(nb,.box [.sc (.map (some kb))] 129),(kb,cN .string (sQ s.M)),(mb,.box [.vec s.q 2 (s.M.map lD)] 259)]++(tok s.q 261 2 s.M.length++(tok s.qr 330 2 s.k++X)))):=List.perm_middle (l₁:=[_,_,_])
 refine h1.trans (List.Perm.cons _ ?_)
 rw [←List.append_assoc]
 refine (List.perm_append_comm_assoc _ (tok s.qr 330 2 s.k) X).trans ?_
 rw [List.append_assoc]
 exact Io _
theorem tQ {R:RD} {nb kb mb rb:Nat} {s:SS} {X:AL} {a:Nat×AB}:(a::nu R nb kb mb rb s X).Perm (sq nb kb mb s.M s.q++(a::qb R rb s.k s.qr::(tok s.qr 330 2 s.k++X))):=(List.Perm.cons a sb).trans List.perm_middle.symm
theorem tR {R:RD} {nb kb mb rb:Nat} {s:SS} {X:AL} {a:Nat×AB}:(a::nu R nb kb mb rb s X).Perm (eQ R rb s.k s.qr++(a::(nb,.box [.sc (.map (some kb))] 129)::(kb,cN .string (sQ s.M))::(mb,.box [.vec s.q 2 (s.M.map lD)] 259)::(tok s.q 261 2 s.M.length++X))):=(List.Perm.cons a mn).trans List.perm_middle.symm
theorem Ho {a b c:Nat×AB} {X:AL}:(a::b::c::X).Perm (b::c::a::X):=(List.Perm.swap b a _).trans (.cons b (List.Perm.swap c a _))
theorem Hr {A T1 T2 T R:AL}:(A++(T1++(T2++(T++R)))).Perm (T++(A++(T1++(T2++R)))):=by
 rw [←List.append_assoc T1,←List.append_assoc A,←List.append_assoc T1 T2 R,←List.append_assoc A (T1++T2) R]
 exact List.perm_append_comm_assoc ..
theorem Hs {A T1 T2 T3 T4:AL}:(A++(T1++(T2++(T3++T4)))).Perm (T4++(A++(T1++(T2++T3)))):=by
 rw [←List.append_assoc T2,←List.append_assoc T1,←List.append_assoc A]
 exact List.perm_append_comm
abbrev Gn (R:RD) (nb kb mb rb:Nat) (s:SS):AL:=[(nb,.box [.sc (.map (some kb))] 129),(kb,cN .string (sQ s.M)),(mb,.box [.vec s.q 2 (s.M.map lD)] 259),qb R rb s.k s.qr]
theorem wM {R:RD} {nb kb mb rb:Nat} {s:SS} {T X:AL}:(nu R nb kb mb rb s (T++X)).Perm (T++nu R nb kb mb rb s X):=Hr (A:=Gn R nb kb mb rb s)
theorem wL {R:RD} {nb kb mb rb:Nat} {s:SS} {T X:AL}:(nu R nb kb mb rb s (T++X)).Perm (X++nu R nb kb mb rb s T):=Hs (A:=Gn R nb kb mb rb s)
structure HD where
 s:SS
 tab:List (List Int)
 qt:Option (Nat×Nat)
 ends:List Nat
 qe:Option (Nat×Nat)
abbrev I9 (t:HD):AL:=tok t.qt 22 1 t.tab.length++tok t.qe 246 1 t.ends.length
theorem o9 {M:List Pl} {n:Nat} {p:Pl} (h:M[n]?=some p):(M.map lD)[n]?=some (lD p):=by simp [h]
structure zi (R:RD) (hv:Nat→Bool) (Lb:Nat):Prop where
 ok:zb R
 has:R.have_=ca hv R.rows.length
 long:∀r∈R.rows,r.length≤Lb
 few:Lb≤200
theorem zi.small {R:RD} {hv:Nat→Bool} {Lb:Nat} (h:zi R hv Lb) {M:List Pl} (hs:iV R.rows hv Lb M):(∀x∈M,kf x)∧M.length≤20000:=by
 have hf:=h.few
 have hr:=h.ok.few
 have h64:2 ^ R.rows.length≤64:=Nat.pow_le_pow_right (n:=2) (by omega) hr
 constructor
 ·intro x hx
  obtain ⟨h1,h2⟩:=hs.small x hx
  exact ⟨by omega,by omega⟩
 ·have:=hs.few
  have h3:(Lb+1) * 2 ^ R.rows.length≤201 * 64:=Nat.mul_le_mul (by omega) h64
  omega
set_option maxHeartbeats 16000000 in
theorem rI (R:RD) (hv:Nat→Bool) (Lb:Nat) (h:zi R hv Lb) (u:AV) (hu:jo Tryz.prog u [] [] fun c L=>∃rb,c=fT rb∧L=eQ R rb 0 none):AC Tryz.prog 99 [u] [] fun c _=>∃tab ends,qN R.cls R.rows hv R.C tab ends∧c= .tup [.imm 1 (b7 tab),.imm 1 (gk ends),ej true]:=by
 refine aN Tryz.func99 rfl Tryz.ntmps99 rfl fun B=>?_
 repeat' (first|refine If ?_|refine IF a5 FN ?_)
 refine iK [] [] hu rfl rfl (Io _) rfl rfl fun c L1 ⟨rb,hc,hL⟩=>?_
 subst hc;subst hL
 repeat' (first|refine If ?_|refine IF a5 FN ?_)
 refine fO .string fun kb=>?_
 repeat' (first|refine If ?_|refine IF a5 FN ?_|(apply aM;first|refine IH 12 a5 0 IE ?_|refine IH 12 a5 1 IE ?_|refine IH 12 a5 2 IE ?_|refine IG a5 0 ID ?_|refine IG a5 1 ID ?_|refine IG a5 2 ID ?_|refine IG a5 3 ID ?_|fail)|refine bh a5 fun _=>?_|fail)
 rename_i nb mb
 have hok:=h.ok
 obtain ⟨hCm,hNm⟩:=hok.many
 refine aJ (bo 0 (cs':=[.vec none 2 []]) rfl fun σ vs hh=>lX.vrs (a:=[.sc (.slice none 0 0)]) (b:=[.vec none 2 []]) ⟨fun σ v h=>cJ 2 h,trivial⟩ hh) ?_
 refine aJ (aI (L':=nu R nb kb mb rb ⟨[],none,0,none⟩ []) (by unfold nu;rw [DT];exact Ho)) ?_
 refine b9 (eQ R rb 0 none) _ (yC R rb 0 none (by omega)) rfl rfl mn rfl fun c L1 ⟨hc,k0,qr0,hk0,hL⟩=>?_
 subst hc;subst hL
 refine aJ (aI (L':=nu R nb kb mb rb ⟨[],none,k0,qr0⟩ []) (mn (s:=⟨[],none,k0,qr0⟩)).symm) ?_
 have hst0:iV R.rows hv Lb [((0,R.have_):Pl)]:=by
  have:=iV.start (rows:=R.rows) (have_:=hv) (L:=Lb)
  unfold lG at this
  rwa [←h.has] at this
 have hsm0:=(h.small hst0).1 (0,R.have_) (by simp)
 have hme0:=wW nb kb mb [] (fun x hx=>by cases hx) (by simp) none (0,R.have_) hsm0
 repeat' (first|fail)
 refine iK (sq nb kb mb [] none) _ (jo.fn (f:=178) (caps:=[fT nb,fT mb]) hme0) rfl rfl sb rfl rfl fun c L1 ⟨hc,q0,hL⟩=>?_
 subst hc;subst hL
 refine aJ (aI (L':=nu R nb kb mb rb ⟨[(0,R.have_)],q0,k0,qr0⟩ []) (sb (s:=⟨[(0,R.have_)],q0,k0,qr0⟩)).symm) ?_
 repeat' (first|refine If ?_|refine ak ?_|refine IF a5 FN ?_)
 refine bP (bO (t:=2) (c':= .vec none 1 (b7 [])) rfl fun σ v h=>cJ 1 h) ?_
 refine bP (bO (t:=3) (c':= .vec none 1 (gk [])) rfl fun σ v h=>cJ 1 h) ?_
 refine aO [5,7,8] (α:=HD) (fun t=>[(9,aF t.tab.length),(2,.vec t.qt 1 (b7 t.tab)),(3,.vec t.qe 1 (gk t.ends))]) (fun t=>iV R.rows hv Lb t.s.M∧gq R.cls R.rows R.C t.s.M t.tab t.ends∧t.tab.length≤t.s.M.length∧t.s.k≤1000001) (fun t=>nu R nb kb mb rb t.s (I9 t)) (fun t=>20000 - t.tab.length) ⟨⟨[(0,R.have_)],q0,k0,qr0⟩,[],none,[],none⟩ rfl ⟨rfl,rfl,rfl,trivial⟩ ⟨hst0,gq.nil,Nat.zero_le _,hk0⟩ (fun _ _ hh=>hh) ?_
 rintro ⟨⟨M,q,k,qr⟩,tab,qt,ends,qe⟩ ⟨hst,htb,htl,hk⟩
 dsimp only at hst htb htl hk ⊢
 try dsimp only [Is,Ir,Iq,Ik]
 have hml:(M.map lD).length=M.length:=Iu ..
 obtain ⟨hsm,hM2⟩:=h.small hst
 repeat' (first|refine If ?_|refine IF a5 FN ?_|(apply bw;first|refine II a5 0 IC ?_|refine II a5 1 IC ?_|refine II a5 2 IC ?_|refine II a5 3 IC ?_|refine IJ a5 0 IC ?_|refine IJ a5 1 IC ?_|refine IJ a5 2 IC ?_|refine IK a5 1 IA (by assumption) rfl ?_|refine IK a5 0 IA (by assumption) rfl ?_|fail)|fail)
 refine aq rfl (fun h1=>?_) (fun h1=>?_)
 ·have hn2:tab.length < M.length:=by have h1':(tab.length:Int) < ((M.map lD).length:Int):=Iy h1;omega
  obtain ⟨p,hp⟩:∃p,M[tab.length]?=some p:=⟨_,Iz hn2⟩
  clear h1
  repeat' (first|refine If ?_|refine ak ?_|refine IF a5 FN ?_|(apply bw;first|refine II a5 0 IC ?_|refine II a5 1 IC ?_|refine II a5 2 IC ?_|refine II a5 3 IC ?_|refine IJ a5 0 IC ?_|refine IJ a5 1 IC ?_|refine IJ a5 2 IC ?_|refine IK a5 1 IA (by assumption) rfl ?_|refine IK a5 0 IA (by assumption) rfl ?_|fail)|fail)
  refine kL a5 R.C rfl rfl rfl rfl rfl rfl rfl (by omega) (by omega) rfl fun rwb=>?_
  rw [show (List.replicate R.C (List.map AV.sc [Value.int .i64 0])).flatten=dp (List.replicate R.C 0) from nV R.C]
  repeat' (first|refine If ?_|refine ak ?_|refine IF a5 FN ?_)
  refine aO [2,3,5,7,8,9,10,33] (α:=Nat×SS×List Int) (fun t=>[(34,aF t.1)]) (fun t=>t.1≤R.C∧iV R.rows hv Lb t.2.1.M∧gq R.cls R.rows R.C t.2.1.M tab ends∧t.2.1.M[tab.length]?=some p∧t.2.2.length=R.C∧t.2.1.k≤1000001∧∀(c:Nat) z,c < t.1→t.2.2[c]?=some z→iM R.cls R.rows t.2.1.M p c z) (fun t=>(rwb,.box (dp t.2.2) 3)::nu R nb kb mb rb t.2.1 (tok qt 22 1 tab.length++tok qe 246 1 ends.length)) (fun t=>R.C - t.1) (0,⟨M,q,k,qr⟩,List.replicate R.C 0) rfl ⟨rfl,trivial⟩ ⟨Nat.zero_le _,hst,htb,hp,by simp,hk,fun c z hc=>by omega⟩ (fun _ _ hh=>hh) ?_
  ·rintro ⟨c,⟨M1,q1,k1,qr1⟩,eF⟩ ⟨hc,hst1,htb1,hp1,hrl,hk1,hce⟩
   dsimp only at hc hst1 htb1 hp1 hrl hk1 hce ⊢
   try dsimp only [Is,Ir,Iq,Ik]
   have hcl:=i6 eF
   obtain ⟨hsm1,hM1⟩:=h.small hst1
   repeat' (first|refine If ?_|refine IF a5 FN ?_)
   refine aq rfl (fun h1=>?_) (fun h1=>?_)
   ·have hc2:c < R.C:=by have:=Iy h1;omega
    have hpg:=o9 hp1
    have hps:=hst1.small p (Iw hp1)
    have hps2:=hsm1 p (Iw hp1)
    have hbe:=xC R hok rb k1 qr1 hk1 p (by have:=hps2.1;omega) (by have:=hps2.2;omega) c hc2
    have hst':=i7 (l:=eF) (i:=c) (z:= -1)
    clear h1
    repeat' (first|refine If ?_|refine ak ?_|refine IF a5 FN ?_|(apply aS;first|refine aR a5 ?_|refine aH a5 ?_)|fail)
    refine aa a5 0 rfl rfl rfl rfl rfl rfl (Nat.ble_eq_true_of_le (by rw [hcl,hrl,Int.toNat_natCast];show 0+c * 1+1≤_;omega)) ?_
    rw [hst']
    refine a7 ?_
    refine a6 ?_
    refine bP (aI (L':=(rwb,.box (dp (eF.set c (-1))) 3)::nu R nb kb mb rb ⟨M1,q1,k1,qr1⟩ (tok qt 22 1 tab.length++tok qe 246 1 ends.length)) (Io _)) ?_
    repeat' (first|refine If ?_|refine IF a5 FN ?_|(apply bw;first|refine II a5 0 IC ?_|refine II a5 1 IC ?_|refine II a5 2 IC ?_|refine II a5 3 IC ?_|refine IJ a5 0 IC ?_|refine IJ a5 1 IC ?_|refine IJ a5 2 IC ?_|refine IK a5 1 IA (by assumption) rfl ?_|refine IK a5 0 IA (by assumption) rfl ?_|fail)|(apply aS;first|refine aR a5 ?_|refine aH a5 ?_)|fail)
    refine b9 (eQ R rb k1 qr1) _ hbe rfl rfl tR rfl fun c1 L1 ⟨hc1,k2,qr2,hk2,hL⟩=>?_
    subst hc1;subst hL
    refine aJ (aI (L':=(rwb,.box (dp (eF.set c (-1))) 3)::nu R nb kb mb rb ⟨M1,q1,k2,qr2⟩ (tok qt 22 1 tab.length++tok qe 246 1 ends.length)) (tR (s:=⟨M1,q1,k2,qr2⟩)).symm) ?_
    have hrs:(eF.set c (-1)).length=R.C:=by rw [List.length_set];exact hrl
    have hrs2:=i6 (eF.set c (-1))
    repeat' (first|refine If ?_|refine IF a5 FN ?_|(apply aM;first|refine IH 12 a5 0 IE ?_|refine IH 12 a5 1 IE ?_|refine IH 12 a5 2 IE ?_|refine IG a5 0 ID ?_|refine IG a5 1 ID ?_|refine IG a5 2 ID ?_|refine IG a5 3 ID ?_|fail)|refine bh a5 fun _=>?_|fail)
    refine aq rfl (fun h1=>?_) (fun h1=>?_)
    ·have hne:(c5 R.cls R.rows p c).2≠0:=by
      intro e
      have h1':((c5 R.cls R.rows p c).2:Int)≠0:=Iy h1
      rw [e] at h1'
      exact h1' rfl
     have hst2:=hst1.meet h.long hne
     have hsm2:=(h.small hst2).1
     have hme:=wW nb kb mb M1 hsm1 (by omega) q1 (c5 R.cls R.rows p c) (hsm2 _ (kQ _ _))
     have hput:=i7 (l:=eF.set c (-1)) (i:=c) (z:=((dN M1 (c5 R.cls R.rows p c)).idxOf (c5 R.cls R.rows p c):Nat))
     have hcn:=iM.new (M:=M1) hne
     have htm:=htb1.more (by have:=(Ip hp1).1;omega) (c5 R.cls R.rows p c)
     have hpm:=mN (c5 R.cls R.rows p c) hp1
     have hcm:∀(c':Nat) z,c' < c→eF[c']?=some z→iM R.cls R.rows (dN M1 (c5 R.cls R.rows p c)) p c' z:=fun c' z h1 h2=>(hce c' z h1 h2).more
     clear h1
     repeat' (first|refine If ?_|refine IF a5 FN ?_)
     refine iK (sq nb kb mb M1 q1) _ (jo.fn (f:=178) (caps:=[fT nb,fT mb]) hme) rfl rfl tQ rfl rfl fun c2 L2 ⟨hc2',q2,hL⟩=>?_
     subst hc2';subst hL
     refine aJ (aI (L':=(rwb,.box (dp (eF.set c (-1))) 3)::nu R nb kb mb rb ⟨dN M1 (c5 R.cls R.rows p c),q2,k2,qr2⟩ (tok qt 22 1 tab.length++tok qe 246 1 ends.length)) (tQ (s:=⟨dN M1 (c5 R.cls R.rows p c),q2,k2,qr2⟩)).symm) ?_
     repeat' (first|(apply aS;first|refine aR a5 ?_|refine aH a5 ?_)|fail)
     refine aa a5 0 rfl rfl rfl rfl rfl rfl (Nat.ble_eq_true_of_le (by rw [hrs2,hrs,Int.toNat_natCast];show 0+c * 1+1≤_;omega)) ?_
     rw [hput]
     repeat' (first|refine If ?_|refine IF a5 FN ?_|(apply aV;refine aU ?_)|fail)
     refine aD (c+1,⟨dN M1 (c5 R.cls R.rows p c),q2,k2,qr2⟩,(eF.set c (-1)).set c ((dN M1 (c5 R.cls R.rows p c)).idxOf (c5 R.cls R.rows p c):Nat)) rfl ⟨by rw [Iv];rfl,trivial⟩ ⟨hc2,hst2,htm,hpm,by rw [List.length_set];exact hrs,hk2,fun c' z h1 h2=>?_⟩ (by dsimp only;omega) (fun _ _ hh=>hh)
     by_cases he:c'=c
     ·subst he
      rw [List.getElem?_set_self (by omega)] at h2
      cases h2
      exact hcn
     ·rw [List.getElem?_set_ne (fun e=>he e.symm),List.getElem?_set_ne (fun e=>he e.symm)] at h2
      exact hcm c' z (by dsimp only at h1;omega) h2
    ·have he0:(c5 R.cls R.rows p c).2=0:=by
      have h1':¬((c5 R.cls R.rows p c).2:Int)≠0:=Ix h1
      omega
     clear h1
     repeat' (first|refine If ?_|refine IF a5 FN ?_|(apply aV;refine aU ?_)|fail)
     refine aD (c+1,⟨M1,q1,k2,qr2⟩,eF.set c (-1)) rfl ⟨by rw [Iv];rfl,trivial⟩ ⟨hc2,hst1,htb1,hp1,hrs,hk2,fun c' z h1 h2=>?_⟩ (by dsimp only;omega) (fun _ _ hh=>hh)
     by_cases he:c'=c
     ·subst he
      rw [List.getElem?_set_self (by omega)] at h2
      cases h2
      exact .inl ⟨he0,rfl⟩
     ·rw [List.getElem?_set_ne (fun e=>he e.symm)] at h2
      exact hce c' z (by dsimp only at h1;omega) h2
   ·have hc2:c=R.C:=by have:=Ix h1;omega
    subst hc2
    have hn3:tab.length < M1.length:=(Ip hp1).1
    have hpg:=o9 hp1
    have hps2:=hsm1 p (Iw hp1)
    have hml1:(M1.map lD).length=M1.length:=Iu ..
    have hen:=Da R hok rb k1 qr1 hk1 p (by have:=hps2.1;omega) (by have:=hps2.2;omega)
    have htl3:=cq tab
    have hul3:=mT ends
    have hsn:=htb1.snoc hp1 hrl fun c' z h2=>hce c' z (by have:=(Ip h2).1;omega) h2
    have hel:=htb1.len
    clear h1
    repeat' (first|refine If ?_|refine IF a5 FN ?_|(apply bw;first|refine II a5 0 IC ?_|refine II a5 1 IC ?_|refine II a5 2 IC ?_|refine II a5 3 IC ?_|refine IJ a5 0 IC ?_|refine IJ a5 1 IC ?_|refine IJ a5 2 IC ?_|refine IK a5 1 IA (by assumption) rfl ?_|refine IK a5 0 IA (by assumption) rfl ?_|fail)|fail)
    refine aq rfl (fun h1=>?_) (fun h1=>?_)
    ·have h1':(20000:Int) < ((M1.map lD).length:Int):=Iy h1
     omega
    clear h1
    refine bP (kS (t:=10) (sz:=1) (n:=R.C) (cap:=R.C) (l:=aT eF) 0 rfl rfl (by rw [←nU,Nat.mul_one,List.take_of_length_le (by omega)]) (by omega) (fun e he=>by unfold aT at he;obtain ⟨y,_,rfl⟩:=List.mem_map.1 he;rfl) (by rw [aZ];exact hrl) (Nat.le_refl _) (by unfold maxLen;omega)) ?_
    repeat' (first|refine If ?_|refine IF a5 FN ?_|refine bG a5 ?_|fail)
    refine bJ a5 (nu R nb kb mb rb ⟨M1,q1,k1,qr1⟩ (tok qe 246 1 ends.length)) rfl rfl rfl rfl (by rw [htl3];exact wM) (by rw [htl3];simp;omega) (by rw [htl3];simp;omega) rfl fun qt'=>?_
    have hrsn:b7 tab++[[AV.imm 1 (aT eF)]]=b7 (tab++[eF]):=by simp [b7]
    refine aJ (aI (L':=nu R nb kb mb rb ⟨M1,q1,k1,qr1⟩ (tok qt' 22 1 (b7 tab++[[AV.imm 1 (aT eF)]]).length++tok qe 246 1 ends.length)) wM.symm) ?_
    repeat' (first|refine If ?_|refine IF a5 FN ?_|(apply bw;first|refine II a5 0 IC ?_|refine II a5 1 IC ?_|refine II a5 2 IC ?_|refine II a5 3 IC ?_|refine IJ a5 0 IC ?_|refine IJ a5 1 IC ?_|refine IJ a5 2 IC ?_|refine IK a5 1 IA (by assumption) rfl ?_|refine IK a5 0 IA (by assumption) rfl ?_|fail)|(apply aS;first|refine aR a5 ?_|refine aH a5 ?_)|fail)
    refine b9 (eQ R rb k1 qr1) _ hen rfl rfl mn rfl fun c1 L1 ⟨hc1,k2,qr2,hk2,hL⟩=>?_
    subst hc1;subst hL
    refine aJ (aI (L':=nu R nb kb mb rb ⟨M1,q1,k2,qr2⟩ (tok qt' 22 1 (b7 tab++[[AV.imm 1 (aT eF)]]).length++tok qe 246 1 ends.length)) (mn (s:=⟨M1,q1,k2,qr2⟩)).symm) ?_
    repeat' (first|refine bG a5 ?_|fail)
    refine bJ a5 (nu R nb kb mb rb ⟨M1,q1,k2,qr2⟩ (tok qt' 22 1 (b7 tab++[[AV.imm 1 (aT eF)]]).length)) rfl rfl rfl rfl (by rw [hul3];exact wL) (by rw [hul3];simp;omega) (by rw [hul3];simp;omega) rfl fun qe'=>?_
    have husn:gk ends++[[iW (iZ R.rows p)]]=gk (ends++[iZ R.rows p]):=by simp [gk]
    refine aJ (aI (L':=nu R nb kb mb rb ⟨M1,q1,k2,qr2⟩ (tok qt' 22 1 (b7 tab++[[AV.imm 1 (aT eF)]]).length++tok qe' 246 1 (gk ends++[[iW (iZ R.rows p)]]).length)) wL.symm) ?_
    repeat' (first|refine If ?_|refine IF a5 FN ?_|(apply aV;refine aU ?_)|fail)
    have hll:(tab++[eF]).length=tab.length+1:=by simp
    refine aD ⟨⟨M1,q1,k2,qr2⟩,tab++[eF],qt',ends++[iZ R.rows p],qe'⟩ rfl ⟨?_,by dsimp only;rw [←hrsn];rfl,by dsimp only;rw [←husn];rfl,trivial⟩ ⟨hst1,hsn,by dsimp only;omega,hk2⟩ (by dsimp only;omega) (fun _ _ hh=>?_)
    ·dsimp only
     rw [hll,Iv]
     rfl
    ·dsimp only
     rw [hrsn,husn,cq,mT] at hh
     exact hh
 ·have hn2:tab.length=M.length:=by
   have h1':¬(tab.length:Int) < ((M.map lD).length:Int):=Ix h1
   omega
  clear h1
  repeat' (first|refine If ?_|refine IF a5 FN ?_)
  refine bf (bO (t:=2) (c':= .imm 1 (b7 tab)) rfl fun σ v h=>VR.im h) ?_
  refine bf (bO (t:=3) (c':= .imm 1 (gk ends)) rfl fun σ v h=>VR.im h) ?_
  exact gW (cs:=[.imm 1 (b7 tab),.imm 1 (gk ends),ej true]) [] ⟨rfl,rfl,rfl,trivial⟩ (List.nil_sublist _) ⟨tab,ends,htb.done hst hn2,rfl⟩
end Go.Proofs.YtpmdfoaadejmkaaGreatDoor
