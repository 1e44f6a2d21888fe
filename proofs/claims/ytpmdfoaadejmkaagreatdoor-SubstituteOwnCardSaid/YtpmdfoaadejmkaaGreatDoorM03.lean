/-
  Appends.
-/
import Derived.Test.YtpmdfoaadejmkaaGreatDoorM02
namespace Go.Proofs.YtpmdfoaadejmkaaGreatDoor
open Go.RowKit
section
variable {P:Program}
theorem Gn (w:World) (t ty e:TypeId) (i:TypeInfo) (z:Value) (ht:P.underlying t=some (.slice e)) (hi:P.info? e=some i) (hz:i.zero=some z) (hzs:z.cells.size=i.size)
  (v:Value) (n:Nat) (xs:List Value) (hown:w.ownsRow 0 e i.size v n xs)
  (a:Addr) (m c:Nat) (news:List Value) (hl:news.length=m * i.size) (hnews:∀j u,news[j]?=some u→w.cell? (a.add j)=some u) (h1:∀u∈news,u.oneCell'=true)
  (h63:n+m≤maxLen) (hbytes:(n+m) * i.bytes≤140737488355328) (hm:0 < m):
  ∃b cap w' cur,(Builtin.append_ #[t,t] ty #[v,.slice (some a) m c]).run P w= .ok (.slice (some ⟨b,0,none⟩) (n+m) cap) w'∧w'.heap[b]?=some (.cells cur e (0,0))∧cur.size=cap * i.size∧cur.toList.take ((n+m) * i.size)=xs++news∧n+m≤cap∧cap≤maxLen∧((v.ownBlock=some b∧w.grownBy w' (some b))∨(b=w.heap.size∧w.grownBy w' none)):=by
 have hsmall:n+m≤9223372036854775807:=by simp only [maxLen] at h63;omega
 have hlen:(xs++news).length=(n+m) * i.size:=by rw [List.length_append,hown.1,hl,Nat.add_mul]
 have grown:∀(old:Nat),old < n+m→
   (w.drew.alloc (.cells (xs.toArray++news.toArray++Builtin.zeroCells z.cells (grownCap w (n+m) old e - (n+m))) e)).heap[w.heap.size]?=some (.cells (xs.toArray++news.toArray++Builtin.zeroCells z.cells (grownCap w (n+m) old e - (n+m))) e (0,0))∧
   (xs.toArray++news.toArray++Builtin.zeroCells z.cells (grownCap w (n+m) old e - (n+m))).size=grownCap w (n+m) old e * i.size∧(xs.toArray++news.toArray++Builtin.zeroCells z.cells (grownCap w (n+m) old e - (n+m))).toList.take ((n+m) * i.size)=xs++news∧n+m≤grownCap w (n+m) old e∧grownCap w (n+m) old e≤maxLen∧
   w.grownBy (w.drew.alloc (.cells (xs.toArray++news.toArray++Builtin.zeroCells z.cells (grownCap w (n+m) old e - (n+m))) e)) none:=by
  intro old ho
  have hge:=grownCap_ge w (n+m) old e
  have hcm:grownCap w (n+m) old e≤maxLen:=grownCap_le_maxLen w (n+m) old e h63
  refine ⟨heap_alloc_new w.drew _,?_,?_,hge,hcm,⟨rfl,rfl,rfl,by simp,fun k hk _=>heap_alloc_old w.drew _ k hk⟩⟩
  ·simp only [Array.size_append,List.size_toArray,size_zeroCells,hzs,hown.1,hl,←Nat.add_mul]
   congr 1
   omega
  ·simp only [Array.toList_append,List.append_assoc]
   rw [←List.append_assoc,←hlen]
   exact List.take_left
 rcases hown.2 with ⟨rfl,rfl⟩ | ⟨g,cap,cur,rfl,hbg,hg,hnc,hcm,hcs,htake⟩
 ·have hx:xs=[]:=List.eq_nil_of_length_eq_zero (by simpa using hown.1)
  subst hx
  have hr:=run_append_nil (P:=P) w t ty e i z ht hi hz a m c news hl hnews (by omega) (by omega) (by have hb:=hbytes;simp only [Nat.zero_add] at hb;omega)
  obtain ⟨g1,g2,g3,g4,g5,g6⟩:=grown 0 (by omega)
  simp only [Nat.zero_add,Lq,Array.empty_append] at g1 g2 g3 g4 g5 g6 ⊢
  exact ⟨_,_,_,_,hr,g1,g2,g3,g4,g5,.inr ⟨rfl,g6⟩⟩
 ·by_cases hroom:n+m≤cap
  ·have hfit:n * i.size+news.length≤cur.size:=by rw [hl,hcs,←Nat.add_mul];exact Nat.mul_le_mul_right _ hroom
   have hr:=run_append_room (P:=P) w t ty e i ht hi g n cap cur hg a m c news hl hnews h1 hroom hfit
   refine ⟨_,_,_,_,hr,setRow_heap w g cur _ e _ hg,?_,?_,hroom,hcm,.inl ⟨rfl,⟨rfl,rfl,rfl,by simp,fun k _ hk=>setRow_other w g k _ (fun e=>hk (by simp [e]))⟩⟩⟩
   ·simp only [List.size_toArray,List.length_append,List.length_take,List.length_drop,Array.length_toList]
    omega
   ·rw [htake,←hlen]
    exact List.take_left
  ·have holds:∀j u,xs[j]?=some u→w.cell? ((⟨g,0,none⟩:Addr).add j)=some u:=hown.cells (g:=g) rfl
   have hr:=run_append_grow (P:=P) w t ty e i z ht hi hz ⟨g,0,none⟩ n cap xs hown.1 holds a m c news hl hnews (by omega) (by omega) (growslice_fits (by omega) hbytes)
   obtain ⟨g1,g2,g3,g4,g5,g6⟩:=grown cap (by omega)
   exact ⟨_,_,_,_,hr,g1,g2,g3,g4,g5,.inr ⟨rfl,g6⟩⟩
end
def tok (k:Option (Nat×Nat)) (e sz n:Nat):AL:=match k with
 | none=>[]
 | some (b,cap)=>[(b,.vec e sz n cap)]
section
variable {B:Bs} {σ:Mem} {L:AL} {w w':World}
theorem cL.putVec {b t sz n cap cap':Nat} {cur:Array Value} (h:cL B σ ((b,.vec t sz n cap)::L) w) (hg:w.grownBy w' (some b)) (ho:w'.heap[b]?=some (.cells cur t (0,0))) (hs:cur.size=cap' * sz) (hn:n≤cap') (hm:cap'≤maxLen) (hf:∀j u,σ b j=some u→cur[j]?=some u):cL B σ ((b,.vec t sz n cap')::L) w':=by
 have hmine:=h.mine _ (List.mem_cons_self ..)
 have hap:=h.apart
 simp only [Lp,List.nodup_cons] at hap
 refine ⟨hg.os.trans h.os,hg.tape.trans h.tape,hg.output.trans h.output,Nat.le_trans h.size hg.size,fun k hk hx=>?_,fun p hp=>?_,fun p hp=>?_,by simpa using h.apart,fun c off u hu=>?_,fun p hp off hm'=>?_,h.grow,h.same,fun c off u hc hu=>?_⟩
 rotate_right
 ·by_cases e:c=b
  ·subst e;exact ⟨cur,t,ho⟩
  ·have h1:=h.froz c off u hu
   obtain ⟨cur,t,ho'⟩:=h.cold c off u hc hu
   exact ⟨cur,t,(hg.block c (iI h1) (fun e'=>e (by injection e'))).trans ho'⟩
 ·refine (hg.block k (Nat.lt_of_lt_of_le hk h.size) ?_).trans (h.old k hk hx)
  rintro ⟨⟩
  rcases hmine with h1 | h1
  ·simp only at h1;omega
  ·exact hx h1
 ·rcases List.mem_cons.1 hp with rfl | hp'
  ·exact ⟨_,ho,cur,rfl,hs,hn,hm⟩
  ·obtain ⟨o,ho,hh⟩:=h.here p (Ls _ hp')
   refine ⟨o,(hg.block p.1 (Array.getElem?_eq_some_iff.1 ho).1 ?_).trans ho,hh⟩
   intro e
   injection e with e
   exact hap.1 (by rw [←e];exact List.mem_map_of_mem hp')
 ·rcases List.mem_cons.1 hp with rfl | hp'
  ·exact hmine
  ·exact h.mine p (Ls _ hp')
 ·by_cases hc:c=b
  ·subst hc
   rw [cX ho]
   exact hf off u hu
  ·have h1:=h.froz c off u hu
   rw [World.cell?_of_block (a:=⟨c,off,none⟩) (hg.block c (iI h1) (fun e=>hc (by injection e)))]
   exact h1
 ·rcases List.mem_cons.1 hp with rfl | hp'
  ·exact h.free _ (List.mem_cons_self ..) off hm'
  ·exact h.free p (Ls _ hp') off hm'
theorem cL.newVec {t sz cap:Nat} {cur:Array Value} (h:cL B σ L w) (hg:w.grownBy w' none) (ho:w'.heap[w.heap.size]?=some (.cells cur t (0,0))) (hs:cur.size=cap * sz) (hm:cap≤maxLen):cL B σ ((w.heap.size,.vec t sz 0 cap)::L) w':=by
 have hb:∀k,k < w.heap.size→w'.heap[k]?=w.heap[k]?:=fun k hk=>hg.block k hk (by simp)
 refine ⟨hg.os.trans h.os,hg.tape.trans h.tape,hg.output.trans h.output,Nat.le_trans h.size hg.size,fun k hk hx=>(hb k (Nat.lt_of_lt_of_le hk h.size)).trans (h.old k hk hx),fun p hp=>?_,fun p hp=>?_,?_,fun c off u hu=>?_,fun p hp off hm'=>?_,h.grow,h.same,fun c off u hc hu=>?_⟩
 rotate_right
 ·have h1:=h.froz c off u hu
  obtain ⟨cur,t,ho'⟩:=h.cold c off u hc hu
  exact ⟨cur,t,(hb c (iI h1)).trans ho'⟩
 ·rcases List.mem_cons.1 hp with rfl | hp'
  ·exact ⟨_,ho,cur,rfl,hs,Nat.zero_le _,hm⟩
  ·obtain ⟨o,ho,hh⟩:=h.here p hp'
   exact ⟨o,(hb p.1 (Array.getElem?_eq_some_iff.1 ho).1).trans ho,hh⟩
 ·rcases List.mem_cons.1 hp with rfl | hp'
  ·exact .inl h.size
  ·exact h.mine p hp'
 ·simp only [Lp,List.nodup_cons]
  refine ⟨fun hm=>?_,h.apart⟩
  obtain ⟨p,hp,he⟩:=List.mem_map.1 hm
  have:=h.lt hp
  omega
 ·have h1:=h.froz c off u hu
  rw [World.cell?_of_block (a:=⟨c,off,none⟩) (hb c (iI h1))]
  exact h1
 ·rcases List.mem_cons.1 hp with rfl | hp'
  ·exact h.fresh (Nat.le_refl _) off
  ·exact h.free p hp' off hm'
end
section
variable {P:Program} {fr:bT} {B:Bs} {L:AL} {d:Option Tmp} {ty t t':TypeId} {pos:String} {af:Array Edge} {g:Option (Nat×Bool)} {x y:Operand} {u:AV}
theorem VR.vec_inv {σ:Mem} {k:Option (Nat×Nat)} {sz:Nat} {l:List (List AV)} {v:Value} (h:VR σ (.vec k sz l) v):(k=none∧l=[]∧v= .slice none 0 0)∨∃b cap,k=some (b,cap)∧v= .slice (some ⟨b,0,none⟩) l.length cap:=by
 cases h with
 | vecN=>exact .inl ⟨rfl,rfl,rfl⟩
 | vec b cap=>exact .inr ⟨b,cap,rfl,rfl⟩
theorem wr {cur:Array Value} {m:Nat} {xs:List Value} (h:cur.toList.take m=xs) {j:Nat} {u:Value} (hj:xs[j]?=some u):cur[j]?=some u:=by
 rw [←h,List.getElem?_take] at hj
 split at hj
 ·simpa using hj
 ·cases hj
theorem ox (L0:AL) {e sz by_:Nat} {k:Option (Nat×Nat)} {l l2:List (List AV)} (hc:ln P t e sz by_) (hsz:0 < sz) (hx:bh fr x=some (.vec k sz l)) (hy:bh fr y=some u) (hu:u.im= .imm sz l2) (hL:L.Perm (tok k e sz l.length++L0)) (h63:l.length+l2.length≤9223372036854775807) (hby:(l.length+l2.length) * by_≤140737488355328):
  AO P ⟨d,.call ⟨.builtin .append,#[x,y],#[t,t]⟩,ty,pos,af,g⟩ fr B L (fun c L'=>∃k',c= .vec k' sz (l++l2)∧L'=tok k' e sz (l++l2).length++L0):=by
 intro σ ρ w hρ hw0
 have hw:=hw0.perm hL
 have hxv:=hρ x _ hx
 have hyv:=(hρ y u hy).im
 rw [hu] at hyv
 obtain ⟨A2,c2,hA2,_⟩:=hyv.imm_inv
 rw [hA2] at hyv
 obtain ⟨_,_,_,hs2,ys,hyl,hyr,hy1,hyc⟩:=hyv.row
 have hxi:=hxv.im
 obtain ⟨A1,c1,hA1,_⟩:=VR.imm_inv (show VR σ (.imm sz l) (ρ x) from hxi)
 have hxi':VR σ (.imm sz l) (.slice A1 l.length c1):=by rw [←hA1];exact hxi
 obtain ⟨_,hle1,hm1,hs1,xs,hxl,hxr,hx1,hxc⟩:=hxi'.row
 haveI:=hc
 obtain ⟨i,z,hi,rfl,rfl,hz,hzs⟩:=hc.info
 unfold gT
 by_cases hm:l2.length=0
 ·have hl2:l2=[]:=List.length_eq_zero_iff.1 hm
  subst hl2
  rw [show (execOp ρ ⟨d,.call ⟨.builtin .append,#[x,y],#[t,t]⟩,ty,pos,af,g⟩).run P w= .ok (.value (.slice A1 l.length c1)) w by
   simp [execOp,resolve,hA1,hA2,invoke,builtin,li (P:=P) (t:=t) (ty:=ty) hle1]]
  refine ⟨σ,.vec k i.size l,_,Mem.le_refl _,by rw [←hA1];exact hxv,hw,k,by simp,by simp⟩
 ·have hpos:0 < l2.length:=by omega
  obtain ⟨b2,off2,rfl,hycc⟩:=hyc hpos
  have hown:w.ownsRow 0 e i.size (ρ x) l.length xs:=by
   refine ⟨hxl,?_⟩
   rcases hxv.vec_inv with ⟨rfl,rfl,hv⟩ | ⟨b,cap,rfl,hv⟩
   ·exact .inl ⟨hv,rfl⟩
   ·obtain ⟨o,ho,cur,rfl,h2,h3,h4⟩:=hw.here (b,.vec e i.size l.length cap) (by simp [tok])
    rw [hA1] at hv
    injection hv with e1 e2 e3
    subst e1 e3
    refine .inr ⟨b,c1,cur,by rw [hA1],Nat.zero_le _,ho,h3,h4,h2,?_⟩
    apply List.ext_getElem?
    intro j
    rw [List.getElem?_take]
    by_cases hj:j < l.length * i.size
    ·rw [if_pos hj]
     have hjx:j < xs.length:=by omega
     have hln:0 < l.length:=by
      rcases Nat.eq_zero_or_pos l.length with h0 | h0
      ·rw [h0] at hj;simp at hj
      ·exact h0
     obtain ⟨b',off',he,hcell⟩:=hxc hln
     cases he
     have:=hw.froz _ _ _ (hcell j xs[j] (Iy hjx))
     rw [Nat.zero_add,cX ho] at this
     rw [Iy hjx,←this]
     simp
    ·rw [if_neg hj,List.getElem?_eq_none (by omega)]
  obtain ⟨b',cap',w',cur',hr,hh,hs',htk,hle',hm',hcase⟩:=Gn (P:=P) w t ty e i z hc.under hi hz hzs (ρ x) l.length xs hown ⟨b2,off2,none⟩ l2.length c2 ys (by rw [hyl]) (fun j u hj=>by rw [dJ];exact hw.froz _ _ _ (hycc j u hj)) hy1 (by unfold maxLen;omega) hby hpos
  rw [show (execOp ρ ⟨d,.call ⟨.builtin .append,#[x,y],#[t,t]⟩,ty,pos,af,g⟩).run P w= .ok (.value (.slice (some ⟨b',0,none⟩) (l.length+l2.length) cap')) w' by
   simp [execOp,resolve,hA2,invoke,builtin,hr]]
  have hxyl:(xs++ys).length=(l++l2).length * i.size:=by rw [List.length_append,List.length_append,hxl,hyl,Nat.add_mul]
  have hcells:∀j u,(xs++ys)[j]?=some u→w'.cell? ⟨b',j,none⟩=some u:=fun j u hj=>by
   rw [cX hh]
   exact wr htk hj
  have fin:∀n,n≤l.length→cL B σ ((b',.vec e i.size n cap')::L0) w'→∃τ c L',σ.le τ∧VR τ c (.slice (some ⟨b',0,none⟩) (l.length+l2.length) cap')∧cL B τ L' w'∧∃k',c= .vec k' i.size (l++l2)∧L'=tok k' e i.size (l++l2).length++L0:=by
   intro n hn hst
   obtain ⟨hst',hle⟩:=hst.freezeHead (n':=(l++l2).length) (xs:=xs++ys) hcells hxyl (by rw [List.length_append];omega) (by rw [List.length_append];exact hle')
   refine ⟨_,.vec (some (b',cap')) i.size (l++l2),_,hle,?_,hst',some (b',cap'),rfl,rfl⟩
   have hss:∀q∈l++l2,q.length=i.size:=fun q hq=>by
    rcases Ll hq with hq | hq
    ·exact hs1 q hq
    ·exact hs2 q hq
   have hvr:cS (σ.add b' (xs++ys)) (l++l2).flatten (xs++ys):=by
    rw [List.flatten_append]
    refine ⟨by rw [List.length_append,List.length_append,hxr.1,hyr.1],fun j c u hc hu=>?_⟩
    have hq:=hxr.1
    by_cases hj:j < l.flatten.length
    ·rw [List.getElem?_append_left hj] at hc
     rw [List.getElem?_append_left (by omega)] at hu
     exact (hxr.2 j c u hc hu).mono hle
    ·rw [List.getElem?_append_right (by omega)] at hc
     rw [List.getElem?_append_right (by omega),←hq] at hu
     exact (hyr.2 _ c u hc hu).mono hle
   have:=lY (σ:=σ.add b' (xs++ys)) (b:=b') (cap:=cap') hss hvr (fun u hu=>by
    rcases Ll hu with hu | hu
    ·exact hx1 u hu
    ·exact hy1 u hu) (by rw [List.length_append];exact hle') hm' (fun j u hj=>Mem.add_at hj)
   rwa [List.length_append] at this
  rcases hcase with ⟨hob,hg⟩ | ⟨rfl,hg⟩
  ·rcases hxv.vec_inv with ⟨rfl,rfl,hv⟩ | ⟨b,cap,rfl,hv⟩
   ·rw [hv] at hob;simp [Value.ownBlock] at hob
   ·rw [hv] at hob
    simp only [Value.ownBlock,Option.some.injEq] at hob
    subst hob
    refine fin l.length (Nat.le_refl _) (cL.putVec (cap:=cap) hw hg hh hs' (by omega) hm' fun j u hj=>?_)
    by_cases hjl:j < xs.length
    ·have hln:0 < l.length:=by
      rcases Nat.eq_zero_or_pos l.length with h0 | h0
      ·rw [hxl,h0] at hjl;simp at hjl
      ·exact h0
     obtain ⟨b',off',he,hcell⟩:=hxc hln
     rw [hA1] at hv
     injection hv with e1 _ _
     rw [he] at e1
     cases e1
     have:=hcell j xs[j] (Iy hjl)
     rw [Nat.zero_add,hj] at this
     injection this with this
     subst this
     exact wr htk (by rw [List.getElem?_append_left hjl];exact Iy hjl)
    ·have:=hw.free (b,.vec e i.size l.length cap) (by simp [tok]) j (by show l.length * i.size≤j;omega)
     rw [hj] at this
     cases this
  ·exact fin 0 (Nat.zero_le _) (cL.newVec (hw.sublist (List.sublist_append_right ..)) hg hh hs' hm')
end
end Go.Proofs.YtpmdfoaadejmkaaGreatDoor
namespace Go.Proofs.YtpmdfoaadejmkaaGreatDoor
open Go.RowKit
theorem VR.cut {σ:Mem} {sz n cap lo hi m:Nat} {l:List (List AV)} {A:Option Addr} (h:VR σ (.imm sz l) (.slice A n cap)) (h1:lo≤hi) (h2:hi≤n) (h3:hi≤m) (h4:m≤cap):VR σ (.imm sz ((l.drop lo).take (hi - lo))) (.slice (if m=lo then A else A.map (·.add (lo * sz))) (hi - lo) (m - lo)):=by
 obtain ⟨A',cap',he,hc,hm,hs,ha,hx,hy⟩:=h.imm_inv
 cases he
 have hlen:((l.drop lo).take (hi - lo)).length=hi - lo:=by rw [List.length_take,List.length_drop];omega
 have key:VR σ (.imm sz ((l.drop lo).take (hi - lo))) (.slice (if m=lo then A else A.map (·.add (lo * sz))) ((l.drop lo).take (hi - lo)).length (m - lo)):=by
  have hAA:∀b' off',(if m=lo then A else A.map (·.add (lo * sz)))=some ⟨b',off',none⟩→lo < hi→∃off,A=some ⟨b',off,none⟩∧off'=off+lo * sz:=by
   intro b' off' hA hlt
   rw [if_neg (by omega)] at hA
   obtain ⟨b,off,rfl⟩:=ha (by intro e;subst e;simp at h2;omega)
   simp only [Option.map_some,dJ,Option.some.injEq,Addr.mk.injEq] at hA
   exact ⟨off,by rw [hA.1],hA.2.1.symm⟩
  refine .imm sz _ _ (m - lo) (by rw [hlen];omega) (by omega) (fun e he=>hs e (List.mem_of_mem_drop (List.mem_of_mem_take he))) (fun hne=>?_) (fun i b off j hA hi' hj=>?_) fun i e b off j c u he hA hj hu=>?_
  ·have:0 < hi - lo:=by rw [←hlen];exact List.length_pos_iff.2 hne
   obtain ⟨b,off,rfl⟩:=ha (by intro e;subst e;simp at h2;omega)
   rw [if_neg (by omega)]
   exact ⟨b,off+lo * sz,by simp [dJ]⟩
  ·rw [hlen] at hi'
   obtain ⟨off0,rfl,rfl⟩:=hAA b off hA (by omega)
   have:=hx (lo+i) b off0 j rfl (by omega) hj
   rwa [show off0+(lo+i) * sz+j=off0+lo * sz+i * sz+j by rw [Nat.add_mul];omega] at this
  ·have hi':i < hi - lo:=by rw [←hlen];exact (Ln he).1
   obtain ⟨off0,rfl,rfl⟩:=hAA b off hA (by omega)
   rw [List.getElem?_take,if_pos hi',List.getElem?_drop] at he
   refine hy (lo+i) e b off0 j c u he rfl hj ?_
   rwa [show off0+(lo+i) * sz+j=off0+lo * sz+i * sz+j by rw [Nat.add_mul];omega]
 rwa [hlen] at key
section
variable {P:Program} {fr:bT} {B:Bs} {L:AL} {d:Option Tmp} {ty t t':TypeId} {pos:String} {af:Array Edge} {g:Option (Nat×Bool)} {x y z q:Operand} {u:AV}
theorem Hq {s e sz by_ hi:Nat} {l:List (List AV)} {k:IntKind} {a:Int} (hc:ln P t e sz by_) (hx:bh fr x=some u) (hu:u.im= .imm s l) (hs:Nat.beq s sz=true) (hy:bh fr y=some (.sc (.int k a))) (ha:a=(hi:Int)) (h:hi≤l.length):Av P ⟨d,.slice t x none (some y) none,ty,pos,af,g⟩ fr (.imm s (l.take hi)):=by
 intro σ ρ w hρ _
 subst ha
 rw [Nat.beq_eq] at hs
 subst hs
 have h1:=(hρ x u hx).im
 rw [hu] at h1
 obtain ⟨A,cap,hv,hcap,_⟩:=h1.imm_inv
 rw [hv] at h1
 have hvr:=h1.cut (lo:=0) (hi:=hi) (m:=cap) (Nat.zero_le _) h (by omega) (Nat.le_refl _)
 rw [List.drop_zero,Nat.sub_zero,Nat.sub_zero] at hvr
 haveI:=hc
 refine ⟨_,?_,hvr⟩
 have h2:hi≤cap:=by omega
 simp [execOp,hv,(hρ y _ hy).sc_inv,Instr.sliceAt,Instr.slice,Instr.sliceBounds,Instr.sliceBound,asIntOf,run_underlying hc.under,d5 (t:=t),h2]
theorem wK {s:ByteArray} {k:IntKind} {i:Int} {c:UInt8} (h:C2 P t) (hx:bh fr x=some (.sc (.string s))) (hy:bh fr y=some (.sc (.int k i))) (h0:0≤i) (hu:s[i.toNat]?=some c):Av P ⟨d,.index t x y,ty,pos,af,g⟩ fr (.sc (.int .u8 c.toNat)):=
 eL fun ρ w hρ=>by
  simp [execOp,hρ _ _ hx,hρ _ _ hy,Instr.index,asIntOf,run_underlying h.under,h0,hu]
theorem uQ {b off n cap e sz by_:Nat} {k:IntKind} {i:Int} (h:ln P t e sz by_) (hx:bh fr x=some (.sc (.slice (some ⟨b,off,none⟩) n cap))) (hy:bh fr y=some (.sc (.int k i))) (h0:0≤i∧i < n):Av P ⟨d,.indexAddr t x y,ty,pos,af,g⟩ fr (.sc (.pointer (some ⟨b,off+i.toNat * sz,none⟩))):=
 eL fun ρ w hρ=>by
  haveI:=h
  simp [execOp,hρ _ _ hx,hρ _ _ hy,Instr.indexAt,asIntOf,run_underlying h.under,h0.1,h0.2,d5 (t:=t),dJ]
theorem tg {e sz by_ n c:Nat} {k k':IntKind} {z:List Value} (hc:ln P t e sz by_) (hz:CZ P e z) (hsz:0 < sz) (hby:by_ * c≤281474976710656) (h63:c≤9223372036854775807) (hn:n≤c) (w:World) (ρ:Operand→Value) (hx:ρ x= .int k (n:Int)) (hy:ρ y= .int k' (c:Int)):
  (execOp ρ ⟨d,.makeSlice t x y,ty,pos,af,g⟩).run P w= .ok (.value (.slice (some ⟨w.heap.size,0,none⟩) n c)) (w.alloc (.cells ((List.replicate c z).flatten).toArray e)):=by
 obtain ⟨i,zv,hi,hs1,hs2,hzv,hzs⟩:=hc.info
 obtain ⟨zv',hz1,hz2⟩:=hz.run
 have hzz:zv=zv':=by
  have:=hz2 w
  simp [zeroValue,typeInfo,hi,hzv] at this
  exact this
 subst hzz
 have hb:(i.bytes:Int) * (c:Int)≤281474976710656:=by
  rw [hs2]
  have h:((by_ * c:Nat):Int)≤281474976710656:=by omega
  rwa [Int.natCast_mul] at h
 have hr:=run_make (P:=P) w t e i zv hc.under hi hzv k k' n c (by omega) (by omega) hb (by omega)
 simp only [Int.toNat_natCast] at hr
 have:=rh zv.cells c (by omega)
 rw [hzs] at this
 have hl:zv.cells.toList=z:=by rw [hz1]
 rw [hl] at this
 have e1:madeCells zv.cells (c * i.size)=((List.replicate c z).flatten).toArray:=by rw [hs1,←this]
 rw [e1] at hr
 simp [execOp,hx,hy,hr]
theorem Fd {e sz by_ n:Nat} {k k':IntKind} {a b:Int} {z:List Value} (hc:ln P t e sz by_) (hz:CZ P e z) (h1:z.all (·.oneCell')=true) (hsz:0 < sz) (hx:bh fr x=some (.sc (.int k a))) (hy:bh fr y=some (.sc (.int k' b))) (ha:a=(n:Int)) (hb:b=(n:Int)) (hby:by_ * n≤281474976710656) (h63:n≤9223372036854775807):
  AO P ⟨d,.makeSlice t x y,ty,pos,af,g⟩ fr B L (fun c L'=>∃b,c= .sc (.slice (some ⟨b,0,none⟩) n n)∧L'=(b,.box ((List.replicate n (z.map .sc)).flatten) e)::L):=by
 intro σ ρ w hρ hw
 subst ha hb
 have hr:=tg (d:=d) (ty:=ty) (pos:=pos) (af:=af) (g:=g) hc hz hsz hby h63 (Nat.le_refl n) w ρ (hρ x _ hx).sc_inv (hρ y _ hy).sc_inv
 unfold gT
 rw [hr]
 have hfl:∀m,(List.replicate m (z.map AV.sc)).flatten=((List.replicate m z).flatten).map AV.sc:=by
  intro m
  induction m with
  | zero=>rfl
  | succ m ih=>rw [List.replicate_succ,List.replicate_succ,List.flatten_cons,List.flatten_cons,List.map_append,ih]
 refine ⟨σ,_,_,Mem.le_refl _,.sc _,hw.alloc _ (.box ((List.replicate n (z.map .sc)).flatten) e) ⟨_,rfl,?_,fun u hu=>?_⟩,_,rfl,rfl⟩
 ·rw [hfl]
  refine ⟨by simp,fun i c u hc hu=>?_⟩
  rw [List.getElem?_map,hu] at hc
  simp at hc
  subst hc
  exact .sc u
 ·obtain ⟨q,hq,hu⟩:=List.mem_flatten.1 hu
  rw [List.eq_of_mem_replicate hq] at hu
  exact List.all_eq_true.1 h1 u hu
theorem Cs {e sz by_ n:Nat} {k k':IntKind} {b:Int} {z:List Value} (hc:ln P t e sz by_) (hz:CZ P e z) (hzl:z.length=sz) (hsz:0 < sz) (hx:bh fr x=some (.sc (.int k 0))) (hy:bh fr y=some (.sc (.int k' b))) (hb:b=(n:Int)) (hby:by_ * n≤281474976710656) (h63:n≤9223372036854775807):
  AO P ⟨d,.makeSlice t x y,ty,pos,af,g⟩ fr B L (fun c L'=>∃b,c= .vec (some (b,n)) sz []∧L'=(b,.vec e sz 0 n)::L):=by
 intro σ ρ w hρ hw
 subst hb
 have hr:=tg (n:=0) (d:=d) (ty:=ty) (pos:=pos) (af:=af) (g:=g) hc hz hsz hby h63 (Nat.zero_le n) w ρ (hρ x _ hx).sc_inv (hρ y _ hy).sc_inv
 unfold gT
 rw [hr]
 refine ⟨σ,_,_,Mem.le_refl _,?_,hw.alloc _ (.vec e sz 0 n) ⟨_,rfl,by simp [hzl],Nat.zero_le _,by unfold maxLen;omega⟩,_,rfl,rfl⟩
 exact lY (l:=[]) (xs:=[]) (by simp) cS.nil (by simp) (Nat.zero_le _) (by unfold maxLen;omega) (by simp)
theorem nY {f:FuncId} {args:Array Operand} {ts:Array TypeId} (hf:bD P f) (ρ:Operand→Value) (hρ:ρ (.func f)= .func (.func f) #[] #[]) (w:World):(execOp ρ ⟨d,.call ⟨.value (.func f),args,ts⟩,ty,pos,af,g⟩).run P w= .ok (.enter f (args.map ρ)) w:=by
 simp [execOp,resolve,hρ,Deferred.ofValue,invoke,hf.enters]
theorem pU (Lc Lf:AL) {f:FuncId} {args:Array Operand} {ts:Array TypeId} {cs cs':List AV} {Post:AV→AL→Prop} [hf:bD P f] (hv:dy fr args.toList=some cs) (hcs:∀σ vs,cS σ cs vs→cS σ cs' vs) (hL:L.Perm (Lc++Lf)) (h:AC P f cs' Lc Post):
  AO P ⟨d,.call ⟨.value (.func f),args,ts⟩,ty,pos,af,g⟩ fr B L (fun c L'=>∃L1,Post c L1∧L'=L1++Lf):=by
 intro σ ρ w hρ hw0
 have hw:=hw0.perm hL
 unfold gT
 rw [nY hf ρ (hρ _ _ rfl).sc_inv]
 have e:args.map ρ=(args.toList.map ρ).toArray:=by apply Array.toList_inj.1;simp
 simp only [e]
 refine (h σ w _ (hcs _ _ (ey hρ _ _ hv)) hw.enter).mono fun en w' ⟨v,τ,c,L',h1,h2,h3,h4⟩=>⟨v,h1,τ,c,L'++Lf,h3.grow,h2,hw.leave h3,L',h4,rfl⟩
theorem Cp {f:FuncId} {args:Array Operand} {ts:Array TypeId} {cs:List AV} [hf:bD P f] (hv:dy fr args.toList=some cs) (h:c5 P f (cs.map AV.im) u):
  AO P ⟨d,.call ⟨.value (.func f),args,ts⟩,ty,pos,af,g⟩ fr B L (fun c L'=>c=u∧L'=L):=by
 intro σ ρ w hρ hw
 refine (pU [] L hv (fun σ vs h=>h.im) (Lm _) h σ ρ w hρ hw).mono fun v w' ⟨τ,c,L',h1,h2,h3,L1,h4,h5⟩=>⟨τ,c,L,h1,h2,?_,h4,rfl⟩
 subst h5
 exact h3.sublist (List.sublist_append_right ..)
end
section
variable {P:Program} {r:Option Nat} {ops:Array Oper} {Q:Exit→Act→World→Prop} {nt:Nat} {D:List Deferred} {fr fr':bT} {B:Bs} {L L':AL} {rest:List Oper} {cd:Code}
def jn (nt:Nat) (D:List Deferred) (B:Bs) (fr:bT) (L:AL) (fr':bT) (L':AL):Prop:=∀σ a w,jz σ nt D fr a→cL B σ L w→∃τ,jz τ nt D fr' a∧cL B τ L' w
theorem aE (h:jn nt D B fr L fr' L') (k:br P r ops Q nt D rest fr' B L'):br P r ops Q nt D rest fr B L:=fun σ a w ha hw=>by
 obtain ⟨τ,h1,h2⟩:=h σ a w ha hw
 exact k τ a w h1 h2
theorem bM (h:jn nt D B fr L fr' L') (k:AT P r cd Q nt D fr' B L'):AT P r cd Q nt D fr B L:=fun σ a w ha hw=>by
 obtain ⟨τ,h1,h2⟩:=h σ a w ha hw
 exact k τ a w h1 h2
theorem bc {e:Exit} (h:jn nt D B fr L fr' L') (k:AX P e Q nt D fr' B L'):AX P e Q nt D fr B L:=fun σ a w ha hw=>by
 obtain ⟨τ,h1,h2⟩:=h σ a w ha hw
 exact k τ a w h1 h2
theorem bA {t:Nat} {c c':AV} (hl:ca fr t=some c) (h:∀σ v,VR σ c v→VR σ c' v):jn nt D B fr L ((t,c')::fr) L:=fun σ a w ha hw=>⟨σ,⟨ha.size,ha.defers,fun t' v' hl'=>by
  rw [bY] at hl'
  by_cases e:t=t'
  ·subst e;simp only [if_true,Option.some.injEq] at hl';subst hl';exact h _ _ (ha.look t c hl)
  ·rw [if_neg e] at hl';exact ha.look t' v' hl'⟩,hw⟩
theorem cC {σ:Mem} {v:Value} (sz:Nat) (h:VR σ (.sc (.slice none 0 0)) v):VR σ (.vec none sz []) v:=by
 rw [h.sc_inv];exact .vecN sz
theorem jy {σ:Mem} {v:Value} (sz:Nat) (h:VR σ (.sc (.slice none 0 0)) v):VR σ (.imm sz []) v:=(cC sz h).im
theorem EK {t b e sz n:Nat} {cs:List AV} {l:List (List AV)} (i:Nat) (hl:ca fr t=some (.sc (.slice (some ⟨b,0,none⟩) n n))) (hL:L[i]?=some (b,.box cs e)) (hc:cs=l.flatten) (hs:∀q∈l,q.length=sz) (hn:l.length=n) (h63:n≤9223372036854775807):jn nt D B fr L ((t,.vec (some (b,n)) sz l)::fr) ((b,.vec e sz n n)::L.eraseIdx i):=by
 intro σ a w ha hw0
 have hw:=hw0.perm (dY hL)
 obtain ⟨o,ho,vs,rfl,hvs,h1⟩:=hw.here _ (List.mem_cons_self ..)
 have hfree:=hw.free _ (List.mem_cons_self ..)
 have hvl:vs.length=n * sz:=by rw [←hvs.1,hc,ej l hs,hn]
 have hst:cL B σ ((b,.vec e sz 0 n)::L.eraseIdx i) w:=by
  refine ⟨hw.os,hw.tape,hw.output,hw.size,hw.old,fun p hp=>?_,fun p hp=>?_,by simpa using hw.apart,hw.froz,fun p hp off hm=>?_,hw.grow,hw.same,hw.cold⟩
  ·rcases List.mem_cons.1 hp with rfl | hp'
   ·exact ⟨_,ho,_,rfl,by simp [hvl],Nat.zero_le _,by unfold maxLen;omega⟩
   ·exact hw.here p (Ls _ hp')
  ·rcases List.mem_cons.1 hp with rfl | hp'
   ·exact hw.mine (b,.box cs e) (List.mem_cons_self ..)
   ·exact hw.mine p (Ls _ hp')
  ·rcases List.mem_cons.1 hp with rfl | hp'
   ·exact hfree off trivial
   ·exact hw.free p (Ls _ hp') off hm
 obtain ⟨hst',hle⟩:=hst.freezeHead (n':=n) (xs:=vs) (fun j u hj=>by rw [cX ho];simpa using hj) hvl (Nat.zero_le _) (Nat.le_refl _)
 refine ⟨_,?_,hst'⟩
 have hv:VR (σ.add b vs) (.vec (some (b,n)) sz l) (.slice (some ⟨b,0,none⟩) n n):=by
  have:=lY (σ:=σ.add b vs) (b:=b) (cap:=n) hs (by rw [←hc];exact hvs.mono hle) h1 (by omega) (by unfold maxLen;omega) (fun j u hj=>Mem.add_at hj)
  rwa [hn] at this
 have ha':=ha.mono hle
 refine ⟨ha'.size,ha'.defers,fun t' v' hl'=>?_⟩
 rw [bY] at hl'
 by_cases e:t=t'
 ·subst e
  simp only [if_true,Option.some.injEq] at hl'
  subst hl'
  rw [(ha.look t _ hl).sc_inv]
  exact hv
 ·rw [if_neg e] at hl'
  exact ha'.look t' v' hl'
end
end Go.Proofs.YtpmdfoaadejmkaaGreatDoor
namespace Go.Proofs.YtpmdfoaadejmkaaGreatDoor
open Go.RowKit
inductive Ak where
 | v | l | k | e | f | a
def Ak.isF:Ak→Bool | .e=>true | .a=>true | .f=>true | _=>false
inductive JK where
 | cell (q:Nat×Nat×AV)
 | blk (b:Nat) (x:AB)
abbrev KpL:=List JK
def JK.ok:JK→AL→Prop
 | .cell q,L=>∃cs e,(q.1,AB.box cs e)∈L∧cs[q.2.1]?=some q.2.2
 | .blk b x,L=>(b,x)∈L
structure iR where
 fin:bT→AL→Prop
 gs:KpL:=[]
 c0:Mem:=fun _ _=>none
def eC (gs:KpL) (L:AL):Prop:=∀q∈gs,q.ok L
theorem vO {gs:KpL} {L:AL} (h:eC gs L) (X:AL):eC gs (X++L):=fun q hq=>by
 have k:=h q hq
 cases q with
 | cell q=>
  obtain ⟨cs,e,h1,h2⟩:=k
  exact show ∃cs e,(q.1,AB.box cs e)∈X++L∧cs[q.2.1]?=some q.2.2 from ⟨cs,e,List.mem_append_right _ h1,h2⟩
 | blk b x=>exact show (b,x)∈X++L from List.mem_append_right _ k
abbrev m6:=List (Nat×Ak)
inductive PlA:Type 1 where
 | fin
 | val (k:Nat) (u:AV) (nx:PlA)
 | eff (k:Nat) (R:AV→AL→Prop) (nx:AV→AL→PlA)
def rc (acc:bT) (i:Nat):AV:=(ca acc i).getD (.sc undef)
theorem rd (k:Nat) (u:AV) (acc:bT) (i:Nat):rc ((k,u)::acc) i=if k=i then u else rc acc i:=by
 unfold rc
 rw [bY]
 split <;> rfl
def cx (ops:Array Oper) (acc fr:bT):List Edge→bT
 | []=>fr
 | e::r=>bif Region.binds .any e then (match eV ops e.on with
  | some t=>(match ca acc e.on with
   | some v=>(t,v)::cx ops acc fr r
   | none=>(t,.sc undef)::cx ops acc fr r)
  | none=>cx ops acc fr r) else cx ops acc fr r
theorem tR {ops:Array Oper} {acc fr:bT} {ε:Nat→Value} {frC:Fr} {τ:Mem} (hf:∀t c,ca fr t=some c→∃v,fv frC t=some v∧VR τ c v):∀(es:List Edge),(∀e∈es,Region.binds .any e=true→VR τ (rc acc e.on) (ε e.on))→∀t c,ca (cx ops acc fr es) t=some c→∃v,fv (pZ ops ε frC es) t=some v∧VR τ c v
 | [],_,t,c,h=>hf t c h
 | e::r,he,t,c,h=>by
  have ih:=tR (ops:=ops) (acc:=acc) (ε:=ε) hf r (fun e' h'=>he e' (Ls _ h')) t c
  simp only [cx,pZ] at h ⊢
  cases hb:Region.binds .any e with
  | false=>rw [hb] at h;simp only [cond_false] at h ⊢;exact ih h
  | true=>
   rw [hb] at h
   simp only [cond_true] at h ⊢
   have hv:=he e (List.mem_cons_self ..) hb
   cases hd:eV ops e.on with
   | none=>rw [hd] at h;exact ih h
   | some t'=>
    rw [hd] at h
    have key:∀u,rc acc e.on=u→ca ((t',u)::cx ops acc fr r) t=some c→∃v,fv ((t',ε e.on)::pZ ops ε frC r) t=some v∧VR τ c v:=by
     intro u hu h
     rw [bY] at h
     rw [iY]
     by_cases e1:t'=t
     ·rw [if_pos e1] at h ⊢
      injection h with h
      exact ⟨_,rfl,by rw [←h,←hu];exact hv⟩
     ·rw [if_neg e1] at h ⊢
      exact ih h
    simp only at h ⊢
    cases ha:ca acc e.on with
    | none=>rw [ha] at h;exact key _ (by simp [rc,ha]) h
    | some u=>rw [ha] at h;exact key _ (by simp [rc,ha]) h
section
variable (P:Program) (l:List Oper) (fr:bT) (fin:iR)
def zF (o:Oper) (acc:bT) (L:AL) (R:AV→AL→Prop):Prop:=match o.guard with
 | none=>∀B,fin.c0.le B.σ→AO P o (cx l.toArray acc fr o.after.toList) B L R
 | some (j,want)=>(rc acc j= .sc (.bool want)∧∀B,fin.c0.le B.σ→AO P o (cx l.toArray acc fr o.after.toList) B L R)∨((∃v,rc acc j= .sc v∧v≠ .bool want)∧R (.sc undef) L)
def dm:PlA→m6→bT→AL→Prop
 | .fin,sk,acc,L=>sk=[]∧fin.fin acc L
 | .val k u nx,sk,acc,L=>∃s r o,sk=(k,s)::r∧l[k]?=some o∧((s= .v∧∀L,zF P l fr fin o acc L (fun c L'=>c=u∧L'=L))∨(s= .l∧zF P l fr fin o acc L (fun c L'=>c=u∧L'=L))∨(s= .k∧eC fin.gs L∧∀L,eC fin.gs L→zF P l fr fin o acc L (fun c L'=>c=u∧L'=L)))∧dm nx r ((k,u)::acc) L
 | .eff k R nx,sk,acc,L=>∃s r o,(s= .e∨(s= .a∧∀c L',R c L'→∃X,L'=X++L)∨(s= .f∧∀c L',R c L'→eC fin.gs L→eC fin.gs L'))∧sk=(k,s)::r∧l[k]?=some o∧zF P l fr fin o acc L R∧∀c L',R c L'→dm (nx c L') r ((k,c)::acc) L'
end
def kx (τ:Mem) (S:Nat→Bool) (ε:Nat→Value):PlA→AL→AL→Prop
 | .fin,L,Lc=>Lc=L
 | .val k u nx,L,Lc=>(S k=true→VR τ u (ε k))∧kx τ S ε nx L Lc
 | .eff k R nx,L,Lc=>(S k=true∧∃c L',R c L'∧VR τ c (ε k)∧kx τ S ε (nx c L') L' Lc)∨(S k=false∧Lc=L)
def Ak.isE:Ak→Bool | .e=>true | .f=>true | _=>false
def Ak.isX:Ak→Bool | .e=>true | _=>false
def pa (l:List Oper):List Nat→m6→Bool
 | _,[]=>true
 | dn,(k,s)::r=>(match l[k]? with | some o=>CE dn o.after.toList | none=>false) && !dn.any (Nat.beq k) && !r.any (fun p=>Nat.beq k p.1) && (match s with | .v=>true | .l=>r.all (fun p=> !p.2.isE || dB l.toArray 8 p.1 k) | .k=>r.all (fun p=> !p.2.isX || dB l.toArray 8 p.1 k) | .f=>(r.all fun p=>dB l.toArray 8 p.1 k) | .e=>(r.all fun p=>dB l.toArray 8 p.1 k) | .a=>r.all fun p=>dB l.toArray 8 p.1 k) && pa l (k::dn) r
section
variable {P:Program} {l:List Oper} {fr:bT} {fin:iR} {B:Bs} {τ τ':Mem} {S S':Nat→Bool} {ε ε':Nat→Value} {La:AL} {w:World}
theorem mM {dn:List Nat} {k:Nat} {s:Ak} {r:m6} (h:pa l dn ((k,s)::r)=true):(∀o,l[k]?=some o→∀e∈o.after,Region.binds .any e=true→e.on∈dn)∧k∉dn∧(∀p∈r,p.1≠k)∧(s.isF=true→∀p∈r,dB l.toArray 8 p.1 k=true)∧(∀p∈r,(s= .l→p.2.isE=true→dB l.toArray 8 p.1 k=true)∧(s= .k→p.2= .e→dB l.toArray 8 p.1 k=true))∧pa l (k::dn) r=true:=by
 simp only [pa,Bool.and_eq_true] at h
 obtain ⟨⟨⟨⟨h1,h0⟩,h2⟩,h3⟩,h4⟩:=h
 refine ⟨fun o ho e he hb=>?_,fun hm=>?_,fun p hp e=>?_,fun hs p hp=>?_,fun p hp=>⟨fun hs he=>?_,fun hs he=>?_⟩,h4⟩
 ·rw [ho] at h1
  simp only [CE,List.all_eq_true] at h1
  have:=h1 e (by simpa using he)
  rw [hb] at this
  simp only [Bool.not_true,Bool.false_or,List.any_eq_true] at this
  obtain ⟨x,hx,hxe⟩:=this
  rw [Nat.beq_eq] at hxe
  rw [hxe];exact hx
 ·have:dn.any (Nat.beq k)=true:=List.any_eq_true.2 ⟨k,hm,by rw [Nat.beq_eq]⟩
  rw [this] at h0
  cases h0
 ·have:(r.any fun p=>Nat.beq k p.1)=true:=List.any_eq_true.2 ⟨p,hp,by rw [Nat.beq_eq];exact e.symm⟩
  rw [this] at h2
  cases h2
 ·cases s with
  | e=>exact List.all_eq_true.1 h3 p hp
  | a=>exact List.all_eq_true.1 h3 p hp
  | f=>exact List.all_eq_true.1 h3 p hp
  | _=>cases hs
 ·subst hs
  have:=List.all_eq_true.1 h3 p hp
  rw [he] at this
  simpa using this
 ·subst hs
  have:=List.all_eq_true.1 h3 p hp
  rw [he] at this
  simpa [Ak.isX] using this
theorem kx.mono (hle:τ.le τ'):∀(pl:PlA) (L Lc:AL),kx τ S ε pl L Lc→kx τ' S ε pl L Lc
 | .fin,L,Lc,h=>h
 | .val k u nx,L,Lc,h=>⟨fun hs=>(h.1 hs).mono hle,kx.mono hle nx L Lc h.2⟩
 | .eff k R nx,L,Lc,h=>by
  rcases h with ⟨h1,c,L',h2,h3,h4⟩ | h
  ·exact .inl ⟨h1,c,L',h2,h3.mono hle,kx.mono hle _ _ _ h4⟩
  ·exact .inr h
theorem kx.congr:∀(pl:PlA) (sk:m6) (acc:bT) (L Lc:AL),dm P l fr fin pl sk acc L→(∀p∈sk,S' p.1=S p.1∧ε' p.1=ε p.1)→kx τ S ε pl L Lc→kx τ S' ε' pl L Lc
 | .fin,sk,acc,L,Lc,_,_,h=>h
 | .val k u nx,sk,acc,L,Lc,ho,hc,h=>by
  obtain ⟨s,r,o,rfl,_,_,hn⟩:=ho
  have hk:=hc (k,s) (List.mem_cons_self ..)
  refine ⟨fun hs=>?_,kx.congr nx r _ L Lc hn (fun p hp=>hc p (Ls _ hp)) h.2⟩
  rw [hk.1] at hs
  rw [hk.2]
  exact h.1 hs
 | .eff k R nx,sk,acc,L,Lc,ho,hc,h=>by
  obtain ⟨s0,r,o,_,rfl,_,_,hn⟩:=ho
  have hk:=hc (k,s0) (List.mem_cons_self ..)
  rcases h with ⟨h1,c,L',h2,h3,h4⟩ | ⟨h1,h2⟩
  ·refine .inl ⟨by rw [hk.1];exact h1,c,L',h2,by rw [hk.2];exact h3,kx.congr _ r _ _ Lc (hn c L' h2) (fun p hp=>hc p (Ls _ hp)) h4⟩
  ·exact .inr ⟨by rw [hk.1];exact h1,h2⟩
theorem kx.fresh:∀(pl:PlA) (sk:m6) (acc:bT) (L:AL),dm P l fr fin pl sk acc L→(∀p∈sk,S p.1=false)→kx τ S ε pl L L
 | .fin,sk,acc,L,_,_=>rfl
 | .val k u nx,sk,acc,L,ho,hc=>by
  obtain ⟨s,r,o,rfl,_,_,hn⟩:=ho
  exact ⟨fun hs=>(by rw [hc (k,s) (List.mem_cons_self ..)] at hs;cases hs),kx.fresh nx r _ L hn fun p hp=>hc p (Ls _ hp)⟩
 | .eff k R nx,sk,acc,L,ho,hc=>by
  obtain ⟨s0,r,o,_,rfl,_,_,hn⟩:=ho
  exact .inr ⟨hc (k,s0) (List.mem_cons_self ..),rfl⟩
theorem kx.noEff:∀(pl:PlA) (sk:m6) (acc:bT) (L Lc:AL),dm P l fr fin pl sk acc L→(∀p∈sk,p.2.isE=true→S p.1=false)→kx τ S ε pl L Lc→∃X,Lc=X++L
 | .fin,sk,acc,L,Lc,_,_,h=>⟨[],h⟩
 | .val k u nx,sk,acc,L,Lc,ho,hc,h=>by
  obtain ⟨s,r,o,rfl,_,_,hn⟩:=ho
  exact kx.noEff nx r _ L Lc hn (fun p hp=>hc p (Ls _ hp)) h.2
 | .eff k R nx,sk,acc,L,Lc,ho,hc,h=>by
  obtain ⟨s0,r,o,hs0,rfl,_,_,hn⟩:=ho
  rcases h with ⟨h1,c,L',hR,_,h4⟩ | ⟨h1,h2⟩
  ·rcases hs0 with rfl | ⟨rfl,hX⟩ | ⟨rfl,_⟩
   ·rw [hc (k,.e) (List.mem_cons_self ..) rfl] at h1;cases h1
   rotate_left
   ·rw [hc (k,.f) (List.mem_cons_self ..) rfl] at h1;cases h1
   ·obtain ⟨X0,rfl⟩:=hX c L' hR
    obtain ⟨X1,rfl⟩:=kx.noEff (nx c (X0++L)) r _ (X0++L) Lc (hn c _ hR) (fun p hp=>hc p (Ls _ hp)) h4
    exact ⟨X1++X0,by rw [List.append_assoc]⟩
  ·exact ⟨[],h2⟩
theorem kx.keep:∀(pl:PlA) (sk:m6) (acc:bT) (L Lc:AL),dm P l fr fin pl sk acc L→(∀p∈sk,p.2= .e→S p.1=false)→eC fin.gs L→kx τ S ε pl L Lc→eC fin.gs Lc
 | .fin,sk,acc,L,Lc,_,_,hk,h=>by
  have:Lc=L:=h
  rw [this];exact hk
 | .val k u nx,sk,acc,L,Lc,ho,hc,hk,h=>by
  obtain ⟨s,r,o,rfl,_,_,hn⟩:=ho
  exact kx.keep nx r _ L Lc hn (fun p hp=>hc p (Ls _ hp)) hk h.2
 | .eff k R nx,sk,acc,L,Lc,ho,hc,hk,h=>by
  obtain ⟨s0,r,o,hs0,rfl,_,_,hn⟩:=ho
  rcases h with ⟨h1,c,L',hR,_,h4⟩ | ⟨h1,h2⟩
  ·refine kx.keep (nx c L') r _ L' Lc (hn c _ hR) (fun p hp=>hc p (Ls _ hp)) ?_ h4
   rcases hs0 with rfl | ⟨rfl,hX⟩ | ⟨rfl,hK⟩
   ·rw [hc (k,.e) (List.mem_cons_self ..) rfl] at h1;cases h1
   ·obtain ⟨X0,rfl⟩:=hX c L' hR
    exact vO hk X0
   ·exact hK c L' hR hk
  ·rw [h2];exact hk
theorem AO.frame {o:Oper} {L Lf:AL} {R:AV→AL→Prop} {c0:Mem} (h:∀B,c0.le B.σ→AO P o fr B L R) (B:Bs) (hc:c0.le B.σ):AO P o fr B (L++Lf) (fun c L''=>∃L',R c L'∧L''=L'++Lf):=by
 intro σ ρ w hρ hw
 refine (h _ (Mem.le_trans hc hw.grow) σ ρ w hρ hw.enter).mono fun v w' ⟨τ,c,L',h1,h2,h3,h4⟩=>⟨τ,c,L'++Lf,h1,h2,hw.leave h3,L',h4,rfl⟩
theorem AO.ext {fr:bT} {u:AV} {o:Oper} {L:AL} {c0:Mem} (h:∀B,c0.le B.σ→AO P o fr B L (fun c L'=>c=u∧L'=L)) (X:AL) (B:Bs) (hc:c0.le B.σ):AO P o fr B (X++L) (fun c L'=>c=u∧L'=X++L):=by
 intro σ ρ w hρ hw
 refine (AO.frame (Lf:=X) h B hc σ ρ w hρ (hw.perm List.perm_append_comm)).mono fun v w' ⟨τ,c,L2,h1,h2,h3,L',⟨h4,h5⟩,h6⟩=>⟨τ,c,X++L,h1,h2,?_,h4,rfl⟩
 subst h6;subst h5
 exact h3.perm List.perm_append_comm
theorem zF.ext {acc:bT} {u:AV} {o:Oper} {L:AL} (h:zF P l fr fin o acc L (fun c L'=>c=u∧L'=L)) (X:AL):zF P l fr fin o acc (X++L) (fun c L'=>c=u∧L'=X++L):=by
 unfold zF at h ⊢
 split at h
 ·intro B hc;exact AO.ext h X B hc
 ·rcases h with ⟨h1,h2⟩ | ⟨h1,h2⟩
  ·exact .inl ⟨h1,fun B hc=>AO.ext h2 X B hc⟩
  ·exact .inr ⟨h1,h2.1,rfl⟩
theorem rN {frC:Fr} {k:Nat} {o:Oper} {ρ:Operand→Value} (hc0:fin.c0.le B.σ) (okG:jZ l.toArray l=true) (hk:l[k]?=some o) (hc:ot l.toArray S) (hSk:S k=false) (hd:∀e∈o.after,Region.binds .any e=true→S e.on=true)
  (hf:∀t c,ca fr t=some c→∃v,fv frC t=some v∧VR τ c v) (hρ:∀x v,BY (pZ l.toArray ε frC o.after.toList) x=some v→ρ x=v):
  ∀(pl:PlA) (sk:m6) (dn:List Nat) (acc:bT) (L Lc:AL),dm P l fr fin pl sk acc L→pa l dn sk=true→(∀j∈dn,S j=true→VR τ (rc acc j) (ε j))→(∃s,(k,s)∈sk)→kx τ S ε pl L Lc→cL B τ (Lc++La) w→
  Cn o ε (gT P o ρ w fun v w'=>∃τ' Lc',τ.le τ'∧kx τ' (mark S k) (p6 ε k v) pl L Lc'∧cL B τ' (Lc'++La) w') (∃Lc',kx τ (mark S k) (p6 ε k undef) pl L Lc'∧cL B τ (Lc'++La) w)
 | .fin,sk,dn,acc,L,Lc,ho,_,_,⟨s,hs⟩,_,_=>by
  obtain ⟨rfl,_⟩:=ho
  simp at hs
 | .val j u nx,sk,dn,acc,L,Lc,ho,hchk,hacc,⟨s,hs⟩,hsh,hst=>by
  obtain ⟨s',r',o',rfl,hj,hv,hn⟩:=ho
  obtain ⟨c1,c0,c2,c3,c3',c4⟩:=mM hchk
  by_cases e:j=k
  ·subst e
   have:o'=o:=by rw [hk] at hj;injection hj with hj;exact hj.symm
   subst this
   have hfr:∀x c,bh (cx l.toArray acc fr o'.after.toList) x=some c→VR τ c (ρ x):=by
    intro x c hx
    cases x with
    | tmp t=>
     obtain ⟨v,h1,h2⟩:=tR (ops:=l.toArray) (acc:=acc) (ε:=ε) hf o'.after.toList (fun e he hb=>hacc _ (c1 o' hk e (Array.mem_def.2 he) hb) (hd e (Array.mem_def.2 he) hb)) t c hx
     rw [hρ (.tmp t) v h1]
     exact h2
    | const v=>simp only [bh,Option.some.injEq] at hx;subst hx;rw [hρ (.const v) v rfl];exact .sc _
    | global g=>simp only [bh,Option.some.injEq] at hx;subst hx;rw [hρ (.global g) _ rfl];exact .sc _
    | func f=>simp only [bh,Option.some.injEq] at hx;subst hx;rw [hρ (.func f) _ rfl];exact .sc _
   have hnew:∀v,kx τ (mark S j) (p6 ε j v) nx L Lc:=fun v=>kx.congr nx r' _ L Lc hn (fun p hp=>by
    have:=c2 p hp
    simp [mark,p6,this]) hsh.2
   have hO:(∀B,fin.c0.le B.σ→AO P o' (cx l.toArray acc fr o'.after.toList) B Lc (fun c L'=>c=u∧L'=Lc))→gT P o' ρ w fun v w'=>∃τ' Lc',τ.le τ'∧kx τ' (mark S j) (p6 ε j v) (.val j u nx) L Lc'∧cL B τ' (Lc'++La) w':=by
    intro hO
    refine (AO.frame hO B hc0 τ ρ w hfr hst).mono ?_
    rintro v w' ⟨τ',c,L2,hle,hvr,hst',L',⟨rfl,rfl⟩,rfl⟩
    exact ⟨τ',_,hle,⟨fun _=>by simpa [p6] using hvr,(hnew v).mono hle⟩,hst'⟩
   have hL:s'= .l→∃X,Lc=X++L:=fun hs'=>kx.noEff nx r' _ L Lc hn (fun p hp he=>by
    cases hS:S p.1 with
    | false=>rfl
    | true=>
     have:=fG hc _ _ _ ((c3' p hp).1 hs' he) hS
     rw [hSk] at this
     cases this) hsh.2
   have hv':zF P l fr fin o' acc Lc (fun c L'=>c=u∧L'=Lc):=by
    rcases hv with ⟨_,h⟩ | ⟨hs',h⟩ | ⟨hs',hk1,h⟩
    ·exact h Lc
    ·obtain ⟨X,rfl⟩:=hL hs';exact h.ext X
    ·refine h Lc (kx.keep nx r' _ L Lc hn (fun p hp he=>?_) hk1 hsh.2)
     cases hS:S p.1 with
     | false=>rfl
     | true=>
      have:=fG hc _ _ _ ((c3' p hp).2 hs' he) hS
      rw [hSk] at this
      cases this
   unfold zF at hv'
   unfold Cn
   cases hg:o'.guard with
   | none=>rw [hg] at hv';exact hO hv'
   | some q=>
    obtain ⟨g,want⟩:=q
    rw [hg] at hv'
    obtain ⟨hej,_⟩:=i5 l.toArray l okG j o' g want hk hg
    obtain ⟨e,he,hb,hei⟩:=kJ.1 hej
    have hgv:VR τ (rc acc g) (ε g):=by rw [←hei];exact hacc _ (c1 o' hk e he hb) (hd e he hb)
    simp only at hv' ⊢
    rcases hv' with ⟨hy,hO'⟩ | ⟨⟨v,hy,hne⟩,hu,_⟩
    ·rw [hy] at hgv
     rw [hgv.sc_inv]
     exact ⟨fun _=>hO hO',fun h=>absurd rfl h⟩
    ·rw [hy] at hgv
     rw [hgv.sc_inv]
     refine ⟨fun h=>absurd h hne,fun _=>⟨Lc,⟨fun _=>?_,hnew undef⟩,hst⟩⟩
     rw [←hu]
     simpa [p6] using VR.sc (σ:=τ) undef
  ·have hmem:(k,s)∈r':=by
    rcases List.mem_cons.1 hs with h | h
    ·injection h with h _;exact absurd h.symm e
    ·exact h
   refine (rN hc0 okG hk hc hSk hd hf hρ nx r' (j::dn) ((j,u)::acc) L Lc hn c4 ?_ ⟨s,hmem⟩ hsh.2 hst).mono ?_ ?_
   ·intro i hi hSi
    rw [rd]
    by_cases hji:j=i
    ·subst hji;rw [if_pos rfl];exact hsh.1 hSi
    ·rw [if_neg hji]
     rcases List.mem_cons.1 hi with rfl | hi
     ·exact absurd rfl hji
     ·exact hacc i hi hSi
   ·intro h
    refine h.mono fun v w' ⟨τ',Lc',hle,h1,h2⟩=>⟨τ',Lc',hle,⟨fun hm=>?_,h1⟩,h2⟩
    simp only [p6,if_neg e]
    exact (hsh.1 (by simpa [mark,e] using hm)).mono hle
   ·rintro ⟨Lc',h1,h2⟩
    refine ⟨Lc',⟨fun hm=>?_,h1⟩,h2⟩
    simp only [p6,if_neg e]
    exact hsh.1 (by simpa [mark,e] using hm)
 | .eff j R nx,sk,dn,acc,L,Lc,ho,hchk,hacc,⟨s,hs⟩,hsh,hst=>by
  obtain ⟨s0,r',o',hs0,rfl,hj,hv,hn⟩:=ho
  obtain ⟨c1,c0,c2,c3,c3',c4⟩:=mM hchk
  have hF:s0.isF=true:=by rcases hs0 with rfl | ⟨rfl,_⟩ | ⟨rfl,_⟩ <;> rfl
  by_cases e:j=k
  ·subst e
   have:o'=o:=by rw [hk] at hj;injection hj with hj;exact hj.symm
   subst this
   have hfr:∀x c,bh (cx l.toArray acc fr o'.after.toList) x=some c→VR τ c (ρ x):=by
    intro x c hx
    cases x with
    | tmp t=>
     obtain ⟨v,h1,h2⟩:=tR (ops:=l.toArray) (acc:=acc) (ε:=ε) hf o'.after.toList (fun e he hb=>hacc _ (c1 o' hk e (Array.mem_def.2 he) hb) (hd e (Array.mem_def.2 he) hb)) t c hx
     rw [hρ (.tmp t) v h1]
     exact h2
    | const v=>simp only [bh,Option.some.injEq] at hx;subst hx;rw [hρ (.const v) v rfl];exact .sc _
    | global g=>simp only [bh,Option.some.injEq] at hx;subst hx;rw [hρ (.global g) _ rfl];exact .sc _
    | func f=>simp only [bh,Option.some.injEq] at hx;subst hx;rw [hρ (.func f) _ rfl];exact .sc _
   have hLc:Lc=L:=by
    rcases hsh with ⟨h1,_⟩ | ⟨_,h2⟩
    ·rw [hSk] at h1;cases h1
    ·exact h2
   subst hLc
   have hnone:∀p∈r',mark S j p.1=false:=fun p hp=>by
    have h1:=c2 p hp
    cases hS:S p.1 with
    | false=>simp [mark,h1,hS]
    | true=>
     have:=fG hc _ _ _ (c3 hF p hp) hS
     rw [hSk] at this
     cases this
   have hO:(∀B,fin.c0.le B.σ→AO P o' (cx l.toArray acc fr o'.after.toList) B Lc R)→gT P o' ρ w fun v w'=>∃τ' Lc',τ.le τ'∧kx τ' (mark S j) (p6 ε j v) (.eff j R nx) Lc Lc'∧cL B τ' (Lc'++La) w':=by
    intro hO
    refine (AO.frame hO B hc0 τ ρ w hfr hst).mono ?_
    rintro v w' ⟨τ',c,L2,hle,hvr,hst',L',hR,rfl⟩
    exact ⟨τ',L',hle,.inl ⟨by simp [mark],c,L',hR,by simpa [p6] using hvr,kx.fresh _ r' _ L' (hn c L' hR) hnone⟩,hst'⟩
   unfold zF at hv
   unfold Cn
   cases hg:o'.guard with
   | none=>rw [hg] at hv;exact hO hv
   | some q=>
    obtain ⟨g,want⟩:=q
    rw [hg] at hv
    obtain ⟨hej,_⟩:=i5 l.toArray l okG j o' g want hk hg
    obtain ⟨e,he,hb,hei⟩:=kJ.1 hej
    have hgv:VR τ (rc acc g) (ε g):=by rw [←hei];exact hacc _ (c1 o' hk e he hb) (hd e he hb)
    simp only at hv ⊢
    rcases hv with ⟨hy,hO'⟩ | ⟨⟨v,hy,hne⟩,hR⟩
    ·rw [hy] at hgv
     rw [hgv.sc_inv]
     exact ⟨fun _=>hO hO',fun h=>absurd rfl h⟩
    ·rw [hy] at hgv
     rw [hgv.sc_inv]
     refine ⟨fun h=>absurd h hne,fun _=>⟨Lc,.inl ⟨by simp [mark],.sc undef,Lc,hR,by simpa [p6] using VR.sc (σ:=τ) undef,kx.fresh _ r' _ Lc (hn _ _ hR) hnone⟩,hst⟩⟩
  ·have hmem:(k,s)∈r':=by
    rcases List.mem_cons.1 hs with h | h
    ·injection h with h _;exact absurd h.symm e
    ·exact h
   have hSj:S j=true:=by
    have hr:=c3 hF (k,s) hmem
    have:∀(n i:Nat),dB l.toArray n i j=true→(∀o,l[i]?=some o→∀e∈o.after,Region.binds .any e=true→S e.on=true)→S j=true:=by
     intro n i h hd'
     cases n with
     | zero=>simp [dB] at h
     | succ n=>
      simp only [dB] at h
      split at h
      ·cases h
      ·rename_i oi hoi
       rw [List.any_eq_true] at h
       obtain ⟨ed,hed,h⟩:=h
       simp only [Bool.and_eq_true,Bool.or_eq_true,Nat.beq_eq] at h
       have hse:=hd' oi (by simpa using hoi) ed (Array.mem_def.2 hed) h.1
       rcases h.2 with h2 | h2
       ·rw [←h2];exact hse
       ·exact fG hc n _ _ h2 hse
    exact this _ _ hr fun o' ho'=>by
     have:o'=o:=by rw [hk] at ho';injection ho' with h;exact h.symm
     subst this
     exact hd
   rcases hsh with ⟨h1,c,L',hR,hvr,h4⟩ | ⟨h1,_⟩
   ·refine (rN hc0 okG hk hc hSk hd hf hρ (nx c L') r' (j::dn) ((j,c)::acc) L' Lc (hn c L' hR) c4 ?_ ⟨s,hmem⟩ h4 hst).mono ?_ ?_
    ·intro i hi hSi
     rw [rd]
     by_cases hji:j=i
     ·subst hji;rw [if_pos rfl];exact hvr
     ·rw [if_neg hji]
      rcases List.mem_cons.1 hi with rfl | hi
      ·exact absurd rfl hji
      ·exact hacc i hi hSi
    ·intro h
     refine h.mono fun v w' ⟨τ',Lc',hle,h5,h6⟩=>⟨τ',Lc',hle,.inl ⟨by simp [mark,hSj],c,L',hR,?_,h5⟩,h6⟩
     simp only [p6,if_neg e]
     exact hvr.mono hle
    ·rintro ⟨Lc',h5,h6⟩
     refine ⟨Lc',.inl ⟨by simp [mark,hSj],c,L',hR,?_,h5⟩,h6⟩
     simp only [p6,if_neg e]
     exact hvr
   ·rw [hSj] at h1;cases h1
theorem uy:∀(pl:PlA) (sk:m6) (acc:bT) (L Lc:AL),dm P l fr fin pl sk acc L→(∀p∈sk,S p.1=true)→(∀p∈sk,∀q,ca acc p.1≠some q)→(sk.map (·.1)).Nodup→kx τ S ε pl L Lc→∃acc',fin.fin acc' Lc∧(∀p∈sk,VR τ (rc acc' p.1) (ε p.1))∧∀i,(∀p∈sk,p.1≠i)→ca acc' i=ca acc i
 | .fin,sk,acc,L,Lc,ho,_,_,_,h=>by
  obtain ⟨rfl,hf⟩:=ho
  have:Lc=L:=h
  subst this
  exact ⟨acc,hf,by simp,fun _ _=>rfl⟩
 | .val k u nx,sk,acc,L,Lc,ho,hS,hn',hnd,h=>by
  obtain ⟨s,r,o,rfl,_,_,hn⟩:=ho
  simp only [Lp,List.nodup_cons] at hnd
  have hne:∀p∈r,p.1≠k:=fun p hp e=>hnd.1 (by rw [←e];exact List.mem_map_of_mem hp)
  obtain ⟨acc',h1,h2,h3⟩:=uy nx r ((k,u)::acc) L Lc hn (fun p hp=>hS p (Ls _ hp)) (fun p hp q=>by rw [bY,if_neg (hne p hp).symm];exact hn' p (Ls _ hp) q) hnd.2 h.2
  refine ⟨acc',h1,fun p hp=>?_,fun i hi=>?_⟩
  ·rcases List.mem_cons.1 hp with rfl | hp
   ·have:=h3 k hne
    rw [rc,this,bY,if_pos rfl]
    exact h.1 (hS (k,s) (List.mem_cons_self ..))
   ·exact h2 p hp
  ·rw [h3 i (fun p hp=>hi p (Ls _ hp)),bY,if_neg (hi (k,s) (List.mem_cons_self ..))]
 | .eff k R nx,sk,acc,L,Lc,ho,hS,hn',hnd,h=>by
  obtain ⟨s0,r,o,_,rfl,_,_,hn⟩:=ho
  simp only [Lp,List.nodup_cons] at hnd
  have hne:∀p∈r,p.1≠k:=fun p hp e=>hnd.1 (by rw [←e];exact List.mem_map_of_mem hp)
  rcases h with ⟨_,c,L',hR,hvr,h4⟩ | ⟨h1,_⟩
  ·obtain ⟨acc',h1,h2,h3⟩:=uy (nx c L') r ((k,c)::acc) L' Lc (hn c L' hR) (fun p hp=>hS p (Ls _ hp)) (fun p hp q=>by rw [bY,if_neg (hne p hp).symm];exact hn' p (Ls _ hp) q) hnd.2 h4
   refine ⟨acc',h1,fun p hp=>?_,fun i hi=>?_⟩
   ·rcases List.mem_cons.1 hp with rfl | hp
    ·have:=h3 k hne
     rw [rc,this,bY,if_pos rfl]
     exact hvr
    ·exact h2 p hp
   ·rw [h3 i (fun p hp=>hi p (Ls _ hp)),bY,if_neg (hi (k,s0) (List.mem_cons_self ..))]
  ·rw [hS (k,s0) (List.mem_cons_self ..)] at h1;cases h1
end
end Go.Proofs.YtpmdfoaadejmkaaGreatDoor
