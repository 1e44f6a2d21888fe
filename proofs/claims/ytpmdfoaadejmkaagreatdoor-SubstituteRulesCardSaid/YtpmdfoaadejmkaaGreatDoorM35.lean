/-
  The library's Replace, of one item by some.
-/
import Derived.Test.YtpmdfoaadejmkaaGreatDoorM34
namespace Go.Proofs.YtpmdfoaadejmkaaGreatDoor
open Go.RowKit
attribute [local irreducible] AT bJ AX AO Av Kt bi dq DA cG
theorem yJ {run':List aJ} {cs':List AV} {cap' b':Nat} (h1:cs'.take (run'.length * 6)=bB run') (h2:cap' * 6≤cs'.length) (h3:run'.length≤cap') (h4:cap'≤maxLen):∃m',cu (some m') run'∧AV.sc (.slice (some ⟨b',0,none⟩) run'.length cap')=cM (some m') run'∧[(b',AB.box cs' 67)]=fP (some m') run':=by
 have hj:bB run'++cs'.drop (run'.length * 6)=cs':=by rw [←h1,List.take_append_drop]
 refine ⟨⟨b',cap',cs'.drop (run'.length * 6)⟩,⟨fun e=>(by cases e),fun m' hm'=>?_⟩,rfl,?_⟩
 ·cases hm'
  exact ⟨h3,h4,by rw [hj];exact h2⟩
 ·unfold fP
  dsimp only
  rw [hj]
theorem km {X E:List AV} {o k:Nat} (hk:E.length=k) (ho:o≤X.length):(X.take o++E++X.drop (o+k)).take (o+k)=X.take o++E:=by
 have:(X.take o++E).length=o+k:=by rw [List.length_append,List.length_take,hk,Nat.min_eq_left ho]
 rw [List.take_append_of_le_length (by omega),List.take_of_length_le (by omega)]
theorem B0 {X E:List AV} {o k j:Nat} (hk:E.length=k) (ho:o≤X.length) (hj:j≤o):(X.take o++E++X.drop (o+k)).take j=X.take j:=by
 have:(X.take o).length=o:=by rw [List.length_take,Nat.min_eq_left ho]
 rw [List.append_assoc,List.take_append_of_le_length (by omega),List.take_take,Nat.min_eq_left hj]
theorem w5 {X E:List AV} {o k j:Nat} (hk:E.length=k) (ho:o≤X.length) (hj:o+k≤j):(X.take o++E++X.drop (o+k)).drop j=X.drop j:=by
 have:(X.take o++E).length=o+k:=by rw [List.length_append,List.length_take,hk,Nat.min_eq_left ho]
 rw [List.drop_append,List.drop_eq_nil_of_le (by omega),Kq,List.drop_drop,this,show o+k+(j - (o+k))=j by omega]
theorem my {X E:List AV} {o k:Nat} (hk:E.length=k) (ho:o+k≤X.length):(X.take o++E++X.drop (o+k)).length=X.length:=by
 rw [List.length_append,List.length_append,List.length_take,List.length_drop,hk]
 omega
set_option maxHeartbeats 16000000 in
theorem xX (rb cap ib kc:Nat) (run items:List aJ) (junk:List AV) (i:Nat) (hi:i < run.length) (hc:run.length≤cap) (hm:cap≤maxLen) (hf:cap * 6≤(bB run++junk).length) (hr:run.length≤1000000) (hk:items.length≤1000000):
  AC Tryz.prog 281 [.sc (.slice (some ⟨rb,0,none⟩) run.length cap),aF i,aF ((i:Int)+1),.sc (.slice (some ⟨ib,0,none⟩) items.length kc)] [(rb,.box (bB run++junk) 67),(ib,.box (bB items) 67)] fun c L=>
   ∃m',cu (some m') (run.take i++items++run.drop (i+1))∧c=cM (some m') (run.take i++items++run.drop (i+1))∧L=fP (some m') (run.take i++items++run.drop (i+1)):=by
 refine aN Tryz.func281 rfl Tryz.ntmps281 rfl fun B=>?_
 unfold maxLen at hm
 have hfl:=co run
 have hil:=co items
 have hA:=mi run junk (Nat.le_of_lt hi)
 have hT:=oP run junk (k:=i+1) hi
 have hAl:=co (run.take i)
 have hTl:=co (run.drop (i+1))
 rw [List.length_take,Nat.min_eq_left (by omega)] at hAl
 rw [List.length_drop] at hTl
 have hnl:(run.take i++items++run.drop (i+1)).length=i+items.length+(run.length - (i+1)):=by
  rw [List.length_append,List.length_append,List.length_take,List.length_drop,Nat.min_eq_left (by omega)]
 have hfr:bB (run.take i++items++run.drop (i+1))=bB (run.take i)++bB items++bB (run.drop (i+1)):=by rw [gi,gi]
 generalize hX:bB run++junk=X at *
 have hsrcI:∀fr y B (L:AL) (j:Nat),L[j]?=some (ib,.box (bB items) 67)→br fr y=some (.sc (.slice (some ⟨ib,0,none⟩) items.length kc))→qw fr B L y 6 items.length (bB items):=by
  intro fr y B L j hL hy
  have:=od (B:=B) (sz:=6) j hy hL (by omega)
  rw [List.drop_zero,List.take_of_length_le (by omega)] at this
  exact this
 repeat' (first|refine L3 ?_|refine KG a4 HY ?_)
 refine Dy a4 i (i+1) rfl rfl rfl rfl rfl rfl (by omega) (by omega) rfl ?_
 repeat' (first|refine L3 ?_|refine KG a4 HY ?_)
 refine aw rfl (fun h=>?_) (fun h=>?_)
 ·have:=Ky h
  omega
 clear h
 repeat' (first|refine L3 ?_|refine KG a4 HY ?_)
 refine aw rfl (fun h=>?_) (fun h=>?_)
 ·have hn:i+1=run.length:=by have:=Ky h;omega
  clear h
  repeat' (first|refine L3 ?_|refine KG a4 HY ?_)
  refine nQ a4 i rfl rfl rfl rfl (by omega) rfl ?_
  repeat' (first|refine KG a4 HY ?_)
  refine k9 a4 0 rfl rfl rfl rfl (hsrcI _ _ _ _ 1 rfl rfl) rfl (by omega) (by omega) (by unfold maxLen;omega) (by unfold maxLen;omega) (by omega) rfl fun b' cs' cap' e1 e2 e3 e4 e5=>?_
  rw [hA] at e2
  have hdn:run.drop (i+1)=[]:=List.drop_eq_nil_of_le (by omega)
  have hfin:∀cs2:List AV,cs2.take ((i+items.length) * 6)=cs'.take ((i+items.length) * 6)→cs2.length=cs'.length→∃m',cu (some m') (run.take i++items++run.drop (i+1))∧AV.sc (.slice (some ⟨b',0,none⟩) (i+items.length) cap')=cM (some m') (run.take i++items++run.drop (i+1))∧[(b',AB.box cs2 67)]=fP (some m') (run.take i++items++run.drop (i+1)):=fun cs2 g1 g2=>by
   have hl:(run.take i++items++run.drop (i+1)).length=i+items.length:=by omega
   have:=yJ (run':=run.take i++items++run.drop (i+1)) (cs':=cs2) (cap':=cap') (b':=b') (by rw [hl,g1,e2,hfr,hdn];simp [bB]) (by rw [g2];exact e1) (by rw [hl];exact e3) e4
   rw [hl] at this
   exact this
  repeat' (first|refine L3 ?_|refine KG a4 HY ?_)
  refine aw rfl (fun h=>?_) (fun h=>?_)
  ·have hk0:items.length=0:=by have:=Ky h;omega
   clear h
   obtain ⟨e6,e7,e8⟩:=e5 (by omega)
   subst e6;subst e7
   repeat' (first|refine L3 ?_|refine KG a4 HY ?_)
   refine mv a4 (i+items.length) rfl rfl rfl rfl (by omega) (by omega) rfl fun off ho=>?_
   repeat' (first|fail)
   refine rC a4 0 (m:=i+items.length) rfl rfl rfl rfl (.inl (by omega)) rfl (by omega) fun cs2 g1 g2=>?_
   obtain ⟨m',k1,k2,k3⟩:=hfin cs2 g2 g1
   repeat' (first|refine L3 ?_|refine KG a4 HY ?_)
   refine dH (L':=[(b',.box cs2 67)]) (.cons_cons _ (List.nil_sublist _)) ?_
   exact KP HY ⟨m',k1,k2,k3⟩
  ·clear h
   obtain ⟨m',g1,g2,g3⟩:=hfin cs' rfl rfl
   repeat' (first|refine L3 ?_|refine KG a4 HY ?_)
   refine dH (L':=[(b',.box cs' 67)]) (.cons_cons _ (List.nil_sublist _)) ?_
   exact KP HY ⟨m',g1,g2,g3⟩
 ·have hn:i+1 < run.length:=by have:=Kx h;omega
  clear h
  have hfin:∀(b' cap':Nat) (cs2:List AV),cs2.take ((i+items.length+(run.length - (i+1))) * 6)=bB (run.take i)++bB items++bB (run.drop (i+1))→cap' * 6≤cs2.length→i+items.length+(run.length - (i+1))≤cap'→cap'≤9223372036854775807→∃m',cu (some m') (run.take i++items++run.drop (i+1))∧AV.sc (.slice (some ⟨b',0,none⟩) (i+items.length+(run.length - (i+1))) cap')=cM (some m') (run.take i++items++run.drop (i+1))∧[(b',AB.box cs2 67)]=fP (some m') (run.take i++items++run.drop (i+1)):=fun b' cap' cs2 g1 g2 g3 g4=>by
   have:=yJ (run':=run.take i++items++run.drop (i+1)) (cs':=cs2) (cap':=cap') (b':=b') (by rw [hnl,g1,hfr]) g2 (by rw [hnl];exact g3) (by unfold maxLen;exact g4)
   rw [hnl] at this
   exact this
  have hsrcT:∀fr y B (L:AL) (j off:Nat) (cs:List AV),L[j]?=some (rb,.box cs 67)→(cs.drop ((i+1) * 6)).take ((run.length - (i+1)) * 6)=bB (run.drop (i+1))→(i+1) * 6+(run.length - (i+1)) * 6≤cs.length→(off=(i+1) * 6∨off=0∧i+1=cap)→br fr y=some (.sc (.slice (some ⟨rb,off,none⟩) (run.length - (i+1)) (cap - (i+1))))→qw fr B L y 6 (run.length - (i+1)) (bB (run.drop (i+1))):=by
   intro fr y B L j off cs hL hcs hlen ho hy
   obtain rfl:off=(i+1) * 6:=by omega
   have:=od (B:=B) (sz:=6) j hy hL (by omega)
   rw [hcs] at this
   exact this
  repeat' (first|refine L3 ?_|fail)
  refine bn 11 [(0,.v),(1,.v),(2,.v),(3,.v),(4,.v),(5,.v),(6,.v),(7,.v),(8,.v),(9,.v),(10,.v)] none ?_ trivial rfl (by kernel_rfl) (by kernel_rfl) (by kernel_rfl) bI (by kernel_rfl) rfl
  repeat' (first|refine aB ?_|refine aX a4 ?_|fail)
  refine yD a4 i rfl rfl rfl rfl (by omega) trivial ?_
  repeat' (first|refine aB ?_|refine aX a4 ?_|(apply dz;refine eL ?_)|fail)
  refine iJ a4 (i+1) rfl rfl rfl (by omega) (by omega) (by omega) trivial ?_
  repeat' (first|refine aB ?_|refine aX a4 ?_|fail)
  refine KU [0,1,2,3,51,55] HY ?_
  repeat' (first|refine L3 ?_|refine a7 ?_|refine KG a4 HY ?_|(apply aU;refine aT ?_)|fail)
  refine rB a4 rfl rfl rfl ?_
  have htot:((i:Int)+(items.length:Int)+((run.length - (i+1):Nat):Int))=((i+items.length+(run.length - (i+1)):Nat):Int):=by omega
  repeat' (first|refine L3 ?_|refine KG a4 HY ?_)
  rw [htot]
  refine aw rfl (fun h=>?_) (fun h=>?_)
  ·have hbig:cap < i+items.length+(run.length - (i+1)):=by have:=Ky h;omega
   clear h
   repeat' (first|refine L3 ?_|refine KG a4 HY ?_)
   refine nQ a4 i rfl rfl rfl rfl (by omega) rfl ?_
   repeat' (first|refine KG a4 HY ?_|(apply aU;refine aT ?_)|fail)
   refine rz a4 0 (items.length+(run.length - (i+1))) rfl rfl rfl Tryz.underlying3 rfl rfl (by omega) (by omega) rfl (by omega) (by omega) (by omega) (by unfold maxLen;omega) (by omega) rfl fun b' cs' cap' e1 e2 e3 e4=>?_
   unfold maxLen at e4
   rw [hA] at e2
   repeat' (first|refine L3 ?_|refine KG a4 HY ?_)
   refine mv a4 i rfl rfl rfl rfl (by omega) (by omega) rfl fun off ho=>?_
   obtain rfl:off=i * 6:=by omega
   repeat' (first|refine KG a4 HY ?_)
   refine mq a4 0 rfl rfl (hsrcI _ _ _ _ 2 rfl rfl) rfl (by omega) rfl ?_
   rw [show min items.length (i+(items.length+(run.length - (i+1))) - i)=items.length by omega,List.take_of_length_le (l:=bB items) (by omega)]
   have hIl:(bB items).length=items.length * 6:=hil
   have p1:=km (X:=cs') hIl (o:=i * 6) (by omega)
   have p2:=my (X:=cs') hIl (o:=i * 6) (by omega)
   generalize hY:cs'.take (i * 6)++bB items++cs'.drop (i * 6+items.length * 6)=Y at *
   rw [e2] at p1
   repeat' (first|refine L3 ?_|fail)
   refine bn 9 [(0,.v),(1,.v),(2,.v),(3,.v),(4,.v),(5,.v),(6,.v),(7,.v),(8,.v)] none ?_ trivial rfl (by kernel_rfl) (by kernel_rfl) (by kernel_rfl) bI (by kernel_rfl) rfl
   repeat' (first|refine aB ?_|refine aX a4 ?_|(apply dz;refine eL ?_)|fail)
   refine iJ a4 (i+items.length) rfl rfl rfl rfl (by omega) (by omega) trivial ?_
   repeat' (first|refine aB ?_|refine aX a4 ?_|fail)
   refine iJ a4 (i+1) rfl rfl rfl rfl (by omega) (by omega) trivial ?_
   repeat' (first|fail)
   refine KU [11,78,81] HY ?_
   rw [if_neg (show ¬cap=i+1 by omega),if_neg (show ¬cap'=i+items.length by omega)]
   repeat' (first|fail)
   refine mq a4 0 rfl rfl (hsrcT _ _ _ _ 1 _ X rfl hT (by omega) (.inl rfl) rfl) rfl (by show _≤Y.length;omega) rfl ?_
   rw [show min (run.length - (i+1)) (i+(items.length+(run.length - (i+1))) - (i+items.length))=run.length - (i+1) by omega,List.take_of_length_le (l:=bB (run.drop (i+1))) (by omega)]
   have q1:=km (X:=Y) hTl (o:=(i+items.length) * 6) (by omega)
   have q2:=my (X:=Y) hTl (o:=(i+items.length) * 6) (by omega)
   rw [show (i+items.length) * 6=i * 6+items.length * 6 by omega,p1] at q1
   rw [show (i+items.length) * 6=i * 6+items.length * 6 by omega] at q2
   rw [show (i+items.length) * 6=i * 6+items.length * 6 by omega,p1]
   rw [p1] at q2
   generalize bB (run.take i)++bB items++bB (run.drop (i+1))++Y.drop (i * 6+items.length * 6+(run.length - (i+1)) * 6)=Z at *
   obtain ⟨m',g1,g2,g3⟩:=hfin b' cap' Z (by rw [show (i+items.length+(run.length - (i+1))) * 6=i * 6+items.length * 6+(run.length - (i+1)) * 6 by omega];exact q1) (by omega) (by omega) (by omega)
   repeat' (first|refine L3 ?_|refine KG a4 HY ?_)
   refine dH (L':=[(b',.box Z 67)]) (.cons_cons _ (List.nil_sublist _)) ?_
   exact KP HY ⟨m',g1,(by rw [←Nat.add_assoc];exact g2),g3⟩
  ·have hroom:i+items.length+(run.length - (i+1))≤cap:=by have:=Kx h;omega
   clear h
   repeat' (first|refine L3 ?_|refine KG a4 HY ?_)
   refine nQ a4 (i+items.length+(run.length - (i+1))) rfl rfl rfl rfl (by omega) rfl ?_
   repeat' (first|refine L3 ?_|refine KG a4 HY ?_|(apply aU;refine aT ?_)|fail)
   refine aw rfl (fun h=>?_) (fun h=>?_)
   ·have hk1:items.length≤1:=by have:=Ky h;omega
    clear h
    repeat' (first|refine L3 ?_|refine KG a4 HY ?_)
    refine mv a4 i rfl rfl rfl rfl (by omega) (by omega) rfl fun off ho=>?_
    obtain rfl:off=i * 6:=by omega
    repeat' (first|refine KG a4 HY ?_)
    refine mq a4 0 rfl rfl (hsrcI _ _ _ _ 1 rfl rfl) rfl (by omega) rfl ?_
    rw [show min items.length (i+items.length+(run.length - (i+1)) - i)=items.length by omega,List.take_of_length_le (l:=bB items) (by omega)]
    have p1:=km (X:=X) hil (o:=i * 6) (by omega)
    have p2:=my (X:=X) hil (o:=i * 6) (by omega)
    have p3:=w5 (X:=X) hil (o:=i * 6) (j:=(i+1) * 6) (by omega) (by omega)
    generalize hY:X.take (i * 6)++bB items++X.drop (i * 6+items.length * 6)=Y at *
    rw [hA] at p1
    repeat' (first|refine L3 ?_|fail)
    refine bn 9 [(0,.v),(1,.v),(2,.v),(3,.v),(4,.v),(5,.v),(6,.v),(7,.v),(8,.v)] none ?_ trivial rfl (by kernel_rfl) (by kernel_rfl) (by kernel_rfl) bI (by kernel_rfl) rfl
    repeat' (first|refine aB ?_|refine aX a4 ?_|(apply dz;refine eL ?_)|fail)
    refine iJ a4 (i+items.length) rfl rfl rfl rfl (by omega) (by omega) trivial ?_
    repeat' (first|refine aB ?_|refine aX a4 ?_|fail)
    refine iJ a4 (i+1) rfl rfl rfl rfl (by omega) (by omega) trivial ?_
    repeat' (first|fail)
    refine KU [0,10,12,103,106] HY ?_
    rw [if_neg (show ¬cap=i+1 by omega),if_neg (show ¬cap=i+items.length by omega)]
    repeat' (first|fail)
    refine mq a4 0 rfl rfl (hsrcT _ _ _ _ 0 _ Y rfl (by rw [p3];exact hT) (by omega) (.inl rfl) rfl) rfl (by show _≤Y.length;omega) rfl ?_
    rw [show min (run.length - (i+1)) (i+items.length+(run.length - (i+1)) - (i+items.length))=run.length - (i+1) by omega,List.take_of_length_le (l:=bB (run.drop (i+1))) (by omega)]
    have q1:=km (X:=Y) hTl (o:=(i+items.length) * 6) (by omega)
    have q2:=my (X:=Y) hTl (o:=(i+items.length) * 6) (by omega)
    rw [show (i+items.length) * 6=i * 6+items.length * 6 by omega,p1] at q1
    rw [show (i+items.length) * 6=i * 6+items.length * 6 by omega] at q2
    rw [show (i+items.length) * 6=i * 6+items.length * 6 by omega,p1]
    rw [p1] at q2
    generalize bB (run.take i)++bB items++bB (run.drop (i+1))++Y.drop (i * 6+items.length * 6+(run.length - (i+1)) * 6)=Z at *
    repeat' (first|refine L3 ?_|refine KG a4 HY ?_)
    refine mv a4 (i+items.length+(run.length - (i+1))) rfl rfl rfl rfl (by omega) (by omega) rfl fun off ho=>?_
    repeat' (first|fail)
    refine rC a4 0 (m:=i+items.length+(run.length - (i+1))) rfl rfl rfl rfl (by omega) rfl (by show _≤Z.length;omega) fun cs2 g1 g2=>?_
    obtain ⟨m',k1,k2,k3⟩:=hfin rb cap cs2 (by rw [g2,show (i+items.length+(run.length - (i+1))) * 6=i * 6+items.length * 6+(run.length - (i+1)) * 6 by omega];exact q1) (by omega) (by omega) (by omega)
    repeat' (first|refine L3 ?_|refine KG a4 HY ?_)
    refine dH (L':=[(rb,.box cs2 67)]) (.cons_cons _ (List.nil_sublist _)) ?_
    exact KP HY ⟨m',k1,k2,k3⟩
   ·have hk1:1 < items.length:=by have:=Kx h;omega
    clear h
    repeat' (first|refine L3 ?_|refine KG a4 HY ?_|(apply aU;refine aT ?_)|fail)
    refine mv a4 (i+items.length) rfl rfl rfl rfl (by omega) (by omega) rfl fun off ho=>?_
    repeat' (first|refine KG a4 HY ?_)
    refine xP 0 1 (by decide) rfl rfl rfl rfl (fun e=>by rw [e] at hil;simp at hil;omega) rfl ?_
    repeat' (first|refine L3 ?_|refine KG a4 HY ?_|refine bH rfl ?_)
    refine bn 9 [(0,.v),(1,.v),(2,.v),(3,.v),(4,.v),(5,.v),(6,.v),(7,.v),(8,.v)] none ?_ trivial rfl (by kernel_rfl) (by kernel_rfl) (by kernel_rfl) bI (by kernel_rfl) rfl
    repeat' (first|refine aB ?_|refine aX a4 ?_|(apply dz;refine eL ?_)|fail)
    refine iJ a4 (i+items.length) rfl rfl rfl rfl (by omega) (by omega) trivial ?_
    repeat' (first|refine aB ?_|refine aX a4 ?_|fail)
    refine iJ a4 (i+1) rfl rfl rfl rfl (by omega) (by omega) trivial ?_
    repeat' (first|fail)
    refine KU [1,3,12,126,129] HY ?_
    rw [if_neg (show ¬cap=i+1 by omega),if_neg (show ¬cap=i+items.length by omega)]
    repeat' (first|fail)
    refine mq a4 0 rfl rfl (hsrcT _ _ _ _ 0 _ X rfl hT (by omega) (.inl rfl) rfl) rfl (by show _≤X.length;omega) rfl ?_
    rw [show min (run.length - (i+1)) (i+items.length+(run.length - (i+1)) - (i+items.length))=run.length - (i+1) by omega,List.take_of_length_le (l:=bB (run.drop (i+1))) (by omega)]
    have q1:=km (X:=X) hTl (o:=(i+items.length) * 6) (by omega)
    have q2:=my (X:=X) hTl (o:=(i+items.length) * 6) (by omega)
    have q3:=B0 (X:=X) hTl (o:=(i+items.length) * 6) (j:=i * 6) (by omega) (by omega)
    rw [hA] at q3
    generalize hY:X.take ((i+items.length) * 6)++bB (run.drop (i+1))++X.drop ((i+items.length) * 6+(run.length - (i+1)) * 6)=Y at *
    have q4:(Y.drop ((i+items.length) * 6)).take ((run.length - (i+1)) * 6)=bB (run.drop (i+1)):=by
     rw [←hY,List.append_assoc,List.drop_left' (by rw [List.length_take];omega),List.take_left' hTl]
    repeat' (first|refine L3 ?_|refine KG a4 HY ?_)
    refine mv a4 i rfl rfl rfl rfl (by omega) (by omega) rfl fun off2 ho2=>?_
    obtain rfl:off2=i * 6:=by omega
    repeat' (first|refine KG a4 HY ?_)
    refine mq a4 0 rfl rfl (hsrcI _ _ _ _ 1 rfl rfl) rfl (by show _≤Y.length;omega) rfl ?_
    rw [show min items.length (i+items.length+(run.length - (i+1)) - i)=items.length by omega,List.take_of_length_le (l:=bB items) (by omega)]
    have r1:=km (X:=Y) hil (o:=i * 6) (by omega)
    have r2:=my (X:=Y) hil (o:=i * 6) (by omega)
    have r3:=w5 (X:=Y) hil (o:=i * 6) (j:=i * 6+items.length * 6) (by omega) (by omega)
    rw [q3] at r1 r2 r3 ⊢
    generalize bB (run.take i)++bB items++Y.drop (i * 6+items.length * 6)=Z at *
    obtain ⟨m',k1,k2,k3⟩:=hfin rb cap Z (by
     rw [show (i+items.length+(run.length - (i+1))) * 6=i * 6+items.length * 6+(run.length - (i+1)) * 6 by omega,List.take_add,r1,r3,show i * 6+items.length * 6=(i+items.length) * 6 by omega,q4]) (by omega) (by omega) (by omega)
    repeat' (first|refine L3 ?_|refine KG a4 HY ?_)
    refine dH (L':=[(rb,.box Z 67)]) (.cons_cons _ (List.nil_sublist _)) ?_
    exact KP HY ⟨m',k1,k2,k3⟩
theorem uv {wb:Nat} {f:aZ} {v:AV} {m:dD} {run:List aJ} {p:Nat} {y:aJ}:eZ (ey wb f v (some m) run) 1 (.box (bB (run.set p y)++m.junk) 67)=ey wb f v (some m) (run.set p y):=by
 show [_,_]=[_,_]
 rw [show cM (some m) (run.set p y)=cM (some m) run by unfold cM;rw [List.length_set]]
theorem v5 {B:Bs} {σ:cr} {w:World} {wb:Nat} {f:aZ} {v:AV} {m:dD} {run:List aJ} {p:Nat} {y:aJ} (h:di B σ (eZ (ey wb f v (some m) run) 1 (.box (bB (run.set p y)++m.junk) 67)) w):di B σ (ey wb f v (some m) (run.set p y)) w:=by
 rw [←uv]
 exact h
theorem DW {cs E:List AV} {o j:Nat} {a:AV} (hj:j < E.length) (ho:o+E.length≤cs.length):f5 (f5 cs o E) (o+j) [a]=f5 cs o (E.set j a):=by
 refine List.ext_getElem? fun k=>?_
 rw [f6 _ _ _ _ (by rw [gE];simp;omega),f6 _ _ _ _ ho,f6 _ _ _ _ (by rw [List.length_set];exact ho),List.length_set]
 simp only [List.length_cons,List.length_nil]
 by_cases h1:k=o+j
 ·subst h1
  rw [if_pos (by omega),if_pos (by omega),Nat.sub_self,show o+j - o=j by omega,List.getElem?_set_self hj]
  rfl
 ·rw [if_neg (by omega)]
  by_cases h2:o≤k∧k < o+E.length
  ·rw [if_pos h2,if_pos h2,List.getElem?_set_ne (by omega)]
  ·rw [if_neg h2,if_neg h2]
set_option maxHeartbeats 8000000 in
theorem AH {f:aZ} {v:AV} (wb:Nat) (m:dD) (run:List aJ) (hq:cu (some m) run) (hr:run.length≤1000000) (i:Nat) (x:aJ) (hx:run[i]?=some x) (r:bh) (ho:r.Out.length≤1000000):AC Tryz.prog 248 [dA wb,aF i,.imm 1 (aW r.Out)] (ey wb f v (some m) run) fun _ L=>∃q',cu q' (fC r i run)∧L=ey wb f v q' (fC r i run):=by
 refine aN Tryz.func248 rfl Tryz.ntmps248 rfl fun B=>?_
 have hil:=(Ko hx).1
 have hol:=bb r.Out
 obtain ⟨h1,h2,h3⟩:=hq.fit m rfl
 have hfl:=co run
 have hmv:fC r i run=if run.length - 1+r.Out.length > 500∧1 < r.Out.length then run else run.take i++pU x r.Out++run.drop (i+1):=by
  unfold fC
  rw [hx]
  rfl
 have hit:=r9 m.junk hx
 repeat' (first|refine L3 ?_|refine KG a4 HY ?_|(apply bo;first|refine KM a4 0 KC ?_|refine KM a4 1 KC ?_|refine KM a4 2 KC ?_|refine KM a4 3 KC ?_|refine KN a4 0 KC ?_|refine KN a4 1 KC ?_|refine KN a4 2 KC ?_|refine KO a4 1 KA (by assumption) rfl ?_|refine KO a4 0 KA (by assumption) rfl ?_|fail)|(apply aU;refine aT ?_)|fail)
 refine ce [0,1,2] (run.length - 1+r.Out.length > 500∧1 < r.Out.length) rfl (fun Q' K=>?_) (fun hC=>?_) (fun hC=>?_)
 ·repeat' (first|refine L3 ?_|refine KG a4 HY ?_|refine KR HY ?_|refine KV KB ?_|refine KW KA (fun _=>?_) (fun _=>?_))
  all_goals exact K _ _ rfl rfl (by simp_all <;> omega)
 ·rw [if_pos hC] at hmv
  repeat' (first|refine L3 ?_|fail)
  exact jt rfl ⟨some m,by rw [hmv];exact hq,by rw [hmv]⟩
 rw [if_neg hC] at hmv
 repeat' (first|refine L3 ?_|refine KG a4 HY ?_)
 refine j9 a4 r.Out.length rfl rfl rfl rfl rfl (by rw [hol]) (by rw [hol]) (by omega) (by omega) rfl fun ib=>?_
 repeat' (first|refine L3 ?_|refine ak ?_|refine KG a4 HY ?_)
 refine aR [0,1,7,33,34] (α:=Nat) (fun k=>[(35,aF k)]) (fun k=>k≤r.Out.length) (fun k=>(ib,.box (dL (fun g=>bO { x with Glyph:=g }) [aF 0,aF 0,aF 0,aF 0,aF 0,aF 0] r.Out k).flatten 67)::ey wb f v (some m) run) (fun k=>r.Out.length - k) 0 rfl ⟨rfl,trivial⟩ (Nat.zero_le _) (fun _ _ hh=>by rw [iY];exact hh) fun k hk=>?_
 try dsimp only [Kr,Kq,Kp,Lv]
 repeat' (first|refine L3 ?_|refine KG a4 HY ?_)
 refine aw rfl (fun h=>?_) (fun h=>?_)
 ·have hk2:k < r.Out.length:=by have:=Ky h;omega
  obtain ⟨g,hg⟩:∃z,r.Out[k]?=some z:=⟨_,Kz hk2⟩
  have hgg:=bP hg
  have hsz:∀q∈dL (fun g=>bO { x with Glyph:=g }) [aF 0,aF 0,aF 0,aF 0,aF 0,aF 0] r.Out k,q.length=6:=by
   intro q hq
   unfold dL at hq
   rw [List.mem_append] at hq
   rcases hq with hq | hq
   ·obtain ⟨_,_,rfl⟩:=List.mem_map.1 hq;rfl
   ·rw [(List.mem_replicate.1 hq).2];rfl
  have hfl2:=jW (w:=fun g=>bO { x with Glyph:=g }) (z:=[aF 0,aF 0,aF 0,aF 0,aF 0,aF 0]) (l:=r.Out) (i:=k) hk
  have hput:=iS (sz:=6) (l:=dL (fun g=>bO { x with Glyph:=g }) [aF 0,aF 0,aF 0,aF 0,aF 0,aF 0] r.Out k) (i:=k) (e:=bO { x with Glyph:=g }) hsz rfl (by omega)
  rw [jX hg] at hput
  have hfll:(dL (fun g=>bO { x with Glyph:=g }) [aF 0,aF 0,aF 0,aF 0,aF 0,aF 0] r.Out k).flatten.length=r.Out.length * 6:=by rw [dV _ hsz,hfl2]
  generalize (dL (fun g=>bO { x with Glyph:=g }) [aF 0,aF 0,aF 0,aF 0,aF 0,aF 0] r.Out k).flatten=C at *
  clear h
  repeat' (first|refine L3 ?_|refine ak ?_|refine KG a4 HY ?_|(apply bo;first|refine KM a4 0 KC ?_|refine KM a4 1 KC ?_|refine KM a4 2 KC ?_|refine KM a4 3 KC ?_|refine KN a4 0 KC ?_|refine KN a4 1 KC ?_|refine KN a4 2 KC ?_|refine KO a4 1 KA (by assumption) rfl ?_|refine KO a4 0 KA (by assumption) rfl ?_|fail)|(apply aQ;first|refine aO a4 ?_|refine aG a4 ?_)|fail)
  refine aq a4 2 rfl rfl rfl (Nat.ble_eq_true_of_le (by rw [Int.toNat_natCast];simp;omega)) rfl ?_
  rw [hit]
  repeat' (first|(apply aQ;first|refine aO a4 ?_|refine aG a4 ?_)|fail)
  refine KZ a4 0 KD (Nat.ble_eq_true_of_le (by rw [hfll,Int.toNat_natCast];show 0+k * 6+6≤_;omega)) ?_
  repeat' (first|refine L3 ?_|refine KG a4 HY ?_|(apply aQ;first|refine aO a4 ?_|refine aG a4 ?_)|fail)
  refine KZ a4 0 KD (Nat.ble_eq_true_of_le (by rw [gE,hfll,Int.toNat_natCast];show 0+k * 6+0+1≤_;omega)) ?_
  repeat' (first|refine L3 ?_|refine KG a4 HY ?_|(apply aU;refine aT ?_)|fail)
  refine aD (k+1) rfl ⟨by rw [Kv];rfl,trivial⟩ hk2 (by omega) (fun _ _ hh=>?_)
  rw [←hput]
  rw [Int.toNat_natCast,Nat.zero_add] at hh
  have e:=DW (cs:=C) (E:=bO x) (o:=k * 6) (j:=0) (a:=aF g) (by show 0 < 6;omega) (by rw [hfll];show k * 6+6≤_;omega)
  rw [show bO { x with Glyph:=g }=(bO x).set 0 (aF g) from rfl,←e]
  exact hh
 ·have hke:k=r.Out.length:=by have:=Kx h;omega
  subst hke
  rw [jV]
  clear h
  have hpg:(r.Out.map fun g=>bO { x with Glyph:=g }).flatten=bB (pU x r.Out):=by
   unfold bB pU
   rw [List.map_map]
   rfl
  rw [hpg]
  have hre:=xX m.rb m.cap ib r.Out.length run (pU x r.Out) m.junk i hil h1 h2 h3 hr (by rw [rP];exact ho)
  rw [←hmv,rP] at hre
  rw [hol]
  repeat' (first|refine L3 ?_|refine KG a4 HY ?_|(apply bo;first|refine KM a4 0 KC ?_|refine KM a4 1 KC ?_|refine KM a4 2 KC ?_|refine KM a4 3 KC ?_|refine KN a4 0 KC ?_|refine KN a4 1 KC ?_|refine KN a4 2 KC ?_|refine KO a4 1 KA (by assumption) rfl ?_|refine KO a4 0 KA (by assumption) rfl ?_|fail)|(apply aU;refine aT ?_)|fail)
  refine b6 [(m.rb,.box (bB run++m.junk) 67),(ib,.box (bB (pU x r.Out)) 67)] [BB wb f (cM (some m) run) v] hre rfl rfl ?_ rfl fun c L1 ⟨m',k1,k2,k3⟩=>?_
  ·exact (List.Perm.cons _ (List.Perm.swap ..)).trans ((List.Perm.swap ..).trans (List.Perm.cons _ (Lz _)))
  subst k2;subst k3
  refine aP (aI (L':=BB wb f (cM (some m) run) v::fP (some m') (fC r i run)) (List.Perm.swap ..)) ?_
  repeat' (first|refine L3 ?_|refine KG a4 HY ?_|(apply aM;first|refine KH a4 0 KE ?_|refine KH a4 1 KE ?_|refine KH a4 2 KE ?_|refine KH a4 3 KE ?_|fail))
  exact ca rfl ⟨some m',k1,rfl⟩
set_option maxHeartbeats 4000000 in
theorem D8 {f:aZ} {v:AV} (wb:Nat) (m:dD) (run:List aJ) (hq:cu (some m) run) (hr:run.length≤1000000) (p:Nat) (q:List Nat) (hp:∀j∈p::q,j < run.length) (hs:(p::q).Pairwise (· < ·)) (x:aJ) (hx:run[p]?=some x) (r:bh) (g:Int) (gs:List Int) (hg:r.Out=g::gs):AC Tryz.prog 249 [dA wb,.imm 1 (bQ (p::q)),aF g] (ey wb f v (some m) run) fun _ L=>∃q',cu q' (j5 r (p::q) run)∧L=ey wb f v q' (j5 r (p::q) run):=by
  refine aN Tryz.func249 rfl Tryz.ntmps249 rfl fun B=>?_
  refine cW 1 rfl rfl fun hlen=>?_
  have hil:=(Ko hx).1
  have hnl:=f8 (p::q)
  rw [hnl] at hlen
  have hql:q.length+1≤9223372036854775807:=hlen
  obtain ⟨h1,h2,h3⟩:=hq.fit m rfl
  have hfl:=co run
  have hlv:j5 r (p::q) run=ee q (run.set p { x with Glyph:=g,Cluster:=eI run (p::q) x.Cluster }):=by
    unfold j5
    rw [hg]
    dsimp only
    rw [hx]
  rw [hlv]
  have hflj:∀y:aJ,(bB (run.set p y)++m.junk).length=(bB run++m.junk).length:=fun y=>by rw [List.length_append,co,List.length_set,List.length_append,hfl]
  have hp0:(bQ (p::q))[(0:Int).toNat]?=some [aF p]:=rfl
  have hst:=fQ (j:=0) { x with Glyph:=g } (aF g) m.junk hx (by omega) rfl
  repeat' (first|refine L3 ?_|fail)
  refine bn 7 [(0,.v),(1,.v),(2,.v),(3,.l),(4,.v),(5,.v),(6,.v)] none ?_ trivial rfl (by kernel_rfl) (by kernel_rfl) (by kernel_rfl) bI (by kernel_rfl) rfl
  repeat' (first|refine aB ?_|refine aX a4 ?_|(apply cm;refine cA a4 ?_)|refine KY a4 0 KB (by first|trivial|rfl) ?_)
  refine KU [0,1,2,13,16] HY ?_
  repeat' (first|refine L3 ?_|refine a7 ?_|refine KG a4 HY ?_|(apply aQ;first|refine aO a4 ?_|refine aG a4 ?_)|fail)
  refine KZ a4 1 KD (Nat.ble_eq_true_of_le (by rw [Int.toNat_natCast];simp;omega)) ?_
  rw [hst]
  repeat' (first|refine L3 ?_|refine ak ?_|refine KG a4 HY ?_)
  refine aR [0,1,6,22,23] (α:=Nat) (fun k=>[(24,aF k)]) (fun k=>k≤(p::q).length) (fun k=>ey wb f v (some m) (run.set p { x with Glyph:=g,Cluster:=eI run ((p::q).take k) x.Cluster })) (fun k=>(p::q).length - k) 0 rfl ⟨rfl,trivial⟩ (Nat.zero_le _) (fun _ _ h=>v5 h) fun k hk=>?_
  · try dsimp only [Kr,Kq,Kp,Lv]
    repeat' (first|refine L3 ?_|refine KG a4 HY ?_)
    refine aw rfl (fun h=>?_) (fun h=>?_)
    · have hk2:k < (p::q).length:=by have:=Ky h;omega
      obtain ⟨j,hj⟩:∃z,(p::q)[k]?=some z:=⟨_,Kz hk2⟩
      have hjg:(bQ (p::q))[k]?=some [aF j]:=by unfold bQ;exact bP (by rw [List.getElem?_map,hj];rfl)
      have hjl:=hp j (Kw hj)
      obtain ⟨y,hy⟩:∃z,run[j]?=some z:=⟨_,Kz hjl⟩
      have htk:(p::q).take (k+1)=(p::q).take k++[j]:=by rw [List.take_add_one,hj];rfl
      have hle:=oW (l:=(p::q).take k) (run:=run) (c:=x.Cluster)
      have hnew:eI run ((p::q).take (k+1)) x.Cluster=min (eI run ((p::q).take k) x.Cluster) y.Cluster:=by
        unfold eI
        rw [htk,List.foldl_append]
        show lQ run _ j=_
        unfold lQ
        rw [hy]
      generalize eI run ((p::q).take k) x.Cluster=c at *
      have hxp:(run.set p { x with Glyph:=g,Cluster:=c })[p]?=some { x with Glyph:=g,Cluster:=c }:=List.getElem?_set_self hil
      obtain ⟨y2,hy2,hyc⟩:∃y2,(run.set p { x with Glyph:=g,Cluster:=c })[j]?=some y2∧min c y2.Cluster=min c y.Cluster:=by
        by_cases hjp:j=p
        · subst hjp
          rw [hx] at hy
          cases hy
          exact ⟨_,hxp,by dsimp only;omega⟩
        · exact ⟨y,by rw [List.getElem?_set_ne (fun e=>hjp e.symm)];exact hy,rfl⟩
      have hf1:=ic (j:=1) m.junk hxp rfl
      have hf2:=ic (j:=1) m.junk hy2 rfl
      have hst2:=fQ (j:=1) { x with Glyph:=g,Cluster:=min c y2.Cluster } (aF (min c y2.Cluster)) m.junk hxp (by omega) rfl
      have hsl:(run.set p { x with Glyph:=g,Cluster:=c }).length=run.length:=List.length_set ..
      have hfl2:=hflj { x with Glyph:=g,Cluster:=c }
      clear h
      repeat' (first|refine L3 ?_|refine ak ?_|refine KG a4 HY ?_|(apply aQ;first|refine aO a4 ?_|refine aG a4 ?_)|fail)
      refine bn 14 [(0,.v),(1,.v),(2,.v),(3,.v),(4,.l),(5,.v),(6,.v),(7,.v),(8,.l),(9,.v),(10,.v),(11,.v),(12,.l),(13,.v)] none ?_ trivial rfl (by kernel_rfl) (by kernel_rfl) (by kernel_rfl) bI (by kernel_rfl) rfl
      repeat' (first|refine aB ?_|refine aX a4 ?_|fail)
      refine bN a4 1 rfl rfl rfl hf1 trivial ?_
      repeat' (first|refine aB ?_|refine aX a4 ?_|refine KY a4 0 KB (by first|trivial|rfl) ?_)
      refine cR a4 rfl rfl rfl ⟨by omega,by omega⟩ trivial ?_
      repeat' (first|refine aB ?_|refine aX a4 ?_|fail)
      refine bN a4 1 rfl rfl rfl hf2 trivial ?_
      repeat' (first|refine aB ?_|refine aX a4 ?_|fail)
      refine KU [0,1,6,22,23,24,28,41] HY ?_
      repeat' (first|refine KG a4 HY ?_)
      refine KZ a4 1 KD (Nat.ble_eq_true_of_le (by rw [Int.toNat_natCast];simp only [hfl2];simp;omega)) ?_
      rw [hst2]
      repeat' (first|refine L3 ?_|refine KG a4 HY ?_|(apply aU;refine aT ?_)|fail)
      refine aD (k+1) rfl ⟨by rw [Kv];rfl,trivial⟩ (by omega) (by omega) (fun _ _ h=>?_)
      have h4:=v5 h
      rw [List.set_set] at h4
      rw [hnew,←hyc]
      exact h4
    · have hke:k=(p::q).length:=by have:=Kx h;omega
      subst hke
      rw [List.take_length]
      clear h
      have hR:(run.set p { x with Glyph:=g,Cluster:=eI run (p::q) x.Cluster }).length=run.length:=List.length_set ..
      have hqR:=hq.set p { x with Glyph:=g,Cluster:=eI run (p::q) x.Cluster }
      generalize run.set p { x with Glyph:=g,Cluster:=eI run (p::q) x.Cluster }=R at *
      obtain ⟨g1,g2,g3⟩:=hqR.fit m rfl
      repeat' (first|refine L3 ?_|refine ak ?_|refine KG a4 HY ?_|(apply aU;refine aT ?_)|fail)
      refine aR [0,1] (α:=Nat×List AV) (fun s=>[(9,aF s.1)]) (fun s=>s.1≤q.length∧m.cap * 6≤(bB (ee (q.drop s.1) R)++s.2).length) (fun s=>ey wb f v (some ⟨m.rb,m.cap,s.2⟩) (ee (q.drop s.1) R)) (fun s=>s.1) (q.length,m.junk) rfl ⟨by rw [hnl];simp;rfl,trivial⟩ ⟨Nat.le_refl _,by rw [List.drop_length];exact g3⟩ (fun _ _ h=>by rw [List.drop_length];exact h) ?_
      rintro ⟨n,junk⟩ ⟨hn,hj⟩
      dsimp only at hn hj ⊢
      try dsimp only [Kr,Kq,Kp,Lv]
      repeat' (first|refine L3 ?_|refine KG a4 HY ?_)
      refine aw rfl (fun h=>?_) (fun h=>?_)
      · have hn0:0 < n:=by have:=Ky h;omega
        obtain ⟨k,rfl⟩:∃k,n=k+1:=⟨n - 1,by omega⟩
        obtain ⟨z,hz⟩:∃z,q[k]?=some z:=⟨_,Kz (by omega)⟩
        have hzg:(bQ (p::q))[((k+1:Nat):Int).toNat]?=some [aF z]:=by rw [Int.toNat_natCast];unfold bQ;exact bP (by rw [Kp,List.getElem?_cons_succ,List.getElem?_map,hz];rfl)
        have hqd:q.drop k=z::q.drop (k+1):=by rw [List.drop_eq_getElem_cons (by omega),(Ko hz).2]
        have hqp:=(List.pairwise_cons.1 hs).2
        have hdp:(z::q.drop (k+1)).Pairwise (· < ·):=by rw [←hqd];exact hqp.sublist (List.drop_sublist ..)
        obtain ⟨d1,d2⟩:=List.pairwise_cons.1 hdp
        have hqm:∀y∈q,y < R.length:=fun y hy=>by rw [hR];exact hp y (by simp [hy])
        have hzl:=qW (R:=R) d2 (fun y hy=>⟨d1 y hy,hqm y (List.mem_of_mem_drop hy)⟩) (hqm z (Kw hz))
        have hdl:(ee (q.drop (k+1)) R).length≤R.length:=iQ.length_le
        have hdel:=sS m.rb m.cap (ee (q.drop (k+1)) R) junk z hzl (by omega) h2 hj (by omega)
        have her:(ee (q.drop (k+1)) R).eraseIdx z=ee (q.drop k) R:=by rw [hqd];rfl
        rw [her] at hdel
        clear h
        repeat' (first|refine L3 ?_|refine ak ?_)
        refine bn 15 [(0,.v),(1,.v),(2,.v),(3,.v),(4,.l),(5,.v),(6,.v),(7,.v),(8,.v),(9,.v),(10,.v),(11,.v),(12,.v),(13,.v),(14,.e)] none ?_ trivial rfl (by kernel_rfl) (by kernel_rfl) (by kernel_rfl) bI (by kernel_rfl) rfl
        repeat' (first|refine aB ?_|refine aX a4 ?_|(apply dz;refine eL ?_)|(apply cm;refine cA a4 ?_)|refine KY a4 0 KB (by first|trivial|rfl) ?_)
        refine fG [(m.rb,.box (bB (ee (q.drop (k+1)) R)++junk) 67)] [BB wb f (cM (some ⟨m.rb,m.cap,junk⟩) (ee (q.drop (k+1)) R)) v] hdel rfl rfl (List.Perm.swap ..) trivial fun c L1 ⟨hc,junk',hj',hL⟩=>?_
        subst hc;subst hL
        repeat' (first|fail)
        refine KU [0,1,9,52,66] HY ?_
        refine aP (aI FO) ?_
        repeat' (first|refine L3 ?_|refine KG a4 HY ?_|(apply aU;refine aT ?_)|(apply aM;first|refine KH a4 0 KE ?_|refine KH a4 1 KE ?_|refine KH a4 2 KE ?_|refine KH a4 3 KE ?_|fail))
        refine aD (k,junk') rfl ⟨?_,trivial⟩ ⟨by omega,hj'⟩ (by dsimp only;omega) (fun _ _ h=>h)
        show some (aF (((k+1:Nat):Int) - 1))=some (aF (k:Int))
        rw [show ((k+1:Nat):Int) - 1=(k:Int) by omega]
      · have hn0:n=0:=by have:=Kx h;omega
        subst hn0
        rw [List.drop_zero] at hj ⊢
        clear h
        repeat' (first|refine L3 ?_|fail)
        have hdl:=(iQ (q:=q) (run:=R)).length_le
        have hok:cu (some ⟨m.rb,m.cap,junk⟩) (ee q R):=⟨fun e=>(by cases e),fun m' e=>by
          cases e
          exact ⟨by dsimp only;omega,h2,hj⟩⟩
        exact ca rfl ⟨some ⟨m.rb,m.cap,junk⟩,hok,rfl⟩
end Go.Proofs.YtpmdfoaadejmkaaGreatDoor
