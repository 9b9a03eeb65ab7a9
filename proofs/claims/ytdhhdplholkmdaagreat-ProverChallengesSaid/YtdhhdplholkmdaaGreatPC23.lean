/- A part of the proof. No condition. -/
import Derived.Test.YtdhhdplholkmdaaGreatProg
import Derived.Test.YtdhhdplholkmdaaGreatPC20
import Derived.Test.YtdhhdplholkmdaaGreatPC22

namespace Go.Proofs.YtdhhdplholkmdaaGreat
open Go.RowKit
def RQn (w:World) (cs:List Value) (q:Qn):Prop:=∃ s,cs=[.int .u64 (q.lab:Int),s, .int .u64 (q.ans:Int)]∧RWd w [s] q.el∧q.lab<18446744073709551616∧q.ans<18446744073709551616
theorem Ur:yz RQn:=fun w w' cs q hb h=>by
 obtain ⟨s,h1,h2,h3⟩:=h
 exact ⟨s,h1,Zl _ _ _ _ hb h2,h3⟩
def RQs:World→List Value→List Qn→Prop:=RSl 3 RQn
theorem GA:yz RQs:=ZQ Ur
theorem zBa {α:Type} {R:World→List Value→α→Prop} {sz:Nat} {w:World} {A:Option Addr} {l:List α} (hsz:0<sz) (h:RdL w sz R A l):∃ xs,Rd w sz A l.length xs∧∀ (i:Nat) (hi:i<l.length),R w ((xs.drop (i*sz)).take sz) l[i]:=by
 by_cases hl:0<l.length
 ·obtain ⟨a,cs0,rfl,-,-,-⟩:=h 0 hl
  have hcell:∀ i j,i<l.length→j<sz→∃ u,w.cell? (a.add (i*sz+j))=some u:=fun i j hi hj=>by
   obtain ⟨a',cs,e,hlen,hc,-⟩:=h i hi
   injection e with e
   subst e
   exact ⟨cs[j],by rw [hc j hj];exact List.getElem?_eq_getElem (by omega)⟩
  have hget:∀ q,q<l.length*sz→((List.range (l.length*sz)).map fun q=>(w.cell? (a.add q)).getD undef)[q]?=w.cell? (a.add q):=fun q hq=>by
   obtain ⟨u,hu⟩:=hcell (q / sz) (q%sz) (Nat.div_lt_of_lt_mul (by rw [Nat.mul_comm];exact hq)) (Nat.mod_lt _ hsz)
   rw [show q / sz*sz+q%sz=q by rw [Nat.mul_comm];exact Nat.div_add_mod q sz] at hu
   rw [List.getElem?_map,List.getElem?_range hq,hu]
   simp [hu]
  refine ⟨(List.range (l.length*sz)).map fun q=>(w.cell? (a.add q)).getD undef,⟨by simp,fun _=>⟨a,rfl,fun q u hq=>?_⟩⟩,fun i hi=>?_⟩
  ·have hlt:q<l.length*sz:=by
    have:=(List.getElem?_eq_some_iff.1 hq).1
    simpa using this
   rw [←hget q hlt]
   exact hq
  ·obtain ⟨a',cs,e,hlen,hc,hR⟩:=h i hi
   injection e with e
   subst e
   have e2:(((List.range (l.length*sz)).map fun q=>(w.cell? (a.add q)).getD undef).drop (i*sz)).take sz=cs:=by
    refine List.ext_getElem? fun j=>?_
    rw [List.getElem?_take]
    split
    ·rename_i hj
     have hlt:i*sz+j<l.length*sz:=by
      have:(i+1)*sz≤l.length*sz:=Nat.mul_le_mul_right _ hi
      rw [Nat.succ_mul] at this
      omega
     rw [List.getElem?_drop,hget _ hlt,hc j hj]
    ·rw [List.getElem?_eq_none (by omega)]
   rw [e2]
   exact hR
 ·exact ⟨[],⟨by rw [show l.length=0 by omega];simp,fun h=>absurd h hl⟩,fun i hi=>absurd hi (by omega)⟩
theorem xg {α:Type} {R:World→List Value→α→Prop} {sz base n:Nat} {e:TypeId} {w:World} {v:Value} {xs:List Value} {l:List α} (h:w.ownsRow base e sz v n xs) (hl:l.length=n)
  (hR:∀ (i:Nat) (hi:i<l.length),R w ((xs.drop (i*sz)).take sz) l[i]):RSl sz R w [v] l:=by
 obtain ⟨A,c,rfl,h1,h2,h3,-⟩:=Yd h
 refine ⟨A,n,c,rfl,hl,h1,h2,fun i hi=>?_⟩
 obtain ⟨ad,rfl,hc⟩:=h3.2 (by omega)
 have hlt:(i+1)*sz≤xs.length:=by rw [h3.1];exact Nat.mul_le_mul_right _ (by omega)
 rw [Nat.succ_mul] at hlt
 refine ⟨ad,(xs.drop (i*sz)).take sz,rfl,by rw [List.length_take,List.length_drop];omega,fun j hj=>?_,hR i hi⟩
 rw [List.getElem?_take,if_pos hj,List.getElem?_drop,hc _ _ (List.getElem?_eq_getElem (by omega)),List.getElem?_eq_getElem (by omega)]
theorem J8 {w:World} {A:Option Addr} {qs:List Qn} (h:RdL w 3 RQn A qs) {i:Nat} (hi:i<qs.length):∃ b q A1 n1 c1 lq aq qe,qs[i]?=some qe∧A=some ⟨b,q,none⟩∧w.cell? ⟨b,q+i*3,none⟩=some (.int .u64 ((lq:Nat):Int)) ∧
  w.cell? ⟨b,q+i*3+1,none⟩=some (.slice A1 n1 c1)∧w.cell? ⟨b,q+i*3+2,none⟩=some (.int .u64 ((aq:Nat):Int))∧RWd w [.slice A1 n1 c1] qe.el∧b<w.heap.size∧(qe.lab=lq∧qe.ans=aq∧lq<18446744073709551616∧aq<18446744073709551616):=by
 obtain ⟨b,q,rfl⟩:=h.base (by omega) (by omega)
 obtain ⟨cs,-,hc,s,rfl,hs,hb1,hb2⟩:=h.get hi
 have c0:=hc 0 (by omega)
 have c1:=hc 1 (by omega)
 have c2:=hc 2 (by omega)
 obtain ⟨A1,n1,c1',hs1,-⟩:=id hs
 injection hs1 with hs1 _
 subst hs1
 have hbl:=World.block_lt_of_cell? _ _ c1
 exact ⟨b,q,A1,n1,c1',qs[i].lab,qs[i].ans,qs[i],List.getElem?_eq_getElem hi,rfl,c0,c1,c2,hs,hbl,rfl,rfl,hb1,hb2⟩
theorem RQn.one {w:World} {cs:List Value} {q:Qn} (h:RQn w cs q):∀ u∈cs,u.oneCell'=true:=by
 obtain ⟨s,rfl,⟨A,n,c,e,-⟩,-⟩:=h
 injection e with e _
 subst e
 intro u hu
 simp at hu
 rcases hu with rfl | rfl | rfl <;> rfl
theorem zAn {w:World} {xs:List Value} {l:List Qn} (hx:xs.length=l.length*3) (h:∀ (i:Nat) (hi:i<l.length),RQn w ((xs.drop (i*3)).take 3) l[i]):∀ u∈xs,u.oneCell'=true:=fun u hu=>by
 obtain ⟨q,hq,rfl⟩:=List.getElem_of_mem hu
 have hi:q / 3<l.length:=by omega
 refine RQn.one (h (q / 3) hi) _ ?_
 refine List.mem_of_getElem? (i:=q%3) ?_
 rw [List.getElem?_take,if_pos (by omega),List.getElem?_drop,show q / 3*3+q%3=q by omega,List.getElem?_eq_getElem hq]
theorem zF (n:Nat) (w:World) :
  Calls Tryz.prog 237 #[.int .u64 (n:Int)] w fun e w'=>e= .returned (.bool (decide (n<YR)))∧Below w.heap.size w w':=by
 have HD:Hid (decide (n<YR)=decide ((n:Int)<18446744069414584321)):=by
  unfold Hid YR
  by_cases h:n<18446744069414584321
  ·rw [decide_eq_true h,decide_eq_true (by omega)]
  ·rw [decide_eq_false h,decide_eq_false (by omega)]
 rw [HD.out]
 go_enter Tryz.func237,Tryz.ntmps237
 go_wp2
 go_ret
 exact ⟨rfl,Below.refl _ _⟩
set_option maxRecDepth 100000 in
set_option maxHeartbeats 400000 in
theorem UX (A:Option Addr) (n c:Nat) (l:List Nat) (w:World) (hl:RWd w [.slice A n c] l) :
  Calls Tryz.prog 181 #[.slice A n c] w fun e w'=>e= .returned (.bool (Xl l))∧Below w.heap.size w w':=by
 obtain ⟨rfl,h1,h2,h3,hr⟩:=YY hl
 have gm:=Vf h1 h2
 have HE:=Lib.hid (fun n w=>zF n w)
 obtain ⟨n,hn⟩:∃ n,n=l.length:=⟨_,rfl⟩
 rw [←hn] at gm hr ⊢
 have HN:=Lib.hid hn
 clear hl h1 h2 h3 hn
 go_enter Tryz.func181,Tryz.ntmps181
 go_wp2_with fail
 go_loopw [3] (fun y wr=>∃ i:Nat,i≤n∧y= .int .i64 (i:Int)∧Hid (∀ k<i,l.getD k 0<YR)∧Below w.heap.size w wr) (fun y _=>n-(intOf y).toNat)
 case atStart=>exact ⟨0,Nat.zero_le _,rfl,fun k hk=>by omega,Below.refl _ _⟩
 case round =>
  obtain ⟨i,hi,rfl,HT,hbr⟩:=hrel
  by_cases hlt:i<n
  ·have g1:(0:Int)≤(i:Int):=by omega
   have g2:(i:Int)<(n:Int):=by omega
   have q1:=hr.below hbr
   rw [HN.out] at q1
   obtain ⟨x1,y1,rfl,v1,d1⟩:=Vl q1 (j:=i) (by rw [←HN.out];exact hlt)
   have HLT:=Lib.hid hlt
   clear q1 hlt
   obtain ⟨z,hz⟩:∃ z,z=l.getD i 0:=⟨_,rfl⟩
   rw [←hz] at d1
   have HZ:=Lib.hid hz
   clear hz
   go_wp2_with fail
   refine (HE.out z wr).mono ?_
   rintro e w2 ⟨rfl,hb2⟩
   replace hbr:=Za hbr hb2
   by_cases hq:z<YR
   ·have dq:=decide_eq_true hq
    have HT2:=Lib.hid (show ∀ k<i+1,l.getD k 0<YR from fun k hk=>by
     by_cases e:k<i
     ·exact HT.out k e
     ·obtain rfl:k=i:=by omega
      rw [←HZ.out];exact hq)
    clear hq HT
    go_wp2
    go_roundw
    case rel=>exact ⟨i+1,HLT.out,by go_num,HT2.out,hbr⟩
    case measure=>have:=HLT.out;simp [intOf];omega
   ·have dq:=decide_eq_false hq
    have HF:=Lib.hid (show Xl l=false from List.all_eq_false.2 ⟨z,by rw [HZ.out];exact zDr 0 (by rw [←HN.out];exact HLT.out),by simp [hq]⟩)
    clear hq
    go_wp2
    go_ret
    exact ⟨by rw [HF.out];rfl,hbr⟩
  ·obtain rfl:n=i:=by omega
   have HF:=Lib.hid (show Xl l=true from List.all_eq_true.2 fun x hx=>by
    obtain ⟨k,hk,rfl⟩:=List.getElem_of_mem hx
    have:=HT.out k (by rw [HN.out];exact hk)
    rw [List.getD_eq_getElem?_getD,List.getElem?_eq_getElem hk] at this
    exact decide_eq_true this)
   go_wp2
   go_ret
   exact ⟨by rw [HF.out];rfl,hbr⟩
def K3 (qs:List Qn) (lab:Nat) (el:List Nat):Int:=match qs.findIdx? (qIs lab el) with
 | some i=>(i:Int)
 | none=>-1
theorem zDx {qs:List Qn} {lab:Nat} {el:List Nat} {i:Nat} {q:Qn} (hi:qs[i]?=some q) (h0:∀ k,k<i→∀ q,qs[k]?=some q→qIs lab el q=false) (h1:qIs lab el q=true):K3 qs lab el=(i:Int):=by
 obtain ⟨hl,rfl⟩:=List.getElem?_eq_some_iff.1 hi
 have:qs.findIdx? (qIs lab el)=some i:=by
  rw [List.findIdx?_eq_some_iff_getElem]
  exact ⟨hl,h1,fun j hj=>by rw [h0 j hj _ (List.getElem?_eq_getElem (by omega))];exact Bool.false_ne_true⟩
 unfold K3
 rw [this]
theorem zAf {qs:List Qn} {lab:Nat} {el:List Nat} (h0:∀ k,k<qs.length→∀ q,qs[k]?=some q→qIs lab el q=false):K3 qs lab el=-1:=by
 have:qs.findIdx? (qIs lab el)=none:=by
  rw [List.findIdx?_eq_none_iff]
  intro x hx
  obtain ⟨k,hk,rfl⟩:=List.getElem_of_mem hx
  exact h0 k hk _ (List.getElem?_eq_getElem hk)
 unfold K3
 rw [this]
theorem KF (qs:List Qn) (lab:Nat) (el:List Nat):(K3 qs lab el=-1∧Yf qs lab el=none)∨∃ (i:Nat) (h:i<qs.length),K3 qs lab el=(i:Int)∧Yf qs lab el=some qs[i].ans:=by
 unfold K3 Yf
 cases h:qs.findIdx? (qIs lab el) with
 | none =>
  rw [List.findIdx?_eq_none_iff] at h
  refine .inl ⟨rfl,?_⟩
  rw [List.find?_eq_none.2 fun x hx=>by rw [h x hx];exact Bool.false_ne_true]
  rfl
 | some i =>
  rw [List.findIdx?_eq_some_iff_getElem] at h
  obtain ⟨hi,h1,h2⟩:=h
  refine .inr ⟨i,hi,rfl,?_⟩
  have:qs.find? (qIs lab el)=some qs[i]:=by
   rw [List.find?_eq_some_iff_getElem]
   exact ⟨h1,i,hi,rfl,fun j hj=>by rw [Bool.not_eq_true'];exact Bool.eq_false_iff.2 (h2 j hj)⟩
  rw [this]
  rfl
set_option maxRecDepth 100000 in
set_option maxHeartbeats 400000 in
theorem GS (A B:Option Addr) (n c m d lab:Nat) (qs:List Qn) (el:List Nat) (w:World) (hq:RQs w [.slice A n c] qs) (hl:RWd w [.slice B m d] el) :
  Calls Tryz.prog 240 #[.slice A n c, .int .u64 (lab:Int), .slice B m d] w fun e w'=>e= .returned (.int .i64 (K3 qs lab el))∧Below w.heap.size w w':=by
 obtain ⟨A',n',c',he,hlen,hnc,hmx,hrd⟩:=hq
 simp at he
 obtain ⟨rfl,rfl,rfl⟩:=he
 have gm:=Vf hnc hmx
 have HSm:=Lib.hid (fun A1 n1 c1 l1 w1 (hb:Below w.heap.size w w1) (h1:RWd w1 [.slice A1 n1 c1] l1)=>zx A1 B n1 c1 m d l1 el w1 h1 (Zl _ _ _ _ hb hl))
 have HN:=Lib.hid hlen
 clear hl hnc hmx hlen
 go_enter Tryz.func240,Tryz.ntmps240
 go_wp2_with fail
 go_loopw [7] (fun y wr=>∃ i:Nat,i≤n∧y= .int .i64 (i:Int)∧Hid (∀ k,k<i→∀ q,qs[k]?=some q→qIs lab el q=false)∧Below w.heap.size w wr) (fun y _=>n-(intOf y).toNat)
 case atStart=>exact ⟨0,Nat.zero_le _,rfl,fun k hk=>by omega,Below.refl _ _⟩
 case round =>
  obtain ⟨i,hi,rfl,HT,hbr⟩:=hrel
  by_cases hlt:i<n
  ·have g1:(0:Int)≤(i:Int):=by omega
   have g2:(i:Int)<(n:Int):=by omega
   obtain ⟨b,q,A1,n1,c1',lq,aq,qe,hqe,rfl,c0,c1,c2,hs,hbl,HLQ⟩:=J8 (hrd.below Ur hbr) (show i<qs.length by rw [HN.out];exact hlt)
   have HL:=Lib.hid hlt
   have HS1:=Lib.hid (HSm.out A1 n1 c1' qe.el wr hbr hs)
   have HQE:=Lib.hid hqe
   have HQ:=Lib.hid (show qIs lab el qe=(decide (lq=lab)&&decide (qe.el=el)) by
    unfold qIs
    rw [HLQ.1]
    congr 1 <;> exact Bool.eq_iff_iff.2 (by simp))
   clear hs hqe HLQ c2
   have step:∀ (h:qIs lab el qe=false),∀ k,k<i+1→∀ q,qs[k]?=some q→qIs lab el q=false:=fun h k hk q hq=>by
    by_cases e:k<i
    ·exact HT.out k e q hq
    ·obtain rfl:k=i:=by omega
     rw [HQE.out] at hq
     cases hq
     exact h
   have STEP:=Lib.hid step
   clear step
   by_cases hlab:lq=lab
   ·have e1:((lq:Int) == (lab:Int))=true:=by rw [beq_iff_eq];omega
    have hd:=Lib.hid (decide_eq_true hlab)
    clear hlab hlt
    go_wp2_with fail
    refine HS1.out.mono ?_
    rintro e w2 ⟨rfl,kk,rfl⟩
    replace hbr:=Xy hbr kk
    cases hd2:decide (qe.el=el)
    ·have HQ2:=Lib.hid (show qIs lab el qe=false by rw [HQ.out,hd2,Bool.and_false])
     clear hd2
     go_wp2
     go_roundw
     case rel=>exact ⟨i+1,HL.out,by go_num,STEP.out HQ2.out,hbr⟩
     case measure=>have:=HL.out;simp [intOf];omega
    ·have HF:=Lib.hid (zDx HQE.out HT.out (show qIs lab el qe=true by rw [HQ.out,hd.out,hd2];rfl))
     clear hd2
     go_wp2
     go_ret
     exact ⟨by rw [HF.out];rfl,hbr⟩
   ·have e1:((lq:Int) == (lab:Int))=false:=by rw [beq_eq_false_iff_ne];omega
    have HQ2:=Lib.hid (show qIs lab el qe=false by rw [HQ.out,decide_eq_false hlab,Bool.false_and])
    clear hlab hlt
    go_wp2
    go_roundw
    case rel=>exact ⟨i+1,HL.out,by go_num,STEP.out HQ2.out,hbr⟩
    case measure=>have:=HL.out;simp [intOf];omega
  ·obtain rfl:n=i:=by omega
   have HF:=Lib.hid (zAf (qs:=qs) (lab:=lab) (el:=el) fun k hk=>HT.out k (by have:=HN.out;omega))
   go_wp2
   go_ret
   exact ⟨by rw [HF.out];rfl,hbr⟩
end Go.Proofs.YtdhhdplholkmdaaGreat
