/- A part of the proof. No condition. -/
import Derived.Test.YtakjnmojigechaaGreatProg
import Derived.Test.YtakjnmojigechaaGreatJB16
import Derived.Test.YtakjnmojigechaaGreatJB15

namespace Go.Proofs.YtakjnmojigechaaGreat
open Go.RowKit
def yx (L:ZO) (msg masks:List Nat):List Nat:=Vn (Vf L.p ((List.range msg.length).map (Gv L.p msg 1)) (Vs L.p (XC L.p L.block) masks)) L.k
def Ui (L:ZO) (q:List Nat):List Nat:=Vn (Vs L.p (XC L.p L.block) q) (2*L.k-1)
theorem Uv (p b:Nat):(XC p b).length=b+1:=by simp [XC]
def Yg {α:Type} (a b c d:α) (i:Nat):α:=if i=0 then a else if i=1 then b else if i=2 then c else d
theorem yM {α:Type} (a b c d:α) {i:Nat} (h:i<4):(#[a,b,c,d]:Array α)[i]?=some (Yg a b c d i):=by
 rcases (show i=0∨i=1∨i=2∨i=3 by omega) with rfl | rfl | rfl | rfl <;> rfl
theorem zHg (L:ZO) {i:Nat} (h:i<4):(#[.int .u64 (L.p:Int), .int .i64 (L.block:Int), .int .i64 (L.queries:Int), .int .i64 (L.k:Int), .int .i64 (L.n:Int), .int .i64 (L.secret:Int), .int .i64 (L.rows:Int), .int .i64 (L.a:Int), .int .i64 (L.b:Int), .int .i64 (L.b:Int), .int .i64 (L.b:Int)]:Array Value)[7+i]?=some (.int .i64 ((Yg L.a L.b L.b L.b i:Nat):Int)):=by
 rcases (show i=0∨i=1∨i=2∨i=3 by omega) with rfl | rfl | rfl | rfl <;> rfl
def Ji (B:Nat) (v:List Nat) (k:Nat):List Nat:=(List.range B).map fun j=>v.getD (k*B+j) 0
def KN (B:Nat) (v:List Nat) (n:Nat):List (List Nat):=(List.range n).map (Ji B v)
def Vb (B:Nat) (l:Nat→List Nat) (ps:Nat→Nat) (i:Nat):List (List Nat):=(List.range i).flatMap fun i=>KN B (l i) (ps i)
def Ga (B:Nat) (l:Nat→List Nat) (ps:Nat→Nat):List (List Nat):=Vb B l ps 4
theorem KI (B:Nat) (l:Nat→List Nat) (ps:Nat→Nat) (i:Nat):Vb B l ps (i+1)=Vb B l ps i++KN B (l i) (ps i):=by
 rw [Vb,List.range_succ,List.flatMap_append]
 simp [Vb]
theorem jZ (B:Nat) (v:List Nat) (k:Nat):KN B v (k+1)=KN B v k++[Ji B v k]:=by simp [KN,List.range_succ]
theorem jO {n j:Nat} {F:Nat→Nat} (h:∀ i,j≤i→i<n→F i=0):Zm n (X8 F (fun _=>0) j)=Zm n F:=Yx fun i hi=>by
 unfold X8
 split
 ·rfl
 ·exact (h i (by omega) hi).symm
theorem GB {M N:Nat} {w:World} {v:Value} {cs:List Value} {l:List (List Nat)} (h:Xs N w v cs l) (hN:M≤N):Xs M w v cs l :=
 ⟨h.1,fun i h1 h2 u hu=>h.2 i h1 h2 u fun b b1 b2 b3=>hu b (by omega) b2 b3⟩
set_option maxRecDepth 100000 in
set_option maxHeartbeats 2000000 in
theorem jQ (L:ZO) (v0 v1 v2 v3:Value) (l0 l1 l2 l3:List Nat) (w:World) (hL:ZU L) (hv:∀ i,i<4→RWd w [Yg v0 v1 v2 v3 i] (Yg l0 l1 l2 l3 i)) :
  Calls Tryz.prog 96 #[.agg (Zz L), .agg #[v0,v1,v2,v3]] w fun e w'=>∃ n v cs,e= .returned v∧w'.ownsRow w.heap.size 28 1 v n cs∧Xs w.heap.size w' v cs (Ga L.block (Yg l0 l1 l2 l3) (Yg L.a L.b L.b L.b))∧Below w.heap.size w w':=by
 have hb1:=hL.b1
 have hb2:=hL.b2
 have HPS:=Lib.hid (show ∀ i,Yg L.a L.b L.b L.b i≤100000 from fun i=>by
  have:=hL.a
  have:=hL.b
  unfold Yg
  repeat' split
  all_goals omega)
 have HLP:=Lib.hid (fun i (h:i<4)=>zHg L h)
 have HV:=Lib.hid hv
 have HG:=Lib.hid (fun i (h:i<4)=>yM v0 v1 v2 v3 h)
 obtain ⟨l,hl⟩:∃ l,l=Yg l0 l1 l2 l3:=⟨_,rfl⟩
 obtain ⟨ps,hps⟩:∃ ps,ps=Yg L.a L.b L.b L.b:=⟨_,rfl⟩
 have HCL:=Lib.hid (show Ga L.block (Yg l0 l1 l2 l3) (Yg L.a L.b L.b L.b)=Vb L.block l ps 4 by rw [hl,hps];rfl)
 rw [HCL.out]
 rw [←hl] at HV
 rw [←hps] at HPS HLP
 have HP0:=Lib.hid (show Vb L.block l ps 0=[] from rfl)
 have HPN:=Lib.hid (KI L.block l ps)
 have mk:=YS L.block (by omega)
 clear hv hl hps HCL hL
 unfold Zz at *
 obtain ⟨kl,kv,hb0,hsz⟩:=YB w 39 146 #[.int .u64 (L.p:Int), .int .i64 (L.block:Int), .int .i64 (L.queries:Int), .int .i64 (L.k:Int), .int .i64 (L.n:Int), .int .i64 (L.secret:Int), .int .i64 (L.rows:Int), .int .i64 (L.a:Int), .int .i64 (L.b:Int), .int .i64 (L.b:Int), .int .i64 (L.b:Int)] #[v0,v1,v2,v3]
 go_enter Tryz.func96,Tryz.ntmps96
 go_upto_region 1 with fail
 generalize (w.alloc _).alloc _=w1 at kl kv hb0 hsz ⊢
 obtain ⟨N,hN⟩:∃ N,N=w1.heap.size:=⟨_,rfl⟩
 have HWN:=Lib.hid (show w.heap.size≤N by omega)
 have hN1:w.heap.size+1<N:=by omega
 have hN2:N≤w1.heap.size:=by omega
 clear hsz hN
 obtain ⟨LC,hLC⟩:∃ LC:Array Value,LC=#[.int .u64 (L.p:Int), .int .i64 (L.block:Int), .int .i64 (L.queries:Int), .int .i64 (L.k:Int), .int .i64 (L.n:Int), .int .i64 (L.secret:Int), .int .i64 (L.rows:Int), .int .i64 (L.a:Int), .int .i64 (L.b:Int), .int .i64 (L.b:Int), .int .i64 (L.b:Int)]:=⟨_,rfl⟩
 have HL1:=Lib.hid (show LC[1]?=some (.int .i64 (L.block:Int)) by rw [hLC];rfl)
 have HL7:=Lib.hid (show ∀ i,i<4→LC[7+i]?=some (.int .i64 (ps i:Int)) from fun i h=>by rw [hLC];exact HLP.out i h)
 rw [←hLC] at kl
 clear hLC HLP
 obtain ⟨VC,hVC⟩:∃ VC:Array Value,VC=#[v0,v1,v2,v3]:=⟨_,rfl⟩
 have HVC:=Lib.hid (show ∀ i,i<4→VC[i]?=some (Yg v0 v1 v2 v3 i) from fun i h=>by rw [hVC];exact HG.out i h)
 rw [←hVC] at kv
 clear hVC HG
 generalize hBL:L.block=B at *
 have HBL:=Lib.hid hBL
 clear hBL
 have g1:(0:Int)<(B:Int):=by omega
 have g2:(B:Int)≤256:=by omega
 go_wp2_with fail
 go_loopw [5,6] (fun u y wr=>∃ (i n:Nat) (v:Value) (cs:List Value),v=u∧i≤4∧y= .int .i64 (i:Int)∧n≤i*100000∧Blk wr w.heap.size 39 LC∧Blk wr (w.heap.size+1) 146 VC∧wr.ownsRow N 28 1 v n cs∧Xs N wr v cs (Vb B l ps i)∧Below w.heap.size w wr∧N≤wr.heap.size) (fun _ y _=>4-(intOf y).toNat)
 case atStart=>exact ⟨0,0,_,[],rfl,by omega,rfl,by omega,kl,kv,⟨rfl, .inl ⟨rfl,rfl⟩⟩,by rw [HP0.out];exact Uw _ _ _,hb0,hN2⟩
 case round =>
  clear kl kv hb0 hN2
  obtain ⟨i,n0,v,cs,rfl,hi,rfl,hn0,kl,kv,hown,hgr,hb0,hN2⟩:=hrel
  by_cases hlt:i<4
  ·have q1:(i:Int)<4:=by omega
   have hvi:=HV.out i hlt
   have hps:=HPS.out i
   obtain ⟨p,hp⟩:∃ p,p=ps i:=⟨_,rfl⟩
   have HL7i:=Lib.hid (HL7.out i hlt)
   have HVCi:=Lib.hid (HVC.out i hlt)
   have HPNi:=Lib.hid (HPN.out i)
   obtain ⟨li,hli⟩:∃ li,li=l i:=⟨_,rfl⟩
   obtain ⟨si,hsi⟩:∃ si,si=Yg v0 v1 v2 v3 i:=⟨_,rfl⟩
   rw [←hsi] at hvi HVCi
   rw [←hli] at hvi HPNi
   rw [←hp] at hps HL7i HPNi
   clear hp hli hsi
   obtain ⟨Ai,ci,rfl⟩:=ZR hvi
   obtain ⟨-,hx1,hx2,hltl,-⟩:=Zy hvi
   have gli:=YR hx1 hx2
   obtain ⟨P0,hP0⟩:∃ P0,P0=Vb B l ps i:=⟨_,rfl⟩
   rw [←hP0] at hgr HPNi
   have HV0:=Lib.hid (show P0++KN B li 0=P0 by simp [KN])
   have HVN:=Lib.hid (show ∀ k,(P0++KN B li k)++[Ji B li k]=P0++KN B li (k+1) from fun k=>by rw [jZ,List.append_assoc])
   have HVI:=Lib.hid hvi
   have HLTL:=Lib.hid hltl
   have HX:=Lib.hid hx2
   clear hP0 hvi hltl hx1 hx2
   go_wp2_with fail
   go_loopw [5,7] (fun u y wr=>∃ (k n:Nat) (v:Value) (cs:List Value),v=u∧k≤p∧y= .int .i64 (k:Int)∧n≤i*100000+k∧Blk wr w.heap.size 39 LC∧Blk wr (w.heap.size+1) 146 VC∧wr.ownsRow N 28 1 v n cs∧Xs N wr v cs (P0++KN B li k)∧Below w.heap.size w wr∧N≤wr.heap.size) (fun _ y _=>p-(intOf y).toNat)
   case atStart=>exact ⟨0,n0,_,cs,rfl,Nat.zero_le _,rfl,by rw [Nat.add_zero];exact hn0,kl,kv,hown,by rw [HV0.out];exact hgr,hb0,hN2⟩
   case round =>
    clear kl kv hb0 hN2 hown hgr hn0
    obtain ⟨k,n1,v,cs,rfl,hk,rfl,hn1,kl,kv,hown,hgr,hb0,hN2⟩:=hrel
    have c7:=kl.cell (7+i)
    rw [HL7i.out] at c7
    have c1:=kl.cell 1
    rw [HL1.out] at c1
    by_cases hltk:k<p
    ·have q2:(k:Int)<(p:Int):=by omega
     obtain ⟨wo,hwo⟩:∃ wo,wo=wr:=⟨_,rfl⟩
     subst hwo
     have HVN1:=Lib.hid (HVN.out k)
     go_wp2_with fail
     have kg:=Blk.new wo 22 (Zm B fun _=>0)
     have hbi:=(Below.refl wo.heap.size wo).alloc (Nat.le_refl _) (.cells (Zm B fun _=>0) 22)
     have hvb:∀ q,v.ownBlock=some q→q<wo.heap.size:=fun q e=>(hown.lt q e).2
     have hgN:N≤wo.heap.size:=hN2
     clear c7 c1
     generalize wo.alloc _=w2 at kg hbi ⊢
     obtain ⟨F,hF⟩:∃ F:Nat→Nat,F=fun j=>li.getD (k*B+j) 0:=⟨_,rfl⟩
     have HF:=Lib.hid (show ∀ j,F j=li.getD (k*B+j) 0 from fun j=>by rw [hF])
     have HCR:=Lib.hid (show (List.range B).map F=Ji B li k by rw [hF];rfl)
     obtain ⟨kb,hkb⟩:∃ kb,kb=k*B:=⟨_,rfl⟩
     rw [←hkb] at HF
     have hkb2:kb≤100000*256:=by rw [hkb];exact Nat.mul_le_mul (by omega) hb2
     have ek:(k:Int)*(B:Int)=(kb:Int):=by rw [hkb];exact (Int.natCast_mul _ _).symm
     have ek2:IntKind.i64.wrap (kb:Int)=(kb:Int):=ZD _ (by omega) (by omega)
     have H0:=Lib.hid (VX B F fun _=>0)
     have HFL:=Lib.hid (show ∀ j,F j<18446744073709551616 from fun j=>by
      rw [HF.out,List.getD_eq_getElem?_getD]
      cases h:li[kb+j]? with
      | none=>decide
      | some x=>exact HLTL.out x (List.mem_of_getElem? h))
     clear hF hkb
     go_loopw [9] (fun y wr=>∃ j:Nat,j≤B∧y= .int .i64 (j:Int)∧Blk wr wo.heap.size 22 (Zm B (X8 F (fun _=>0) j))∧Below wo.heap.size wo wr) (fun y _=>B-(intOf y).toNat)
     case atStart=>exact ⟨0,by omega,rfl,by rw [H0.out];exact kg,hbi⟩
     case round =>
      clear kg hbi
      obtain ⟨j,hj,rfl,kg,hbi⟩:=hrel
      obtain ⟨t,ht⟩:∃ t,t=kb+j:=⟨_,rfl⟩
      have et:(kb:Int)+(j:Int)=(t:Int):=by omega
      have et2:IntKind.i64.wrap (t:Int)=(t:Int):=ZD _ (by omega) (by omega)
      have HT:=Lib.hid ht
      have c1:=(kl.below hbi kl.lt).cell 1
      rw [HL1.out] at c1
      have ci:=(kv.below hbi kv.lt).cell i
      rw [HVCi.out] at ci
      have lk:=(kl.below hbi kl.lt).lt
      have lv:=(kv.below hbi kv.lt).lt
      have lg:=kg.lt
      have q9:(0:Int)≤(j:Int):=by omega
      have q8:(0:Int)≤(i:Int):=by omega
      clear ht
      by_cases hj1:j<B
      ·have q3:(j:Int)<(B:Int):=by omega
       have d3:decide ((j:Int)<(B:Int))=true:=decide_eq_true q3
       by_cases hj2:t<li.length
       ·have q4:(t:Int)<(li.length:Int):=by omega
        have q5:(0:Int)≤(t:Int):=by omega
        have d4:decide ((t:Int)<(li.length:Int))=true:=decide_eq_true q4
        have hbr:=Za hb0 hbi
        obtain ⟨b,q,rfl,hbl,hc⟩:=Ym ((Zy HVI.out).2.2.2.2.below hbr) hj2
        have HZ:=Lib.hid (show li.getD t 0=F j by rw [HF.out,HT.out])
        rw [HZ.out] at hc
        obtain ⟨z,hz⟩:∃ z,z=F j:=⟨_,rfl⟩
        have HST:=Lib.hid (VF (n:=B) (G:=fun _=>0) hz)
        rw [←hz] at hc
        clear hz HZ hbr
        go_upto_region 10 with fail
        refine Zq (ZK) [] [0,1,2,3,4,5,6,7,8,9,10,11,12,13,14,15,16] (by kernel_rfl) (by kernel_rfl) ?_
        refine Zp (later_moves) ?_
        intro Wc HWc hacc
        have hbW:Below wr.heap.size wr Wc:=by rw [HWc.out];exact (Below.refl _ _).drew
        repeat (first | (refine Zf (later_moves) rfl rfl (fun _ _ _ h=>h) ?_;simp only [Act.put,zLa,zLb,zLc]) | (refine Ze (v:=?_) (later_moves) rfl rfl (fun _ _ _ h=>h) ?_ ?_;rotate_left;(· (intro w' hR;(first | have hcells:=Zb ((later_moves).trans _ _ _ hacc hR) | skip);go_simp;try with_reducible rfl));simp only [Act.put,zLa,zLb,zLc]))
        refine Zt ?_
        replace kg:=kg.below hbW kg.lt
        replace hbi:=Za hbi hbW
        have hc3:=(hbW.cell (p:=⟨b,q+t,none⟩) hbl).trans hc
        replace hbl:=Nat.lt_of_lt_of_le hbl hbW.size
        clear c1 ci lk lv lg hacc hc
        generalize Wc=w3 at kg hbi hc3 hbl ⊢
        have c1:=(kl.below hbi kl.lt).cell 1
        rw [HL1.out] at c1
        have ci:=(kv.below hbi kv.lt).cell i
        rw [HVCi.out] at ci
        have lk:=(kl.below hbi kl.lt).lt
        have lv:=(kv.below hbi kv.lt).lt
        have lg:=kg.lt
        have cg:=kg.cell j
        rw [Vw _ _ hj1] at cg
        go_upto_region 12 with fail
        refine ZF (ZK) (later_moves) [14] [14] [0,1,2,3,4,5,6,7,8,9,10,11,12,13,14] (by kernel_rfl) (by kernel_rfl) ?_
        refine ZG (later_moves) ?_
        intro Wc hacc
        repeat (first | (refine Zl (later_moves) rfl rfl rfl rfl (fun _ _ _ h=>h) ?_;simp only [Act.put,zLa,zLb,zLc]) | (refine Zi (v:=?_) (later_moves) rfl rfl rfl rfl (fun _ _ _ h=>h) ?_ ?_;rotate_left;(· (intro w' hR;(first | have hcells:=Zb ((later_moves).trans _ _ _ hacc hR) | skip);go_simp;try with_reducible rfl));simp only [Act.put,zLa,zLb,zLc]) | (refine Zu (v:=?_) rfl rfl rfl rfl (fun _ _ _ h=>h) ?_ ?_;rotate_left;(· (intro w';go_simp;try with_reducible rfl));simp only [Act.put,zLa,zLb,zLc]))
        refine Z7 rfl rfl rfl rfl ?_
        intro wh hRh
        replace hacc:=(later_moves).trans _ _ _ hacc hRh
        have hxd:=Za (Below.refl w3.heap.size w3).drew hacc
        replace kg:=kg.below hxd kg.lt
        replace hbi:=Za hbi hxd
        clear hxd hacc hRh lk lv lg c1 ci cg hc3 hbl
        have c2:=kg.cell j
        rw [Vw _ _ hj1] at c2
        have f2:=kg.frozen
        go_simp
        refine ⟨fun h=>Bool.noConfusion h,?_⟩
        have hg:=Yl (w:=wh) wo.heap.size j (.int .u64 (z:Int))
        replace kg:=kg.set_ j (.int .u64 (z:Int))
        rw [HST.out] at kg
        replace hbi:=hbi.trans (Zg hg hbi.size (Nat.le_refl _))
        clear hg f2 c2
        generalize wh.setCell _ _=we at kg hbi ⊢
        refine Z8 rfl ?_
        go_wp2_with fail
        go_roundw
        case rel=>exact ⟨j+1,by omega,by go_num,kg,hbi⟩
        case measure=>simp [intOf];omega
       ·have d4:decide ((t:Int)<(li.length:Int))=false:=decide_eq_false (by omega)
        have HST:=Lib.hid (show Zm B (X8 F (fun _=>0) j)=Zm B F from jO fun x h1 _=>by
         rw [HF.out,UH]
         have:=HT.out
         omega)
        go_upto_region 10 with fail
        refine Zq (ZK) [] [0,1,2,3,4,5,6,7,8,9,10,11,12,13,14,15,16] (by kernel_rfl) (by kernel_rfl) ?_
        refine Zp (later_moves) ?_
        intro Wc HWc hacc
        have hbW:Below wr.heap.size wr Wc:=by rw [HWc.out];exact (Below.refl _ _).drew
        repeat (first | (refine Zf (later_moves) rfl rfl (fun _ _ _ h=>h) ?_;simp only [Act.put,zLa,zLb,zLc]) | (refine Ze (v:=?_) (later_moves) rfl rfl (fun _ _ _ h=>h) ?_ ?_;rotate_left;(· (intro w' hR;(first | have hcells:=Zb ((later_moves).trans _ _ _ hacc hR) | skip);go_simp;try with_reducible rfl));simp only [Act.put,zLa,zLb,zLc]))
        refine Zt ?_
        replace kg:=kg.below hbW kg.lt
        replace hbi:=Za hbi hbW
        clear c1 ci lk lv lg hacc
        generalize Wc=w3 at kg hbi ⊢
        rw [HST.out] at kg
        replace kl:=kl.below hbi kl.lt
        replace kv:=kv.below hbi kv.lt
        replace hb0:=Za hb0 hbi
        replace hN2:=Nat.le_trans hN2 hbi.size
        replace hown:=Zh hown hbi (Nat.le_refl _)
        replace hgr:=ZL hgr hbi
        have hx:=JN (N:=N) (gb:=v.ownBlock) kg (fun j _=>HFL.out j) (by simp [maxLen];omega) hgN (fun e=>by have:=hvb _ e.symm;omega)
        rw [HCR.out] at hx
        clear kg
        go_wp2_with (at_builtin;refine ZV rfl _ _ rfl UF rfl (hown.alloc _) rfl (Xu _ _ _) (by intro u hu;simp at hu;subst hu;rfl) (by omega) (by simp;omega) ?_)
        intro v' wn hown' hgrow hblk
        have hal:=(Below.refl w3.heap.size w3).alloc (Nat.le_refl _) (.cells #[.slice (some ⟨wo.heap.size,0,none⟩) B B] 28)
        replace hgr:=ZL hgr hal
        replace hx:=YP hx hal.size (fun b _ h2 _=>hal.block b h2)
        have hgn:=VT hgr hx hgrow (by simpa using hblk)
        rw [HVN1.out] at hgn
        have hBx:=Yd (hown.alloc _) hgrow (by simp;omega)
        have hNw:w.heap.size≤N:=by omega
        have hvN:∀ q,v.ownBlock=some q→N≤q:=fun q e=>(hown.lt q e).1
        replace kl:=kl.below hal kl.lt
        replace kv:=kv.below hal kv.lt
        replace hb0:=Za hb0 hal
        replace hN2:=Nat.le_trans hN2 hal.size
        replace kl:=kl.grown hgrow (fun e=>by first | (have:=hvN _ e;omega) | (have:=hvN _ e.symm;omega))
        replace kv:=kv.grown hgrow (fun e=>by first | (have:=hvN _ e;omega) | (have:=hvN _ e.symm;omega))
        replace hb0:=hb0.trans (hBx.mono hNw)
        replace hN2:=Nat.le_trans hN2 hgrow.size
        clear hgrow hblk hBx hal hown hgr hx hbi
        go_wp2
        go_roundw
        case rel=>exact ⟨k+1,n1+1,_,_,rfl,by omega,by go_num,by omega,kl,kv,hown',hgn,hb0,hN2⟩
        case measure=>simp [intOf];omega
      ·have d3:decide ((j:Int)<(B:Int))=false:=decide_eq_false (by omega)
       have HST:=Lib.hid (show Zm B (X8 F (fun _=>0) j)=Zm B F from jO fun x h1 h2=>by omega)
       go_upto_region 10 with fail
       refine Zq (ZK) [] [0,1,2,3,4,5,6,7,8,9,10,11,12,13,14,15,16] (by kernel_rfl) (by kernel_rfl) ?_
       refine Zp (later_moves) ?_
       intro Wc HWc hacc
       have hbW:Below wr.heap.size wr Wc:=by rw [HWc.out];exact (Below.refl _ _).drew
       repeat (first | (refine Zf (later_moves) rfl rfl (fun _ _ _ h=>h) ?_;simp only [Act.put,zLa,zLb,zLc]) | (refine Ze (v:=?_) (later_moves) rfl rfl (fun _ _ _ h=>h) ?_ ?_;rotate_left;(· (intro w' hR;(first | have hcells:=Zb ((later_moves).trans _ _ _ hacc hR) | skip);go_simp;try with_reducible rfl));simp only [Act.put,zLa,zLb,zLc]))
       refine Zt ?_
       replace kg:=kg.below hbW kg.lt
       replace hbi:=Za hbi hbW
       clear c1 ci lk lv lg hacc
       generalize Wc=w3 at kg hbi ⊢
       rw [HST.out] at kg
       replace kl:=kl.below hbi kl.lt
       replace kv:=kv.below hbi kv.lt
       replace hb0:=Za hb0 hbi
       replace hN2:=Nat.le_trans hN2 hbi.size
       replace hown:=Zh hown hbi (Nat.le_refl _)
       replace hgr:=ZL hgr hbi
       have hx:=JN (N:=N) (gb:=v.ownBlock) kg (fun j _=>HFL.out j) (by simp [maxLen];omega) hgN (fun e=>by have:=hvb _ e.symm;omega)
       rw [HCR.out] at hx
       clear kg
       go_wp2_with (at_builtin;refine ZV rfl _ _ rfl UF rfl (hown.alloc _) rfl (Xu _ _ _) (by intro u hu;simp at hu;subst hu;rfl) (by omega) (by simp;omega) ?_)
       intro v' wn hown' hgrow hblk
       have hal:=(Below.refl w3.heap.size w3).alloc (Nat.le_refl _) (.cells #[.slice (some ⟨wo.heap.size,0,none⟩) B B] 28)
       replace hgr:=ZL hgr hal
       replace hx:=YP hx hal.size (fun b _ h2 _=>hal.block b h2)
       have hgn:=VT hgr hx hgrow (by simpa using hblk)
       rw [HVN1.out] at hgn
       have hBx:=Yd (hown.alloc _) hgrow (by simp;omega)
       have hNw:w.heap.size≤N:=by omega
       have hvN:∀ q,v.ownBlock=some q→N≤q:=fun q e=>(hown.lt q e).1
       replace kl:=kl.below hal kl.lt
       replace kv:=kv.below hal kv.lt
       replace hb0:=Za hb0 hal
       replace hN2:=Nat.le_trans hN2 hal.size
       replace kl:=kl.grown hgrow (fun e=>by first | (have:=hvN _ e;omega) | (have:=hvN _ e.symm;omega))
       replace kv:=kv.grown hgrow (fun e=>by first | (have:=hvN _ e;omega) | (have:=hvN _ e.symm;omega))
       replace hb0:=hb0.trans (hBx.mono hNw)
       replace hN2:=Nat.le_trans hN2 hgrow.size
       clear hgrow hblk hBx hal hown hgr hx hbi
       go_wp2
       go_roundw
       case rel=>exact ⟨k+1,n1+1,_,_,rfl,by omega,by go_num,by omega,kl,kv,hown',hgn,hb0,hN2⟩
       case measure=>simp [intOf];omega
    ·obtain rfl:k=p:=by omega
     have q2:¬((k:Int)<(k:Int)):=by omega
     rw [←HPNi.out] at hgr
     go_wp2_with fail
     go_roundw
     case rel=>exact ⟨i+1,n1,_,cs,rfl,by omega,by go_num,by omega,kl,kv,hown,hgr,hb0,hN2⟩
     case measure=>simp [intOf];omega
  ·obtain rfl:i=4:=by omega
   rw [←HBL.out] at hgr
   go_wp2
   go_ret
   exact ⟨_,_,_,rfl,ZQ hown HWN.out,GB hgr HWN.out,hb0⟩
end Go.Proofs.YtakjnmojigechaaGreat
