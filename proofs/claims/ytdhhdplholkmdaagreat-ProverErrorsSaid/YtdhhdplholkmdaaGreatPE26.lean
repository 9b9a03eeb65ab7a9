/- A part of the proof. No condition. -/
import Derived.Deep.AppendLies
import Derived.Laws.OwnMore
import Derived.Test.YtdhhdplholkmdaaGreatProg
import Derived.Test.YtdhhdplholkmdaaGreatPE22
import Derived.Test.YtdhhdplholkmdaaGreatPE23
import Derived.Test.YtdhhdplholkmdaaGreatPE24

namespace Go.Proofs.YtdhhdplholkmdaaGreat
open Go.RowKit
def Uc (r:Zv) (k:Nat):List (Int × Nat):=if k=0 then r.a else if k=1 then r.b else r.c
def Yh (L:Xf) (rows:List (List Nat)) (l1 l2 l3 l4:List Nat):Bool :=
 decide (rows.length=L.a+L.b+L.b+L.b)&&(rows.all (fun r=>Yj r L.queries L.p)&&(Yj l1 L.k L.p&&(Yj l2 (L.k+L.block-2) L.p&&(Yj l3 (L.block+2*L.queries-1) L.p&&Yj l4 L.n Xq))))
theorem Vg {l:List (List Nat)} {f:List Nat→Bool} {i:Nat} (h:(l.take i).all f=true) (hi:i<l.length) (hx:f l[i]=true):(l.take (i+1)).all f=true:=by
 rw [List.take_succ_eq_append_getElem hi,List.all_append,h,List.all_cons,hx]
 rfl
theorem VN {l:List (List Nat)} {f:List Nat→Bool} {i:Nat} (hi:i<l.length) (hx:f l[i]=false):l.all f=false:=by
 rw [List.all_eq_false]
 exact ⟨l[i],List.getElem_mem _,by rw [hx];decide⟩
set_option maxRecDepth 100000 in
set_option maxHeartbeats 2000000 in
theorem Um (L:Xf) (A0 A1 A2 A3 A4:Option Addr) (n0 c0 n1 c1 n2 c2 n3 c3 n4 c4:Nat) (rows:List (List Nat)) (l1 l2 l3 l4:List Nat) (w:World) (hL:Yr L)
  (h0:XL w [.slice A0 n0 c0] rows) (h1:RWd w [.slice A1 n1 c1] l1) (h2:RWd w [.slice A2 n2 c2] l2) (h3:RWd w [.slice A3 n3 c3] l3) (h4:RWd w [.slice A4 n4 c4] l4) :
  Calls Tryz.prog 24 #[.agg (ZP L), .agg #[.slice A0 n0 c0, .slice A1 n1 c1, .slice A2 n2 c2, .slice A3 n3 c3, .slice A4 n4 c4]] w fun e w'=>e= .returned (.bool (Yh L rows l1 l2 l3 l4))∧Below w.heap.size w w':=by
 have HC:=Lib.hid (fun w=>VB L w hL)
 have HT:=Lib.hid (fun w=>X7 L.p L.block L.queries L.k L.n L.secret L.rows L.a L.b L.b L.b w hL.a hL.b hL.b hL.b)
 have HE1:=Lib.hid (fun w' (hb:Below w.heap.size w w')=>YO A1 n1 c1 L.k L.p l1 w' (Zd _ _ _ _ hb h1))
 have HE2:=Lib.hid (fun w' (hb:Below w.heap.size w w')=>YO A2 n2 c2 (L.k+L.block-2) L.p l2 w' (Zd _ _ _ _ hb h2))
 have HE3:=Lib.hid (fun w' (hb:Below w.heap.size w w')=>YO A3 n3 c3 (L.block+2*L.queries-1) L.p l3 w' (Zd _ _ _ _ hb h3))
 have HE4:=Lib.hid (fun w' (hb:Below w.heap.size w w')=>YO A4 n4 c4 L.n Xq l4 w' (Zd _ _ _ _ hb h4))
 obtain ⟨hn0,a1,a2,r0⟩:=VC h0
 have gm:=YD a1 a2
 obtain ⟨ans,ha⟩:∃ ans,ans=Yh L rows l1 l2 l3 l4:=⟨_,rfl⟩
 rw [←ha]
 unfold Yh at ha
 rw [hn0] at ha
 have HN:=Lib.hid hn0
 obtain ⟨kl,kc,hba,hsz⟩:=Xe w 50 67 (ZP L) #[.slice A0 n0 c0, .slice A1 n1 c1, .slice A2 n2 c2, .slice A3 n3 c3, .slice A4 n4 c4]
 generalize Yj l1 L.k L.p=b1 at *
 generalize Yj l2 (L.k+L.block-2) L.p=b2 at *
 generalize Yj l3 (L.block+2*L.queries-1) L.p=b3 at *
 generalize Yj l4 L.n Xq=b4 at *
 generalize L.k+L.block-2=m2 at *
 generalize L.block+2*L.queries-1=m3 at *
 generalize L.a+L.b+L.b+L.b=T at *
 have HA:=Lib.hid ha
 clear ha h0 h1 h2 h3 h4 hL a1 a2 hn0
 unfold ZP at *
 unfold Xq at HE4
 go_enter Tryz.func24,Tryz.ntmps24
 go_wp2_with fail
 generalize (w.alloc _).alloc _=w1 at kl kc hba hsz ⊢
 refine (HC.out _).mono ?_
 rintro e w2 ⟨rfl,hb2⟩
 have ks:=Blk.new w2 139 #[.int .i64 (L.k:Int), .int .i64 (m2:Int), .int .i64 (m3:Int)]
 have hbs:=(Below.refl w2.heap.size w2).alloc (Nat.le_refl _) (.cells #[.int .i64 (L.k:Int), .int .i64 (m2:Int), .int .i64 (m3:Int)] 139)
 replace kl:=kl.below hb2 kl.lt
 replace kc:=kc.below hb2 kc.lt
 replace kl:=kl.below hbs kl.lt
 replace kc:=kc.below hbs kc.lt
 have hb0:=Za (Za hba hb2) hbs
 go_upto_region 2 with fail
 generalize w2.alloc _=w3 at kl kc ks hb0 ⊢
 generalize w2.heap.size=gs at ks ⊢
 clear hba hb2 hbs hsz HC
 have cl:=kl.cell
 have cc:=kc.cell
 have cs:=ks.cell
 have ll:=kl.lt
 have lc:=kc.lt
 have ls:=ks.lt
 by_cases hT:n0=T
 rotate_left
 ·have HF:=Lib.hid (show ans=false by rw [HA.out,decide_eq_false hT];rfl)
  have t1:((n0:Int) != (T:Int))=true:=by rw [bne_iff_ne];omega
  have t2:((n0:Int) == (T:Int))=false:=by rw [beq_eq_false_iff_ne];omega
  clear HA hT
  refine ZO (Z4) (later_moves) [] [] [0,1,2,3,4,5,6,7,8,9,10,11,12,13,14,15,16,17,18,19,20,21,22,23,24,25] (by kernel_rfl) (by kernel_rfl) ?_
  refine ZN (later_moves) ?_
  intro Wc hacc
  repeat (first | (refine Zk (later_moves) rfl rfl rfl rfl (fun _ _ _ h=>h) ?_;simp only [Act.put,zLa,zLb,zLc]) | (refine Zg (v:=?_) (later_moves) rfl rfl rfl rfl (fun _ _ _ h=>h) ?_ ?_;rotate_left;(· (intro w' hR;(first | have hcells:=Zc ((later_moves).trans _ _ _ hacc hR) | skip);go_simp;try with_reducible rfl));simp only [Act.put,zLa,zLb,zLc]))
  refine Zu (later_moves) rfl rfl rfl rfl (fun _ _ _ h=>h) (fun _=>by go_simp <;> rfl) (fun w' hR=>HT.out _) ?_
  simp only [Act.put,zLa,zLb,zLc]
  repeat (first | (refine Zk (later_moves) rfl rfl rfl rfl (fun _ _ _ h=>h) ?_;simp only [Act.put,zLa,zLb,zLc]) | (refine Zg (v:=?_) (later_moves) rfl rfl rfl rfl (fun _ _ _ h=>h) ?_ ?_;rotate_left;(· (intro w' hR;(first | have hcells:=Zc ((later_moves).trans _ _ _ hacc hR) | skip);go_simp;try with_reducible rfl));simp only [Act.put,zLa,zLb,zLc]))
  refine ZZ rfl ?_
  intro wd hRd
  replace hacc:=(later_moves).trans _ _ _ hacc hRd
  clear hRd
  go_wp2_with fail
  go_ret
  exact ⟨by rw [HF.out];rfl,Za hb0.drew hacc⟩
 have t1:((n0:Int) != (T:Int))=false:=by rw [bne_eq_false_iff_eq];omega
 have t2:((n0:Int) == (T:Int))=true:=by rw [beq_iff_eq];omega
 have HB:=Lib.hid (show ans=(rows.all (fun r=>Yj r L.queries L.p)&&(b1&&(b2&&(b3&&b4)))) by rw [HA.out,decide_eq_true hT];rfl)
 clear HA hT
 cases b1
 ·have HF:=Lib.hid (show ans=false by rw [HB.out];simp)
  refine ZO (Z4) (later_moves) [] [] [0,1,2,3,4,5,6,7,8,9,10,11,12,13,14,15,16,17,18,19,20,21,22,23,24,25] (by kernel_rfl) (by kernel_rfl) ?_
  refine ZN (later_moves) ?_
  intro Wc hacc
  repeat (first | (refine Zk (later_moves) rfl rfl rfl rfl (fun _ _ _ h=>h) ?_;simp only [Act.put,zLa,zLb,zLc]) | (refine Zg (v:=?_) (later_moves) rfl rfl rfl rfl (fun _ _ _ h=>h) ?_ ?_;rotate_left;(· (intro w' hR;(first | have hcells:=Zc ((later_moves).trans _ _ _ hacc hR) | skip);go_simp;try with_reducible rfl));simp only [Act.put,zLa,zLb,zLc]))
  refine Zu (later_moves) rfl rfl rfl rfl (fun _ _ _ h=>h) (fun _=>by go_simp <;> rfl) (fun w' hR=>HT.out _) ?_
  simp only [Act.put,zLa,zLb,zLc]
  repeat (first | (refine Zk (later_moves) rfl rfl rfl rfl (fun _ _ _ h=>h) ?_;simp only [Act.put,zLa,zLb,zLc]) | (refine Zg (v:=?_) (later_moves) rfl rfl rfl rfl (fun _ _ _ h=>h) ?_ ?_;rotate_left;(· (intro w' hR;(first | have hcells:=Zc ((later_moves).trans _ _ _ hacc hR) | skip);go_simp;try with_reducible rfl));simp only [Act.put,zLa,zLb,zLc]))
  refine Zu (later_moves) rfl rfl rfl rfl (fun _ _ _ h=>h) (fun _=>by go_simp <;> rfl) (fun w' hR=>HE1.out _ (Za hb0.drew (Za hacc hR))) ?_
  simp only [Act.put,zLa,zLb,zLc]
  repeat (first | (refine Zk (later_moves) rfl rfl rfl rfl (fun _ _ _ h=>h) ?_;simp only [Act.put,zLa,zLb,zLc]) | (refine Zg (v:=?_) (later_moves) rfl rfl rfl rfl (fun _ _ _ h=>h) ?_ ?_;rotate_left;(· (intro w' hR;(first | have hcells:=Zc ((later_moves).trans _ _ _ hacc hR) | skip);go_simp;try with_reducible rfl));simp only [Act.put,zLa,zLb,zLc]))
  refine ZZ rfl ?_
  intro wd hRd
  replace hacc:=(later_moves).trans _ _ _ hacc hRd
  clear hRd
  go_wp2_with fail
  go_ret
  exact ⟨by rw [HF.out];rfl,Za hb0.drew hacc⟩
 cases b2
 ·have HF:=Lib.hid (show ans=false by rw [HB.out];simp)
  refine ZO (Z4) (later_moves) [] [] [0,1,2,3,4,5,6,7,8,9,10,11,12,13,14,15,16,17,18,19,20,21,22,23,24,25] (by kernel_rfl) (by kernel_rfl) ?_
  refine ZN (later_moves) ?_
  intro Wc hacc
  repeat (first | (refine Zk (later_moves) rfl rfl rfl rfl (fun _ _ _ h=>h) ?_;simp only [Act.put,zLa,zLb,zLc]) | (refine Zg (v:=?_) (later_moves) rfl rfl rfl rfl (fun _ _ _ h=>h) ?_ ?_;rotate_left;(· (intro w' hR;(first | have hcells:=Zc ((later_moves).trans _ _ _ hacc hR) | skip);go_simp;try with_reducible rfl));simp only [Act.put,zLa,zLb,zLc]))
  refine Zu (later_moves) rfl rfl rfl rfl (fun _ _ _ h=>h) (fun _=>by go_simp <;> rfl) (fun w' hR=>HT.out _) ?_
  simp only [Act.put,zLa,zLb,zLc]
  repeat (first | (refine Zk (later_moves) rfl rfl rfl rfl (fun _ _ _ h=>h) ?_;simp only [Act.put,zLa,zLb,zLc]) | (refine Zg (v:=?_) (later_moves) rfl rfl rfl rfl (fun _ _ _ h=>h) ?_ ?_;rotate_left;(· (intro w' hR;(first | have hcells:=Zc ((later_moves).trans _ _ _ hacc hR) | skip);go_simp;try with_reducible rfl));simp only [Act.put,zLa,zLb,zLc]))
  refine Zu (later_moves) rfl rfl rfl rfl (fun _ _ _ h=>h) (fun _=>by go_simp <;> rfl) (fun w' hR=>HE1.out _ (Za hb0.drew (Za hacc hR))) ?_
  simp only [Act.put,zLa,zLb,zLc]
  repeat (first | (refine Zk (later_moves) rfl rfl rfl rfl (fun _ _ _ h=>h) ?_;simp only [Act.put,zLa,zLb,zLc]) | (refine Zg (v:=?_) (later_moves) rfl rfl rfl rfl (fun _ _ _ h=>h) ?_ ?_;rotate_left;(· (intro w' hR;(first | have hcells:=Zc ((later_moves).trans _ _ _ hacc hR) | skip);go_simp;try with_reducible rfl));simp only [Act.put,zLa,zLb,zLc]))
  refine Zu (later_moves) rfl rfl rfl rfl (fun _ _ _ h=>h) (fun _=>by go_simp <;> rfl) (fun w' hR=>HE2.out _ (Za hb0.drew (Za hacc hR))) ?_
  simp only [Act.put,zLa,zLb,zLc]
  repeat (first | (refine Zk (later_moves) rfl rfl rfl rfl (fun _ _ _ h=>h) ?_;simp only [Act.put,zLa,zLb,zLc]) | (refine Zg (v:=?_) (later_moves) rfl rfl rfl rfl (fun _ _ _ h=>h) ?_ ?_;rotate_left;(· (intro w' hR;(first | have hcells:=Zc ((later_moves).trans _ _ _ hacc hR) | skip);go_simp;try with_reducible rfl));simp only [Act.put,zLa,zLb,zLc]))
  refine ZZ rfl ?_
  intro wd hRd
  replace hacc:=(later_moves).trans _ _ _ hacc hRd
  clear hRd
  go_wp2_with fail
  go_ret
  exact ⟨by rw [HF.out];rfl,Za hb0.drew hacc⟩
 refine ZO (Z4) (later_moves) [] [] [0,1,2,3,4,5,6,7,8,9,10,11,12,13,14,15,16,17,18,19,20,21,22,23,24,25] (by kernel_rfl) (by kernel_rfl) ?_
 refine ZN (later_moves) ?_
 intro Wc hacc
 repeat (first | (refine Zk (later_moves) rfl rfl rfl rfl (fun _ _ _ h=>h) ?_;simp only [Act.put,zLa,zLb,zLc]) | (refine Zg (v:=?_) (later_moves) rfl rfl rfl rfl (fun _ _ _ h=>h) ?_ ?_;rotate_left;(· (intro w' hR;(first | have hcells:=Zc ((later_moves).trans _ _ _ hacc hR) | skip);go_simp;try with_reducible rfl));simp only [Act.put,zLa,zLb,zLc]))
 refine Zu (later_moves) rfl rfl rfl rfl (fun _ _ _ h=>h) (fun _=>by go_simp <;> rfl) (fun w' hR=>HT.out _) ?_
 simp only [Act.put,zLa,zLb,zLc]
 repeat (first | (refine Zk (later_moves) rfl rfl rfl rfl (fun _ _ _ h=>h) ?_;simp only [Act.put,zLa,zLb,zLc]) | (refine Zg (v:=?_) (later_moves) rfl rfl rfl rfl (fun _ _ _ h=>h) ?_ ?_;rotate_left;(· (intro w' hR;(first | have hcells:=Zc ((later_moves).trans _ _ _ hacc hR) | skip);go_simp;try with_reducible rfl));simp only [Act.put,zLa,zLb,zLc]))
 refine Zu (later_moves) rfl rfl rfl rfl (fun _ _ _ h=>h) (fun _=>by go_simp <;> rfl) (fun w' hR=>HE1.out _ (Za hb0.drew (Za hacc hR))) ?_
 simp only [Act.put,zLa,zLb,zLc]
 repeat (first | (refine Zk (later_moves) rfl rfl rfl rfl (fun _ _ _ h=>h) ?_;simp only [Act.put,zLa,zLb,zLc]) | (refine Zg (v:=?_) (later_moves) rfl rfl rfl rfl (fun _ _ _ h=>h) ?_ ?_;rotate_left;(· (intro w' hR;(first | have hcells:=Zc ((later_moves).trans _ _ _ hacc hR) | skip);go_simp;try with_reducible rfl));simp only [Act.put,zLa,zLb,zLc]))
 refine Zu (later_moves) rfl rfl rfl rfl (fun _ _ _ h=>h) (fun _=>by go_simp <;> rfl) (fun w' hR=>HE2.out _ (Za hb0.drew (Za hacc hR))) ?_
 simp only [Act.put,zLa,zLb,zLc]
 repeat (first | (refine Zk (later_moves) rfl rfl rfl rfl (fun _ _ _ h=>h) ?_;simp only [Act.put,zLa,zLb,zLc]) | (refine Zg (v:=?_) (later_moves) rfl rfl rfl rfl (fun _ _ _ h=>h) ?_ ?_;rotate_left;(· (intro w' hR;(first | have hcells:=Zc ((later_moves).trans _ _ _ hacc hR) | skip);go_simp;try with_reducible rfl));simp only [Act.put,zLa,zLb,zLc]))
 refine ZZ rfl ?_
 intro wd hRd
 replace hacc:=(later_moves).trans _ _ _ hacc hRd
 clear hRd
 replace kl:=kl.drew.below hacc kl.lt
 replace kc:=kc.drew.below hacc kc.lt
 replace ks:=ks.drew.below hacc ks.lt
 replace hb0:=Za hb0.drew hacc
 clear cl cc cs ll lc ls hacc HE1 HE2 HT
 have cl:=kl.cell
 have cc:=kc.cell
 have cs:=ks.cell
 have HE3a:=Lib.hid (HE3.out _ hb0)
 cases b3
 ·have HF:=Lib.hid (show ans=false by rw [HB.out];simp)
  go_wp2_with fail
  refine HE3a.out.mono ?_
  rintro e w5 ⟨rfl,hb5⟩
  go_wp2
  go_ret
  exact ⟨by rw [HF.out];rfl,Za hb0 hb5⟩
 go_wp2_with fail
 refine HE3a.out.mono ?_
 rintro e w5 ⟨rfl,hb5⟩
 replace kl:=kl.below hb5 kl.lt
 replace kc:=kc.below hb5 kc.lt
 replace hb0:=Za hb0 hb5
 clear cl cc cs ks hb5 HE3a HE3
 have cl:=kl.cell
 have cc:=kc.cell
 have HE4a:=Lib.hid (HE4.out _ hb0)
 cases b4
 ·have HF:=Lib.hid (show ans=false by rw [HB.out];simp)
  go_wp2_with fail
  refine HE4a.out.mono ?_
  rintro e w6 ⟨rfl,hb6⟩
  go_wp2
  go_ret
  exact ⟨by rw [HF.out];rfl,Za hb0 hb6⟩
 go_wp2_with fail
 refine HE4a.out.mono ?_
 rintro e w6 ⟨rfl,hb6⟩
 replace kl:=kl.below hb6 kl.lt
 replace kc:=kc.below hb6 kc.lt
 replace hb0:=Za hb0 hb6
 clear cl cc hb6 HE4a HE4
 have HB2:=Lib.hid (show ans=rows.all (fun r=>Yj r L.queries L.p) by rw [HB.out];simp)
 clear HB
 have cc:=kc.cell
 go_wp2_with fail
 clear cc
 go_loopw [55] (fun y wr=>∃ i:Nat,i≤n0∧y= .int .i64 (i:Int)∧Hid ((rows.take i).all (fun r=>Yj r L.queries L.p)=true)∧Blk wr w.heap.size 50 #[.int .u64 (L.p:Int), .int .i64 (L.block:Int), .int .i64 (L.queries:Int), .int .i64 (L.k:Int), .int .i64 (L.n:Int), .int .i64 (L.secret:Int), .int .i64 (L.rows:Int), .int .i64 (L.a:Int), .int .i64 (L.b:Int), .int .i64 (L.b:Int), .int .i64 (L.b:Int)]∧Below w.heap.size w wr) (fun y _=>n0-(intOf y).toNat)
 case atStart=>exact ⟨0,Nat.zero_le _,rfl,rfl,kl,hb0⟩
 case round =>
  clear kl kc hb0
  obtain ⟨i,hi,rfl,HTk,kl,hb0⟩:=hrel
  by_cases hlt:i<n0
  ·have g1:(0:Int)≤(i:Int):=by omega
   have g2:(i:Int)<(n0:Int):=by omega
   have i1:i<rows.length:=by rw [HN.out];exact hlt
   obtain ⟨x1,y1,B1,m1,k1,rfl,v1,d1,s1⟩:=VT (r0.below Zd hb0) i1
   have HS:=Lib.hid (YO B1 m1 k1 L.queries L.p rows[i] wr s1)
   have cl:=kl.cell
   clear s1
   cases hx:Yj rows[i] L.queries L.p
   ·have HF:=Lib.hid (HB2.out.trans (VN i1 hx))
    rw [hx] at HS
    clear hx HTk i1
    go_wp2_with fail
    refine HS.out.mono ?_
    rintro e w7 ⟨rfl,hb7⟩
    go_wp2
    go_ret
    exact ⟨by rw [HF.out];rfl,Za hb0 hb7⟩
   ·have HT2:=Lib.hid (Vg HTk.out i1 hx)
    rw [hx] at HS
    clear hx HTk i1
    go_wp2_with fail
    refine HS.out.mono ?_
    rintro e w7 ⟨rfl,hb7⟩
    replace kl:=kl.below hb7 kl.lt
    replace hb0:=Za hb0 hb7
    clear cl hb7 d1 v1
    go_wp2
    go_roundw
    case rel=>exact ⟨i+1,by omega,by go_num,HT2.out,kl,hb0⟩
    case measure=>simp [intOf];omega
  ·obtain rfl:i=n0:=by omega
   have HF:=Lib.hid (show ans=true by rw [HB2.out];have:=HTk.out;rwa [←HN.out,List.take_length] at this)
   go_wp2
   go_ret
   exact ⟨by rw [HF.out];rfl,hb0⟩
structure Foot (V0:Nat→Prop) (N:Nat) (V:Nat→Prop) (w:World):Prop where
 size:N≤w.heap.size
 lt:∀ b,V b→b<w.heap.size
 old:∀ b,b<N→V b→V0 b
section
variable {P:Program} {l:List Oper} {hs tail:List Nat} {Q:Exit→Act→World→Prop} {V0 V:Nat→Prop} {N j:Nat} {t:TypeId} {z:Array Value} {rest:List Nat} {i:Nat} {o:Oper} {listed:Array Bool} {a:Act} {w:World}
end
def KA (L:Array Bool) (S:List Nat):Array Bool:=S.foldl (fun L j=>L.setIfInBounds j true) L
structure Flo (V:Nat→Prop) (N:Nat) (w:World) (js:List (Nat × TypeId × Array Value)) (f:Nat→Bool) (gs:Nat→Nat):Prop where
 blk:∀ x∈js,f x.1=true→Blk w (gs x.1) x.2.1 x.2.2∧N≤gs x.1∧¬V (gs x.1)
 dif:∀ x∈js,∀ y∈js,f x.1=true→f y.1=true→x.1≠y.1→gs x.1≠gs y.1
section
variable {P:Program} {l:List Oper} {hs tail:List Nat} {Q:Exit→Act→World→Prop} {V0 V:Nat→Prop} {N:Nat} {js:List (Nat × TypeId × Array Value)} {rest:List Nat} {i:Nat} {o:Oper} {listed:Array Bool} {a:Act} {w:World}
structure FlzCons (l:List Oper) (hs js:List Nat) (i:Nat) (L:Array Bool):Prop where
 lt:i<l.length
 nj:i ∉ js
 ap:∀ j∈js,Kd l i j=true
 fr:∀ f:Nat→Bool,Region.free .any l.toArray (KA L (js.filter f)) i=true
 rd:∀ f:Nat→Bool,(Region.ready .any l.toArray (KA L (js.filter f))).contains i=true
 hv:hs.contains i=true→∀ (f:Nat→Bool),∀ k∈Region.ready .any l.toArray (KA L (js.filter f)),k=i∨(k∈js∧f k=false)
structure JsOk (l:List Oper) (J:List Nat):Prop where
 nodup:J.Nodup
 lt:∀ j∈J,j<l.length
 dst:∀ j∈J,∀ k∈J,j≠k→∀ t,Vi l j=some t→Vi l k≠some t
end
end Go.Proofs.YtdhhdplholkmdaaGreat
namespace Go.Proofs.YtdhhdplholkmdaaGreat
def numT (ts:List (Int × Nat)):List Nat:=ts.flatMap fun t=>[t.1.toNat,t.2]
def Kw (ts:List (Int × Nat)):List Nat:=ts.length :: numT ts
def numR (r:Zv):List Nat:=Kw (Uc r 0)++Kw (Uc r 1)++Kw (Uc r 2)
def digN (p:Nat) (pub vars:Int) (rows:List Zv):List Nat:=[p,pub.toNat,vars.toNat,rows.length]++rows.flatMap numR
end Go.Proofs.YtdhhdplholkmdaaGreat
namespace Go.Proofs.YtdhhdplholkmdaaGreat
def Cg (p:Nat) (x y:Int):Prop:=(p:Int)∣x-y
theorem Cg.symm {p:Nat} {x y:Int} (h:Cg p x y):Cg p y x:=by
 obtain ⟨c,hc⟩:=h
 exact ⟨-c,by rw [Int.mul_neg,←hc];omega⟩
theorem Cg.trans {p:Nat} {x y z:Int} (h:Cg p x y) (h2:Cg p y z):Cg p x z:=by
 obtain ⟨c,hc⟩:=h
 obtain ⟨d,hd⟩:=h2
 exact ⟨c+d,by rw [Int.mul_add,←hc,←hd];omega⟩
theorem Cg.add {p:Nat} {x y u v:Int} (h:Cg p x y) (h2:Cg p u v):Cg p (x+u) (y+v):=by
 obtain ⟨c,hc⟩:=h
 obtain ⟨d,hd⟩:=h2
 exact ⟨c+d,by rw [Int.mul_add,←hc,←hd];omega⟩
theorem Cg.eq {p a b:Nat} (h:Cg p (a:Int) (b:Int)) (ha:a<p) (hb:b<p):a=b:=by
 obtain ⟨c,hc⟩:=h
 rcases Int.lt_trichotomy c 0 with h1 | h1 | h1
 ·have:(p:Int)*c≤(p:Int)*(-1):=Int.mul_le_mul_of_nonneg_left (by omega) (by omega)
  omega
 ·subst h1;omega
 ·have:(p:Int)*1≤(p:Int)*c:=Int.mul_le_mul_of_nonneg_left (by omega) (by omega)
  omega
end Go.Proofs.YtdhhdplholkmdaaGreat
namespace Go.Proofs.YtdhhdplholkmdaaGreat
open Go.RowKit
set_option maxRecDepth 100000 in
set_option maxHeartbeats 2000000 in
theorem VE (L:Xf) (A0 A1 A2 A3 A4:Option Addr) (n0 c0 n1 c1 n2 c2 n3 c3 n4 c4:Nat) (rows:List (List Nat)) (l1 l2 l3 l4:List Nat) (w:World) (hL:Yr L)
  (h0:XL w [.slice A0 n0 c0] rows) (h1:RWd w [.slice A1 n1 c1] l1) (h2:RWd w [.slice A2 n2 c2] l2) (h3:RWd w [.slice A3 n3 c3] l3) (h4:RWd w [.slice A4 n4 c4] l4) :
  Calls Tryz.prog 25 #[.agg (ZP L), .agg #[.slice A0 n0 c0, .slice A1 n1 c1, .slice A2 n2 c2, .slice A3 n3 c3, .slice A4 n4 c4]] w fun e w'=>e= .returned (.bool (Yh L rows l1 l2 l3 l4))∧Below w.heap.size w w':=by
 have HT:=Lib.hid (fun w=>UE L.p L.block L.queries L.k L.n L.secret L.rows L.a L.b L.b L.b w hL.a hL.b hL.b hL.b)
 have HE1:=Lib.hid (fun w' (hb:Below w.heap.size w w')=>YH A1 n1 c1 L.k L.p l1 w' (Zd _ _ _ _ hb h1))
 have HE2:=Lib.hid (fun w' (hb:Below w.heap.size w w')=>YH A2 n2 c2 (L.k+L.block-2) L.p l2 w' (Zd _ _ _ _ hb h2))
 have HE3:=Lib.hid (fun w' (hb:Below w.heap.size w w')=>YH A3 n3 c3 (L.block+2*L.queries-1) L.p l3 w' (Zd _ _ _ _ hb h3))
 have HE4:=Lib.hid (fun w' (hb:Below w.heap.size w w')=>YH A4 n4 c4 L.n Xq l4 w' (Zd _ _ _ _ hb h4))
 obtain ⟨hn0,a1,a2,r0⟩:=VC h0
 have gm:=YD a1 a2
 obtain ⟨ans,ha⟩:∃ ans,ans=Yh L rows l1 l2 l3 l4:=⟨_,rfl⟩
 rw [←ha]
 unfold Yh at ha
 rw [hn0] at ha
 have HN:=Lib.hid hn0
 obtain ⟨kl,kc,hba,hsz⟩:=Xe w 38 67 (ZP L) #[.slice A0 n0 c0, .slice A1 n1 c1, .slice A2 n2 c2, .slice A3 n3 c3, .slice A4 n4 c4]
 have e1:IntKind.i64.wrap ((L.k:Int)+(L.block:Int))=(L.k:Int)+(L.block:Int):=Zw _ (by have:=hL.k;have:=hL.b2;have:=hL.q2;omega) (by have:=hL.k;have:=hL.b2;have:=hL.q2;omega)
 obtain ⟨m2,hm2⟩:∃ m2,m2=L.k+L.block-2:=⟨_,rfl⟩
 obtain ⟨m3,hm3⟩:∃ m3,m3=L.block+2*L.queries-1:=⟨_,rfl⟩
 have e2:IntKind.i64.wrap ((L.k:Int)+(L.block:Int)-2)=(m2:Int):=by rw [Zw _ (by omega) (by have:=hL.k;have:=hL.b2;have:=hL.q2;omega)];have:=hL.b1;omega
 have e3:IntKind.i64.wrap (2*(L.queries:Int))=2*(L.queries:Int):=Zw _ (by omega) (by have:=hL.q2;omega)
 have e4:IntKind.i64.wrap ((L.block:Int)+2*(L.queries:Int))=(L.block:Int)+2*(L.queries:Int):=Zw _ (by omega) (by have:=hL.b2;have:=hL.q2;omega)
 have e5:IntKind.i64.wrap ((L.block:Int)+2*(L.queries:Int)-1)=(m3:Int):=by rw [Zw _ (by omega) (by have:=hL.b2;have:=hL.q2;omega)];have:=hL.b1;omega
 rw [←hm2] at HE2 ha
 rw [←hm3] at HE3 ha
 clear hm2 hm3
 generalize Yj l1 L.k L.p=b1 at *
 generalize Yj l2 m2 L.p=b2 at *
 generalize Yj l3 m3 L.p=b3 at *
 generalize Yj l4 L.n Xq=b4 at *
 generalize L.a+L.b+L.b+L.b=T at *
 have HA:=Lib.hid ha
 clear ha h0 h1 h2 h3 h4 hL a1 a2 hn0
 unfold ZP at *
 unfold Xq at HE4
 go_enter Tryz.func25,Tryz.ntmps25
 go_upto_region 1 with fail
 generalize (w.alloc _).alloc _=w3 at kl kc hba hsz ⊢
 have hb0:=hba
 clear hba hsz
 have cl:=kl.cell
 have cc:=kc.cell
 have ll:=kl.lt
 have lc:=kc.lt
 by_cases hT:n0=T
 rotate_left
 ·have HF:=Lib.hid (show ans=false by rw [HA.out,decide_eq_false hT];rfl)
  have t1:((n0:Int) != (T:Int))=true:=by rw [bne_iff_ne];omega
  have t2:((n0:Int) == (T:Int))=false:=by rw [beq_eq_false_iff_ne];omega
  clear HA hT
  refine ZO (Z4) (later_moves) [] [] [0,1,2,3,4,5] (by kernel_rfl) (by kernel_rfl) ?_
  refine ZN (later_moves) ?_
  intro Wc hacc
  repeat (first | (refine Zk (later_moves) rfl rfl rfl rfl (fun _ _ _ h=>h) ?_;simp only [Act.put,zLa,zLb,zLc]) | (refine Zg (v:=?_) (later_moves) rfl rfl rfl rfl (fun _ _ _ h=>h) ?_ ?_;rotate_left;(· (intro w' hR;(first | have hcells:=Zc ((later_moves).trans _ _ _ hacc hR) | skip);go_simp;try with_reducible rfl));simp only [Act.put,zLa,zLb,zLc]))
  refine Zu (later_moves) rfl rfl rfl rfl (fun _ _ _ h=>h) (fun _=>by go_simp <;> rfl) (fun w' hR=>HT.out _) ?_
  simp only [Act.put,zLa,zLb,zLc]
  repeat (first | (refine Zk (later_moves) rfl rfl rfl rfl (fun _ _ _ h=>h) ?_;simp only [Act.put,zLa,zLb,zLc]) | (refine Zg (v:=?_) (later_moves) rfl rfl rfl rfl (fun _ _ _ h=>h) ?_ ?_;rotate_left;(· (intro w' hR;(first | have hcells:=Zc ((later_moves).trans _ _ _ hacc hR) | skip);go_simp;try with_reducible rfl));simp only [Act.put,zLa,zLb,zLc]))
  refine ZZ rfl ?_
  intro wd hRd
  replace hacc:=(later_moves).trans _ _ _ hacc hRd
  clear hRd
  go_wp2_with fail
  go_ret
  exact ⟨by rw [HF.out];rfl,Za hb0.drew hacc⟩
 have t1:((n0:Int) != (T:Int))=false:=by rw [bne_eq_false_iff_eq];omega
 have t2:((n0:Int) == (T:Int))=true:=by rw [beq_iff_eq];omega
 have HB:=Lib.hid (show ans=(rows.all (fun r=>Yj r L.queries L.p)&&(b1&&(b2&&(b3&&b4)))) by rw [HA.out,decide_eq_true hT];rfl)
 clear HA hT
 refine ZO (Z4) (later_moves) [] [] [0,1,2,3,4,5] (by kernel_rfl) (by kernel_rfl) ?_
 refine ZN (later_moves) ?_
 intro Wc hacc
 repeat (first | (refine Zk (later_moves) rfl rfl rfl rfl (fun _ _ _ h=>h) ?_;simp only [Act.put,zLa,zLb,zLc]) | (refine Zg (v:=?_) (later_moves) rfl rfl rfl rfl (fun _ _ _ h=>h) ?_ ?_;rotate_left;(· (intro w' hR;(first | have hcells:=Zc ((later_moves).trans _ _ _ hacc hR) | skip);go_simp;try with_reducible rfl));simp only [Act.put,zLa,zLb,zLc]))
 refine Zu (later_moves) rfl rfl rfl rfl (fun _ _ _ h=>h) (fun _=>by go_simp <;> rfl) (fun w' hR=>HT.out _) ?_
 simp only [Act.put,zLa,zLb,zLc]
 repeat (first | (refine Zk (later_moves) rfl rfl rfl rfl (fun _ _ _ h=>h) ?_;simp only [Act.put,zLa,zLb,zLc]) | (refine Zg (v:=?_) (later_moves) rfl rfl rfl rfl (fun _ _ _ h=>h) ?_ ?_;rotate_left;(· (intro w' hR;(first | have hcells:=Zc ((later_moves).trans _ _ _ hacc hR) | skip);go_simp;try with_reducible rfl));simp only [Act.put,zLa,zLb,zLc]))
 refine ZZ rfl ?_
 intro wd hRd
 replace hacc:=(later_moves).trans _ _ _ hacc hRd
 clear hRd
 replace kl:=kl.drew.below hacc kl.lt
 replace kc:=kc.drew.below hacc kc.lt
 replace hb0:=Za hb0.drew hacc
 clear cl cc ll lc hacc HT
 go_wp2_with fail
 go_loopw [5] (fun y wr=>∃ i:Nat,i≤n0∧y= .int .i64 (i:Int)∧Hid ((rows.take i).all (fun r=>Yj r L.queries L.p)=true)∧Blk wr w.heap.size 38 #[.int .u64 (L.p:Int), .int .i64 (L.block:Int), .int .i64 (L.queries:Int), .int .i64 (L.k:Int), .int .i64 (L.n:Int), .int .i64 (L.secret:Int), .int .i64 (L.rows:Int), .int .i64 (L.a:Int), .int .i64 (L.b:Int), .int .i64 (L.b:Int), .int .i64 (L.b:Int)]∧Blk wr (w.heap.size+1) 67 #[.slice A0 n0 c0, .slice A1 n1 c1, .slice A2 n2 c2, .slice A3 n3 c3, .slice A4 n4 c4]∧Below w.heap.size w wr) (fun y _=>n0-(intOf y).toNat)
 case atStart=>exact ⟨0,Nat.zero_le _,rfl,rfl,kl,kc,hb0⟩
 case round =>
  clear kl kc hb0
  obtain ⟨i,hi,rfl,HTk,kl,kc,hb0⟩:=hrel
  have cl:=kl.cell
  have cc:=kc.cell
  have ll:=kl.lt
  have lc:=kc.lt
  by_cases hlt:i<n0
  ·have g1:(0:Int)≤(i:Int):=by omega
   have g2:(i:Int)<(n0:Int):=by omega
   have i1:i<rows.length:=by rw [HN.out];exact hlt
   obtain ⟨x1,y1,B1,m1,k1,rfl,v1,d1,s1⟩:=VT (r0.below Zd hb0) i1
   have HS:=Lib.hid (fun w' (hb:Below wr.heap.size wr w')=>YH B1 m1 k1 L.queries L.p rows[i] w' (Zd _ _ _ _ hb s1))
   clear s1
   cases hx:Yj rows[i] L.queries L.p
   ·have HF:=Lib.hid (show ans=false by rw [HB.out,VN (f:=fun r=>Yj r L.queries L.p) i1 hx];rfl)
    rw [hx] at HS
    clear hx HTk i1
    go_upto_region 6 with fail
    refine ZO (Z4) (later_moves) [] [] [0,1,2,3,4,5,6,7,8,9,10] (by kernel_rfl) (by kernel_rfl) ?_
    refine ZN (later_moves) ?_
    intro Wc hacc
    repeat (first | (refine Zk (later_moves) rfl rfl rfl rfl (fun _ _ _ h=>h) ?_;simp only [Act.put,zLa,zLb,zLc]) | (refine Zg (v:=?_) (later_moves) rfl rfl rfl rfl (fun _ _ _ h=>h) ?_ ?_;rotate_left;(· (intro w' hR;(first | have hcells:=Zc ((later_moves).trans _ _ _ hacc hR) | skip);go_simp;try with_reducible rfl));simp only [Act.put,zLa,zLb,zLc]))
    refine Zu (later_moves) rfl rfl rfl rfl (fun _ _ _ h=>h) (fun _=>by go_simp <;> rfl) (fun w' hR=>HS.out _ (Za (Below.refl _ wr).drew (Za hacc hR))) ?_
    simp only [Act.put,zLa,zLb,zLc]
    repeat (first | (refine Zk (later_moves) rfl rfl rfl rfl (fun _ _ _ h=>h) ?_;simp only [Act.put,zLa,zLb,zLc]) | (refine Zg (v:=?_) (later_moves) rfl rfl rfl rfl (fun _ _ _ h=>h) ?_ ?_;rotate_left;(· (intro w' hR;(first | have hcells:=Zc ((later_moves).trans _ _ _ hacc hR) | skip);go_simp;try with_reducible rfl));simp only [Act.put,zLa,zLb,zLc]))
    refine ZZ rfl ?_
    intro wd hRd
    replace hacc:=(later_moves).trans _ _ _ hacc hRd
    clear hRd
    go_wp2_with fail
    go_ret
    exact ⟨by rw [HF.out];rfl,Za hb0.drew hacc⟩
   ·have HT2:=Lib.hid (Vg (f:=fun r=>Yj r L.queries L.p) HTk.out i1 hx)
    rw [hx] at HS
    clear hx HTk i1
    go_upto_region 6 with fail
    refine ZO (Z4) (later_moves) [] [] [0,1,2,3,4,5,6,7,8,9,10] (by kernel_rfl) (by kernel_rfl) ?_
    refine ZN (later_moves) ?_
    intro Wc hacc
    repeat (first | (refine Zk (later_moves) rfl rfl rfl rfl (fun _ _ _ h=>h) ?_;simp only [Act.put,zLa,zLb,zLc]) | (refine Zg (v:=?_) (later_moves) rfl rfl rfl rfl (fun _ _ _ h=>h) ?_ ?_;rotate_left;(· (intro w' hR;(first | have hcells:=Zc ((later_moves).trans _ _ _ hacc hR) | skip);go_simp;try with_reducible rfl));simp only [Act.put,zLa,zLb,zLc]))
    refine Zu (later_moves) rfl rfl rfl rfl (fun _ _ _ h=>h) (fun _=>by go_simp <;> rfl) (fun w' hR=>HS.out _ (Za (Below.refl _ wr).drew (Za hacc hR))) ?_
    simp only [Act.put,zLa,zLb,zLc]
    repeat (first | (refine Zk (later_moves) rfl rfl rfl rfl (fun _ _ _ h=>h) ?_;simp only [Act.put,zLa,zLb,zLc]) | (refine Zg (v:=?_) (later_moves) rfl rfl rfl rfl (fun _ _ _ h=>h) ?_ ?_;rotate_left;(· (intro w' hR;(first | have hcells:=Zc ((later_moves).trans _ _ _ hacc hR) | skip);go_simp;try with_reducible rfl));simp only [Act.put,zLa,zLb,zLc]))
    refine ZZ rfl ?_
    intro wd hRd
    replace hacc:=(later_moves).trans _ _ _ hacc hRd
    clear hRd
    replace kl:=kl.drew.below hacc kl.lt
    replace kc:=kc.drew.below hacc kc.lt
    replace hb0:=Za hb0.drew hacc
    clear cl cc ll lc hacc d1 v1
    go_wp2
    go_roundw
    case rel=>exact ⟨i+1,by omega,by go_num,HT2.out,kl,kc,hb0⟩
    case measure=>simp [intOf];omega
  ·obtain rfl:i=n0:=by omega
   have HB2:=Lib.hid (show ans=(b1&&(b2&&(b3&&b4))) by rw [HB.out];have:=HTk.out;rw [←HN.out,List.take_length] at this;rw [this];rfl)
   clear HB HTk
   have HE1a:=Lib.hid (HE1.out _ hb0)
   cases b1
   ·have HF:=Lib.hid (show ans=false by rw [HB2.out];rfl)
    go_wp2_with fail
    refine HE1a.out.mono ?_
    rintro e w5 ⟨rfl,hb5⟩
    go_wp2
    go_ret
    exact ⟨by rw [HF.out];rfl,Za hb0 hb5⟩
   go_wp2_with fail
   refine HE1a.out.mono ?_
   rintro e w5 ⟨rfl,hb5⟩
   replace kl:=kl.below hb5 kl.lt
   replace kc:=kc.below hb5 kc.lt
   replace hb0:=Za hb0 hb5
   clear cl cc hb5 HE1a HE1
   have cl:=kl.cell
   have cc:=kc.cell
   have HE2a:=Lib.hid (HE2.out _ hb0)
   cases b2
   ·have HF:=Lib.hid (show ans=false by rw [HB2.out];rfl)
    go_wp2_with fail
    refine HE2a.out.mono ?_
    rintro e w6 ⟨rfl,hb6⟩
    go_wp2
    go_ret
    exact ⟨by rw [HF.out];rfl,Za hb0 hb6⟩
   go_wp2_with fail
   refine HE2a.out.mono ?_
   rintro e w6 ⟨rfl,hb6⟩
   replace kl:=kl.below hb6 kl.lt
   replace kc:=kc.below hb6 kc.lt
   replace hb0:=Za hb0 hb6
   clear cl cc hb6 HE2a HE2
   have cl:=kl.cell
   have cc:=kc.cell
   have HE3a:=Lib.hid (HE3.out _ hb0)
   cases b3
   ·have HF:=Lib.hid (show ans=false by rw [HB2.out];rfl)
    go_wp2_with fail
    refine HE3a.out.mono ?_
    rintro e w7 ⟨rfl,hb7⟩
    go_wp2
    go_ret
    exact ⟨by rw [HF.out];rfl,Za hb0 hb7⟩
   go_wp2_with fail
   refine HE3a.out.mono ?_
   rintro e w7 ⟨rfl,hb7⟩
   replace kl:=kl.below hb7 kl.lt
   replace kc:=kc.below hb7 kc.lt
   replace hb0:=Za hb0 hb7
   clear cl cc hb7 HE3a HE3
   have cl:=kl.cell
   have cc:=kc.cell
   have HE4a:=Lib.hid (HE4.out _ hb0)
   have HF:=Lib.hid (show ans=b4 by rw [HB2.out];rfl)
   go_wp2_with fail
   refine HE4a.out.mono ?_
   rintro e w8 ⟨rfl,hb8⟩
   go_wp2
   go_ret
   exact ⟨by rw [HF.out];rfl,Za hb0 hb8⟩
end Go.Proofs.YtdhhdplholkmdaaGreat
