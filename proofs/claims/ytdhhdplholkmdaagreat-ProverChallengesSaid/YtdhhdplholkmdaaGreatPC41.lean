/- A part of the proof. No condition. -/
import Derived.Carry
import Derived.Deep.AppendLies
import Derived.Laws.OwnMore
import Derived.Maps.OwnSet
import Derived.Maps.Views
import Derived.Test.YtdhhdplholkmdaaGreatProg
import Derived.Test.YtdhhdplholkmdaaGreatPC40
import Derived.Test.YtdhhdplholkmdaaGreatPC36

namespace Go.Proofs.YtdhhdplholkmdaaGreat
open Go.RowKit Go.Maps
def JX (q r:Qn):Bool:=decide (q.lab=r.lab)&&decide (q.ans=r.ans)&&decide (q.el=r.el)
set_option maxRecDepth 100000 in
set_option maxHeartbeats 400000 in
theorem GH (q r:Qn) (A B:Option Addr) (n c m d:Nat) (w:World) (h1:RWd w [.slice A n c] q.el) (h2:RWd w [.slice B m d] r.el) :
  Calls Tryz.prog 123 #[.agg #[.int .u64 (q.lab:Int), .slice A n c, .int .u64 (q.ans:Int)], .agg #[.int .u64 (r.lab:Int), .slice B m d, .int .u64 (r.ans:Int)]] w fun e w'=>e= .returned (.bool (JX q r))∧Below w.heap.size w w':=by
 obtain ⟨k1,k2,hb,hsz⟩:=Xn w 177 177 #[.int .u64 (q.lab:Int), .slice A n c, .int .u64 (q.ans:Int)] #[.int .u64 (r.lab:Int), .slice B m d, .int .u64 (r.ans:Int)]
 have HS:=Lib.hid (fun w1 (hb:Below w.heap.size w w1)=>zx A B n c m d q.el r.el w1 (Zl _ _ _ _ hb h1) (Zl _ _ _ _ hb h2))
 obtain ⟨x1,hx1⟩:∃ x,x=decide (q.lab=r.lab):=⟨_,rfl⟩
 obtain ⟨x2,hx2⟩:∃ x,x=decide (q.ans=r.ans):=⟨_,rfl⟩
 obtain ⟨x3,hx3⟩:∃ x,x=decide (q.el=r.el):=⟨_,rfl⟩
 have hq:JX q r=(x1&&x2&&x3):=by unfold JX;rw [hx1,hx2,hx3]
 rw [hq]
 rw [←hx3] at HS
 have e1:((q.lab:Int) == (r.lab:Int))=x1:=by rw [hx1];exact Bool.eq_iff_iff.2 (by simp;omega)
 have e2:((q.ans:Int) == (r.ans:Int))=x2:=by rw [hx2];exact Bool.eq_iff_iff.2 (by simp;omega)
 clear hx1 hx2 hx3 hq h1 h2 hsz
 go_enter Tryz.func123,Tryz.ntmps123
 go_upto_region 1 with fail
 generalize (w.alloc _).alloc _=w1 at k1 k2 hb ⊢
 have c1:=k1.cell
 have c2:=k2.cell
 cases x1
 ·go_wp2
  go_ret
  exact ⟨rfl,hb⟩
 cases x2
 ·go_wp2
  go_ret
  exact ⟨rfl,hb⟩
 go_wp2_with fail
 refine (HS.out w1 hb).mono ?_
 rintro e w2 ⟨rfl,kk,rfl⟩
 replace hb:=Xy hb kk
 go_wp2
 go_ret
 exact ⟨by simp,hb⟩
def UE (a b:List Qn):Bool:=decide (a.length=b.length)&&(List.range a.length).all fun i=>match a[i]?,b[i]? with | some q,some r=>JX q r | _,_=>true
set_option maxRecDepth 100000 in
set_option maxHeartbeats 1000000 in
theorem Ge (a b:List Qn) (A B:Option Addr) (n c m d:Nat) (w:World) (h1:RQs w [.slice A n c] a) (h2:RQs w [.slice B m d] b) :
  Calls Tryz.prog 62 #[.slice A n c, .slice B m d] w fun e w'=>e= .returned (.bool (UE a b))∧Below w.heap.size w w':=by
 obtain ⟨A',n',c',he,hla,hnc,hmx,ra⟩:=h1
 simp at he
 obtain ⟨rfl,rfl,rfl⟩:=he
 obtain ⟨B',m',d',he,hlb,hnc2,hmx2,rb⟩:=h2
 simp at he
 obtain ⟨rfl,rfl,rfl⟩:=he
 have gm:=Vf hnc hmx
 have gm2:=Vf hnc2 hmx2
 have HA:=Lib.hid hla
 have HB:=Lib.hid hlb
 clear hnc hmx hnc2 hmx2
 by_cases hn:n=m
 rotate_left
 ·have t1:((n:Int) != (m:Int))=true:=by rw [bne_iff_ne];omega
  have HF:=Lib.hid (show UE a b=false by unfold UE;rw [decide_eq_false (by omega),Bool.false_and])
  clear hn hla hlb
  rw [HF.out]
  go_enter Tryz.func62,Tryz.ntmps62
  go_wp2
  go_ret
  exact ⟨rfl,Below.refl _ _⟩
 subst hn
 have t1:((n:Int) != (n:Int))=false:=by simp
 have HS:=Lib.hid (show UE a b=((List.range n).all fun i=>match a[i]?,b[i]? with | some q,some r=>JX q r | _,_=>true) by unfold UE;rw [hla,hlb,decide_eq_true rfl,Bool.true_and])
 clear hla hlb gm2
 go_enter Tryz.func62,Tryz.ntmps62
 go_wp2_with fail
 go_loopw [5] (fun y wr=>∃ i:Nat,i≤n∧y= .int .i64 (i:Int)∧Hid (∀ k,k<i→∀ q r,a[k]?=some q→b[k]?=some r→JX q r=true)∧Below w.heap.size w wr) (fun y _=>n-(intOf y).toNat)
 case atStart=>exact ⟨0,Nat.zero_le _,rfl,fun k hk=>by omega,Below.refl _ _⟩
 case round =>
  obtain ⟨i,hi,rfl,HT,hbr⟩:=hrel
  by_cases hlt:i<n
  ·have g1:(0:Int)≤(i:Int):=by omega
   have g2:(i:Int)<(n:Int):=by omega
   obtain ⟨b1,q1,A1,n1,c1',l1,a1,qe,hqe,rfl,x0,x1,x2,hs1,hbl1,HQ1⟩:=J8 (ra.below Ur hbr) (show i<a.length by rw [HA.out];exact hlt)
   obtain ⟨b2,q2,A2,n2,c2',l2,a2,re,hre,rfl,y0,y1,y2,hs2,hbl2,HQ2⟩:=J8 (rb.below Ur hbr) (show i<b.length by rw [HB.out];exact hlt)
   obtain ⟨rfl,rfl,-,-⟩:=HQ1
   obtain ⟨rfl,rfl,-,-⟩:=HQ2
   have HC:=Lib.hid (fun w1 (hb:Below wr.heap.size wr w1)=>GH qe re A1 A2 n1 c1' n2 c2' w1 (Zl _ _ _ _ hb hs1) (Zl _ _ _ _ hb hs2))
   have HQE:=Lib.hid hqe
   have HRE:=Lib.hid hre
   have HLT:=Lib.hid hlt
   clear hs1 hs2 hqe hre hlt
   go_wp2_with fail
   refine Zx (Yj) [8] [0,1,2,3,4,5,6,7,8,9] (by kernel_rfl) (by kernel_rfl) ?_
   refine ZY (later_moves) ?_
   intro Wc HWc hacc
   have HW:=Lib.hid (show Below wr.heap.size wr Wc by rw [HWc.out];exact (Below.refl _ _).drew)
   clear HWc
   repeat (first | (refine Zh (later_moves) rfl rfl (fun _ _ _ h=>h) ?_;simp only [Act.put,zLa,zLb,zLc]) | (refine Ze (v:=?_) (later_moves) rfl rfl (fun _ _ _ h=>h) ?_ ?_;rotate_left;(· (intro w' hR;(first | have hcells:=Zd ((later_moves).trans _ _ _ hacc hR) | skip);go_simp;try with_reducible rfl));simp only [Act.put,zLa,zLb,zLc]))
   refine ZX (later_moves) rfl rfl rfl (fun _=>by go_simp <;> rfl) ((HC.out Wc HW.out).mono ?_)
   rintro e w2 ⟨rfl,hb2⟩
   refine ⟨_,rfl,hb2,?_⟩
   replace hacc:=(later_moves).trans _ _ _ hacc (hb2)
   simp only [Act.put,zLa,zLb,zLc]
   have hbw:=Lib.hid (Za hbr (Za HW.out hb2))
   clear hb2 HC HW
   repeat (first | (refine Zh (later_moves) rfl rfl (fun _ _ _ h=>h) ?_;simp only [Act.put,zLa,zLb,zLc]) | (refine Ze (v:=?_) (later_moves) rfl rfl (fun _ _ _ h=>h) ?_ ?_;rotate_left;(· (intro w' hR;(first | have hcells:=Zd ((later_moves).trans _ _ _ hacc hR) | skip);go_simp;try with_reducible rfl));simp only [Act.put,zLa,zLb,zLc]))
   refine Zt ?_
   clear hacc x0 x1 x2 y0 y1 y2
   cases hs:JX qe re
   ·have HF:=Lib.hid (show UE a b=false by
     rw [HS.out]
     exact zFb HLT.out (by simp only [HQE.out,HRE.out,hs]))
    clear hs
    go_wp2
    go_ret
    exact ⟨by rw [HF.out];rfl,hbw.out⟩
   ·have HSM:=Lib.hid hs
    clear hs
    go_wp2
    go_roundw
    case rel =>
     refine ⟨i+1,HLT.out,by go_num,fun k hk q r hq hr=>?_,hbw.out⟩
     by_cases e:k<i
     ·exact HT.out k e q r hq hr
     ·obtain rfl:k=i:=by omega
      rw [HQE.out] at hq
      rw [HRE.out] at hr
      cases hq
      cases hr
      exact HSM.out
    case measure=>have:=HLT.out;simp [intOf];omega
  ·obtain rfl:n=i:=by omega
   have HF:=Lib.hid (show UE a b=true by
    rw [HS.out]
    refine zD0 fun k hk=>?_
    rw [List.getElem?_eq_getElem (show k<a.length by rw [HA.out];exact hk),List.getElem?_eq_getElem (show k<b.length by rw [HB.out];exact hk)]
    exact HT.out k hk _ _ (List.getElem?_eq_getElem (by rw [HA.out];exact hk)) (List.getElem?_eq_getElem (by rw [HB.out];exact hk)))
   go_wp2
   go_ret
   exact ⟨by rw [HF.out];rfl,hbr⟩
end Go.Proofs.YtdhhdplholkmdaaGreat
