/- A part of the proof. No condition. -/
import Derived.Test.YtakjnmojigechaaGreatProg
import Derived.Test.YtakjnmojigechaaGreatJB32
import Derived.Test.YtakjnmojigechaaGreatJB33
import Derived.Test.YtakjnmojigechaaGreatJB28
import Derived.Test.YtakjnmojigechaaGreatJB23

namespace Go.Proofs.YtakjnmojigechaaGreat
open Go.RowKit
set_option maxRecDepth 100000 in
set_option maxHeartbeats 1000000 in
theorem zDb (A1 A2:Option Addr) (n1 c1 n2 c2:Nat) (l1 l2:List Nat) (w:World) (h1:RWd w [.slice A1 n1 c1] l1) (h2:RWd w [.slice A2 n2 c2] l2) :
  Calls Tryz.prog 89 #[.slice A1 n1 c1, .slice A2 n2 c2] w fun e w'=>e= .returned (.bool (decide (l1=l2)))∧Below w.heap.size w w':=by
 obtain ⟨rfl,a1,a2,a3,r1⟩:=Zy h1
 obtain ⟨rfl,b1,b2,b3,r2⟩:=Zy h2
 have gm:=YR a1 a2
 have gm2:=YR b1 b2
 clear h1 h2 a1 a2 b1 b2 a3 b3
 by_cases hn:l1.length=l2.length
 rotate_left
 ·have t1:((l1.length:Int) != (l2.length:Int))=true:=by rw [bne_iff_ne];omega
  have t2:((l1.length:Int) == (l2.length:Int))=false:=by rw [beq_eq_false_iff_ne];omega
  have HF:=Lib.hid (show decide (l1=l2)=false from decide_eq_false fun h=>hn (by rw [h]))
  rw [HF.out]
  generalize l1.length=m1 at *
  generalize l2.length=m2 at *
  clear r1 r2 hn
  go_enter Tryz.func89,Tryz.ntmps89
  go_wp2
  go_ret
  exact ⟨rfl,Below.refl _ _⟩
 have t1:((l1.length:Int) != (l2.length:Int))=false:=by rw [bne_eq_false_iff_eq];omega
 have t2:((l1.length:Int) == (l2.length:Int))=true:=by rw [beq_iff_eq];omega
 obtain ⟨n,hn1⟩:∃ n,l1.length=n:=⟨_,rfl⟩
 have hn2:l2.length=n:=by omega
 rw [hn1] at r1
 rw [hn2] at r2
 rw [hn1,hn2] at t1 t2
 rw [hn1] at gm
 rw [hn1,hn2]
 obtain ⟨ans,ha⟩:∃ ans,ans=decide (l1=l2):=⟨_,rfl⟩
 rw [←ha]
 have HA:=Lib.hid ha
 have H1:=Lib.hid hn1
 have H2:=Lib.hid hn2
 clear hn hn1 hn2 gm2 ha
 go_enter Tryz.func89,Tryz.ntmps89
 go_wp2_with fail
 go_loopw [13] (fun y wr=>∃ i:Nat,i≤n∧y= .int .i64 (i:Int)∧Hid (l1.take i=l2.take i)∧Below w.heap.size w wr) (fun y _=>n-(intOf y).toNat)
 case atStart=>exact ⟨0,Nat.zero_le _,rfl,rfl,Below.refl _ _⟩
 case round =>
  obtain ⟨i,hi,rfl,HT,hbr⟩:=hrel
  by_cases hlt:i<n
  ·have g1:(0:Int)≤(i:Int):=by omega
   have g2:(i:Int)<(n:Int):=by omega
   have q1:=r1.below hbr
   have q2:=r2.below hbr
   rw [←H1.out] at q1
   rw [←H2.out] at q2
   obtain ⟨x1,y1,rfl,v1,d1⟩:=Ym q1 (j:=i) (by rw [H1.out];exact hlt)
   obtain ⟨x2,y2,rfl,v2,d2⟩:=Ym q2 (j:=i) (by rw [H2.out];exact hlt)
   clear q1 q2
   by_cases he:l1.getD i 0=l2.getD i 0
   ·have HT2:=Lib.hid (jV HT.out (by rw [H1.out];exact hlt) (by rw [H2.out];exact hlt) he)
    rw [←he] at d2
    generalize l1.getD i 0=z at *
    have u1:((z:Int) != (z:Int))=false:=by rw [bne_eq_false_iff_eq]
    have u2:((z:Int) == (z:Int))=true:=by rw [beq_iff_eq]
    clear he HT
    go_wp2_with fail
    refine ZF (ZK) (later_moves) [] [] [0,1,2,3,4,5,6,7,8] (by kernel_rfl) (by kernel_rfl) ?_
    refine ZG (later_moves) ?_
    intro Wc hacc
    repeat (first | (refine Zl (later_moves) rfl rfl rfl rfl (fun _ _ _ h=>h) ?_;simp only [Act.put,zLa,zLb,zLc]) | (refine Zi (v:=?_) (later_moves) rfl rfl rfl rfl (fun _ _ _ h=>h) ?_ ?_;rotate_left;(· (intro w' hR;(first | have hcells:=Zb ((later_moves).trans _ _ _ hacc hR) | skip);go_simp;try with_reducible rfl));simp only [Act.put,zLa,zLb,zLc]))
    refine YD rfl ?_
    intro wd hRd
    replace hacc:=(later_moves).trans _ _ _ hacc hRd
    clear hRd
    go_wp2
    replace hbr:=Za hbr.drew hacc
    go_roundw
    case rel=>exact ⟨i+1,by omega,by go_num,HT2.out,hbr⟩
    case measure=>simp [intOf];omega
   ·have HF:=Lib.hid (HA.out.trans (zBq he))
    generalize l1.getD i 0=z1 at *
    generalize l2.getD i 0=z2 at *
    have u1:((z1:Int) != (z2:Int))=true:=by rw [bne_iff_ne];omega
    have u2:((z1:Int) == (z2:Int))=false:=by rw [beq_eq_false_iff_ne];omega
    clear he HT
    go_wp2_with fail
    refine ZF (ZK) (later_moves) [] [] [0,1,2,3,4,5,6,7,8] (by kernel_rfl) (by kernel_rfl) ?_
    refine ZG (later_moves) ?_
    intro Wc hacc
    repeat (first | (refine Zl (later_moves) rfl rfl rfl rfl (fun _ _ _ h=>h) ?_;simp only [Act.put,zLa,zLb,zLc]) | (refine Zi (v:=?_) (later_moves) rfl rfl rfl rfl (fun _ _ _ h=>h) ?_ ?_;rotate_left;(· (intro w' hR;(first | have hcells:=Zb ((later_moves).trans _ _ _ hacc hR) | skip);go_simp;try with_reducible rfl));simp only [Act.put,zLa,zLb,zLc]))
    refine YD rfl ?_
    intro wd hRd
    replace hacc:=(later_moves).trans _ _ _ hacc hRd
    clear hRd
    go_wp2
    go_ret
    exact ⟨by rw [HF.out];rfl,Za hbr.drew hacc⟩
  ·obtain rfl:i=n:=by omega
   have HF:=Lib.hid (HA.out.trans (decide_eq_true (by have:=HT.out;rwa [←H1.out,List.take_length,H1.out,←H2.out,List.take_length] at this)))
   go_wp2
   go_ret
   exact ⟨by rw [HF.out];rfl,hbr⟩
def Vo (L:ZO) (cs:List (List Nat)) (al be:Nat) (a b q:List Nat) (i:Int) (v:List Nat):Bool :=
 Vc L a b q&&decide (0≤i)&&decide (i<(L.n:Int))&&Va v (L.a+L.b+L.b+L.b+3) L.p&&decide (UN L cs al be a b q (Xv L.p (ZJ L.p).1 L.n i.toNat) (v.take (L.a+L.b+L.b+L.b))=v.drop (L.a+L.b+L.b+L.b))
set_option maxRecDepth 100000 in
set_option maxHeartbeats 2000000 in
theorem zU (L:ZO) (pu rho al be:Nat) (vars i:Int) (A B1 B2 B3 F:Option Addr) (R c m1 d1 m2 d2 m3 d3 n d:Nat) (rows:List Ya) (a b q v:List Nat) (w:World)
  (hL:ZU L) (hF:Xm L pu vars rows) (hr:RSl 3 Xb w [.slice A R c] rows) (hV:VE vars rows)
  (ha:RWd w [.slice B1 m1 d1] a) (hb:RWd w [.slice B2 m2 d2] b) (hq:RWd w [.slice B3 m3 d3] q) (hv:RWd w [.slice F n d] v) :
  Calls Tryz.prog 36 #[.agg (Zz L),Yr L.p (pu:Int) vars (.slice A R c), .agg #[.int .u64 (al:Int), .int .u64 (rho:Int), .int .u64 (be:Int)], .slice B1 m1 d1, .slice B2 m2 d2, .slice B3 m3 d3, .int .i64 i, .slice F n d] w fun e w'=>e= .returned (.bool (Vo L (Z9 L pu rho rows) al be a b q i v))∧Below w.heap.size w w':=by
 have hla:=hL.a
 have hlb:=hL.b
 obtain ⟨T,hT⟩:∃ T,T=L.a+L.b+L.b+L.b:=⟨_,rfl⟩
 obtain ⟨hvn,hvd,hvx,-,-⟩:=Zy hv
 have gm:=YR hvd hvx
 have HTo:=Lib.hid (fun w=>by have:=VN L.p L.block L.queries L.k L.n L.secret L.rows L.a L.b L.b L.b w hL.a hL.b hL.b hL.b;rw [←hT] at this;exact this)
 have HFi:=Lib.hid (fun w' (h:Below w.heap.size w w')=>zEp L B1 B2 B3 m1 d1 m2 d2 m3 d3 a b q w' hL (Zc _ _ _ _ h ha) (Zc _ _ _ _ h hb) (Zc _ _ _ _ h hq) ⟨(Zy ha).1,(Zy hb).1,(Zy hq).1⟩)
 have HBe:=Lib.hid (fun w' (h:Below w.heap.size w w')=>Jt L F n d v w' (Zc _ _ _ _ h hv))
 have HC:=Lib.hid (fun (w':World) (h:Below w.heap.size w w') (j:Nat) (hj:j<L.n) (hTn:T≤n)=>Gi L pu rho al be vars A B1 B2 B3 F R c m1 d1 m2 d2 m3 d3 j T d rows a b q (v.take T) w' hL hF (ZA ZB _ _ _ _ h hr) hV (Zc _ _ _ _ h ha) (Zc _ _ _ _ h hb) (Zc _ _ _ _ h hq) (UM (Zc _ _ _ _ h hv) hTn) hj (by rw [List.length_take,←hT];omega))
 obtain ⟨CD,hCD⟩:∃ CD:Nat→List Nat,CD=fun j=>UN L (Z9 L pu rho rows) al be a b q (Xv L.p (ZJ L.p).1 L.n j) (v.take T):=⟨_,rfl⟩
 have HCD:=Lib.hid (show ∀ j,UN L (Z9 L pu rho rows) al be a b q (Xv L.p (ZJ L.p).1 L.n j) (v.take T)=CD j from fun j=>by rw [hCD])
 have HCX:=Lib.hid (show ∀ j,(∀ y∈CD j,y<18446744073709551616)∧(CD j).length=3 from fun j=>by
  rw [hCD]
  refine ⟨fun y hy=>?_,rfl⟩
  have hp:=Zr hL.p
  simp only [UN,List.mem_cons,List.not_mem_nil,or_false] at hy
  rcases hy with h | h | h <;> rw [h] <;> exact Nat.lt_trans (UX (by omega) _ _) hp.2)
 have HEq:=Lib.hid (fun (j:Nat) (A1:Option Addr) (c1:Nat) (w':World) (h:Below w.heap.size w w') (hTn:T≤n) (h3:RWd w' [.slice A1 3 c1] (CD j))=>zDb A1 (if d=T then F else Option.map (fun x=>x.add T) F) 3 c1 (n-T) (d-T) (CD j) (v.drop T) w' h3 (Jp (Zc _ _ _ _ h hv) hTn))
 have HE:=Lib.hid (show Vo L (Z9 L pu rho rows) al be a b q i v=(Vc L a b q&&decide (0≤i)&&decide (i<(L.n:Int))&&(decide (v.length=T+3)&&v.all fun x=>decide (x<L.p))&&decide (CD i.toNat=v.drop T)) by rw [hCD,hT];rfl)
 obtain ⟨ans,hans⟩:∃ ans,ans=Vo L (Z9 L pu rho rows) al be a b q i v:=⟨_,rfl⟩
 rw [←hans] at HE ⊢
 obtain ⟨t,ht⟩:∃ t,t=T+3:=⟨_,rfl⟩
 have e1:(T:Int)+3=(t:Int):=by omega
 have e2:IntKind.i64.wrap (t:Int)=(t:Int):=ZD _ (by omega) (by omega)
 have HT:=Lib.hid ht
 have HN:=Lib.hid hvn
 generalize Vc L a b q=b1 at *
 generalize (v.all fun x=>decide (x<L.p))=b2 at *
 have gT:T≤400000:=by omega
 have gd:n≤d:=hvd
 clear hla hlb hT hvn hvd hvx hCD hans ht hL hF hr hV ha hb hq hv
 unfold Zz Yr at *
 obtain ⟨kl,kt,kx,hb0,-⟩:=XH w 55 25 57 #[.int .u64 (L.p:Int), .int .i64 (L.block:Int), .int .i64 (L.queries:Int), .int .i64 (L.k:Int), .int .i64 (L.n:Int), .int .i64 (L.secret:Int), .int .i64 (L.rows:Int), .int .i64 (L.a:Int), .int .i64 (L.b:Int), .int .i64 (L.b:Int), .int .i64 (L.b:Int)] #[.int .u64 (L.p:Int), .int .i64 (pu:Int), .int .i64 vars, .slice A R c] #[.int .u64 (al:Int), .int .u64 (rho:Int), .int .u64 (be:Int)]
 go_enter Tryz.func36,Tryz.ntmps36
 go_upto_region 1 with fail
 generalize ((w.alloc _).alloc _).alloc _=w1 at kl kt kx hb0 ⊢
 have cl:=kl.cell
 go_wp2_with fail
 refine (HTo.out _).mono ?_
 rintro e w2 ⟨rfl,hbx⟩
 replace kl:=kl.below hbx kl.lt
 replace kt:=kt.below hbx kt.lt
 replace kx:=kx.below hbx kx.lt
 replace hb0:=Za hb0 hbx
 clear hbx cl
 have cl:=kl.cell
 go_wp2_with fail
 refine (HFi.out _ hb0).mono ?_
 rintro e w3 ⟨rfl,hbx⟩
 replace kl:=kl.below hbx kl.lt
 replace kt:=kt.below hbx kt.lt
 replace kx:=kx.below hbx kx.lt
 replace hb0:=Za hb0 hbx
 clear hbx cl
 cases b1
 ·go_wp2
  go_ret
  exact ⟨by rw [HE.out];simp,hb0⟩
 by_cases hi0:i<0
 ·have x1:decide (i<0)=true:=decide_eq_true hi0
  have HF:=Lib.hid (show ans=false by rw [HE.out,decide_eq_false (show ¬(0≤i) by omega)];simp)
  clear HE
  go_wp2
  go_ret
  exact ⟨by rw [HF.out];rfl,hb0⟩
 have x1:decide (i<0)=false:=decide_eq_false hi0
 have cl:=kl.cell
 by_cases hiN:(L.n:Int)≤i
 ·have x2:decide ((L.n:Int)≤i)=true:=decide_eq_true hiN
  have HF:=Lib.hid (show ans=false by rw [HE.out,decide_eq_false (show ¬(i<(L.n:Int)) by omega)];simp)
  clear HE
  go_wp2
  go_ret
  exact ⟨by rw [HF.out];rfl,hb0⟩
 have x2:decide ((L.n:Int)≤i)=false:=decide_eq_false hiN
 by_cases hlen:n=t
 rotate_left
 ·have x3:((n:Int) != (t:Int))=true:=by rw [bne_iff_ne];omega
  have HF:=Lib.hid (show ans=false by rw [HE.out,decide_eq_false (show ¬(v.length=T+3) by have:=HT.out;have:=HN.out;omega)];simp)
  clear HE hlen
  go_wp2
  go_ret
  exact ⟨by rw [HF.out];rfl,hb0⟩
 have x3:((n:Int) != (t:Int))=false:=by rw [bne_eq_false_iff_eq];omega
 obtain ⟨j,rfl⟩:=Int.eq_ofNat_of_zero_le (show 0≤i by omega)
 have hjn:j<L.n:=by omega
 have HE2:=Lib.hid (show ans=(b2&&decide (CD j=v.drop T)) by rw [HE.out,decide_eq_true (show 0≤(j:Int) by omega),decide_eq_true (show (j:Int)<(L.n:Int) by omega),decide_eq_true (show v.length=T+3 by have:=HT.out;have:=HN.out;omega)];simp)
 have hTn:T≤n:=by have:=HT.out;omega
 have y1:(0:Int)≤(T:Int):=by omega
 have y2:(T:Int)≤(n:Int):=by omega
 have y3:(T:Int)≤(d:Int):=by omega
 clear hi0 hiN hlen HE
 go_wp2_with fail
 refine (HBe.out _ hb0).mono ?_
 rintro e w4 ⟨rfl,hbx⟩
 replace kl:=kl.below hbx kl.lt
 replace kt:=kt.below hbx kt.lt
 replace kx:=kx.below hbx kx.lt
 replace hb0:=Za hb0 hbx
 clear hbx cl
 cases b2
 ·go_wp2
  go_ret
  exact ⟨by rw [HE2.out];rfl,hb0⟩
 have cl:=kl.cell
 have ll:=kl.lt
 have ct:=kt.cell
 have lt:=kt.lt
 have cx:=kx.cell
 have lx:=kx.lt
 go_upto_region 4 with fail
 refine Zq (ZK) [10,14] [0,1,2,3,4,5,6,7,8,9,11,12,13,10,14,15] (by kernel_rfl) (by kernel_rfl) ?_
 refine Zp (later_moves) ?_
 intro Wc HWc hacc
 have hbW:Below w4.heap.size w4 Wc:=by rw [HWc.out];exact (Below.refl _ _).drew
 replace hb0:=Za hb0 hbW
 clear hbW
 repeat (first | (refine Zf (later_moves) rfl rfl (fun _ _ _ h=>h) ?_;simp only [Act.put,zLa,zLb,zLc]) | (refine Ze (v:=?_) (later_moves) rfl rfl (fun _ _ _ h=>h) ?_ ?_;rotate_left;(· (intro w' hR;(first | have hcells:=Zb ((later_moves).trans _ _ _ hacc hR) | skip);go_simp;try with_reducible rfl));simp only [Act.put,zLa,zLb,zLc]))
 refine Zk (later_moves) rfl rfl rfl (fun _=>by go_simp <;> rfl) ((HC.out _ hb0 j hjn hTn).mono ?_)
 rintro e w5 ⟨v5,rfl,o5,hb5⟩
 refine ⟨_,rfl,hb5,?_⟩
 replace hacc:=(later_moves).trans _ _ _ hacc (hb5)
 simp only [Act.put,zLa,zLb,zLc]
 rw [HCD.out] at o5
 obtain ⟨A5,c5,rfl,-⟩:=Zo o5
 have h5:=ZZ o5 (HCX.out j).1
 replace hb0:=Za hb0 hb5
 clear hb5 o5
 repeat (first | (refine Zf (later_moves) rfl rfl (fun _ _ _ h=>h) ?_;simp only [Act.put,zLa,zLb,zLc]) | (refine Ze (v:=?_) (later_moves) rfl rfl (fun _ _ _ h=>h) ?_ ?_;rotate_left;(· (intro w' hR;(first | have hcells:=Zb ((later_moves).trans _ _ _ hacc hR) | skip);go_simp;try with_reducible rfl));simp only [Act.put,zLa,zLb,zLc]))
 refine Zk (later_moves) rfl rfl rfl (fun _=>by go_simp <;> rfl) ((HEq.out j _ _ _ hb0 hTn h5).mono ?_)
 rintro e w6 ⟨rfl,hb6⟩
 refine ⟨_,rfl,hb6,?_⟩
 replace hacc:=(later_moves).trans _ _ _ hacc (hb6)
 simp only [Act.put,zLa,zLb,zLc]
 replace hb0:=Za hb0 hb6
 clear hb6 h5
 repeat (first | (refine Zf (later_moves) rfl rfl (fun _ _ _ h=>h) ?_;simp only [Act.put,zLa,zLb,zLc]) | (refine Ze (v:=?_) (later_moves) rfl rfl (fun _ _ _ h=>h) ?_ ?_;rotate_left;(· (intro w' hR;(first | have hcells:=Zb ((later_moves).trans _ _ _ hacc hR) | skip);go_simp;try with_reducible rfl));simp only [Act.put,zLa,zLb,zLc]))
 refine Zt ?_
 generalize (if d=T then F else Option.map (fun x=>x.add T) F)=FX
 go_wp2
 go_ret
 exact ⟨by rw [HE2.out];rfl,hb0⟩
set_option maxRecDepth 100000 in
set_option maxHeartbeats 400000 in
theorem U8 (L:ZO) (w:World) :
  Calls Tryz.prog 17 #[.agg (Zz L)] w fun e w'=>e= .returned (.agg (Zz L))∧Below w.heap.size w w':=by
 unfold Zz
 go_enter Tryz.func17,Tryz.ntmps17
 go_wp2_with fail
 exact bodyPost_ret (v:=.agg #[.int .u64 (L.p:Int), .int .i64 (L.block:Int), .int .i64 (L.queries:Int), .int .i64 (L.k:Int), .int .i64 (L.n:Int), .int .i64 (L.secret:Int), .int .i64 (L.rows:Int), .int .i64 (L.a:Int), .int .i64 (L.b:Int), .int .i64 (L.b:Int), .int .i64 (L.b:Int)]) (by simp [results,Tryz.results17,go_sem]) rfl ⟨rfl,((Below.refl _ w).alloc (Nat.le_refl _) _).alloc (by simp) _⟩
set_option maxRecDepth 100000 in
set_option maxHeartbeats 400000 in
theorem Kg (al rho be:Nat) (w:World) :
  Calls Tryz.prog 18 #[.agg #[.int .u64 (al:Int), .int .u64 (rho:Int), .int .u64 (be:Int)]] w fun e w'=>e= .returned (.agg #[.int .u64 (al:Int), .int .u64 (rho:Int), .int .u64 (be:Int)])∧Below w.heap.size w w':=by
 go_enter Tryz.func18,Tryz.ntmps18
 go_wp2_with fail
 exact bodyPost_ret (v:=.agg #[.int .u64 (al:Int), .int .u64 (rho:Int), .int .u64 (be:Int)]) (by simp [results,Tryz.results18,go_sem]) rfl ⟨rfl,((Below.refl _ w).alloc (Nat.le_refl _) _).alloc (by simp) _⟩
set_option maxRecDepth 100000 in
set_option maxHeartbeats 1000000 in
theorem XU (A:Option Addr) (n c:Nat) (l:List Nat) (w:World) (hl:RWd w [.slice A n c] l) (hn:n≤5000000000) :
  Calls Tryz.prog 19 #[.slice A n c] w fun e w'=>∃ v,e= .returned v∧w'.ownsRow w.heap.size 22 1 v n (U64 l)∧Below w.heap.size w w':=by
 obtain ⟨rfl,h1,h2,hlt,hrd⟩:=Zy hl
 have hal:=(Below.refl w.heap.size w).alloc (Nat.le_refl _) (.cells #[] 22)
 have HN:=Lib.hid hn
 clear hl h1 h2 hlt hn
 go_enter Tryz.func19,Tryz.ntmps19
 go_wp2_with (at_builtin;refine ZV rfl _ _ rfl Ua rfl (Xg w 22 (Nat.le_refl _)) rfl (hrd.alloc _) (YE l) (by have:=HN.out;omega) (by simp) ?_)
 intro v1 w1 hown hgrow hblk
 have hB:=Yd (Xg w 22 (Nat.le_refl _)) hgrow (by simp)
 replace hB:=hal.trans hB
 replace hown:w1.ownsRow w.heap.size 22 1 v1 l.length (U64 l):=by simpa using hown
 go_wp2
 go_ret
 exact ⟨_,rfl,hown,hB⟩
theorem YZ {w:World} {base n:Nat} {v:Value} {l:List Nat} (h:w.ownsRow base 22 1 v n (U64 l)) (hl:∀ x∈l,x<18446744073709551616):∃ A c,v= .slice A n c∧RWd w [.slice A n c] l:=by
 obtain ⟨A,c,rfl,-⟩:=Zo h
 exact ⟨A,c,rfl,ZZ h hl⟩
set_option maxRecDepth 100000 in
set_option maxHeartbeats 1000000 in
theorem zDe (w:World) :
  Calls Tryz.prog 31 #[] w fun e w'=>∃ g,e= .returned (.agg #[.int .u64 97, .int .i64 0, .int .i64 2, .slice (some ⟨g,0,none⟩) 1 1])∧RSl 3 Xb w' [.slice (some ⟨g,0,none⟩) 1 1] [Gw]∧Below w.heap.size w w':=by
 obtain ⟨kt,kx,hb0,hsz⟩:=YB w 25 128 #[.int .u64 0, .int .i64 0, .int .i64 0, .slice none 0 0] #[.int .i64 1, .int .u64 1]
 go_enter Tryz.func31,Tryz.ntmps31
 go_upto_region 2 with fail
 generalize (w.alloc _).alloc _=w1 at kt kx hb0 hsz ⊢
 obtain ⟨ct0,ft0⟩:=kt.cells'
 have hlt1:=kt.lt
 go_wp2_with fail
 have hg4:w1.grownBy ((((w1.setCell ⟨w.heap.size,0,none⟩ (.int .u64 97)).setCell ⟨w.heap.size,1,none⟩ (.int .i64 0)).setCell ⟨w.heap.size,2,none⟩ (.int .i64 2)).setCell ⟨w.heap.size,3,none⟩ (.slice (some ⟨w.heap.size+2,0,none⟩) 1 1)) (some w.heap.size):=by
  iterate 4 refine ZC ?_ (.inl rfl) _
  exact Zv _ _
 have k4:Blk ((((w1.setCell ⟨w.heap.size,0,none⟩ (.int .u64 97)).setCell ⟨w.heap.size,1,none⟩ (.int .i64 0)).setCell ⟨w.heap.size,2,none⟩ (.int .i64 2)).setCell ⟨w.heap.size,3,none⟩ (.slice (some ⟨w.heap.size+2,0,none⟩) 1 1)) w.heap.size 25 #[.int .u64 97, .int .i64 0, .int .i64 2, .slice (some ⟨w.heap.size+2,0,none⟩) 1 1]:=by
  simpa using (((kt.set_ 0 (.int .u64 97)).set_ 1 (.int .i64 0)).set_ 2 (.int .i64 2)).set_ 3 (.slice (some ⟨w.heap.size+2,0,none⟩) 1 1)
 have hs4:((((w1.setCell ⟨w.heap.size,0,none⟩ (.int .u64 97)).setCell ⟨w.heap.size,1,none⟩ (.int .i64 0)).setCell ⟨w.heap.size,2,none⟩ (.int .i64 2)).setCell ⟨w.heap.size,3,none⟩ (.slice (some ⟨w.heap.size+2,0,none⟩) 1 1)).heap.size=w.heap.size+2:=by simp [hsz]
 have kx4:=kx.grown hg4 (fun e=>by have:=Option.some.inj e;omega)
 replace hb0:=hb0.trans (Zg hg4 hb0.size (Nat.le_refl _))
 clear ct0 ft0 hg4 kt kx
 generalize (((w1.setCell _ _).setCell _ _).setCell _ _).setCell _ _=w2 at k4 kx4 hb0 hs4 ⊢
 have kr:=Blk.new w2 132 #[.slice (some ⟨w.heap.size+1,0,none⟩) 1 1, .slice (some ⟨w.heap.size+1,0,none⟩) 1 1, .slice (some ⟨w.heap.size+1,0,none⟩) 1 1]
 rw [hs4] at kr
 have hal:=(Below.refl w2.heap.size w2).alloc (Nat.le_refl _) (.cells #[.slice (some ⟨w.heap.size+1,0,none⟩) 1 1, .slice (some ⟨w.heap.size+1,0,none⟩) 1 1, .slice (some ⟨w.heap.size+1,0,none⟩) 1 1] 132)
 replace k4:=k4.below hal k4.lt
 replace kx4:=kx4.below hal kx4.lt
 replace hb0:=Za hb0 hal
 clear hal hs4
 generalize w2.alloc _=w3 at k4 kx4 kr hb0 ⊢
 have hr:=zG9 kx4 kx4 kx4 kr
 have c4:=k4.cell
 exact bodyPost_ret (v:=.agg #[.int .u64 97, .int .i64 0, .int .i64 2, .slice (some ⟨w.heap.size+2,0,none⟩) 1 1]) (by simp [results,Tryz.results31,go_sem,c4]) rfl ⟨_,rfl,hr,hb0⟩
theorem msgs4z (u:World) (t t2:TypeId):YN (((((u.alloc (.cells #[.int .u64 0, .int .u64 0] t)).alloc (.cells #[.int .u64 0, .int .u64 0] t)).alloc (.cells #[.int .u64 0, .int .u64 0] t)).alloc (.cells #[.int .u64 0, .int .u64 0] t)).alloc (.cells #[.slice (some ⟨u.heap.size,0,none⟩) 2 2, .slice (some ⟨u.heap.size+1,0,none⟩) 2 2, .slice (some ⟨u.heap.size+1+1,0,none⟩) 2 2, .slice (some ⟨u.heap.size+1+1+1,0,none⟩) 2 2] t2)) [.slice (some ⟨u.heap.size+1+1+1+1,0,none⟩) 4 4] [[0,0],[0,0],[0,0],[0,0]]∧Below u.heap.size u (((((u.alloc (.cells #[.int .u64 0, .int .u64 0] t)).alloc (.cells #[.int .u64 0, .int .u64 0] t)).alloc (.cells #[.int .u64 0, .int .u64 0] t)).alloc (.cells #[.int .u64 0, .int .u64 0] t)).alloc (.cells #[.slice (some ⟨u.heap.size,0,none⟩) 2 2, .slice (some ⟨u.heap.size+1,0,none⟩) 2 2, .slice (some ⟨u.heap.size+1+1,0,none⟩) 2 2, .slice (some ⟨u.heap.size+1+1+1,0,none⟩) 2 2] t2)):=by
 have k1:Blk (((((u.alloc (.cells #[.int .u64 0, .int .u64 0] t)).alloc (.cells #[.int .u64 0, .int .u64 0] t)).alloc (.cells #[.int .u64 0, .int .u64 0] t)).alloc (.cells #[.int .u64 0, .int .u64 0] t)).alloc (.cells #[.slice (some ⟨u.heap.size,0,none⟩) 2 2, .slice (some ⟨u.heap.size+1,0,none⟩) 2 2, .slice (some ⟨u.heap.size+1+1,0,none⟩) 2 2, .slice (some ⟨u.heap.size+1+1+1,0,none⟩) 2 2] t2)) u.heap.size t (U64 [0,0]).toArray:=((((Blk.new u t #[.int .u64 0, .int .u64 0]).alloc _).alloc _).alloc _).alloc _
 have k2:Blk (((((u.alloc (.cells #[.int .u64 0, .int .u64 0] t)).alloc (.cells #[.int .u64 0, .int .u64 0] t)).alloc (.cells #[.int .u64 0, .int .u64 0] t)).alloc (.cells #[.int .u64 0, .int .u64 0] t)).alloc (.cells #[.slice (some ⟨u.heap.size,0,none⟩) 2 2, .slice (some ⟨u.heap.size+1,0,none⟩) 2 2, .slice (some ⟨u.heap.size+1+1,0,none⟩) 2 2, .slice (some ⟨u.heap.size+1+1+1,0,none⟩) 2 2] t2)) (u.heap.size+1) t (U64 [0,0]).toArray:=by
  have h:Blk ((u.alloc (.cells #[.int .u64 0, .int .u64 0] t)).alloc (.cells #[.int .u64 0, .int .u64 0] t)) (u.heap.size+1) t #[.int .u64 0, .int .u64 0]:=by simpa using Blk.new (u.alloc (.cells #[.int .u64 0, .int .u64 0] t)) t #[.int .u64 0, .int .u64 0]
  exact ((h.alloc _).alloc _).alloc _
 have k3:Blk (((((u.alloc (.cells #[.int .u64 0, .int .u64 0] t)).alloc (.cells #[.int .u64 0, .int .u64 0] t)).alloc (.cells #[.int .u64 0, .int .u64 0] t)).alloc (.cells #[.int .u64 0, .int .u64 0] t)).alloc (.cells #[.slice (some ⟨u.heap.size,0,none⟩) 2 2, .slice (some ⟨u.heap.size+1,0,none⟩) 2 2, .slice (some ⟨u.heap.size+1+1,0,none⟩) 2 2, .slice (some ⟨u.heap.size+1+1+1,0,none⟩) 2 2] t2)) (u.heap.size+1+1) t (U64 [0,0]).toArray:=by
  have h:Blk (((u.alloc (.cells #[.int .u64 0, .int .u64 0] t)).alloc (.cells #[.int .u64 0, .int .u64 0] t)).alloc (.cells #[.int .u64 0, .int .u64 0] t)) (u.heap.size+1+1) t #[.int .u64 0, .int .u64 0]:=by simpa using Blk.new ((u.alloc (.cells #[.int .u64 0, .int .u64 0] t)).alloc (.cells #[.int .u64 0, .int .u64 0] t)) t #[.int .u64 0, .int .u64 0]
  exact (h.alloc _).alloc _
 have k4:Blk (((((u.alloc (.cells #[.int .u64 0, .int .u64 0] t)).alloc (.cells #[.int .u64 0, .int .u64 0] t)).alloc (.cells #[.int .u64 0, .int .u64 0] t)).alloc (.cells #[.int .u64 0, .int .u64 0] t)).alloc (.cells #[.slice (some ⟨u.heap.size,0,none⟩) 2 2, .slice (some ⟨u.heap.size+1,0,none⟩) 2 2, .slice (some ⟨u.heap.size+1+1,0,none⟩) 2 2, .slice (some ⟨u.heap.size+1+1+1,0,none⟩) 2 2] t2)) (u.heap.size+1+1+1) t (U64 [0,0]).toArray:=by
  have h:Blk ((((u.alloc (.cells #[.int .u64 0, .int .u64 0] t)).alloc (.cells #[.int .u64 0, .int .u64 0] t)).alloc (.cells #[.int .u64 0, .int .u64 0] t)).alloc (.cells #[.int .u64 0, .int .u64 0] t)) (u.heap.size+1+1+1) t #[.int .u64 0, .int .u64 0]:=by simpa using Blk.new (((u.alloc (.cells #[.int .u64 0, .int .u64 0] t)).alloc (.cells #[.int .u64 0, .int .u64 0] t)).alloc (.cells #[.int .u64 0, .int .u64 0] t)) t #[.int .u64 0, .int .u64 0]
  exact h.alloc _
 have k5:Blk (((((u.alloc (.cells #[.int .u64 0, .int .u64 0] t)).alloc (.cells #[.int .u64 0, .int .u64 0] t)).alloc (.cells #[.int .u64 0, .int .u64 0] t)).alloc (.cells #[.int .u64 0, .int .u64 0] t)).alloc (.cells #[.slice (some ⟨u.heap.size,0,none⟩) 2 2, .slice (some ⟨u.heap.size+1,0,none⟩) 2 2, .slice (some ⟨u.heap.size+1+1,0,none⟩) 2 2, .slice (some ⟨u.heap.size+1+1+1,0,none⟩) 2 2] t2)) (u.heap.size+1+1+1+1) t2 #[.slice (some ⟨u.heap.size,0,none⟩) 2 2, .slice (some ⟨u.heap.size+1,0,none⟩) 2 2, .slice (some ⟨u.heap.size+1+1,0,none⟩) 2 2, .slice (some ⟨u.heap.size+1+1+1,0,none⟩) 2 2]:=by
  simpa using Blk.new ((((u.alloc (.cells #[.int .u64 0, .int .u64 0] t)).alloc (.cells #[.int .u64 0, .int .u64 0] t)).alloc (.cells #[.int .u64 0, .int .u64 0] t)).alloc (.cells #[.int .u64 0, .int .u64 0] t)) t2 #[.slice (some ⟨u.heap.size,0,none⟩) 2 2, .slice (some ⟨u.heap.size+1,0,none⟩) 2 2, .slice (some ⟨u.heap.size+1+1,0,none⟩) 2 2, .slice (some ⟨u.heap.size+1+1+1,0,none⟩) 2 2]
 refine ⟨J0 (N:=0) (gb:=none) (f:=fun _=>[0,0]) (fun k hk=>?_) k5 (by simp [maxLen]),((((((Below.refl _ u).alloc (Nat.le_refl _) _).alloc (by simp) _).alloc (by simp;omega) _).alloc (by simp;omega) _).alloc (by simp;omega) _)⟩
 have h:∀ {b:Nat},Blk (((((u.alloc (.cells #[.int .u64 0, .int .u64 0] t)).alloc (.cells #[.int .u64 0, .int .u64 0] t)).alloc (.cells #[.int .u64 0, .int .u64 0] t)).alloc (.cells #[.int .u64 0, .int .u64 0] t)).alloc (.cells #[.slice (some ⟨u.heap.size,0,none⟩) 2 2, .slice (some ⟨u.heap.size+1,0,none⟩) 2 2, .slice (some ⟨u.heap.size+1+1,0,none⟩) 2 2, .slice (some ⟨u.heap.size+1+1+1,0,none⟩) 2 2] t2)) b t (U64 [0,0]).toArray→RWx 0 none (((((u.alloc (.cells #[.int .u64 0, .int .u64 0] t)).alloc (.cells #[.int .u64 0, .int .u64 0] t)).alloc (.cells #[.int .u64 0, .int .u64 0] t)).alloc (.cells #[.int .u64 0, .int .u64 0] t)).alloc (.cells #[.slice (some ⟨u.heap.size,0,none⟩) 2 2, .slice (some ⟨u.heap.size+1,0,none⟩) 2 2, .slice (some ⟨u.heap.size+1+1,0,none⟩) 2 2, .slice (some ⟨u.heap.size+1+1+1,0,none⟩) 2 2] t2)) (.slice (some ⟨b,0,none⟩) 2 2) [0,0]:=fun k=>GX k rfl (by decide) (by simp [maxLen]) (Nat.zero_le _) (fun e=>by cases e)
 have:k=0∨k=1∨k=2∨k=3:=by omega
 rcases this with rfl | rfl | rfl | rfl
 ·exact ⟨_,rfl,h k1⟩
 ·exact ⟨_,rfl,h k2⟩
 ·exact ⟨_,rfl,h k3⟩
 ·exact ⟨_,rfl,h k4⟩
theorem zCo:Uy Uk [[0],[0],[0],[0]] [0,0,0] [0,0,0] [0,0,0] [0,0,0,0,0,0,0,0]=true:=by decide +kernel
theorem zKu:(List.range 3).map (pcF 97 3 5 (fun k=>[0,0,0].getD k 0) (UO Uk [[0,0],[0,0],[0,0],[0,0]] [[0],[0],[0],[0]]) 4)=[0,0,0]:=by decide +kernel
theorem aw_lin:(List.range 4).map (plF 97 4 (fun k=>(YL Uk [0,0,0]).getD k 0) (jc Uk (Kl Uk 0 6 [Gw]) [[0,0],[0,0],[0,0],[0,0]] [[0],[0],[0],[0]]) 4)=[0,0,0,0]:=by decide +kernel
theorem zKt:(List.range 5).map (pqF 97 3 5 7 (Vi 97 2 [0,0,0] 3) (Ko Uk [[0,0],[0,0],[0,0],[0,0]] [[0],[0],[0],[0]]) (ko Uk [[0,0],[0,0],[0,0],[0,0]] [[0],[0],[0],[0]]) 1)=[0,0,0,0,0]:=by decide +kernel
theorem aw_col:Vo Uk (Z9 Uk 0 6 [Gw]) 5 7 [0,0,0] [0,0,0,0] [0,0,0,0,0] 3 [0,0,0,0,0,0,0]=true:=by decide +kernel
theorem aw_not:Vo Uk (Z9 Uk 0 6 [Gw]) 5 7 [0,0,0] [0,0,0,0] [0,0,0,0,0] 3 [0,0,0,0,0,1,0]=false:=by decide +kernel
theorem aw_tf:Xm Uk 0 2 [Gw]:=⟨rfl,by decide,by decide⟩
theorem aw_vo:VE 2 [Gw]:=jD zFg
theorem UG {w:World} {g n:Nat} {l:List Nat} (k:Blk w g 22 (Zm n fun _=>0)) (h:(List.range n).map (fun _=>0)=l) (hn:n≤100):RWd w [.slice (some ⟨g,0,none⟩) n n] l:=by
 rw [←h]
 exact XR k (fun _ _=>by decide) (by simp [maxLen];omega)
set_option maxRecDepth 100000 in
set_option maxHeartbeats 3000000 in
theorem VW (w:World):Calls Tryz.prog 10 #[] w fun e w'=>e= .returned (.bool true)∧Below w.heap.size w w':=by
 have HN:=Lib.hid (fun A n c w hr=>zHv 97 0 2 A n c [Gw] 2 1 1 w hr zFg)
 unfold YG Yr at HN
 have HSq:=Lib.hid (fun w=>zDe w)
 have HTo:Hid (∀ w:World,Calls Tryz.prog 33 #[.agg #[.int .u64 97, .int .i64 2, .int .i64 1, .int .i64 3, .int .i64 8, .int .i64 1, .int .i64 1, .int .i64 1, .int .i64 1, .int .i64 1, .int .i64 1]] w fun e w'=>e= .returned (.int .i64 4)∧Below w.heap.size w w'):=Lib.hid (fun w=>VN 97 2 1 3 8 1 1 1 1 1 1 w (by decide) (by decide) (by decide) (by decide))
 have HVa:Hid (∀ A0 A1 A2 A3 A4 w,YN w [.slice A0 4 4] [[0],[0],[0],[0]]→RWd w [.slice A1 3 3] [0,0,0]→RWd w [.slice A2 3 3] [0,0,0]→RWd w [.slice A3 3 3] [0,0,0]→RWd w [.slice A4 8 8] [0,0,0,0,0,0,0,0]→Calls Tryz.prog 35 #[.agg #[.int .u64 97, .int .i64 2, .int .i64 1, .int .i64 3, .int .i64 8, .int .i64 1, .int .i64 1, .int .i64 1, .int .i64 1, .int .i64 1, .int .i64 1], .agg #[.slice A0 4 4, .slice A1 3 3, .slice A2 3 3, .slice A3 3 3, .slice A4 8 8]] w fun e w'=>e= .returned (.bool true)∧Below w.heap.size w w'):=Lib.hid (fun A0 A1 A2 A3 A4 w h0 h1 h2 h3 h4=>by have:=xL Uk A0 A1 A2 A3 A4 4 4 3 3 3 3 3 3 8 8 _ _ _ _ _ w zAr h0 h1 h2 h3 h4;rw [zCo] at this;exact this)
 have HAn:Hid (∀ A AM D0 D1 D2 D3 D4 w,RSl 3 Xb w [.slice A 1 1] [Gw]→YN w [.slice AM 4 4] [[0,0],[0,0],[0,0],[0,0]]→YN w [.slice D0 4 4] [[0],[0],[0],[0]]→RWd w [.slice D1 3 3] [0,0,0]→RWd w [.slice D2 3 3] [0,0,0]→RWd w [.slice D3 3 3] [0,0,0]→RWd w [.slice D4 8 8] [0,0,0,0,0,0,0,0]→Calls Tryz.prog 34 #[.agg #[.int .u64 97, .int .i64 2, .int .i64 1, .int .i64 3, .int .i64 8, .int .i64 1, .int .i64 1, .int .i64 1, .int .i64 1, .int .i64 1, .int .i64 1], .agg #[.int .u64 97, .int .i64 0, .int .i64 2, .slice A 1 1], .slice AM 4 4, .agg #[.slice D0 4 4, .slice D1 3 3, .slice D2 3 3, .slice D3 3 3, .slice D4 8 8], .agg #[.int .u64 5, .int .u64 6, .int .u64 7]] w fun e w'=>∃ v1 v2 v3,e= .returned (.tuple #[v1,v2,v3])∧RWd w' [v1] [0,0,0]∧RWd w' [v2] [0,0,0,0]∧RWd w' [v3] [0,0,0,0,0]∧Below w.heap.size w w'):=Lib.hid (fun A AM D0 D1 D2 D3 D4 w hr hm h0 h1 h2 h3 h4=>by
  refine (zL Uk 0 6 5 7 2 A AM D0 D1 D2 D3 D4 1 1 4 4 4 3 3 3 8 4 3 3 3 8 [Gw] _ _ _ _ _ _ w zAr aw_tf hr aw_vo hm h0 h1 h2 h3 h4 zCo rfl (by intro x hx;simp at hx;subst hx;rfl)).mono ?_
  rintro e w' ⟨v1,v2,v3,rfl,o1,o2,o3,hb⟩
  have p1:w'.ownsRow w.heap.size 22 1 v1 3 (U64 ((List.range 3).map (pcF 97 3 5 (fun k=>[0,0,0].getD k 0) (UO Uk [[0,0],[0,0],[0,0],[0,0]] [[0],[0],[0],[0]]) 4))):=o1
  have p2:w'.ownsRow w.heap.size 22 1 v2 4 (U64 ((List.range 4).map (plF 97 4 (fun k=>(YL Uk [0,0,0]).getD k 0) (jc Uk (Kl Uk 0 6 [Gw]) [[0,0],[0,0],[0,0],[0,0]] [[0],[0],[0],[0]]) 4))):=o2
  have p3:w'.ownsRow w.heap.size 22 1 v3 5 (U64 ((List.range 5).map (pqF 97 3 5 7 (Vi 97 2 [0,0,0] 3) (Ko Uk [[0,0],[0,0],[0,0],[0,0]] [[0],[0],[0],[0]]) (ko Uk [[0,0],[0,0],[0,0],[0,0]] [[0],[0],[0],[0]]) 1))):=o3
  rw [zKu] at p1
  rw [aw_lin] at p2
  rw [zKt] at p3
  obtain ⟨A1,c1,rfl,q1⟩:=YZ p1 (by decide)
  obtain ⟨A2,c2,rfl,q2⟩:=YZ p2 (by decide)
  obtain ⟨A3,c3,rfl,q3⟩:=YZ p3 (by decide)
  exact ⟨_,_,_,rfl,q1,q2,q3,hb⟩)
 have HCo:Hid (∀ A B1 B2 B3 F c1 c2 c3 v b w,RSl 3 Xb w [.slice A 1 1] [Gw]→RWd w [.slice B1 3 c1] [0,0,0]→RWd w [.slice B2 4 c2] [0,0,0,0]→RWd w [.slice B3 5 c3] [0,0,0,0,0]→RWd w [.slice F 7 7] v→Vo Uk (Z9 Uk 0 6 [Gw]) 5 7 [0,0,0] [0,0,0,0] [0,0,0,0,0] 3 v=b→Calls Tryz.prog 36 #[.agg #[.int .u64 97, .int .i64 2, .int .i64 1, .int .i64 3, .int .i64 8, .int .i64 1, .int .i64 1, .int .i64 1, .int .i64 1, .int .i64 1, .int .i64 1], .agg #[.int .u64 97, .int .i64 0, .int .i64 2, .slice A 1 1], .agg #[.int .u64 5, .int .u64 6, .int .u64 7], .slice B1 3 c1, .slice B2 4 c2, .slice B3 5 c3, .int .i64 3, .slice F 7 7] w fun e w'=>e= .returned (.bool b)∧Below w.heap.size w w'):=Lib.hid (fun A B1 B2 B3 F c1 c2 c3 v b w hr h1 h2 h3 hv hb=>by have:=zU Uk 0 6 5 7 2 3 A B1 B2 B3 F 1 1 3 c1 4 c2 5 c3 7 7 [Gw] _ _ _ v w zAr aw_tf hr aw_vo h1 h2 h3 hv;rw [hb] at this;exact this)
 have HS:=Lib.hid (fun A1 A2 n1 c1 n2 c2 l1 l2 w h1 h2=>Ju A1 A2 n1 c1 n2 c2 l1 l2 w h1 h2)
 go_enter Tryz.func10,Tryz.ntmps10
 go_wp2_with fail
 refine (HSq.out _).mono ?_
 rintro e w1 ⟨gt,rfl,hr,hb0⟩
 go_upto_region 2 with fail
 have kt:=Blk.new w1 25 #[.int .u64 97, .int .i64 0, .int .i64 2, .slice (some ⟨gt,0,none⟩) 1 1]
 have hal:=(Below.refl w1.heap.size w1).alloc (Nat.le_refl _) (.cells #[.int .u64 97, .int .i64 0, .int .i64 2, .slice (some ⟨gt,0,none⟩) 1 1] 25)
 replace hr:=ZA ZB _ _ _ _ hal hr
 replace hb0:=Za hb0 hal
 clear hal
 generalize w1.alloc _=w2 at kt hr hb0 ⊢
 generalize w1.heap.size=bt at kt ⊢
 have ct:=kt.cell
 go_wp2_with fail
 refine (HN.out _ _ _ _ hr).mono ?_
 rintro e w3 ⟨hpost,hb3⟩
 obtain ⟨rfl,hL⟩:=zGo hpost
 replace hr:=ZA ZB _ _ _ _ hb3 hr
 replace kt:=kt.below hb3 kt.lt
 replace hb0:=Za hb0 hb3
 clear hb3 ct hpost hL HN HSq
 rw [zKf]
 go_upto_region 3 with fail
 have kl:=Blk.new w3 55 #[.int .u64 97, .int .i64 2, .int .i64 1, .int .i64 3, .int .i64 8, .int .i64 1, .int .i64 1, .int .i64 1, .int .i64 1, .int .i64 1, .int .i64 1]
 have hal:=(Below.refl w3.heap.size w3).alloc (Nat.le_refl _) (.cells #[.int .u64 97, .int .i64 2, .int .i64 1, .int .i64 3, .int .i64 8, .int .i64 1, .int .i64 1, .int .i64 1, .int .i64 1, .int .i64 1, .int .i64 1] 55)
 replace hr:=ZA ZB _ _ _ _ hal hr
 replace kt:=kt.below hal kt.lt
 replace hb0:=Za hb0 hal
 clear hal
 generalize w3.alloc _=w4 at kt kl hr hb0 ⊢
 generalize w3.heap.size=bl at kl ⊢
 have cl:=kl.cell
 go_wp2_with fail
 refine (HTo.out _).mono ?_
 rintro e w5 ⟨rfl,hb5⟩
 replace hr:=ZA ZB _ _ _ _ hb5 hr
 replace kt:=kt.below hb5 kt.lt
 replace kl:=kl.below hb5 kl.lt
 replace hb0:=Za hb0 hb5
 clear hb5 cl HTo
 have mk3:∀ w:World,(Instr.makeSlice 28 (.int .i64 3) (.int .i64 3)).run Tryz.prog w= .ok (.slice (some ⟨w.heap.size,0,none⟩) 3 3) (w.alloc (.cells (Zm 3 fun _=>0) 22)):=fun w=>YS 3 (by decide) w
 have mk8:∀ w:World,(Instr.makeSlice 28 (.int .i64 8) (.int .i64 8)).run Tryz.prog w= .ok (.slice (some ⟨w.heap.size,0,none⟩) 8 8) (w.alloc (.cells (Zm 8 fun _=>0) 22)):=fun w=>YS 8 (by decide) w
 go_upto_region 5 with fail
 refine zH (UY w5.heap.size) [] 12 (by kernel_rfl) (by kernel_rfl) ?_
 refine GM (Zd w5.heap.size) ?_
 intro Wc HWc hacc
 repeat (first | (refine xg (Zd w5.heap.size) rfl rfl (fun _ _ _ h=>h) ?_;simp only [Act.put,zLa,zLb,zLc]) | (refine zy (v:=?_) (Zd w5.heap.size) rfl rfl (fun _ _ _ h=>h) ?_ ?_;rotate_left;(· (intro w' hR;(first | have hcells:=Zw ((Zd w5.heap.size).trans _ _ _ hacc hR) | skip);go_simp;try with_reducible rfl));simp only [Act.put,zLa,zLb,zLc]))
 have hbW:Below w5.heap.size w5 Wc:=by rw [HWc.out];exact (Below.refl _ _).drew
 have hNc:w5.heap.size≤Wc.heap.size:=hbW.size
 refine kZ (Zd w5.heap.size) [⟨0,[],[]⟩,⟨1,[],[]⟩,⟨2,[],[]⟩,⟨3,[],[]⟩,⟨4,[0,1,2,3],[]⟩,⟨5,[],[]⟩,⟨6,[],[]⟩,⟨7,[],[]⟩,⟨8,[],[]⟩,⟨9,[4,5,6,7,8],[]⟩,⟨10,[],[]⟩] [(0,ZW 22 (fun _=>#[.int .u64 0]) (mkS 1) 0),(1,ZW 22 (fun _=>#[.int .u64 0]) (mkS 1) 1),(2,ZW 22 (fun _=>#[.int .u64 0]) (mkS 1) 2),(3,ZW 22 (fun _=>#[.int .u64 0]) (mkS 1) 3),(4,ZW 28 (fun vs=>#[vs 0,vs 1,vs 2,vs 3]) (mkS 4) 4),(5,ZW 22 (fun _=>Zm 3 fun _=>0) (mkS 3) 5),(6,ZW 22 (fun _=>Zm 3 fun _=>0) (mkS 3) 6),(7,ZW 22 (fun _=>Zm 3 fun _=>0) (mkS 3) 7),(8,ZW 22 (fun _=>Zm 8 fun _=>0) (mkS 8) 8),(9,Ug (fun vs=>.agg #[vs 4,vs 5,vs 6,vs 7,vs 8]) 9),(10,ZW 42 (fun _=>#[.slice none 0 0, .slice none 0 0, .slice none 0 0, .slice none 0 0, .slice none 0 0]) mkP 10)] [(some 35,0),(some 36,1),(some 37,2),(some 38,3),(some 39,4),(some 40,5),(some 41,6),(some 42,7),(some 43,8),(some 44,9),(some 4,10)] [11] [11] (by kernel_rfl) (by kernel_rfl) (by first | exact Nat.le_refl _ | omega) (fun w1 h1=>h1) ?_ ?_ ?_
 ·exact List.forall_mem_cons.2 ⟨Yv rfl (fun _ _ _=>rfl),List.forall_mem_cons.2 ⟨Yv rfl (fun _ _ _=>rfl),List.forall_mem_cons.2 ⟨Yv rfl (fun _ _ _=>rfl),List.forall_mem_cons.2 ⟨Yv rfl (fun _ _ _=>rfl),List.forall_mem_cons.2 ⟨Yv rfl (fun vs us h=>by simp only [h 0 (by decide),h 1 (by decide),h 2 (by decide),h 3 (by decide)]),List.forall_mem_cons.2 ⟨Yv rfl (fun _ _ _=>rfl),List.forall_mem_cons.2 ⟨Yv rfl (fun _ _ _=>rfl),List.forall_mem_cons.2 ⟨Yv rfl (fun _ _ _=>rfl),List.forall_mem_cons.2 ⟨Yv rfl (fun _ _ _=>rfl),List.forall_mem_cons.2 ⟨JQ rfl (fun vs us h=>by simp only [h 4 (by decide),h 5 (by decide),h 6 (by decide),h 7 (by decide),h 8 (by decide)]),List.forall_mem_cons.2 ⟨Yv rfl (fun _ _ _=>rfl),List.forall_mem_nil _⟩⟩⟩⟩⟩⟩⟩⟩⟩⟩⟩
 ·refine List.forall_mem_cons.2 ⟨?_,List.forall_mem_cons.2 ⟨?_,List.forall_mem_cons.2 ⟨?_,List.forall_mem_cons.2 ⟨?_,List.forall_mem_cons.2 ⟨?_,List.forall_mem_cons.2 ⟨?_,List.forall_mem_cons.2 ⟨?_,List.forall_mem_cons.2 ⟨?_,List.forall_mem_cons.2 ⟨?_,List.forall_mem_cons.2 ⟨?_,List.forall_mem_cons.2 ⟨?_,List.forall_mem_nil _⟩⟩⟩⟩⟩⟩⟩⟩⟩⟩⟩
  ·refine YF [] rfl (by kernel_rfl) ?_
   intro w1 vs F hb1 hd hdis
   clear hd
   unfold VA
   simp only [List.foldl]
   change Ve _ _ _ fun v w'=>VQ _ w1 w' F []∧ZW 22 (fun _=>#[.int .u64 0]) (mkS 1) 0 (upd vs 0 v) (XB w1 w' F []) w'
   have hB1:=Nat.le_trans hNc hb1.size
   exact YH (v:=.slice (some ⟨w1.heap.size,0,none⟩) 1 1) (w':=w1.alloc (.cells #[.int .u64 0] 22)) (by go_simp <;> rfl) ⟨Yw ((Below.refl _ _).alloc (Nat.le_refl _) _) hB1 _ _,Xx (Blk.new _ _ _) (Nat.le_refl _)⟩
  ·refine YF [] rfl (by kernel_rfl) ?_
   intro w1 vs F hb1 hd hdis
   clear hd
   unfold VA
   simp only [List.foldl]
   change Ve _ _ _ fun v w'=>VQ _ w1 w' F []∧ZW 22 (fun _=>#[.int .u64 0]) (mkS 1) 1 (upd vs 1 v) (XB w1 w' F []) w'
   have hB1:=Nat.le_trans hNc hb1.size
   exact YH (v:=.slice (some ⟨w1.heap.size,0,none⟩) 1 1) (w':=w1.alloc (.cells #[.int .u64 0] 22)) (by go_simp <;> rfl) ⟨Yw ((Below.refl _ _).alloc (Nat.le_refl _) _) hB1 _ _,Xx (Blk.new _ _ _) (Nat.le_refl _)⟩
  ·refine YF [] rfl (by kernel_rfl) ?_
   intro w1 vs F hb1 hd hdis
   clear hd
   unfold VA
   simp only [List.foldl]
   change Ve _ _ _ fun v w'=>VQ _ w1 w' F []∧ZW 22 (fun _=>#[.int .u64 0]) (mkS 1) 2 (upd vs 2 v) (XB w1 w' F []) w'
   have hB1:=Nat.le_trans hNc hb1.size
   exact YH (v:=.slice (some ⟨w1.heap.size,0,none⟩) 1 1) (w':=w1.alloc (.cells #[.int .u64 0] 22)) (by go_simp <;> rfl) ⟨Yw ((Below.refl _ _).alloc (Nat.le_refl _) _) hB1 _ _,Xx (Blk.new _ _ _) (Nat.le_refl _)⟩
  ·refine YF [] rfl (by kernel_rfl) ?_
   intro w1 vs F hb1 hd hdis
   clear hd
   unfold VA
   simp only [List.foldl]
   change Ve _ _ _ fun v w'=>VQ _ w1 w' F []∧ZW 22 (fun _=>#[.int .u64 0]) (mkS 1) 3 (upd vs 3 v) (XB w1 w' F []) w'
   have hB1:=Nat.le_trans hNc hb1.size
   exact YH (v:=.slice (some ⟨w1.heap.size,0,none⟩) 1 1) (w':=w1.alloc (.cells #[.int .u64 0] 22)) (by go_simp <;> rfl) ⟨Yw ((Below.refl _ _).alloc (Nat.le_refl _) _) hB1 _ _,Xx (Blk.new _ _ _) (Nat.le_refl _)⟩
  ·refine YF [(some 35,0),(some 36,1),(some 37,2),(some 38,3)] rfl (by kernel_rfl) ?_
   intro w1 vs F hb1 hd hdis
   have d0:ZW 22 (fun _=>#[.int .u64 0]) (mkS 1) 0 vs (F 0) w1∧∀ b,F 0 b→b<w1.heap.size∧_≤b:=hd 0 (by decide)
   have d1:ZW 22 (fun _=>#[.int .u64 0]) (mkS 1) 1 vs (F 1) w1∧∀ b,F 1 b→b<w1.heap.size∧_≤b:=hd 1 (by decide)
   have d2:ZW 22 (fun _=>#[.int .u64 0]) (mkS 1) 2 vs (F 2) w1∧∀ b,F 2 b→b<w1.heap.size∧_≤b:=hd 2 (by decide)
   have d3:ZW 22 (fun _=>#[.int .u64 0]) (mkS 1) 3 vs (F 3) w1∧∀ b,F 3 b→b<w1.heap.size∧_≤b:=hd 3 (by decide)
   clear hd
   unfold VA
   simp only [List.foldl]
   change Ve _ _ _ fun v w'=>VQ _ w1 w' F []∧ZW 28 (fun vs=>#[vs 0,vs 1,vs 2,vs 3]) (mkS 4) 4 (upd vs 4 v) (XB w1 w' F []) w'
   have hB1:=Nat.le_trans hNc hb1.size
   obtain ⟨g0,e0,-⟩:=d0.1
   obtain ⟨g1,e1,-⟩:=d1.1
   obtain ⟨g2,e2,-⟩:=d2.1
   obtain ⟨g3,e3,-⟩:=d3.1
   exact YH (v:=.slice (some ⟨w1.heap.size,0,none⟩) 4 4) (w':=w1.alloc (.cells #[vs 0,vs 1,vs 2,vs 3] 28)) (by rw [e0,e1,e2,e3];go_simp <;> rfl) ⟨Yw ((Below.refl _ _).alloc (Nat.le_refl _) _) hB1 _ _,Xx (show Blk _ _ _ #[vs 0,vs 1,vs 2,vs 3] from Blk.new _ _ _) (Nat.le_refl _)⟩
  ·refine YF [] rfl (by kernel_rfl) ?_
   intro w1 vs F hb1 hd hdis
   clear hd
   unfold VA
   simp only [List.foldl]
   change Ve _ _ _ fun v w'=>VQ _ w1 w' F []∧ZW 22 (fun _=>Zm 3 fun _=>0) (mkS 3) 5 (upd vs 5 v) (XB w1 w' F []) w'
   have hB1:=Nat.le_trans hNc hb1.size
   exact YH (v:=.slice (some ⟨w1.heap.size,0,none⟩) 3 3) (w':=w1.alloc (.cells (Zm 3 fun _=>0) 22)) (by go_simp <;> rfl) ⟨Yw ((Below.refl _ _).alloc (Nat.le_refl _) _) hB1 _ _,Xx (Blk.new _ _ _) (Nat.le_refl _)⟩
  ·refine YF [] rfl (by kernel_rfl) ?_
   intro w1 vs F hb1 hd hdis
   clear hd
   unfold VA
   simp only [List.foldl]
   change Ve _ _ _ fun v w'=>VQ _ w1 w' F []∧ZW 22 (fun _=>Zm 3 fun _=>0) (mkS 3) 6 (upd vs 6 v) (XB w1 w' F []) w'
   have hB1:=Nat.le_trans hNc hb1.size
   exact YH (v:=.slice (some ⟨w1.heap.size,0,none⟩) 3 3) (w':=w1.alloc (.cells (Zm 3 fun _=>0) 22)) (by go_simp <;> rfl) ⟨Yw ((Below.refl _ _).alloc (Nat.le_refl _) _) hB1 _ _,Xx (Blk.new _ _ _) (Nat.le_refl _)⟩
  ·refine YF [] rfl (by kernel_rfl) ?_
   intro w1 vs F hb1 hd hdis
   clear hd
   unfold VA
   simp only [List.foldl]
   change Ve _ _ _ fun v w'=>VQ _ w1 w' F []∧ZW 22 (fun _=>Zm 3 fun _=>0) (mkS 3) 7 (upd vs 7 v) (XB w1 w' F []) w'
   have hB1:=Nat.le_trans hNc hb1.size
   exact YH (v:=.slice (some ⟨w1.heap.size,0,none⟩) 3 3) (w':=w1.alloc (.cells (Zm 3 fun _=>0) 22)) (by go_simp <;> rfl) ⟨Yw ((Below.refl _ _).alloc (Nat.le_refl _) _) hB1 _ _,Xx (Blk.new _ _ _) (Nat.le_refl _)⟩
  ·refine YF [] rfl (by kernel_rfl) ?_
   intro w1 vs F hb1 hd hdis
   clear hd
   unfold VA
   simp only [List.foldl]
   change Ve _ _ _ fun v w'=>VQ _ w1 w' F []∧ZW 22 (fun _=>Zm 8 fun _=>0) (mkS 8) 8 (upd vs 8 v) (XB w1 w' F []) w'
   have hB1:=Nat.le_trans hNc hb1.size
   exact YH (v:=.slice (some ⟨w1.heap.size,0,none⟩) 8 8) (w':=w1.alloc (.cells (Zm 8 fun _=>0) 22)) (by go_simp <;> rfl) ⟨Yw ((Below.refl _ _).alloc (Nat.le_refl _) _) hB1 _ _,Xx (Blk.new _ _ _) (Nat.le_refl _)⟩
  ·refine YF [(some 39,4),(some 40,5),(some 41,6),(some 42,7),(some 43,8)] rfl (by kernel_rfl) ?_
   intro w1 vs F hb1 hd hdis
   have d4:ZW 28 (fun vs=>#[vs 0,vs 1,vs 2,vs 3]) (mkS 4) 4 vs (F 4) w1∧∀ b,F 4 b→b<w1.heap.size∧_≤b:=hd 4 (by decide)
   have d5:ZW 22 (fun _=>Zm 3 fun _=>0) (mkS 3) 5 vs (F 5) w1∧∀ b,F 5 b→b<w1.heap.size∧_≤b:=hd 5 (by decide)
   have d6:ZW 22 (fun _=>Zm 3 fun _=>0) (mkS 3) 6 vs (F 6) w1∧∀ b,F 6 b→b<w1.heap.size∧_≤b:=hd 6 (by decide)
   have d7:ZW 22 (fun _=>Zm 3 fun _=>0) (mkS 3) 7 vs (F 7) w1∧∀ b,F 7 b→b<w1.heap.size∧_≤b:=hd 7 (by decide)
   have d8:ZW 22 (fun _=>Zm 8 fun _=>0) (mkS 8) 8 vs (F 8) w1∧∀ b,F 8 b→b<w1.heap.size∧_≤b:=hd 8 (by decide)
   clear hd
   unfold VA
   simp only [List.foldl]
   change Ve _ _ _ fun v w'=>VQ _ w1 w' F []∧Ug (fun vs=>.agg #[vs 4,vs 5,vs 6,vs 7,vs 8]) 9 (upd vs 9 v) (XB w1 w' F []) w'
   obtain ⟨g4,e4,-⟩:=d4.1
   obtain ⟨g5,e5,-⟩:=d5.1
   obtain ⟨g6,e6,-⟩:=d6.1
   obtain ⟨g7,e7,-⟩:=d7.1
   obtain ⟨g8,e8,-⟩:=d8.1
   exact YH (v:=.agg #[vs 4,vs 5,vs 6,vs 7,vs 8]) (w':=w1) (by rw [e4,e5,e6,e7,e8];go_simp <;> rfl) ⟨KZ _ _ _ _,rfl⟩
  ·refine YF [] rfl (by kernel_rfl) ?_
   intro w1 vs F hb1 hd hdis
   clear hd
   unfold VA
   simp only [List.foldl]
   change Ve _ _ _ fun v w'=>VQ _ w1 w' F []∧ZW 42 (fun _=>#[.slice none 0 0, .slice none 0 0, .slice none 0 0, .slice none 0 0, .slice none 0 0]) mkP 10 (upd vs 10 v) (XB w1 w' F []) w'
   have hB1:=Nat.le_trans hNc hb1.size
   exact YH (v:=.pointer (some ⟨w1.heap.size,0,none⟩)) (w':=w1.alloc (.cells #[.slice none 0 0, .slice none 0 0, .slice none 0 0, .slice none 0 0, .slice none 0 0] 42)) (by go_simp <;> rfl) ⟨Yw ((Below.refl _ _).alloc (Nat.le_refl _) _) hB1 _ _,Xx (Blk.new _ _ _) (Nat.le_refl _)⟩
 intro wf vs F hbf hf hdis
 have f0:ZW 22 (fun _=>#[.int .u64 0]) (mkS 1) 0 vs (F 0) wf∧∀ b,F 0 b→b<wf.heap.size∧_≤b:=hf _ (.head _) (by decide)
 have f1:ZW 22 (fun _=>#[.int .u64 0]) (mkS 1) 1 vs (F 1) wf∧∀ b,F 1 b→b<wf.heap.size∧_≤b:=hf _ (.tail _ (.head _)) (by decide)
 have f2:ZW 22 (fun _=>#[.int .u64 0]) (mkS 1) 2 vs (F 2) wf∧∀ b,F 2 b→b<wf.heap.size∧_≤b:=hf _ (.tail _ (.tail _ (.head _))) (by decide)
 have f3:ZW 22 (fun _=>#[.int .u64 0]) (mkS 1) 3 vs (F 3) wf∧∀ b,F 3 b→b<wf.heap.size∧_≤b:=hf _ (.tail _ (.tail _ (.tail _ (.head _)))) (by decide)
 have f4:ZW 28 (fun vs=>#[vs 0,vs 1,vs 2,vs 3]) (mkS 4) 4 vs (F 4) wf∧∀ b,F 4 b→b<wf.heap.size∧_≤b:=hf _ (.tail _ (.tail _ (.tail _ (.tail _ (.head _))))) (by decide)
 have f5:ZW 22 (fun _=>Zm 3 fun _=>0) (mkS 3) 5 vs (F 5) wf∧∀ b,F 5 b→b<wf.heap.size∧_≤b:=hf _ (.tail _ (.tail _ (.tail _ (.tail _ (.tail _ (.head _)))))) (by decide)
 have f6:ZW 22 (fun _=>Zm 3 fun _=>0) (mkS 3) 6 vs (F 6) wf∧∀ b,F 6 b→b<wf.heap.size∧_≤b:=hf _ (.tail _ (.tail _ (.tail _ (.tail _ (.tail _ (.tail _ (.head _))))))) (by decide)
 have f7:ZW 22 (fun _=>Zm 3 fun _=>0) (mkS 3) 7 vs (F 7) wf∧∀ b,F 7 b→b<wf.heap.size∧_≤b:=hf _ (.tail _ (.tail _ (.tail _ (.tail _ (.tail _ (.tail _ (.tail _ (.head _)))))))) (by decide)
 have f8:ZW 22 (fun _=>Zm 8 fun _=>0) (mkS 8) 8 vs (F 8) wf∧∀ b,F 8 b→b<wf.heap.size∧_≤b:=hf _ (.tail _ (.tail _ (.tail _ (.tail _ (.tail _ (.tail _ (.tail _ (.tail _ (.head _))))))))) (by decide)
 have f9:Ug (fun vs=>.agg #[vs 4,vs 5,vs 6,vs 7,vs 8]) 9 vs (F 9) wf∧∀ b,F 9 b→b<wf.heap.size∧_≤b:=hf _ (.tail _ (.tail _ (.tail _ (.tail _ (.tail _ (.tail _ (.tail _ (.tail _ (.tail _ (.head _)))))))))) (by decide)
 have f10:ZW 42 (fun _=>#[.slice none 0 0, .slice none 0 0, .slice none 0 0, .slice none 0 0, .slice none 0 0]) mkP 10 vs (F 10) wf∧∀ b,F 10 b→b<wf.heap.size∧_≤b:=hf _ (.tail _ (.tail _ (.tail _ (.tail _ (.tail _ (.tail _ (.tail _ (.tail _ (.tail _ (.tail _ (.head _))))))))))) (by decide)
 clear hf
 unfold VA
 simp only [List.foldl]
 obtain ⟨⟨g0,e0,h0,k0⟩,b0⟩:=f0
 have y0:=(b0 _ h0).2
 obtain ⟨⟨g1,e1,h1,k1⟩,b1⟩:=f1
 have y1:=(b1 _ h1).2
 obtain ⟨⟨g2,e2,h2,k2⟩,b2⟩:=f2
 have y2:=(b2 _ h2).2
 obtain ⟨⟨g3,e3,h3,k3⟩,b3⟩:=f3
 have y3:=(b3 _ h3).2
 obtain ⟨⟨g4,e4,h4,k4⟩,b4⟩:=f4
 have y4:=(b4 _ h4).2
 obtain ⟨⟨g5,e5,h5,k5⟩,b5⟩:=f5
 have y5:=(b5 _ h5).2
 obtain ⟨⟨g6,e6,h6,k6⟩,b6⟩:=f6
 have y6:=(b6 _ h6).2
 obtain ⟨⟨g7,e7,h7,k7⟩,b7⟩:=f7
 have y7:=(b7 _ h7).2
 obtain ⟨⟨g8,e8,h8,k8⟩,b8⟩:=f8
 have y8:=(b8 _ h8).2
 have e9:vs 9= .agg #[vs 4,vs 5,vs 6,vs 7,vs 8]:=f9.1
 obtain ⟨⟨g10,e10,h10,k10⟩,b10⟩:=f10
 have y10:=(b10 _ h10).2
 have n0_1:g0≠g1:=fun e=>hdis 0 1 _ (by decide) h0 (by rw [e];exact h1)
 have n0_2:g0≠g2:=fun e=>hdis 0 2 _ (by decide) h0 (by rw [e];exact h2)
 have n0_3:g0≠g3:=fun e=>hdis 0 3 _ (by decide) h0 (by rw [e];exact h3)
 have n0_4:g0≠g4:=fun e=>hdis 0 4 _ (by decide) h0 (by rw [e];exact h4)
 have n0_5:g0≠g5:=fun e=>hdis 0 5 _ (by decide) h0 (by rw [e];exact h5)
 have n0_6:g0≠g6:=fun e=>hdis 0 6 _ (by decide) h0 (by rw [e];exact h6)
 have n0_7:g0≠g7:=fun e=>hdis 0 7 _ (by decide) h0 (by rw [e];exact h7)
 have n0_8:g0≠g8:=fun e=>hdis 0 8 _ (by decide) h0 (by rw [e];exact h8)
 have n0_10:g0≠g10:=fun e=>hdis 0 10 _ (by decide) h0 (by rw [e];exact h10)
 have n1_2:g1≠g2:=fun e=>hdis 1 2 _ (by decide) h1 (by rw [e];exact h2)
 have n1_3:g1≠g3:=fun e=>hdis 1 3 _ (by decide) h1 (by rw [e];exact h3)
 have n1_4:g1≠g4:=fun e=>hdis 1 4 _ (by decide) h1 (by rw [e];exact h4)
 have n1_5:g1≠g5:=fun e=>hdis 1 5 _ (by decide) h1 (by rw [e];exact h5)
 have n1_6:g1≠g6:=fun e=>hdis 1 6 _ (by decide) h1 (by rw [e];exact h6)
 have n1_7:g1≠g7:=fun e=>hdis 1 7 _ (by decide) h1 (by rw [e];exact h7)
 have n1_8:g1≠g8:=fun e=>hdis 1 8 _ (by decide) h1 (by rw [e];exact h8)
 have n1_10:g1≠g10:=fun e=>hdis 1 10 _ (by decide) h1 (by rw [e];exact h10)
 have n2_3:g2≠g3:=fun e=>hdis 2 3 _ (by decide) h2 (by rw [e];exact h3)
 have n2_4:g2≠g4:=fun e=>hdis 2 4 _ (by decide) h2 (by rw [e];exact h4)
 have n2_5:g2≠g5:=fun e=>hdis 2 5 _ (by decide) h2 (by rw [e];exact h5)
 have n2_6:g2≠g6:=fun e=>hdis 2 6 _ (by decide) h2 (by rw [e];exact h6)
 have n2_7:g2≠g7:=fun e=>hdis 2 7 _ (by decide) h2 (by rw [e];exact h7)
 have n2_8:g2≠g8:=fun e=>hdis 2 8 _ (by decide) h2 (by rw [e];exact h8)
 have n2_10:g2≠g10:=fun e=>hdis 2 10 _ (by decide) h2 (by rw [e];exact h10)
 have n3_4:g3≠g4:=fun e=>hdis 3 4 _ (by decide) h3 (by rw [e];exact h4)
 have n3_5:g3≠g5:=fun e=>hdis 3 5 _ (by decide) h3 (by rw [e];exact h5)
 have n3_6:g3≠g6:=fun e=>hdis 3 6 _ (by decide) h3 (by rw [e];exact h6)
 have n3_7:g3≠g7:=fun e=>hdis 3 7 _ (by decide) h3 (by rw [e];exact h7)
 have n3_8:g3≠g8:=fun e=>hdis 3 8 _ (by decide) h3 (by rw [e];exact h8)
 have n3_10:g3≠g10:=fun e=>hdis 3 10 _ (by decide) h3 (by rw [e];exact h10)
 have n4_5:g4≠g5:=fun e=>hdis 4 5 _ (by decide) h4 (by rw [e];exact h5)
 have n4_6:g4≠g6:=fun e=>hdis 4 6 _ (by decide) h4 (by rw [e];exact h6)
 have n4_7:g4≠g7:=fun e=>hdis 4 7 _ (by decide) h4 (by rw [e];exact h7)
 have n4_8:g4≠g8:=fun e=>hdis 4 8 _ (by decide) h4 (by rw [e];exact h8)
 have n4_10:g4≠g10:=fun e=>hdis 4 10 _ (by decide) h4 (by rw [e];exact h10)
 have n5_6:g5≠g6:=fun e=>hdis 5 6 _ (by decide) h5 (by rw [e];exact h6)
 have n5_7:g5≠g7:=fun e=>hdis 5 7 _ (by decide) h5 (by rw [e];exact h7)
 have n5_8:g5≠g8:=fun e=>hdis 5 8 _ (by decide) h5 (by rw [e];exact h8)
 have n5_10:g5≠g10:=fun e=>hdis 5 10 _ (by decide) h5 (by rw [e];exact h10)
 have n6_7:g6≠g7:=fun e=>hdis 6 7 _ (by decide) h6 (by rw [e];exact h7)
 have n6_8:g6≠g8:=fun e=>hdis 6 8 _ (by decide) h6 (by rw [e];exact h8)
 have n6_10:g6≠g10:=fun e=>hdis 6 10 _ (by decide) h6 (by rw [e];exact h10)
 have n7_8:g7≠g8:=fun e=>hdis 7 8 _ (by decide) h7 (by rw [e];exact h8)
 have n7_10:g7≠g10:=fun e=>hdis 7 10 _ (by decide) h7 (by rw [e];exact h10)
 have n8_10:g8≠g10:=fun e=>hdis 8 10 _ (by decide) h8 (by rw [e];exact h10)
 simp only [e0,e1,e2,e3] at k4
 try dsimp only [mkS] at k4
 simp only [e4,e5,e6,e7,e8] at e9
 simp only [e0,e1,e2,e3,e4,e5,e6,e7,e8,e9,e10]
 clear b0 b1 b2 b3 b4 b5 b6 b7 b8 f9 b10 e0 e1 e2 e3 e4 e5 e6 e7 e8 e9 e10 h0 h1 h2 h3 h4 h5 h6 h7 h8 h10
 try dsimp only [mkS]
 try dsimp only [mkP]
 have c10:=k10.frozen
 have cc10:=k10.cell
 clear hdis
 repeat (first | (refine Zf (Zd w5.heap.size) rfl rfl (fun _ _ _ h=>h) ?_;simp only [Act.put,zLa,zLb,zLc]) | (refine Ze (v:=?_) (Zd w5.heap.size) rfl rfl (fun _ _ _ h=>h) ?_ ?_;rotate_left;(· (intro w' hR;(first | have hcells:=Zw ((Zd w5.heap.size).trans _ _ _ hacc hR) | skip);go_simp;try with_reducible rfl));simp only [Act.put,zLa,zLb,zLc]))
 refine Z6 (Zd w5.heap.size) rfl rfl rfl ?_
 go_simp
 have hsg:=Vh (w:=wf) (g:=g10) (.slice (some ⟨g4,0,none⟩) 4 4) (.slice (some ⟨g5,0,none⟩) 3 3) (.slice (some ⟨g6,0,none⟩) 3 3) (.slice (some ⟨g7,0,none⟩) 3 3) (.slice (some ⟨g8,0,none⟩) 8 8)
 have kc:=UJ k10 (.slice (some ⟨g4,0,none⟩) 4 4) (.slice (some ⟨g5,0,none⟩) 3 3) (.slice (some ⟨g6,0,none⟩) 3 3) (.slice (some ⟨g7,0,none⟩) 3 3) (.slice (some ⟨g8,0,none⟩) 8 8)
 have hb5:=hbW.trans hbf
 have hb6:=hb5.trans (Zg hsg hb5.size y10)
 refine ⟨Zg hsg (by have:=hbf.size;omega) y10,?_⟩
 have hE:∀ {a b:Nat},a≠b→some a≠some b:=fun h e=>h (Option.some.inj e)
 replace k0:=k0.grown hsg (hE n0_10)
 replace k1:=k1.grown hsg (hE n1_10)
 replace k2:=k2.grown hsg (hE n2_10)
 replace k3:=k3.grown hsg (hE n3_10)
 replace k4:=k4.grown hsg (hE n4_10)
 replace k5:=k5.grown hsg (hE n5_10)
 replace k6:=k6.grown hsg (hE n6_10)
 replace k7:=k7.grown hsg (hE n7_10)
 replace k8:=k8.grown hsg (hE n8_10)
 replace hr:=ZA ZB _ _ _ _ hb6 hr
 replace kt:=kt.below hb6 kt.lt
 replace kl:=kl.below hb6 kl.lt
 replace hb0:=Za hb0 hb6
 clear hsg c10 cc10 k10 hb5 hb6 hbW hbf hNc hacc HWc
 try simp only [Act.put,zLa,zLb,zLc]
 generalize ((((wf.setCell _ _).setCell _ _).setCell _ _).setCell _ _).setCell _ _=w6 at kc k0 k1 k2 k3 k4 k5 k6 k7 k8 hr kt kl hb0 ⊢
 have hacc:=(Zd w5.heap.size).refl w6
 repeat (first | (refine Zf (Zd w5.heap.size) rfl rfl (fun _ _ _ h=>h) ?_;simp only [Act.put,zLa,zLb,zLc]) | (refine Ze (v:=?_) (Zd w5.heap.size) rfl rfl (fun _ _ _ h=>h) ?_ ?_;rotate_left;(· (intro w' hR;(first | have hcells:=Zw ((Zd w5.heap.size).trans _ _ _ hacc hR) | skip);go_simp;try with_reducible rfl));simp only [Act.put,zLa,zLb,zLc]))
 refine Zt ?_
 have r5:=UG k5 (l:=[0,0,0]) rfl (by decide)
 have r6:=UG k6 (l:=[0,0,0]) rfl (by decide)
 have r7:=UG k7 (l:=[0,0,0]) rfl (by decide)
 have r8:=UG k8 (l:=[0,0,0,0,0,0,0,0]) rfl (by decide)
 have r4:YN w6 [.slice (some ⟨g4,0,none⟩) 4 4] [[0],[0],[0],[0]]:=by
  refine J0 (N:=0) (gb:=none) (f:=fun _=>[0]) (fun k hk=>?_) k4 (by simp [maxLen])
  have h:∀ {b:Nat},Blk w6 b 22 (U64 [0]).toArray→RWx 0 none w6 (.slice (some ⟨b,0,none⟩) 1 1) [0]:=fun k=>GX k rfl (by decide) (by simp [maxLen]) (Nat.zero_le _) (fun e=>by cases e)
  have:k=0∨k=1∨k=2∨k=3:=by omega
  rcases this with rfl | rfl | rfl | rfl
  ·exact ⟨_,rfl,h k0⟩
  ·exact ⟨_,rfl,h k1⟩
  ·exact ⟨_,rfl,h k2⟩
  ·exact ⟨_,rfl,h k3⟩
 clear k0 k1 k2 k3 k4 k5 k6 k7 k8 hacc
 obtain ⟨hms,hb⟩:=msgs4z w6 22 28
 go_upto_region 7 with fail
 replace hr:=ZA ZB _ _ _ _ hb hr
 replace kt:=kt.below hb kt.lt
 replace kl:=kl.below hb kl.lt
 replace kc:=kc.below hb kc.lt
 replace hb0:=Za hb0 hb
 replace r4:=Zx _ _ _ _ hb r4
 replace r5:=Zc _ _ _ _ hb r5
 replace r6:=Zc _ _ _ _ hb r6
 replace r7:=Zc _ _ _ _ hb r7
 replace r8:=Zc _ _ _ _ hb r8
 clear hb
 generalize ((((w6.alloc _).alloc _).alloc _).alloc _).alloc _=w7 at kt kl kc hb0 r4 r5 r6 r7 r8 hr hms ⊢
 go_upto_region 8 with fail
 have kx:=Blk.new w7 57 #[.int .u64 5, .int .u64 6, .int .u64 7]
 have hal:=(Below.refl w7.heap.size w7).alloc (Nat.le_refl _) (.cells #[.int .u64 5, .int .u64 6, .int .u64 7] 57)
 replace hr:=ZA ZB _ _ _ _ hal hr
 replace kt:=kt.below hal kt.lt
 replace kl:=kl.below hal kl.lt
 replace kc:=kc.below hal kc.lt
 replace hb0:=Za hb0 hal
 replace r4:=Zx _ _ _ _ hal r4
 replace r5:=Zc _ _ _ _ hal r5
 replace r6:=Zc _ _ _ _ hal r6
 replace r7:=Zc _ _ _ _ hal r7
 replace r8:=Zc _ _ _ _ hal r8
 replace hms:=Zx _ _ _ _ hal hms
 clear hal
 generalize w7.alloc _=w8 at kt kl kc kx hb0 r4 r5 r6 r7 r8 hr hms ⊢
 generalize w7.heap.size=gx at kx ⊢
 have cl:=kl.cell
 have ct:=kt.cell
 have cc:=kc.cell
 have cx:=kx.cell
 go_wp2_with fail
 refine (HAn.out _ _ _ _ _ _ _ _ hr hms r4 r5 r6 r7 r8).mono ?_
 rintro e w9 ⟨v1,v2,v3,rfl,a1,a2,a3,hb⟩
 obtain ⟨A1,c1,rfl⟩:∃ A c,v1= .slice A 3 c:=by obtain ⟨A,c,h⟩:=ZR a1;exact ⟨A,c,h⟩
 obtain ⟨A2,c2,rfl⟩:∃ A c,v2= .slice A 4 c:=by obtain ⟨A,c,h⟩:=ZR a2;exact ⟨A,c,h⟩
 obtain ⟨A3,c3,rfl⟩:∃ A c,v3= .slice A 5 c:=by obtain ⟨A,c,h⟩:=ZR a3;exact ⟨A,c,h⟩
 replace hr:=ZA ZB _ _ _ _ hb hr
 replace kt:=kt.below hb kt.lt
 replace kl:=kl.below hb kl.lt
 replace kc:=kc.below hb kc.lt
 replace kx:=kx.below hb kx.lt
 replace hb0:=Za hb0 hb
 replace r4:=Zx _ _ _ _ hb r4
 replace r5:=Zc _ _ _ _ hb r5
 replace r6:=Zc _ _ _ _ hb r6
 replace r7:=Zc _ _ _ _ hb r7
 replace r8:=Zc _ _ _ _ hb r8
 clear hb cl ct cc cx hms HAn
 have mk7:∀ w:World,(Instr.makeSlice 28 (.int .i64 7) (.int .i64 7)).run Tryz.prog w= .ok (.slice (some ⟨w.heap.size,0,none⟩) 7 7) (w.alloc (.cells (Zm 7 fun _=>0) 22)):=fun w=>YS 7 (by decide) w
 have mk4:∀ w:World,(Instr.makeSlice 28 (.int .i64 4) (.int .i64 4)).run Tryz.prog w= .ok (.slice (some ⟨w.heap.size,0,none⟩) 4 4) (w.alloc (.cells (Zm 4 fun _=>0) 22)):=fun w=>YS 4 (by decide) w
 have mk5:∀ w:World,(Instr.makeSlice 28 (.int .i64 5) (.int .i64 5)).run Tryz.prog w= .ok (.slice (some ⟨w.heap.size,0,none⟩) 5 5) (w.alloc (.cells (Zm 5 fun _=>0) 22)):=fun w=>YS 5 (by decide) w
 go_upto_region 10 with fail
 have kv:=Blk.new w9 22 (Zm 7 fun _=>0)
 have hw9:w.heap.size≤w9.heap.size:=hb0.size
 have h9:=(Below.refl w9.heap.size w9).alloc (Nat.le_refl _) (.cells (Zm 7 fun _=>0) 22)
 replace hb0:=Za hb0 h9
 generalize w9.alloc _=x1 at kv hb0 h9 ⊢
 obtain ⟨gv,hgv⟩:∃ gv,gv=w9.heap.size:=⟨_,rfl⟩
 rw [←hgv] at kv ⊢
 have hgv9:w9.heap.size≤gv:=by omega
 clear hgv
 have cl:=(kl.below h9 kl.lt).cell
 have cc:=(kc.below h9 kc.lt).cell
 go_wp2_with fail
 refine (HVa.out _ _ _ _ _ _ (ZA Zc _ _ _ _ h9 r4) (Zc _ _ _ _ h9 r5) (Zc _ _ _ _ h9 r6) (Zc _ _ _ _ h9 r7) (Zc _ _ _ _ h9 r8)).mono ?_
 rintro e x2 ⟨rfl,hb⟩
 replace kv:=kv.below hb kv.lt
 replace hb0:=Za hb0 hb
 replace h9:=Za h9 hb
 clear hb cl cc r4 r5 r6 r7 r8 HVa
 have hal:=(Below.refl x2.heap.size x2).alloc (Nat.le_refl _) (.cells (Zm 3 fun _=>0) 22)
 have hz:RWd (x2.alloc (.cells (Zm 3 fun _=>0) 22)) [.slice (some ⟨x2.heap.size,0,none⟩) 3 3] [0,0,0]:=UG (Blk.new _ _ _) rfl (by decide)
 have hz2:=Zc _ _ _ _ (Za h9 hal) a1
 replace kv:=kv.below hal kv.lt
 replace hb0:=Za hb0 hal
 replace h9:=Za h9 hal
 go_wp2_with fail
 refine (HS.out _ _ _ _ _ _ [0,0,0] [0,0,0] _ hz2 hz).mono ?_
 rintro e x2' ⟨rfl,hb⟩
 replace kv:=kv.below hb kv.lt
 replace hb0:=Za hb0 hb
 replace h9:=Za h9 hb
 clear hb hal hz hz2
 rw [show decide (([0,0,0]:List Nat)=[0,0,0])=true by decide]
 have hal:=(Below.refl x2'.heap.size x2').alloc (Nat.le_refl _) (.cells (Zm 4 fun _=>0) 22)
 have hz:RWd (x2'.alloc (.cells (Zm 4 fun _=>0) 22)) [.slice (some ⟨x2'.heap.size,0,none⟩) 4 4] [0,0,0,0]:=UG (Blk.new _ _ _) rfl (by decide)
 have hz2:=Zc _ _ _ _ (Za h9 hal) a2
 replace kv:=kv.below hal kv.lt
 replace hb0:=Za hb0 hal
 replace h9:=Za h9 hal
 go_wp2_with fail
 refine (HS.out _ _ _ _ _ _ [0,0,0,0] [0,0,0,0] _ hz2 hz).mono ?_
 rintro e x2'' ⟨rfl,hb⟩
 replace kv:=kv.below hb kv.lt
 replace hb0:=Za hb0 hb
 replace h9:=Za h9 hb
 clear hb hal hz hz2
 rw [show decide (([0,0,0,0]:List Nat)=[0,0,0,0])=true by decide]
 have hal:=(Below.refl x2''.heap.size x2'').alloc (Nat.le_refl _) (.cells (Zm 5 fun _=>0) 22)
 have hz:RWd (x2''.alloc (.cells (Zm 5 fun _=>0) 22)) [.slice (some ⟨x2''.heap.size,0,none⟩) 5 5] [0,0,0,0,0]:=UG (Blk.new _ _ _) rfl (by decide)
 have hz2:=Zc _ _ _ _ (Za h9 hal) a3
 replace kv:=kv.below hal kv.lt
 replace hb0:=Za hb0 hal
 replace h9:=Za h9 hal
 go_wp2_with fail
 refine (HS.out _ _ _ _ _ _ [0,0,0,0,0] [0,0,0,0,0] _ hz2 hz).mono ?_
 rintro e x2''' ⟨rfl,hb⟩
 replace kv:=kv.below hb kv.lt
 replace hb0:=Za hb0 hb
 replace h9:=Za h9 hb
 clear hb hal hz hz2
 rw [show decide (([0,0,0,0,0]:List Nat)=[0,0,0,0,0])=true by decide]
 have cl:=(kl.below h9 kl.lt).cell
 have ct:=(kt.below h9 kt.lt).cell
 have cx:=(kx.below h9 kx.lt).cell
 have hv:=UG kv (l:=[0,0,0,0,0,0,0]) rfl (by decide)
 go_wp2_with fail
 refine (HCo.out _ _ _ _ _ _ _ _ _ true _ (ZA ZB _ _ _ _ h9 hr) (Zc _ _ _ _ h9 a1) (Zc _ _ _ _ h9 a2) (Zc _ _ _ _ h9 a3) hv aw_col).mono ?_
 rintro e x3 ⟨rfl,hb⟩
 replace kv:=kv.below hb kv.lt
 replace hb0:=Za hb0 hb
 replace h9:=Za h9 hb
 clear hb cl ct cx hv
 have cv:x3.cell? ⟨gv,5,none⟩=some (.int .u64 0):=by rw [kv.cell,Z4 _ (by decide)];rfl
 have fv:=kv.frozen
 go_upto_region 13 with fail
 have hsg:=Yl (w:=x3) gv 5 (.int .u64 1)
 replace kv:=kv.set_ 5 (.int .u64 1)
 replace h9:=h9.trans (Zg hsg h9.size hgv9)
 have hws:w.heap.size≤gv:=Nat.le_trans hw9 hgv9
 replace hb0:=hb0.trans (Zg hsg hb0.size hws)
 clear hsg cv fv
 generalize x3.setCell _ _=x4 at kv h9 hb0 ⊢
 have kv2:Blk x4 gv 22 (Zm 7 (VB (fun _=>0) 5 1)):=by rw [←Y3];exact kv
 have hv:RWd x4 [.slice (some ⟨gv,0,none⟩) 7 7] [0,0,0,0,0,1,0]:=XR kv2 (fun k _=>by unfold VB;split <;> first | decide | exact (by decide:(0:Nat)<18446744073709551616)) (by simp [maxLen])
 have cl:=(kl.below h9 kl.lt).cell
 have ct:=(kt.below h9 kt.lt).cell
 have cx:=(kx.below h9 kx.lt).cell
 go_wp2_with fail
 refine (HCo.out _ _ _ _ _ _ _ _ _ false _ (ZA ZB _ _ _ _ h9 hr) (Zc _ _ _ _ h9 a1) (Zc _ _ _ _ h9 a2) (Zc _ _ _ _ h9 a3) hv aw_not).mono ?_
 rintro e x5 ⟨rfl,hb⟩
 replace hb0:=Za hb0 hb
 go_wp2
 go_ret
 exact ⟨rfl,hb0⟩
end Go.Proofs.YtakjnmojigechaaGreat
