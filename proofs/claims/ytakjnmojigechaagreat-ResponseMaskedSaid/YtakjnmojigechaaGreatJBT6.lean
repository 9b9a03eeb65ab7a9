/-
  ResponseMasked, for every input: the law returns true and leaves its arguments as they were. No condition.
-/
import Derived.Shelf.Spec.BitsCarry
import Derived.Test.YtakjnmojigechaaGreatProg
import Derived.Test.YtakjnmojigechaaGreatJB25
import Derived.Test.YtakjnmojigechaaGreatJB9
import Derived.Test.YtakjnmojigechaaGreatJB23
import Derived.Test.YtakjnmojigechaaGreatJB11
import Derived.Test.YtakjnmojigechaaGreatJB12
import Derived.Test.YtakjnmojigechaaGreatJB10
import Derived.Test.YtakjnmojigechaaGreatJB37
import Derived.Test.YtakjnmojigechaaGreatJB41
import Derived.Test.YtakjnmojigechaaGreatJB44
import Derived.Test.YtakjnmojigechaaGreatJB36
import Derived.Test.YtakjnmojigechaaGreatRows

namespace Go.Proofs.YtakjnmojigechaaGreat
open Go.RowKit
set_option maxRecDepth 100000 in
set_option maxHeartbeats 400000 in
theorem zJi (p:Nat) (w:World) (hp:okP p=true) :
  Calls Tryz.prog 163 #[fv p] w fun e w'=>e= .returned (.int .u64 ((ZJ p).2.2:Int))∧Below w.heap.size w w':=by
 have H:=Lib.hid (fun w=>G8 p w hp)
 clear hp
 unfold fv at *
 generalize ZJ p=r at *
 obtain ⟨a,b,c⟩:=r
 go_enter Tryz.func163,Tryz.ntmps163
 go_wp2_with (go_at_call 128;refine (H.out _).mono ?_;rintro e w1 ⟨rfl,hb⟩)
 go_ret
 exact ⟨rfl,Za ((Below.refl _ _).alloc (Nat.le_refl _) _) hb⟩
set_option maxRecDepth 100000 in
set_option maxHeartbeats 400000 in
theorem zJe (p a n:Nat) (w:World) (hp:okP p=true) (hn:n<18446744073709551616) :
  Calls Tryz.prog 164 #[fv p, .int .u64 a, .int .u64 n] w fun e w'=>e= .returned (.int .u64 ((a^n%p:Nat):Int))∧Below w.heap.size w w':=by
 have hpp:0<p:=by have:=Zr hp;omega
 have HV:=Lib.hid (fun w=>YK p w hp)
 have HA:=Lib.hid (fun w=>Y9 p a w hpp)
 have HS:=Lib.hid (fun w=>yP p (a%p) n w hp (Nat.mod_lt _ hpp) hn)
 rw [←Nat.pow_mod] at HS
 clear hp hpp hn
 generalize a^n%p=r at *
 generalize a%p=x at *
 unfold fv at *
 have hb0:Below w.heap.size w (w.alloc (.cells #[.int .u64 (p:Int)] 96)):=(Below.refl _ _).alloc (Nat.le_refl _) _
 have kf:=Blk.new w 96 #[.int .u64 (p:Int)]
 go_enter Tryz.func164,Tryz.ntmps164
 go_wp2_with fail
 refine (HV.out _).mono ?_
 rintro e' w1 ⟨rfl,hb1⟩
 replace kf:=kf.below hb1 kf.lt
 replace hb0:=Za hb0 hb1
 clear hb1
 have cf:=kf.cell
 have lf:=kf.lt
 go_wp2_with fail
 refine ZF (ZK) (later_moves) [] [] [0,1,2,3,4,5,6] (by kernel_rfl) (by kernel_rfl) ?_
 refine ZG (later_moves) ?_
 intro Wc hacc
 repeat (first | (refine Zl (later_moves) rfl rfl rfl rfl (fun _ _ _ h=>h) ?_;simp only [Act.put,zLa,zLb,zLc]) | (refine Zi (v:=?_) (later_moves) rfl rfl rfl rfl (fun _ _ _ h=>h) ?_ ?_;rotate_left;(· (intro w' hR;(first | have hcells:=Zb ((later_moves).trans _ _ _ hacc hR) | skip);go_simp;try with_reducible rfl));simp only [Act.put,zLa,zLb,zLc]))
 refine Zs (later_moves) rfl rfl rfl rfl (fun _ _ _ h=>h) (fun _=>by go_simp <;> rfl) (fun w' hR=>HA.out _) ?_
 simp only [Act.put,zLa,zLb,zLc]
 repeat (first | (refine Zl (later_moves) rfl rfl rfl rfl (fun _ _ _ h=>h) ?_;simp only [Act.put,zLa,zLb,zLc]) | (refine Zi (v:=?_) (later_moves) rfl rfl rfl rfl (fun _ _ _ h=>h) ?_ ?_;rotate_left;(· (intro w' hR;(first | have hcells:=Zb ((later_moves).trans _ _ _ hacc hR) | skip);go_simp;try with_reducible rfl));simp only [Act.put,zLa,zLb,zLc]))
 refine Zs (later_moves) rfl rfl rfl rfl (fun _ _ _ h=>h) (fun _=>by go_simp <;> rfl) (fun w' hR=>HS.out _) ?_
 simp only [Act.put,zLa,zLb,zLc]
 repeat (first | (refine Zl (later_moves) rfl rfl rfl rfl (fun _ _ _ h=>h) ?_;simp only [Act.put,zLa,zLb,zLc]) | (refine Zi (v:=?_) (later_moves) rfl rfl rfl rfl (fun _ _ _ h=>h) ?_ ?_;rotate_left;(· (intro w' hR;(first | have hcells:=Zb ((later_moves).trans _ _ _ hacc hR) | skip);go_simp;try with_reducible rfl));simp only [Act.put,zLa,zLb,zLc]))
 refine YD rfl ?_
 intro wd hRd
 replace hacc:=(later_moves).trans _ _ _ hacc hRd
 clear hRd
 go_wp2
 go_ret
 exact ⟨rfl,Za hb0.drew hacc⟩
theorem zFz (N:Nat) (gb:Option Nat) (w:World) (cs:Array Value) (f:Nat→List Nat):KG N gb w cs 0 f:=fun k h=>by omega
theorem GI {N:Nat} {gb:Option Nat} {w w':World} {cs:Array Value} {i:Nat} {f:Nat→List Nat} (h:KG N gb w cs i f) (hs:w.heap.size≤w'.heap.size) (hw:∀ b,N≤b→b<w.heap.size→some b≠gb→w'.heap[b]?=w.heap[b]?):KG N gb w' cs i f :=
 fun k hk=>by
  obtain ⟨v,h1,h2⟩:=h k hk
  exact ⟨v,h1,YP h2 hs hw⟩
theorem zBc {N:Nat} {gb:Option Nat} {w w':World} {cs:Array Value} {i:Nat} {f:Nat→List Nat} (h:KG N gb w cs i f) (hb:Below w.heap.size w w'):KG N gb w' cs i f :=
 GI h hb.size fun b _ h2 _=>hb.block b h2
theorem zD2 {N g:Nat} {w w':World} {cs:Array Value} {i:Nat} {f:Nat→List Nat} (h:KG N (some g) w cs i f) (hb:w.grownBy w' (some g)):KG N (some g) w' cs i f :=
 GI h hb.size fun b _ h2 h3=>hb.block b h2 h3
theorem zG2 {N:Nat} {gb:Option Nat} {w:World} {cs:Array Value} {i:Nat} {f:Nat→List Nat} {v:Value} (h:KG N gb w cs i f) (hi:i<cs.size) (hv:RWx N gb w v (f i)):KG N gb w (cs.setIfInBounds i v) (i+1) f:=fun k hk=>by
 by_cases e:i=k
 ·subst e
  exact ⟨v,by simp [hi],hv⟩
 ·obtain ⟨u,h1,h2⟩:=h k (by omega)
  exact ⟨u,by rw [Array.getElem?_setIfInBounds_ne e];exact h1,h2⟩
set_option maxRecDepth 100000 in
set_option maxHeartbeats 400000 in
theorem zDx (p r i:Nat) (w:World) (hp:okP p=true) (hr:r<8) (hi:i<3) :
  Calls Tryz.prog 165 #[.int .u64 p, .int .i64 (r:Int), .int .i64 (i:Int)] w fun e w'=>e= .returned (.int .u64 (Jc p r i:Int))∧Below w.heap.size w w':=by
 have HR:=Lib.hid (fun w=>Vr p (zd (3*r+i+1)) w hp)
 have HC:=Lib.hid (show Jc p r i=zd (3*r+i+1)%p from rfl)
 rw [HC.out]
 clear HC hp
 obtain ⟨k,hk⟩:∃ k,k=3*r+i+1:=⟨_,rfl⟩
 rw [←hk] at HR ⊢
 have g1:(r:Int)<8:=by omega
 have g2:(i:Int)≤2:=by omega
 have e1:3*(r:Int)+(i:Int)+1=(k:Int):=by omega
 have e2:IntKind.u64.wrap (k:Int)=(k:Int):=YJ _ (by omega)
 have e3:IntKind.u64.wrap ((k:Int)*11400714819323198485)=(zd k:Int):=by
  rw [IntKind.wrap_u64]
  have:((k:Int)*11400714819323198485)=((k*11400714819323198485:Nat):Int):=by rw [Int.natCast_mul];rfl
  rw [this]
  rfl
 clear hk hr hi
 generalize zd k%p=m at *
 generalize zd k=z at *
 unfold fv at *
 go_enter Tryz.func165,Tryz.ntmps165
 go_wp2_with fail
 refine (HR.out _).mono ?_
 rintro e w1 ⟨rfl,hb⟩
 go_wp2
 go_ret
 exact ⟨rfl,hb⟩
set_option maxRecDepth 100000 in
set_option maxHeartbeats 400000 in
theorem zHr (p:Nat) (s:St) (w:World) (hp:okP p=true) :
  Calls Tryz.prog 166 #[.int .u64 p,s.val] w fun e w'=>e= .returned (j8 p s).val∧Below w.heap.size w w':=by
 obtain ⟨a,b,c⟩:=s
 have H1:=Lib.hid (fun w=>YX p a b w hp)
 have H2:=Lib.hid (fun w=>YX p ((a+b)%p) c w hp)
 have H3:=Lib.hid (fun w=>YX p a (X9 p ⟨a,b,c⟩) w hp)
 have H4:=Lib.hid (fun w=>YX p b (X9 p ⟨a,b,c⟩) w hp)
 have H5:=Lib.hid (fun w=>YX p c (X9 p ⟨a,b,c⟩) w hp)
 have HM:=Lib.hid (show (j8 p ⟨a,b,c⟩).val= .agg #[.int .u64 (((a+X9 p ⟨a,b,c⟩)%p:Nat):Int), .int .u64 (((b+X9 p ⟨a,b,c⟩)%p:Nat):Int), .int .u64 (((c+X9 p ⟨a,b,c⟩)%p:Nat):Int)] from rfl)
 rw [HM.out]
 have HS:=Lib.hid (show ((a+b)%p+c)%p=X9 p ⟨a,b,c⟩ from rfl)
 rw [HS.out] at H2
 clear HM HS hp
 generalize (a+X9 p ⟨a,b,c⟩)%p=x at *
 generalize (b+X9 p ⟨a,b,c⟩)%p=y at *
 generalize (c+X9 p ⟨a,b,c⟩)%p=z at *
 generalize X9 p ⟨a,b,c⟩=m at *
 generalize (a+b)%p=ab at *
 unfold St.val
 unfold fv at *
 simp only
 obtain ⟨k1,k2,k3,hb0,hsz⟩:=XH w 166 166 96 #[.int .u64 (a:Int), .int .u64 (b:Int), .int .u64 (c:Int)] #[.int .u64 0, .int .u64 0, .int .u64 0] #[.int .u64 (p:Int)]
 go_enter Tryz.func166,Tryz.ntmps166
 go_wp2_with fail
 generalize ((w.alloc _).alloc _).alloc _=w0 at k1 k2 k3 hb0 hsz ⊢
 have c1:=k1.cell
 have c3:=k3.cell
 have l1:=k1.lt
 have l3:=k3.lt
 refine ZF (ZK) (later_moves) [] [] [0,1,2,3,4,5,6,7,8,9,10] (by kernel_rfl) (by kernel_rfl) ?_
 refine ZG (later_moves) ?_
 intro Wc hacc
 repeat (first | (refine Zl (later_moves) rfl rfl rfl rfl (fun _ _ _ h=>h) ?_;simp only [Act.put,zLa,zLb,zLc]) | (refine Zi (v:=?_) (later_moves) rfl rfl rfl rfl (fun _ _ _ h=>h) ?_ ?_;rotate_left;(· (intro w' hR;(first | have hcells:=Zb ((later_moves).trans _ _ _ hacc hR) | skip);go_simp;try with_reducible rfl));simp only [Act.put,zLa,zLb,zLc]))
 refine Zs (later_moves) rfl rfl rfl rfl (fun _ _ _ h=>h) (fun _=>by go_simp <;> rfl) (fun w' hR=>H1.out _) ?_
 simp only [Act.put,zLa,zLb,zLc]
 repeat (first | (refine Zl (later_moves) rfl rfl rfl rfl (fun _ _ _ h=>h) ?_;simp only [Act.put,zLa,zLb,zLc]) | (refine Zi (v:=?_) (later_moves) rfl rfl rfl rfl (fun _ _ _ h=>h) ?_ ?_;rotate_left;(· (intro w' hR;(first | have hcells:=Zb ((later_moves).trans _ _ _ hacc hR) | skip);go_simp;try with_reducible rfl));simp only [Act.put,zLa,zLb,zLc]))
 refine Zs (later_moves) rfl rfl rfl rfl (fun _ _ _ h=>h) (fun _=>by go_simp <;> rfl) (fun w' hR=>H2.out _) ?_
 simp only [Act.put,zLa,zLb,zLc]
 repeat (first | (refine Zl (later_moves) rfl rfl rfl rfl (fun _ _ _ h=>h) ?_;simp only [Act.put,zLa,zLb,zLc]) | (refine Zi (v:=?_) (later_moves) rfl rfl rfl rfl (fun _ _ _ h=>h) ?_ ?_;rotate_left;(· (intro w' hR;(first | have hcells:=Zb ((later_moves).trans _ _ _ hacc hR) | skip);go_simp;try with_reducible rfl));simp only [Act.put,zLa,zLb,zLc]))
 refine YD rfl ?_
 intro wd hRd
 replace hacc:=(later_moves).trans _ _ _ hacc hRd
 clear hRd
 replace k1:=k1.drew.below hacc k1.lt
 replace k2:=k2.drew.below hacc k2.lt
 replace k3:=k3.drew.below hacc k3.lt
 replace hb0:=Za hb0.drew hacc
 have hsw:w.heap.size+1<wd.heap.size:=k2.lt
 clear c1 c3 l1 l3 hacc hsz H1 H2
 have c1:=k1.cell
 have c3:=k3.cell
 have l1:=k1.lt
 have l3:=k3.lt
 go_wp2_with fail
 refine ZF (ZK) (later_moves) [16] [16] [0,1,2,3,4,5,6,7,8,9,10,11,12,13,14,15,16] (by kernel_rfl) (by kernel_rfl) ?_
 refine ZG (later_moves) ?_
 intro Wc hacc
 repeat (first | (refine Zl (later_moves) rfl rfl rfl rfl (fun _ _ _ h=>h) ?_;simp only [Act.put,zLa,zLb,zLc]) | (refine Zi (v:=?_) (later_moves) rfl rfl rfl rfl (fun _ _ _ h=>h) ?_ ?_;rotate_left;(· (intro w' hR;(first | have hcells:=Zb ((later_moves).trans _ _ _ hacc hR) | skip);go_simp;try with_reducible rfl));simp only [Act.put,zLa,zLb,zLc]) | (refine Zu (v:=?_) rfl rfl rfl rfl (fun _ _ _ h=>h) ?_ ?_;rotate_left;(· (intro w';go_simp;try with_reducible rfl));simp only [Act.put,zLa,zLb,zLc]))
 refine Zs (later_moves) rfl rfl rfl rfl (fun _ _ _ h=>h) (fun _=>by go_simp <;> rfl) (fun w' hR=>H3.out _) ?_
 simp only [Act.put,zLa,zLb,zLc]
 repeat (first | (refine Zl (later_moves) rfl rfl rfl rfl (fun _ _ _ h=>h) ?_;simp only [Act.put,zLa,zLb,zLc]) | (refine Zi (v:=?_) (later_moves) rfl rfl rfl rfl (fun _ _ _ h=>h) ?_ ?_;rotate_left;(· (intro w' hR;(first | have hcells:=Zb ((later_moves).trans _ _ _ hacc hR) | skip);go_simp;try with_reducible rfl));simp only [Act.put,zLa,zLb,zLc]) | (refine Zu (v:=?_) rfl rfl rfl rfl (fun _ _ _ h=>h) ?_ ?_;rotate_left;(· (intro w';go_simp;try with_reducible rfl));simp only [Act.put,zLa,zLb,zLc]))
 refine Zs (later_moves) rfl rfl rfl rfl (fun _ _ _ h=>h) (fun _=>by go_simp <;> rfl) (fun w' hR=>H4.out _) ?_
 simp only [Act.put,zLa,zLb,zLc]
 repeat (first | (refine Zl (later_moves) rfl rfl rfl rfl (fun _ _ _ h=>h) ?_;simp only [Act.put,zLa,zLb,zLc]) | (refine Zi (v:=?_) (later_moves) rfl rfl rfl rfl (fun _ _ _ h=>h) ?_ ?_;rotate_left;(· (intro w' hR;(first | have hcells:=Zb ((later_moves).trans _ _ _ hacc hR) | skip);go_simp;try with_reducible rfl));simp only [Act.put,zLa,zLb,zLc]) | (refine Zu (v:=?_) rfl rfl rfl rfl (fun _ _ _ h=>h) ?_ ?_;rotate_left;(· (intro w';go_simp;try with_reducible rfl));simp only [Act.put,zLa,zLb,zLc]))
 refine Zs (later_moves) rfl rfl rfl rfl (fun _ _ _ h=>h) (fun _=>by go_simp <;> rfl) (fun w' hR=>H5.out _) ?_
 simp only [Act.put,zLa,zLb,zLc]
 repeat (first | (refine Zl (later_moves) rfl rfl rfl rfl (fun _ _ _ h=>h) ?_;simp only [Act.put,zLa,zLb,zLc]) | (refine Zi (v:=?_) (later_moves) rfl rfl rfl rfl (fun _ _ _ h=>h) ?_ ?_;rotate_left;(· (intro w' hR;(first | have hcells:=Zb ((later_moves).trans _ _ _ hacc hR) | skip);go_simp;try with_reducible rfl));simp only [Act.put,zLa,zLb,zLc]) | (refine Zu (v:=?_) rfl rfl rfl rfl (fun _ _ _ h=>h) ?_ ?_;rotate_left;(· (intro w';go_simp;try with_reducible rfl));simp only [Act.put,zLa,zLb,zLc]))
 refine Z7 rfl rfl rfl rfl ?_
 intro wh hRh
 replace hacc:=(later_moves).trans _ _ _ hacc hRh
 replace k2:=k2.drew.below hacc k2.lt
 replace hb0:=Za hb0.drew hacc
 have c2:=k2.cell
 have f2:=k2.frozen
 have l2:=k2.lt
 go_simp
 refine ⟨fun h=>Bool.noConfusion h,?_⟩
 have hg:=ZX (w:=wh) (g:=w.heap.size+1) (.int .u64 (x:Int)) (.int .u64 (y:Int)) (.int .u64 (z:Int))
 have kz:=Ye k2 (.int .u64 (x:Int)) (.int .u64 (y:Int)) (.int .u64 (z:Int))
 clear c2 f2 k2
 generalize ((World.setCell wh _ _).setCell _ _).setCell _ _=Wf at hg kz ⊢
 have cz:=kz.cell
 refine Z8 rfl ?_
 go_wp2
 exact bodyPost_ret (v:=.agg #[.int .u64 (x:Int), .int .u64 (y:Int), .int .u64 (z:Int)]) (by simp [results,Tryz.results166,go_sem,cz]) rfl ⟨rfl,hb0.trans (Zg hg (by omega) (by omega))⟩
set_option maxRecDepth 100000 in
set_option maxHeartbeats 1000000 in
theorem G1 (p:Nat) (s:St) (w:World) (hp:okP p=true) :
  Calls Tryz.prog 154 #[.int .u64 p,s.val] w fun e w'=>e= .returned (UQ p s).val∧Below w.heap.size w w':=by
 have HV:=Lib.hid (fun w=>YK p w hp)
 have HE:=Lib.hid (fun w=>zJi p w hp)
 have HC:=Lib.hid (fun r i w hr hi=>zDx p r i w hp hr hi)
 have HA:=Lib.hid (fun a b w=>YX p a b w hp)
 have HP:=Lib.hid (fun a n w hn=>zJe p a n w hp hn)
 have HM:=Lib.hid (fun s w=>zHr p s w hp)
 have hel:=(zCd hp).2
 have HSB:=Lib.hid (show ∀ r i x,Ja p r i x=((x+Jc p r i)%p)^(ZJ p).2.2%p from fun _ _ _=>rfl)
 clear hp
 unfold fv at *
 generalize (ZJ p).2.2=ex at *
 have HEL:=Lib.hid hel
 clear hel
 obtain ⟨k1,k2,k3,hb0,hsz⟩:=XH w 166 166 96 s.cs #[.int .u64 0, .int .u64 0, .int .u64 0] #[.int .u64 (p:Int)]
 have HPO:=Lib.hid (show (UQ p s).val=(VD p s 8).val from rfl)
 rw [HPO.out]
 clear HPO
 unfold St.cs at k1 k2 k3 hb0 hsz
 have ev:s.val= .agg #[.int .u64 (s.a:Int), .int .u64 (s.b:Int), .int .u64 (s.c:Int)]:=rfl
 rw [ev]
 clear ev
 go_enter Tryz.func154,Tryz.ntmps154
 go_wp2_with fail
 generalize ((w.alloc _).alloc _).alloc _=w0 at k1 k2 k3 hb0 hsz ⊢
 refine (HV.out _).mono ?_
 rintro e w1 ⟨rfl,hb1⟩
 replace k1:=k1.below hb1 k1.lt
 replace k2:=k2.below hb1 k2.lt
 replace k3:=k3.below hb1 k3.lt
 replace hb0:=Za hb0 hb1
 clear hb1 hsz
 have c3:=k3.cell
 go_wp2_with fail
 refine (HE.out _).mono ?_
 rintro e w2 ⟨rfl,hb2⟩
 replace k1:Blk w2 w.heap.size 166 (VD p s 0).cs:=k1.below hb2 k1.lt
 replace k2:=k2.below hb2 k2.lt
 replace k3:=k3.below hb2 k3.lt
 replace hb0:=Za hb0 hb2
 clear hb2 c3 HV HE
 go_wp2_with fail
 go_loopw [17] (fun i wr=>∃ r:Nat,r≤8∧i= .int .i64 (r:Int)∧Blk wr w.heap.size 166 (VD p s r).cs∧Blk wr (w.heap.size+1) 166 #[.int .u64 0, .int .u64 0, .int .u64 0]∧Blk wr (w.heap.size+1+1) 96 #[.int .u64 (p:Int)]∧Below w.heap.size w wr) (fun i _=>8-(intOf i).toNat)
 case atStart=>exact ⟨0,Nat.zero_le _,rfl,k1,k2,k3,hb0⟩
 case round =>
  clear k1 k2 k3 hb0
  obtain ⟨r,hr,rfl,k1,k2,k3,hb0⟩:=hrel
  by_cases hlt:r<8
  ·have g1:(r:Int)<8:=by omega
   obtain ⟨t,ht⟩:∃ t,t=VD p s r:=⟨_,rfl⟩
   rw [←ht] at k1
   have HT:=Lib.hid (show VD p s (r+1)=j8 p (yf (Ja p r) t 3) by rw [VD,←ht];rfl)
   clear ht
   go_wp2_with fail
   go_loopw [20] (fun i wr=>∃ m:Nat,m≤3∧i= .int .i64 (m:Int)∧Blk wr w.heap.size 166 (yf (Ja p r) t m).cs∧Blk wr (w.heap.size+1) 166 #[.int .u64 0, .int .u64 0, .int .u64 0]∧Blk wr (w.heap.size+1+1) 96 #[.int .u64 (p:Int)]∧Below w.heap.size w wr) (fun i _=>3-(intOf i).toNat)
   case atStart=>exact ⟨0,Nat.zero_le _,rfl,k1,k2,k3,hb0⟩
   case round =>
    clear k1 k2 k3 hb0
    obtain ⟨m,hm,rfl,k1,k2,k3,hb0⟩:=hrel
    by_cases hlt2:m<3
    ·have g2:(m:Int)<3:=by omega
     have cm:=k1.cell m
     rw [St.cs_at _ hlt2,zFh _ _ hlt2] at cm
     have HSET:=Lib.hid (zA5 (Ja p r) t hlt2)
     have HSV:=Lib.hid (HSB.out r m (t.at_ m))
     have HC1:=Lib.hid (fun w=>HC.out r m w hlt hlt2)
     have HA1:=Lib.hid (fun w=>HA.out (t.at_ m) (Jc p r m) w)
     have HP1:=Lib.hid (fun w=>HP.out ((t.at_ m+Jc p r m)%p) ex w HEL.out)
     rw [←HSV.out] at HP1
     clear HSV
     generalize Ja p r m (t.at_ m)=sv at *
     generalize (t.at_ m+Jc p r m)%p=av at *
     generalize Jc p r m=cv at *
     generalize t.at_ m=xv at *
     have c3:=k3.cell
     have l1:=k1.lt
     have l3:=k3.lt
     go_wp2_with fail
     refine ZF (ZK) (later_moves) [14] [14] [0,1,2,3,4,5,6,7,8,9,10,11,12,13,14] (by kernel_rfl) (by kernel_rfl) ?_
     refine ZG (later_moves) ?_
     intro Wc hacc
     repeat (first | (refine Zl (later_moves) rfl rfl rfl rfl (fun _ _ _ h=>h) ?_;simp only [Act.put,zLa,zLb,zLc]) | (refine Zi (v:=?_) (later_moves) rfl rfl rfl rfl (fun _ _ _ h=>h) ?_ ?_;rotate_left;(· (intro w' hR;(first | have hcells:=Zb ((later_moves).trans _ _ _ hacc hR) | skip);go_simp;try with_reducible rfl));simp only [Act.put,zLa,zLb,zLc]) | (refine Zu (v:=?_) rfl rfl rfl rfl (fun _ _ _ h=>h) ?_ ?_;rotate_left;(· (intro w';go_simp;try with_reducible rfl));simp only [Act.put,zLa,zLb,zLc]))
     refine Zs (later_moves) rfl rfl rfl rfl (fun _ _ _ h=>h) (fun _=>by go_simp <;> rfl) (fun w' hR=>HC1.out _) ?_
     simp only [Act.put,zLa,zLb,zLc]
     repeat (first | (refine Zl (later_moves) rfl rfl rfl rfl (fun _ _ _ h=>h) ?_;simp only [Act.put,zLa,zLb,zLc]) | (refine Zi (v:=?_) (later_moves) rfl rfl rfl rfl (fun _ _ _ h=>h) ?_ ?_;rotate_left;(· (intro w' hR;(first | have hcells:=Zb ((later_moves).trans _ _ _ hacc hR) | skip);go_simp;try with_reducible rfl));simp only [Act.put,zLa,zLb,zLc]) | (refine Zu (v:=?_) rfl rfl rfl rfl (fun _ _ _ h=>h) ?_ ?_;rotate_left;(· (intro w';go_simp;try with_reducible rfl));simp only [Act.put,zLa,zLb,zLc]))
     refine Zs (later_moves) rfl rfl rfl rfl (fun _ _ _ h=>h) (fun _=>by go_simp <;> rfl) (fun w' hR=>HA1.out _) ?_
     simp only [Act.put,zLa,zLb,zLc]
     repeat (first | (refine Zl (later_moves) rfl rfl rfl rfl (fun _ _ _ h=>h) ?_;simp only [Act.put,zLa,zLb,zLc]) | (refine Zi (v:=?_) (later_moves) rfl rfl rfl rfl (fun _ _ _ h=>h) ?_ ?_;rotate_left;(· (intro w' hR;(first | have hcells:=Zb ((later_moves).trans _ _ _ hacc hR) | skip);go_simp;try with_reducible rfl));simp only [Act.put,zLa,zLb,zLc]) | (refine Zu (v:=?_) rfl rfl rfl rfl (fun _ _ _ h=>h) ?_ ?_;rotate_left;(· (intro w';go_simp;try with_reducible rfl));simp only [Act.put,zLa,zLb,zLc]))
     refine Zs (later_moves) rfl rfl rfl rfl (fun _ _ _ h=>h) (fun _=>by go_simp <;> rfl) (fun w' hR=>HP1.out _) ?_
     simp only [Act.put,zLa,zLb,zLc]
     repeat (first | (refine Zl (later_moves) rfl rfl rfl rfl (fun _ _ _ h=>h) ?_;simp only [Act.put,zLa,zLb,zLc]) | (refine Zi (v:=?_) (later_moves) rfl rfl rfl rfl (fun _ _ _ h=>h) ?_ ?_;rotate_left;(· (intro w' hR;(first | have hcells:=Zb ((later_moves).trans _ _ _ hacc hR) | skip);go_simp;try with_reducible rfl));simp only [Act.put,zLa,zLb,zLc]) | (refine Zu (v:=?_) rfl rfl rfl rfl (fun _ _ _ h=>h) ?_ ?_;rotate_left;(· (intro w';go_simp;try with_reducible rfl));simp only [Act.put,zLa,zLb,zLc]))
     refine Z7 rfl rfl rfl rfl ?_
     intro wh hRh
     replace hacc:=(later_moves).trans _ _ _ hacc hRh
     replace k1:=k1.drew.below hacc k1.lt
     replace k2:=k2.drew.below hacc k2.lt
     replace k3:=k3.drew.below hacc k3.lt
     replace hb0:=Za hb0.drew hacc
     have f1:=k1.frozen m
     have cm2:wh.cell? ⟨w.heap.size,m,none⟩=some (.int .u64 (xv:Int)):=xi hacc cm
     clear c3 l1 l3 cm
     go_simp
     refine ⟨fun h=>Bool.noConfusion h,?_⟩
     have hg:wh.grownBy (wh.setCell ⟨w.heap.size,m,none⟩ (.int .u64 (sv:Int))) (some w.heap.size):=ZC (p:=⟨w.heap.size,m,none⟩) (Zv wh _) (.inl rfl) _
     replace k1:=k1.set_ m (.int .u64 (sv:Int))
     rw [HSET.out] at k1
     replace k2:=k2.grown hg (fun e=>by have:=Option.some.inj e;omega)
     replace k3:=k3.grown hg (fun e=>by have:=Option.some.inj e;omega)
     replace hb0:=hb0.trans (Zg hg hb0.size (Nat.le_refl _))
     clear hg f1 cm2
     generalize wh.setCell _ _=Wf at k1 k2 k3 hb0 ⊢
     refine Z8 rfl ?_
     go_wp2
     go_roundw
     case rel=>exact ⟨m+1,by omega,by go_num,k1,k2,k3,hb0⟩
     case measure=>simp [intOf];omega
    ·obtain rfl:m=3:=by omega
     obtain ⟨q,hq⟩:∃ q,q=yf (Ja p r) t 3:=⟨_,rfl⟩
     rw [←hq] at k1 HT
     clear hq
     have k1':Blk wr w.heap.size 166 #[.int .u64 (q.a:Int), .int .u64 (q.b:Int), .int .u64 (q.c:Int)]:=k1
     obtain ⟨z,hz⟩:∃ z,z=j8 p q:=⟨_,rfl⟩
     rw [←hz] at HT
     have HM1:=Lib.hid (show ∀ w,Calls Tryz.prog 166 #[.int .u64 p, .agg #[.int .u64 (q.a:Int), .int .u64 (q.b:Int), .int .u64 (q.c:Int)]] w fun e w'=>e= .returned (.agg #[.int .u64 (z.a:Int), .int .u64 (z.b:Int), .int .u64 (z.c:Int)])∧Below w.heap.size w w' from fun w=>by rw [hz];exact HM.out q w)
     clear hz k1
     have c1:=k1'.cell
     go_wp2_with fail
     refine (HM1.out _).mono ?_
     rintro e w5 ⟨rfl,hb5⟩
     replace k1':=k1'.below hb5 k1'.lt
     replace k2:=k2.below hb5 k2.lt
     replace k3:=k3.below hb5 k3.lt
     replace hb0:=Za hb0 hb5
     clear hb5 c1
     have c1:=k1'.cell
     have f1:=k1'.frozen
     go_wp2_with fail
     have hg:=ZX (w:=w5) (g:=w.heap.size) (.int .u64 (z.a:Int)) (.int .u64 (z.b:Int)) (.int .u64 (z.c:Int))
     have kz:=Ye k1' (.int .u64 (z.a:Int)) (.int .u64 (z.b:Int)) (.int .u64 (z.c:Int))
     replace k2:=k2.grown hg (fun e=>by have:=Option.some.inj e;omega)
     replace k3:=k3.grown hg (fun e=>by have:=Option.some.inj e;omega)
     replace hb0:=hb0.trans (Zg hg hb0.size (Nat.le_refl _))
     clear hg c1 f1 k1'
     generalize ((World.setCell w5 _ _).setCell _ _).setCell _ _=Wf at kz k2 k3 hb0 ⊢
     go_roundw
     case rel=>exact ⟨r+1,by omega,by go_num,by rw [HT.out];exact kz,k2,k3,hb0⟩
     case measure=>simp [intOf];omega
  ·obtain rfl:r=8:=by omega
   obtain ⟨q,hq⟩:∃ q,q=VD p s 8:=⟨_,rfl⟩
   rw [←hq] at k1
   have HQ:=Lib.hid hq
   clear hq
   have k1':Blk wr w.heap.size 166 #[.int .u64 (q.a:Int), .int .u64 (q.b:Int), .int .u64 (q.c:Int)]:=k1
   have c1:=k1'.cell
   have c2:=k2.cell
   have f2:=k2.frozen
   go_wp2_with fail
   have hg:=ZX (w:=wr) (g:=w.heap.size+1) (.int .u64 (q.a:Int)) (.int .u64 (q.b:Int)) (.int .u64 (q.c:Int))
   have kz:=Ye k2 (.int .u64 (q.a:Int)) (.int .u64 (q.b:Int)) (.int .u64 (q.c:Int))
   clear c1 c2 f2 k2
   generalize ((World.setCell wr _ _).setCell _ _).setCell _ _=Wf at hg kz ⊢
   have cz:=kz.cell
   have hs:=hb0.size
   exact bodyPost_ret (v:=.agg #[.int .u64 (q.a:Int), .int .u64 (q.b:Int), .int .u64 (q.c:Int)]) (by simp [results,Tryz.results154,go_sem,cz]) rfl ⟨by rw [←HQ.out];rfl,hb0.trans (Zg hg hs (by omega))⟩
set_option maxRecDepth 100000 in
set_option maxHeartbeats 1000000 in
theorem zCe (p label:Nat) (A:Option Addr) (n c:Nat) (l:List Nat) (w:World) (hp:okP p=true) (hl:RWd w [.slice A n c] l) (hne:0<l.length) (hlen:l.length≤1000000) :
  Calls Tryz.prog 153 #[.int .u64 p, .int .u64 label, .slice A n c] w fun e w'=>e= .returned (XG p label l).val∧Below w.heap.size w w':=by
 obtain ⟨rfl,h1,h2,hlt,hrd⟩:=Zy hl
 have gm:=YR h1 h2
 have HMu:=Lib.hid (fun w=>XI p label 65536 w hp)
 have HA0:=Lib.hid (fun w=>YX p (label*65536%p) l.length w hp)
 have HA:=Lib.hid (fun a b w=>YX p a b w hp)
 have HP:=Lib.hid (fun s w=>G1 p s w hp)
 have HF:=Lib.hid (show XG p label l=J1 p (l.drop 0) ⟨0,0,(label*65536%p+l.length)%p⟩ from rfl)
 have ew:IntKind.u64.wrap (l.length:Int)=(l.length:Int):=YJ _ (by omega)
 generalize XG p label l=fin at *
 generalize (label*65536%p+l.length)%p=c0 at *
 generalize label*65536%p=m0 at *
 unfold fv at *
 clear hl h1 h2 hp
 have d0:((l.length:Int) == 0)=false:=by rw [beq_eq_false_iff_ne];omega
 obtain ⟨kr,kf,hb0,hsz⟩:=YB w 166 96 #[.int .u64 0, .int .u64 0, .int .u64 0] #[.int .u64 (p:Int)]
 go_enter Tryz.func153,Tryz.ntmps153
 go_wp2_with fail
 generalize (w.alloc _).alloc _=w0 at kr kf hb0 hsz ⊢
 have cf:=kf.cell
 have lf:=kf.lt
 refine ZF (ZK) (later_moves) [9,10] [10] [0,1,2,3,4,5,6,7,8,9,10] (by kernel_rfl) (by kernel_rfl) ?_
 refine ZG (later_moves) ?_
 intro Wc hacc
 repeat (first | (refine Zl (later_moves) rfl rfl rfl rfl (fun _ _ _ h=>h) ?_;simp only [Act.put,zLa,zLb,zLc]) | (refine Zi (v:=?_) (later_moves) rfl rfl rfl rfl (fun _ _ _ h=>h) ?_ ?_;rotate_left;(· (intro w' hR;(first | have hcells:=Zb ((later_moves).trans _ _ _ hacc hR) | skip);go_simp;try with_reducible rfl));simp only [Act.put,zLa,zLb,zLc]) | (refine Zu (v:=?_) rfl rfl rfl rfl (fun _ _ _ h=>h) ?_ ?_;rotate_left;(· (intro w';go_simp;try with_reducible rfl));simp only [Act.put,zLa,zLb,zLc]))
 refine Zs (later_moves) rfl rfl rfl rfl (fun _ _ _ h=>h) (fun _=>by go_simp <;> rfl) (fun w' hR=>HMu.out _) ?_
 simp only [Act.put,zLa,zLb,zLc]
 repeat (first | (refine Zl (later_moves) rfl rfl rfl rfl (fun _ _ _ h=>h) ?_;simp only [Act.put,zLa,zLb,zLc]) | (refine Zi (v:=?_) (later_moves) rfl rfl rfl rfl (fun _ _ _ h=>h) ?_ ?_;rotate_left;(· (intro w' hR;(first | have hcells:=Zb ((later_moves).trans _ _ _ hacc hR) | skip);go_simp;try with_reducible rfl));simp only [Act.put,zLa,zLb,zLc]) | (refine Zu (v:=?_) rfl rfl rfl rfl (fun _ _ _ h=>h) ?_ ?_;rotate_left;(· (intro w';go_simp;try with_reducible rfl));simp only [Act.put,zLa,zLb,zLc]))
 refine Zs (later_moves) rfl rfl rfl rfl (fun _ _ _ h=>h) (fun _=>by go_simp <;> rfl) (fun w' hR=>HA0.out _) ?_
 simp only [Act.put,zLa,zLb,zLc]
 repeat (first | (refine Zl (later_moves) rfl rfl rfl rfl (fun _ _ _ h=>h) ?_;simp only [Act.put,zLa,zLb,zLc]) | (refine Zi (v:=?_) (later_moves) rfl rfl rfl rfl (fun _ _ _ h=>h) ?_ ?_;rotate_left;(· (intro w' hR;(first | have hcells:=Zb ((later_moves).trans _ _ _ hacc hR) | skip);go_simp;try with_reducible rfl));simp only [Act.put,zLa,zLb,zLc]) | (refine Zu (v:=?_) rfl rfl rfl rfl (fun _ _ _ h=>h) ?_ ?_;rotate_left;(· (intro w';go_simp;try with_reducible rfl));simp only [Act.put,zLa,zLb,zLc]))
 refine Z7 rfl rfl rfl rfl ?_
 intro wh hRh
 replace hacc:=(later_moves).trans _ _ _ hacc hRh
 go_simp
 refine ⟨fun _=>(Below.refl _ _).alloc (Nat.le_refl _) _,?_⟩
 replace kr:=kr.drew.below hacc kr.lt
 replace kf:=kf.drew.below hacc kf.lt
 replace hb0:=Za hb0.drew hacc
 have hsw:w.heap.size+1<wh.heap.size:=kf.lt
 have hal:=(Below.refl wh.heap.size wh).alloc (Nat.le_refl _) (.cells #[.int .u64 0, .int .u64 0, .int .u64 0] 166)
 have ks:=Blk.new wh 166 #[.int .u64 0, .int .u64 0, .int .u64 0]
 replace kr:=kr.below hal kr.lt
 replace kf:=kf.below hal kf.lt
 replace hb0:=Za hb0 hal
 clear hacc hal cf lf hsz hRh
 try simp only [Act.put,zLa,zLb,zLc]
 generalize wh.alloc _=w2 at kr kf hb0 ks ⊢
 generalize wh.heap.size=g at ks hsw ⊢
 have hacc:=later_moves.refl w2
 refine Z7 rfl rfl rfl rfl ?_
 intro wh hRh
 replace hacc:=(later_moves).trans _ _ _ hacc hRh
 replace kr:=kr.below hacc kr.lt
 replace kf:=kf.below hacc kf.lt
 replace ks:=ks.below hacc ks.lt
 replace hb0:=Za hb0 hacc
 have c2:=ks.cell
 have f2:=ks.frozen
 go_simp
 refine ⟨fun h=>Bool.noConfusion h,?_⟩
 have hg:=ZX (w:=wh) (g:=g) (.int .u64 0) (.int .u64 0) (.int .u64 (c0:Int))
 have kz:=Ye ks (.int .u64 0) (.int .u64 0) (.int .u64 (c0:Int))
 replace kr:=kr.grown hg (fun e=>by have:=Option.some.inj e;omega)
 replace kf:=kf.grown hg (fun e=>by have:=Option.some.inj e;omega)
 replace hb0:=hb0.trans (Zg hg hb0.size (by omega))
 clear c2 f2 ks hg hacc hRh
 generalize ((World.setCell wh _ _).setCell _ _).setCell _ _=w4 at kz kr kf hb0 ⊢
 have ks:Blk w4 g 166 (St.mk 0 0 c0).cs:=kz
 clear kz
 refine Z8 rfl ?_
 go_wp2_with fail
 go_loopw [9] (fun y wr=>∃ (i:Nat) (q:St),i≤l.length+1∧y= .int .i64 (i:Int)∧Blk wr w.heap.size 166 #[.int .u64 0, .int .u64 0, .int .u64 0]∧Blk wr (w.heap.size+1) 96 #[.int .u64 (p:Int)]∧Blk wr g 166 q.cs∧Below w.heap.size w wr∧Hid (J1 p (l.drop i) q=fin)) (fun y _=>l.length-(intOf y).toNat)
 case atStart=>exact ⟨0,⟨0,0,c0⟩,by omega,rfl,kr,kf,ks,hb0,HF.out.symm⟩
 case round =>
  clear kr kf ks hb0
  obtain ⟨i,q,hi,rfl,kr,kf,ks,hb0,HI⟩:=hrel
  obtain ⟨qa,qb,qc⟩:=q
  have ks2:Blk wr g 166 #[.int .u64 (qa:Int), .int .u64 (qb:Int), .int .u64 (qc:Int)]:=ks
  replace ks:=ks2
  clear ks2
  by_cases hi1:i<l.length
  ·have hx:=kh hlt hi1
   obtain ⟨bb,bq,eA,hbl,cl⟩:=Ym (hrd.below hb0) hi1
   have HLT:=Lib.hid hlt
   have HRD:=Lib.hid hrd
   have HI1:=Lib.hid hi1
   have g1:(0:Int)≤(i:Int):=by omega
   have g2:(i:Int)<(l.length:Int):=by omega
   by_cases hi2:i+1<l.length
   ·obtain ⟨bb2,bq2,eA2,hbl2,cl2⟩:=Ym (hrd.below hb0) hi2
    have HD:=Lib.hid (xb hi2)
    obtain ⟨i1,hi1e⟩:∃ i1,i1=i+1:=⟨_,rfl⟩
    have e1:(i:Int)+1=(i1:Int):=by omega
    have e2:IntKind.i64.wrap ((i:Int)+1)=(i1:Int):=by rw [IntKind.wrap_i64];omega
    have e3:IntKind.i64.wrap (i1:Int)=(i1:Int):=by rw [IntKind.wrap_i64];omega
    have g4:(0:Int)≤(i1:Int):=by omega
    have g3:(i1:Int)<(l.length:Int):=by omega
    have HI2:=Lib.hid (show i1<l.length by omega)
    have HI1E:=Lib.hid hi1e
    rw [eA] at eA2
    have eA3:=Option.some.inj eA2
    injection eA3 with e5 e6
    subst e5 e6
    subst eA
    clear eA2 hbl2
    have HIF:=Lib.hid (show J1 p (l.getD i 0 :: l.getD (i+1) 0 :: l.drop (i+2)) ⟨qa,qb,qc⟩=fin by rw [←HD.out];exact HI.out)
    clear HD hlt hrd hi2 hx hi1e
    obtain ⟨y,hy⟩:∃ y,y=l.getD (i+1) 0:=⟨_,rfl⟩
    generalize l.getD i 0=x at *
    rw [←hy] at HIF cl2
    have HY:=Lib.hid hy.symm
    clear hy
    have HA1:=Lib.hid (fun w=>HA.out qa x w)
    have HA2:=Lib.hid (fun w=>HA.out qb y w)
    obtain ⟨na,hna⟩:∃ na,na=(qa+x)%p:=⟨_,rfl⟩
    obtain ⟨nb,hnb⟩:∃ nb,nb=(qb+y)%p:=⟨_,rfl⟩
    rw [←hna] at HA1
    rw [←hnb] at HA2
    obtain ⟨z,hz⟩:∃ z,z=UQ p ⟨na,nb,qc⟩:=⟨_,rfl⟩
    have HX:=Lib.hid (show ∀ w,Calls Tryz.prog 154 #[.int .u64 p, .agg #[.int .u64 (na:Int), .int .u64 (nb:Int), .int .u64 (qc:Int)]] w fun e w'=>e= .returned (.agg #[.int .u64 (z.a:Int), .int .u64 (z.b:Int), .int .u64 (z.c:Int)])∧Below w.heap.size w w' from fun w=>by rw [hz];exact HP.out ⟨na,nb,qc⟩ w)
    have HZ:=Lib.hid (show J1 p (l.drop (i+2)) z=fin by rw [hz];rw [hna,hnb];exact HIF.out)
    clear hz
    clear HIF hna hnb
    have cs:=ks.cell
    have ls:=ks.lt
    have cf:=kf.cell
    have lf:=kf.lt
    have cl2H:=Lib.hid cl2
    clear cl2
    go_wp2_with fail
    refine ZF (ZK) (later_moves) [9] [9] [0,1,2,3,4,5,6,7,8,9] (by kernel_rfl) (by kernel_rfl) ?_
    refine ZG (later_moves) ?_
    intro Wc hacc
    repeat (first | (refine Zl (later_moves) rfl rfl rfl rfl (fun _ _ _ h=>h) ?_;simp only [Act.put,zLa,zLb,zLc]) | (refine Zi (v:=?_) (later_moves) rfl rfl rfl rfl (fun _ _ _ h=>h) ?_ ?_;rotate_left;(· (intro w' hR;(first | have hcells:=Zb ((later_moves).trans _ _ _ hacc hR) | skip);go_simp;try with_reducible rfl));simp only [Act.put,zLa,zLb,zLc]) | (refine Zu (v:=?_) rfl rfl rfl rfl (fun _ _ _ h=>h) ?_ ?_;rotate_left;(· (intro w';go_simp;try with_reducible rfl));simp only [Act.put,zLa,zLb,zLc]))
    refine Zs (later_moves) rfl rfl rfl rfl (fun _ _ _ h=>h) (fun _=>by go_simp <;> rfl) (fun w' hR=>HA1.out _) ?_
    simp only [Act.put,zLa,zLb,zLc]
    repeat (first | (refine Zl (later_moves) rfl rfl rfl rfl (fun _ _ _ h=>h) ?_;simp only [Act.put,zLa,zLb,zLc]) | (refine Zi (v:=?_) (later_moves) rfl rfl rfl rfl (fun _ _ _ h=>h) ?_ ?_;rotate_left;(· (intro w' hR;(first | have hcells:=Zb ((later_moves).trans _ _ _ hacc hR) | skip);go_simp;try with_reducible rfl));simp only [Act.put,zLa,zLb,zLc]) | (refine Zu (v:=?_) rfl rfl rfl rfl (fun _ _ _ h=>h) ?_ ?_;rotate_left;(· (intro w';go_simp;try with_reducible rfl));simp only [Act.put,zLa,zLb,zLc]))
    refine Z7 rfl rfl rfl rfl ?_
    intro wh hRh
    replace hacc:=(later_moves).trans _ _ _ hacc hRh
    replace kr:=kr.drew.below hacc kr.lt
    replace ks:=ks.drew.below hacc ks.lt
    replace kf:=kf.drew.below hacc kf.lt
    replace hb0:=Za hb0.drew hacc
    clear cs cf lf ls hacc hRh cl
    have c2:=ks.cell
    have f2:=ks.frozen
    go_simp
    refine ⟨fun h=>Bool.noConfusion h,?_⟩
    have hg:wh.grownBy (wh.setCell ⟨g,0,none⟩ (.int .u64 (na:Int))) (some g):=ZC (p:=⟨g,0,none⟩) (Zv wh _) (.inl rfl) _
    replace ks:=ks.set_ 0 (.int .u64 (na:Int))
    simp at ks
    replace kr:=kr.grown hg (fun e=>by have:=Option.some.inj e;omega)
    replace kf:=kf.grown hg (fun e=>by have:=Option.some.inj e;omega)
    replace hb0:=hb0.trans (Zg hg hb0.size (by omega))
    clear hg c2 f2
    generalize wh.setCell _ _=Wf0 at ks kr hb0 kf ⊢
    refine Z8 rfl ?_
    have cl2:Wf0.cell? ⟨bb,bq+i1,none⟩=some (.int .u64 (y:Int)):=by obtain ⟨b3,q3,e3,-,h3⟩:=Ym (HRD.out.below hb0) HI2.out;have e4:=Option.some.inj e3;injection e4 with e5 e6;subst e5 e6;rw [h3,HI1E.out,HY.out]
    have hbl2:bb<Wf0.heap.size:=World.block_lt_of_cell? _ _ cl2
    have cs:=ks.cell
    have ls:=ks.lt
    have cf:=kf.cell
    have lf:=kf.lt
    go_wp2_with fail
    refine ZF (ZK) (later_moves) [10] [10] [0,1,2,3,4,5,6,7,8,9,10] (by kernel_rfl) (by kernel_rfl) ?_
    refine ZG (later_moves) ?_
    intro Wc hacc
    repeat (first | (refine Zl (later_moves) rfl rfl rfl rfl (fun _ _ _ h=>h) ?_;simp only [Act.put,zLa,zLb,zLc]) | (refine Zi (v:=?_) (later_moves) rfl rfl rfl rfl (fun _ _ _ h=>h) ?_ ?_;rotate_left;(· (intro w' hR;(first | have hcells:=Zb ((later_moves).trans _ _ _ hacc hR) | skip);go_simp;try with_reducible rfl));simp only [Act.put,zLa,zLb,zLc]) | (refine Zu (v:=?_) rfl rfl rfl rfl (fun _ _ _ h=>h) ?_ ?_;rotate_left;(· (intro w';go_simp;try with_reducible rfl));simp only [Act.put,zLa,zLb,zLc]))
    refine Zs (later_moves) rfl rfl rfl rfl (fun _ _ _ h=>h) (fun _=>by go_simp <;> rfl) (fun w' hR=>HA2.out _) ?_
    simp only [Act.put,zLa,zLb,zLc]
    repeat (first | (refine Zl (later_moves) rfl rfl rfl rfl (fun _ _ _ h=>h) ?_;simp only [Act.put,zLa,zLb,zLc]) | (refine Zi (v:=?_) (later_moves) rfl rfl rfl rfl (fun _ _ _ h=>h) ?_ ?_;rotate_left;(· (intro w' hR;(first | have hcells:=Zb ((later_moves).trans _ _ _ hacc hR) | skip);go_simp;try with_reducible rfl));simp only [Act.put,zLa,zLb,zLc]) | (refine Zu (v:=?_) rfl rfl rfl rfl (fun _ _ _ h=>h) ?_ ?_;rotate_left;(· (intro w';go_simp;try with_reducible rfl));simp only [Act.put,zLa,zLb,zLc]))
    refine Z7 rfl rfl rfl rfl ?_
    intro wh hRh
    replace hacc:=(later_moves).trans _ _ _ hacc hRh
    replace kr:=kr.drew.below hacc kr.lt
    replace ks:=ks.drew.below hacc ks.lt
    replace kf:=kf.drew.below hacc kf.lt
    replace hb0:=Za hb0.drew hacc
    clear cs cf lf ls hacc hRh cl2
    have c2:=ks.cell
    have f2:=ks.frozen
    go_simp
    refine ⟨fun h=>Bool.noConfusion h,?_⟩
    have hg:wh.grownBy (wh.setCell ⟨g,1,none⟩ (.int .u64 (nb:Int))) (some g):=ZC (p:=⟨g,1,none⟩) (Zv wh _) (.inl rfl) _
    replace ks:=ks.set_ 1 (.int .u64 (nb:Int))
    simp at ks
    replace kr:=kr.grown hg (fun e=>by have:=Option.some.inj e;omega)
    replace kf:=kf.grown hg (fun e=>by have:=Option.some.inj e;omega)
    replace hb0:=hb0.trans (Zg hg hb0.size (by omega))
    clear hg c2 f2
    generalize wh.setCell _ _=Wf1 at ks kr hb0 kf ⊢
    refine Z8 rfl ?_
    have cs:=ks.cell
    go_wp2_with fail
    refine (HX.out _).mono ?_
    rintro e w5 ⟨rfl,hb5⟩
    replace kr:=kr.below hb5 kr.lt
    replace ks:=ks.below hb5 ks.lt
    replace kf:=kf.below hb5 kf.lt
    replace hb0:=Za hb0 hb5
    clear cs hb5
    have cs:=ks.cell
    have fs:=ks.frozen
    go_wp2_with fail
    have hg:=ZX (w:=w5) (g:=g) (.int .u64 (z.a:Int)) (.int .u64 (z.b:Int)) (.int .u64 (z.c:Int))
    have kz:=Ye ks (.int .u64 (z.a:Int)) (.int .u64 (z.b:Int)) (.int .u64 (z.c:Int))
    replace kr:=kr.grown hg (fun e=>by have:=Option.some.inj e;omega)
    replace kf:=kf.grown hg (fun e=>by have:=Option.some.inj e;omega)
    replace hb0:=hb0.trans (Zg hg hb0.size (by omega))
    clear hg cs fs ks
    generalize ((World.setCell w5 _ _).setCell _ _).setCell _ _=Wz at kz kr hb0 kf ⊢
    go_roundw
    case rel=>exact ⟨i+2,z,by omega,by go_num,kr,kf,kz,hb0,HZ.out⟩
    case measure=>simp [intOf];omega
   ·have hi3:i+1=l.length:=by omega
    have HD:=Lib.hid (yE hi3)
    have g3:¬((i:Int)+1<(l.length:Int)):=by omega
    subst eA
    have HIF:=Lib.hid (show J1 p [l.getD i 0] ⟨qa,qb,qc⟩=fin by rw [←HD.out];exact HI.out)
    have HDN:=Lib.hid (show l.drop (i+2)=[] from List.drop_of_length_le (by omega))
    clear HD hlt hrd hx
    generalize l.getD i 0=x at *
    have HA1:=Lib.hid (fun w=>HA.out qa x w)
    obtain ⟨na,hna⟩:∃ na,na=(qa+x)%p:=⟨_,rfl⟩
    rw [←hna] at HA1
    obtain ⟨z,hz⟩:∃ z,z=UQ p ⟨na,qb,qc⟩:=⟨_,rfl⟩
    have HX:=Lib.hid (show ∀ w,Calls Tryz.prog 154 #[.int .u64 p, .agg #[.int .u64 (na:Int), .int .u64 (qb:Int), .int .u64 (qc:Int)]] w fun e w'=>e= .returned (.agg #[.int .u64 (z.a:Int), .int .u64 (z.b:Int), .int .u64 (z.c:Int)])∧Below w.heap.size w w' from fun w=>by rw [hz];exact HP.out ⟨na,qb,qc⟩ w)
    have HZ:=Lib.hid (show J1 p (l.drop (i+2)) z=fin by rw [hz];rw [HDN.out,hna];exact HIF.out)
    clear hz
    clear HIF HDN hi2 hi3 hna
    have cs:=ks.cell
    have ls:=ks.lt
    have cf:=kf.cell
    have lf:=kf.lt
    go_wp2_with fail
    refine ZF (ZK) (later_moves) [9] [9] [0,1,2,3,4,5,6,7,8,9] (by kernel_rfl) (by kernel_rfl) ?_
    refine ZG (later_moves) ?_
    intro Wc hacc
    repeat (first | (refine Zl (later_moves) rfl rfl rfl rfl (fun _ _ _ h=>h) ?_;simp only [Act.put,zLa,zLb,zLc]) | (refine Zi (v:=?_) (later_moves) rfl rfl rfl rfl (fun _ _ _ h=>h) ?_ ?_;rotate_left;(· (intro w' hR;(first | have hcells:=Zb ((later_moves).trans _ _ _ hacc hR) | skip);go_simp;try with_reducible rfl));simp only [Act.put,zLa,zLb,zLc]) | (refine Zu (v:=?_) rfl rfl rfl rfl (fun _ _ _ h=>h) ?_ ?_;rotate_left;(· (intro w';go_simp;try with_reducible rfl));simp only [Act.put,zLa,zLb,zLc]))
    refine Zs (later_moves) rfl rfl rfl rfl (fun _ _ _ h=>h) (fun _=>by go_simp <;> rfl) (fun w' hR=>HA1.out _) ?_
    simp only [Act.put,zLa,zLb,zLc]
    repeat (first | (refine Zl (later_moves) rfl rfl rfl rfl (fun _ _ _ h=>h) ?_;simp only [Act.put,zLa,zLb,zLc]) | (refine Zi (v:=?_) (later_moves) rfl rfl rfl rfl (fun _ _ _ h=>h) ?_ ?_;rotate_left;(· (intro w' hR;(first | have hcells:=Zb ((later_moves).trans _ _ _ hacc hR) | skip);go_simp;try with_reducible rfl));simp only [Act.put,zLa,zLb,zLc]) | (refine Zu (v:=?_) rfl rfl rfl rfl (fun _ _ _ h=>h) ?_ ?_;rotate_left;(· (intro w';go_simp;try with_reducible rfl));simp only [Act.put,zLa,zLb,zLc]))
    refine Z7 rfl rfl rfl rfl ?_
    intro wh hRh
    replace hacc:=(later_moves).trans _ _ _ hacc hRh
    replace kr:=kr.drew.below hacc kr.lt
    replace ks:=ks.drew.below hacc ks.lt
    replace kf:=kf.drew.below hacc kf.lt
    replace hb0:=Za hb0.drew hacc
    clear cs cf lf ls hacc hRh cl
    have c2:=ks.cell
    have f2:=ks.frozen
    go_simp
    refine ⟨fun h=>Bool.noConfusion h,?_⟩
    have hg:wh.grownBy (wh.setCell ⟨g,0,none⟩ (.int .u64 (na:Int))) (some g):=ZC (p:=⟨g,0,none⟩) (Zv wh _) (.inl rfl) _
    replace ks:=ks.set_ 0 (.int .u64 (na:Int))
    simp at ks
    replace kr:=kr.grown hg (fun e=>by have:=Option.some.inj e;omega)
    replace kf:=kf.grown hg (fun e=>by have:=Option.some.inj e;omega)
    replace hb0:=hb0.trans (Zg hg hb0.size (by omega))
    clear hg c2 f2
    generalize wh.setCell _ _=Wf0 at ks kr hb0 kf ⊢
    refine Z8 rfl ?_
    have cs:=ks.cell
    go_wp2_with fail
    refine (HX.out _).mono ?_
    rintro e w5 ⟨rfl,hb5⟩
    replace kr:=kr.below hb5 kr.lt
    replace ks:=ks.below hb5 ks.lt
    replace kf:=kf.below hb5 kf.lt
    replace hb0:=Za hb0 hb5
    clear cs hb5
    have cs:=ks.cell
    have fs:=ks.frozen
    go_wp2_with fail
    have hg:=ZX (w:=w5) (g:=g) (.int .u64 (z.a:Int)) (.int .u64 (z.b:Int)) (.int .u64 (z.c:Int))
    have kz:=Ye ks (.int .u64 (z.a:Int)) (.int .u64 (z.b:Int)) (.int .u64 (z.c:Int))
    replace kr:=kr.grown hg (fun e=>by have:=Option.some.inj e;omega)
    replace kf:=kf.grown hg (fun e=>by have:=Option.some.inj e;omega)
    replace hb0:=hb0.trans (Zg hg hb0.size (by omega))
    clear hg cs fs ks
    generalize ((World.setCell w5 _ _).setCell _ _).setCell _ _=Wz at kz kr hb0 kf ⊢
    go_roundw
    case rel=>exact ⟨i+2,z,by omega,by go_num,kr,kf,kz,hb0,HZ.out⟩
    case measure=>simp [intOf];omega
  ·have HQ:=Lib.hid (show (⟨qa,qb,qc⟩:St)=fin by have:=HI.out;rw [List.drop_of_length_le (by omega)] at this;exact this)
   have g2:¬((i:Int)<(l.length:Int)):=by omega
   have cs:=ks.cell
   have cr:=kr.cell
   have fr:=kr.frozen
   clear hrd hlt
   go_wp2_with fail
   have hg:=ZX (w:=wr) (g:=w.heap.size) (.int .u64 (qa:Int)) (.int .u64 (qb:Int)) (.int .u64 (qc:Int))
   have kz:=Ye kr (.int .u64 (qa:Int)) (.int .u64 (qb:Int)) (.int .u64 (qc:Int))
   clear cs cr fr kr ks
   generalize ((World.setCell wr _ _).setCell _ _).setCell _ _=Wz at hg kz ⊢
   have cz:=kz.cell
   exact bodyPost_ret (v:=.agg #[.int .u64 (qa:Int), .int .u64 (qb:Int), .int .u64 (qc:Int)]) (by simp [results,Tryz.results153,go_sem,cz]) rfl ⟨by rw [←HQ.out];rfl,hb0.trans (Zg hg hb0.size (Nat.le_refl _))⟩
theorem ku (f:Nat→Nat) (n k:Nat):Zm n (VB (fun i=>if i<k then f i else 0) k (f k))=Zm n fun i=>if i<k+1 then f i else 0:=by
 refine Yx fun i _=>?_
 simp only [VB]
 by_cases h:i=k
 ·subst h;rw [if_pos rfl,if_pos (by omega)]
 ·rw [if_neg h]
  by_cases h2:i<k
  ·rw [if_pos h2,if_pos (by omega)]
  ·rw [if_neg h2,if_neg (by omega)]
set_option maxRecDepth 100000 in
set_option maxHeartbeats 1000000 in
theorem kK (p label:Nat) (A:Option Addr) (n c m:Nat) (l:List Nat) (w:World) (hp:okP p=true) (hl:RWd w [.slice A n c] l) (hne:0<l.length) (hlen:l.length≤1000000) (hm:m≤65536) :
  Calls Tryz.prog 131 #[.int .u64 p, .int .u64 label, .slice A n c, .int .i64 (m:Int)] w fun e w'=>∃ g,e= .returned (.slice (some ⟨g,0,none⟩) m m)∧w.heap.size≤g∧Blk w' g 22 (Zm m (Ul p (XG p label l)))∧Below w.heap.size w w':=by
 have HV:=Lib.hid (fun w=>YK p w hp)
 have HAb:=Lib.hid (fun w' (hb:Below w.heap.size w w')=>zCe p label A n c l w' hp (Zc _ _ _ _ hb hl) hne hlen)
 have HP:=Lib.hid (fun s w=>G1 p s w hp)
 have hmk:=fun w=>YS m (by omega) w
 have g0:¬((m:Int)<0):=by omega
 have g1:(m:Int)≤65536:=by omega
 clear hl hne hlen hp
 generalize XG p label l=s at *
 unfold fv at *
 go_enter Tryz.func131,Tryz.ntmps131
 go_wp2_with fail
 refine (HV.out _).mono ?_
 rintro e w1 ⟨rfl,hb1⟩
 go_wp2_with fail
 refine (HAb.out _ hb1).mono ?_
 rintro e w2 ⟨rfl,hb2⟩
 have hb0:=Za hb1 hb2
 have ev:s.val= .agg #[.int .u64 (s.a:Int), .int .u64 (s.b:Int), .int .u64 (s.c:Int)]:=rfl
 rw [ev]
 obtain ⟨ks0,kg,hba,hsz⟩:=YB w2 166 22 #[.int .u64 (s.a:Int), .int .u64 (s.b:Int), .int .u64 (s.c:Int)] (Zm m fun _=>0)
 have hs2:=hb0.size
 replace hb0:=Za hb0 hba
 clear ev hb1 hb2 hba
 generalize hz:Zm m (fun _=>0)=zc at *
 go_upto_region 5 with fail
 generalize (w2.alloc _).alloc _=w3 at ks0 kg hb0 hsz ⊢
 generalize w2.heap.size=gs at *
 clear hsz
 have ks:Blk w3 gs 166 (GA p s ((0-1) / 2)).cs:=ks0
 rw [←hz,show Zm m (fun _=>0)=Zm m (fun k=>if k<0 then Ul p s k else 0) from Yx fun i _=>by rw [if_neg (by omega)]] at kg
 clear hz ks0
 go_wp2_with fail
 go_loopw [32] (fun y wr=>∃ i:Nat,i≤m∧y= .int .i64 (i:Int)∧Blk wr gs 166 (GA p s ((i-1) / 2)).cs∧Blk wr (gs+1) 22 (Zm m fun k=>if k<i then Ul p s k else 0)∧Below w.heap.size w wr) (fun y _=>m-(intOf y).toNat)
 case atStart=>exact ⟨0,Nat.zero_le _,rfl,ks,kg,hb0⟩
 case round =>
  clear ks kg hb0
  obtain ⟨i,hi,rfl,ks,kg,hb0⟩:=hrel
  by_cases hlt:i<m
  ·have g2:(i:Int)<(m:Int):=by omega
   have g3:(0:Int)≤(i:Int):=by omega
   obtain ⟨sv,hsv⟩:∃ sv,sv=Ul p s i:=⟨_,rfl⟩
   obtain ⟨j,hj⟩:∃ j,j=i%2:=⟨_,rfl⟩
   have hj3:j<3:=by omega
   have ej:(i:Int)%2=(j:Int):=by omega
   have ej2:(i:Int).tmod 2=(j:Int):=by rw [Int.tmod_eq_emod_of_nonneg (by omega)];exact ej
   have HSQ:=Lib.hid (show (GA p s (i / 2)).at_ j=sv by rw [hj,hsv];rfl)
   have HSV:=Lib.hid hsv.symm
   clear hsv
   rcases (show i=0∨i%2=1∨(0<i∧i%2=0) by omega) with h0 | h1 | ⟨h2,h3⟩
   ·have d1:¬((0:Int)<(i:Int)):=by omega
    have d2:decide ((0:Int)<(i:Int))=false:=decide_eq_false d1
    rw [show (i-1) / 2=i / 2 by omega] at ks
    have H0:=Lib.hid h0
    clear h0 hj
    have cj:=ks.cell j
    rw [St.cs_at _ hj3] at cj
    have ci:=kg.cell i
    rw [Z4 _ hlt] at ci
    rw [HSQ.out] at cj
    have fi:=kg.frozen i
    generalize (if i<i then Ul p s i else 0)=old at ci
    go_wp2_with fail
    have hg:wr.grownBy (wr.setCell ⟨gs+1,i,none⟩ (.int .u64 (sv:Int))) (some (gs+1)):=ZC (p:=⟨gs+1,i,none⟩) (Zv wr _) (.inl rfl) _
    replace kg:=kg.set_ i (.int .u64 (sv:Int))
    have HN:(Zm m fun k=>if k<i then Ul p s k else 0).setIfInBounds i (.int .u64 (sv:Int))=Zm m (fun k=>if k<i+1 then Ul p s k else 0):=by rw [Y3,←HSV.out,ku]
    rw [HN] at kg
    replace ks:=ks.grown hg (fun e=>by have:=Option.some.inj e;omega)
    replace hb0:=hb0.trans (Zg hg hb0.size (by omega))
    clear hg fi ci cj
    go_roundw
    case rel=>exact ⟨i+1,by omega,by go_num,by rw [show (i+1-1) / 2=i / 2 by omega];exact ks,kg,hb0⟩
    case measure=>simp [intOf];omega
   ·have d1:(0:Int)<(i:Int):=by omega
    have d3:((j:Int) == 0)=false:=by rw [beq_eq_false_iff_ne];omega
    rw [show (i-1) / 2=i / 2 by omega] at ks
    clear h1 hj
    have cj:=ks.cell j
    rw [St.cs_at _ hj3] at cj
    have ci:=kg.cell i
    rw [Z4 _ hlt] at ci
    rw [HSQ.out] at cj
    have fi:=kg.frozen i
    generalize (if i<i then Ul p s i else 0)=old at ci
    go_wp2_with fail
    have hg:wr.grownBy (wr.setCell ⟨gs+1,i,none⟩ (.int .u64 (sv:Int))) (some (gs+1)):=ZC (p:=⟨gs+1,i,none⟩) (Zv wr _) (.inl rfl) _
    replace kg:=kg.set_ i (.int .u64 (sv:Int))
    have HN:(Zm m fun k=>if k<i then Ul p s k else 0).setIfInBounds i (.int .u64 (sv:Int))=Zm m (fun k=>if k<i+1 then Ul p s k else 0):=by rw [Y3,←HSV.out,ku]
    rw [HN] at kg
    replace ks:=ks.grown hg (fun e=>by have:=Option.some.inj e;omega)
    replace hb0:=hb0.trans (Zg hg hb0.size (by omega))
    clear hg fi ci cj
    go_roundw
    case rel=>exact ⟨i+1,by omega,by go_num,by rw [show (i+1-1) / 2=i / 2 by omega];exact ks,kg,hb0⟩
    case measure=>simp [intOf];omega
   ·have d1:(0:Int)<(i:Int):=by omega
    have d3:((j:Int) == 0)=true:=by rw [beq_iff_eq];omega
    obtain ⟨q,hq⟩:∃ q,q=GA p s ((i-1) / 2):=⟨_,rfl⟩
    rw [←hq] at ks
    obtain ⟨z,hz⟩:∃ z,z=UQ p q:=⟨_,rfl⟩
    have HZ:=Lib.hid (show GA p s (i / 2)=z by rw [show i / 2=(i-1) / 2+1 by omega,GA,←hq,hz])
    have HX:=Lib.hid (show ∀ w,Calls Tryz.prog 154 #[.int .u64 p, .agg #[.int .u64 (q.a:Int), .int .u64 (q.b:Int), .int .u64 (q.c:Int)]] w fun e w'=>e= .returned (.agg #[.int .u64 (z.a:Int), .int .u64 (z.b:Int), .int .u64 (z.c:Int)])∧Below w.heap.size w w' from fun w=>by rw [hz];exact HP.out q w)
    have ks2:Blk wr gs 166 #[.int .u64 (q.a:Int), .int .u64 (q.b:Int), .int .u64 (q.c:Int)]:=ks
    clear h2 h3 hj hq hz ks
    have cs:=ks2.cell
    go_wp2_with fail
    refine (HX.out _).mono ?_
    rintro e w5 ⟨rfl,hb5⟩
    replace ks2:=ks2.below hb5 ks2.lt
    replace kg:=kg.below hb5 kg.lt
    replace hb0:=Za hb0 hb5
    clear cs hb5
    have cs:=ks2.cell
    have fs:=ks2.frozen
    go_upto_region 10 with fail
    have hg:=ZX (w:=w5) (g:=gs) (.int .u64 (z.a:Int)) (.int .u64 (z.b:Int)) (.int .u64 (z.c:Int))
    have ks:Blk _ gs 166 z.cs:=Ye ks2 (.int .u64 (z.a:Int)) (.int .u64 (z.b:Int)) (.int .u64 (z.c:Int))
    replace kg:=kg.grown hg (fun e=>by have:=Option.some.inj e;omega)
    replace hb0:=hb0.trans (Zg hg hb0.size (by omega))
    clear hg cs fs ks2
    generalize ((World.setCell w5 _ _).setCell _ _).setCell _ _=W8 at ks kg hb0 ⊢
    rw [←HZ.out] at ks
    have cj:=ks.cell j
    rw [St.cs_at _ hj3] at cj
    have ci:=kg.cell i
    rw [Z4 _ hlt] at ci
    rw [HSQ.out] at cj
    have fi:=kg.frozen i
    generalize (if i<i then Ul p s i else 0)=old at ci
    go_wp2_with fail
    have hg:W8.grownBy (W8.setCell ⟨gs+1,i,none⟩ (.int .u64 (sv:Int))) (some (gs+1)):=ZC (p:=⟨gs+1,i,none⟩) (Zv W8 _) (.inl rfl) _
    replace kg:=kg.set_ i (.int .u64 (sv:Int))
    have HN:(Zm m fun k=>if k<i then Ul p s k else 0).setIfInBounds i (.int .u64 (sv:Int))=Zm m (fun k=>if k<i+1 then Ul p s k else 0):=by rw [Y3,←HSV.out,ku]
    rw [HN] at kg
    replace ks:=ks.grown hg (fun e=>by have:=Option.some.inj e;omega)
    replace hb0:=hb0.trans (Zg hg hb0.size (by omega))
    clear hg fi ci cj
    go_roundw
    case rel=>exact ⟨i+1,by omega,by go_num,by rw [show (i+1-1) / 2=i / 2 by omega];exact ks,kg,hb0⟩
    case measure=>simp [intOf];omega
  ·obtain rfl:i=m:=by omega
   rw [show Zm i (fun k=>if k<i then Ul p s k else 0)=Zm i (Ul p s) from Yx fun k hk=>by rw [if_pos hk]] at kg
   go_wp2
   go_ret
   exact ⟨gs+1,rfl,by omega,kg,hb0⟩
theorem JW {P:Program} {x:Sem Next} {w:World} {K:Value→World→Prop} {f:FuncId} {vals:Array Value} {post:Ending→World→Prop} (h:x.run P w= .ok (.enter f vals) w) (hc:Calls P f vals w post) (hK:∀ e w',post e w'→∃ v,e= .returned v∧K v w'):Ve P x w K:=.inr (.inr ⟨f,vals,h,hc.mono hK⟩)
section
variable {P:Program} {l:List Oper} {Q:Exit→Act→World→Prop} {R:World→World→Prop} {T:List Ks} {p:Nat→xT} {B:Nat} {X:Nat→Prop} {w0:World} {a0:Act} {L0:Array Bool}
end
section
variable {P:Program} {l:List Oper} {Q:Exit→Act→World→Prop} {R:World→World→Prop} {rest:List Nat} {fuel i:Nat} {o:Oper} {listed:Array Bool} {a:Act} {w:World}
end
section
variable {P:Program} {l:List Oper} {Q:Exit→Act→World→Prop} {R:World→World→Prop} {T:List Ks} {ps:List (Nat × xT)} {B:Nat} {w0:World} {a0:Act} {L0:Array Bool}
theorem Kk {B g:Nat} {w w':World} {F:Nat→Nat→Prop} {eat:List Nat} (h:w.grownBy w' (some g)) (hg:B≤g) (hB:B≤w.heap.size) {j:Nat} (hj:j∈eat) (hF:F j g):VQ B w w' F eat :=
 ⟨Zg h hB hg,fun b hb hn=>h.block b hb fun e=>hn j hj (by rw [Option.some.inj e];exact hF)⟩
end
section
variable {p:Nat→xT} {B:Nat} {X:Nat→Prop} {w0:World} {s:Ks}
end
set_option maxRecDepth 100000 in
set_option maxHeartbeats 1000000 in
theorem xj (x:Nat) (r:List Nat) (m g:Nat) (w:World) (kg:Blk w g 22 (U64 (x :: r)).toArray) (hx:∀ y∈x :: r,y<18446744073709551616) (hr:r.length≤1000) (hm:m≤65536) :
  Calls Tryz.prog 78 #[.int .i64 (m:Int), .slice (some ⟨g,0,none⟩) (r.length+1) (r.length+1)] w fun e w'=>∃ g',e= .returned (.slice (some ⟨g',0,none⟩) m m)∧w.heap.size≤g'∧Blk w' g' 22 (Zm m (GN x r))∧w.grownBy w' (some g):=by
 have HR:=Lib.hid (fun w=>Vr Xq x w zIf)
 have hq:x%Xq<18446744073709551616:=Nat.lt_of_le_of_lt (Nat.mod_le _ _) (hx x (by simp))
 obtain ⟨y,hy⟩:∃ y,y=x%Xq:=⟨_,rfl⟩
 have HD:=Lib.hid (show GN x r=Ul Xq (XG Xq 22 (y :: r)) by rw [hy];rfl)
 rw [←hy] at HR hq
 rw [HD.out]
 have HS:=Lib.hid (fun w (k:Blk w g 22 (U64 (y :: r)).toArray)=>kK Xq 22 (some ⟨g,0,none⟩) (y :: r).length (y :: r).length m (y :: r) w zIf (zm k (fun z hz=>by
  rcases List.mem_cons.1 hz with rfl | h
  ·exact hq
  ·exact hx z (by simp [h])) (by simp [maxLen];omega)) (by simp) (by simp;omega) hm)
 have HST:=Lib.hid (show (U64 (x :: r)).toArray.setIfInBounds 0 (.int .u64 (y:Int))=(U64 (y :: r)).toArray by simp [U64])
 have hc0:w.cell? ⟨g,0,none⟩=some (.int .u64 (x:Int)):=by rw [kg.cell];simp [U64]
 have n1:(0:Int)<((r.length+1:Nat):Int):=by omega
 have n2:0<r.length+1:=by omega
 simp only [List.length_cons] at HS
 clear hy hq hx HD
 generalize r.length+1=n at *
 generalize Ul Xq (XG Xq 22 (y :: r))=fs at *
 unfold Xq fv at *
 have lg:=kg.lt
 go_enter Tryz.func78,Tryz.ntmps78
 go_wp2_with fail
 refine (HR.out _).mono ?_
 rintro e w1 ⟨rfl,hb1⟩
 replace kg:=kg.below hb1 lg
 have hc1:w1.cell? ⟨g,0,none⟩=some (.int .u64 (x:Int)):=(Below.cell hb1 lg).trans hc0
 have f1:=kg.frozen 0
 clear hc0
 go_upto_region 2 with fail
 have hg:w1.grownBy (w1.setCell ⟨g,0,none⟩ (.int .u64 (y:Int))) (some g):=ZC (p:=⟨g,0,none⟩) (Zv w1 _) (.inl rfl) _
 replace kg:=kg.set_ 0 (.int .u64 (y:Int))
 rw [HST.out] at kg
 have hgr:=Yy (ZI (Zv w (some g)) hb1 (Nat.le_refl _)) hg (fun _ e=>.inl e)
 have hs1:=hgr.size
 clear hg f1 hc1 hb1
 generalize w1.setCell _ _=w2 at kg hgr hs1 ⊢
 go_wp2_with fail
 refine (HS.out _ kg).mono ?_
 rintro e w3 ⟨g',rfl,hg',kg',hb3⟩
 go_wp2
 go_ret
 exact ⟨g',rfl,by omega,kg',ZI hgr hb3 hs1⟩
set_option maxRecDepth 100000 in
set_option maxHeartbeats 1000000 in
theorem zAi (L:ZO) (x:Nat) (r:List Nat) (m g:Nat) (w:World) (hp:okP L.p=true) (kg:Blk w g 22 (U64 (x :: r)).toArray) (hx:∀ y∈x :: r,y<18446744073709551616) (hr:r.length≤1000) (hm:m≤65536) :
  Calls Tryz.prog 77 #[.agg (Zz L), .int .i64 (m:Int), .slice (some ⟨g,0,none⟩) (r.length+1) (r.length+1)] w fun e w'=>∃ g',e= .returned (.slice (some ⟨g',0,none⟩) m m)∧w.heap.size≤g'∧Blk w' g' 22 (Zm m (zE3 L.p x r))∧w.grownBy w' (some g):=by
 have HD:=Lib.hid (fun w k=>xj x r m g w k hx hr hm)
 have HR:=Lib.hid (fun n w=>Vr L.p n w hp)
 have lg:=kg.lt
 obtain ⟨kl,kf,hba,hsz⟩:=YB w 55 96 (Zz L) #[.int .u64 (L.p:Int)]
 have kg2:=kg.below hba lg
 have HF:=Lib.hid (fun k hk=>Z4 (n:=m) (f:=GN x r) (k:=k) hk)
 have hfp:zE3 L.p x r=fun k=>GN x r k%L.p:=rfl
 rw [hfp]
 clear hx hr hfp
 generalize r.length+1=n at *
 generalize GN x r=fs at *
 generalize (U64 (x :: r)).toArray=us at *
 unfold Zz fv at *
 generalize L.p=p at *
 go_enter Tryz.func77,Tryz.ntmps77
 go_wp2_with fail
 generalize (w.alloc _).alloc _=w2 at kf kg2 hba hsz ⊢
 clear kl kg
 refine (HD.out _ kg2).mono ?_
 rintro e w3 ⟨g',rfl,hg',kg',hgr⟩
 replace kf:=kf.grown hgr (fun e=>by have:=Option.some.inj e;omega)
 replace hgr:w.grownBy w3 (some g):=Yy (ZI (Zv w (some g)) hba (Nat.le_refl _)) hgr (fun _ e=>.inl e)
 rw [show Zm m fs=Zm m (fun k=>if k<0 then fs k%p else fs k) from Yx fun i _=>by rw [if_neg (by omega)]] at kg'
 clear kg2
 go_wp2_with fail
 go_loopw [19] (fun y wr=>∃ i:Nat,i≤m∧y= .int .i64 (i:Int)∧Blk wr (w.heap.size+1) 96 #[.int .u64 (p:Int)]∧Blk wr g' 22 (Zm m fun k=>if k<i then fs k%p else fs k)∧w.grownBy wr (some g)) (fun y _=>m-(intOf y).toNat)
 case atStart=>exact ⟨0,Nat.zero_le _,rfl,kf,kg',hgr⟩
 case round =>
  clear kf kg' hgr
  obtain ⟨i,hi,rfl,kf,kg',hgr⟩:=hrel
  by_cases hlt:i<m
  ·have g2:(i:Int)<(m:Int):=by omega
   have g3:(0:Int)≤(i:Int):=by omega
   have ci:=kg'.cell i
   rw [Z4 _ hlt,if_neg (Nat.lt_irrefl i)] at ci
   have cf:=kf.cell
   obtain ⟨fi,hfi⟩:∃ fi,fi=fs i:=⟨_,rfl⟩
   obtain ⟨z,hz⟩:∃ z,z=fi%p:=⟨_,rfl⟩
   have HZ:=Lib.hid (show fs i%p=z by rw [←hfi,hz])
   have HX:=Lib.hid (fun w=>by have:=HR.out fi w;rw [←hz] at this;exact this)
   rw [←hfi] at ci
   clear hfi hz
   go_wp2_with fail
   refine (HX.out _).mono ?_
   rintro e w5 ⟨rfl,hb5⟩
   replace kf:=kf.below hb5 kf.lt
   replace kg':=kg'.below hb5 kg'.lt
   have hgr5:w.grownBy w5 (some g):=ZI hgr hb5 hgr.size
   clear ci cf hgr hb5
   have fi2:=kg'.frozen i
   have ci2:=kg'.cell i
   rw [Z4 _ hlt] at ci2
   generalize (if i<i then fs i%p else fs i)=old at ci2
   go_wp2_with fail
   have hg:w5.grownBy (w5.setCell ⟨g',i,none⟩ (.int .u64 (z:Int))) (some g'):=ZC (p:=⟨g',i,none⟩) (Zv w5 _) (.inl rfl) _
   replace kf:=kf.grown hg (fun e=>by have:=Option.some.inj e;omega)
   replace kg':=kg'.set_ i (.int .u64 (z:Int))
   have HN:(Zm m fun k=>if k<i then fs k%p else fs k).setIfInBounds i (.int .u64 (z:Int))=Zm m (fun k=>if k<i+1 then fs k%p else fs k):=by
    rw [Y3]
    refine Yx fun k _=>?_
    simp only [VB]
    by_cases h:k=i
    ·subst h;rw [if_pos rfl,if_pos (by omega),HZ.out]
    ·rw [if_neg h]
     by_cases h2:k<i
     ·rw [if_pos h2,if_pos (by omega)]
     ·rw [if_neg h2,if_neg (by omega)]
   rw [HN] at kg'
   have hgr6:=Yy hgr5 hg (fun b e=>by have:=Option.some.inj e;subst this;exact .inr (by omega))
   clear hgr5 hg fi2 ci2
   go_roundw
   case rel=>exact ⟨i+1,by omega,by go_num,kf,kg',hgr6⟩
   case measure=>simp [intOf];omega
  ·obtain rfl:i=m:=by omega
   rw [show Zm i (fun k=>if k<i then fs k%p else fs k)=Zm i (fun k=>fs k%p) from Yx fun k hk=>by rw [if_pos hk]] at kg'
   go_wp2
   go_ret
   exact ⟨g',rfl,by omega,kg',hgr⟩
theorem zGa (x:Nat) (r:List Nat) (m:Nat):Zm m (GN x r)=(U64 (Yb Xq x r m)).toArray:=by
 rw [VJ]
 unfold Yb
 congr 2
 exact List.map_congr_left fun k _=>(Nat.mod_eq_of_lt (zFj Xq 22 _ k (by decide))).symm
theorem KV (p x:Nat) (r:List Nat) (m:Nat):Zm m (zE3 p x r)=(U64 (Yb p x r m)).toArray:=VJ _ _
set_option maxRecDepth 100000 in
set_option maxHeartbeats 2000000 in
theorem je (L:ZO) (s:Nat) (w:World) (hL:ZU L) (hs:s<18446744073709551616) :
  Calls Tryz.prog 30 #[.agg (Zz L), .int .u64 s] w fun e w'=>∃ v0 v1 v2 v3 v4,e= .returned (.agg #[v0,v1,v2,v3,v4])∧YN w' [v0] (Yo L s (L.a+L.b+L.b+L.b))∧RWd w' [v1] (Yb L.p s [1] L.k)∧RWd w' [v2] (Yb L.p s [2] (L.k+L.block-2))∧RWd w' [v3] (Yb L.p s [3] (L.block+2*L.queries-1))∧RWd w' [v4] (Yb Xq s [4] L.n)∧Below w.heap.size w w':=by
 have hpp:=Zr hL.p
 have HT:=Lib.hid (fun w=>VN L.p L.block L.queries L.k L.n L.secret L.rows L.a L.b L.b L.b w hL.a hL.b hL.b hL.b)
 have HC:=Lib.hid (fun w=>zi L w hL)
 have hT4:L.a+L.b+L.b+L.b≤400000:=by have:=hL.a;have:=hL.b;omega
 have hq2:=hL.q2
 have q1:=hL.b1
 have q2:=hL.b2
 have q3:=hL.q1
 have q5:=hL.k
 have q6:=hL.n2
 have u1:L.k≤65536:=by omega
 have u2:L.k+L.block-2≤65536:=by omega
 have u3:L.block+2*L.queries-1≤65536:=by omega
 have u4:L.n≤65536:=by omega
 have HS:=Lib.hid (fun r m g w kg hx hr hm=>zAi L s r m g w hL.p kg hx hr hm)
 have HD:=Lib.hid (fun r m g w kg hx hr hm=>xj s r m g w kg hx hr hm)
 generalize L.a+L.b+L.b+L.b=T at *
 generalize L.k+L.block-2=m2 at *
 generalize L.block+2*L.queries-1=m3 at *
 clear q1 q2 q3 q5 q6
 unfold Zz at *
 go_enter Tryz.func30,Tryz.ntmps30
 go_upto_region 1 with fail
 obtain ⟨kl,kz,hb0,hsz⟩:=YB w 55 42 #[.int .u64 (L.p:Int), .int .i64 (L.block:Int), .int .i64 (L.queries:Int), .int .i64 (L.k:Int), .int .i64 (L.n:Int), .int .i64 (L.secret:Int), .int .i64 (L.rows:Int), .int .i64 (L.a:Int), .int .i64 (L.b:Int), .int .i64 (L.b:Int), .int .i64 (L.b:Int)] #[.slice none 0 0, .slice none 0 0, .slice none 0 0, .slice none 0 0, .slice none 0 0]
 generalize (w.alloc _).alloc _=w2 at kl kz hb0 hsz ⊢
 have cl:=kl.cell
 go_wp2_with fail
 refine (HC.out _).mono ?_
 rintro e w3 ⟨rfl,hb3⟩
 replace kl:=kl.below hb3 kl.lt
 replace kz:=kz.below hb3 kz.lt
 have hsz3:w.heap.size+1<w3.heap.size:=by have:=hb3.size;omega
 replace hb0:=Za hb0 hb3
 clear cl hb3 HC hsz
 go_upto_region 2 with fail
 have cl:=kl.cell
 have kn:=Blk.new w3 123 #[.int .i64 (L.k:Int), .int .i64 (m2:Int), .int .i64 (m3:Int)]
 have hal:=(Below.refl w3.heap.size w3).alloc (Nat.le_refl _) (.cells #[.int .i64 (L.k:Int), .int .i64 (m2:Int), .int .i64 (m3:Int)] 123)
 replace kl:=kl.below hal kl.lt
 replace kz:=kz.below hal kz.lt
 replace hb0:=Za hb0 hal
 have hsz4:w.heap.size+1<w3.heap.size∧w3.heap.size+1=(w3.alloc (.cells #[.int .i64 (L.k:Int), .int .i64 (m2:Int), .int .i64 (m3:Int)] 123)).heap.size:=⟨hsz3,by simp⟩
 clear hal cl hsz3
 generalize w3.alloc _=w4 at kl kz kn hb0 hsz4 ⊢
 generalize w3.heap.size=gn at kn hsz4 ⊢
 obtain ⟨hs1,hs2⟩:=hsz4
 have cl:=kl.cell
 have cn:=kn.cell
 have l1:w.heap.size<w4.heap.size:=by omega
 have l2:gn<w4.heap.size:=by omega
 refine zH (UY w4.heap.size) [0,4,5,6,7,10,11,12,13,16,17,18,19,22,23,24] 14 (by kernel_rfl) (by kernel_rfl) ?_
 refine GM (Zd w4.heap.size) ?_
 intro Wc HWc hacc
 repeat (first | (refine xg (Zd w4.heap.size) rfl rfl (fun _ _ _ h=>h) ?_;simp only [Act.put,zLa,zLb,zLc]) | (refine zy (v:=?_) (Zd w4.heap.size) rfl rfl (fun _ _ _ h=>h) ?_ ?_;rotate_left;(· (intro w' hR;(first | have hcells:=Zw ((Zd w4.heap.size).trans _ _ _ hacc hR) | skip);go_simp;try with_reducible rfl));simp only [Act.put,zLa,zLb,zLc]))
 have hbW:Below w4.heap.size w4 Wc:=by rw [HWc.out];exact (Below.refl _ _).drew
 have hNc:w4.heap.size≤Wc.heap.size:=hbW.size
 refine kZ (Zd w4.heap.size) [⟨1,[],[]⟩,⟨2,[1],[]⟩,⟨3,[2],[]⟩,⟨8,[],[]⟩,⟨9,[8],[8]⟩,⟨14,[],[]⟩,⟨15,[14],[14]⟩,⟨20,[],[]⟩,⟨21,[20],[20]⟩,⟨25,[],[]⟩,⟨26,[25],[25]⟩,⟨27,[3,9,15,21,26],[]⟩,⟨28,[],[]⟩] [(1,Ug (fun _=>.int .i64 (T:Int)) 1),(2,Ug (fun _=>.int .i64 (T:Int)) 2),(3,ZW 28 (fun _=>Array.replicate T (.slice none 0 0)) (mkS T) 3),(8,ZW 22 (fun _=>#[.int .u64 (s:Int), .int .u64 1]) (mkS 2) 8),(9,ZW 22 (fun _=>(U64 (Yb L.p s [1] L.k)).toArray) (mkS L.k) 9),(14,ZW 22 (fun _=>#[.int .u64 (s:Int), .int .u64 2]) (mkS 2) 14),(15,ZW 22 (fun _=>(U64 (Yb L.p s [2] m2)).toArray) (mkS m2) 15),(20,ZW 22 (fun _=>#[.int .u64 (s:Int), .int .u64 3]) (mkS 2) 20),(21,ZW 22 (fun _=>(U64 (Yb L.p s [3] m3)).toArray) (mkS m3) 21),(25,ZW 22 (fun _=>#[.int .u64 (s:Int), .int .u64 4]) (mkS 2) 25),(26,ZW 22 (fun _=>(U64 (Yb Xq s [4] L.n)).toArray) (mkS L.n) 26),(27,Ug (fun vs=>.agg #[vs 3,vs 9,vs 15,vs 21,vs 26]) 27),(28,ZW 42 (fun _=>#[.slice none 0 0, .slice none 0 0, .slice none 0 0, .slice none 0 0, .slice none 0 0]) mkP 28)] [(some 11,1),(some 12,2),(some 13,3),(some 18,8),(some 19,9),(some 24,14),(some 25,15),(some 30,20),(some 31,21),(some 35,25),(some 36,26),(some 37,27),(some 6,28)] [29] [29] (by kernel_rfl) (by kernel_rfl) (by first | exact Nat.le_refl _ | omega) (fun w1 h1=>h1) ?_ ?_ ?_
 ·exact List.forall_mem_cons.2 ⟨JQ rfl (fun _ _ _=>rfl),List.forall_mem_cons.2 ⟨JQ rfl (fun _ _ _=>rfl),List.forall_mem_cons.2 ⟨Yv rfl (fun _ _ _=>rfl),List.forall_mem_cons.2 ⟨Yv rfl (fun _ _ _=>rfl),List.forall_mem_cons.2 ⟨Yv rfl (fun _ _ _=>rfl),List.forall_mem_cons.2 ⟨Yv rfl (fun _ _ _=>rfl),List.forall_mem_cons.2 ⟨Yv rfl (fun _ _ _=>rfl),List.forall_mem_cons.2 ⟨Yv rfl (fun _ _ _=>rfl),List.forall_mem_cons.2 ⟨Yv rfl (fun _ _ _=>rfl),List.forall_mem_cons.2 ⟨Yv rfl (fun _ _ _=>rfl),List.forall_mem_cons.2 ⟨Yv rfl (fun _ _ _=>rfl),List.forall_mem_cons.2 ⟨JQ rfl (fun vs us h=>by simp only [h 3 (by decide),h 9 (by decide),h 15 (by decide),h 21 (by decide),h 26 (by decide)]),List.forall_mem_cons.2 ⟨Yv rfl (fun _ _ _=>rfl),List.forall_mem_nil _⟩⟩⟩⟩⟩⟩⟩⟩⟩⟩⟩⟩⟩
 ·refine List.forall_mem_cons.2 ⟨?_,List.forall_mem_cons.2 ⟨?_,List.forall_mem_cons.2 ⟨?_,List.forall_mem_cons.2 ⟨?_,List.forall_mem_cons.2 ⟨?_,List.forall_mem_cons.2 ⟨?_,List.forall_mem_cons.2 ⟨?_,List.forall_mem_cons.2 ⟨?_,List.forall_mem_cons.2 ⟨?_,List.forall_mem_cons.2 ⟨?_,List.forall_mem_cons.2 ⟨?_,List.forall_mem_cons.2 ⟨?_,List.forall_mem_cons.2 ⟨?_,List.forall_mem_nil _⟩⟩⟩⟩⟩⟩⟩⟩⟩⟩⟩⟩⟩
  ·refine YF [] rfl (by kernel_rfl) ?_
   intro w1 vs F hb1 hd hdis
   clear hd
   unfold VA
   simp only [List.foldl]
   change Ve _ _ _ fun v w'=>VQ _ w1 w' F []∧Ug (fun _=>.int .i64 (T:Int)) 1 (upd vs 1 v) (XB w1 w' F []) w'
   have hB1:=Nat.le_trans hNc hb1.size
   refine JW (by go_simp <;> rfl) (HT.out _) ?_
   rintro e w2 ⟨rfl,hb2⟩
   exact ⟨_,rfl,Yw hb2 hB1 _ _,rfl⟩
  ·refine YF [(some 11,1)] rfl (by kernel_rfl) ?_
   intro w1 vs F hb1 hd hdis
   have d1:Ug (fun _=>.int .i64 (T:Int)) 1 vs (F 1) w1∧∀ b,F 1 b→b<w1.heap.size∧_≤b:=hd 1 (by decide)
   clear hd
   unfold VA
   simp only [List.foldl]
   change Ve _ _ _ fun v w'=>VQ _ w1 w' F []∧Ug (fun _=>.int .i64 (T:Int)) 2 (upd vs 2 v) (XB w1 w' F []) w'
   have e1:vs 1=_:=d1.1
   rw [e1]
   exact YH (v:=.int .i64 (T:Int)) (w':=w1) (by go_simp <;> rfl) ⟨KZ _ _ _ _,rfl⟩
  ·refine YF [(some 12,2)] rfl (by kernel_rfl) ?_
   intro w1 vs F hb1 hd hdis
   have d2:Ug (fun _=>.int .i64 (T:Int)) 2 vs (F 2) w1∧∀ b,F 2 b→b<w1.heap.size∧_≤b:=hd 2 (by decide)
   clear hd
   unfold VA
   simp only [List.foldl]
   change Ve _ _ _ fun v w'=>VQ _ w1 w' F []∧ZW 28 (fun _=>Array.replicate T (.slice none 0 0)) (mkS T) 3 (upd vs 3 v) (XB w1 w' F []) w'
   have hB1:=Nat.le_trans hNc hb1.size
   have e2:vs 2=_:=d2.1
   rw [e2]
   exact YH (v:=.slice (some ⟨w1.heap.size,0,none⟩) T T) (w':=w1.alloc (.cells (Array.replicate T (.slice none 0 0)) 28)) (by rw [←jJ T];have:=mk_n (P:=Tryz.prog) UF T (by omega) (by omega) w1;go_simp <;> rfl) ⟨Yw ((Below.refl _ _).alloc (Nat.le_refl _) _) hB1 _ _,Xx (Blk.new _ _ _) (Nat.le_refl _)⟩
  ·refine YF [] rfl (by kernel_rfl) ?_
   intro w1 vs F hb1 hd hdis
   clear hd
   unfold VA
   simp only [List.foldl]
   change Ve _ _ _ fun v w'=>VQ _ w1 w' F []∧ZW 22 (fun _=>#[.int .u64 (s:Int), .int .u64 1]) (mkS 2) 8 (upd vs 8 v) (XB w1 w' F []) w'
   have hB1:=Nat.le_trans hNc hb1.size
   exact YH (v:=.slice (some ⟨w1.heap.size,0,none⟩) 2 2) (w':=w1.alloc (.cells #[.int .u64 (s:Int), .int .u64 1] 22)) (by go_simp <;> rfl) ⟨Yw ((Below.refl _ _).alloc (Nat.le_refl _) _) hB1 _ _,Xx (Blk.new _ _ _) (Nat.le_refl _)⟩
  ·refine YF [(some 18,8)] rfl (by kernel_rfl) ?_
   intro w1 vs F hb1 hd hdis
   have d8:ZW 22 (fun _=>#[.int .u64 (s:Int), .int .u64 1]) (mkS 2) 8 vs (F 8) w1∧∀ b,F 8 b→b<w1.heap.size∧_≤b:=hd 8 (by decide)
   clear hd
   unfold VA
   simp only [List.foldl]
   change Ve _ _ _ fun v w'=>VQ _ w1 w' F [8]∧ZW 22 (fun _=>(U64 (Yb L.p s [1] L.k)).toArray) (mkS L.k) 9 (upd vs 9 v) (XB w1 w' F [8]) w'
   have hB1:=Nat.le_trans hNc hb1.size
   obtain ⟨g8,e8,hF8,k8⟩:=d8.1
   rw [e8]
   refine JW (by go_simp <;> rfl) (HS.out [1] L.k g8 w1 (by simpa [U64] using k8) (by intro y hy;simp at hy;omega) (by simp) u1) ?_
   rintro e w2 ⟨g',rfl,hg',kg',hgr⟩
   exact ⟨_,rfl,Kk hgr (d8.2 _ hF8).2 hB1 (List.mem_singleton.2 rfl) hF8,Xx (by rw [←KV];exact kg') hg'⟩
  ·refine YF [] rfl (by kernel_rfl) ?_
   intro w1 vs F hb1 hd hdis
   clear hd
   unfold VA
   simp only [List.foldl]
   change Ve _ _ _ fun v w'=>VQ _ w1 w' F []∧ZW 22 (fun _=>#[.int .u64 (s:Int), .int .u64 2]) (mkS 2) 14 (upd vs 14 v) (XB w1 w' F []) w'
   have hB1:=Nat.le_trans hNc hb1.size
   exact YH (v:=.slice (some ⟨w1.heap.size,0,none⟩) 2 2) (w':=w1.alloc (.cells #[.int .u64 (s:Int), .int .u64 2] 22)) (by go_simp <;> rfl) ⟨Yw ((Below.refl _ _).alloc (Nat.le_refl _) _) hB1 _ _,Xx (Blk.new _ _ _) (Nat.le_refl _)⟩
  ·refine YF [(some 24,14)] rfl (by kernel_rfl) ?_
   intro w1 vs F hb1 hd hdis
   have d14:ZW 22 (fun _=>#[.int .u64 (s:Int), .int .u64 2]) (mkS 2) 14 vs (F 14) w1∧∀ b,F 14 b→b<w1.heap.size∧_≤b:=hd 14 (by decide)
   clear hd
   unfold VA
   simp only [List.foldl]
   change Ve _ _ _ fun v w'=>VQ _ w1 w' F [14]∧ZW 22 (fun _=>(U64 (Yb L.p s [2] m2)).toArray) (mkS m2) 15 (upd vs 15 v) (XB w1 w' F [14]) w'
   have hB1:=Nat.le_trans hNc hb1.size
   obtain ⟨g8,e8,hF8,k8⟩:=d14.1
   rw [e8]
   refine JW (by go_simp <;> rfl) (HS.out [2] m2 g8 w1 (by simpa [U64] using k8) (by intro y hy;simp at hy;omega) (by simp) u2) ?_
   rintro e w2 ⟨g',rfl,hg',kg',hgr⟩
   exact ⟨_,rfl,Kk hgr (d14.2 _ hF8).2 hB1 (List.mem_singleton.2 rfl) hF8,Xx (by rw [←KV];exact kg') hg'⟩
  ·refine YF [] rfl (by kernel_rfl) ?_
   intro w1 vs F hb1 hd hdis
   clear hd
   unfold VA
   simp only [List.foldl]
   change Ve _ _ _ fun v w'=>VQ _ w1 w' F []∧ZW 22 (fun _=>#[.int .u64 (s:Int), .int .u64 3]) (mkS 2) 20 (upd vs 20 v) (XB w1 w' F []) w'
   have hB1:=Nat.le_trans hNc hb1.size
   exact YH (v:=.slice (some ⟨w1.heap.size,0,none⟩) 2 2) (w':=w1.alloc (.cells #[.int .u64 (s:Int), .int .u64 3] 22)) (by go_simp <;> rfl) ⟨Yw ((Below.refl _ _).alloc (Nat.le_refl _) _) hB1 _ _,Xx (Blk.new _ _ _) (Nat.le_refl _)⟩
  ·refine YF [(some 30,20)] rfl (by kernel_rfl) ?_
   intro w1 vs F hb1 hd hdis
   have d20:ZW 22 (fun _=>#[.int .u64 (s:Int), .int .u64 3]) (mkS 2) 20 vs (F 20) w1∧∀ b,F 20 b→b<w1.heap.size∧_≤b:=hd 20 (by decide)
   clear hd
   unfold VA
   simp only [List.foldl]
   change Ve _ _ _ fun v w'=>VQ _ w1 w' F [20]∧ZW 22 (fun _=>(U64 (Yb L.p s [3] m3)).toArray) (mkS m3) 21 (upd vs 21 v) (XB w1 w' F [20]) w'
   have hB1:=Nat.le_trans hNc hb1.size
   obtain ⟨g8,e8,hF8,k8⟩:=d20.1
   rw [e8]
   refine JW (by go_simp <;> rfl) (HS.out [3] m3 g8 w1 (by simpa [U64] using k8) (by intro y hy;simp at hy;omega) (by simp) u3) ?_
   rintro e w2 ⟨g',rfl,hg',kg',hgr⟩
   exact ⟨_,rfl,Kk hgr (d20.2 _ hF8).2 hB1 (List.mem_singleton.2 rfl) hF8,Xx (by rw [←KV];exact kg') hg'⟩
  ·refine YF [] rfl (by kernel_rfl) ?_
   intro w1 vs F hb1 hd hdis
   clear hd
   unfold VA
   simp only [List.foldl]
   change Ve _ _ _ fun v w'=>VQ _ w1 w' F []∧ZW 22 (fun _=>#[.int .u64 (s:Int), .int .u64 4]) (mkS 2) 25 (upd vs 25 v) (XB w1 w' F []) w'
   have hB1:=Nat.le_trans hNc hb1.size
   exact YH (v:=.slice (some ⟨w1.heap.size,0,none⟩) 2 2) (w':=w1.alloc (.cells #[.int .u64 (s:Int), .int .u64 4] 22)) (by go_simp <;> rfl) ⟨Yw ((Below.refl _ _).alloc (Nat.le_refl _) _) hB1 _ _,Xx (Blk.new _ _ _) (Nat.le_refl _)⟩
  ·refine YF [(some 35,25)] rfl (by kernel_rfl) ?_
   intro w1 vs F hb1 hd hdis
   have d25:ZW 22 (fun _=>#[.int .u64 (s:Int), .int .u64 4]) (mkS 2) 25 vs (F 25) w1∧∀ b,F 25 b→b<w1.heap.size∧_≤b:=hd 25 (by decide)
   clear hd
   unfold VA
   simp only [List.foldl]
   change Ve _ _ _ fun v w'=>VQ _ w1 w' F [25]∧ZW 22 (fun _=>(U64 (Yb Xq s [4] L.n)).toArray) (mkS L.n) 26 (upd vs 26 v) (XB w1 w' F [25]) w'
   have hB1:=Nat.le_trans hNc hb1.size
   obtain ⟨g8,e8,hF8,k8⟩:=d25.1
   rw [e8]
   refine JW (by go_simp <;> rfl) (HD.out [4] L.n g8 w1 (by simpa [U64] using k8) (by intro y hy;simp at hy;omega) (by simp) u4) ?_
   rintro e w2 ⟨g',rfl,hg',kg',hgr⟩
   exact ⟨_,rfl,Kk hgr (d25.2 _ hF8).2 hB1 (List.mem_singleton.2 rfl) hF8,Xx (by rw [←zGa];exact kg') hg'⟩
  ·refine YF [(some 13,3),(some 19,9),(some 25,15),(some 31,21),(some 36,26)] rfl (by kernel_rfl) ?_
   intro w1 vs F hb1 hd hdis
   have d3:ZW 28 (fun _=>Array.replicate T (.slice none 0 0)) (mkS T) 3 vs (F 3) w1∧∀ b,F 3 b→b<w1.heap.size∧_≤b:=hd 3 (by decide)
   have d9:ZW 22 (fun _=>(U64 (Yb L.p s [1] L.k)).toArray) (mkS L.k) 9 vs (F 9) w1∧∀ b,F 9 b→b<w1.heap.size∧_≤b:=hd 9 (by decide)
   have d15:ZW 22 (fun _=>(U64 (Yb L.p s [2] m2)).toArray) (mkS m2) 15 vs (F 15) w1∧∀ b,F 15 b→b<w1.heap.size∧_≤b:=hd 15 (by decide)
   have d21:ZW 22 (fun _=>(U64 (Yb L.p s [3] m3)).toArray) (mkS m3) 21 vs (F 21) w1∧∀ b,F 21 b→b<w1.heap.size∧_≤b:=hd 21 (by decide)
   have d26:ZW 22 (fun _=>(U64 (Yb Xq s [4] L.n)).toArray) (mkS L.n) 26 vs (F 26) w1∧∀ b,F 26 b→b<w1.heap.size∧_≤b:=hd 26 (by decide)
   clear hd
   unfold VA
   simp only [List.foldl]
   change Ve _ _ _ fun v w'=>VQ _ w1 w' F []∧Ug (fun vs=>.agg #[vs 3,vs 9,vs 15,vs 21,vs 26]) 27 (upd vs 27 v) (XB w1 w' F []) w'
   obtain ⟨g3,e3,-⟩:=d3.1
   obtain ⟨g9,e9,-⟩:=d9.1
   obtain ⟨g15,e15,-⟩:=d15.1
   obtain ⟨g21,e21,-⟩:=d21.1
   obtain ⟨g26,e26,-⟩:=d26.1
   exact YH (v:=.agg #[vs 3,vs 9,vs 15,vs 21,vs 26]) (w':=w1) (by rw [e3,e9,e15,e21,e26];go_simp <;> rfl) ⟨KZ _ _ _ _,rfl⟩
  ·refine YF [] rfl (by kernel_rfl) ?_
   intro w1 vs F hb1 hd hdis
   clear hd
   unfold VA
   simp only [List.foldl]
   change Ve _ _ _ fun v w'=>VQ _ w1 w' F []∧ZW 42 (fun _=>#[.slice none 0 0, .slice none 0 0, .slice none 0 0, .slice none 0 0, .slice none 0 0]) mkP 28 (upd vs 28 v) (XB w1 w' F []) w'
   have hB1:=Nat.le_trans hNc hb1.size
   exact YH (v:=.pointer (some ⟨w1.heap.size,0,none⟩)) (w':=w1.alloc (.cells #[.slice none 0 0, .slice none 0 0, .slice none 0 0, .slice none 0 0, .slice none 0 0] 42)) (by go_simp <;> rfl) ⟨Yw ((Below.refl _ _).alloc (Nat.le_refl _) _) hB1 _ _,Xx (Blk.new _ _ _) (Nat.le_refl _)⟩
 intro wf vs F hbf hf hdis
 have f1:Ug (fun _=>.int .i64 (T:Int)) 1 vs (F 1) wf∧∀ b,F 1 b→b<wf.heap.size∧_≤b:=hf _ (.head _) (by decide)
 have f2:Ug (fun _=>.int .i64 (T:Int)) 2 vs (F 2) wf∧∀ b,F 2 b→b<wf.heap.size∧_≤b:=hf _ (.tail _ (.head _)) (by decide)
 have f3:ZW 28 (fun _=>Array.replicate T (.slice none 0 0)) (mkS T) 3 vs (F 3) wf∧∀ b,F 3 b→b<wf.heap.size∧_≤b:=hf _ (.tail _ (.tail _ (.head _))) (by decide)
 have f9:ZW 22 (fun _=>(U64 (Yb L.p s [1] L.k)).toArray) (mkS L.k) 9 vs (F 9) wf∧∀ b,F 9 b→b<wf.heap.size∧_≤b:=hf _ (.tail _ (.tail _ (.tail _ (.tail _ (.head _))))) (by decide)
 have f15:ZW 22 (fun _=>(U64 (Yb L.p s [2] m2)).toArray) (mkS m2) 15 vs (F 15) wf∧∀ b,F 15 b→b<wf.heap.size∧_≤b:=hf _ (.tail _ (.tail _ (.tail _ (.tail _ (.tail _ (.tail _ (.head _))))))) (by decide)
 have f21:ZW 22 (fun _=>(U64 (Yb L.p s [3] m3)).toArray) (mkS m3) 21 vs (F 21) wf∧∀ b,F 21 b→b<wf.heap.size∧_≤b:=hf _ (.tail _ (.tail _ (.tail _ (.tail _ (.tail _ (.tail _ (.tail _ (.tail _ (.head _))))))))) (by decide)
 have f26:ZW 22 (fun _=>(U64 (Yb Xq s [4] L.n)).toArray) (mkS L.n) 26 vs (F 26) wf∧∀ b,F 26 b→b<wf.heap.size∧_≤b:=hf _ (.tail _ (.tail _ (.tail _ (.tail _ (.tail _ (.tail _ (.tail _ (.tail _ (.tail _ (.tail _ (.head _))))))))))) (by decide)
 have f27:Ug (fun vs=>.agg #[vs 3,vs 9,vs 15,vs 21,vs 26]) 27 vs (F 27) wf∧∀ b,F 27 b→b<wf.heap.size∧_≤b:=hf _ (.tail _ (.tail _ (.tail _ (.tail _ (.tail _ (.tail _ (.tail _ (.tail _ (.tail _ (.tail _ (.tail _ (.head _)))))))))))) (by decide)
 have f28:ZW 42 (fun _=>#[.slice none 0 0, .slice none 0 0, .slice none 0 0, .slice none 0 0, .slice none 0 0]) mkP 28 vs (F 28) wf∧∀ b,F 28 b→b<wf.heap.size∧_≤b:=hf _ (.tail _ (.tail _ (.tail _ (.tail _ (.tail _ (.tail _ (.tail _ (.tail _ (.tail _ (.tail _ (.tail _ (.tail _ (.head _))))))))))))) (by decide)
 clear hf
 unfold VA
 simp only [List.foldl]
 have e1:vs 1= .int .i64 (T:Int):=f1.1
 have e2:vs 2= .int .i64 (T:Int):=f2.1
 obtain ⟨⟨g3,e3,h3,k3⟩,b3⟩:=f3
 have y3:=(b3 _ h3).2
 obtain ⟨⟨g9,e9,h9,k9⟩,b9⟩:=f9
 have y9:=(b9 _ h9).2
 obtain ⟨⟨g15,e15,h15,k15⟩,b15⟩:=f15
 have y15:=(b15 _ h15).2
 obtain ⟨⟨g21,e21,h21,k21⟩,b21⟩:=f21
 have y21:=(b21 _ h21).2
 obtain ⟨⟨g26,e26,h26,k26⟩,b26⟩:=f26
 have y26:=(b26 _ h26).2
 have e27:vs 27= .agg #[vs 3,vs 9,vs 15,vs 21,vs 26]:=f27.1
 obtain ⟨⟨g28,e28,h28,k28⟩,b28⟩:=f28
 have y28:=(b28 _ h28).2
 have n3_9:g3≠g9:=fun e=>hdis 3 9 _ (by decide) h3 (by rw [e];exact h9)
 have n3_15:g3≠g15:=fun e=>hdis 3 15 _ (by decide) h3 (by rw [e];exact h15)
 have n3_21:g3≠g21:=fun e=>hdis 3 21 _ (by decide) h3 (by rw [e];exact h21)
 have n3_26:g3≠g26:=fun e=>hdis 3 26 _ (by decide) h3 (by rw [e];exact h26)
 have n3_28:g3≠g28:=fun e=>hdis 3 28 _ (by decide) h3 (by rw [e];exact h28)
 have n9_15:g9≠g15:=fun e=>hdis 9 15 _ (by decide) h9 (by rw [e];exact h15)
 have n9_21:g9≠g21:=fun e=>hdis 9 21 _ (by decide) h9 (by rw [e];exact h21)
 have n9_26:g9≠g26:=fun e=>hdis 9 26 _ (by decide) h9 (by rw [e];exact h26)
 have n9_28:g9≠g28:=fun e=>hdis 9 28 _ (by decide) h9 (by rw [e];exact h28)
 have n15_21:g15≠g21:=fun e=>hdis 15 21 _ (by decide) h15 (by rw [e];exact h21)
 have n15_26:g15≠g26:=fun e=>hdis 15 26 _ (by decide) h15 (by rw [e];exact h26)
 have n15_28:g15≠g28:=fun e=>hdis 15 28 _ (by decide) h15 (by rw [e];exact h28)
 have n21_26:g21≠g26:=fun e=>hdis 21 26 _ (by decide) h21 (by rw [e];exact h26)
 have n21_28:g21≠g28:=fun e=>hdis 21 28 _ (by decide) h21 (by rw [e];exact h28)
 have n26_28:g26≠g28:=fun e=>hdis 26 28 _ (by decide) h26 (by rw [e];exact h28)
 simp only [e3,e9,e15,e21,e26] at e27
 simp only [e1,e2,e3,e9,e15,e21,e26,e27,e28]
 clear f1 f2 b3 b9 b15 b21 b26 f27 b28 e1 e2 e3 e9 e15 e21 e26 e27 e28 h3 h9 h15 h21 h26 h28
 try dsimp only [mkS]
 try dsimp only [mkP]
 have c28:=k28.frozen
 have cc28:=k28.cell
 clear hdis
 refine Z6 (Zd w4.heap.size) rfl rfl rfl ?_
 go_simp
 have hsg:=Vh (w:=wf) (g:=g28) (.slice (some ⟨g3,0,none⟩) T T) (.slice (some ⟨g9,0,none⟩) L.k L.k) (.slice (some ⟨g15,0,none⟩) m2 m2) (.slice (some ⟨g21,0,none⟩) m3 m3) (.slice (some ⟨g26,0,none⟩) L.n L.n)
 have k28':=UJ k28 (.slice (some ⟨g3,0,none⟩) T T) (.slice (some ⟨g9,0,none⟩) L.k L.k) (.slice (some ⟨g15,0,none⟩) m2 m2) (.slice (some ⟨g21,0,none⟩) m3 m3) (.slice (some ⟨g26,0,none⟩) L.n L.n)
 refine ⟨Zg hsg (by have:=hbf.size;omega) y28,?_⟩
 have kl':Blk wf w.heap.size _ _:=(kl.below hbW kl.lt).below hbf (by omega)
 have kz':Blk wf (w.heap.size+1) _ _:=(kz.below hbW kz.lt).below hbf (by omega)
 have hb0':Below w.heap.size w wf:=(Za hb0 hbW).trans (hbf.mono (by omega))
 have hNf:w4.heap.size≤wf.heap.size:=Nat.le_trans hNc hbf.size
 have hE:∀ {a b:Nat},a≠b→some a≠some b:=fun h e=>h (Option.some.inj e)
 replace kl':=kl'.grown hsg (hE (by omega))
 replace kz':=kz'.grown hsg (hE (by omega))
 replace k3:=k3.grown hsg (hE n3_28)
 replace k9:=k9.grown hsg (hE n9_28)
 replace k15:=k15.grown hsg (hE n15_28)
 replace k21:=k21.grown hsg (hE n21_28)
 replace k26:=k26.grown hsg (hE n26_28)
 replace hb0':=hb0'.trans (Zg hsg hb0'.size (by omega))
 replace hNf:=Nat.le_trans hNf hsg.size
 clear hsg c28 cc28 k28 kl kz kn hb0 hbW hbf hNc hacc HWc cl cn l2 HT HD
 generalize ((((wf.setCell _ _).setCell _ _).setCell _ _).setCell _ _).setCell _ _=w5 at kl' kz' k3 k9 k15 k21 k26 k28' hb0' hNf ⊢
 try simp only [Act.put,zLa,zLb,zLc]
 refine Zt ?_
 have c28:=k28'.cell
 have hs3:(Array.replicate T (Value.slice none 0 0)).size=T:=by simp
 generalize Array.replicate T (Value.slice none 0 0)=cs0 at k3 hs3
 have HN:=Lib.hid (show w4.heap.size=w4.heap.size from rfl)
 have x0:w.heap.size+1<w4.heap.size:=by omega
 generalize w4.heap.size=N at *
 clear hs1 hs2 l1
 have q1:(T:Int)≤400000:=by omega
 go_wp2_with fail
 go_loopw [41] (fun y wr=>∃ (i:Nat) (cs:Array Value),i≤T∧y= .int .i64 (i:Int)∧cs.size=T∧Blk wr w.heap.size 55 #[.int .u64 (L.p:Int), .int .i64 (L.block:Int), .int .i64 (L.queries:Int), .int .i64 (L.k:Int), .int .i64 (L.n:Int), .int .i64 (L.secret:Int), .int .i64 (L.rows:Int), .int .i64 (L.a:Int), .int .i64 (L.b:Int), .int .i64 (L.b:Int), .int .i64 (L.b:Int)]∧Blk wr (w.heap.size+1) 42 #[.slice none 0 0, .slice none 0 0, .slice none 0 0, .slice none 0 0, .slice none 0 0]∧Blk wr g28 42 #[.slice (some ⟨g3,0,none⟩) T T, .slice (some ⟨g9,0,none⟩) L.k L.k, .slice (some ⟨g15,0,none⟩) m2 m2, .slice (some ⟨g21,0,none⟩) m3 m3, .slice (some ⟨g26,0,none⟩) L.n L.n]∧Blk wr g3 28 cs∧KG N (some g3) wr cs i (fun k=>Yb L.p s [0,k] L.queries)∧Blk wr g9 22 (U64 (Yb L.p s [1] L.k)).toArray∧Blk wr g15 22 (U64 (Yb L.p s [2] m2)).toArray∧Blk wr g21 22 (U64 (Yb L.p s [3] m3)).toArray∧Blk wr g26 22 (U64 (Yb Xq s [4] L.n)).toArray∧Below w.heap.size w wr∧N≤wr.heap.size) (fun y _=>T-(intOf y).toNat)
 case atStart=>exact ⟨0,cs0,Nat.zero_le _,rfl,hs3,kl',kz',k28',k3,zFz _ _ _ _ _,k9,k15,k21,k26,hb0',hNf⟩
 case round =>
  clear kl' kz' k28' k3 k9 k15 k21 k26 hb0' hNf c28 hs3
  obtain ⟨i,cs,hi,rfl,hcs,kl,kz,k28,k3,hfr,k9,k15,k21,k26,hb0,hNw⟩:=hrel
  by_cases hlt:i<T
  ·have g2:(i:Int)<(T:Int):=by omega
   have g1:(0:Int)≤(i:Int):=by omega
   have ew:IntKind.u64.wrap (i:Int)=(i:Int):=by rw [IntKind.wrap_u64];omega
   have cl:=kl.cell
   have c28:=k28.cell
   have z1:=kl.lt
   have z2:=k28.lt
   have z3:w.heap.size≠g3:=by omega
   have z4:=n3_28.symm
   go_upto_region 6 with fail
   refine Zq (Kn g3 wr.heap.size) [9,10,12] [0,1,2,3,4,5,6,7,8,9,10,11,12] (by kernel_rfl) (by kernel_rfl) ?_
   refine Zp (Zj g3 wr.heap.size) ?_
   intro Wc HWc hacc
   have hbW:Below wr.heap.size wr Wc:=by rw [HWc.out];exact (Below.refl _ _).drew
   repeat (first | (refine Zf (Zj g3 wr.heap.size) rfl rfl (fun _ _ _ h=>h) ?_;simp only [Act.put,zLa,zLb,zLc]) | (refine Ze (v:=?_) (Zj g3 wr.heap.size) rfl rfl (fun _ _ _ h=>h) ?_ ?_;rotate_left;(· (intro w' hR;(first | have hcells:=Yh ((Zj g3 wr.heap.size).trans _ _ _ hacc hR) | skip);go_simp;try with_reducible rfl));simp only [Act.put,zLa,zLb,zLc]))
   refine Z6 (Zj g3 wr.heap.size) rfl rfl rfl ?_
   go_simp
   have hNc:wr.heap.size≤Wc.heap.size:=hbW.size
   refine ⟨Yk ((Below.refl _ _).alloc (Nat.le_refl _) _) hNc,?_⟩
   have hal:=(Below.refl Wc.heap.size Wc).alloc (Nat.le_refl _) (.cells #[.int .u64 (s:Int), .int .u64 0, .int .u64 (i:Int)] 22)
   have kA:=Blk.new Wc 22 #[.int .u64 (s:Int), .int .u64 0, .int .u64 (i:Int)]
   have hNA:wr.heap.size≤(Wc.alloc (.cells #[.int .u64 (s:Int), .int .u64 0, .int .u64 (i:Int)] 22)).heap.size:=by have:=hal.size;omega
   replace hbW:=Za hbW hal
   try simp only [Act.put,zLa,zLb,zLc]
   generalize Wc.alloc _=w6 at kA hNA hbW ⊢
   generalize Wc.heap.size=gA at kA hNc ⊢
   clear hal hacc HWc
   have hacc:=(Zj g3 wr.heap.size).refl w6
   have HC:=Lib.hid (HS.out [0,i] L.queries gA w6 (by simpa [U64] using kA) (by intro y hy;simp at hy;omega) (by simp) (by omega))
   refine Zk (Zj g3 wr.heap.size) rfl rfl rfl (fun _=>by go_simp <;> rfl) ((HC.out).mono ?_)
   rintro e w7 ⟨g',rfl,hg',kg',hgr⟩
   refine ⟨_,rfl,U6 hgr hNA (fun k e=>by rw [←Option.some.inj e];exact hNc),?_⟩
   replace hacc:=(Zj g3 wr.heap.size).trans _ _ _ hacc (U6 hgr hNA (fun k e=>by rw [←Option.some.inj e];exact hNc))
   simp only [Act.put,zLa,zLb,zLc]
   have hwr:Below wr.heap.size wr w7:=hbW.trans (Zg hgr hNA hNc)
   have hg3':g3≠g':=by have:=k3.lt;have:=hbW.size;omega
   replace kl:=kl.below hwr kl.lt
   replace kz:=kz.below hwr kz.lt
   replace k28:=k28.below hwr k28.lt
   replace k3:=k3.below hwr k3.lt
   replace k9:=k9.below hwr k9.lt
   replace k15:=k15.below hwr k15.lt
   replace k21:=k21.below hwr k21.lt
   replace k26:=k26.below hwr k26.lt
   replace hfr:=zBc hfr hwr
   replace hb0:=Za hb0 hwr
   rw [KV] at kg'
   have hrx:RWx N (some g3) w7 (.slice (some ⟨g',0,none⟩) L.queries L.queries) (Yb L.p s [0,i] L.queries):=GX kg' (by simp [Yb]) (UB _ _ _ _ (by omega) hpp.2) (by simp [maxLen];omega) (by have:=hbW.size;omega) (fun e=>hg3' (Option.some.inj e).symm)
   replace hNw:=Nat.le_trans hNw hwr.size
   have f3:=k3.frozen
   obtain ⟨old,ho⟩:∃ old,cs[i]?=some old:=⟨cs[i]'(by omega),Array.getElem?_eq_getElem (by omega)⟩
   have c3:=k3.cell i
   rw [ho] at c3
   clear ho
   have HM:=Lib.hid hwr.size
   clear hgr kg' HC kA hbW hwr hNA hNc cl c28 z1 z2 hg'
   repeat (first | (refine Zf (Zj g3 wr.heap.size) rfl rfl (fun _ _ _ h=>h) ?_;simp only [Act.put,zLa,zLb,zLc]) | (refine Ze (v:=?_) (Zj g3 wr.heap.size) rfl rfl (fun _ _ _ h=>h) ?_ ?_;rotate_left;(· (intro w' hR;(first | have hcells:=Yh ((Zj g3 wr.heap.size).trans _ _ _ hacc hR) | skip);go_simp;try with_reducible rfl));simp only [Act.put,zLa,zLb,zLc]))
   refine Z6 (Zj g3 wr.heap.size) rfl rfl rfl ?_
   go_simp
   have hsg:w7.grownBy (w7.setCell ⟨g3,i,none⟩ (.slice (some ⟨g',0,none⟩) L.queries L.queries)) (some g3):=ZC (p:=⟨g3,i,none⟩) (Zv w7 _) (.inl rfl) _
   refine ⟨Jq hsg HM.out,?_⟩
   have hE:∀ {a b:Nat},a≠b→some a≠some b:=fun h e=>h (Option.some.inj e)
   replace kl:=kl.grown hsg (hE (by omega))
   replace kz:=kz.grown hsg (hE (by omega))
   replace k28:=k28.grown hsg (hE n3_28.symm)
   replace k9:=k9.grown hsg (hE n3_9.symm)
   replace k15:=k15.grown hsg (hE n3_15.symm)
   replace k21:=k21.grown hsg (hE n3_21.symm)
   replace k26:=k26.grown hsg (hE n3_26.symm)
   replace k3:=k3.set_ i (.slice (some ⟨g',0,none⟩) L.queries L.queries)
   replace hfr:=zG2 (zD2 hfr hsg) (by omega) (YP hrx hsg.size fun b _ h2 h3=>hsg.block b h2 h3)
   replace hb0:=hb0.trans (Zg hsg hb0.size (by omega))
   replace hNw:=Nat.le_trans hNw hsg.size
   clear hsg hrx f3 c3 hacc
   generalize w7.setCell _ _=w8 at kl kz k28 k9 k15 k21 k26 k3 hfr hb0 hNw ⊢
   try simp only [Act.put,zLa,zLb,zLc]
   refine Zt ?_
   go_wp2
   go_roundw
   case rel=>exact ⟨i+1,_,by omega,by go_num,by simp [hcs],kl,kz,k28,k3,hfr,k9,k15,k21,k26,hb0,hNw⟩
   case measure=>simp [intOf];omega
  ·obtain rfl:i=T:=by omega
   have c28:=k28.cell
   have cz:=kz.cell
   have fz:=kz.frozen
   have g2:¬((i:Int)<(i:Int)):=by omega
   go_wp2_with fail
   have hsg:=Vh (w:=wr) (g:=w.heap.size+1) (.slice (some ⟨g3,0,none⟩) i i) (.slice (some ⟨g9,0,none⟩) L.k L.k) (.slice (some ⟨g15,0,none⟩) m2 m2) (.slice (some ⟨g21,0,none⟩) m3 m3) (.slice (some ⟨g26,0,none⟩) L.n L.n)
   replace kz:=UJ kz (.slice (some ⟨g3,0,none⟩) i i) (.slice (some ⟨g9,0,none⟩) L.k L.k) (.slice (some ⟨g15,0,none⟩) m2 m2) (.slice (some ⟨g21,0,none⟩) m3 m3) (.slice (some ⟨g26,0,none⟩) L.n L.n)
   have hE:∀ {a b:Nat},a≠b→some a≠some b:=fun h e=>h (Option.some.inj e)
   replace k9:=k9.grown hsg (hE (by omega))
   replace k15:=k15.grown hsg (hE (by omega))
   replace k21:=k21.grown hsg (hE (by omega))
   replace k26:=k26.grown hsg (hE (by omega))
   replace k3:=k3.grown hsg (hE (by omega))
   replace hfr:=GI hfr hsg.size (fun b h1 h2 _=>hsg.block b h2 (hE (by omega)))
   replace hb0:=hb0.trans (Zg hsg hb0.size (by omega))
   clear hsg kl k28 c28 cz fz
   generalize ((((wr.setCell _ _).setCell _ _).setCell _ _).setCell _ _).setCell _ _=w9 at kz k9 k15 k21 k26 k3 hfr hb0 ⊢
   have cz:=kz.cell
   refine bodyPost_ret (v:=.agg #[.slice (some ⟨g3,0,none⟩) i i, .slice (some ⟨g9,0,none⟩) L.k L.k, .slice (some ⟨g15,0,none⟩) m2 m2, .slice (some ⟨g21,0,none⟩) m3 m3, .slice (some ⟨g26,0,none⟩) L.n L.n]) (by simp [results,Tryz.results30,go_sem,cz]) rfl ?_
   have hp0:0<L.p:=by omega
   have hm:∀ m,m≤65536→m≤maxLen:=fun m h=>by simp [maxLen];omega
   exact ⟨_,_,_,_,_,rfl,J0 hfr k3 (by simp [maxLen];omega),KT k9 (by simp [Yb]) (UB _ _ _ _ hp0 hpp.2) (hm _ u1),KT k15 (by simp [Yb]) (UB _ _ _ _ hp0 hpp.2) (hm _ u2),KT k21 (by simp [Yb]) (UB _ _ _ _ hp0 hpp.2) (hm _ u3),KT k26 (by simp [Yb]) (UB _ _ _ _ (by decide) (by decide)) (hm _ u4),hb0⟩
theorem wf_n64 {n:Int} (h:(Lit.int .u64 n).wf=true):∃ m:Nat,n=(m:Int)∧m<18446744073709551616:=by
 have hx:0≤n∧n≤18446744073709551615:=by simpa [Lit.wf,IntKind.min,IntKind.max,IntKind.signed,IntKind.bits] using h
 obtain ⟨m,rfl⟩:=Int.eq_ofNat_of_zero_le hx.1
 exact ⟨m,rfl,by omega⟩
theorem zH3 (A1 A2:Option Addr) (n1 c1 n2 c2:Nat) (l:List Nat) (w:World) (h1:RWd w [.slice A1 n1 c1] l) (h2:RWd w [.slice A2 n2 c2] l) :
  Calls Tryz.prog 14 #[.slice A1 n1 c1, .slice A2 n2 c2] w fun e w'=>e= .returned (.bool true)∧Below w.heap.size w w':=by
 have h:=Ju A1 A2 n1 c1 n2 c2 l l w h1 h2
 rwa [decide_eq_true (rfl:l=l)] at h
set_option maxRecDepth 100000 in
set_option maxHeartbeats 2000000 in
theorem Gd (W:World) (cs0:Array Value) (f0:Fits Tryz.prog W 35 (Value.agg cs0).cells.toList) (s2:Int) (f1:(Lit.int .u64 s2).wf=true) :
  Calls Tryz.prog 9 #[.agg cs0, .int .u64 s2] W fun e W'=>e= .returned (.bool true)∧Below W.heap.size W W':=by
 obtain ⟨s2,rfl,hs2⟩:=wf_n64 f1
 clear f1
 obtain ⟨p,pub,vars,A,B,A1,B1,n,c,m,d,na,ca,nb,cb,rows,ws,lat,lby,bl,bw,qs,seed,al,rho,be,rfl,hin⟩:=V7 f0
 clear f0
 have HSet:=Lib.hid (fun w' (hb:Below W.heap.size W w')=>UZ 24 p pub vars A B A1 B1 n c m d na ca nb cb rows ws lat lby bl bw qs seed al rho be w' (ZA ZB _ _ _ _ hb hin.rows) (Zc _ _ _ _ hb hin.ws) hin.p (ZA JY _ _ _ _ hb hin.lat) (Zc _ _ _ _ hb hin.lby) hin.seed)
 have HRows:=Lib.hid (fun w' (hb:Below W.heap.size W w')=>ZA ZB _ _ _ _ hb hin.rows)
 have HWs:=Lib.hid (fun w' (hb:Below W.heap.size W w')=>Zc _ _ _ _ hb hin.ws)
 have HAw:=Lib.hid (fun w=>VW w)
 clear hin
 unfold J9 at *
 have kb:=Blk.new W 35 #[.int .u64 (p:Int), .int .i64 pub, .int .i64 vars, .slice A n c, .int .i64 bl, .int .i64 bw, .int .i64 qs, .slice B m d, .int .u64 (seed:Int), .int .u64 (al:Int), .int .u64 (rho:Int), .int .u64 (be:Int), .slice A1 na ca, .slice B1 nb cb]
 have hb0:Below W.heap.size W (W.alloc (.cells #[.int .u64 (p:Int), .int .i64 pub, .int .i64 vars, .slice A n c, .int .i64 bl, .int .i64 bw, .int .i64 qs, .slice B m d, .int .u64 (seed:Int), .int .u64 (al:Int), .int .u64 (rho:Int), .int .u64 (be:Int), .slice A1 na ca, .slice B1 nb cb] 35)):=(Below.refl _ W).alloc (Nat.le_refl _) _
 go_enter Tryz.func9,Tryz.ntmps9
 go_upto_region 1 with fail
 generalize W.alloc _=w0 at hb0 kb ⊢
 go_wp2_with fail
 refine (HAw.out _).mono ?_
 rintro e w1 ⟨rfl,hb1⟩
 replace kb:=kb.below hb1 kb.lt
 replace hb0:=Za hb0 hb1
 clear hb1 HAw
 have cb0:=kb.cell
 go_wp2_with fail
 refine (HSet.out _ hb0).mono ?_
 rintro e w2 ⟨⟨y0,y1,y2,y3,y4,y5,y6,y7,y8,y9,y10,b,vm,c0,c1,c2,c3,c4,z0,z1,z2,rfl,⟨AM,nM,cM,rfl⟩,⟨D0,n0,k0,rfl⟩,⟨D1,n1,k1,rfl⟩,⟨D2,n2,k2,rfl⟩,⟨D3,n3,k3,rfl⟩,⟨D4,n4,k4,rfl⟩,hT⟩,hb2⟩
 have HT:=Lib.hid hT
 replace kb:=kb.below hb2 kb.lt
 replace hb0:=Za hb0 hb2
 clear hb2 HSet cb0 hT
 obtain ⟨kl,kc,kx,hbx,-⟩:=XH w2 39 42 32 #[.int .u64 y0, .int .i64 y1, .int .i64 y2, .int .i64 y3, .int .i64 y4, .int .i64 y5, .int .i64 y6, .int .i64 y7, .int .i64 y8, .int .i64 y9, .int .i64 y10] #[.slice D0 n0 k0, .slice D1 n1 k1, .slice D2 n2 k2, .slice D3 n3 k3, .slice D4 n4 k4] #[.int .u64 (z0:Int), .int .u64 (z1:Int), .int .u64 (z2:Int)]
 go_upto_region 4 with fail
 generalize ((w2.alloc _).alloc _).alloc _=w3 at kl kc kx hbx ⊢
 replace kb:=kb.below hbx kb.lt
 replace hb0:=Za hb0 hbx
 generalize w2.heap.size+1+1=gx at kx ⊢
 generalize w2.heap.size+1=gc at kc ⊢
 obtain ⟨gl,hgl⟩:∃ gl,gl=w2.heap.size:=⟨_,rfl⟩
 rw [←hgl] at kl ⊢
 clear hgl
 cases b
 ·clear HT kc kx hbx HRows HWs kl
  go_wp2
  go_ret
  exact ⟨rfl,hb0⟩
 obtain ⟨L,pu,M,rfl,hcs,hin,-,-,-⟩:=HT.out rfl
 clear HT
 rw [hcs] at kl
 clear hcs
 replace hin:=VU hbx hin
 obtain rfl:p=L.p:=hin.p.symm
 clear hbx
 obtain ⟨hp1,hp2⟩:=Zr hin.ok.p
 have hco:=VR L seed (by omega)
 have hml:M.length=(Yo L seed (L.a+L.b+L.b+L.b)).length:=by rw [Us];exact hin.ml
 have hok:VG L M (Yo L seed (L.a+L.b+L.b+L.b)):=⟨hin.ml,by omega,hin.mr,fun x hx=>by obtain ⟨i,hi,rfl⟩:=List.getElem_of_mem hx;exact Up hi⟩
 obtain ⟨-,-,hc1,hc2,hc3⟩:=Y4 hco
 have hcl:(Z9 L pu z1 rows).length=M.length:=by rw [Xy,hin.ml]
 have hfit:=UU hin.ok hok (cs:=Z9 L pu z1 rows) YU hcl hc1 hc2 hc3.1 z0 z2
 obtain ⟨fl1,fl2,fl3⟩:=Jj hp2 hfit
 have HF1:=Lib.hid fl1
 have HF2:=Lib.hid fl2
 have HF3:=Lib.hid fl3
 obtain ⟨fl4,fl5,fl6⟩:=Ux hfit
 clear fl1 fl2 fl3
 have HAn:=Lib.hid (fun w' (hb:Below w3.heap.size w3 w')=>UW L pu z1 z0 z2 vars A AM D0 D1 D2 D3 D4 n c nM cM n0 n1 n2 n3 n4 k0 k1 k2 k3 k4 rows M _ _ _ _ _ w' hin.ok hin.tf (HRows.out w' (Za hb0 hb)) hin.vo (Zx _ _ _ _ hb hin.m) (Zx _ _ _ _ hb hin.r) (Zc _ _ _ _ hb hin.co) (Zc _ _ _ _ hb hin.li) (Zc _ _ _ _ hb hin.qu) (Zc _ _ _ _ hb hin.sa) hco hin.ml hin.mr)
 obtain ⟨PB,hPB⟩:∃ PB,PB=(ws.drop 1).take pu:=⟨_,rfl⟩
 have hte0:=xk hin.ok hok hin.mlt YU hcl hc1 hc2 hc3.1 z0 z2 (tgK L.p rows.length z1 (1 :: PB) rows 3)
 have hco2:=VR L s2 (by omega)
 have hml2:M.length=(Yo L s2 (L.a+L.b+L.b+L.b)).length:=by rw [Us];exact hin.ml
 have hok2:VG L M (Yo L s2 (L.a+L.b+L.b+L.b)):=⟨hin.ml,by omega,hin.mr,fun x hx=>by obtain ⟨i,hi,rfl⟩:=List.getElem_of_mem hx;exact Up hi⟩
 obtain ⟨-,-,hd1,hd2,hd3⟩:=Y4 hco2
 have hfit2:=UU hin.ok hok2 (cs:=Z9 L pu z1 rows) YU hcl hd1 hd2 hd3.1 z0 z2
 obtain ⟨el1,el2,el3⟩:=Jj hp2 hfit2
 have HE1:=Lib.hid el1
 have HE2:=Lib.hid el2
 have HE3:=Lib.hid el3
 obtain ⟨el4,el5,el6⟩:=Ux hfit2
 clear el1 el2 el3
 have HAn2:=Lib.hid (fun D0 D1 D2 D3 D4 n0 n1 n2 n3 n4 k0 k1 k2 k3 k4 w' (hb:Below w3.heap.size w3 w') h0 h1 h2 h3 h4=>UW L pu z1 z0 z2 vars A AM D0 D1 D2 D3 D4 n c nM cM n0 n1 n2 n3 n4 k0 k1 k2 k3 k4 rows M _ _ _ _ _ w' hin.ok hin.tf (HRows.out w' (Za hb0 hb)) hin.vo (Zx _ _ _ _ hb hin.m) h0 h1 h2 h3 h4 hco2 hin.ml hin.mr)
 have HFS:=Lib.hid (fun w=>je L s2 w hin.ok hs2)
 have HOf:=Lib.hid (fun w=>U8 L w)
 have HS:=Lib.hid (fun A1 A2 n1 c1 n2 c2 l w h1 h2=>zH3 A1 A2 n1 c1 n2 c2 l w h1 h2)
 have hte2:=xk hin.ok hok2 hin.mlt YU hcl hd1 hd2 hd3.1 z0 z2 (tgK L.p rows.length z1 (1 :: PB) rows 3)
 have hte:=hte0
 clear hte0
 generalize zE L (tgK L.p rows.length z1 (1 :: PB) rows 3) (Z9 L pu z1 rows) M z2=res at *
 generalize XW L M (Yo L seed (L.a+L.b+L.b+L.b)) (Yb L.p seed [1] L.k) z0=N1 at *
 generalize XV L (Z9 L pu z1 rows) M (Yo L seed (L.a+L.b+L.b+L.b)) (Yb L.p seed [2] (L.k+L.block-2))=N2 at *
 generalize XN L M (Yo L seed (L.a+L.b+L.b+L.b)) (Yb L.p seed [3] (L.block+2*L.queries-1)) z2=N3 at *
 have hpu:pu≤5000000000:=by have:=hin.tf.small;omega
 generalize XW L M (Yo L s2 (L.a+L.b+L.b+L.b)) (Yb L.p s2 [1] L.k) z0=E1 at *
 generalize XV L (Z9 L pu z1 rows) M (Yo L s2 (L.a+L.b+L.b+L.b)) (Yb L.p s2 [2] (L.k+L.block-2))=E2 at *
 generalize XN L M (Yo L s2 (L.a+L.b+L.b+L.b)) (Yb L.p s2 [3] (L.block+2*L.queries-1)) z2=E3 at *
 have lk1:=hin.ok.k
 have lk2:=hin.ok.b2
 have lk3:=hin.ok.q2
 have hm1:=(Zy (HWs.out _ hb0)).1
 have hm2:=(Zy (HWs.out _ hb0)).2.1
 have hm3:=(Zy (HWs.out _ hb0)).2.2.1
 have hlen:=hin.len
 have g1N:N1.length≤5000000000:=by omega
 have g2N:N2.length≤5000000000:=by omega
 have g3N:N3.length≤5000000000:=by omega
 have e1N:E1.length≤5000000000:=by omega
 have e2N:E2.length≤5000000000:=by omega
 have e3N:E3.length≤5000000000:=by omega
 have HSv:=Lib.hid (fun B B1 B2 B3 d d1 d2 d3 w' (h:Below w3.heap.size w3 w') hpb ha hb hq=>K8 L pu z1 z0 z2 vars A B B1 B2 B3 n c d E1.length d1 E2.length d2 E3.length d3 rows PB E1 E2 E3 w' hin.ok hin.tf (HRows.out w' (Za hb0 h)) hpb ha hb hq e1N e2N e3N hpu hte2)
 have HSu:=Lib.hid (fun B B1 B2 B3 d d1 d2 d3 w' (h:Below w3.heap.size w3 w') hpb ha hb hq=>K8 L pu z1 z0 z2 vars A B B1 B2 B3 n c d N1.length d1 N2.length d2 N3.length d3 rows PB N1 N2 N3 w' hin.ok hin.tf (HRows.out w' (Za hb0 h)) hpb ha hb hq g1N g2N g3N hpu hte)
 obtain ⟨e,he⟩:∃ e,e=1+pu:=⟨_,rfl⟩
 have e1:(1:Int)+(pu:Int)=(e:Int):=by omega
 have e2:IntKind.i64.wrap (e:Int)=(e:Int):=ZD _ (by omega) (by omega)
 have e3:(1:Int)≤(e:Int):=by omega
 have e4:(e:Int)≤(d:Int):=by omega
 have e5:e-1=pu:=by omega
 have HPB:=Lib.hid (fun w' (hb:Below W.heap.size W w')=>UM (k:=pu) (Jp (HWs.out w' hb) (t:=1) (by omega)) (by omega))
 rw [←hPB] at HPB
 generalize hBP:(if d=1 then B else Option.map (fun x=>x.add 1) B)=BP at HPB
 have hBP2:(if d=1 then B else Option.map (fun x=>(⟨x.block,x.off+1,none⟩:Addr)) B)=BP:=hBP
 have HBP:=Lib.hid hBP2
 clear hBP hBP2
 clear hte2 hok2 hco2 hml2 hd1 hd2 hd3 hfit2 el4 el5 el6
 clear hte hlen hm1 hm2 hm3 lk1 lk2 lk3 fl4 fl5 fl6 hfit hok hco hml hc1 hc2 hc3 hcl hin HWs hPB he hp1 hp2
 unfold Zz Yr at *
 have cb:=kb.cell
 go_upto_region 7 with fail
 rw [HBP.out]
 have cl:=kl.cell
 have cc:=kc.cell
 have cx:=kx.cell
 go_wp2_with fail
 refine (HAn.out _ (Below.refl _ _)).mono ?_
 rintro e w4 ⟨v1,v2,v3,rfl,o1,o2,o3,hb3⟩
 obtain ⟨P1,p1,rfl,-⟩:=Zo o1
 obtain ⟨P2,p2,rfl,-⟩:=Zo o2
 obtain ⟨P3,p3,rfl,-⟩:=Zo o3
 have g1:=ZZ o1 HF1.out
 have g2:=ZZ o2 HF2.out
 have g3:=ZZ o3 HF3.out
 replace kl:=kl.below hb3 kl.lt
 replace kx:=kx.below hb3 kx.lt
 replace kc:=kc.below hb3 kc.lt
 replace kb:=kb.below hb3 kb.lt
 replace hb0:=Za hb0 hb3
 clear cl cc cx cb o1 o2 o3
 go_upto_region 8 with fail
 have kA:=Blk.new w4 46 #[.slice P1 N1.length p1, .slice P2 N2.length p2, .slice P3 N3.length p3]
 have hal:=(Below.refl w4.heap.size w4).alloc (Nat.le_refl _) (.cells #[.slice P1 N1.length p1, .slice P2 N2.length p2, .slice P3 N3.length p3] 46)
 replace kl:=kl.below hal kl.lt
 replace kx:=kx.below hal kx.lt
 replace kc:=kc.below hal kc.lt
 replace kb:=kb.below hal kb.lt
 replace hb0:=Za hb0 hal
 replace hb3:=Za hb3 hal
 replace g1:=Zc _ _ _ _ hal g1
 replace g2:=Zc _ _ _ _ hal g2
 replace g3:=Zc _ _ _ _ hal g3
 generalize w4.alloc _=w6 at kl kx kc kb kA hb0 hb3 g1 g2 g3 ⊢
 generalize w4.heap.size=gA at kA ⊢
 clear hal
 have cl:=kl.cell
 have ll:=kl.lt
 have cx:=kx.cell
 have lx:=kx.lt
 have cb:=kb.cell
 have lb:=kb.lt
 refine zr (w6.heap.size) [6,8,10,12] [0,1,2,3,4,5,7,9,6,8,10] 11 [12] 46 #[.slice none 0 0, .slice none 0 0, .slice none 0 0] (by kernel_rfl) rfl ⟨rfl,fun a w=>by go_simp <;> rfl⟩ (by kernel_rfl) ?_
 refine Gs ?_
 intro Wc HWc hacc
 have hNw:w6.heap.size≤Wc.heap.size:=by rw [HWc.out];first | exact Nat.le_refl _ | omega
 have hbW:Below w6.heap.size w6 Wc:=by rw [HWc.out];exact (Below.refl _ _).drew
 repeat (first | (refine VH rfl rfl (fun _ _ _ h=>h) ?_;simp only [Act.put,zLa,zLb,zLc]) | (refine X6 (v:=?_) rfl rfl hNw (fun _ _ _ h=>h) ?_ ?_;rotate_left;(· (intro w' hR;(first | have hcells:=Zw ((Zd w6.heap.size).trans _ _ _ hacc hR) | skip);go_simp;try with_reducible rfl));simp only [Act.put,zLa,zLb,zLc]))
 refine Je (f:=?_) (vals:=?_) rfl rfl rfl hNw ?_ (fun wF hxF=>?_)
 rotate_left 3
 replace hbW:=Za hbW hxF
 replace hacc:=(Zd w6.heap.size).trans _ _ _ hacc (ZH hxF hNw)
 replace hNw:=Nat.le_trans hNw hxF.size
 refine (HOf.out _).mono ?_
 rotate_left
 ·intro w_;go_simp <;> rfl
 rintro e w7 ⟨rfl,hbx⟩
 clear hxF
 refine ⟨_,rfl,hbx,?_⟩
 replace hbW:=Za hbW hbx
 replace hacc:=(Zd w6.heap.size).trans _ _ _ hacc (ZH hbx hNw)
 replace hNw:=Nat.le_trans hNw hbx.size
 simp only [Act.put,zLa,zLb,zLc]
 clear hbx
 repeat (first | (refine VH rfl rfl (fun _ _ _ h=>h) ?_;simp only [Act.put,zLa,zLb,zLc]) | (refine X6 (v:=?_) rfl rfl hNw (fun _ _ _ h=>h) ?_ ?_;rotate_left;(· (intro w' hR;(first | have hcells:=Zw ((Zd w6.heap.size).trans _ _ _ hacc hR) | skip);go_simp;try with_reducible rfl));simp only [Act.put,zLa,zLb,zLc]))
 refine Je (f:=?_) (vals:=?_) rfl rfl rfl hNw ?_ (fun wF hxF=>?_)
 rotate_left 3
 replace hbW:=Za hbW hxF
 replace hacc:=(Zd w6.heap.size).trans _ _ _ hacc (ZH hxF hNw)
 replace hNw:=Nat.le_trans hNw hxF.size
 refine (HFS.out _).mono ?_
 rotate_left
 ·intro w_;go_simp <;> rfl
 rintro e w8 ⟨v0,v1,v2,v3,v4,rfl,r0,r1,r2,r3,r4,hbx⟩
 clear hxF
 refine ⟨_,rfl,hbx,?_⟩
 replace hbW:=Za hbW hbx
 replace hacc:=(Zd w6.heap.size).trans _ _ _ hacc (ZH hbx hNw)
 replace hNw:=Nat.le_trans hNw hbx.size
 simp only [Act.put,zLa,zLb,zLc]
 clear hbx
 obtain ⟨S0,a0,s0',rfl⟩:=RSl.slc r0
 obtain ⟨S1,s1',rfl⟩:=ZR r1
 obtain ⟨S2,s2',rfl⟩:=ZR r2
 obtain ⟨S3,s3',rfl⟩:=ZR r3
 obtain ⟨S4,s4',rfl⟩:=ZR r4
 repeat (first | (refine VH rfl rfl (fun _ _ _ h=>h) ?_;simp only [Act.put,zLa,zLb,zLc]) | (refine X6 (v:=?_) rfl rfl hNw (fun _ _ _ h=>h) ?_ ?_;rotate_left;(· (intro w' hR;(first | have hcells:=Zw ((Zd w6.heap.size).trans _ _ _ hacc hR) | skip);go_simp;try with_reducible rfl));simp only [Act.put,zLa,zLb,zLc]))
 refine Je (f:=?_) (vals:=?_) rfl rfl rfl hNw ?_ (fun wF hxF=>?_)
 rotate_left 3
 replace hbW:=Za hbW hxF
 replace hacc:=(Zd w6.heap.size).trans _ _ _ hacc (ZH hxF hNw)
 replace hNw:=Nat.le_trans hNw hxF.size
 refine (HAn2.out _ _ _ _ _ _ _ _ _ _ _ _ _ _ _ _ (Za hb3 hbW) (Zx _ _ _ _ hxF r0) (Zc _ _ _ _ hxF r1) (Zc _ _ _ _ hxF r2) (Zc _ _ _ _ hxF r3) (Zc _ _ _ _ hxF r4)).mono ?_
 rotate_left
 ·intro w_;go_simp <;> rfl
 rintro e w9 ⟨v5,v6,v7,rfl,o5,o6,o7,hbx⟩
 clear hxF
 refine ⟨_,rfl,hbx,?_⟩
 replace hbW:=Za hbW hbx
 replace hacc:=(Zd w6.heap.size).trans _ _ _ hacc (ZH hbx hNw)
 replace hNw:=Nat.le_trans hNw hbx.size
 simp only [Act.put,zLa,zLb,zLc]
 clear hbx r0 r1 r2 r3 r4
 replace o5:=ZQ o5 (Nat.zero_le _)
 replace o6:=ZQ o6 (Nat.zero_le _)
 replace o7:=ZQ o7 (Nat.zero_le _)
 obtain ⟨S5,s5',rfl,-⟩:=Zo o5
 obtain ⟨S6,s6',rfl,-⟩:=Zo o6
 obtain ⟨S7,s7',rfl,-⟩:=Zo o7
 repeat (first | (refine VH rfl rfl (fun _ _ _ h=>h) ?_;simp only [Act.put,zLa,zLb,zLc]) | (refine X6 (v:=?_) rfl rfl hNw (fun _ _ _ h=>h) ?_ ?_;rotate_left;(· (intro w' hR;(first | have hcells:=Zw ((Zd w6.heap.size).trans _ _ _ hacc hR) | skip);go_simp;try with_reducible rfl));simp only [Act.put,zLa,zLb,zLc]))
 refine zAj hNw (fun oj wE gE hoj hxE kE hgE=>?_)
 obtain rfl:=Option.some.inj hoj
 clear hoj
 replace hbW:=Za hbW hxE
 replace o5:=Zh o5 hxE (Nat.le_refl _)
 replace o6:=Zh o6 hxE (Nat.le_refl _)
 replace o7:=Zh o7 hxE (Nat.le_refl _)
 replace hacc:=(Zd w6.heap.size).trans _ _ _ hacc (ZH hxE hNw)
 replace hNw:=Nat.le_trans hNw hxE.size
 clear hxE
 simp only [Act.put,zLa,zLb,zLc]
 obtain ⟨cE,rE⟩:=kE.cells'
 repeat (first | (refine Zf (Zd w6.heap.size) rfl rfl (fun _ _ _ h=>h) ?_;simp only [Act.put,zLa,zLb,zLc]) | (refine Ze (v:=?_) (Zd w6.heap.size) rfl rfl (fun _ _ _ h=>h) ?_ ?_;rotate_left;(· (intro w' hR;(first | have hcells:=Zw ((Zd w6.heap.size).trans _ _ _ hacc hR) | skip);go_simp;try with_reducible rfl));simp only [Act.put,zLa,zLb,zLc]))
 refine Z6 (Zd w6.heap.size) rfl rfl rfl ?_
 go_simp
 have hg:=ZX (w:=wE) (g:=gE) (.slice S5 E1.length s5') (.slice S6 E2.length s6') (.slice S7 E3.length s7')
 have kB:=Ye kE (.slice S5 E1.length s5') (.slice S6 E2.length s6') (.slice S7 E3.length s7')
 replace o5:=Xc o5 hg (fun q h1 h2=>Xn o5 kE (by decide) q h1 h2)
 replace o6:=Xc o6 hg (fun q h1 h2=>Xn o6 kE (by decide) q h1 h2)
 replace o7:=Xc o7 hg (fun q h1 h2=>Xn o7 kE (by decide) q h1 h2)
 refine ⟨Zg hg hNw hgE,?_⟩
 replace hbW:=hbW.trans (Zg hg hNw hgE)
 clear hg cE rE hacc kE
 try simp only [Act.put,zLa,zLb,zLc]
 generalize ((wE.setCell _ _).setCell _ _).setCell _ _=wg at *
 have hacc:=(Zd w6.heap.size).refl wg
 repeat (first | (refine Zf (Zd w6.heap.size) rfl rfl (fun _ _ _ h=>h) ?_;simp only [Act.put,zLa,zLb,zLc]) | (refine Ze (v:=?_) (Zd w6.heap.size) rfl rfl (fun _ _ _ h=>h) ?_ ?_;rotate_left;(· (intro w' hR;(first | have hcells:=Zw ((Zd w6.heap.size).trans _ _ _ hacc hR) | skip);go_simp;try with_reducible rfl));simp only [Act.put,zLa,zLb,zLc]))
 refine Zt ?_
 clear hacc hNw hgE cl ll cx lx cb lb HWc HFS HOf HAn2
 have m1:=ZZ o5 HE1.out
 have m2:=ZZ o6 HE2.out
 have m3:=ZZ o7 HE3.out
 replace kl:=kl.below hbW kl.lt
 replace kx:=kx.below hbW kx.lt
 replace kc:=kc.below hbW kc.lt
 replace kb:=kb.below hbW kb.lt
 replace kA:=kA.below hbW kA.lt
 replace hb0:=Za hb0 hbW
 replace hb3:=Za hb3 hbW
 replace g1:=Zc _ _ _ _ hbW g1
 replace g2:=Zc _ _ _ _ hbW g2
 replace g3:=Zc _ _ _ _ hbW g3
 clear hbW o5 o6 o7
 have cl:=kl.cell
 have cc:=kc.cell
 have cx:=kx.cell
 have cb:=kb.cell
 go_wp2_with fail
 refine (HAn.out _ hb3).mono ?_
 rintro e w11 ⟨v1,v2,v3,rfl,o1,o2,o3,hbx⟩
 obtain ⟨Q1,q1,rfl,-⟩:=Zo o1
 obtain ⟨Q2,q2,rfl,-⟩:=Zo o2
 obtain ⟨Q3,q3,rfl,-⟩:=Zo o3
 have n1':=ZZ o1 HF1.out
 have n2':=ZZ o2 HF2.out
 have n3':=ZZ o3 HF3.out
 replace kl:=kl.below hbx kl.lt
 replace kx:=kx.below hbx kx.lt
 replace kb:=kb.below hbx kb.lt
 replace kA:=kA.below hbx kA.lt
 replace kB:=kB.below hbx kB.lt
 replace hb0:=Za hb0 hbx
 replace hb3:=Za hb3 hbx
 replace g1:=Zc _ _ _ _ hbx g1
 replace g2:=Zc _ _ _ _ hbx g2
 replace g3:=Zc _ _ _ _ hbx g3
 replace m1:=Zc _ _ _ _ hbx m1
 replace m2:=Zc _ _ _ _ hbx m2
 replace m3:=Zc _ _ _ _ hbx m3
 clear cl cc cx cb o1 o2 o3 HAn kc hbx
 go_upto_region 10 with fail
 have kC:=Blk.new w11 46 #[.slice Q1 N1.length q1, .slice Q2 N2.length q2, .slice Q3 N3.length q3]
 have hal:=(Below.refl w11.heap.size w11).alloc (Nat.le_refl _) (.cells #[.slice Q1 N1.length q1, .slice Q2 N2.length q2, .slice Q3 N3.length q3] 46)
 replace kl:=kl.below hal kl.lt
 replace kx:=kx.below hal kx.lt
 replace kb:=kb.below hal kb.lt
 replace kA:=kA.below hal kA.lt
 replace kB:=kB.below hal kB.lt
 replace hb0:=Za hb0 hal
 replace hb3:=Za hb3 hal
 replace g1:=Zc _ _ _ _ hal g1
 replace g2:=Zc _ _ _ _ hal g2
 replace g3:=Zc _ _ _ _ hal g3
 replace m1:=Zc _ _ _ _ hal m1
 replace m2:=Zc _ _ _ _ hal m2
 replace m3:=Zc _ _ _ _ hal m3
 replace n1':=Zc _ _ _ _ hal n1'
 replace n2':=Zc _ _ _ _ hal n2'
 replace n3':=Zc _ _ _ _ hal n3'
 generalize w11.alloc _=w12 at kl kx kb kA kB kC hb0 hb3 g1 g2 g3 m1 m2 m3 n1' n2' n3' ⊢
 generalize w11.heap.size=gC at kC ⊢
 clear hal
 have cl:=kl.cell
 have ll:=kl.lt
 have cx:=kx.cell
 have lx:=kx.lt
 have cb:=kb.cell
 have lb:=kb.lt
 have cA:=kA.cell
 have lA:=kA.lt
 have cB:=kB.cell
 have lB:=kB.lt
 have cC:=kC.cell
 have lC:=kC.lt
 have q9:(res == res)=true:=by cases res <;> rfl
 refine Zq (ZK) [7,15,22,29,36] [0,1,2,3,4,5,6,8,9,10,11,12,13,14,7,15,16,17,18,19,20,21,22,23,24,25,26,27,28,29,30,31,32,33,34,35,36,37,38] (by kernel_rfl) (by kernel_rfl) ?_
 refine Zp (later_moves) ?_
 intro Wc HWc hacc
 have hbW:Below w12.heap.size w12 Wc:=by rw [HWc.out];exact (Below.refl _ _).drew
 replace hb0:=Za hb0 hbW
 replace hb3:=Za hb3 hbW
 replace g1:=Zc _ _ _ _ hbW g1
 replace g2:=Zc _ _ _ _ hbW g2
 replace g3:=Zc _ _ _ _ hbW g3
 replace m1:=Zc _ _ _ _ hbW m1
 replace m2:=Zc _ _ _ _ hbW m2
 replace m3:=Zc _ _ _ _ hbW m3
 replace n1':=Zc _ _ _ _ hbW n1'
 replace n2':=Zc _ _ _ _ hbW n2'
 replace n3':=Zc _ _ _ _ hbW n3'
 clear hbW HWc
 repeat (first | (refine Zf (later_moves) rfl rfl (fun _ _ _ h=>h) ?_;simp only [Act.put,zLa,zLb,zLc]) | (refine Ze (v:=?_) (later_moves) rfl rfl (fun _ _ _ h=>h) ?_ ?_;rotate_left;(· (intro w' hR;(first | have hcells:=Zb ((later_moves).trans _ _ _ hacc hR) | skip);go_simp;try with_reducible rfl));simp only [Act.put,zLa,zLb,zLc]))
 refine Zk (later_moves) rfl rfl rfl (fun _=>by go_simp <;> rfl) ((HSu.out _ _ _ _ _ _ _ _ _ hb3 (HPB.out _ hb0) g1 g2 g3).mono ?_)
 rintro e w13 ⟨rfl,hbx⟩
 refine ⟨_,rfl,hbx,?_⟩
 replace hacc:=(later_moves).trans _ _ _ hacc (hbx)
 simp only [Act.put,zLa,zLb,zLc]
 replace hb0:=Za hb0 hbx
 replace hb3:=Za hb3 hbx
 replace g1:=Zc _ _ _ _ hbx g1
 replace g2:=Zc _ _ _ _ hbx g2
 replace g3:=Zc _ _ _ _ hbx g3
 replace m1:=Zc _ _ _ _ hbx m1
 replace m2:=Zc _ _ _ _ hbx m2
 replace m3:=Zc _ _ _ _ hbx m3
 replace n1':=Zc _ _ _ _ hbx n1'
 replace n2':=Zc _ _ _ _ hbx n2'
 replace n3':=Zc _ _ _ _ hbx n3'
 clear hbx
 repeat (first | (refine Zf (later_moves) rfl rfl (fun _ _ _ h=>h) ?_;simp only [Act.put,zLa,zLb,zLc]) | (refine Ze (v:=?_) (later_moves) rfl rfl (fun _ _ _ h=>h) ?_ ?_;rotate_left;(· (intro w' hR;(first | have hcells:=Zb ((later_moves).trans _ _ _ hacc hR) | skip);go_simp;try with_reducible rfl));simp only [Act.put,zLa,zLb,zLc]))
 refine Zk (later_moves) rfl rfl rfl (fun _=>by go_simp <;> rfl) ((HSv.out _ _ _ _ _ _ _ _ _ hb3 (HPB.out _ hb0) m1 m2 m3).mono ?_)
 rintro e w14 ⟨rfl,hbx⟩
 refine ⟨_,rfl,hbx,?_⟩
 replace hacc:=(later_moves).trans _ _ _ hacc (hbx)
 simp only [Act.put,zLa,zLb,zLc]
 replace hb0:=Za hb0 hbx
 replace g1:=Zc _ _ _ _ hbx g1
 replace g2:=Zc _ _ _ _ hbx g2
 replace g3:=Zc _ _ _ _ hbx g3
 replace n1':=Zc _ _ _ _ hbx n1'
 replace n2':=Zc _ _ _ _ hbx n2'
 replace n3':=Zc _ _ _ _ hbx n3'
 clear hbx
 repeat (first | (refine Zf (later_moves) rfl rfl (fun _ _ _ h=>h) ?_;simp only [Act.put,zLa,zLb,zLc]) | (refine Ze (v:=?_) (later_moves) rfl rfl (fun _ _ _ h=>h) ?_ ?_;rotate_left;(· (intro w' hR;(first | have hcells:=Zb ((later_moves).trans _ _ _ hacc hR) | skip);go_simp;try with_reducible rfl));simp only [Act.put,zLa,zLb,zLc]))
 refine Zk (later_moves) rfl rfl rfl (fun _=>by go_simp <;> rfl) ((HS.out _ _ _ _ _ _ _ _ g1 n1').mono ?_)
 rintro e w15 ⟨rfl,hbx⟩
 refine ⟨_,rfl,hbx,?_⟩
 replace hacc:=(later_moves).trans _ _ _ hacc (hbx)
 simp only [Act.put,zLa,zLb,zLc]
 replace hb0:=Za hb0 hbx
 replace g2:=Zc _ _ _ _ hbx g2
 replace g3:=Zc _ _ _ _ hbx g3
 replace n2':=Zc _ _ _ _ hbx n2'
 replace n3':=Zc _ _ _ _ hbx n3'
 clear hbx
 repeat (first | (refine Zf (later_moves) rfl rfl (fun _ _ _ h=>h) ?_;simp only [Act.put,zLa,zLb,zLc]) | (refine Ze (v:=?_) (later_moves) rfl rfl (fun _ _ _ h=>h) ?_ ?_;rotate_left;(· (intro w' hR;(first | have hcells:=Zb ((later_moves).trans _ _ _ hacc hR) | skip);go_simp;try with_reducible rfl));simp only [Act.put,zLa,zLb,zLc]))
 refine Zk (later_moves) rfl rfl rfl (fun _=>by go_simp <;> rfl) ((HS.out _ _ _ _ _ _ _ _ g2 n2').mono ?_)
 rintro e w16 ⟨rfl,hbx⟩
 refine ⟨_,rfl,hbx,?_⟩
 replace hacc:=(later_moves).trans _ _ _ hacc (hbx)
 simp only [Act.put,zLa,zLb,zLc]
 replace hb0:=Za hb0 hbx
 replace g3:=Zc _ _ _ _ hbx g3
 replace n3':=Zc _ _ _ _ hbx n3'
 clear hbx
 repeat (first | (refine Zf (later_moves) rfl rfl (fun _ _ _ h=>h) ?_;simp only [Act.put,zLa,zLb,zLc]) | (refine Ze (v:=?_) (later_moves) rfl rfl (fun _ _ _ h=>h) ?_ ?_;rotate_left;(· (intro w' hR;(first | have hcells:=Zb ((later_moves).trans _ _ _ hacc hR) | skip);go_simp;try with_reducible rfl));simp only [Act.put,zLa,zLb,zLc]))
 refine Zk (later_moves) rfl rfl rfl (fun _=>by go_simp <;> rfl) ((HS.out _ _ _ _ _ _ _ _ g3 n3').mono ?_)
 rintro e w17 ⟨rfl,hbx⟩
 refine ⟨_,rfl,hbx,?_⟩
 replace hacc:=(later_moves).trans _ _ _ hacc (hbx)
 simp only [Act.put,zLa,zLb,zLc]
 replace hb0:=Za hb0 hbx
 clear hbx
 repeat (first | (refine Zf (later_moves) rfl rfl (fun _ _ _ h=>h) ?_;simp only [Act.put,zLa,zLb,zLc]) | (refine Ze (v:=?_) (later_moves) rfl rfl (fun _ _ _ h=>h) ?_ ?_;rotate_left;(· (intro w' hR;(first | have hcells:=Zb ((later_moves).trans _ _ _ hacc hR) | skip);go_simp;try with_reducible rfl));simp only [Act.put,zLa,zLb,zLc]))
 refine Zt ?_
 clear hacc
 go_wp2
 go_ret
 exact ⟨rfl,hb0⟩
end Go.Proofs.YtakjnmojigechaaGreat
namespace Go.Proofs.YtakjnmojigechaaGreat.responseMasked
open Go.ChangeShapes Go.WideShapes Go.ChangeAt Go.RowKit
open Go.ChangeMaps (open_string shut_string)
set_option linter.unusedVariables false
theorem own:ownKnob Tryz.prog.godebug=none:=by kernel_rfl
theorem laidOut:laidOutB Tryz.prog=true:=by kernel_rfl
set_option maxRecDepth 100000 in
theorem lifted (os:Os) (started:os.Started) (H:Type) (enc:TypeId × Value→H) :
  ReturnsInHanded {} Tryz.checked os 9 .any (Rows.responseMaskedSpec.pre6 enc Tryz.prog Tryz.f9 Rows.responseMaskedRow.domain false) (Rows.responseMaskedSpec.post enc Tryz.prog Tryz.f9 false true false false):=by
 refine returnsInHanded_of_change (C:=Tryz.checked) own started (by kernel_rfl) Tryz.func9
  (ChangeSpec.witness6 (enc:=enc) (C:=Tryz.checked) false ⟨#[],#[.agg #[.int .u64 0, .int .i64 0, .int .i64 0, .slice none 0 0, .int .i64 0, .int .i64 0, .int .i64 0, .slice none 0 0, .int .u64 0, .int .u64 0, .int .u64 0, .int .u64 0, .slice none 0 0, .slice none 0 0], .int .u64 0],[]⟩ 12 (by kernel_rfl) (by kernel_rfl) (by kernel_rfl) (by kernel_rfl)) ?_
 intro W base args ds gs before hval0 hW hcnd _
 have hval:∀ (j:Nat) t v,Tryz.f9.params[j]?=some t→args[j]?=some v→Value.okWide Tryz.prog W .any base t v:=hval0
 have hW':=hW
 obtain ⟨p,q,hA0,hV,rfl,hfz,hnd⟩:=hW
 have hA:DataW.TrodAll enc Tryz.prog W 0 (fun _=>true) true Tryz.f9.params.toList args.toList ds p:=hA0
 rw [Tryz.params9] at hA hval
 obtain ⟨v0,vs0,d0,ds0,p0,q0,hargs,rfl,rfl,h0,r0⟩:=trodAll_cons hA
 obtain ⟨v1,vs1,d1,ds1,p1,q1,rfl,rfl,rfl,h1,r1⟩:=trodAll_cons r0
 obtain ⟨rfl,rfl,rfl⟩:=trodAll_nil r1
 obtain rfl:args=#[v0,v1]:=by cases args;simp_all
 obtain ⟨rfl,rfl⟩:=trodVars_none hV
 have lt0:∀ x∈p0,x.block<W.heap.size:=by obtain ⟨m,hm⟩:=h0;exact DataW.trod_lt m _ _ _ hm
 have k0:=h0
 have lt1:∀ x∈p1,x.block<W.heap.size:=by obtain ⟨m,hm⟩:=h1;exact DataW.trod_lt m _ _ _ hm
 have k1:=h1
 obtain ⟨cs0,rfl,z0⟩:=okWide_struct Tryz.underlying35 (hval 0 35 v0 rfl rfl)
 obtain ⟨a1,rfl,rfl,rfl,w1⟩:=open_int Tryz.underlying22 (hval 1 22 _ rfl rfl) h1
 clear hA0 hval0
 refine (Gd W cs0 (Fits.of_trod k0) a1 w1).mono fun e W' ⟨he,bel⟩=>?_
 subst he
 exact ⟨_,rfl,_,_,_,[],_,[],hW',trodAll_mk1 (shut_bool Tryz.underlying4 _),(trodAll_cons_mk (Below.trod laidOut (by kernel_rfl) (of_decide_eq_true (by kernel_rfl)) k0 bel lt0) (trodAll_cons_mk (Below.trod laidOut (by kernel_rfl) (of_decide_eq_true (by kernel_rfl)) k1 bel lt1) trodAll_mk0)),rfl,bel.frame _,fun h=>by cases h⟩
theorem over:Rows.responseMaskedRow.holds Tryz.pinned (OpenSpec.ofChange Rows.responseMaskedSpec) :=
 OpenClaim.holds_of_wide 9 Tryz.f9 rfl rfl rfl rfl rfl rfl rfl ⟨rfl,rfl,rfl,rfl,rfl⟩ rfl rfl rfl rfl rfl (by kernel_rfl) Tryz.func9 (by kernel_rfl)
  (of_decide_eq_true (by kernel_rfl)) (by unfold Func.isWrapper;first | (rw [if_pos (by decide +kernel)];kernel_rfl) | (rw [if_neg (by decide +kernel)];exact ⟨rfl,rfl⟩))
  (fun os started H enc _=>lifted os started H enc)
theorem proved:Rows.ResponseMaskedSaid:=over
#print axioms proved
end Go.Proofs.YtakjnmojigechaaGreat.responseMasked
