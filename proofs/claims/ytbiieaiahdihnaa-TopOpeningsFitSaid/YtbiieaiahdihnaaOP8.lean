/- A part of the proof. No condition. -/
import Derived.Shelf.Spec.BitsCarry
import Derived.Test.YtbiieaiahdihnaaProg
import Derived.Test.YtbiieaiahdihnaaOP5
import Derived.Test.YtbiieaiahdihnaaOP7

namespace Go.Proofs.Ytbiieaiahdihnaa
open Go.RowKit
def ren25:Go.Shelf.Ren:=⟨fun | 25=>93 | n=>n,fun | 22=>26 | n=>n,fun n=>n⟩
theorem xF:Go.Proofs.Lays7.n25 Try.prog ren25:={ mixed:=by kernel_rfl,f25:=by kernel_rfl,t22:=by kernel_rfl,a22:=fun _=>by kernel_rfl,z22:=fun _=>by kernel_rfl,v22:=fun _=>by kernel_rfl,i22:=by kernel_rfl }
theorem zp (x y:Nat) (w:World):(callFunc 93 #[.int .u64 (x:Int), .int .u64 (y:Int), .int .u64 0]).run Try.prog w =
  .ok (.value (.tuple #[.int .u64 (((x+y)%18446744073709551616:Nat):Int), .int .u64 (((x+y) / 18446744073709551616:Nat):Int)])) w :=
 Any7.bits_Add64 xF x y 0 (by omega) w
def fv (p:Nat):Value:=.agg #[.int .u64 (p:Int)]
set_option maxRecDepth 100000 in
set_option maxHeartbeats 1000000 in
theorem YB (p:Nat) (w:World) (hp:okP p=true) :
  Calls Try.prog 59 #[fv p] w fun e w'=>e= .returned (.bool true)∧Below w.heap.size w w':=by
 unfold fv
 rcases Xh hp with rfl | rfl | rfl | rfl | rfl | rfl | rfl <;>
 ·go_enter Try.func59,Try.ntmps59
  go_wp2_with fail
  go_ret
  exact ⟨rfl,(Below.refl _ _).alloc (Nat.le_refl _) _⟩
set_option maxRecDepth 100000 in
set_option maxHeartbeats 1000000 in
theorem J5 (p:Nat) (w:World) (hp:okP p=true) :
  Calls Try.prog 94 #[fv p] w fun e w'=>e= .returned (.tuple #[.int .u64 ((Z5 p).1:Int), .int .i64 ((Z5 p).2.1:Int), .int .u64 ((Z5 p).2.2:Int)])∧Below w.heap.size w w':=by
 unfold fv
 rcases Xh hp with rfl | rfl | rfl | rfl | rfl | rfl | rfl <;>
 ·go_enter Try.func94,Try.ntmps94
  go_wp2_with fail
  go_ret3
  exact ⟨rfl,(Below.refl _ _).alloc (Nat.le_refl _) _⟩
set_option maxRecDepth 100000 in
set_option maxHeartbeats 400000 in
theorem yS (p:Nat) (w:World) (hp:okP p=true) :
  Calls Try.prog 75 #[fv p] w fun e w'=>e= .returned (.int .u64 ((Z5 p).2.2:Int))∧Below w.heap.size w w':=by
 have H:=Lib.hid (fun w=>J5 p w hp)
 clear hp
 unfold fv at *
 generalize Z5 p=r at *
 obtain ⟨a,b,c⟩:=r
 go_enter Try.func75,Try.ntmps75
 go_wp2_with (go_at_call 94;refine (H.out _).mono ?_;rintro e w1 ⟨rfl,hb⟩)
 go_ret
 exact ⟨rfl,Za ((Below.refl _ _).alloc (Nat.le_refl _) _) hb⟩
set_option maxRecDepth 100000 in
set_option maxHeartbeats 400000 in
theorem Yi (p n:Nat) (w:World) (hp:0<p) :
  Calls Try.prog 74 #[fv p, .int .u64 n] w fun e w'=>e= .returned (.int .u64 ((n%p:Nat):Int))∧Below w.heap.size w w':=by
 unfold fv
 have p1:(0:Int)<(p:Int):=by omega
 have e1:(n:Int)%(p:Int)=((n%p:Nat):Int):=rfl
 have e2:(n:Int).tmod (p:Int)=((n%p:Nat):Int):=rfl
 by_cases h:p≤n
 ·have g:(p:Int)≤(n:Int):=by omega
  revert e1 e2
  generalize n%p=r
  intro e1 e2
  go_enter Try.func74,Try.ntmps74
  go_wp2_with fail
  go_ret
  exact ⟨rfl,(Below.refl _ _).alloc (Nat.le_refl _) _⟩
 ·have g:¬((p:Int)≤(n:Int)):=by omega
  have HE:=Lib.hid (Nat.mod_eq_of_lt (show n<p by omega))
  clear e1 e2
  rw [HE.out]
  go_enter Try.func74,Try.ntmps74
  go_wp2_with fail
  go_ret
  exact ⟨rfl,(Below.refl _ _).alloc (Nat.le_refl _) _⟩
set_option maxRecDepth 100000 in
set_option maxHeartbeats 400000 in
theorem KA (p a b:Nat) (w:World) (hp:okP p=true) (ha:a<p) (hb:b<p) :
  Calls Try.prog 99 #[fv p, .int .u64 a, .int .u64 b] w fun e w'=>e= .returned (.int .u64 ((a*b%p:Nat):Int))∧Below w.heap.size w w':=by
 obtain ⟨h1,h2⟩:=Yb hp
 unfold fv
 have hhi:a*b / 18446744073709551616<p:=by
  have:a*b≤p*18446744073709551615:=Nat.mul_le_mul (by omega) (by omega)
  rw [Nat.div_lt_iff_lt_mul (by omega)]
  omega
 have hlo:a*b%18446744073709551616<18446744073709551616:=Nat.mod_lt _ (by omega)
 have hXY:=Nat.div_add_mod (a*b) 18446744073709551616
 rw [Nat.mul_comm 18446744073709551616] at hXY
 have HM:=Lib.hid (fun w=>JE a b w (by omega) (by omega))
 revert hhi hlo hXY HM
 generalize a*b / 18446744073709551616=hi
 generalize a*b%18446744073709551616=lo
 intro hhi hlo hXY HM
 have HD:=Lib.hid (fun w=>JC hi lo p w hhi hlo h2)
 rw [hXY] at HD
 clear h1 h2 ha hb hhi hlo hXY hp
 revert HD
 generalize a*b / p=q
 generalize a*b%p=r
 intro HD
 go_enter Try.func99,Try.ntmps99
 go_wp2_with fail
 refine (HM.out _).mono ?_
 rintro e w1 ⟨rfl,rfl⟩
 go_wp2_with fail
 refine (HD.out _).mono ?_
 rintro e w3 ⟨rfl,k,rfl⟩
 go_wp2
 go_ret
 exact ⟨rfl,YS ((Below.refl _ _).alloc (Nat.le_refl _) _) _⟩
set_option maxRecDepth 100000 in
set_option maxHeartbeats 400000 in
theorem yg (p a b:Nat) (w:World) (hp:okP p=true) (ha:a<p) (hb:b<p) :
  Calls Try.prog 73 #[fv p, .int .u64 a, .int .u64 b] w fun e w'=>e= .returned (.int .u64 (((a+b)%p:Nat):Int))∧Below w.heap.size w w':=by
 obtain ⟨h1,h2⟩:=Yb hp
 unfold fv
 have hrun:=zp a b
 obtain ⟨s,hs⟩:∃ s,s=(a+b)%18446744073709551616:=⟨_,rfl⟩
 obtain ⟨c,hc⟩:∃ c,c=(a+b) / 18446744073709551616:=⟨_,rfl⟩
 rw [←hs,←hc] at hrun
 by_cases z:c=0
 ·have d1:((c:Int) != 0)=false:=by rw [bne_eq_false_iff_eq];omega
  have d1':(c:Int)=0:=by omega
  by_cases hge:p≤s
  ·have d2:(p:Int)≤(s:Int):=by omega
   have e:IntKind.u64.wrap ((s:Int)-(p:Int))=(((a+b)%p:Nat):Int):=by
    rw [V7 s p hge (by omega)]
    congr 1
    have e1:s=a+b:=by omega
    rw [e1,Nat.mod_eq_sub_mod (by omega),Nat.mod_eq_of_lt (by omega)]
   generalize (a+b)%p=r at *
   clear hs hc hp z ha hb h1 h2 d1'
   go_enter Try.func73,Try.ntmps73
   go_wp2_with fail
   go_ret
   exact ⟨rfl,(Below.refl _ _).alloc (Nat.le_refl _) _⟩
  ·have d2:¬((p:Int)≤(s:Int)):=by omega
   have e:s=(a+b)%p:=by
    have e1:s=a+b:=by omega
    rw [e1,Nat.mod_eq_of_lt (by omega)]
   have HE:=Lib.hid e
   clear hs hc hp z ha hb h1 h2 d1' e
   rw [←HE.out]
   go_enter Try.func73,Try.ntmps73
   go_wp2_with fail
   go_ret
   exact ⟨rfl,(Below.refl _ _).alloc (Nat.le_refl _) _⟩
 ·have d1:((c:Int) != 0)=true:=by rw [bne_iff_ne];omega
  have e:IntKind.u64.wrap ((s:Int)-(p:Int))=(((a+b)%p:Nat):Int):=by
   have e1:(a+b)%p=a+b-p:=by rw [Nat.mod_eq_sub_mod (by omega),Nat.mod_eq_of_lt (by omega)]
   rw [e1,IntKind.wrap_u64]
   omega
  generalize (a+b)%p=r at *
  clear hs hc hp z ha hb h1 h2
  go_enter Try.func73,Try.ntmps73
  go_wp2_with fail
  go_ret
  exact ⟨rfl,(Below.refl _ _).alloc (Nat.le_refl _) _⟩
set_option maxRecDepth 100000 in
set_option maxHeartbeats 400000 in
theorem Uq (p n:Nat) (w:World) (hp:okP p=true) :
  Calls Try.prog 96 #[fv p, .int .u64 n] w fun e w'=>e= .returned (.int .u64 ((n%p:Nat):Int))∧Below w.heap.size w w':=by
 have HV:=Lib.hid (fun w=>YB p w hp)
 have HR:=Lib.hid (fun w=>Yi p n w (by have:=Yb hp;omega))
 clear hp
 unfold fv at *
 generalize n%p=r at *
 have hb0:Below w.heap.size w (w.alloc (.cells #[.int .u64 (p:Int)] 96)):=(Below.refl _ _).alloc (Nat.le_refl _) _
 have kf:=Blk.new w 96 #[.int .u64 (p:Int)]
 go_enter Try.func96,Try.ntmps96
 go_wp2_with fail
 refine (HV.out _).mono ?_
 rintro e w1 ⟨rfl,hb1⟩
 replace kf:=kf.below hb1 kf.lt
 replace hb0:=Za hb0 hb1
 clear hb1
 have cf:=kf.cell
 go_wp2_with fail
 refine (HR.out _).mono ?_
 rintro e w2 ⟨rfl,hb2⟩
 go_wp2
 go_ret
 exact ⟨rfl,Za hb0 hb2⟩
set_option maxRecDepth 100000 in
set_option maxHeartbeats 400000 in
theorem Ye (p a b:Nat) (w:World) (hp:okP p=true) :
  Calls Try.prog 52 #[fv p, .int .u64 a, .int .u64 b] w fun e w'=>e= .returned (.int .u64 (((a+b)%p:Nat):Int))∧Below w.heap.size w w':=by
 have hpp:0<p:=by have:=Yb hp;omega
 have HV:=Lib.hid (fun w=>YB p w hp)
 have HA:=Lib.hid (fun w=>Yi p a w hpp)
 have HB:=Lib.hid (fun w=>Yi p b w hpp)
 have HS:=Lib.hid (fun w=>yg p (a%p) (b%p) w hp (Nat.mod_lt _ hpp) (Nat.mod_lt _ hpp))
 rw [←Nat.add_mod] at HS
 clear hp hpp
 unfold fv at *
 generalize (a+b)%p=r at *
 generalize a%p=x at *
 generalize b%p=y at *
 have hb0:Below w.heap.size w (w.alloc (.cells #[.int .u64 (p:Int)] 96)):=(Below.refl _ _).alloc (Nat.le_refl _) _
 have kf:=Blk.new w 96 #[.int .u64 (p:Int)]
 go_enter Try.func52,Try.ntmps52
 go_wp2_with fail
 refine (HV.out _).mono ?_
 rintro e w1 ⟨rfl,hb1⟩
 replace kf:=kf.below hb1 kf.lt
 replace hb0:=Za hb0 hb1
 clear hb1
 have cf:=kf.cell
 have lf:=kf.lt
 go_wp2_with fail
 refine Zp (ZQ) (later_moves) [] [] [0,1,2,3,4,5,6,7,8] (by kernel_rfl) (by kernel_rfl) ?_
 refine Zo (later_moves) ?_
 intro Wc hacc
 repeat (first | (refine Zf (later_moves) rfl rfl rfl rfl (fun _ _ _ h=>h) ?_;simp only [Act.put,zLa,zLb,zLc]) | (refine Zd (v:=?_) (later_moves) rfl rfl rfl rfl (fun _ _ _ h=>h) ?_ ?_;rotate_left;(· (intro w' hR;(first | have hcells:=Zc ((later_moves).trans _ _ _ hacc hR) | skip);go_simp;try with_reducible rfl));simp only [Act.put,zLa,zLb,zLc]))
 refine Zk (later_moves) rfl rfl rfl rfl (fun _ _ _ h=>h) (fun _=>by go_simp <;> rfl) (fun w' hR=>HA.out _) ?_
 simp only [Act.put,zLa,zLb,zLc]
 repeat (first | (refine Zf (later_moves) rfl rfl rfl rfl (fun _ _ _ h=>h) ?_;simp only [Act.put,zLa,zLb,zLc]) | (refine Zd (v:=?_) (later_moves) rfl rfl rfl rfl (fun _ _ _ h=>h) ?_ ?_;rotate_left;(· (intro w' hR;(first | have hcells:=Zc ((later_moves).trans _ _ _ hacc hR) | skip);go_simp;try with_reducible rfl));simp only [Act.put,zLa,zLb,zLc]))
 refine Zk (later_moves) rfl rfl rfl rfl (fun _ _ _ h=>h) (fun _=>by go_simp <;> rfl) (fun w' hR=>HB.out _) ?_
 simp only [Act.put,zLa,zLb,zLc]
 repeat (first | (refine Zf (later_moves) rfl rfl rfl rfl (fun _ _ _ h=>h) ?_;simp only [Act.put,zLa,zLb,zLc]) | (refine Zd (v:=?_) (later_moves) rfl rfl rfl rfl (fun _ _ _ h=>h) ?_ ?_;rotate_left;(· (intro w' hR;(first | have hcells:=Zc ((later_moves).trans _ _ _ hacc hR) | skip);go_simp;try with_reducible rfl));simp only [Act.put,zLa,zLb,zLc]))
 refine Zk (later_moves) rfl rfl rfl rfl (fun _ _ _ h=>h) (fun _=>by go_simp <;> rfl) (fun w' hR=>HS.out _) ?_
 simp only [Act.put,zLa,zLb,zLc]
 repeat (first | (refine Zf (later_moves) rfl rfl rfl rfl (fun _ _ _ h=>h) ?_;simp only [Act.put,zLa,zLb,zLc]) | (refine Zd (v:=?_) (later_moves) rfl rfl rfl rfl (fun _ _ _ h=>h) ?_ ?_;rotate_left;(· (intro w' hR;(first | have hcells:=Zc ((later_moves).trans _ _ _ hacc hR) | skip);go_simp;try with_reducible rfl));simp only [Act.put,zLa,zLb,zLc]))
 refine YC rfl ?_
 intro wd hRd
 replace hacc:=(later_moves).trans _ _ _ hacc hRd
 clear hRd
 go_wp2
 go_ret
 exact ⟨rfl,Za hb0.drew hacc⟩
end Go.Proofs.Ytbiieaiahdihnaa
