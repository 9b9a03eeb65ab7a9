/- A part of the proof. No condition. -/
import Derived.Test.YtdhhdplholkmdaaGreatProg
import Derived.Test.YtdhhdplholkmdaaGreatPC4
import Derived.Test.YtdhhdplholkmdaaGreatPC5
import Derived.Test.YtdhhdplholkmdaaGreatPC6

namespace Go.Proofs.YtdhhdplholkmdaaGreat
open Go.RowKit
theorem Z5 {p:Nat} (h:okP p=true):17≤p∧p<18446744073709551616:=by
 rcases Uo h with rfl | rfl | rfl | rfl | rfl | rfl | rfl <;> omega
set_option maxRecDepth 100000 in
set_option maxHeartbeats 1000000 in
theorem Ul (p a b:Nat) (w:World) (hp:okP p=true) :
  Calls Tryz.prog 32 #[.int .u64 p, .int .u64 a, .int .u64 b] w fun e w'=>e= .returned (.int .u64 ((a+b)%p:Nat))∧Below w.heap.size w w':=by
 obtain ⟨h1,h2⟩:=Z5 hp
 have HO:=Lib.hid hp
 have p1:(0:Int)<(p:Int):=by omega
 have p2:¬((p:Int)=0):=by omega
 have ha:a%p<p:=Nat.mod_lt _ (by omega)
 have hb:b%p<p:=Nat.mod_lt _ (by omega)
 have HE:=Lib.hid (Nat.add_mod a b p)
 have e1:(a:Int)%(p:Int)=((a%p:Nat):Int):=rfl
 have e2:(b:Int)%(p:Int)=((b%p:Nat):Int):=rfl
 rw [HE.out]
 clear HE
 revert e1 e2 ha hb
 generalize a%p=x
 generalize b%p=y
 intro ha hb e1 e2
 have e3:IntKind.u64.wrap ((p:Int)-(y:Int))=((p-y:Nat):Int):=Vi p y (by omega) h2
 have hz:p-y≤p:=by omega
 have hz2:p-y=p-y:=rfl
 obtain ⟨z,hzz⟩:∃ z,z=p-y:=⟨_,rfl⟩
 rw [←hzz] at e3
 have HX:=Lib.hid (show z≤x∧x+y<36893488147419103232→True from fun _=>trivial)
 by_cases hc:z≤x
 ·have e4:IntKind.u64.wrap ((x:Int)-(z:Int))=((x-z:Nat):Int):=Vi x z hc (by omega)
  obtain ⟨r,hr⟩:∃ r,r=x-z:=⟨_,rfl⟩
  rw [←hr] at e4
  have HR:=Lib.hid (show (x+y)%p=r by rw [hr,hzz,Nat.mod_eq_sub_mod (by omega),Nat.mod_eq_of_lt (by omega)];omega)
  have d1:decide ((z:Int)≤(x:Int))=true:=decide_eq_true (by omega)
  clear hr hzz hz hz2 h1 h2 ha hb hp
  rw [HR.out]
  go_enter Tryz.func32,Tryz.ntmps32
  go_wp2_with (go_at_call 76;refine (Yk p _ (Z5 HO.out).2).mono ?_;rintro e w1 ⟨rfl,hb1⟩;rw [HO.out])
  go_quiet (fail)
  go_wp2
  go_ret
  exact ⟨rfl,Xy hb1 _⟩
 ·have e4:IntKind.u64.wrap ((x:Int)+(y:Int))=((x+y:Nat):Int):=yL x y (by omega)
  obtain ⟨r,hr⟩:∃ r,r=x+y:=⟨_,rfl⟩
  rw [←hr] at e4
  have HR:=Lib.hid (show (x+y)%p=r by rw [hr,Nat.mod_eq_of_lt (by omega)])
  have d1:decide ((z:Int)≤(x:Int))=false:=decide_eq_false (by omega)
  clear hr hzz hz hz2 h1 h2 ha hb hp
  rw [HR.out]
  go_enter Tryz.func32,Tryz.ntmps32
  go_wp2_with (go_at_call 76;refine (Yk p _ (Z5 HO.out).2).mono ?_;rintro e w1 ⟨rfl,hb1⟩;rw [HO.out])
  go_quiet (fail)
  go_wp2
  go_ret
  exact ⟨rfl,Xy hb1 _⟩
set_option maxRecDepth 100000 in
set_option maxHeartbeats 1000000 in
theorem JV (p a b:Nat) (w:World) (hp:okP p=true) :
  Calls Tryz.prog 190 #[.int .u64 p, .int .u64 a, .int .u64 b] w fun e w'=>e= .returned (.int .u64 (a*b%p:Nat))∧Below w.heap.size w w':=by
 obtain ⟨h1,h2⟩:=Z5 hp
 have HO:=Lib.hid hp
 have p1:(0:Int)<(p:Int):=by omega
 have p2:¬((p:Int)=0):=by omega
 have p3:¬(p=0):=by omega
 have ha:a%p<p:=Nat.mod_lt _ (by omega)
 have hb:b%p<p:=Nat.mod_lt _ (by omega)
 have e1:(a:Int)%(p:Int)=((a%p:Nat):Int):=rfl
 have e2:(b:Int)%(p:Int)=((b%p:Nat):Int):=rfl
 have e3:(a:Int).tmod (p:Int)=((a%p:Nat):Int):=rfl
 have e4:(b:Int).tmod (p:Int)=((b%p:Nat):Int):=rfl
 rw [Nat.mul_mod a b p]
 revert e1 e2 e3 e4 ha hb
 generalize a%p=x
 generalize b%p=y
 intro ha hb e1 e2 e3 e4
 have HX:=Lib.hid (show x<18446744073709551616∧y<18446744073709551616 by omega)
 have hhi:x*y / 18446744073709551616<p:=by
  have:x*y≤p*18446744073709551615:=Nat.mul_le_mul (by omega) (by omega)
  rw [Nat.div_lt_iff_lt_mul (by omega)]
  omega
 have hlo:x*y%18446744073709551616<18446744073709551616:=Nat.mod_lt _ (by omega)
 have hXY:=Nat.div_add_mod (x*y) 18446744073709551616
 rw [Nat.mul_comm 18446744073709551616] at hXY
 have HM:=Lib.hid (fun w=>yl x y w HX.out.1 HX.out.2)
 revert hhi hlo hXY HM
 generalize x*y / 18446744073709551616=hi
 generalize x*y%18446744073709551616=lo
 intro hhi hlo hXY HM
 have HD:=Lib.hid (fun w=>yv hi lo p w hhi hlo h2)
 rw [hXY] at HD
 clear h1 h2 ha hb hhi hlo hXY hp
 revert HD
 generalize x*y / p=q
 generalize x*y%p=r
 intro HD
 go_enter Tryz.func190,Tryz.ntmps190
 go_wp2_with (go_at_call 76;refine (Yk p _ (Z5 HO.out).2).mono ?_;rintro e w1 ⟨rfl,hb1⟩;rw [HO.out])
 refine Zx (Yj) [6] [0,1,2,3,4,5,6,7,8,9,10,11] (by kernel_rfl) (by kernel_rfl) ?_
 refine Yt (later_moves) ?_
 intro Wc hacc
 repeat (first | (refine Zh (later_moves) rfl rfl (fun _ _ _ h=>h) ?_;simp only [Act.put,zLa,zLb,zLc]) | (refine Ze (v:=?_) (later_moves) rfl rfl (fun _ _ _ h=>h) ?_ ?_;rotate_left;(· (intro w' hR;(first | have hcells:=Zd ((later_moves).trans _ _ _ hacc hR) | skip);go_simp;try with_reducible rfl));simp only [Act.put,zLa,zLb,zLc]))
 refine ZX (later_moves) rfl rfl rfl (fun _=>by go_simp <;> rfl) ((HM.out _).mono ?_)
 rintro e w2 ⟨rfl,rfl⟩
 refine ⟨_,rfl,later_moves.refl _,?_⟩
 replace hacc:=(later_moves).trans _ _ _ hacc (later_moves.refl _)
 simp only [Act.put,zLa,zLb,zLc]
 repeat (first | (refine Zh (later_moves) rfl rfl (fun _ _ _ h=>h) ?_;simp only [Act.put,zLa,zLb,zLc]) | (refine Ze (v:=?_) (later_moves) rfl rfl (fun _ _ _ h=>h) ?_ ?_;rotate_left;(· (intro w' hR;(first | have hcells:=Zd ((later_moves).trans _ _ _ hacc hR) | skip);go_simp;try with_reducible rfl));simp only [Act.put,zLa,zLb,zLc]))
 refine Zt ?_
 go_wp2_with (go_at_call 246;refine (HD.out _).mono ?_;rintro e w3 ⟨rfl,k,rfl⟩)
 go_ret
 exact ⟨rfl,Xy (Za hb1.drew hacc) _⟩
end Go.Proofs.YtdhhdplholkmdaaGreat
