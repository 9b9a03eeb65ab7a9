/- A part of the proof. No condition. -/
import Derived.Test.YtjipleoamlmkfaaGreatProg
import Derived.Test.YtjipleoamlmkfaaGreatPF4
import Derived.Test.YtjipleoamlmkfaaGreatPF5
import Derived.Test.YtjipleoamlmkfaaGreatPF6

set_option maxRecDepth 100000
set_option maxHeartbeats 8000000
set_option linter.unusedVariables false
set_option linter.unusedSimpArgs false
namespace Go.Proofs.YtjipleoamlmkfaaGreat
open Go.RowKit
theorem nc {p:Nat} (h:Db p=true):17 <= p /\ p<18446744073709551616:=by
 rcases Hw h with rfl | rfl | rfl | rfl | rfl | rfl | rfl <;> omega
theorem Yx (p a b:Nat) (w:World) (hp:Db p=true) :
  Calls Tryz.prog 69 #[.int .u64 p, .int .u64 a, .int .u64 b] w fun e w'=>e= .returned (.int .u64 ((a+b)%p:Nat)) /\ Below w.heap.size w w':=by
 obtain ⟨h1,h2⟩:=nc hp;have HO:=zH hp;have p1:(0:Int)<(p:Int):=by omega
 have p2:¬((p:Int)=0):=by omega
 have ha:a%p<p:=Nat.mod_lt _ (by omega)
 have hb:b%p<p:=Nat.mod_lt _ (by omega)
 have HE:=zH (Nat.add_mod a b p);have e1:(a:Int)%(p:Int)=((a%p:Nat):Int):=rfl;have e2:(b:Int)%(p:Int)=((b%p:Nat):Int):=rfl;rw [HE.out];clear HE;revert e1 e2 ha hb
 generalize a%p=x;generalize b%p=y;intro ha hb e1 e2;have e3:IntKind.u64.wrap ((p:Int)-(y:Int))=((p-y:Nat):Int):=Yn p y (by omega) h2
 have hz:p-y <= p:=by omega
 have td:p-y=p-y:=rfl;obtain ⟨z,hzz⟩:=zEX (p-y);rw [<- hzz] at e3;have HX:=zH (show z <= x /\ x+y<36893488147419103232 -> True from fun _=>trivial)
 by_cases hc:z <= x
 ·have e4:IntKind.u64.wrap ((x:Int)-(z:Int))=((x-z:Nat):Int):=Yn x z hc (by omega)
  obtain ⟨r,hr⟩:=zEX (x-z);rw [<- hr] at e4;have HR:=zH (show (x+y)%p=r by rw [hr,hzz,Nat.mod_eq_sub_mod (by omega),Nat.mod_eq_of_lt (by omega)];omega)
  have d1:decide ((z:Int) <= (x:Int))=true:=decide_eq_true (by omega)
  clear hr hzz hz td h1 h2 ha hb hp;rw [HR.out];go_enter Tryz.func69,Tryz.ntmps69
  go_wp2_with (go_at_call 149;refine (Tk p _ (nc HO.out).2).mono ?_;rintro e w1 ⟨rfl,ya⟩;rw [HO.out])
  go_quiet (fail)
  go_wp2;go_ret
  exact ⟨rfl,mv ya _⟩
 ·have e4:IntKind.u64.wrap ((x:Int)+(y:Int))=((x+y:Nat):Int):=mC x y (by omega)
  obtain ⟨r,hr⟩:=zEX (x+y);rw [<- hr] at e4;have HR:=zH (show (x+y)%p=r by rw [hr,Nat.mod_eq_of_lt (by omega)])
  have d1:decide ((z:Int) <= (x:Int))=false:=decide_eq_false (by omega)
  clear hr hzz hz td h1 h2 ha hb hp;rw [HR.out];go_enter Tryz.func69,Tryz.ntmps69
  go_wp2_with (go_at_call 149;refine (Tk p _ (nc HO.out).2).mono ?_;rintro e w1 ⟨rfl,ya⟩;rw [HO.out])
  go_quiet (fail)
  go_wp2;go_ret
  exact ⟨rfl,mv ya _⟩
theorem PB (p a b:Nat) (w:World) (hp:Db p=true) :
  Calls Tryz.prog 150 #[.int .u64 p, .int .u64 a, .int .u64 b] w fun e w'=>e= .returned (.int .u64 (a*b%p:Nat)) /\ Below w.heap.size w w':=by
 obtain ⟨h1,h2⟩:=nc hp;have HO:=zH hp;have p1:(0:Int)<(p:Int):=by omega
 have p2:¬((p:Int)=0):=by omega
 have p3:¬(p=0):=by omega
 have ha:a%p<p:=Nat.mod_lt _ (by omega)
 have hb:b%p<p:=Nat.mod_lt _ (by omega)
 have e1:(a:Int)%(p:Int)=((a%p:Nat):Int):=rfl;have e2:(b:Int)%(p:Int)=((b%p:Nat):Int):=rfl;have e3:(a:Int).tmod (p:Int)=((a%p:Nat):Int):=rfl;have e4:(b:Int).tmod (p:Int)=((b%p:Nat):Int):=rfl;rw [Nat.mul_mod a b p];revert e1 e2 e3 e4 ha hb
 generalize a%p=x;generalize b%p=y;intro ha hb e1 e2 e3 e4;have HX:=zH (show x<18446744073709551616 /\ y<18446744073709551616 by omega)
 have Vq:x*y / 18446744073709551616<p:=by
  have:x*y <= p*18446744073709551615:=Nat.mul_le_mul (by omega) (by omega)
  rw [Nat.div_lt_iff_lt_mul (by omega)]
  omega
 have Yq:x*y%18446744073709551616<18446744073709551616:=Nat.mod_lt _ (by omega)
 have Yi:=Nat.div_add_mod (x*y) 18446744073709551616;rw [Nat.mul_comm 18446744073709551616] at Yi;have HM:=zH (fun w=>YI x y w HX.out.1 HX.out.2)
 revert Vq Yq Yi HM
 generalize x*y / 18446744073709551616=hi;generalize x*y%18446744073709551616=lo;intro Vq Yq Yi HM;have HD:=zH (fun w=>eH hi lo p w Vq Yq h2)
 rw [Yi] at HD;clear h1 h2 ha hb Vq Yq Yi hp;revert HD
 generalize x*y / p=q;generalize x*y%p=r;intro HD;go_enter Tryz.func150,Tryz.ntmps150
 go_wp2_with (go_at_call 149;refine (Tk p _ (nc HO.out).2).mono ?_;rintro e w1 ⟨rfl,ya⟩;rw [HO.out])
 refine Pc (Bb) [6] [0,1,2,3,4,5,6,7,8,9,10,11] (by kernel_rfl) (by kernel_rfl) ?_
 refine Xk (pa) ?_;intro Wc da;refine Kb ?_;refine oc (pa) rfl rfl rfl (fun _=>by go_simp <;> rfl) ((HM.out _).mono ?_)
 rintro e w2 ⟨rfl,rfl⟩;refine ⟨_,rfl,pa.refl _,?_⟩;replace da:=(pa).trans _ _ _ da (pa.refl _);simp only [Act.put,zLa,zLb,zLc];refine Kb ?_;refine pc ?_;go_wp2_with (go_at_call 205;refine (HD.out _).mono ?_;rintro e w3 ⟨rfl,k,rfl⟩)
 go_ret
 exact ⟨rfl,mv (ja ya.drew da) _⟩
end Go.Proofs.YtjipleoamlmkfaaGreat
