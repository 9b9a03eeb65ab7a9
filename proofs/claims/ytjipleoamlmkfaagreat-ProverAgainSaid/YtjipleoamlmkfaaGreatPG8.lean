/- A part of the proof. No condition. -/
import Derived.Test.YtjipleoamlmkfaaGreatProg
import Derived.Test.YtjipleoamlmkfaaGreatPG7

set_option maxRecDepth 100000
set_option maxHeartbeats 8000000
set_option linter.unusedVariables false
set_option linter.unusedSimpArgs false
namespace Go.Proofs.YtjipleoamlmkfaaGreat
open Go.RowKit
def De (p:Nat) (vars:Int) (l:List Nat):Bool:=!((l.length:Int) != vars)&&!((l.length:Int) == 0)&&!(((l.getD 0 0:Nat):Int) != 1)&&l.all fun x=>decide (x<p)
theorem RWd.at_ {w:World} {A:Option Addr} {l:List Nat} (h:Rd w 1 A l.length (Ca l)) {i:Nat} (hi:i<l.length):∃ ad,A=some ad /\ w.cell? (ad.add i)=some (.int .u64 ((l.getD i 0:Nat):Int)):=by
 obtain ⟨ad,u,rfl,hu,hc⟩:=h.at_ hi;rw [jv hi] at hu
 injection hu with hu
 subst hu;exact ⟨ad,rfl,by simpa [hi] using hc⟩
theorem dF (p:Nat) (pub vars:Int) (T:Value) (A:Option Addr) (n c:Nat) (l:List Nat) (w:World) (hl:RWd w [.slice A n c] l) (_hp:p<18446744073709551616) :
  Calls Tryz.prog 83 #[Ib p pub vars T, .slice A n c] w fun e w'=>e= .returned (.bool (De p vars l)) /\ Below w.heap.size w w':=by
 obtain ⟨A',n',c',he,Sc,Gd,za,oa⟩:=hl;simp at he
 obtain ⟨rfl,rfl,rfl⟩:=he;have hlen:=za.len1;rw [Gi] at hlen;subst hlen;unfold Ib;have aa:∀ o,Below w.heap.size w (w.alloc o):=fun o=>(Below.refl _ w).alloc zR _
 by_cases z1:(l.length:Int)=vars
 ·subst z1
  rcases Nat.eq_zero_or_pos l.length with z2 | z2
  ·have E:=zH (show De p (l.length:Int) l=false by simp [De,z2])
   rw [z2];rw [z2] at E;go_enter Tryz.func83,Tryz.ntmps83
   go_wp2_with fail
   go_ret
   exact ⟨by rw [E.out];rfl,aa _⟩
  ·obtain ⟨ad,rfl,hc⟩:=RWd.at_ (za.below (aa (.cells #[.int .u64 p, .int .i64 pub, .int .i64 l.length,T] 25))) z2
   have g0:((l.length:Int) == 0)=false:=by rw [beq_eq_false_iff_ne];omega
   have g1:(0:Int)<(l.length:Int):=by omega
   have gm:(l.length:Int) <= 9223372036854775807:=by
    have h3:=Sc;have h4:=Gd;simp [maxLen] at h4
    omega
   by_cases z3:l.getD 0 0=1
   ·have aj:(w.alloc (.cells #[.int .u64 p, .int .i64 pub, .int .i64 l.length,T] 25)).cell? ad=some (.int .u64 1):=by
     rw [z3] at hc
     simpa [Addr.add] using hc
    have E:=zH (show De p (l.length:Int) l=l.all fun x=>decide (x<p) by unfold De;rw [z3,g0];simp)
    clear hc z3;go_enter Tryz.func83,Tryz.ntmps83
    go_wp2_with fail
    go_loopw [5] (fun i wr=>∃ j kk:Nat,j <= l.length /\ i= .int .i64 j /\ wr=(w.alloc (.cells #[.int .u64 p, .int .i64 pub, .int .i64 l.length,T] 25)).drewN kk /\ Hid (∀ k<j,l.getD k 0<p))
     (fun i _=>l.length-(intOf i).toNat)
    case atStart=>exact ⟨0,0,Nat.zero_le _,rfl,rfl,fun k hk=>by omega⟩
    case round =>
     obtain ⟨j,kk,hj,rfl,rfl,HB⟩:=hrel;by_cases Il:j<l.length
     ·obtain ⟨ad',he',hc⟩:=RWd.at_ (za.below (aa (.cells #[.int .u64 p, .int .i64 pub, .int .i64 l.length,T] 25))) Il
      injection he' with he'
      subst he';have g2:(0:Int) <= (j:Int):=by omega
      have g3:(j:Int)<(l.length:Int):=by omega
      have HL:=zH Il;have HY:Hid (l.getD j 0=l.getD j 0):=rfl;revert hc HY
      generalize hy:l.getD j 0=y;intro hc _;have HY:=zH hy;clear hy;by_cases z4:p <= y
      ·have d4:decide ((p:Int) <= (y:Int))=true:=decide_eq_true (by omega)
       have HZ:=zH z4;clear za z4;go_wp2_with fail
       go_quiet (fail)
       go_wp2;go_ret
       have HA:(l.all fun x=>decide (x<p))=false:=by
        refine List.all_eq_false.2 ⟨l[j]'HL.out,List.getElem_mem HL.out,?_⟩;have h1:=HY.out;have h2:=HZ.out;simp [HL.out] at h1
        simp [h1]
        omega
       exact ⟨by rw [E.out,HA];rfl,below_drewN (below_drewN (aa _) _) _⟩
      ·have d4:decide ((p:Int) <= (y:Int))=false:=decide_eq_false (by omega)
       have HZ:=zH z4;clear za z4;go_wp2_with fail
       go_quiet (fail)
       go_wp2
       go_roundw
       case rel =>
        refine ⟨j+1,_,by omega,by go_num,rfl,fun k hk=>?_⟩
        rcases Nat.lt_or_ge k j with h5 | h5
        ·exact HB.out k h5
        ·have e:k=j:=by omega
         subst e;have h1:=HY.out;have h2:=HZ.out;omega
       case measure=>simp [intOf];omega
     ·go_wp2
      go_ret
      have e:j=l.length:=by omega
      have HA:(l.all fun x=>decide (x<p))=true:=by
       refine List.all_eq_true.2 ?_;intro x hx;obtain ⟨k,hk,rfl⟩:=List.getElem_of_mem hx;have:=HB.out k (by omega)
       simpa [hk] using this
      exact ⟨by rw [E.out,HA];rfl,below_drewN (aa _) _⟩
   ·have aj:(w.alloc (.cells #[.int .u64 p, .int .i64 pub, .int .i64 l.length,T] 25)).cell? ad=some (.int .u64 ((l.getD 0 0:Nat):Int)):=by simpa [Addr.add] using hc
    have d3:(((l.getD 0 0:Nat):Int) != 1)=true:=by rw [bne_iff_ne];omega
    have E:=zH (show De p (l.length:Int) l=false by unfold De;rw [d3];simp)
    clear hc z3;revert aj d3
    generalize l.getD 0 0=y;intro aj d3;go_enter Tryz.func83,Tryz.ntmps83
    go_wp2_with fail
    go_ret
    exact ⟨by rw [E.out];rfl,aa _⟩
 ·have d1:((l.length:Int) != vars)=true:=by rw [bne_iff_ne];exact z1
  have E:=zH (show De p vars l=false by simp [De,z1])
  go_enter Tryz.func83,Tryz.ntmps83
  go_wp2_with fail
  go_ret
  exact ⟨by rw [E.out];rfl,aa _⟩
theorem IK (n k:Nat) (w:World) (hn:n <= 1000000000) (hk:0<k) (mn:k <= 1000000000) :
  Calls Tryz.prog 159 #[.int .i64 n, .int .i64 k] w fun e w'=>e= .returned (.int .i64 (((n+k-1) / k:Nat):Int)) /\ w'=w:=by
 obtain ⟨m,rfl⟩:∃ m,k=m+1:=⟨k-1,by omega⟩
 have e1:Hid (((n+(m+1)-1) / (m+1):Nat)=(n+m) / (m+1)):=rfl;go_enter Tryz.func159,Tryz.ntmps159
 go_wp2_with fail
 go_ret
 refine ⟨?_,rfl⟩;show Ending.returned (.int .i64 (((n:Int)+((m:Int)+1)-1) / ((m:Int)+1)))=_
 rw [show (n:Int)+((m:Int)+1)-1=((n+(m+1)-1:Nat):Int) from by omega]
 rfl
end Go.Proofs.YtjipleoamlmkfaaGreat
