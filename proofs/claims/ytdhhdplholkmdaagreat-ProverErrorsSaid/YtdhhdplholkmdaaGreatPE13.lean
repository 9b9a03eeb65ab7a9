/- A part of the proof. No condition. -/
import Derived.Test.YtdhhdplholkmdaaGreatProg
import Derived.Test.YtdhhdplholkmdaaGreatPE12

namespace Go.Proofs.YtdhhdplholkmdaaGreat
open Go.RowKit
def ZJ (p:Nat) (vars:Int) (l:List Nat):Bool:=!((l.length:Int) != vars)&&!((l.length:Int) == 0)&&!(((l.getD 0 0:Nat):Int) != 1)&&l.all fun x=>decide (x<p)
theorem RWd.at_ {w:World} {A:Option Addr} {l:List Nat} (h:Rd w 1 A l.length (U64 l)) {i:Nat} (hi:i<l.length):∃ ad,A=some ad∧w.cell? (ad.add i)=some (.int .u64 ((l.getD i 0:Nat):Int)):=by
 obtain ⟨ad,u,rfl,hu,hc⟩:=h.at_ hi
 rw [Xo hi] at hu
 injection hu with hu
 subst hu
 exact ⟨ad,rfl,by simpa [hi] using hc⟩
set_option maxRecDepth 100000 in
set_option maxHeartbeats 4000000 in
theorem YN (p:Nat) (pub vars:Int) (T:Value) (A:Option Addr) (n c:Nat) (l:List Nat) (w:World) (hl:RWd w [.slice A n c] l) (_hp:p<18446744073709551616) :
  Calls Tryz.prog 39 #[ZE p pub vars T, .slice A n c] w fun e w'=>e= .returned (.bool (ZJ p vars l))∧Below w.heap.size w w':=by
 obtain ⟨A',n',c',he,hnc,hmx,hrd,hlt⟩:=hl
 simp at he
 obtain ⟨rfl,rfl,rfl⟩:=he
 have hlen:=hrd.len1
 rw [Z7] at hlen
 subst hlen
 unfold ZE
 have hb0:∀ o,Below w.heap.size w (w.alloc o):=fun o=>(Below.refl _ w).alloc (Nat.le_refl _) _
 by_cases z1:(l.length:Int)=vars
 ·subst z1
  rcases Nat.eq_zero_or_pos l.length with z2 | z2
  ·have E:=Lib.hid (show ZJ p (l.length:Int) l=false by simp [ZJ,z2])
   rw [z2]
   rw [z2] at E
   go_enter Tryz.func39,Tryz.ntmps39
   go_wp2_with fail
   go_ret
   exact ⟨by rw [E.out];rfl,hb0 _⟩
  ·obtain ⟨ad,rfl,hc⟩:=RWd.at_ (hrd.below (hb0 (.cells #[.int .u64 (p:Int), .int .i64 pub, .int .i64 (l.length:Int),T] 25))) z2
   have g0:((l.length:Int) == 0)=false:=by rw [beq_eq_false_iff_ne];omega
   have g1:(0:Int)<(l.length:Int):=by omega
   have gm:(l.length:Int)≤9223372036854775807:=by
    have h3:=hnc
    have h4:=hmx
    simp [maxLen] at h4
    omega
   by_cases z3:l.getD 0 0=1
   ·have hc0:(w.alloc (.cells #[.int .u64 (p:Int), .int .i64 pub, .int .i64 (l.length:Int),T] 25)).cell? ad=some (.int .u64 1):=by
     rw [z3] at hc
     simpa [Addr.add] using hc
    have E:=Lib.hid (show ZJ p (l.length:Int) l=l.all fun x=>decide (x<p) by unfold ZJ;rw [z3,g0];simp)
    clear hc z3
    go_enter Tryz.func39,Tryz.ntmps39
    go_wp2_with fail
    go_loopw [5] (fun i wr=>∃ j kk:Nat,j≤l.length∧i= .int .i64 (j:Int)∧wr=(w.alloc (.cells #[.int .u64 (p:Int), .int .i64 pub, .int .i64 (l.length:Int),T] 25)).drewN kk∧Hid (∀ k<j,l.getD k 0<p))
     (fun i _=>l.length-(intOf i).toNat)
    case atStart=>exact ⟨0,0,Nat.zero_le _,rfl,rfl,fun k hk=>by omega⟩
    case round =>
     obtain ⟨j,kk,hj,rfl,rfl,HB⟩:=hrel
     by_cases hjl:j<l.length
     ·obtain ⟨ad',he',hc⟩:=RWd.at_ (hrd.below (hb0 (.cells #[.int .u64 (p:Int), .int .i64 pub, .int .i64 (l.length:Int),T] 25))) hjl
      injection he' with he'
      subst he'
      have g2:(0:Int)≤(j:Int):=by omega
      have g3:(j:Int)<(l.length:Int):=by omega
      have HL:=Lib.hid hjl
      have HY:Hid (l.getD j 0=l.getD j 0):=rfl
      revert hc HY
      generalize hy:l.getD j 0=y
      intro hc _
      have HY:=Lib.hid hy
      clear hy
      by_cases z4:p≤y
      ·have d4:decide ((p:Int)≤(y:Int))=true:=decide_eq_true (by omega)
       have HZ:=Lib.hid z4
       clear hrd z4
       go_wp2_with fail
       go_quiet (fail)
       go_wp2
       go_ret
       have HA:(l.all fun x=>decide (x<p))=false:=by
        refine List.all_eq_false.2 ⟨l[j]'HL.out,List.getElem_mem HL.out,?_⟩
        have h1:=HY.out
        have h2:=HZ.out
        simp [HL.out] at h1
        simp [h1]
        omega
       exact ⟨by rw [E.out,HA];rfl,below_drewN (below_drewN (hb0 _) _) _⟩
      ·have d4:decide ((p:Int)≤(y:Int))=false:=decide_eq_false (by omega)
       have HZ:=Lib.hid z4
       clear hrd z4
       go_wp2_with fail
       go_quiet (fail)
       go_wp2
       go_roundw
       case rel =>
        refine ⟨j+1,_,by omega,by go_num,rfl,fun k hk=>?_⟩
        rcases Nat.lt_or_ge k j with h5 | h5
        ·exact HB.out k h5
        ·have e:k=j:=by omega
         subst e
         have h1:=HY.out
         have h2:=HZ.out
         omega
       case measure=>simp [intOf];omega
     ·go_wp2
      go_ret
      have e:j=l.length:=by omega
      have HA:(l.all fun x=>decide (x<p))=true:=by
       refine List.all_eq_true.2 ?_
       intro x hx
       obtain ⟨k,hk,rfl⟩:=List.getElem_of_mem hx
       have:=HB.out k (by omega)
       simpa [hk] using this
      exact ⟨by rw [E.out,HA];rfl,below_drewN (hb0 _) _⟩
   ·have hc0:(w.alloc (.cells #[.int .u64 (p:Int), .int .i64 pub, .int .i64 (l.length:Int),T] 25)).cell? ad=some (.int .u64 ((l.getD 0 0:Nat):Int)):=by simpa [Addr.add] using hc
    have d3:(((l.getD 0 0:Nat):Int) != 1)=true:=by rw [bne_iff_ne];omega
    have E:=Lib.hid (show ZJ p (l.length:Int) l=false by unfold ZJ;rw [d3];simp)
    clear hc z3
    revert hc0 d3
    generalize l.getD 0 0=y
    intro hc0 d3
    go_enter Tryz.func39,Tryz.ntmps39
    go_wp2_with fail
    go_ret
    exact ⟨by rw [E.out];rfl,hb0 _⟩
 ·have d1:((l.length:Int) != vars)=true:=by rw [bne_iff_ne];exact z1
  have E:=Lib.hid (show ZJ p vars l=false by simp [ZJ,z1])
  go_enter Tryz.func39,Tryz.ntmps39
  go_wp2_with fail
  go_ret
  exact ⟨by rw [E.out];rfl,hb0 _⟩
theorem YT (n k:Nat) (w:World) (hn:n≤1000000000) (hk:0<k) (hk2:k≤1000000000) :
  Calls Tryz.prog 93 #[.int .i64 (n:Int), .int .i64 (k:Int)] w fun e w'=>e= .returned (.int .i64 (((n+k-1) / k:Nat):Int))∧w'=w:=by
 obtain ⟨m,rfl⟩:∃ m,k=m+1:=⟨k-1,by omega⟩
 have e1:Hid (((n+(m+1)-1) / (m+1):Nat)=(n+m) / (m+1)):=rfl
 go_enter Tryz.func93,Tryz.ntmps93
 go_wp2_with fail
 go_ret
 refine ⟨?_,rfl⟩
 show Ending.returned (.int .i64 (((n:Int)+((m:Int)+1)-1) / ((m:Int)+1)))=_
 rw [show (n:Int)+((m:Int)+1)-1=((n+(m+1)-1:Nat):Int) from by omega]
 rfl
end Go.Proofs.YtdhhdplholkmdaaGreat
