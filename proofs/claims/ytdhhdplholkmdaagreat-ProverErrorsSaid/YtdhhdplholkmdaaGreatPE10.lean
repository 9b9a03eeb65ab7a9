/- A part of the proof. No condition. -/
import Derived.BigQuiet
import Derived.Deep.QuietTactic
import Derived.Test.YtdhhdplholkmdaaGreatProg
import Derived.Test.YtdhhdplholkmdaaGreatPE6

namespace Go.Proofs.YtdhhdplholkmdaaGreat
open Go.RowKit
def Yv (p:Nat) (n:Int) (l:List (Int × Nat)) (i:Nat):Bool :=
 decide ((l.getD i (0,0)).1<0)||decide (n≤(l.getD i (0,0)).1)||(decide (0<i)&&decide ((l.getD i (0,0)).1≤(l.getD (i-1) (0,0)).1))||(l.getD i (0,0)).2 == 0||decide (p≤(l.getD i (0,0)).2)
def Yk (p:Nat) (n:Int) (l:List (Int × Nat)):Bool:=(List.range l.length).all fun i=>!Yv p n l i
theorem ZR {p:Nat} {n:Int} {l:List (Int × Nat)} {j:Nat} (hj:j<l.length) (h:Yv p n l j=true):Yk p n l=false:=by
 unfold Yk
 rw [List.all_eq_false]
 exact ⟨j,by simpa using hj,by simp [h]⟩
theorem XM {p:Nat} {n:Int} {l:List (Int × Nat)} (h:∀ k<l.length,Yv p n l k=false):Yk p n l=true:=by
 unfold Yk
 rw [List.all_eq_true]
 intro k hk
 simp [h k (by simpa using hk)]
theorem Xr {f:Nat→Bool} {j:Nat} (h:∀ k<j,f k=false) (hj:f j=false):∀ k<j+1,f k=false:=fun k hk=>by
 rcases Nat.lt_or_ge k j with h1 | h1
 ·exact h k h1
 ·have e:k=j:=by omega
  rw [e]
  exact hj
theorem RLin.at_ {w:World} {b q:Nat} {l:List (Int × Nat)} (h:RdL w 2 JI (some ⟨b,q,none⟩) l) {i:Nat} (hi:i<l.length) :
  w.cell? ⟨b,q+i*2,none⟩=some (.int .i64 (l.getD i (0,0)).1)∧w.cell? ⟨b,q+i*2+1,none⟩=some (.int .u64 ((l.getD i (0,0)).2:Int)):=by
 obtain ⟨cs,hl,hc,rfl,-,-⟩:=h.get hi
 have h0:=hc 0 (by omega)
 have h1:=hc 1 (by omega)
 simp [hi] at h0 h1 ⊢
 exact ⟨h0,h1⟩
set_option maxRecDepth 100000 in
set_option maxHeartbeats 4000000 in
theorem Ye (p:Nat) (n:Int) (A:Option Addr) (len c:Nat) (l:List (Int × Nat)) (w:World) (hl:RLin w [.slice A len c] l) (_hp:p<18446744073709551616) :
  Calls Tryz.prog 221 #[.int .u64 p, .slice A len c, .int .i64 n] w fun e w'=>e= .returned (.bool (Yk p n l))∧Below w.heap.size w w':=by
 obtain ⟨A',n',c',he,hlen,hnc,hmx,hrd⟩:=hl
 simp at he
 obtain ⟨rfl,rfl,rfl⟩:=he
 subst hlen
 go_enter Tryz.func221,Tryz.ntmps221
 go_wp2_with fail
 go_loopw [7] (fun i wr=>∃ j:Nat,j≤l.length∧i= .int .i64 (j:Int)∧Below w.heap.size w wr∧Hid (∀ k<j,Yv p n l k=false))
  (fun i _=>l.length-(intOf i).toNat)
 case atStart=>exact ⟨0,Nat.zero_le _,rfl,Below.refl _ _,fun k hk=>by omega⟩
 case round =>
  obtain ⟨j,hj,rfl,hb,HB⟩:=hrel
  by_cases hlt:j<l.length
  ·have HL:=Lib.hid hlt
   obtain ⟨b,q,rfl⟩:=hrd.base (by omega) (by omega)
   have hrd':=hrd.below Yx hb
   obtain ⟨c1,c2⟩:=RLin.at_ hrd' hlt
   have g0:(l.length:Int)≤9223372036854775807:=by
    have h3:=hnc
    have h4:=hmx
    simp [maxLen] at h4
    omega
   have g1:(0:Int)≤(j:Int):=by omega
   have g2:(j:Int)<(l.length:Int):=by omega
   have HD:Hid (Yv p n l j=(decide ((l.getD j (0,0)).1<0)||decide (n≤(l.getD j (0,0)).1)||(decide (0<j)&&decide ((l.getD j (0,0)).1≤(l.getD (j-1) (0,0)).1))||(l.getD j (0,0)).2 == 0||decide (p≤(l.getD j (0,0)).2))):=rfl
   have HC:=Lib.hid (fun (h0:0<j)=>(RLin.at_ hrd' (show j-1<l.length by omega)).1)
   revert c1 c2 HD HC
   generalize (l.getD j (0,0)).1=x
   generalize (l.getD j (0,0)).2=y
   generalize (l.getD (j-1) (0,0)).1=z
   intro c1 c2 HD HC
   clear hrd hrd'
   by_cases z1:x<0
   ·have d1:=decide_eq_true z1
    go_wp2_with fail
    go_quiet (fail)
    go_wp2
    go_ret
    exact ⟨by rw [ZR HL.out (HD.out.trans (by simp [*]))];rfl,by first | exact below_drewN hb _ | exact hb⟩
   ·have d1:=decide_eq_false z1
    by_cases z2:n≤x
    ·have d2:=decide_eq_true z2
     go_wp2_with fail
     go_quiet (fail)
     go_wp2
     go_ret
     exact ⟨by rw [ZR HL.out (HD.out.trans (by simp [*]))];rfl,by first | exact below_drewN hb _ | exact hb⟩
    ·have d2:=decide_eq_false z2
     rcases Nat.eq_zero_or_pos j with z3 | z3
     ·subst z3
      simp only [Nat.zero_mul,Nat.add_zero] at c1 c2
      by_cases z4:y=0
      ·subst z4
       go_wp2_with fail
       go_quiet (fail)
       go_wp2
       go_ret
       exact ⟨by rw [ZR HL.out (HD.out.trans (by simp [*]))];rfl,by first | exact below_drewN hb _ | exact hb⟩
      ·have d4:((y:Int) == 0)=false:=by rw [beq_eq_false_iff_ne];omega
       by_cases z5:p≤y
       ·have d5:decide ((p:Int)≤(y:Int))=true:=decide_eq_true (by omega)
        go_wp2_with fail
        go_quiet (fail)
        go_wp2
        go_ret
        exact ⟨by rw [ZR HL.out (HD.out.trans (by simp [*]))];rfl,by first | exact below_drewN hb _ | exact hb⟩
       ·have d5:decide ((p:Int)≤(y:Int))=false:=decide_eq_false (by omega)
        go_wp2_with fail
        go_quiet (fail)
        go_wp2
        go_roundw
        case rel=>exact ⟨0+1,by omega,by go_num,by first | exact below_drewN hb _ | exact hb,Xr HB.out (HD.out.trans (by simp [*]))⟩
        case measure=>simp [intOf];omega
     ·have d3:decide ((0:Int)<(j:Int))=true:=decide_eq_true (by omega)
      have c3:=HC.out z3
      have i1:(0:Int)≤(j:Int)-1:=by omega
      have i2:(j:Int)-1<(l.length:Int):=by omega
      have i3:((j:Int)-1).toNat=j-1:=by omega
      by_cases z6:x≤z
      ·have d6:=decide_eq_true z6
       go_wp2_with fail
       go_quiet (fail)
       go_wp2
       go_ret
       exact ⟨by rw [ZR HL.out (HD.out.trans (by simp [*]))];rfl,by first | exact below_drewN hb _ | exact hb⟩
      ·have d6:=decide_eq_false z6
       by_cases z4:y=0
       ·subst z4
        go_wp2_with fail
        go_quiet (fail)
        go_wp2
        go_ret
        exact ⟨by rw [ZR HL.out (HD.out.trans (by simp [*]))];rfl,by first | exact below_drewN hb _ | exact hb⟩
       ·have d4:((y:Int) == 0)=false:=by rw [beq_eq_false_iff_ne];omega
        by_cases z5:p≤y
        ·have d5:decide ((p:Int)≤(y:Int))=true:=decide_eq_true (by omega)
         go_wp2_with fail
         go_quiet (fail)
         go_wp2
         go_ret
         exact ⟨by rw [ZR HL.out (HD.out.trans (by simp [*]))];rfl,by first | exact below_drewN hb _ | exact hb⟩
        ·have d5:decide ((p:Int)≤(y:Int))=false:=decide_eq_false (by omega)
         go_wp2_with fail
         go_quiet (fail)
         go_wp2
         go_roundw
         case rel=>exact ⟨j+1,by omega,by go_num,by first | exact below_drewN hb _ | exact hb,Xr HB.out (HD.out.trans (by simp [*]))⟩
         case measure=>simp [intOf];omega
  ·go_wp2
   go_ret
   have e:j=l.length:=by omega
   subst e
   exact ⟨by rw [XM HB.out];rfl,hb⟩
end Go.Proofs.YtdhhdplholkmdaaGreat
