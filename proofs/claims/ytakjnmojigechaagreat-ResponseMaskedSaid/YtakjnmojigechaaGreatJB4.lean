/- A part of the proof. No condition. -/
import Derived.BigQuiet
import Derived.Deep.QuietTactic
import Derived.Test.YtakjnmojigechaaGreatProg
import Derived.Test.YtakjnmojigechaaGreatJB2
import Derived.Test.YtakjnmojigechaaGreatJB3

namespace Go.Proofs.YtakjnmojigechaaGreat
open Go.RowKit
theorem Y2 (b q k:Nat):(⟨b,q,none⟩:Addr).add k=⟨b,q+k,none⟩:=by
 unfold Addr.add
 split
 ·subst_vars;rfl
 ·rfl
theorem RdL.base {α:Type} {R:World→List Value→α→Prop} {sz:Nat} {w:World} {A:Option Addr} {l:List α} (h:RdL w sz R A l) (hsz:0<sz) (hl:0<l.length):∃ b q,A=some ⟨b,q,none⟩:=by
 obtain ⟨a,b,q,cs,rfl,hq,-⟩:=h.at_ hsz hl
 refine ⟨b,q,?_⟩
 rw [←hq]
 simp [Addr.add]
theorem RdL.get {α:Type} {R:World→List Value→α→Prop} {sz:Nat} {w:World} {b q:Nat} {l:List α} (h:RdL w sz R (some ⟨b,q,none⟩) l) {i:Nat} (hi:i<l.length) :
  ∃ cs,cs.length=sz∧(∀ j,j<sz→w.cell? ⟨b,q+i*sz+j,none⟩=cs[j]?)∧R w cs l[i]:=by
 obtain ⟨a,cs,e,hl,hc,hr⟩:=h i hi
 injection e with e
 subst e
 refine ⟨cs,hl,fun j hj=>?_,hr⟩
 rw [←hc j hj,Y2,Nat.add_assoc]
theorem UA {P:Program} {w:World} {t e:TypeId} {n:Nat} {cs:Array Value} {v:Value} {i:Nat} (h:P.underlying t=some (.array n e)) (hs:((isAgg e).run P w)= .ok false w) (hz:((sizeOf e).run P w)= .ok 1 w) (hi:i<n) (hv:cs[i]?=some v) :
  (Instr.index t (.agg cs) (.int .i64 (i:Int))).run P w= .ok v w:=by
 have h1:(0:Int)≤(i:Int)∧(i:Int)<(n:Int):=by omega
 simp [Instr.index,run_underlying h,asIntOf,h1,hi,hz,hs,hv,part,Result.andThen]
theorem zEv {w:World}:((isAgg 22).run Tryz.prog w)= .ok false w:=by simp [isAgg,run_underlying Tryz.underlying22]
theorem zAv {w:World}:((sizeOf 22).run Tryz.prog w)= .ok 1 w:=by
 obtain ⟨i0,hi,hz0,hz1,hz2⟩:=info_parts zG7
 simp [sizeOf,typeInfo,hi,hz1]
theorem zBo {w:World} {a b c:Value}:(Instr.index 166 (.agg #[a,b,c]) (.int .i64 0)).run Tryz.prog w= .ok a w :=
 UA (i:=0) Tryz.underlying166 zEv zAv (by omega) rfl
set_option maxRecDepth 100000 in
set_option maxHeartbeats 400000 in
theorem Yt (p:Nat) (w:World) (hp:p<18446744073709551616) :
  Calls Tryz.prog 63 #[.int .u64 p] w fun e w'=>e= .returned (.bool (okP p))∧Below w.heap.size w w':=by
 have HO:=Lib.hid (zIu p)
 have HR:=Lib.hid (zAl p w hp)
 unfold zu at HR
 revert HO HR
 generalize (ZJ p).1=a
 generalize (ZJ p).2.1=b
 generalize (ZJ p).2.2=c
 intro HO HR
 go_enter Tryz.func63,Tryz.ntmps63
 go_wp2_with (go_at_call 123;refine HR.out.mono ?_;rintro e w1 ⟨rfl,hb⟩)
 rw [zBo,Result.andThen,Oper.upon_value]
 go_wp2
 go_ret
 exact ⟨by rw [←HO.out];rfl,hb⟩
def UP (p:Nat) (n:Int) (l:List (Int × Nat)) (i:Nat):Bool :=
 decide ((l.getD i (0,0)).1<0)||decide (n≤(l.getD i (0,0)).1)||(decide (0<i)&&decide ((l.getD i (0,0)).1≤(l.getD (i-1) (0,0)).1))||(l.getD i (0,0)).2 == 0||decide (p≤(l.getD i (0,0)).2)
def V8 (p:Nat) (n:Int) (l:List (Int × Nat)):Bool:=(List.range l.length).all fun i=>!UP p n l i
theorem XK {p:Nat} {n:Int} {l:List (Int × Nat)} {j:Nat} (hj:j<l.length) (h:UP p n l j=true):V8 p n l=false:=by
 unfold V8
 rw [List.all_eq_false]
 exact ⟨j,by simpa using hj,by simp [h]⟩
theorem yC {p:Nat} {n:Int} {l:List (Int × Nat)} (h:∀ k<l.length,UP p n l k=false):V8 p n l=true:=by
 unfold V8
 rw [List.all_eq_true]
 intro k hk
 simp [h k (by simpa using hk)]
theorem zn {f:Nat→Bool} {j:Nat} (h:∀ k<j,f k=false) (hj:f j=false):∀ k<j+1,f k=false:=fun k hk=>by
 rcases Nat.lt_or_ge k j with h1 | h1
 ·exact h k h1
 ·have e:k=j:=by omega
  rw [e]
  exact hj
theorem RLin.at_ {w:World} {b q:Nat} {l:List (Int × Nat)} (h:RdL w 2 zIv (some ⟨b,q,none⟩) l) {i:Nat} (hi:i<l.length) :
  w.cell? ⟨b,q+i*2,none⟩=some (.int .i64 (l.getD i (0,0)).1)∧w.cell? ⟨b,q+i*2+1,none⟩=some (.int .u64 ((l.getD i (0,0)).2:Int)):=by
 obtain ⟨cs,hl,hc,rfl,-,-⟩:=h.get hi
 have h0:=hc 0 (by omega)
 have h1:=hc 1 (by omega)
 simp [hi] at h0 h1 ⊢
 exact ⟨h0,h1⟩
set_option maxRecDepth 100000 in
set_option maxHeartbeats 4000000 in
theorem V4 (p:Nat) (n:Int) (A:Option Addr) (len c:Nat) (l:List (Int × Nat)) (w:World) (hl:RLin w [.slice A len c] l) (_hp:p<18446744073709551616) :
  Calls Tryz.prog 157 #[.int .u64 p, .slice A len c, .int .i64 n] w fun e w'=>e= .returned (.bool (V8 p n l))∧Below w.heap.size w w':=by
 obtain ⟨A',n',c',he,hlen,hnc,hmx,hrd⟩:=hl
 simp at he
 obtain ⟨rfl,rfl,rfl⟩:=he
 subst hlen
 go_enter Tryz.func157,Tryz.ntmps157
 go_wp2_with fail
 go_loopw [7] (fun i wr=>∃ j:Nat,j≤l.length∧i= .int .i64 (j:Int)∧Below w.heap.size w wr∧Hid (∀ k<j,UP p n l k=false))
  (fun i _=>l.length-(intOf i).toNat)
 case atStart=>exact ⟨0,Nat.zero_le _,rfl,Below.refl _ _,fun k hk=>by omega⟩
 case round =>
  obtain ⟨j,hj,rfl,hb,HB⟩:=hrel
  by_cases hlt:j<l.length
  ·have HL:=Lib.hid hlt
   obtain ⟨b,q,rfl⟩:=hrd.base (by omega) (by omega)
   have hrd':=hrd.below VO hb
   obtain ⟨c1,c2⟩:=RLin.at_ hrd' hlt
   have g0:(l.length:Int)≤9223372036854775807:=by
    have h3:=hnc
    have h4:=hmx
    simp [maxLen] at h4
    omega
   have g1:(0:Int)≤(j:Int):=by omega
   have g2:(j:Int)<(l.length:Int):=by omega
   have HD:Hid (UP p n l j=(decide ((l.getD j (0,0)).1<0)||decide (n≤(l.getD j (0,0)).1)||(decide (0<j)&&decide ((l.getD j (0,0)).1≤(l.getD (j-1) (0,0)).1))||(l.getD j (0,0)).2 == 0||decide (p≤(l.getD j (0,0)).2))):=rfl
   have HC:=Lib.hid (fun (h0:0<j)=>(RLin.at_ hrd' (show j-1<l.length by omega)).1)
   revert c1 c2 HD HC
   generalize (l.getD j (0,0)).1=x
   generalize (l.getD j (0,0)).2=y
   generalize (l.getD (j-1) (0,0)).1=z
   intro c1 c2 HD HC
   clear hrd hrd'
   by_cases z1:x<0
   ·have d1:=decide_eq_true z1
    go_wp2_with fail
    go_quiet (fail)
    go_wp2
    go_ret
    exact ⟨by rw [XK HL.out (HD.out.trans (by simp [*]))];rfl,by first | exact below_drewN hb _ | exact hb⟩
   ·have d1:=decide_eq_false z1
    by_cases z2:n≤x
    ·have d2:=decide_eq_true z2
     go_wp2_with fail
     go_quiet (fail)
     go_wp2
     go_ret
     exact ⟨by rw [XK HL.out (HD.out.trans (by simp [*]))];rfl,by first | exact below_drewN hb _ | exact hb⟩
    ·have d2:=decide_eq_false z2
     rcases Nat.eq_zero_or_pos j with z3 | z3
     ·subst z3
      simp only [Nat.zero_mul,Nat.add_zero] at c1 c2
      by_cases z4:y=0
      ·subst z4
       go_wp2_with fail
       go_quiet (fail)
       go_wp2
       go_ret
       exact ⟨by rw [XK HL.out (HD.out.trans (by simp [*]))];rfl,by first | exact below_drewN hb _ | exact hb⟩
      ·have d4:((y:Int) == 0)=false:=by rw [beq_eq_false_iff_ne];omega
       by_cases z5:p≤y
       ·have d5:decide ((p:Int)≤(y:Int))=true:=decide_eq_true (by omega)
        go_wp2_with fail
        go_quiet (fail)
        go_wp2
        go_ret
        exact ⟨by rw [XK HL.out (HD.out.trans (by simp [*]))];rfl,by first | exact below_drewN hb _ | exact hb⟩
       ·have d5:decide ((p:Int)≤(y:Int))=false:=decide_eq_false (by omega)
        go_wp2_with fail
        go_quiet (fail)
        go_wp2
        go_roundw
        case rel=>exact ⟨0+1,by omega,by go_num,by first | exact below_drewN hb _ | exact hb,zn HB.out (HD.out.trans (by simp [*]))⟩
        case measure=>simp [intOf];omega
     ·have d3:decide ((0:Int)<(j:Int))=true:=decide_eq_true (by omega)
      have c3:=HC.out z3
      have i1:(0:Int)≤(j:Int)-1:=by omega
      have i2:(j:Int)-1<(l.length:Int):=by omega
      have i3:((j:Int)-1).toNat=j-1:=by omega
      by_cases z6:x≤z
      ·have d6:=decide_eq_true z6
       go_wp2_with fail
       go_quiet (fail)
       go_wp2
       go_ret
       exact ⟨by rw [XK HL.out (HD.out.trans (by simp [*]))];rfl,by first | exact below_drewN hb _ | exact hb⟩
      ·have d6:=decide_eq_false z6
       by_cases z4:y=0
       ·subst z4
        go_wp2_with fail
        go_quiet (fail)
        go_wp2
        go_ret
        exact ⟨by rw [XK HL.out (HD.out.trans (by simp [*]))];rfl,by first | exact below_drewN hb _ | exact hb⟩
       ·have d4:((y:Int) == 0)=false:=by rw [beq_eq_false_iff_ne];omega
        by_cases z5:p≤y
        ·have d5:decide ((p:Int)≤(y:Int))=true:=decide_eq_true (by omega)
         go_wp2_with fail
         go_quiet (fail)
         go_wp2
         go_ret
         exact ⟨by rw [XK HL.out (HD.out.trans (by simp [*]))];rfl,by first | exact below_drewN hb _ | exact hb⟩
        ·have d5:decide ((p:Int)≤(y:Int))=false:=decide_eq_false (by omega)
         go_wp2_with fail
         go_quiet (fail)
         go_wp2
         go_roundw
         case rel=>exact ⟨j+1,by omega,by go_num,by first | exact below_drewN hb _ | exact hb,zn HB.out (HD.out.trans (by simp [*]))⟩
         case measure=>simp [intOf];omega
  ·go_wp2
   go_ret
   have e:j=l.length:=by omega
   subst e
   exact ⟨by rw [yC HB.out];rfl,hb⟩
end Go.Proofs.YtakjnmojigechaaGreat
