/- A part of the proof. No condition. -/
import Derived.Test.YtjipleoamlmkfaaGreatProg
import Derived.Test.YtjipleoamlmkfaaGreatPF2
import Derived.BigQuiet
import Derived.Deep.QuietTactic
import Derived.Test.YtjipleoamlmkfaaGreatPF3

set_option maxRecDepth 100000
set_option maxHeartbeats 8000000
set_option linter.unusedVariables false
set_option linter.unusedSimpArgs false
namespace Go.Proofs.YtjipleoamlmkfaaGreat
open Go.RowKit
def Db (p:Nat):Bool:=p == 17||p == 97||p == 193||p == 257||p == 12289||p == 65537||p == 18446744069414584321
theorem Hw {p:Nat} (h:Db p=true):p=17 \/ p=97 \/ p=193 \/ p=257 \/ p=12289 \/ p=65537 \/ p=18446744069414584321:=by
 simp [Db] at h
 omega
def Yc (p:Nat):Nat × Nat × Nat :=
 if p=17 then (3,4,3) else
 if p=97 then (5,5,5) else
 if p=193 then (5,6,5) else
 if p=257 then (3,8,3) else
 if p=12289 then (11,12,5) else
 if p=65537 then (3,16,3) else
 if p=18446744069414584321 then (7,32,7) else
 (0,0,0)
def Hz (p:Nat):Value:=.agg #[.int .u64 ((Yc p).1:Int), .int .u64 ((Yc p).2.1:Int), .int .u64 ((Yc p).2.2:Int)]
theorem bK (p:Nat) (w:World) (_hp:p<18446744073709551616) :
  Calls Tryz.prog 203 #[.int .u64 p] w fun e w'=>e= .returned (Hz p) /\ Below w.heap.size w w':=by
 by_cases h0:p=17
 ·subst h0
  go_enter Tryz.func203,Tryz.ntmps203
  go_wp2_with fail
  exact bodyPost_ret (v:=.agg #[.int .u64 3, .int .u64 4, .int .u64 3]) (by simp [results,Tryz.results203,go_sem]) rfl ⟨rfl,(Below.refl _ _).alloc zR _⟩
 by_cases h1:p=97
 ·subst h1
  go_enter Tryz.func203,Tryz.ntmps203
  go_wp2_with fail
  exact bodyPost_ret (v:=.agg #[.int .u64 5, .int .u64 5, .int .u64 5]) (by simp [results,Tryz.results203,go_sem]) rfl ⟨rfl,(Below.refl _ _).alloc zR _⟩
 by_cases h2:p=193
 ·subst h2
  go_enter Tryz.func203,Tryz.ntmps203
  go_wp2_with fail
  exact bodyPost_ret (v:=.agg #[.int .u64 5, .int .u64 6, .int .u64 5]) (by simp [results,Tryz.results203,go_sem]) rfl ⟨rfl,(Below.refl _ _).alloc zR _⟩
 by_cases h3:p=257
 ·subst h3
  go_enter Tryz.func203,Tryz.ntmps203
  go_wp2_with fail
  exact bodyPost_ret (v:=.agg #[.int .u64 3, .int .u64 8, .int .u64 3]) (by simp [results,Tryz.results203,go_sem]) rfl ⟨rfl,(Below.refl _ _).alloc zR _⟩
 by_cases h4:p=12289
 ·subst h4
  go_enter Tryz.func203,Tryz.ntmps203
  go_wp2_with fail
  exact bodyPost_ret (v:=.agg #[.int .u64 11, .int .u64 12, .int .u64 5]) (by simp [results,Tryz.results203,go_sem]) rfl ⟨rfl,(Below.refl _ _).alloc zR _⟩
 by_cases h5:p=65537
 ·subst h5
  go_enter Tryz.func203,Tryz.ntmps203
  go_wp2_with fail
  exact bodyPost_ret (v:=.agg #[.int .u64 3, .int .u64 16, .int .u64 3]) (by simp [results,Tryz.results203,go_sem]) rfl ⟨rfl,(Below.refl _ _).alloc zR _⟩
 by_cases h6:p=18446744069414584321
 ·subst h6
  go_enter Tryz.func203,Tryz.ntmps203
  go_wp2_with fail
  exact bodyPost_ret (v:=.agg #[.int .u64 7, .int .u64 32, .int .u64 7]) (by simp [results,Tryz.results203,go_sem]) rfl ⟨rfl,(Below.refl _ _).alloc zR _⟩
 have d0:((p:Int) == 17)=false:=by rw [beq_eq_false_iff_ne];omega
 have d1:((p:Int) == 97)=false:=by rw [beq_eq_false_iff_ne];omega
 have d2:((p:Int) == 193)=false:=by rw [beq_eq_false_iff_ne];omega
 have d3:((p:Int) == 257)=false:=by rw [beq_eq_false_iff_ne];omega
 have d4:((p:Int) == 12289)=false:=by rw [beq_eq_false_iff_ne];omega
 have d5:((p:Int) == 65537)=false:=by rw [beq_eq_false_iff_ne];omega
 have d6:((p:Int) == 18446744069414584321)=false:=by rw [beq_eq_false_iff_ne];omega
 have HR:=zH (show Hz p= .agg #[.int .u64 0, .int .u64 0, .int .u64 0] by simp [Hz,Yc, *])
 clear h0 h1 h2 h3 h4 h5 h6;go_enter Tryz.func203,Tryz.ntmps203
 go_wp2_with fail
 exact bodyPost_ret (v:=.agg #[.int .u64 0, .int .u64 0, .int .u64 0]) (by simp [results,Tryz.results203,go_sem]) rfl ⟨by rw [HR.out],(Below.refl _ _).alloc zR _⟩
theorem gS (p:Nat):decide (0<(Yc p).1)=Db p:=by
 by_cases h:Db p=true
 ·rcases Hw h with rfl | rfl | rfl | rfl | rfl | rfl | rfl <;> rfl
 ·have h':=h
  simp [Db] at h'
  simp [Yc,h',h]
theorem Kj (b q k:Nat):(⟨b,q,none⟩:Addr).add k=⟨b,q+k,none⟩:=by
 unfold Addr.add;split
 ·subst_vars;rfl
 ·rfl
theorem RdL.base {α:Type} {R:World -> List Value -> α -> Prop} {sz:Nat} {w:World} {A:Option Addr} {l:List α} (h:RdL w sz R A l) (Ra:0<sz) (hl:0<l.length):∃ b q,A=some ⟨b,q,none⟩:=by
 obtain ⟨a,b,q,cs,rfl,hq,-⟩:=h.at_ Ra hl;refine ⟨b,q,?_⟩;rw [<- hq];simp [Addr.add]
theorem RdL.get {α:Type} {R:World -> List Value -> α -> Prop} {sz:Nat} {w:World} {b q:Nat} {l:List α} (h:RdL w sz R (some ⟨b,q,none⟩) l) {i:Nat} (hi:i<l.length) :
  ∃ cs,cs.length=sz /\ (∀ j,j<sz -> w.cell? ⟨b,q+i*sz+j,none⟩=cs[j]?) /\ R w cs l[i]:=by
 obtain ⟨a,cs,e,hl,hc,hr⟩:=h i hi
 injection e with e
 subst e;refine ⟨cs,hl,fun j hj=>?_,hr⟩
 rw [<- hc j hj,Kj,Nat.add_assoc]
theorem Iz {P:Program} {w:World} {t e:TypeId} {n:Nat} {cs:Array Value} {v:Value} {i:Nat} (h:P.underlying t=some (.array n e)) (hs:((isAgg e).run P w)= .ok false w) (hz:((sizeOf e).run P w)= .ok 1 w) (hi:i<n) (hv:cs[i]?=some v) :
  (Instr.index t (.agg cs) (.int .i64 i)).run P w= .ok v w:=by
 have h1:(0:Int) <= (i:Int) /\ (i:Int)<(n:Int):=by omega
 simp [Instr.index,run_underlying h,asIntOf,h1,hi,hz,hs,hv,part,Result.andThen]
theorem WC {w:World}:((isAgg 22).run Tryz.prog w)= .ok false w:=by simp [isAgg,run_underlying Tryz.underlying22]
theorem yF {w:World}:((sizeOf 22).run Tryz.prog w)= .ok 1 w:=by
 obtain ⟨i0,hi,Ff,Zb,td⟩:=info_parts aI;simp [sizeOf,typeInfo,hi,Zb]
theorem MN {w:World} {a b c:Value}:(Instr.index 237 (.agg #[a,b,c]) (.int .i64 0)).run Tryz.prog w= .ok a w :=
 Iz (i:=0) Tryz.underlying237 WC yF (by omega) rfl
theorem Tk (p:Nat) (w:World) (hp:p<18446744073709551616) :
  Calls Tryz.prog 149 #[.int .u64 p] w fun e w'=>e= .returned (.bool (Db p)) /\ Below w.heap.size w w':=by
 have HO:=zH (gS p);have HR:=zH (bK p w hp);unfold Hz at HR;revert HO HR
 generalize (Yc p).1=a;generalize (Yc p).2.1=b;generalize (Yc p).2.2=c;intro HO HR;go_enter Tryz.func149,Tryz.ntmps149
 go_wp2_with (go_at_call 203;refine HR.out.mono ?_;rintro e w1 ⟨rfl,hb⟩)
 rw [MN,Result.andThen,Oper.upon_value];go_wp2;go_ret
 exact ⟨by rw [<- HO.out];rfl,hb⟩
def tj (p:Nat) (n:Int) (l:List (Int × Nat)) (i:Nat):Bool :=
 decide ((l.getD i (0,0)).1<0)||decide (n <= (l.getD i (0,0)).1)||(decide (0<i)&&decide ((l.getD i (0,0)).1 <= (l.getD (i-1) (0,0)).1))||(l.getD i (0,0)).2 == 0||decide (p <= (l.getD i (0,0)).2)
def ue (p:Nat) (n:Int) (l:List (Int × Nat)):Bool:=(List.range l.length).all fun i=>!tj p n l i
theorem Gn {p:Nat} {n:Int} {l:List (Int × Nat)} {j:Nat} (hj:j<l.length) (h:tj p n l j=true):ue p n l=false:=by
 unfold ue;rw [List.all_eq_false];exact ⟨j,by simpa using hj,by simp [h]⟩
theorem JI {p:Nat} {n:Int} {l:List (Int × Nat)} (h:∀ k<l.length,tj p n l k=false):ue p n l=true:=by
 unfold ue;rw [List.all_eq_true];intro k hk;simp [h k (by simpa using hk)]
theorem nD {f:Nat -> Bool} {j:Nat} (h:∀ k<j,f k=false) (hj:f j=false):∀ k<j+1,f k=false:=fun k hk=>by
 rcases Nat.lt_or_ge k j with h1 | h1
 ·exact h k h1
 ·have e:k=j:=by omega
  rw [e];exact hj
theorem RLin.at_ {w:World} {b q:Nat} {l:List (Int × Nat)} (h:RdL w 2 PC (some ⟨b,q,none⟩) l) {i:Nat} (hi:i<l.length) :
  w.cell? ⟨b,q+i*2,none⟩=some (.int .i64 (l.getD i (0,0)).1) /\ w.cell? ⟨b,q+i*2+1,none⟩=some (.int .u64 ((l.getD i (0,0)).2:Int)):=by
 obtain ⟨cs,hl,hc,rfl,-,-⟩:=h.get hi;have h0:=hc 0 (by omega)
 have h1:=hc 1 (by omega)
 simp [hi] at h0 h1 |-
 exact ⟨h0,h1⟩
theorem Zx (p:Nat) (n:Int) (A:Option Addr) (len c:Nat) (l:List (Int × Nat)) (w:World) (hl:RLin w [.slice A len c] l) (_hp:p<18446744073709551616) :
  Calls Tryz.prog 208 #[.int .u64 p, .slice A len c, .int .i64 n] w fun e w'=>e= .returned (.bool (ue p n l)) /\ Below w.heap.size w w':=by
 obtain ⟨A',n',c',he,hlen,Sc,Gd,za⟩:=hl;simp at he
 obtain ⟨rfl,rfl,rfl⟩:=he;subst hlen;go_enter Tryz.func208,Tryz.ntmps208
 go_wp2_with fail
 go_loopw [7] (fun i wr=>∃ j:Nat,j <= l.length /\ i= .int .i64 j /\ Below w.heap.size w wr /\ Hid (∀ k<j,tj p n l k=false))
  (fun i _=>l.length-(intOf i).toNat)
 case atStart=>exact ⟨0,Nat.zero_le _,rfl,Below.refl _ _,fun k hk=>by omega⟩
 case round =>
  obtain ⟨j,hj,rfl,hb,HB⟩:=hrel;by_cases oa:j<l.length
  ·have HL:=zH oa
   obtain ⟨b,q,rfl⟩:=za.base (by omega) (by omega)
   have Nl:=za.below yw hb;obtain ⟨c1,c2⟩:=RLin.at_ Nl oa;have g0:(l.length:Int) <= 9223372036854775807:=by
    have h3:=Sc;have h4:=Gd;simp [maxLen] at h4
    omega
   have g1:(0:Int) <= (j:Int):=by omega
   have g2:(j:Int)<(l.length:Int):=by omega
   have HD:Hid (tj p n l j=(decide ((l.getD j (0,0)).1<0)||decide (n <= (l.getD j (0,0)).1)||(decide (0<j)&&decide ((l.getD j (0,0)).1 <= (l.getD (j-1) (0,0)).1))||(l.getD j (0,0)).2 == 0||decide (p <= (l.getD j (0,0)).2))):=rfl
   have HC:=zH (fun (h0:0<j)=>(RLin.at_ Nl (show j-1<l.length by omega)).1)
   revert c1 c2 HD HC
   generalize (l.getD j (0,0)).1=x;generalize (l.getD j (0,0)).2=y;generalize (l.getD (j-1) (0,0)).1=z;intro c1 c2 HD HC;clear za Nl;by_cases z1:x<0
   ·have d1:=decide_eq_true z1
    go_wp2_with fail
    go_quiet (fail)
    go_wp2;go_ret
    exact ⟨by rw [Gn HL.out (HD.out.trans (by simp [*]))];rfl,by first | exact below_drewN hb _ | exact hb⟩
   ·have d1:=decide_eq_false z1
    by_cases z2:n <= x
    ·have d2:=decide_eq_true z2
     go_wp2_with fail
     go_quiet (fail)
     go_wp2;go_ret
     exact ⟨by rw [Gn HL.out (HD.out.trans (by simp [*]))];rfl,by first | exact below_drewN hb _ | exact hb⟩
    ·have d2:=decide_eq_false z2
     rcases Nat.eq_zero_or_pos j with z3 | z3
     ·subst z3
      simp only [Nat.zero_mul,Nat.add_zero] at c1 c2;by_cases z4:y=0
      ·subst z4
       go_wp2_with fail
       go_quiet (fail)
       go_wp2;go_ret
       exact ⟨by rw [Gn HL.out (HD.out.trans (by simp [*]))];rfl,by first | exact below_drewN hb _ | exact hb⟩
      ·have d4:((y:Int) == 0)=false:=by rw [beq_eq_false_iff_ne];omega
       by_cases z5:p <= y
       ·have d5:decide ((p:Int) <= (y:Int))=true:=decide_eq_true (by omega)
        go_wp2_with fail
        go_quiet (fail)
        go_wp2;go_ret
        exact ⟨by rw [Gn HL.out (HD.out.trans (by simp [*]))];rfl,by first | exact below_drewN hb _ | exact hb⟩
       ·have d5:decide ((p:Int) <= (y:Int))=false:=decide_eq_false (by omega)
        go_wp2_with fail
        go_quiet (fail)
        go_wp2
        go_roundw
        case rel=>exact ⟨0+1,by omega,by go_num,by first | exact below_drewN hb _ | exact hb,nD HB.out (HD.out.trans (by simp [*]))⟩
        case measure=>simp [intOf];omega
     ·have d3:decide ((0:Int)<(j:Int))=true:=decide_eq_true (by omega)
      have c3:=HC.out z3;have i1:(0:Int) <= (j:Int)-1:=by omega
      have i2:(j:Int)-1<(l.length:Int):=by omega
      have i3:((j:Int)-1).toNat=j-1:=by omega
      by_cases z6:x <= z
      ·have d6:=decide_eq_true z6
       go_wp2_with fail
       go_quiet (fail)
       go_wp2;go_ret
       exact ⟨by rw [Gn HL.out (HD.out.trans (by simp [*]))];rfl,by first | exact below_drewN hb _ | exact hb⟩
      ·have d6:=decide_eq_false z6
       by_cases z4:y=0
       ·subst z4
        go_wp2_with fail
        go_quiet (fail)
        go_wp2;go_ret
        exact ⟨by rw [Gn HL.out (HD.out.trans (by simp [*]))];rfl,by first | exact below_drewN hb _ | exact hb⟩
       ·have d4:((y:Int) == 0)=false:=by rw [beq_eq_false_iff_ne];omega
        by_cases z5:p <= y
        ·have d5:decide ((p:Int) <= (y:Int))=true:=decide_eq_true (by omega)
         go_wp2_with fail
         go_quiet (fail)
         go_wp2;go_ret
         exact ⟨by rw [Gn HL.out (HD.out.trans (by simp [*]))];rfl,by first | exact below_drewN hb _ | exact hb⟩
        ·have d5:decide ((p:Int) <= (y:Int))=false:=decide_eq_false (by omega)
         go_wp2_with fail
         go_quiet (fail)
         go_wp2
         go_roundw
         case rel=>exact ⟨j+1,by omega,by go_num,by first | exact below_drewN hb _ | exact hb,nD HB.out (HD.out.trans (by simp [*]))⟩
         case measure=>simp [intOf];omega
  ·go_wp2
   go_ret
   have e:j=l.length:=by omega
   subst e;exact ⟨by rw [JI HB.out];rfl,hb⟩
end Go.Proofs.YtjipleoamlmkfaaGreat
