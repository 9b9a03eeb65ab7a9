/- A part of the proof. No condition. -/
import Derived.Test.YtbiieaiahdihnaaProg
import Derived.Test.YtbiieaiahdihnaaOP35

namespace Go.Proofs.Ytbiieaiahdihnaa
open Go.RowKit Go.Maps
def Vf (root n i salt:Nat) (leaf path:List Nat):Bool :=
 YQ n&&decide (i<n)&&decide (2^path.length=n)&&decide (root<Zg)&&decide (salt<Zg)&&ZB leaf&&ZB path
set_option maxRecDepth 100000 in
set_option maxHeartbeats 1000000 in
theorem JR (root n i salt:Nat) (A B:Option Addr) (a c b e:Nat) (leaf path:List Nat) (w:World) (hl:RWd w [.slice A a c] leaf) (hp:RWd w [.slice B b e] path) (hpl:path.length≤62) :
  Calls Try.prog 30 #[.int .u64 (root:Int), .int .i64 (n:Int), .int .i64 (i:Int), .agg #[.slice A a c, .int .u64 (salt:Int), .slice B b e]] w fun e w'=>e= .returned (.bool (Vf root n i salt leaf path))∧Below w.heap.size w w':=by
 have hbl:=(ZO hp).1
 subst hbl
 have hb0:=(Below.refl w.heap.size w).alloc (Nat.le_refl _) (.cells #[.slice A a c, .int .u64 (salt:Int), .slice B path.length e] 49)
 have kb0:=Blk.new w 49 #[.slice A a c, .int .u64 (salt:Int), .slice B path.length e]
 have HNum:=Lib.hid (fun w=>Xy n w)
 have HE1:=Lib.hid (fun w1 (hb:Below w.heap.size w w1)=>YE A a c leaf w1 (Yc _ _ _ _ hb hl))
 have HE2:=Lib.hid (fun w1 (hb:Below w.heap.size w w1)=>YE B path.length e path w1 (Yc _ _ _ _ hb hp))
 have hV:Vf root n i salt leaf path=(YQ n&&decide (i<n)&&decide (2^path.length=n)&&decide (root<Zg)&&decide (salt<Zg)&&ZB leaf&&ZB path):=rfl
 obtain ⟨pv,hpv⟩:∃ pv,pv=Vf root n i salt leaf path:=⟨_,rfl⟩
 rw [←hpv] at hV ⊢
 obtain ⟨np,hnp⟩:∃ np,np=path.length:=⟨_,rfl⟩
 obtain ⟨ol,hol⟩:∃ ol,ol=ZB leaf:=⟨_,rfl⟩
 obtain ⟨op,hop⟩:∃ op,op=ZB path:=⟨_,rfl⟩
 obtain ⟨on,hon⟩:∃ on,on=YQ n:=⟨_,rfl⟩
 rw [←hnp] at hpl hb0 kb0 HE2 hV ⊢
 rw [←hol] at HE1 hV
 rw [←hop] at HE2 hV
 rw [←hon] at HNum hV
 have HV:=Lib.hid hV
 have kc:=kb0.cell
 have f1:¬((i:Int)<0):=by omega
 have f1':decide ((i:Int)<0)=false:=decide_eq_false f1
 clear hpv hnp hol hop hon hV hl hp
 rcases on with _ | _
 ·have HF:=Lib.hid (show pv=false by rw [HV.out];rfl)
  clear HV HE1 HE2
  go_enter Try.func30,Try.ntmps30
  go_wp2_with fail
  generalize w.alloc _=w1 at hb0 kb0 kc ⊢
  refine (HNum.out _).mono ?_
  rintro _ w2 ⟨rfl,rfl⟩
  go_wp2_with fail
  go_ret
  exact ⟨by rw [HF.out];rfl,hb0⟩
 ·by_cases hin:i<n
  ·have t1:¬((n:Int)≤(i:Int)):=by omega
   have t1':decide ((n:Int)≤(i:Int))=false:=decide_eq_false t1
   have t1n:decide (n≤i)=false:=decide_eq_false (by omega)
   obtain ⟨pw,hpw⟩:∃ pw,pw=2^np:=⟨_,rfl⟩
   have hpl2:pw<9223372036854775808:=by rw [hpw];exact Nat.lt_of_le_of_lt (Nat.pow_le_pow_right (by omega) hpl) (by decide)
   have hw:wrap64 ((2:Int)^np)=(pw:Int):=by
    rw [show (2:Int)^np=(pw:Int) by rw [hpw,Int.natCast_pow];rfl]
    unfold wrap64
    omega
   rw [←hpw] at HV
   clear hpw hpl2
   by_cases hpn:pw=n
   ·have t2:((pw:Int) != (n:Int))=false:=by subst hpn;simp
    by_cases hr:root<Zg
    ·by_cases hs:salt<Zg
     ·have t3:decide ((root:Int)<18446744069414584321)=true:=decide_eq_true (by unfold Zg at hr;omega)
      have t4:decide ((salt:Int)<18446744069414584321)=true:=decide_eq_true (by unfold Zg at hs;omega)
      rcases ol with _ | _
      ·have HF:=Lib.hid (show pv=false by rw [HV.out];simp)
       clear HV hr hs hpn
       go_enter Try.func30,Try.ntmps30
       go_wp2_with fail
       generalize w.alloc _=w1 at hb0 kb0 kc ⊢
       refine (HNum.out _).mono ?_
       rintro _ w2 ⟨rfl,rfl⟩
       go_wp2_with fail
       refine (HE1.out _ hb0).mono ?_
       rintro _ w2 ⟨rfl,rfl⟩
       go_wp2_with fail
       go_ret
       exact ⟨by rw [HF.out];rfl,hb0⟩
      ·have HF:=Lib.hid (show pv=op by rw [HV.out,decide_eq_true hin,decide_eq_true hpn,decide_eq_true hr,decide_eq_true hs];simp)
       clear HV hr hs hpn
       go_enter Try.func30,Try.ntmps30
       go_wp2_with fail
       generalize w.alloc _=w1 at hb0 kb0 kc ⊢
       refine (HNum.out _).mono ?_
       rintro _ w2 ⟨rfl,rfl⟩
       go_wp2_with fail
       refine (HE1.out _ hb0).mono ?_
       rintro _ w2 ⟨rfl,rfl⟩
       go_wp2_with fail
       refine (HE2.out _ hb0).mono ?_
       rintro _ w2 ⟨rfl,rfl⟩
       go_wp2_with fail
       go_ret
       exact ⟨by rw [HF.out];rfl,hb0⟩
     ·have HF:=Lib.hid (show pv=false by rw [HV.out,decide_eq_false hs];simp)
      have t3:decide ((root:Int)<18446744069414584321)=true:=decide_eq_true (by unfold Zg at hr;omega)
      have t4:decide ((salt:Int)<18446744069414584321)=false:=decide_eq_false (by unfold Zg at hs;omega)
      clear HV HE1 HE2 hr hs hpn
      go_enter Try.func30,Try.ntmps30
      go_wp2_with fail
      generalize w.alloc _=w1 at hb0 kb0 kc ⊢
      refine (HNum.out _).mono ?_
      rintro _ w2 ⟨rfl,rfl⟩
      go_wp2_with fail
      go_ret
      exact ⟨by rw [HF.out];rfl,hb0⟩
    ·have HF:=Lib.hid (show pv=false by rw [HV.out,decide_eq_false hr];simp)
     have t3:decide ((root:Int)<18446744069414584321)=false:=decide_eq_false (by unfold Zg at hr;omega)
     clear HV HE1 HE2 hr hpn
     go_enter Try.func30,Try.ntmps30
     go_wp2_with fail
     generalize w.alloc _=w1 at hb0 kb0 kc ⊢
     refine (HNum.out _).mono ?_
     rintro _ w2 ⟨rfl,rfl⟩
     go_wp2_with fail
     go_ret
     exact ⟨by rw [HF.out];rfl,hb0⟩
   ·have HF:=Lib.hid (show pv=false by rw [HV.out,decide_eq_false hpn];simp)
    have t2:((pw:Int) != (n:Int))=true:=by rw [bne_iff_ne];omega
    clear HV HE1 HE2 hpn
    go_enter Try.func30,Try.ntmps30
    go_wp2_with fail
    generalize w.alloc _=w1 at hb0 kb0 kc ⊢
    refine (HNum.out _).mono ?_
    rintro _ w2 ⟨rfl,rfl⟩
    go_wp2_with fail
    go_ret
    exact ⟨by rw [HF.out];rfl,hb0⟩
  ·have HF:=Lib.hid (show pv=false by rw [HV.out,decide_eq_false hin];simp)
   have t1:(n:Int)≤(i:Int):=by omega
   have t1':decide ((n:Int)≤(i:Int))=true:=decide_eq_true t1
   have t1n:decide (n≤i)=true:=decide_eq_true (by omega)
   clear HV HE1 HE2
   go_enter Try.func30,Try.ntmps30
   go_wp2_with fail
   generalize w.alloc _=w1 at hb0 kb0 kc ⊢
   refine (HNum.out _).mono ?_
   rintro _ w2 ⟨rfl,rfl⟩
   go_wp2_with fail
   go_ret
   exact ⟨by rw [HF.out];rfl,hb0⟩
end Go.Proofs.Ytbiieaiahdihnaa
