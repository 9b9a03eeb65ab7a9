/- A part of the proof. No condition. -/
import Derived.BigQuiet
import Derived.Deep.QuietTactic
import Derived.Test.YtdhhdplholkmdaaGreatProg
import Derived.Test.YtdhhdplholkmdaaGreatPE4
import Derived.Test.YtdhhdplholkmdaaGreatPE5

namespace Go.Proofs.YtdhhdplholkmdaaGreat
open Go.RowKit
theorem Xj (b q k:Nat):(⟨b,q,none⟩:Addr).add k=⟨b,q+k,none⟩:=by
 unfold Addr.add
 split
 ·subst_vars;rfl
 ·rfl
theorem RdL.base {α:Type} {R:World→List Value→α→Prop} {sz:Nat} {w:World} {A:Option Addr} {l:List α} (h:RdL w sz R A l) (hsz:0<sz) (hl:0<l.length):∃ b q,A=some ⟨b,q,none⟩:=by
 obtain ⟨a,b,q,cs,rfl,hq,-⟩:=h.at_ hsz hl
 refine ⟨b,q,?_⟩
 rw [←hq]
 simp [Addr.add]
theorem RdL.get {α:Type} {R:World→List Value→α→Prop} {sz:Nat} {w:World} {b q:Nat} {l:List α} (h:RdL w sz R (some ⟨b,q,none⟩) l) {i:Nat} (hi:i<l.length) :
  ∃ cs,cs.length=sz∧(∀ j,j<sz→w.cell? ⟨b,q+i*sz+j,none⟩=cs[j]?)∧R w cs l[i]:=by
 obtain ⟨a,cs,e,hl,hc,hr⟩:=h i hi
 injection e with e
 subst e
 refine ⟨cs,hl,fun j hj=>?_,hr⟩
 rw [←hc j hj,Xj,Nat.add_assoc]
theorem Vb {P:Program} {w:World} {t e:TypeId} {n:Nat} {cs:Array Value} {v:Value} {i:Nat} (h:P.underlying t=some (.array n e)) (hs:((isAgg e).run P w)= .ok false w) (hz:((sizeOf e).run P w)= .ok 1 w) (hi:i<n) (hv:cs[i]?=some v) :
  (Instr.index t (.agg cs) (.int .i64 (i:Int))).run P w= .ok v w:=by
 have h1:(0:Int)≤(i:Int)∧(i:Int)<(n:Int):=by omega
 simp [Instr.index,run_underlying h,asIntOf,h1,hi,hz,hs,hv,part,Result.andThen]
theorem Kf {w:World}:((isAgg 22).run Tryz.prog w)= .ok false w:=by simp [isAgg,run_underlying Tryz.underlying22]
theorem JZ {w:World}:((sizeOf 22).run Tryz.prog w)= .ok 1 w:=by
 obtain ⟨i0,hi,hz0,hz1,hz2⟩:=info_parts V6
 simp [sizeOf,typeInfo,hi,hz1]
theorem JF {w:World} {a b c:Value}:(Instr.index 240 (.agg #[a,b,c]) (.int .i64 0)).run Tryz.prog w= .ok a w :=
 Vb (i:=0) Tryz.underlying240 Kf JZ (by omega) rfl
set_option maxRecDepth 100000 in
set_option maxHeartbeats 400000 in
theorem ZM (p:Nat) (w:World) (hp:p<18446744073709551616) :
  Calls Tryz.prog 76 #[.int .u64 p] w fun e w'=>e= .returned (.bool (okP p))∧Below w.heap.size w w':=by
 have HO:=Lib.hid (JP p)
 have HR:=Lib.hid (Kp p w hp)
 unfold Vt at HR
 revert HO HR
 generalize (Y1 p).1=a
 generalize (Y1 p).2.1=b
 generalize (Y1 p).2.2=c
 intro HO HR
 go_enter Tryz.func76,Tryz.ntmps76
 go_wp2_with (go_at_call 152;refine HR.out.mono ?_;rintro e w1 ⟨rfl,hb⟩)
 rw [JF,Result.andThen,Oper.upon_value]
 go_wp2
 go_ret
 exact ⟨by rw [←HO.out];rfl,hb⟩
end Go.Proofs.YtdhhdplholkmdaaGreat
