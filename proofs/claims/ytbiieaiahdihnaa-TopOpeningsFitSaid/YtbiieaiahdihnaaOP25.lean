/- A part of the proof. No condition. -/
import Derived.Test.YtbiieaiahdihnaaProg
import Derived.Test.YtbiieaiahdihnaaOP24

namespace Go.Proofs.Ytbiieaiahdihnaa
open Go.RowKit Go.Maps
theorem yb {w:World} {a b c:Value}:(Instr.index 80 (.agg #[a,b,c]) (.int .i64 0)).run Try.prog w= .ok a w :=
 Xd (i:=0) Try.underlying80 J2 UZ (by omega) rfl
set_option maxRecDepth 100000 in
set_option maxHeartbeats 400000 in
theorem JG (label:Nat) (A:Option Addr) (n c:Nat) (l:List Nat) (w:World) (hl:RWd w [.slice A n c] l) (hne:0<l.length) (hlen:l.length≤1000000) :
  Calls Try.prog 45 #[.int .u64 18446744069414584321, .int .u64 label, .slice A n c] w fun e w'=>e= .returned (.int .u64 (spH label l:Int))∧Below w.heap.size w w':=by
 have HV:=Lib.hid (fun w=>YB Zg w Ve)
 have HAb:=Lib.hid (fun w' (hb:Below w.heap.size w w')=>KC Zg label A n c l w' Ve (Yc _ _ _ _ hb hl) hne hlen)
 have HE:=Lib.hid (show spH label l=(Yu Zg label l).a from rfl)
 have hidx:=fun w a b c=>yb (w:=w) (a:=a) (b:=b) (c:=c)
 clear hl hne hlen
 generalize spH label l=z at *
 generalize Yu Zg label l=s at *
 unfold fv Zg at *
 go_enter Try.func45,Try.ntmps45
 go_wp2_with fail
 refine (HV.out _).mono ?_
 rintro e w1 ⟨rfl,hb1⟩
 go_wp2_with fail
 refine (HAb.out _ hb1).mono ?_
 rintro e w2 ⟨rfl,hb2⟩
 have hb0:=Za hb1 hb2
 have ev:s.val= .agg #[.int .u64 (s.a:Int), .int .u64 (s.b:Int), .int .u64 (s.c:Int)]:=rfl
 rw [ev]
 go_wp2
 go_ret
 exact ⟨by rw [HE.out];rfl,hb0⟩
set_option maxRecDepth 100000 in
set_option maxHeartbeats 400000 in
theorem JM (label:Nat) (A:Option Addr) (n c:Nat) (l:List Nat) (w:World) (hl:RWd w [.slice A n c] l) (hne:0<l.length) (hlen:l.length≤1000000) :
  Calls Try.prog 18 #[.int .u64 18446744069414584321, .int .u64 label, .slice A n c] w fun e w'=>e= .returned (.int .u64 (spH label l:Int))∧Below w.heap.size w w':=by
 have HV:=Lib.hid (show ∀ w,Calls Try.prog 41 #[.int .u64 Zg] w fun e w'=>e= .returned (.bool true)∧Below w.heap.size w w' from fun w=>by have:=Yg Zg w (by decide);rw [Ve] at this;exact this)
 have HAb:=Lib.hid (fun w' (hb:Below w.heap.size w w')=>Kc Zg label A n c l w' Ve (Yc _ _ _ _ hb hl) hne hlen)
 have HE:=Lib.hid (show spH label l=(Yu Zg label l).a from rfl)
 have hidx:=fun w a b c=>yb (w:=w) (a:=a) (b:=b) (c:=c)
 clear hl hne hlen
 generalize spH label l=z at *
 generalize Yu Zg label l=s at *
 unfold Zg at *
 go_enter Try.func18,Try.ntmps18
 go_wp2_with fail
 refine (HV.out _).mono ?_
 rintro e w1 ⟨rfl,hb1⟩
 go_wp2_with fail
 refine (HAb.out _ hb1).mono ?_
 rintro e w2 ⟨rfl,hb2⟩
 have hb0:=Za hb1 hb2
 have ev:s.val= .agg #[.int .u64 (s.a:Int), .int .u64 (s.b:Int), .int .u64 (s.c:Int)]:=rfl
 rw [ev]
 go_wp2
 go_ret
 exact ⟨by rw [HE.out];rfl,hb0⟩
end Go.Proofs.Ytbiieaiahdihnaa
