/- A part of the proof. No condition. -/
import Derived.Test.YtjipleoamlmkfaaGreatProg
import Derived.Test.YtjipleoamlmkfaaGreatPF4

set_option maxRecDepth 100000
set_option maxHeartbeats 8000000
set_option linter.unusedVariables false
set_option linter.unusedSimpArgs false
namespace Go.Proofs.YtjipleoamlmkfaaGreat
open Go.RowKit
def slc (v:Value):Prop:=∃ A n c,v= .slice A n c
theorem RSl.slc {α:Type} {R:World -> List Value -> α -> Prop} {sz:Nat} {w:World} {v:Value} {l:List α} (h:RSl sz R w [v] l):slc v:=by
 obtain ⟨A,n,c,e,-⟩:=h;simp at e
 exact ⟨A,n,c,e⟩
def Ib (p:Nat) (pub vars:Int) (rows:Value):Value:=.agg #[.int .u64 p, .int .i64 pub, .int .i64 vars,rows]
def qh (p:Nat) (n:Int) (r:Ya):Bool:=ue p n r.a&&ue p n r.b&&ue p n r.c
theorem fy {w w1:World} {t1 t2:TypeId} {Bc ed:Array Value} (hb:Below ((w.alloc (.cells Bc t1)).alloc (.cells ed t2)).heap.size ((w.alloc (.cells Bc t1)).alloc (.cells ed t2)) w1) :
  Blk w1 w.heap.size t1 Bc /\ Blk w1 (w.heap.size+1) t2 ed /\ Below w.heap.size w w1:=by
 refine ⟨((Blk.new w t1 Bc).alloc _).below hb (by simp;omega),?_,ja (((Below.refl _ w).alloc zR _).alloc (by simp) _) hb⟩
 have:=(Blk.new (w.alloc (.cells Bc t1)) t2 ed).below hb (by simp)
 simpa using this
theorem TJ (p:Nat) (pub vars:Int) (rows:Value) (r:Ya) (x y z:Value) (w:World) (hx:RLin w [x] r.a) (hy:RLin w [y] r.b) (hz:RLin w [z] r.c) (hp:p<18446744073709551616) :
  Calls Tryz.prog 157 #[Ib p pub vars rows, .agg #[x,y,z]] w fun e w'=>e= .returned (.bool (qh p vars r)) /\ Below w.heap.size w w':=by
 obtain ⟨A1,n1,c1,rfl⟩:=RSl.slc hx;obtain ⟨A2,n2,c2,rfl⟩:=RSl.slc hy;obtain ⟨A3,n3,c3,rfl⟩:=RSl.slc hz;unfold Ib;cases b1:ue p vars r.a
 ·have E:=zH (show qh p vars r=false by simp [qh,b1])
  have B1:=zH b1;clear b1;go_enter Tryz.func157,Tryz.ntmps157
  go_wp2_with (first | (go_at_call 208;refine (Zx p vars _ _ _ r.a _ (se _ _ _ _ (((Below.refl _ w).alloc zR _).alloc (by simp) _) hx) hp).mono ?_;rintro e w1 ⟨rfl,hb⟩;rw [B1.out];obtain ⟨K1,K2,ya⟩:=fy hb;have t0:w1.cell? ⟨w.heap.size,0,none⟩=some (.int .u64 p):=K1.cell 0;have t2:w1.cell? ⟨w.heap.size,2,none⟩=some (.int .i64 vars):=K1.cell 2;have y1:w1.cell? ⟨w.heap.size+1,1,none⟩=some (.slice A2 n2 c2):=K2.cell 1;have y2:w1.cell? ⟨w.heap.size+1,2,none⟩=some (.slice A3 n3 c3):=K2.cell 2;clear hb))
  go_ret
  exact ⟨by rw [E.out];rfl,ya⟩
 have B1:=zH b1;cases b2:ue p vars r.b
 ·have E:=zH (show qh p vars r=false by simp [qh,b1,b2])
  have B2:=zH b2;clear b1 b2;go_enter Tryz.func157,Tryz.ntmps157
  go_wp2_with (first | (go_at_call 208;refine (Zx p vars _ _ _ r.b _ (se _ _ _ _ ya hy) hp).mono ?_;rintro e w2 ⟨rfl,xa⟩;rw [B2.out];clear t0 t2 y1 y2;have t0:w2.cell? ⟨w.heap.size,0,none⟩=some (.int .u64 p):=(ea K1 xa).cell 0;have t2:w2.cell? ⟨w.heap.size,2,none⟩=some (.int .i64 vars):=(ea K1 xa).cell 2;have y2:w2.cell? ⟨w.heap.size+1,2,none⟩=some (.slice A3 n3 c3):=(ea K2 xa).cell 2) | (go_at_call 208;refine (Zx p vars _ _ _ r.a _ (se _ _ _ _ (((Below.refl _ w).alloc zR _).alloc (by simp) _) hx) hp).mono ?_;rintro e w1 ⟨rfl,hb⟩;rw [B1.out];obtain ⟨K1,K2,ya⟩:=fy hb;have t0:w1.cell? ⟨w.heap.size,0,none⟩=some (.int .u64 p):=K1.cell 0;have t2:w1.cell? ⟨w.heap.size,2,none⟩=some (.int .i64 vars):=K1.cell 2;have y1:w1.cell? ⟨w.heap.size+1,1,none⟩=some (.slice A2 n2 c2):=K2.cell 1;have y2:w1.cell? ⟨w.heap.size+1,2,none⟩=some (.slice A3 n3 c3):=K2.cell 2;clear hb))
  go_ret
  exact ⟨by rw [E.out];rfl,ja ya xa⟩
 have B2:=zH b2;have E:=zH (show qh p vars r=ue p vars r.c by simp [qh,b1,b2])
 clear b1 b2;go_enter Tryz.func157,Tryz.ntmps157
 go_wp2_with (first | (go_at_call 208;refine (Zx p vars _ _ _ r.c _ (se _ _ _ _ (ja ya xa) hz) hp).mono ?_;rintro e w3 ⟨rfl,Ga⟩) | (go_at_call 208;refine (Zx p vars _ _ _ r.b _ (se _ _ _ _ ya hy) hp).mono ?_;rintro e w2 ⟨rfl,xa⟩;rw [B2.out];clear t0 t2 y1 y2;have t0:w2.cell? ⟨w.heap.size,0,none⟩=some (.int .u64 p):=(ea K1 xa).cell 0;have t2:w2.cell? ⟨w.heap.size,2,none⟩=some (.int .i64 vars):=(ea K1 xa).cell 2;have y2:w2.cell? ⟨w.heap.size+1,2,none⟩=some (.slice A3 n3 c3):=(ea K2 xa).cell 2) | (go_at_call 208;refine (Zx p vars _ _ _ r.a _ (se _ _ _ _ (((Below.refl _ w).alloc zR _).alloc (by simp) _) hx) hp).mono ?_;rintro e w1 ⟨rfl,hb⟩;rw [B1.out];obtain ⟨K1,K2,ya⟩:=fy hb;have t0:w1.cell? ⟨w.heap.size,0,none⟩=some (.int .u64 p):=K1.cell 0;have t2:w1.cell? ⟨w.heap.size,2,none⟩=some (.int .i64 vars):=K1.cell 2;have y1:w1.cell? ⟨w.heap.size+1,1,none⟩=some (.slice A2 n2 c2):=K2.cell 1;have y2:w1.cell? ⟨w.heap.size+1,2,none⟩=some (.slice A3 n3 c3):=K2.cell 2;clear hb))
 go_ret
 exact ⟨by rw [E.out];rfl,ja (ja ya xa) Ga⟩
end Go.Proofs.YtjipleoamlmkfaaGreat
