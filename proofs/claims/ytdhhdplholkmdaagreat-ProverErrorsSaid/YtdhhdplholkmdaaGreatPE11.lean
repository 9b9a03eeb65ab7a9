/- A part of the proof. No condition. -/
import Derived.Test.YtdhhdplholkmdaaGreatProg
import Derived.Test.YtdhhdplholkmdaaGreatPE10

namespace Go.Proofs.YtdhhdplholkmdaaGreat
open Go.RowKit
def slc (v:Value):Prop:=∃ A n c,v= .slice A n c
theorem RSl.slc {α:Type} {R:World→List Value→α→Prop} {sz:Nat} {w:World} {v:Value} {l:List α} (h:RSl sz R w [v] l):slc v:=by
 obtain ⟨A,n,c,e,-⟩:=h
 simp at e
 exact ⟨A,n,c,e⟩
def ZE (p:Nat) (pub vars:Int) (rows:Value):Value:=.agg #[.int .u64 (p:Int), .int .i64 pub, .int .i64 vars,rows]
def Yp (p:Nat) (n:Int) (r:Zv):Bool:=Yk p n r.a&&Yk p n r.b&&Yk p n r.c
theorem YX {w w1:World} {t1 t2:TypeId} {cs1 cs2:Array Value} (hb:Below ((w.alloc (.cells cs1 t1)).alloc (.cells cs2 t2)).heap.size ((w.alloc (.cells cs1 t1)).alloc (.cells cs2 t2)) w1) :
  Blk w1 w.heap.size t1 cs1∧Blk w1 (w.heap.size+1) t2 cs2∧Below w.heap.size w w1:=by
 refine ⟨((Blk.new w t1 cs1).alloc _).below hb (by simp;omega),?_,Za (((Below.refl _ w).alloc (Nat.le_refl _) _).alloc (by simp) _) hb⟩
 have:=(Blk.new (w.alloc (.cells cs1 t1)) t2 cs2).below hb (by simp)
 simpa using this
set_option maxRecDepth 100000 in
set_option maxHeartbeats 1000000 in
theorem Uj (p:Nat) (pub vars:Int) (rows:Value) (r:Zv) (x y z:Value) (w:World) (hx:RLin w [x] r.a) (hy:RLin w [y] r.b) (hz:RLin w [z] r.c) (hp:p<18446744073709551616) :
  Calls Tryz.prog 153 #[ZE p pub vars rows, .agg #[x,y,z]] w fun e w'=>e= .returned (.bool (Yp p vars r))∧Below w.heap.size w w':=by
 obtain ⟨A1,n1,c1,rfl⟩:=RSl.slc hx
 obtain ⟨A2,n2,c2,rfl⟩:=RSl.slc hy
 obtain ⟨A3,n3,c3,rfl⟩:=RSl.slc hz
 unfold ZE
 cases b1:Yk p vars r.a
 ·have E:=Lib.hid (show Yp p vars r=false by simp [Yp,b1])
  have B1:=Lib.hid b1
  clear b1
  go_enter Tryz.func153,Tryz.ntmps153
  go_wp2_with (first | (go_at_call 221;refine (Ye p vars _ _ _ r.a _ (Zp _ _ _ _ (((Below.refl _ w).alloc (Nat.le_refl _) _).alloc (by simp) _) hx) hp).mono ?_;rintro e w1 ⟨rfl,hb⟩;rw [B1.out];obtain ⟨K1,K2,hb1⟩:=YX hb;have t0:w1.cell? ⟨w.heap.size,0,none⟩=some (.int .u64 (p:Int)):=K1.cell 0;have t2:w1.cell? ⟨w.heap.size,2,none⟩=some (.int .i64 vars):=K1.cell 2;have y1:w1.cell? ⟨w.heap.size+1,1,none⟩=some (.slice A2 n2 c2):=K2.cell 1;have y2:w1.cell? ⟨w.heap.size+1,2,none⟩=some (.slice A3 n3 c3):=K2.cell 2;clear hb))
  go_ret
  exact ⟨by rw [E.out];rfl,hb1⟩
 have B1:=Lib.hid b1
 cases b2:Yk p vars r.b
 ·have E:=Lib.hid (show Yp p vars r=false by simp [Yp,b1,b2])
  have B2:=Lib.hid b2
  clear b1 b2
  go_enter Tryz.func153,Tryz.ntmps153
  go_wp2_with (first | (go_at_call 221;refine (Ye p vars _ _ _ r.b _ (Zp _ _ _ _ hb1 hy) hp).mono ?_;rintro e w2 ⟨rfl,hb2⟩;rw [B2.out];clear t0 t2 y1 y2;have t0:w2.cell? ⟨w.heap.size,0,none⟩=some (.int .u64 (p:Int)):=(K1.below hb2 K1.lt).cell 0;have t2:w2.cell? ⟨w.heap.size,2,none⟩=some (.int .i64 vars):=(K1.below hb2 K1.lt).cell 2;have y2:w2.cell? ⟨w.heap.size+1,2,none⟩=some (.slice A3 n3 c3):=(K2.below hb2 K2.lt).cell 2) | (go_at_call 221;refine (Ye p vars _ _ _ r.a _ (Zp _ _ _ _ (((Below.refl _ w).alloc (Nat.le_refl _) _).alloc (by simp) _) hx) hp).mono ?_;rintro e w1 ⟨rfl,hb⟩;rw [B1.out];obtain ⟨K1,K2,hb1⟩:=YX hb;have t0:w1.cell? ⟨w.heap.size,0,none⟩=some (.int .u64 (p:Int)):=K1.cell 0;have t2:w1.cell? ⟨w.heap.size,2,none⟩=some (.int .i64 vars):=K1.cell 2;have y1:w1.cell? ⟨w.heap.size+1,1,none⟩=some (.slice A2 n2 c2):=K2.cell 1;have y2:w1.cell? ⟨w.heap.size+1,2,none⟩=some (.slice A3 n3 c3):=K2.cell 2;clear hb))
  go_ret
  exact ⟨by rw [E.out];rfl,Za hb1 hb2⟩
 have B2:=Lib.hid b2
 have E:=Lib.hid (show Yp p vars r=Yk p vars r.c by simp [Yp,b1,b2])
 clear b1 b2
 go_enter Tryz.func153,Tryz.ntmps153
 go_wp2_with (first | (go_at_call 221;refine (Ye p vars _ _ _ r.c _ (Zp _ _ _ _ (Za hb1 hb2) hz) hp).mono ?_;rintro e w3 ⟨rfl,hb3⟩) | (go_at_call 221;refine (Ye p vars _ _ _ r.b _ (Zp _ _ _ _ hb1 hy) hp).mono ?_;rintro e w2 ⟨rfl,hb2⟩;rw [B2.out];clear t0 t2 y1 y2;have t0:w2.cell? ⟨w.heap.size,0,none⟩=some (.int .u64 (p:Int)):=(K1.below hb2 K1.lt).cell 0;have t2:w2.cell? ⟨w.heap.size,2,none⟩=some (.int .i64 vars):=(K1.below hb2 K1.lt).cell 2;have y2:w2.cell? ⟨w.heap.size+1,2,none⟩=some (.slice A3 n3 c3):=(K2.below hb2 K2.lt).cell 2) | (go_at_call 221;refine (Ye p vars _ _ _ r.a _ (Zp _ _ _ _ (((Below.refl _ w).alloc (Nat.le_refl _) _).alloc (by simp) _) hx) hp).mono ?_;rintro e w1 ⟨rfl,hb⟩;rw [B1.out];obtain ⟨K1,K2,hb1⟩:=YX hb;have t0:w1.cell? ⟨w.heap.size,0,none⟩=some (.int .u64 (p:Int)):=K1.cell 0;have t2:w1.cell? ⟨w.heap.size,2,none⟩=some (.int .i64 vars):=K1.cell 2;have y1:w1.cell? ⟨w.heap.size+1,1,none⟩=some (.slice A2 n2 c2):=K2.cell 1;have y2:w1.cell? ⟨w.heap.size+1,2,none⟩=some (.slice A3 n3 c3):=K2.cell 2;clear hb))
 go_ret
 exact ⟨by rw [E.out];rfl,Za (Za hb1 hb2) hb3⟩
end Go.Proofs.YtdhhdplholkmdaaGreat
