/- A part of the proof. No condition. -/
import Derived.Test.YtdhhdplholkmdaaGreatProg
import Derived.Test.YtdhhdplholkmdaaGreatPE29

namespace Go.Proofs.YtdhhdplholkmdaaGreat
open Go.RowKit
theorem Un {j:Nat} (hj:j<64):Lib.bitLen (2^j)=j+1:=by
 obtain ⟨h1,h2,h3⟩:=Lib.bitLenAux_bounds 64 (2^j) (Nat.pow_lt_pow_right (by omega) hj) (Nat.ne_of_gt (Nat.pow_pos (by omega)))
 have e:Lib.bitLen (2^j)=Lib.bitLenAux 64 (2^j):=rfl
 rw [e]
 generalize Lib.bitLenAux 64 (2^j)=k at *
 have h4:=(Nat.pow_lt_pow_iff_right (a:=2) (by omega)).1 h3
 have h5:=(Nat.pow_le_pow_iff_right (a:=2) (by omega)).1 h2
 omega
set_option maxRecDepth 100000 in
set_option maxHeartbeats 1000000 in
theorem UP (L:Xf) (j:Nat) (w:World) (hn:L.n=2^j) (hj:j≤10) :
  Calls Tryz.prog 112 #[.agg (ZP L)] w fun e w'=>e= .returned (.int .i64 (j:Int))∧Below w.heap.size w w':=by
 have hN:L.n≤1024:=by rw [hn];exact Nat.pow_le_pow_right (n:=2) (by omega) hj
 have HL:=Lib.hid (fun w=>J9 (L.n:Int) w (by omega) (by omega))
 rw [Int.toNat_natCast,hn,Un (by omega),←hn] at HL
 have e1:IntKind.u64.wrap (L.n:Int)=(L.n:Int):=ZV _ (by omega)
 have i1:(j:Int)≤10:=by omega
 have e2:((j+1:Nat):Int)-1=(j:Int):=by omega
 unfold ZP
 clear hn
 go_enter Tryz.func112,Tryz.ntmps112
 go_wp2_with fail
 refine (HL.out _).mono ?_
 rintro e w1 ⟨rfl,rfl⟩
 go_wp2
 go_ret
 exact ⟨by simp,(Below.refl _ _).alloc (Nat.le_refl _) _⟩
def KH (L:Xf) (j:Nat):Nat:=8*(1+(L.k+(L.k+L.block-1)+(2*L.k-1))+L.queries*(L.a+L.b+L.b+L.b+3+1+j))
set_option maxRecDepth 100000 in
set_option maxHeartbeats 1000000 in
theorem Jr (L:Xf) (j:Nat) (w:World) (hL:Yr L) (hn:L.n=2^j) (hj:j≤10) :
  Calls Tryz.prog 50 #[.agg (ZP L)] w fun e w'=>e= .returned (.int .i64 (KH L j:Nat))∧Below w.heap.size w w':=by
 have HL:=Lib.hid (fun w=>UP L j w hn hj)
 have HT:=Lib.hid (fun w=>X7 L.p L.block L.queries L.k L.n L.secret L.rows L.a L.b L.b L.b w hL.a hL.b hL.b hL.b)
 have h1:=hL.b1
 have h2:=hL.b2
 have h3:=hL.q1
 have h4:=hL.q2
 have h5:=hL.k
 have h6:=hL.a
 have h7:=hL.b
 have i1:(L.k:Int)≤320:=by omega
 have i2:(1:Int)≤(L.k:Int):=by omega
 have i3:(L.block:Int)≤256:=by omega
 have i4:(j:Int)≤10:=by omega
 have hS:KH L j=8*(1+(L.k+(L.k+L.block-1)+(2*L.k-1))+L.queries*(L.a+L.b+L.b+L.b+3+1+j)):=rfl
 have hT:L.a+L.b+L.b+L.b≤400000:=by omega
 obtain ⟨T,hTT⟩:∃ T,T=L.a+L.b+L.b+L.b:=⟨_,rfl⟩
 rw [←hTT] at HT hS hT
 obtain ⟨T2,hT2⟩:∃ T2,T2=T+3+1+j:=⟨_,rfl⟩
 rw [←hT2] at hS
 have hM:L.queries*T2≤64*T2:=Nat.mul_le_mul_right _ h4
 obtain ⟨M,hMM⟩:∃ M,M=L.queries*T2:=⟨_,rfl⟩
 rw [←hMM] at hS hM
 obtain ⟨Z,hZ⟩:∃ Z,Z=KH L j:=⟨_,rfl⟩
 rw [←hZ] at hS
 rw [←hZ]
 obtain ⟨X,hX⟩:∃ X,X=L.k+(L.k+L.block-1)+(2*L.k-1):=⟨_,rfl⟩
 have e1:(L.k:Int)+((L.k:Int)+(L.block:Int)-1)+(2*(L.k:Int)-1)=(X:Int):=by omega
 have e2:(T:Int)+3+1+(j:Int)=(T2:Int):=by omega
 have e3:(L.queries:Int)*(T2:Int)=(M:Int):=by rw [hMM];exact (Int.natCast_mul _ _).symm
 have e4:(8:Int)*(1+(X:Int)+(M:Int))=(Z:Int):=by omega
 have e5:IntKind.i64.wrap ((T:Int)+3)=(T:Int)+3:=Zw _ (by omega) (by omega)
 have e6:IntKind.i64.wrap ((T:Int)+3+1)=(T:Int)+3+1:=Zw _ (by omega) (by omega)
 have e7:IntKind.i64.wrap (T2:Int)=(T2:Int):=Zw _ (by omega) (by omega)
 have i5:(T2:Int)≤400014:=by omega
 have i6:(M:Int)≤25600896:=by omega
 have i7:(X:Int)≤2000:=by omega
 have i8:(T:Int)≤400000:=by omega
 clear h1 h2 h3 h4 h5 h6 h7 hS hT hTT hT2 hM hMM hZ hX hL hn hj
 unfold ZP at HL ⊢
 have hb0:Below w.heap.size w (w.alloc (.cells #[.int .u64 (L.p:Int), .int .i64 (L.block:Int), .int .i64 (L.queries:Int), .int .i64 (L.k:Int), .int .i64 (L.n:Int), .int .i64 (L.secret:Int), .int .i64 (L.rows:Int), .int .i64 (L.a:Int), .int .i64 (L.b:Int), .int .i64 (L.b:Int), .int .i64 (L.b:Int)] 50)):=(Below.refl _ _).alloc (Nat.le_refl _) _
 have hB:=Blk.new w 50 #[.int .u64 (L.p:Int), .int .i64 (L.block:Int), .int .i64 (L.queries:Int), .int .i64 (L.k:Int), .int .i64 (L.n:Int), .int .i64 (L.secret:Int), .int .i64 (L.rows:Int), .int .i64 (L.a:Int), .int .i64 (L.b:Int), .int .i64 (L.b:Int), .int .i64 (L.b:Int)]
 go_enter Tryz.func50,Tryz.ntmps50
 go_wp2_with fail
 revert hb0 hB
 generalize w.alloc _=w0
 intro hb0 hB
 obtain ⟨c0,f0⟩:=hB.cells'
 have l0:=hB.lt
 refine ZI (Z4) [1,5] [0,4,1,2,3,5,6,7] (by kernel_rfl) (by kernel_rfl) ?_
 refine ZY (later_moves) ?_
 intro Wc hacc
 repeat (first | (refine Zh (later_moves) rfl rfl (fun _ _ _ h=>h) ?_;simp only [Act.put,zLa,zLb,zLc]) | (refine Zf (v:=?_) (later_moves) rfl rfl (fun _ _ _ h=>h) ?_ ?_;rotate_left;(· (intro w' hR;(first | have hcells:=Zc ((later_moves).trans _ _ _ hacc hR) | skip);go_simp;try with_reducible rfl));simp only [Act.put,zLa,zLb,zLc]))
 refine Zt (later_moves) rfl rfl rfl (fun _=>by go_simp <;> rfl) ((HT.out _).mono ?_)
 rintro e w1 ⟨rfl,hb1⟩
 refine ⟨_,rfl,hb1,?_⟩
 replace hacc:=(later_moves).trans _ _ _ hacc (hb1)
 simp only [Act.put,zLa,zLb,zLc]
 repeat (first | (refine Zh (later_moves) rfl rfl (fun _ _ _ h=>h) ?_;simp only [Act.put,zLa,zLb,zLc]) | (refine Zf (v:=?_) (later_moves) rfl rfl (fun _ _ _ h=>h) ?_ ?_;rotate_left;(· (intro w' hR;(first | have hcells:=Zc ((later_moves).trans _ _ _ hacc hR) | skip);go_simp;try with_reducible rfl));simp only [Act.put,zLa,zLb,zLc]))
 refine Zt (later_moves) rfl rfl rfl (fun _=>by go_simp <;> rfl) ((HL.out _).mono ?_)
 rintro e w2 ⟨rfl,hb2⟩
 refine ⟨_,rfl,hb2,?_⟩
 replace hacc:=(later_moves).trans _ _ _ hacc (hb2)
 simp only [Act.put,zLa,zLb,zLc]
 repeat (first | (refine Zh (later_moves) rfl rfl (fun _ _ _ h=>h) ?_;simp only [Act.put,zLa,zLb,zLc]) | (refine Zf (v:=?_) (later_moves) rfl rfl (fun _ _ _ h=>h) ?_ ?_;rotate_left;(· (intro w' hR;(first | have hcells:=Zc ((later_moves).trans _ _ _ hacc hR) | skip);go_simp;try with_reducible rfl));simp only [Act.put,zLa,zLb,zLc]))
 refine ZQ ?_
 have hB2:=hB.drew.below hacc hB.lt
 clear c0 f0
 obtain ⟨c0,f0⟩:=hB2.cells'
 go_wp2
 go_ret
 exact ⟨rfl,Za hb0.drew hacc⟩
set_option maxRecDepth 100000 in
set_option maxHeartbeats 1000000 in
theorem YE (w:World):Calls Tryz.prog 13 #[] w fun e w'=>e= .returned (.bool true)∧Below w.heap.size w w':=by
 have HS:=Lib.hid (Jr ⟨97,2,2,4,8,3,1,2,1⟩ 3 w ⟨rfl,by decide,by decide,by decide,by decide,rfl,⟨3,rfl⟩,by decide,by decide,by decide,by decide,by decide,by decide,by decide,by decide,by decide,by decide,by decide,by decide⟩ rfl (by decide))
 unfold ZP at HS
 simp only at HS
 go_enter Tryz.func13,Tryz.ntmps13
 go_wp2_with fail
 refine HS.out.mono ?_
 rintro e w1 ⟨rfl,hb⟩
 go_wp2
 go_ret
 exact ⟨rfl,hb⟩
end Go.Proofs.YtdhhdplholkmdaaGreat
