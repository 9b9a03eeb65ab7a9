/- A part of the proof. No condition. -/
import Derived.Test.YtdhhdplholkmdaaGreatProg
import Derived.Test.YtdhhdplholkmdaaGreatPE3

namespace Go.Proofs.YtdhhdplholkmdaaGreat
open Go.RowKit
def okP (p:Nat):Bool:=p == 17||p == 97||p == 193||p == 257||p == 12289||p == 65537||p == 18446744069414584321
theorem Xv {p:Nat} (h:okP p=true):p=17∨p=97∨p=193∨p=257∨p=12289∨p=65537∨p=18446744069414584321:=by
 simp [okP] at h
 omega
def Y1 (p:Nat):Nat × Nat × Nat :=
 if p=17 then (3,4,3) else
 if p=97 then (5,5,5) else
 if p=193 then (5,6,5) else
 if p=257 then (3,8,3) else
 if p=12289 then (11,12,5) else
 if p=65537 then (3,16,3) else
 if p=18446744069414584321 then (7,32,7) else
 (0,0,0)
def Vt (p:Nat):Value:=.agg #[.int .u64 ((Y1 p).1:Int), .int .u64 ((Y1 p).2.1:Int), .int .u64 ((Y1 p).2.2:Int)]
set_option maxRecDepth 100000 in
set_option maxHeartbeats 1000000 in
theorem Kp (p:Nat) (w:World) (_hp:p<18446744073709551616) :
  Calls Tryz.prog 152 #[.int .u64 p] w fun e w'=>e= .returned (Vt p)∧Below w.heap.size w w':=by
 by_cases h0:p=17
 ·subst h0
  go_enter Tryz.func152,Tryz.ntmps152
  go_wp2_with fail
  exact bodyPost_ret (v:=.agg #[.int .u64 3, .int .u64 4, .int .u64 3]) (by simp [results,Tryz.results152,go_sem]) rfl ⟨rfl,(Below.refl _ _).alloc (Nat.le_refl _) _⟩
 by_cases h1:p=97
 ·subst h1
  go_enter Tryz.func152,Tryz.ntmps152
  go_wp2_with fail
  exact bodyPost_ret (v:=.agg #[.int .u64 5, .int .u64 5, .int .u64 5]) (by simp [results,Tryz.results152,go_sem]) rfl ⟨rfl,(Below.refl _ _).alloc (Nat.le_refl _) _⟩
 by_cases h2:p=193
 ·subst h2
  go_enter Tryz.func152,Tryz.ntmps152
  go_wp2_with fail
  exact bodyPost_ret (v:=.agg #[.int .u64 5, .int .u64 6, .int .u64 5]) (by simp [results,Tryz.results152,go_sem]) rfl ⟨rfl,(Below.refl _ _).alloc (Nat.le_refl _) _⟩
 by_cases h3:p=257
 ·subst h3
  go_enter Tryz.func152,Tryz.ntmps152
  go_wp2_with fail
  exact bodyPost_ret (v:=.agg #[.int .u64 3, .int .u64 8, .int .u64 3]) (by simp [results,Tryz.results152,go_sem]) rfl ⟨rfl,(Below.refl _ _).alloc (Nat.le_refl _) _⟩
 by_cases h4:p=12289
 ·subst h4
  go_enter Tryz.func152,Tryz.ntmps152
  go_wp2_with fail
  exact bodyPost_ret (v:=.agg #[.int .u64 11, .int .u64 12, .int .u64 5]) (by simp [results,Tryz.results152,go_sem]) rfl ⟨rfl,(Below.refl _ _).alloc (Nat.le_refl _) _⟩
 by_cases h5:p=65537
 ·subst h5
  go_enter Tryz.func152,Tryz.ntmps152
  go_wp2_with fail
  exact bodyPost_ret (v:=.agg #[.int .u64 3, .int .u64 16, .int .u64 3]) (by simp [results,Tryz.results152,go_sem]) rfl ⟨rfl,(Below.refl _ _).alloc (Nat.le_refl _) _⟩
 by_cases h6:p=18446744069414584321
 ·subst h6
  go_enter Tryz.func152,Tryz.ntmps152
  go_wp2_with fail
  exact bodyPost_ret (v:=.agg #[.int .u64 7, .int .u64 32, .int .u64 7]) (by simp [results,Tryz.results152,go_sem]) rfl ⟨rfl,(Below.refl _ _).alloc (Nat.le_refl _) _⟩
 have d0:((p:Int) == 17)=false:=by rw [beq_eq_false_iff_ne];omega
 have d1:((p:Int) == 97)=false:=by rw [beq_eq_false_iff_ne];omega
 have d2:((p:Int) == 193)=false:=by rw [beq_eq_false_iff_ne];omega
 have d3:((p:Int) == 257)=false:=by rw [beq_eq_false_iff_ne];omega
 have d4:((p:Int) == 12289)=false:=by rw [beq_eq_false_iff_ne];omega
 have d5:((p:Int) == 65537)=false:=by rw [beq_eq_false_iff_ne];omega
 have d6:((p:Int) == 18446744069414584321)=false:=by rw [beq_eq_false_iff_ne];omega
 have HR:=Lib.hid (show Vt p= .agg #[.int .u64 0, .int .u64 0, .int .u64 0] by simp [Vt,Y1, *])
 clear h0 h1 h2 h3 h4 h5 h6
 go_enter Tryz.func152,Tryz.ntmps152
 go_wp2_with fail
 exact bodyPost_ret (v:=.agg #[.int .u64 0, .int .u64 0, .int .u64 0]) (by simp [results,Tryz.results152,go_sem]) rfl ⟨by rw [HR.out],(Below.refl _ _).alloc (Nat.le_refl _) _⟩
theorem JP (p:Nat):decide (0<(Y1 p).1)=okP p:=by
 by_cases h:okP p=true
 ·rcases Xv h with rfl | rfl | rfl | rfl | rfl | rfl | rfl <;> rfl
 ·have h':=h
  simp [okP] at h'
  simp [Y1,h',h]
end Go.Proofs.YtdhhdplholkmdaaGreat
