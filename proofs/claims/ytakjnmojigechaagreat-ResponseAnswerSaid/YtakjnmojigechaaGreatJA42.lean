/- A part of the proof: ReP. No condition. -/
import Derived.Test.YtakjnmojigechaaGreatJA38
import Derived.Test.YtakjnmojigechaaGreatJA41
import Derived.Test.YtakjnmojigechaaGreatJA37

namespace Go.Proofs.YtakjnmojigechaaGreat
open Go.RowKit
def termF (p pu x : Nat) (f : Nat → Nat) (t : Int × Nat) : Nat → Nat :=
  if 0 ≤ t.1 - 1 - (pu : Int) then putF f (t.1 - 1 - (pu : Int)).toNat ((f (t.1 - 1 - (pu : Int)).toNat + negP p (x * t.2 % p)) % p) else f
def secT (p pu x : Nat) (f : Nat → Nat) (ts : List (Int × Nat)) : Nat → (Nat → Nat)
  | 0 => f
  | t + 1 => termF p pu x (secT p pu x f ts t) (ts.getD t (0, 0))
def secS (p pu n rho : Nat) (r : RowR) (i : Nat) (f : Nat → Nat) : Nat → (Nat → Nat)
  | 0 => f
  | j + 1 => secT p pu (rho ^ (j * n + i) % p) (secS p pu n rho r i f j) (sideR r j) (sideR r j).length
def secR (p pu n rho : Nat) (rows : List RowR) : Nat → (Nat → Nat)
  | 0 => fun _ => 0
  | i + 1 => secS p pu n rho (rows.getD i ⟨[], [], []⟩) i (secR p pu n rho rows i) 3
def pwL (p n rho k : Nat) : List Nat := (List.range n).map fun i => rho ^ (k * n + i) % p
def coefP (L : LayR) (pu rho : Nat) (rows : List RowR) : List (List Nat) :=
  cutL L.block (sel4 ((List.range L.secret).map (secR L.p pu rows.length rho rows rows.length)) (pwL L.p rows.length rho 0) (pwL L.p rows.length rho 1) (pwL L.p rows.length rho 2)) (sel4 L.a L.b L.b L.b)
theorem rwd_take {w : World} {A : Option Addr} {n c k : Nat} {l : List Nat} (h : RWd w [.slice A n c] l) (hk : k ≤ n) : RWd w [.slice A k c] (l.take k) := by
  obtain ⟨hn, hc, hm, hlt, hr⟩ := lw_at h
  exact ⟨_, _, _, rfl, by omega, hm, rd_less hr hk, fun x hx => hlt x (List.mem_of_mem_take hx)⟩
theorem sel_all {w : World} {v0 v1 v2 v3 : Value} {l0 l1 l2 l3 : List Nat} (h0 : RWd w [v0] l0) (h1 : RWd w [v1] l1) (h2 : RWd w [v2] l2) (h3 : RWd w [v3] l3) : ∀ i, i < 4 → RWd w [sel4 v0 v1 v2 v3 i] (sel4 l0 l1 l2 l3 i) := fun i h => by
  rcases (show i = 0 ∨ i = 1 ∨ i = 2 ∨ i = 3 by omega) with rfl | rfl | rfl | rfl
  · exact h0
  · exact h1
  · exact h2
  · exact h3
def VarsOk (vars : Int) (rows : List RowR) : Prop := ∀ r ∈ rows, ∀ k, k < 3 → ∀ t ∈ sideR r k, 0 ≤ t.1 ∧ t.1 < vars
end Go.Proofs.YtakjnmojigechaaGreat
