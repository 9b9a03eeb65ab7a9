/-
  Walks of the reference of layer 11 that writes: Digits, Int, List, Bytes; Value; Same; and of the law's join.
-/
import Derived.Test.YtohddeebmofoeaaWireB
import Derived.Deep.QuietTactic
import Derived.BigQuiet
namespace Go.Proofs.Ytohddeebmofoeaa
open Go.RowKit

/-- The string of a list of bytes. -/
def S (l : List Nat) : ByteArray := ⟨(l.map fun n => UInt8.ofNat n).toArray⟩
theorem S_toList (l : List Nat) : (S l).toList = l.map fun n => UInt8.ofNat n := by
  rw [ByteArray.toList_eq]; simp [S]
theorem S_size (l : List Nat) : (S l).size = l.length := by simp [S, ByteArray.size]
theorem S_append (l m : List Nat) : S l ++ S m = S (l ++ m) := by
  unfold S
  rw [ByteArray.mk_append_mk, List.map_append]
theorem S_eq {l m : List Nat} (h : l = m) : ((S l).toList == (S m).toList) = true := by subst h; simp

theorem run_str_rd {P : Program} {w : World} {src e dst : TypeId} {A : Option Addr} {n c : Nat} {l : List Nat} (hs : P.underlying src = some (.slice e)) (he : P.underlying e = some (.int .u8)) (hd : P.underlying dst = some .string)
    (h : Rd w 1 A n (U8 l)) : (convert src dst (.slice A n c)).run P w = .ok (.string (S l)) w := by
  have hl : l.length = n := by have := h.len1; rwa [len_U8] at this
  rcases Nat.eq_zero_or_pos n with h0 | h0
  · subst h0
    obtain rfl : l = [] := List.eq_nil_of_length_eq_zero hl
    rcases A with _ | ad
    · rw [run_convert_bytes_nil w src e hs he _ _ dst hd]
      rfl
    · rw [run_convert_bytes_string w src dst e _ 0 c hs he hd, run_bytesToString w ad 0 c [] (by simpa using run_loadCells_list (P := P) w ad [] (fun j v hj => by simp at hj))]
      rfl
  · obtain ⟨ad, rfl, hc⟩ := h.2 h0
    have hlc := run_loadCells_list (P := P) w ad (U8 l) hc
    rw [len_U8, hl] at hlc
    rw [run_convert_bytes_string w src dst e _ n c hs he hd, run_bytesToString w ad n c (l.map fun x : Nat => (x : Int)) (by rw [hlc]; simp [U8, Function.comp_def]), foldl_push_bytes]
    simp [S, ByteArray.empty, ByteArray.emptyWithCapacity, Function.comp_def]
    rfl

set_option maxHeartbeats 400000 in
theorem rDigits_any (x k : Nat) (w : World) (hx : x < 18446744073709551616) (hk : k ≤ 100000000) :
    Calls Try.prog 13 #[.int .u64 x, .int .i64 k] w (Gives w 5 1 k (U8 (digs x k))) := by
  go_enter Try.func13, Try.ntmps13
  go_wp2_with fail
  go_loopw [0, 5, 6] (fun y s i wr => ∃ j z : Nat, j ≤ k ∧ i = .int .i64 (j : Int) ∧ y = .int .u64 (z : Int) ∧ Hid (z = x / 256 ^ j) ∧ z < 18446744073709551616 ∧ wr.ownsRow w.heap.size 5 1 s j (U8 (digs x j)) ∧ Below w.heap.size w wr)
    (fun _ _ i _ => k - (intOf i).toNat)
  case atStart => exact ⟨0, x, Nat.zero_le _, rfl, rfl, by simp [Hid], hx, World.ownsRow_nil _ _ _ _, Below.refl _ _⟩
  case round =>
    obtain ⟨j, z, hj, rfl, rfl, HZ, hz, hown, hb⟩ := hrel
    by_cases hlt : j < k
    · have hs := hb.size
      go_wp2_with (at_builtin; refine wpl_append rfl _ _ rfl el_u8 rfl (hown.alloc _) rfl (rd_one _ (.int .u8 ((z : Int) % 256)) _) ?_ ?_ ?_ ?_)
      · intro u hu; simp at hu; subst hu; rfl
      · omega
      · simp; omega
      intro v' w1 hown' hgrow hat
      have hb1 : Below w.heap.size w w1 := (hb.alloc hs _).grown hgrow (by simp; omega) fun g hg => (hown.lt g hg).1
      clear hown hgrow hat hb hs
      go_wp2
      go_roundw
      case rel =>
        refine ⟨j + 1, z / 256, by omega, by go_num, by go_num, ?_, by omega, ?_, hb1⟩
        · show z / 256 = x / 256 ^ (j + 1)
          rw [HZ.out, Nat.div_div_eq_div_mul, Nat.pow_succ]
        · rw [digs_snoc, ← HZ.out, U8_append]
          exact hown'
      case measure => simp [intOf]; omega
    · go_wp2
      go_ret
      have e : j = k := by omega
      subst e
      exact ⟨_, rfl, hown, hb⟩

set_option maxHeartbeats 400000 in
theorem rInt_any (x : Int) (w : World) (hlo : -9223372036854775808 ≤ x) (hhi : x ≤ 9223372036854775807) :
    Calls Try.prog 15 #[.int .i64 x] w (Gives w 5 1 4 (U8 (digs (lenOf x) 4))) := by
  by_cases h0 : x < 0
  · have HE := Lib.hid (lenOf_out (.inl h0) : lenOf x = 0)
    go_enter Try.func15, Try.ntmps15
    go_wp2_with (go_at_call 13; refine (rDigits_any 0 4 w (by omega) (by omega)).mono ?_; rintro e w' ⟨v', rfl, hown, hb⟩)
    go_ret
    exact ⟨_, rfl, by rw [HE.out]; exact hown, hb⟩
  · by_cases h1 : 4294967296 ≤ x
    · have HE := Lib.hid (lenOf_out (.inr (by omega)) : lenOf x = 0)
      go_enter Try.func15, Try.ntmps15
      go_wp2_with (go_at_call 13; refine (rDigits_any 0 4 w (by omega) (by omega)).mono ?_; rintro e w' ⟨v', rfl, hown, hb⟩)
      go_ret
      exact ⟨_, rfl, by rw [HE.out]; exact hown, hb⟩
    · obtain ⟨y, rfl⟩ := Int.eq_ofNat_of_zero_le (show 0 ≤ x by omega)
      have HE := Lib.hid (lenOf_nat (by omega) : lenOf (y : Int) = y)
      go_enter Try.func15, Try.ntmps15
      go_wp2_with (go_at_call 13; refine (rDigits_any y 4 w (by omega) (by omega)).mono ?_; rintro e w' ⟨v', rfl, hown, hb⟩)
      go_ret
      exact ⟨_, rfl, by rw [HE.out]; exact hown, hb⟩

set_option maxHeartbeats 400000 in
theorem rBytes_any (A : Option Addr) (m d : Nat) (ys : List Value) (w : World) (hs : Rd w 1 A m ys) (h2 : ∀ u ∈ ys, u.oneCell' = true) (hk : m ≤ 10000000) :
    Calls Try.prog 19 #[.slice A m d] w (Gives w 5 1 (4 + m) (U8 (digs m 4) ++ ys)) := by
  have HL := Lib.hid (lenOf_nat (by omega) : lenOf (m : Int) = m)
  go_enter Try.func19, Try.ntmps19
  go_wp2_with (first | (go_at_call 15; refine (rInt_any m w (by omega) (by omega)).mono ?_; rintro e w1 ⟨v, rfl, hv, hb⟩) | (at_builtin; refine wpl_append rfl _ _ rfl el_u8 rfl hv rfl (hs.below hb) h2 ?_ ?_ ?_))
  · omega
  · exact hb.size
  intro v' w' hown' hg' hat
  go_wp2
  go_ret
  rw [HL.out] at hown'
  exact Gives.then_ hb hv hown' hg'

set_option maxHeartbeats 400000 in
theorem rList_any (C : Option Addr) (m d : Nat) (l : List Nat) (w : World) (hs : Rd w 1 C m (U64 l)) (hl : ∀ x ∈ l, x < 18446744073709551616) (hk : m ≤ 1000000) :
    Calls Try.prog 17 #[.slice C m d] w (Gives w 5 1 (4 + 8 * m) (U8 (digs m 4) ++ U8 (l.flatMap fun x => digs x 8))) := by
  have HL := Lib.hid (lenOf_nat (by omega) : lenOf (m : Int) = m)
  have HM : Hid (l.length = m) := by have := hs.len1; rw [len_U64] at this; exact this
  go_enter Try.func17, Try.ntmps17
  go_wp2_with (go_at_call 15; refine (rInt_any m w (by omega) (by omega)).mono ?_; rintro e w1 ⟨v, rfl, hv, hb⟩)
  rw [HL.out] at hv
  go_loopw [3, 4] (fun s i wr => ∃ j : Nat, j ≤ m ∧ i = .int .i64 (j : Int) ∧ wr.ownsRow w.heap.size 5 1 s (4 + 8 * j) (U8 (digs m 4) ++ U8 ((l.take j).flatMap fun x => digs x 8)) ∧ Below w.heap.size w wr)
    (fun _ i _ => m - (intOf i).toNat)
  case atStart => exact ⟨0, Nat.zero_le _, rfl, by simpa [U8] using hv, hb⟩
  case round =>
    obtain ⟨j, hj, rfl, hown, hbr⟩ := hrel
    by_cases hlt : j < m
    · have hjl : j < l.length := by rw [HM.out]; exact hlt
      obtain ⟨ad, u, rfl, hu, hc⟩ := (hs.below hbr).at_ hlt
      obtain ⟨y, hy⟩ : ∃ y, y = l[j] := ⟨_, rfl⟩
      have hyl : y < 18446744073709551616 := by rw [hy]; exact hl _ (List.getElem_mem _)
      rw [at_U64 hjl, ← hy] at hu
      injection hu with hu
      subst hu
      have HY := Lib.hid hy
      clear hy
      go_wp2_with (first | (go_at_call 13; refine (rDigits_any y 8 _ hyl (by omega)).mono ?_; rintro e w3 ⟨v3, rfl, hv3, hb3⟩; obtain ⟨A3, c3, rfl, _, _, hr3, _⟩ := own_form hv3; have hown3 := own_below hown hb3 (Nat.le_refl _); have hb4 := hbr.trans (hb3.mono hbr.size)) | (at_builtin; refine wpl_append rfl _ _ rfl el_u8 rfl hown3 rfl hr3 (one_U8 _) ?_ ?_ ?_))
      · omega
      · exact hb4.size
      intro v5 w5 hv5 hg5 _
      have hb5 : Below w.heap.size w w5 := hb4.grown hg5 hb4.size fun k hk => (hown.lt k hk).1
      clear hown hg5 hown3 hb4 hv3 hb3 hr3
      go_wp2
      go_roundw
      case rel =>
        refine ⟨j + 1, by omega, by go_num, ?_, hb5⟩
        rw [List.take_succ_eq_append_getElem hjl, ← HY.out, List.flatMap_append, U8_append, show 4 + 8 * (j + 1) = 4 + 8 * j + 8 from by omega]
        simpa using hv5
      case measure => simp [intOf]; omega
    · go_wp2
      go_ret
      have e : j = m := by omega
      subst e
      rw [List.take_of_length_le (by rw [HM.out]; exact Nat.le_refl _)] at hown
      exact ⟨_, rfl, hown, hbr⟩

set_option maxHeartbeats 400000 in
theorem join_any (A C : Option Addr) (n c m d : Nat) (a b : List Nat) (w : World) (ha : Rd w 1 A n (U8 a)) (hb : Rd w 1 C m (U8 b)) (hk : n + m ≤ 100000000) :
    Calls Try.prog 12 #[.slice A n c, .slice C m d] w fun e w' => e = .returned (.string (S (a ++ b))) ∧ w = w' := by
  have h1 : ∀ wx, Rd wx 1 A n (U8 a) → (convert 22 9 (.slice A n c)).run Try.prog wx = .ok (.string (S a)) wx := fun wx h => run_str_rd Try.underlying22 Try.underlying5 Try.underlying9 h
  have h2 : ∀ wx, Rd wx 1 C m (U8 b) → (convert 22 9 (.slice C m d)).run Try.prog wx = .ok (.string (S b)) wx := fun wx h => run_str_rd Try.underlying22 Try.underlying5 Try.underlying9 h
  have h3 : ∀ wx, (Op.stringOp .add (S a) (S b)).run Try.prog wx = .ok (.string (S (a ++ b))) wx := fun wx => by
    have e1 := ha.len1; have e2 := hb.len1
    rw [len_U8] at e1 e2
    rw [run_string_add_sum wx (S a) (S b) (by rw [S_size, S_size]; omega), S_append]
  have k1 := h1 w ha
  have k2 := h2 w hb
  clear h1 h2
  go_enter Try.func12, Try.ntmps12
  go_wp2
  go_ret
  exact ⟨rfl, rfl⟩
end Go.Proofs.Ytohddeebmofoeaa
