/-
  WireExact: what reading and writing again gives; the walk of the law.
-/
import Derived.Test.YtohddeebmofoeaaWireK
namespace Go.Proofs.Ytohddeebmofoeaa
open Go.RowKit

theorem digs_valOf : ∀ (t : List Nat), (∀ x ∈ t, x < 256) → digs (valOf t) t.length = t
  | [], _ => rfl
  | x :: r, h => by
    have h1 := h x (by simp)
    have h2 := digs_valOf r fun y hy => h y (by simp [hy])
    rw [valOf, List.length_cons, digs, show (x + 256 * valOf r) % 256 = x from by omega, show (x + 256 * valOf r) / 256 = valOf r from by omega, h2]
theorem rdDig_ok {k : Nat} {l : List Nat} {f : Bool} (h : (rdDig k l f).2.1 = true) : f = false ∧ k ≤ l.length ∧ rdDig k l f = (valOf (l.take k), true, l.drop k, false) := by
  unfold rdDig at h ⊢
  split
  · rename_i h1
    rw [if_pos h1] at h
    cases h
  · rename_i h1
    simp at h1
    exact ⟨h1.1, h1.2, rfl⟩
theorem digs_take {k : Nat} {l : List Nat} (hk : k ≤ l.length) (hl : ∀ x ∈ l, x < 256) : digs (valOf (l.take k)) k ++ l.drop k = l := by
  have h := digs_valOf (l.take k) fun x hx => hl x (List.mem_of_mem_take hx)
  rw [List.length_take, Nat.min_eq_left hk] at h
  rw [h, List.take_append_drop]
theorem rdUint_ok {m : Nat} {l : List Nat} {f : Bool} (hl : ∀ x ∈ l, x < 256) (h : (rdUint m l f).2.2 = false) : f = false ∧ digs (rdUint m l f).1 8 ++ (rdUint m l f).2.1 = l := by
  unfold rdUint at h ⊢
  split
  · rename_i h1
    rw [if_pos h1] at h
    cases h
  · rename_i h1
    simp only [not_or, Bool.not_eq_false] at h1
    obtain ⟨h2, h3, h4⟩ := rdDig_ok h1.1
    rw [h4]
    exact ⟨h2, digs_take h3 hl⟩
theorem rdInt_ok {m : Int} {l : List Nat} {f : Bool} (hl : ∀ x ∈ l, x < 256) (h : (rdInt m l f).2.2 = false) : f = false ∧ digs (rdInt m l f).1 4 ++ (rdInt m l f).2.1 = l := by
  unfold rdInt at h ⊢
  split
  · rename_i h1
    rw [if_pos h1] at h
    cases h
  · rename_i h1
    simp only [not_or, Bool.not_eq_false] at h1
    obtain ⟨h2, h3, h4⟩ := rdDig_ok h1.1
    rw [h4]
    exact ⟨h2, digs_take h3 hl⟩
theorem rdInt_rest {m : Int} {l : List Nat} {f : Bool} (hl : ∀ x ∈ l, x < 256) : ∀ x ∈ (rdInt m l f).2.1, x < 256 := by
  unfold rdInt rdDig
  split <;> split <;> first | exact hl | exact fun x hx => hl x (List.mem_of_mem_drop hx)
theorem rdWords_ok {p : Nat} : ∀ (n : Nat) (acc l : List Nat), 8 * n ≤ l.length → (∀ x ∈ l, x < 256) → (rdWords p n acc l).2.2 = false →
    ∃ m, (rdWords p n acc l).1 = acc ++ m ∧ m.length = n ∧ (m.flatMap fun x => digs x 8) ++ (rdWords p n acc l).2.1 = l
  | 0, acc, l, _, _, _ => ⟨[], by simp [rdWords], rfl, by simp [rdWords]⟩
  | n + 1, acc, l, hn, hl, h => by
    rw [rdWords] at h ⊢
    split
    · rename_i h1
      rw [if_pos h1] at h
      cases h
    · rename_i h1
      rw [if_neg h1] at h
      obtain ⟨m, h2, h3, h4⟩ := rdWords_ok n (acc ++ [valOf (l.take 8)]) (l.drop 8) (by rw [List.length_drop]; omega) (fun x hx => hl x (List.mem_of_mem_drop hx)) h
      refine ⟨valOf (l.take 8) :: m, by rw [h2]; simp, by simp [h3], ?_⟩
      rw [List.flatMap_cons, List.append_assoc, h4]
      exact digs_take (by omega) hl
theorem rdWords_bd {p : Nat} : ∀ (n : Nat) (acc l : List Nat), (∀ x ∈ l, x < 256) → (∀ x ∈ acc, x < 18446744073709551616) → ∀ x ∈ (rdWords p n acc l).1, x < 18446744073709551616
  | 0, acc, l, _, ha => by simpa [rdWords] using ha
  | n + 1, acc, l, hl, ha => by
    rw [rdWords]
    split
    · simp
    · refine rdWords_bd n _ _ (fun x hx => hl x (List.mem_of_mem_drop hx)) fun x hx => ?_
      rcases List.mem_append.1 hx with h | h
      · exact ha x h
      · rw [List.mem_singleton] at h
        subst h
        have h1 := valOf_lt (l.take 8) fun x hx => hl x (List.mem_of_mem_take hx)
        have h2 : (256 : Nat) ^ (l.take 8).length ≤ 256 ^ 8 := Nat.pow_le_pow_right (by omega) (by rw [List.length_take]; omega)
        have h3 : (256 : Nat) ^ 8 = 18446744073709551616 := by decide
        omega
theorem rdList_bd {m : Int} {p : Nat} {l : List Nat} {f : Bool} (hl : ∀ x ∈ l, x < 256) : ∀ x ∈ (rdList m p l f).1, x < 18446744073709551616 := by
  unfold rdList
  split
  · simp
  · exact rdWords_bd _ _ _ (rdInt_rest hl) (by simp)
theorem rdList_ok {m : Int} {p : Nat} {l : List Nat} {f : Bool} (hl : ∀ x ∈ l, x < 256) (h : (rdList m p l f).2.2 = false) : f = false ∧ digs (rdList m p l f).1.length 4 ++ (((rdList m p l f).1.flatMap fun x => digs x 8) ++ (rdList m p l f).2.1) = l := by
  unfold rdList at h ⊢
  split
  · rename_i h1
    rw [if_pos h1] at h
    cases h
  · rename_i h1
    rw [if_neg h1] at h
    simp only [not_or, Bool.not_eq_true, Nat.not_lt] at h1
    obtain ⟨h2, h3⟩ := rdInt_ok hl h1.1
    obtain ⟨mm, h4, h5, h6⟩ := rdWords_ok _ _ _ (by omega) (rdInt_rest hl) h
    refine ⟨h2, ?_⟩
    rw [h4, List.nil_append, h5, h6, h3]
theorem rdBytes_ok {m : Int} {l : List Nat} {f : Bool} (hl : ∀ x ∈ l, x < 256) (h : (rdBytes m l f).2.2 = false) : f = false ∧ digs (rdBytes m l f).1.length 4 ++ ((rdBytes m l f).1 ++ (rdBytes m l f).2.1) = l := by
  unfold rdBytes at h ⊢
  split
  · rename_i h1
    rw [if_pos h1] at h
    cases h
  · rename_i h1
    simp only [not_or, Bool.not_eq_true, Nat.not_lt] at h1
    obtain ⟨h2, h3⟩ := rdInt_ok hl h1.1
    refine ⟨h2, ?_⟩
    simp only
    rw [List.take_append_drop, List.length_take, Nat.min_eq_left h1.2, h3]
theorem rdUint_lt {m : Nat} {l : List Nat} {f : Bool} (hl : ∀ x ∈ l, x < 256) : (rdUint m l f).1 < 18446744073709551616 := by
  have := rdDig_lt (k := 8) (f := f) hl
  unfold rdUint
  split
  · exact (by decide : 0 < 18446744073709551616)
  · exact this
theorem flat8_len : ∀ (v : List Nat), (v.flatMap fun x => digs x 8).length = 8 * v.length
  | [] => rfl
  | x :: r => by rw [List.flatMap_cons, List.length_append, len_digs, flat8_len r, List.length_cons]; omega

/-- What a call of a Read method, written again, yields: its bytes, what is left, and whether the reader has failed. -/
def opRead (o : OpR) (l : List Nat) (f : Bool) : List Nat × List Nat × Bool :=
  match o.kind % 4 with
  | 0 => (digs (rdUint o.p l f).1 8, (rdUint o.p l f).2)
  | 1 => (digs (rdInt o.most l f).1 4, (rdInt o.most l f).2)
  | 2 => (digs (rdList o.most o.p l f).1.length 4 ++ (rdList o.most o.p l f).1.flatMap fun x => digs x 8, (rdList o.most o.p l f).2)
  | _ => (digs (rdBytes o.most l f).1.length 4 ++ (rdBytes o.most l f).1, (rdBytes o.most l f).2)
theorem opRead_0 (o : OpR) (l : List Nat) (f : Bool) (h : o.kind % 4 = 0) : opRead o l f = (digs (rdUint o.p l f).1 8, (rdUint o.p l f).2) := by simp [opRead, h]
theorem opRead_1 (o : OpR) (l : List Nat) (f : Bool) (h : o.kind % 4 = 1) : opRead o l f = (digs (rdInt o.most l f).1 4, (rdInt o.most l f).2) := by simp [opRead, h]
theorem opRead_2 (o : OpR) (l : List Nat) (f : Bool) (h : o.kind % 4 = 2) : opRead o l f = (digs (rdList o.most o.p l f).1.length 4 ++ (rdList o.most o.p l f).1.flatMap fun x => digs x 8, (rdList o.most o.p l f).2) := by simp [opRead, h]
theorem opRead_3 (o : OpR) (l : List Nat) (f : Bool) (h : o.kind % 4 = 3) : opRead o l f = (digs (rdBytes o.most l f).1.length 4 ++ (rdBytes o.most l f).1, (rdBytes o.most l f).2) := by simp [opRead, h]
theorem opRead_law (o : OpR) (l : List Nat) (f : Bool) (k : Nat) (hk : o.kind % 4 = k) (hl : ∀ x ∈ l, x < 256) : (opRead o l f).2.2 = false → f = false ∧ (opRead o l f).1 ++ (opRead o l f).2.1 = l := by
  have h4 : k = 0 ∨ k = 1 ∨ k = 2 ∨ k = 3 := by omega
  rcases h4 with rfl | rfl | rfl | rfl
  · rw [opRead_0 o l f hk]; exact rdUint_ok hl
  · rw [opRead_1 o l f hk]; exact rdInt_ok hl
  · rw [opRead_2 o l f hk]
    intro h
    have := rdList_ok hl h
    exact ⟨this.1, by simp only; rw [List.append_assoc]; exact this.2⟩
  · rw [opRead_3 o l f hk]
    intro h
    have := rdBytes_ok hl h
    exact ⟨this.1, by simp only; rw [List.append_assoc]; exact this.2⟩
theorem rdWords_fail {p : Nat} : ∀ (n : Nat) (acc l : List Nat), (rdWords p n acc l).2.2 = true → (rdWords p n acc l).1 = []
  | 0, acc, l, h => by simp [rdWords] at h
  | n + 1, acc, l, h => by
    rw [rdWords] at h ⊢
    split
    · rfl
    · rename_i h1
      rw [if_neg h1] at h
      exact rdWords_fail n _ _ h
theorem opRead_len (o : OpR) (l : List Nat) (f : Bool) (k : Nat) (hk : o.kind % 4 = k) (hl : ∀ x ∈ l, x < 256) : (opRead o l f).1.length ≤ 8 + l.length ∧ ((opRead o l f).2.2 = true → (opRead o l f).1.length ≤ 8) := by
  rcases Bool.eq_false_or_eq_true (opRead o l f).2.2 with ht | hf
  · have : (opRead o l f).1.length ≤ 8 := by
      have h4 : k = 0 ∨ k = 1 ∨ k = 2 ∨ k = 3 := by omega
      rcases h4 with rfl | rfl | rfl | rfl
      · rw [opRead_0 o l f hk]; simp [len_digs]
      · rw [opRead_1 o l f hk]; simp [len_digs]
      · rw [opRead_2 o l f hk] at ht ⊢
        have h1 : (rdList o.most o.p l f).1 = [] := by
          simp only at ht
          unfold rdList at ht ⊢
          split
          · rfl
          · rename_i h1
            rw [if_neg h1] at ht
            exact rdWords_fail _ _ _ ht
        rw [h1]
        simp [len_digs]
      · rw [opRead_3 o l f hk] at ht ⊢
        have h1 : (rdBytes o.most l f).1 = [] := by
          simp only at ht
          unfold rdBytes at ht ⊢
          split
          · rfl
          · rename_i h1
            rw [if_neg h1] at ht
            cases ht
        rw [h1]
        simp [len_digs]
    exact ⟨by omega, fun _ => this⟩
  · have h1 := (opRead_law o l f k hk hl hf).2
    have h2 : (opRead o l f).1.length + (opRead o l f).2.1.length = l.length := by rw [← List.length_append, h1]
    exact ⟨by omega, fun h => by rw [hf] at h; cases h⟩
theorem exact_len {nn j k : Nat} {l l' e : List Nat} {f f' : Bool} (h : nn + (if f then 0 else l.length) ≤ 500 + 8 * j) (h1 : f' = true → e.length ≤ 8) (h2 : f' = false → f = false ∧ e ++ l' = l) (hk : k = nn + e.length) :
    Hid (k + (if f' then 0 else l'.length) ≤ 500 + 8 * (j + 1)) := by
  show _ ≤ _
  cases f' with
  | true =>
    have := h1 rfl
    simp
    omega
  | false =>
    obtain ⟨rfl, rfl⟩ := h2 rfl
    simp at h ⊢
    omega
theorem exact_step {b ol l e l' : List Nat} {f f' : Bool} (h : f = false → ol ++ l = b) (h2 : f' = false → f = false ∧ e ++ l' = l) : f' = false → (ol ++ e) ++ l' = b := fun hf => by
  obtain ⟨h3, h4⟩ := h2 hf
  rw [List.append_assoc, h4]
  exact h h3

set_option maxHeartbeats 400000 in
theorem wireExact_out (A C : Option Addr) (n c m d : Nat) (w : World) (h : 500 < n ∨ 20 < m) (hn : n ≤ 9223372036854775807) (hm : m ≤ 9223372036854775807) :
    Calls Try.prog 8 #[.slice A n c, .slice C m d] w fun e w' => e = .returned (.bool true) ∧ Below w.heap.size w w' := by
  by_cases h0 : 500 < n
  · have hd0 : decide ((500 : Int) < (n : Int)) = true := by simp; omega
    go_enter Try.func8, Try.ntmps8
    go_wp2_with fail
    refine (awake_any _).mono ?_
    rintro e w1 ⟨rfl, hb1⟩
    go_wp2_with fail
    refine (awake_any _).mono ?_
    rintro e w2 ⟨rfl, hb2⟩
    go_wp2
    go_ret
    exact ⟨rfl, below_chain hb1 hb2⟩
  · have hd0 : decide ((500 : Int) < (n : Int)) = false := by simp; omega
    have hd1 : decide ((20 : Int) < (m : Int)) = true := by simp; omega
    go_enter Try.func8, Try.ntmps8
    go_wp2_with fail
    refine (awake_any _).mono ?_
    rintro e w1 ⟨rfl, hb1⟩
    go_wp2_with fail
    refine (awake_any _).mono ?_
    rintro e w2 ⟨rfl, hb2⟩
    go_wp2
    go_ret
    exact ⟨rfl, below_chain hb1 hb2⟩

set_option maxHeartbeats 4000000 in
set_option linter.unusedSimpArgs false in
theorem wireExact_in (A C : Option Addr) (n c m d : Nat) (lb : List Nat) (os : List OpR) (w : World) (hr : Rd w 1 A n (U8 lb)) (hl : ∀ x ∈ lb, x < 256) (ho : RdOps w C os) (hom : os.length = m) (hn : n ≤ 500) (hm : m ≤ 20) :
    Calls Try.prog 8 #[.slice A n c, .slice C m d] w fun e w' => e = .returned (.bool true) ∧ Below w.heap.size w w' := by
  have hd : decide ((500 : Int) < (n : Int)) = false := by simp; omega
  have hd2 : decide ((20 : Int) < (m : Int)) = false := by simp; omega
  have HM := Lib.hid hom
  have hlen := hr.len1
  rw [len_U8] at hlen
  have HN := Lib.hid hlen
  clear hom hlen
  go_enter Try.func8, Try.ntmps8
  go_wp2_with fail
  refine (awake_any _).mono ?_
  rintro e w1 ⟨rfl, hb1⟩
  go_wp2_with fail
  refine (newReader_any A n c lb w1 (hr.below hb1) (by omega) hl).mono ?_
  rintro e w2 ⟨g, bd, rfl, hw2, hg2, _, _, hb2⟩
  have hb02 := below_chain hb1 hb2
  have hgw : w.heap.size ≤ g := by have := hb1.size; omega
  clear hb1 hb2 hg2
  go_wp2_with fail
  go_loopw [6, 28] (fun s i wr => ∃ (j : Nat) (l : List Nat) (f : Bool) (X : Option Addr) (nn cc : Nat) (ol : List Nat), j ≤ m ∧ i = .int .i64 (j : Int) ∧ s = .slice X nn cc ∧ Rd wr 1 X nn (U8 ol) ∧ (∀ ad, X = some ad → some ad.block ≠ some g) ∧ WR wr g bd l f ∧ Below w.heap.size w wr ∧
      Hid (f = false → ol ++ l = lb) ∧ Hid (nn + (if f then 0 else l.length) ≤ 500 + 8 * j))
    (fun _ i _ => m - (intOf i).toNat)
  case atStart => exact ⟨0, lb, false, none, 0, 0, [], Nat.zero_le _, rfl, rfl, Rd.nil _ _ _, fun ad e => (by cases e), hw2, hb02, fun _ => by simp, by show _ ≤ _; simp; rw [HN.out]; omega⟩
  case round =>
    obtain ⟨j, l, f, X, nn, cc, ol, hj, rfl, rfl, hro, hXg, hw, hb, HI, HI2⟩ := hrel
    clear hw2 hb02
    by_cases hlt : j < m
    · obtain ⟨ad, o, b, q, rfl, _ho, hog, hq, k1, k2, k3⟩ := (ho.below hb).at_ (i := j) (by rw [HM.out]; exact hlt)
      clear _ho
      have hb0 := hb.alloc hb.size (.cells #[.int .u8 (o.kind : Int), .int .i64 o.most, .int .u64 (o.p : Int)] 45)
      have hw0 := hw.below ((Below.refl _ _).alloc (Nat.le_refl _) (.cells #[.int .u8 (o.kind : Int), .int .i64 o.most, .int .u64 (o.p : Int)] 45)) (Nat.le_refl _)
      have hro0 := hro.alloc (.cells #[.int .u8 (o.kind : Int), .int .i64 o.most, .int .u64 (o.p : Int)] 45)
      have hx0 := Blk.new wr 45 #[.int .u8 (o.kind : Int), .int .i64 o.most, .int .u64 (o.p : Int)]
      have hne : some wr.heap.size ≠ some g := fun e => by injection e with e; have := hw.lt; omega
      obtain ⟨gb, hgb⟩ : ∃ gb, gb = wr.heap.size := ⟨_, rfl⟩
      rw [← hgb] at hx0 hne
      have HB := Lib.hid hgb
      clear hgb hb hw hro
      have hI2 := HI2.out
      have hnn : nn ≤ 1000 := by have := hI2; split at this <;> omega
      clear hI2
      have h4 : o.kind % 4 = 0 ∨ o.kind % 4 = 1 ∨ o.kind % 4 = 2 ∨ o.kind % 4 = 3 := by omega
      rcases h4 with hk | hk | hk | hk
      · have q0 : (((o.kind : Int) % 4) == 0) = true := by rw [beq_iff_eq]; omega
        have HL1 := Lib.hid (opRead_law o l f 0 hk hw0.bytes)
        have HL2 := Lib.hid (opRead_len o l f 0 hk hw0.bytes)
        have HRd : Hid (opRead o l f = (digs (rdUint o.p l f).1 8, (rdUint o.p l f).2)) := opRead_0 o l f hk
        have hvb : (rdUint o.p l f).1 < 18446744073709551616 := rdUint_lt hw0.bytes
        rw [HRd.out] at HL1 HL2
        obtain ⟨⟨v, l', f'⟩, hT⟩ : ∃ x, x = rdUint o.p l f := ⟨_, rfl⟩
        have HC := Lib.hid (rUint_any g bd o.p l f _ hw0)
        rw [← hT] at HC HL1 HL2 hvb
        have HK := Lib.hid hk
        simp only at hvb
        have hll := hw0.len_le
        clear hT hk HRd
        go_wp2_with fail
        rw [← HB.out]
        refine HC.out.mono ?_
        rintro e w5 ⟨rfl, hw5, hg5⟩
        have hb5 := hb0.grown hg5 hb0.size fun k hk => by injection hk with hk; omega
        have hro5 := hro0.grown hg5 hXg
        go_wp2_with fail
        refine (wUint_any X nn cc v (U8 ol) _ hro5 (one_U8 _) hvb (by omega)).mono ?_
        rintro e w6 ⟨v6, rfl, hv6, hb6⟩
        obtain ⟨A6, c6, rfl, _, _, hr6, hA6⟩ := own_form hv6
        have hb06 := below_chain hb5 hb6
        have hw6 := hw5.below hb6 (Nat.le_refl _)
        have hr7 : Rd w6 1 A6 (nn + 8) (U8 (ol ++ (digs v 8))) := by
          simp only [U8_append]
          exact hr6
        have hX6 : ∀ ad, A6 = some ad → some ad.block ≠ some g := fun ad e h => by injection h with h; have := (hA6 ad e).1; have := hw5.lt; omega
        have HX := Lib.hid hX6
        have H7 := Lib.hid hr7
        clear hv6 hb5 hb6 hw5 hro5 hr6 hA6 hr7 hX6 hb0 hw0 hx0 hro0 hXg
        go_wp2
        go_roundw
        case rel => exact ⟨j + 1, l', f', A6, nn + 8, c6, ol ++ (digs v 8), by omega, by go_num, rfl, H7.out, HX.out, hw6, hb06, exact_step HI.out HL1.out, exact_len HI2.out HL2.out.2 HL1.out (by simp only [List.length_append, len_digs, flat8_len] <;> omega)⟩
        case measure => simp [intOf]; omega
      · have q0 : (((o.kind : Int) % 4) == 0) = false := by rw [beq_eq_false_iff_ne]; omega
        have q1 : (((o.kind : Int) % 4) == 1) = true := by rw [beq_iff_eq]; omega
        have HL1 := Lib.hid (opRead_law o l f 1 hk hw0.bytes)
        have HL2 := Lib.hid (opRead_len o l f 1 hk hw0.bytes)
        have HRd : Hid (opRead o l f = (digs (rdInt o.most l f).1 4, (rdInt o.most l f).2)) := opRead_1 o l f hk
        have hvb : (rdInt o.most l f).1 < 4294967296 := rdInt_lt hw0.bytes
        rw [HRd.out] at HL1 HL2
        obtain ⟨⟨v, l', f'⟩, hT⟩ : ∃ x, x = rdInt o.most l f := ⟨_, rfl⟩
        have HC := Lib.hid (rdInt_any g bd o.most l f _ hw0)
        rw [← hT] at HC HL1 HL2 hvb
        have HK := Lib.hid hk
        simp only at hvb
        have hll := hw0.len_le
        clear hT hk HRd
        go_wp2_with fail
        rw [← HB.out]
        refine HC.out.mono ?_
        rintro e w5 ⟨rfl, hw5, hg5⟩
        have hb5 := hb0.grown hg5 hb0.size fun k hk => by injection hk with hk; omega
        have hro5 := hro0.grown hg5 hXg
        go_wp2_with fail
        refine (wInt_any X nn cc v (U8 ol) _ hro5 (one_U8 _) (by omega) (by omega) (by omega)).mono ?_
        rintro e w6 ⟨v6, rfl, hv6, hb6⟩
        obtain ⟨A6, c6, rfl, _, _, hr6, hA6⟩ := own_form hv6
        have hb06 := below_chain hb5 hb6
        have hw6 := hw5.below hb6 (Nat.le_refl _)
        have hr7 : Rd w6 1 A6 (nn + 4) (U8 (ol ++ (digs v 4))) := by
          have e := lenOf_nat (n := v) (by omega)
          rw [e] at hr6
          simp only [U8_append]
          exact hr6
        have hX6 : ∀ ad, A6 = some ad → some ad.block ≠ some g := fun ad e h => by injection h with h; have := (hA6 ad e).1; have := hw5.lt; omega
        have HX := Lib.hid hX6
        have H7 := Lib.hid hr7
        clear hv6 hb5 hb6 hw5 hro5 hr6 hA6 hr7 hX6 hb0 hw0 hx0 hro0 hXg
        go_wp2
        go_roundw
        case rel => exact ⟨j + 1, l', f', A6, nn + 4, c6, ol ++ (digs v 4), by omega, by go_num, rfl, H7.out, HX.out, hw6, hb06, exact_step HI.out HL1.out, exact_len HI2.out HL2.out.2 HL1.out (by simp only [List.length_append, len_digs, flat8_len] <;> omega)⟩
        case measure => simp [intOf]; omega
      · have q0 : (((o.kind : Int) % 4) == 0) = false := by rw [beq_eq_false_iff_ne]; omega
        have q1 : (((o.kind : Int) % 4) == 1) = false := by rw [beq_eq_false_iff_ne]; omega
        have q2 : (((o.kind : Int) % 4) == 2) = true := by rw [beq_iff_eq]; omega
        have HL1 := Lib.hid (opRead_law o l f 2 hk hw0.bytes)
        have HL2 := Lib.hid (opRead_len o l f 2 hk hw0.bytes)
        have HRd : Hid (opRead o l f = (digs (rdList o.most o.p l f).1.length 4 ++ (rdList o.most o.p l f).1.flatMap fun x => digs x 8, (rdList o.most o.p l f).2)) := opRead_2 o l f hk
        have hvb : ∀ x ∈ (rdList o.most o.p l f).1, x < 18446744073709551616 := rdList_bd hw0.bytes
        rw [HRd.out] at HL1 HL2
        obtain ⟨⟨v, l', f'⟩, hT⟩ : ∃ x, x = rdList o.most o.p l f := ⟨_, rfl⟩
        have HC := Lib.hid (rdList_any g bd o.p o.most l f _ hw0)
        rw [← hT] at HC HL1 HL2 hvb
        have HK := Lib.hid hk
        simp only at hvb
        have hll := hw0.len_le
        clear hT hk HRd
        go_wp2_with fail
        rw [← HB.out]
        refine HC.out.mono ?_
        rintro e w5 ⟨v5, rfl, hv5, hw5, hg5⟩
        obtain ⟨A5, c5, rfl, _, _, hr5, hA5⟩ := own_form hv5
        have hb5 := hb0.grown hg5 hb0.size fun k hk => by injection hk with hk; omega
        have hro5 := hro0.grown hg5 hXg
        go_wp2_with fail
        have HL3 := HL2.out
        simp only [List.length_append, len_digs] at HL3
        rw [flat8_len] at HL3
        refine (wList_any X A5 nn cc _ c5 (U8 ol) v _ hro5 (one_U8 _) hr5 hvb (by show nn + 4 + 8 * v.length ≤ 100000000; omega)).mono ?_
        rintro e w6 ⟨v6, rfl, hv6, hb6⟩
        obtain ⟨A6, c6, rfl, _, _, hr6, hA6⟩ := own_form hv6
        have hb06 := below_chain hb5 hb6
        have hw6 := hw5.below hb6 (Nat.le_refl _)
        have hr7 : Rd w6 1 A6 (nn + 4 + 8 * v.length) (U8 (ol ++ (digs v.length 4 ++ v.flatMap fun x => digs x 8))) := by
          simp only [U8_append]
          exact hr6
        have hX6 : ∀ ad, A6 = some ad → some ad.block ≠ some g := fun ad e h => by injection h with h; have := (hA6 ad e).1; have := hw5.lt; omega
        have HX := Lib.hid hX6
        have H7 := Lib.hid hr7
        clear hv6 hb5 hb6 hw5 hro5 hr6 hA6 hr7 hX6 hb0 hw0 hx0 hro0 hXg hv5 hr5 hA5
        go_wp2
        go_roundw
        case rel => exact ⟨j + 1, l', f', A6, nn + 4 + 8 * v.length, c6, ol ++ (digs v.length 4 ++ v.flatMap fun x => digs x 8), by omega, by go_num, rfl, H7.out, HX.out, hw6, hb06, exact_step HI.out HL1.out, exact_len HI2.out HL2.out.2 HL1.out (by simp only [List.length_append, len_digs, flat8_len] <;> omega)⟩
        case measure => simp [intOf]; omega
      · have q0 : (((o.kind : Int) % 4) == 0) = false := by rw [beq_eq_false_iff_ne]; omega
        have q1 : (((o.kind : Int) % 4) == 1) = false := by rw [beq_eq_false_iff_ne]; omega
        have q2 : (((o.kind : Int) % 4) == 2) = false := by rw [beq_eq_false_iff_ne]; omega
        have HL1 := Lib.hid (opRead_law o l f 3 hk hw0.bytes)
        have HL2 := Lib.hid (opRead_len o l f 3 hk hw0.bytes)
        have HRd : Hid (opRead o l f = (digs (rdBytes o.most l f).1.length 4 ++ (rdBytes o.most l f).1, (rdBytes o.most l f).2)) := opRead_3 o l f hk
        rw [HRd.out] at HL1 HL2
        obtain ⟨⟨v, l', f'⟩, hT⟩ : ∃ x, x = rdBytes o.most l f := ⟨_, rfl⟩
        have HC := Lib.hid (rdBytes_any g bd o.most l f _ hw0)
        rw [← hT] at HC HL1 HL2
        have HK := Lib.hid hk
        have hll := hw0.len_le
        clear hT hk HRd
        go_wp2_with fail
        rw [← HB.out]
        refine HC.out.mono ?_
        rintro e w5 ⟨v5, rfl, hv5, hw5, hg5⟩
        obtain ⟨A5, c5, rfl, _, _, hr5, hA5⟩ := own_form hv5
        have hb5 := hb0.grown hg5 hb0.size fun k hk => by injection hk with hk; omega
        have hro5 := hro0.grown hg5 hXg
        go_wp2_with fail
        have HL3 := HL2.out
        simp only [List.length_append, len_digs] at HL3
        refine (wBytes_any X A5 nn cc _ c5 (U8 ol) (U8 v) _ hro5 (one_U8 _) hr5 (one_U8 _) (by show nn + 4 + v.length ≤ 100000000; omega)).mono ?_
        rintro e w6 ⟨v6, rfl, hv6, hb6⟩
        obtain ⟨A6, c6, rfl, _, _, hr6, hA6⟩ := own_form hv6
        have hb06 := below_chain hb5 hb6
        have hw6 := hw5.below hb6 (Nat.le_refl _)
        have hr7 : Rd w6 1 A6 (nn + 4 + v.length) (U8 (ol ++ (digs v.length 4 ++ v))) := by
          simp only [U8_append]
          exact hr6
        have hX6 : ∀ ad, A6 = some ad → some ad.block ≠ some g := fun ad e h => by injection h with h; have := (hA6 ad e).1; have := hw5.lt; omega
        have HX := Lib.hid hX6
        have H7 := Lib.hid hr7
        clear hv6 hb5 hb6 hw5 hro5 hr6 hA6 hr7 hX6 hb0 hw0 hx0 hro0 hXg hv5 hr5 hA5
        go_wp2
        go_roundw
        case rel => exact ⟨j + 1, l', f', A6, nn + 4 + v.length, c6, ol ++ (digs v.length 4 ++ v), by omega, by go_num, rfl, H7.out, HX.out, hw6, hb06, exact_step HI.out HL1.out, exact_len HI2.out HL2.out.2 HL1.out (by simp only [List.length_append, len_digs, flat8_len] <;> omega)⟩
        case measure => simp [intOf]; omega
    · have HD := Lib.hid (done_any g bd l f wr hw)
      rcases Bool.eq_false_or_eq_true (!f && l.isEmpty) with hB | hB
      · rw [hB] at HD
        simp at hB
        obtain ⟨rfl, rfl⟩ := hB
        have e := HI.out rfl
        rw [List.append_nil] at e
        subst e
        have HS : Hid (((S ol).toList == (S ol).toList) = true) := S_eq rfl
        have hlw := hw.lt
        clear hw
        go_wp2_with fail
        refine HD.out.mono ?_
        rintro e w5 ⟨rfl, kk, rfl⟩
        have q1 := run_str_rd (c := cc) Try.underlying22 Try.underlying5 Try.underlying9 (hro.drewN kk)
        have q2 := run_str_rd (c := c) Try.underlying22 Try.underlying5 Try.underlying9 ((hr.below hb).drewN kk)
        go_wp2
        go_ret
        exact ⟨by simp, below_drewN' hb kk⟩
      · rw [hB] at HD
        have HB := Lib.hid hB
        clear hB
        go_wp2_with fail
        refine HD.out.mono ?_
        rintro e w5 ⟨rfl, kk, rfl⟩
        go_wp2
        go_ret
        exact ⟨rfl, below_drewN' hb kk⟩

theorem wireExact_walk (W : World) (A : Option Addr) (n c : Nat) (f : Fits Try.prog W 22 (Value.slice A n c).cells.toList) (C : Option Addr) (m d : Nat) (f1 : Fits Try.prog W 40 (Value.slice C m d).cells.toList) :
    Calls Try.prog 8 #[.slice A n c, .slice C m d] W fun e W' => e = .returned (.bool true) ∧ Below W.heap.size W W' := by
  obtain ⟨l, h1, h2, h3, h4⟩ := arg_bytes f
  obtain ⟨os, h5, h6, h7⟩ := arg_ops f1
  by_cases h : 500 < n ∨ 20 < m
  · exact wireExact_out A C n c m d W h (by omega) (by omega)
  · exact wireExact_in A C n c m d l os W h3 h4 h7 h5 (by omega) (by omega)
end Go.Proofs.Ytohddeebmofoeaa
