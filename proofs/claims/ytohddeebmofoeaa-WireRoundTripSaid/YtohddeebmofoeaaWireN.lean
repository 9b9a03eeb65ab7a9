/-
  Walks: Same of the reference; the law's do.
-/
import Derived.Test.YtohddeebmofoeaaWireM
namespace Go.Proofs.Ytohddeebmofoeaa
open Go.RowKit

theorem rdWords_len (p : Nat) : ∀ (n : Nat) (acc l : List Nat), (rdWords p n acc l).1.length ≤ acc.length + n
  | 0, acc, l => by simp [rdWords]
  | n + 1, acc, l => by
    rw [rdWords]
    split
    · simp
    · have := rdWords_len p n (acc ++ [valOf (l.take 8)]) (l.drop 8)
      simp at this
      omega
theorem rdList_len {most : Int} {p : Nat} {l : List Nat} {f : Bool} (hl : ∀ x ∈ l, x < 256) : (rdList most p l f).1.length ≤ 4294967296 := by
  have := rdInt_lt (most := most) (f := f) hl
  unfold rdList
  split
  · simp
  · have := rdWords_len p (rdInt most l f).1 [] (rdInt most l f).2.1
    simp at this
    omega
theorem RR.drew' {w : World} {g bd : Nat} {l : List Nat} {f : Bool} (h : RR w g bd l f) : RR w.drew g bd l f := h

set_option maxHeartbeats 400000 in
theorem same_any (A C : Option Addr) (n c m d : Nat) (l ll : List Nat) (w : World) (hr : Rd w 1 A n (U64 l)) (hs : Rd w 1 C m (U64 ll)) (hn : n ≤ 10000000000) :
    Calls Try.prog 29 #[.slice A n c, .slice C m d] w fun e w' => e = .returned (.bool (decide (l = ll))) ∧ ∃ k, w' = w.drewN k := by
  have e1 := hr.len1
  have e2 := hs.len1
  rw [len_U64] at e1 e2
  by_cases hnm : n = m
  · subst hnm
    have hq : ((n : Int) != (n : Int)) = false := by simp
    have H1 := Lib.hid e1
    have H2 := Lib.hid e2
    clear e1 e2
    go_enter Try.func29, Try.ntmps29
    go_wp2_with fail
    go_loopw [5] (fun i wr => ∃ j kk : Nat, j ≤ n ∧ i = .int .i64 (j : Int) ∧ Hid (l.take j = ll.take j) ∧ wr = w.drewN kk)
      (fun i _ => n - (intOf i).toNat)
    case atStart => exact ⟨0, 0, Nat.zero_le _, rfl, rfl, rfl⟩
    case round =>
      obtain ⟨j, kk, hj, rfl, HT, rfl⟩ := hrel
      by_cases hlt : j < n
      · obtain ⟨ad, u, rfl, hu, hc⟩ := hr.at_ hlt
        obtain ⟨ad2, u2, rfl, hu2, hc2⟩ := hs.at_ hlt
        have hjl : j < l.length := by rw [H1.out]; exact hlt
        have hjm : j < ll.length := by rw [H2.out]; exact hlt
        obtain ⟨y, hy⟩ : ∃ y, y = l[j] := ⟨_, rfl⟩
        obtain ⟨z, hz⟩ : ∃ z, z = ll[j] := ⟨_, rfl⟩
        rw [at_U64 hjl, ← hy] at hu
        rw [at_U64 hjm, ← hz] at hu2
        injection hu with hu
        injection hu2 with hu2
        subst hu hu2
        have HY := Lib.hid hy
        have HZ := Lib.hid hz
        clear hy hz hr hs
        by_cases hyz : y = z
        · have hb : ((y : Int) != (z : Int)) = false := by rw [bne_eq_false_iff_eq]; omega
          have HQ : Hid (l.take (j + 1) = ll.take (j + 1)) := by
            show _ = _
            rw [List.take_succ_eq_append_getElem hjl, List.take_succ_eq_append_getElem hjm, HT.out, ← HY.out, ← HZ.out, hyz]
          clear hyz
          go_wp2_with fail
          go_quiet (fail)
          go_wp2
          go_roundw
          case rel => exact ⟨j + 1, _, by omega, by go_num, HQ, rfl⟩
          case measure => simp [intOf]; omega
        · have hb : ((y : Int) != (z : Int)) = true := by rw [bne_iff_ne]; omega
          have HE : Hid (decide (l = ll) = false) := by
            show _ = _
            simp
            intro h
            subst h
            exact hyz (HY.out.trans HZ.out.symm)
          have HH := Lib.hid hyz
          clear hyz
          go_wp2_with fail
          go_quiet (fail)
          go_wp2
          go_ret
          rw [HE.out]
          exact ⟨rfl, _, World.drewN_drewN ..⟩
      · have e : j = n := by omega
        subst e
        have HE : Hid (decide (l = ll) = true) := by
          show _ = _
          have := HT.out
          rw [List.take_of_length_le (by rw [H1.out]; exact Nat.le_refl _), List.take_of_length_le (by rw [H2.out]; exact Nat.le_refl _)] at this
          simp [this]
        go_wp2
        go_ret
        rw [HE.out]
        exact ⟨rfl, _, rfl⟩
  · have hq : ((n : Int) != (m : Int)) = true := by rw [bne_iff_ne]; omega
    have HE : Hid (decide (l = ll) = false) := by
      show _ = _
      simp
      intro h
      subst h
      omega
    rw [HE.out]
    clear hr hs e1 e2
    have HN := Lib.hid hnm
    clear hnm
    go_enter Try.func29, Try.ntmps29
    go_wp2
    go_ret
    exact ⟨rfl, 0, rfl⟩

/-- Of what was there only the blocks g1 and g2 have changed. -/
structure Only2 (g1 g2 : Nat) (w w' : World) : Prop where
  os : w'.os = w.os
  tape : w'.tape = w.tape
  output : w'.output = w.output
  size : w.heap.size ≤ w'.heap.size
  block : ∀ k, k < w.heap.size → k ≠ g1 → k ≠ g2 → w'.heap[k]? = w.heap[k]?
theorem only2_moves (g1 g2 : Nat) : Moves (Only2 g1 g2) :=
  ⟨fun _ => ⟨rfl, rfl, rfl, Nat.le_refl _, fun _ _ _ _ => rfl⟩, fun _ _ _ h k => ⟨k.os.trans h.os, k.tape.trans h.tape, k.output.trans h.output, Nat.le_trans h.size k.size, fun i hi h1 h2 => (k.block i (Nat.lt_of_lt_of_le hi h.size) h1 h2).trans (h.block i hi h1 h2)⟩⟩
theorem only2_l {g1 g2 : Nat} {w w' : World} (h : w.grownBy w' (some g1)) : Only2 g1 g2 w w' :=
  ⟨h.os, h.tape, h.output, h.size, fun k hk h1 _ => h.block k hk fun e => by injection e with e; exact h1 e⟩
theorem only2_r {g1 g2 : Nat} {w w' : World} (h : w.grownBy w' (some g2)) : Only2 g1 g2 w w' :=
  ⟨h.os, h.tape, h.output, h.size, fun k hk _ h1 => h.block k hk fun e => by injection e with e; exact h1 e⟩
theorem Blk.only2 {w w' : World} {g g1 g2 : Nat} {t : TypeId} {cs : Array Value} (h : Blk w g t cs) (hb : Only2 g1 g2 w w') (h1 : g ≠ g1) (h2 : g ≠ g2) : Blk w' g t cs := (hb.block g h.lt h1 h2).trans h
theorem Rd.only2 {w w' : World} {g1 g2 size n : Nat} {A : Option Addr} {xs : List Value} (h : Rd w size A n xs) (hg : Only2 g1 g2 w w') (hr : ∀ ad, A = some ad → 0 < n → ad.block ≠ g1 ∧ ad.block ≠ g2) : Rd w' size A n xs :=
  ⟨h.1, fun hn => by
    obtain ⟨ad, e, hc⟩ := h.2 hn
    refine ⟨ad, e, fun j u hu => ?_⟩
    have hlt := World.block_lt_of_cell? _ _ (hc j u hu)
    rw [blk_add] at hlt
    have hh := hg.block ad.block hlt (hr ad e hn).1 (hr ad e hn).2
    rw [World.cell?_of_block (w := w) (by rw [blk_add]; exact hh)]
    exact hc j u hu⟩
theorem below_only2 {B g1 g2 : Nat} {a w w' : World} (h : Below B a w) (hg : Only2 g1 g2 w w') (hB : B ≤ w.heap.size) (h1 : B ≤ g1) (h2 : B ≤ g2) : Below B a w' :=
  h.trans ⟨hg.os, hg.tape, hg.output, hg.size, fun k hk => hg.block k (by omega) (by omega) (by omega)⟩


set_option maxHeartbeats 1000000 in
set_option linter.unusedSimpArgs false in
theorem do_0 (g1 g2 bd2 : Nat) (bd : Nat × Nat) (o : OpR) (l : List Nat) (f : Bool) (w : World) (hw : WR w g1 bd l f) (hm : RR w g2 bd2 l f) (h12 : g1 < g2) (hbd : bd.2 ≤ g1) (hbd2 : bd2 ≤ g1) (hk : o.kind % 4 = 0) :
    Calls Try.prog 24 #[.pointer (some ⟨g1, 0, none⟩), .pointer (some ⟨g2, 0, none⟩), .agg #[.int .u8 (o.kind : Int), .int .i64 o.most, .int .u64 (o.p : Int)]] w fun e w' =>
      e = .returned (.bool true) ∧ WR w' g1 bd (rdUint o.p l f).2.1 (rdUint o.p l f).2.2 ∧ RR w' g2 bd2 (rdUint o.p l f).2.1 (rdUint o.p l f).2.2 ∧ Only2 g1 g2 w w' := by
  have hw0 := WR.drew (hw.below ((Below.refl _ _).alloc (Nat.le_refl _) (.cells #[.int .u8 (o.kind : Int), .int .i64 o.most, .int .u64 (o.p : Int)] 45)) (Nat.le_refl _))
  have hm0 := RR.drew' (hm.below ((Below.refl _ _).alloc (Nat.le_refl _) (.cells #[.int .u8 (o.kind : Int), .int .i64 o.most, .int .u64 (o.p : Int)] 45)) (Nat.le_refl _))
  have hx0 := Blk.drew (Blk.new w 45 #[.int .u8 (o.kind : Int), .int .i64 o.most, .int .u64 (o.p : Int)])
  have hy0 : Only2 g1 g2 w (w.alloc (.cells #[.int .u8 (o.kind : Int), .int .i64 o.most, .int .u64 (o.p : Int)] 45)).drew := only2_l (grown_drew' (grown_alloc' (grown_refl' _ _) _))
  have hg1x : w.heap.size ≠ g1 := by have := hw.lt; omega
  have hg2x : w.heap.size ≠ g2 := by have := hm.lt; omega
  have H12 := hm.lt
  have H13 := hm0.lt
  have q0 : (((o.kind : Int) % 4) == 0) = true := by rw [beq_iff_eq]; omega
  have HK := Lib.hid hk
  clear hk hw hm
  go_enter Try.func24, Try.ntmps24
  go_wp2_with fail
  · clear q0
    refine wpR_begin (Only2 g1 g2) (by kernel_rfl) ?_
    refine wpR_take 0 (v := ?_) (only2_moves g1 g2) (by decide) (by kernel_rfl) (by kernel_rfl) (by kernel_rfl) (fun _ _ _ h => h) (wantedT (by rfl) ?_) ?_ ; rotate_left ; · ( intro w' hR ; simp only [List.getElem_cons_succ, List.getElem_cons_zero] ; go_simp ; try with_reducible rfl )
    simp only [Act.put, List.getElem_cons_succ, List.getElem_cons_zero, List.setIfInBounds_toArray, List.set_cons_zero, List.set_cons_succ]
    refine wpR_take 1 (v := ?_) (only2_moves g1 g2) (by decide) (by kernel_rfl) (by kernel_rfl) (by kernel_rfl) (fun _ _ _ h => h) (wantedT (by rfl) ?_) ?_ ; rotate_left ; · ( intro w' hR ; simp only [List.getElem_cons_succ, List.getElem_cons_zero] ; go_simp ; try with_reducible rfl )
    simp only [Act.put, List.getElem_cons_succ, List.getElem_cons_zero, List.setIfInBounds_toArray, List.set_cons_zero, List.set_cons_succ]
    refine wpR_take 2 (v := .int .u64 (o.p : Int)) (only2_moves g1 g2) (by decide) (by kernel_rfl) (by kernel_rfl) (by kernel_rfl) (fun _ _ _ h => h) (wantedT (by rfl) ?_) ?_ ; · ( intro w' hR ; simp only [List.getElem_cons_succ, List.getElem_cons_zero] ; have q := (hx0.only2 hR hg1x hg2x).cell 2 ; simp at q ; go_simp )
    simp only [Act.put, List.getElem_cons_succ, List.getElem_cons_zero, List.setIfInBounds_toArray, List.set_cons_zero, List.set_cons_succ]
    refine wpR_take 4 (v := ?_) (only2_moves g1 g2) (by decide) (by kernel_rfl) (by kernel_rfl) (by kernel_rfl) (fun _ _ _ h => h) (wantedT (by rfl) ?_) ?_ ; rotate_left ; · ( intro w' hR ; simp only [List.getElem_cons_succ, List.getElem_cons_zero] ; go_simp ; try with_reducible rfl )
    simp only [Act.put, List.getElem_cons_succ, List.getElem_cons_zero, List.setIfInBounds_toArray, List.set_cons_zero, List.set_cons_succ]
    refine wpR_take 5 (v := ?_) (only2_moves g1 g2) (by decide) (by kernel_rfl) (by kernel_rfl) (by kernel_rfl) (fun _ _ _ h => h) (wantedT (by rfl) ?_) ?_ ; rotate_left ; · ( intro w' hR ; simp only [List.getElem_cons_succ, List.getElem_cons_zero] ; go_simp ; try with_reducible rfl )
    simp only [Act.put, List.getElem_cons_succ, List.getElem_cons_zero, List.setIfInBounds_toArray, List.set_cons_zero, List.set_cons_succ]
    refine wpR_take 6 (v := .int .u64 (o.p : Int)) (only2_moves g1 g2) (by decide) (by kernel_rfl) (by kernel_rfl) (by kernel_rfl) (fun _ _ _ h => h) (wantedT (by rfl) ?_) ?_ ; · ( intro w' hR ; simp only [List.getElem_cons_succ, List.getElem_cons_zero] ; have q := (hx0.only2 hR hg1x hg2x).cell 2 ; simp at q ; go_simp )
    simp only [Act.put, List.getElem_cons_succ, List.getElem_cons_zero, List.setIfInBounds_toArray, List.set_cons_zero, List.set_cons_succ]
    refine wpR_call 3 (only2_moves g1 g2) (by decide) (by kernel_rfl) (by rfl) ((rUint_any g1 bd o.p l f _ hw0).mono ?_) (fun _ => by simp only [List.getElem_cons_succ, List.getElem_cons_zero] ; go_simp)
    rintro e w2 ⟨rfl, hw2, hq2⟩
    have hm2 := hm0.grown hq2 fun k hk => by injection hk with hk; subst hk; exact ⟨by omega, by omega⟩
    refine ⟨_, rfl, only2_l hq2, ?_⟩
    simp only [Act.put, List.getElem_cons_succ, List.getElem_cons_zero, List.setIfInBounds_toArray, List.set_cons_zero, List.set_cons_succ]
    refine wpR_call 7 (only2_moves g1 g2) (by decide) (by kernel_rfl) (by rfl) ((refUint_any g2 bd2 o.p l f _ hm2).mono ?_) (fun _ => by simp only [List.getElem_cons_succ, List.getElem_cons_zero] ; go_simp)
    rintro e w3 ⟨rfl, hm3, hq3⟩
    have hw3 := hw2.grown hq3 fun k hk => by injection hk with hk; subst hk; exact ⟨by omega, .inl (by omega)⟩
    refine ⟨_, rfl, only2_r hq3, ?_⟩
    simp only [Act.put, List.getElem_cons_succ, List.getElem_cons_zero, List.setIfInBounds_toArray, List.set_cons_zero, List.set_cons_succ]
    refine wpR_take 8 (v := ?_) (only2_moves g1 g2) (by decide) (by kernel_rfl) (by kernel_rfl) (by kernel_rfl) (fun _ _ _ h => h) (wantedT (by rfl) ?_) ?_ ; rotate_left ; · ( intro w' hR ; simp only [List.getElem_cons_succ, List.getElem_cons_zero] ; go_simp ; try with_reducible rfl )
    simp only [Act.put, List.getElem_cons_succ, List.getElem_cons_zero, List.setIfInBounds_toArray, List.set_cons_zero, List.set_cons_succ]
    refine wpR_take 9 (v := ?_) (only2_moves g1 g2) (by decide) (by kernel_rfl) (by kernel_rfl) (by kernel_rfl) (fun _ _ _ h => h) (wantedT (by rfl) ?_) ?_ ; rotate_left ; · ( intro w' hR ; simp only [List.getElem_cons_succ, List.getElem_cons_zero] ; go_simp ; try with_reducible rfl )
    simp only [Act.put, List.getElem_cons_succ, List.getElem_cons_zero, List.setIfInBounds_toArray, List.set_cons_zero, List.set_cons_succ]
    refine wpR_done (by kernel_rfl) ?_
    go_wp2
    go_ret
    exact ⟨by simp, hw3, hm3, (only2_moves g1 g2).trans _ _ _ hy0 ((only2_moves g1 g2).trans _ _ _ (only2_l hq2) (only2_r hq3))⟩

set_option maxHeartbeats 1000000 in
set_option linter.unusedSimpArgs false in
theorem do_1 (g1 g2 bd2 : Nat) (bd : Nat × Nat) (o : OpR) (l : List Nat) (f : Bool) (w : World) (hw : WR w g1 bd l f) (hm : RR w g2 bd2 l f) (h12 : g1 < g2) (hbd : bd.2 ≤ g1) (hbd2 : bd2 ≤ g1) (hk : o.kind % 4 = 1) :
    Calls Try.prog 24 #[.pointer (some ⟨g1, 0, none⟩), .pointer (some ⟨g2, 0, none⟩), .agg #[.int .u8 (o.kind : Int), .int .i64 o.most, .int .u64 (o.p : Int)]] w fun e w' =>
      e = .returned (.bool true) ∧ WR w' g1 bd (rdInt o.most l f).2.1 (rdInt o.most l f).2.2 ∧ RR w' g2 bd2 (rdInt o.most l f).2.1 (rdInt o.most l f).2.2 ∧ Only2 g1 g2 w w' := by
  have hw0 := WR.drew (hw.below ((Below.refl _ _).alloc (Nat.le_refl _) (.cells #[.int .u8 (o.kind : Int), .int .i64 o.most, .int .u64 (o.p : Int)] 45)) (Nat.le_refl _))
  have hm0 := RR.drew' (hm.below ((Below.refl _ _).alloc (Nat.le_refl _) (.cells #[.int .u8 (o.kind : Int), .int .i64 o.most, .int .u64 (o.p : Int)] 45)) (Nat.le_refl _))
  have hx0 := Blk.drew (Blk.new w 45 #[.int .u8 (o.kind : Int), .int .i64 o.most, .int .u64 (o.p : Int)])
  have hy0 : Only2 g1 g2 w (w.alloc (.cells #[.int .u8 (o.kind : Int), .int .i64 o.most, .int .u64 (o.p : Int)] 45)).drew := only2_l (grown_drew' (grown_alloc' (grown_refl' _ _) _))
  have hg1x : w.heap.size ≠ g1 := by have := hw.lt; omega
  have hg2x : w.heap.size ≠ g2 := by have := hm.lt; omega
  have H12 := hm.lt
  have H13 := hm0.lt
  have q0 : (((o.kind : Int) % 4) == 0) = false := by rw [beq_eq_false_iff_ne]; omega
  have q1 : (((o.kind : Int) % 4) == 1) = true := by rw [beq_iff_eq]; omega
  have HK := Lib.hid hk
  clear hk hw hm
  go_enter Try.func24, Try.ntmps24
  go_wp2_with fail
  · clear q0 q1
    refine wpR_begin (Only2 g1 g2) (by kernel_rfl) ?_
    refine wpR_take 0 (v := ?_) (only2_moves g1 g2) (by decide) (by kernel_rfl) (by kernel_rfl) (by kernel_rfl) (fun _ _ _ h => h) (wantedT (by rfl) ?_) ?_ ; rotate_left ; · ( intro w' hR ; simp only [List.getElem_cons_succ, List.getElem_cons_zero] ; go_simp ; try with_reducible rfl )
    simp only [Act.put, List.getElem_cons_succ, List.getElem_cons_zero, List.setIfInBounds_toArray, List.set_cons_zero, List.set_cons_succ]
    refine wpR_take 1 (v := ?_) (only2_moves g1 g2) (by decide) (by kernel_rfl) (by kernel_rfl) (by kernel_rfl) (fun _ _ _ h => h) (wantedT (by rfl) ?_) ?_ ; rotate_left ; · ( intro w' hR ; simp only [List.getElem_cons_succ, List.getElem_cons_zero] ; go_simp ; try with_reducible rfl )
    simp only [Act.put, List.getElem_cons_succ, List.getElem_cons_zero, List.setIfInBounds_toArray, List.set_cons_zero, List.set_cons_succ]
    refine wpR_take 2 (v := .int .i64 o.most) (only2_moves g1 g2) (by decide) (by kernel_rfl) (by kernel_rfl) (by kernel_rfl) (fun _ _ _ h => h) (wantedT (by rfl) ?_) ?_ ; · ( intro w' hR ; simp only [List.getElem_cons_succ, List.getElem_cons_zero] ; have q := (hx0.only2 hR hg1x hg2x).cell 1 ; simp at q ; go_simp )
    simp only [Act.put, List.getElem_cons_succ, List.getElem_cons_zero, List.setIfInBounds_toArray, List.set_cons_zero, List.set_cons_succ]
    refine wpR_take 4 (v := ?_) (only2_moves g1 g2) (by decide) (by kernel_rfl) (by kernel_rfl) (by kernel_rfl) (fun _ _ _ h => h) (wantedT (by rfl) ?_) ?_ ; rotate_left ; · ( intro w' hR ; simp only [List.getElem_cons_succ, List.getElem_cons_zero] ; go_simp ; try with_reducible rfl )
    simp only [Act.put, List.getElem_cons_succ, List.getElem_cons_zero, List.setIfInBounds_toArray, List.set_cons_zero, List.set_cons_succ]
    refine wpR_take 5 (v := ?_) (only2_moves g1 g2) (by decide) (by kernel_rfl) (by kernel_rfl) (by kernel_rfl) (fun _ _ _ h => h) (wantedT (by rfl) ?_) ?_ ; rotate_left ; · ( intro w' hR ; simp only [List.getElem_cons_succ, List.getElem_cons_zero] ; go_simp ; try with_reducible rfl )
    simp only [Act.put, List.getElem_cons_succ, List.getElem_cons_zero, List.setIfInBounds_toArray, List.set_cons_zero, List.set_cons_succ]
    refine wpR_take 6 (v := .int .i64 o.most) (only2_moves g1 g2) (by decide) (by kernel_rfl) (by kernel_rfl) (by kernel_rfl) (fun _ _ _ h => h) (wantedT (by rfl) ?_) ?_ ; · ( intro w' hR ; simp only [List.getElem_cons_succ, List.getElem_cons_zero] ; have q := (hx0.only2 hR hg1x hg2x).cell 1 ; simp at q ; go_simp )
    simp only [Act.put, List.getElem_cons_succ, List.getElem_cons_zero, List.setIfInBounds_toArray, List.set_cons_zero, List.set_cons_succ]
    refine wpR_call 3 (only2_moves g1 g2) (by decide) (by kernel_rfl) (by rfl) ((rdInt_any g1 bd o.most l f _ hw0).mono ?_) (fun _ => by simp only [List.getElem_cons_succ, List.getElem_cons_zero] ; go_simp)
    rintro e w2 ⟨rfl, hw2, hq2⟩
    have hm2 := hm0.grown hq2 fun k hk => by injection hk with hk; subst hk; exact ⟨by omega, by omega⟩
    refine ⟨_, rfl, only2_l hq2, ?_⟩
    simp only [Act.put, List.getElem_cons_succ, List.getElem_cons_zero, List.setIfInBounds_toArray, List.set_cons_zero, List.set_cons_succ]
    refine wpR_call 7 (only2_moves g1 g2) (by decide) (by kernel_rfl) (by rfl) ((refInt_any g2 bd2 o.most l f _ hm2).mono ?_) (fun _ => by simp only [List.getElem_cons_succ, List.getElem_cons_zero] ; go_simp)
    rintro e w3 ⟨rfl, hm3, hq3⟩
    have hw3 := hw2.grown hq3 fun k hk => by injection hk with hk; subst hk; exact ⟨by omega, .inl (by omega)⟩
    refine ⟨_, rfl, only2_r hq3, ?_⟩
    simp only [Act.put, List.getElem_cons_succ, List.getElem_cons_zero, List.setIfInBounds_toArray, List.set_cons_zero, List.set_cons_succ]
    refine wpR_take 8 (v := ?_) (only2_moves g1 g2) (by decide) (by kernel_rfl) (by kernel_rfl) (by kernel_rfl) (fun _ _ _ h => h) (wantedT (by rfl) ?_) ?_ ; rotate_left ; · ( intro w' hR ; simp only [List.getElem_cons_succ, List.getElem_cons_zero] ; go_simp ; try with_reducible rfl )
    simp only [Act.put, List.getElem_cons_succ, List.getElem_cons_zero, List.setIfInBounds_toArray, List.set_cons_zero, List.set_cons_succ]
    refine wpR_take 9 (v := ?_) (only2_moves g1 g2) (by decide) (by kernel_rfl) (by kernel_rfl) (by kernel_rfl) (fun _ _ _ h => h) (wantedT (by rfl) ?_) ?_ ; rotate_left ; · ( intro w' hR ; simp only [List.getElem_cons_succ, List.getElem_cons_zero] ; go_simp ; try with_reducible rfl )
    simp only [Act.put, List.getElem_cons_succ, List.getElem_cons_zero, List.setIfInBounds_toArray, List.set_cons_zero, List.set_cons_succ]
    refine wpR_done (by kernel_rfl) ?_
    go_wp2
    go_ret
    exact ⟨by simp, hw3, hm3, (only2_moves g1 g2).trans _ _ _ hy0 ((only2_moves g1 g2).trans _ _ _ (only2_l hq2) (only2_r hq3))⟩

set_option maxHeartbeats 1000000 in
set_option linter.unusedSimpArgs false in
theorem do_2 (g1 g2 bd2 : Nat) (bd : Nat × Nat) (o : OpR) (l : List Nat) (f : Bool) (w : World) (hw : WR w g1 bd l f) (hm : RR w g2 bd2 l f) (h12 : g1 < g2) (hbd : bd.2 ≤ g1) (hbd2 : bd2 ≤ g1) (hk : o.kind % 4 = 2) :
    Calls Try.prog 24 #[.pointer (some ⟨g1, 0, none⟩), .pointer (some ⟨g2, 0, none⟩), .agg #[.int .u8 (o.kind : Int), .int .i64 o.most, .int .u64 (o.p : Int)]] w fun e w' =>
      e = .returned (.bool true) ∧ WR w' g1 bd (rdList o.most o.p l f).2.1 (rdList o.most o.p l f).2.2 ∧ RR w' g2 bd2 (rdList o.most o.p l f).2.1 (rdList o.most o.p l f).2.2 ∧ Only2 g1 g2 w w' := by
  have hw0 := WR.drew (hw.below ((Below.refl _ _).alloc (Nat.le_refl _) (.cells #[.int .u8 (o.kind : Int), .int .i64 o.most, .int .u64 (o.p : Int)] 45)) (Nat.le_refl _))
  have hm0 := RR.drew' (hm.below ((Below.refl _ _).alloc (Nat.le_refl _) (.cells #[.int .u8 (o.kind : Int), .int .i64 o.most, .int .u64 (o.p : Int)] 45)) (Nat.le_refl _))
  have hx0 := Blk.drew (Blk.new w 45 #[.int .u8 (o.kind : Int), .int .i64 o.most, .int .u64 (o.p : Int)])
  have hy0 : Only2 g1 g2 w (w.alloc (.cells #[.int .u8 (o.kind : Int), .int .i64 o.most, .int .u64 (o.p : Int)] 45)).drew := only2_l (grown_drew' (grown_alloc' (grown_refl' _ _) _))
  have hg1x : w.heap.size ≠ g1 := by have := hw.lt; omega
  have hg2x : w.heap.size ≠ g2 := by have := hm.lt; omega
  have H12 := hm.lt
  have H13 := hm0.lt
  have q0 : (((o.kind : Int) % 4) == 0) = false := by rw [beq_eq_false_iff_ne]; omega
  have q1 : (((o.kind : Int) % 4) == 1) = false := by rw [beq_eq_false_iff_ne]; omega
  have q2 : (((o.kind : Int) % 4) == 2) = true := by rw [beq_iff_eq]; omega
  have HK := Lib.hid hk
  clear hk hw hm
  go_enter Try.func24, Try.ntmps24
  go_wp2_with fail
  · clear q0 q1 q2
    refine wpR_begin (Only2 g1 g2) (by kernel_rfl) ?_
    refine wpR_take 0 (v := ?_) (only2_moves g1 g2) (by decide) (by kernel_rfl) (by kernel_rfl) (by kernel_rfl) (fun _ _ _ h => h) (wantedT (by rfl) ?_) ?_ ; rotate_left ; · ( intro w' hR ; simp only [List.getElem_cons_succ, List.getElem_cons_zero] ; go_simp ; try with_reducible rfl )
    simp only [Act.put, List.getElem_cons_succ, List.getElem_cons_zero, List.setIfInBounds_toArray, List.set_cons_zero, List.set_cons_succ]
    refine wpR_take 1 (v := ?_) (only2_moves g1 g2) (by decide) (by kernel_rfl) (by kernel_rfl) (by kernel_rfl) (fun _ _ _ h => h) (wantedT (by rfl) ?_) ?_ ; rotate_left ; · ( intro w' hR ; simp only [List.getElem_cons_succ, List.getElem_cons_zero] ; go_simp ; try with_reducible rfl )
    simp only [Act.put, List.getElem_cons_succ, List.getElem_cons_zero, List.setIfInBounds_toArray, List.set_cons_zero, List.set_cons_succ]
    refine wpR_take 2 (v := .int .i64 o.most) (only2_moves g1 g2) (by decide) (by kernel_rfl) (by kernel_rfl) (by kernel_rfl) (fun _ _ _ h => h) (wantedT (by rfl) ?_) ?_ ; · ( intro w' hR ; simp only [List.getElem_cons_succ, List.getElem_cons_zero] ; have q := (hx0.only2 hR hg1x hg2x).cell 1 ; simp at q ; go_simp )
    simp only [Act.put, List.getElem_cons_succ, List.getElem_cons_zero, List.setIfInBounds_toArray, List.set_cons_zero, List.set_cons_succ]
    refine wpR_take 3 (v := ?_) (only2_moves g1 g2) (by decide) (by kernel_rfl) (by kernel_rfl) (by kernel_rfl) (fun _ _ _ h => h) (wantedT (by rfl) ?_) ?_ ; rotate_left ; · ( intro w' hR ; simp only [List.getElem_cons_succ, List.getElem_cons_zero] ; go_simp ; try with_reducible rfl )
    simp only [Act.put, List.getElem_cons_succ, List.getElem_cons_zero, List.setIfInBounds_toArray, List.set_cons_zero, List.set_cons_succ]
    refine wpR_take 4 (v := .int .u64 (o.p : Int)) (only2_moves g1 g2) (by decide) (by kernel_rfl) (by kernel_rfl) (by kernel_rfl) (fun _ _ _ h => h) (wantedT (by rfl) ?_) ?_ ; · ( intro w' hR ; simp only [List.getElem_cons_succ, List.getElem_cons_zero] ; have q := (hx0.only2 hR hg1x hg2x).cell 2 ; simp at q ; go_simp )
    simp only [Act.put, List.getElem_cons_succ, List.getElem_cons_zero, List.setIfInBounds_toArray, List.set_cons_zero, List.set_cons_succ]
    refine wpR_take 6 (v := ?_) (only2_moves g1 g2) (by decide) (by kernel_rfl) (by kernel_rfl) (by kernel_rfl) (fun _ _ _ h => h) (wantedT (by rfl) ?_) ?_ ; rotate_left ; · ( intro w' hR ; simp only [List.getElem_cons_succ, List.getElem_cons_zero] ; go_simp ; try with_reducible rfl )
    simp only [Act.put, List.getElem_cons_succ, List.getElem_cons_zero, List.setIfInBounds_toArray, List.set_cons_zero, List.set_cons_succ]
    refine wpR_take 7 (v := ?_) (only2_moves g1 g2) (by decide) (by kernel_rfl) (by kernel_rfl) (by kernel_rfl) (fun _ _ _ h => h) (wantedT (by rfl) ?_) ?_ ; rotate_left ; · ( intro w' hR ; simp only [List.getElem_cons_succ, List.getElem_cons_zero] ; go_simp ; try with_reducible rfl )
    simp only [Act.put, List.getElem_cons_succ, List.getElem_cons_zero, List.setIfInBounds_toArray, List.set_cons_zero, List.set_cons_succ]
    refine wpR_take 8 (v := .int .i64 o.most) (only2_moves g1 g2) (by decide) (by kernel_rfl) (by kernel_rfl) (by kernel_rfl) (fun _ _ _ h => h) (wantedT (by rfl) ?_) ?_ ; · ( intro w' hR ; simp only [List.getElem_cons_succ, List.getElem_cons_zero] ; have q := (hx0.only2 hR hg1x hg2x).cell 1 ; simp at q ; go_simp )
    simp only [Act.put, List.getElem_cons_succ, List.getElem_cons_zero, List.setIfInBounds_toArray, List.set_cons_zero, List.set_cons_succ]
    refine wpR_take 9 (v := ?_) (only2_moves g1 g2) (by decide) (by kernel_rfl) (by kernel_rfl) (by kernel_rfl) (fun _ _ _ h => h) (wantedT (by rfl) ?_) ?_ ; rotate_left ; · ( intro w' hR ; simp only [List.getElem_cons_succ, List.getElem_cons_zero] ; go_simp ; try with_reducible rfl )
    simp only [Act.put, List.getElem_cons_succ, List.getElem_cons_zero, List.setIfInBounds_toArray, List.set_cons_zero, List.set_cons_succ]
    refine wpR_take 10 (v := .int .u64 (o.p : Int)) (only2_moves g1 g2) (by decide) (by kernel_rfl) (by kernel_rfl) (by kernel_rfl) (fun _ _ _ h => h) (wantedT (by rfl) ?_) ?_ ; · ( intro w' hR ; simp only [List.getElem_cons_succ, List.getElem_cons_zero] ; have q := (hx0.only2 hR hg1x hg2x).cell 2 ; simp at q ; go_simp )
    simp only [Act.put, List.getElem_cons_succ, List.getElem_cons_zero, List.setIfInBounds_toArray, List.set_cons_zero, List.set_cons_succ]
    refine wpR_call 5 (only2_moves g1 g2) (by decide) (by kernel_rfl) (by rfl) ((rdList_any g1 bd o.p o.most l f _ hw0).mono ?_) (fun _ => by simp only [List.getElem_cons_succ, List.getElem_cons_zero] ; go_simp)
    rintro e w2 ⟨v2, rfl, hv2, hw2, hq2⟩
    have hm2 := hm0.grown hq2 fun k hk => by injection hk with hk; subst hk; exact ⟨by omega, by omega⟩
    obtain ⟨A2, c2, rfl, _, _, hr2, hA2⟩ := own_form hv2
    refine ⟨_, rfl, only2_l hq2, ?_⟩
    simp only [Act.put, List.getElem_cons_succ, List.getElem_cons_zero, List.setIfInBounds_toArray, List.set_cons_zero, List.set_cons_succ]
    refine wpR_call 11 (only2_moves g1 g2) (by decide) (by kernel_rfl) (by rfl) ((refList_any g2 bd2 o.p o.most l f _ hm2 (by have := hm2.lt; omega)).mono ?_) (fun _ => by simp only [List.getElem_cons_succ, List.getElem_cons_zero] ; go_simp)
    rintro e w3 ⟨v3, rfl, hv3, hm3, hq3⟩
    have hw3 := hw2.grown hq3 fun k hk => by injection hk with hk; subst hk; exact ⟨by omega, .inl (by omega)⟩
    obtain ⟨A3, c3, rfl, _, _, hr3, _⟩ := own_form hv3
    refine ⟨_, rfl, only2_r hq3, ?_⟩
    simp only [Act.put, List.getElem_cons_succ, List.getElem_cons_zero, List.setIfInBounds_toArray, List.set_cons_zero, List.set_cons_succ]
    refine wpR_call 12 (only2_moves g1 g2) (by decide) (by kernel_rfl) (by rfl) ((same_any A2 A3 _ c2 _ c3 _ _ _ (hr2.grown hq3 (fun ad e h => by injection h with h; have h1 := (hA2 ad e).1; omega)) hr3 (Nat.le_trans (rdList_len hw0.bytes) (by omega))).mono ?_) (fun _ => by simp only [List.getElem_cons_succ, List.getElem_cons_zero] ; go_simp)
    rintro e w4 ⟨rfl, kk, rfl⟩
    refine ⟨_, rfl, only2_l (grown_drewN' (grown_refl' _ _) _), ?_⟩
    simp only [Act.put, List.getElem_cons_succ, List.getElem_cons_zero, List.setIfInBounds_toArray, List.set_cons_zero, List.set_cons_succ]
    refine wpR_take 13 (v := ?_) (only2_moves g1 g2) (by decide) (by kernel_rfl) (by kernel_rfl) (by kernel_rfl) (fun _ _ _ h => h) (wantedT (by rfl) ?_) ?_ ; rotate_left ; · ( intro w' hR ; simp only [List.getElem_cons_succ, List.getElem_cons_zero] ; go_simp ; try with_reducible rfl )
    simp only [Act.put, List.getElem_cons_succ, List.getElem_cons_zero, List.setIfInBounds_toArray, List.set_cons_zero, List.set_cons_succ]
    refine wpR_done (by kernel_rfl) ?_
    go_wp2
    go_ret
    exact ⟨by simp, hw3, hm3, (only2_moves g1 g2).trans _ _ _ hy0 ((only2_moves g1 g2).trans _ _ _ ((only2_moves g1 g2).trans _ _ _ (only2_l hq2) (only2_r hq3)) (only2_l (grown_drewN' (grown_refl' _ _) kk)))⟩

set_option maxHeartbeats 1000000 in
set_option linter.unusedSimpArgs false in
theorem do_3 (g1 g2 bd2 : Nat) (bd : Nat × Nat) (o : OpR) (l : List Nat) (f : Bool) (w : World) (hw : WR w g1 bd l f) (hm : RR w g2 bd2 l f) (h12 : g1 < g2) (hbd : bd.2 ≤ g1) (hbd2 : bd2 ≤ g1) (hk : o.kind % 4 = 3) :
    Calls Try.prog 24 #[.pointer (some ⟨g1, 0, none⟩), .pointer (some ⟨g2, 0, none⟩), .agg #[.int .u8 (o.kind : Int), .int .i64 o.most, .int .u64 (o.p : Int)]] w fun e w' =>
      e = .returned (.bool true) ∧ WR w' g1 bd (rdBytes o.most l f).2.1 (rdBytes o.most l f).2.2 ∧ RR w' g2 bd2 (rdBytes o.most l f).2.1 (rdBytes o.most l f).2.2 ∧ Only2 g1 g2 w w' := by
  have hw0 := WR.drew (hw.below ((Below.refl _ _).alloc (Nat.le_refl _) (.cells #[.int .u8 (o.kind : Int), .int .i64 o.most, .int .u64 (o.p : Int)] 45)) (Nat.le_refl _))
  have hm0 := RR.drew' (hm.below ((Below.refl _ _).alloc (Nat.le_refl _) (.cells #[.int .u8 (o.kind : Int), .int .i64 o.most, .int .u64 (o.p : Int)] 45)) (Nat.le_refl _))
  have hx0 := Blk.drew (Blk.new w 45 #[.int .u8 (o.kind : Int), .int .i64 o.most, .int .u64 (o.p : Int)])
  have hy0 : Only2 g1 g2 w (w.alloc (.cells #[.int .u8 (o.kind : Int), .int .i64 o.most, .int .u64 (o.p : Int)] 45)).drew := only2_l (grown_drew' (grown_alloc' (grown_refl' _ _) _))
  have hg1x : w.heap.size ≠ g1 := by have := hw.lt; omega
  have hg2x : w.heap.size ≠ g2 := by have := hm.lt; omega
  have H12 := hm.lt
  have H13 := hm0.lt
  have q0 : (((o.kind : Int) % 4) == 0) = false := by rw [beq_eq_false_iff_ne]; omega
  have q1 : (((o.kind : Int) % 4) == 1) = false := by rw [beq_eq_false_iff_ne]; omega
  have q2 : (((o.kind : Int) % 4) == 2) = false := by rw [beq_eq_false_iff_ne]; omega
  have HK := Lib.hid hk
  clear hk hw hm
  go_enter Try.func24, Try.ntmps24
  go_wp2_with fail
  · clear q0 q1 q2
    refine wpR_begin (Only2 g1 g2) (by kernel_rfl) ?_
    refine wpR_take 0 (v := ?_) (only2_moves g1 g2) (by decide) (by kernel_rfl) (by kernel_rfl) (by kernel_rfl) (fun _ _ _ h => h) (wantedT (by rfl) ?_) ?_ ; rotate_left ; · ( intro w' hR ; simp only [List.getElem_cons_succ, List.getElem_cons_zero] ; go_simp ; try with_reducible rfl )
    simp only [Act.put, List.getElem_cons_succ, List.getElem_cons_zero, List.setIfInBounds_toArray, List.set_cons_zero, List.set_cons_succ]
    refine wpR_take 1 (v := ?_) (only2_moves g1 g2) (by decide) (by kernel_rfl) (by kernel_rfl) (by kernel_rfl) (fun _ _ _ h => h) (wantedT (by rfl) ?_) ?_ ; rotate_left ; · ( intro w' hR ; simp only [List.getElem_cons_succ, List.getElem_cons_zero] ; go_simp ; try with_reducible rfl )
    simp only [Act.put, List.getElem_cons_succ, List.getElem_cons_zero, List.setIfInBounds_toArray, List.set_cons_zero, List.set_cons_succ]
    refine wpR_take 2 (v := .int .i64 o.most) (only2_moves g1 g2) (by decide) (by kernel_rfl) (by kernel_rfl) (by kernel_rfl) (fun _ _ _ h => h) (wantedT (by rfl) ?_) ?_ ; · ( intro w' hR ; simp only [List.getElem_cons_succ, List.getElem_cons_zero] ; have q := (hx0.only2 hR hg1x hg2x).cell 1 ; simp at q ; go_simp )
    simp only [Act.put, List.getElem_cons_succ, List.getElem_cons_zero, List.setIfInBounds_toArray, List.set_cons_zero, List.set_cons_succ]
    refine wpR_take 5 (v := ?_) (only2_moves g1 g2) (by decide) (by kernel_rfl) (by kernel_rfl) (by kernel_rfl) (fun _ _ _ h => h) (wantedT (by rfl) ?_) ?_ ; rotate_left ; · ( intro w' hR ; simp only [List.getElem_cons_succ, List.getElem_cons_zero] ; go_simp ; try with_reducible rfl )
    simp only [Act.put, List.getElem_cons_succ, List.getElem_cons_zero, List.setIfInBounds_toArray, List.set_cons_zero, List.set_cons_succ]
    refine wpR_take 6 (v := ?_) (only2_moves g1 g2) (by decide) (by kernel_rfl) (by kernel_rfl) (by kernel_rfl) (fun _ _ _ h => h) (wantedT (by rfl) ?_) ?_ ; rotate_left ; · ( intro w' hR ; simp only [List.getElem_cons_succ, List.getElem_cons_zero] ; go_simp ; try with_reducible rfl )
    simp only [Act.put, List.getElem_cons_succ, List.getElem_cons_zero, List.setIfInBounds_toArray, List.set_cons_zero, List.set_cons_succ]
    refine wpR_take 7 (v := .int .i64 o.most) (only2_moves g1 g2) (by decide) (by kernel_rfl) (by kernel_rfl) (by kernel_rfl) (fun _ _ _ h => h) (wantedT (by rfl) ?_) ?_ ; · ( intro w' hR ; simp only [List.getElem_cons_succ, List.getElem_cons_zero] ; have q := (hx0.only2 hR hg1x hg2x).cell 1 ; simp at q ; go_simp )
    simp only [Act.put, List.getElem_cons_succ, List.getElem_cons_zero, List.setIfInBounds_toArray, List.set_cons_zero, List.set_cons_succ]
    refine wpR_call 3 (only2_moves g1 g2) (by decide) (by kernel_rfl) (by rfl) ((rdBytes_any g1 bd o.most l f _ hw0).mono ?_) (fun _ => by simp only [List.getElem_cons_succ, List.getElem_cons_zero] ; go_simp)
    rintro e w2 ⟨v2, rfl, hv2, hw2, hq2⟩
    have hm2 := hm0.grown hq2 fun k hk => by injection hk with hk; subst hk; exact ⟨by omega, by omega⟩
    obtain ⟨A2, c2, rfl, _, _, hr2, hA2⟩ := own_form hv2
    refine ⟨_, rfl, only2_l hq2, ?_⟩
    simp only [Act.put, List.getElem_cons_succ, List.getElem_cons_zero, List.setIfInBounds_toArray, List.set_cons_zero, List.set_cons_succ]
    refine wpR_take 4 (only2_moves g1 g2) (by decide) (by kernel_rfl) (by kernel_rfl) (by kernel_rfl) (fun _ _ _ h => h) (wantedT (by rfl) (fun w' hR => conv_op (e := 5) Try.underlying22 Try.underlying5 Try.underlying9 rfl rfl (hr2.only2 hR (fun ad e _ => by have h1 := (hA2 ad e).1; constructor <;> omega)))) ?_
    simp only [Act.put, List.getElem_cons_succ, List.getElem_cons_zero, List.setIfInBounds_toArray, List.set_cons_zero, List.set_cons_succ]
    refine wpR_call 8 (only2_moves g1 g2) (by decide) (by kernel_rfl) (by rfl) ((refBytes_any g2 bd2 o.most l f _ hm2).mono ?_) (fun _ => by simp only [List.getElem_cons_succ, List.getElem_cons_zero] ; go_simp)
    rintro e w3 ⟨A3, c3, rfl, hr3, hm3, hq3, hA3⟩
    have hw3 := hw2.grown hq3 fun k hk => by injection hk with hk; subst hk; exact ⟨by omega, .inl (by omega)⟩
    refine ⟨_, rfl, only2_r hq3, ?_⟩
    simp only [Act.put, List.getElem_cons_succ, List.getElem_cons_zero, List.setIfInBounds_toArray, List.set_cons_zero, List.set_cons_succ]
    refine wpR_take 9 (only2_moves g1 g2) (by decide) (by kernel_rfl) (by kernel_rfl) (by kernel_rfl) (fun _ _ _ h => h) (wantedT (by rfl) (fun w' hR => conv_op (e := 5) Try.underlying22 Try.underlying5 Try.underlying9 rfl rfl (hr3.only2 hR (fun ad e h0 => by have h1 := hA3 ad e h0; constructor <;> omega)))) ?_
    simp only [Act.put, List.getElem_cons_succ, List.getElem_cons_zero, List.setIfInBounds_toArray, List.set_cons_zero, List.set_cons_succ]
    refine wpR_take 10 (v := ?_) (only2_moves g1 g2) (by decide) (by kernel_rfl) (by kernel_rfl) (by kernel_rfl) (fun _ _ _ h => h) (wantedT (by rfl) ?_) ?_ ; rotate_left ; · ( intro w' hR ; simp only [List.getElem_cons_succ, List.getElem_cons_zero] ; go_simp ; try with_reducible rfl )
    simp only [Act.put, List.getElem_cons_succ, List.getElem_cons_zero, List.setIfInBounds_toArray, List.set_cons_zero, List.set_cons_succ]
    refine wpR_take 11 (v := ?_) (only2_moves g1 g2) (by decide) (by kernel_rfl) (by kernel_rfl) (by kernel_rfl) (fun _ _ _ h => h) (wantedT (by rfl) ?_) ?_ ; rotate_left ; · ( intro w' hR ; simp only [List.getElem_cons_succ, List.getElem_cons_zero] ; go_simp ; try with_reducible rfl )
    simp only [Act.put, List.getElem_cons_succ, List.getElem_cons_zero, List.setIfInBounds_toArray, List.set_cons_zero, List.set_cons_succ]
    refine wpR_done (by kernel_rfl) ?_
    go_wp2
    go_ret
    exact ⟨by simp, hw3, hm3, (only2_moves g1 g2).trans _ _ _ hy0 ((only2_moves g1 g2).trans _ _ _ (only2_l hq2) (only2_r hq3))⟩
end Go.Proofs.Ytohddeebmofoeaa
