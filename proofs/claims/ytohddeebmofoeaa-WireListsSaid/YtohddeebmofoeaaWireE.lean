/-
  WireLists: the walk of the law.
-/
import Derived.Test.YtohddeebmofoeaaWireD
namespace Go.Proofs.Ytohddeebmofoeaa
open Go.RowKit

set_option maxHeartbeats 400000 in
theorem wireLists_out (A C E : Option Addr) (n c m d k g : Nat) (w : World) (h : 200 < n ∨ 200 < m ∨ 400 < k) (hn : n ≤ 9223372036854775807) (hm : m ≤ 9223372036854775807) (hk : k ≤ 9223372036854775807) :
    Calls Try.prog 4 #[.slice A n c, .slice C m d, .slice E k g] w fun e w' => e = .returned (.bool true) ∧ Below w.heap.size w w' := by
  by_cases h1 : 200 < n
  · have hd : decide ((200 : Int) < (n : Int)) = true := by simp; omega
    go_enter Try.func4, Try.ntmps4
    go_wp2_with fail
    refine (awake_any _).mono ?_
    rintro e w1 ⟨rfl, hb1⟩
    go_wp2_with fail
    refine (awake_any _).mono ?_
    rintro e w2 ⟨rfl, hb2⟩
    go_wp2
    go_ret
    exact ⟨rfl, below_chain hb1 hb2⟩
  · have hd : decide ((200 : Int) < (n : Int)) = false := by simp; omega
    by_cases h2 : 200 < m
    · have hd2 : decide ((200 : Int) < (m : Int)) = true := by simp; omega
      go_enter Try.func4, Try.ntmps4
      go_wp2_with fail
      refine (awake_any _).mono ?_
      rintro e w1 ⟨rfl, hb1⟩
      go_wp2_with fail
      refine (awake_any _).mono ?_
      rintro e w2 ⟨rfl, hb2⟩
      go_wp2
      go_ret
      exact ⟨rfl, below_chain hb1 hb2⟩
    · have hd2 : decide ((200 : Int) < (m : Int)) = false := by simp; omega
      have hd3 : decide ((400 : Int) < (k : Int)) = true := by simp; omega
      go_enter Try.func4, Try.ntmps4
      go_wp2_with fail
      refine (awake_any _).mono ?_
      rintro e w1 ⟨rfl, hb1⟩
      go_wp2_with fail
      refine (awake_any _).mono ?_
      rintro e w2 ⟨rfl, hb2⟩
      go_wp2
      go_ret
      exact ⟨rfl, below_chain hb1 hb2⟩

set_option maxHeartbeats 1000000 in
set_option linter.unusedSimpArgs false in
theorem wireLists_in (A C E : Option Addr) (n c m d k g : Nat) (l ll lb : List Nat) (w : World) (hr : Rd w 1 A n (U8 l)) (hs : Rd w 1 C m (U64 ll)) (hll : ∀ x ∈ ll, x < 18446744073709551616) (ht : Rd w 1 E k (U8 lb)) (hn : n ≤ 200) (hm : m ≤ 200) (hk : k ≤ 400) :
    Calls Try.prog 4 #[.slice A n c, .slice C m d, .slice E k g] w fun e w' => e = .returned (.bool true) ∧ Below w.heap.size w w' := by
  have hd : decide ((200 : Int) < (n : Int)) = false := by simp; omega
  have hd2 : decide ((200 : Int) < (m : Int)) = false := by simp; omega
  have hd3 : decide ((400 : Int) < (k : Int)) = false := by simp; omega
  go_enter Try.func4, Try.ntmps4
  go_wp2_with fail
  refine (awake_any _).mono ?_
  rintro e w1 ⟨rfl, hb1⟩
  go_wp2_with fail
  have hr0 := (hr.below hb1).drew
  have hs0 := (hs.below hb1).drew
  have ht0 := (ht.below hb1).drew
  clear hr hs ht hd hd2 hd3
  refine wpR_begin Later (by kernel_rfl) ?_
  refine wpR_take 0 (v := ?_) later_moves (by decide) (by kernel_rfl) (by kernel_rfl) (by kernel_rfl) (fun _ _ _ h => h) (wantedT (by rfl) ?_) ?_ ; rotate_left ; · ( intro w' hR ; simp only [List.getElem_cons_succ, List.getElem_cons_zero] ; go_simp ; try with_reducible rfl )
  simp only [Act.put, List.getElem_cons_succ, List.getElem_cons_zero, List.setIfInBounds_toArray, List.set_cons_zero, List.set_cons_succ]
  refine wpR_take 1 (v := ?_) later_moves (by decide) (by kernel_rfl) (by kernel_rfl) (by kernel_rfl) (fun _ _ _ h => h) (wantedT (by rfl) ?_) ?_ ; rotate_left ; · ( intro w' hR ; simp only [List.getElem_cons_succ, List.getElem_cons_zero] ; go_simp ; try with_reducible rfl )
  simp only [Act.put, List.getElem_cons_succ, List.getElem_cons_zero, List.setIfInBounds_toArray, List.set_cons_zero, List.set_cons_succ]
  refine wpR_take 4 (v := ?_) later_moves (by decide) (by kernel_rfl) (by kernel_rfl) (by kernel_rfl) (fun _ _ _ h => h) (wantedT (by rfl) ?_) ?_ ; rotate_left ; · ( intro w' hR ; simp only [List.getElem_cons_succ, List.getElem_cons_zero] ; go_simp ; try with_reducible rfl )
  simp only [Act.put, List.getElem_cons_succ, List.getElem_cons_zero, List.setIfInBounds_toArray, List.set_cons_zero, List.set_cons_succ]
  refine wpR_take 5 (v := ?_) later_moves (by decide) (by kernel_rfl) (by kernel_rfl) (by kernel_rfl) (fun _ _ _ h => h) (wantedT (by rfl) ?_) ?_ ; rotate_left ; · ( intro w' hR ; simp only [List.getElem_cons_succ, List.getElem_cons_zero] ; go_simp ; try with_reducible rfl )
  simp only [Act.put, List.getElem_cons_succ, List.getElem_cons_zero, List.setIfInBounds_toArray, List.set_cons_zero, List.set_cons_succ]
  refine wpR_call 2 later_moves (by decide) (by kernel_rfl) (by rfl) ((wList_any A C n c m d (U8 l) ll _ hr0 (one_U8 _) hs0 hll (by omega)).mono ?_) (fun _ => by simp only [List.getElem_cons_succ, List.getElem_cons_zero] ; go_simp)
  rintro e w2 ⟨v2, rfl, hv2, hb2⟩
  obtain ⟨A2, c2, rfl, _, _, hr2, _⟩ := own_form hv2
  have q2 : Rd w2 1 A2 (n + 4 + 8 * m) (U8 (l ++ (digs m 4 ++ ll.flatMap fun x => digs x 8))) := by rw [U8_append, U8_append]; exact hr2
  refine ⟨_, rfl, hb2, ?_⟩
  simp only [Act.put, List.getElem_cons_succ, List.getElem_cons_zero, List.setIfInBounds_toArray, List.set_cons_zero, List.set_cons_succ]
  refine wpR_take 3 later_moves (by decide) (by kernel_rfl) (by kernel_rfl) (by kernel_rfl) (fun _ _ _ h => h) (wantedT (by rfl) (fun w' hR => conv_op (e := 5) Try.underlying22 Try.underlying5 Try.underlying9 rfl rfl (q2.below hR))) ?_
  simp only [Act.put, List.getElem_cons_succ, List.getElem_cons_zero, List.setIfInBounds_toArray, List.set_cons_zero, List.set_cons_succ]
  refine wpR_call 6 later_moves (by decide) (by kernel_rfl) (by rfl) ((rList_any C m d ll _ (hs0.below hb2) hll (by omega)).mono ?_) (fun _ => by simp only [List.getElem_cons_succ, List.getElem_cons_zero] ; go_simp)
  rintro e w6 ⟨v6, rfl, hv6, hb6⟩
  rw [← U8_append] at hv6
  obtain ⟨A6, c6, rfl, _, _, hr6, _⟩ := own_form hv6
  refine ⟨_, rfl, hb6, ?_⟩
  simp only [Act.put, List.getElem_cons_succ, List.getElem_cons_zero, List.setIfInBounds_toArray, List.set_cons_zero, List.set_cons_succ]
  refine wpR_call 7 later_moves (by decide) (by kernel_rfl) (by rfl) ((join_any A A6 n c (4 + 8 * m) c6 l (digs m 4 ++ ll.flatMap fun x => digs x 8) _ ((hr0.below hb2).below hb6) hr6 (by omega)).mono ?_) (fun _ => by simp only [List.getElem_cons_succ, List.getElem_cons_zero] ; go_simp)
  rintro e w7 ⟨rfl, rfl⟩
  refine ⟨_, rfl, Below.refl _ _, ?_⟩
  simp only [Act.put, List.getElem_cons_succ, List.getElem_cons_zero, List.setIfInBounds_toArray, List.set_cons_zero, List.set_cons_succ]
  refine wpR_take 8 (v := ?_) later_moves (by decide) (by kernel_rfl) (by kernel_rfl) (by kernel_rfl) (fun _ _ _ h => h) (wantedT (by rfl) ?_) ?_ ; rotate_left ; · ( intro w' hR ; simp only [List.getElem_cons_succ, List.getElem_cons_zero] ; go_simp ; try with_reducible rfl )
  simp only [Act.put, List.getElem_cons_succ, List.getElem_cons_zero, List.setIfInBounds_toArray, List.set_cons_zero, List.set_cons_succ]
  refine wpR_take 9 (v := ?_) later_moves (by decide) (by kernel_rfl) (by kernel_rfl) (by kernel_rfl) (fun _ _ _ h => h) (wantedT (by rfl) ?_) ?_ ; rotate_left ; · ( intro w' hR ; simp only [List.getElem_cons_succ, List.getElem_cons_zero] ; go_simp ; try with_reducible rfl )
  simp only [Act.put, List.getElem_cons_succ, List.getElem_cons_zero, List.setIfInBounds_toArray, List.set_cons_zero, List.set_cons_succ]
  refine wpR_take 10 (v := ?_) later_moves (by decide) (by kernel_rfl) (by kernel_rfl) (by kernel_rfl) (fun _ _ _ h => h) (wantedT (by rfl) ?_) ?_ ; rotate_left ; · ( intro w' hR ; simp only [List.getElem_cons_succ, List.getElem_cons_zero] ; go_simp ; try with_reducible rfl )
  simp only [Act.put, List.getElem_cons_succ, List.getElem_cons_zero, List.setIfInBounds_toArray, List.set_cons_zero, List.set_cons_succ]
  refine wpR_take 11 (v := ?_) later_moves (by decide) (by kernel_rfl) (by kernel_rfl) (by kernel_rfl) (fun _ _ _ h => h) (wantedT (by rfl) ?_) ?_ ; rotate_left ; · ( intro w' hR ; simp only [List.getElem_cons_succ, List.getElem_cons_zero] ; go_simp ; try with_reducible rfl )
  simp only [Act.put, List.getElem_cons_succ, List.getElem_cons_zero, List.setIfInBounds_toArray, List.set_cons_zero, List.set_cons_succ]
  refine wpR_take 14 (v := ?_) later_moves (by decide) (by kernel_rfl) (by kernel_rfl) (by kernel_rfl) (fun _ _ _ h => h) (wantedT (by rfl) ?_) ?_ ; rotate_left ; · ( intro w' hR ; simp only [List.getElem_cons_succ, List.getElem_cons_zero] ; go_simp ; try with_reducible rfl )
  simp only [Act.put, List.getElem_cons_succ, List.getElem_cons_zero, List.setIfInBounds_toArray, List.set_cons_zero, List.set_cons_succ]
  refine wpR_take 15 (v := ?_) later_moves (by decide) (by kernel_rfl) (by kernel_rfl) (by kernel_rfl) (fun _ _ _ h => h) (wantedT (by rfl) ?_) ?_ ; rotate_left ; · ( intro w' hR ; simp only [List.getElem_cons_succ, List.getElem_cons_zero] ; go_simp ; try with_reducible rfl )
  simp only [Act.put, List.getElem_cons_succ, List.getElem_cons_zero, List.setIfInBounds_toArray, List.set_cons_zero, List.set_cons_succ]
  refine wpR_call 12 later_moves (by decide) (by kernel_rfl) (by rfl) ((wBytes_any A E n c k g (U8 l) (U8 lb) _ ((hr0.below hb2).below hb6) (one_U8 _) ((ht0.below hb2).below hb6) (one_U8 _) (by omega)).mono ?_) (fun _ => by simp only [List.getElem_cons_succ, List.getElem_cons_zero] ; go_simp)
  rintro e w12 ⟨v12, rfl, hv12, hb12⟩
  obtain ⟨A12, c12, rfl, _, _, hr12, _⟩ := own_form hv12
  have q12 : Rd w12 1 A12 (n + 4 + k) (U8 (l ++ (digs k 4 ++ lb))) := by rw [U8_append, U8_append]; exact hr12
  refine ⟨_, rfl, hb12, ?_⟩
  simp only [Act.put, List.getElem_cons_succ, List.getElem_cons_zero, List.setIfInBounds_toArray, List.set_cons_zero, List.set_cons_succ]
  refine wpR_take 13 later_moves (by decide) (by kernel_rfl) (by kernel_rfl) (by kernel_rfl) (fun _ _ _ h => h) (wantedT (by rfl) (fun w' hR => conv_op (e := 5) Try.underlying22 Try.underlying5 Try.underlying9 rfl rfl (q12.below hR))) ?_
  simp only [Act.put, List.getElem_cons_succ, List.getElem_cons_zero, List.setIfInBounds_toArray, List.set_cons_zero, List.set_cons_succ]
  refine wpR_call 16 later_moves (by decide) (by kernel_rfl) (by rfl) ((rBytes_any E k g (U8 lb) _ (((ht0.below hb2).below hb6).below hb12) (one_U8 _) (by omega)).mono ?_) (fun _ => by simp only [List.getElem_cons_succ, List.getElem_cons_zero] ; go_simp)
  rintro e w16 ⟨v16, rfl, hv16, hb16⟩
  rw [← U8_append] at hv16
  obtain ⟨A16, c16, rfl, _, _, hr16, _⟩ := own_form hv16
  refine ⟨_, rfl, hb16, ?_⟩
  simp only [Act.put, List.getElem_cons_succ, List.getElem_cons_zero, List.setIfInBounds_toArray, List.set_cons_zero, List.set_cons_succ]
  refine wpR_call 17 later_moves (by decide) (by kernel_rfl) (by rfl) ((join_any A A16 n c (4 + k) c16 l (digs k 4 ++ lb) _ ((((hr0.below hb2).below hb6).below hb12).below hb16) hr16 (by omega)).mono ?_) (fun _ => by simp only [List.getElem_cons_succ, List.getElem_cons_zero] ; go_simp)
  rintro e w17 ⟨rfl, rfl⟩
  refine ⟨_, rfl, Below.refl _ _, ?_⟩
  simp only [Act.put, List.getElem_cons_succ, List.getElem_cons_zero, List.setIfInBounds_toArray, List.set_cons_zero, List.set_cons_succ]
  refine wpR_take 18 (v := ?_) later_moves (by decide) (by kernel_rfl) (by kernel_rfl) (by kernel_rfl) (fun _ _ _ h => h) (wantedT (by rfl) ?_) ?_ ; rotate_left ; · ( intro w' hR ; simp only [List.getElem_cons_succ, List.getElem_cons_zero] ; go_simp ; try with_reducible rfl )
  simp only [Act.put, List.getElem_cons_succ, List.getElem_cons_zero, List.setIfInBounds_toArray, List.set_cons_zero, List.set_cons_succ]
  refine wpR_take 19 (v := ?_) later_moves (by decide) (by kernel_rfl) (by kernel_rfl) (by kernel_rfl) (fun _ _ _ h => h) (wantedT (by rfl) ?_) ?_ ; rotate_left ; · ( intro w' hR ; simp only [List.getElem_cons_succ, List.getElem_cons_zero] ; go_simp ; try with_reducible rfl )
  simp only [Act.put, List.getElem_cons_succ, List.getElem_cons_zero, List.setIfInBounds_toArray, List.set_cons_zero, List.set_cons_succ]
  refine wpR_take 20 (v := ?_) later_moves (by decide) (by kernel_rfl) (by kernel_rfl) (by kernel_rfl) (fun _ _ _ h => h) (wantedT (by rfl) ?_) ?_ ; rotate_left ; · ( intro w' hR ; simp only [List.getElem_cons_succ, List.getElem_cons_zero] ; go_simp ; try with_reducible rfl )
  simp only [Act.put, List.getElem_cons_succ, List.getElem_cons_zero, List.setIfInBounds_toArray, List.set_cons_zero, List.set_cons_succ]
  refine wpR_done (by kernel_rfl) ?_
  clear hr0 hs0 ht0 hr2 q2 hr6 hr12 q12 hr16 hv2 hv6 hv12 hv16
  go_wp2
  go_ret
  exact ⟨rfl, below_chain hb1.drew (below_chain (below_chain (below_chain hb2 hb6) hb12) hb16)⟩

theorem wireLists_walk (W : World) (A : Option Addr) (n c : Nat) (f : Fits Try.prog W 22 (Value.slice A n c).cells.toList) (C : Option Addr) (m d : Nat) (f1 : Fits Try.prog W 31 (Value.slice C m d).cells.toList) (E : Option Addr) (k g : Nat) (f2 : Fits Try.prog W 22 (Value.slice E k g).cells.toList) :
    Calls Try.prog 4 #[.slice A n c, .slice C m d, .slice E k g] W fun e W' => e = .returned (.bool true) ∧ Below W.heap.size W W' := by
  obtain ⟨l, h1, h2, h3, _⟩ := arg_bytes f
  obtain ⟨ll, h4, h5, h6, h7⟩ := arg_words f1
  obtain ⟨lb, h8, h9, h10, _⟩ := arg_bytes f2
  by_cases h : 200 < n ∨ 200 < m ∨ 400 < k
  · exact wireLists_out A C E n c m d k g W h (by omega) (by omega) (by omega)
  · exact wireLists_in A C E n c m d k g l ll lb W h3 h6 h7 h10 (by omega) (by omega) (by omega)
end Go.Proofs.Ytohddeebmofoeaa
