/-
  slices.Repeat of one number. No statement of the seat is proved here.
-/
import Derived.Test.YtpbohmddbfaiiaaCopy
namespace Go.Proofs.Ytpbohmddbfaiiaa
open Go.RowKit

theorem mul1_any (n : Nat) (hn : n ≤ 1000000) (w : World) :
    Calls Try.prog 73 #[.int .u64 1, .int .u64 (n : Int)] w fun e w' => e = .returned (.tuple #[.int .u64 0, .int .u64 (n : Int)]) ∧ w = w' := by
  refine (Try.bits_Mul 1 n (by omega) (by omega) w).mono fun e w' ⟨h1, h2⟩ => ⟨?_, h2.symm⟩
  rw [h1, Nat.one_mul, Nat.div_eq_of_lt (by omega), Nat.mod_eq_of_lt (by omega)]
  rfl

set_option maxRecDepth 100000 in
set_option maxHeartbeats 2000000 in
theorem repeat_any (v : Value) (c : Int) (n : Nat) (hn : n ≤ 1000000) (w : World) (h : Ints w v [c]) :
    Calls Try.prog 57 #[v, .int .i64 (n : Int)] w fun e w' => ∃ g, e = .returned (.slice (some ⟨g, 0, none⟩) n n) ∧ Hp w.heap.size w w' [.row 3 1 (.slice (some ⟨g, 0, none⟩) n n) n (ints (List.replicate n c))] := by
  obtain ⟨a, cap, rfl, hl, hc⟩ := h.at
  obtain ⟨b, off, rfl, hcell⟩ := hc 0 (by simp)
  simp only [List.length_cons, List.length_nil, List.getElem_cons_zero, Nat.add_zero, Nat.zero_add] at *
  clear hc hl
  by_cases hn0 : n = 0
  · subst hn0
    go_enter Try.func57, Try.ntmps57
    go_wp2_with fail
    refine (mul1_any 0 (by omega) _).mono ?_
    rintro e w1 ⟨rfl, rfl⟩
    go_wp2_with (first
      | (at_make; refine wpList_make_hp rfl (.tmp 29) (.tmp 29) 28 rfl TInts rfl (Hp.refl _) .i64 .i64 _ _ 0 rfl rfl rfl rfl (by omega) (by omega) ?_; intro g w1 hp1)
      | (refine wpList_copy_nothing rfl (.tmp 31) (.tmp 32) 28 28 rfl 3 TInts.und (by kernel_rfl) _ _ _ _ _ _ rfl rfl rfl ?_))
    go_loopw [8] (fun i wr => i = .int .i64 0 ∧ Quiet w1 wr) (fun i _ => 0)
    case atStart => exact ⟨rfl, Quiet.refl _⟩
    case round =>
      obtain ⟨rfl, hq⟩ := hrel
      go_wp2_with fail
      go_ret
      exact ⟨_, rfl, hp1.quiet hq⟩
  · go_enter Try.func57, Try.ntmps57
    go_wp2_with fail
    refine (mul1_any n hn _).mono ?_
    rintro e w1 ⟨rfl, rfl⟩
    go_wp2_with (first
      | (at_make; refine wpList_make_hp rfl (.tmp 29) (.tmp 29) 28 rfl TInts rfl (Hp.refl _) .i64 .i64 _ _ n rfl rfl rfl rfl (by omega) (by omega) ?_; intro g w1 hp1)
      | (refine wpList_copy_hp rfl (.tmp 31) (.tmp 32) 28 rfl hp1 0 TInts rfl 0 n n ⟨b, off, none⟩ 1 cap rfl rfl [.int .i64 c] (Nat.min_eq_left (show 1 ≤ n by omega)).symm (src1 ((hp1.below.cell (World.block_lt_of_cell? w _ hcell)).trans hcell)) (by simp; omega) (by simp [Value.oneCell']) ?_; intro w2 hp2))
    go_loopw [8] (fun i wr => ∃ (m : Nat) (xs : List Int), 1 ≤ m ∧ m ≤ n ∧ i = .int .i64 m ∧ Hid (xs.length = n ∧ ∀ j, j < m → xs[j]? = some c) ∧
        Hp w.heap.size w wr [.row 3 1 (.slice (some ⟨g, 0, none⟩) n n) n (ints xs)]) (fun i _ => n - (intOf i).toNat)
    case atStart =>
      have h1 : (c :: List.replicate (n - 1) (0 : Int)).length = n := by simp; omega
      have h2 : ∀ j, j < 1 → (c :: List.replicate (n - 1) (0 : Int))[j]? = some c := by
        intro j hj
        obtain rfl : j = 0 := by omega
        rfl
      refine ⟨1, c :: List.replicate (n - 1) 0, by omega, by omega, rfl, ⟨h1, h2⟩, ?_⟩
      have e : ints (c :: List.replicate (n - 1) 0) = List.take 0 (List.replicate n (Value.int .i64 0)) ++ [.int .i64 c] ++ List.drop (0 + 1) (List.replicate n (Value.int .i64 0)) := by
        simp [ints]
      rw [e]
      exact hp2
    case round =>
      clear hp2 hp1 hcell
      obtain ⟨m, xs, hm1, hmn, rfl, hxs, hp⟩ := hrel
      by_cases hlt : m < n
      · obtain ⟨k, hk⟩ : ∃ k, k = Nat.min m (n - m) := ⟨_, rfl⟩
        have hkm : k ≤ m := by rw [hk]; exact Nat.min_le_left _ _
        have hkn : k ≤ n - m := by rw [hk]; exact Nat.min_le_right _ _
        have hk1 : 1 ≤ k := by rw [hk]; exact Nat.le_min.2 ⟨hm1, by omega⟩
        have HK := Lib.hid hk; clear hk
        obtain ⟨rc, rf, rb, rl⟩ := hp.rowAt 0 rfl
        have hsrc : ∀ j v, (List.replicate k (Value.int .i64 c))[j]? = some v → wr.cell? ((⟨g, 0, none⟩ : Addr).add j) = some v := by
          intro j v hj
          have hjk : j < k := by
            have := (List.getElem?_eq_some_iff.1 hj).1
            simpa using this
          rw [List.getElem?_replicate, if_pos hjk] at hj
          have e : (⟨g, 0, none⟩ : Addr).add j = ⟨g, j, none⟩ := by unfold Addr.add; split <;> simp_all
          rw [e, rc j (by omega)]
          rw [← hj, ints, List.getElem?_map, hxs.out.2 j (by omega)]
          rfl
        have HSRC := Lib.hid hsrc; clear hsrc rc rf
        have hne : ¬ n = m := by omega
        have hwr : IntKind.i64.wrap ((m : Int) + (k : Int)) = (m : Int) + (k : Int) := by rw [IntKind.wrap_i64] <;> omega
        go_wp2_with fail
        go_region_held3 (fun _ => True) (trivial)
          ((refine step_copy_hp (by rfl) (.tmp 41) (.tmp 44) 28 (by rfl) hp.drew 0 TInts rfl m (n - m) (n - m) ⟨g, 0, none⟩ m n (by rfl) (by rfl) (List.replicate k (.int .i64 c)) (by rw [List.length_replicate]; exact HK.out) HSRC.out (by rw [List.length_replicate]; omega) (by intro v hv; rw [List.eq_of_mem_replicate hv]; rfl) ?_; intro w2 hp2))
        go_wp2_with fail
        go_roundw
        case rel =>
          refine ⟨m + k, xs.take m ++ List.replicate k c ++ xs.drop (m + k), by omega, by omega, by rw [← Int.natCast_add], ⟨?_, ?_⟩, ?_⟩
          · have := hxs.out.1
            simp only [List.length_append, List.length_take, List.length_drop, List.length_replicate]
            omega
          · intro j hj
            have hl := hxs.out.1
            have e1 : (xs.take m).length = m := by rw [List.length_take]; omega
            rw [List.append_assoc]
            rcases Nat.lt_or_ge j m with h1 | h1
            · rw [List.getElem?_append_left (by omega), List.getElem?_take, if_pos h1]
              exact hxs.out.2 j h1
            · rw [List.getElem?_append_right (by omega), List.getElem?_append_left (by rw [List.length_replicate]; omega), List.getElem?_replicate, if_pos (by omega)]
          · have e : ints (xs.take m ++ List.replicate k c ++ xs.drop (m + k)) = List.take m (ints xs) ++ List.replicate k (Value.int .i64 c) ++ List.drop (m + (List.replicate k (Value.int .i64 c)).length) (ints xs) := by
              simp [ints]
            rw [e]
            exact hp2
        case measure => simp [intOf]; omega
      · obtain rfl : m = n := by omega
        have hx : xs = List.replicate m c := by
          apply List.ext_getElem?
          intro j
          rcases Nat.lt_or_ge j m with h1 | h1
          · rw [hxs.out.2 j h1, List.getElem?_replicate, if_pos h1]
          · rw [List.getElem?_eq_none (by rw [hxs.out.1]; exact h1), List.getElem?_eq_none (by simpa using h1)]
        subst hx
        go_wp2_with fail
        go_ret
        exact ⟨_, rfl, hp⟩
end Go.Proofs.Ytpbohmddbfaiiaa
