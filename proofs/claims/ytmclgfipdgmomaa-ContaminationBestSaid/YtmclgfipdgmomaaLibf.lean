/-
  Contracts of the library's functions on slices, said of the readings. No statement of the seat is proved here.
-/
import Derived.Test.YtmclgfipdgmomaaData
import Derived.Test.YtmclgfipdgmomaaShelf
namespace Go.Proofs.Ytmclgfipdgmomaa
open Go.RowKit

/-- Nothing has changed but that answers have been drawn. -/
def Quiet (w w' : World) : Prop := ∃ n, w' = w.drewN n
theorem Quiet.refl (w : World) : Quiet w w := ⟨0, rfl⟩
theorem Quiet.of_eq {w w' : World} (h : w = w') : Quiet w w' := ⟨0, h.symm⟩
theorem Quiet.trans {a b c : World} (h : Quiet a b) (k : Quiet b c) : Quiet a c := by
  obtain ⟨n, rfl⟩ := h
  obtain ⟨m, rfl⟩ := k
  exact ⟨n + m, by simp only [World.drewN, Nat.add_assoc]⟩
theorem Quiet.drew {a b : World} (h : Quiet a b) : Quiet a b.drew := h.trans ⟨1, rfl⟩
theorem Quiet.cell {w w' : World} (h : Quiet w w') (a : Addr) : w'.cell? a = w.cell? a := by
  obtain ⟨n, rfl⟩ := h; rfl
theorem Quiet.size {w w' : World} (h : Quiet w w') : w'.heap.size = w.heap.size := by
  obtain ⟨n, rfl⟩ := h; rfl
theorem Quiet.below {w w' : World} (h : Quiet w w') : Below w.heap.size w w' := by
  obtain ⟨n, rfl⟩ := h
  exact below_drewN (Below.refl _ _) n
theorem Hp.quiet {B : Nat} {w0 w w' : World} {L : List Res} (h : Hp B w0 w L) (q : Quiet w w') : Hp B w0 w' L := by
  obtain ⟨n, rfl⟩ := q; exact h.drewN n
theorem Quiet.hp {w w' : World} (q : Quiet w w') : Hp w.heap.size w w' [] := (Hp.refl w).quiet q

/-- Is a number in a list? -/
def hasI (xs : List Int) (n : Int) : Bool := xs.contains n

theorem contains_int (v : Value) (xs : List Int) (x : Int) (w : World) (h : Ints w v xs) :
    Calls Try.prog 28 #[v, .int .i64 x] w fun e w' => e = .returned (.bool (hasI xs x)) ∧ w = w' := by
  obtain ⟨hl, ⟨a, cap, rfl, hc⟩, _⟩ := h
  rcases hc with h0 | ⟨b, off, rfl, hc⟩
  · have hx : xs = [] := List.eq_nil_of_length_eq_zero h0
    subst hx
    exact (Try.slices_Contains_int_empty a cap x w).mono fun e w' ⟨h1, h2⟩ => ⟨by rw [h1]; rfl, h2.symm⟩
  · refine (Try.slices_Contains_int b off xs.length cap xs x w (Nat.le_refl _) (by omega) (fun j hj => ?_)).mono fun e w' ⟨h1, h2⟩ => ⟨by rw [h1, List.take_length]; rfl, h2.symm⟩
    exact hc j (by omega)

theorem contains_str (v : Value) (xs : List ByteArray) (x : ByteArray) (w : World) (h : Strs w v xs) :
    Calls Try.prog 80 #[v, .string x] w fun e w' => e = .returned (.bool (Lib.containsS xs x)) ∧ w = w' := by
  obtain ⟨⟨hl, ⟨a, cap, rfl, hc⟩, _⟩, _⟩ := h
  rcases hc with h0 | ⟨b, off, rfl, hc⟩
  · have hx : xs = [] := List.eq_nil_of_length_eq_zero h0
    subst hx
    exact (Try.slices_Contains_string_empty a cap x w).mono fun e w' ⟨h1, h2⟩ => ⟨by rw [h1]; rfl, h2.symm⟩
  · refine (Try.slices_Contains_string b off xs.length cap xs x w (Nat.le_refl _) (by omega) (fun j hj => ?_)).mono fun e w' ⟨h1, h2⟩ => ⟨?_, h2.symm⟩
    · exact hc j (by omega)
    · rw [h1, List.take_length]

theorem equal_int (v u : Value) (xs ys : List Int) (w : World) (h : Ints w v xs) (k : Ints w u ys) :
    Calls Try.prog 25 #[v, u] w fun e w' => e = .returned (.bool (xs == ys)) ∧ Quiet w w' := by
  obtain ⟨hl, ⟨a, cap, rfl, hc⟩, _⟩ := h
  obtain ⟨kl, ⟨b, dap, rfl, kc⟩, _⟩ := k
  by_cases hn : xs.length = ys.length
  · rcases hc with h0 | ⟨b1, off, rfl, hc⟩
    · have hx : xs = [] := List.eq_nil_of_length_eq_zero h0
      subst hx
      have hy : ys = [] := List.eq_nil_of_length_eq_zero hn.symm
      subst hy
      refine (Try.slices_Equal_int_empty a b cap 0 dap w (by omega)).mono fun e w' ⟨h1, h2⟩ => ⟨by rw [h1]; rfl, ?_⟩
      rw [h2]; exact Quiet.refl _
    · rcases kc with k0 | ⟨b2, off2, rfl, kc⟩
      · have hy : ys = [] := List.eq_nil_of_length_eq_zero k0
        subst hy
        have hx : xs = [] := List.eq_nil_of_length_eq_zero hn
        subst hx
        refine (Try.slices_Equal_int_empty (some ⟨b1, off, none⟩) b cap 0 dap w (by omega)).mono fun e w' ⟨h1, h2⟩ => ⟨by rw [h1]; rfl, ?_⟩
        rw [h2]; exact Quiet.refl _
      · refine (Try.slices_Equal_int b1 off xs.length cap b2 off2 ys.length dap xs ys w (Nat.le_refl _) (Nat.le_refl _) (by omega) (by omega) (fun j hj => hc j (by omega)) (fun j hj => kc j (by omega))).mono fun e w' ⟨h1, h2⟩ => ⟨?_, h2⟩
        rw [h1, List.take_length, List.take_length]
  · refine (Try.slices_Equal_int_lens a b xs.length cap ys.length dap w hn).mono fun e w' ⟨h1, h2⟩ => ⟨?_, by rw [h2]; exact Quiet.refl _⟩
    have : (xs == ys) = false := by
      rw [beq_eq_false_iff_ne]
      intro e; exact hn (by rw [e])
    rw [h1, this]

/-- slices.Clone: a row of the call's own (nil for nil). -/
theorem clone_int (v : Value) (xs : List Int) (w : World) (h : Ints w v xs) (hb : xs.length ≤ 1000000) :
    Calls Try.prog 30 #[v] w fun e w' => ∃ v', e = .returned v' ∧ Hp w.heap.size w w' [irow v' xs] := by
  obtain ⟨hl, ⟨a, cap, rfl, hc⟩, _⟩ := h
  have own : ∀ {v' : Value} {w' : World}, w'.ownsRow w.heap.size 3 1 v' xs.length (ints xs) → Below w.heap.size w w' → Hp w.heap.size w w' [irow v' xs] := by
    intro v' w' h1 h2
    refine (Hp.refl w).fresh h1 h2 fun k hk => ?_
    exact (World.ownsRow.lt h1 k hk).1
  rcases hc with h0 | ⟨b, off, rfl, hc⟩
  · have hx : xs = [] := List.eq_nil_of_length_eq_zero h0
    subst hx
    cases a with
    | none => exact (Try.slices_Clone_int_nil 0 cap w).mono fun e w' ⟨h1, h2⟩ => ⟨_, h1, by rw [h2]; exact (Hp.refl w).nil _ _⟩
    | some a => exact (Try.slices_Clone_int_zero a cap w).mono fun e w' ⟨v', h1, h2, _, h4⟩ => ⟨v', h1, own h2 h4⟩
  · refine (Try.slices_Clone_int b off xs.length cap xs w (Nat.le_refl _) (by omega) (fun j hj => hc j (by omega))).mono fun e w' ⟨v', h1, h2, _, h4⟩ => ⟨v', h1, own ?_ h4⟩
    rw [List.take_length] at h2
    exact h2

/-- A function of the program that has a body is entered. -/
def Enters (f : FuncId) : Prop := ∀ (args : Array Value) (w : World), (callFunc f args).run Try.prog w = .ok (.enter f args) w
theorem enters_of {f : FuncId} {fn : Func} {c : Code} (hf : Try.prog.funcs[f]? = some fn) (hn : (fn.name == "runtime.NumGoroutine") = false) (hb : fn.body = some c) : Enters f := by
  intro args w
  have hn' : ¬ fn.name = "runtime.NumGoroutine" := by simpa using hn
  simp [callFunc, hf, hn', hb, Sem.run_bind, program, Sem.run, Result.andThen]

/-- What a predicate that is handed over does: it answers p, and changes nothing. -/
structure PredI (f : FuncId) (caps : Array Value) (w : World) (xs : List Int) (p : Int → Bool) : Prop where
  enters : Enters f
  call : ∀ x ∈ xs, ∀ w1, Quiet w w1 → Calls Try.prog f (#[.int .i64 x] ++ caps) w1 fun e w' => e = .returned (.bool (p x)) ∧ Quiet w1 w'

def findI (p : Int → Bool) (xs : List Int) : Int := match xs.findIdx? p with | some i => (i : Int) | none => -1

theorem findI_hit (p : Int → Bool) (xs : List Int) (k : Nat) (hk : k < xs.length) (h0 : ∀ j, (hj : j < k) → p (xs[j]'(by omega)) = false) (h1 : p xs[k] = true) : findI p xs = k := by
  have : xs.findIdx? p = some k := by
    rw [List.findIdx?_eq_some_iff_getElem]
    exact ⟨hk, h1, fun j hj => by simp [h0 j hj]⟩
  rw [findI, this]
theorem findI_miss (p : Int → Bool) (xs : List Int) (h0 : ∀ j, (hj : j < xs.length) → p xs[j] = false) : findI p xs = -1 := by
  have : xs.findIdx? p = none := by
    rw [List.findIdx?_eq_none_iff]
    intro x hx
    obtain ⟨j, hj, rfl⟩ := List.getElem_of_mem hx
    exact h0 j hj
  rw [findI, this]
theorem findI_any (p : Int → Bool) (xs : List Int) : decide (0 ≤ findI p xs) = xs.any p := by
  unfold findI
  cases h : xs.findIdx? p with
  | none =>
    rw [List.findIdx?_eq_none_iff] at h
    have : xs.any p = false := by rw [List.any_eq_false]; exact fun x hx => by simp [h x hx]
    rw [this]; rfl
  | some i =>
    rw [List.findIdx?_eq_some_iff_getElem] at h
    obtain ⟨hi, h1, _⟩ := h
    have : xs.any p = true := List.any_eq_true.2 ⟨_, List.getElem_mem hi, h1⟩
    rw [this]; simp

set_option maxHeartbeats 1000000 in
theorem indexFunc_int (v : Value) (xs : List Int) (f : FuncId) (caps : Array Value) (p : Int → Bool) (w : World) (h : Ints w v xs) (hf : PredI f caps w xs p) :
    Calls Try.prog 78 #[v, .func (.func f) #[] caps] w fun e w' => e = .returned (.int .i64 (findI p xs)) ∧ Quiet w w' := by
  obtain ⟨a, cap, rfl, hl, hc⟩ := h.at
  have HC := Lib.hid hc; clear hc
  have hen := hf.enters
  unfold Enters at hen
  have HF := Lib.hid hf.call; clear hf
  go_enter Try.func78, Try.ntmps78
  go_wp2_with fail
  go_loopw [8] (fun i wr => ∃ k : Nat, k ≤ xs.length ∧ i = .int .i64 k ∧ Hid (∀ j, (hj : j < k) → (hj2 : j < xs.length) → p xs[j] = false) ∧ Quiet w wr) (fun i _ => xs.length - (intOf i).toNat)
  case atStart => exact ⟨0, by omega, rfl, fun j hj => absurd hj (by omega), Quiet.refl w⟩
  case round =>
    obtain ⟨k, hk, rfl, hno, hq⟩ := hrel
    by_cases hlt : k < xs.length
    · obtain ⟨b, off, rfl, hcell⟩ := HC.out k hlt
      have hcell : wr.cell? ⟨b, off + k, none⟩ = some (.int .i64 xs[k]) := (hq.cell _).trans hcell
      have hcall := HF.out xs[k] (List.getElem_mem hlt) wr hq
      have HCALL := Lib.hid hcall; clear hcall
      generalize hx : xs[k] = x at *
      have HX := Lib.hid hx; clear hx
      go_wp2_with fail
      refine HCALL.out.mono ?_
      rintro e w1 ⟨rfl, hq1⟩
      have HQ := Lib.hid (hq.trans hq1)
      cases hp : p x with
      | true =>
        go_wp2_with fail
        go_ret
        refine ⟨ret_int ?_, HQ.out⟩
        exact (findI_hit p xs k hlt (fun j hj => hno.out j hj (by omega)) (by rw [HX.out]; exact hp)).symm
      | false =>
        go_wp2_with fail
        go_roundw
        case rel =>
          refine ⟨k + 1, by omega, by go_num, ?_, HQ.out⟩
          intro j hj hj2
          rcases Nat.lt_or_ge j k with h1 | h1
          · exact hno.out j h1 hj2
          · obtain rfl : j = k := by omega
            rw [HX.out]; exact hp
        case measure => simp [intOf]; omega
    · obtain rfl : k = xs.length := by omega
      go_wp2_with fail
      go_ret
      exact ⟨ret_int (findI_miss p xs (fun j hj => hno.out j hj hj)).symm, hq⟩

set_option maxHeartbeats 1000000 in
theorem containsFunc_int (v : Value) (xs : List Int) (f : FuncId) (caps : Array Value) (p : Int → Bool) (w : World) (h : Ints w v xs) (hf : PredI f caps w xs p) :
    Calls Try.prog 45 #[v, .func (.func f) #[] caps] w fun e w' => e = .returned (.bool (xs.any p)) ∧ Quiet w w' := by
  have HF := Lib.hid hf; clear hf
  have HH := Lib.hid h; clear h
  have HA := Lib.hid (findI_any p xs)
  go_enter Try.func45, Try.ntmps45
  go_wp2_with fail
  refine (indexFunc_int v xs f caps p w HH.out HF.out).mono ?_
  rintro e w1 ⟨rfl, hq⟩
  go_wp2_with fail
  go_ret
  exact ⟨ret_bool HA.out, hq⟩
end Go.Proofs.Ytmclgfipdgmomaa
