/-
  Part 19 of the proof: Sm38, Gr38, La38, Lc38, Un39, Pa36. No statement of the seat is proved here.
-/
import Derived.Test.YtdigdmnnjbndlaaGreatDoorMHTa3918
namespace Go.Proofs.YtdigdmnnjbndlaaGreatDoor
open Go.RowKit
def CV (l : List (Int × Int)) (j : Nat) : Nat → Value
  | 0 => .int .i64 (l.getD j (0, 0)).1
  | _ => .int .i64 (l.getD j (0, 0)).2
def Chs (w : World) (v : Value) (l : List (Int × Int)) : Prop := Sl2 w v 2 l.length (CV l)
theorem Chs.below {w w' : World} {v : Value} {l : List (Int × Int)} (h : Chs w v l) (hb : Below w.heap.size w w') : Chs w' v l := Sl2.below h hb
end Go.Proofs.YtdigdmnnjbndlaaGreatDoor
namespace Go.Proofs.YtdigdmnnjbndlaaGreatDoor
open Go.RowKit
theorem anyD_hit {α : Type} (xs : List α) (d : α) (p : α → Bool) (k : Nat) (h : k < xs.length) (e : p (xs.getD k d) = true) : xs.any p = true := by
  rw [getD_lt _ _ _ h] at e
  exact List.any_eq_true.2 ⟨_, List.getElem_mem h, e⟩
theorem anyD_none {α : Type} (xs : List α) (d : α) (p : α → Bool) (h : ∀ k, k < xs.length → p (xs.getD k d) = false) : xs.any p = false := by
  rw [List.any_eq_false]
  intro x hx
  obtain ⟨k, hk, rfl⟩ := List.getElem_of_mem hx
  have := h k hk
  rw [getD_lt _ _ _ hk] at this
  rw [this]; simp
end Go.Proofs.YtdigdmnnjbndlaaGreatDoor
namespace Go.Proofs.YtdigdmnnjbndlaaGreatDoor
open Go.RowKit
def ex1 : Stem := ⟨[⟨#[120]⟩, ⟨#[65]⟩, ⟨#[66]⟩, ⟨#[67]⟩], [false, true, true, true], [[], [0], [0], [0]]⟩
end Go.Proofs.YtdigdmnnjbndlaaGreatDoor
namespace Go.Proofs.YtdigdmnnjbndlaaGreatDoor
open Go.RowKit
set_option maxRecDepth 100000 in
set_option maxHeartbeats 4000000 in
theorem indexF_tab_sat (v : Value) (N : Nat) (e : Nat → Value) (p : Nat → Bool) (g : FuncId) (cs : Array Value) (w : World) (h : Sl w v 1 N e) (hf : ∀ k, k < N → ∀ w1, Below w.heap.size w w1 → SatV Tryz.prog g (e k :: cs.toList) w1 (.bool (p k))) :
    Sat Tryz.prog 160 [v, .func (.func g) #[] cs] w (IdxR p N) := by
  have hN := h.bound
  refine SatL.of 19 [4] Tryz.func160 (by kernel_rfl) (by kernel_rfl) rfl rfl rfl rfl ?_
  repeat' (first|(apply OK_seq)|(apply thenQ_n)|(apply OK_region)|(apply OKx_nilK)|(apply OK_block)|(apply blockQ_n)|(apply blockQ_s)|(apply thenQ_e)|(apply blockQ_e;exact rfl)|(apply thenQ_r)|(apply blockQ_r)|(apply OK_condT;exact rfl)|(apply OK_condF;exact rfl)|(apply OK_skip)|(apply OK_exit)|(apply OK_ret)|(apply OKx_move;(conv=>lhs;whnf)<;>exact rfl)|(apply OKx_assign;(conv=>lhs;whnf)<;>exact rfl)|(apply OKx_ldB;exact rfl;(first | exact at0|exact at1|exact at2|exact at3|exact at4|exact at5|exact at6|exact at7);exact rfl)|(apply OKx_ldR;(conv=>lhs;whnf)<;>exact rfl;(with_reducible assumption))|(apply OKx_len;exact rfl)|(apply OKx_lenR;(conv=>lhs;whnf)<;>exact rfl;(with_reducible assumption))|(apply OKx_lenR2;(conv=>lhs;whnf)<;>exact rfl;(with_reducible assumption))|(apply OKx_lenO;(conv=>lhs;whnf)<;>exact rfl;(first | exact at0|exact at1|exact at2|exact at3|exact at4|exact at5|exact at6|exact at7))|(apply OKx_lss;exact rfl;exact rfl;all_goals (intro _; try (exfalso;omega)))|(apply OKx_idxO;exact rfl;exact rfl;omega)|(apply OKx_idxR;(conv=>lhs;whnf)<;>exact rfl;(with_reducible assumption);exact rfl;omega;intro _ _)|(apply OKx_idxOz;exact rfl;exact rfl;omega;omega)|(apply OKx_idxRz;(conv=>lhs;whnf)<;>exact rfl;(with_reducible assumption);exact rfl;omega;omega;intro _ _)|(apply OKx_inc;exact rfl;exact rfl;omega)|(apply OKx_addN;exact rfl;exact rfl;omega)|(apply OKx_add;exact rfl;exact rfl;omega;omega))
  refine OK_loop1 8 [4, 5, 8, 9, 10, 11, 12, 13, 14, 15, 16, 17, 18] (fun m v L => ∃ k : Nat, k + m = N ∧ v = .int .i64 (k : Int) ∧ (∀ j, j < k → p j = false) ∧ L = []) N [] (Ent.refl _ _) ⟨0, by omega, rfl, fun j hj => absurd hj (by omega), rfl⟩ ?_
  rintro m v' L G ⟨k, hm, rfl, H, rfl⟩
  repeat' (first|(apply OK_seq)|(apply thenQ_n)|(apply OK_region)|(refine OKx_callB (f := g) rfl rfl rfl (fun w hp => hf k (by omega) w hp.below) ?_ ?_ <;> intro hq)|(apply OKx_nilK)|(apply OK_block)|(apply blockQ_n)|(apply blockQ_s)|(apply thenQ_e)|(apply blockQ_e;exact rfl)|(apply thenQ_r)|(apply blockQ_r)|(apply OK_condT;exact rfl)|(apply OK_condF;exact rfl)|(apply OK_skip)|(apply OK_exit)|(apply OK_ret)|(apply OKx_move;(conv=>lhs;whnf)<;>exact rfl)|(apply OKx_assign;(conv=>lhs;whnf)<;>exact rfl)|(apply OKx_ldB;exact rfl;(first | exact at0|exact at1|exact at2|exact at3|exact at4|exact at5|exact at6|exact at7);exact rfl)|(apply OKx_ldR;(conv=>lhs;whnf)<;>exact rfl;(with_reducible assumption))|(apply OKx_len;exact rfl)|(apply OKx_lenR;(conv=>lhs;whnf)<;>exact rfl;(with_reducible assumption))|(apply OKx_lenR2;(conv=>lhs;whnf)<;>exact rfl;(with_reducible assumption))|(apply OKx_lenO;(conv=>lhs;whnf)<;>exact rfl;(first | exact at0|exact at1|exact at2|exact at3|exact at4|exact at5|exact at6|exact at7))|(apply OKx_lss;exact rfl;exact rfl;all_goals (intro _; try (exfalso;omega)))|(apply OKx_idxO;exact rfl;exact rfl;omega)|(apply OKx_idxR;(conv=>lhs;whnf)<;>exact rfl;(with_reducible assumption);exact rfl;omega;intro _ _)|(apply OKx_idxOz;exact rfl;exact rfl;omega;omega)|(apply OKx_idxRz;(conv=>lhs;whnf)<;>exact rfl;(with_reducible assumption);exact rfl;omega;omega;intro _ _)|(apply OKx_inc;exact rfl;exact rfl;omega)|(apply OKx_addN;exact rfl;exact rfl;omega)|(apply OKx_add;exact rfl;exact rfl;omega;omega))
  · refine bodyQ_r1 (by ((conv=>lhs;whnf)<;>exact rfl)) ?_
    exact ⟨_, Ent.refl _ _, _, rfl, rfl, by rw [anyN_hit (by omega) hq, decide_eq_true (by omega)]⟩
  · refine ⟨by (repeat' (first | refine agree_upd rfl ?_ | exact agree_over | exact agree_refl _ _ | refine agree_over2 rfl ?_)), m - 1, _, by omega, Ent.refl _ _, ?_⟩
    refine ⟨k + 1, by omega, rfl, fun j hj => ?_, rfl⟩
    by_cases hjk : j < k
    · exact H j hjk
    · obtain rfl : j = k := by omega
      exact hq
  · refine bodyQ_r1 (by ((conv=>lhs;whnf)<;>exact rfl)) ?_
    exact ⟨_, Ent.refl _ _, _, rfl, rfl, by rw [anyN_none fun j hj => H j (by omega)]; rfl⟩
set_option maxRecDepth 100000 in
set_option maxHeartbeats 4000000 in
theorem containsF_tab_sat (v : Value) (N : Nat) (e : Nat → Value) (p : Nat → Bool) (g : FuncId) (cs : Array Value) (w : World) (h : Sl w v 1 N e) (hf : ∀ k, k < N → ∀ w1, Below w.heap.size w w1 → SatV Tryz.prog g (e k :: cs.toList) w1 (.bool (p k))) :
    SatV Tryz.prog 137 [v, .func (.func g) #[] cs] w (.bool (anyN p N)) := by
  refine SatL.of 9 [4] Tryz.func137 (by kernel_rfl) (by kernel_rfl) rfl rfl rfl rfl ?_
  repeat' (first|(apply OK_seq)|(apply thenQ_n)|(apply OK_region)|(apply OKx_gc 160;exact rfl; refine OKx_call (f := 160) rfl rfl (fun w hp => indexF_tab_sat v N e p g cs w (h.below hp.below) (fun k hk w1 hb => hf k hk w1 (below_on hp.below hb))) ?_; rintro _ _ ⟨i, rfl, rfl, hi⟩)|(apply OKx_nilK)|(apply OK_block)|(apply blockQ_n)|(apply blockQ_s)|(apply thenQ_e)|(apply blockQ_e;exact rfl)|(apply thenQ_r)|(apply blockQ_r)|(apply OK_condT;exact rfl)|(apply OK_condF;exact rfl)|(apply OK_skip)|(apply OK_exit)|(apply OK_ret)|(apply OKx_move;(conv=>lhs;whnf)<;>exact rfl)|(apply OKx_assign;(conv=>lhs;whnf)<;>exact rfl)|(apply OKx_geq;exact rfl;exact rfl;all_goals (intro _; try (exfalso;omega))))
  all_goals
    refine bodyQ_r1 (by ((conv=>lhs;whnf)<;>exact rfl)) ?_
    exact ⟨_, Ent.refl _ _, bool_eq (by rw [hi]; simp;omega), rfl⟩
theorem Pt.below {w w' : World} {p : Value} {sz : Nat} {f : Nat → Value} (h : Pt w p sz f) (hb : Below w.heap.size w w') : Pt w' p sz f := by
  obtain ⟨b, o, rfl, hc⟩ := h
  exact ⟨b, o, rfl, fun j hj => (hb.cell (World.block_lt_of_cell? w _ (hc j hj))).trans (hc j hj)⟩
end Go.Proofs.YtdigdmnnjbndlaaGreatDoor
namespace Go.Proofs.YtdigdmnnjbndlaaGreatDoor
open Go.RowKit
section
variable {P : Program} {n : Nat} {w0 : World} {K : Fm → List Res → Prop} {F : Fm} {L : List Res} {ops : Array Oper} {rest : List Oper}
theorem OKx_world {Lw : List Res} (h : ∀ w, Hp w0.heap.size w0 w L → OKx P n w0 (.seq Lw) ops K rest F L) : OKx P n w0 (.seq Lw) ops K rest F L := by
  unfold OKx
  intro w a hf hp
  exact (h w hp).use w a hf hp
end
end Go.Proofs.YtdigdmnnjbndlaaGreatDoor
namespace Go.Proofs.YtdigdmnnjbndlaaGreatDoor
open Go.RowKit
theorem strs_at (ws : List ByteArray) (k : Nat) (h : k < ws.length) : (strs ws)[k]? = some (.string (ws.getD k ByteArray.empty)) := by
  unfold strs
  rw [List.getElem?_map, List.getElem?_eq_getElem h, getD_lt _ _ _ h]
  rfl
set_option maxRecDepth 100000 in
set_option maxHeartbeats 4000000 in
theorem conS_sat (v : Value) (xs : List ByteArray) (x : ByteArray) (w : World) (h : Strs w v xs) : SatV Tryz.prog 47 [v, .string x] w (.bool (Lib.containsS xs x)) :=
  Sat.lib ⟨_, _, Tryz.func47, by kernel_rfl, rfl⟩ fun w1 hb => (contains_str v xs x w1 (h.below hb)).mono fun e w' ⟨h1, h2⟩ => by
    subst h2
    exact ⟨_, [], h1, Hp.refl w1, rfl, rfl⟩
theorem Strs.drop {w : World} {g n cap o' : Nat} {xs : List ByteArray} (h : Strs w (.slice (some ⟨g, 0, none⟩) n cap) xs) (k : Nat) (hk : k ≤ xs.length) (ho : k < cap → o' = 0 + k * 1) : Strs w (.slice (some ⟨g, o', none⟩) (n - k) (cap - k)) (xs.drop k) := by
  obtain ⟨⟨hl, ⟨a', c', hv, hc⟩, hr⟩, h2⟩ := h
  simp only [Value.slice.injEq] at hv
  obtain ⟨rfl, rfl, rfl⟩ := hv
  have hcap := hr _ _ _ rfl
  have hlen : (xs.drop k).length = xs.length - k := List.length_drop
  refine ⟨⟨by omega, ⟨_, cap - k, by rw [hlen], ?_⟩, fun a1 m c hv => ?_⟩, fun s hs => h2 s (List.mem_of_mem_drop hs)⟩
  case refine_2 =>
    simp only [Value.slice.injEq] at hv
    omega
  rw [hlen]
  by_cases h0 : xs.length - k = 0
  · exact .inl h0
  right
  refine ⟨g, o', rfl, fun j hj => ?_⟩
  rcases hc with hc | ⟨b, off, ha, hc⟩
  · omega
  simp only [Option.some.injEq, Addr.mk.injEq] at ha
  obtain ⟨rfl, rfl, _⟩ := ha
  have := hc (k + j) (by omega)
  rw [ho (by omega), Nat.add_assoc, Nat.mul_one]
  rw [this]
  simp [List.getD_eq_getElem?_getD, List.getElem?_drop]
theorem Hp.drop6 {B : Nat} {w0 w : World} {a b c d e f : Res} {L : List Res} (h : Hp B w0 w (a :: b :: c :: d :: e :: f :: L)) : Hp B w0 w L := h.drop1.drop1.drop1.drop1.drop1.drop1
end Go.Proofs.YtdigdmnnjbndlaaGreatDoor
