/-
  Part 23 of the proof: Pz38, Ts38. No statement of the seat is proved here.
-/
import Derived.Test.YtpknpbeiifjmgaaDoorMHSa3822
namespace Go.Proofs.YtpknpbeiifjmgaaDoor
open Go.RowKit
def satS (s : Stem) (i : Nat) : Nat → Stem
  | 0 => s
  | k + 1 => if extE (satS s i k) (i : Int) (k : Int) = 0 then extS (satS s i k) (i : Int) (k : Int) else satS s i k
def satA (par : List (List Int)) (s : Stem) : Nat → Stem
  | 0 => s
  | i + 1 => if (par.getD i []).length = 0 then satA par s i else satS (satA par s i) i i
theorem ext_way {s : Stem} {i k : Nat} (h : stCheck s = 0) (hi : i < s.names.length) (hk : k < i) : extE s (i : Int) (k : Int) = 0 ∧ hasI (s.par.getD i []) (k : Int) = false ∨ extE s (i : Int) (k : Int) = 7 ∧ hasI (s.par.getD i []) (k : Int) = true := by
  unfold extE
  rw [if_neg (fun h2 => h2 h), if_neg (by omega), if_neg (by omega), Int.toNat_natCast]
  cases hh : hasI (s.par.getD i []) (k : Int) with
  | true => exact .inr ⟨if_pos rfl, rfl⟩
  | false => exact .inl ⟨if_neg (by simp), rfl⟩
theorem ext_mem {s : Stem} {i k : Nat} (h : stCheck s = 0) (hi : i < s.names.length) (hk : k < i) (he : extE s (i : Int) (k : Int) = 0) (j : Nat) (hj : j < s.names.length) (p : Int) : p ∈ (extS s (i : Int) (k : Int)).par.getD j [] ↔ (j = i ∧ p = (k : Int)) ∨ p ∈ s.par.getD j [] := by
  obtain ⟨_, h64, _, hpl, _⟩ := stCheck_len s h
  have hok := stCheck_okPar s h
  simp only [extS, Int.toNat_natCast]
  by_cases e : j = i
  · subst e
    rw [getD_lt _ _ _ (by rw [List.length_set];omega), List.getElem_set_self]
    unfold extP
    rw [srtK_mem, Int.toNat_natCast, List.mem_cons]
    constructor
    · rintro ⟨h1 | h1, _, _⟩
      · exact .inl ⟨rfl, h1⟩
      · exact .inr h1
    · rintro (⟨_, h1⟩ | h1)
      · exact ⟨.inl h1, by omega, by omega⟩
      · have h2 := h1
        rw [getD_lt _ _ _ (by omega)] at h2
        have := hok j (by omega) p h2
        exact ⟨.inr h1, by omega, by omega⟩
  · rw [List.getD_eq_getElem?_getD, List.getElem?_set_ne (fun h => e h.symm), ← List.getD_eq_getElem?_getD]
    constructor
    · exact fun h => .inr h
    · rintro (⟨h1, _⟩ | h1)
      · exact absurd h1 e
      · exact h1
theorem satS_ok {s : Stem} {i : Nat} (h : stCheck s = 0) (hi : i < s.names.length) : ∀ k, k ≤ i → stCheck (satS s i k) = 0 ∧ (satS s i k).names = s.names ∧ (satS s i k).ext = s.ext ∧ (satS s i k).par.length = s.par.length ∧
    ∀ j, j < s.names.length → ∀ p : Int, p ∈ (satS s i k).par.getD j [] ↔ (j = i ∧ 0 ≤ p ∧ p < (k : Int)) ∨ p ∈ s.par.getD j []
  | 0, _ => ⟨h, rfl, rfl, rfl, fun j _ p => ⟨fun h => .inr h, fun h => h.elim (fun h => by omega) id⟩⟩
  | k + 1, hk => by
    obtain ⟨h1, h2, h4, h3, h5⟩ := satS_ok h hi k (by omega)
    have hi2 : i < (satS s i k).names.length := by rw [h2]; exact hi
    rcases ext_way (k := k) h1 hi2 (by omega) with ⟨he, hn⟩ | ⟨he, hn⟩
    · rw [satS, if_pos he]
      refine ⟨extS_valid he, h2, h4, by rw [← h3, extS, List.length_set], fun j hj p => ?_⟩
      rw [ext_mem h1 hi2 (by omega) he j (by rw [h2]; exact hj), h5 j hj]
      constructor
      · rintro (⟨h6, h7⟩ | ⟨h6, h7, h8⟩ | h6)
        · exact .inl ⟨h6, by omega, by omega⟩
        · exact .inl ⟨h6, by omega, by omega⟩
        · exact .inr h6
      · rintro (⟨h6, h7, h8⟩ | h6)
        · by_cases hp : p = (k : Int)
          · exact .inl ⟨h6, hp⟩
          · exact .inr (.inl ⟨h6, h7, by omega⟩)
        · exact .inr (.inr h6)
    · rw [satS, if_neg (by omega)]
      refine ⟨h1, h2, h4, h3, fun j hj p => ?_⟩
      rw [h5 j hj]
      constructor
      · rintro (⟨h6, h7, h8⟩ | h6)
        · exact .inl ⟨h6, h7, by omega⟩
        · exact .inr h6
      · rintro (⟨h6, h7, h8⟩ | h6)
        · by_cases hp : p = (k : Int)
          · have hm : (k : Int) ∈ (satS s i k).par.getD i [] := by unfold hasI at hn; rwa [List.contains_iff_mem] at hn
            rw [h5 i hi] at hm
            rw [h6, hp]
            exact hm
          · exact .inl ⟨h6, h7, by omega⟩
        · exact .inr h6
theorem satA_ok {s : Stem} (h : stCheck s = 0) : ∀ i, i ≤ s.names.length → stCheck (satA s.par s i) = 0 ∧ (satA s.par s i).names = s.names ∧ (satA s.par s i).ext = s.ext ∧ (satA s.par s i).par.length = s.par.length ∧
    ∀ j, j < s.names.length → ∀ p : Int, p ∈ (satA s.par s i).par.getD j [] ↔ (j < i ∧ (s.par.getD j []).length ≠ 0 ∧ 0 ≤ p ∧ p < (j : Int)) ∨ p ∈ s.par.getD j []
  | 0, _ => ⟨h, rfl, rfl, rfl, fun j _ p => ⟨fun h => .inr h, fun h => h.elim (fun h => by omega) id⟩⟩
  | i + 1, hi => by
    obtain ⟨h1, h2, h4, h3, h5⟩ := satA_ok h i (by omega)
    rw [satA]
    by_cases h0 : (s.par.getD i []).length = 0
    · rw [if_pos h0]
      refine ⟨h1, h2, h4, h3, fun j hj p => ?_⟩
      rw [h5 j hj]
      constructor
      · rintro (⟨h6, h7⟩ | h6)
        · exact .inl ⟨by omega, h7⟩
        · exact .inr h6
      · rintro (⟨h6, h7, h8⟩ | h6)
        · by_cases e : j = i
          · subst e; exact absurd h0 h7
          · exact .inl ⟨by omega, h7, h8⟩
        · exact .inr h6
    · rw [if_neg h0]
      have hi2 : i < (satA s.par s i).names.length := by rw [h2];omega
      obtain ⟨g1, g2, g4, g3, g5⟩ := satS_ok h1 hi2 i (Nat.le_refl _)
      refine ⟨g1, g2.trans h2, g4.trans h4, g3.trans h3, fun j hj p => ?_⟩
      rw [g5 j (by rw [h2]; exact hj), h5 j hj]
      constructor
      · rintro (⟨h6, h7, h8⟩ | ⟨h6, h7⟩ | h6)
        · subst h6; exact .inl ⟨by omega, h0, h7, h8⟩
        · exact .inl ⟨by omega, h7⟩
        · exact .inr h6
      · rintro (⟨h6, h7, h8, h9⟩ | h6)
        · by_cases e : j = i
          · subst e; exact .inl ⟨rfl, h8, h9⟩
          · exact .inr (.inl ⟨by omega, h7, h8, h9⟩)
        · exact .inr (.inr h6)
def anewB (par : List (List Int)) (st : List Int) (i : Nat) : Bool := decide ((par.getD i []).length ≠ 0) && !hasI (st.take i) (st.getD i 0)
def anewN (par : List (List Int)) (st : List Int) (k : Nat) : Nat := ((List.range k).filter (anewB par st)).length
theorem anewN_step (par : List (List Int)) (st : List Int) (k : Nat) : anewN par st (k + 1) = anewN par st k + if anewB par st k = true then 1 else 0 := by
  unfold anewN
  rw [List.range_succ, List.filter_append, List.length_append]
  by_cases h : anewB par st k = true
  · rw [if_pos h, List.filter_cons_of_pos h]; rfl
  · rw [if_neg h, List.filter_cons_of_neg h]; rfl
theorem sat_score {s : Stem} {st : List Int} (hc : chkC s st = 0) (h6 : s.names.length ≤ 6) (hk : ∀ x ∈ st, x ≠ -1) :
    stCheck (satA s.par s s.names.length) = 0 ∧ scE (satA s.par s s.names.length) st = 0 ∧ scN (satA s.par s s.names.length) st = (anewN s.par st s.par.length : Int) := by
  obtain ⟨hs, hl, hr⟩ := chkC_zero hc
  obtain ⟨h0, h64, hel, hpl, _⟩ := stCheck_len s hs
  have hok := stCheck_okPar s hs
  obtain ⟨g1, g2, g4, g3, g5⟩ := satA_ok hs s.names.length (Nat.le_refl _)
  have hpos : ∀ x ∈ st, 0 ≤ x := fun x hx => by have := hr x hx; have := hk x hx;omega
  have hck : chkC (satA s.par s s.names.length) st = 0 := by
    unfold chkC at hc ⊢
    rw [if_neg (fun h => h hs)] at hc
    rw [if_neg (fun h => h g1), g3]
    exact hc
  have hunk : ∀ l : List Int, (∀ x ∈ l, 0 ≤ x) → unk l = 0 := by
    intro l
    induction l with
    | nil => intro _; rfl
    | cons x l ih =>
      intro hx
      have := hx x List.mem_cons_self
      rw [unk, if_neg (by omega), ih (fun y hy => hx y (List.mem_cons_of_mem _ hy))]
  have hmn : many st = false := by
    unfold many
    rw [hunk st hpos]
    rfl
  have hE := scE_ok hck hmn
  refine ⟨g1, hE, ?_⟩
  have hN : scN (satA s.par s s.names.length) st = (bestA (costN (satA s.par s s.names.length).par) (asgs (occ st) st)).2 := if_neg (fun h => h hE)
  rw [hN, asgs_known _ _ hpos]
  have hone := bestA_spec (costN (satA s.par s s.names.length).par) [st] (by simp)
  rw [hone.2.1, List.mem_singleton.1 hone.1]
  unfold costN anewN
  rw [g3]
  congr 2
  refine List.filter_congr fun i hi => ?_
  rw [List.mem_range] at hi
  have h5 := g5 i (by omega)
  unfold chgB anewB
  by_cases hp : (s.par.getD i []).length = 0
  · have he : (satA s.par s s.names.length).par.getD i [] = [] := by
      refine List.eq_nil_iff_forall_not_mem.2 fun p hm => ?_
      rcases (h5 p).1 hm with ⟨_, h, _⟩ | h
      · exact h hp
      · rw [List.eq_nil_of_length_eq_zero hp] at h; cases h
    rw [he, decide_eq_false (fun h => h hp)]
    rfl
  · have hmem : ∀ p : Int, p ∈ (satA s.par s s.names.length).par.getD i [] ↔ 0 ≤ p ∧ p < (i : Int) := fun p => by
      rw [h5 p]
      constructor
      · rintro (⟨_, _, h⟩ | h)
        · exact h
        · rw [getD_lt _ _ _ (by omega)] at h
          exact hok i (by omega) p h
      · rintro h
        exact .inl ⟨by omega, hp, h⟩
    have hne : ((satA s.par s s.names.length).par.getD i []).isEmpty = false := by
      cases hq : (satA s.par s s.names.length).par.getD i [] with
      | nil =>
        exfalso
        obtain ⟨p, hp2⟩ := List.exists_mem_of_ne_nil (s.par.getD i []) (fun h => hp (by rw [h]; rfl))
        have := (h5 p).2 (.inr hp2)
        rw [hq] at this
        cases this
      | cons a l => rfl
    rw [hne, decide_eq_true hp, Bool.not_false, Bool.true_and, Bool.true_and]
    congr 1
    refine Bool.eq_iff_iff.2 ?_
    rw [List.any_eq_true]
    unfold hasI
    rw [List.contains_iff_mem, List.mem_take_iff_getElem]
    constructor
    · rintro ⟨p, hm, he⟩
      have hpr := (hmem p).1 hm
      rw [beq_iff_eq] at he
      refine ⟨p.toNat, by omega, ?_⟩
      rw [← he, getD_lt _ _ _ (by omega)]
    · rintro ⟨q, hq, he⟩
      refine ⟨(q : Int), (hmem _).2 ⟨by omega, by omega⟩, ?_⟩
      rw [beq_iff_eq, Int.toNat_natCast, getD_lt _ _ _ (by omega)]
      exact he
end Go.Proofs.YtpknpbeiifjmgaaDoor
namespace Go.Proofs.YtpknpbeiifjmgaaDoor
open Go.RowKit
theorem Ints.take3 {w : World} {a : Option Addr} {cap k : Nat} {xs : List Int} (hi : Ints w (.slice a xs.length cap) xs) (hh : k ≤ xs.length) : Ints w (.slice a k cap) (xs.take k) := by
  have hs := hi.sl
  have hr := hs.room _ _ _ rfl
  have hl : (xs.take k).length = k := by rw [List.length_take];omega
  obtain ⟨a', c', hv, hc⟩ := hs.out
  simp only [Value.slice.injEq] at hv
  obtain ⟨rfl, _, rfl⟩ := hv
  unfold Ints
  rw [hl]
  have h2 : Sl w (.slice a k cap) 1 k (fun j => .int .i64 (xs.getD j 0)) := by
    refine ⟨by have := hs.len;omega, ⟨a, cap, rfl, ?_⟩, fun a1 m c hv => by simp only [Value.slice.injEq] at hv;omega⟩
    by_cases h0 : k = 0
    · exact .inl h0
    · rcases hc with hc | ⟨b, off, ha, hc⟩
      · omega
      · exact .inr ⟨b, off, ha, fun j hj => hc j (by omega)⟩
  refine h2.congr fun j hj => ?_
  rw [List.getD_eq_getElem?_getD, List.getD_eq_getElem?_getD, List.getElem?_take_of_lt (by omega)]
set_option maxHeartbeats 2000000 in
set_option maxRecDepth 100000 in
set_option maxHeartbeats 4000000 in
theorem TopSaturated_sat (v av : Value) (s : Stem) (st : List Int) (w : World) (h : Stm w v s) (ha : Ints w av st) (haw : ∀ w1, SatV Tryd.prog 7 [] w1 (.bool true)) : SatV Tryd.prog 3 [v, av] w (.bool true) := by
  have hst := h
  have hgr := fun w1 (hb : Below w.heap.size w w1) => Great38_sat _ _ s st w1 (hst.below hb) (ha.below hb)
  have hck := fun w1 (hb : Below w.heap.size w w1) => rChk_sat _ _ s st w1 (hst.below hb) (ha.below hb)
  have hco := fun w1 (hb : Below w.heap.size w w1) => contains_int_sat _ st (-1) w1 (ha.below hb)
  obtain ⟨nv, ev, pv, rfl, hN, hE, hP⟩ := h
  obtain ⟨aa, ac, rfl, hat⟩ := ha.at
  have hnl := hN.sl
  have hnb := hnl.bound
  by_cases hf : great38 s st = false ∧ s.names.length ≤ 6 ∧ chkC s st = 0 ∧ hasI st (-1) = false
  rotate_left
  · refine SatL.of 92 [4] Tryd.func3 (by kernel_rfl) (by kernel_rfl) rfl rfl rfl rfl ?_
    repeat' (first|(apply OK_seq)|(apply thenQ_n)|(apply OK_region)|(apply OKx_gc 4;exact rfl; refine OKx_callB (f := 4) (b := great38 s st) rfl rfl rfl (fun w1 hp => hgr w1 hp.below) ?_ ?_ <;> intro hg)|(apply OKx_gc 5;exact rfl; refine OKx_callV (f := 5) rfl rfl rfl (fun w1 hp => hck w1 hp.below) ?_)|(apply OKx_gc 6;exact rfl; refine OKx_callB (f := 6) (b := hasI st (-1)) rfl rfl rfl (fun w1 hp => hco w1 hp.below) ?_ ?_ <;> intro hq)|(apply OKx_gc 7;exact rfl; refine OKx_callV (f := 7) rfl rfl rfl (fun w1 hp => haw w1) ?_)|(refine OK_rid 17 ?_; refine OK_quiet (id := 17) (by kernel_rfl) (by kernel_rfl) ?_)|(apply OKx_nilK)|(apply OK_block)|(apply blockQ_n)|(apply blockQ_s)|(apply thenQ_e)|(apply blockQ_e;exact rfl)|(apply thenQ_r)|(apply blockQ_r)|(apply OK_condT;exact rfl)|(apply OK_condF;exact rfl)|(apply OK_skip)|(apply OK_exit)|(apply OK_ret)|(apply OKx_move;(conv=>lhs;whnf)<;>exact rfl)|(apply OKx_assign;(conv=>lhs;whnf)<;>exact rfl)|(apply OKx_ldB;exact rfl;(first | exact at0|exact at1|exact at2|exact at3|exact at4|exact at5|exact at6|exact at7);exact rfl)|(apply OKx_ldR;(conv=>lhs;whnf)<;>exact rfl;(with_reducible assumption))|(apply OKx_ldI;exact rfl;(first | exact at0|exact at1|exact at2|exact at3|exact at4|exact at5|exact at6|exact at7);omega)|(apply OKx_len;exact rfl)|(apply OKx_lenR;(conv=>lhs;whnf)<;>exact rfl;(with_reducible assumption))|(apply OKx_lenR2;(conv=>lhs;whnf)<;>exact rfl;(with_reducible assumption))|(apply OKx_lenO;(conv=>lhs;whnf)<;>exact rfl;(first | exact at0|exact at1|exact at2|exact at3|exact at4|exact at5|exact at6|exact at7))|(apply OKx_lss;exact rfl;exact rfl;all_goals (intro _; try (exfalso;omega)))|(apply OKx_gtr;exact rfl;exact rfl;all_goals (intro _; try (exfalso;omega)))|(apply OKx_eql;exact rfl;exact rfl;all_goals (intro _; try (exfalso;omega)))|(apply OKx_neq;exact rfl;exact rfl;all_goals (intro _; try (exfalso;omega)))|(apply OKx_idxO;exact rfl;exact rfl;omega)|(apply OKx_idxR;(conv=>lhs;whnf)<;>exact rfl;(with_reducible assumption);exact rfl;omega;intro _ _)|(apply OKx_idxOz;exact rfl;exact rfl;omega;omega)|(apply OKx_idxRz;(conv=>lhs;whnf)<;>exact rfl;(with_reducible assumption);exact rfl;omega;omega;intro _ _)|(apply OKx_fldO;exact rfl;exact rfl)|(apply OKx_fldR;(conv=>lhs;whnf)<;>exact rfl;(with_reducible assumption); decide;intro _ _)|(apply OKx_inc;exact rfl;exact rfl;omega)|(apply OKx_addN;exact rfl;exact rfl;omega)|(apply OKx_add;exact rfl;exact rfl;omega;omega)|(apply OKx_pickT;exact rfl;(conv=>lhs;whnf)<;>exact rfl)|(apply OKx_pickF;exact rfl;(conv=>lhs;whnf)<;>exact rfl)|(apply OKx_guardT;exact rfl;exact rfl)|(apply OKx_guardF;exact rfl;exact rfl)|(apply OKx_guardU;exact rfl;exact rfl)|(apply OKx_notT;exact rfl)|(apply OKx_notF;exact rfl)|(apply OKx_extract;exact rfl;(conv=>lhs;whnf)<;>exact rfl)|(apply OKx_boxA;exact rfl;intro _)|(apply OKx_allocA;intro _)|(apply OKx_ldBA;exact rfl;(first | exact at0|exact at1|exact at2|exact at3|exact at4|exact at5|exact at6|exact at7);exact rfl)|(apply OKx_ldRA;(conv=>lhs;whnf)<;>exact rfl;(with_reducible assumption))|(apply OKx_stBA; kernel_rfl;exact rfl;exact rfl;exact rfl;(first | exact at0|exact at1|exact at2|exact at3|exact at4|exact at5|exact at6|exact at7);exact rfl;exact rfl;exact rfl))
    all_goals (try (exfalso; exact hf ⟨hg, by omega, by omega, hq⟩))
    all_goals
      refine bodyQ_r1 (by ((conv=>lhs;whnf)<;>exact rfl)) ?_
      exact ⟨_, Ent.nil, rfl, rfl⟩
  obtain ⟨hg, h6, hc, hq⟩ := hf
  rw [hg] at hgr
  rw [hc] at hck
  rw [hq] at hco
  obtain ⟨hs0, hl, hr⟩ := chkC_zero hc
  obtain ⟨_, h64, _, hpl, _⟩ := stCheck_len s hs0
  obtain ⟨hT1, hT2, hT3⟩ := sat_score hc h6 (fun x hx e => by
    subst e
    have : hasI st (-1) = true := by unfold hasI; rw [List.contains_iff_mem]; exact hx
    rw [hq] at this; cases this)
  obtain ⟨vs0, hv0⟩ := hst.stV
  obtain ⟨fv, hpv, hrow⟩ := hP.rows
  have hav := ha.sl
  have hroom := hav.room _ _ _ rfl
  have hpb := hpv.bound
  refine SatL.of 92 [4] Tryd.func3 (by kernel_rfl) (by kernel_rfl) rfl rfl rfl rfl ?_
  repeat' (first|(apply OK_seq)|(apply thenQ_n)|(apply OK_region)|(apply OKx_gc 4;exact rfl; refine OKx_callV (f := 4) rfl rfl rfl (fun w1 hp => hgr w1 hp.below) ?_)|(apply OKx_gc 5;exact rfl; refine OKx_callV (f := 5) rfl rfl rfl (fun w1 hp => hck w1 hp.below) ?_)|(apply OKx_gc 6;exact rfl; refine OKx_callV (f := 6) rfl rfl rfl (fun w1 hp => hco w1 hp.below) ?_)|(refine OK_rid 17 ?_; refine OK_quiet (id := 17) (by kernel_rfl) (by kernel_rfl) ?_)|(apply OKx_nilK)|(apply OK_block)|(apply blockQ_n)|(apply blockQ_s)|(apply thenQ_e)|(apply blockQ_e;exact rfl)|(apply thenQ_r)|(apply blockQ_r)|(apply OK_condT;exact rfl)|(apply OK_condF;exact rfl)|(apply OK_skip)|(apply OK_exit)|(apply OK_ret)|(apply OKx_move;(conv=>lhs;whnf)<;>exact rfl)|(apply OKx_assign;(conv=>lhs;whnf)<;>exact rfl)|(apply OKx_ldB;exact rfl;(first | exact at0|exact at1|exact at2|exact at3|exact at4|exact at5|exact at6|exact at7);exact rfl)|(apply OKx_ldR;(conv=>lhs;whnf)<;>exact rfl;(with_reducible assumption))|(apply OKx_ldI;exact rfl;(first | exact at0|exact at1|exact at2|exact at3|exact at4|exact at5|exact at6|exact at7);omega)|(apply OKx_len;exact rfl)|(apply OKx_lenR;(conv=>lhs;whnf)<;>exact rfl;(with_reducible assumption))|(apply OKx_lenR2;(conv=>lhs;whnf)<;>exact rfl;(with_reducible assumption))|(apply OKx_lenO;(conv=>lhs;whnf)<;>exact rfl;(first | exact at0|exact at1|exact at2|exact at3|exact at4|exact at5|exact at6|exact at7))|(apply OKx_lss;exact rfl;exact rfl;all_goals (intro _; try (exfalso;omega)))|(apply OKx_gtr;exact rfl;exact rfl;all_goals (intro _; try (exfalso;omega)))|(apply OKx_eql;exact rfl;exact rfl;all_goals (intro _; try (exfalso;omega)))|(apply OKx_neq;exact rfl;exact rfl;all_goals (intro _; try (exfalso;omega)))|(apply OKx_idxO;exact rfl;exact rfl;omega)|(apply OKx_idxR;(conv=>lhs;whnf)<;>exact rfl;(with_reducible assumption);exact rfl;omega;intro _ _)|(apply OKx_idxOz;exact rfl;exact rfl;omega;omega)|(apply OKx_idxRz;(conv=>lhs;whnf)<;>exact rfl;(with_reducible assumption);exact rfl;omega;omega;intro _ _)|(apply OKx_fldO;exact rfl;exact rfl)|(apply OKx_fldR;(conv=>lhs;whnf)<;>exact rfl;(with_reducible assumption); decide;intro _ _)|(apply OKx_inc;exact rfl;exact rfl;omega)|(apply OKx_addN;exact rfl;exact rfl;omega)|(apply OKx_add;exact rfl;exact rfl;omega;omega)|(apply OKx_pickT;exact rfl;(conv=>lhs;whnf)<;>exact rfl)|(apply OKx_pickF;exact rfl;(conv=>lhs;whnf)<;>exact rfl)|(apply OKx_guardT;exact rfl;exact rfl)|(apply OKx_guardF;exact rfl;exact rfl)|(apply OKx_guardU;exact rfl;exact rfl)|(apply OKx_notT;exact rfl)|(apply OKx_notF;exact rfl)|(apply OKx_extract;exact rfl;(conv=>lhs;whnf)<;>exact rfl)|(apply OKx_boxA;exact rfl;intro _)|(apply OKx_allocA;intro _)|(apply OKx_ldBA;exact rfl;(first | exact at0|exact at1|exact at2|exact at3|exact at4|exact at5|exact at6|exact at7);exact rfl)|(apply OKx_ldRA;(conv=>lhs;whnf)<;>exact rfl;(with_reducible assumption))|(apply OKx_stBA; kernel_rfl;exact rfl;exact rfl;exact rfl;(first | exact at0|exact at1|exact at2|exact at3|exact at4|exact at5|exact at6|exact at7);exact rfl;exact rfl;exact rfl))
  rename_i gs _ _
  refine OK_loop2 5 36 [4, 5, 6, 7, 8, 9, 10, 36, 37, 38, 39, 40, 41, 42, 43, 44, 45, 46, 47, 48, 49, 50, 51, 52, 53, 54, 55, 56, 57, 58, 59, 60, 61, 62, 63, 64, 65, 66, 67, 68, 69, 70, 71, 72] (fun m u x L => ∃ (i : Nat) (nv1 ev1 pv1 : Value) (vs : List Value) (Z : List Res), i + m = s.par.length ∧ u = .int .i64 ((anewN s.par st i : Nat) : Int) ∧ x = .int .i64 (i : Int) ∧
    (∀ w1, Hp w.heap.size w w1 Z → StV w1 (.agg #[nv1, ev1, pv1]) (satA s.par s i) vs) ∧ L = .box 26 gs [nv1, ev1, pv1] :: Z) s.par.length _ (Ent.refl _ _) ⟨0, nv, ev, pv, vs0, [], by omega, rfl, rfl, fun w1 hp => hv0.below hp.below, rfl⟩ ?_
  rintro m u x L G ⟨i, nv1, ev1, pv1, vs, Z, hm, rfl, rfl, hZ, rfl⟩
  have hle : anewN s.par st i ≤ i := by
    unfold anewN
    have := List.length_filter_le (anewB s.par st) (List.range i)
    rwa [List.length_range] at this
  by_cases hi : i < s.par.length
  rotate_left
  · obtain rfl : i = s.par.length := by omega
    have e9 : satA s.par s s.par.length = satA s.par s s.names.length := by rw [hpl]
    rw [e9] at hZ
    have hk9 := fun w1 (h : Stm w1 (.agg #[nv1, ev1, pv1]) (satA s.par s s.names.length)) => rstCheck_sat _ _ w1 h
    have hs9 := fun w1 (h : Stm w1 (.agg #[nv1, ev1, pv1]) (satA s.par s s.names.length)) (h2 : Ints w1 (.slice aa st.length ac) st) => Score_sat _ _ _ _ w1 h h2
    rw [hT1] at hk9
    rw [hT2, hT3] at hs9
    repeat' (first|(apply OK_seq)|(apply thenQ_n)|(apply OK_region)|(apply OKx_gc 9;exact rfl; refine OKx_callV (f := 9) rfl rfl rfl (fun w1 hp => hk9 w1 (hZ w1 (hp.sub (List.sublist_cons_self _ _))).stm) ?_)|(apply OKx_gc 10;exact rfl; refine OKx_callV (f := 10) rfl rfl rfl (fun w1 hp => hs9 w1 (hZ w1 (hp.sub (List.sublist_cons_self _ _))).stm (ha.below hp.below)) ?_)|(apply OKx_gc 7;exact rfl; refine OKx_callV (f := 7) rfl rfl rfl (fun w1 hp => haw w1) ?_)|(refine OK_rid 17 ?_; refine OK_quiet (id := 17) (by kernel_rfl) (by kernel_rfl) ?_)|(apply OKx_nilK)|(apply OK_block)|(apply blockQ_n)|(apply blockQ_s)|(apply thenQ_e)|(apply blockQ_e;exact rfl)|(apply thenQ_r)|(apply blockQ_r)|(apply OK_condT;exact rfl)|(apply OK_condF;exact rfl)|(apply OK_skip)|(apply OK_exit)|(apply OK_ret)|(apply OKx_move;(conv=>lhs;whnf)<;>exact rfl)|(apply OKx_assign;(conv=>lhs;whnf)<;>exact rfl)|(apply OKx_ldB;exact rfl;(first | exact at0|exact at1|exact at2|exact at3|exact at4|exact at5|exact at6|exact at7);exact rfl)|(apply OKx_ldR;(conv=>lhs;whnf)<;>exact rfl;(with_reducible assumption))|(apply OKx_ldI;exact rfl;(first | exact at0|exact at1|exact at2|exact at3|exact at4|exact at5|exact at6|exact at7);omega)|(apply OKx_len;exact rfl)|(apply OKx_lenR;(conv=>lhs;whnf)<;>exact rfl;(with_reducible assumption))|(apply OKx_lenR2;(conv=>lhs;whnf)<;>exact rfl;(with_reducible assumption))|(apply OKx_lenO;(conv=>lhs;whnf)<;>exact rfl;(first | exact at0|exact at1|exact at2|exact at3|exact at4|exact at5|exact at6|exact at7))|(apply OKx_lss;exact rfl;exact rfl;all_goals (intro _; try (exfalso;omega)))|(apply OKx_gtr;exact rfl;exact rfl;all_goals (intro _; try (exfalso;omega)))|(apply OKx_eql;exact rfl;exact rfl;all_goals (intro _; try (exfalso;omega)))|(apply OKx_neq;exact rfl;exact rfl;all_goals (intro _; try (exfalso;omega)))|(apply OKx_idxO;exact rfl;exact rfl;omega)|(apply OKx_idxR;(conv=>lhs;whnf)<;>exact rfl;(with_reducible assumption);exact rfl;omega;intro _ _)|(apply OKx_idxOz;exact rfl;exact rfl;omega;omega)|(apply OKx_idxRz;(conv=>lhs;whnf)<;>exact rfl;(with_reducible assumption);exact rfl;omega;omega;intro _ _)|(apply OKx_fldO;exact rfl;exact rfl)|(apply OKx_fldR;(conv=>lhs;whnf)<;>exact rfl;(with_reducible assumption); decide;intro _ _)|(apply OKx_inc;exact rfl;exact rfl;omega)|(apply OKx_addN;exact rfl;exact rfl;omega)|(apply OKx_add;exact rfl;exact rfl;omega;omega)|(apply OKx_pickT;exact rfl;(conv=>lhs;whnf)<;>exact rfl)|(apply OKx_pickF;exact rfl;(conv=>lhs;whnf)<;>exact rfl)|(apply OKx_guardT;exact rfl;exact rfl)|(apply OKx_guardF;exact rfl;exact rfl)|(apply OKx_guardU;exact rfl;exact rfl)|(apply OKx_notT;exact rfl)|(apply OKx_notF;exact rfl)|(apply OKx_extract;exact rfl;(conv=>lhs;whnf)<;>exact rfl)|(apply OKx_boxA;exact rfl;intro _)|(apply OKx_allocA;intro _)|(apply OKx_ldBA;exact rfl;(first | exact at0|exact at1|exact at2|exact at3|exact at4|exact at5|exact at6|exact at7);exact rfl)|(apply OKx_ldRA;(conv=>lhs;whnf)<;>exact rfl;(with_reducible assumption))|(apply OKx_stBA; kernel_rfl;exact rfl;exact rfl;exact rfl;(first | exact at0|exact at1|exact at2|exact at3|exact at4|exact at5|exact at6|exact at7);exact rfl;exact rfl;exact rfl))
    all_goals
      refine bodyQ_r1 (by ((conv=>lhs;whnf)<;>exact rfl)) ?_
      exact ⟨_, Ent.nil, rfl, rfl⟩
  have hxi := (hrow i).sl
  have hxb := hxi.bound
  have hA := satA_ok hs0 i (by omega)
  have hst1 := anewN_step s.par st i
  have hsa : satA s.par s (i + 1) = if (s.par.getD i []).length = 0 then satA s.par s i else satS (satA s.par s i) i i := rfl
  by_cases h0 : (s.par.getD i []).length = 0
  · rw [if_pos h0] at hsa
    have hb : anewB s.par st i = false := by unfold anewB; rw [decide_eq_false (by omega)]; rfl
    rw [hb, if_neg (by simp)] at hst1
    repeat' (first|(apply OK_seq)|(apply thenQ_n)|(apply OK_region)|(refine OK_rid 17 ?_; refine OK_quiet (id := 17) (by kernel_rfl) (by kernel_rfl) ?_)|(apply OKx_nilK)|(apply OK_block)|(apply blockQ_n)|(apply blockQ_s)|(apply thenQ_e)|(apply blockQ_e;exact rfl)|(apply thenQ_r)|(apply blockQ_r)|(apply OK_condT;exact rfl)|(apply OK_condF;exact rfl)|(apply OK_skip)|(apply OK_exit)|(apply OK_ret)|(apply OKx_move;(conv=>lhs;whnf)<;>exact rfl)|(apply OKx_assign;(conv=>lhs;whnf)<;>exact rfl)|(apply OKx_ldB;exact rfl;(first | exact at0|exact at1|exact at2|exact at3|exact at4|exact at5|exact at6|exact at7);exact rfl)|(apply OKx_ldR;(conv=>lhs;whnf)<;>exact rfl;(with_reducible assumption))|(apply OKx_ldI;exact rfl;(first | exact at0|exact at1|exact at2|exact at3|exact at4|exact at5|exact at6|exact at7);omega)|(apply OKx_len;exact rfl)|(apply OKx_lenR;(conv=>lhs;whnf)<;>exact rfl;(with_reducible assumption))|(apply OKx_lenR2;(conv=>lhs;whnf)<;>exact rfl;(with_reducible assumption))|(apply OKx_lenO;(conv=>lhs;whnf)<;>exact rfl;(first | exact at0|exact at1|exact at2|exact at3|exact at4|exact at5|exact at6|exact at7))|(apply OKx_lss;exact rfl;exact rfl;all_goals (intro _; try (exfalso;omega)))|(apply OKx_gtr;exact rfl;exact rfl;all_goals (intro _; try (exfalso;omega)))|(apply OKx_eql;exact rfl;exact rfl;all_goals (intro _; try (exfalso;omega)))|(apply OKx_neq;exact rfl;exact rfl;all_goals (intro _; try (exfalso;omega)))|(apply OKx_idxO;exact rfl;exact rfl;omega)|(apply OKx_idxR;(conv=>lhs;whnf)<;>exact rfl;(with_reducible assumption);exact rfl;omega;intro _ _)|(apply OKx_idxOz;exact rfl;exact rfl;omega;omega)|(apply OKx_idxRz;(conv=>lhs;whnf)<;>exact rfl;(with_reducible assumption);exact rfl;omega;omega;intro _ _)|(apply OKx_fldO;exact rfl;exact rfl)|(apply OKx_fldR;(conv=>lhs;whnf)<;>exact rfl;(with_reducible assumption); decide;intro _ _)|(apply OKx_inc;exact rfl;exact rfl;omega)|(apply OKx_addN;exact rfl;exact rfl;omega)|(apply OKx_add;exact rfl;exact rfl;omega;omega)|(apply OKx_pickT;exact rfl;(conv=>lhs;whnf)<;>exact rfl)|(apply OKx_pickF;exact rfl;(conv=>lhs;whnf)<;>exact rfl)|(apply OKx_guardT;exact rfl;exact rfl)|(apply OKx_guardF;exact rfl;exact rfl)|(apply OKx_guardU;exact rfl;exact rfl)|(apply OKx_notT;exact rfl)|(apply OKx_notF;exact rfl)|(apply OKx_extract;exact rfl;(conv=>lhs;whnf)<;>exact rfl)|(apply OKx_boxA;exact rfl;intro _)|(apply OKx_allocA;intro _)|(apply OKx_ldBA;exact rfl;(first | exact at0|exact at1|exact at2|exact at3|exact at4|exact at5|exact at6|exact at7);exact rfl)|(apply OKx_ldRA;(conv=>lhs;whnf)<;>exact rfl;(with_reducible assumption))|(apply OKx_stBA; kernel_rfl;exact rfl;exact rfl;exact rfl;(first | exact at0|exact at1|exact at2|exact at3|exact at4|exact at5|exact at6|exact at7);exact rfl;exact rfl;exact rfl))
    refine ⟨by (repeat' (first | refine agree_upd rfl ?_ | exact agree_over | exact agree_refl _ _ | refine agree_over2 rfl ?_)), m - 1, _, by omega, Ent.refl _ _, ?_⟩
    exact ⟨i + 1, nv1, ev1, pv1, vs, Z, by omega, by rw [hst1]; rfl, rfl, by rw [hsa]; exact hZ, rfl⟩
  rw [if_neg h0] at hsa
  have hin : i < (satA s.par s i).names.length := by rw [hA.2.1];omega
  repeat' (first|(apply OK_seq)|(apply thenQ_n)|(apply OK_region)|(refine OK_rid 17 ?_; refine OK_quiet (id := 17) (by kernel_rfl) (by kernel_rfl) ?_)|(apply OKx_nilK)|(apply OK_block)|(apply blockQ_n)|(apply blockQ_s)|(apply thenQ_e)|(apply blockQ_e;exact rfl)|(apply thenQ_r)|(apply blockQ_r)|(apply OK_condT;exact rfl)|(apply OK_condF;exact rfl)|(apply OK_skip)|(apply OK_exit)|(apply OK_ret)|(apply OKx_move;(conv=>lhs;whnf)<;>exact rfl)|(apply OKx_assign;(conv=>lhs;whnf)<;>exact rfl)|(apply OKx_ldB;exact rfl;(first | exact at0|exact at1|exact at2|exact at3|exact at4|exact at5|exact at6|exact at7);exact rfl)|(apply OKx_ldR;(conv=>lhs;whnf)<;>exact rfl;(with_reducible assumption))|(apply OKx_ldI;exact rfl;(first | exact at0|exact at1|exact at2|exact at3|exact at4|exact at5|exact at6|exact at7);omega)|(apply OKx_len;exact rfl)|(apply OKx_lenR;(conv=>lhs;whnf)<;>exact rfl;(with_reducible assumption))|(apply OKx_lenR2;(conv=>lhs;whnf)<;>exact rfl;(with_reducible assumption))|(apply OKx_lenO;(conv=>lhs;whnf)<;>exact rfl;(first | exact at0|exact at1|exact at2|exact at3|exact at4|exact at5|exact at6|exact at7))|(apply OKx_lss;exact rfl;exact rfl;all_goals (intro _; try (exfalso;omega)))|(apply OKx_gtr;exact rfl;exact rfl;all_goals (intro _; try (exfalso;omega)))|(apply OKx_eql;exact rfl;exact rfl;all_goals (intro _; try (exfalso;omega)))|(apply OKx_neq;exact rfl;exact rfl;all_goals (intro _; try (exfalso;omega)))|(apply OKx_idxO;exact rfl;exact rfl;omega)|(apply OKx_idxR;(conv=>lhs;whnf)<;>exact rfl;(with_reducible assumption);exact rfl;omega;intro _ _)|(apply OKx_idxOz;exact rfl;exact rfl;omega;omega)|(apply OKx_idxRz;(conv=>lhs;whnf)<;>exact rfl;(with_reducible assumption);exact rfl;omega;omega;intro _ _)|(apply OKx_fldO;exact rfl;exact rfl)|(apply OKx_fldR;(conv=>lhs;whnf)<;>exact rfl;(with_reducible assumption); decide;intro _ _)|(apply OKx_inc;exact rfl;exact rfl;omega)|(apply OKx_addN;exact rfl;exact rfl;omega)|(apply OKx_add;exact rfl;exact rfl;omega;omega)|(apply OKx_pickT;exact rfl;(conv=>lhs;whnf)<;>exact rfl)|(apply OKx_pickF;exact rfl;(conv=>lhs;whnf)<;>exact rfl)|(apply OKx_guardT;exact rfl;exact rfl)|(apply OKx_guardF;exact rfl;exact rfl)|(apply OKx_guardU;exact rfl;exact rfl)|(apply OKx_notT;exact rfl)|(apply OKx_notF;exact rfl)|(apply OKx_extract;exact rfl;(conv=>lhs;whnf)<;>exact rfl)|(apply OKx_boxA;exact rfl;intro _)|(apply OKx_allocA;intro _)|(apply OKx_ldBA;exact rfl;(first | exact at0|exact at1|exact at2|exact at3|exact at4|exact at5|exact at6|exact at7);exact rfl)|(apply OKx_ldRA;(conv=>lhs;whnf)<;>exact rfl;(with_reducible assumption))|(apply OKx_stBA; kernel_rfl;exact rfl;exact rfl;exact rfl;(first | exact at0|exact at1|exact at2|exact at3|exact at4|exact at5|exact at6|exact at7);exact rfl;exact rfl;exact rfl))
  refine OK_loop1 45 [4, 8, 9, 10, 45, 46, 47, 48, 49, 50, 51, 52, 53, 54, 55, 56, 57, 58, 59, 60] (fun m2 x L => ∃ (k : Nat) (nv2 ev2 pv2 : Value) (vs2 : List Value) (Z2 : List Res), k + m2 = i ∧ x = .int .i64 (k : Int) ∧
    (∀ w1, Hp w.heap.size w w1 Z2 → StV w1 (.agg #[nv2, ev2, pv2]) (satS (satA s.par s i) i k) vs2) ∧ L = .box 26 gs [nv2, ev2, pv2] :: Z2) i _ (Ent.refl _ _) ⟨0, nv1, ev1, pv1, vs, Z, by omega, rfl, hZ, rfl⟩ ?_
  rintro m2 x L G2 ⟨k, nv2, ev2, pv2, vs2, Z2, hm2, rfl, hZ2, rfl⟩
  by_cases hk : k < i
  · have hS := satS_ok hA.1 hin k (by omega)
    have hkn : i < (satS (satA s.par s i) i k).names.length := by rw [hS.2.1]; exact hin
    have hss : satS (satA s.par s i) i (k + 1) = if extE (satS (satA s.par s i) i k) (i : Int) (k : Int) = 0 then extS (satS (satA s.par s i) i k) (i : Int) (k : Int) else satS (satA s.par s i) i k := rfl
    rcases ext_way hS.1 hkn hk with ⟨he, _⟩ | ⟨he, _⟩
    · rw [if_pos he] at hss
      have hE2 := fun w1 (h : StV w1 (.agg #[nv2, ev2, pv2]) (satS (satA s.par s i) i k) vs2) => (Extend2_sat _ _ (i : Int) (k : Int) vs2 w1 h).mono (R' := fun u L => ∃ na nn nc ea en ec pa pn pc, u = .tuple #[.agg #[.slice na nn nc, .slice ea en ec, .slice pa pn pc], .int .i64 0] ∧
          ∃ vs', ∀ w0 w1, Hp w0.heap.size w0 w1 L → StV w1 (.agg #[nv2, ev2, pv2]) (satS (satA s.par s i) i k) vs2 → StV w1 (.agg #[.slice na nn nc, .slice ea en ec, .slice pa pn pc]) (satS (satA s.par s i) i (k + 1)) vs') (by
        rintro u L (⟨h1, _⟩ | ⟨_, na, nc, ea, ec, pa, pc, h2, h3⟩)
        · exact absurd he h1
        · exact ⟨na, _, nc, ea, _, ec, pa, _, pc, h2, by rw [hss]; exact h3⟩)
      repeat' (first|(apply OK_seq)|(apply thenQ_n)|(apply OK_region)|(apply OKx_gc 8;exact rfl; refine OKx_call (f := 8) rfl rfl (fun w1 hp => hE2 w1 (hZ2 w1 (hp.sub (List.sublist_cons_self _ _)))) ?_; rintro _ Z3 ⟨na, nn, nc, ea, en, ec, pa, pn, pc, rfl, vs3, hv3⟩; refine OKx_ent (Ent.perm List.perm_middle) ?_)|(refine OK_rid 17 ?_; refine OK_quiet (id := 17) (by kernel_rfl) (by kernel_rfl) ?_)|(apply OKx_nilK)|(apply OK_block)|(apply blockQ_n)|(apply blockQ_s)|(apply thenQ_e)|(apply blockQ_e;exact rfl)|(apply thenQ_r)|(apply blockQ_r)|(apply OK_condT;exact rfl)|(apply OK_condF;exact rfl)|(apply OK_skip)|(apply OK_exit)|(apply OK_ret)|(apply OKx_move;(conv=>lhs;whnf)<;>exact rfl)|(apply OKx_assign;(conv=>lhs;whnf)<;>exact rfl)|(apply OKx_ldB;exact rfl;(first | exact at0|exact at1|exact at2|exact at3|exact at4|exact at5|exact at6|exact at7);exact rfl)|(apply OKx_ldR;(conv=>lhs;whnf)<;>exact rfl;(with_reducible assumption))|(apply OKx_ldI;exact rfl;(first | exact at0|exact at1|exact at2|exact at3|exact at4|exact at5|exact at6|exact at7);omega)|(apply OKx_len;exact rfl)|(apply OKx_lenR;(conv=>lhs;whnf)<;>exact rfl;(with_reducible assumption))|(apply OKx_lenR2;(conv=>lhs;whnf)<;>exact rfl;(with_reducible assumption))|(apply OKx_lenO;(conv=>lhs;whnf)<;>exact rfl;(first | exact at0|exact at1|exact at2|exact at3|exact at4|exact at5|exact at6|exact at7))|(apply OKx_lss;exact rfl;exact rfl;all_goals (intro _; try (exfalso;omega)))|(apply OKx_gtr;exact rfl;exact rfl;all_goals (intro _; try (exfalso;omega)))|(apply OKx_eql;exact rfl;exact rfl;all_goals (intro _; try (exfalso;omega)))|(apply OKx_neq;exact rfl;exact rfl;all_goals (intro _; try (exfalso;omega)))|(apply OKx_idxO;exact rfl;exact rfl;omega)|(apply OKx_idxR;(conv=>lhs;whnf)<;>exact rfl;(with_reducible assumption);exact rfl;omega;intro _ _)|(apply OKx_idxOz;exact rfl;exact rfl;omega;omega)|(apply OKx_idxRz;(conv=>lhs;whnf)<;>exact rfl;(with_reducible assumption);exact rfl;omega;omega;intro _ _)|(apply OKx_fldO;exact rfl;exact rfl)|(apply OKx_fldR;(conv=>lhs;whnf)<;>exact rfl;(with_reducible assumption); decide;intro _ _)|(apply OKx_inc;exact rfl;exact rfl;omega)|(apply OKx_addN;exact rfl;exact rfl;omega)|(apply OKx_add;exact rfl;exact rfl;omega;omega)|(apply OKx_pickT;exact rfl;(conv=>lhs;whnf)<;>exact rfl)|(apply OKx_pickF;exact rfl;(conv=>lhs;whnf)<;>exact rfl)|(apply OKx_guardT;exact rfl;exact rfl)|(apply OKx_guardF;exact rfl;exact rfl)|(apply OKx_guardU;exact rfl;exact rfl)|(apply OKx_notT;exact rfl)|(apply OKx_notF;exact rfl)|(apply OKx_extract;exact rfl;(conv=>lhs;whnf)<;>exact rfl)|(apply OKx_boxA;exact rfl;intro _)|(apply OKx_allocA;intro _)|(apply OKx_ldBA;exact rfl;(first | exact at0|exact at1|exact at2|exact at3|exact at4|exact at5|exact at6|exact at7);exact rfl)|(apply OKx_ldRA;(conv=>lhs;whnf)<;>exact rfl;(with_reducible assumption))|(apply OKx_stBA; kernel_rfl;exact rfl;exact rfl;exact rfl;(first | exact at0|exact at1|exact at2|exact at3|exact at4|exact at5|exact at6|exact at7);exact rfl;exact rfl;exact rfl))
      refine ⟨by (repeat' (first | refine agree_upd rfl ?_ | exact agree_over | exact agree_refl _ _ | refine agree_over2 rfl ?_)), m2 - 1, _, by omega, Ent.sub (List.sublist_cons_self _ _), ?_⟩
      exact ⟨k + 1, _, _, _, vs3, Z3 ++ Z2, by omega, rfl, fun w1 hp => hv3 w w1 (hp.sub (List.sublist_append_left _ _)) (hZ2 w1 (hp.sub (List.sublist_append_right _ _))), rfl⟩
    · rw [if_neg (by omega)] at hss
      have hE2 := fun w1 (h : StV w1 (.agg #[nv2, ev2, pv2]) (satS (satA s.par s i) i k) vs2) => (Extend2_sat _ _ (i : Int) (k : Int) vs2 w1 h).mono (R' := fun u L => u = .tuple #[.agg #[.slice none 0 0, .slice none 0 0, .slice none 0 0], .int .i64 7] ∧ L = []) (by
        rintro u L (⟨_, h2, h3⟩ | ⟨h1, _⟩)
        · rw [he] at h2; exact ⟨h2, h3⟩
        · omega)
      repeat' (first|(apply OK_seq)|(apply thenQ_n)|(apply OK_region)|(apply OKx_gc 8;exact rfl; refine OKx_call (f := 8) rfl rfl (fun w1 hp => hE2 w1 (hZ2 w1 (hp.sub (List.sublist_cons_self _ _)))) ?_; rintro _ _ ⟨rfl, rfl⟩; rw [List.nil_append])|(refine OK_rid 17 ?_; refine OK_quiet (id := 17) (by kernel_rfl) (by kernel_rfl) ?_)|(apply OKx_nilK)|(apply OK_block)|(apply blockQ_n)|(apply blockQ_s)|(apply thenQ_e)|(apply blockQ_e;exact rfl)|(apply thenQ_r)|(apply blockQ_r)|(apply OK_condT;exact rfl)|(apply OK_condF;exact rfl)|(apply OK_skip)|(apply OK_exit)|(apply OK_ret)|(apply OKx_move;(conv=>lhs;whnf)<;>exact rfl)|(apply OKx_assign;(conv=>lhs;whnf)<;>exact rfl)|(apply OKx_ldB;exact rfl;(first | exact at0|exact at1|exact at2|exact at3|exact at4|exact at5|exact at6|exact at7);exact rfl)|(apply OKx_ldR;(conv=>lhs;whnf)<;>exact rfl;(with_reducible assumption))|(apply OKx_ldI;exact rfl;(first | exact at0|exact at1|exact at2|exact at3|exact at4|exact at5|exact at6|exact at7);omega)|(apply OKx_len;exact rfl)|(apply OKx_lenR;(conv=>lhs;whnf)<;>exact rfl;(with_reducible assumption))|(apply OKx_lenR2;(conv=>lhs;whnf)<;>exact rfl;(with_reducible assumption))|(apply OKx_lenO;(conv=>lhs;whnf)<;>exact rfl;(first | exact at0|exact at1|exact at2|exact at3|exact at4|exact at5|exact at6|exact at7))|(apply OKx_lss;exact rfl;exact rfl;all_goals (intro _; try (exfalso;omega)))|(apply OKx_gtr;exact rfl;exact rfl;all_goals (intro _; try (exfalso;omega)))|(apply OKx_eql;exact rfl;exact rfl;all_goals (intro _; try (exfalso;omega)))|(apply OKx_neq;exact rfl;exact rfl;all_goals (intro _; try (exfalso;omega)))|(apply OKx_idxO;exact rfl;exact rfl;omega)|(apply OKx_idxR;(conv=>lhs;whnf)<;>exact rfl;(with_reducible assumption);exact rfl;omega;intro _ _)|(apply OKx_idxOz;exact rfl;exact rfl;omega;omega)|(apply OKx_idxRz;(conv=>lhs;whnf)<;>exact rfl;(with_reducible assumption);exact rfl;omega;omega;intro _ _)|(apply OKx_fldO;exact rfl;exact rfl)|(apply OKx_fldR;(conv=>lhs;whnf)<;>exact rfl;(with_reducible assumption); decide;intro _ _)|(apply OKx_inc;exact rfl;exact rfl;omega)|(apply OKx_addN;exact rfl;exact rfl;omega)|(apply OKx_add;exact rfl;exact rfl;omega;omega)|(apply OKx_pickT;exact rfl;(conv=>lhs;whnf)<;>exact rfl)|(apply OKx_pickF;exact rfl;(conv=>lhs;whnf)<;>exact rfl)|(apply OKx_guardT;exact rfl;exact rfl)|(apply OKx_guardF;exact rfl;exact rfl)|(apply OKx_guardU;exact rfl;exact rfl)|(apply OKx_notT;exact rfl)|(apply OKx_notF;exact rfl)|(apply OKx_extract;exact rfl;(conv=>lhs;whnf)<;>exact rfl)|(apply OKx_boxA;exact rfl;intro _)|(apply OKx_allocA;intro _)|(apply OKx_ldBA;exact rfl;(first | exact at0|exact at1|exact at2|exact at3|exact at4|exact at5|exact at6|exact at7);exact rfl)|(apply OKx_ldRA;(conv=>lhs;whnf)<;>exact rfl;(with_reducible assumption))|(apply OKx_stBA; kernel_rfl;exact rfl;exact rfl;exact rfl;(first | exact at0|exact at1|exact at2|exact at3|exact at4|exact at5|exact at6|exact at7);exact rfl;exact rfl;exact rfl))
      refine ⟨by (repeat' (first | refine agree_upd rfl ?_ | exact agree_over | exact agree_refl _ _ | refine agree_over2 rfl ?_)), m2 - 1, _, by omega, Ent.sub (List.sublist_cons_self _ _), ?_⟩
      exact ⟨k + 1, nv2, ev2, pv2, vs2, Z2, by omega, rfl, by rw [hss]; exact hZ2, rfl⟩
  obtain rfl : k = i := by omega
  obtain ⟨ab, ao, rfl, _⟩ := hat.2 0 (by omega)
  have hb : anewB s.par st k = !hasI (st.take k) (st.getD k 0) := by unfold anewB; rw [decide_eq_true (by omega)]; rfl
  have ht := ha.take3 (k := k) (by omega)
  repeat' (first|(apply OK_seq)|(apply thenQ_n)|(apply OK_region)|(refine OKx_slH rfl rfl (by omega) ?_)|(apply OKx_gc 6;exact rfl; refine OKx_callB (f := 6) (b := hasI (st.take k) (st.getD k 0)) rfl rfl rfl (fun w1 hp => contains_int_sat _ _ _ w1 (ht.below hp.below)) ?_ ?_ <;> intro hq2)|(refine OK_rid 17 ?_; refine OK_quiet (id := 17) (by kernel_rfl) (by kernel_rfl) ?_)|(apply OKx_nilK)|(apply OK_block)|(apply blockQ_n)|(apply blockQ_s)|(apply thenQ_e)|(apply blockQ_e;exact rfl)|(apply thenQ_r)|(apply blockQ_r)|(apply OK_condT;exact rfl)|(apply OK_condF;exact rfl)|(apply OK_skip)|(apply OK_exit)|(apply OK_ret)|(apply OKx_move;(conv=>lhs;whnf)<;>exact rfl)|(apply OKx_assign;(conv=>lhs;whnf)<;>exact rfl)|(apply OKx_ldB;exact rfl;(first | exact at0|exact at1|exact at2|exact at3|exact at4|exact at5|exact at6|exact at7);exact rfl)|(apply OKx_ldR;(conv=>lhs;whnf)<;>exact rfl;(with_reducible assumption))|(apply OKx_ldI;exact rfl;(first | exact at0|exact at1|exact at2|exact at3|exact at4|exact at5|exact at6|exact at7);omega)|(apply OKx_len;exact rfl)|(apply OKx_lenR;(conv=>lhs;whnf)<;>exact rfl;(with_reducible assumption))|(apply OKx_lenR2;(conv=>lhs;whnf)<;>exact rfl;(with_reducible assumption))|(apply OKx_lenO;(conv=>lhs;whnf)<;>exact rfl;(first | exact at0|exact at1|exact at2|exact at3|exact at4|exact at5|exact at6|exact at7))|(apply OKx_lss;exact rfl;exact rfl;all_goals (intro _; try (exfalso;omega)))|(apply OKx_gtr;exact rfl;exact rfl;all_goals (intro _; try (exfalso;omega)))|(apply OKx_eql;exact rfl;exact rfl;all_goals (intro _; try (exfalso;omega)))|(apply OKx_neq;exact rfl;exact rfl;all_goals (intro _; try (exfalso;omega)))|(apply OKx_idxO;exact rfl;exact rfl;omega)|(apply OKx_idxR;(conv=>lhs;whnf)<;>exact rfl;(with_reducible assumption);exact rfl;omega;intro _ _)|(apply OKx_idxOz;exact rfl;exact rfl;omega;omega)|(apply OKx_idxRz;(conv=>lhs;whnf)<;>exact rfl;(with_reducible assumption);exact rfl;omega;omega;intro _ _)|(apply OKx_fldO;exact rfl;exact rfl)|(apply OKx_fldR;(conv=>lhs;whnf)<;>exact rfl;(with_reducible assumption); decide;intro _ _)|(apply OKx_inc;exact rfl;exact rfl;omega)|(apply OKx_addN;exact rfl;exact rfl;omega)|(apply OKx_add;exact rfl;exact rfl;omega;omega)|(apply OKx_pickT;exact rfl;(conv=>lhs;whnf)<;>exact rfl)|(apply OKx_pickF;exact rfl;(conv=>lhs;whnf)<;>exact rfl)|(apply OKx_guardT;exact rfl;exact rfl)|(apply OKx_guardF;exact rfl;exact rfl)|(apply OKx_guardU;exact rfl;exact rfl)|(apply OKx_notT;exact rfl)|(apply OKx_notF;exact rfl)|(apply OKx_extract;exact rfl;(conv=>lhs;whnf)<;>exact rfl)|(apply OKx_boxA;exact rfl;intro _)|(apply OKx_allocA;intro _)|(apply OKx_ldBA;exact rfl;(first | exact at0|exact at1|exact at2|exact at3|exact at4|exact at5|exact at6|exact at7);exact rfl)|(apply OKx_ldRA;(conv=>lhs;whnf)<;>exact rfl;(with_reducible assumption))|(apply OKx_stBA; kernel_rfl;exact rfl;exact rfl;exact rfl;(first | exact at0|exact at1|exact at2|exact at3|exact at4|exact at5|exact at6|exact at7);exact rfl;exact rfl;exact rfl))
  · rw [hb, hq2, if_neg (by simp)] at hst1
    refine ⟨by (repeat' (first | refine agree_upd rfl ?_ | exact agree_over | exact agree_refl _ _ | refine agree_over2 rfl ?_)), m - 1, _, by omega, Ent.refl _ _, ?_⟩
    exact ⟨k + 1, nv2, ev2, pv2, vs2, Z2, by omega, by rw [hst1]; rfl, rfl, by rw [hsa]; exact hZ2, rfl⟩
  · rw [hb, hq2, if_pos (by simp)] at hst1
    refine ⟨by (repeat' (first | refine agree_upd rfl ?_ | exact agree_over | exact agree_refl _ _ | refine agree_over2 rfl ?_)), m - 1, _, by omega, Ent.refl _ _, ?_⟩
    exact ⟨k + 1, nv2, ev2, pv2, vs2, Z2, by omega, by rw [hst1]; rfl, rfl, by rw [hsa]; exact hZ2, rfl⟩
end Go.Proofs.YtpknpbeiifjmgaaDoor
