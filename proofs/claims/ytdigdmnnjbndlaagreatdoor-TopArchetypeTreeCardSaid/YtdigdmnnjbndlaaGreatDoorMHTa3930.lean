/-
  Part 30 of the proof: Pt39, Tc33, OpenI. No statement of the seat is proved here.
-/
import Derived.Test.YtdigdmnnjbndlaaGreatDoorMHTa3929
namespace Go.Proofs.YtdigdmnnjbndlaaGreatDoor
open Go.RowKit
theorem knwL_nodup (st : List Int) : ∀ k, (knwL st k).Nodup
  | 0 => List.nodup_nil
  | k + 1 => by
    have ih := knwL_nodup st k
    rw [knwL]
    split
    · rw [List.append_nil]; exact ih
    · rename_i h
      rw [List.nodup_append]
      refine ⟨ih, by simp, fun a ha b hb => ?_⟩
      rw [List.mem_singleton] at hb
      rintro rfl
      refine h (.inr ?_)
      unfold hasI
      rw [List.contains_iff_mem, ← hb]
      exact ha
theorem occ_asc (st : List Int) : (occ st).Pairwise (· < ·) := by
  unfold occ
  split
  · exact List.pairwise_singleton _ _
  · exact srtK_asc _ _
theorem srt_knw (st : List Int) (hr : ∀ x ∈ st, x < 16) : srtL (knw st) = occ st := by
  refine asc_ext _ _ (asc_of_le _ (srtL_le _) ?_) (occ_asc st) fun x => ?_
  · refine (srtL_perm _).nodup_iff.2 ?_
    unfold knw
    split
    · simp
    · exact knwL_nodup _ _
  · rw [srtL_mem, knw_occ st hr]
theorem occ_same {a b : List Int} (h : ∀ x, 0 ≤ x → (x ∈ a ↔ x ∈ b)) : occ a = occ b := by
  have : srtK a 16 = srtK b 16 := asc_ext _ _ (srtK_asc _ _) (srtK_asc _ _) fun x => by
    rw [srtK_mem, srtK_mem]
    constructor
    · rintro ⟨h1, h2, h3⟩; exact ⟨(h x h2).1 h1, h2, h3⟩
    · rintro ⟨h1, h2, h3⟩; exact ⟨(h x h2).2 h1, h2, h3⟩
  unfold occ
  rw [this]
theorem occ_nodS {t : Tre} {own : List Int} (hc : treC t = 0) (hl : own.length = (lvs t).length) (hidx : ∀ k, k < (lvs t).length → ∃ q : Nat, q < t.par.length ∧ Lib.idxOf (lvs t) (q : Int) = (k : Int)) : occ (nodS t own) = occ own := by
  refine occ_same fun x hx => ?_
  constructor
  · intro h
    unfold nodS at h
    rw [List.mem_map] at h
    obtain ⟨i, _, e⟩ := h
    unfold knT at e
    split at e
    · have hr := idxOf_rng (lvs t) (i : Int)
      rw [← e, getD_lt own _ _ (by omega)]
      exact List.getElem_mem _
    · omega
  · intro h
    obtain ⟨k, hk, e⟩ := List.getElem_of_mem h
    obtain ⟨q, hq, hi⟩ := hidx k (by omega)
    unfold nodS
    rw [List.mem_map]
    refine ⟨q, List.mem_range.2 hq, ?_⟩
    unfold knT
    rw [hi, if_pos (by omega)]
    show own.getD ((k : Int)).toNat 0 = x
    rw [Int.toNat_natCast, getD_lt own k 0 hk]
    exact e
theorem ft_costS {t : Tre} {S : Nat} (hc : treC t = 0) (all : List Int) (a : Nat → Nat) (ha : ∀ i, i < t.par.length → all.getD i 0 = (a i : Int)) (hS : ∀ i, i < t.par.length → a i < S) :
    (costN (ftS t).par all : Int) = cstV (cosT (uniL S)) t.par a := by
  have hp := treC_par hc
  have e3 : (ftS t).par.length = t.par.length := ftP_len t _
  unfold costN cstV
  rw [e3]
  rw [sumZ_count (chgB (ftS t).par all) (fun i => if chgB (ftS t).par all i = true then 1 else 0) (fun _ => rfl)]
  refine sumZ_congr fun i hi => ?_
  have e2 : (ftS t).par.getD i [] = if i = 0 then [] else [t.par.getD i 0] := ftP_at t _ i hi
  unfold chgB
  rw [e2]
  by_cases h0 : i = 0
  · rw [if_pos h0, if_pos h0]; rfl
  · have hpi := hp.2 i (by omega) hi
    rw [if_neg h0, if_neg h0, uniL_cos S _ _ (hS _ (by omega)) (hS i hi)]
    have ep := ha (t.par.getD i 0).toNat (by omega)
    have ei := ha i hi
    simp only [List.isEmpty_cons, Bool.not_false, Bool.true_and, List.any_cons, List.any_nil, Bool.or_false]
    rw [ep, ei]
    by_cases he : a (t.par.getD i 0).toNat = a i
    · rw [if_pos he, he]; simp
    · rw [if_neg he]
      have : ¬ ((a (t.par.getD i 0).toNat : Int) = (a i : Int)) := by omega
      simp
      exact this
theorem tree_score2 {t : Tre} {own : List Int} {S : Nat} (hS : S ≤ 16) (hS0 : 0 < S) (hf : ftE t = 0) (hl : own.length = (lvs t).length) (ho : ∀ x ∈ own, -1 ≤ x ∧ x < (S : Int)) (hE : scE (ftS t) (nodS t own) = 0) :
    scN (ftS t) (nodS t own) = (minC (fun _ => 0) (tabV (cosT (uniL S)) t.par (knT (lvs t) own) S 0) S).1 ∧ 0 ≤ scN (ftS t) (nodS t own) ∧
    ∀ x : Nat, x < S → (((tabV (cosT (uniL S)) t.par (knT (lvs t) own) S 0).getD x 0 = scN (ftS t) (nodS t own) ∧ (x : Int) ∈ occ (nodS t own)) ↔ (x : Int) ∈ posL (ftS t) (nodS t own) 0) := by
  obtain ⟨hc, hst⟩ := ftE_zero hf
  have hlen := treC_len hc
  have e3 : (ftS t).par.length = t.par.length := ftP_len t _
  have hns := nodS_len t own
  have hnr := nodS_rng ho hl (by omega)
  have hnr16 : ∀ x ∈ nodS t own, -1 ≤ x ∧ x < 16 := fun x hx => by have := hnr x hx;omega
  have hkw : knwE own (lvs t).length (-1) (S : Int) = 0 := by
    unfold knwE
    rw [if_neg (fun h => h hl), if_neg]
    rw [List.any_eq_true]
    rintro ⟨x, hx, hb⟩
    have := ho x hx
    unfold badK at hb
    simp only [Bool.or_eq_true, decide_eq_true_eq] at hb
    omega
  have ok : TrOk (cosT (uniL S)) t.par (knT (lvs t) own) S := trOk_of hc hS0 (fun a b => (uniL_rng S a b).1) hkw
  have hB1 : (best1 (ftS t) (nodS t own)).2 = scN (ftS t) (nodS t own) := (if_neg (fun h => h hE)).symm
  have hN : scN (ftS t) (nodS t own) = (bestA (costN (ftS t).par) (asgs (occ (nodS t own)) (nodS t own))).2 := if_neg (fun h => h hE)
  have hne := asgs_ne (occ (nodS t own)) (occ_pos _) (nodS t own)
  obtain ⟨hb1, hb2, hb3⟩ := bestA_spec (costN (ftS t).par) _ hne
  rw [← hN] at hb2 hb3
  have hocc : ∀ x ∈ occ (nodS t own), 0 ≤ x ∧ x < (S : Int) := fun x hx => by
    have h1 := occ_range _ x hx
    rcases occ_known _ x hx with ⟨h2, _⟩ | ⟨_, h2⟩
    · have := hnr x h2;omega
    · omega
  have hparok : ∀ i, i < (ftS t).par.length → ∀ p ∈ (ftS t).par.getD i [], 0 ≤ p ∧ p.toNat < (ftS t).par.length := fun i hi p hp => by
    rw [e3] at hi
    have e2 : (ftS t).par.getD i [] = if i = 0 then [] else [t.par.getD i 0] := ftP_at t _ i hi
    rw [e2] at hp
    by_cases h0 : i = 0
    · rw [if_pos h0] at hp; cases hp
    · rw [if_neg h0, List.mem_singleton] at hp
      have := (treC_par hc).2 i (by omega) hi
      rw [e3]; subst hp;omega
  -- an assignment's cost is not below the table's number
  have hlow : ∀ b ∈ asgs (occ (nodS t own)) (nodS t own), 0 ≤ b.getD 0 0 ∧ b.getD 0 0 < (S : Int) ∧ 0 ≤ (tabV (cosT (uniL S)) t.par (knT (lvs t) own) S 0).getD (b.getD 0 0).toNat 0 ∧ (tabV (cosT (uniL S)) t.par (knT (lvs t) own) S 0).getD (b.getD 0 0).toNat 0 ≤ (costN (ftS t).par b : Int) := fun b hb => by
    obtain ⟨hbl, hbm⟩ := (asgs_mem _ _ _).1 hb
    rw [hns] at hbl hbm
    have hval : ∀ i, i < t.par.length → 0 ≤ b.getD i 0 ∧ b.getD i 0 < (S : Int) ∧ (knT (lvs t) own i < 0 ∨ knT (lvs t) own i = b.getD i 0) := fun i hi => by
      have hm := hbm i hi
      rw [nodS_at t own i hi] at hm
      have hkr := knT_rng ho hl (by omega) i
      by_cases hn : knT (lvs t) own i < 0
      · rw [if_pos hn] at hm
        have := hocc _ hm
        exact ⟨this.1, this.2, .inl hn⟩
      · rw [if_neg hn] at hm
        exact ⟨by omega, by omega, .inr hm.symm⟩
    have h1 := ok.lower (fun i => (b.getD i 0).toNat) hlen.1 (fun i hi => by have := hval i hi; show (b.getD i 0).toNat < S;omega) (fun i hi => by
      have := hval i hi
      rcases this.2.2 with h | h
      · exact .inl h
      · right; show knT (lvs t) own i = ((b.getD i 0).toNat : Int);omega)
    have hcs := ft_costS hc b (fun i => (b.getD i 0).toNat) (fun i hi => by have := hval i hi; show b.getD i 0 = ((b.getD i 0).toNat : Int);omega) (fun i hi => by have := hval i hi; show (b.getD i 0).toNat < S;omega)
    rw [← hcs] at h1
    have h0 := hval 0 hlen.1
    exact ⟨h0.1, h0.2.1, h1⟩
  -- a number of the table is reached by an assignment with its state at the root
  have hup : ∀ q : Nat, q < S → 0 ≤ (tabV (cosT (uniL S)) t.par (knT (lvs t) own) S 0).getD q 0 → ∃ b ∈ asgs (occ (nodS t own)) (nodS t own), (costN (ftS t).par b : Int) ≤ (tabV (cosT (uniL S)) t.par (knT (lvs t) own) S 0).getD q 0 ∧ ((q : Int) ∈ occ (nodS t own) → b.getD 0 0 = (q : Int)) := fun q hq hq0 => by
    obtain ⟨a, ha0, ha1, ha2, ha3⟩ := ok.reached q hlen.1 hq hq0
    have hal : ((List.range t.par.length).map fun i => (a i : Int)).length = t.par.length := by simp
    have hai : ∀ i, i < t.par.length → ((List.range t.par.length).map fun i => (a i : Int)).getD i 0 = (a i : Int) := fun i hi => by simp [hi]
    have hcs := ft_costS hc _ a hai ha1
    rw [ha3] at hcs
    rw [← hcs]
    have hkk : ∀ i, i < (nodS t own).length → 0 ≤ (nodS t own).getD i 0 → ((List.range t.par.length).map fun i => (a i : Int)).getD i 0 = (nodS t own).getD i 0 := fun i hi h0 => by
      rw [hns] at hi
      rw [hai i hi]
      rw [nodS_at t own i hi] at h0 ⊢
      rcases ha2 i hi with h | h
      · omega
      · exact h.symm
    have hz : 0 < (nodS t own).length := by rw [hns]; exact hlen.1
    by_cases hqo : (q : Int) ∈ occ (nodS t own) ∧ (nodS t own).getD 0 0 < 0
    · obtain ⟨b, hb, hbc⟩ := recolor (ftS t).par ((nodS t own).set 0 (q : Int)) ((List.range t.par.length).map fun i => (a i : Int)) hparok (by rw [e3]; exact hal) (by rw [List.length_set, e3]; exact hns) (fun x hx => by
          rcases (set_mem _ 0 hz _ x).1 hx with h | ⟨j, hj, _, h⟩
          · omega
          · rw [← h]; exact hnr16 _ (getD_mem _ _ _ hj)) (fun i hi h0 => by
          rw [List.length_set] at hi
          rw [setI_getD _ _ _ _ hi] at h0 ⊢
          by_cases e : 0 = i
          · rw [if_pos e, hai i (by rw [hns] at hi; exact hi), ← e, ha0]
          · rw [if_neg e] at h0 ⊢
            exact hkk i hi h0)
      rw [occ_set _ (fun x hx => (hnr16 x hx).2) 0 hz hqo.2 _ hqo.1] at hb
      obtain ⟨hb', hb0⟩ := (asgs_set _ _ 0 hz (q : Int) (by omega) (.inl ⟨hqo.2, hqo.1⟩) b).1 hb
      exact ⟨b, hb', by omega, fun _ => hb0⟩
    · obtain ⟨b, hb, hbc⟩ := recolor (ftS t).par (nodS t own) ((List.range t.par.length).map fun i => (a i : Int)) hparok (by rw [e3]; exact hal) (by rw [e3]; exact hns) hnr16 hkk
      refine ⟨b, hb, by omega, fun hm => ?_⟩
      have h0 : ¬ (nodS t own).getD 0 0 < 0 := fun h => hqo ⟨hm, h⟩
      have h1 := ((asgs_mem _ _ _).1 hb).2 0 hz
      rw [if_neg h0] at h1
      have h2 := hkk 0 hz (by omega)
      rw [hai 0 hlen.1, ha0] at h2
      omega
  have hms := minC_spec (fun _ => 0) (fun _ => Int.le_refl _) (tabV (cosT (uniL S)) t.par (knT (lvs t) own) S 0) S
  obtain ⟨s, hs, hs0⟩ := ok.row_some 0 hlen.1
  have hmin := hms.2 s hs hs0
  have heq : scN (ftS t) (nodS t own) = (minC (fun _ => 0) (tabV (cosT (uniL S)) t.par (knT (lvs t) own) S 0) S).1 := by
    have h1 : scN (ftS t) (nodS t own) ≤ (minC (fun _ => 0) (tabV (cosT (uniL S)) t.par (knT (lvs t) own) S 0) S).1 := by
      rcases hms.1 with ⟨hm1, _⟩ | ⟨q, hq, _, hq0, hqe⟩
      · omega
      obtain ⟨b, hb, hbc, _⟩ := hup q hq hq0
      have := hb3 b hb
      omega
    have h2 : (minC (fun _ => 0) (tabV (cosT (uniL S)) t.par (knT (lvs t) own) S 0) S).1 ≤ scN (ftS t) (nodS t own) := by
      have h3 := hlow _ hb1
      have h4 := (hms.2 ((bestA (costN (ftS t).par) (asgs (occ (nodS t own)) (nodS t own))).1.getD 0 0).toNat (by omega) h3.2.2.1).2
      simp only [Int.zero_add] at h4
      rw [hb2]
      omega
    omega
  refine ⟨heq, by omega, fun x hx => ?_⟩
  rw [posL_mem, hB1]
  constructor
  · rintro ⟨h1, h2⟩
    obtain ⟨b, hb, hbc, hb0⟩ := hup x hx (by omega)
    have := hb3 b hb
    exact ⟨by omega, by omega, b, hb, by omega, hb0 h2⟩
  · rintro ⟨_, _, b, hb, hbc, hb0⟩
    have h3 := hlow b hb
    have ex : (b.getD 0 0).toNat = x := by omega
    rw [ex] at h3
    have h4 := (hms.2 x hx h3.2.2.1).2
    simp only [Int.zero_add] at h4
    refine ⟨by omega, ?_⟩
    have hz : 0 < (nodS t own).length := by rw [hns]; exact hlen.1
    have h5 := ((asgs_mem _ _ _).1 hb).2 0 hz
    by_cases hn : (nodS t own).getD 0 0 < 0
    · rw [if_pos hn, hb0] at h5; exact h5
    · rw [if_neg hn, hb0] at h5
      rw [h5]
      exact occ_mem _ _ (getD_mem _ _ _ hz) (by omega) (hnr16 _ (getD_mem _ _ _ hz)).2
theorem want_root {t : Tre} {own : List Int} (hf : ftE t = 0) (hl : own.length = (lvs t).length) (ho : ∀ x ∈ own, -1 ≤ x ∧ x < 4) (hE : scE (ftS t) (nodS t own) = 0) :
    (occ (nodS t own)).filter (fun x => decide ((tabV (cosT (uniL 4)) t.par (knT (lvs t) own) 4 0).getD x.toNat 0 = scN (ftS t) (nodS t own))) = posL (ftS t) (nodS t own) 0 := by
  obtain ⟨_, _, h3⟩ := tree_score2 (S := 4) (by omega) (by omega) hf hl ho hE
  have hnr := nodS_rng ho hl (by omega)
  have hz : 0 < (nodS t own).length := by rw [nodS_len]; exact (treC_len (ftE_zero hf).1).1
  have hocc : ∀ x ∈ occ (nodS t own), 0 ≤ x ∧ x < 4 := fun x hx => by
    have h1 := occ_range _ x hx
    rcases occ_known _ x hx with ⟨h2, _⟩ | ⟨_, h2⟩
    · have := hnr x h2;omega
    · omega
  refine asc_ext _ _ (List.Pairwise.filter _ (occ_asc _)) (posL_asc _ _ _) fun x => ?_
  rw [List.mem_filter, decide_eq_true_eq]
  constructor
  · rintro ⟨h1, h2⟩
    have h4 := hocc x h1
    obtain ⟨k, rfl⟩ := Int.eq_ofNat_of_zero_le h4.1
    exact (h3 k (by omega)).1 ⟨h2, h1⟩
  · intro h
    have hx : 0 ≤ x ∧ x < 4 := by
      by_cases hn : (nodS t own).getD 0 0 < 0
      · exact hocc x (pos_occ _ _ 0 hz x h hn)
      · have := pos_known (ftS t) (nodS t own) (fun y hy => by have := hnr y hy;omega) 0 hz (by omega)
        rw [this, List.mem_singleton] at h
        have := hnr _ (getD_mem (nodS t own) 0 0 hz)
        omega
    obtain ⟨k, rfl⟩ := Int.eq_ofNat_of_zero_le hx.1
    have h4 := (h3 k (by omega)).2 h
    exact ⟨h4.2, h4.1⟩
end Go.Proofs.YtdigdmnnjbndlaaGreatDoor
namespace Go.Proofs.YtdigdmnnjbndlaaGreatDoor
open Go.RowKit
structure CosOk (cs : List (List Int)) (S : Nat) : Prop where
  len : cs.length = S
  pos : 0 < S
  le : S ≤ 16
  row : ∀ a, a < S → (cs.getD a []).length = S
  rng : ∀ a b, 0 ≤ cosT cs a b ∧ cosT cs a b ≤ 1000
  dia : ∀ a, a < S → cosT cs a a = 0
theorem uni_cosOk (n : Nat) (h0 : 0 < n) (h : n ≤ 16) : CosOk (uniL n) n := ⟨uniL_len n, h0, h, fun a ha => uniL_row n a ha, uniL_rng n, fun a ha => by rw [uniL_cos n a a ha ha, if_pos rfl]⟩
set_option maxRecDepth 100000 in
set_option maxHeartbeats 4000000 in
theorem mat1_sat (v p cv : Value) (row : List Int) (N : Nat) (fv : Nat → Value) (w : World) (h : Ints w v row) (hp : Pt1 w p cv) (hc : Sl w cv 1 N fv) : SatV Tryz.prog 138 [v, p] w (.bool (decide (row.length ≠ N))) := by
  have hv := h.sl
  refine SatL.of 9 [3] Tryz.func138 (by kernel_rfl) (by kernel_rfl) rfl rfl rfl rfl ?_
  repeat' (first|(apply OK_seq)|(apply thenQ_n)|(apply OK_region)|(apply OKx_nilK)|(apply OK_block)|(apply blockQ_n)|(apply blockQ_s)|(apply thenQ_e)|(apply blockQ_e;exact rfl)|(apply thenQ_r)|(apply blockQ_r)|(apply OK_condT;exact rfl)|(apply OK_condF;exact rfl)|(apply OK_skip)|(apply OK_exit)|(apply OK_ret)|(apply OKx_move;(conv=>lhs;whnf)<;>exact rfl)|(apply OKx_assign;(conv=>lhs;whnf)<;>exact rfl)|(apply OKx_ldB;exact rfl;(first | exact at0|exact at1|exact at2|exact at3|exact at4|exact at5|exact at6|exact at7);exact rfl)|(apply OKx_ldR;(conv=>lhs;whnf)<;>exact rfl;(with_reducible assumption))|(apply OKx_len;exact rfl)|(apply OKx_lenR;(conv=>lhs;whnf)<;>exact rfl;(with_reducible assumption))|(apply OKx_lenR2;(conv=>lhs;whnf)<;>exact rfl;(with_reducible assumption))|(apply OKx_lenO;(conv=>lhs;whnf)<;>exact rfl;(first | exact at0|exact at1|exact at2|exact at3|exact at4|exact at5|exact at6|exact at7))|(apply OKx_neq;exact rfl;exact rfl;all_goals (intro _; try (exfalso;omega))))
  all_goals
    refine bodyQ_r1 (by ((conv=>lhs;whnf)<;>exact rfl)) ?_
    first
      | exact ⟨_, Ent.nil, bool_eq (decide_eq_true (p := row.length ≠ N) (by omega)).symm, rfl⟩
      | exact ⟨_, Ent.nil, bool_eq (decide_eq_false (p := row.length ≠ N) (by omega)).symm, rfl⟩
set_option maxRecDepth 100000 in
set_option maxHeartbeats 4000000 in
theorem mat_sat (v : Value) (cs : List (List Int)) (S : Nat) (w : World) (h : Tabs w v cs) (ok : CosOk cs S) : SatV Tryz.prog 106 [v] w (.int .i64 0) := by
  obtain ⟨fv, hcv, hrow⟩ := h.rows
  obtain ⟨ca, cc, rfl, _⟩ := hcv.out
  have hlen := ok.len
  have hpos := ok.pos
  have hle := ok.le
  have hcf : ∀ (p : Value) w1, Below w.heap.size w w1 → Pt1 w1 p (.slice ca cs.length cc) → SatV Tryz.prog 137 [.slice ca cs.length cc, .func (.func 138) #[] #[p]] w1 (.bool false) := fun p w1 hb hp => by
    have := containsF_tab_sat (.slice ca cs.length cc) cs.length fv (fun j => decide ((cs.getD j []).length ≠ cs.length)) 138 #[p] w1 (hcv.below hb) (fun k hk w2 hb2 => mat1_sat _ p _ _ cs.length fv w2 (((hrow k).below hb).below hb2) (hp.below hb2) ((hcv.below hb).below hb2))
    rwa [anyN_none (fun j hj => decide_eq_false (fun h => h (by rw [ok.row j (by omega), hlen])))] at this
  refine SatL.of 50 [2] Tryz.func106 (by kernel_rfl) (by kernel_rfl) rfl rfl rfl rfl ?_
  repeat' (first|(apply OK_seq)|(apply thenQ_n)|(apply OK_region)|(apply OKx_gc 137;exact rfl; refine OKx_callV (f := 137) (v := .bool false) rfl rfl rfl (fun w1 hp => hcf _ w1 hp.below (pt1Box hp 0 rfl 0 rfl)) ?_)|(apply OKx_nilK)|(apply OK_block)|(apply blockQ_n)|(apply blockQ_s)|(apply thenQ_e)|(apply blockQ_e;exact rfl)|(apply thenQ_r)|(apply blockQ_r)|(apply OK_condT;exact rfl)|(apply OK_condF;exact rfl)|(apply OK_skip)|(apply OK_exit)|(apply OK_ret)|(apply OKx_move;(conv=>lhs;whnf)<;>exact rfl)|(apply OKx_assign;(conv=>lhs;whnf)<;>exact rfl)|(apply OKx_ldB;exact rfl;(first | exact at0|exact at1|exact at2|exact at3|exact at4|exact at5|exact at6|exact at7);exact rfl)|(apply OKx_ldR;(conv=>lhs;whnf)<;>exact rfl;(with_reducible assumption))|(apply OKx_ldI;exact rfl;(first | exact at0|exact at1|exact at2|exact at3|exact at4|exact at5|exact at6|exact at7);omega)|(apply OKx_len;exact rfl)|(apply OKx_lenR;(conv=>lhs;whnf)<;>exact rfl;(with_reducible assumption))|(apply OKx_lenR2;(conv=>lhs;whnf)<;>exact rfl;(with_reducible assumption))|(apply OKx_lenO;(conv=>lhs;whnf)<;>exact rfl;(first | exact at0|exact at1|exact at2|exact at3|exact at4|exact at5|exact at6|exact at7))|(apply OKx_lss;exact rfl;exact rfl;all_goals (intro _; try (exfalso;omega)))|(apply OKx_gtr;exact rfl;exact rfl;all_goals (intro _; try (exfalso;omega)))|(apply OKx_eql;exact rfl;exact rfl;all_goals (intro _; try (exfalso;omega)))|(apply OKx_neq;exact rfl;exact rfl;all_goals (intro _; try (exfalso;omega)))|(apply OKx_idxO;exact rfl;exact rfl;omega)|(apply OKx_idxR;(conv=>lhs;whnf)<;>exact rfl;(with_reducible assumption);exact rfl;omega;intro _ _)|(apply OKx_idxOz;exact rfl;exact rfl;omega;omega)|(apply OKx_idxRz;(conv=>lhs;whnf)<;>exact rfl;(with_reducible assumption);exact rfl;omega;omega;intro _ _)|(apply OKx_inc;exact rfl;exact rfl;omega)|(apply OKx_addN;exact rfl;exact rfl;omega)|(apply OKx_add;exact rfl;exact rfl;omega;omega)|(apply OKx_pickT;exact rfl;(conv=>lhs;whnf)<;>exact rfl)|(apply OKx_pickF;exact rfl;(conv=>lhs;whnf)<;>exact rfl)|(apply OKx_guardT;exact rfl;exact rfl)|(apply OKx_guardF;exact rfl;exact rfl)|(apply OKx_guardU;exact rfl;exact rfl)|(apply OKx_box1;(conv=>lhs;whnf)<;>exact rfl;exact rfl;intro _)|(apply OKx_func;exact rfl;exact rfl))
  refine OK_loop1 21 [2, 3, 4, 5, 6, 21, 22, 23, 24, 25, 26, 27, 28, 29, 30, 31, 32, 33, 34, 35, 36, 37, 38, 39, 40, 41, 42, 43, 44, 45, 46, 47, 48, 49] (fun m x L => ∃ k : Nat, k + m = cs.length ∧ x = .int .i64 (k : Int) ∧ L = []) cs.length _ Ent.nil ⟨0, by omega, rfl, rfl⟩ ?_
  rintro m x L G ⟨k, hm, rfl, rfl⟩
  by_cases hk : k < cs.length
  rotate_left
  · repeat' (first|(apply OK_seq)|(apply thenQ_n)|(apply OK_region)|(apply OKx_nilK)|(apply OK_block)|(apply blockQ_n)|(apply blockQ_s)|(apply thenQ_e)|(apply blockQ_e;exact rfl)|(apply thenQ_r)|(apply blockQ_r)|(apply OK_condT;exact rfl)|(apply OK_condF;exact rfl)|(apply OK_skip)|(apply OK_exit)|(apply OK_ret)|(apply OKx_move;(conv=>lhs;whnf)<;>exact rfl)|(apply OKx_assign;(conv=>lhs;whnf)<;>exact rfl)|(apply OKx_ldB;exact rfl;(first | exact at0|exact at1|exact at2|exact at3|exact at4|exact at5|exact at6|exact at7);exact rfl)|(apply OKx_ldR;(conv=>lhs;whnf)<;>exact rfl;(with_reducible assumption))|(apply OKx_ldI;exact rfl;(first | exact at0|exact at1|exact at2|exact at3|exact at4|exact at5|exact at6|exact at7);omega)|(apply OKx_len;exact rfl)|(apply OKx_lenR;(conv=>lhs;whnf)<;>exact rfl;(with_reducible assumption))|(apply OKx_lenR2;(conv=>lhs;whnf)<;>exact rfl;(with_reducible assumption))|(apply OKx_lenO;(conv=>lhs;whnf)<;>exact rfl;(first | exact at0|exact at1|exact at2|exact at3|exact at4|exact at5|exact at6|exact at7))|(apply OKx_lss;exact rfl;exact rfl;all_goals (intro _; try (exfalso;omega)))|(apply OKx_gtr;exact rfl;exact rfl;all_goals (intro _; try (exfalso;omega)))|(apply OKx_eql;exact rfl;exact rfl;all_goals (intro _; try (exfalso;omega)))|(apply OKx_neq;exact rfl;exact rfl;all_goals (intro _; try (exfalso;omega)))|(apply OKx_idxO;exact rfl;exact rfl;omega)|(apply OKx_idxR;(conv=>lhs;whnf)<;>exact rfl;(with_reducible assumption);exact rfl;omega;intro _ _)|(apply OKx_idxOz;exact rfl;exact rfl;omega;omega)|(apply OKx_idxRz;(conv=>lhs;whnf)<;>exact rfl;(with_reducible assumption);exact rfl;omega;omega;intro _ _)|(apply OKx_inc;exact rfl;exact rfl;omega)|(apply OKx_addN;exact rfl;exact rfl;omega)|(apply OKx_add;exact rfl;exact rfl;omega;omega)|(apply OKx_pickT;exact rfl;(conv=>lhs;whnf)<;>exact rfl)|(apply OKx_pickF;exact rfl;(conv=>lhs;whnf)<;>exact rfl)|(apply OKx_guardT;exact rfl;exact rfl)|(apply OKx_guardF;exact rfl;exact rfl)|(apply OKx_guardU;exact rfl;exact rfl)|(apply OKx_box1;(conv=>lhs;whnf)<;>exact rfl;exact rfl;intro _)|(apply OKx_func;exact rfl;exact rfl))
    refine bodyQ_r1 (by ((conv=>lhs;whnf)<;>exact rfl)) ?_
    exact ⟨_, Ent.nil, rfl, rfl⟩
  have hr1 := hrow k
  have hrs := hr1.sl
  have hrl := ok.row k (by omega)
  repeat' (first|(apply OK_seq)|(apply thenQ_n)|(apply OK_region)|(apply OKx_nilK)|(apply OK_block)|(apply blockQ_n)|(apply blockQ_s)|(apply thenQ_e)|(apply blockQ_e;exact rfl)|(apply thenQ_r)|(apply blockQ_r)|(apply OK_condT;exact rfl)|(apply OK_condF;exact rfl)|(apply OK_skip)|(apply OK_exit)|(apply OK_ret)|(apply OKx_move;(conv=>lhs;whnf)<;>exact rfl)|(apply OKx_assign;(conv=>lhs;whnf)<;>exact rfl)|(apply OKx_ldB;exact rfl;(first | exact at0|exact at1|exact at2|exact at3|exact at4|exact at5|exact at6|exact at7);exact rfl)|(apply OKx_ldR;(conv=>lhs;whnf)<;>exact rfl;(with_reducible assumption))|(apply OKx_ldI;exact rfl;(first | exact at0|exact at1|exact at2|exact at3|exact at4|exact at5|exact at6|exact at7);omega)|(apply OKx_len;exact rfl)|(apply OKx_lenR;(conv=>lhs;whnf)<;>exact rfl;(with_reducible assumption))|(apply OKx_lenR2;(conv=>lhs;whnf)<;>exact rfl;(with_reducible assumption))|(apply OKx_lenO;(conv=>lhs;whnf)<;>exact rfl;(first | exact at0|exact at1|exact at2|exact at3|exact at4|exact at5|exact at6|exact at7))|(apply OKx_lss;exact rfl;exact rfl;all_goals (intro _; try (exfalso;omega)))|(apply OKx_gtr;exact rfl;exact rfl;all_goals (intro _; try (exfalso;omega)))|(apply OKx_eql;exact rfl;exact rfl;all_goals (intro _; try (exfalso;omega)))|(apply OKx_neq;exact rfl;exact rfl;all_goals (intro _; try (exfalso;omega)))|(apply OKx_idxO;exact rfl;exact rfl;omega)|(apply OKx_idxR;(conv=>lhs;whnf)<;>exact rfl;(with_reducible assumption);exact rfl;omega;intro _ _)|(apply OKx_idxOz;exact rfl;exact rfl;omega;omega)|(apply OKx_idxRz;(conv=>lhs;whnf)<;>exact rfl;(with_reducible assumption);exact rfl;omega;omega;intro _ _)|(apply OKx_inc;exact rfl;exact rfl;omega)|(apply OKx_addN;exact rfl;exact rfl;omega)|(apply OKx_add;exact rfl;exact rfl;omega;omega)|(apply OKx_pickT;exact rfl;(conv=>lhs;whnf)<;>exact rfl)|(apply OKx_pickF;exact rfl;(conv=>lhs;whnf)<;>exact rfl)|(apply OKx_guardT;exact rfl;exact rfl)|(apply OKx_guardF;exact rfl;exact rfl)|(apply OKx_guardU;exact rfl;exact rfl)|(apply OKx_box1;(conv=>lhs;whnf)<;>exact rfl;exact rfl;intro _)|(apply OKx_func;exact rfl;exact rfl))
  refine OK_loop1 28 [2, 5, 6, 28, 29, 30, 31, 32, 33, 34, 35, 36, 37, 38, 39, 40, 41, 42, 43, 44, 45, 46, 47, 48] (fun m2 x L => ∃ l : Nat, l + m2 = (cs.getD k []).length ∧ x = .int .i64 (l : Int) ∧ L = []) (cs.getD k []).length _ Ent.nil ⟨0, by omega, rfl, rfl⟩ ?_
  rintro m2 x L G2 ⟨l, hm2, rfl, rfl⟩
  by_cases hl : l < (cs.getD k []).length
  · have hrg := ok.rng k l
    have hdi := ok.dia k (by omega)
    unfold cosT at hrg hdi
    generalize hx : (cs.getD k []).getD l 0 = x at *
    have hdx : k = l → x = 0 := fun e => by subst e; rw [← hx]; exact hdi
    repeat' (first|(apply OK_seq)|(apply thenQ_n)|(apply OK_region)|(apply OKx_nilK)|(apply OK_block)|(apply blockQ_n)|(apply blockQ_s)|(apply thenQ_e)|(apply blockQ_e;exact rfl)|(apply thenQ_r)|(apply blockQ_r)|(apply OK_condT;exact rfl)|(apply OK_condF;exact rfl)|(apply OK_skip)|(apply OK_exit)|(apply OK_ret)|(apply OKx_move;(conv=>lhs;whnf)<;>exact rfl)|(apply OKx_assign;(conv=>lhs;whnf)<;>exact rfl)|(apply OKx_ldB;exact rfl;(first | exact at0|exact at1|exact at2|exact at3|exact at4|exact at5|exact at6|exact at7);exact rfl)|(apply OKx_ldR;(conv=>lhs;whnf)<;>exact rfl;(with_reducible assumption))|(apply OKx_ldI;exact rfl;(first | exact at0|exact at1|exact at2|exact at3|exact at4|exact at5|exact at6|exact at7);omega)|(apply OKx_len;exact rfl)|(apply OKx_lenR;(conv=>lhs;whnf)<;>exact rfl;(with_reducible assumption))|(apply OKx_lenR2;(conv=>lhs;whnf)<;>exact rfl;(with_reducible assumption))|(apply OKx_lenO;(conv=>lhs;whnf)<;>exact rfl;(first | exact at0|exact at1|exact at2|exact at3|exact at4|exact at5|exact at6|exact at7))|(apply OKx_lss;exact rfl;exact rfl;all_goals (intro _; try (exfalso;omega)))|(apply OKx_gtr;exact rfl;exact rfl;all_goals (intro _; try (exfalso;omega)))|(apply OKx_eql;exact rfl;exact rfl;all_goals (intro _; try (exfalso;omega)))|(apply OKx_neq;exact rfl;exact rfl;all_goals (intro _; try (exfalso;omega)))|(apply OKx_idxO;exact rfl;exact rfl;omega)|(apply OKx_idxR;(conv=>lhs;whnf)<;>exact rfl;(with_reducible assumption);exact rfl;omega;intro _ _)|(apply OKx_idxOz;exact rfl;exact rfl;omega;omega)|(apply OKx_idxRz;(conv=>lhs;whnf)<;>exact rfl;(with_reducible assumption);exact rfl;omega;omega;intro _ _)|(apply OKx_inc;exact rfl;exact rfl;omega)|(apply OKx_addN;exact rfl;exact rfl;omega)|(apply OKx_add;exact rfl;exact rfl;omega;omega)|(apply OKx_pickT;exact rfl;(conv=>lhs;whnf)<;>exact rfl)|(apply OKx_pickF;exact rfl;(conv=>lhs;whnf)<;>exact rfl)|(apply OKx_guardT;exact rfl;exact rfl)|(apply OKx_guardF;exact rfl;exact rfl)|(apply OKx_guardU;exact rfl;exact rfl)|(apply OKx_box1;(conv=>lhs;whnf)<;>exact rfl;exact rfl;intro _)|(apply OKx_func;exact rfl;exact rfl))
    all_goals
      refine ⟨by (repeat' (first | refine agree_upd rfl ?_ | exact agree_over | exact agree_refl _ _ | refine agree_over2 rfl ?_)), m2 - 1, _, by omega, Ent.refl _ _, ?_⟩
      exact ⟨l + 1, by omega, rfl, rfl⟩
  · repeat' (first|(apply OK_seq)|(apply thenQ_n)|(apply OK_region)|(apply OKx_nilK)|(apply OK_block)|(apply blockQ_n)|(apply blockQ_s)|(apply thenQ_e)|(apply blockQ_e;exact rfl)|(apply thenQ_r)|(apply blockQ_r)|(apply OK_condT;exact rfl)|(apply OK_condF;exact rfl)|(apply OK_skip)|(apply OK_exit)|(apply OK_ret)|(apply OKx_move;(conv=>lhs;whnf)<;>exact rfl)|(apply OKx_assign;(conv=>lhs;whnf)<;>exact rfl)|(apply OKx_ldB;exact rfl;(first | exact at0|exact at1|exact at2|exact at3|exact at4|exact at5|exact at6|exact at7);exact rfl)|(apply OKx_ldR;(conv=>lhs;whnf)<;>exact rfl;(with_reducible assumption))|(apply OKx_ldI;exact rfl;(first | exact at0|exact at1|exact at2|exact at3|exact at4|exact at5|exact at6|exact at7);omega)|(apply OKx_len;exact rfl)|(apply OKx_lenR;(conv=>lhs;whnf)<;>exact rfl;(with_reducible assumption))|(apply OKx_lenR2;(conv=>lhs;whnf)<;>exact rfl;(with_reducible assumption))|(apply OKx_lenO;(conv=>lhs;whnf)<;>exact rfl;(first | exact at0|exact at1|exact at2|exact at3|exact at4|exact at5|exact at6|exact at7))|(apply OKx_lss;exact rfl;exact rfl;all_goals (intro _; try (exfalso;omega)))|(apply OKx_gtr;exact rfl;exact rfl;all_goals (intro _; try (exfalso;omega)))|(apply OKx_eql;exact rfl;exact rfl;all_goals (intro _; try (exfalso;omega)))|(apply OKx_neq;exact rfl;exact rfl;all_goals (intro _; try (exfalso;omega)))|(apply OKx_idxO;exact rfl;exact rfl;omega)|(apply OKx_idxR;(conv=>lhs;whnf)<;>exact rfl;(with_reducible assumption);exact rfl;omega;intro _ _)|(apply OKx_idxOz;exact rfl;exact rfl;omega;omega)|(apply OKx_idxRz;(conv=>lhs;whnf)<;>exact rfl;(with_reducible assumption);exact rfl;omega;omega;intro _ _)|(apply OKx_inc;exact rfl;exact rfl;omega)|(apply OKx_addN;exact rfl;exact rfl;omega)|(apply OKx_add;exact rfl;exact rfl;omega;omega)|(apply OKx_pickT;exact rfl;(conv=>lhs;whnf)<;>exact rfl)|(apply OKx_pickF;exact rfl;(conv=>lhs;whnf)<;>exact rfl)|(apply OKx_guardT;exact rfl;exact rfl)|(apply OKx_guardF;exact rfl;exact rfl)|(apply OKx_guardU;exact rfl;exact rfl)|(apply OKx_box1;(conv=>lhs;whnf)<;>exact rfl;exact rfl;intro _)|(apply OKx_func;exact rfl;exact rfl))
    refine ⟨by (repeat' (first | refine agree_upd rfl ?_ | exact agree_over | exact agree_refl _ _ | refine agree_over2 rfl ?_)), m - 1, _, by omega, Ent.refl _ _, ?_⟩
    exact ⟨k + 1, by omega, rfl, rfl⟩
def chE (t : Tre) (st : List Int) (S : Nat) : Int := if treC t ≠ 0 then 1 else knwE st (lvs t).length (-1) (S : Int)
set_option maxRecDepth 100000 in
set_option maxHeartbeats 4000000 in
theorem pChk_sat (v sv cv : Value) (t : Tre) (st : List Int) (cs : List (List Int)) (S : Nat) (w : World) (h : Tri w v t) (hS : Ints w sv st) (hC : Tabs w cv cs) (ok : CosOk cs S) :
    SatV Tryz.prog 76 [v, sv, cv] w (.int .i64 (chE t st S)) := by
  have ht := h
  obtain ⟨pv, nv, rfl, hP, hN⟩ := h
  have hlen := ok.len
  have hle := ok.le
  obtain ⟨fv, hcv, hrow⟩ := hC.rows
  have hL : ∀ w1, Below w.heap.size w w1 → Sat Tryz.prog 11 [.agg #[pv, nv]] w1 (LvR t) := fun w1 hb => Leaves_sat _ t w1 (ht.below hb)
  have hmt : ∀ w1, Below w.heap.size w w1 → SatV Tryz.prog 106 [cv] w1 (.int .i64 0) := fun w1 hb => mat_sat cv cs S w1 (hC.below hb) ok
  unfold chE
  by_cases hc : treC t = 0
  rotate_left
  · rw [if_pos hc]
    have hL2 : ∀ w1, Below w.heap.size w w1 → Sat Tryz.prog 11 [.agg #[pv, nv]] w1 (fun u L => u = .tuple #[.slice none 0 0, .int .i64 1] ∧ L = []) := fun w1 hb =>
      (hL w1 hb).mono (by
        rintro u L (⟨_, h1, h2⟩ | ⟨h1, _⟩)
        · exact ⟨h1, h2⟩
        · exact absurd h1 hc)
    refine SatL.of 28 [6] Tryz.func76 (by kernel_rfl) (by kernel_rfl) rfl rfl rfl rfl ?_
    repeat' (first|(apply OK_seq)|(apply thenQ_n)|(apply OK_region)|(apply OKx_gc 11;exact rfl; refine OKx_call (f := 11) rfl rfl (fun w1 hp => hL2 w1 hp.below) ?_; rintro _ _ ⟨rfl, rfl⟩; simp only [List.cons_append, List.nil_append])|(apply OKx_nilK)|(apply OK_block)|(apply blockQ_n)|(apply blockQ_s)|(apply thenQ_e)|(apply blockQ_e;exact rfl)|(apply thenQ_r)|(apply blockQ_r)|(apply OK_condT;exact rfl)|(apply OK_condF;exact rfl)|(apply OK_skip)|(apply OK_exit)|(apply OK_ret)|(apply OKx_move;(conv=>lhs;whnf)<;>exact rfl)|(apply OKx_assign;(conv=>lhs;whnf)<;>exact rfl)|(apply OKx_len;exact rfl)|(apply OKx_lenR;(conv=>lhs;whnf)<;>exact rfl;(with_reducible assumption))|(apply OKx_lenR2;(conv=>lhs;whnf)<;>exact rfl;(with_reducible assumption))|(apply OKx_lenO;(conv=>lhs;whnf)<;>exact rfl;(first | exact at0|exact at1|exact at2|exact at3|exact at4|exact at5|exact at6|exact at7))|(apply OKx_neq;exact rfl;exact rfl;all_goals (intro _; try (exfalso;omega)))|(apply OKx_extract;exact rfl;(conv=>lhs;whnf)<;>exact rfl)|(apply OKx_boxA;exact rfl;intro _)|(apply OKx_ldBA;exact rfl;(first | exact at0|exact at1|exact at2|exact at3|exact at4|exact at5|exact at6|exact at7);exact rfl)|(apply OKx_ldRA;(conv=>lhs;whnf)<;>exact rfl;(with_reducible assumption)))
    refine bodyQ_r1 (by ((conv=>lhs;whnf)<;>exact rfl)) ?_
    exact ⟨_, Ent.nil, rfl, rfl⟩
  rw [if_neg (fun h => h hc)]
  have hl := treC_len hc
  have hlk := lvL_len t t.names.length
  have hlv64 : (lvs t).length ≤ 64 := Nat.le_trans hlk (by omega)
  have hL3 : ∀ w1, Below w.heap.size w w1 → Sat Tryz.prog 11 [.agg #[pv, nv]] w1 (fun u L => ∃ a n c, n = (lvs t).length ∧ u = .tuple #[.slice a n c, .int .i64 0] ∧ L = [.row 3 1 (.slice a n c) n (ints (lvs t))]) := fun w1 hb =>
    (hL w1 hb).mono (by
      rintro u L (⟨h1, _⟩ | ⟨_, a, n, c, h2, h3, _, h4⟩)
      · exact absurd hc h1
      · exact ⟨a, n, c, h2, h3, h4⟩)
  have hkn : ∀ w1, Below w.heap.size w w1 → SatV Tryz.prog 52 [sv, .int .i64 ((lvs t).length : Int), .int .i64 (-1), .int .i64 (cs.length : Int)] w1 (.int .i64 (knwE st (lvs t).length (-1) (S : Int))) := fun w1 hb => by rw [hlen]; exact knw_sat _ st _ _ _ w1 (hS.below hb) (by omega)
  refine SatL.of 28 [6] Tryz.func76 (by kernel_rfl) (by kernel_rfl) rfl rfl rfl rfl ?_
  repeat' (first|(apply OK_seq)|(apply thenQ_n)|(apply OK_region)|(apply OKx_gc 11;exact rfl; refine OKx_call (f := 11) rfl rfl (fun w1 hp => hL3 w1 hp.below) ?_; rintro _ _ ⟨la, nl, lc, rfl, rfl, rfl⟩; simp only [List.cons_append, List.nil_append])|(apply OKx_gc 106;exact rfl; refine OKx_callV (f := 106) rfl rfl rfl (fun w1 hp => hmt w1 hp.below) ?_)|(apply OKx_gc 52;exact rfl; refine OKx_callV (f := 52) rfl rfl rfl (fun w1 hp => hkn w1 hp.below) ?_)|(apply OKx_nilK)|(apply OK_block)|(apply blockQ_n)|(apply blockQ_s)|(apply thenQ_e)|(apply blockQ_e;exact rfl)|(apply thenQ_r)|(apply blockQ_r)|(apply OK_condT;exact rfl)|(apply OK_condF;exact rfl)|(apply OK_skip)|(apply OK_exit)|(apply OK_ret)|(apply OKx_move;(conv=>lhs;whnf)<;>exact rfl)|(apply OKx_assign;(conv=>lhs;whnf)<;>exact rfl)|(apply OKx_len;exact rfl)|(apply OKx_lenR;(conv=>lhs;whnf)<;>exact rfl;(with_reducible assumption))|(apply OKx_lenR2;(conv=>lhs;whnf)<;>exact rfl;(with_reducible assumption))|(apply OKx_lenO;(conv=>lhs;whnf)<;>exact rfl;(first | exact at0|exact at1|exact at2|exact at3|exact at4|exact at5|exact at6|exact at7))|(apply OKx_neq;exact rfl;exact rfl;all_goals (intro _; try (exfalso;omega)))|(apply OKx_extract;exact rfl;(conv=>lhs;whnf)<;>exact rfl)|(apply OKx_boxA;exact rfl;intro _)|(apply OKx_ldBA;exact rfl;(first | exact at0|exact at1|exact at2|exact at3|exact at4|exact at5|exact at6|exact at7);exact rfl)|(apply OKx_ldRA;(conv=>lhs;whnf)<;>exact rfl;(with_reducible assumption)))
  refine bodyQ_r1 (by ((conv=>lhs;whnf)<;>exact rfl)) ?_
  exact ⟨_, Ent.nil, rfl, rfl⟩
def UnqR (n : Nat) (u : Value) (L : List Res) : Prop := ∃ g, u = .tuple #[.slice (some ⟨g, 0, none⟩) n n, .int .i64 0] ∧ ∀ w0 w, Hp w0.heap.size w0 w L → Tabs w (.slice (some ⟨g, 0, none⟩) n n) (uniL n)
set_option maxRecDepth 100000 in
set_option maxHeartbeats 4000000 in
theorem Unit_sat (n : Nat) (w : World) (h0 : 0 < n) (hn : n ≤ 16) : Sat Tryz.prog 36 [.int .i64 (n : Int)] w (UnqR n) := by
  refine SatL.of 12 [2, 3] Tryz.func36 (by kernel_rfl) (by kernel_rfl) rfl rfl rfl rfl ?_
  repeat' (first|(apply OK_seq)|(apply thenQ_n)|(apply OK_region)|(apply OKx_gc 55;exact rfl; refine OKx_call (f := 55) rfl rfl (fun w1 hp => unit_sat n w1 (by omega)) ?_; rintro _ LU ⟨gU, rfl, hU⟩)|(apply OKx_nilK)|(apply OK_block)|(apply blockQ_n)|(apply blockQ_s)|(apply thenQ_e)|(apply blockQ_e;exact rfl)|(apply thenQ_r)|(apply blockQ_r)|(apply OK_condT;exact rfl)|(apply OK_condF;exact rfl)|(apply OK_skip)|(apply OK_exit)|(apply OK_ret)|(apply OKx_move;(conv=>lhs;whnf)<;>exact rfl)|(apply OKx_assign;(conv=>lhs;whnf)<;>exact rfl)|(apply OKx_lss;exact rfl;exact rfl;all_goals (intro _; try (exfalso;omega)))|(apply OKx_gtr;exact rfl;exact rfl;all_goals (intro _; try (exfalso;omega)))|(apply OKx_pickT;exact rfl;(conv=>lhs;whnf)<;>exact rfl)|(apply OKx_pickF;exact rfl;(conv=>lhs;whnf)<;>exact rfl)|(apply OKx_guardT;exact rfl;exact rfl)|(apply OKx_guardF;exact rfl;exact rfl)|(apply OKx_guardU;exact rfl;exact rfl))
  refine bodyQ_r2 (by ((conv=>lhs;whnf)<;>exact rfl)) (by ((conv=>lhs;whnf)<;>exact rfl)) ?_
  exact ⟨_, Ent.sub (List.sublist_append_left _ _), gU, rfl, hU⟩
def TbqR (t : Tre) (st : List Int) (cs : List (List Int)) (S : Nat) (u : Value) (L : List Res) : Prop :=
  ∃ g vs Z, u = .tuple #[.slice (some ⟨g, 0, none⟩) t.par.length t.par.length, .int .i64 0] ∧ L = .row 22 1 (.slice (some ⟨g, 0, none⟩) t.par.length t.par.length) t.par.length vs :: Z ∧ vs.length = t.par.length ∧ ∀ w1 w, Hp w1.heap.size w1 w Z → ∀ j, j < t.par.length → Ints w (vs.getD j undef) (tabV (cosT cs) t.par (knT (lvs t) st) S j)
set_option maxRecDepth 100000 in
set_option maxHeartbeats 4000000 in
theorem Table_sat (v sv cv : Value) (t : Tre) (st : List Int) (cs : List (List Int)) (S : Nat) (w : World) (h : Tri w v t) (hS : Ints w sv st) (hC : Tabs w cv cs) (ok : CosOk cs S) (hE : chE t st S = 0) :
    Sat Tryz.prog 37 [v, sv, cv] w (TbqR t st cs S) := by
  have hck : ∀ w1, Below w.heap.size w w1 → SatV Tryz.prog 76 [v, sv, cv] w1 (.int .i64 0) := fun w1 hb => by have := pChk_sat v sv cv t st cs S w1 (h.below hb) (hS.below hb) (hC.below hb) ok; rwa [hE] at this
  have hc : treC t = 0 := by
    unfold chE at hE
    split at hE
    · omega
    · rename_i h; exact Classical.byContradiction fun h2 => h h2
  have hk : knwE st (lvs t).length (-1) (S : Int) = 0 := by unfold chE at hE; rwa [if_neg (fun h => h hc)] at hE
  have hls : (lvs t).length = st.length := by
    unfold knwE at hk
    by_cases h1 : st.length = (lvs t).length
    · exact h1.symm
    · rw [if_pos h1] at hk;omega
  have hS16 := ok.le
  have trok : TrOk (cosT cs) t.par (knT (lvs t) st) S := trOk_of hc ok.pos (fun a b => (ok.rng a b).1) hk
  have hT : ∀ w1, Below w.heap.size w w1 → Sat Tryz.prog 54 [v, sv, cv] w1 (TabR (cosT cs) t.par (knT (lvs t) st) S) := fun w1 hb =>
    table_sat _ _ cv t st cs S w1 (h.below hb) (hS.below hb) (hC.below hb) hc ok.len (by omega) ok.row ok.rng hls trok
  obtain ⟨pv, nv, rfl, hP, hN⟩ := h
  refine SatL.of 20 [6, 7] Tryz.func37 (by kernel_rfl) (by kernel_rfl) rfl rfl rfl rfl ?_
  repeat' (first|(apply OK_seq)|(apply thenQ_n)|(apply OK_region)|(apply OKx_gc 76;exact rfl; refine OKx_callV (f := 76) rfl rfl rfl (fun w1 hp => hck w1 hp.below) ?_)|(apply OKx_gc 54;exact rfl; refine OKx_call (f := 54) rfl rfl (fun w1 hp => hT w1 hp.below) ?_; rintro _ _ ⟨gO, vs, Z, rfl, rfl, hvl, hZ⟩; simp only [List.cons_append, List.nil_append])|(apply OKx_nilK)|(apply OK_block)|(apply blockQ_n)|(apply blockQ_s)|(apply thenQ_e)|(apply blockQ_e;exact rfl)|(apply thenQ_r)|(apply blockQ_r)|(apply OK_condT;exact rfl)|(apply OK_condF;exact rfl)|(apply OK_skip)|(apply OK_exit)|(apply OK_ret)|(apply OKx_move;(conv=>lhs;whnf)<;>exact rfl)|(apply OKx_assign;(conv=>lhs;whnf)<;>exact rfl)|(apply OKx_neq;exact rfl;exact rfl;all_goals (intro _; try (exfalso;omega)))|(apply OKx_boxA;exact rfl;intro _)|(apply OKx_ldBA;exact rfl;(first | exact at0|exact at1|exact at2|exact at3|exact at4|exact at5|exact at6|exact at7);exact rfl)|(apply OKx_ldRA;(conv=>lhs;whnf)<;>exact rfl;(with_reducible assumption)))
  refine bodyQ_r2 (by ((conv=>lhs;whnf)<;>exact rfl)) (by ((conv=>lhs;whnf)<;>exact rfl)) ?_
  exact ⟨_, (Ent.sub ((List.sublist_append_left (_ :: Z) _))), gO, vs, Z, rfl, rfl, hvl, hZ⟩
end Go.Proofs.YtdigdmnnjbndlaaGreatDoor
namespace Go.Proofs.YtdigdmnnjbndlaaGreatDoor
open Go.RowKit Go.Deep Go.WideShapes
def I8s (w : World) (v : Value) (xs : List Int) : Prop := Sl w v 1 xs.length (fun j => .int .i8 (xs.getD j 0))
section
variable {H : Type} {enc : TypeId × Value → H} {W : World}
theorem I8s.openT {v : Value} {d : DataW H} {ps : List MemPlace} (ho : ∃ a n c, v = .slice a n c) (h : DataW.Trod enc Tryz.prog W 0 (fun _ => true) true 60 v d ps) (hw : Light 60 d) :
    ∃ xs : List Int, I8s W v xs ∧ ∀ i ∈ xs, -128 ≤ i ∧ i ≤ 127 := by
  obtain ⟨fuel, h⟩ := h
  rw [one_cell ho] at h
  obtain ⟨n, m, V, D, Q, h1, h2⟩ := open_sl Tryz.underlying60 (by kernel_rfl) (of_decide_eq_true (by kernel_rfl)) h hw
  obtain ⟨Z, hZ⟩ := choose_lt (α := Int) (p := fun i z => V i = .int .i8 z ∧ -128 ≤ z ∧ z ≤ 127) (fun i hi => by
    obtain ⟨z, h4, _, h5⟩ := DataW.trod_int Tryz.underlying61 (h2 i hi).1
    refine ⟨z, by simpa using h4, ?_⟩
    have e1 : IntKind.i8.min = -128 := rfl
    have e2 : IntKind.i8.max = 127 := rfl
    simp only [Lit.wf, Bool.and_eq_true, decide_eq_true_eq] at h5
    omega)
  refine ⟨(List.range n).map Z, ?_, ?_⟩
  · unfold I8s
    rw [List.length_map, List.length_range]
    exact h1.congr fun j hj => (hZ j (by omega)).1.trans (by rw [range_getD _ _ _ _ (by omega)])
  · intro i hi
    obtain ⟨j, hj, rfl⟩ := List.mem_map.1 hi
    exact (hZ j (List.mem_range.1 hj)).2
end
end Go.Proofs.YtdigdmnnjbndlaaGreatDoor
