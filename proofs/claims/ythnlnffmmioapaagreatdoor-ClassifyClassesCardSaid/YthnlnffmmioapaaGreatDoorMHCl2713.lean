/-
  Part 13 of the proof: Ms27, Ow27, Wd27. No statement of the seat is proved here.
-/
import Derived.Test.YthnlnffmmioapaaGreatDoorMHCl2712
namespace Go.Proofs.YthnlnffmmioapaaGreatDoor
open Go.RowKit
def MesF (x : Cnd) (d n : Nat) (b : Bool) (n' : Nat) : Prop := (b = true ∧ x.depth + d ≤ 17 ∧ n + x.cnt ≤ 65536 ∧ n' = n + x.cnt) ∨ (b = false ∧ ¬(x.depth + d ≤ 17 ∧ n + x.cnt ≤ 65536) ∧ n' ≤ 65537)
abbrev mesW (gn gw : Nat) : Res := .box 115 gw [.func (.func 96) #[] #[.pointer (some ⟨gn, 0, none⟩), .pointer (some ⟨gw, 0, none⟩)]]
abbrev mesN (gn n : Nat) : Res := .box 3 gn [.int .i64 (n : Int)]
def Mes1 (x : Cnd) : Prop := ∀ (v : Value) (d n gn gw : Nat) (w0 : World) (X : List Res), Exp w0 x v → 1 ≤ d → d ≤ 17 → n ≤ 65536 →
  SatL Tryz.prog 96 [v, .int .i64 (d : Int), .pointer (some ⟨gn, 0, none⟩), .pointer (some ⟨gw, 0, none⟩)] w0 (mesN gn n :: mesW gn gw :: X) (fun u L => ∃ b n', u = .bool b ∧ L = mesN gn n' :: mesW gn gw :: X ∧ MesF x d n b n')
set_option maxRecDepth 100000 in
set_option maxHeartbeats 4000000 in
theorem mes11_sat (x : Cnd) (hx : Mes1 x) (v : Value) (d n gn gw gd gx : Nat) (w0 : World) (xb : List Value) (X : List Res) (h : Exp w0 x v) (h1 : 1 ≤ d) (h2 : d ≤ 16) (hn : n ≤ 65536) :
    SatL Tryz.prog 97 [v, .pointer (some ⟨gw, 0, none⟩), .pointer (some ⟨gd, 0, none⟩)] w0 (.box 3 gd [.int .i64 (d : Int)] :: .box 24 gx xb :: mesN gn n :: mesW gn gw :: X) (fun u L => ∃ b n', u = .bool (!b) ∧ L = .box 3 gd [.int .i64 (d : Int)] :: .box 24 gx xb :: mesN gn n' :: mesW gn gw :: X ∧ MesF x (d + 1) n b n') := by
  obtain ⟨pv, g, rfl, _⟩ := h.shape
  refine SatL.of 11 [4] Tryz.func97 (by kernel_rfl) (by kernel_rfl) rfl rfl rfl rfl ?_
  repeat' (first|(apply OK_seq)|(apply thenQ_n)|(apply OK_region)|(apply OKx_gc 96;exact rfl; refine OKx_ent (Ent.perm ((List.perm_append_comm (l₁ := [_, _, _]) (l₂ := [_, _])).append_right X)) ?_; simp only [List.cons_append, List.nil_append]; refine OKx_callL (f := 96) rfl rfl (hx _ (d + 1) n gn gw w0 _ h (by omega) (by omega) hn) ?_; rintro _ _ ⟨(_ | _), n', rfl, rfl, hF⟩)|(apply OKx_nilK)|(apply OK_ret)|(apply OKx_assign;(conv=>lhs;whnf)<;>exact rfl)|(apply OKx_ldB;exact rfl; (apply atP;constructor);exact rfl)|(apply OKx_inc;exact rfl;exact rfl;omega)|(apply OKx_notT;exact rfl)|(apply OKx_notF;exact rfl)|(apply OKx_boxA;exact rfl;intro _)|(apply OKx_ldBA;exact rfl; (apply atP;constructor);exact rfl))
  all_goals
    refine bodyQ_r1 (by ((conv=>lhs;whnf)<;>exact rfl)) ?_
    exact ⟨_, (Ent.perm ((List.perm_append_comm (l₁ := [_, _]) (l₂ := [_, _, _])).append_right X)).trans (Ent.sub (List.sublist_cons_self _ _)), _, n', rfl, rfl, hF⟩
theorem depth_iff (x : Cnd) (d : Nat) : x.depth + d ≤ 17 ↔ d ≤ 16 ∧ ∀ y ∈ x.parts, y.depth + (d + 1) ≤ 17 := by
  rw [depth_eq]
  constructor
  · intro h
    refine ⟨by omega, fun y hy => ?_⟩
    have := (depths_le x.parts _).1 (Nat.le_refl _) y hy
    omega
  · rintro ⟨h1, h2⟩
    have := (depths_le x.parts (16 - d)).2 fun y hy => by have := h2 y hy;omega
    omega
set_option maxRecDepth 100000 in
set_option maxHeartbeats 4000000 in
theorem mes1_sat : ∀ (k : Nat) (x : Cnd), x.depth ≤ k → Mes1 x
  | 0, x, hk => by have := depth_pos x;omega
  | k + 1, x, hk => by
    intro v d n gn gw w0 X h h1 h2 hn
    obtain ⟨pv, g, rfl, hs, hP, hE⟩ := h.shape
    have ih : ∀ j, (hj : j < x.parts.length) → Mes1 x.parts[j] := fun j hj => mes1_sat k _ (by have := depth_in (List.getElem_mem hj);omega)
    have hc := cnt_eq x
    have hml : (x.parts.map Cnd.cnt).length = x.parts.length := List.length_map _
    have hsum := fun j => sum_take_le (x.parts.map Cnd.cnt) j
    have hstep : ∀ j, (hj : j < x.parts.length) → ((x.parts.map Cnd.cnt).take (j + 1)).sum = ((x.parts.map Cnd.cnt).take j).sum + x.parts[j].cnt := fun j hj => by
      rw [sum_take _ _ (by rw [hml]; exact hj), List.getElem_map]
    have hC : ∀ gd gx, d ≤ 16 → n + 1 ≤ 65536 → SatL Tryz.prog 57 [pv, .func (.func 97) #[] #[.pointer (some ⟨gw, 0, none⟩), .pointer (some ⟨gd, 0, none⟩)]] w0 (.box 3 gd [.int .i64 (d : Int)] :: .box 24 gx [.int .i64 x.kind, .int .i64 x.num, .string x.text, pv] :: mesN gn (n + 1) :: mesW gn gw :: X)
        (fun u L => ∃ b n', u = .bool (!b) ∧ L = .box 3 gd [.int .i64 (d : Int)] :: .box 24 gx [.int .i64 x.kind, .int .i64 x.num, .string x.text, pv] :: mesN gn n' :: mesW gn gw :: X ∧ MesF x d n b n') := fun gd gx hd hn1 => by
      have := containsF_expL_sat pv x.parts.length g (fun j L => ((x.parts.map Cnd.cnt).take j).sum + n + 1 ≤ 65536 ∧ (∀ i, (hi : i < x.parts.length) → i < j → x.parts[i].depth + (d + 1) ≤ 17) ∧ L = .box 3 gd [.int .i64 (d : Int)] :: .box 24 gx [.int .i64 x.kind, .int .i64 x.num, .string x.text, pv] :: mesN gn (((x.parts.map Cnd.cnt).take j).sum + n + 1) :: mesW gn gw :: X)
        (fun L => ∃ n', n' ≤ 65537 ∧ ¬(x.depth + d ≤ 17 ∧ n + x.cnt ≤ 65536) ∧ L = .box 3 gd [.int .i64 (d : Int)] :: .box 24 gx [.int .i64 x.kind, .int .i64 x.num, .string x.text, pv] :: mesN gn n' :: mesW gn gw :: X)
        97 #[.pointer (some ⟨gw, 0, none⟩), .pointer (some ⟨gd, 0, none⟩)] w0 hP (by
          rintro j hj L ⟨r1, r2, rfl⟩
          refine (mes11_sat x.parts[j] (ih j hj) _ d _ gn gw gd gx w0 _ X (hE j hj) h1 hd r1).mono ?_
          rintro u L ⟨b, n', rfl, rfl, (⟨rfl, q1, q2, rfl⟩ | ⟨rfl, q1, q2⟩)⟩
          · refine .inl ⟨rfl, ?_, ?_, ?_⟩
            · rw [hstep j hj];omega
            · intro i hi hij
              by_cases e : i = j
              · subst e; exact q1
              · exact r2 i hi (by omega)
            · rw [hstep j hj, show ((x.parts.map Cnd.cnt).take j).sum + x.parts[j].cnt + n + 1 = ((x.parts.map Cnd.cnt).take j).sum + n + 1 + x.parts[j].cnt by omega]
          · refine .inr ⟨rfl, n', q2, ?_, rfl⟩
            rintro ⟨p1, p2⟩
            refine q1 ⟨((depth_iff x d).1 p1).2 _ (List.getElem_mem hj), ?_⟩
            have := hsum (j + 1)
            rw [hstep j hj] at this
            omega) (.box 3 gd [.int .i64 (d : Int)] :: .box 24 gx [.int .i64 x.kind, .int .i64 x.num, .string x.text, pv] :: mesN gn (n + 1) :: mesW gn gw :: X) ⟨by simp;omega, fun i hi h0 => absurd h0 (by omega), by simp⟩
      refine this.mono ?_
      rintro u L (⟨rfl, r1, r2, rfl⟩ | ⟨rfl, n', r1, r2, rfl⟩)
      · rw [← hml, List.take_length] at r1
        refine ⟨true, _, rfl, rfl, .inl ⟨rfl, (depth_iff x d).2 ⟨hd, fun y hy => ?_⟩, by omega, ?_⟩⟩
        · obtain ⟨i, hi, rfl⟩ := List.getElem_of_mem hy
          exact r2 i hi hi
        · rw [← hml, List.take_length];omega
      · exact ⟨false, n', rfl, rfl, .inr ⟨rfl, r2, r1⟩⟩
    refine SatL.of 22 [6] Tryz.func96 (by kernel_rfl) (by kernel_rfl) rfl rfl rfl rfl ?_
    repeat' (first|(apply OK_seq)|(apply thenQ_n)|(apply OK_region)|(apply OKx_gc 57;exact rfl; refine OKx_callL (f := 57) rfl rfl (hC _ _ (by omega) (by omega)) ?_; rintro _ _ ⟨(_ | _), n', rfl, rfl, hF⟩)|(apply OKx_nilK)|(apply OK_ret)|(apply OKx_move;(conv=>lhs;whnf)<;>exact rfl)|(apply OKx_assign;(conv=>lhs;whnf)<;>exact rfl)|(apply OKx_ldB;exact rfl; (apply atP;constructor);exact rfl)|(apply OKx_leq;exact rfl;exact rfl;all_goals (intro _; try (exfalso;omega)))|(apply OKx_fldO;exact rfl;exact rfl)|(apply OKx_inc;exact rfl;exact rfl;omega)|(apply OKx_pickT;exact rfl;(conv=>lhs;whnf)<;>exact rfl)|(apply OKx_pickF;exact rfl;(conv=>lhs;whnf)<;>exact rfl)|(apply OKx_guardT;exact rfl;exact rfl)|(apply OKx_guardF;exact rfl;exact rfl)|(apply OKx_notT;exact rfl)|(apply OKx_notF;exact rfl)|(apply OKx_boxA;exact rfl;intro _)|(apply OKx_stB;exact rfl;(conv=>lhs;whnf)<;>exact rfl;exact rfl;exact rfl; (apply atP;constructor);exact rfl;exact rfl;exact rfl)|(apply OKx_box1;(conv=>lhs;whnf)<;>exact rfl;exact rfl;intro _)|(apply OKx_func;exact rfl;exact rfl))
    all_goals refine bodyQ_r1 (by ((conv=>lhs;whnf)<;>exact rfl)) ?_
    · exact ⟨mesN gn n' :: mesW gn gw :: X, Ent.sub (((List.Sublist.refl _).cons _).cons _), false, n', rfl, rfl, hF⟩
    · exact ⟨mesN gn n' :: mesW gn gw :: X, Ent.sub (((List.Sublist.refl _).cons _).cons _), true, n', rfl, rfl, hF⟩
    · refine ⟨mesN gn (n + 1) :: mesW gn gw :: X, Ent.sub (((List.Sublist.refl (mesN gn (n + 1) :: mesW gn gw :: X)).cons _).cons _), false, n + 1, rfl, rfl, .inr ⟨rfl, ?_, by omega⟩⟩
      rintro ⟨p1, p2⟩
      have := cnt_pos x
      omega
    · refine ⟨mesN gn (n + 1) :: mesW gn gw :: X, Ent.sub (((List.Sublist.refl (mesN gn (n + 1) :: mesW gn gw :: X)).cons _).cons _), false, n + 1, rfl, rfl, .inr ⟨rfl, ?_, by omega⟩⟩
      rintro ⟨p1, p2⟩
      have := ((depth_iff x d).1 p1).1
      omega
set_option maxRecDepth 100000 in
set_option maxHeartbeats 4000000 in
theorem measure_sat (v : Value) (x : Cnd) (w : World) (h : Exp w x v) : Sat Tryz.prog 77 [v] w (fun u L => ∃ n' : Nat, u = .tuple #[.int .i64 (n' : Int), .bool (mesB x)] ∧ L = [] ∧ (mesB x = true → n' = x.cnt)) := by
  obtain ⟨pv, g, rfl, hs, hP, hE⟩ := h.shape
  have h1 := fun gn gw X => mes1_sat _ x (Nat.le_refl _) _ 1 0 gn gw w X h (by omega) (by omega) (by omega)
  refine SatL.of 13 [2, 3] Tryz.func77 (by kernel_rfl) (by kernel_rfl) rfl rfl rfl rfl ?_
  repeat' (first|(apply OK_seq)|(apply thenQ_n)|(apply OK_region)|(apply OKx_gc 96;exact rfl; refine OKx_ent (Ent.perm (List.Perm.swap _ _ _)) ?_; refine OKx_callL (f := 96) rfl rfl (h1 _ _ _) ?_; rintro _ _ ⟨b, n', rfl, rfl, hF⟩)|(apply OKx_nilK)|(apply OK_ret)|(apply OKx_move;(conv=>lhs;whnf)<;>exact rfl)|(apply OKx_assign;(conv=>lhs;whnf)<;>exact rfl)|(apply OKx_ldB;exact rfl; (apply atP;constructor);exact rfl)|(apply OKx_boxA;exact rfl;intro _)|(apply OKx_alloc1;intro _)|(apply OKx_ldBA;exact rfl; (apply atP;constructor);exact rfl)|(apply OKx_stB;exact rfl;(conv=>lhs;whnf)<;>exact rfl;exact rfl;exact rfl; (apply atP;constructor);exact rfl;exact rfl;exact rfl)|(apply OKx_func;exact rfl;exact rfl))
  refine bodyQ_r2 (by ((conv=>lhs;whnf)<;>exact rfl)) (by ((conv=>lhs;whnf)<;>exact rfl)) ?_
  have hb : b = mesB x := by
    unfold mesB
    rcases hF with ⟨rfl, q1, q2, _⟩ | ⟨rfl, q1, _⟩
    · rw [decide_eq_true (by omega), decide_eq_true (by omega)]; rfl
    · rw [eq_comm, Bool.eq_false_iff]
      intro h9
      rw [Bool.and_eq_true, decide_eq_true_eq, decide_eq_true_eq] at h9
      omega
  subst hb
  refine ⟨_, Ent.nil, n', rfl, rfl, fun h9 => ?_⟩
  rcases hF with ⟨_, _, _, q⟩ | ⟨q, _, _⟩
  · omega
  · rw [h9] at q; cases q
end Go.Proofs.YthnlnffmmioapaaGreatDoor
namespace Go.Proofs.YthnlnffmmioapaaGreatDoor
open Go.RowKit
set_option maxRecDepth 100000 in
set_option maxHeartbeats 4000000 in
theorem gCheckB_sat (s : ByteArray) (w : World) (hs : s.size ≤ 140737488355328) : SatV Tryz.prog 105 [.string s] w (.int .i64 (patE (byts s))) := by
  have := gCheck_sat (byts s) w (by rw [byts_len]; exact hs)
  rwa [show bOf (byts s) = s from bOf_data s] at this
set_option maxRecDepth 100000 in
set_option maxHeartbeats 4000000 in
theorem own1_sat (x : Cnd) (v : Value) (w : World) (h : Exp w x v) (hk : KdL w) (ih : ∀ w1 v, Exp w1 x v → KdL w1 → SatV Tryz.prog 87 [v] w1 (.bool x.own)) : SatV Tryz.prog 106 [v] w (.bool (!x.own)) := by
  obtain ⟨pv, g, rfl, _⟩ := h.shape
  have ih2 := fun w1 (hb : Below w.heap.size w w1) => ih w1 _ (h.below hb) (hk.below hb)
  refine SatL.of 6 [2] Tryz.func106 (by kernel_rfl) (by kernel_rfl) rfl rfl rfl rfl ?_
  repeat' (first|(apply OK_seq)|(apply thenQ_n)|(apply OK_region)|(apply OKx_gc 87;exact rfl; refine OKx_callB (f := 87) rfl rfl rfl (fun w1 hp => ih2 w1 hp.below) ?_ ?_ <;> intro hq)|(apply OKx_nilK)|(apply OK_ret)|(apply OKx_assign;(conv=>lhs;whnf)<;>exact rfl)|(apply OKx_notT;exact rfl)|(apply OKx_notF;exact rfl)|(apply OKx_boxA;exact rfl;intro _)|(apply OKx_ldBA;exact rfl; (apply atP;constructor);exact rfl))
  all_goals
    refine bodyQ_r1 (by ((conv=>lhs;whnf)<;>exact rfl)) ?_
    exact ⟨_, Ent.nil, by rw [hq]; rfl, rfl⟩
theorem anyN_not {p : Nat → Bool} {xs : List Cnd} {f : Cnd → Bool} (h : ∀ j, (hj : j < xs.length) → p j = !f xs[j]) : anyN p xs.length = !(xs.all f) := by
  unfold anyN
  rw [Bool.eq_iff_iff, List.any_eq_true, Bool.not_eq_true', List.all_eq_false]
  constructor
  · rintro ⟨j, hj, e⟩
    rw [List.mem_range] at hj
    rw [h j hj] at e
    exact ⟨_, List.getElem_mem hj, by simpa using e⟩
  · rintro ⟨x, hx, e⟩
    obtain ⟨j, hj, rfl⟩ := List.getElem_of_mem hx
    exact ⟨j, List.mem_range.2 hj, by rw [h j hj]; simpa using e⟩
theorem size_nil (s : ByteArray) : s.size = 0 ↔ s = ⟨#[]⟩ := by
  constructor
  · intro h
    obtain ⟨⟨l⟩⟩ := s
    cases l with
    | nil => rfl
    | cons a l => exact absurd h (by simp [ByteArray.size])
  · rintro rfl
    rfl
theorem node_iff {k n : Int} {s : ByteArray} {m : Nat} : nodeB k n s m = true ↔ 1 ≤ k ∧ k ≤ 13 ∧ 0 ≤ n ∧ n ≤ 1000 ∧ (numK k = false → n = 0) ∧ (txtK k = false → s = ⟨#[]⟩) ∧ (txtK k = true → patE (byts s) = 0) ∧ lstK k ≤ m ∧ (0 ≤ mstK k → (m : Int) ≤ mstK k) := by
  unfold nodeB
  rw [decide_eq_true_eq, ← size_nil]
def Own1 (x : Cnd) : Prop := ∀ w v, Exp w x v → KdL w → SatV Tryz.prog 87 [v] w (.bool x.own)
set_option maxRecDepth 100000 in
set_option maxHeartbeats 4000000 in
theorem own_sat : ∀ (k : Nat) (x : Cnd), x.depth ≤ k → Own1 x
  | 0, x, hk => by have := depth_pos x;omega
  | k + 1, x, hk => by
    intro w v h hkd
    obtain ⟨pv, g, rfl, hs, hP, hE⟩ := h.shape
    have ih : ∀ j, (hj : j < x.parts.length) → Own1 x.parts[j] := fun j hj => own_sat k _ (by have := depth_in (List.getElem_mem hj);omega)
    have hC : ∀ w1, Below w.heap.size w w1 → SatV Tryz.prog 57 [pv, .func (.func 106) #[] #[]] w1 (.bool (!(x.parts.all Cnd.own))) := fun w1 hb => by
      have := containsF_exp_sat pv x.parts.length g (fun j => !((x.parts.getD j default).own)) 106 #[] w1 (hP.below hb) (fun j hj w2 hb2 => by
        rw [show x.parts.getD j default = x.parts[j] by simp [hj]]
        exact own1_sat x.parts[j] _ w2 ((hE j hj).below (hb.trans (hb2.mono hb.size))) (hkd.below (hb.trans (hb2.mono hb.size))) (fun w3 v3 h3 h4 => ih j hj w3 v3 h3 h4))
      rwa [anyN_not (f := Cnd.own) (fun j hj => by simp [hj])] at this
    have hG : ∀ w1, SatV Tryz.prog 105 [.string x.text] w1 (.int .i64 (patE (byts x.text))) := fun w1 => gCheckB_sat _ w1 hs
    by_cases hkk : 1 ≤ x.kind ∧ x.kind ≤ 13
    rotate_left
    · have hf : x.own = false := by
        rw [own_eq, nodeB, decide_eq_false (fun h => hkk ⟨h.1, h.2.1⟩), Bool.false_and]
      rw [hf]
      refine SatL.of 78 [2] Tryz.func87 (by kernel_rfl) (by kernel_rfl) rfl rfl rfl rfl ?_
      repeat' (first|(apply OK_seq)|(apply thenQ_n)|(apply OK_region)|(apply OKx_nilK)|(apply thenQ_r)|(apply OK_condT;exact rfl)|(apply OK_ret)|(apply OKx_move;(conv=>lhs;whnf)<;>exact rfl)|(apply OKx_assign;(conv=>lhs;whnf)<;>exact rfl)|(apply OKx_ldB;exact rfl; (apply atP;constructor);exact rfl)|(apply OKx_lss;exact rfl;exact rfl;all_goals (intro _; try (exfalso;omega)))|(apply OKx_gtr;exact rfl;exact rfl;all_goals (intro _; try (exfalso;omega)))|(apply OKx_fldO;exact rfl;exact rfl)|(apply OKx_pickT;exact rfl;(conv=>lhs;whnf)<;>exact rfl)|(apply OKx_pickF;exact rfl;(conv=>lhs;whnf)<;>exact rfl)|(apply OKx_guardT;exact rfl;exact rfl)|(apply OKx_guardF;exact rfl;exact rfl)|(apply OKx_boxA;exact rfl;intro _))
      all_goals (try (exfalso;omega))
      all_goals
        refine bodyQ_r1 (by ((conv=>lhs;whnf)<;>exact rfl)) ?_
        exact ⟨_, Ent.nil, rfl, rfl⟩
    obtain ⟨i, hi⟩ := Int.eq_ofNat_of_zero_le (show 0 ≤ x.kind by omega)
    have hi' : x.kind.toNat = i := by omega
    have hpt := hkd.pt i (by omega)
    have hn : x.own = (nodeB x.kind x.num x.text x.parts.length && x.parts.all Cnd.own) := own_eq x
    cases hN : numK x.kind <;> cases hT : txtK x.kind
    all_goals
      have hN' := hN
      have hT' := hT
      rw [hi] at hN' hT'
      refine SatL.of 78 [2] Tryz.func87 (by kernel_rfl) (by kernel_rfl) rfl rfl rfl rfl ?_
      repeat' (first|(apply OK_seq)|(apply thenQ_n)|(apply OK_region)|(refine OKx_idxAs Tryz.underlying122 rfl rfl (by omega) (by omega) ?_; rw [hi', Nat.zero_add])|(apply OKx_gl; refine OKx_ldRA rfl hpt ?_; rw [kdC_eq, hN', hT'])|(apply OKx_gc 57;exact rfl; refine OKx_callB (f := 57) rfl rfl rfl (fun w1 hp => hC w1 hp.below) ?_ ?_ <;> intro hq)|(apply OKx_gc 105;exact rfl; refine OKx_callV (f := 105) rfl rfl rfl (fun w1 hp => hG w1) ?_)|(apply OKx_nilK)|(apply OK_block)|(apply blockQ_n)|(apply thenQ_r)|(apply blockQ_r)|(apply OK_condT;exact rfl)|(apply OK_condF;exact rfl)|(apply OK_skip)|(apply OK_ret)|(apply OKx_move;(conv=>lhs;whnf)<;>exact rfl)|(apply OKx_assign;(conv=>lhs;whnf)<;>exact rfl)|(apply OKx_ldB;exact rfl; (apply atP;constructor);exact rfl)|(apply OKx_lenR2;(conv=>lhs;whnf)<;>exact rfl;(with_reducible assumption))|(apply OKx_lss;exact rfl;exact rfl;all_goals (intro _; try (exfalso;omega)))|(apply OKx_gtr;exact rfl;exact rfl;all_goals (intro _; try (exfalso;omega)))|(apply OKx_geq;exact rfl;exact rfl;all_goals (intro _; try (exfalso;omega)))|(apply OKx_neq;exact rfl;exact rfl;all_goals (intro _; try (exfalso;omega)))|(apply OKx_sneq;exact rfl;exact rfl; all_goals intro _)|(apply OKx_fldO;exact rfl;exact rfl)|(apply OKx_pickT;exact rfl;(conv=>lhs;whnf)<;>exact rfl)|(apply OKx_pickF;exact rfl;(conv=>lhs;whnf)<;>exact rfl)|(apply OKx_guardT;exact rfl;exact rfl)|(apply OKx_guardF;exact rfl;exact rfl)|(apply OKx_guardU;exact rfl;exact rfl)|(apply OKx_notT;exact rfl)|(apply OKx_notF;exact rfl)|(apply OKx_boxA;exact rfl;intro _)|(apply OKx_allocA;intro _)|(apply OKx_stBA; kernel_rfl;exact rfl;exact rfl;exact rfl; (apply atP;constructor);exact rfl;exact rfl;exact rfl))
    all_goals
      refine bodyQ_r1 (by ((conv=>lhs;whnf)<;>exact rfl)) ?_
      refine ⟨_, Ent.nil, bool_eq ?_, rfl⟩
      rw [hn]
    all_goals first
      | (rw [show nodeB x.kind x.num x.text x.parts.length = false from Bool.eq_false_iff.2 fun h9 => by
          obtain ⟨_, _, a2, a3, a4, a5, a6, a7, a8⟩ := node_iff.1 h9
          rw [hi] at a7 a8
          first
            | omega
            | exact absurd (a4 hN) (by assumption)
            | exact absurd (a5 hT) (by assumption)
            | exact absurd (a6 hT) (by assumption), Bool.false_and])
      | (rw [node_iff.2 ⟨by omega, by omega, by omega, by omega, fun h => by first | omega | (rw [hN] at h; cases h), fun h => by first | assumption | (rw [hT] at h; cases h), fun h => by first | omega | (rw [hT] at h; cases h), by rw [hi];omega, fun h => by rw [hi] at h ⊢;omega⟩, Bool.true_and]
         simpa using hq)
set_option maxRecDepth 100000 in
set_option maxHeartbeats 4000000 in
theorem right_sat (v : Value) (x : Cnd) (w : World) (h : Exp w x v) (hk : KdL w) : SatV Tryz.prog 70 [v] w (.int .i64 (rgtE x)) := by
  have hM := fun w1 (hb : Below w.heap.size w w1) => measure_sat v x w1 (h.below hb)
  have hO := fun w1 (hb : Below w.heap.size w w1) => own_sat _ x (Nat.le_refl _) w1 v (h.below hb) (hk.below hb)
  obtain ⟨pv, g, rfl, _⟩ := h.shape
  unfold rgtE
  cases hm : mesB x
  · rw [hm] at hM
    rw [if_pos rfl]
    refine SatL.of 15 [2] Tryz.func70 (by kernel_rfl) (by kernel_rfl) rfl rfl rfl rfl ?_
    repeat' (first|(apply OK_seq)|(apply thenQ_n)|(apply OK_region)|(apply OKx_gc 77;exact rfl; refine OKx_call (f := 77) rfl rfl (fun w1 hp => hM w1 hp.below) ?_; rintro _ _ ⟨n', rfl, rfl, _⟩; rw [List.nil_append])|(apply OKx_nilK)|(apply thenQ_r)|(apply OK_condT;exact rfl)|(apply OK_ret)|(apply OKx_move;(conv=>lhs;whnf)<;>exact rfl)|(apply OKx_assign;(conv=>lhs;whnf)<;>exact rfl)|(apply OKx_notF;exact rfl)|(apply OKx_extract;exact rfl;(conv=>lhs;whnf)<;>exact rfl)|(apply OKx_boxA;exact rfl;intro _)|(apply OKx_ldBA;exact rfl; (apply atP;constructor);exact rfl))
    refine bodyQ_r1 (by ((conv=>lhs;whnf)<;>exact rfl)) ?_
    exact ⟨_, Ent.nil, rfl, rfl⟩
  · rw [hm] at hM
    rw [if_neg (by decide)]
    refine SatL.of 15 [2] Tryz.func70 (by kernel_rfl) (by kernel_rfl) rfl rfl rfl rfl ?_
    repeat' (first|(apply OK_seq)|(apply thenQ_n)|(apply OK_region)|(apply OKx_gc 77;exact rfl; refine OKx_call (f := 77) rfl rfl (fun w1 hp => hM w1 hp.below) ?_; rintro _ _ ⟨n', rfl, rfl, _⟩; rw [List.nil_append])|(apply OKx_gc 87;exact rfl; refine OKx_callB (f := 87) rfl rfl rfl (fun w1 hp => hO w1 hp.below) ?_ ?_ <;> intro hq)|(apply OKx_nilK)|(apply thenQ_r)|(apply OK_condT;exact rfl)|(apply OK_condF;exact rfl)|(apply OK_skip)|(apply OK_ret)|(apply OKx_move;(conv=>lhs;whnf)<;>exact rfl)|(apply OKx_assign;(conv=>lhs;whnf)<;>exact rfl)|(apply OKx_notT;exact rfl)|(apply OKx_notF;exact rfl)|(apply OKx_extract;exact rfl;(conv=>lhs;whnf)<;>exact rfl)|(apply OKx_boxA;exact rfl;intro _)|(apply OKx_ldBA;exact rfl; (apply atP;constructor);exact rfl))
    all_goals
      refine bodyQ_r1 (by ((conv=>lhs;whnf)<;>exact rfl)) ?_
      exact ⟨_, Ent.nil, by rw [hq]; rfl, rfl⟩
set_option maxRecDepth 100000 in
set_option maxHeartbeats 4000000 in
theorem Size_sat (v : Value) (x : Cnd) (w : World) (h : Exp w x v) (hk : KdL w) : Sat Tryz.prog 52 [v] w (fun u L => ∃ k : Int, u = .tuple #[.int .i64 k, .int .i64 (rgtE x)] ∧ L = []) := by
  have hM := fun w1 (hb : Below w.heap.size w w1) => measure_sat v x w1 (h.below hb)
  have hR := fun w1 (hb : Below w.heap.size w w1) => right_sat v x w1 (h.below hb) (hk.below hb)
  obtain ⟨pv, g, rfl, _⟩ := h.shape
  by_cases h0 : rgtE x = 0
  · rw [h0] at hR
    rw [h0]
    refine SatL.of 18 [2, 3] Tryz.func52 (by kernel_rfl) (by kernel_rfl) rfl rfl rfl rfl ?_
    repeat' (first|(apply OK_seq)|(apply thenQ_n)|(apply OK_region)|(apply OKx_gc 77;exact rfl; refine OKx_call (f := 77) rfl rfl (fun w1 hp => hM w1 hp.below) ?_; rintro _ _ ⟨n', rfl, rfl, _⟩; rw [List.nil_append])|(apply OKx_gc 70;exact rfl; refine OKx_callV (f := 70) rfl rfl rfl (fun w1 hp => hR w1 hp.below) ?_)|(apply OKx_nilK)|(apply OK_condF;exact rfl)|(apply OK_skip)|(apply OK_ret)|(apply OKx_move;(conv=>lhs;whnf)<;>exact rfl)|(apply OKx_assign;(conv=>lhs;whnf)<;>exact rfl)|(apply OKx_neq;exact rfl;exact rfl;all_goals (intro _; try (exfalso;omega)))|(apply OKx_extract;exact rfl;(conv=>lhs;whnf)<;>exact rfl)|(apply OKx_boxA;exact rfl;intro _)|(apply OKx_ldBA;exact rfl; (apply atP;constructor);exact rfl))
    refine bodyQ_r2 (by ((conv=>lhs;whnf)<;>exact rfl)) (by ((conv=>lhs;whnf)<;>exact rfl)) ?_
    exact ⟨_, Ent.nil, _, rfl, rfl⟩
  · refine SatL.of 18 [2, 3] Tryz.func52 (by kernel_rfl) (by kernel_rfl) rfl rfl rfl rfl ?_
    repeat' (first|(apply OK_seq)|(apply thenQ_n)|(apply OK_region)|(apply OKx_gc 70;exact rfl; refine OKx_callV (f := 70) rfl rfl rfl (fun w1 hp => hR w1 hp.below) ?_)|(apply OKx_nilK)|(apply thenQ_r)|(apply OK_condT;exact rfl)|(apply OK_ret)|(apply OKx_move;(conv=>lhs;whnf)<;>exact rfl)|(apply OKx_assign;(conv=>lhs;whnf)<;>exact rfl)|(apply OKx_neq;exact rfl;exact rfl;all_goals (intro _; try (exfalso;omega)))|(apply OKx_boxA;exact rfl;intro _)|(apply OKx_ldBA;exact rfl; (apply atP;constructor);exact rfl))
    refine bodyQ_r2 (by ((conv=>lhs;whnf)<;>exact rfl)) (by ((conv=>lhs;whnf)<;>exact rfl)) ?_
    exact ⟨_, Ent.nil, _, rfl, rfl⟩
end Go.Proofs.YthnlnffmmioapaaGreatDoor
namespace Go.Proofs.YthnlnffmmioapaaGreatDoor
open Go.RowKit
def wdB (w : ByteArray) : Bool := decide (0 < w.size) && (decide (w.size ≤ 64) && !(byts w).contains 32)
theorem wdsB_all (l : List ByteArray) : wdsB l = (decide (l.length ≤ 1024) && l.all wdB) := rfl
set_option maxRecDepth 100000 in
set_option maxHeartbeats 4000000 in
theorem words1_sat (s : ByteArray) (w : World) : SatV Tryz.prog 54 [.string s] w (.bool (!wdB s)) := by
  have hC := fun w1 => contains_one_sat (byts s) 32 w1
  have hC2 : ∀ w1, SatV Tryz.prog 55 [.string s, .string ⟨#[32]⟩] w1 (.bool ((byts s).contains 32)) := fun w1 => by
    have := hC w1
    rwa [show bOf (byts s) = s from bOf_data s, show decide ((32 : UInt8) ∈ byts s) = (byts s).contains 32 by simp] at this
  have hz := size_nil s
  refine SatL.of 14 [2] Tryz.func54 (by kernel_rfl) (by kernel_rfl) rfl rfl rfl rfl ?_
  repeat' (first|(apply OK_seq)|(apply thenQ_n)|(apply OK_region)|(apply OKx_gc 55;exact rfl; refine OKx_callB (f := 55) rfl rfl rfl (fun w1 hp => hC2 w1) ?_ ?_ <;> intro hq)|(apply OKx_nilK)|(apply OK_ret)|(apply OKx_move;(conv=>lhs;whnf)<;>exact rfl)|(apply OKx_assign;(conv=>lhs;whnf)<;>exact rfl)|(apply OKx_lenS;exact rfl)|(apply OKx_gtr;exact rfl;exact rfl;all_goals (intro _; try (exfalso;omega)))|(apply OKx_seql;exact rfl;exact rfl; all_goals intro _)|(apply OKx_pickT;exact rfl;(conv=>lhs;whnf)<;>exact rfl)|(apply OKx_pickF;exact rfl;(conv=>lhs;whnf)<;>exact rfl)|(apply OKx_guardT;exact rfl;exact rfl)|(apply OKx_guardF;exact rfl;exact rfl))
  all_goals
    refine bodyQ_r1 (by ((conv=>lhs;whnf)<;>exact rfl)) ?_
    refine ⟨_, Ent.nil, bool_eq ?_, rfl⟩
    unfold wdB
  all_goals first
    | (rw [decide_eq_false (by rw [hz.2 (by assumption)];omega), Bool.false_and]; rfl)
    | (rw [decide_eq_false (show ¬ s.size ≤ 64 by omega), Bool.false_and, Bool.and_false]; rfl)
    | (rw [decide_eq_true (show 0 < s.size from Nat.pos_of_ne_zero fun e => absurd (hz.1 e) (by assumption)), decide_eq_true (show s.size ≤ 64 by omega), hq]; rfl)
theorem anyN_nots {p : Nat → Bool} {α : Type} {xs : List α} {f : α → Bool} (h : ∀ j, (hj : j < xs.length) → p j = !f xs[j]) : anyN p xs.length = !(xs.all f) := by
  unfold anyN
  rw [Bool.eq_iff_iff, List.any_eq_true, Bool.not_eq_true', List.all_eq_false]
  constructor
  · rintro ⟨j, hj, e⟩
    rw [List.mem_range] at hj
    rw [h j hj] at e
    exact ⟨_, List.getElem_mem hj, by simpa using e⟩
  · rintro ⟨x, hx, e⟩
    obtain ⟨j, hj, rfl⟩ := List.getElem_of_mem hx
    exact ⟨j, List.mem_range.2 hj, by rw [h j hj]; simpa using e⟩
set_option maxRecDepth 100000 in
set_option maxHeartbeats 4000000 in
theorem words_sat (v : Value) (l : List ByteArray) (w : World) (h : Strs w v l) : SatV Tryz.prog 29 [v] w (.bool (wdsB l)) := by
  obtain ⟨a, c, rfl, hl, _⟩ := h.at
  have hsl := h.sl
  have hC : ∀ w1, Below w.heap.size w w1 → SatV Tryz.prog 53 [.slice a l.length c, .func (.func 54) #[] #[]] w1 (.bool (!(l.all wdB))) := fun w1 hb => by
    have := containsF_str_sat _ l.length _ (fun j => !wdB (l.getD j ByteArray.empty)) 54 #[] w1 (hsl.below hb) (fun j hj w2 hb2 => words1_sat _ w2)
    rwa [anyN_nots (f := wdB) (fun j hj => by rw [getD_lt _ _ _ hj])] at this
  rw [wdsB_all]
  refine SatL.of 11 [2] Tryz.func29 (by kernel_rfl) (by kernel_rfl) rfl rfl rfl rfl ?_
  repeat' (first|(apply OK_seq)|(apply thenQ_n)|(apply OK_region)|(apply OKx_gc 53;exact rfl; refine OKx_callB (f := 53) rfl rfl rfl (fun w1 hp => hC w1 hp.below) ?_ ?_ <;> intro hq)|(apply OKx_nilK)|(apply OK_ret)|(apply OKx_move;(conv=>lhs;whnf)<;>exact rfl)|(apply OKx_assign;(conv=>lhs;whnf)<;>exact rfl)|(apply OKx_len;exact rfl)|(apply OKx_leq;exact rfl;exact rfl;all_goals (intro _; try (exfalso;omega)))|(apply OKx_pickT;exact rfl;(conv=>lhs;whnf)<;>exact rfl)|(apply OKx_pickF;exact rfl;(conv=>lhs;whnf)<;>exact rfl)|(apply OKx_guardT;exact rfl;exact rfl)|(apply OKx_guardF;exact rfl;exact rfl)|(apply OKx_notT;exact rfl)|(apply OKx_notF;exact rfl))
  all_goals
    refine bodyQ_r1 (by ((conv=>lhs;whnf)<;>exact rfl)) ?_
    refine ⟨_, Ent.nil, bool_eq ?_, rfl⟩
  all_goals first
    | (rw [decide_eq_true (show l.length ≤ 1024 by omega), Bool.true_and]; simpa using hq)
    | rw [decide_eq_false (show ¬ l.length ≤ 1024 by omega), Bool.false_and]
def srcOk (l : List Int) (i : Nat) : Bool := (decide (0 ≤ l.getD i 0) && decide (l.getD i 0 < 32)) && (decide (i = 0) || decide (l.getD (i - 1) 0 < l.getD i 0))
theorem srcOk_iff (l : List Int) (i : Nat) : srcOk l i = true ↔ (0 ≤ l.getD i 0 ∧ l.getD i 0 < 32) ∧ (i = 0 ∨ l.getD (i - 1) 0 < l.getD i 0) := by
  unfold srcOk
  simp only [Bool.and_eq_true, Bool.or_eq_true, decide_eq_true_eq]
theorem srcB_all (l : List Int) : srcB l = (List.range l.length).all (srcOk l) := by
  unfold srcB
  rw [Bool.eq_iff_iff, Bool.and_eq_true, List.all_eq_true, List.all_eq_true, List.all_eq_true]
  constructor
  · rintro ⟨h1, h2⟩ i hi
    have hi' := List.mem_range.1 hi
    unfold srcOk
    rw [h2 i hi, Bool.and_true]
    exact h1 _ (by rw [getD_lt _ _ _ hi']; exact List.getElem_mem hi')
  · intro h
    refine ⟨fun x hx => ?_, fun i hi => ?_⟩
    · obtain ⟨i, hi, rfl⟩ := List.getElem_of_mem hx
      have := h i (List.mem_range.2 hi)
      unfold srcOk at this
      rw [Bool.and_eq_true, getD_lt _ _ _ hi] at this
      exact this.1
    · have := h i hi
      unfold srcOk at this
      rw [Bool.and_eq_true] at this
      exact this.2
set_option maxRecDepth 100000 in
set_option maxHeartbeats 4000000 in
theorem reading_sat (v : Value) (r : Rdn) (w : World) (h : RdnV w r v) : SatV Tryz.prog 30 [v] w (.bool (rdgB r)) := by
  obtain ⟨wv, sv, rfl, hW, hS⟩ := h
  obtain ⟨sa, sc, rfl, _⟩ := hS.at
  have hsl := hS.sl
  have hb := hsl.bound
  have hw := fun w1 (hb : Below w.heap.size w w1) => words_sat wv r.words w1 (hW.below hb)
  unfold rdgB
  rw [srcB_all]
  refine SatL.of 37 [2] Tryz.func30 (by kernel_rfl) (by kernel_rfl) rfl rfl rfl rfl ?_
  repeat' (first|(apply OK_seq)|(apply thenQ_n)|(apply OK_region)|(apply OKx_nilK)|(apply OK_block)|(apply OKx_move;(conv=>lhs;whnf)<;>exact rfl)|(apply OKx_assign;(conv=>lhs;whnf)<;>exact rfl)|(apply OKx_ldB;exact rfl; (apply atP;constructor);exact rfl)|(apply OKx_len;exact rfl)|(apply OKx_fldO;exact rfl;exact rfl)|(apply OKx_boxA;exact rfl;intro _))
  rename_i g0
  refine OK_loop1 8 [2, 3, 4, 8, 9, 10, 11, 12, 13, 14, 15, 16, 17, 18, 19, 20, 21, 22, 23, 24, 25, 26, 27, 28, 29, 30, 31, 32, 33] (fun m v L => ∃ k : Nat, k + m = r.src.length ∧ v = .int .i64 (k : Int) ∧ (∀ j, j < k → srcOk r.src j = true) ∧ L = [.box 33 g0 [wv, .slice sa r.src.length sc]]) r.src.length _ (Ent.refl _ _) ⟨0, by omega, rfl, fun j hj => absurd hj (by omega), rfl⟩ ?_
  rintro m v' L G ⟨k, hm, rfl, H, rfl⟩
  repeat' (first|(apply OK_seq)|(apply thenQ_n)|(apply OK_region)|(apply OKx_gc 29;exact rfl; refine OKx_callV (f := 29) rfl rfl rfl (fun w1 hp => hw w1 hp.below) ?_)|(apply OKx_nilK)|(apply OK_block)|(apply blockQ_n)|(apply blockQ_s)|(apply thenQ_e)|(apply thenQ_r)|(apply blockQ_r)|(apply OK_condT;exact rfl)|(apply OK_condF;exact rfl)|(apply OK_skip)|(apply OK_exit)|(apply OK_ret)|(apply OKx_move;(conv=>lhs;whnf)<;>exact rfl)|(apply OKx_assign;(conv=>lhs;whnf)<;>exact rfl)|(apply OKx_ldB;exact rfl; (apply atP;constructor);exact rfl)|(apply OKx_ldR;(conv=>lhs;whnf)<;>exact rfl;(with_reducible assumption))|(apply OKx_lss;exact rfl;exact rfl;all_goals (intro _; try (exfalso;omega)))|(apply OKx_leq;exact rfl;exact rfl;all_goals (intro _; try (exfalso;omega)))|(apply OKx_gtr;exact rfl;exact rfl;all_goals (intro _; try (exfalso;omega)))|(apply OKx_geq;exact rfl;exact rfl;all_goals (intro _; try (exfalso;omega)))|(apply OKx_idxR;(conv=>lhs;whnf)<;>exact rfl;(with_reducible assumption);exact rfl;omega;intro _ _)|(apply OKx_fldO;exact rfl;exact rfl)|(apply OKx_inc;exact rfl;exact rfl;omega)|(apply OKx_dec;exact rfl;exact rfl;omega;omega)|(apply OKx_pickT;exact rfl;(conv=>lhs;whnf)<;>exact rfl)|(apply OKx_pickF;exact rfl;(conv=>lhs;whnf)<;>exact rfl)|(apply OKx_guardT;exact rfl;exact rfl)|(apply OKx_guardF;exact rfl;exact rfl)|(apply OKx_guardU;exact rfl;exact rfl))
  iterate 3
    · refine bodyQ_r1 (by ((conv=>lhs;whnf)<;>exact rfl)) ?_
      refine ⟨_, Ent.nil, bool_eq ?_, rfl⟩
      rw [eq_comm, Bool.eq_false_iff]
      intro h9
      rw [Bool.and_eq_true, List.all_eq_true] at h9
      have := (srcOk_iff _ _).1 (h9.1 k (List.mem_range.2 (by omega)))
      omega
  iterate 2
    · refine ⟨by (repeat' (first | refine agree_upd rfl ?_ | exact agree_over | exact agree_refl _ _ | refine agree_over2 rfl ?_)), m - 1, _, by omega, Ent.refl _ _, ?_⟩
      refine ⟨k + 1, by omega, rfl, fun j hj => ?_, rfl⟩
      by_cases hjk : j < k
      · exact H j hjk
      · obtain rfl : j = k := by omega
        exact (srcOk_iff _ _).2 (by omega)
  · refine bodyQ_r1 (by ((conv=>lhs;whnf)<;>exact rfl)) ?_
    refine ⟨_, Ent.nil, bool_eq ?_, rfl⟩
    rw [show (List.range r.src.length).all (srcOk r.src) = true from List.all_eq_true.2 fun j hj => H j (by rw [List.mem_range] at hj;omega), Bool.true_and]
set_option maxRecDepth 100000 in
set_option maxHeartbeats 4000000 in
theorem condition_sat (v : Value) (x : Cnd) (w : World) (h : Exp w x v) (hk : KdL w) : SatV Tryz.prog 28 [v] w (.bool (decide (rgtE x = 0))) := by
  have hS := fun w1 (hb : Below w.heap.size w w1) => Size_sat v x w1 (h.below hb) (hk.below hb)
  obtain ⟨pv, g, rfl, _⟩ := h.shape
  refine SatL.of 12 [2] Tryz.func28 (by kernel_rfl) (by kernel_rfl) rfl rfl rfl rfl ?_
  repeat' (first|(apply OK_seq)|(apply thenQ_n)|(apply OK_region)|(apply OKx_gc 52;exact rfl; refine OKx_call (f := 52) rfl rfl (fun w1 hp => hS w1 hp.below) ?_; rintro _ _ ⟨k, rfl, rfl⟩; rw [List.nil_append])|(apply OKx_nilK)|(apply OK_ret)|(apply OKx_move;(conv=>lhs;whnf)<;>exact rfl)|(apply OKx_assign;(conv=>lhs;whnf)<;>exact rfl)|(apply OKx_eql;exact rfl;exact rfl;all_goals (intro _; try (exfalso;omega)))|(apply OKx_extract;exact rfl;(conv=>lhs;whnf)<;>exact rfl)|(apply OKx_boxA;exact rfl;intro _)|(apply OKx_ldBA;exact rfl; (apply atP;constructor);exact rfl))
  all_goals
    refine bodyQ_r1 (by ((conv=>lhs;whnf)<;>exact rfl)) ?_
    refine ⟨_, Ent.nil, bool_eq ?_, rfl⟩
  all_goals first
    | rw [decide_eq_true (by assumption)]
    | rw [decide_eq_false (by assumption)]
end Go.Proofs.YthnlnffmmioapaaGreatDoor
