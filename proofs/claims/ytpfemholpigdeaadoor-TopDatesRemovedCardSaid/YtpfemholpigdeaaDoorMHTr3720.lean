/-
  Part 20 of the proof: Pr37, Le36, Lawh37, Reb. No statement of the seat is proved here.
-/
import Derived.Test.YtpfemholpigdeaaDoorMHTr3719
namespace Go.Proofs.YtpfemholpigdeaaDoor
open Go.RowKit Go.Maps
def restD (i : Nat) (ds : List Dt) : List Dt := (ds.filter fun d => decide (d.node ≠ (i : Int))).map fun d => ⟨decI i d.node, d.fr, d.tl⟩
theorem restD_step (i : Nat) (l : List Dt) (j : Nat) (hj : j < l.length) : restD i (l.take (j + 1)) = restD i (l.take j) ++ if l[j].node = (i : Int) then [] else [⟨decI i l[j].node, l[j].fr, l[j].tl⟩] := by
  unfold restD
  rw [List.take_succ_eq_append_getElem hj, List.filter_append, List.map_append]
  congr 1
  by_cases h : l[j].node = (i : Int)
  · rw [if_pos h, List.filter_cons_of_neg (by simpa using h)]; rfl
  · rw [if_neg h, List.filter_cons_of_pos (by simpa using h)]; rfl
theorem restD_len (i : Nat) (l : List Dt) : (restD i l).length ≤ l.length := by
  unfold restD
  rw [List.length_map]
  exact List.length_filter_le _ _
theorem restD_mem {i : Nat} {l : List Dt} {x : Dt} (h : x ∈ restD i l) : ∃ d ∈ l, d.node ≠ (i : Int) ∧ x = ⟨decI i d.node, d.fr, d.tl⟩ := by
  unfold restD at h
  obtain ⟨d, h1, rfl⟩ := List.mem_map.1 h
  rw [List.mem_filter, decide_eq_true_eq] at h1
  exact ⟨d, h1.1, h1.2, rfl⟩
theorem decI_inj {i : Nat} {a b : Int} (ha : a ≠ (i : Int)) (hb : b ≠ (i : Int)) (h : decI i a = decI i b) : a = b := by
  unfold decI at h
  split at h <;> split at h <;> omega
theorem restD_check {s : Stem} {ds : List Dt} (h : dCheck s ds = 0) (i : Nat) (hi : i < s.names.length) (h1 : 1 < s.names.length) : dCheck (remS s i) (restD i ds) = 0 := by
  obtain ⟨hs, hk⟩ := dCheck_zero s ds h
  have hl := (remS_len s i hi).1
  have hdist : (restD i ds).Pairwise (fun a b => a.node ≠ b.node) := by
    have hd := dCheck_dist s ds h
    unfold restD
    rw [List.pairwise_map]
    have h2 : (ds.filter fun d => decide (d.node ≠ (i : Int))).Pairwise (fun a b => a.node ≠ b.node) := List.Pairwise.filter _ hd
    refine List.Pairwise.imp_of_mem ?_ h2
    intro a b ha hb hab he
    rw [List.mem_filter, decide_eq_true_eq] at ha hb
    exact hab (decI_inj ha.2 hb.2 he)
  refine dCheck_of _ _ (remS_check s i hs hi h1) fun k hk2 => ?_
  obtain ⟨d, hd, hdi, e⟩ := restD_mem (List.getElem_mem hk2)
  obtain ⟨q, hq, e2⟩ := List.getElem_of_mem hd
  obtain ⟨g1, g2, _⟩ := hk q hq
  rw [e2] at g1 g2
  refine ⟨?_, ?_, fun j hj => List.pairwise_iff_getElem.1 hdist j k (by omega) hk2 hj⟩
  · rw [e]
    unfold dBad at g1 ⊢
    show ¬ (decI i d.node < 0 ∨ _ ≤ decI i d.node ∨ _)
    unfold decI
    simp only at g1 ⊢
    split <;> omega
  · rw [e]; exact g2
theorem upN_decI {i : Nat} {x : Int} (h0 : 0 ≤ x) (h : x ≠ (i : Int)) : ((upN i (decI i x).toNat : Nat) : Int) = x := by
  obtain ⟨q, e1, e2⟩ := upN_toNat h0 h
  rw [e1, Int.toNat_natCast]
  exact e2.symm
theorem rem_up {s : Stem} (hc : stCheck s = 0) (i : Nat) (hi : i < s.names.length) (y : Nat → Int) (hy : ∀ k, k < s.par.length → ∀ p ∈ s.par.getD k [], y p.toNat ≤ y k) :
    ∀ q, q < (remS s i).par.length → ∀ p ∈ (remS s i).par.getD q [], y (upN i p.toNat) ≤ y (upN i q) := by
  intro q hq p hp
  have hl := remS_len s i hi
  have hlen := stCheck_len s hc
  have hup := upN_lt i s.names.length q hi (by omega)
  rw [remS_par s i q hi (by omega)] at hp
  obtain ⟨z, hz, rfl⟩ := (remL_mem s i _ p).1 hp
  have hzr := remC_rng (stCheck_okPar s hc) i _ z hz
  have e := upN_decI hzr.1 hzr.2.2
  have e2 : upN i (decI i z).toNat = z.toNat := by omega
  rw [e2]
  rcases (remC_mem s i _ z).1 hz with ⟨g1, _⟩ | ⟨g1, g2⟩
  · exact hy _ (by omega) z g1
  · have a := hy _ (by omega) (i : Int) g1
    have b := hy i (by omega) z g2
    rw [Int.toNat_natCast] at a
    omega
theorem restD_law {s : Stem} {ds : List Dt} (h : dCheck s ds = 0) (i : Nat) (hi : i < s.names.length) (h1 : 1 < s.names.length) (hy : yErr s ds = 0) :
    yErr (remS s i) (restD i ds) = 0 ∧ ∀ k : Nat, k < s.names.length → k ≠ i → (eYrs (remS s i) (restD i ds)).getD (decI i k).toNat 0 ≤ (eYrs s ds).getD k 0 ∧ (lYrs s ds).getD k 0 ≤ (lYrs (remS s i) (restD i ds)).getD (decI i k).toNat 0 := by
  have hs := (dCheck_zero s ds h).1
  have hc := restD_check h i hi h1
  have hl := (remS_len s i hi).1
  obtain ⟨a1, a2⟩ := dAll_in s ds h
  have hnode : ∀ d ∈ ds, 0 ≤ d.node := fun d hd => (dCheck_nodes s ds h d hd).1
  have hE := eYrs_least (remS s i) (restD i ds) hc (fun j => (eYrs s ds).getD (upN i j) 0) (fun x hx => by
    obtain ⟨d, hd, hdi, rfl⟩ := restD_mem hx
    have e := upN_decI (hnode d hd) hdi
    have e2 : upN i (decI i d.node).toNat = d.node.toNat := by omega
    have := eYrs_ge s ds h d.node.toNat
    rw [loOf_at s ds h d hd] at this
    show d.fr ≤ (eYrs s ds).getD (upN i (decI i d.node).toNat) 0
    rw [e2]; exact this) (fun j _ => (a1 _).1) (rem_up hs i hi (fun j => (eYrs s ds).getD j 0) fun j hj p hp => (par_up s ds h j hj p hp).1)
  have hL := lYrs_most (remS s i) (restD i ds) hc (fun j => (lYrs s ds).getD (upN i j) 0) (fun x hx => by
    obtain ⟨d, hd, hdi, rfl⟩ := restD_mem hx
    have e := upN_decI (hnode d hd) hdi
    have e2 : upN i (decI i d.node).toNat = d.node.toNat := by omega
    have := lYrs_le s ds h d.node.toNat
    rw [hiOf_at s ds h d hd] at this
    show (lYrs s ds).getD (upN i (decI i d.node).toNat) 0 ≤ d.tl
    rw [e2]; exact this) (fun j _ => (a2 _).2) (rem_up hs i hi (fun j => (lYrs s ds).getD j 0) fun j hj p hp => (par_up s ds h j hj p hp).2.1)
  have h2 := yErr_zero s ds hy
  refine ⟨yErr_of _ _ hc fun k hk => ?_, fun k hk hki => ?_⟩
  · have x := hE k hk
    have y := hL k hk
    have z := h2 (upN i k) (upN_lt i s.names.length k hi (by omega))
    show (eYrs (remS s i) (restD i ds)).getD k 0 ≤ _
    omega
  · have e := upN_decI (i := i) (x := (k : Int)) (by omega) (by omega)
    have hq : (decI i (k : Int)).toNat < (remS s i).names.length := by unfold decI; split <;> omega
    have e2 : upN i (decI i (k : Int)).toNat = k := by omega
    have x := hE _ hq
    have y := hL _ hq
    simp only [e2] at x y
    exact ⟨x, y⟩
end Go.Proofs.YtpfemholpigdeaaDoor
namespace Go.Proofs.YtpfemholpigdeaaDoor
open Go.RowKit
theorem Stm.names {w : World} {a b c : Value} {s : Stem} (h : Stm w (.agg #[a, b, c]) s) : Strs w a s.names := by
  obtain ⟨_, _, _, e, h1, _, _⟩ := h
  cases e
  exact h1
end Go.Proofs.YtpfemholpigdeaaDoor
namespace Go.Proofs.YtpfemholpigdeaaDoor
open Go.RowKit Go.Maps
def AnsQ (s : Stem) (ds : List Dt) (xs : List Int) (u : Value) (L : List Res) : Prop :=
  (yErr s ds = 0 ∧ ∃ g c, u = .tuple #[.slice (some ⟨g, 0, none⟩) s.names.length c, .int .i64 0] ∧ L = [.row 3 1 (.slice (some ⟨g, 0, none⟩) s.names.length c) s.names.length (ints xs)]) ∨
  (yErr s ds ≠ 0 ∧ ∃ v, u = .tuple #[v, .int .i64 (yErr s ds)] ∧ L = [.row 3 1 v 0 []])
theorem AnsR.q {s : Stem} {ds : List Dt} {xs : List Int} (hn : xs.length = s.names.length) (hp : 0 < s.names.length) {f : FuncId} {av : List Value} {w : World} (h : Sat Tryd.prog f av w (AnsR s ds xs)) : Sat Tryd.prog f av w (AnsQ s ds xs) :=
  h.row.mono fun u L ⟨⟨v, hu, hL⟩, hsh⟩ => by
    subst hL
    by_cases hy : yErr s ds = 0
    · rw [ans_yes xs hy] at hsh ⊢
      obtain ⟨g, c, rfl⟩ := (hsh _ _ _ _ _ List.mem_cons_self).2 (by omega)
      exact .inl ⟨hy, g, c, by rw [hu, hy, hn], by rw [irow, hn]⟩
    · exact .inr ⟨hy, v, hu, by rw [ans_no xs hy]; rfl⟩
end Go.Proofs.YtpfemholpigdeaaDoor
namespace Go.Proofs.YtpfemholpigdeaaDoor
open Go.RowKit
theorem pt1Box {B : Nat} {w0 w : World} {L : List Res} {e : TypeId} {g : Nat} {cs : List Value} {v : Value} (hp : Hp B w0 w L) (i : Nat) (hi : L[i]? = some (.box e g cs)) (k : Nat) (hk : cs[k]? = some v) : Pt1 w (.pointer (some ⟨g, k, none⟩)) v :=
  ⟨g, k, rfl, by rw [← hk]; exact (hp.boxAt i hi).1 k⟩
end Go.Proofs.YtpfemholpigdeaaDoor
