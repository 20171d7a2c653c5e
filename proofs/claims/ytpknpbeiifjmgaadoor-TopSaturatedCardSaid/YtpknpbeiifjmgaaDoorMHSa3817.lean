/-
  Part 17 of the proof: Ps31, Gb, Stl, Sc38, Pd38, As39, Po39, Ro39, R38, Sm38. No statement of the seat is proved here.
-/
import Derived.Test.YtpknpbeiifjmgaaDoorMHSa3816
import Derived.StringKeys
namespace Go.Proofs.YtpknpbeiifjmgaaDoor
open Go.RowKit
def awT : List UInt8 := [40, 65, 44, 40, 66, 44, 40, 67, 44, 68, 41, 41, 41, 59]
def ppN (g : Nat) : Value := .pointer (some ⟨g, 0, none⟩)
def ndR (g : Nat) (nm : ByteArray) (kv : Value) : Res := .box 56 g [.string nm, kv, .int .i64 0]
def rK (k c : Nat) (xs : List Nat) : Res := .row 53 1 (.slice (some ⟨k, 0, none⟩) xs.length c) xs.length (xs.map ppN)
inductive Pst (r0 : Nat) (G2 : Res) : Nat → Bool → Nat → List Nat → Nat → Option Addr → Nat → List Nat → List Res → Prop
  | s0 : Pst r0 G2 0 false 1 [r0] r0 none 0 [] ([G2])
  | s1 (kkr0 ccr0 x1 : Nat) : Pst r0 G2 1 false 2 [r0, x1] x1 none 0 [] (ndR r0 ⟨#[]⟩ (.slice (some ⟨kkr0, 0, none⟩) 1 ccr0) :: rK kkr0 ccr0 [x1] :: [G2])
  | s2 (kkr0 ccr0 x1 a kkx1 ccx1 : Nat) : Pst r0 G2 2 true 2 [r0, x1] x1 (some ⟨kkx1, 0, none⟩) ccx1 [a] (ndR a (bOf [65]) (.slice none 0 0) :: ndR r0 ⟨#[]⟩ (.slice (some ⟨kkr0, 0, none⟩) 1 ccr0) :: rK kkr0 ccr0 [x1] :: [G2])
  | s3 (kkr0 ccr0 x1 a kkx1 ccx1 : Nat) : Pst r0 G2 3 false 2 [r0, x1] x1 (some ⟨kkx1, 0, none⟩) ccx1 [a] (ndR a (bOf [65]) (.slice none 0 0) :: ndR r0 ⟨#[]⟩ (.slice (some ⟨kkr0, 0, none⟩) 1 ccr0) :: rK kkr0 ccr0 [x1] :: [G2])
  | s4 (kkr0 ccr0 x1 a kkx1 ccx1 x2 : Nat) : Pst r0 G2 4 false 3 [r0, x1, x2] x2 none 0 [] (ndR x1 ⟨#[]⟩ (.slice (some ⟨kkx1, 0, none⟩) 2 ccx1) :: rK kkx1 ccx1 [a, x2] :: ndR a (bOf [65]) (.slice none 0 0) :: ndR r0 ⟨#[]⟩ (.slice (some ⟨kkr0, 0, none⟩) 1 ccr0) :: rK kkr0 ccr0 [x1] :: [G2])
  | s5 (kkr0 ccr0 x1 a kkx1 ccx1 x2 b kkx2 ccx2 : Nat) : Pst r0 G2 5 true 3 [r0, x1, x2] x2 (some ⟨kkx2, 0, none⟩) ccx2 [b] (ndR b (bOf [66]) (.slice none 0 0) :: ndR x1 ⟨#[]⟩ (.slice (some ⟨kkx1, 0, none⟩) 2 ccx1) :: rK kkx1 ccx1 [a, x2] :: ndR a (bOf [65]) (.slice none 0 0) :: ndR r0 ⟨#[]⟩ (.slice (some ⟨kkr0, 0, none⟩) 1 ccr0) :: rK kkr0 ccr0 [x1] :: [G2])
  | s6 (kkr0 ccr0 x1 a kkx1 ccx1 x2 b kkx2 ccx2 : Nat) : Pst r0 G2 6 false 3 [r0, x1, x2] x2 (some ⟨kkx2, 0, none⟩) ccx2 [b] (ndR b (bOf [66]) (.slice none 0 0) :: ndR x1 ⟨#[]⟩ (.slice (some ⟨kkx1, 0, none⟩) 2 ccx1) :: rK kkx1 ccx1 [a, x2] :: ndR a (bOf [65]) (.slice none 0 0) :: ndR r0 ⟨#[]⟩ (.slice (some ⟨kkr0, 0, none⟩) 1 ccr0) :: rK kkr0 ccr0 [x1] :: [G2])
  | s7 (kkr0 ccr0 x1 a kkx1 ccx1 x2 b kkx2 ccx2 x3 : Nat) : Pst r0 G2 7 false 4 [r0, x1, x2, x3] x3 none 0 [] (ndR x2 ⟨#[]⟩ (.slice (some ⟨kkx2, 0, none⟩) 2 ccx2) :: rK kkx2 ccx2 [b, x3] :: ndR b (bOf [66]) (.slice none 0 0) :: ndR x1 ⟨#[]⟩ (.slice (some ⟨kkx1, 0, none⟩) 2 ccx1) :: rK kkx1 ccx1 [a, x2] :: ndR a (bOf [65]) (.slice none 0 0) :: ndR r0 ⟨#[]⟩ (.slice (some ⟨kkr0, 0, none⟩) 1 ccr0) :: rK kkr0 ccr0 [x1] :: [G2])
  | s8 (kkr0 ccr0 x1 a kkx1 ccx1 x2 b kkx2 ccx2 x3 c kkx3 ccx3 : Nat) : Pst r0 G2 8 true 4 [r0, x1, x2, x3] x3 (some ⟨kkx3, 0, none⟩) ccx3 [c] (ndR c (bOf [67]) (.slice none 0 0) :: ndR x2 ⟨#[]⟩ (.slice (some ⟨kkx2, 0, none⟩) 2 ccx2) :: rK kkx2 ccx2 [b, x3] :: ndR b (bOf [66]) (.slice none 0 0) :: ndR x1 ⟨#[]⟩ (.slice (some ⟨kkx1, 0, none⟩) 2 ccx1) :: rK kkx1 ccx1 [a, x2] :: ndR a (bOf [65]) (.slice none 0 0) :: ndR r0 ⟨#[]⟩ (.slice (some ⟨kkr0, 0, none⟩) 1 ccr0) :: rK kkr0 ccr0 [x1] :: [G2])
  | s9 (kkr0 ccr0 x1 a kkx1 ccx1 x2 b kkx2 ccx2 x3 c kkx3 ccx3 : Nat) : Pst r0 G2 9 false 4 [r0, x1, x2, x3] x3 (some ⟨kkx3, 0, none⟩) ccx3 [c] (ndR c (bOf [67]) (.slice none 0 0) :: ndR x2 ⟨#[]⟩ (.slice (some ⟨kkx2, 0, none⟩) 2 ccx2) :: rK kkx2 ccx2 [b, x3] :: ndR b (bOf [66]) (.slice none 0 0) :: ndR x1 ⟨#[]⟩ (.slice (some ⟨kkx1, 0, none⟩) 2 ccx1) :: rK kkx1 ccx1 [a, x2] :: ndR a (bOf [65]) (.slice none 0 0) :: ndR r0 ⟨#[]⟩ (.slice (some ⟨kkr0, 0, none⟩) 1 ccr0) :: rK kkr0 ccr0 [x1] :: [G2])
  | s10 (kkr0 ccr0 x1 a kkx1 ccx1 x2 b kkx2 ccx2 x3 c kkx3 ccx3 d : Nat) : Pst r0 G2 10 true 4 [r0, x1, x2, x3] x3 (some ⟨kkx3, 0, none⟩) ccx3 [c, d] (ndR d (bOf [68]) (.slice none 0 0) :: ndR c (bOf [67]) (.slice none 0 0) :: ndR x2 ⟨#[]⟩ (.slice (some ⟨kkx2, 0, none⟩) 2 ccx2) :: rK kkx2 ccx2 [b, x3] :: ndR b (bOf [66]) (.slice none 0 0) :: ndR x1 ⟨#[]⟩ (.slice (some ⟨kkx1, 0, none⟩) 2 ccx1) :: rK kkx1 ccx1 [a, x2] :: ndR a (bOf [65]) (.slice none 0 0) :: ndR r0 ⟨#[]⟩ (.slice (some ⟨kkr0, 0, none⟩) 1 ccr0) :: rK kkr0 ccr0 [x1] :: [G2])
  | s11 (kkr0 ccr0 x1 a kkx1 ccx1 x2 b kkx2 ccx2 x3 c kkx3 ccx3 d : Nat) : Pst r0 G2 11 true 3 [r0, x1, x2, x3] x3 (some ⟨kkx3, 0, none⟩) ccx3 [c, d] (ndR d (bOf [68]) (.slice none 0 0) :: ndR c (bOf [67]) (.slice none 0 0) :: ndR x2 ⟨#[]⟩ (.slice (some ⟨kkx2, 0, none⟩) 2 ccx2) :: rK kkx2 ccx2 [b, x3] :: ndR b (bOf [66]) (.slice none 0 0) :: ndR x1 ⟨#[]⟩ (.slice (some ⟨kkx1, 0, none⟩) 2 ccx1) :: rK kkx1 ccx1 [a, x2] :: ndR a (bOf [65]) (.slice none 0 0) :: ndR r0 ⟨#[]⟩ (.slice (some ⟨kkr0, 0, none⟩) 1 ccr0) :: rK kkr0 ccr0 [x1] :: [G2])
  | s12 (kkr0 ccr0 x1 a kkx1 ccx1 x2 b kkx2 ccx2 x3 c kkx3 ccx3 d : Nat) : Pst r0 G2 12 true 2 [r0, x1, x2, x3] x3 (some ⟨kkx3, 0, none⟩) ccx3 [c, d] (ndR d (bOf [68]) (.slice none 0 0) :: ndR c (bOf [67]) (.slice none 0 0) :: ndR x2 ⟨#[]⟩ (.slice (some ⟨kkx2, 0, none⟩) 2 ccx2) :: rK kkx2 ccx2 [b, x3] :: ndR b (bOf [66]) (.slice none 0 0) :: ndR x1 ⟨#[]⟩ (.slice (some ⟨kkx1, 0, none⟩) 2 ccx1) :: rK kkx1 ccx1 [a, x2] :: ndR a (bOf [65]) (.slice none 0 0) :: ndR r0 ⟨#[]⟩ (.slice (some ⟨kkr0, 0, none⟩) 1 ccr0) :: rK kkr0 ccr0 [x1] :: [G2])
  | s13 (kkr0 ccr0 x1 a kkx1 ccx1 x2 b kkx2 ccx2 x3 c kkx3 ccx3 d : Nat) : Pst r0 G2 13 true 1 [r0, x1, x2, x3] x3 (some ⟨kkx3, 0, none⟩) ccx3 [c, d] (ndR d (bOf [68]) (.slice none 0 0) :: ndR c (bOf [67]) (.slice none 0 0) :: ndR x2 ⟨#[]⟩ (.slice (some ⟨kkx2, 0, none⟩) 2 ccx2) :: rK kkx2 ccx2 [b, x3] :: ndR b (bOf [66]) (.slice none 0 0) :: ndR x1 ⟨#[]⟩ (.slice (some ⟨kkx1, 0, none⟩) 2 ccx1) :: rK kkx1 ccx1 [a, x2] :: ndR a (bOf [65]) (.slice none 0 0) :: ndR r0 ⟨#[]⟩ (.slice (some ⟨kkr0, 0, none⟩) 1 ccr0) :: rK kkr0 ccr0 [x1] :: [G2])
theorem Pst.cls {r0 : Nat} {G2 : Res} {i n p kc : Nat} {rd : Bool} {ps xs : List Nat} {ka : Option Addr} {Z : List Res} (h : Pst r0 G2 i rd n ps p ka kc xs Z) :
    (i < 14 ∧ 1 ≤ n ∧ n ≤ ps.length ∧ ps.length ≤ 4 ∧ xs.length ≤ 2) ∧
    ((awT.getD i 0 = 40 ∧ rd = false ∧ n = ps.length ∧ ps.getD (n - 1) 0 = p ∧ ∀ y k c, Pst r0 G2 (i + 1) false (n + 1) (ps ++ [y]) y none 0 [] (ndR p ⟨#[]⟩ (.slice (some ⟨k, 0, none⟩) (xs.length + 1) c) :: rK k c (xs ++ [y]) :: Z)) ∨
    (∃ b : UInt8, awT.getD i 0 = b ∧ b.toNat ≠ 40 ∧ b.toNat ≠ 41 ∧ b.toNat ≠ 44 ∧ b.toNat ≠ 59 ∧ rd = false ∧ n = ps.length ∧ ps.getD (n - 1) 0 = p ∧ Lib.indexAny (awT.drop i) [40, 41, 44, 59] = 1 ∧ (awT.take (i + 1)).drop i = [b] ∧
      ∀ a k c, Pst r0 G2 (i + 1) true n ps p (some ⟨k, 0, none⟩) c (xs ++ [a]) (ndR a (bOf [b]) (.slice none 0 0) :: Z)) ∨
    (awT.getD i 0 = 44 ∧ rd = true ∧ 2 ≤ n ∧ Pst r0 G2 (i + 1) false n ps p ka kc xs Z) ∨
    (awT.getD i 0 = 41 ∧ rd = true ∧ 2 ≤ n ∧ Pst r0 G2 (i + 1) true (n - 1) ps p ka kc xs Z) ∨
    (awT.getD i 0 = 59 ∧ rd = true ∧ n = 1 ∧ i = 13)) := by
  cases h
  · exact ⟨⟨by simp, by simp, by simp, by simp, by simp⟩, .inl ⟨by decide, rfl, rfl, rfl, fun y k c => Pst.s1 ..⟩⟩
  · exact ⟨⟨by simp, by simp, by simp, by simp, by simp⟩, .inr (.inl ⟨65, by decide, by decide, by decide, by decide, by decide, rfl, rfl, rfl, by decide, by decide, fun a k c => Pst.s2 ..⟩)⟩
  · exact ⟨⟨by simp, by simp, by simp, by simp, by simp⟩, .inr (.inr (.inl ⟨by decide, rfl, by decide, Pst.s3 ..⟩))⟩
  · exact ⟨⟨by simp, by simp, by simp, by simp, by simp⟩, .inl ⟨by decide, rfl, rfl, rfl, fun y k c => Pst.s4 ..⟩⟩
  · exact ⟨⟨by simp, by simp, by simp, by simp, by simp⟩, .inr (.inl ⟨66, by decide, by decide, by decide, by decide, by decide, rfl, rfl, rfl, by decide, by decide, fun a k c => Pst.s5 ..⟩)⟩
  · exact ⟨⟨by simp, by simp, by simp, by simp, by simp⟩, .inr (.inr (.inl ⟨by decide, rfl, by decide, Pst.s6 ..⟩))⟩
  · exact ⟨⟨by simp, by simp, by simp, by simp, by simp⟩, .inl ⟨by decide, rfl, rfl, rfl, fun y k c => Pst.s7 ..⟩⟩
  · exact ⟨⟨by simp, by simp, by simp, by simp, by simp⟩, .inr (.inl ⟨67, by decide, by decide, by decide, by decide, by decide, rfl, rfl, rfl, by decide, by decide, fun a k c => Pst.s8 ..⟩)⟩
  · exact ⟨⟨by simp, by simp, by simp, by simp, by simp⟩, .inr (.inr (.inl ⟨by decide, rfl, by decide, Pst.s9 ..⟩))⟩
  · exact ⟨⟨by simp, by simp, by simp, by simp, by simp⟩, .inr (.inl ⟨68, by decide, by decide, by decide, by decide, by decide, rfl, rfl, rfl, by decide, by decide, fun a k c => Pst.s10 ..⟩)⟩
  · exact ⟨⟨by simp, by simp, by simp, by simp, by simp⟩, .inr (.inr (.inr (.inl ⟨by decide, rfl, by decide, Pst.s11 ..⟩)))⟩
  · exact ⟨⟨by simp, by simp, by simp, by simp, by simp⟩, .inr (.inr (.inr (.inl ⟨by decide, rfl, by decide, Pst.s12 ..⟩)))⟩
  · exact ⟨⟨by simp, by simp, by simp, by simp, by simp⟩, .inr (.inr (.inr (.inl ⟨by decide, rfl, by decide, Pst.s13 ..⟩)))⟩
  · exact ⟨⟨by simp, by simp, by simp, by simp, by simp⟩, .inr (.inr (.inr (.inr ⟨by decide, rfl, rfl, rfl⟩)))⟩
theorem Hp.nd {w0 w : World} {B : Nat} {L : List Res} (h : Hp B w0 w L) (i : Nat) {g : Nat} {nm : ByteArray} {kv : Value} (hi : L[i]? = some (ndR g nm kv)) : NdIs w g nm kv := (h.ok _ (List.mem_of_getElem? hi)).2
theorem Hp.ne_nd {w0 w : World} {B : Nat} {L : List Res} (h : Hp B w0 w L) {i j g g2 : Nat} {nm nm2 : ByteArray} {kv kv2 : Value} (hij : i ≠ j) (hi : L[i]? = some (ndR g nm kv)) (hj : L[j]? = some (ndR g2 nm2 kv2)) : g ≠ g2 := by
  rcases h.apart hij hi hj with h | h
  · cases h
  · intro e; subst e; exact h rfl
theorem leafY {w : World} {g : Nat} {nm : ByteArray} (h : NdIs w g nm (.slice none 0 0)) (par : Value) : Yields w (ptV (some g)) par [(ptV (some g), par)] :=
  Yields.node g par (.slice none 0 0) [] h.pt1 (((Hp.refl w).nil 0 1).sl 0 rfl (by simp) (fun j hj => absurd hj (by simp))) (fun j hj => absurd hj (by simp))
theorem twoY {w : World} {g : Nat} {nm : ByteArray} {kv : Value} {q1 q2 : Value × List (Value × Value)} (h : NdIs w g nm kv) (hk : Sl w kv 1 2 (fun j => ([q1, q2].getD j (undef, [])).1)) (h1 : Yields w q1.1 (ptV (some g)) q1.2) (h2 : Yields w q2.1 (ptV (some g)) q2.2) (par : Value) : Yields w (ptV (some g)) par ((ptV (some g), par) :: (q1.2 ++ q2.2)) := by
  have := Yields.node g par kv [q1, q2] h.pt1 hk (fun j hj => by
    have : j = 0 ∨ j = 1 := by simp at hj;omega
    rcases this with rfl | rfl
    · exact h1
    · exact h2)
  have e : belK [q1, q2] [q1, q2].length = q1.2 ++ q2.2 := by simp [belK]
  rw [e] at this
  exact this
theorem Hp.kids2 {w0 w : World} {B : Nat} {L : List Res} (h : Hp B w0 w L) (i : Nat) {k c a b : Nat} (hi : L[i]? = some (rK k c [a, b])) (y1 y2 : List (Value × Value)) : Sl w (.slice (some ⟨k, 0, Option.none⟩) 2 c) 1 2 (fun j => ([(ptV (some a), y1), (ptV (some b), y2)].getD j (undef, [])).1) := by
  refine h.sl i hi (by simp) fun j hj => ?_
  have : j = 0 ∨ j = 1 := by simp at hj;omega
  rcases this with rfl | rfl <;> rfl
def awL (r0 g2 go co kr cr x1 a k1 c1 x2 b k2 c2 x3 c k3 c3 d : Nat) : List Res :=
  .row 53 1 (.slice (some ⟨go, 0, none⟩) 4 co) 4 ([r0, x1, x2, x3].map ppN) :: .box 41 g2 [.slice none 0 0, .slice none 0 0] :: ndR r0 ⟨#[]⟩ (.slice (some ⟨kr, 0, none⟩) 1 cr) :: rK kr cr [x1] :: ndR x3 ⟨#[]⟩ (.slice (some ⟨k3, 0, none⟩) 2 c3) :: rK k3 c3 [c, d] ::
  ndR d (bOf [68]) (.slice none 0 0) :: ndR c (bOf [67]) (.slice none 0 0) :: ndR x2 ⟨#[]⟩ (.slice (some ⟨k2, 0, none⟩) 2 c2) :: rK k2 c2 [b, x3] :: ndR b (bOf [66]) (.slice none 0 0) :: ndR x1 ⟨#[]⟩ (.slice (some ⟨k1, 0, none⟩) 2 c1) :: rK k1 c1 [a, x2] :: [ndR a (bOf [65]) (.slice none 0 0)]
def awA (x1 a x2 b x3 c d : Nat) : List (Nat × Option Nat) := [(x1, none), (a, some x1), (x2, some x1), (b, some x2), (x3, some x2), (c, some x3), (d, some x3)]
def awP : List Int := [-1, 0, 0, 2, 2, 4, 4]
def awN : List ByteArray := [⟨#[]⟩, bOf [65], ⟨#[]⟩, bOf [66], ⟨#[]⟩, bOf [67], bOf [68]]
theorem aw_yields {r0 g2 go co kr cr x1 a k1 c1 x2 b k2 c2 x3 c k3 c3 d : Nat} {w0 w : World} {B : Nat} (hp : Hp B w0 w (awL r0 g2 go co kr cr x1 a k1 c1 x2 b k2 c2 x3 c k3 c3 d)) : Yields w (ptV (some x1)) (ptV none) ((awA x1 a x2 b x3 c d).map prV) :=
  twoY (hp.nd 11 rfl) (hp.kids2 12 rfl _ _) (leafY (hp.nd 13 rfl) _) (twoY (hp.nd 8 rfl) (hp.kids2 9 rfl _ _) (leafY (hp.nd 10 rfl) _) (twoY (hp.nd 4 rfl) (hp.kids2 5 rfl _ _) (leafY (hp.nd 7 rfl) _) (leafY (hp.nd 6 rfl) _) _) _) _
theorem aw_tree {r0 g2 go co kr cr x1 a k1 c1 x2 b k2 c2 x3 c k3 c3 d : Nat} {w0 w : World} {B : Nat} (hp : Hp B w0 w (awL r0 g2 go co kr cr x1 a k1 c1 x2 b k2 c2 x3 c k3 c3 d)) : TreeAt w (awA x1 a x2 b x3 c d) awP awN := by
  have hax1 : a ≠ x1 := hp.ne_nd (i := 13) (j := 11) (by omega) rfl rfl
  have hx2x1 : x2 ≠ x1 := hp.ne_nd (i := 8) (j := 11) (by omega) rfl rfl
  have hx2a : x2 ≠ a := hp.ne_nd (i := 8) (j := 13) (by omega) rfl rfl
  have hbx1 : b ≠ x1 := hp.ne_nd (i := 10) (j := 11) (by omega) rfl rfl
  have hba : b ≠ a := hp.ne_nd (i := 10) (j := 13) (by omega) rfl rfl
  have hbx2 : b ≠ x2 := hp.ne_nd (i := 10) (j := 8) (by omega) rfl rfl
  have hx3x1 : x3 ≠ x1 := hp.ne_nd (i := 4) (j := 11) (by omega) rfl rfl
  have hx3a : x3 ≠ a := hp.ne_nd (i := 4) (j := 13) (by omega) rfl rfl
  have hx3x2 : x3 ≠ x2 := hp.ne_nd (i := 4) (j := 8) (by omega) rfl rfl
  have hx3b : x3 ≠ b := hp.ne_nd (i := 4) (j := 10) (by omega) rfl rfl
  have hcx1 : c ≠ x1 := hp.ne_nd (i := 7) (j := 11) (by omega) rfl rfl
  have hca : c ≠ a := hp.ne_nd (i := 7) (j := 13) (by omega) rfl rfl
  have hcx2 : c ≠ x2 := hp.ne_nd (i := 7) (j := 8) (by omega) rfl rfl
  have hcb : c ≠ b := hp.ne_nd (i := 7) (j := 10) (by omega) rfl rfl
  have hcx3 : c ≠ x3 := hp.ne_nd (i := 7) (j := 4) (by omega) rfl rfl
  have hdx1 : d ≠ x1 := hp.ne_nd (i := 6) (j := 11) (by omega) rfl rfl
  have hda : d ≠ a := hp.ne_nd (i := 6) (j := 13) (by omega) rfl rfl
  have hdx2 : d ≠ x2 := hp.ne_nd (i := 6) (j := 8) (by omega) rfl rfl
  have hdb : d ≠ b := hp.ne_nd (i := 6) (j := 10) (by omega) rfl rfl
  have hdx3 : d ≠ x3 := hp.ne_nd (i := 6) (j := 4) (by omega) rfl rfl
  have hdc : d ≠ c := hp.ne_nd (i := 6) (j := 7) (by omega) rfl rfl
  have n7 : (awA x1 a x2 b x3 c d).length = 7 := rfl
  have hk7 : ∀ k, k < 7 → k = 0 ∨ k = 1 ∨ k = 2 ∨ k = 3 ∨ k = 4 ∨ k = 5 ∨ k = 6 := fun k hk => by omega
  refine ⟨rfl, rfl, by rw [n7];omega, fun k hk => ?_, fun k hk => ?_, fun k hk => ?_, fun k hk => ?_⟩
  · rcases hk7 k hk with rfl | rfl | rfl | rfl | rfl | rfl | rfl
    · exact ⟨_, hp.nd 11 rfl⟩
    · exact ⟨_, hp.nd 13 rfl⟩
    · exact ⟨_, hp.nd 8 rfl⟩
    · exact ⟨_, hp.nd 10 rfl⟩
    · exact ⟨_, hp.nd 4 rfl⟩
    · exact ⟨_, hp.nd 7 rfl⟩
    · exact ⟨_, hp.nd 6 rfl⟩
  · rcases hk7 k hk with rfl | rfl | rfl | rfl | rfl | rfl | rfl
    · exact trivial
    · exact (hp.nd 11 rfl).ok
    · exact (hp.nd 11 rfl).ok
    · exact (hp.nd 8 rfl).ok
    · exact (hp.nd 8 rfl).ok
    · exact (hp.nd 4 rfl).ok
    · exact (hp.nd 4 rfl).ok
  · rcases hk7 k hk with rfl | rfl | rfl | rfl | rfl | rfl | rfl <;> simp [entP, fndP, awA, List.range_succ, *]
  · rcases hk7 k hk with rfl | rfl | rfl | rfl | rfl | rfl | rfl
    · exact ⟨0, by simp [entP, fndP, awA, awP, List.range_succ, *]⟩
    · exact ⟨1, by simp [entP, fndP, awA, awP, List.range_succ, *]⟩
    · exact ⟨1, by simp [entP, fndP, awA, awP, List.range_succ, *]⟩
    · exact ⟨3, by simp [entP, fndP, awA, awP, List.range_succ, *]⟩
    · exact ⟨3, by simp [entP, fndP, awA, awP, List.range_succ, *]⟩
    · exact ⟨5, by simp [entP, fndP, awA, awP, List.range_succ, *]⟩
    · exact ⟨5, by simp [entP, fndP, awA, awP, List.range_succ, *]⟩
end Go.Proofs.YtpknpbeiifjmgaaDoor
namespace Go.Proofs.YtpknpbeiifjmgaaDoor
open Go.RowKit
section
variable {P : Program} {n : Nat} {w0 : World} {K : Fm → List Res → Prop} {F : Fm} {L : List Res} {m : Md} {Lw : List Res} {ops : Array Oper} {rest : List Oper} {d : Option Nat} {ty : TypeId} {pos : String} {aft : Array Edge}
theorem OKx_sslL7 {t : TypeId} [T : TStr P t] {x lo : Operand} {s r : List UInt8} {l : Nat} {k : IntKind} (hx : rv n F x = .string (bOf s)) (hl : rv n F lo = .int k (l : Int)) (h1 : l ≤ s.length) (hr : s.drop l = r)
    (kk : OKx P n w0 m ops K rest (updo F d (.string (bOf r))) L) : OKx P n w0 m ops K (⟨d, .slice t x (some lo) none none, ty, pos, aft, none⟩ :: rest) F L :=
  OKx_still (fun w _ _ _ _ _ => by
    have h2 := run_sliceAt_string (P := P) (w := w) t (.string (bOf s)) (some (.int k (l : Int))) none none T.und
    have h3 := run_slice_string_l (P := P) w t (bOf s) T.und k (l : Int) (by omega) (by rw [bOf_size];omega)
    have e : (bOf s).extract l (bOf s).size = bOf r := by
      rw [Lib.extract_eq, data_bOf, bOf_size, List.take_of_length_le (by simp), hr]
      rfl
    rw [Int.toNat_natCast, e] at h3
    rw [h3] at h2
    simp [execOp, hx, hl, h2, Result.andThen]) kk
theorem OKx_sslLH {t : TypeId} [T : TStr P t] {x lo hi : Operand} {s r : List UInt8} {l h : Nat} {k k' : IntKind} (hx : rv n F x = .string (bOf s)) (hl : rv n F lo = .int k (l : Int)) (hh : rv n F hi = .int k' (h : Int)) (h1 : l ≤ h) (h2 : h ≤ s.length) (hr : (s.take h).drop l = r)
    (kk : OKx P n w0 m ops K rest (updo F d (.string (bOf r))) L) : OKx P n w0 m ops K (⟨d, .slice t x (some lo) (some hi) none, ty, pos, aft, none⟩ :: rest) F L :=
  OKx_still (fun w _ _ _ _ _ => by
    have h2' := run_sliceAt_string (P := P) (w := w) t (.string (bOf s)) (some (.int k (l : Int))) (some (.int k' (h : Int))) none T.und
    have h3 := run_slice_string_if (P := P) (w := w) t (bOf s) k k' (l : Int) (h : Int) T.und
    have e : (bOf s).extract l h = bOf r := by
      rw [Lib.extract_eq, data_bOf, ← hr, List.drop_take]
      rfl
    rw [if_pos ⟨by omega, by rw [bOf_size];omega⟩, if_pos ⟨by omega, by omega⟩, Int.toNat_natCast, Int.toNat_natCast, e] at h3
    rw [h3] at h2'
    simp [execOp, hx, hl, hh, h2', Result.andThen]) kk
end
end Go.Proofs.YtpknpbeiifjmgaaDoor
namespace Go.Proofs.YtpknpbeiifjmgaaDoor
open Go.RowKit Go.Maps
def MxL (w : World) : Prop := ∃ m, w.cell? ⟨0, 0, none⟩ = some (.int .i64 m)
theorem MxL.below {w w' : World} (h : MxL w) (hb : Below w.heap.size w w') : MxL w' := by
  obtain ⟨m, hm⟩ := h
  refine ⟨m, ?_⟩
  rw [← hm]
  have hlt : 0 < w.heap.size := by
    unfold World.cell? at hm
    cases h : w.heap[0]? with
    | none => simp [h] at hm
    | some o => exact (Array.getElem?_eq_some_iff.1 h).1
  unfold World.cell?
  rw [hb.block _ hlt]
theorem mxl_of (w : World) (h : w.ShapedOpen Tryd.prog) : MxL w := cell_of_shapedOpen_int (zero := #[.int .i64 0]) (t := 3) h (of_decide_eq_true (by kernel_rfl)) (by kernel_rfl) rfl (by kernel_rfl) (by kernel_rfl) Tryd.underlying3
end Go.Proofs.YtpknpbeiifjmgaaDoor
namespace Go.Proofs.YtpknpbeiifjmgaaDoor
open Go.RowKit
def scE (s : Stem) (st : List Int) : Int := if chkC s st ≠ 0 then chkC s st else if many st = true then 4 else 0
def scN (s : Stem) (st : List Int) : Int := if scE s st ≠ 0 then 0 else (best1 s st).2
theorem scE_bad {s : Stem} {st : List Int} (h : chkC s st ≠ 0) : scE s st = chkC s st := if_pos h
theorem scE_many {s : Stem} {st : List Int} (h : chkC s st = 0) (hm : many st = true) : scE s st = 4 := by unfold scE; rw [if_neg (by omega), if_pos hm]
theorem scE_ok {s : Stem} {st : List Int} (h : chkC s st = 0) (hm : many st = false) : scE s st = 0 := by unfold scE; rw [if_neg (by omega), if_neg (by rw [hm]; simp)]
theorem scN_bad {s : Stem} {st : List Int} (h : scE s st ≠ 0) : scN s st = 0 := if_pos h
theorem scN_ok {s : Stem} {st : List Int} (h : scE s st = 0) : scN s st = (best1 s st).2 := if_neg (by omega)
set_option maxRecDepth 100000 in
set_option maxHeartbeats 4000000 in
theorem Score_sat (v sv : Value) (s : Stem) (st : List Int) (w : World) (h : Stm w v s) (hs : Ints w sv st) : SatV Tryd.prog 10 [v, sv] w (.tuple #[.int .i64 (scN s st), .int .i64 (scE s st)]) := by
  have hst := h
  obtain ⟨nv, ev, pv, rfl, _, _, _⟩ := h
  refine SatL.of 18 [4, 5] Tryd.func10 (by kernel_rfl) (by kernel_rfl) rfl rfl rfl rfl ?_
  repeat' (first|(apply OK_seq)|(apply thenQ_n)|(apply OK_region)|(apply OKx_gc 21;exact rfl; refine OKx_call (f := 21) rfl rfl (fun w1 hp => best_sat _ _ s st w1 (hst.below hp.below) (hs.below hp.below)) ?_; rintro _ _ (⟨h1, rfl, rfl⟩ | ⟨h1, h2, rfl, rfl⟩ | ⟨h1, h2, a, n, c, rfl, hn, rfl⟩))|(apply OKx_nilK)|(apply OK_block)|(apply blockQ_n)|(apply blockQ_s)|(apply thenQ_e)|(apply blockQ_e;exact rfl)|(apply thenQ_r)|(apply blockQ_r)|(apply OK_condT;exact rfl)|(apply OK_condF;exact rfl)|(apply OK_skip)|(apply OK_exit)|(apply OK_ret)|(apply OKx_move;(conv=>lhs;whnf)<;>exact rfl)|(apply OKx_assign;(conv=>lhs;whnf)<;>exact rfl)|(apply OKx_extract;exact rfl;(conv=>lhs;whnf)<;>exact rfl)|(apply OKx_boxA;exact rfl;intro _)|(apply OKx_ldBA;exact rfl;(first | exact at0|exact at1|exact at2|exact at3|exact at4|exact at5|exact at6|exact at7);exact rfl)|(apply OKx_ldRA;(conv=>lhs;whnf)<;>exact rfl;(with_reducible assumption)))
  · refine bodyQ_r2 (by ((conv=>lhs;whnf)<;>exact rfl)) (by ((conv=>lhs;whnf)<;>exact rfl)) ?_
    have he := scE_bad h1
    exact ⟨_, Ent.nil, by rw [scN_bad (by omega), he], rfl⟩
  · refine bodyQ_r2 (by ((conv=>lhs;whnf)<;>exact rfl)) (by ((conv=>lhs;whnf)<;>exact rfl)) ?_
    have he := scE_many h1 h2
    exact ⟨_, Ent.nil, by rw [scN_bad (by omega), he], rfl⟩
  · refine bodyQ_r2 (by ((conv=>lhs;whnf)<;>exact rfl)) (by ((conv=>lhs;whnf)<;>exact rfl)) ?_
    have he := scE_ok h1 h2
    exact ⟨_, Ent.nil, by rw [scN_ok he, he], rfl⟩
end Go.Proofs.YtpknpbeiifjmgaaDoor
namespace Go.Proofs.YtpknpbeiifjmgaaDoor
theorem getD_mem {α : Type} (l : List α) (i : Nat) (d : α) (h : i < l.length) : l.getD i d ∈ l := by
  rw [getD_lt _ _ _ h]
  exact List.getElem_mem h
end Go.Proofs.YtpknpbeiifjmgaaDoor
namespace Go.Proofs.YtpknpbeiifjmgaaDoor
open Go.RowKit
theorem SatL.post {P : Program} {f : FuncId} {args : List Value} {w0 : World} {L : List Res} {R R' : Value → List Res → Prop} (h : SatL P f args w0 L R) (hr : ∀ v L', R v L' → ∃ L'', Ent w0 L' L'' ∧ R' v L'') : SatL P f args w0 L R' :=
  ⟨h.enters, fun w hp => (h.calls w hp).mono fun e w' ⟨v, L', h1, h2, h3⟩ => by
    obtain ⟨L'', e', h4⟩ := hr v L' h3
    exact ⟨v, L'', h1, e'.use _ h2, h4⟩⟩
end Go.Proofs.YtpknpbeiifjmgaaDoor
namespace Go.Proofs.YtpknpbeiifjmgaaDoor
open Go.RowKit
theorem getD_snoc {α : Type} (l : List α) (a d : α) (j : Nat) : (l ++ [a]).getD j d = if j < l.length then l.getD j d else if j = l.length then a else d := by
  by_cases h : j < l.length
  · rw [if_pos h]; simp [List.getD_eq_getElem?_getD, List.getElem?_append_left h]
  · rw [if_neg h]
    by_cases h2 : j = l.length
    · subst h2; simp
    · rw [if_neg h2, getD_ge _ _ _ (by simp;omega)]
end Go.Proofs.YtpknpbeiifjmgaaDoor
namespace Go.Proofs.YtpknpbeiifjmgaaDoor
open Go.RowKit
section
variable {P : Program} {n : Nat} {w0 : World} {Q : Exit → Fm → List Res → Prop} {K : Fm → List Res → Prop} {F : Fm} {L : List Res} {m : Md} {ops : Array Oper} {rest : List Oper} {d : Option Nat} {ty : TypeId} {pos : String} {aft : Array Edge}
theorem OK_world {c : Code} (h : ∀ w, Hp w0.heap.size w0 w L → OK P n w0 Q c F L) : OK P n w0 Q c F L := OK.mk' fun w a hf hp => (h w hp).use w a hf hp
end
end Go.Proofs.YtpknpbeiifjmgaaDoor
namespace Go.Proofs.YtpknpbeiifjmgaaDoor
open Go.RowKit
set_option maxRecDepth 100000 in
set_option maxHeartbeats 4000000 in
theorem rChk_sat (v sv : Value) (s : Stem) (st : List Int) (w : World) (h : Stm w v s) (hs : Ints w sv st) : SatV Tryd.prog 5 [v, sv] w (.int .i64 (chkC s st)) := by
  have hst := h
  obtain ⟨nv, ev, pv, rfl, hS, _, hP⟩ := h
  have hsn := hS.sl
  have hsv := hs.sl
  have hnb := hsn.bound
  have hsb := hsv.bound
  by_cases hc : stCheck s = 0
  rotate_left
  · have he : chkC s st = 1 := if_pos hc
    refine SatL.of 33 [4] Tryd.func5 (by kernel_rfl) (by kernel_rfl) rfl rfl rfl rfl ?_
    repeat' (first|(apply OK_seq)|(apply thenQ_n)|(apply OK_region)|(apply OKx_gc 9;exact rfl; refine OKx_callV (f := 9) rfl rfl rfl (fun w1 hp => rstCheck_sat _ s w1 (hst.below hp.below)) ?_)|(apply OKx_nilK)|(apply OK_block)|(apply blockQ_n)|(apply blockQ_s)|(apply thenQ_e)|(apply blockQ_e;exact rfl)|(apply thenQ_r)|(apply blockQ_r)|(apply OK_condT;exact rfl)|(apply OK_condF;exact rfl)|(apply OK_skip)|(apply OK_exit)|(apply OK_ret)|(apply OKx_move;(conv=>lhs;whnf)<;>exact rfl)|(apply OKx_assign;(conv=>lhs;whnf)<;>exact rfl)|(apply OKx_ldB;exact rfl;(first | exact at0|exact at1|exact at2|exact at3|exact at4|exact at5|exact at6|exact at7);exact rfl)|(apply OKx_ldR;(conv=>lhs;whnf)<;>exact rfl;(with_reducible assumption))|(apply OKx_ldI;exact rfl;(first | exact at0|exact at1|exact at2|exact at3|exact at4|exact at5|exact at6|exact at7);omega)|(apply OKx_len;exact rfl)|(apply OKx_lenR;(conv=>lhs;whnf)<;>exact rfl;(with_reducible assumption))|(apply OKx_lenR2;(conv=>lhs;whnf)<;>exact rfl;(with_reducible assumption))|(apply OKx_lenO;(conv=>lhs;whnf)<;>exact rfl;(first | exact at0|exact at1|exact at2|exact at3|exact at4|exact at5|exact at6|exact at7))|(apply OKx_lss;exact rfl;exact rfl;all_goals (intro _; try (exfalso;omega)))|(apply OKx_geq;exact rfl;exact rfl;all_goals (intro _; try (exfalso;omega)))|(apply OKx_neq;exact rfl;exact rfl;all_goals (intro _; try (exfalso;omega)))|(apply OKx_idxO;exact rfl;exact rfl;omega)|(apply OKx_idxR;(conv=>lhs;whnf)<;>exact rfl;(with_reducible assumption);exact rfl;omega;intro _ _)|(apply OKx_idxOz;exact rfl;exact rfl;omega;omega)|(apply OKx_idxRz;(conv=>lhs;whnf)<;>exact rfl;(with_reducible assumption);exact rfl;omega;omega;intro _ _)|(apply OKx_fldO;exact rfl;exact rfl)|(apply OKx_fldR;(conv=>lhs;whnf)<;>exact rfl;(with_reducible assumption); decide;intro _ _)|(apply OKx_inc;exact rfl;exact rfl;omega)|(apply OKx_addN;exact rfl;exact rfl;omega)|(apply OKx_add;exact rfl;exact rfl;omega;omega)|(apply OKx_pickT;exact rfl;(conv=>lhs;whnf)<;>exact rfl)|(apply OKx_pickF;exact rfl;(conv=>lhs;whnf)<;>exact rfl)|(apply OKx_guardT;exact rfl;exact rfl)|(apply OKx_guardF;exact rfl;exact rfl)|(apply OKx_guardU;exact rfl;exact rfl)|(apply OKx_boxA;exact rfl;intro _)|(apply OKx_ldBA;exact rfl;(first | exact at0|exact at1|exact at2|exact at3|exact at4|exact at5|exact at6|exact at7);exact rfl)|(apply OKx_ldRA;(conv=>lhs;whnf)<;>exact rfl;(with_reducible assumption)))
    refine bodyQ_r1 (by ((conv=>lhs;whnf)<;>exact rfl)) ?_
    exact ⟨_, Ent.nil, by rw [he], rfl⟩
  have hlen := stCheck_len s hc
  by_cases hl : st.length = s.par.length
  rotate_left
  · have he : chkC s st = 9 := by unfold chkC; rw [if_neg (by omega), if_pos hl]
    refine SatL.of 33 [4] Tryd.func5 (by kernel_rfl) (by kernel_rfl) rfl rfl rfl rfl ?_
    repeat' (first|(apply OK_seq)|(apply thenQ_n)|(apply OK_region)|(apply OKx_gc 9;exact rfl; refine OKx_callV (f := 9) rfl rfl rfl (fun w1 hp => rstCheck_sat _ s w1 (hst.below hp.below)) ?_)|(apply OKx_nilK)|(apply OK_block)|(apply blockQ_n)|(apply blockQ_s)|(apply thenQ_e)|(apply blockQ_e;exact rfl)|(apply thenQ_r)|(apply blockQ_r)|(apply OK_condT;exact rfl)|(apply OK_condF;exact rfl)|(apply OK_skip)|(apply OK_exit)|(apply OK_ret)|(apply OKx_move;(conv=>lhs;whnf)<;>exact rfl)|(apply OKx_assign;(conv=>lhs;whnf)<;>exact rfl)|(apply OKx_ldB;exact rfl;(first | exact at0|exact at1|exact at2|exact at3|exact at4|exact at5|exact at6|exact at7);exact rfl)|(apply OKx_ldR;(conv=>lhs;whnf)<;>exact rfl;(with_reducible assumption))|(apply OKx_ldI;exact rfl;(first | exact at0|exact at1|exact at2|exact at3|exact at4|exact at5|exact at6|exact at7);omega)|(apply OKx_len;exact rfl)|(apply OKx_lenR;(conv=>lhs;whnf)<;>exact rfl;(with_reducible assumption))|(apply OKx_lenR2;(conv=>lhs;whnf)<;>exact rfl;(with_reducible assumption))|(apply OKx_lenO;(conv=>lhs;whnf)<;>exact rfl;(first | exact at0|exact at1|exact at2|exact at3|exact at4|exact at5|exact at6|exact at7))|(apply OKx_lss;exact rfl;exact rfl;all_goals (intro _; try (exfalso;omega)))|(apply OKx_geq;exact rfl;exact rfl;all_goals (intro _; try (exfalso;omega)))|(apply OKx_neq;exact rfl;exact rfl;all_goals (intro _; try (exfalso;omega)))|(apply OKx_idxO;exact rfl;exact rfl;omega)|(apply OKx_idxR;(conv=>lhs;whnf)<;>exact rfl;(with_reducible assumption);exact rfl;omega;intro _ _)|(apply OKx_idxOz;exact rfl;exact rfl;omega;omega)|(apply OKx_idxRz;(conv=>lhs;whnf)<;>exact rfl;(with_reducible assumption);exact rfl;omega;omega;intro _ _)|(apply OKx_fldO;exact rfl;exact rfl)|(apply OKx_fldR;(conv=>lhs;whnf)<;>exact rfl;(with_reducible assumption); decide;intro _ _)|(apply OKx_inc;exact rfl;exact rfl;omega)|(apply OKx_addN;exact rfl;exact rfl;omega)|(apply OKx_add;exact rfl;exact rfl;omega;omega)|(apply OKx_pickT;exact rfl;(conv=>lhs;whnf)<;>exact rfl)|(apply OKx_pickF;exact rfl;(conv=>lhs;whnf)<;>exact rfl)|(apply OKx_guardT;exact rfl;exact rfl)|(apply OKx_guardF;exact rfl;exact rfl)|(apply OKx_guardU;exact rfl;exact rfl)|(apply OKx_boxA;exact rfl;intro _)|(apply OKx_ldBA;exact rfl;(first | exact at0|exact at1|exact at2|exact at3|exact at4|exact at5|exact at6|exact at7);exact rfl)|(apply OKx_ldRA;(conv=>lhs;whnf)<;>exact rfl;(with_reducible assumption)))
    refine bodyQ_r1 (by ((conv=>lhs;whnf)<;>exact rfl)) ?_
    exact ⟨_, Ent.nil, by rw [he], rfl⟩
  have he : chkC s st = if st.any badS = true then 2 else 0 := by unfold chkC; rw [if_neg (by omega), if_neg (by omega)]
  refine SatL.of 33 [4] Tryd.func5 (by kernel_rfl) (by kernel_rfl) rfl rfl rfl rfl ?_
  repeat' (first|(apply OK_seq)|(apply thenQ_n)|(apply OK_region)|(apply OKx_gc 9;exact rfl; refine OKx_callV (f := 9) rfl rfl rfl (fun w1 hp => rstCheck_sat _ s w1 (hst.below hp.below)) ?_)|(apply OKx_nilK)|(apply OK_block)|(apply blockQ_n)|(apply blockQ_s)|(apply thenQ_e)|(apply blockQ_e;exact rfl)|(apply thenQ_r)|(apply blockQ_r)|(apply OK_condT;exact rfl)|(apply OK_condF;exact rfl)|(apply OK_skip)|(apply OK_exit)|(apply OK_ret)|(apply OKx_move;(conv=>lhs;whnf)<;>exact rfl)|(apply OKx_assign;(conv=>lhs;whnf)<;>exact rfl)|(apply OKx_ldB;exact rfl;(first | exact at0|exact at1|exact at2|exact at3|exact at4|exact at5|exact at6|exact at7);exact rfl)|(apply OKx_ldR;(conv=>lhs;whnf)<;>exact rfl;(with_reducible assumption))|(apply OKx_ldI;exact rfl;(first | exact at0|exact at1|exact at2|exact at3|exact at4|exact at5|exact at6|exact at7);omega)|(apply OKx_len;exact rfl)|(apply OKx_lenR;(conv=>lhs;whnf)<;>exact rfl;(with_reducible assumption))|(apply OKx_lenR2;(conv=>lhs;whnf)<;>exact rfl;(with_reducible assumption))|(apply OKx_lenO;(conv=>lhs;whnf)<;>exact rfl;(first | exact at0|exact at1|exact at2|exact at3|exact at4|exact at5|exact at6|exact at7))|(apply OKx_lss;exact rfl;exact rfl;all_goals (intro _; try (exfalso;omega)))|(apply OKx_geq;exact rfl;exact rfl;all_goals (intro _; try (exfalso;omega)))|(apply OKx_neq;exact rfl;exact rfl;all_goals (intro _; try (exfalso;omega)))|(apply OKx_idxO;exact rfl;exact rfl;omega)|(apply OKx_idxR;(conv=>lhs;whnf)<;>exact rfl;(with_reducible assumption);exact rfl;omega;intro _ _)|(apply OKx_idxOz;exact rfl;exact rfl;omega;omega)|(apply OKx_idxRz;(conv=>lhs;whnf)<;>exact rfl;(with_reducible assumption);exact rfl;omega;omega;intro _ _)|(apply OKx_fldO;exact rfl;exact rfl)|(apply OKx_fldR;(conv=>lhs;whnf)<;>exact rfl;(with_reducible assumption); decide;intro _ _)|(apply OKx_inc;exact rfl;exact rfl;omega)|(apply OKx_addN;exact rfl;exact rfl;omega)|(apply OKx_add;exact rfl;exact rfl;omega;omega)|(apply OKx_pickT;exact rfl;(conv=>lhs;whnf)<;>exact rfl)|(apply OKx_pickF;exact rfl;(conv=>lhs;whnf)<;>exact rfl)|(apply OKx_guardT;exact rfl;exact rfl)|(apply OKx_guardF;exact rfl;exact rfl)|(apply OKx_guardU;exact rfl;exact rfl)|(apply OKx_boxA;exact rfl;intro _)|(apply OKx_ldBA;exact rfl;(first | exact at0|exact at1|exact at2|exact at3|exact at4|exact at5|exact at6|exact at7);exact rfl)|(apply OKx_ldRA;(conv=>lhs;whnf)<;>exact rfl;(with_reducible assumption)))
  rename_i g2 _ _
  refine OK_loop1 5 [4, 5, 15, 16, 17, 18, 19, 20, 21, 22, 23, 24, 25, 26, 27, 28, 29, 30, 31, 32] (fun m v L => ∃ k : Nat, k + m = st.length ∧ v = .int .i64 (k : Int) ∧ (∀ j, j < k → badS (st.getD j 0) = false) ∧ L = [.box 26 g2 [nv, ev, pv]]) st.length _ (Ent.refl _ _) ⟨0, by omega, rfl, fun _ h => absurd h (Nat.not_lt_zero _), rfl⟩ ?_
  rintro m v L G ⟨k, hm, rfl, hk, rfl⟩
  have hit : k < st.length → badS (st.getD k 0) = true → chkC s st = 2 := fun hk1 hb => by
    rw [he, if_pos (List.any_eq_true.2 ⟨_, List.getElem_mem hk1, by rw [getD_lt _ _ _ hk1] at hb; exact hb⟩)]
  repeat' (first|(apply OK_seq)|(apply thenQ_n)|(apply OK_region)|(apply OKx_nilK)|(apply OK_block)|(apply blockQ_n)|(apply blockQ_s)|(apply thenQ_e)|(apply blockQ_e;exact rfl)|(apply thenQ_r)|(apply blockQ_r)|(apply OK_condT;exact rfl)|(apply OK_condF;exact rfl)|(apply OK_skip)|(apply OK_exit)|(apply OK_ret)|(apply OKx_move;(conv=>lhs;whnf)<;>exact rfl)|(apply OKx_assign;(conv=>lhs;whnf)<;>exact rfl)|(apply OKx_ldB;exact rfl;(first | exact at0|exact at1|exact at2|exact at3|exact at4|exact at5|exact at6|exact at7);exact rfl)|(apply OKx_ldR;(conv=>lhs;whnf)<;>exact rfl;(with_reducible assumption))|(apply OKx_ldI;exact rfl;(first | exact at0|exact at1|exact at2|exact at3|exact at4|exact at5|exact at6|exact at7);omega)|(apply OKx_len;exact rfl)|(apply OKx_lenR;(conv=>lhs;whnf)<;>exact rfl;(with_reducible assumption))|(apply OKx_lenR2;(conv=>lhs;whnf)<;>exact rfl;(with_reducible assumption))|(apply OKx_lenO;(conv=>lhs;whnf)<;>exact rfl;(first | exact at0|exact at1|exact at2|exact at3|exact at4|exact at5|exact at6|exact at7))|(apply OKx_lss;exact rfl;exact rfl;all_goals (intro _; try (exfalso;omega)))|(apply OKx_geq;exact rfl;exact rfl;all_goals (intro _; try (exfalso;omega)))|(apply OKx_neq;exact rfl;exact rfl;all_goals (intro _; try (exfalso;omega)))|(apply OKx_idxO;exact rfl;exact rfl;omega)|(apply OKx_idxR;(conv=>lhs;whnf)<;>exact rfl;(with_reducible assumption);exact rfl;omega;intro _ _)|(apply OKx_idxOz;exact rfl;exact rfl;omega;omega)|(apply OKx_idxRz;(conv=>lhs;whnf)<;>exact rfl;(with_reducible assumption);exact rfl;omega;omega;intro _ _)|(apply OKx_fldO;exact rfl;exact rfl)|(apply OKx_fldR;(conv=>lhs;whnf)<;>exact rfl;(with_reducible assumption); decide;intro _ _)|(apply OKx_inc;exact rfl;exact rfl;omega)|(apply OKx_addN;exact rfl;exact rfl;omega)|(apply OKx_add;exact rfl;exact rfl;omega;omega)|(apply OKx_pickT;exact rfl;(conv=>lhs;whnf)<;>exact rfl)|(apply OKx_pickF;exact rfl;(conv=>lhs;whnf)<;>exact rfl)|(apply OKx_guardT;exact rfl;exact rfl)|(apply OKx_guardF;exact rfl;exact rfl)|(apply OKx_guardU;exact rfl;exact rfl)|(apply OKx_boxA;exact rfl;intro _)|(apply OKx_ldBA;exact rfl;(first | exact at0|exact at1|exact at2|exact at3|exact at4|exact at5|exact at6|exact at7);exact rfl)|(apply OKx_ldRA;(conv=>lhs;whnf)<;>exact rfl;(with_reducible assumption)))
  · refine bodyQ_r1 (by ((conv=>lhs;whnf)<;>exact rfl)) ?_
    exact ⟨_, Ent.nil, by rw [hit (by omega) (by unfold badS; rw [decide_eq_true (p := st.getD k 0 < -1) (by omega)]; rfl)], rfl⟩
  · refine bodyQ_r1 (by ((conv=>lhs;whnf)<;>exact rfl)) ?_
    exact ⟨_, Ent.nil, by rw [hit (by omega) (by unfold badS; rw [decide_eq_true (p := 16 ≤ st.getD k 0) (by omega), Bool.or_true])], rfl⟩
  · refine ⟨by (repeat' (first | refine agree_upd rfl ?_ | exact agree_over | exact agree_refl _ _ | refine agree_over2 rfl ?_)), m - 1, _, by omega, Ent.refl _ _, ?_⟩
    refine ⟨k + 1, by omega, rfl, fun j hj => ?_, rfl⟩
    rcases Nat.lt_or_ge j k with h | h
    · exact hk j h
    · obtain rfl : j = k := by omega
      unfold badS
      rw [decide_eq_false (p := st.getD j 0 < -1) (by omega), decide_eq_false (p := 16 ≤ st.getD j 0) (by omega)]
      rfl
  · refine bodyQ_r1 (by ((conv=>lhs;whnf)<;>exact rfl)) ?_
    have hn : st.any badS = false := by
      rw [List.any_eq_false]
      intro x hx
      obtain ⟨j, hj, rfl⟩ := List.getElem_of_mem hx
      have := hk j (by omega)
      rw [getD_lt _ _ _ hj] at this
      rw [this]; simp
    exact ⟨_, Ent.nil, by rw [he, hn]; rfl, rfl⟩
end Go.Proofs.YtpknpbeiifjmgaaDoor
namespace Go.Proofs.YtpknpbeiifjmgaaDoor
open Go.RowKit
def CV (l : List (Int × Int)) (j : Nat) : Nat → Value
  | 0 => .int .i64 (l.getD j (0, 0)).1
  | _ => .int .i64 (l.getD j (0, 0)).2
def Chs (w : World) (v : Value) (l : List (Int × Int)) : Prop := Sl2 w v 2 l.length (CV l)
theorem Chs.below {w w' : World} {v : Value} {l : List (Int × Int)} (h : Chs w v l) (hb : Below w.heap.size w w') : Chs w' v l := Sl2.below h hb
end Go.Proofs.YtpknpbeiifjmgaaDoor
