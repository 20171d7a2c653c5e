/-
  Part 19 of the proof: Rg, It33, Is27. No statement of the seat is proved here.
-/
import Derived.Test.YthnlnffmmioapaaDoorMHUs2718
import Derived.Sort.OwnSorted
namespace Go.Proofs.YthnlnffmmioapaaDoor
open Go.RowKit
def resetD (F : Fm) : Fm
  | some i => F (some i)
  | none => undef
def putsF : Fm → List Nat → List Value → Fm
  | F, p :: ps, v :: vs => putsF (upd F p v) ps vs
  | F, _, _ => F
def pushD (F : Fm) (D : Nat) : Fm
  | some i => F (some i)
  | none => .tuple (#[.pointer (some ⟨D, 0, none⟩)] ++ match F none with
    | .tuple vs => vs
    | _ => #[])
theorem marks_push (F : Fm) (D : Nat) : marksV (pushD F D none) = { target := .collected D, args := #[] } :: marksV (F none) := by
  unfold pushD
  cases h : F none <;> simp [marksV]
theorem Fr.reset {n : Nat} {a : Act} {F : Fm} (h : Fr n a F) : Fr n { a with defers := [] } (resetD F) := ⟨rfl, h.size, h.at'⟩
theorem Fr.puts {n : Nat} : ∀ (ps : List Nat) (vs : List Value) {tmps : Array Value} {F : Fm}, Fr n { tmps := tmps, defers := [] } F → vs.length = ps.length →
    Fr n { tmps := (ps.zip vs).foldl (fun t x => t.setIfInBounds x.1 x.2) tmps, defers := [] } (putsF F ps vs)
  | [], [], _, _, h, _ => h
  | p :: ps, v :: vs, tmps, F, h, hl => by
    have h1 := h.put (some p) v
    exact Fr.puts ps vs h1 (by simpa using hl)
  | [], _ :: _, _, _, _, hl => by simp at hl
  | _ :: _, [], _, _, _, hl => by simp at hl
section
variable {P : Program} {n : Nat} {w0 : World} {Q : Exit → Fm → List Res → Prop} {F : Fm} {L : List Res}
def roundQ (w0 : World) (B : List Res) (Next : List Res → Prop) (Stop : Code → List Res → Prop) : Exit → Fm → List Res → Prop
  | .normal, _, L => ∃ X', Ent w0 L (X' ++ B) ∧ Next X'
  | .ret, _, L => ∃ X', Ent w0 L (X' ++ B) ∧ Stop .ret X'
  | .exit id, _, L => ∃ X', Ent w0 L (X' ++ B) ∧ Stop (.exit id) X'
  | _, _, _ => False
def assignQ (P : Program) (n : Nat) (w0 : World) (ro : Nat) (B B' : List Res) (body : Code) (Next : List Res → Prop) (Stop : Code → List Res → Prop) : Exit → Fm → List Res → Prop
  | .normal, F, L => ∃ Y, Ent w0 L (Y ++ B) ∧ OKr P n w0 ro (roundQ w0 B' Next Stop) body F (Y ++ B')
  | _, _, _ => False
theorem Hp.putTail {B : Nat} {w : World} {X : List Res} {l D : Nat} {p p' : Obj → Prop} {o : Obj} (h : Hp B w0 w (X ++ [.obj l p, .mark D])) (ho : p' o) : Hp B w0 (w.putObj l o) (X ++ [.obj l p', .mark D]) := by
  have hi : (X ++ [Res.obj l p, .mark D])[X.length]? = some (.obj l p) := by
    rw [List.getElem?_append_right (Nat.le_refl _), Nat.sub_self]; rfl
  have hok := h.ok _ (List.mem_of_getElem? hi)
  have hlt := (hok.lt (k := l) rfl).2
  have := h.turn hi (w' := w.putObj l o) (r' := .obj l p') (grownBy_putObj' w l o) ⟨hok.1, o, World.putObj_heap_same hlt, ho⟩ (fun k hk => .inl hk)
  rwa [List.set_append_right _ _ (Nat.le_refl _), Nat.sub_self] at this
theorem OK_rangeFunc {σ : Type} (Rs : σ → List Res) {g : Operand} {ps : List Nat} {assign body : Code} {gf : FuncId} {lb : List Value} (hg : rv n F g = .func (.func gf) #[] lb.toArray) (he : Enters' P gf)
    (Good : σ → List Value → Prop) (Next : σ → List Value → List Res → Prop) (Stop : σ → List Value → Code → List Res → Prop) (Done : List Res → Prop) (StopD : Code → List Res → Prop)
    (hps : ∀ x av, Good x av → av.length = ps.length)
    (hiter : ∀ (y : Nat) (Br : List Res) (Bd : Code → List Res), (∀ x av, Good x av → SatY P y av w0 (Rs x ++ Br) (fun u L' => (u = .bool true ∧ ∃ X', Next x av X' ∧ L' = X' ++ Br) ∨ (u = .bool false ∧ ∃ c X', Stop x av c X' ∧ L' = X' ++ Bd c))) →
      SatL P gf (.func (.yield y) #[] #[] :: lb) w0 (L ++ Br) (fun _ L' => (∃ X', Done X' ∧ L' = X' ++ Br) ∨ (∃ c X', StopD c X' ∧ L' = X' ++ Bd c)))
    (hbody : ∀ (ro : Nat) (B B' : List Res) x av, Good x av → OKr P n w0 ro (assignQ P n w0 ro B B' body (Next x av) (Stop x av)) assign (putsF (resetD F) ps av) (Rs x ++ B))
    (hdone : ∀ D X', Done X' → Q .normal (pushD F D) (.mark D :: X'))
    (hstop : ∀ D c X', StopD c X' → (c = .ret ∧ Q .ret (pushD F D) (.mark D :: X')) ∨ ∃ id, c = .exit id ∧ Q (.exit id) (pushD F D) (.mark D :: X')) :
    OK P n w0 Q (.rangeFunc g ps.toArray assign body) F L := by
  refine OK.mk' fun w a hf hp => (wpIn_wide (n := 0)).1 (wpIn_rangeFunc fun fn _ => ?_)
  obtain ⟨rec, hrec⟩ : ∃ rec : Loop, rec = { state := .ready, pending := none, fn, tmps := a.tmps, params := ps.toArray, assign, body, defers := w.heap.size } := ⟨_, rfl⟩
  have hst : rec.state = .ready := by rw [hrec]
  have hpe : rec.pending = none := by rw [hrec]
  have hself : { rec with state := .ready, pending := none } = rec := by rw [hrec]
  let pr : Obj → Prop := fun o => o = .loop rec
  let pb : Obj → Prop := fun o => o = .loop { rec with state := .busy }
  let pd : Code → Obj → Prop := fun c o => o = .loop { rec with state := .done, pending := some c }
  let Br : List Res := [.obj (w.heap.size + 1) pr, .mark w.heap.size]
  let Bb : List Res := [.obj (w.heap.size + 1) pb, .mark w.heap.size]
  let Bd : Code → List Res := fun c => [.obj (w.heap.size + 1) (pd c), .mark w.heap.size]
  obtain ⟨w1, hw1⟩ : ∃ w1, w1 = (w.alloc (.deferred (some []))).alloc (.loop rec) := ⟨_, rfl⟩
  have hp1 : Hp w0.heap.size w0 w1 (L ++ Br) := by
    have h1 : Hp w0.heap.size w0 (w.alloc (.deferred (some []))) (.mark w.heap.size :: L) :=
      hp.fresh (r := .mark w.heap.size) ⟨hp.base, heap_alloc_new w _⟩ ((Below.refl _ _).alloc (Nat.le_refl _) _) (fun k hk => by simp [Res.blk] at hk;omega)
    have h2 : Hp w0.heap.size w0 w1 (.obj (w.heap.size + 1) pr :: .mark w.heap.size :: L) := by
      rw [hw1]
      have hsz : (w.alloc (.deferred (some []))).heap.size = w.heap.size + 1 := by simp
      refine h1.fresh (r := .obj (w.heap.size + 1) pr) ⟨by have := hp.base;omega, .loop rec, ?_, rfl⟩ ((Below.refl _ _).alloc (Nat.le_refl _) _) (fun k hk => by simp [Res.blk] at hk;omega)
      have := heap_alloc_new (w.alloc (.deferred (some []))) (.loop rec)
      rwa [hsz] at this
    exact h2.perm (List.perm_append_comm (l₁ := L) (l₂ := Br))
  have hl_of : ∀ {X : List Res} {w2 : World} {p : Obj → Prop}, Hp w0.heap.size w0 w2 (X ++ [.obj (w.heap.size + 1) p, .mark w.heap.size]) → ∃ o, w2.heap[w.heap.size + 1]? = some o ∧ p o := fun h => (h.ok _ (List.mem_append_right _ List.mem_cons_self)).2
  have hy : ∀ x av, Good x av → SatY P (w.heap.size + 1) av w0 (Rs x ++ Br) (fun u L' => (u = .bool true ∧ ∃ X', Next x av X' ∧ L' = X' ++ Br) ∨ (u = .bool false ∧ ∃ c X', Stop x av c X' ∧ L' = X' ++ Bd c)) := by
    intro x av hgood w2 hp2
    obtain ⟨o, hl, rfl⟩ := hl_of hp2
    have hrun := run_yield (P := P) (args := av.toArray) hl (by rw [hrec]; simpa using hps x av hgood)
    refine ⟨_, _, _, _, hrun, roundIn_of_wpIn trivial ?_⟩
    have hfr : Fr n { tmps := (rec.params.zip av.toArray).foldl (fun tmps (t, a) => tmps.setIfInBounds t a) rec.tmps, defers := [] } (putsF (resetD F) ps av) := by
      rw [hrec]
      have := Fr.puts ps av hf.reset (hps x av hgood)
      simpa using this
    have ha := (hbody (w.heap.size + 1) Br Bb x av hgood).use w2 _ hfr hp2
    rw [hrec] at ha ⊢
    refine wpIn_mono ha ?_
    rintro e a3 w3 ⟨F3, L3, hf3, hp3, hq3⟩
    cases e with
    | normal =>
      obtain ⟨Y, he3, hok⟩ := hq3
      have hp3' := he3.use _ hp3
      obtain ⟨o, hl3, ho⟩ := hl_of hp3'
      have ho' : o = .loop rec := ho
      subst ho'
      refine ⟨_, run_beginRound hl3 hst, ?_⟩
      have hp4 : Hp w0.heap.size w0 (w3.putObj (w.heap.size + 1) (.loop { rec with state := .busy })) (Y ++ Bb) := hp3'.putTail rfl
      refine wpIn_mono (hok.use _ a3 hf3 hp4) ?_
      have fin : ∀ (jump : Option Code) (w5 : World) (X' : List Res), Hp w0.heap.size w0 w5 (X' ++ Bb) →
          (Instr.endRound (w.heap.size + 1) jump).run P w5 = .ok (.bool jump.isNone) (w5.putObj (w.heap.size + 1) (.loop { rec with state := if jump.isNone then .ready else .done, pending := jump })) := fun jump w5 X' h5 => by
        obtain ⟨o, hl5, ho⟩ := hl_of h5
        have ho' : o = .loop { rec with state := .busy } := ho
        subst ho'
        exact run_endRound (r := { rec with state := .busy }) jump hl5
      rintro e a5 w5 ⟨F5, L5, hf5, hp5, hq5⟩
      cases e with
      | normal =>
        obtain ⟨X', he5, hn⟩ := hq5
        have hp5' := he5.use _ hp5
        refine ⟨_, _, fin none w5 X' hp5', _, _, rfl, hp5'.putTail (p' := pr) ?_, .inl ⟨rfl, X', hn, rfl⟩⟩
        show Obj.loop _ = Obj.loop rec
        congr 1
      | ret =>
        obtain ⟨X', he5, hn⟩ := hq5
        have hp5' := he5.use _ hp5
        exact ⟨_, _, fin (some .ret) w5 X' hp5', _, _, rfl, hp5'.putTail (p' := pd .ret) rfl, .inr ⟨rfl, .ret, X', hn, rfl⟩⟩
      | exit id =>
        obtain ⟨X', he5, hn⟩ := hq5
        have hp5' := he5.use _ hp5
        exact ⟨_, _, fin (some (.exit id)) w5 X' hp5', _, _, rfl, hp5'.putTail (p' := pd (.exit id)) rfl, .inr ⟨rfl, .exit id, X', hn, rfl⟩⟩
      | goto t => exact hq5.elim
      | panic c => exact hq5.elim
      | outgrown => exact hq5.elim
    | ret => exact hq3.elim
    | exit id => exact hq3.elim
    | goto t => exact hq3.elim
    | panic c => exact hq3.elim
    | outgrown => exact hq3.elim
  have hsat := hiter (w.heap.size + 1) Br Bd hy
  have hfin : ∀ _ : World, Fr n { a with defers := [{ target := .collected w.heap.size, args := #[] }] ++ a.defers } (pushD F w.heap.size) := fun _ => ⟨by rw [marks_push, ← hf.defers]; rfl, hf.size, hf.at'⟩
  refine ⟨w.heap.size + 1, [{ target := .collected w.heap.size, args := #[] }], w1, { target := .fn (.func gf) lb.toArray, args := #[.func (.yield (w.heap.size + 1)) #[] #[]] }, w1, gf,
    #[.func (.yield (w.heap.size + 1)) #[] #[]] ++ lb.toArray, w1, ?_, ?_, fun _ _ => trivial, ?_, (fun h => by cases h), ?_⟩
  · rw [hw1, hrec]; exact run_enterLoop_outer _ _ _ _ _
  · simp only [resolve, hf.eval, hg]
    simp [go_sem]
    rfl
  · have := he.run (#[.func (.yield (w.heap.size + 1)) #[] #[]] ++ lb.toArray) w1
    simp [invoke, go_sem] at this ⊢
    exact this
  · have hargs : #[Value.func (.yield (w.heap.size + 1)) #[] #[]] ++ lb.toArray = (Value.func (.yield (w.heap.size + 1)) #[] #[] :: lb).toArray := by simp
    rw [hargs]
    refine callsIn_wide.2 ((hsat.calls w1 hp1).mono ?_)
    rintro e w9 ⟨v, L9, rfl, hp9, h9⟩
    have tail : ∀ (X' : List Res) (p : Obj → Prop) (st : LoopState) (pe : Option Code), Hp w0.heap.size w0 w9 (X' ++ [.obj (w.heap.size + 1) p, .mark w.heap.size]) → (∀ o, p o → o = .loop { rec with state := st, pending := pe }) → st ≠ .busy →
        ∃ w10, (Instr.endLoop (w.heap.size + 1)).run P w9 = .ok pe w10 ∧ Hp w0.heap.size w0 w10 (.mark w.heap.size :: X') := fun X' p st pe h hp' hb => by
      obtain ⟨o, hl9, ho⟩ := hl_of h
      rw [hp' o ho] at hl9
      refine ⟨_, run_endLoop hl9 hb, ?_⟩
      have h10 := h.putTail (o := .loop { rec with state := .exhausted, pending := pe }) (p' := fun _ => True) trivial
      exact (h10.perm (List.perm_append_comm (l₁ := [.obj (w.heap.size + 1) (fun _ => True), .mark w.heap.size]) (l₂ := X'))).drop1
    rcases h9 with ⟨X', hd, rfl⟩ | ⟨c, X', hs, rfl⟩
    · obtain ⟨w10, hrun, hp10⟩ := tail X' pr .ready none hp9 (fun o ho => by rw [show o = .loop rec from ho, hself]) (by decide)
      exact ⟨none, w10, hrun, pushD F w.heap.size, _, hfin w10, hp10, hdone _ X' hd⟩
    · obtain ⟨w10, hrun, hp10⟩ := tail X' (pd c) .done (some c) hp9 (fun o ho => ho) (by decide)
      refine ⟨some c, w10, hrun, ?_⟩
      rcases hstop w.heap.size c X' hs with ⟨rfl, hq⟩ | ⟨id, rfl, hq⟩
      · exact wpIn_ret ⟨pushD F w.heap.size, _, hfin w10, hp10, hq⟩
      · exact wpIn_exit ⟨pushD F w.heap.size, _, hfin w10, hp10, hq⟩
def bodyM (P : Program) (n : Nat) (w0 : World) (rs : List ResultVar) (R : Value → List Res → Prop) : Exit → Fm → List Res → Prop
  | .normal, F, L => ∃ (Ds : List Nat) (vs : List Value) (L1 L' : List Res), marksV (F none) = Ds.map (fun D => { target := .collected D, args := #[] }) ∧ Ent w0 L (Ds.map Res.mark ++ L1) ∧ allRes P n F L1 rs vs ∧ Ent w0 L1 L' ∧ R (packV vs) L'
  | .ret, F, L => ∃ (Ds : List Nat) (vs : List Value) (L1 L' : List Res), marksV (F none) = Ds.map (fun D => { target := .collected D, args := #[] }) ∧ Ent w0 L (Ds.map Res.mark ++ L1) ∧ allRes P n F L1 rs vs ∧ Ent w0 L1 L' ∧ R (packV vs) L'
  | _, _, _ => False
theorem take_mark {w : World} {D : Nat} {L : List Res} (h : Hp w0.heap.size w0 w (.mark D :: L)) : (Instr.takeDeferred D).run P w = .ok [] (w.putObj D (.deferred none)) ∧ Hp w0.heap.size w0 (w.putObj D (.deferred none)) L := by
  have hok : w0.heap.size ≤ D ∧ w.heap[D]? = some (.deferred (some [])) := h.ok _ List.mem_cons_self
  have hlt := (Array.getElem?_eq_some_iff.1 hok.2).1
  refine ⟨run_takeDeferred hok.2, ?_⟩
  have := h.turn (i := 0) rfl (w' := w.putObj D (.deferred none)) (r' := .obj D (fun _ => True)) (grownBy_putObj' w D _) ⟨hok.1, _, World.putObj_heap_same hlt, trivial⟩ (fun k hk => .inl hk)
  exact this.drop1
theorem SatL.ofM {f : FuncId} {fn : Func} {c : Code} {args : List Value} {R : Value → List Res → Prop} (N : Nat) (rs : List ResultVar) (hf : P.funcs[f]? = some fn) (hN : fn.ntmps = N) (hnm : (fn.name == "runtime.NumGoroutine") = false) (hb : fn.body = some c)
    (hres : fn.results = rs.toArray) (hlen : Nat.ble args.length N = true) (h : OK P N w0 (bodyM P N w0 rs R) c (argF args) L) : SatL P f args w0 L R := by
  refine ⟨⟨fn, c, hf, hnm, hb⟩, fun w hp => ?_⟩
  refine (callsIn_wide (n := 0)).1 (callsIn_of_wp_marks hf hb trivial ((wpIn_wide (n := 0)).2 ?_))
  subst hN
  have hlen' : args.length ≤ fn.ntmps := by rwa [Nat.ble_eq] at hlen
  have hfr : Fr fn.ntmps { tmps := args.toArray ++ Array.replicate (fn.ntmps - args.toArray.size) undef, defers := [] } (argF args) := by
    refine ⟨rfl, by simp;omega, fun t ht => ?_⟩
    simp only [Array.getD_eq_getD_getElem?, argF, List.getD_eq_getElem?_getD]
    by_cases h : t < args.length
    · rw [Array.getElem?_append_left (by simpa using h)]
      simp
    · rw [Array.getElem?_append_right (by simpa using Nat.le_of_not_lt h), List.getElem?_eq_none (by omega)]
      simp only [List.size_toArray, Array.getElem?_replicate]
      split <;> rfl
  have key : ∀ (a' : Act) (w' : World) (F' : Fm) (L' : List Res) (vs : List Value), Fr fn.ntmps a' F' → Hp w0.heap.size w0 w' L' → allRes P fn.ntmps F' L' rs vs → (results fn a'.tmps).run P w' = .ok (packV vs) w' := by
    intro a' w' F' L' vs h1 h2 h3
    unfold results
    rw [hres, List.mapM_toArray]
    simp only [Sem.run_bind, Sem.run_map]
    rw [mapM_run (n := fn.ntmps) (F := F') (L := L') ?_ rs vs h3]
    · rcases vs with _ | ⟨v, _ | ⟨v2, vs⟩⟩ <;> simp [packV, Result.andThen]
    · intro r v h
      cases r with
      | tmp t =>
        have he : a'.tmps.getD t undef = v := (congrFun h1.eval (.tmp t)).trans h
        simp only [Sem.run_pure, he]
      | cell t tt =>
        obtain ⟨g, i, e, cs, h2', h3', h4⟩ := h
        have he : a'.tmps.getD t undef = .pointer (some ⟨g, 0, none⟩) := (congrFun h1.eval (.tmp t)).trans h2'
        have h5 := h4 w' (h2.boxAt i h3').1
        simp only [Sem.run_bind, Sem.run_pure, Result.andThen, he, asAddr, h5]
  have fin : ∀ (a' : Act) (F' : Fm) (vs : List Value) (L1 L' : List Res), Fr fn.ntmps a' F' → allRes P fn.ntmps F' L1 rs vs → Ent w0 L1 L' → R (packV vs) L' → ∀ (Ds : List Nat) (w' : World), Hp w0.heap.size w0 w' (Ds.map Res.mark ++ L1) →
      LeavesInM Fence.wide 0 P fn a'.tmps (fun e w' => ∃ v L', e = .returned v ∧ Hp w0.heap.size w0 w' L' ∧ R v L') (Ds.map (fun D => { target := .collected D, args := #[] })) .returning w' := by
    intro a' F' vs L1 L' h1 h3 he hR Ds
    induction Ds with
    | nil =>
      intro w' hp'
      exact ⟨_, key _ _ _ _ _ h1 hp' h3, _, L', rfl, he.use _ hp', hR⟩
    | cons D Ds ih =>
      intro w' hp'
      obtain ⟨h4, h5⟩ := take_mark (P := P) hp'
      exact ⟨by simp, .inl ⟨D, _, rfl, h4, ih _ h5⟩⟩
  refine wp_mono (h.use w _ hfr hp) ?_
  rintro e a' w' ⟨F', L2, h1, h2, h3⟩
  unfold bodyM at h3
  cases e with
  | normal =>
    obtain ⟨Ds, vs, L1, L', hm, he, hall, he2, hR⟩ := h3
    show LeavesInM _ _ _ _ _ _ _ _ _
    rw [h1.defers, hm]
    exact fin a' F' vs L1 L' h1 hall he2 hR Ds w' (he.use _ h2)
  | ret =>
    obtain ⟨Ds, vs, L1, L', hm, he, hall, he2, hR⟩ := h3
    show LeavesInM _ _ _ _ _ _ _ _ _
    rw [h1.defers, hm]
    exact fin a' F' vs L1 L' h1 hall he2 hR Ds w' (he.use _ h2)
  | _ => exact h3.elim
end
attribute [irreducible] bodyM
end Go.Proofs.YthnlnffmmioapaaDoor
namespace Go.Proofs.YthnlnffmmioapaaDoor
open Go.RowKit
theorem swapE {w0 : World} (J Z B : List Res) : Ent w0 ((J ++ Z) ++ B) (Z ++ (J ++ B)) := by
  refine Ent.perm ?_
  rw [← List.append_assoc Z J B]
  exact List.perm_append_comm.append_right B
theorem swapF {w0 : World} (J Z B : List Res) : Ent w0 (Z ++ (J ++ B)) ((J ++ Z) ++ B) := by
  refine Ent.perm ?_
  rw [← List.append_assoc Z J B]
  exact List.perm_append_comm.append_right B
theorem SatY.mono2 {P : Program} {l : Nat} {args : List Value} {w0 : World} {L : List Res} {R R' : Value → List Res → Prop} (h : SatY P l args w0 L R) (hr : ∀ v L, R v L → R' v L) : SatY P l args w0 L R' :=
  fun w hp => let ⟨fn, t, as2, b, h1, h2⟩ := h w hp; ⟨fn, t, as2, b, h1, h2.mono fun e w' ⟨v, L', a, b, c⟩ => ⟨v, L', a, b, hr _ _ c⟩⟩
theorem take_pre {α : Type} (xs : List α) (k : Nat) : xs.take k <+: xs := List.take_prefix k xs
theorem bodyM_e1 {P : Program} {n : Nat} {w0 : World} {F : Fm} {L : List Res} {ex : Exit} {r1 : ResultVar} {v1 : Value} {R : Value → List Res → Prop} (D : Nat) (hx : ex = .normal ∨ ex = .ret) (h1 : resIs P n F L r1 v1) (h : ∃ L', Ent w0 L L' ∧ R v1 L') (hm : marksV (F none) = [{ target := .collected D, args := #[] }]) : bodyM P n w0 [r1] R ex F (.mark D :: L) := by
  unfold bodyM
  obtain ⟨L', e, hR⟩ := h
  rcases hx with rfl | rfl <;> exact ⟨[D], [v1], L, L', hm, Ent.refl _ _, ⟨h1, trivial⟩, e, hR⟩
theorem upN1 (F : Fm) (i : Nat) (v : Value) : updo F (some i) v none = F none := rfl
theorem upN2 (F : Fm) (v : Value) : updo F none v none = F none := rfl
theorem SatL.monoE {P : Program} {f : FuncId} {args : List Value} {w0 : World} {L : List Res} {R R' : Value → List Res → Prop} (h : SatL P f args w0 L R) (hr : ∀ v L, R v L → ∃ L', Ent w0 L L' ∧ R' v L') : SatL P f args w0 L R' :=
  ⟨h.enters, fun w hp => (h.calls w hp).mono fun _ w' ⟨v, L1, h1, h2, h3⟩ => let ⟨L2, e, h4⟩ := hr v L1 h3; ⟨v, L2, h1, e.use w' h2, h4⟩⟩
theorem Ent.rot2 {w0 : World} (a b : Res) (Z : List Res) : Ent w0 (a :: b :: Z) (Z ++ [a, b]) := Ent.perm (by
  have h : ([a, b] ++ Z).Perm (Z ++ [a, b]) := List.perm_append_comm
  exact h)
end Go.Proofs.YthnlnffmmioapaaDoor
namespace Go.Proofs.YthnlnffmmioapaaDoor
open Go.RowKit
theorem takeAtS (xs : List ByteArray) (k : Nat) (h : k < xs.length) : xs.take (k + 1) = xs.take k ++ [xs.getD k ByteArray.empty] := by
  rw [getD_lt _ _ _ h]
  exact List.take_succ_eq_append_getElem h
def AOk (a : Option Addr) (c n : Nat) : Prop := (n = 0 ∧ a = none ∧ c = 0) ∨ (0 < n ∧ ∃ g, a = some ⟨g, 0, none⟩)
def srtB (xs : List ByteArray) : List (List UInt8) := (xs.map fun x => x.data.toList).mergeSort fun x y => decide (x ≤ y)
theorem strs_snoc (xs : List ByteArray) (x : ByteArray) : strs xs ++ [Value.string x] = strs (xs ++ [x]) := by simp [strs]
def srtS (xs : List ByteArray) : List ByteArray := (srtB xs).map bOf
theorem srtS_len (xs : List ByteArray) : (srtS xs).length = xs.length := by unfold srtS srtB; rw [List.length_map, List.length_mergeSort, List.length_map]
theorem encStr_map (xs : List ByteArray) : (xs.map fun x => x.data.toList).map encStr = strs xs := by
  rw [List.map_map]; rfl
theorem encStr_bOf (l : List (List UInt8)) : l.map encStr = strs (l.map bOf) := by
  unfold strs
  rw [List.map_map]; rfl
set_option maxRecDepth 100000 in
set_option maxHeartbeats 4000000 in
theorem sort_str_sat (g cap n : Nat) (xs : List ByteArray) (w0 : World) (L : List Res) (i : Nat) (hxn : xs.length = n) (hi : L[i]? = some (.row 9 1 (.slice (some ⟨g, 0, none⟩) n cap) n (strs xs))) (hx : n ≤ 1000000) :
    SatL Tryd.prog 144 [.slice (some ⟨g, 0, none⟩) n cap] w0 L (fun u L' => u = .tuple #[] ∧ L' = L.set i (.row 9 1 (.slice (some ⟨g, 0, none⟩) n cap) n (strs (srtS xs)))) := by
  subst hxn
  refine ⟨⟨_, _, Tryd.func144, by kernel_rfl, rfl⟩, fun w hp => ?_⟩
  have ho : w.ownsRow w0.heap.size 9 1 (.slice (some ⟨g, 0, none⟩) xs.length cap) xs.length (strs xs) := hp.ok _ (List.mem_of_getElem? hi)
  have hlt := (ho.lt g rfl).2
  rcases ho.2 with ⟨h0, _⟩ | ⟨g', cap', cur, hv, hg, hb, hn, hcap, hsz, htake⟩
  · cases h0
  cases hv
  rw [Nat.mul_one] at htake
  have hln : (xs.map fun x => x.data.toList).length = xs.length := List.length_map _
  have hsl : (srtB xs).length = (xs.map fun x => x.data.toList).length := List.length_mergeSort _
  have hc := Tryd.slices_Sort_string g 0 cap (xs.map fun x => x.data.toList) w (Go.holds_of_block hb (by rw [encStr_map, hln]; exact htake)) hlt (by rw [hln];omega)
  rw [hln] at hc
  refine hc.mono ?_
  rintro e w' ⟨rfl, n, os, rfl⟩
  refine ⟨_, _, rfl, hp.turn hi (r' := .row 9 1 (.slice (some ⟨g, 0, none⟩) xs.length cap) xs.length (strs (srtS xs))) (Go.grownBy_sorted _) ?_ (fun k hk => .inl hk), rfl, rfl⟩
  have := Go.ownsRow_sorted (w := w) (n := n) (os := os) (ts := srtB xs) hsl hg hb (by rw [hln]; exact hn) hcap hsz
  rw [hln, encStr_bOf] at this
  exact this
set_option maxRecDepth 100000 in
set_option maxHeartbeats 4000000 in
theorem sortS_nil_sat (w : World) : SatV Tryd.prog 144 [.slice none 0 0] w (.tuple #[]) :=
  Sat.lib ⟨_, _, Tryd.func144, by kernel_rfl, rfl⟩ fun w1 _ => (Tryd.slices_Sort_string_none none 0 w1).mono fun e w' ⟨h1, h2⟩ => ⟨_, [], h1, h2 ▸ Hp.refl _, rfl, rfl⟩
def IterS (w0 : World) (f : FuncId) (caps : List Value) (Z : List Res) (xs : List ByteArray) : Prop :=
  ∀ (y : Nat) (Br : List Res) (JP : List ByteArray → List Res → Prop),
    (∀ pre x J, JP pre J → (pre ++ [x]) <+: xs → SatY Tryd.prog y [.string x] w0 ((J ++ Z) ++ Br) (fun u L => u = .bool true ∧ ∃ J', JP (pre ++ [x]) J' ∧ L = (J' ++ Z) ++ Br)) →
    ∀ J, JP [] J → SatL Tryd.prog f (.func (.yield y) #[] #[] :: caps) w0 (Z ++ (J ++ Br)) (fun _ L => ∃ J', JP xs J' ∧ L = Z ++ (J' ++ Br))
set_option maxRecDepth 100000 in
set_option maxHeartbeats 4000000 in
theorem valuesS_sat (a : Option Addr) (n c : Nat) (w : World) : Sat Tryd.prog 131 [.slice a n c] w (fun u L => ∃ g, u = .func (.func 145) #[] #[.pointer (some ⟨g, 0, none⟩)] ∧ L = [.box 25 g [.slice a n c]]) := by
  refine SatL.of 4 [2] Tryd.func131 (by kernel_rfl) (by kernel_rfl) rfl rfl rfl rfl ?_
  repeat' (first|(apply OK_seq)|(apply thenQ_n)|(apply OK_region)|(apply OKx_nilK)|(apply OK_block)|(apply blockQ_n)|(apply blockQ_s)|(apply thenQ_e)|(apply blockQ_e;exact rfl)|(apply thenQ_r)|(apply blockQ_r)|(apply OK_condT;exact rfl)|(apply OK_condF;exact rfl)|(apply OK_skip)|(apply OK_exit)|(apply OK_ret)|(apply OKx_assign;(conv=>lhs;whnf)<;>exact rfl)|(apply OKx_box1;(conv=>lhs;whnf)<;>exact rfl;exact rfl;intro _)|(apply OKx_func;exact rfl;exact rfl))
  rename_i g
  refine bodyQ_r1 (by ((conv=>lhs;whnf)<;>exact rfl)) ?_
  exact ⟨_, Ent.refl _ _, g, rfl, rfl⟩
set_option maxRecDepth 100000 in
set_option maxHeartbeats 2000000 in
theorem valuesS1 {w0 : World} {g : Nat} {sv : Value} {xs : List ByteArray} {X : List Res} (h : Strs w0 sv xs) : IterS w0 145 [.pointer (some ⟨g, 0, none⟩)] (.box 25 g [sv] :: X) xs := by
  intro y Br JP hy J hJ
  have hsl := h.sl
  have hb := hsl.bound
  generalize hR : (fun (_ : Value) (L : List Res) => ∃ J', JP xs J' ∧ L = (Res.box 25 g [sv] :: X) ++ (J' ++ Br)) = R
  simp only [List.cons_append, List.nil_append]
  refine SatL.of 16 [] Tryd.func145 (by kernel_rfl) (by kernel_rfl) rfl rfl rfl rfl ?_
  repeat' (first|(apply OK_seq)|(apply thenQ_n)|(apply OK_region)|(apply OKx_nilK)|(apply OK_block)|(apply blockQ_n)|(apply blockQ_s)|(apply thenQ_e)|(apply blockQ_e;exact rfl)|(apply thenQ_r)|(apply blockQ_r)|(apply OK_condT;exact rfl)|(apply OK_condF;exact rfl)|(apply OK_skip)|(apply OK_exit)|(apply OK_ret)|(apply OKx_move;(conv=>lhs;whnf)<;>exact rfl)|(apply OKx_assign;(conv=>lhs;whnf)<;>exact rfl)|(apply OKx_ldB;exact rfl;(first | exact at0|exact at1|exact at2|exact at3|exact at4|exact at5|exact at6|exact at7);exact rfl)|(apply OKx_ldR;(conv=>lhs;whnf)<;>exact rfl;(with_reducible assumption))|(apply OKx_len;exact rfl)|(apply OKx_lenR;(conv=>lhs;whnf)<;>exact rfl;(with_reducible assumption))|(apply OKx_lenR2;(conv=>lhs;whnf)<;>exact rfl;(with_reducible assumption))|(apply OKx_lenO;(conv=>lhs;whnf)<;>exact rfl;(first | exact at0|exact at1|exact at2|exact at3|exact at4|exact at5|exact at6|exact at7))|(apply OKx_lss;exact rfl;exact rfl;all_goals (intro _; try (exfalso;omega)))|(apply OKx_idxO;exact rfl;exact rfl;omega)|(apply OKx_idxR;(conv=>lhs;whnf)<;>exact rfl;(with_reducible assumption);exact rfl;omega;intro _ _)|(apply OKx_idxOz;exact rfl;exact rfl;omega;omega)|(apply OKx_idxRz;(conv=>lhs;whnf)<;>exact rfl;(with_reducible assumption);exact rfl;omega;omega;intro _ _)|(apply OKx_inc;exact rfl;exact rfl;omega)|(apply OKx_addN;exact rfl;exact rfl;omega)|(apply OKx_add;exact rfl;exact rfl;omega;omega)|(apply OKx_notT;exact rfl)|(apply OKx_notF;exact rfl))
  refine OK_loop1 7 [4, 7, 8, 9, 10, 11, 12, 13, 14, 15] (fun m v L => ∃ (k : Nat) (J' : List Res), k + m = xs.length ∧ v = .int .i64 (k : Int) ∧ JP (xs.take k) J' ∧ L = .box 25 g [sv] :: (X ++ (J' ++ Br))) xs.length _ (Ent.refl _ _) ⟨0, J, by omega, rfl, hJ, rfl⟩ ?_
  rintro m v L G ⟨k, J', hm, rfl, hJ', rfl⟩
  by_cases hk : k < xs.length
  · have htk := takeAtS xs k hk
    have hyy := hy _ (xs.getD k ByteArray.empty) J' hJ' (by rw [← htk]; exact take_pre xs (k + 1))
    repeat' (first|(refine OK_regionY (id := 3) 0 [_, _] [_] rfl rfl ?_)|(apply OK_seq)|(apply thenQ_n)|(apply OK_region)|(apply OKx_nilK)|(apply OK_block)|(apply blockQ_n)|(apply blockQ_s)|(apply thenQ_e)|(apply blockQ_e;exact rfl)|(apply thenQ_r)|(apply blockQ_r)|(apply OK_condT;exact rfl)|(apply OK_condF;exact rfl)|(apply OK_skip)|(apply OK_exit)|(apply OK_ret)|(apply OKx_move;(conv=>lhs;whnf)<;>exact rfl)|(apply OKx_assign;(conv=>lhs;whnf)<;>exact rfl)|(apply OKx_ldB;exact rfl;(first | exact at0|exact at1|exact at2|exact at3|exact at4|exact at5|exact at6|exact at7);exact rfl)|(apply OKx_ldR;(conv=>lhs;whnf)<;>exact rfl;(with_reducible assumption))|(apply OKx_len;exact rfl)|(apply OKx_lenR;(conv=>lhs;whnf)<;>exact rfl;(with_reducible assumption))|(apply OKx_lenR2;(conv=>lhs;whnf)<;>exact rfl;(with_reducible assumption))|(apply OKx_lenO;(conv=>lhs;whnf)<;>exact rfl;(first | exact at0|exact at1|exact at2|exact at3|exact at4|exact at5|exact at6|exact at7))|(apply OKx_lss;exact rfl;exact rfl;all_goals (intro _; try (exfalso;omega)))|(apply OKx_idxO;exact rfl;exact rfl;omega)|(apply OKx_idxR;(conv=>lhs;whnf)<;>exact rfl;(with_reducible assumption);exact rfl;omega;intro _ _)|(apply OKx_idxOz;exact rfl;exact rfl;omega;omega)|(apply OKx_idxRz;(conv=>lhs;whnf)<;>exact rfl;(with_reducible assumption);exact rfl;omega;omega;intro _ _)|(apply OKx_inc;exact rfl;exact rfl;omega)|(apply OKx_addN;exact rfl;exact rfl;omega)|(apply OKx_add;exact rfl;exact rfl;omega;omega)|(apply OKx_notT;exact rfl)|(apply OKx_notF;exact rfl))
    refine ⟨y, [_], _, (by ((conv=>lhs;whnf)<;>exact rfl)), (by ((conv=>lhs;whnf)<;>exact rfl)), fun w hp => hyy w ((swapF J' (Res.box 25 g [sv] :: X) Br).use w hp), ?_⟩
    rintro _ _ ⟨rfl, J2, hJ2, rfl⟩
    refine OKx_ent (swapE J2 (Res.box 25 g [sv] :: X) Br) ?_
    simp only [List.cons_append, List.nil_append]
    repeat' (first|(apply OK_seq)|(apply thenQ_n)|(apply OK_region)|(apply OKx_nilK)|(apply OK_block)|(apply blockQ_n)|(apply blockQ_s)|(apply thenQ_e)|(apply blockQ_e;exact rfl)|(apply thenQ_r)|(apply blockQ_r)|(apply OK_condT;exact rfl)|(apply OK_condF;exact rfl)|(apply OK_skip)|(apply OK_exit)|(apply OK_ret)|(apply OKx_move;(conv=>lhs;whnf)<;>exact rfl)|(apply OKx_assign;(conv=>lhs;whnf)<;>exact rfl)|(apply OKx_ldB;exact rfl;(first | exact at0|exact at1|exact at2|exact at3|exact at4|exact at5|exact at6|exact at7);exact rfl)|(apply OKx_ldR;(conv=>lhs;whnf)<;>exact rfl;(with_reducible assumption))|(apply OKx_len;exact rfl)|(apply OKx_lenR;(conv=>lhs;whnf)<;>exact rfl;(with_reducible assumption))|(apply OKx_lenR2;(conv=>lhs;whnf)<;>exact rfl;(with_reducible assumption))|(apply OKx_lenO;(conv=>lhs;whnf)<;>exact rfl;(first | exact at0|exact at1|exact at2|exact at3|exact at4|exact at5|exact at6|exact at7))|(apply OKx_lss;exact rfl;exact rfl;all_goals (intro _; try (exfalso;omega)))|(apply OKx_idxO;exact rfl;exact rfl;omega)|(apply OKx_idxR;(conv=>lhs;whnf)<;>exact rfl;(with_reducible assumption);exact rfl;omega;intro _ _)|(apply OKx_idxOz;exact rfl;exact rfl;omega;omega)|(apply OKx_idxRz;(conv=>lhs;whnf)<;>exact rfl;(with_reducible assumption);exact rfl;omega;omega;intro _ _)|(apply OKx_inc;exact rfl;exact rfl;omega)|(apply OKx_addN;exact rfl;exact rfl;omega)|(apply OKx_add;exact rfl;exact rfl;omega;omega)|(apply OKx_notT;exact rfl)|(apply OKx_notF;exact rfl))
    refine ⟨by (repeat' (first | refine agree_upd rfl ?_ | exact agree_over | exact agree_refl _ _ | refine agree_over2 rfl ?_)), m - 1, _, by omega, Ent.refl _ _, ?_⟩
    exact ⟨k + 1, J2, by omega, rfl, by rw [htk]; exact hJ2, rfl⟩
  · obtain rfl : k = xs.length := by omega
    repeat' (first|(apply OK_seq)|(apply thenQ_n)|(apply OK_region)|(apply OKx_nilK)|(apply OK_block)|(apply blockQ_n)|(apply blockQ_s)|(apply thenQ_e)|(apply blockQ_e;exact rfl)|(apply thenQ_r)|(apply blockQ_r)|(apply OK_condT;exact rfl)|(apply OK_condF;exact rfl)|(apply OK_skip)|(apply OK_exit)|(apply OK_ret)|(apply OKx_move;(conv=>lhs;whnf)<;>exact rfl)|(apply OKx_assign;(conv=>lhs;whnf)<;>exact rfl)|(apply OKx_ldB;exact rfl;(first | exact at0|exact at1|exact at2|exact at3|exact at4|exact at5|exact at6|exact at7);exact rfl)|(apply OKx_ldR;(conv=>lhs;whnf)<;>exact rfl;(with_reducible assumption))|(apply OKx_len;exact rfl)|(apply OKx_lenR;(conv=>lhs;whnf)<;>exact rfl;(with_reducible assumption))|(apply OKx_lenR2;(conv=>lhs;whnf)<;>exact rfl;(with_reducible assumption))|(apply OKx_lenO;(conv=>lhs;whnf)<;>exact rfl;(first | exact at0|exact at1|exact at2|exact at3|exact at4|exact at5|exact at6|exact at7))|(apply OKx_lss;exact rfl;exact rfl;all_goals (intro _; try (exfalso;omega)))|(apply OKx_idxO;exact rfl;exact rfl;omega)|(apply OKx_idxR;(conv=>lhs;whnf)<;>exact rfl;(with_reducible assumption);exact rfl;omega;intro _ _)|(apply OKx_idxOz;exact rfl;exact rfl;omega;omega)|(apply OKx_idxRz;(conv=>lhs;whnf)<;>exact rfl;(with_reducible assumption);exact rfl;omega;omega;intro _ _)|(apply OKx_inc;exact rfl;exact rfl;omega)|(apply OKx_addN;exact rfl;exact rfl;omega)|(apply OKx_add;exact rfl;exact rfl;omega;omega)|(apply OKx_notT;exact rfl)|(apply OKx_notF;exact rfl))
    first | refine bodyQ_r0 ?_ | refine bodyQ_n0 ?_
    subst hR
    exact ⟨_, Ent.refl _ _, J', by rw [List.take_length] at hJ'; exact hJ', rfl⟩
structure CgS where
  (x : ByteArray)
  (pre : List ByteArray)
  (J : List Res)
def ColS (Z : List Res) (xs : List ByteArray) (u : Value) (L : List Res) : Prop := ∃ a c, AOk a c xs.length ∧ u = .slice a xs.length c ∧ L = .row 9 1 (.slice a xs.length c) xs.length (strs xs) :: Z
set_option maxRecDepth 100000 in
set_option maxHeartbeats 4000000 in
theorem appSeqS_sat (f : FuncId) (caps : List Value) (Z : List Res) (xs : List ByteArray) (w0 : World) (he : Enters' Tryd.prog f) (hI : IterS w0 f caps Z xs) (hl : xs.length ≤ 1000000) :
    SatL Tryd.prog 152 [.slice none 0 0, .func (.func f) #[] caps.toArray] w0 Z (ColS Z xs) := by
  refine SatL.ofM 13 [.tmp 4] Tryd.func152 (by kernel_rfl) (by kernel_rfl) rfl rfl rfl ?_
  repeat' (first|(apply OK_seq)|(apply thenQ_n)|(apply OK_region)|(apply OKx_nilK)|(apply OK_block)|(apply blockQ_n)|(apply blockQ_s)|(apply thenQ_e)|(apply blockQ_e;exact rfl)|(apply thenQ_r)|(apply blockQ_r)|(apply OK_condT;exact rfl)|(apply OK_condF;exact rfl)|(apply OK_skip)|(apply OK_exit)|(apply OK_ret)|(apply OKx_move;(conv=>lhs;whnf)<;>exact rfl)|(apply OKx_assign;(conv=>lhs;whnf)<;>exact rfl)|(apply OKx_ldB;exact rfl;(first | exact at0|exact at1|exact at2|exact at3|exact at4|exact at5|exact at6|exact at7);exact rfl)|(apply OKx_ldR;(conv=>lhs;whnf)<;>exact rfl;(with_reducible assumption))|(apply OKx_stB;exact rfl;(conv=>lhs;whnf)<;>exact rfl;exact rfl;exact rfl;(first | exact at0|exact at1|exact at2|exact at3|exact at4|exact at5|exact at6|exact at7);exact rfl;exact rfl;exact rfl)|(apply OKx_slit1;(conv=>lhs;whnf)<;>exact rfl;exact rfl;intro _)|(apply OKx_box1;(conv=>lhs;whnf)<;>exact rfl;exact rfl;intro _))
  rename_i g2
  refine OK_ent (L' := Z ++ [.row 9 1 (.slice none 0 0) 0 (strs []), .box 25 g2 [.slice none 0 0]]) ((Ent.mk fun w1 hp => hp.nil 9 1).trans (Ent.rot2 _ _ Z)) ?_
  obtain ⟨JP, hJP⟩ : ∃ JP : List ByteArray → List Res → Prop, ∀ pre J, JP pre J ↔ (pre <+: xs ∧ ∃ a c, AOk a c pre.length ∧ J = [.row 9 1 (.slice a pre.length c) pre.length (strs pre), .box 25 g2 [.slice a pre.length c]]) := ⟨_, fun _ _ => Iff.rfl⟩
  refine OK_rangeFunc (σ := CgS) (fun x => x.J ++ Z) (ps := [7]) (gf := f) (lb := caps) (by ((conv=>lhs;whnf)<;>exact rfl)) he
    (fun x av => av = [.string x.x] ∧ JP x.pre x.J ∧ (x.pre ++ [x.x]) <+: xs)
    (fun x _ X' => ∃ J', JP (x.pre ++ [x.x]) J' ∧ X' = J' ++ Z)
    (fun _ _ _ _ => False) (fun X' => ∃ J', JP xs J' ∧ X' = J' ++ Z) (fun _ _ => False) ?_ ?_ ?_ ?_ ?_
  · rintro x av ⟨rfl, _⟩
    rfl
  · intro y Br Bd hYy
    rw [List.append_assoc]
    refine (hI y Br JP ?_ _ ((hJP _ _).2 ⟨List.nil_prefix, none, 0, .inl ⟨rfl, rfl, rfl⟩, rfl⟩)).monoE ?_
    · intro pre x J hJ hp
      refine (hYy ⟨x, pre, J⟩ [.string x] ⟨rfl, hJ, hp⟩).mono2 ?_
      rintro u L' (⟨rfl, X', ⟨J', hJ', rfl⟩, rfl⟩ | ⟨_, _, _, hF, _⟩)
      · exact ⟨rfl, J', hJ', rfl⟩
      · exact hF.elim
    · rintro u L' ⟨J', hJ', rfl⟩
      exact ⟨_, swapF J' Z Br, .inl ⟨J' ++ Z, ⟨J', hJ', rfl⟩, rfl⟩⟩
  · rintro ro B B' ⟨x, pre, J⟩ av ⟨rfl, hJ, hpre⟩
    dsimp only at *
    obtain ⟨hpr, a, c, ha, rfl⟩ := (hJP _ _).1 hJ
    have hpl : pre.length < xs.length := by
      have := hpre.length_le
      simp at this
      omega
    simp only [List.cons_append, List.nil_append]
    repeat' (first|(apply OKr_seq)|(apply thenQ_n)|(apply OKr_region;exact rfl)|(apply OKx_nilK)|(apply OKr_block)|(apply blockQ_n)|(apply blockQ_s)|(apply thenQ_e)|(apply blockQ_e;exact rfl)|(apply thenQ_r)|(apply blockQ_r)|(apply OKr_condT;exact rfl)|(apply OKr_condF;exact rfl)|(apply OKr_skip)|(apply OKr_exit)|(apply OKr_ret)|(apply OKx_move;(conv=>lhs;whnf)<;>exact rfl)|(apply OKx_assign;(conv=>lhs;whnf)<;>exact rfl)|(apply OKx_ldB;exact rfl;(first | exact at0|exact at1|exact at2|exact at3|exact at4|exact at5|exact at6|exact at7);exact rfl)|(apply OKx_ldR;(conv=>lhs;whnf)<;>exact rfl;(with_reducible assumption))|(apply OKx_stB;exact rfl;(conv=>lhs;whnf)<;>exact rfl;exact rfl;exact rfl;(first | exact at0|exact at1|exact at2|exact at3|exact at4|exact at5|exact at6|exact at7);exact rfl;exact rfl;exact rfl)|(apply OKx_slit1;(conv=>lhs;whnf)<;>exact rfl;exact rfl;intro _)|(apply OKx_box1;(conv=>lhs;whnf)<;>exact rfl;exact rfl;intro _))
    refine ⟨.row 9 1 (.slice a pre.length c) pre.length (strs pre) :: .box 25 g2 [.slice a pre.length c] :: Z, Ent.refl _ _, ?_⟩
    simp only [List.cons_append, List.nil_append]
    repeat' (first|(apply OKr_seq)|(apply thenQ_n)|(apply OKr_region;exact rfl)|(apply OKx_gb; refine OKx_append1 (y := .string x) 1 0 rfl rfl rfl rfl rfl (by omega) (by omega) ?_; intro gA cA; rw [strs_snoc])|(apply OKx_nilK)|(apply OKr_block)|(apply blockQ_n)|(apply blockQ_s)|(apply thenQ_e)|(apply blockQ_e;exact rfl)|(apply thenQ_r)|(apply blockQ_r)|(apply OKr_condT;exact rfl)|(apply OKr_condF;exact rfl)|(apply OKr_skip)|(apply OKr_exit)|(apply OKr_ret)|(apply OKx_move;(conv=>lhs;whnf)<;>exact rfl)|(apply OKx_assign;(conv=>lhs;whnf)<;>exact rfl)|(apply OKx_ldB;exact rfl;(first | exact at0|exact at1|exact at2|exact at3|exact at4|exact at5|exact at6|exact at7);exact rfl)|(apply OKx_ldR;(conv=>lhs;whnf)<;>exact rfl;(with_reducible assumption))|(apply OKx_stB;exact rfl;(conv=>lhs;whnf)<;>exact rfl;exact rfl;exact rfl;(first | exact at0|exact at1|exact at2|exact at3|exact at4|exact at5|exact at6|exact at7);exact rfl;exact rfl;exact rfl)|(apply OKx_slit1;(conv=>lhs;whnf)<;>exact rfl;exact rfl;intro _)|(apply OKx_box1;(conv=>lhs;whnf)<;>exact rfl;exact rfl;intro _))
    refine ⟨.row 9 1 (.slice (some ⟨gA, 0, none⟩) (pre.length + 1) cA) (pre.length + 1) (strs (pre ++ [x])) :: .box 25 g2 [.slice (some ⟨gA, 0, none⟩) (pre.length + 1) cA] :: Z, Ent.sub (List.sublist_cons_self _ _), [_, _], (hJP _ _).2 ⟨hpre, some ⟨gA, 0, none⟩, cA, .inr ⟨by simp, gA, rfl⟩, ?_⟩, rfl⟩
    rw [List.length_append]
    rfl
  · rintro D X' ⟨J', hJ', rfl⟩
    obtain ⟨_, a, c, ha, rfl⟩ := (hJP _ _).1 hJ'
    simp only [List.cons_append, List.nil_append]
    repeat' (first|(apply OK_seq)|(apply thenQ_n)|(apply OK_region)|(apply OKx_nilK)|(apply OK_block)|(apply blockQ_n)|(apply blockQ_s)|(apply thenQ_e)|(apply blockQ_e;exact rfl)|(apply thenQ_r)|(apply blockQ_r)|(apply OK_condT;exact rfl)|(apply OK_condF;exact rfl)|(apply OK_skip)|(apply OK_exit)|(apply OK_ret)|(apply OKx_move;(conv=>lhs;whnf)<;>exact rfl)|(apply OKx_assign;(conv=>lhs;whnf)<;>exact rfl)|(apply OKx_ldB;exact rfl;(first | exact at0|exact at1|exact at2|exact at3|exact at4|exact at5|exact at6|exact at7);exact rfl)|(apply OKx_ldR;(conv=>lhs;whnf)<;>exact rfl;(with_reducible assumption))|(apply OKx_stB;exact rfl;(conv=>lhs;whnf)<;>exact rfl;exact rfl;exact rfl;(first | exact at0|exact at1|exact at2|exact at3|exact at4|exact at5|exact at6|exact at7);exact rfl;exact rfl;exact rfl)|(apply OKx_slit1;(conv=>lhs;whnf)<;>exact rfl;exact rfl;intro _)|(apply OKx_box1;(conv=>lhs;whnf)<;>exact rfl;exact rfl;intro _))
    exact bodyM_e1 D (by first | exact .inl rfl | exact .inr rfl) (resIs_tmp (by ((conv=>lhs;whnf)<;>exact rfl))) ⟨_, (Ent.sub (by exact (List.Sublist.refl (_ :: Z)).trans (List.Sublist.cons_cons _ (List.sublist_cons_self _ _)))), a, c, ha, rfl, rfl⟩ (by simp only [upN1, upN2, marks_push]; rfl)
  · rintro D c X' h
    exact h.elim
set_option maxRecDepth 100000 in
set_option maxHeartbeats 4000000 in
theorem collectS_sat (f : FuncId) (caps : List Value) (Z : List Res) (xs : List ByteArray) (w0 : World) (he : Enters' Tryd.prog f) (hI : IterS w0 f caps Z xs) (hl : xs.length ≤ 1000000) :
    SatL Tryd.prog 143 [.func (.func f) #[] caps.toArray] w0 Z (ColS Z xs) := by
  have hA := appSeqS_sat f caps Z xs w0 he hI hl
  refine SatL.of 5 [2] Tryd.func143 (by kernel_rfl) (by kernel_rfl) rfl rfl rfl rfl ?_
  repeat' (first|(apply OK_seq)|(apply thenQ_n)|(apply OK_region)|(apply OKx_gc 152;exact rfl; refine OKx_callL (f := 152) rfl rfl hA ?_; rintro _ _ ⟨a, c, ha, rfl, rfl⟩)|(apply OKx_nilK)|(apply OK_block)|(apply blockQ_n)|(apply blockQ_s)|(apply thenQ_e)|(apply blockQ_e;exact rfl)|(apply thenQ_r)|(apply blockQ_r)|(apply OK_condT;exact rfl)|(apply OK_condF;exact rfl)|(apply OK_skip)|(apply OK_exit)|(apply OK_ret)|(apply OKx_move;(conv=>lhs;whnf)<;>exact rfl)|(apply OKx_assign;(conv=>lhs;whnf)<;>exact rfl))
  refine bodyQ_r1 (by ((conv=>lhs;whnf)<;>exact rfl)) ?_
  exact ⟨_, Ent.refl _ _, a, c, ha, rfl, rfl⟩
def SrdS (xs : List ByteArray) (Z : List Res) (u : Value) (L : List Res) : Prop := ∃ a c, AOk a c xs.length ∧ u = .slice a xs.length c ∧ L = .row 9 1 (.slice a xs.length c) xs.length (strs (srtS xs)) :: Z
set_option maxRecDepth 100000 in
set_option maxHeartbeats 4000000 in
theorem sortedS_it_sat (f : FuncId) (caps : List Value) (Z : List Res) (xs : List ByteArray) (w0 : World) (he : Enters' Tryd.prog f) (hI : IterS w0 f caps Z xs) (hl : xs.length ≤ 1000000) :
    SatL Tryd.prog 130 [.func (.func f) #[] caps.toArray] w0 Z (SrdS xs Z) := by
  have hA := collectS_sat f caps Z xs w0 he hI hl
  by_cases h0 : xs.length = 0
  · have hxs := List.eq_nil_of_length_eq_zero h0
    subst hxs
    have hA2 := hA.mono (R' := fun u L => u = .slice none 0 0 ∧ L = .row 9 1 (.slice none 0 0) 0 (strs []) :: Z) (by
      rintro u L ⟨a, c, (⟨_, rfl, rfl⟩ | ⟨h9, _⟩), rfl, rfl⟩
      · exact ⟨rfl, rfl⟩
      · exact absurd h9 (by simp))
    refine SatL.of 9 [2] Tryd.func130 (by kernel_rfl) (by kernel_rfl) rfl rfl rfl rfl ?_
    repeat' (first|(apply OK_seq)|(apply thenQ_n)|(apply OK_region)|(apply OKx_gc 143;exact rfl; refine OKx_callL (f := 143) rfl rfl hA2 ?_; rintro _ _ ⟨rfl, rfl⟩)|(apply OKx_gc 144;exact rfl; refine OKx_callV (f := 144) rfl rfl rfl (fun w1 hp => sortS_nil_sat w1) ?_)|(apply OKx_nilK)|(apply OK_block)|(apply blockQ_n)|(apply blockQ_s)|(apply thenQ_e)|(apply blockQ_e;exact rfl)|(apply thenQ_r)|(apply blockQ_r)|(apply OK_condT;exact rfl)|(apply OK_condF;exact rfl)|(apply OK_skip)|(apply OK_exit)|(apply OK_ret)|(apply OKx_move;(conv=>lhs;whnf)<;>exact rfl)|(apply OKx_assign;(conv=>lhs;whnf)<;>exact rfl))
    refine bodyQ_r1 (by ((conv=>lhs;whnf)<;>exact rfl)) ?_
    exact ⟨_, Ent.refl _ _, none, 0, .inl ⟨rfl, rfl, rfl⟩, rfl, by rw [show srtS [] = [] by simp [srtS, srtB]]; rfl⟩
  · have hA2 := hA.mono (R' := fun u L => ∃ ga c, u = .slice (some ⟨ga, 0, none⟩) xs.length c ∧ L = .row 9 1 (.slice (some ⟨ga, 0, none⟩) xs.length c) xs.length (strs xs) :: Z) (by
      rintro u L ⟨a, c, (⟨h1, rfl, rfl⟩ | ⟨_, g, rfl⟩), rfl, rfl⟩
      · exact absurd h1 h0
      · exact ⟨g, c, rfl, rfl⟩)
    refine SatL.of 9 [2] Tryd.func130 (by kernel_rfl) (by kernel_rfl) rfl rfl rfl rfl ?_
    repeat' (first|(apply OK_seq)|(apply thenQ_n)|(apply OK_region)|(apply OKx_gc 143;exact rfl; refine OKx_callL (f := 143) rfl rfl hA2 ?_; rintro _ _ ⟨ga, c, rfl, rfl⟩)|(apply OKx_gc 144;exact rfl; refine OKx_callL (f := 144) rfl rfl (sort_str_sat ga c xs.length xs _ _ 0 rfl rfl hl) ?_; rintro _ _ ⟨rfl, rfl⟩; rw [List.set_cons_zero])|(apply OKx_nilK)|(apply OK_block)|(apply blockQ_n)|(apply blockQ_s)|(apply thenQ_e)|(apply blockQ_e;exact rfl)|(apply thenQ_r)|(apply blockQ_r)|(apply OK_condT;exact rfl)|(apply OK_condF;exact rfl)|(apply OK_skip)|(apply OK_exit)|(apply OK_ret)|(apply OKx_move;(conv=>lhs;whnf)<;>exact rfl)|(apply OKx_assign;(conv=>lhs;whnf)<;>exact rfl))
    refine bodyQ_r1 (by ((conv=>lhs;whnf)<;>exact rfl)) ?_
    exact ⟨_, Ent.refl _ _, some ⟨ga, 0, none⟩, c, .inr ⟨by omega, ga, rfl⟩, rfl, rfl⟩
theorem srtS_mem (zs : List ByteArray) : (srtS zs).Perm zs := by
  have hp : (srtB zs).Perm (zs.map fun x => x.data.toList) := List.mergeSort_perm _ _
  have := hp.map bOf
  rw [List.map_map] at this
  have e : (bOf ∘ fun x : ByteArray => x.data.toList) = id := by funext x; exact bOf_data x
  rw [e, List.map_id] at this
  exact this
theorem srtS_perm (xs ys : List ByteArray) : srtS xs = srtS ys ↔ xs.Perm ys := by
  have hp : ∀ zs : List ByteArray, (srtB zs).Perm (zs.map fun x => x.data.toList) := fun zs => List.mergeSort_perm _ _
  have hm : ∀ zs : List ByteArray, (srtS zs).Perm zs := fun zs => by
    have := (hp zs).map bOf
    rw [List.map_map] at this
    have e : (bOf ∘ fun x : ByteArray => x.data.toList) = id := by funext x; exact bOf_data x
    rw [e, List.map_id] at this
    exact this
  constructor
  · intro h
    exact (hm xs).symm.trans (h ▸ hm ys)
  · intro h
    unfold srtS
    congr 1
    have h2 : (srtB xs).Perm (srtB ys) := (hp xs).trans ((h.map _).trans (hp ys).symm)
    have ho : ∀ zs : List ByteArray, (srtB zs).Pairwise (fun x y => x ≤ y) := fun zs => by
      have := List.pairwise_mergeSort (le := fun x y : List UInt8 => decide (x ≤ y)) (fun a b c h1 h2 => by simp only [decide_eq_true_eq] at *; exact List.le_trans h1 h2) (fun a b => by simp only [Bool.or_eq_true, decide_eq_true_eq]; exact List.le_total a b) (zs.map fun x => x.data.toList)
      unfold srtB
      exact this.imp fun h => by simpa using h
    exact h2.eq_of_pairwise (fun a b _ _ h1 h2 => List.le_antisymm h1 h2) (ho xs) (ho ys)
end Go.Proofs.YthnlnffmmioapaaDoor
