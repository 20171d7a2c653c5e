/-
  Part 4 of the proof: Rg, As38, Any, At38, Be38, Sc38, Bt38, Pd38, Pl39, Gu. No statement of the seat is proved here.
-/
import Derived.Test.YtmclgfipdgmomaaMHUndecided3
namespace Go.Proofs.Ytmclgfipdgmomaa
open Go.RowKit
def resetD (F : Fm) : Fm
  | some i => F (some i)
  | none => undef
def putsF : Fm → List Nat → List Value → Fm
  | F, p :: ps, v :: vs => putsF (upd F p v) ps vs
  | F, _, _ => F
def pushD (F : Fm) (D : Nat) : Fm
  | some i => F (some i)
  | none => .tuple (#[.pointer (some ⟨D, 0, none⟩)] ++ match F none with
    | .tuple vs => vs
    | _ => #[])
theorem marks_push (F : Fm) (D : Nat) : marksV (pushD F D none) = { target := .collected D, args := #[] } :: marksV (F none) := by
  unfold pushD
  cases h : F none <;> simp [marksV]
theorem Fr.reset {n : Nat} {a : Act} {F : Fm} (h : Fr n a F) : Fr n { a with defers := [] } (resetD F) := ⟨rfl, h.size, h.at'⟩
theorem Fr.puts {n : Nat} : ∀ (ps : List Nat) (vs : List Value) {tmps : Array Value} {F : Fm}, Fr n { tmps := tmps, defers := [] } F → vs.length = ps.length →
    Fr n { tmps := (ps.zip vs).foldl (fun t x => t.setIfInBounds x.1 x.2) tmps, defers := [] } (putsF F ps vs)
  | [], [], _, _, h, _ => h
  | p :: ps, v :: vs, tmps, F, h, hl => by
    have h1 := h.put (some p) v
    exact Fr.puts ps vs h1 (by simpa using hl)
  | [], _ :: _, _, _, _, hl => by simp at hl
  | _ :: _, [], _, _, _, hl => by simp at hl
section
variable {P : Program} {n : Nat} {w0 : World} {Q : Exit → Fm → List Res → Prop} {F : Fm} {L : List Res}
def roundQ (w0 : World) (B : List Res) (Next : List Res → Prop) (Stop : Code → List Res → Prop) : Exit → Fm → List Res → Prop
  | .normal, _, L => ∃ X', Ent w0 L (X' ++ B) ∧ Next X'
  | .ret, _, L => ∃ X', Ent w0 L (X' ++ B) ∧ Stop .ret X'
  | .exit id, _, L => ∃ X', Ent w0 L (X' ++ B) ∧ Stop (.exit id) X'
  | _, _, _ => False
def assignQ (P : Program) (n : Nat) (w0 : World) (ro : Nat) (B B' : List Res) (body : Code) (Next : List Res → Prop) (Stop : Code → List Res → Prop) : Exit → Fm → List Res → Prop
  | .normal, F, L => ∃ Y, Ent w0 L (Y ++ B) ∧ OKr P n w0 ro (roundQ w0 B' Next Stop) body F (Y ++ B')
  | _, _, _ => False
theorem Hp.putTail {B : Nat} {w : World} {X : List Res} {l D : Nat} {p p' : Obj → Prop} {o : Obj} (h : Hp B w0 w (X ++ [.obj l p, .mark D])) (ho : p' o) : Hp B w0 (w.putObj l o) (X ++ [.obj l p', .mark D]) := by
  have hi : (X ++ [Res.obj l p, .mark D])[X.length]? = some (.obj l p) := by
    rw [List.getElem?_append_right (Nat.le_refl _), Nat.sub_self]; rfl
  have hok := h.ok _ (List.mem_of_getElem? hi)
  have hlt := (hok.lt (k := l) rfl).2
  have := h.turn hi (w' := w.putObj l o) (r' := .obj l p') (grownBy_putObj' w l o) ⟨hok.1, o, World.putObj_heap_same hlt, ho⟩ (fun k hk => .inl hk)
  rwa [List.set_append_right _ _ (Nat.le_refl _), Nat.sub_self] at this
theorem OK_rangeFunc {σ : Type} (Rs : σ → List Res) {g : Operand} {ps : List Nat} {assign body : Code} {gf : FuncId} {lb : List Value} (hg : rv n F g = .func (.func gf) #[] lb.toArray) (he : Enters' P gf)
    (Good : σ → List Value → Prop) (Next : σ → List Value → List Res → Prop) (Stop : σ → List Value → Code → List Res → Prop) (Done : List Res → Prop) (StopD : Code → List Res → Prop)
    (hps : ∀ x av, Good x av → av.length = ps.length)
    (hiter : ∀ (y : Nat) (Br : List Res) (Bd : Code → List Res), (∀ x av, Good x av → SatY P y av w0 (Rs x ++ Br) (fun u L' => (u = .bool true ∧ ∃ X', Next x av X' ∧ L' = X' ++ Br) ∨ (u = .bool false ∧ ∃ c X', Stop x av c X' ∧ L' = X' ++ Bd c))) →
      SatL P gf (.func (.yield y) #[] #[] :: lb) w0 (L ++ Br) (fun _ L' => (∃ X', Done X' ∧ L' = X' ++ Br) ∨ (∃ c X', StopD c X' ∧ L' = X' ++ Bd c)))
    (hbody : ∀ (ro : Nat) (B B' : List Res) x av, Good x av → OKr P n w0 ro (assignQ P n w0 ro B B' body (Next x av) (Stop x av)) assign (putsF (resetD F) ps av) (Rs x ++ B))
    (hdone : ∀ D X', Done X' → Q .normal (pushD F D) (.mark D :: X'))
    (hstop : ∀ D c X', StopD c X' → (c = .ret ∧ Q .ret (pushD F D) (.mark D :: X')) ∨ ∃ id, c = .exit id ∧ Q (.exit id) (pushD F D) (.mark D :: X')) :
    OK P n w0 Q (.rangeFunc g ps.toArray assign body) F L := by
  refine OK.mk' fun w a hf hp => (wpIn_wide (n := 0)).1 (wpIn_rangeFunc fun fn _ => ?_)
  obtain ⟨rec, hrec⟩ : ∃ rec : Loop, rec = { state := .ready, pending := none, fn, tmps := a.tmps, params := ps.toArray, assign, body, defers := w.heap.size } := ⟨_, rfl⟩
  have hst : rec.state = .ready := by rw [hrec]
  have hpe : rec.pending = none := by rw [hrec]
  have hself : { rec with state := .ready, pending := none } = rec := by rw [hrec]
  let pr : Obj → Prop := fun o => o = .loop rec
  let pb : Obj → Prop := fun o => o = .loop { rec with state := .busy }
  let pd : Code → Obj → Prop := fun c o => o = .loop { rec with state := .done, pending := some c }
  let Br : List Res := [.obj (w.heap.size + 1) pr, .mark w.heap.size]
  let Bb : List Res := [.obj (w.heap.size + 1) pb, .mark w.heap.size]
  let Bd : Code → List Res := fun c => [.obj (w.heap.size + 1) (pd c), .mark w.heap.size]
  obtain ⟨w1, hw1⟩ : ∃ w1, w1 = (w.alloc (.deferred (some []))).alloc (.loop rec) := ⟨_, rfl⟩
  have hp1 : Hp w0.heap.size w0 w1 (L ++ Br) := by
    have h1 : Hp w0.heap.size w0 (w.alloc (.deferred (some []))) (.mark w.heap.size :: L) :=
      hp.fresh (r := .mark w.heap.size) ⟨hp.base, heap_alloc_new w _⟩ ((Below.refl _ _).alloc (Nat.le_refl _) _) (fun k hk => by simp [Res.blk] at hk; omega)
    have h2 : Hp w0.heap.size w0 w1 (.obj (w.heap.size + 1) pr :: .mark w.heap.size :: L) := by
      rw [hw1]
      have hsz : (w.alloc (.deferred (some []))).heap.size = w.heap.size + 1 := by simp
      refine h1.fresh (r := .obj (w.heap.size + 1) pr) ⟨by have := hp.base; omega, .loop rec, ?_, rfl⟩ ((Below.refl _ _).alloc (Nat.le_refl _) _) (fun k hk => by simp [Res.blk] at hk; omega)
      have := heap_alloc_new (w.alloc (.deferred (some []))) (.loop rec)
      rwa [hsz] at this
    exact h2.perm (List.perm_append_comm (l₁ := L) (l₂ := Br))
  have hl_of : ∀ {X : List Res} {w2 : World} {p : Obj → Prop}, Hp w0.heap.size w0 w2 (X ++ [.obj (w.heap.size + 1) p, .mark w.heap.size]) → ∃ o, w2.heap[w.heap.size + 1]? = some o ∧ p o := fun h => (h.ok _ (List.mem_append_right _ List.mem_cons_self)).2
  have hy : ∀ x av, Good x av → SatY P (w.heap.size + 1) av w0 (Rs x ++ Br) (fun u L' => (u = .bool true ∧ ∃ X', Next x av X' ∧ L' = X' ++ Br) ∨ (u = .bool false ∧ ∃ c X', Stop x av c X' ∧ L' = X' ++ Bd c)) := by
    intro x av hgood w2 hp2
    obtain ⟨o, hl, rfl⟩ := hl_of hp2
    have hrun := run_yield (P := P) (args := av.toArray) hl (by rw [hrec]; simpa using hps x av hgood)
    refine ⟨_, _, _, _, hrun, roundIn_of_wpIn trivial ?_⟩
    have hfr : Fr n { tmps := (rec.params.zip av.toArray).foldl (fun tmps (t, a) => tmps.setIfInBounds t a) rec.tmps, defers := [] } (putsF (resetD F) ps av) := by
      rw [hrec]
      have := Fr.puts ps av hf.reset (hps x av hgood)
      simpa using this
    have ha := (hbody (w.heap.size + 1) Br Bb x av hgood).use w2 _ hfr hp2
    rw [hrec] at ha ⊢
    refine wpIn_mono ha ?_
    rintro e a3 w3 ⟨F3, L3, hf3, hp3, hq3⟩
    cases e with
    | normal =>
      obtain ⟨Y, he3, hok⟩ := hq3
      have hp3' := he3.use _ hp3
      obtain ⟨o, hl3, ho⟩ := hl_of hp3'
      have ho' : o = .loop rec := ho
      subst ho'
      refine ⟨_, run_beginRound hl3 hst, ?_⟩
      have hp4 : Hp w0.heap.size w0 (w3.putObj (w.heap.size + 1) (.loop { rec with state := .busy })) (Y ++ Bb) := hp3'.putTail rfl
      refine wpIn_mono (hok.use _ a3 hf3 hp4) ?_
      have fin : ∀ (jump : Option Code) (w5 : World) (X' : List Res), Hp w0.heap.size w0 w5 (X' ++ Bb) →
          (Instr.endRound (w.heap.size + 1) jump).run P w5 = .ok (.bool jump.isNone) (w5.putObj (w.heap.size + 1) (.loop { rec with state := if jump.isNone then .ready else .done, pending := jump })) := fun jump w5 X' h5 => by
        obtain ⟨o, hl5, ho⟩ := hl_of h5
        have ho' : o = .loop { rec with state := .busy } := ho
        subst ho'
        exact run_endRound (r := { rec with state := .busy }) jump hl5
      rintro e a5 w5 ⟨F5, L5, hf5, hp5, hq5⟩
      cases e with
      | normal =>
        obtain ⟨X', he5, hn⟩ := hq5
        have hp5' := he5.use _ hp5
        refine ⟨_, _, fin none w5 X' hp5', _, _, rfl, hp5'.putTail (p' := pr) ?_, .inl ⟨rfl, X', hn, rfl⟩⟩
        show Obj.loop _ = Obj.loop rec
        congr 1
      | ret =>
        obtain ⟨X', he5, hn⟩ := hq5
        have hp5' := he5.use _ hp5
        exact ⟨_, _, fin (some .ret) w5 X' hp5', _, _, rfl, hp5'.putTail (p' := pd .ret) rfl, .inr ⟨rfl, .ret, X', hn, rfl⟩⟩
      | exit id =>
        obtain ⟨X', he5, hn⟩ := hq5
        have hp5' := he5.use _ hp5
        exact ⟨_, _, fin (some (.exit id)) w5 X' hp5', _, _, rfl, hp5'.putTail (p' := pd (.exit id)) rfl, .inr ⟨rfl, .exit id, X', hn, rfl⟩⟩
      | goto t => exact hq5.elim
      | panic c => exact hq5.elim
      | outgrown => exact hq5.elim
    | ret => exact hq3.elim
    | exit id => exact hq3.elim
    | goto t => exact hq3.elim
    | panic c => exact hq3.elim
    | outgrown => exact hq3.elim
  have hsat := hiter (w.heap.size + 1) Br Bd hy
  have hfin : ∀ _ : World, Fr n { a with defers := [{ target := .collected w.heap.size, args := #[] }] ++ a.defers } (pushD F w.heap.size) := fun _ => ⟨by rw [marks_push, ← hf.defers]; rfl, hf.size, hf.at'⟩
  refine ⟨w.heap.size + 1, [{ target := .collected w.heap.size, args := #[] }], w1, { target := .fn (.func gf) lb.toArray, args := #[.func (.yield (w.heap.size + 1)) #[] #[]] }, w1, gf,
    #[.func (.yield (w.heap.size + 1)) #[] #[]] ++ lb.toArray, w1, ?_, ?_, fun _ _ => trivial, ?_, (fun h => by cases h), ?_⟩
  · rw [hw1, hrec]; exact run_enterLoop_outer _ _ _ _ _
  · simp only [resolve, hf.eval, hg]
    simp [go_sem]
    rfl
  · have := he.run (#[.func (.yield (w.heap.size + 1)) #[] #[]] ++ lb.toArray) w1
    simp [invoke, go_sem] at this ⊢
    exact this
  · have hargs : #[Value.func (.yield (w.heap.size + 1)) #[] #[]] ++ lb.toArray = (Value.func (.yield (w.heap.size + 1)) #[] #[] :: lb).toArray := by simp
    rw [hargs]
    refine callsIn_wide.2 ((hsat.calls w1 hp1).mono ?_)
    rintro e w9 ⟨v, L9, rfl, hp9, h9⟩
    have tail : ∀ (X' : List Res) (p : Obj → Prop) (st : LoopState) (pe : Option Code), Hp w0.heap.size w0 w9 (X' ++ [.obj (w.heap.size + 1) p, .mark w.heap.size]) → (∀ o, p o → o = .loop { rec with state := st, pending := pe }) → st ≠ .busy →
        ∃ w10, (Instr.endLoop (w.heap.size + 1)).run P w9 = .ok pe w10 ∧ Hp w0.heap.size w0 w10 (.mark w.heap.size :: X') := fun X' p st pe h hp' hb => by
      obtain ⟨o, hl9, ho⟩ := hl_of h
      rw [hp' o ho] at hl9
      refine ⟨_, run_endLoop hl9 hb, ?_⟩
      have h10 := h.putTail (o := .loop { rec with state := .exhausted, pending := pe }) (p' := fun _ => True) trivial
      exact (h10.perm (List.perm_append_comm (l₁ := [.obj (w.heap.size + 1) (fun _ => True), .mark w.heap.size]) (l₂ := X'))).drop1
    rcases h9 with ⟨X', hd, rfl⟩ | ⟨c, X', hs, rfl⟩
    · obtain ⟨w10, hrun, hp10⟩ := tail X' pr .ready none hp9 (fun o ho => by rw [show o = .loop rec from ho, hself]) (by decide)
      exact ⟨none, w10, hrun, pushD F w.heap.size, _, hfin w10, hp10, hdone _ X' hd⟩
    · obtain ⟨w10, hrun, hp10⟩ := tail X' (pd c) .done (some c) hp9 (fun o ho => ho) (by decide)
      refine ⟨some c, w10, hrun, ?_⟩
      rcases hstop w.heap.size c X' hs with ⟨rfl, hq⟩ | ⟨id, rfl, hq⟩
      · exact wpIn_ret ⟨pushD F w.heap.size, _, hfin w10, hp10, hq⟩
      · exact wpIn_exit ⟨pushD F w.heap.size, _, hfin w10, hp10, hq⟩
def bodyM (P : Program) (n : Nat) (w0 : World) (rs : List ResultVar) (R : Value → List Res → Prop) : Exit → Fm → List Res → Prop
  | .normal, F, L => ∃ (Ds : List Nat) (vs : List Value) (L1 L' : List Res), marksV (F none) = Ds.map (fun D => { target := .collected D, args := #[] }) ∧ Ent w0 L (Ds.map Res.mark ++ L1) ∧ allRes P n F L1 rs vs ∧ Ent w0 L1 L' ∧ R (packV vs) L'
  | .ret, F, L => ∃ (Ds : List Nat) (vs : List Value) (L1 L' : List Res), marksV (F none) = Ds.map (fun D => { target := .collected D, args := #[] }) ∧ Ent w0 L (Ds.map Res.mark ++ L1) ∧ allRes P n F L1 rs vs ∧ Ent w0 L1 L' ∧ R (packV vs) L'
  | _, _, _ => False
theorem take_mark {w : World} {D : Nat} {L : List Res} (h : Hp w0.heap.size w0 w (.mark D :: L)) : (Instr.takeDeferred D).run P w = .ok [] (w.putObj D (.deferred none)) ∧ Hp w0.heap.size w0 (w.putObj D (.deferred none)) L := by
  have hok : w0.heap.size ≤ D ∧ w.heap[D]? = some (.deferred (some [])) := h.ok _ List.mem_cons_self
  have hlt := (Array.getElem?_eq_some_iff.1 hok.2).1
  refine ⟨run_takeDeferred hok.2, ?_⟩
  have := h.turn (i := 0) rfl (w' := w.putObj D (.deferred none)) (r' := .obj D (fun _ => True)) (grownBy_putObj' w D _) ⟨hok.1, _, World.putObj_heap_same hlt, trivial⟩ (fun k hk => .inl hk)
  exact this.drop1
theorem SatL.ofM {f : FuncId} {fn : Func} {c : Code} {args : List Value} {R : Value → List Res → Prop} (N : Nat) (rs : List ResultVar) (hf : P.funcs[f]? = some fn) (hN : fn.ntmps = N) (hnm : (fn.name == "runtime.NumGoroutine") = false) (hb : fn.body = some c)
    (hres : fn.results = rs.toArray) (hlen : Nat.ble args.length N = true) (h : OK P N w0 (bodyM P N w0 rs R) c (argF args) L) : SatL P f args w0 L R := by
  refine ⟨⟨fn, c, hf, hnm, hb⟩, fun w hp => ?_⟩
  refine (callsIn_wide (n := 0)).1 (callsIn_of_wp_marks hf hb trivial ((wpIn_wide (n := 0)).2 ?_))
  subst hN
  have hlen' : args.length ≤ fn.ntmps := by rwa [Nat.ble_eq] at hlen
  have hfr : Fr fn.ntmps { tmps := args.toArray ++ Array.replicate (fn.ntmps - args.toArray.size) undef, defers := [] } (argF args) := by
    refine ⟨rfl, by simp; omega, fun t ht => ?_⟩
    simp only [Array.getD_eq_getD_getElem?, argF, List.getD_eq_getElem?_getD]
    by_cases h : t < args.length
    · rw [Array.getElem?_append_left (by simpa using h)]
      simp
    · rw [Array.getElem?_append_right (by simpa using Nat.le_of_not_lt h), List.getElem?_eq_none (by omega)]
      simp only [List.size_toArray, Array.getElem?_replicate]
      split <;> rfl
  have key : ∀ (a' : Act) (w' : World) (F' : Fm) (L' : List Res) (vs : List Value), Fr fn.ntmps a' F' → Hp w0.heap.size w0 w' L' → allRes P fn.ntmps F' L' rs vs → (results fn a'.tmps).run P w' = .ok (packV vs) w' := by
    intro a' w' F' L' vs h1 h2 h3
    unfold results
    rw [hres, List.mapM_toArray]
    simp only [Sem.run_bind, Sem.run_map]
    rw [mapM_run (n := fn.ntmps) (F := F') (L := L') ?_ rs vs h3]
    · rcases vs with _ | ⟨v, _ | ⟨v2, vs⟩⟩ <;> simp [packV, Result.andThen]
    · intro r v h
      cases r with
      | tmp t =>
        have he : a'.tmps.getD t undef = v := (congrFun h1.eval (.tmp t)).trans h
        simp only [Sem.run_pure, he]
      | cell t tt =>
        obtain ⟨g, i, e, cs, h2', h3', h4⟩ := h
        have he : a'.tmps.getD t undef = .pointer (some ⟨g, 0, none⟩) := (congrFun h1.eval (.tmp t)).trans h2'
        have h5 := h4 w' (h2.boxAt i h3').1
        simp only [Sem.run_bind, Sem.run_pure, Result.andThen, he, asAddr, h5]
  have fin : ∀ (a' : Act) (F' : Fm) (vs : List Value) (L1 L' : List Res), Fr fn.ntmps a' F' → allRes P fn.ntmps F' L1 rs vs → Ent w0 L1 L' → R (packV vs) L' → ∀ (Ds : List Nat) (w' : World), Hp w0.heap.size w0 w' (Ds.map Res.mark ++ L1) →
      LeavesInM Fence.wide 0 P fn a'.tmps (fun e w' => ∃ v L', e = .returned v ∧ Hp w0.heap.size w0 w' L' ∧ R v L') (Ds.map (fun D => { target := .collected D, args := #[] })) .returning w' := by
    intro a' F' vs L1 L' h1 h3 he hR Ds
    induction Ds with
    | nil =>
      intro w' hp'
      exact ⟨_, key _ _ _ _ _ h1 hp' h3, _, L', rfl, he.use _ hp', hR⟩
    | cons D Ds ih =>
      intro w' hp'
      obtain ⟨h4, h5⟩ := take_mark (P := P) hp'
      exact ⟨by simp, .inl ⟨D, _, rfl, h4, ih _ h5⟩⟩
  refine wp_mono (h.use w _ hfr hp) ?_
  rintro e a' w' ⟨F', L2, h1, h2, h3⟩
  unfold bodyM at h3
  cases e with
  | normal =>
    obtain ⟨Ds, vs, L1, L', hm, he, hall, he2, hR⟩ := h3
    show LeavesInM _ _ _ _ _ _ _ _ _
    rw [h1.defers, hm]
    exact fin a' F' vs L1 L' h1 hall he2 hR Ds w' (he.use _ h2)
  | ret =>
    obtain ⟨Ds, vs, L1, L', hm, he, hall, he2, hR⟩ := h3
    show LeavesInM _ _ _ _ _ _ _ _ _
    rw [h1.defers, hm]
    exact fin a' F' vs L1 L' h1 hall he2 hR Ds w' (he.use _ h2)
  | _ => exact h3.elim
end
attribute [irreducible] bodyM
end Go.Proofs.Ytmclgfipdgmomaa
namespace Go.Proofs.Ytmclgfipdgmomaa
open Go.RowKit
theorem Ent.pickT {w0 : World} (A X : List Res) (is : List Nat) (hn : nodupB is = true) : Ent w0 (A ++ X) (pickL A is ++ X) := Ent.mk fun w hp => by
  induction is with
  | nil => exact hp.sub (List.sublist_append_right A X)
  | cons i is ih =>
    have hm : memN i is = false := by
      cases hb : memN i is with
      | false => rfl
      | true => simp [nodupB, hb] at hn
    have ih := ih (by simpa [nodupB, hm] using hn)
    unfold pickL at ih ⊢
    rw [List.filterMap_cons]
    cases hi : A[i]? with
    | none => exact ih
    | some r =>
      have hil := (List.getElem?_eq_some_iff.1 hi).1
      have hi' : (A ++ X)[i]? = some r := by rw [List.getElem?_append_left hil]; exact hi
      refine ih.cons (hp.ok r (List.mem_of_getElem? hi')) fun s hs => ?_
      rcases List.mem_append.1 hs with hs | hs
      · obtain ⟨j, hj, hjs⟩ := List.mem_filterMap.1 hs
        have hjl := (List.getElem?_eq_some_iff.1 hjs).1
        have hij : i ≠ j := by
          rintro rfl
          have := (memN_iff i is).2 hj
          rw [hm] at this; cases this
        exact hp.apart hij hi' (j := j) (by rw [List.getElem?_append_left hjl]; exact hjs)
      · obtain ⟨j, hj, rfl⟩ := List.getElem_of_mem hs
        exact hp.apart (i := i) (j := A.length + j) (by omega) hi' (by rw [List.getElem?_append_right (by omega)]; simp [hj])
set_option maxRecDepth 100000 in
set_option maxHeartbeats 4000000 in
theorem cloneI_sat (v : Value) (xs : List Int) (w : World) (h : Ints w v xs) (h8 : xs.length ≤ 1000000) :
    Sat Try.prog 30 [v] w (fun u L => (∃ a c, u = .slice a xs.length c ∧ (0 < xs.length → ∃ g, a = some ⟨g, 0, none⟩)) ∧ L = [irow u xs]) := by
  have hs := clone_int_sat v xs w h h8
  refine ⟨hs.enters, fun w1 hp => (hs.calls w1 hp).mono fun e w' ⟨u, L', h1, h2, h3⟩ => ⟨u, L', h1, h2, ?_, h3⟩⟩
  have ho : w'.ownsRow w.heap.size 3 1 u xs.length (ints xs) := h2.ok (irow u xs) (by rw [h3]; exact List.mem_cons_self)
  rcases ho.2 with ⟨h0, h4⟩ | ⟨g', cap, cur, h0, _⟩
  · have : xs.length = 0 := by first | omega | exact h4.1
    rw [this]
    exact ⟨_, _, h0, fun h => absurd h (by omega)⟩
  · exact ⟨_, _, h0, fun _ => ⟨g', rfl⟩⟩
def whl (vs st o : List Int) (i : Nat) : List (List Int) := (asgs vs (st.drop i)).map (o.take i ++ ·)
def tail1 (vs st o : List Int) (i : Nat) (x : Int) : List (List Int) := (asgs vs (st.drop (i + 1))).map (fun b => o.take i ++ x :: b)
def part (vs st o : List Int) (i k : Nat) : List (List Int) := (vs.take k).flatMap (tail1 vs st o i)
theorem drop_at (st : List Int) (i : Nat) (h : i < st.length) : st.drop i = st.getD i 0 :: st.drop (i + 1) := by
  rw [getD_lt _ _ _ h]
  exact List.drop_eq_getElem_cons h
theorem take_at (o : List Int) (i : Nat) (h : i < o.length) : o.take (i + 1) = o.take i ++ [o.getD i 0] := by
  rw [getD_lt _ _ _ h]
  exact List.take_succ_eq_append_getElem h
theorem whl_end (vs st o : List Int) (N : Nat) (h : st.length = N) (ho : o.length = N) : whl vs st o N = [o] := by
  unfold whl
  rw [List.drop_eq_nil_of_le (by omega), List.take_of_length_le (by omega)]
  simp [asgs]
theorem whl_zero (vs st o : List Int) : whl vs st o 0 = asgs vs st := by simp [whl]
theorem whl_pos (vs st o : List Int) (i : Nat) (h : i < st.length) (ho : i < o.length) (hp : 0 ≤ st.getD i 0) (he : o.getD i 0 = st.getD i 0) : whl vs st o i = whl vs st o (i + 1) := by
  unfold whl
  rw [drop_at st i h, take_at o i ho, he]
  simp only [asgs]
  rw [if_neg (by omega), List.map_map]
  apply List.map_congr_left
  intro b _
  simp
theorem part_step (vs st o : List Int) (i k : Nat) (h : k < vs.length) : part vs st o i (k + 1) = part vs st o i k ++ tail1 vs st o i (vs.getD k 0) := by
  unfold part
  rw [take_at vs k h, List.flatMap_append]
  simp
theorem part_end (vs st o : List Int) (i : Nat) (h : i < st.length) (hn : st.getD i 0 < 0) : part vs st o i vs.length = whl vs st o i := by
  unfold part whl
  rw [drop_at st i h, List.take_length]
  simp only [asgs]
  rw [if_pos hn, List.map_flatMap]
  congr 1
  funext x
  unfold tail1
  rw [List.map_map]
  rfl
theorem part_pre (vs st o : List Int) (i k : Nat) : part vs st o i k <+: part vs st o i vs.length := by
  unfold part
  rw [List.take_length]
  refine ⟨(vs.drop k).flatMap (tail1 vs st o i), ?_⟩
  rw [← List.flatMap_append, List.take_append_drop]
theorem whl_set (vs st o o' : List Int) (i : Nat) (x : Int) (h : i < o'.length) (ht : o'.take i = o.take i) : whl vs st (o'.set i x) (i + 1) = tail1 vs st o i x := by
  unfold whl tail1
  have e : (o'.set i x).take (i + 1) = o.take i ++ [x] := by
    rw [take_at _ i (by simpa using h), List.take_set_of_le (Nat.le_refl i), ht]
    simp [h]
  rw [e]
  apply List.map_congr_left
  intro b _
  simp
theorem swapA {w0 : World} (r : Res) (J Z B : List Res) : Ent w0 ((r :: (J ++ Z)) ++ B) (r :: (Z ++ (J ++ B))) := by
  refine Ent.perm ?_
  rw [List.cons_append]
  refine List.Perm.cons r ?_
  rw [← List.append_assoc Z J B]
  exact List.perm_append_comm.append_right B
theorem swapB {w0 : World} (r : Res) (J Z B : List Res) : Ent w0 (r :: (Z ++ (J ++ B))) ((r :: (J ++ Z)) ++ B) := by
  refine Ent.perm ?_
  rw [List.cons_append]
  refine List.Perm.cons r ?_
  rw [← List.append_assoc Z J B]
  exact List.perm_append_comm.append_right B
def capsA (g1 gy go gf gv : Nat) : List Value := [.pointer (some ⟨g1, 0, none⟩), .pointer (some ⟨gy, 0, none⟩), .pointer (some ⟨go, 0, none⟩), .pointer (some ⟨gf, 0, none⟩), .pointer (some ⟨gv, 0, none⟩)]
def zA (y m g c g1 gy go gf gv : Nat) (sv ov : Value) (vs : List Int) : List Res :=
  [.box 27 g1 [sv], .box 49 gy [.func (.yield y) #[] #[]], .box 27 go [ov], .box 63 gf [.func (.func 115) #[] (capsA g1 gy go gf gv).toArray], .box 27 gv [.slice (some ⟨g, 0, none⟩) m c],
    .row 3 1 (.slice (some ⟨g, 0, none⟩) m c) m (ints vs)]
def rA (ov : Value) (N : Nat) (o : List Int) : Res := .row 3 1 ov N (ints o)
def FilR (N : Nat) (ov : Value) (Z Br : List Res) (Bd : Code → List Res) (vs st : List Int) (JP : List (List Int) → List Res → Prop) (JE : Code → List Res → Prop) (i : Nat) (o : List Int) (pre : List (List Int)) (u : Value) (L : List Res) : Prop :=
  (u = .bool true ∧ ∃ o' J', o'.length = N ∧ o'.take i = o.take i ∧ (∀ j, i ≤ j → 0 ≤ st.getD j 0 → o'.getD j 0 = st.getD j 0) ∧ JP (pre ++ whl vs st o i) J' ∧ L = rA ov N o' :: (Z ++ (J' ++ Br))) ∨
  (u = .bool false ∧ ∃ c o' J', o'.length = N ∧ JE c J' ∧ L = rA ov N o' :: (Z ++ (J' ++ Bd c)))
def YldR (N : Nat) (ov : Value) (Z Br : List Res) (Bd : Code → List Res) (JP : List (List Int) → List Res → Prop) (JE : Code → List Res → Prop) (o : List Int) (pre : List (List Int)) (u : Value) (L : List Res) : Prop :=
  (u = .bool true ∧ ∃ J', JP (pre ++ [o]) J' ∧ L = (rA ov N o :: (J' ++ Z)) ++ Br) ∨ (u = .bool false ∧ ∃ c J', JE c J' ∧ L = (rA ov N o :: (J' ++ Z)) ++ Bd c)
set_option maxRecDepth 100000 in
set_option maxHeartbeats 4000000 in
set_option maxRecDepth 100000 in
set_option maxHeartbeats 4000000 in
theorem fill_sat (y N m g c g1 gy go gf gv : Nat) (sv ov : Value) (vs st : List Int) (all : List (List Int)) (w0 : World) (Br : List Res) (Bd : Code → List Res) (JP : List (List Int) → List Res → Prop) (JE : Code → List Res → Prop)
    (hsv : Ints w0 sv st) (hN : st.length = N) (hN8 : N ≤ 1000) (hov : 0 < N → ∃ g c, ov = .slice (some ⟨g, 0, none⟩) N c) (hm : vs.length = m) (hm8 : m ≤ 1000)
    (hy : ∀ o pre J, o.length = N → JP pre J → (pre ++ [o]) <+: all → SatY Try.prog y [ov] w0 ((rA ov N o :: (J ++ zA y m g c g1 gy go gf gv sv ov vs)) ++ Br) (YldR N ov (zA y m g c g1 gy go gf gv sv ov vs) Br Bd JP JE o pre)) :
    ∀ k i o pre J, i + k = N → o.length = N → (∀ j, i ≤ j → 0 ≤ st.getD j 0 → o.getD j 0 = st.getD j 0) → JP pre J → (pre ++ whl vs st o i) <+: all →
      SatL Try.prog 115 (.int .i64 (i : Int) :: capsA g1 gy go gf gv) w0 (rA ov N o :: (zA y m g c g1 gy go gf gv sv ov vs ++ (J ++ Br))) (FilR N ov (zA y m g c g1 gy go gf gv sv ov vs) Br Bd vs st JP JE i o pre) := by
  have hsl := hsv.sl
  rw [hN] at hsl
  have hsb := hsl.bound
  intro k
  induction k with
  | zero =>
    intro i o pre J hi ho hkn hJ hpre
    obtain rfl : i = N := by omega
    rw [whl_end vs st o i hN ho] at hpre
    have hy := hy o pre J ho hJ hpre
    simp only [capsA, rA]
    generalize hZ : FilR _ _ _ _ _ _ _ _ _ _ _ _ = R
    simp only [zA, List.cons_append, List.nil_append]
    refine SatL.of 42 [7] Try.func115 (by kernel_rfl) (by kernel_rfl) rfl rfl rfl rfl ?_
    repeat' (first | (refine OK_regionY (id := 2) 0 [_, _] [_] rfl rfl ?_) | (apply OK_seq) | (apply thenQ_n) | (apply OK_region) | (apply OKx_nilK) | (apply OK_block) | (apply blockQ_n) | (apply blockQ_s) | (apply thenQ_e) | (apply blockQ_e; exact rfl) | (apply thenQ_r) | (apply blockQ_r) | (apply OK_condT; exact rfl) | (apply OK_condF; exact rfl) | (apply OK_skip) | (apply OK_exit) | (apply OK_ret) | (apply OKx_move; ((conv => lhs; whnf) <;> exact rfl)) | (apply OKx_assign; ((conv => lhs; whnf) <;> exact rfl)) | (apply OKx_ldB; exact rfl; (first | exact at0 | exact at1 | exact at2 | exact at3 | exact at4 | exact at5 | exact at6 | exact at7); exact rfl) | (apply OKx_ldR; ((conv => lhs; whnf) <;> exact rfl); (with_reducible assumption)) | (apply OKx_ldI; exact rfl; (first | exact at0 | exact at1 | exact at2 | exact at3 | exact at4 | exact at5 | exact at6 | exact at7); omega) | (apply OKx_len; exact rfl) | (apply OKx_lenR; ((conv => lhs; whnf) <;> exact rfl); (with_reducible assumption)) | (apply OKx_lenR2; ((conv => lhs; whnf) <;> exact rfl); (with_reducible assumption)) | (apply OKx_lenO; ((conv => lhs; whnf) <;> exact rfl); (first | exact at0 | exact at1 | exact at2 | exact at3 | exact at4 | exact at5 | exact at6 | exact at7)) | (apply OKx_lss; exact rfl; exact rfl; all_goals (intro _; try (exfalso; omega))) | (apply OKx_geq; exact rfl; exact rfl; all_goals (intro _; try (exfalso; omega))) | (apply OKx_eql; exact rfl; exact rfl; all_goals (intro _; try (exfalso; omega))) | (apply OKx_idxO; exact rfl; exact rfl; omega) | (apply OKx_idxR; ((conv => lhs; whnf) <;> exact rfl); (with_reducible assumption); exact rfl; omega; intro _ _) | (apply OKx_idxOz; exact rfl; exact rfl; omega; omega) | (apply OKx_idxRz; ((conv => lhs; whnf) <;> exact rfl); (with_reducible assumption); exact rfl; omega; omega; intro _ _) | (apply OKx_inc; exact rfl; exact rfl; omega) | (apply OKx_addN; exact rfl; exact rfl; omega) | (apply OKx_add; exact rfl; exact rfl; omega; omega) | (apply OKx_notT; exact rfl) | (apply OKx_notF; exact rfl) | (apply OKx_stI; exact rfl; exact rfl; (first | exact at0 | exact at1 | exact at2 | exact at3 | exact at4 | exact at5 | exact at6 | exact at7); omega; exact rfl) | (apply OKx_stB; exact rfl; ((conv => lhs; whnf) <;> exact rfl); exact rfl; exact rfl; (first | exact at0 | exact at1 | exact at2 | exact at3 | exact at4 | exact at5 | exact at6 | exact at7); exact rfl; exact rfl; exact rfl))
    refine ⟨y, [ov], YldR i ov (zA y m g c g1 gy go gf gv sv ov vs) Br Bd JP JE o pre, (by ((conv => lhs; whnf) <;> exact rfl)), (by ((conv => lhs; whnf) <;> exact rfl)), fun w hp => hy w ((swapB (rA ov i o) J (zA y m g c g1 gy go gf gv sv ov vs) Br).use w hp), ?_⟩
    rintro _ _ (⟨rfl, J', hJ', rfl⟩ | ⟨rfl, cc, J', hJ', rfl⟩)
    · repeat' (first | (apply OK_seq) | (apply thenQ_n) | (apply OK_region) | (apply OKx_nilK) | (apply OK_block) | (apply blockQ_n) | (apply blockQ_s) | (apply thenQ_e) | (apply blockQ_e; exact rfl) | (apply thenQ_r) | (apply blockQ_r) | (apply OK_condT; exact rfl) | (apply OK_condF; exact rfl) | (apply OK_skip) | (apply OK_exit) | (apply OK_ret) | (apply OKx_move; ((conv => lhs; whnf) <;> exact rfl)) | (apply OKx_assign; ((conv => lhs; whnf) <;> exact rfl)) | (apply OKx_ldB; exact rfl; (first | exact at0 | exact at1 | exact at2 | exact at3 | exact at4 | exact at5 | exact at6 | exact at7); exact rfl) | (apply OKx_ldR; ((conv => lhs; whnf) <;> exact rfl); (with_reducible assumption)) | (apply OKx_ldI; exact rfl; (first | exact at0 | exact at1 | exact at2 | exact at3 | exact at4 | exact at5 | exact at6 | exact at7); omega) | (apply OKx_len; exact rfl) | (apply OKx_lenR; ((conv => lhs; whnf) <;> exact rfl); (with_reducible assumption)) | (apply OKx_lenR2; ((conv => lhs; whnf) <;> exact rfl); (with_reducible assumption)) | (apply OKx_lenO; ((conv => lhs; whnf) <;> exact rfl); (first | exact at0 | exact at1 | exact at2 | exact at3 | exact at4 | exact at5 | exact at6 | exact at7)) | (apply OKx_lss; exact rfl; exact rfl; all_goals (intro _; try (exfalso; omega))) | (apply OKx_geq; exact rfl; exact rfl; all_goals (intro _; try (exfalso; omega))) | (apply OKx_eql; exact rfl; exact rfl; all_goals (intro _; try (exfalso; omega))) | (apply OKx_idxO; exact rfl; exact rfl; omega) | (apply OKx_idxR; ((conv => lhs; whnf) <;> exact rfl); (with_reducible assumption); exact rfl; omega; intro _ _) | (apply OKx_idxOz; exact rfl; exact rfl; omega; omega) | (apply OKx_idxRz; ((conv => lhs; whnf) <;> exact rfl); (with_reducible assumption); exact rfl; omega; omega; intro _ _) | (apply OKx_inc; exact rfl; exact rfl; omega) | (apply OKx_addN; exact rfl; exact rfl; omega) | (apply OKx_add; exact rfl; exact rfl; omega; omega) | (apply OKx_notT; exact rfl) | (apply OKx_notF; exact rfl) | (apply OKx_stI; exact rfl; exact rfl; (first | exact at0 | exact at1 | exact at2 | exact at3 | exact at4 | exact at5 | exact at6 | exact at7); omega; exact rfl) | (apply OKx_stB; exact rfl; ((conv => lhs; whnf) <;> exact rfl); exact rfl; exact rfl; (first | exact at0 | exact at1 | exact at2 | exact at3 | exact at4 | exact at5 | exact at6 | exact at7); exact rfl; exact rfl; exact rfl))
      first | refine bodyQ_r1 (by ((conv => lhs; whnf) <;> exact rfl)) ?_ | refine bodyQ_r2 (by ((conv => lhs; whnf) <;> exact rfl)) (by ((conv => lhs; whnf) <;> exact rfl)) ?_ | refine bodyQ_r3 (by ((conv => lhs; whnf) <;> exact rfl)) (by ((conv => lhs; whnf) <;> exact rfl)) (by ((conv => lhs; whnf) <;> exact rfl)) ?_ | refine bodyQ_r0 ?_ | refine bodyQ_n0 ?_
      subst hZ
      exact ⟨_, swapA _ _ _ _, .inl ⟨rfl, o, J', ho, rfl, hkn, by rw [whl_end vs st o i hN ho]; exact hJ', rfl⟩⟩
    · repeat' (first | (apply OK_seq) | (apply thenQ_n) | (apply OK_region) | (apply OKx_nilK) | (apply OK_block) | (apply blockQ_n) | (apply blockQ_s) | (apply thenQ_e) | (apply blockQ_e; exact rfl) | (apply thenQ_r) | (apply blockQ_r) | (apply OK_condT; exact rfl) | (apply OK_condF; exact rfl) | (apply OK_skip) | (apply OK_exit) | (apply OK_ret) | (apply OKx_move; ((conv => lhs; whnf) <;> exact rfl)) | (apply OKx_assign; ((conv => lhs; whnf) <;> exact rfl)) | (apply OKx_ldB; exact rfl; (first | exact at0 | exact at1 | exact at2 | exact at3 | exact at4 | exact at5 | exact at6 | exact at7); exact rfl) | (apply OKx_ldR; ((conv => lhs; whnf) <;> exact rfl); (with_reducible assumption)) | (apply OKx_ldI; exact rfl; (first | exact at0 | exact at1 | exact at2 | exact at3 | exact at4 | exact at5 | exact at6 | exact at7); omega) | (apply OKx_len; exact rfl) | (apply OKx_lenR; ((conv => lhs; whnf) <;> exact rfl); (with_reducible assumption)) | (apply OKx_lenR2; ((conv => lhs; whnf) <;> exact rfl); (with_reducible assumption)) | (apply OKx_lenO; ((conv => lhs; whnf) <;> exact rfl); (first | exact at0 | exact at1 | exact at2 | exact at3 | exact at4 | exact at5 | exact at6 | exact at7)) | (apply OKx_lss; exact rfl; exact rfl; all_goals (intro _; try (exfalso; omega))) | (apply OKx_geq; exact rfl; exact rfl; all_goals (intro _; try (exfalso; omega))) | (apply OKx_eql; exact rfl; exact rfl; all_goals (intro _; try (exfalso; omega))) | (apply OKx_idxO; exact rfl; exact rfl; omega) | (apply OKx_idxR; ((conv => lhs; whnf) <;> exact rfl); (with_reducible assumption); exact rfl; omega; intro _ _) | (apply OKx_idxOz; exact rfl; exact rfl; omega; omega) | (apply OKx_idxRz; ((conv => lhs; whnf) <;> exact rfl); (with_reducible assumption); exact rfl; omega; omega; intro _ _) | (apply OKx_inc; exact rfl; exact rfl; omega) | (apply OKx_addN; exact rfl; exact rfl; omega) | (apply OKx_add; exact rfl; exact rfl; omega; omega) | (apply OKx_notT; exact rfl) | (apply OKx_notF; exact rfl) | (apply OKx_stI; exact rfl; exact rfl; (first | exact at0 | exact at1 | exact at2 | exact at3 | exact at4 | exact at5 | exact at6 | exact at7); omega; exact rfl) | (apply OKx_stB; exact rfl; ((conv => lhs; whnf) <;> exact rfl); exact rfl; exact rfl; (first | exact at0 | exact at1 | exact at2 | exact at3 | exact at4 | exact at5 | exact at6 | exact at7); exact rfl; exact rfl; exact rfl))
      first | refine bodyQ_r1 (by ((conv => lhs; whnf) <;> exact rfl)) ?_ | refine bodyQ_r2 (by ((conv => lhs; whnf) <;> exact rfl)) (by ((conv => lhs; whnf) <;> exact rfl)) ?_ | refine bodyQ_r3 (by ((conv => lhs; whnf) <;> exact rfl)) (by ((conv => lhs; whnf) <;> exact rfl)) (by ((conv => lhs; whnf) <;> exact rfl)) ?_ | refine bodyQ_r0 ?_ | refine bodyQ_n0 ?_
      subst hZ
      exact ⟨_, swapA _ _ _ _, .inr ⟨rfl, cc, o, J', ho, hJ', rfl⟩⟩
  | succ k ih =>
    intro i o pre J hi ho hkn hJ hpre
    obtain ⟨go2, co2, hoe⟩ := hov (by omega)
    have ihp := ih (i + 1)
    clear ih
    simp only [capsA, rA]
    generalize hZ : FilR _ _ _ _ _ _ _ _ _ _ _ _ = R
    by_cases hneg : st.getD i 0 < 0
    · have hpe := part_end vs st o i (by omega) hneg
      simp only [zA, List.cons_append, List.nil_append]
      subst hoe
      refine SatL.of 42 [7] Try.func115 (by kernel_rfl) (by kernel_rfl) rfl rfl rfl rfl ?_
      repeat' (first | (apply OK_seq) | (apply thenQ_n) | (apply OK_region) | (apply OKx_nilK) | (apply OK_block) | (apply blockQ_n) | (apply blockQ_s) | (apply thenQ_e) | (apply blockQ_e; exact rfl) | (apply thenQ_r) | (apply blockQ_r) | (apply OK_condT; exact rfl) | (apply OK_condF; exact rfl) | (apply OK_skip) | (apply OK_exit) | (apply OK_ret) | (apply OKx_move; ((conv => lhs; whnf) <;> exact rfl)) | (apply OKx_assign; ((conv => lhs; whnf) <;> exact rfl)) | (apply OKx_ldB; exact rfl; (first | exact at0 | exact at1 | exact at2 | exact at3 | exact at4 | exact at5 | exact at6 | exact at7); exact rfl) | (apply OKx_ldR; ((conv => lhs; whnf) <;> exact rfl); (with_reducible assumption)) | (apply OKx_ldI; exact rfl; (first | exact at0 | exact at1 | exact at2 | exact at3 | exact at4 | exact at5 | exact at6 | exact at7); omega) | (apply OKx_len; exact rfl) | (apply OKx_lenR; ((conv => lhs; whnf) <;> exact rfl); (with_reducible assumption)) | (apply OKx_lenR2; ((conv => lhs; whnf) <;> exact rfl); (with_reducible assumption)) | (apply OKx_lenO; ((conv => lhs; whnf) <;> exact rfl); (first | exact at0 | exact at1 | exact at2 | exact at3 | exact at4 | exact at5 | exact at6 | exact at7)) | (apply OKx_lss; exact rfl; exact rfl; all_goals (intro _; try (exfalso; omega))) | (apply OKx_geq; exact rfl; exact rfl; all_goals (intro _; try (exfalso; omega))) | (apply OKx_eql; exact rfl; exact rfl; all_goals (intro _; try (exfalso; omega))) | (apply OKx_idxO; exact rfl; exact rfl; omega) | (apply OKx_idxR; ((conv => lhs; whnf) <;> exact rfl); (with_reducible assumption); exact rfl; omega; intro _ _) | (apply OKx_idxOz; exact rfl; exact rfl; omega; omega) | (apply OKx_idxRz; ((conv => lhs; whnf) <;> exact rfl); (with_reducible assumption); exact rfl; omega; omega; intro _ _) | (apply OKx_inc; exact rfl; exact rfl; omega) | (apply OKx_addN; exact rfl; exact rfl; omega) | (apply OKx_add; exact rfl; exact rfl; omega; omega) | (apply OKx_notT; exact rfl) | (apply OKx_notF; exact rfl) | (apply OKx_stI; exact rfl; exact rfl; (first | exact at0 | exact at1 | exact at2 | exact at3 | exact at4 | exact at5 | exact at6 | exact at7); omega; exact rfl) | (apply OKx_stB; exact rfl; ((conv => lhs; whnf) <;> exact rfl); exact rfl; exact rfl; (first | exact at0 | exact at1 | exact at2 | exact at3 | exact at4 | exact at5 | exact at6 | exact at7); exact rfl; exact rfl; exact rfl))
      refine OK_loop1 28 [7, 9, 28, 29, 30, 31, 32, 33, 34, 35, 36, 37, 38, 39, 40, 41] (fun m' v L => ∃ (q : Nat) (o' : List Int) (J' : List Res), q + m' = m ∧ v = .int .i64 (q : Int) ∧ o'.length = N ∧ o'.take i = o.take i ∧ (∀ j, i < j → 0 ≤ st.getD j 0 → o'.getD j 0 = st.getD j 0) ∧ JP (pre ++ part vs st o i q) J' ∧
        L = rA (.slice (some ⟨go2, 0, none⟩) N co2) N o' :: (zA y m g c g1 gy go gf gv sv (.slice (some ⟨go2, 0, none⟩) N co2) vs ++ (J' ++ Br))) m _ (Ent.refl _ _) ⟨0, o, J, by omega, rfl, ho, rfl, fun j hj => hkn j (by omega), by unfold part; simpa using hJ, rfl⟩ ?_
      rintro m' v L G ⟨q, o', J', hq, rfl, ho', ht, hkn', hJ', rfl⟩
      simp only [rA]
      simp only [zA, List.cons_append, List.nil_append]
      by_cases hqm : q < m
      · have hpp := part_step vs st o i q (by omega)
        have hws := fun x => whl_set vs st o o' i x (by omega) ht
        have hpre' : pre ++ part vs st o i q ++ tail1 vs st o i (vs.getD q 0) <+: all := by
          rw [List.append_assoc, ← hpp]
          refine List.IsPrefix.trans ?_ hpre
          rw [← hpe]
          exact (List.prefix_append_right_inj pre).2 (part_pre vs st o i (q + 1))
        repeat' (first | (apply OK_seq) | (apply thenQ_n) | (apply OK_region) | (refine OKx_callL (f := 115) rfl rfl (ihp (o'.set i (vs.getD q 0)) (pre ++ part vs st o i q) J' (by omega) (by simpa using ho') (fun j hj hk => by rw [← hkn' j (by omega) hk]; simp only [List.getD_eq_getElem?_getD]; rw [List.getElem?_set_ne (by omega)]) hJ' (by rw [hws]; exact hpre')) ?_; rintro _ _ (⟨rfl, o2, J2, h1, h2, h3, h4, rfl⟩ | ⟨rfl, cc, o2, J2, h1, h2, rfl⟩)) | (apply OKx_nilK) | (apply OK_block) | (apply blockQ_n) | (apply blockQ_s) | (apply thenQ_e) | (apply blockQ_e; exact rfl) | (apply thenQ_r) | (apply blockQ_r) | (apply OK_condT; exact rfl) | (apply OK_condF; exact rfl) | (apply OK_skip) | (apply OK_exit) | (apply OK_ret) | (apply OKx_move; ((conv => lhs; whnf) <;> exact rfl)) | (apply OKx_assign; ((conv => lhs; whnf) <;> exact rfl)) | (apply OKx_ldB; exact rfl; (first | exact at0 | exact at1 | exact at2 | exact at3 | exact at4 | exact at5 | exact at6 | exact at7); exact rfl) | (apply OKx_ldR; ((conv => lhs; whnf) <;> exact rfl); (with_reducible assumption)) | (apply OKx_ldI; exact rfl; (first | exact at0 | exact at1 | exact at2 | exact at3 | exact at4 | exact at5 | exact at6 | exact at7); omega) | (apply OKx_len; exact rfl) | (apply OKx_lenR; ((conv => lhs; whnf) <;> exact rfl); (with_reducible assumption)) | (apply OKx_lenR2; ((conv => lhs; whnf) <;> exact rfl); (with_reducible assumption)) | (apply OKx_lenO; ((conv => lhs; whnf) <;> exact rfl); (first | exact at0 | exact at1 | exact at2 | exact at3 | exact at4 | exact at5 | exact at6 | exact at7)) | (apply OKx_lss; exact rfl; exact rfl; all_goals (intro _; try (exfalso; omega))) | (apply OKx_geq; exact rfl; exact rfl; all_goals (intro _; try (exfalso; omega))) | (apply OKx_eql; exact rfl; exact rfl; all_goals (intro _; try (exfalso; omega))) | (apply OKx_idxO; exact rfl; exact rfl; omega) | (apply OKx_idxR; ((conv => lhs; whnf) <;> exact rfl); (with_reducible assumption); exact rfl; omega; intro _ _) | (apply OKx_idxOz; exact rfl; exact rfl; omega; omega) | (apply OKx_idxRz; ((conv => lhs; whnf) <;> exact rfl); (with_reducible assumption); exact rfl; omega; omega; intro _ _) | (apply OKx_inc; exact rfl; exact rfl; omega) | (apply OKx_addN; exact rfl; exact rfl; omega) | (apply OKx_add; exact rfl; exact rfl; omega; omega) | (apply OKx_notT; exact rfl) | (apply OKx_notF; exact rfl) | (apply OKx_stI; exact rfl; exact rfl; (first | exact at0 | exact at1 | exact at2 | exact at3 | exact at4 | exact at5 | exact at6 | exact at7); omega; exact rfl) | (apply OKx_stB; exact rfl; ((conv => lhs; whnf) <;> exact rfl); exact rfl; exact rfl; (first | exact at0 | exact at1 | exact at2 | exact at3 | exact at4 | exact at5 | exact at6 | exact at7); exact rfl; exact rfl; exact rfl))
        · refine ⟨by (repeat' (first | refine agree_upd rfl ?_ | exact agree_over | exact agree_refl _ _ | refine agree_over2 rfl ?_)), m' - 1, _, by omega, Ent.refl _ _, ?_⟩
          refine ⟨q + 1, o2, J2, by omega, rfl, h1, ?_, fun j hj hk => h3 j (by omega) hk, ?_, rfl⟩
          · have e := congrArg (List.take i) h2
            rw [List.take_take, List.take_take, Nat.min_eq_left (by omega), List.take_set_of_le (Nat.le_refl i)] at e
            rw [e, ht]
          · rw [hws, List.append_assoc, ← hpp] at h4
            exact h4
        · first | refine bodyQ_r1 (by ((conv => lhs; whnf) <;> exact rfl)) ?_ | refine bodyQ_r2 (by ((conv => lhs; whnf) <;> exact rfl)) (by ((conv => lhs; whnf) <;> exact rfl)) ?_ | refine bodyQ_r3 (by ((conv => lhs; whnf) <;> exact rfl)) (by ((conv => lhs; whnf) <;> exact rfl)) (by ((conv => lhs; whnf) <;> exact rfl)) ?_ | refine bodyQ_r0 ?_ | refine bodyQ_n0 ?_
          subst hZ
          exact ⟨_, Ent.refl _ _, .inr ⟨rfl, cc, o2, J2, h1, h2, rfl⟩⟩
      · obtain rfl : q = m := by omega
        repeat' (first | (apply OK_seq) | (apply thenQ_n) | (apply OK_region) | (apply OKx_nilK) | (apply OK_block) | (apply blockQ_n) | (apply blockQ_s) | (apply thenQ_e) | (apply blockQ_e; exact rfl) | (apply thenQ_r) | (apply blockQ_r) | (apply OK_condT; exact rfl) | (apply OK_condF; exact rfl) | (apply OK_skip) | (apply OK_exit) | (apply OK_ret) | (apply OKx_move; ((conv => lhs; whnf) <;> exact rfl)) | (apply OKx_assign; ((conv => lhs; whnf) <;> exact rfl)) | (apply OKx_ldB; exact rfl; (first | exact at0 | exact at1 | exact at2 | exact at3 | exact at4 | exact at5 | exact at6 | exact at7); exact rfl) | (apply OKx_ldR; ((conv => lhs; whnf) <;> exact rfl); (with_reducible assumption)) | (apply OKx_ldI; exact rfl; (first | exact at0 | exact at1 | exact at2 | exact at3 | exact at4 | exact at5 | exact at6 | exact at7); omega) | (apply OKx_len; exact rfl) | (apply OKx_lenR; ((conv => lhs; whnf) <;> exact rfl); (with_reducible assumption)) | (apply OKx_lenR2; ((conv => lhs; whnf) <;> exact rfl); (with_reducible assumption)) | (apply OKx_lenO; ((conv => lhs; whnf) <;> exact rfl); (first | exact at0 | exact at1 | exact at2 | exact at3 | exact at4 | exact at5 | exact at6 | exact at7)) | (apply OKx_lss; exact rfl; exact rfl; all_goals (intro _; try (exfalso; omega))) | (apply OKx_geq; exact rfl; exact rfl; all_goals (intro _; try (exfalso; omega))) | (apply OKx_eql; exact rfl; exact rfl; all_goals (intro _; try (exfalso; omega))) | (apply OKx_idxO; exact rfl; exact rfl; omega) | (apply OKx_idxR; ((conv => lhs; whnf) <;> exact rfl); (with_reducible assumption); exact rfl; omega; intro _ _) | (apply OKx_idxOz; exact rfl; exact rfl; omega; omega) | (apply OKx_idxRz; ((conv => lhs; whnf) <;> exact rfl); (with_reducible assumption); exact rfl; omega; omega; intro _ _) | (apply OKx_inc; exact rfl; exact rfl; omega) | (apply OKx_addN; exact rfl; exact rfl; omega) | (apply OKx_add; exact rfl; exact rfl; omega; omega) | (apply OKx_notT; exact rfl) | (apply OKx_notF; exact rfl) | (apply OKx_stI; exact rfl; exact rfl; (first | exact at0 | exact at1 | exact at2 | exact at3 | exact at4 | exact at5 | exact at6 | exact at7); omega; exact rfl) | (apply OKx_stB; exact rfl; ((conv => lhs; whnf) <;> exact rfl); exact rfl; exact rfl; (first | exact at0 | exact at1 | exact at2 | exact at3 | exact at4 | exact at5 | exact at6 | exact at7); exact rfl; exact rfl; exact rfl))
        first | refine bodyQ_r1 (by ((conv => lhs; whnf) <;> exact rfl)) ?_ | refine bodyQ_r2 (by ((conv => lhs; whnf) <;> exact rfl)) (by ((conv => lhs; whnf) <;> exact rfl)) ?_ | refine bodyQ_r3 (by ((conv => lhs; whnf) <;> exact rfl)) (by ((conv => lhs; whnf) <;> exact rfl)) (by ((conv => lhs; whnf) <;> exact rfl)) ?_ | refine bodyQ_r0 ?_ | refine bodyQ_n0 ?_
        subst hZ
        rw [← hm] at hJ'
        rw [hpe] at hJ'
        refine ⟨_, Ent.refl _ _, .inl ⟨rfl, o', J', ho', ht, fun j hj hk => ?_, hJ', rfl⟩⟩
        rcases Nat.lt_or_ge i j with h | h
        · exact hkn' j h hk
        · obtain rfl : j = i := by omega
          omega
    · have hp := whl_pos vs st o i (by omega) (by omega) (by omega) (hkn i (Nat.le_refl i) (by omega))
      simp only [zA, List.cons_append, List.nil_append]
      subst hoe
      refine SatL.of 42 [7] Try.func115 (by kernel_rfl) (by kernel_rfl) rfl rfl rfl rfl ?_
      repeat' (first | (apply OK_seq) | (apply thenQ_n) | (apply OK_region) | (refine OKx_callL (f := 115) rfl rfl (ihp o pre J (by omega) ho (fun j hj hk => hkn j (by omega) hk) hJ (by rw [← hp]; exact hpre)) ?_; rintro _ _ (⟨rfl, o2, J2, h1, h2, h3, h4, rfl⟩ | ⟨rfl, cc, o2, J2, h1, h2, rfl⟩)) | (apply OKx_nilK) | (apply OK_block) | (apply blockQ_n) | (apply blockQ_s) | (apply thenQ_e) | (apply blockQ_e; exact rfl) | (apply thenQ_r) | (apply blockQ_r) | (apply OK_condT; exact rfl) | (apply OK_condF; exact rfl) | (apply OK_skip) | (apply OK_exit) | (apply OK_ret) | (apply OKx_move; ((conv => lhs; whnf) <;> exact rfl)) | (apply OKx_assign; ((conv => lhs; whnf) <;> exact rfl)) | (apply OKx_ldB; exact rfl; (first | exact at0 | exact at1 | exact at2 | exact at3 | exact at4 | exact at5 | exact at6 | exact at7); exact rfl) | (apply OKx_ldR; ((conv => lhs; whnf) <;> exact rfl); (with_reducible assumption)) | (apply OKx_ldI; exact rfl; (first | exact at0 | exact at1 | exact at2 | exact at3 | exact at4 | exact at5 | exact at6 | exact at7); omega) | (apply OKx_len; exact rfl) | (apply OKx_lenR; ((conv => lhs; whnf) <;> exact rfl); (with_reducible assumption)) | (apply OKx_lenR2; ((conv => lhs; whnf) <;> exact rfl); (with_reducible assumption)) | (apply OKx_lenO; ((conv => lhs; whnf) <;> exact rfl); (first | exact at0 | exact at1 | exact at2 | exact at3 | exact at4 | exact at5 | exact at6 | exact at7)) | (apply OKx_lss; exact rfl; exact rfl; all_goals (intro _; try (exfalso; omega))) | (apply OKx_geq; exact rfl; exact rfl; all_goals (intro _; try (exfalso; omega))) | (apply OKx_eql; exact rfl; exact rfl; all_goals (intro _; try (exfalso; omega))) | (apply OKx_idxO; exact rfl; exact rfl; omega) | (apply OKx_idxR; ((conv => lhs; whnf) <;> exact rfl); (with_reducible assumption); exact rfl; omega; intro _ _) | (apply OKx_idxOz; exact rfl; exact rfl; omega; omega) | (apply OKx_idxRz; ((conv => lhs; whnf) <;> exact rfl); (with_reducible assumption); exact rfl; omega; omega; intro _ _) | (apply OKx_inc; exact rfl; exact rfl; omega) | (apply OKx_addN; exact rfl; exact rfl; omega) | (apply OKx_add; exact rfl; exact rfl; omega; omega) | (apply OKx_notT; exact rfl) | (apply OKx_notF; exact rfl) | (apply OKx_stI; exact rfl; exact rfl; (first | exact at0 | exact at1 | exact at2 | exact at3 | exact at4 | exact at5 | exact at6 | exact at7); omega; exact rfl) | (apply OKx_stB; exact rfl; ((conv => lhs; whnf) <;> exact rfl); exact rfl; exact rfl; (first | exact at0 | exact at1 | exact at2 | exact at3 | exact at4 | exact at5 | exact at6 | exact at7); exact rfl; exact rfl; exact rfl))
      · first | refine bodyQ_r1 (by ((conv => lhs; whnf) <;> exact rfl)) ?_ | refine bodyQ_r2 (by ((conv => lhs; whnf) <;> exact rfl)) (by ((conv => lhs; whnf) <;> exact rfl)) ?_ | refine bodyQ_r3 (by ((conv => lhs; whnf) <;> exact rfl)) (by ((conv => lhs; whnf) <;> exact rfl)) (by ((conv => lhs; whnf) <;> exact rfl)) ?_ | refine bodyQ_r0 ?_ | refine bodyQ_n0 ?_
        subst hZ
        rw [← hp] at h4
        refine ⟨_, Ent.refl _ _, .inl ⟨rfl, o2, J2, h1, ?_, fun j hj hk => ?_, h4, rfl⟩⟩
        · have e := congrArg (List.take i) h2
          rwa [List.take_take, List.take_take, Nat.min_eq_left (by omega)] at e
        · rcases Nat.lt_or_ge i j with h | h
          · exact h3 j h hk
          · obtain rfl : j = i := by omega
            have e := congrArg (fun l => l.getD j 0) h2
            simp only [List.getD_eq_getElem?_getD] at e
            rw [List.getElem?_take_of_lt (by omega), List.getElem?_take_of_lt (by omega)] at e
            have := hkn j (Nat.le_refl j) hk
            simp only [List.getD_eq_getElem?_getD] at this ⊢
            rw [e, this]
      · first | refine bodyQ_r1 (by ((conv => lhs; whnf) <;> exact rfl)) ?_ | refine bodyQ_r2 (by ((conv => lhs; whnf) <;> exact rfl)) (by ((conv => lhs; whnf) <;> exact rfl)) ?_ | refine bodyQ_r3 (by ((conv => lhs; whnf) <;> exact rfl)) (by ((conv => lhs; whnf) <;> exact rfl)) (by ((conv => lhs; whnf) <;> exact rfl)) ?_ | refine bodyQ_r0 ?_ | refine bodyQ_n0 ?_
        subst hZ
        exact ⟨_, Ent.refl _ _, .inr ⟨rfl, cc, o2, J2, h1, h2, rfl⟩⟩
end Go.Proofs.Ytmclgfipdgmomaa
namespace Go.Proofs.Ytmclgfipdgmomaa
open Go.RowKit
def maskS (n : Nat) (S : List Nat) : Array Bool := ((List.range n).map fun i => memN i S).toArray
section
variable {P : Program} {n : Nat} {w0 : World} {Q : Exit → Fm → List Res → Prop} {K : Fm → List Res → Prop} {F : Fm} {L : List Res} {l : List Oper} {N f : Nat} {S : List Nat}
def OKa (P : Program) (n : Nat) (w0 : World) (K : Fm → List Res → Prop) (l : List Oper) (N f : Nat) (S : List Nat) (F : Fm) (L : List Res) : Prop :=
  ∀ w a, Fr n a F → Hp w0.heap.size w0 w L → wpAny P .any l.toArray (liftN n w0 K) f (maskS N S) a w
theorem OKa.use (h : OKa P n w0 K l N f S F L) : ∀ w a, Fr n a F → Hp w0.heap.size w0 w L → wpAny P .any l.toArray (liftN n w0 K) f (maskS N S) a w := h
theorem OKa_ent {L' : List Res} (e : Ent w0 L L') (h : OKa P n w0 K l N f S F L') : OKa P n w0 K l N f S F L := fun w a hf hp => h w a hf (e.use w hp)
theorem OK_anyR {id : Nat} (N : Nat) (hm : P.follows .mixedOrders = true) (hN : Nat.beq l.length N = true) (h : OKa P n w0 (Q .normal) l N N [] F L) : OK P n w0 Q (.region id l.toArray true) F L := by
  obtain rfl : l.length = N := Nat.eq_of_beq_eq_true hN
  refine OK.mk' fun w a hf hp => wp_region_any hm ?_
  have h1 := h w.drew a hf hp.drew
  have e : maskS l.length [] = Array.replicate l.toArray.size false := by
    unfold maskS
    apply Array.ext
    · simp
    · intro i h1 h2; simp [memN]
  rw [e] at h1
  have wm : ∀ (f : Nat) (ls : Array Bool) (a : Act) (w : World), wpAny P .any l.toArray (liftN n w0 (Q .normal)) f ls a w → wpAny P .any l.toArray (lift n w0 Q) f ls a w := by
    intro f
    induction f with
    | zero =>
      rintro ls a w ⟨h1, _, F', L', h2, h3, h4⟩
      exact ⟨h1, F', L', h2, h3, h4⟩
    | succ f ih =>
      rintro ls a w ⟨h1, h2⟩
      refine ⟨fun h0 => ?_, fun i hi => ?_⟩
      · obtain ⟨_, F', L', h2, h3, h4⟩ := h1 h0
        exact ⟨F', L', h2, h3, h4⟩
      · have h5 := h2 i hi
        unfold wpOp at h5 ⊢
        split
        · rename_i ho
          simp only [ho] at h5
          exact ih _ _ _ h5
        · rename_i o ho
          simp only [ho] at h5
          split
          · rename_i hw
            rw [if_pos hw] at h5
            rcases h5 with h5 | ⟨_, a9, w9, h9, _⟩
            · exact .inl (wp_anyQ (fun c a w h => by cases h.1) (by rintro ⟨a, w, h, _⟩; cases h) (Oper.wp_mono (fun a w h => ih _ _ _ h) h5))
            · cases h9
          · rename_i hw
            rw [if_neg hw] at h5
            exact ih _ _ _ h5
  have h2 := wm _ _ _ _ h1
  have e2 : l.toArray.size = l.length := by simp
  rw [e2]
  rw [e2] at h2
  exact h2
theorem OKa_end (hr : (Region.ready .any l.toArray (maskS N S)).isEmpty = true) (h : K F L) : OKa P n w0 K l N 0 S F L :=
  fun w a hf hp => ⟨List.isEmpty_iff.1 hr, rfl, F, L, hf, hp, h⟩
theorem OKa_stepG (kids : List (Nat × List Nat)) (hr : Region.ready .any l.toArray (maskS N S) = kids.map (·.1)) (hne : kids ≠ []) (h : ∀ k ∈ kids, maskS N k.2 = (maskS N S).setIfInBounds k.1 true ∧ ∃ o, l[k.1]? = some o ∧ OKx P n w0 (.seq []) l.toArray (fun F L => OKa P n w0 K l N f k.2 F L) [o] F L) :
    OKa P n w0 K l N (f + 1) S F L := by
  intro w a hf hp
  refine ⟨fun h0 => ?_, fun i hi => ?_⟩
  · rw [hr] at h0
    exact absurd (List.map_eq_nil_iff.1 h0) hne
  · rw [hr] at hi
    obtain ⟨k, hk, rfl⟩ := List.mem_map.1 hi
    obtain ⟨hm, o, ho, hx⟩ := h k hk
    obtain ⟨_, h1⟩ := hx.use w a hf hp
    unfold wpOp
    have ho' : l.toArray[k.1]? = some o := by simpa using ho
    rw [ho']
    dsimp only
    rw [← hm]
    split
    · rename_i hw
      rw [if_pos hw] at h1
      refine .inl (Oper.wp_mono ?_ (wp_anyQ (fun c a w h => by cases h.1) (by rintro ⟨a, w, h, _⟩; cases h) h1))
      rintro a2 w2 ⟨_, _, F', L', h2, h3, h4⟩
      exact OKa.use h4 _ _ h2 h3
    · rename_i hw
      rw [if_neg hw] at h1
      obtain ⟨_, _, F', L', h2, h3, h4⟩ := h1
      exact OKa.use h4 _ _ h2 h3
def kidOk (l : List Oper) (N : Nat) (S : List Nat) (i : Nat) (S' : List Nat) : Bool := (maskS N S').toList == ((maskS N S).setIfInBounds i true).toList
theorem kidOk_eq {i : Nat} {S' : List Nat} (h : kidOk l N S i S' = true) : maskS N S' = (maskS N S).setIfInBounds i true := by
  unfold kidOk at h
  exact Array.toList_inj.1 (beq_iff_eq.1 h)
theorem OKa_step1 {i1 : Nat} {S1 : List Nat} {o1 : Oper} (hr : Region.ready .any l.toArray (maskS N S) = [i1]) (m1 : kidOk l N S i1 S1 = true) (g1 : l[i1]? = some o1)
    (k1 : OKx P n w0 (.seq []) l.toArray (fun F L => OKa P n w0 K l N f S1 F L) [o1] F L) : OKa P n w0 K l N (f + 1) S F L :=
  OKa_stepG [(i1, S1)] hr (by simp) fun k hk => by
    obtain rfl := List.mem_singleton.1 hk
    exact ⟨kidOk_eq m1, o1, g1, k1⟩
theorem OKa_step2 {i1 i2 : Nat} {S1 S2 : List Nat} {o1 o2 : Oper} (hr : Region.ready .any l.toArray (maskS N S) = [i1, i2]) (m1 : kidOk l N S i1 S1 = true) (m2 : kidOk l N S i2 S2 = true) (g1 : l[i1]? = some o1) (g2 : l[i2]? = some o2)
    (k1 : OKx P n w0 (.seq []) l.toArray (fun F L => OKa P n w0 K l N f S1 F L) [o1] F L) (k2 : OKx P n w0 (.seq []) l.toArray (fun F L => OKa P n w0 K l N f S2 F L) [o2] F L) : OKa P n w0 K l N (f + 1) S F L :=
  OKa_stepG [(i1, S1), (i2, S2)] hr (by simp) fun k hk => by
    simp only [List.mem_cons, List.not_mem_nil, or_false] at hk
    rcases hk with rfl | rfl
    · exact ⟨kidOk_eq m1, o1, g1, k1⟩
    · exact ⟨kidOk_eq m2, o2, g2, k2⟩
theorem OKa_step3 {i1 i2 i3 : Nat} {S1 S2 S3 : List Nat} {o1 o2 o3 : Oper} (hr : Region.ready .any l.toArray (maskS N S) = [i1, i2, i3]) (m1 : kidOk l N S i1 S1 = true) (m2 : kidOk l N S i2 S2 = true) (m3 : kidOk l N S i3 S3 = true) (g1 : l[i1]? = some o1) (g2 : l[i2]? = some o2) (g3 : l[i3]? = some o3)
    (k1 : OKx P n w0 (.seq []) l.toArray (fun F L => OKa P n w0 K l N f S1 F L) [o1] F L) (k2 : OKx P n w0 (.seq []) l.toArray (fun F L => OKa P n w0 K l N f S2 F L) [o2] F L) (k3 : OKx P n w0 (.seq []) l.toArray (fun F L => OKa P n w0 K l N f S3 F L) [o3] F L) : OKa P n w0 K l N (f + 1) S F L :=
  OKa_stepG [(i1, S1), (i2, S2), (i3, S3)] hr (by simp) fun k hk => by
    simp only [List.mem_cons, List.not_mem_nil, or_false] at hk
    rcases hk with rfl | rfl | rfl
    · exact ⟨kidOk_eq m1, o1, g1, k1⟩
    · exact ⟨kidOk_eq m2, o2, g2, k2⟩
    · exact ⟨kidOk_eq m3, o3, g3, k3⟩
theorem OKa_step4 {i1 i2 i3 i4 : Nat} {S1 S2 S3 S4 : List Nat} {o1 o2 o3 o4 : Oper} (hr : Region.ready .any l.toArray (maskS N S) = [i1, i2, i3, i4]) (m1 : kidOk l N S i1 S1 = true) (m2 : kidOk l N S i2 S2 = true) (m3 : kidOk l N S i3 S3 = true) (m4 : kidOk l N S i4 S4 = true) (g1 : l[i1]? = some o1) (g2 : l[i2]? = some o2) (g3 : l[i3]? = some o3) (g4 : l[i4]? = some o4)
    (k1 : OKx P n w0 (.seq []) l.toArray (fun F L => OKa P n w0 K l N f S1 F L) [o1] F L) (k2 : OKx P n w0 (.seq []) l.toArray (fun F L => OKa P n w0 K l N f S2 F L) [o2] F L) (k3 : OKx P n w0 (.seq []) l.toArray (fun F L => OKa P n w0 K l N f S3 F L) [o3] F L) (k4 : OKx P n w0 (.seq []) l.toArray (fun F L => OKa P n w0 K l N f S4 F L) [o4] F L) : OKa P n w0 K l N (f + 1) S F L :=
  OKa_stepG [(i1, S1), (i2, S2), (i3, S3), (i4, S4)] hr (by simp) fun k hk => by
    simp only [List.mem_cons, List.not_mem_nil, or_false] at hk
    rcases hk with rfl | rfl | rfl | rfl
    · exact ⟨kidOk_eq m1, o1, g1, k1⟩
    · exact ⟨kidOk_eq m2, o2, g2, k2⟩
    · exact ⟨kidOk_eq m3, o3, g3, k3⟩
    · exact ⟨kidOk_eq m4, o4, g4, k4⟩
theorem OK_any4 (N f : Nat) (S W : List Nat) (s1 s2 s3 s4 : Nat) (Mid : Value → Value → Value → Value → List Res → Prop) {id : Nat} (hm : P.follows .mixedOrders = true) (hN : Nat.beq l.length N = true)
    (h2 : ∀ v1 v2 v3 v4 L1 G, Mid v1 v2 v3 v4 L1 → OKa P n w0 (Q .normal) l N f S (upd (upd (upd (upd (over W G F) s1 v1) s2 v2) s3 v3) s4 v4) L1)
    (h1 : (∀ F'' L'', (agree W F'' F ∧ ∃ L1, Ent w0 L'' L1 ∧ Mid (F'' (some s1)) (F'' (some s2)) (F'' (some s3)) (F'' (some s4)) L1) → OKa P n w0 (Q .normal) l N f S F'' L'') → OKa P n w0 (Q .normal) l N N [] F L) :
    OK P n w0 Q (.region id l.toArray true) F L := by
  refine OK_anyR N hm hN (h1 ?_)
  rintro F'' L'' ⟨ha, L1, e, hM⟩
  have hk := h2 _ _ _ _ L1 F'' hM
  rw [← over_upd ha, upd_self, upd_self, upd_self, upd_self] at hk
  exact OKa_ent e hk
end
attribute [irreducible] OKa
end Go.Proofs.Ytmclgfipdgmomaa
namespace Go.Proofs.Ytmclgfipdgmomaa
open Go.RowKit
set_option maxRecDepth 100000 in
set_option maxHeartbeats 4000000 in
theorem asg_sat (a : Option Addr) (n c : Nat) (w : World) : Sat Try.prog 95 [.slice a n c] w (fun u L => ∃ g1, u = .func (.func 114) #[] #[.pointer (some ⟨g1, 0, none⟩)] ∧ L = [.box 27 g1 [.slice a n c]]) := by
  refine SatL.of 4 [2] Try.func95 (by kernel_rfl) (by kernel_rfl) rfl rfl rfl rfl ?_
  repeat' (first | (apply OK_seq) | (apply thenQ_n) | (apply OK_region) | (apply OKx_nilK) | (apply OK_block) | (apply blockQ_n) | (apply blockQ_s) | (apply thenQ_e) | (apply blockQ_e; exact rfl) | (apply thenQ_r) | (apply blockQ_r) | (apply OK_condT; exact rfl) | (apply OK_condF; exact rfl) | (apply OK_skip) | (apply OK_exit) | (apply OK_ret) | (apply OKx_assign; ((conv => lhs; whnf) <;> exact rfl)) | (apply OKx_box1; ((conv => lhs; whnf) <;> exact rfl); exact rfl; intro _) | (apply OKx_func; exact rfl; exact rfl))
  rename_i g1
  first | refine bodyQ_r1 (by ((conv => lhs; whnf) <;> exact rfl)) ?_ | refine bodyQ_r2 (by ((conv => lhs; whnf) <;> exact rfl)) (by ((conv => lhs; whnf) <;> exact rfl)) ?_ | refine bodyQ_r3 (by ((conv => lhs; whnf) <;> exact rfl)) (by ((conv => lhs; whnf) <;> exact rfl)) (by ((conv => lhs; whnf) <;> exact rfl)) ?_ | refine bodyQ_r0 ?_ | refine bodyQ_n0 ?_
  exact ⟨_, Ent.refl _ _, g1, rfl, rfl⟩
def ItR (Br : List Res) (Bd : Code → List Res) (P : List Res → Prop) (JE : Code → List Res → Prop) (_ : Value) (L : List Res) : Prop := (∃ J', P J' ∧ L = J' ++ Br) ∨ (∃ c J', JE c J' ∧ L = J' ++ Bd c)
set_option maxRecDepth 100000 in
set_option maxHeartbeats 4000000 in
set_option maxRecDepth 100000 in
set_option maxHeartbeats 4000000 in
theorem asgI_sat (y N g1 : Nat) (sv : Value) (st : List Int) (w0 : World) (J Br : List Res) (Bd : Code → List Res) (JP : List (List Int) → List Res → Prop) (JE : Code → List Res → Prop)
    (hsv : Ints w0 sv st) (hN : st.length = N) (hN8 : N ≤ 1000) (hr : ∀ x ∈ st, x < 16) (hJ : JP [] J)
    (hy : ∀ m g c gy go gf gv ov o pre J, (0 < N → ∃ g c, ov = .slice (some ⟨g, 0, none⟩) N c) → o.length = N → JP pre J → (pre ++ [o]) <+: asgs (occ st) st →
      SatY Try.prog y [ov] w0 ((rA ov N o :: (J ++ zA y m g c g1 gy go gf gv sv ov (occ st))) ++ Br) (YldR N ov (zA y m g c g1 gy go gf gv sv ov (occ st)) Br Bd JP JE o pre)) :
    SatL Try.prog 114 [.func (.yield y) #[] #[], .pointer (some ⟨g1, 0, none⟩)] w0 (.box 27 g1 [sv] :: (J ++ Br)) (ItR Br Bd (JP (asgs (occ st) st)) JE) := by
  generalize hR : ItR Br Bd (JP (asgs (occ st) st)) JE = R
  subst hN
  refine SatL.of 13 [] Try.func114 (by kernel_rfl) (by kernel_rfl) rfl rfl rfl rfl ?_
  repeat' (first | (apply OK_seq) | (apply thenQ_n) | (apply OK_region) | (apply OKx_nilK) | (apply OK_block) | (apply blockQ_n) | (apply blockQ_s) | (apply thenQ_e) | (apply blockQ_e; exact rfl) | (apply thenQ_r) | (apply blockQ_r) | (apply OK_condT; exact rfl) | (apply OK_condF; exact rfl) | (apply OK_skip) | (apply OK_exit) | (apply OK_ret) | (apply OKx_ldB; exact rfl; (first | exact at0 | exact at1 | exact at2 | exact at3 | exact at4 | exact at5 | exact at6 | exact at7); exact rfl) | (apply OKx_ldR; ((conv => lhs; whnf) <;> exact rfl); (with_reducible assumption)) | (apply OKx_alloc1; intro _) | (apply OKx_stB; exact rfl; ((conv => lhs; whnf) <;> exact rfl); exact rfl; exact rfl; (first | exact at0 | exact at1 | exact at2 | exact at3 | exact at4 | exact at5 | exact at6 | exact at7); exact rfl; exact rfl; exact rfl) | (apply OKx_box1; ((conv => lhs; whnf) <;> exact rfl); exact rfl; intro _) | (apply OKx_func; exact rfl; exact rfl) | (refine OKa_end (S := []) (by kernel_rfl) ?_))
  rename_i gy
  refine OK_any4 8 2 [0, 1, 2, 3, 4, 5] [3, 4, 6, 7, 8, 9] 3 4 7 9 (fun v3 v4 v7 v9 L1 => ∃ g3 g4 g m c oa oc, v3 = .pointer (some ⟨g3, 0, none⟩) ∧ v4 = .pointer (some ⟨g4, 0, none⟩) ∧ v7 = .slice (some ⟨g, 0, none⟩) m c ∧ v9 = .slice oa st.length oc ∧
    m = (occ st).length ∧ (0 < st.length → ∃ g, oa = some ⟨g, 0, none⟩) ∧ L1 = .box 27 g3 [.slice none 0 0] :: .box 27 g4 [.slice none 0 0] :: .row 3 1 (.slice (some ⟨g, 0, none⟩) m c) m (ints (occ st)) :: .row 3 1 (.slice oa st.length oc) st.length (ints st) ::
      .box 49 gy [.func (.yield y) #[] #[]] :: .box 27 g1 [sv] :: (J ++ Br)) (id := 1) (by kernel_rfl) (by kernel_rfl) ?_ ?_
  · rintro _ _ _ _ _ G ⟨g3, g4, g, m, c, oa, oc, rfl, rfl, rfl, rfl, hm, hov, rfl⟩
    repeat' (first | (apply OK_seq) | (apply thenQ_n) | (apply OK_region) | (apply OKx_nilK) | (apply OK_block) | (apply blockQ_n) | (apply blockQ_s) | (apply thenQ_e) | (apply blockQ_e; exact rfl) | (apply thenQ_r) | (apply blockQ_r) | (apply OK_condT; exact rfl) | (apply OK_condF; exact rfl) | (apply OK_skip) | (apply OK_exit) | (apply OK_ret) | (apply OKx_ldB; exact rfl; (first | exact at0 | exact at1 | exact at2 | exact at3 | exact at4 | exact at5 | exact at6 | exact at7); exact rfl) | (apply OKx_ldR; ((conv => lhs; whnf) <;> exact rfl); (with_reducible assumption)) | (apply OKx_alloc1; intro _) | (apply OKx_stB; exact rfl; ((conv => lhs; whnf) <;> exact rfl); exact rfl; exact rfl; (first | exact at0 | exact at1 | exact at2 | exact at3 | exact at4 | exact at5 | exact at6 | exact at7); exact rfl; exact rfl; exact rfl) | (apply OKx_box1; ((conv => lhs; whnf) <;> exact rfl); exact rfl; intro _) | (apply OKx_func; exact rfl; exact rfl) | (refine OKa_step4 (S := []) (i1 := 0) (S1 := [0]) (i2 := 2) (S2 := [2]) (i3 := 4) (S3 := [4]) (i4 := 5) (S4 := [5]) (by kernel_rfl) (by kernel_rfl) (by kernel_rfl) (by kernel_rfl) (by kernel_rfl) rfl rfl rfl rfl ?_ ?_ ?_ ?_) | (refine OKa_step3 (S := [5]) (i1 := 0) (S1 := [0, 5]) (i2 := 2) (S2 := [2, 5]) (i3 := 4) (S3 := [4, 5]) (by kernel_rfl) (by kernel_rfl) (by kernel_rfl) (by kernel_rfl) rfl rfl rfl ?_ ?_ ?_) | (refine OKa_step2 (S := [4, 5]) (i1 := 0) (S1 := [0, 4, 5]) (i2 := 2) (S2 := [2, 4, 5]) (by kernel_rfl) (by kernel_rfl) (by kernel_rfl) rfl rfl ?_ ?_) | (refine OKa_step1 (S := [2, 4, 5]) (i1 := 0) (S1 := [0, 2, 4, 5]) (by kernel_rfl) (by kernel_rfl) rfl ?_) | (refine OKa_step1 (S := [0, 2, 4, 5]) (i1 := 1) (S1 := [0, 1, 2, 4, 5]) (by kernel_rfl) (by kernel_rfl) rfl ?_) | (refine OKa_step1 (S := [0, 1, 2, 4, 5]) (i1 := 3) (S1 := [0, 1, 2, 3, 4, 5]) (by kernel_rfl) (by kernel_rfl) rfl ?_) | (refine OKa_step1 (S := [0, 1, 2, 3, 4, 5]) (i1 := 6) (S1 := [0, 1, 2, 3, 4, 5, 6]) (by kernel_rfl) (by kernel_rfl) rfl ?_) | (refine OKa_step1 (S := [0, 1, 2, 3, 4, 5, 6]) (i1 := 7) (S1 := [0, 1, 2, 3, 4, 5, 6, 7]) (by kernel_rfl) (by kernel_rfl) rfl ?_) | (refine OKa_end (S := [0, 1, 2, 3, 4, 5, 6, 7]) (by kernel_rfl) ?_) | (refine OKa_step2 (S := [0, 4, 5]) (i1 := 1) (S1 := [0, 1, 4, 5]) (i2 := 2) (S2 := [0, 2, 4, 5]) (by kernel_rfl) (by kernel_rfl) (by kernel_rfl) rfl rfl ?_ ?_) | (refine OKa_step1 (S := [0, 1, 4, 5]) (i1 := 2) (S1 := [0, 1, 2, 4, 5]) (by kernel_rfl) (by kernel_rfl) rfl ?_) | (refine OKa_step2 (S := [2, 5]) (i1 := 0) (S1 := [0, 2, 5]) (i2 := 4) (S2 := [2, 4, 5]) (by kernel_rfl) (by kernel_rfl) (by kernel_rfl) rfl rfl ?_ ?_) | (refine OKa_step2 (S := [0, 2, 5]) (i1 := 1) (S1 := [0, 1, 2, 5]) (i2 := 4) (S2 := [0, 2, 4, 5]) (by kernel_rfl) (by kernel_rfl) (by kernel_rfl) rfl rfl ?_ ?_) | (refine OKa_step2 (S := [0, 1, 2, 5]) (i1 := 3) (S1 := [0, 1, 2, 3, 5]) (i2 := 4) (S2 := [0, 1, 2, 4, 5]) (by kernel_rfl) (by kernel_rfl) (by kernel_rfl) rfl rfl ?_ ?_) | (refine OKa_step1 (S := [0, 1, 2, 3, 5]) (i1 := 4) (S1 := [0, 1, 2, 3, 4, 5]) (by kernel_rfl) (by kernel_rfl) rfl ?_) | (refine OKa_step3 (S := [0, 5]) (i1 := 1) (S1 := [0, 1, 5]) (i2 := 2) (S2 := [0, 2, 5]) (i3 := 4) (S3 := [0, 4, 5]) (by kernel_rfl) (by kernel_rfl) (by kernel_rfl) (by kernel_rfl) rfl rfl rfl ?_ ?_ ?_) | (refine OKa_step2 (S := [0, 1, 5]) (i1 := 2) (S1 := [0, 1, 2, 5]) (i2 := 4) (S2 := [0, 1, 4, 5]) (by kernel_rfl) (by kernel_rfl) (by kernel_rfl) rfl rfl ?_ ?_) | (refine OKa_step3 (S := [4]) (i1 := 0) (S1 := [0, 4]) (i2 := 2) (S2 := [2, 4]) (i3 := 5) (S3 := [4, 5]) (by kernel_rfl) (by kernel_rfl) (by kernel_rfl) (by kernel_rfl) rfl rfl rfl ?_ ?_ ?_) | (refine OKa_step2 (S := [2, 4]) (i1 := 0) (S1 := [0, 2, 4]) (i2 := 5) (S2 := [2, 4, 5]) (by kernel_rfl) (by kernel_rfl) (by kernel_rfl) rfl rfl ?_ ?_) | (refine OKa_step2 (S := [0, 2, 4]) (i1 := 1) (S1 := [0, 1, 2, 4]) (i2 := 5) (S2 := [0, 2, 4, 5]) (by kernel_rfl) (by kernel_rfl) (by kernel_rfl) rfl rfl ?_ ?_) | (refine OKa_step2 (S := [0, 1, 2, 4]) (i1 := 3) (S1 := [0, 1, 2, 3, 4]) (i2 := 5) (S2 := [0, 1, 2, 4, 5]) (by kernel_rfl) (by kernel_rfl) (by kernel_rfl) rfl rfl ?_ ?_) | (refine OKa_step1 (S := [0, 1, 2, 3, 4]) (i1 := 5) (S1 := [0, 1, 2, 3, 4, 5]) (by kernel_rfl) (by kernel_rfl) rfl ?_) | (refine OKa_step3 (S := [0, 4]) (i1 := 1) (S1 := [0, 1, 4]) (i2 := 2) (S2 := [0, 2, 4]) (i3 := 5) (S3 := [0, 4, 5]) (by kernel_rfl) (by kernel_rfl) (by kernel_rfl) (by kernel_rfl) rfl rfl rfl ?_ ?_ ?_) | (refine OKa_step2 (S := [0, 1, 4]) (i1 := 2) (S1 := [0, 1, 2, 4]) (i2 := 5) (S2 := [0, 1, 4, 5]) (by kernel_rfl) (by kernel_rfl) (by kernel_rfl) rfl rfl ?_ ?_) | (refine OKa_step3 (S := [2]) (i1 := 0) (S1 := [0, 2]) (i2 := 4) (S2 := [2, 4]) (i3 := 5) (S3 := [2, 5]) (by kernel_rfl) (by kernel_rfl) (by kernel_rfl) (by kernel_rfl) rfl rfl rfl ?_ ?_ ?_) | (refine OKa_step3 (S := [0, 2]) (i1 := 1) (S1 := [0, 1, 2]) (i2 := 4) (S2 := [0, 2, 4]) (i3 := 5) (S3 := [0, 2, 5]) (by kernel_rfl) (by kernel_rfl) (by kernel_rfl) (by kernel_rfl) rfl rfl rfl ?_ ?_ ?_) | (refine OKa_step3 (S := [0, 1, 2]) (i1 := 3) (S1 := [0, 1, 2, 3]) (i2 := 4) (S2 := [0, 1, 2, 4]) (i3 := 5) (S3 := [0, 1, 2, 5]) (by kernel_rfl) (by kernel_rfl) (by kernel_rfl) (by kernel_rfl) rfl rfl rfl ?_ ?_ ?_) | (refine OKa_step2 (S := [0, 1, 2, 3]) (i1 := 4) (S1 := [0, 1, 2, 3, 4]) (i2 := 5) (S2 := [0, 1, 2, 3, 5]) (by kernel_rfl) (by kernel_rfl) (by kernel_rfl) rfl rfl ?_ ?_) | (refine OKa_step4 (S := [0]) (i1 := 1) (S1 := [0, 1]) (i2 := 2) (S2 := [0, 2]) (i3 := 4) (S3 := [0, 4]) (i4 := 5) (S4 := [0, 5]) (by kernel_rfl) (by kernel_rfl) (by kernel_rfl) (by kernel_rfl) (by kernel_rfl) rfl rfl rfl rfl ?_ ?_ ?_ ?_) | (refine OKa_step3 (S := [0, 1]) (i1 := 2) (S1 := [0, 1, 2]) (i2 := 4) (S2 := [0, 1, 4]) (i3 := 5) (S3 := [0, 1, 5]) (by kernel_rfl) (by kernel_rfl) (by kernel_rfl) (by kernel_rfl) rfl rfl rfl ?_ ?_ ?_))
    rename_i gf
    have e : ∀ (Z : List Res), Ent w0 (.box 63 gf [.func (.func 115) #[] (capsA g1 gy g4 gf g3).toArray] :: .box 27 g3 [.slice (some ⟨g, 0, none⟩) m c] :: .box 27 g4 [.slice oa st.length oc] :: .row 3 1 (.slice (some ⟨g, 0, none⟩) m c) m (ints (occ st)) :: .row 3 1 (.slice oa st.length oc) st.length (ints st) ::
      .box 49 gy [.func (.yield y) #[] #[]] :: .box 27 g1 [sv] :: Z) (rA (.slice oa st.length oc) st.length st :: (zA y m g c g1 gy g4 gf g3 sv (.slice oa st.length oc) (occ st) ++ Z)) := fun Z => Ent.pickT [_, _, _, _, _, _, _] Z [4, 6, 5, 2, 0, 1, 3] rfl
    have hf := fill_sat y st.length m g c g1 gy g4 gf g3 sv (.slice oa st.length oc) (occ st) st (asgs (occ st) st) w0 Br Bd JP JE hsv rfl hN8 (fun h => by obtain ⟨g, rfl⟩ := hov h; exact ⟨g, oc, rfl⟩) hm.symm (by have := occ_le st; omega)
      (fun o pre J => hy m g c gy g4 gf g3 _ o pre J (fun h => by obtain ⟨g, rfl⟩ := hov h; exact ⟨g, oc, rfl⟩)) st.length 0 st [] J (by omega) rfl (fun _ _ _ => rfl) hJ (by rw [whl_zero, List.nil_append]; exact List.prefix_refl _)
    repeat' (first | (apply OK_seq) | (apply thenQ_n) | (apply OK_region) | (refine OKx_callL (f := 115) rfl rfl (hf.pre (e (J ++ Br))) ?_; rintro _ _ (⟨rfl, o2, J2, h1, h2, h3, h4, rfl⟩ | ⟨rfl, cc, o2, J2, h1, h2, rfl⟩)) | (apply OKx_nilK) | (apply OK_block) | (apply blockQ_n) | (apply blockQ_s) | (apply thenQ_e) | (apply blockQ_e; exact rfl) | (apply thenQ_r) | (apply blockQ_r) | (apply OK_condT; exact rfl) | (apply OK_condF; exact rfl) | (apply OK_skip) | (apply OK_exit) | (apply OK_ret) | (apply OKx_ldB; exact rfl; (first | exact at0 | exact at1 | exact at2 | exact at3 | exact at4 | exact at5 | exact at6 | exact at7); exact rfl) | (apply OKx_ldR; ((conv => lhs; whnf) <;> exact rfl); (with_reducible assumption)) | (apply OKx_alloc1; intro _) | (apply OKx_stB; exact rfl; ((conv => lhs; whnf) <;> exact rfl); exact rfl; exact rfl; (first | exact at0 | exact at1 | exact at2 | exact at3 | exact at4 | exact at5 | exact at6 | exact at7); exact rfl; exact rfl; exact rfl) | (apply OKx_box1; ((conv => lhs; whnf) <;> exact rfl); exact rfl; intro _) | (apply OKx_func; exact rfl; exact rfl) | (refine OKa_end (S := []) (by kernel_rfl) ?_))
    · first | refine bodyQ_r0 ?_ | refine bodyQ_n0 ?_
      subst hR
      rw [whl_zero, List.nil_append] at h4
      exact ⟨_, Ent.sub ((List.sublist_append_right _ _).cons _), .inl ⟨J2, h4, rfl⟩⟩
    · first | refine bodyQ_r0 ?_ | refine bodyQ_n0 ?_
      subst hR
      exact ⟨_, Ent.sub ((List.sublist_append_right _ _).cons _), .inr ⟨cc, J2, h2, rfl⟩⟩
  · intro hS0
    repeat' (first | (apply OK_seq) | (apply thenQ_n) | (apply OK_region) | (refine OKx_call (f := 112) rfl rfl (fun w1 hp => occur_sat _ st w1 (hsv.below hp.below) hr (by omega)) ?_; rintro _ _ ⟨g, m, c, hm, rfl, rfl⟩; rw [List.cons_append, List.nil_append]) | (refine OKx_call (f := 30) rfl rfl (fun w1 hp => cloneI_sat _ st w1 (hsv.below hp.below) (by omega)) ?_; rintro _ _ ⟨⟨oa, oc, rfl, hov⟩, rfl⟩; rw [List.cons_append, List.nil_append]) | (apply OKx_nilK) | (apply OK_block) | (apply blockQ_n) | (apply blockQ_s) | (apply thenQ_e) | (apply blockQ_e; exact rfl) | (apply thenQ_r) | (apply blockQ_r) | (apply OK_condT; exact rfl) | (apply OK_condF; exact rfl) | (apply OK_skip) | (apply OK_exit) | (apply OK_ret) | (apply OKx_ldB; exact rfl; (first | exact at0 | exact at1 | exact at2 | exact at3 | exact at4 | exact at5 | exact at6 | exact at7); exact rfl) | (apply OKx_ldR; ((conv => lhs; whnf) <;> exact rfl); (with_reducible assumption)) | (apply OKx_alloc1; intro _) | (apply OKx_stB; exact rfl; ((conv => lhs; whnf) <;> exact rfl); exact rfl; exact rfl; (first | exact at0 | exact at1 | exact at2 | exact at3 | exact at4 | exact at5 | exact at6 | exact at7); exact rfl; exact rfl; exact rfl) | (apply OKx_box1; ((conv => lhs; whnf) <;> exact rfl); exact rfl; intro _) | (apply OKx_func; exact rfl; exact rfl) | (refine OKa_step4 (S := []) (i1 := 0) (S1 := [0]) (i2 := 2) (S2 := [2]) (i3 := 4) (S3 := [4]) (i4 := 5) (S4 := [5]) (by kernel_rfl) (by kernel_rfl) (by kernel_rfl) (by kernel_rfl) (by kernel_rfl) rfl rfl rfl rfl ?_ ?_ ?_ ?_) | (refine OKa_step3 (S := [5]) (i1 := 0) (S1 := [0, 5]) (i2 := 2) (S2 := [2, 5]) (i3 := 4) (S3 := [4, 5]) (by kernel_rfl) (by kernel_rfl) (by kernel_rfl) (by kernel_rfl) rfl rfl rfl ?_ ?_ ?_) | (refine OKa_step2 (S := [4, 5]) (i1 := 0) (S1 := [0, 4, 5]) (i2 := 2) (S2 := [2, 4, 5]) (by kernel_rfl) (by kernel_rfl) (by kernel_rfl) rfl rfl ?_ ?_) | (refine OKa_step1 (S := [2, 4, 5]) (i1 := 0) (S1 := [0, 2, 4, 5]) (by kernel_rfl) (by kernel_rfl) rfl ?_) | (refine OKa_step1 (S := [0, 2, 4, 5]) (i1 := 1) (S1 := [0, 1, 2, 4, 5]) (by kernel_rfl) (by kernel_rfl) rfl ?_) | (refine OKa_step1 (S := [0, 1, 2, 4, 5]) (i1 := 3) (S1 := [0, 1, 2, 3, 4, 5]) (by kernel_rfl) (by kernel_rfl) rfl ?_) | (refine hS0 _ _ ?_) | (refine OKa_step1 (S := [0, 1, 2, 3, 4, 5]) (i1 := 6) (S1 := [0, 1, 2, 3, 4, 5, 6]) (by kernel_rfl) (by kernel_rfl) rfl ?_) | (refine OKa_step1 (S := [0, 1, 2, 3, 4, 5, 6]) (i1 := 7) (S1 := [0, 1, 2, 3, 4, 5, 6, 7]) (by kernel_rfl) (by kernel_rfl) rfl ?_) | (refine OKa_end (S := [0, 1, 2, 3, 4, 5, 6, 7]) (by kernel_rfl) ?_) | (refine OKa_step2 (S := [0, 4, 5]) (i1 := 1) (S1 := [0, 1, 4, 5]) (i2 := 2) (S2 := [0, 2, 4, 5]) (by kernel_rfl) (by kernel_rfl) (by kernel_rfl) rfl rfl ?_ ?_) | (refine OKa_step1 (S := [0, 1, 4, 5]) (i1 := 2) (S1 := [0, 1, 2, 4, 5]) (by kernel_rfl) (by kernel_rfl) rfl ?_) | (refine OKa_step2 (S := [2, 5]) (i1 := 0) (S1 := [0, 2, 5]) (i2 := 4) (S2 := [2, 4, 5]) (by kernel_rfl) (by kernel_rfl) (by kernel_rfl) rfl rfl ?_ ?_) | (refine OKa_step2 (S := [0, 2, 5]) (i1 := 1) (S1 := [0, 1, 2, 5]) (i2 := 4) (S2 := [0, 2, 4, 5]) (by kernel_rfl) (by kernel_rfl) (by kernel_rfl) rfl rfl ?_ ?_) | (refine OKa_step2 (S := [0, 1, 2, 5]) (i1 := 3) (S1 := [0, 1, 2, 3, 5]) (i2 := 4) (S2 := [0, 1, 2, 4, 5]) (by kernel_rfl) (by kernel_rfl) (by kernel_rfl) rfl rfl ?_ ?_) | (refine OKa_step1 (S := [0, 1, 2, 3, 5]) (i1 := 4) (S1 := [0, 1, 2, 3, 4, 5]) (by kernel_rfl) (by kernel_rfl) rfl ?_) | (refine OKa_step3 (S := [0, 5]) (i1 := 1) (S1 := [0, 1, 5]) (i2 := 2) (S2 := [0, 2, 5]) (i3 := 4) (S3 := [0, 4, 5]) (by kernel_rfl) (by kernel_rfl) (by kernel_rfl) (by kernel_rfl) rfl rfl rfl ?_ ?_ ?_) | (refine OKa_step2 (S := [0, 1, 5]) (i1 := 2) (S1 := [0, 1, 2, 5]) (i2 := 4) (S2 := [0, 1, 4, 5]) (by kernel_rfl) (by kernel_rfl) (by kernel_rfl) rfl rfl ?_ ?_) | (refine OKa_step3 (S := [4]) (i1 := 0) (S1 := [0, 4]) (i2 := 2) (S2 := [2, 4]) (i3 := 5) (S3 := [4, 5]) (by kernel_rfl) (by kernel_rfl) (by kernel_rfl) (by kernel_rfl) rfl rfl rfl ?_ ?_ ?_) | (refine OKa_step2 (S := [2, 4]) (i1 := 0) (S1 := [0, 2, 4]) (i2 := 5) (S2 := [2, 4, 5]) (by kernel_rfl) (by kernel_rfl) (by kernel_rfl) rfl rfl ?_ ?_) | (refine OKa_step2 (S := [0, 2, 4]) (i1 := 1) (S1 := [0, 1, 2, 4]) (i2 := 5) (S2 := [0, 2, 4, 5]) (by kernel_rfl) (by kernel_rfl) (by kernel_rfl) rfl rfl ?_ ?_) | (refine OKa_step2 (S := [0, 1, 2, 4]) (i1 := 3) (S1 := [0, 1, 2, 3, 4]) (i2 := 5) (S2 := [0, 1, 2, 4, 5]) (by kernel_rfl) (by kernel_rfl) (by kernel_rfl) rfl rfl ?_ ?_) | (refine OKa_step1 (S := [0, 1, 2, 3, 4]) (i1 := 5) (S1 := [0, 1, 2, 3, 4, 5]) (by kernel_rfl) (by kernel_rfl) rfl ?_) | (refine OKa_step3 (S := [0, 4]) (i1 := 1) (S1 := [0, 1, 4]) (i2 := 2) (S2 := [0, 2, 4]) (i3 := 5) (S3 := [0, 4, 5]) (by kernel_rfl) (by kernel_rfl) (by kernel_rfl) (by kernel_rfl) rfl rfl rfl ?_ ?_ ?_) | (refine OKa_step2 (S := [0, 1, 4]) (i1 := 2) (S1 := [0, 1, 2, 4]) (i2 := 5) (S2 := [0, 1, 4, 5]) (by kernel_rfl) (by kernel_rfl) (by kernel_rfl) rfl rfl ?_ ?_) | (refine OKa_step3 (S := [2]) (i1 := 0) (S1 := [0, 2]) (i2 := 4) (S2 := [2, 4]) (i3 := 5) (S3 := [2, 5]) (by kernel_rfl) (by kernel_rfl) (by kernel_rfl) (by kernel_rfl) rfl rfl rfl ?_ ?_ ?_) | (refine OKa_step3 (S := [0, 2]) (i1 := 1) (S1 := [0, 1, 2]) (i2 := 4) (S2 := [0, 2, 4]) (i3 := 5) (S3 := [0, 2, 5]) (by kernel_rfl) (by kernel_rfl) (by kernel_rfl) (by kernel_rfl) rfl rfl rfl ?_ ?_ ?_) | (refine OKa_step3 (S := [0, 1, 2]) (i1 := 3) (S1 := [0, 1, 2, 3]) (i2 := 4) (S2 := [0, 1, 2, 4]) (i3 := 5) (S3 := [0, 1, 2, 5]) (by kernel_rfl) (by kernel_rfl) (by kernel_rfl) (by kernel_rfl) rfl rfl rfl ?_ ?_ ?_) | (refine OKa_step2 (S := [0, 1, 2, 3]) (i1 := 4) (S1 := [0, 1, 2, 3, 4]) (i2 := 5) (S2 := [0, 1, 2, 3, 5]) (by kernel_rfl) (by kernel_rfl) (by kernel_rfl) rfl rfl ?_ ?_) | (refine OKa_step4 (S := [0]) (i1 := 1) (S1 := [0, 1]) (i2 := 2) (S2 := [0, 2]) (i3 := 4) (S3 := [0, 4]) (i4 := 5) (S4 := [0, 5]) (by kernel_rfl) (by kernel_rfl) (by kernel_rfl) (by kernel_rfl) (by kernel_rfl) rfl rfl rfl rfl ?_ ?_ ?_ ?_) | (refine OKa_step3 (S := [0, 1]) (i1 := 2) (S1 := [0, 1, 2]) (i2 := 4) (S2 := [0, 1, 4]) (i3 := 5) (S3 := [0, 1, 5]) (by kernel_rfl) (by kernel_rfl) (by kernel_rfl) (by kernel_rfl) rfl rfl rfl ?_ ?_ ?_))
    all_goals (first | exact ⟨by (repeat' (first | refine agree_upd rfl ?_ | exact agree_over | exact agree_refl _ _ | refine agree_over2 rfl ?_)), _, Ent.pickT [_, _, _, _, _, _] (J ++ Br) [0, 1, 3, 2, 4, 5] rfl, _, _, _, _, _, _, _, rfl, rfl, rfl, rfl, hm, hov, rfl⟩ | exact ⟨by (repeat' (first | refine agree_upd rfl ?_ | exact agree_over | exact agree_refl _ _ | refine agree_over2 rfl ?_)), _, Ent.pickT [_, _, _, _, _, _] (J ++ Br) [0, 2, 3, 1, 4, 5] rfl, _, _, _, _, _, _, _, rfl, rfl, rfl, rfl, hm, hov, rfl⟩ | exact ⟨by (repeat' (first | refine agree_upd rfl ?_ | exact agree_over | exact agree_refl _ _ | refine agree_over2 rfl ?_)), _, Ent.pickT [_, _, _, _, _, _] (J ++ Br) [0, 3, 2, 1, 4, 5] rfl, _, _, _, _, _, _, _, rfl, rfl, rfl, rfl, hm, hov, rfl⟩ | exact ⟨by (repeat' (first | refine agree_upd rfl ?_ | exact agree_over | exact agree_refl _ _ | refine agree_over2 rfl ?_)), _, Ent.pickT [_, _, _, _, _, _] (J ++ Br) [1, 0, 3, 2, 4, 5] rfl, _, _, _, _, _, _, _, rfl, rfl, rfl, rfl, hm, hov, rfl⟩ | exact ⟨by (repeat' (first | refine agree_upd rfl ?_ | exact agree_over | exact agree_refl _ _ | refine agree_over2 rfl ?_)), _, Ent.pickT [_, _, _, _, _, _] (J ++ Br) [1, 2, 3, 0, 4, 5] rfl, _, _, _, _, _, _, _, rfl, rfl, rfl, rfl, hm, hov, rfl⟩ | exact ⟨by (repeat' (first | refine agree_upd rfl ?_ | exact agree_over | exact agree_refl _ _ | refine agree_over2 rfl ?_)), _, Ent.pickT [_, _, _, _, _, _] (J ++ Br) [1, 3, 2, 0, 4, 5] rfl, _, _, _, _, _, _, _, rfl, rfl, rfl, rfl, hm, hov, rfl⟩ | exact ⟨by (repeat' (first | refine agree_upd rfl ?_ | exact agree_over | exact agree_refl _ _ | refine agree_over2 rfl ?_)), _, Ent.pickT [_, _, _, _, _, _] (J ++ Br) [2, 0, 3, 1, 4, 5] rfl, _, _, _, _, _, _, _, rfl, rfl, rfl, rfl, hm, hov, rfl⟩ | exact ⟨by (repeat' (first | refine agree_upd rfl ?_ | exact agree_over | exact agree_refl _ _ | refine agree_over2 rfl ?_)), _, Ent.pickT [_, _, _, _, _, _] (J ++ Br) [2, 1, 3, 0, 4, 5] rfl, _, _, _, _, _, _, _, rfl, rfl, rfl, rfl, hm, hov, rfl⟩ | exact ⟨by (repeat' (first | refine agree_upd rfl ?_ | exact agree_over | exact agree_refl _ _ | refine agree_over2 rfl ?_)), _, Ent.pickT [_, _, _, _, _, _] (J ++ Br) [2, 3, 1, 0, 4, 5] rfl, _, _, _, _, _, _, _, rfl, rfl, rfl, rfl, hm, hov, rfl⟩ | exact ⟨by (repeat' (first | refine agree_upd rfl ?_ | exact agree_over | exact agree_refl _ _ | refine agree_over2 rfl ?_)), _, Ent.pickT [_, _, _, _, _, _] (J ++ Br) [3, 0, 2, 1, 4, 5] rfl, _, _, _, _, _, _, _, rfl, rfl, rfl, rfl, hm, hov, rfl⟩ | exact ⟨by (repeat' (first | refine agree_upd rfl ?_ | exact agree_over | exact agree_refl _ _ | refine agree_over2 rfl ?_)), _, Ent.pickT [_, _, _, _, _, _] (J ++ Br) [3, 1, 2, 0, 4, 5] rfl, _, _, _, _, _, _, _, rfl, rfl, rfl, rfl, hm, hov, rfl⟩ | exact ⟨by (repeat' (first | refine agree_upd rfl ?_ | exact agree_over | exact agree_refl _ _ | refine agree_over2 rfl ?_)), _, Ent.pickT [_, _, _, _, _, _] (J ++ Br) [3, 2, 1, 0, 4, 5] rfl, _, _, _, _, _, _, _, rfl, rfl, rfl, rfl, hm, hov, rfl⟩)
end Go.Proofs.Ytmclgfipdgmomaa
namespace Go.Proofs.Ytmclgfipdgmomaa
open Go.RowKit
theorem SatY.mono {P : Program} {l : Nat} {args : List Value} {w0 : World} {L : List Res} {R R' : Value → List Res → Prop} (h : SatY P l args w0 L R) (hr : ∀ v L, R v L → R' v L) : SatY P l args w0 L R' :=
  fun w hp => let ⟨fn, t, as2, b, h1, h2⟩ := h w hp; ⟨fn, t, as2, b, h1, h2.mono fun e w' ⟨v, L', a, b, c⟩ => ⟨v, L', a, b, hr _ _ c⟩⟩
section
variable {P : Program} {n : Nat} {w0 : World} {F : Fm} {L : List Res}
theorem bodyM_r3 {r1 r2 r3 : ResultVar} {v1 v2 v3 : Value} {R : Value → List Res → Prop} (h1 : resIs P n F L r1 v1) (h2 : resIs P n F L r2 v2) (h3 : resIs P n F L r3 v3) (h : ∃ L', Ent w0 L L' ∧ R (.tuple #[v1, v2, v3]) L') (hm : marksV (F none) = [] := by exact rfl) : bodyM P n w0 [r1, r2, r3] R .ret F L := by
  unfold bodyM
  obtain ⟨L', e, hR⟩ := h
  exact ⟨[], [v1, v2, v3], L, L', hm, Ent.refl _ _, ⟨h1, h2, h3, trivial⟩, e, hR⟩
theorem bodyM_d3 {r1 r2 r3 : ResultVar} {v1 v2 v3 : Value} {R : Value → List Res → Prop} (D : Nat) (h1 : resIs P n F L r1 v1) (h2 : resIs P n F L r2 v2) (h3 : resIs P n F L r3 v3) (h : ∃ L', Ent w0 L L' ∧ R (.tuple #[v1, v2, v3]) L') (hm : marksV (F none) = [{ target := .collected D, args := #[] }]) : bodyM P n w0 [r1, r2, r3] R .ret F (.mark D :: L) := by
  unfold bodyM
  obtain ⟨L', e, hR⟩ := h
  exact ⟨[D], [v1, v2, v3], L, L', hm, Ent.refl _ _, ⟨h1, h2, h3, trivial⟩, e, hR⟩
end
theorem updo_none1 (F : Fm) (i : Nat) (v : Value) : updo F (some i) v none = F none := rfl
theorem updo_none2 (F : Fm) (v : Value) : updo F none v none = F none := rfl
def best1 (s : Stem) (st : List Int) : List Int × Int := bestA (costN s.par) (asgs (occ st) st)
def BestR (s : Stem) (st : List Int) (u : Value) (L : List Res) : Prop :=
  (chkC s st ≠ 0 ∧ u = .tuple #[.slice none 0 0, .int .i64 0, .int .i64 (chkC s st)] ∧ L = []) ∨
  (chkC s st = 0 ∧ many st = true ∧ u = .tuple #[.slice none 0 0, .int .i64 0, .int .i64 4] ∧ L = []) ∨
  (chkC s st = 0 ∧ many st = false ∧ ∃ a n c, u = .tuple #[.slice a n c, .int .i64 (best1 s st).2, .int .i64 0] ∧ n = (best1 s st).1.length ∧ L = [.row 3 1 (.slice a n c) n (ints (best1 s st).1)])
def bJ (g10 g9 g8 gc gs g2 : Nat) (ca : Option Addr) (cn cc : Nat) (nv ev pv : Value) (s : Stem) (l : List (List Int)) (J : List Res) : Prop :=
  ∃ a n c, n = (bestA (costN s.par) l).1.length ∧ J = [.row 3 1 (.slice a n c) n (ints (bestA (costN s.par) l).1), .box 3 g10 [.int .i64 (bestA (costN s.par) l).2], .box 27 g9 [.slice a n c],
    .box 105 g8 [.func (.func 113) #[] #[.pointer (some ⟨gc, 0, none⟩), .pointer (some ⟨gs, 0, none⟩)]], .row 3 1 (.slice ca cn cc) cn (ints (copL s.par s.par.length)), .box 27 gc [.slice ca cn cc], .box 26 gs [nv, ev, pv], .box 26 g2 [nv, ev, pv]]
theorem ptBox {B : Nat} {w0 w : World} {L : List Res} {e : TypeId} {g : Nat} {cs : List Value} (hp : Hp B w0 w L) (i : Nat) (hi : L[i]? = some (.box e g cs)) (n : Nat) (hn : cs.length = n) : Pt w (.pointer (some ⟨g, 0, none⟩)) n (fun j => cs.getD j undef) :=
  ⟨g, 0, rfl, fun j hj => by rw [Nat.zero_add, (hp.boxAt i hi).1 j]; simp [show j < cs.length by omega]⟩
structure Gh where
  (y m g c gy go gf gv : Nat)
  (ov : Value)
  (o : List Int)
  (pre : List (List Int))
  (J : List Res)
def Gh.Z (x : Gh) (g1 : Nat) (sv : Value) (vs : List Int) : List Res := zA x.y x.m x.g x.c g1 x.gy x.go x.gf x.gv sv x.ov vs
set_option maxRecDepth 100000 in
set_option maxHeartbeats 4000000 in
theorem best_sat (v sv : Value) (s : Stem) (st : List Int) (w : World) (h : Stm w v s) (hs : Ints w sv st) : Sat Try.prog 62 [v, sv] w (BestR s st) := by
  have hst := h
  obtain ⟨nv, ev, pv, rfl, hS, _, hP⟩ := h
  have hsi := hs
  obtain ⟨sa, sc, rfl, _⟩ := hs.at
  by_cases hc : chkC s st = 0
  rotate_left
  · refine SatL.ofM 44 [.tmp 4, .tmp 5, .tmp 6] Try.func62 (by kernel_rfl) (by kernel_rfl) rfl rfl rfl ?_
    repeat' (first | (apply OK_seq) | (apply thenQ_n) | (apply OK_region) | (refine OKx_callV (f := 23) (v := .int .i64 (chkC s st)) rfl rfl rfl (fun w1 hp => Chk_sat _ _ s st w1 (hst.below hp.below) (hsi.below hp.below)) ?_) | refine OK_quiet (id := 15) (by kernel_rfl) (by kernel_rfl) ?_ | (apply OKx_nilK) | (apply OK_block) | (apply blockQ_n) | (apply blockQ_s) | (apply thenQ_e) | (apply blockQ_e; exact rfl) | (apply thenQ_r) | (apply blockQ_r) | (apply OK_condT; exact rfl) | (apply OK_condF; exact rfl) | (apply OK_skip) | (apply OK_exit) | (apply OK_ret) | (apply OKx_move; ((conv => lhs; whnf) <;> exact rfl)) | (apply OKx_assign; ((conv => lhs; whnf) <;> exact rfl)) | (apply OKx_ldB; exact rfl; (first | exact at0 | exact at1 | exact at2 | exact at3 | exact at4 | exact at5 | exact at6 | exact at7); exact rfl) | (apply OKx_ldR; ((conv => lhs; whnf) <;> exact rfl); (with_reducible assumption)) | (apply OKx_ldI; exact rfl; (first | exact at0 | exact at1 | exact at2 | exact at3 | exact at4 | exact at5 | exact at6 | exact at7); omega) | (apply OKx_lss; exact rfl; exact rfl; all_goals (intro _; try (exfalso; omega))) | (apply OKx_eql; exact rfl; exact rfl; all_goals (intro _; try (exfalso; omega))) | (apply OKx_neq; exact rfl; exact rfl; all_goals (intro _; try (exfalso; omega))) | (apply OKx_max; exact rfl; exact rfl) | (apply OKx_pickT; exact rfl; ((conv => lhs; whnf) <;> exact rfl)) | (apply OKx_pickF; exact rfl; ((conv => lhs; whnf) <;> exact rfl)) | (apply OKx_guardT; exact rfl; exact rfl) | (apply OKx_guardF; exact rfl; exact rfl) | (apply OKx_guardU; exact rfl; exact rfl) | (apply OKx_boxA; exact rfl; intro _) | (apply OKx_alloc1; intro _) | (apply OKx_ldBA; exact rfl; (first | exact at0 | exact at1 | exact at2 | exact at3 | exact at4 | exact at5 | exact at6 | exact at7); exact rfl) | (apply OKx_ldRA; ((conv => lhs; whnf) <;> exact rfl); (with_reducible assumption)) | (apply OKx_stI; exact rfl; exact rfl; (first | exact at0 | exact at1 | exact at2 | exact at3 | exact at4 | exact at5 | exact at6 | exact at7); omega; exact rfl) | (apply OKx_stB; exact rfl; ((conv => lhs; whnf) <;> exact rfl); exact rfl; exact rfl; (first | exact at0 | exact at1 | exact at2 | exact at3 | exact at4 | exact at5 | exact at6 | exact at7); exact rfl; exact rfl; exact rfl))
    refine bodyM_r3 (resIs_tmp (by ((conv => lhs; whnf) <;> exact rfl))) (resIs_tmp (by ((conv => lhs; whnf) <;> exact rfl))) (resIs_tmp (by ((conv => lhs; whnf) <;> exact rfl))) ⟨_, Ent.nil, .inl ⟨hc, rfl, rfl⟩⟩
  obtain ⟨hc1, hc2, hc3⟩ := chkC_zero hc
  have hlen := stCheck_len s hc1
  have hok := stCheck_okPar s hc1
  by_cases hm : many st = true
  · refine SatL.ofM 44 [.tmp 4, .tmp 5, .tmp 6] Try.func62 (by kernel_rfl) (by kernel_rfl) rfl rfl rfl ?_
    repeat' (first | (apply OK_seq) | (apply thenQ_n) | (apply OK_region) | (refine OKx_callV (f := 23) (v := .int .i64 (chkC s st)) rfl rfl rfl (fun w1 hp => Chk_sat _ _ s st w1 (hst.below hp.below) (hsi.below hp.below)) ?_) | (refine OKx_callV (f := 93) (v := .bool true) rfl rfl rfl (fun w1 hp => hm ▸ tooMany_sat _ st w1 (hsi.below hp.below) (fun x hx => (hc3 x hx).2) (by omega)) ?_) | refine OK_quiet (id := 15) (by kernel_rfl) (by kernel_rfl) ?_ | (apply OKx_nilK) | (apply OK_block) | (apply blockQ_n) | (apply blockQ_s) | (apply thenQ_e) | (apply blockQ_e; exact rfl) | (apply thenQ_r) | (apply blockQ_r) | (apply OK_condT; exact rfl) | (apply OK_condF; exact rfl) | (apply OK_skip) | (apply OK_exit) | (apply OK_ret) | (apply OKx_move; ((conv => lhs; whnf) <;> exact rfl)) | (apply OKx_assign; ((conv => lhs; whnf) <;> exact rfl)) | (apply OKx_ldB; exact rfl; (first | exact at0 | exact at1 | exact at2 | exact at3 | exact at4 | exact at5 | exact at6 | exact at7); exact rfl) | (apply OKx_ldR; ((conv => lhs; whnf) <;> exact rfl); (with_reducible assumption)) | (apply OKx_ldI; exact rfl; (first | exact at0 | exact at1 | exact at2 | exact at3 | exact at4 | exact at5 | exact at6 | exact at7); omega) | (apply OKx_lss; exact rfl; exact rfl; all_goals (intro _; try (exfalso; omega))) | (apply OKx_eql; exact rfl; exact rfl; all_goals (intro _; try (exfalso; omega))) | (apply OKx_neq; exact rfl; exact rfl; all_goals (intro _; try (exfalso; omega))) | (apply OKx_max; exact rfl; exact rfl) | (apply OKx_pickT; exact rfl; ((conv => lhs; whnf) <;> exact rfl)) | (apply OKx_pickF; exact rfl; ((conv => lhs; whnf) <;> exact rfl)) | (apply OKx_guardT; exact rfl; exact rfl) | (apply OKx_guardF; exact rfl; exact rfl) | (apply OKx_guardU; exact rfl; exact rfl) | (apply OKx_boxA; exact rfl; intro _) | (apply OKx_alloc1; intro _) | (apply OKx_ldBA; exact rfl; (first | exact at0 | exact at1 | exact at2 | exact at3 | exact at4 | exact at5 | exact at6 | exact at7); exact rfl) | (apply OKx_ldRA; ((conv => lhs; whnf) <;> exact rfl); (with_reducible assumption)) | (apply OKx_stI; exact rfl; exact rfl; (first | exact at0 | exact at1 | exact at2 | exact at3 | exact at4 | exact at5 | exact at6 | exact at7); omega; exact rfl) | (apply OKx_stB; exact rfl; ((conv => lhs; whnf) <;> exact rfl); exact rfl; exact rfl; (first | exact at0 | exact at1 | exact at2 | exact at3 | exact at4 | exact at5 | exact at6 | exact at7); exact rfl; exact rfl; exact rfl))
    refine bodyM_r3 (resIs_tmp (by ((conv => lhs; whnf) <;> exact rfl))) (resIs_tmp (by ((conv => lhs; whnf) <;> exact rfl))) (resIs_tmp (by ((conv => lhs; whnf) <;> exact rfl))) ⟨_, Ent.nil, .inr (.inl ⟨hc, hm, rfl, rfl⟩)⟩
  rw [Bool.not_eq_true] at hm
  refine SatL.ofM 44 [.tmp 4, .tmp 5, .tmp 6] Try.func62 (by kernel_rfl) (by kernel_rfl) rfl rfl rfl ?_
  repeat' (first | (apply OK_seq) | (apply thenQ_n) | (apply OK_region) | (refine OKx_callV (f := 23) (v := .int .i64 (chkC s st)) rfl rfl rfl (fun w1 hp => Chk_sat _ _ s st w1 (hst.below hp.below) (hsi.below hp.below)) ?_) | (refine OKx_callV (f := 93) (v := .bool false) rfl rfl rfl (fun w1 hp => hm ▸ tooMany_sat _ st w1 (hsi.below hp.below) (fun x hx => (hc3 x hx).2) (by omega)) ?_) | (refine OKx_call (f := 94) rfl rfl (fun w1 hp => counter_sat nv ev pv s w1 (hst.below hp.below) (by omega)) ?_; rintro _ _ ⟨gc, gs, ca, cn, cc, rfl, hcn, rfl⟩) | (refine OKx_call (f := 95) rfl rfl (fun w1 hp => asg_sat sa st.length sc w1) ?_; rintro _ _ ⟨g1, rfl, rfl⟩) | refine OK_quiet (id := 15) (by kernel_rfl) (by kernel_rfl) ?_ | (apply OKx_nilK) | (apply OK_block) | (apply blockQ_n) | (apply blockQ_s) | (apply thenQ_e) | (apply blockQ_e; exact rfl) | (apply thenQ_r) | (apply blockQ_r) | (apply OK_condT; exact rfl) | (apply OK_condF; exact rfl) | (apply OK_skip) | (apply OK_exit) | (apply OK_ret) | (apply OKx_move; ((conv => lhs; whnf) <;> exact rfl)) | (apply OKx_assign; ((conv => lhs; whnf) <;> exact rfl)) | (apply OKx_ldB; exact rfl; (first | exact at0 | exact at1 | exact at2 | exact at3 | exact at4 | exact at5 | exact at6 | exact at7); exact rfl) | (apply OKx_ldR; ((conv => lhs; whnf) <;> exact rfl); (with_reducible assumption)) | (apply OKx_ldI; exact rfl; (first | exact at0 | exact at1 | exact at2 | exact at3 | exact at4 | exact at5 | exact at6 | exact at7); omega) | (apply OKx_lss; exact rfl; exact rfl; all_goals (intro _; try (exfalso; omega))) | (apply OKx_eql; exact rfl; exact rfl; all_goals (intro _; try (exfalso; omega))) | (apply OKx_neq; exact rfl; exact rfl; all_goals (intro _; try (exfalso; omega))) | (apply OKx_max; exact rfl; exact rfl) | (apply OKx_pickT; exact rfl; ((conv => lhs; whnf) <;> exact rfl)) | (apply OKx_pickF; exact rfl; ((conv => lhs; whnf) <;> exact rfl)) | (apply OKx_guardT; exact rfl; exact rfl) | (apply OKx_guardF; exact rfl; exact rfl) | (apply OKx_guardU; exact rfl; exact rfl) | (apply OKx_boxA; exact rfl; intro _) | (apply OKx_alloc1; intro _) | (apply OKx_ldBA; exact rfl; (first | exact at0 | exact at1 | exact at2 | exact at3 | exact at4 | exact at5 | exact at6 | exact at7); exact rfl) | (apply OKx_ldRA; ((conv => lhs; whnf) <;> exact rfl); (with_reducible assumption)) | (apply OKx_stI; exact rfl; exact rfl; (first | exact at0 | exact at1 | exact at2 | exact at3 | exact at4 | exact at5 | exact at6 | exact at7); omega; exact rfl) | (apply OKx_stB; exact rfl; ((conv => lhs; whnf) <;> exact rfl); exact rfl; exact rfl; (first | exact at0 | exact at1 | exact at2 | exact at3 | exact at4 | exact at5 | exact at6 | exact at7); exact rfl; exact rfl; exact rfl))
  rename_i g2 _ g8 g9 g10
  have hN8 : st.length ≤ 1000 := by omega
  have hr : ∀ x ∈ st, x < 16 := fun x hx => (hc3 x hx).2
  have hcn8 : cn ≤ 1000 := by
    have h1 := copL_len s.par s.par.length
    have h2 := copN_len s.par s.par.length
    omega
  have hspec := bestA_spec (costN s.par) (asgs (occ st) st) (asgs_ne _ (occ_pos st) st)
  have hpos : 0 ≤ (best1 s st).2 := by unfold best1; rw [hspec.2.1]; exact Int.natCast_nonneg _
  have fin : ∀ (F' : Fm) (D : Nat) (a : Option Addr) (n c : Nat) (Z : List Res), marksV (F' none) = [{ target := .collected D, args := #[] }] → rv 44 F' (.tmp 4) = .slice a n c → rv 44 F' (.tmp 5) = .int .i64 (max (best1 s st).2 0) → rv 44 F' (.tmp 6) = .int .i64 0 → n = (best1 s st).1.length →
      bodyM Try.prog 44 w [.tmp 4, .tmp 5, .tmp 6] (BestR s st) .ret F' (.mark D :: (.row 3 1 (.slice a n c) n (ints (best1 s st).1) :: Z)) := fun F' D a n c Z hd h4 h5 h6 hn =>
    bodyM_d3 D (resIs_tmp h4) (resIs_tmp h5) (resIs_tmp h6) ⟨_, Ent.pickT [_] Z [0] rfl |>.trans (Ent.sub (List.sublist_append_left _ _)), .inr (.inr ⟨hc, hm, a, n, c, by rw [Int.max_eq_left hpos], hn, rfl⟩)⟩ hd
  refine OK_ent (L' := .box 27 g1 [.slice sa st.length sc] :: [.row 3 1 (.slice none 0 0) 0 (ints (bestA (costN s.par) []).1), .box 3 g10 [.int .i64 (bestA (costN s.par) []).2], .box 27 g9 [.slice none 0 0],
    .box 105 g8 [.func (.func 113) #[] #[.pointer (some ⟨gc, 0, none⟩), .pointer (some ⟨gs, 0, none⟩)]], .row 3 1 (.slice ca cn cc) cn (ints (copL s.par s.par.length)), .box 27 gc [.slice ca cn cc], .box 26 gs [nv, ev, pv], .box 26 g2 [nv, ev, pv]])
    ((Ent.mk fun w1 hp => hp.nil 3 1).trans (Ent.pick [1, 0, 2, 3, 4, 5, 6, 7, 8] rfl)) ?_
  generalize hJP : bJ g10 g9 g8 gc gs g2 ca cn cc nv ev pv s = JP
  refine OK_rangeFunc (σ := Gh) (fun x => rA x.ov st.length x.o :: (x.J ++ x.Z g1 (.slice sa st.length sc) (occ st))) (ps := [25]) (gf := 114) (lb := [.pointer (some ⟨g1, 0, none⟩)]) (by ((conv => lhs; whnf) <;> exact rfl)) ⟨_, _, Try.func114, by kernel_rfl, rfl⟩
    (fun x av => av = [x.ov] ∧ x.o.length = st.length ∧ JP x.pre x.J ∧ (x.pre ++ [x.o]) <+: asgs (occ st) st ∧ (0 < st.length → ∃ g c, x.ov = .slice (some ⟨g, 0, none⟩) st.length c))
    (fun x _ X' => ∃ J', JP (x.pre ++ [x.o]) J' ∧ X' = rA x.ov st.length x.o :: (J' ++ x.Z g1 (.slice sa st.length sc) (occ st)))
    (fun x _ c X' => ∃ J', (c = .exit 0 ∧ ∃ pre, pre <+: asgs (occ st) st ∧ (bestA (costN s.par) pre).2 = 0 ∧ JP pre J') ∧ X' = rA x.ov st.length x.o :: (J' ++ x.Z g1 (.slice sa st.length sc) (occ st)))
    (fun X' => JP (asgs (occ st) st) X') (fun c X' => c = .exit 0 ∧ ∃ pre, pre <+: asgs (occ st) st ∧ (bestA (costN s.par) pre).2 = 0 ∧ JP pre X') ?_ ?_ ?_ ?_ ?_
  · rintro x av ⟨rfl, _⟩
    rfl
  · intro y Br Bd hY
    refine asgI_sat y st.length g1 _ st w _ Br Bd JP (fun c X' => c = .exit 0 ∧ ∃ pre, pre <+: asgs (occ st) st ∧ (bestA (costN s.par) pre).2 = 0 ∧ JP pre X') hsi rfl hN8 hr (by subst hJP; exact ⟨none, 0, 0, rfl, rfl⟩) ?_
    intro m g c gy go gf gv ov o pre J hov ho hJ hpre
    refine (hY ⟨y, m, g, c, gy, go, gf, gv, ov, o, pre, J⟩ [ov] ⟨rfl, ho, hJ, hpre, hov⟩).mono ?_
    rintro u L' (⟨rfl, X', ⟨J', hJ', rfl⟩, rfl⟩ | ⟨rfl, c, X', ⟨J', hJ', rfl⟩, rfl⟩)
    · exact .inl ⟨rfl, J', hJ', rfl⟩
    · exact .inr ⟨rfl, c, J', hJ', rfl⟩
  · subst hJP
    rintro ro B B' ⟨y, m, g, c, gy, go, gf, gv, ov, o, pre, J⟩ av ⟨rfl, ho, ⟨ba, bn, bc, hbn, hJ⟩, hpre, hov⟩
    dsimp only at *
    obtain ⟨go2, co2, rfl⟩ := hov (by omega)
    subst hJ
    have hsn := bestA_snoc (costN s.par) pre o
    generalize hb : bestA (costN s.par) pre = b at *
    obtain ⟨b1, b2⟩ := b
    dsimp only at *
    simp only [rA, Gh.Z, zA, List.cons_append, List.nil_append]
    repeat' (first | (apply OKr_seq) | (apply thenQ_n) | (apply OKr_region; exact rfl) | refine OK_quiet (id := 15) (by kernel_rfl) (by kernel_rfl) ?_ | (apply OKx_nilK) | (apply OKr_block) | (apply blockQ_n) | (apply blockQ_s) | (apply thenQ_e) | (apply blockQ_e; exact rfl) | (apply thenQ_r) | (apply blockQ_r) | (apply OKr_condT; exact rfl) | (apply OKr_condF; exact rfl) | (apply OKr_skip) | (apply OKr_exit) | (apply OKr_ret) | (apply OKx_move; ((conv => lhs; whnf) <;> exact rfl)) | (apply OKx_assign; ((conv => lhs; whnf) <;> exact rfl)) | (apply OKx_ldB; exact rfl; (first | exact at0 | exact at1 | exact at2 | exact at3 | exact at4 | exact at5 | exact at6 | exact at7); exact rfl) | (apply OKx_ldR; ((conv => lhs; whnf) <;> exact rfl); (with_reducible assumption)) | (apply OKx_ldI; exact rfl; (first | exact at0 | exact at1 | exact at2 | exact at3 | exact at4 | exact at5 | exact at6 | exact at7); omega) | (apply OKx_lss; exact rfl; exact rfl; all_goals (intro _; try (exfalso; omega))) | (apply OKx_eql; exact rfl; exact rfl; all_goals (intro _; try (exfalso; omega))) | (apply OKx_neq; exact rfl; exact rfl; all_goals (intro _; try (exfalso; omega))) | (apply OKx_max; exact rfl; exact rfl) | (apply OKx_pickT; exact rfl; ((conv => lhs; whnf) <;> exact rfl)) | (apply OKx_pickF; exact rfl; ((conv => lhs; whnf) <;> exact rfl)) | (apply OKx_guardT; exact rfl; exact rfl) | (apply OKx_guardF; exact rfl; exact rfl) | (apply OKx_guardU; exact rfl; exact rfl) | (apply OKx_boxA; exact rfl; intro _) | (apply OKx_alloc1; intro _) | (apply OKx_ldBA; exact rfl; (first | exact at0 | exact at1 | exact at2 | exact at3 | exact at4 | exact at5 | exact at6 | exact at7); exact rfl) | (apply OKx_ldRA; ((conv => lhs; whnf) <;> exact rfl); (with_reducible assumption)) | (apply OKx_stI; exact rfl; exact rfl; (first | exact at0 | exact at1 | exact at2 | exact at3 | exact at4 | exact at5 | exact at6 | exact at7); omega; exact rfl) | (apply OKx_stB; exact rfl; ((conv => lhs; whnf) <;> exact rfl); exact rfl; exact rfl; (first | exact at0 | exact at1 | exact at2 | exact at3 | exact at4 | exact at5 | exact at6 | exact at7); exact rfl; exact rfl; exact rfl))
    refine ⟨[_, _, _, _, _, _, _, _, _, _, _, _, _, _, _], Ent.refl _ _, ?_⟩
    simp only [List.cons_append, List.nil_append]
    repeat' (first | (apply OKr_seq) | (apply thenQ_n) | (apply OKr_region; exact rfl) | (refine OKx_callV (f := 113) (v := .int .i64 (costN s.par o : Int)) rfl rfl rfl (fun w1 hp => counter1_sat _ _ (.slice ca cn cc) _ nv ev pv s o w1 ⟨_, _, rfl, (hp.boxAt 6 rfl).1 0⟩ (hp.ints 5 rfl (by omega)) (ptBox hp 7 rfl 3 rfl) (hst.below hp.below) (hp.ints 0 rfl (by omega)) (by omega) hok (by omega)) ?_) | (refine OKx_call (f := 30) rfl rfl (fun w1 hp => cloneI_sat _ o w1 (hp.ints 0 rfl (by omega)) (by omega)) ?_; rintro _ _ ⟨⟨na, nc, rfl, _⟩, rfl⟩; rw [List.cons_append, List.nil_append]) | refine OK_quiet (id := 15) (by kernel_rfl) (by kernel_rfl) ?_ | (apply OKx_nilK) | (apply OKr_block) | (apply blockQ_n) | (apply blockQ_s) | (apply thenQ_e) | (apply blockQ_e; exact rfl) | (apply thenQ_r) | (apply blockQ_r) | (apply OKr_condT; exact rfl) | (apply OKr_condF; exact rfl) | (apply OKr_skip) | (apply OKr_exit) | (apply OKr_ret) | (apply OKx_move; ((conv => lhs; whnf) <;> exact rfl)) | (apply OKx_assign; ((conv => lhs; whnf) <;> exact rfl)) | (apply OKx_ldB; exact rfl; (first | exact at0 | exact at1 | exact at2 | exact at3 | exact at4 | exact at5 | exact at6 | exact at7); exact rfl) | (apply OKx_ldR; ((conv => lhs; whnf) <;> exact rfl); (with_reducible assumption)) | (apply OKx_ldI; exact rfl; (first | exact at0 | exact at1 | exact at2 | exact at3 | exact at4 | exact at5 | exact at6 | exact at7); omega) | (apply OKx_lss; exact rfl; exact rfl; all_goals (intro _; try (exfalso; omega))) | (apply OKx_eql; exact rfl; exact rfl; all_goals (intro _; try (exfalso; omega))) | (apply OKx_neq; exact rfl; exact rfl; all_goals (intro _; try (exfalso; omega))) | (apply OKx_max; exact rfl; exact rfl) | (apply OKx_pickT; exact rfl; ((conv => lhs; whnf) <;> exact rfl)) | (apply OKx_pickF; exact rfl; ((conv => lhs; whnf) <;> exact rfl)) | (apply OKx_guardT; exact rfl; exact rfl) | (apply OKx_guardF; exact rfl; exact rfl) | (apply OKx_guardU; exact rfl; exact rfl) | (apply OKx_boxA; exact rfl; intro _) | (apply OKx_alloc1; intro _) | (apply OKx_ldBA; exact rfl; (first | exact at0 | exact at1 | exact at2 | exact at3 | exact at4 | exact at5 | exact at6 | exact at7); exact rfl) | (apply OKx_ldRA; ((conv => lhs; whnf) <;> exact rfl); (with_reducible assumption)) | (apply OKx_stI; exact rfl; exact rfl; (first | exact at0 | exact at1 | exact at2 | exact at3 | exact at4 | exact at5 | exact at6 | exact at7); omega; exact rfl) | (apply OKx_stB; exact rfl; ((conv => lhs; whnf) <;> exact rfl); exact rfl; exact rfl; (first | exact at0 | exact at1 | exact at2 | exact at3 | exact at4 | exact at5 | exact at6 | exact at7); exact rfl; exact rfl; exact rfl))
    · unfold bstep at hsn
      rw [if_pos (by dsimp only; omega)] at hsn
      exact ⟨_, Ent.pickT [_, _, _, _, _, _, _, _, _, _, _, _, _, _, _, _] B' [1, 0, 3, 4, 5, 6, 7, 8, 9, 10, 11, 12, 13, 14, 15] rfl, [_, _, _, _, _, _, _, _], ⟨rfl, pre ++ [o], hpre, by rw [hsn]; dsimp only; omega, by unfold bJ; rw [hsn]; exact ⟨_, _, _, rfl, rfl⟩⟩, rfl⟩
    · unfold bstep at hsn
      rw [if_pos (by dsimp only; omega)] at hsn
      exact ⟨_, Ent.pickT [_, _, _, _, _, _, _, _, _, _, _, _, _, _, _, _] B' [1, 0, 3, 4, 5, 6, 7, 8, 9, 10, 11, 12, 13, 14, 15] rfl, [_, _, _, _, _, _, _, _], by unfold bJ; rw [hsn]; exact ⟨_, _, _, rfl, rfl⟩, rfl⟩
    · unfold bstep at hsn
      rw [if_pos (by dsimp only; omega)] at hsn
      exact ⟨_, Ent.pickT [_, _, _, _, _, _, _, _, _, _, _, _, _, _, _, _] B' [1, 0, 3, 4, 5, 6, 7, 8, 9, 10, 11, 12, 13, 14, 15] rfl, [_, _, _, _, _, _, _, _], ⟨rfl, pre ++ [o], hpre, by rw [hsn]; dsimp only; omega, by unfold bJ; rw [hsn]; exact ⟨_, _, _, rfl, rfl⟩⟩, rfl⟩
    · unfold bstep at hsn
      rw [if_pos (by dsimp only; omega)] at hsn
      exact ⟨_, Ent.pickT [_, _, _, _, _, _, _, _, _, _, _, _, _, _, _, _] B' [1, 0, 3, 4, 5, 6, 7, 8, 9, 10, 11, 12, 13, 14, 15] rfl, [_, _, _, _, _, _, _, _], by unfold bJ; rw [hsn]; exact ⟨_, _, _, rfl, rfl⟩, rfl⟩
    · unfold bstep at hsn
      rw [if_neg (by dsimp only; omega)] at hsn
      exact ⟨[_, _, _, _, _, _, _, _, _, _, _, _, _, _, _], Ent.refl _ _, [_, _, _, _, _, _, _, _], ⟨rfl, pre ++ [o], hpre, by rw [hsn]; dsimp only; omega, by unfold bJ; rw [hsn]; exact ⟨_, _, _, hbn, rfl⟩⟩, rfl⟩
    · unfold bstep at hsn
      rw [if_neg (by dsimp only; omega)] at hsn
      exact ⟨[_, _, _, _, _, _, _, _, _, _, _, _, _, _, _], Ent.refl _ _, [_, _, _, _, _, _, _, _], by unfold bJ; rw [hsn]; exact ⟨_, _, _, hbn, rfl⟩, rfl⟩
  · subst hJP
    rintro D X' ⟨ba, bn, bc, hbn, hJ⟩
    subst hJ
    repeat' (first | (apply OK_seq) | (apply thenQ_n) | (apply OK_region) | refine OK_quiet (id := 15) (by kernel_rfl) (by kernel_rfl) ?_ | (apply OKx_nilK) | (apply OK_block) | (apply blockQ_n) | (apply blockQ_s) | (apply thenQ_e) | (apply blockQ_e; exact rfl) | (apply thenQ_r) | (apply blockQ_r) | (apply OK_condT; exact rfl) | (apply OK_condF; exact rfl) | (apply OK_skip) | (apply OK_exit) | (apply OK_ret) | (apply OKx_move; ((conv => lhs; whnf) <;> exact rfl)) | (apply OKx_assign; ((conv => lhs; whnf) <;> exact rfl)) | (apply OKx_ldB; exact rfl; (first | exact at0 | exact at1 | exact at2 | exact at3 | exact at4 | exact at5 | exact at6 | exact at7); exact rfl) | (apply OKx_ldR; ((conv => lhs; whnf) <;> exact rfl); (with_reducible assumption)) | (apply OKx_ldI; exact rfl; (first | exact at0 | exact at1 | exact at2 | exact at3 | exact at4 | exact at5 | exact at6 | exact at7); omega) | (apply OKx_lss; exact rfl; exact rfl; all_goals (intro _; try (exfalso; omega))) | (apply OKx_eql; exact rfl; exact rfl; all_goals (intro _; try (exfalso; omega))) | (apply OKx_neq; exact rfl; exact rfl; all_goals (intro _; try (exfalso; omega))) | (apply OKx_max; exact rfl; exact rfl) | (apply OKx_pickT; exact rfl; ((conv => lhs; whnf) <;> exact rfl)) | (apply OKx_pickF; exact rfl; ((conv => lhs; whnf) <;> exact rfl)) | (apply OKx_guardT; exact rfl; exact rfl) | (apply OKx_guardF; exact rfl; exact rfl) | (apply OKx_guardU; exact rfl; exact rfl) | (apply OKx_boxA; exact rfl; intro _) | (apply OKx_alloc1; intro _) | (apply OKx_ldBA; exact rfl; (first | exact at0 | exact at1 | exact at2 | exact at3 | exact at4 | exact at5 | exact at6 | exact at7); exact rfl) | (apply OKx_ldRA; ((conv => lhs; whnf) <;> exact rfl); (with_reducible assumption)) | (apply OKx_stI; exact rfl; exact rfl; (first | exact at0 | exact at1 | exact at2 | exact at3 | exact at4 | exact at5 | exact at6 | exact at7); omega; exact rfl) | (apply OKx_stB; exact rfl; ((conv => lhs; whnf) <;> exact rfl); exact rfl; exact rfl; (first | exact at0 | exact at1 | exact at2 | exact at3 | exact at4 | exact at5 | exact at6 | exact at7); exact rfl; exact rfl; exact rfl))
    exact fin _ D _ _ _ _ (by simp only [updo_none1, updo_none2, marks_push]; rfl) (by ((conv => lhs; whnf) <;> exact rfl)) (by ((conv => lhs; whnf) <;> exact rfl)) (by ((conv => lhs; whnf) <;> exact rfl)) hbn
  · subst hJP
    rintro D c X' ⟨rfl, pre, ⟨suf, hsuf⟩, hz, ba, bn, bc, hbn, hJ⟩
    have e : bestA (costN s.par) (asgs (occ st) st) = bestA (costN s.par) pre := by rw [← hsuf]; exact bestA_zero _ _ _ hz
    rw [← e] at hbn hJ
    subst hJ
    refine .inr ⟨0, rfl, ?_⟩
    repeat' (first | (apply OK_seq) | (apply thenQ_n) | (apply OK_region) | refine OK_quiet (id := 15) (by kernel_rfl) (by kernel_rfl) ?_ | (apply OKx_nilK) | (apply OK_block) | (apply blockQ_n) | (apply blockQ_s) | (apply thenQ_e) | (apply blockQ_e; exact rfl) | (apply thenQ_r) | (apply blockQ_r) | (apply OK_condT; exact rfl) | (apply OK_condF; exact rfl) | (apply OK_skip) | (apply OK_exit) | (apply OK_ret) | (apply OKx_move; ((conv => lhs; whnf) <;> exact rfl)) | (apply OKx_assign; ((conv => lhs; whnf) <;> exact rfl)) | (apply OKx_ldB; exact rfl; (first | exact at0 | exact at1 | exact at2 | exact at3 | exact at4 | exact at5 | exact at6 | exact at7); exact rfl) | (apply OKx_ldR; ((conv => lhs; whnf) <;> exact rfl); (with_reducible assumption)) | (apply OKx_ldI; exact rfl; (first | exact at0 | exact at1 | exact at2 | exact at3 | exact at4 | exact at5 | exact at6 | exact at7); omega) | (apply OKx_lss; exact rfl; exact rfl; all_goals (intro _; try (exfalso; omega))) | (apply OKx_eql; exact rfl; exact rfl; all_goals (intro _; try (exfalso; omega))) | (apply OKx_neq; exact rfl; exact rfl; all_goals (intro _; try (exfalso; omega))) | (apply OKx_max; exact rfl; exact rfl) | (apply OKx_pickT; exact rfl; ((conv => lhs; whnf) <;> exact rfl)) | (apply OKx_pickF; exact rfl; ((conv => lhs; whnf) <;> exact rfl)) | (apply OKx_guardT; exact rfl; exact rfl) | (apply OKx_guardF; exact rfl; exact rfl) | (apply OKx_guardU; exact rfl; exact rfl) | (apply OKx_boxA; exact rfl; intro _) | (apply OKx_alloc1; intro _) | (apply OKx_ldBA; exact rfl; (first | exact at0 | exact at1 | exact at2 | exact at3 | exact at4 | exact at5 | exact at6 | exact at7); exact rfl) | (apply OKx_ldRA; ((conv => lhs; whnf) <;> exact rfl); (with_reducible assumption)) | (apply OKx_stI; exact rfl; exact rfl; (first | exact at0 | exact at1 | exact at2 | exact at3 | exact at4 | exact at5 | exact at6 | exact at7); omega; exact rfl) | (apply OKx_stB; exact rfl; ((conv => lhs; whnf) <;> exact rfl); exact rfl; exact rfl; (first | exact at0 | exact at1 | exact at2 | exact at3 | exact at4 | exact at5 | exact at6 | exact at7); exact rfl; exact rfl; exact rfl))
    exact fin _ D _ _ _ _ (by simp only [updo_none1, updo_none2, marks_push]; rfl) (by ((conv => lhs; whnf) <;> exact rfl)) (by ((conv => lhs; whnf) <;> exact rfl)) (by ((conv => lhs; whnf) <;> exact rfl)) hbn
end Go.Proofs.Ytmclgfipdgmomaa
namespace Go.Proofs.Ytmclgfipdgmomaa
open Go.RowKit
def scE (s : Stem) (st : List Int) : Int := if chkC s st ≠ 0 then chkC s st else if many st = true then 4 else 0
def scN (s : Stem) (st : List Int) : Int := if scE s st ≠ 0 then 0 else (best1 s st).2
theorem scE_bad {s : Stem} {st : List Int} (h : chkC s st ≠ 0) : scE s st = chkC s st := if_pos h
theorem scE_many {s : Stem} {st : List Int} (h : chkC s st = 0) (hm : many st = true) : scE s st = 4 := by unfold scE; rw [if_neg (by omega), if_pos hm]
theorem scE_ok {s : Stem} {st : List Int} (h : chkC s st = 0) (hm : many st = false) : scE s st = 0 := by unfold scE; rw [if_neg (by omega), if_neg (by rw [hm]; simp)]
theorem scN_bad {s : Stem} {st : List Int} (h : scE s st ≠ 0) : scN s st = 0 := if_pos h
theorem scN_ok {s : Stem} {st : List Int} (h : scE s st = 0) : scN s st = (best1 s st).2 := if_neg (by omega)
set_option maxRecDepth 100000 in
set_option maxHeartbeats 4000000 in
theorem Score_sat (v sv : Value) (s : Stem) (st : List Int) (w : World) (h : Stm w v s) (hs : Ints w sv st) : SatV Try.prog 17 [v, sv] w (.tuple #[.int .i64 (scN s st), .int .i64 (scE s st)]) := by
  have hst := h
  obtain ⟨nv, ev, pv, rfl, _, _, _⟩ := h
  refine SatL.of 18 [4, 5] Try.func17 (by kernel_rfl) (by kernel_rfl) rfl rfl rfl rfl ?_
  repeat' (first | (apply OK_seq) | (apply thenQ_n) | (apply OK_region) | (refine OKx_call (f := 62) rfl rfl (fun w1 hp => best_sat _ _ s st w1 (hst.below hp.below) (hs.below hp.below)) ?_; rintro _ _ (⟨h1, rfl, rfl⟩ | ⟨h1, h2, rfl, rfl⟩ | ⟨h1, h2, a, n, c, rfl, hn, rfl⟩)) | (apply OKx_nilK) | (apply OK_block) | (apply blockQ_n) | (apply blockQ_s) | (apply thenQ_e) | (apply blockQ_e; exact rfl) | (apply thenQ_r) | (apply blockQ_r) | (apply OK_condT; exact rfl) | (apply OK_condF; exact rfl) | (apply OK_skip) | (apply OK_exit) | (apply OK_ret) | (apply OKx_move; ((conv => lhs; whnf) <;> exact rfl)) | (apply OKx_assign; ((conv => lhs; whnf) <;> exact rfl)) | (apply OKx_extract; exact rfl; ((conv => lhs; whnf) <;> exact rfl)) | (apply OKx_boxA; exact rfl; intro _) | (apply OKx_ldBA; exact rfl; (first | exact at0 | exact at1 | exact at2 | exact at3 | exact at4 | exact at5 | exact at6 | exact at7); exact rfl) | (apply OKx_ldRA; ((conv => lhs; whnf) <;> exact rfl); (with_reducible assumption)))
  · first | refine bodyQ_r1 (by ((conv => lhs; whnf) <;> exact rfl)) ?_ | refine bodyQ_r2 (by ((conv => lhs; whnf) <;> exact rfl)) (by ((conv => lhs; whnf) <;> exact rfl)) ?_ | refine bodyQ_r3 (by ((conv => lhs; whnf) <;> exact rfl)) (by ((conv => lhs; whnf) <;> exact rfl)) (by ((conv => lhs; whnf) <;> exact rfl)) ?_ | refine bodyQ_r0 ?_ | refine bodyQ_n0 ?_
    have he := scE_bad h1
    exact ⟨_, Ent.nil, by rw [scN_bad (by omega), he], rfl⟩
  · first | refine bodyQ_r1 (by ((conv => lhs; whnf) <;> exact rfl)) ?_ | refine bodyQ_r2 (by ((conv => lhs; whnf) <;> exact rfl)) (by ((conv => lhs; whnf) <;> exact rfl)) ?_ | refine bodyQ_r3 (by ((conv => lhs; whnf) <;> exact rfl)) (by ((conv => lhs; whnf) <;> exact rfl)) (by ((conv => lhs; whnf) <;> exact rfl)) ?_ | refine bodyQ_r0 ?_ | refine bodyQ_n0 ?_
    have he := scE_many h1 h2
    exact ⟨_, Ent.nil, by rw [scN_bad (by omega), he], rfl⟩
  · first | refine bodyQ_r1 (by ((conv => lhs; whnf) <;> exact rfl)) ?_ | refine bodyQ_r2 (by ((conv => lhs; whnf) <;> exact rfl)) (by ((conv => lhs; whnf) <;> exact rfl)) ?_ | refine bodyQ_r3 (by ((conv => lhs; whnf) <;> exact rfl)) (by ((conv => lhs; whnf) <;> exact rfl)) (by ((conv => lhs; whnf) <;> exact rfl)) ?_ | refine bodyQ_r0 ?_ | refine bodyQ_n0 ?_
    have he := scE_ok h1 h2
    exact ⟨_, Ent.nil, by rw [scN_ok he, he], rfl⟩
end Go.Proofs.Ytmclgfipdgmomaa
namespace Go.Proofs.Ytmclgfipdgmomaa
open Go.RowKit
structure Bst where
  (least child parent : Int)
  (found : Bool)
end Go.Proofs.Ytmclgfipdgmomaa
namespace Go.Proofs.Ytmclgfipdgmomaa
theorem getD_mem {α : Type} (l : List α) (i : Nat) (d : α) (h : i < l.length) : l.getD i d ∈ l := by
  rw [getD_lt _ _ _ h]
  exact List.getElem_mem h
end Go.Proofs.Ytmclgfipdgmomaa
namespace Go.Proofs.Ytmclgfipdgmomaa
def asgU (V : List Int) : List Int → List Int → List (List Int)
  | [], o => [o]
  | u :: us, o => V.flatMap fun v => asgU V us (o.set u.toNat v)
theorem setI_getD (l : List Int) (i j : Nat) (v : Int) (hj : j < l.length) : (l.set i v).getD j 0 = if i = j then v else l.getD j 0 := by
  rw [List.getD_eq_getElem?_getD, List.getElem?_set, List.getD_eq_getElem?_getD]
  split
  · rename_i h; subst h; rw [if_pos hj]; rfl
  · rfl
theorem ext_getD (a b : List Int) (hl : a.length = b.length) (h : ∀ j, j < a.length → a.getD j 0 = b.getD j 0) : a = b := by
  refine List.ext_getElem hl fun j h1 h2 => ?_
  have := h j h1
  rwa [getD_lt _ _ _ h1, getD_lt _ _ _ h2] at this
theorem asgU_off (V : List Int) : ∀ (us o o' : List Int), (∀ u ∈ us, 0 ≤ u) → o.length = o'.length → (∀ j, j < o.length → (j : Int) ∉ us → o.getD j 0 = o'.getD j 0) → asgU V us o = asgU V us o'
  | [], o, o', _, hl, h => by
    rw [ext_getD o o' hl (fun j hj => h j hj (by simp))]
  | u :: us, o, o', h0, hl, h => by
    unfold asgU
    refine flat_congr _ _ _ fun v _ => ?_
    refine asgU_off V us _ _ (fun x hx => h0 x (by simp [hx])) (by simp [hl]) (fun j hj hn => ?_)
    rw [List.length_set] at hj
    rw [setI_getD _ _ _ _ hj, setI_getD _ _ _ _ (by omega)]
    split
    · rfl
    · rename_i hne
      refine h j hj ?_
      rw [List.mem_cons]
      rintro (e | e)
      · exact hne (by omega)
      · exact hn e
theorem asgU_mem (V : List Int) : ∀ (us o a : List Int), (∀ u ∈ us, 0 ≤ u ∧ u.toNat < o.length) → (a ∈ asgU V us o ↔ a.length = o.length ∧ ∀ j, j < o.length → if (j : Int) ∈ us then a.getD j 0 ∈ V else a.getD j 0 = o.getD j 0)
  | [], o, a, _ => by
    unfold asgU
    rw [List.mem_singleton]
    constructor
    · rintro rfl
      exact ⟨rfl, fun j hj => by rw [if_neg (by simp)]⟩
    · rintro ⟨h1, h2⟩
      exact ext_getD a o h1 (fun j hj => by have := h2 j (by omega); rwa [if_neg (by simp)] at this)
  | u :: us, o, a, h0 => by
    have hu := h0 u (by simp)
    unfold asgU
    rw [List.mem_flatMap]
    have ih := fun v => asgU_mem V us (o.set u.toNat v) a (fun x hx => by have := h0 x (by simp [hx]); simpa using this)
    constructor
    · rintro ⟨v, hv, ha⟩
      obtain ⟨h1, h2⟩ := (ih v).1 ha
      rw [List.length_set] at h1 h2
      refine ⟨h1, fun j hj => ?_⟩
      have h3 := h2 j hj
      by_cases hm : (j : Int) ∈ us
      · rw [if_pos hm] at h3
        rw [if_pos (by simp [hm])]; exact h3
      · rw [if_neg hm, setI_getD _ _ _ _ hj] at h3
        by_cases e : u.toNat = j
        · rw [if_pos e] at h3
          rw [if_pos (by rw [List.mem_cons]; left; omega), h3]; exact hv
        · rw [if_neg e] at h3
          rw [if_neg (by rw [List.mem_cons]; exact fun e2 => e2.elim (fun e2 => e (by omega)) hm)]; exact h3
    · rintro ⟨h1, h2⟩
      have h3 := h2 u.toNat hu.2
      rw [if_pos (by rw [List.mem_cons]; left; omega)] at h3
      refine ⟨_, h3, (ih _).2 ⟨by simpa using h1, fun j hj => ?_⟩⟩
      rw [List.length_set] at hj
      have h4 := h2 j hj
      by_cases hm : (j : Int) ∈ us
      · rw [if_pos hm]
        rwa [if_pos (by simp [hm])] at h4
      · rw [if_neg hm, setI_getD _ _ _ _ hj]
        by_cases e : u.toNat = j
        · rw [if_pos e, e]
        · rw [if_neg e]
          rwa [if_neg (by rw [List.mem_cons]; exact fun e2 => e2.elim (fun e2 => e (by omega)) hm)] at h4
def unkL (st : List Int) (k : Nat) : List Int := ((List.range k).filter (fun j => decide (st.getD j 0 < 0))).map (fun j : Nat => (j : Int))
theorem unkL_step (st : List Int) (k : Nat) : unkL st (k + 1) = unkL st k ++ if st.getD k 0 < 0 then [(k : Int)] else [] := by
  unfold unkL
  rw [List.range_succ, List.filter_append, List.map_append]
  congr 1
  by_cases h : st.getD k 0 < 0
  · rw [if_pos h, List.filter_cons_of_pos (by simpa using h)]; rfl
  · rw [if_neg h, List.filter_cons_of_neg (by simpa using h)]; rfl
theorem unkL_mem (st : List Int) (k j : Nat) : (j : Int) ∈ unkL st k ↔ j < k ∧ st.getD j 0 < 0 := by
  unfold unkL
  simp only [List.mem_map, List.mem_filter, List.mem_range, decide_eq_true_eq]
  constructor
  · rintro ⟨i, ⟨h1, h2⟩, e⟩
    obtain rfl : i = j := by omega
    exact ⟨h1, h2⟩
  · rintro ⟨h1, h2⟩
    exact ⟨j, ⟨h1, h2⟩, rfl⟩
theorem unkL_nat (st : List Int) (k : Nat) : ∀ u ∈ unkL st k, 0 ≤ u ∧ u.toNat < k := by
  intro u hu
  unfold unkL at hu
  simp only [List.mem_map, List.mem_filter, List.mem_range] at hu
  obtain ⟨i, ⟨h1, _⟩, rfl⟩ := hu
  omega
theorem unkL_len (st : List Int) (k : Nat) : (unkL st k).length ≤ k := by
  unfold unkL
  rw [List.length_map]
  exact Nat.le_trans (List.length_filter_le _ _) (by simp)
def knwL (st : List Int) : Nat → List Int
  | 0 => []
  | k + 1 => knwL st k ++ if st.getD k 0 < 0 ∨ hasI (knwL st k) (st.getD k 0) = true then [] else [st.getD k 0]
theorem knwL_mem (st : List Int) (x : Int) : ∀ k, x ∈ knwL st k ↔ 0 ≤ x ∧ ∃ j, j < k ∧ st.getD j 0 = x
  | 0 => by simp [knwL]
  | k + 1 => by
    have ih := knwL_mem st x k
    rw [knwL, List.mem_append, ih]
    constructor
    · rintro (⟨h0, j, h1, h2⟩ | h)
      · exact ⟨h0, j, by omega, h2⟩
      · split at h
        · simp at h
        · rename_i hn
          rw [List.mem_singleton] at h
          subst h
          exact ⟨by omega, k, by omega, rfl⟩
    · rintro ⟨h0, j, h1, h2⟩
      by_cases hj : j < k
      · exact .inl ⟨h0, j, hj, h2⟩
      · obtain rfl : j = k := by omega
        split
        · rename_i hc
          left
          rcases hc with hc | hc
          · omega
          · unfold hasI at hc
            rw [List.contains_iff_mem, h2, ih] at hc
            exact hc
        · right; rw [h2]; simp
theorem knwL_len (st : List Int) : ∀ k, (knwL st k).length ≤ k
  | 0 => by simp [knwL]
  | k + 1 => by
    have := knwL_len st k
    rw [knwL, List.length_append]
    split <;> simp <;> omega
def knw (st : List Int) : List Int := if knwL st st.length = [] then [0] else knwL st st.length
theorem knw_occ (st : List Int) (hr : ∀ x ∈ st, x < 16) (x : Int) : x ∈ knw st ↔ x ∈ occ st := by
  have key : x ∈ knwL st st.length ↔ x ∈ srtK st 16 := by
    rw [knwL_mem, srtK_mem]
    constructor
    · rintro ⟨h0, j, h1, rfl⟩
      exact ⟨getD_mem st j 0 h1, h0, by have := hr _ (getD_mem st j 0 h1); omega⟩
    · rintro ⟨h1, h2, _⟩
      obtain ⟨j, hj, e⟩ := List.getElem_of_mem h1
      exact ⟨h2, j, hj, by rw [getD_lt _ _ _ hj]; exact e⟩
  have hnil : knwL st st.length = [] ↔ srtK st 16 = [] := by
    rw [List.eq_nil_iff_forall_not_mem, List.eq_nil_iff_forall_not_mem]
    have keyA : ∀ y, y ∈ knwL st st.length ↔ y ∈ srtK st 16 := fun y => by
      rw [knwL_mem, srtK_mem]
      constructor
      · rintro ⟨h0, j, h1, rfl⟩
        exact ⟨getD_mem st j 0 h1, h0, by have := hr _ (getD_mem st j 0 h1); omega⟩
      · rintro ⟨h1, h2, _⟩
        obtain ⟨j, hj, e⟩ := List.getElem_of_mem h1
        exact ⟨h2, j, hj, by rw [getD_lt _ _ _ hj]; exact e⟩
    exact ⟨fun h y hy => h y ((keyA y).2 hy), fun h y hy => h y ((keyA y).1 hy)⟩
  unfold knw occ
  by_cases h : srtK st 16 = []
  · rw [if_pos (hnil.2 h), if_pos h]
  · rw [if_neg (fun e => h (hnil.1 e)), if_neg h]; exact key
def asgH (st : List Int) : List (List Int) := asgU (knw st) (unkL st st.length) st
theorem asgH_mem (st : List Int) (hr : ∀ x ∈ st, x < 16) (a : List Int) : a ∈ asgH st ↔ a ∈ asgs (occ st) st := by
  unfold asgH
  rw [asgU_mem _ _ _ _ (fun u hu => unkL_nat st _ u hu), asgs_mem]
  refine and_congr Iff.rfl (forall_congr' fun j => forall_congr' fun hj => ?_)
  by_cases h : st.getD j 0 < 0
  · rw [if_pos ((unkL_mem st _ j).2 ⟨hj, h⟩), if_pos h]
    exact knw_occ st hr _
  · rw [if_neg (fun h2 => h ((unkL_mem st _ j).1 h2).2), if_neg h]
def seenB (par : List (List Int)) (c : Int) (l : List (List Int)) (i x : Nat) : Bool := l.any fun a => decide ((costN par a : Int) = c) && (a.getD i 0 == (x : Int))
theorem seenB_snoc (par : List (List Int)) (c : Int) (l : List (List Int)) (a : List Int) (i x : Nat) : seenB par c (l ++ [a]) i x = (seenB par c l i x || (decide ((costN par a : Int) = c) && (a.getD i 0 == (x : Int)))) := by
  unfold seenB
  rw [List.any_append]
  simp
theorem seenB_congr (par : List (List Int)) (c : Int) (l m : List (List Int)) (h : ∀ a, a ∈ l ↔ a ∈ m) (i x : Nat) : seenB par c l i x = seenB par c m i x := by
  unfold seenB
  rw [Bool.eq_iff_iff, List.any_eq_true, List.any_eq_true]
  exact ⟨fun ⟨a, h1, h2⟩ => ⟨a, (h a).1 h1, h2⟩, fun ⟨a, h1, h2⟩ => ⟨a, (h a).2 h1, h2⟩⟩
def posL (s : Stem) (st : List Int) (i : Nat) : List Int := ((List.range 16).filter (seenB s.par (best1 s st).2 (asgs (occ st) st) i)).map (fun x : Nat => (x : Int))
def posT (s : Stem) (st : List Int) : List (List Int) := (List.range st.length).map (posL s st)
end Go.Proofs.Ytmclgfipdgmomaa
namespace Go.Proofs.Ytmclgfipdgmomaa
open Go.RowKit
theorem Fr.yieldU {n : Nat} {F : Fm} {ops : Array Oper} {a : Act} (hf : Fr n a F) {j t : Nat} (hj : (ops[j]?).bind (·.dst) = some t) (hb : rv n F (.tmp t) = undef) : yielded ops a.tmps j = none := by
  have he := hf.eval
  have h1 : a.eval (.tmp t) = undef := by rw [he]; exact hb
  unfold yielded
  rw [hj]
  simp only [Option.bind_some]
  simp only [Act.eval, Frame.eval] at h1
  split
  · rename_i b h2
    simp [h2, undef] at h1
  · rfl
theorem OKx_guardU {P : Program} {n : Nat} {w0 : World} {K : Fm → List Res → Prop} {F : Fm} {L : List Res} {m : Md} {ops : Array Oper} {rest : List Oper} {d : Option Nat} {o : Op} {ty : TypeId} {pos : String} {aft : Array Edge} {j t : Nat} {b : Bool} (hj : (ops[j]?).bind (·.dst) = some t) (hb : rv n F (.tmp t) = undef)
    (h : OKx P n w0 m ops K rest (updo F d undef) L) : OKx P n w0 m ops K (⟨d, o, ty, pos, aft, some (j, b)⟩ :: rest) F L := by
  have key : ∀ a : Act, Fr n a F → Region.wanted (⟨d, o, ty, pos, aft, some (j, b)⟩ : Oper) (yielded ops a.tmps) = false := by
    intro a hf
    simp only [Region.wanted, Fr.yieldU hf hj hb]
    cases b <;> rfl
  unfold OKx at h ⊢
  cases m with
  | seq Lw =>
    intro w a hf hp
    have h1 := h w _ (hf.put d undef) hp
    refine ⟨h1.cls, ?_⟩
    rw [key a hf]
    exact h1
  | quiet =>
    intro a hf
    unfold wpQuiet
    rw [key a hf]
    exact h _ (hf.put d undef)
  | pure =>
    intro a hf
    unfold wpPure
    rw [key a hf]
    exact h _ (hf.put d undef)
end Go.Proofs.Ytmclgfipdgmomaa
