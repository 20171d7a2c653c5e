/-
  Part 7 of the proof: Rg, Any, Anx, Anz. No statement of the seat is proved here.
-/
import Derived.Test.YtpknpbeiifjmgaaDoorMHSa386
namespace Go.Proofs.YtpknpbeiifjmgaaDoor
open Go.RowKit
def resetD (F : Fm) : Fm
  | some i => F (some i)
  | none => undef
def putsF : Fm → List Nat → List Value → Fm
  | F, p :: ps, v :: vs => putsF (upd F p v) ps vs
  | F, _, _ => F
def pushD (F : Fm) (D : Nat) : Fm
  | some i => F (some i)
  | none => .tuple (#[.pointer (some ⟨D, 0, none⟩)] ++ match F none with
    | .tuple vs => vs
    | _ => #[])
theorem marks_push (F : Fm) (D : Nat) : marksV (pushD F D none) = { target := .collected D, args := #[] } :: marksV (F none) := by
  unfold pushD
  cases h : F none <;> simp [marksV]
theorem Fr.reset {n : Nat} {a : Act} {F : Fm} (h : Fr n a F) : Fr n { a with defers := [] } (resetD F) := ⟨rfl, h.size, h.at'⟩
theorem Fr.puts {n : Nat} : ∀ (ps : List Nat) (vs : List Value) {tmps : Array Value} {F : Fm}, Fr n { tmps := tmps, defers := [] } F → vs.length = ps.length →
    Fr n { tmps := (ps.zip vs).foldl (fun t x => t.setIfInBounds x.1 x.2) tmps, defers := [] } (putsF F ps vs)
  | [], [], _, _, h, _ => h
  | p :: ps, v :: vs, tmps, F, h, hl => by
    have h1 := h.put (some p) v
    exact Fr.puts ps vs h1 (by simpa using hl)
  | [], _ :: _, _, _, _, hl => by simp at hl
  | _ :: _, [], _, _, _, hl => by simp at hl
section
variable {P : Program} {n : Nat} {w0 : World} {Q : Exit → Fm → List Res → Prop} {F : Fm} {L : List Res}
def roundQ (w0 : World) (B : List Res) (Next : List Res → Prop) (Stop : Code → List Res → Prop) : Exit → Fm → List Res → Prop
  | .normal, _, L => ∃ X', Ent w0 L (X' ++ B) ∧ Next X'
  | .ret, _, L => ∃ X', Ent w0 L (X' ++ B) ∧ Stop .ret X'
  | .exit id, _, L => ∃ X', Ent w0 L (X' ++ B) ∧ Stop (.exit id) X'
  | _, _, _ => False
def assignQ (P : Program) (n : Nat) (w0 : World) (ro : Nat) (B B' : List Res) (body : Code) (Next : List Res → Prop) (Stop : Code → List Res → Prop) : Exit → Fm → List Res → Prop
  | .normal, F, L => ∃ Y, Ent w0 L (Y ++ B) ∧ OKr P n w0 ro (roundQ w0 B' Next Stop) body F (Y ++ B')
  | _, _, _ => False
theorem Hp.putTail {B : Nat} {w : World} {X : List Res} {l D : Nat} {p p' : Obj → Prop} {o : Obj} (h : Hp B w0 w (X ++ [.obj l p, .mark D])) (ho : p' o) : Hp B w0 (w.putObj l o) (X ++ [.obj l p', .mark D]) := by
  have hi : (X ++ [Res.obj l p, .mark D])[X.length]? = some (.obj l p) := by
    rw [List.getElem?_append_right (Nat.le_refl _), Nat.sub_self]; rfl
  have hok := h.ok _ (List.mem_of_getElem? hi)
  have hlt := (hok.lt (k := l) rfl).2
  have := h.turn hi (w' := w.putObj l o) (r' := .obj l p') (grownBy_putObj' w l o) ⟨hok.1, o, World.putObj_heap_same hlt, ho⟩ (fun k hk => .inl hk)
  rwa [List.set_append_right _ _ (Nat.le_refl _), Nat.sub_self] at this
theorem OK_rangeFunc {σ : Type} (Rs : σ → List Res) {g : Operand} {ps : List Nat} {assign body : Code} {gf : FuncId} {lb : List Value} (hg : rv n F g = .func (.func gf) #[] lb.toArray) (he : Enters' P gf)
    (Good : σ → List Value → Prop) (Next : σ → List Value → List Res → Prop) (Stop : σ → List Value → Code → List Res → Prop) (Done : List Res → Prop) (StopD : Code → List Res → Prop)
    (hps : ∀ x av, Good x av → av.length = ps.length)
    (hiter : ∀ (y : Nat) (Br : List Res) (Bd : Code → List Res), (∀ x av, Good x av → SatY P y av w0 (Rs x ++ Br) (fun u L' => (u = .bool true ∧ ∃ X', Next x av X' ∧ L' = X' ++ Br) ∨ (u = .bool false ∧ ∃ c X', Stop x av c X' ∧ L' = X' ++ Bd c))) →
      SatL P gf (.func (.yield y) #[] #[] :: lb) w0 (L ++ Br) (fun _ L' => (∃ X', Done X' ∧ L' = X' ++ Br) ∨ (∃ c X', StopD c X' ∧ L' = X' ++ Bd c)))
    (hbody : ∀ (ro : Nat) (B B' : List Res) x av, Good x av → OKr P n w0 ro (assignQ P n w0 ro B B' body (Next x av) (Stop x av)) assign (putsF (resetD F) ps av) (Rs x ++ B))
    (hdone : ∀ D X', Done X' → Q .normal (pushD F D) (.mark D :: X'))
    (hstop : ∀ D c X', StopD c X' → (c = .ret ∧ Q .ret (pushD F D) (.mark D :: X')) ∨ ∃ id, c = .exit id ∧ Q (.exit id) (pushD F D) (.mark D :: X')) :
    OK P n w0 Q (.rangeFunc g ps.toArray assign body) F L := by
  refine OK.mk' fun w a hf hp => (wpIn_wide (n := 0)).1 (wpIn_rangeFunc fun fn _ => ?_)
  obtain ⟨rec, hrec⟩ : ∃ rec : Loop, rec = { state := .ready, pending := none, fn, tmps := a.tmps, params := ps.toArray, assign, body, defers := w.heap.size } := ⟨_, rfl⟩
  have hst : rec.state = .ready := by rw [hrec]
  have hpe : rec.pending = none := by rw [hrec]
  have hself : { rec with state := .ready, pending := none } = rec := by rw [hrec]
  let pr : Obj → Prop := fun o => o = .loop rec
  let pb : Obj → Prop := fun o => o = .loop { rec with state := .busy }
  let pd : Code → Obj → Prop := fun c o => o = .loop { rec with state := .done, pending := some c }
  let Br : List Res := [.obj (w.heap.size + 1) pr, .mark w.heap.size]
  let Bb : List Res := [.obj (w.heap.size + 1) pb, .mark w.heap.size]
  let Bd : Code → List Res := fun c => [.obj (w.heap.size + 1) (pd c), .mark w.heap.size]
  obtain ⟨w1, hw1⟩ : ∃ w1, w1 = (w.alloc (.deferred (some []))).alloc (.loop rec) := ⟨_, rfl⟩
  have hp1 : Hp w0.heap.size w0 w1 (L ++ Br) := by
    have h1 : Hp w0.heap.size w0 (w.alloc (.deferred (some []))) (.mark w.heap.size :: L) :=
      hp.fresh (r := .mark w.heap.size) ⟨hp.base, heap_alloc_new w _⟩ ((Below.refl _ _).alloc (Nat.le_refl _) _) (fun k hk => by simp [Res.blk] at hk;omega)
    have h2 : Hp w0.heap.size w0 w1 (.obj (w.heap.size + 1) pr :: .mark w.heap.size :: L) := by
      rw [hw1]
      have hsz : (w.alloc (.deferred (some []))).heap.size = w.heap.size + 1 := by simp
      refine h1.fresh (r := .obj (w.heap.size + 1) pr) ⟨by have := hp.base;omega, .loop rec, ?_, rfl⟩ ((Below.refl _ _).alloc (Nat.le_refl _) _) (fun k hk => by simp [Res.blk] at hk;omega)
      have := heap_alloc_new (w.alloc (.deferred (some []))) (.loop rec)
      rwa [hsz] at this
    exact h2.perm (List.perm_append_comm (l₁ := L) (l₂ := Br))
  have hl_of : ∀ {X : List Res} {w2 : World} {p : Obj → Prop}, Hp w0.heap.size w0 w2 (X ++ [.obj (w.heap.size + 1) p, .mark w.heap.size]) → ∃ o, w2.heap[w.heap.size + 1]? = some o ∧ p o := fun h => (h.ok _ (List.mem_append_right _ List.mem_cons_self)).2
  have hy : ∀ x av, Good x av → SatY P (w.heap.size + 1) av w0 (Rs x ++ Br) (fun u L' => (u = .bool true ∧ ∃ X', Next x av X' ∧ L' = X' ++ Br) ∨ (u = .bool false ∧ ∃ c X', Stop x av c X' ∧ L' = X' ++ Bd c)) := by
    intro x av hgood w2 hp2
    obtain ⟨o, hl, rfl⟩ := hl_of hp2
    have hrun := run_yield (P := P) (args := av.toArray) hl (by rw [hrec]; simpa using hps x av hgood)
    refine ⟨_, _, _, _, hrun, roundIn_of_wpIn trivial ?_⟩
    have hfr : Fr n { tmps := (rec.params.zip av.toArray).foldl (fun tmps (t, a) => tmps.setIfInBounds t a) rec.tmps, defers := [] } (putsF (resetD F) ps av) := by
      rw [hrec]
      have := Fr.puts ps av hf.reset (hps x av hgood)
      simpa using this
    have ha := (hbody (w.heap.size + 1) Br Bb x av hgood).use w2 _ hfr hp2
    rw [hrec] at ha ⊢
    refine wpIn_mono ha ?_
    rintro e a3 w3 ⟨F3, L3, hf3, hp3, hq3⟩
    cases e with
    | normal =>
      obtain ⟨Y, he3, hok⟩ := hq3
      have hp3' := he3.use _ hp3
      obtain ⟨o, hl3, ho⟩ := hl_of hp3'
      have ho' : o = .loop rec := ho
      subst ho'
      refine ⟨_, run_beginRound hl3 hst, ?_⟩
      have hp4 : Hp w0.heap.size w0 (w3.putObj (w.heap.size + 1) (.loop { rec with state := .busy })) (Y ++ Bb) := hp3'.putTail rfl
      refine wpIn_mono (hok.use _ a3 hf3 hp4) ?_
      have fin : ∀ (jump : Option Code) (w5 : World) (X' : List Res), Hp w0.heap.size w0 w5 (X' ++ Bb) →
          (Instr.endRound (w.heap.size + 1) jump).run P w5 = .ok (.bool jump.isNone) (w5.putObj (w.heap.size + 1) (.loop { rec with state := if jump.isNone then .ready else .done, pending := jump })) := fun jump w5 X' h5 => by
        obtain ⟨o, hl5, ho⟩ := hl_of h5
        have ho' : o = .loop { rec with state := .busy } := ho
        subst ho'
        exact run_endRound (r := { rec with state := .busy }) jump hl5
      rintro e a5 w5 ⟨F5, L5, hf5, hp5, hq5⟩
      cases e with
      | normal =>
        obtain ⟨X', he5, hn⟩ := hq5
        have hp5' := he5.use _ hp5
        refine ⟨_, _, fin none w5 X' hp5', _, _, rfl, hp5'.putTail (p' := pr) ?_, .inl ⟨rfl, X', hn, rfl⟩⟩
        show Obj.loop _ = Obj.loop rec
        congr 1
      | ret =>
        obtain ⟨X', he5, hn⟩ := hq5
        have hp5' := he5.use _ hp5
        exact ⟨_, _, fin (some .ret) w5 X' hp5', _, _, rfl, hp5'.putTail (p' := pd .ret) rfl, .inr ⟨rfl, .ret, X', hn, rfl⟩⟩
      | exit id =>
        obtain ⟨X', he5, hn⟩ := hq5
        have hp5' := he5.use _ hp5
        exact ⟨_, _, fin (some (.exit id)) w5 X' hp5', _, _, rfl, hp5'.putTail (p' := pd (.exit id)) rfl, .inr ⟨rfl, .exit id, X', hn, rfl⟩⟩
      | goto t => exact hq5.elim
      | panic c => exact hq5.elim
      | outgrown => exact hq5.elim
    | ret => exact hq3.elim
    | exit id => exact hq3.elim
    | goto t => exact hq3.elim
    | panic c => exact hq3.elim
    | outgrown => exact hq3.elim
  have hsat := hiter (w.heap.size + 1) Br Bd hy
  have hfin : ∀ _ : World, Fr n { a with defers := [{ target := .collected w.heap.size, args := #[] }] ++ a.defers } (pushD F w.heap.size) := fun _ => ⟨by rw [marks_push, ← hf.defers]; rfl, hf.size, hf.at'⟩
  refine ⟨w.heap.size + 1, [{ target := .collected w.heap.size, args := #[] }], w1, { target := .fn (.func gf) lb.toArray, args := #[.func (.yield (w.heap.size + 1)) #[] #[]] }, w1, gf,
    #[.func (.yield (w.heap.size + 1)) #[] #[]] ++ lb.toArray, w1, ?_, ?_, fun _ _ => trivial, ?_, (fun h => by cases h), ?_⟩
  · rw [hw1, hrec]; exact run_enterLoop_outer _ _ _ _ _
  · simp only [resolve, hf.eval, hg]
    simp [go_sem]
    rfl
  · have := he.run (#[.func (.yield (w.heap.size + 1)) #[] #[]] ++ lb.toArray) w1
    simp [invoke, go_sem] at this ⊢
    exact this
  · have hargs : #[Value.func (.yield (w.heap.size + 1)) #[] #[]] ++ lb.toArray = (Value.func (.yield (w.heap.size + 1)) #[] #[] :: lb).toArray := by simp
    rw [hargs]
    refine callsIn_wide.2 ((hsat.calls w1 hp1).mono ?_)
    rintro e w9 ⟨v, L9, rfl, hp9, h9⟩
    have tail : ∀ (X' : List Res) (p : Obj → Prop) (st : LoopState) (pe : Option Code), Hp w0.heap.size w0 w9 (X' ++ [.obj (w.heap.size + 1) p, .mark w.heap.size]) → (∀ o, p o → o = .loop { rec with state := st, pending := pe }) → st ≠ .busy →
        ∃ w10, (Instr.endLoop (w.heap.size + 1)).run P w9 = .ok pe w10 ∧ Hp w0.heap.size w0 w10 (.mark w.heap.size :: X') := fun X' p st pe h hp' hb => by
      obtain ⟨o, hl9, ho⟩ := hl_of h
      rw [hp' o ho] at hl9
      refine ⟨_, run_endLoop hl9 hb, ?_⟩
      have h10 := h.putTail (o := .loop { rec with state := .exhausted, pending := pe }) (p' := fun _ => True) trivial
      exact (h10.perm (List.perm_append_comm (l₁ := [.obj (w.heap.size + 1) (fun _ => True), .mark w.heap.size]) (l₂ := X'))).drop1
    rcases h9 with ⟨X', hd, rfl⟩ | ⟨c, X', hs, rfl⟩
    · obtain ⟨w10, hrun, hp10⟩ := tail X' pr .ready none hp9 (fun o ho => by rw [show o = .loop rec from ho, hself]) (by decide)
      exact ⟨none, w10, hrun, pushD F w.heap.size, _, hfin w10, hp10, hdone _ X' hd⟩
    · obtain ⟨w10, hrun, hp10⟩ := tail X' (pd c) .done (some c) hp9 (fun o ho => ho) (by decide)
      refine ⟨some c, w10, hrun, ?_⟩
      rcases hstop w.heap.size c X' hs with ⟨rfl, hq⟩ | ⟨id, rfl, hq⟩
      · exact wpIn_ret ⟨pushD F w.heap.size, _, hfin w10, hp10, hq⟩
      · exact wpIn_exit ⟨pushD F w.heap.size, _, hfin w10, hp10, hq⟩
def bodyM (P : Program) (n : Nat) (w0 : World) (rs : List ResultVar) (R : Value → List Res → Prop) : Exit → Fm → List Res → Prop
  | .normal, F, L => ∃ (Ds : List Nat) (vs : List Value) (L1 L' : List Res), marksV (F none) = Ds.map (fun D => { target := .collected D, args := #[] }) ∧ Ent w0 L (Ds.map Res.mark ++ L1) ∧ allRes P n F L1 rs vs ∧ Ent w0 L1 L' ∧ R (packV vs) L'
  | .ret, F, L => ∃ (Ds : List Nat) (vs : List Value) (L1 L' : List Res), marksV (F none) = Ds.map (fun D => { target := .collected D, args := #[] }) ∧ Ent w0 L (Ds.map Res.mark ++ L1) ∧ allRes P n F L1 rs vs ∧ Ent w0 L1 L' ∧ R (packV vs) L'
  | _, _, _ => False
theorem take_mark {w : World} {D : Nat} {L : List Res} (h : Hp w0.heap.size w0 w (.mark D :: L)) : (Instr.takeDeferred D).run P w = .ok [] (w.putObj D (.deferred none)) ∧ Hp w0.heap.size w0 (w.putObj D (.deferred none)) L := by
  have hok : w0.heap.size ≤ D ∧ w.heap[D]? = some (.deferred (some [])) := h.ok _ List.mem_cons_self
  have hlt := (Array.getElem?_eq_some_iff.1 hok.2).1
  refine ⟨run_takeDeferred hok.2, ?_⟩
  have := h.turn (i := 0) rfl (w' := w.putObj D (.deferred none)) (r' := .obj D (fun _ => True)) (grownBy_putObj' w D _) ⟨hok.1, _, World.putObj_heap_same hlt, trivial⟩ (fun k hk => .inl hk)
  exact this.drop1
theorem SatL.ofM {f : FuncId} {fn : Func} {c : Code} {args : List Value} {R : Value → List Res → Prop} (N : Nat) (rs : List ResultVar) (hf : P.funcs[f]? = some fn) (hN : fn.ntmps = N) (hnm : (fn.name == "runtime.NumGoroutine") = false) (hb : fn.body = some c)
    (hres : fn.results = rs.toArray) (hlen : Nat.ble args.length N = true) (h : OK P N w0 (bodyM P N w0 rs R) c (argF args) L) : SatL P f args w0 L R := by
  refine ⟨⟨fn, c, hf, hnm, hb⟩, fun w hp => ?_⟩
  refine (callsIn_wide (n := 0)).1 (callsIn_of_wp_marks hf hb trivial ((wpIn_wide (n := 0)).2 ?_))
  subst hN
  have hlen' : args.length ≤ fn.ntmps := by rwa [Nat.ble_eq] at hlen
  have hfr : Fr fn.ntmps { tmps := args.toArray ++ Array.replicate (fn.ntmps - args.toArray.size) undef, defers := [] } (argF args) := by
    refine ⟨rfl, by simp;omega, fun t ht => ?_⟩
    simp only [Array.getD_eq_getD_getElem?, argF, List.getD_eq_getElem?_getD]
    by_cases h : t < args.length
    · rw [Array.getElem?_append_left (by simpa using h)]
      simp
    · rw [Array.getElem?_append_right (by simpa using Nat.le_of_not_lt h), List.getElem?_eq_none (by omega)]
      simp only [List.size_toArray, Array.getElem?_replicate]
      split <;> rfl
  have key : ∀ (a' : Act) (w' : World) (F' : Fm) (L' : List Res) (vs : List Value), Fr fn.ntmps a' F' → Hp w0.heap.size w0 w' L' → allRes P fn.ntmps F' L' rs vs → (results fn a'.tmps).run P w' = .ok (packV vs) w' := by
    intro a' w' F' L' vs h1 h2 h3
    unfold results
    rw [hres, List.mapM_toArray]
    simp only [Sem.run_bind, Sem.run_map]
    rw [mapM_run (n := fn.ntmps) (F := F') (L := L') ?_ rs vs h3]
    · rcases vs with _ | ⟨v, _ | ⟨v2, vs⟩⟩ <;> simp [packV, Result.andThen]
    · intro r v h
      cases r with
      | tmp t =>
        have he : a'.tmps.getD t undef = v := (congrFun h1.eval (.tmp t)).trans h
        simp only [Sem.run_pure, he]
      | cell t tt =>
        obtain ⟨g, i, e, cs, h2', h3', h4⟩ := h
        have he : a'.tmps.getD t undef = .pointer (some ⟨g, 0, none⟩) := (congrFun h1.eval (.tmp t)).trans h2'
        have h5 := h4 w' (h2.boxAt i h3').1
        simp only [Sem.run_bind, Sem.run_pure, Result.andThen, he, asAddr, h5]
  have fin : ∀ (a' : Act) (F' : Fm) (vs : List Value) (L1 L' : List Res), Fr fn.ntmps a' F' → allRes P fn.ntmps F' L1 rs vs → Ent w0 L1 L' → R (packV vs) L' → ∀ (Ds : List Nat) (w' : World), Hp w0.heap.size w0 w' (Ds.map Res.mark ++ L1) →
      LeavesInM Fence.wide 0 P fn a'.tmps (fun e w' => ∃ v L', e = .returned v ∧ Hp w0.heap.size w0 w' L' ∧ R v L') (Ds.map (fun D => { target := .collected D, args := #[] })) .returning w' := by
    intro a' F' vs L1 L' h1 h3 he hR Ds
    induction Ds with
    | nil =>
      intro w' hp'
      exact ⟨_, key _ _ _ _ _ h1 hp' h3, _, L', rfl, he.use _ hp', hR⟩
    | cons D Ds ih =>
      intro w' hp'
      obtain ⟨h4, h5⟩ := take_mark (P := P) hp'
      exact ⟨by simp, .inl ⟨D, _, rfl, h4, ih _ h5⟩⟩
  refine wp_mono (h.use w _ hfr hp) ?_
  rintro e a' w' ⟨F', L2, h1, h2, h3⟩
  unfold bodyM at h3
  cases e with
  | normal =>
    obtain ⟨Ds, vs, L1, L', hm, he, hall, he2, hR⟩ := h3
    show LeavesInM _ _ _ _ _ _ _ _ _
    rw [h1.defers, hm]
    exact fin a' F' vs L1 L' h1 hall he2 hR Ds w' (he.use _ h2)
  | ret =>
    obtain ⟨Ds, vs, L1, L', hm, he, hall, he2, hR⟩ := h3
    show LeavesInM _ _ _ _ _ _ _ _ _
    rw [h1.defers, hm]
    exact fin a' F' vs L1 L' h1 hall he2 hR Ds w' (he.use _ h2)
  | _ => exact h3.elim
end
attribute [irreducible] bodyM
end Go.Proofs.YtpknpbeiifjmgaaDoor
namespace Go.Proofs.YtpknpbeiifjmgaaDoor
open Go.RowKit
def maskS (n : Nat) (S : List Nat) : Array Bool := ((List.range n).map fun i => memN i S).toArray
section
variable {P : Program} {n : Nat} {w0 : World} {Q : Exit → Fm → List Res → Prop} {K : Fm → List Res → Prop} {F : Fm} {L : List Res} {l : List Oper} {N f : Nat} {S : List Nat}
def OKa (P : Program) (n : Nat) (w0 : World) (K : Fm → List Res → Prop) (l : List Oper) (N f : Nat) (S : List Nat) (F : Fm) (L : List Res) : Prop :=
  ∀ w a, Fr n a F → Hp w0.heap.size w0 w L → wpAny P .any l.toArray (liftN n w0 K) f (maskS N S) a w
theorem OKa.use (h : OKa P n w0 K l N f S F L) : ∀ w a, Fr n a F → Hp w0.heap.size w0 w L → wpAny P .any l.toArray (liftN n w0 K) f (maskS N S) a w := h
theorem OKa_ent {L' : List Res} (e : Ent w0 L L') (h : OKa P n w0 K l N f S F L') : OKa P n w0 K l N f S F L := fun w a hf hp => h w a hf (e.use w hp)
theorem OK_anyR {id : Nat} (N : Nat) (hm : P.follows .mixedOrders = true) (hN : Nat.beq l.length N = true) (h : OKa P n w0 (Q .normal) l N N [] F L) : OK P n w0 Q (.region id l.toArray true) F L := by
  obtain rfl : l.length = N := Nat.eq_of_beq_eq_true hN
  refine OK.mk' fun w a hf hp => wp_region_any hm ?_
  have h1 := h w.drew a hf hp.drew
  have e : maskS l.length [] = Array.replicate l.toArray.size false := by
    unfold maskS
    apply Array.ext
    · simp
    · intro i h1 h2; simp [memN]
  rw [e] at h1
  have wm : ∀ (f : Nat) (ls : Array Bool) (a : Act) (w : World), wpAny P .any l.toArray (liftN n w0 (Q .normal)) f ls a w → wpAny P .any l.toArray (lift n w0 Q) f ls a w := by
    intro f
    induction f with
    | zero =>
      rintro ls a w ⟨h1, _, F', L', h2, h3, h4⟩
      exact ⟨h1, F', L', h2, h3, h4⟩
    | succ f ih =>
      rintro ls a w ⟨h1, h2⟩
      refine ⟨fun h0 => ?_, fun i hi => ?_⟩
      · obtain ⟨_, F', L', h2, h3, h4⟩ := h1 h0
        exact ⟨F', L', h2, h3, h4⟩
      · have h5 := h2 i hi
        unfold wpOp at h5 ⊢
        split
        · rename_i ho
          simp only [ho] at h5
          exact ih _ _ _ h5
        · rename_i o ho
          simp only [ho] at h5
          split
          · rename_i hw
            rw [if_pos hw] at h5
            rcases h5 with h5 | ⟨_, a9, w9, h9, _⟩
            · exact .inl (wp_anyQ (fun c a w h => by cases h.1) (by rintro ⟨a, w, h, _⟩; cases h) (Oper.wp_mono (fun a w h => ih _ _ _ h) h5))
            · cases h9
          · rename_i hw
            rw [if_neg hw] at h5
            exact ih _ _ _ h5
  have h2 := wm _ _ _ _ h1
  have e2 : l.toArray.size = l.length := by simp
  rw [e2]
  rw [e2] at h2
  exact h2
theorem OKa_end (hr : (Region.ready .any l.toArray (maskS N S)).isEmpty = true) (h : K F L) : OKa P n w0 K l N 0 S F L :=
  fun w a hf hp => ⟨List.isEmpty_iff.1 hr, rfl, F, L, hf, hp, h⟩
theorem OKa_stepG (kids : List (Nat × List Nat)) (hr : Region.ready .any l.toArray (maskS N S) = kids.map (·.1)) (hne : kids ≠ []) (h : ∀ k ∈ kids, maskS N k.2 = (maskS N S).setIfInBounds k.1 true ∧ ∃ o, l[k.1]? = some o ∧ OKx P n w0 (.seq []) l.toArray (fun F L => OKa P n w0 K l N f k.2 F L) [o] F L) :
    OKa P n w0 K l N (f + 1) S F L := by
  intro w a hf hp
  refine ⟨fun h0 => ?_, fun i hi => ?_⟩
  · rw [hr] at h0
    exact absurd (List.map_eq_nil_iff.1 h0) hne
  · rw [hr] at hi
    obtain ⟨k, hk, rfl⟩ := List.mem_map.1 hi
    obtain ⟨hm, o, ho, hx⟩ := h k hk
    obtain ⟨_, h1⟩ := hx.use w a hf hp
    unfold wpOp
    have ho' : l.toArray[k.1]? = some o := by simpa using ho
    rw [ho']
    dsimp only
    rw [← hm]
    split
    · rename_i hw
      rw [if_pos hw] at h1
      refine .inl (Oper.wp_mono ?_ (wp_anyQ (fun c a w h => by cases h.1) (by rintro ⟨a, w, h, _⟩; cases h) h1))
      rintro a2 w2 ⟨_, _, F', L', h2, h3, h4⟩
      exact OKa.use h4 _ _ h2 h3
    · rename_i hw
      rw [if_neg hw] at h1
      obtain ⟨_, _, F', L', h2, h3, h4⟩ := h1
      exact OKa.use h4 _ _ h2 h3
def kidOk (l : List Oper) (N : Nat) (S : List Nat) (i : Nat) (S' : List Nat) : Bool := (maskS N S').toList == ((maskS N S).setIfInBounds i true).toList
theorem kidOk_eq {i : Nat} {S' : List Nat} (h : kidOk l N S i S' = true) : maskS N S' = (maskS N S).setIfInBounds i true := by
  unfold kidOk at h
  exact Array.toList_inj.1 (beq_iff_eq.1 h)
theorem OKa_step1 {i1 : Nat} {S1 : List Nat} {o1 : Oper} (hr : Region.ready .any l.toArray (maskS N S) = [i1]) (m1 : kidOk l N S i1 S1 = true) (g1 : l[i1]? = some o1)
    (k1 : OKx P n w0 (.seq []) l.toArray (fun F L => OKa P n w0 K l N f S1 F L) [o1] F L) : OKa P n w0 K l N (f + 1) S F L :=
  OKa_stepG [(i1, S1)] hr (by simp) fun k hk => by
    obtain rfl := List.mem_singleton.1 hk
    exact ⟨kidOk_eq m1, o1, g1, k1⟩
theorem OKa_step2 {i1 i2 : Nat} {S1 S2 : List Nat} {o1 o2 : Oper} (hr : Region.ready .any l.toArray (maskS N S) = [i1, i2]) (m1 : kidOk l N S i1 S1 = true) (m2 : kidOk l N S i2 S2 = true) (g1 : l[i1]? = some o1) (g2 : l[i2]? = some o2)
    (k1 : OKx P n w0 (.seq []) l.toArray (fun F L => OKa P n w0 K l N f S1 F L) [o1] F L) (k2 : OKx P n w0 (.seq []) l.toArray (fun F L => OKa P n w0 K l N f S2 F L) [o2] F L) : OKa P n w0 K l N (f + 1) S F L :=
  OKa_stepG [(i1, S1), (i2, S2)] hr (by simp) fun k hk => by
    simp only [List.mem_cons, List.not_mem_nil, or_false] at hk
    rcases hk with rfl | rfl
    · exact ⟨kidOk_eq m1, o1, g1, k1⟩
    · exact ⟨kidOk_eq m2, o2, g2, k2⟩
theorem OKa_step3 {i1 i2 i3 : Nat} {S1 S2 S3 : List Nat} {o1 o2 o3 : Oper} (hr : Region.ready .any l.toArray (maskS N S) = [i1, i2, i3]) (m1 : kidOk l N S i1 S1 = true) (m2 : kidOk l N S i2 S2 = true) (m3 : kidOk l N S i3 S3 = true) (g1 : l[i1]? = some o1) (g2 : l[i2]? = some o2) (g3 : l[i3]? = some o3)
    (k1 : OKx P n w0 (.seq []) l.toArray (fun F L => OKa P n w0 K l N f S1 F L) [o1] F L) (k2 : OKx P n w0 (.seq []) l.toArray (fun F L => OKa P n w0 K l N f S2 F L) [o2] F L) (k3 : OKx P n w0 (.seq []) l.toArray (fun F L => OKa P n w0 K l N f S3 F L) [o3] F L) : OKa P n w0 K l N (f + 1) S F L :=
  OKa_stepG [(i1, S1), (i2, S2), (i3, S3)] hr (by simp) fun k hk => by
    simp only [List.mem_cons, List.not_mem_nil, or_false] at hk
    rcases hk with rfl | rfl | rfl
    · exact ⟨kidOk_eq m1, o1, g1, k1⟩
    · exact ⟨kidOk_eq m2, o2, g2, k2⟩
    · exact ⟨kidOk_eq m3, o3, g3, k3⟩
theorem OKa_step4 {i1 i2 i3 i4 : Nat} {S1 S2 S3 S4 : List Nat} {o1 o2 o3 o4 : Oper} (hr : Region.ready .any l.toArray (maskS N S) = [i1, i2, i3, i4]) (m1 : kidOk l N S i1 S1 = true) (m2 : kidOk l N S i2 S2 = true) (m3 : kidOk l N S i3 S3 = true) (m4 : kidOk l N S i4 S4 = true) (g1 : l[i1]? = some o1) (g2 : l[i2]? = some o2) (g3 : l[i3]? = some o3) (g4 : l[i4]? = some o4)
    (k1 : OKx P n w0 (.seq []) l.toArray (fun F L => OKa P n w0 K l N f S1 F L) [o1] F L) (k2 : OKx P n w0 (.seq []) l.toArray (fun F L => OKa P n w0 K l N f S2 F L) [o2] F L) (k3 : OKx P n w0 (.seq []) l.toArray (fun F L => OKa P n w0 K l N f S3 F L) [o3] F L) (k4 : OKx P n w0 (.seq []) l.toArray (fun F L => OKa P n w0 K l N f S4 F L) [o4] F L) : OKa P n w0 K l N (f + 1) S F L :=
  OKa_stepG [(i1, S1), (i2, S2), (i3, S3), (i4, S4)] hr (by simp) fun k hk => by
    simp only [List.mem_cons, List.not_mem_nil, or_false] at hk
    rcases hk with rfl | rfl | rfl | rfl
    · exact ⟨kidOk_eq m1, o1, g1, k1⟩
    · exact ⟨kidOk_eq m2, o2, g2, k2⟩
    · exact ⟨kidOk_eq m3, o3, g3, k3⟩
    · exact ⟨kidOk_eq m4, o4, g4, k4⟩
theorem OK_any4 (N f : Nat) (S W : List Nat) (s1 s2 s3 s4 : Nat) (Mid : Value → Value → Value → Value → List Res → Prop) {id : Nat} (hm : P.follows .mixedOrders = true) (hN : Nat.beq l.length N = true)
    (h2 : ∀ v1 v2 v3 v4 L1 G, Mid v1 v2 v3 v4 L1 → OKa P n w0 (Q .normal) l N f S (upd (upd (upd (upd (over W G F) s1 v1) s2 v2) s3 v3) s4 v4) L1)
    (h1 : (∀ F'' L'', (agree W F'' F ∧ ∃ L1, Ent w0 L'' L1 ∧ Mid (F'' (some s1)) (F'' (some s2)) (F'' (some s3)) (F'' (some s4)) L1) → OKa P n w0 (Q .normal) l N f S F'' L'') → OKa P n w0 (Q .normal) l N N [] F L) :
    OK P n w0 Q (.region id l.toArray true) F L := by
  refine OK_anyR N hm hN (h1 ?_)
  rintro F'' L'' ⟨ha, L1, e, hM⟩
  have hk := h2 _ _ _ _ L1 F'' hM
  rw [← over_upd ha, upd_self, upd_self, upd_self, upd_self] at hk
  exact OKa_ent e hk
end
attribute [irreducible] OKa
end Go.Proofs.YtpknpbeiifjmgaaDoor
namespace Go.Proofs.YtpknpbeiifjmgaaDoor
open Go.RowKit
section
variable {P : Program} {ops : Array Oper} {Q : Exit → Act → World → Prop}
def pureLB (ops : Array Oper) : List Nat → Array Bool → Bool
  | [], _ => true
  | i :: E, listed => stepB ops [] listed i && pureLB ops E (listed.setIfInBounds i true)
def listE (E : List Nat) (listed : Array Bool) : Array Bool := E.foldl (fun l i => l.setIfInBounds i true) listed
theorem wpPure_mono {C : World → Prop} {Q1 Q2 : Act → Prop} (hq : ∀ a, Q1 a → Q2 a) : ∀ (l : List Oper) (a : Act), wpPure P ops C Q1 l a → wpPure P ops C Q2 l a
  | [], a, h => hq _ h
  | o :: l, a, h => by
    unfold wpPure at h ⊢
    split
    · rename_i hw
      rw [if_pos hw] at h
      obtain ⟨v, h1, h2⟩ := h
      exact ⟨v, h1, wpPure_mono hq l _ h2⟩
    · rename_i hw
      rw [if_neg hw] at h
      exact wpPure_mono hq l _ h
end
section
variable {P : Program} {n : Nat} {w0 : World} {Q : Exit → Fm → List Res → Prop} {K : Fm → List Res → Prop} {F : Fm} {L Lw : List Res} {l : List Oper} {N f : Nat} {S : List Nat}
def OKc (P : Program) (n : Nat) (w0 : World) (Lw : List Res) (K : Fm → List Res → Prop) (l : List Oper) (N f : Nat) (S : List Nat) (F : Fm) (L : List Res) : Prop :=
  ∀ w a, Fr n a F → Hp w0.heap.size w0 w L → anyC P l.toArray (fun _ w => Hp w0.heap.size w0 w Lw) (liftN n w0 K) f (maskS N S) a w
theorem OKc.use (h : OKc P n w0 Lw K l N f S F L) : ∀ w a, Fr n a F → Hp w0.heap.size w0 w L → anyC P l.toArray (fun _ w => Hp w0.heap.size w0 w Lw) (liftN n w0 K) f (maskS N S) a w := h
end
attribute [irreducible] OKc
end Go.Proofs.YtpknpbeiifjmgaaDoor
namespace Go.Proofs.YtpknpbeiifjmgaaDoor
open Go.RowKit
def waitsB (ops : Array Oper) (T i : Nat) : Bool := memN T (waiters ops i) && !Nat.beq i T
theorem waitsB_at {ops : Array Oper} {T i : Nat} (h : waitsB ops T i = true) : T ∈ waiters ops i ∧ i ≠ T := by
  simp only [waitsB, Bool.and_eq_true, Bool.not_eq_true'] at h
  exact ⟨(memN_iff _ _).1 h.1, fun e => by have h2 := h.2; rw [e, Nat.beq_refl] at h2; cases h2⟩
theorem till_set {Cw : World → Prop} {T i : Nat} (h : i ≠ T) : ∀ (listed : Array Bool) (w : World), listed.getD i true = false → ((listed.setIfInBounds i true).getD T true = false → Cw w) → (listed.getD T true = false → Cw w) := fun listed w _ hc h0 => hc (by
  rw [← h0]
  simp only [Array.getD_eq_getD_getElem?, Array.getElem?_setIfInBounds, if_neg h])
section
variable {P : Program} {ops : Array Oper} {Q : Exit → Act → World → Prop}
theorem anyD_pureE {Cw : World → Prop} {T : Nat} (hsel : Region.noSelect ops = true) (hQ : ∀ c a w, ¬ Q (.panic c) a w) (fuel : Nat) : ∀ (E : List Nat) (lo : List Oper) (listed : Array Bool) (a : Act) (w : World), E.map (fun t => ops[t]?) = lo.map some → pureLB ops E listed = true → (E.all (waitsB ops T)) = true →
    wpPure P ops Cw (fun a' => anyC P ops (fun l w => l.getD T true = false → Cw w) Q fuel (listE E listed) a' w) lo a → anyC P ops (fun l w => l.getD T true = false → Cw w) Q (fuel + E.length) listed a w
  | [], lo, listed, a, w, hm, _, _, h => by
    obtain rfl : lo = [] := by simpa using hm.symm
    exact h
  | i :: E, lo, listed, a, w, hm, hB, hT, h => by
    cases lo with
    | nil => simp at hm
    | cons o lo =>
      simp only [List.map_cons, List.cons.injEq] at hm
      obtain ⟨hi, hm⟩ := hm
      simp only [pureLB, stepB, Bool.and_eq_true, Bool.not_eq_true'] at hB
      obtain ⟨⟨⟨⟨hr, hf⟩, _⟩, hW⟩, hB'⟩ := hB
      rw [List.all_cons, Bool.and_eq_true] at hT
      obtain ⟨hT1, hT⟩ := hT
      obtain ⟨hTw, hTi⟩ := waitsB_at hT1
      have hr' : i ∈ Region.ready .any ops listed := by simpa using hr
      have hW' : ∀ j ∈ waiters ops i, listed.getD j true = false := fun j hj => by
        have := List.all_eq_true.1 hW j hj
        simpa using this
      rw [List.length_cons, ← Nat.add_assoc]
      unfold wpPure at h
      by_cases hw : Region.wanted o (yielded ops a.tmps) = true
      · rw [if_pos hw] at h
        obtain ⟨v, hv, hk⟩ := h
        exact anyC_first hi (Region.noSelect_spec hsel) hQ (till_set hTi) _ listed a w (Region.free_spec hi hf) hr' hW' (.inl ⟨hw, fun _ w' _ hl hc => hv w' (hc (hl _ hTw))⟩) (anyD_pureE hsel hQ fuel E lo _ _ w hm hB' hT hk)
      · rw [if_neg hw] at h
        exact anyC_first hi (Region.noSelect_spec hsel) hQ (till_set hTi) _ listed a w (Region.free_spec hi hf) hr' hW' (.inr ⟨by simpa using hw, rfl⟩) (anyD_pureE hsel hQ fuel E lo _ _ w hm hB' hT h)
end
section
variable {P : Program} {n : Nat} {w0 : World} {Q : Exit → Fm → List Res → Prop} {K : Fm → List Res → Prop} {F : Fm} {L Lw : List Res} {l : List Oper} {N f T : Nat} {S : List Nat}
def OKd (P : Program) (n : Nat) (w0 : World) (T : Nat) (Lw : List Res) (K : Fm → List Res → Prop) (l : List Oper) (N f : Nat) (S : List Nat) (F : Fm) (L : List Res) : Prop :=
  ∀ w a, Fr n a F → Hp w0.heap.size w0 w L → anyC P l.toArray (fun l w => l.getD T true = false → Hp w0.heap.size w0 w Lw) (liftN n w0 K) f (maskS N S) a w
theorem OKd.use (h : OKd P n w0 T Lw K l N f S F L) : ∀ w a, Fr n a F → Hp w0.heap.size w0 w L → anyC P l.toArray (fun l w => l.getD T true = false → Hp w0.heap.size w0 w Lw) (liftN n w0 K) f (maskS N S) a w := h
theorem OKd_ent {L' : List Res} (e : Ent w0 L L') (h : OKd P n w0 T Lw K l N f S F L') : OKd P n w0 T Lw K l N f S F L := fun w a hf hp => h w a hf (e.use w hp)
theorem OKd_end (hr : (Region.ready .any l.toArray (maskS N S)).isEmpty = true) (e : (maskS N S).getD T true = true ∨ Ent w0 L Lw) (h : K F L) : OKd P n w0 T Lw K l N 0 S F L :=
  fun w a hf hp => ⟨fun h0 => e.elim (fun h1 => absurd (h0.symm.trans h1) (by simp)) (fun e => e.use w hp), List.isEmpty_iff.1 hr, rfl, F, L, hf, hp, h⟩
theorem OKd_stepG (kids : List (Nat × List Nat)) (hr : Region.ready .any l.toArray (maskS N S) = kids.map (·.1)) (hne : kids ≠ []) (e : (maskS N S).getD T true = true ∨ Ent w0 L Lw) (h : ∀ k ∈ kids, maskS N k.2 = (maskS N S).setIfInBounds k.1 true ∧ ∃ o, l[k.1]? = some o ∧ OKx P n w0 (.seq []) l.toArray (fun F L => OKd P n w0 T Lw K l N f k.2 F L) [o] F L) :
    OKd P n w0 T Lw K l N (f + 1) S F L := by
  intro w a hf hp
  refine ⟨fun h0 => e.elim (fun h1 => absurd (h0.symm.trans h1) (by simp)) (fun e => e.use w hp), fun h0 => ?_, fun i hi => ?_⟩
  · rw [hr] at h0
    exact absurd (List.map_eq_nil_iff.1 h0) hne
  · rw [hr] at hi
    obtain ⟨k, hk, rfl⟩ := List.mem_map.1 hi
    obtain ⟨hm, o, ho, hx⟩ := h k hk
    obtain ⟨_, h1⟩ := hx.use w a hf hp
    unfold wpOp
    have ho' : l.toArray[k.1]? = some o := by simpa using ho
    rw [ho']
    dsimp only
    rw [← hm]
    split
    · rename_i hw
      rw [if_pos hw] at h1
      refine .inl (Oper.wp_mono ?_ (wp_anyQ (fun c a w h => by cases h.1) (by rintro ⟨a, w, h, _⟩; cases h) h1))
      rintro a2 w2 ⟨_, _, F', L', h2, h3, h4⟩
      exact OKd.use h4 _ _ h2 h3
    · rename_i hw
      rw [if_neg hw] at h1
      obtain ⟨_, _, F', L', h2, h3, h4⟩ := h1
      exact OKd.use h4 _ _ h2 h3
theorem OKd_step1 {i1 : Nat} {S1 : List Nat} {o1 : Oper} (e : (maskS N S).getD T true = true ∨ Ent w0 L Lw) (hr : Region.ready .any l.toArray (maskS N S) = [i1]) (m1 : kidOk l N S i1 S1 = true) (g1 : l[i1]? = some o1)
    (k1 : OKx P n w0 (.seq []) l.toArray (fun F L => OKd P n w0 T Lw K l N f S1 F L) [o1] F L) : OKd P n w0 T Lw K l N (f + 1) S F L :=
  OKd_stepG [(i1, S1)] hr (by simp) e fun k hk => by
    obtain rfl := List.mem_singleton.1 hk
    exact ⟨kidOk_eq m1, o1, g1, k1⟩
theorem OKd_step2 {i1 i2 : Nat} {S1 S2 : List Nat} {o1 o2 : Oper} (e : (maskS N S).getD T true = true ∨ Ent w0 L Lw) (hr : Region.ready .any l.toArray (maskS N S) = [i1, i2]) (m1 : kidOk l N S i1 S1 = true) (m2 : kidOk l N S i2 S2 = true) (g1 : l[i1]? = some o1) (g2 : l[i2]? = some o2)
    (k1 : OKx P n w0 (.seq []) l.toArray (fun F L => OKd P n w0 T Lw K l N f S1 F L) [o1] F L) (k2 : OKx P n w0 (.seq []) l.toArray (fun F L => OKd P n w0 T Lw K l N f S2 F L) [o2] F L) : OKd P n w0 T Lw K l N (f + 1) S F L :=
  OKd_stepG [(i1, S1), (i2, S2)] hr (by simp) e fun k hk => by
    simp only [List.mem_cons, List.not_mem_nil, or_false] at hk
    rcases hk with rfl | rfl
    · exact ⟨kidOk_eq m1, o1, g1, k1⟩
    · exact ⟨kidOk_eq m2, o2, g2, k2⟩
theorem OKd_step3 {i1 i2 i3 : Nat} {S1 S2 S3 : List Nat} {o1 o2 o3 : Oper} (e : (maskS N S).getD T true = true ∨ Ent w0 L Lw) (hr : Region.ready .any l.toArray (maskS N S) = [i1, i2, i3]) (m1 : kidOk l N S i1 S1 = true) (m2 : kidOk l N S i2 S2 = true) (m3 : kidOk l N S i3 S3 = true) (g1 : l[i1]? = some o1) (g2 : l[i2]? = some o2) (g3 : l[i3]? = some o3)
    (k1 : OKx P n w0 (.seq []) l.toArray (fun F L => OKd P n w0 T Lw K l N f S1 F L) [o1] F L) (k2 : OKx P n w0 (.seq []) l.toArray (fun F L => OKd P n w0 T Lw K l N f S2 F L) [o2] F L) (k3 : OKx P n w0 (.seq []) l.toArray (fun F L => OKd P n w0 T Lw K l N f S3 F L) [o3] F L) : OKd P n w0 T Lw K l N (f + 1) S F L :=
  OKd_stepG [(i1, S1), (i2, S2), (i3, S3)] hr (by simp) e fun k hk => by
    simp only [List.mem_cons, List.not_mem_nil, or_false] at hk
    rcases hk with rfl | rfl | rfl
    · exact ⟨kidOk_eq m1, o1, g1, k1⟩
    · exact ⟨kidOk_eq m2, o2, g2, k2⟩
    · exact ⟨kidOk_eq m3, o3, g3, k3⟩
theorem OKd_pure {i : Nat} {S1 : List Nat} {o : Oper} (hB : (Region.noSelect l.toArray && stepB l.toArray [] (maskS N S) i) = true) (hT : waitsB l.toArray T i = true) (m1 : kidOk l N S i S1 = true) (g1 : l[i]? = some o)
    (k1 : OKx P n w0 .pure l.toArray (fun F1 _ => OKd P n w0 T Lw K l N f S1 F1 L) [o] F Lw) : OKd P n w0 T Lw K l N (f + 1) S F L := by
  intro w a hf hp
  simp only [stepB, Bool.and_eq_true, Bool.not_eq_true'] at hB
  obtain ⟨hTw, hTi⟩ := waitsB_at hT
  obtain ⟨hsel, ⟨⟨hr, hfr⟩, _⟩, hW⟩ := hB
  have hr' : i ∈ Region.ready .any l.toArray (maskS N S) := by simpa using hr
  have hW' : ∀ j ∈ waiters l.toArray i, (maskS N S).getD j true = false := fun j hj => by
    have := List.all_eq_true.1 hW j hj
    simpa using this
  have hi : l.toArray[i]? = some o := by simpa using g1
  have h1 := k1.useP a hf
  have hQ : ∀ c a w, ¬ liftN n w0 K (.panic c) a w := fun c a w h => by cases h.1
  unfold wpPure at h1
  by_cases hw : Region.wanted o (yielded l.toArray a.tmps) = true
  · rw [if_pos hw] at h1
    obtain ⟨v, hv, F', h2, h3⟩ := h1
    refine anyC_first hi (Region.noSelect_spec hsel) hQ (till_set hTi) _ _ a w (Region.free_spec hi hfr) hr' hW' (.inl ⟨hw, fun _ w' _ hl hc => hv w' (hc (hl _ hTw))⟩) ?_
    rw [← kidOk_eq m1]
    exact OKd.use h3 _ _ h2 hp
  · rw [if_neg hw] at h1
    obtain ⟨F', h2, h3⟩ := h1
    refine anyC_first hi (Region.noSelect_spec hsel) hQ (till_set hTi) _ _ a w (Region.free_spec hi hfr) hr' hW' (.inr ⟨by simpa using hw, rfl⟩) ?_
    rw [← kidOk_eq m1]
    exact OKd.use h3 _ _ h2 hp
theorem OK_pureAnzK (N f T : Nat) (E : List Nat) (Lw : List Res) {id : Nat} {le : List Oper} (hm : P.follows .mixedOrders = true) (hN : Nat.beq l.length N = true) (hB : (Region.noSelect l.toArray && pureLB l.toArray E (maskS N [])) = true) (hI : (E.all fun i => Nat.ble (i + 1) l.length) = true)
    (hS : ((listE E (maskS N [])).toList == (maskS N E).toList) = true) (hf : Nat.beq (f + E.length) N = true) (e : Ent w0 L Lw) (hE : pickO l E = le) (hT : (E.all (waitsB l.toArray T)) = true) (hK : ∀ F2 L2, K F2 L2 → Q .normal F2 L2)
    (h : OKx P n w0 .pure l.toArray (fun F1 _ => OKd P n w0 T Lw K l N f E F1 L) le F Lw) : OK P n w0 Q (.region id l.toArray true) F L := by
  obtain rfl : l.length = N := Nat.eq_of_beq_eq_true hN
  have hf' := Nat.eq_of_beq_eq_true hf
  subst hE
  simp only [Bool.and_eq_true] at hB
  have hS' : listE E (maskS l.length []) = maskS l.length E := Array.toList_inj.1 (beq_iff_eq.1 hS)
  refine OK.mk' fun w a hfr hp => wp_region_any hm ?_
  have e0 : maskS l.length [] = Array.replicate l.toArray.size false := by
    unfold maskS
    apply Array.ext
    · simp
    · intro i h1 h2; simp [memN]
  have key := anyD_pureE (P := P) (T := T) (ops := l.toArray) (Q := liftN n w0 K) (Cw := fun w => Hp w0.heap.size w0 w Lw) hB.1 (fun c a w h => by cases h.1) f E (pickO l E) (maskS l.length []) a w.drew (pickO_at l E hI) hB.2 hT (by
    have h1 := h.useP a hfr
    refine wpPure_mono ?_ _ _ h1
    rintro a' ⟨F', h2, h3⟩
    rw [hS']
    exact OKd.use h3 _ _ h2 hp.drew)
  rw [hf', e0] at key
  have key2 := anyC_any _ _ _ _ key
  have wm : ∀ (f : Nat) (ls : Array Bool) (a : Act) (w : World), wpAny P .any l.toArray (liftN n w0 K) f ls a w → wpAny P .any l.toArray (lift n w0 Q) f ls a w := by
    intro f
    induction f with
    | zero =>
      rintro ls a w ⟨h1, _, F', L', h2, h3, h4⟩
      exact ⟨h1, F', L', h2, h3, hK _ _ h4⟩
    | succ f ih =>
      rintro ls a w ⟨h1, h2⟩
      refine ⟨fun h0 => ?_, fun i hi => ?_⟩
      · obtain ⟨_, F', L', h2, h3, h4⟩ := h1 h0
        exact ⟨F', L', h2, h3, hK _ _ h4⟩
      · have h5 := h2 i hi
        unfold wpOp at h5 ⊢
        split
        · rename_i ho
          simp only [ho] at h5
          exact ih _ _ _ h5
        · rename_i o ho
          simp only [ho] at h5
          split
          · rename_i hw
            rw [if_pos hw] at h5
            rcases h5 with h5 | ⟨_, a9, w9, h9, _⟩
            · exact .inl (wp_anyQ (fun c a w h => by cases h.1) (by rintro ⟨a, w, h, _⟩; cases h) (Oper.wp_mono (fun a w h => ih _ _ _ h) h5))
            · cases h9
          · rename_i hw
            rw [if_neg hw] at h5
            exact ih _ _ _ h5
  have h2 := wm _ _ _ _ key2
  have e2 : l.toArray.size = l.length := by simp
  rw [e2]
  rw [e2] at h2
  exact h2
theorem OK_pureAnz (N f T : Nat) (E : List Nat) (Lw : List Res) {id : Nat} {le : List Oper} (hm : P.follows .mixedOrders = true) (hN : Nat.beq l.length N = true) (hB : (Region.noSelect l.toArray && pureLB l.toArray E (maskS N [])) = true) (hI : (E.all fun i => Nat.ble (i + 1) l.length) = true)
    (hS : ((listE E (maskS N [])).toList == (maskS N E).toList) = true) (hf : Nat.beq (f + E.length) N = true) (e : Ent w0 L Lw) (hE : pickO l E = le) (hT : (E.all (waitsB l.toArray T)) = true)
    (h : OKx P n w0 .pure l.toArray (fun F1 _ => OKd P n w0 T Lw (Q .normal) l N f E F1 L) le F Lw) : OK P n w0 Q (.region id l.toArray true) F L :=
  OK_pureAnzK N f T E Lw hm hN hB hI hS hf e hE hT (fun _ _ h => h) h
theorem OK_pureAnz4 (N f fS T : Nat) (E : List Nat) (Lw : List Res) (S W : List Nat) (s1 s2 s3 s4 : Nat) (Mid : Value → Value → Value → Value → List Res → Prop) {id : Nat} {le : List Oper} (hm : P.follows .mixedOrders = true) (hN : Nat.beq l.length N = true) (hB : (Region.noSelect l.toArray && pureLB l.toArray E (maskS N [])) = true) (hI : (E.all fun i => Nat.ble (i + 1) l.length) = true)
    (hS : ((listE E (maskS N [])).toList == (maskS N E).toList) = true) (hf : Nat.beq (f + E.length) N = true) (e : Ent w0 L Lw) (hE : pickO l E = le) (hT : (E.all (waitsB l.toArray T)) = true)
    (h2 : ∀ v1 v2 v3 v4 L1 G, Mid v1 v2 v3 v4 L1 → OKd P n w0 T Lw (Q .normal) l N fS S (upd (upd (upd (upd (over W G F) s1 v1) s2 v2) s3 v3) s4 v4) L1)
    (h1 : (∀ F2 L2, (agree W F2 F ∧ ∃ L1, Ent w0 L2 L1 ∧ Mid (F2 (some s1)) (F2 (some s2)) (F2 (some s3)) (F2 (some s4)) L1) → OKd P n w0 T Lw (Q .normal) l N fS S F2 L2) → OKx P n w0 .pure l.toArray (fun F1 _ => OKd P n w0 T Lw (Q .normal) l N f E F1 L) le F Lw) : OK P n w0 Q (.region id l.toArray true) F L := by
  refine OK_pureAnz N f T E Lw hm hN hB hI hS hf e hE hT (h1 ?_)
  rintro F2 L2 ⟨ha, L1, e1, hM⟩
  have hk := h2 _ _ _ _ L1 F2 hM
  rw [← over_upd ha, upd_self, upd_self, upd_self, upd_self] at hk
  exact OKd_ent e1 hk
end
section
variable {w0 : World}
theorem blockQ_entN {d : Nat} {Q : Exit → Fm → List Res → Prop} (h : ∀ F2 L2 L3, Ent w0 L2 L3 → Q .normal F2 L3 → Q .normal F2 L2) : ∀ F2 L2 L3, Ent w0 L2 L3 → blockQ d Q .normal F2 L3 → blockQ d Q .normal F2 L2 := fun F2 L2 L3 e hb => by
  unfold blockQ at *
  exact h F2 L2 L3 e hb
end
attribute [irreducible] OKd
end Go.Proofs.YtpknpbeiifjmgaaDoor
