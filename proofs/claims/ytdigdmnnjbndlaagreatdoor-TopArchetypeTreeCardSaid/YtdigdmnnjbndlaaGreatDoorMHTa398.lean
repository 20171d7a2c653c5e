/-
  Part 8 of the proof: Rg, In33, Pl38. No statement of the seat is proved here.
-/
import Derived.Test.YtdigdmnnjbndlaaGreatDoorMHTa397
namespace Go.Proofs.YtdigdmnnjbndlaaGreatDoor
open Go.RowKit
def resetD (F : Fm) : Fm
  | some i => F (some i)
  | none => undef
def putsF : Fm → List Nat → List Value → Fm
  | F, p :: ps, v :: vs => putsF (upd F p v) ps vs
  | F, _, _ => F
def pushD (F : Fm) (D : Nat) : Fm
  | some i => F (some i)
  | none => .tuple (#[.pointer (some ⟨D, 0, none⟩)] ++ match F none with
    | .tuple vs => vs
    | _ => #[])
theorem marks_push (F : Fm) (D : Nat) : marksV (pushD F D none) = { target := .collected D, args := #[] } :: marksV (F none) := by
  unfold pushD
  cases h : F none <;> simp [marksV]
theorem Fr.reset {n : Nat} {a : Act} {F : Fm} (h : Fr n a F) : Fr n { a with defers := [] } (resetD F) := ⟨rfl, h.size, h.at'⟩
theorem Fr.puts {n : Nat} : ∀ (ps : List Nat) (vs : List Value) {tmps : Array Value} {F : Fm}, Fr n { tmps := tmps, defers := [] } F → vs.length = ps.length →
    Fr n { tmps := (ps.zip vs).foldl (fun t x => t.setIfInBounds x.1 x.2) tmps, defers := [] } (putsF F ps vs)
  | [], [], _, _, h, _ => h
  | p :: ps, v :: vs, tmps, F, h, hl => by
    have h1 := h.put (some p) v
    exact Fr.puts ps vs h1 (by simpa using hl)
  | [], _ :: _, _, _, _, hl => by simp at hl
  | _ :: _, [], _, _, _, hl => by simp at hl
section
variable {P : Program} {n : Nat} {w0 : World} {Q : Exit → Fm → List Res → Prop} {F : Fm} {L : List Res}
def roundQ (w0 : World) (B : List Res) (Next : List Res → Prop) (Stop : Code → List Res → Prop) : Exit → Fm → List Res → Prop
  | .normal, _, L => ∃ X', Ent w0 L (X' ++ B) ∧ Next X'
  | .ret, _, L => ∃ X', Ent w0 L (X' ++ B) ∧ Stop .ret X'
  | .exit id, _, L => ∃ X', Ent w0 L (X' ++ B) ∧ Stop (.exit id) X'
  | _, _, _ => False
def assignQ (P : Program) (n : Nat) (w0 : World) (ro : Nat) (B B' : List Res) (body : Code) (Next : List Res → Prop) (Stop : Code → List Res → Prop) : Exit → Fm → List Res → Prop
  | .normal, F, L => ∃ Y, Ent w0 L (Y ++ B) ∧ OKr P n w0 ro (roundQ w0 B' Next Stop) body F (Y ++ B')
  | _, _, _ => False
theorem Hp.putTail {B : Nat} {w : World} {X : List Res} {l D : Nat} {p p' : Obj → Prop} {o : Obj} (h : Hp B w0 w (X ++ [.obj l p, .mark D])) (ho : p' o) : Hp B w0 (w.putObj l o) (X ++ [.obj l p', .mark D]) := by
  have hi : (X ++ [Res.obj l p, .mark D])[X.length]? = some (.obj l p) := by
    rw [List.getElem?_append_right (Nat.le_refl _), Nat.sub_self]; rfl
  have hok := h.ok _ (List.mem_of_getElem? hi)
  have hlt := (hok.lt (k := l) rfl).2
  have := h.turn hi (w' := w.putObj l o) (r' := .obj l p') (grownBy_putObj' w l o) ⟨hok.1, o, World.putObj_heap_same hlt, ho⟩ (fun k hk => .inl hk)
  rwa [List.set_append_right _ _ (Nat.le_refl _), Nat.sub_self] at this
theorem OK_rangeFunc {σ : Type} (Rs : σ → List Res) {g : Operand} {ps : List Nat} {assign body : Code} {gf : FuncId} {lb : List Value} (hg : rv n F g = .func (.func gf) #[] lb.toArray) (he : Enters' P gf)
    (Good : σ → List Value → Prop) (Next : σ → List Value → List Res → Prop) (Stop : σ → List Value → Code → List Res → Prop) (Done : List Res → Prop) (StopD : Code → List Res → Prop)
    (hps : ∀ x av, Good x av → av.length = ps.length)
    (hiter : ∀ (y : Nat) (Br : List Res) (Bd : Code → List Res), (∀ x av, Good x av → SatY P y av w0 (Rs x ++ Br) (fun u L' => (u = .bool true ∧ ∃ X', Next x av X' ∧ L' = X' ++ Br) ∨ (u = .bool false ∧ ∃ c X', Stop x av c X' ∧ L' = X' ++ Bd c))) →
      SatL P gf (.func (.yield y) #[] #[] :: lb) w0 (L ++ Br) (fun _ L' => (∃ X', Done X' ∧ L' = X' ++ Br) ∨ (∃ c X', StopD c X' ∧ L' = X' ++ Bd c)))
    (hbody : ∀ (ro : Nat) (B B' : List Res) x av, Good x av → OKr P n w0 ro (assignQ P n w0 ro B B' body (Next x av) (Stop x av)) assign (putsF (resetD F) ps av) (Rs x ++ B))
    (hdone : ∀ D X', Done X' → Q .normal (pushD F D) (.mark D :: X'))
    (hstop : ∀ D c X', StopD c X' → (c = .ret ∧ Q .ret (pushD F D) (.mark D :: X')) ∨ ∃ id, c = .exit id ∧ Q (.exit id) (pushD F D) (.mark D :: X')) :
    OK P n w0 Q (.rangeFunc g ps.toArray assign body) F L := by
  refine OK.mk' fun w a hf hp => (wpIn_wide (n := 0)).1 (wpIn_rangeFunc fun fn _ => ?_)
  obtain ⟨rec, hrec⟩ : ∃ rec : Loop, rec = { state := .ready, pending := none, fn, tmps := a.tmps, params := ps.toArray, assign, body, defers := w.heap.size } := ⟨_, rfl⟩
  have hst : rec.state = .ready := by rw [hrec]
  have hpe : rec.pending = none := by rw [hrec]
  have hself : { rec with state := .ready, pending := none } = rec := by rw [hrec]
  let pr : Obj → Prop := fun o => o = .loop rec
  let pb : Obj → Prop := fun o => o = .loop { rec with state := .busy }
  let pd : Code → Obj → Prop := fun c o => o = .loop { rec with state := .done, pending := some c }
  let Br : List Res := [.obj (w.heap.size + 1) pr, .mark w.heap.size]
  let Bb : List Res := [.obj (w.heap.size + 1) pb, .mark w.heap.size]
  let Bd : Code → List Res := fun c => [.obj (w.heap.size + 1) (pd c), .mark w.heap.size]
  obtain ⟨w1, hw1⟩ : ∃ w1, w1 = (w.alloc (.deferred (some []))).alloc (.loop rec) := ⟨_, rfl⟩
  have hp1 : Hp w0.heap.size w0 w1 (L ++ Br) := by
    have h1 : Hp w0.heap.size w0 (w.alloc (.deferred (some []))) (.mark w.heap.size :: L) :=
      hp.fresh (r := .mark w.heap.size) ⟨hp.base, heap_alloc_new w _⟩ ((Below.refl _ _).alloc (Nat.le_refl _) _) (fun k hk => by simp [Res.blk] at hk;omega)
    have h2 : Hp w0.heap.size w0 w1 (.obj (w.heap.size + 1) pr :: .mark w.heap.size :: L) := by
      rw [hw1]
      have hsz : (w.alloc (.deferred (some []))).heap.size = w.heap.size + 1 := by simp
      refine h1.fresh (r := .obj (w.heap.size + 1) pr) ⟨by have := hp.base;omega, .loop rec, ?_, rfl⟩ ((Below.refl _ _).alloc (Nat.le_refl _) _) (fun k hk => by simp [Res.blk] at hk;omega)
      have := heap_alloc_new (w.alloc (.deferred (some []))) (.loop rec)
      rwa [hsz] at this
    exact h2.perm (List.perm_append_comm (l₁ := L) (l₂ := Br))
  have hl_of : ∀ {X : List Res} {w2 : World} {p : Obj → Prop}, Hp w0.heap.size w0 w2 (X ++ [.obj (w.heap.size + 1) p, .mark w.heap.size]) → ∃ o, w2.heap[w.heap.size + 1]? = some o ∧ p o := fun h => (h.ok _ (List.mem_append_right _ List.mem_cons_self)).2
  have hy : ∀ x av, Good x av → SatY P (w.heap.size + 1) av w0 (Rs x ++ Br) (fun u L' => (u = .bool true ∧ ∃ X', Next x av X' ∧ L' = X' ++ Br) ∨ (u = .bool false ∧ ∃ c X', Stop x av c X' ∧ L' = X' ++ Bd c)) := by
    intro x av hgood w2 hp2
    obtain ⟨o, hl, rfl⟩ := hl_of hp2
    have hrun := run_yield (P := P) (args := av.toArray) hl (by rw [hrec]; simpa using hps x av hgood)
    refine ⟨_, _, _, _, hrun, roundIn_of_wpIn trivial ?_⟩
    have hfr : Fr n { tmps := (rec.params.zip av.toArray).foldl (fun tmps (t, a) => tmps.setIfInBounds t a) rec.tmps, defers := [] } (putsF (resetD F) ps av) := by
      rw [hrec]
      have := Fr.puts ps av hf.reset (hps x av hgood)
      simpa using this
    have ha := (hbody (w.heap.size + 1) Br Bb x av hgood).use w2 _ hfr hp2
    rw [hrec] at ha ⊢
    refine wpIn_mono ha ?_
    rintro e a3 w3 ⟨F3, L3, hf3, hp3, hq3⟩
    cases e with
    | normal =>
      obtain ⟨Y, he3, hok⟩ := hq3
      have hp3' := he3.use _ hp3
      obtain ⟨o, hl3, ho⟩ := hl_of hp3'
      have ho' : o = .loop rec := ho
      subst ho'
      refine ⟨_, run_beginRound hl3 hst, ?_⟩
      have hp4 : Hp w0.heap.size w0 (w3.putObj (w.heap.size + 1) (.loop { rec with state := .busy })) (Y ++ Bb) := hp3'.putTail rfl
      refine wpIn_mono (hok.use _ a3 hf3 hp4) ?_
      have fin : ∀ (jump : Option Code) (w5 : World) (X' : List Res), Hp w0.heap.size w0 w5 (X' ++ Bb) →
          (Instr.endRound (w.heap.size + 1) jump).run P w5 = .ok (.bool jump.isNone) (w5.putObj (w.heap.size + 1) (.loop { rec with state := if jump.isNone then .ready else .done, pending := jump })) := fun jump w5 X' h5 => by
        obtain ⟨o, hl5, ho⟩ := hl_of h5
        have ho' : o = .loop { rec with state := .busy } := ho
        subst ho'
        exact run_endRound (r := { rec with state := .busy }) jump hl5
      rintro e a5 w5 ⟨F5, L5, hf5, hp5, hq5⟩
      cases e with
      | normal =>
        obtain ⟨X', he5, hn⟩ := hq5
        have hp5' := he5.use _ hp5
        refine ⟨_, _, fin none w5 X' hp5', _, _, rfl, hp5'.putTail (p' := pr) ?_, .inl ⟨rfl, X', hn, rfl⟩⟩
        show Obj.loop _ = Obj.loop rec
        congr 1
      | ret =>
        obtain ⟨X', he5, hn⟩ := hq5
        have hp5' := he5.use _ hp5
        exact ⟨_, _, fin (some .ret) w5 X' hp5', _, _, rfl, hp5'.putTail (p' := pd .ret) rfl, .inr ⟨rfl, .ret, X', hn, rfl⟩⟩
      | exit id =>
        obtain ⟨X', he5, hn⟩ := hq5
        have hp5' := he5.use _ hp5
        exact ⟨_, _, fin (some (.exit id)) w5 X' hp5', _, _, rfl, hp5'.putTail (p' := pd (.exit id)) rfl, .inr ⟨rfl, .exit id, X', hn, rfl⟩⟩
      | goto t => exact hq5.elim
      | panic c => exact hq5.elim
      | outgrown => exact hq5.elim
    | ret => exact hq3.elim
    | exit id => exact hq3.elim
    | goto t => exact hq3.elim
    | panic c => exact hq3.elim
    | outgrown => exact hq3.elim
  have hsat := hiter (w.heap.size + 1) Br Bd hy
  have hfin : ∀ _ : World, Fr n { a with defers := [{ target := .collected w.heap.size, args := #[] }] ++ a.defers } (pushD F w.heap.size) := fun _ => ⟨by rw [marks_push, ← hf.defers]; rfl, hf.size, hf.at'⟩
  refine ⟨w.heap.size + 1, [{ target := .collected w.heap.size, args := #[] }], w1, { target := .fn (.func gf) lb.toArray, args := #[.func (.yield (w.heap.size + 1)) #[] #[]] }, w1, gf,
    #[.func (.yield (w.heap.size + 1)) #[] #[]] ++ lb.toArray, w1, ?_, ?_, fun _ _ => trivial, ?_, (fun h => by cases h), ?_⟩
  · rw [hw1, hrec]; exact run_enterLoop_outer _ _ _ _ _
  · simp only [resolve, hf.eval, hg]
    simp [go_sem]
    rfl
  · have := he.run (#[.func (.yield (w.heap.size + 1)) #[] #[]] ++ lb.toArray) w1
    simp [invoke, go_sem] at this ⊢
    exact this
  · have hargs : #[Value.func (.yield (w.heap.size + 1)) #[] #[]] ++ lb.toArray = (Value.func (.yield (w.heap.size + 1)) #[] #[] :: lb).toArray := by simp
    rw [hargs]
    refine callsIn_wide.2 ((hsat.calls w1 hp1).mono ?_)
    rintro e w9 ⟨v, L9, rfl, hp9, h9⟩
    have tail : ∀ (X' : List Res) (p : Obj → Prop) (st : LoopState) (pe : Option Code), Hp w0.heap.size w0 w9 (X' ++ [.obj (w.heap.size + 1) p, .mark w.heap.size]) → (∀ o, p o → o = .loop { rec with state := st, pending := pe }) → st ≠ .busy →
        ∃ w10, (Instr.endLoop (w.heap.size + 1)).run P w9 = .ok pe w10 ∧ Hp w0.heap.size w0 w10 (.mark w.heap.size :: X') := fun X' p st pe h hp' hb => by
      obtain ⟨o, hl9, ho⟩ := hl_of h
      rw [hp' o ho] at hl9
      refine ⟨_, run_endLoop hl9 hb, ?_⟩
      have h10 := h.putTail (o := .loop { rec with state := .exhausted, pending := pe }) (p' := fun _ => True) trivial
      exact (h10.perm (List.perm_append_comm (l₁ := [.obj (w.heap.size + 1) (fun _ => True), .mark w.heap.size]) (l₂ := X'))).drop1
    rcases h9 with ⟨X', hd, rfl⟩ | ⟨c, X', hs, rfl⟩
    · obtain ⟨w10, hrun, hp10⟩ := tail X' pr .ready none hp9 (fun o ho => by rw [show o = .loop rec from ho, hself]) (by decide)
      exact ⟨none, w10, hrun, pushD F w.heap.size, _, hfin w10, hp10, hdone _ X' hd⟩
    · obtain ⟨w10, hrun, hp10⟩ := tail X' (pd c) .done (some c) hp9 (fun o ho => ho) (by decide)
      refine ⟨some c, w10, hrun, ?_⟩
      rcases hstop w.heap.size c X' hs with ⟨rfl, hq⟩ | ⟨id, rfl, hq⟩
      · exact wpIn_ret ⟨pushD F w.heap.size, _, hfin w10, hp10, hq⟩
      · exact wpIn_exit ⟨pushD F w.heap.size, _, hfin w10, hp10, hq⟩
def bodyM (P : Program) (n : Nat) (w0 : World) (rs : List ResultVar) (R : Value → List Res → Prop) : Exit → Fm → List Res → Prop
  | .normal, F, L => ∃ (Ds : List Nat) (vs : List Value) (L1 L' : List Res), marksV (F none) = Ds.map (fun D => { target := .collected D, args := #[] }) ∧ Ent w0 L (Ds.map Res.mark ++ L1) ∧ allRes P n F L1 rs vs ∧ Ent w0 L1 L' ∧ R (packV vs) L'
  | .ret, F, L => ∃ (Ds : List Nat) (vs : List Value) (L1 L' : List Res), marksV (F none) = Ds.map (fun D => { target := .collected D, args := #[] }) ∧ Ent w0 L (Ds.map Res.mark ++ L1) ∧ allRes P n F L1 rs vs ∧ Ent w0 L1 L' ∧ R (packV vs) L'
  | _, _, _ => False
theorem take_mark {w : World} {D : Nat} {L : List Res} (h : Hp w0.heap.size w0 w (.mark D :: L)) : (Instr.takeDeferred D).run P w = .ok [] (w.putObj D (.deferred none)) ∧ Hp w0.heap.size w0 (w.putObj D (.deferred none)) L := by
  have hok : w0.heap.size ≤ D ∧ w.heap[D]? = some (.deferred (some [])) := h.ok _ List.mem_cons_self
  have hlt := (Array.getElem?_eq_some_iff.1 hok.2).1
  refine ⟨run_takeDeferred hok.2, ?_⟩
  have := h.turn (i := 0) rfl (w' := w.putObj D (.deferred none)) (r' := .obj D (fun _ => True)) (grownBy_putObj' w D _) ⟨hok.1, _, World.putObj_heap_same hlt, trivial⟩ (fun k hk => .inl hk)
  exact this.drop1
theorem SatL.ofM {f : FuncId} {fn : Func} {c : Code} {args : List Value} {R : Value → List Res → Prop} (N : Nat) (rs : List ResultVar) (hf : P.funcs[f]? = some fn) (hN : fn.ntmps = N) (hnm : (fn.name == "runtime.NumGoroutine") = false) (hb : fn.body = some c)
    (hres : fn.results = rs.toArray) (hlen : Nat.ble args.length N = true) (h : OK P N w0 (bodyM P N w0 rs R) c (argF args) L) : SatL P f args w0 L R := by
  refine ⟨⟨fn, c, hf, hnm, hb⟩, fun w hp => ?_⟩
  refine (callsIn_wide (n := 0)).1 (callsIn_of_wp_marks hf hb trivial ((wpIn_wide (n := 0)).2 ?_))
  subst hN
  have hlen' : args.length ≤ fn.ntmps := by rwa [Nat.ble_eq] at hlen
  have hfr : Fr fn.ntmps { tmps := args.toArray ++ Array.replicate (fn.ntmps - args.toArray.size) undef, defers := [] } (argF args) := by
    refine ⟨rfl, by simp;omega, fun t ht => ?_⟩
    simp only [Array.getD_eq_getD_getElem?, argF, List.getD_eq_getElem?_getD]
    by_cases h : t < args.length
    · rw [Array.getElem?_append_left (by simpa using h)]
      simp
    · rw [Array.getElem?_append_right (by simpa using Nat.le_of_not_lt h), List.getElem?_eq_none (by omega)]
      simp only [List.size_toArray, Array.getElem?_replicate]
      split <;> rfl
  have key : ∀ (a' : Act) (w' : World) (F' : Fm) (L' : List Res) (vs : List Value), Fr fn.ntmps a' F' → Hp w0.heap.size w0 w' L' → allRes P fn.ntmps F' L' rs vs → (results fn a'.tmps).run P w' = .ok (packV vs) w' := by
    intro a' w' F' L' vs h1 h2 h3
    unfold results
    rw [hres, List.mapM_toArray]
    simp only [Sem.run_bind, Sem.run_map]
    rw [mapM_run (n := fn.ntmps) (F := F') (L := L') ?_ rs vs h3]
    · rcases vs with _ | ⟨v, _ | ⟨v2, vs⟩⟩ <;> simp [packV, Result.andThen]
    · intro r v h
      cases r with
      | tmp t =>
        have he : a'.tmps.getD t undef = v := (congrFun h1.eval (.tmp t)).trans h
        simp only [Sem.run_pure, he]
      | cell t tt =>
        obtain ⟨g, i, e, cs, h2', h3', h4⟩ := h
        have he : a'.tmps.getD t undef = .pointer (some ⟨g, 0, none⟩) := (congrFun h1.eval (.tmp t)).trans h2'
        have h5 := h4 w' (h2.boxAt i h3').1
        simp only [Sem.run_bind, Sem.run_pure, Result.andThen, he, asAddr, h5]
  have fin : ∀ (a' : Act) (F' : Fm) (vs : List Value) (L1 L' : List Res), Fr fn.ntmps a' F' → allRes P fn.ntmps F' L1 rs vs → Ent w0 L1 L' → R (packV vs) L' → ∀ (Ds : List Nat) (w' : World), Hp w0.heap.size w0 w' (Ds.map Res.mark ++ L1) →
      LeavesInM Fence.wide 0 P fn a'.tmps (fun e w' => ∃ v L', e = .returned v ∧ Hp w0.heap.size w0 w' L' ∧ R v L') (Ds.map (fun D => { target := .collected D, args := #[] })) .returning w' := by
    intro a' F' vs L1 L' h1 h3 he hR Ds
    induction Ds with
    | nil =>
      intro w' hp'
      exact ⟨_, key _ _ _ _ _ h1 hp' h3, _, L', rfl, he.use _ hp', hR⟩
    | cons D Ds ih =>
      intro w' hp'
      obtain ⟨h4, h5⟩ := take_mark (P := P) hp'
      exact ⟨by simp, .inl ⟨D, _, rfl, h4, ih _ h5⟩⟩
  refine wp_mono (h.use w _ hfr hp) ?_
  rintro e a' w' ⟨F', L2, h1, h2, h3⟩
  unfold bodyM at h3
  cases e with
  | normal =>
    obtain ⟨Ds, vs, L1, L', hm, he, hall, he2, hR⟩ := h3
    show LeavesInM _ _ _ _ _ _ _ _ _
    rw [h1.defers, hm]
    exact fin a' F' vs L1 L' h1 hall he2 hR Ds w' (he.use _ h2)
  | ret =>
    obtain ⟨Ds, vs, L1, L', hm, he, hall, he2, hR⟩ := h3
    show LeavesInM _ _ _ _ _ _ _ _ _
    rw [h1.defers, hm]
    exact fin a' F' vs L1 L' h1 hall he2 hR Ds w' (he.use _ h2)
  | _ => exact h3.elim
end
attribute [irreducible] bodyM
end Go.Proofs.YtdigdmnnjbndlaaGreatDoor
namespace Go.Proofs.YtdigdmnnjbndlaaGreatDoor
open Go.RowKit
section
variable {P : Program} {n : Nat} {w0 : World} {Q : Exit → Fm → List Res → Prop} {F : Fm} {L : List Res} {l : List Oper} {N f : Nat} {S : List Nat}
def OKi (P : Program) (n : Nat) (w0 : World) (Q : Exit → Fm → List Res → Prop) (l : List Oper) (N f : Nat) (S : List Nat) (F : Fm) (L : List Res) : Prop :=
  ∀ w a, Fr n a F → Hp w0.heap.size w0 w L → wpAnyIn (fen none) 0 P .any l.toArray (lift n w0 Q) f (maskS N S) a w
theorem OKi.use (h : OKi P n w0 Q l N f S F L) : ∀ w a, Fr n a F → Hp w0.heap.size w0 w L → wpAnyIn (fen none) 0 P .any l.toArray (lift n w0 Q) f (maskS N S) a w := h
theorem OKi_end (hr : (Region.ready .any l.toArray (maskS N S)).isEmpty = true) (h : Q .normal F L) : OKi P n w0 Q l N 0 S F L :=
  fun _ _ hf hp => ⟨List.isEmpty_iff.1 hr, F, L, hf, hp, h⟩
theorem OKi_stepG (kids : List (Nat × List Nat)) (hr : Region.ready .any l.toArray (maskS N S) = kids.map (·.1)) (hne : kids ≠ []) (h : ∀ k ∈ kids, maskS N k.2 = (maskS N S).setIfInBounds k.1 true ∧ ∃ o, l[k.1]? = some o ∧ noDef o = true ∧ OKx P n w0 (.seq []) l.toArray (fun F L => OKi P n w0 Q l N f k.2 F L) [o] F L) :
    OKi P n w0 Q l N (f + 1) S F L := by
  intro w a hf hp
  refine ⟨fun h0 => ?_, fun i hi => ?_⟩
  · rw [hr] at h0
    exact absurd (List.map_eq_nil_iff.1 h0) hne
  · rw [hr] at hi
    obtain ⟨k, hk, rfl⟩ := List.mem_map.1 hi
    obtain ⟨hm, o, ho, hn, hx⟩ := h k hk
    obtain ⟨_, h1⟩ := hx.use w a hf hp
    unfold wpOpIn
    have ho' : l.toArray[k.1]? = some o := by simpa using ho
    rw [ho']
    dsimp only
    rw [← hm]
    split
    · rename_i hw
      rw [if_pos hw] at h1
      refine oper_in hn liftN_noPanic liftN_noOut (Oper.wp_mono ?_ h1)
      rintro a2 w2 ⟨_, _, F', L', h2, h3, h4⟩
      exact OKi.use h4 _ _ h2 h3
    · rename_i hw
      rw [if_neg hw] at h1
      obtain ⟨_, _, F', L', h2, h3, h4⟩ := h1
      exact ⟨fun f _ => fen_fn none f, OKi.use h4 _ _ h2 h3⟩
theorem OKi_step1 {i1 : Nat} {S1 : List Nat} {o1 : Oper} (hr : Region.ready .any l.toArray (maskS N S) = [i1]) (m1 : kidOk l N S i1 S1 = true) (g1 : l[i1]? = some o1) (d1 : noDef o1 = true)
    (k1 : OKx P n w0 (.seq []) l.toArray (fun F L => OKi P n w0 Q l N f S1 F L) [o1] F L) : OKi P n w0 Q l N (f + 1) S F L :=
  OKi_stepG [(i1, S1)] hr (by simp) fun k hk => by
    obtain rfl := List.mem_singleton.1 hk
    exact ⟨kidOk_eq m1, o1, g1, d1, k1⟩
theorem OKi_step2 {i1 i2 : Nat} {S1 S2 : List Nat} {o1 o2 : Oper} (hr : Region.ready .any l.toArray (maskS N S) = [i1, i2]) (m1 : kidOk l N S i1 S1 = true) (m2 : kidOk l N S i2 S2 = true) (g1 : l[i1]? = some o1) (g2 : l[i2]? = some o2) (d1 : noDef o1 = true) (d2 : noDef o2 = true)
    (k1 : OKx P n w0 (.seq []) l.toArray (fun F L => OKi P n w0 Q l N f S1 F L) [o1] F L) (k2 : OKx P n w0 (.seq []) l.toArray (fun F L => OKi P n w0 Q l N f S2 F L) [o2] F L) : OKi P n w0 Q l N (f + 1) S F L :=
  OKi_stepG [(i1, S1), (i2, S2)] hr (by simp) fun k hk => by
    simp only [List.mem_cons, List.not_mem_nil, or_false] at hk
    rcases hk with rfl | rfl
    · exact ⟨kidOk_eq m1, o1, g1, d1, k1⟩
    · exact ⟨kidOk_eq m2, o2, g2, d2, k2⟩
theorem OKi_step3 {i1 i2 i3 : Nat} {S1 S2 S3 : List Nat} {o1 o2 o3 : Oper} (hr : Region.ready .any l.toArray (maskS N S) = [i1, i2, i3]) (m1 : kidOk l N S i1 S1 = true) (m2 : kidOk l N S i2 S2 = true) (m3 : kidOk l N S i3 S3 = true) (g1 : l[i1]? = some o1) (g2 : l[i2]? = some o2) (g3 : l[i3]? = some o3) (d1 : noDef o1 = true) (d2 : noDef o2 = true) (d3 : noDef o3 = true)
    (k1 : OKx P n w0 (.seq []) l.toArray (fun F L => OKi P n w0 Q l N f S1 F L) [o1] F L) (k2 : OKx P n w0 (.seq []) l.toArray (fun F L => OKi P n w0 Q l N f S2 F L) [o2] F L) (k3 : OKx P n w0 (.seq []) l.toArray (fun F L => OKi P n w0 Q l N f S3 F L) [o3] F L) : OKi P n w0 Q l N (f + 1) S F L :=
  OKi_stepG [(i1, S1), (i2, S2), (i3, S3)] hr (by simp) fun k hk => by
    simp only [List.mem_cons, List.not_mem_nil, or_false] at hk
    rcases hk with rfl | rfl | rfl
    · exact ⟨kidOk_eq m1, o1, g1, d1, k1⟩
    · exact ⟨kidOk_eq m2, o2, g2, d2, k2⟩
    · exact ⟨kidOk_eq m3, o3, g3, d3, k3⟩
theorem OKi_yield {i : Nat} {S1 : List Nat} {d : Option Nat} {fo : Operand} {args : Array Operand} {tt : Array TypeId} {ty : TypeId} {pos : String} {aft : Array Edge} {j t : Nat} {b : Bool} (hr : Region.ready .any l.toArray (maskS N S) = [i]) (m1 : kidOk l N S i S1 = true)
    (g1 : l[i]? = some ⟨d, .call { callee := .value fo, args := args, argTypes := tt }, ty, pos, aft, some (j, b)⟩) (hj : (l.toArray[j]?).bind (·.dst) = some t) (hb : rv n F (.tmp t) = .bool b)
    (h : ∃ (y : Nat) (av : List Value) (R : Value → List Res → Prop), rv n F fo = .func (.yield y) #[] #[] ∧ args.toList.map (rv n F) = av ∧ SatY P y av w0 L R ∧ ∀ v L', R v L' → OKi P n w0 Q l N f S1 (updo F d v) L') : OKi P n w0 Q l N (f + 1) S F L := by
  intro w a hf hp
  refine ⟨fun h0 => ?_, fun i2 hi => ?_⟩
  · rw [hr] at h0; cases h0
  · rw [hr] at hi
    obtain rfl := List.mem_singleton.1 hi
    have ho' : l.toArray[i2]? = some ⟨d, .call { callee := .value fo, args := args, argTypes := tt }, ty, pos, aft, some (j, b)⟩ := by simpa using g1
    unfold wpOpIn
    rw [ho']
    dsimp only
    have hw : Region.wanted (⟨d, .call { callee := .value fo, args := args, argTypes := tt }, ty, pos, aft, some (j, b)⟩ : Oper) (yielded l.toArray a.tmps) = true := by
      simp [Region.wanted, hf.yield hj hb]
    rw [if_pos hw]
    obtain ⟨y, av, R, h1, h2, hy, h3⟩ := h
    obtain ⟨fn, tmps, assign, body, hrun, hround⟩ := hy w hp
    refine ⟨fun f _ => trivial, ?_⟩
    have hexec : ((⟨d, .call { callee := .value fo, args := args, argTypes := tt }, ty, pos, aft, some (j, b)⟩ : Oper).semAt (fen none).round a.eval).run P w = .ok (.round y fn tmps assign body) w := by
      have e : Array.map (rv n F) args = av.toArray := by rw [← Array.toList_inj, ← h2]; simp
      have hr : (fen none).round = none := rfl
      rw [hr, Oper.semAt_none, hf.eval]
      simp only [execOp, resolve, h1, Deferred.ofValue, Sem.run_bind, Sem.run_pure, Result.andThen, invoke, Array.empty_append, Array.append_empty, e, hrun]
    rw [hexec]
    refine ⟨fun h => (by cases h), hround.mono ?_⟩
    rintro e w2 ⟨v, L', rfl, hp2, hR⟩
    rw [← kidOk_eq m1]
    exact (h3 v L' hR).use w2 _ (hf.put d v) hp2
theorem OKi_meet (W : List Nat) (s fS : Nat) (S : List Nat) (Mid : Value → List Res → Prop) (h2 : ∀ v L1 G, Mid v L1 → OKi P n w0 Q l N fS S (upd (over W G F) s v) L1) (h1 : (∀ F2 L2, (agree W F2 F ∧ Mid (F2 (some s)) L2) → OKi P n w0 Q l N fS S F2 L2) → OKi P n w0 Q l N N [] F L) : OKi P n w0 Q l N N [] F L :=
  h1 fun F2 L2 ⟨ha, hM⟩ => by
    have := h2 _ L2 F2 hM
    rwa [← over_upd ha, upd_self] at this
theorem OK_regionI (N : Nat) {id : Nat} (hm : P.follows .mixedOrders = true) (hN : Nat.beq l.length N = true) (h : OKi P n w0 Q l N N [] F L) : OK P n w0 Q (.region id l.toArray true) F L := by
  obtain rfl : l.length = N := Nat.eq_of_beq_eq_true hN
  refine OK.mk' fun w a hf hp => (wpIn_wide (n := 0)).1 (wpIn_region_any hm ?_)
  have e0 : maskS l.length [] = Array.replicate l.toArray.size false := by
    unfold maskS
    rw [← Array.toList_inj]
    simp only [List.size_toArray, Array.toList_replicate]
    refine List.ext_getElem (by simp) fun j h1 h2 => ?_
    simp [memN]
  have := h.use _ a hf hp.drew
  rw [e0] at this
  exact this
end
attribute [irreducible] OKi
def setN (F : Fm) (mv : Value) : Fm
  | some i => F (some i)
  | none => mv
def agreeM (W : List Nat) (F' F : Fm) : Prop := ∀ i, memN i W = false → F' (some i) = F (some i)
theorem agreeM_refl (W : List Nat) (F : Fm) : agreeM W F F := fun _ _ => rfl
theorem agreeM_upd {W : List Nat} {F' F : Fm} {d : Nat} {v : Value} (h : memN d W = true) (ha : agreeM W F' F) : agreeM W (upd F' d v) F := by
  intro i hi
  have : i ≠ d := by rintro rfl; rw [h] at hi; cases hi
  rw [upd_ne _ _ this]
  exact ha i hi
theorem agreeM_over {W : List Nat} {G F : Fm} : agreeM W (over W G F) F := by
  intro i hi
  simp [over, hi]
theorem agreeM_push {W : List Nat} {F' F : Fm} {D : Nat} (ha : agreeM W F' F) : agreeM W (pushD F' D) F := fun i hi => ha i hi
theorem agreeM_set {W : List Nat} {F' F : Fm} {mv : Value} (ha : agreeM W F' F) : agreeM W (setN F' mv) F := fun i hi => ha i hi
section
variable {P : Program} {n : Nat} {w0 : World} {Q : Exit → Fm → List Res → Prop} {F : Fm} {L : List Res}
theorem over_setN {W : List Nat} {F' F : Fm} (ha : agreeM W F' F) : F' = setN (over W F' F) (F' none) := by
  funext i
  cases i with
  | none => rfl
  | some i =>
    show F' (some i) = over W F' F (some i)
    simp only [over]
    cases h : memN i W with
    | true => rfl
    | false => exact ha i h
theorem OK_loopM1 (s1 : Nat) (W : List Nat) {body : Code} (R : Nat → Value → Value → List Res → Prop) (m0 : Nat) (L1 : List Res) (e : Ent w0 L L1) (h0 : R m0 (F (some s1)) (F none) L1)
    (hr : ∀ m v1 mv L' G, R m v1 mv L' → OK P n w0 (thenQ (fun F'' L'' => agreeM W F'' F ∧ ∃ m' L1, m' < m ∧ Ent w0 L'' L1 ∧ R m' (F'' (some s1)) (F'' none) L1) Q) body (setN (upd (over W G F) s1 v1) mv) L') : OK P n w0 Q (.loop body) F L := by
  refine OK_loop (fun m F' L' => agreeM W F' F ∧ ∃ L1, Ent w0 L' L1 ∧ R m (F' (some s1)) (F' none) L1) m0 ⟨agreeM_refl _ _, L1, e, h0⟩ ?_
  rintro m F' L' ⟨ha, L1, e, hR⟩
  have hk := hr m (F' (some s1)) (F' none) L1 F' hR
  have e9 : setN (upd (over W F' F) s1 (F' (some s1))) (F' none) = F' := by
    have h1 := over_setN ha
    funext i
    cases i with
    | none => rfl
    | some i =>
      show upd (over W F' F) s1 (F' (some s1)) (some i) = F' (some i)
      by_cases hi : i = s1
      · subst hi; simp [upd]
      · rw [upd_ne _ _ hi]
        exact (congrFun h1 (some i)).symm
  rw [e9] at hk
  exact OK_mono (OK_ent e hk) fun ex F'' L'' h => by
    unfold thenQ at h ⊢
    cases ex with
    | normal => obtain ⟨h1, m', L2, h2, h3, h4⟩ := h; exact ⟨m', h2, h1, L2, h3, h4⟩
    | _ => exact h
end
end Go.Proofs.YtdigdmnnjbndlaaGreatDoor
namespace Go.Proofs.YtdigdmnnjbndlaaGreatDoor
def occ (st : List Int) : List Int := if srtK st 16 = [] then [0] else srtK st 16
theorem occ_ne (st : List Int) : occ st ≠ [] := by
  unfold occ
  split
  · simp
  · assumption
theorem occ_pos (st : List Int) : 0 < (occ st).length := List.length_pos_iff.2 (occ_ne st)
theorem occ_le (st : List Int) : (occ st).length ≤ 16 := by
  unfold occ
  split
  · simp
  · exact srtK_len _ _
theorem occ_range (st : List Int) : ∀ x ∈ occ st, 0 ≤ x ∧ x < 16 := by
  intro x hx
  unfold occ at hx
  split at hx
  · simp at hx;omega
  · have := (srtK_mem _ _ _).1 hx
    omega
def unk : List Int → Nat
  | [] => 0
  | x :: st => (if x < 0 then 1 else 0) + unk st
def many (st : List Int) : Bool := decide (65536 < (occ st).length ^ unk st)
def asgs (vs : List Int) : List Int → List (List Int)
  | [] => [[]]
  | x :: st => if x < 0 then vs.flatMap (fun v => (asgs vs st).map (v :: ·)) else (asgs vs st).map (x :: ·)
theorem flat_len {α β : Type} (f : α → List β) (c : Nat) : ∀ l : List α, (∀ x ∈ l, (f x).length = c) → (l.flatMap f).length = l.length * c
  | [], _ => by simp
  | x :: l, h => by rw [List.flatMap_cons, List.length_append, h x (by simp), flat_len f c l (fun y hy => h y (by simp [hy])), List.length_cons, Nat.succ_mul];omega
theorem flat_congr {α β : Type} (f g : α → List β) : ∀ l : List α, (∀ x ∈ l, f x = g x) → l.flatMap f = l.flatMap g
  | [], _ => rfl
  | x :: l, h => by rw [List.flatMap_cons, List.flatMap_cons, h x (by simp), flat_congr f g l (fun y hy => h y (by simp [hy]))]
theorem asgs_len (vs st : List Int) : (asgs vs st).length = vs.length ^ unk st := by
  induction st with
  | nil => rfl
  | cons x st ih =>
    unfold asgs unk
    split
    · rw [flat_len _ (vs.length ^ unk st) vs (fun v _ => by rw [List.length_map, ih]), Nat.pow_add, Nat.pow_one]
    · simp [ih]
theorem asgs_mem (vs : List Int) : ∀ (st a : List Int), a ∈ asgs vs st ↔ a.length = st.length ∧ ∀ i, i < st.length → if st.getD i 0 < 0 then a.getD i 0 ∈ vs else a.getD i 0 = st.getD i 0 := by
  intro st
  induction st with
  | nil =>
    intro a
    unfold asgs
    simp only [List.mem_singleton, List.length_nil]
    constructor
    · rintro rfl; exact ⟨rfl, fun i hi => absurd hi (by omega)⟩
    · rintro ⟨h, _⟩; exact List.eq_nil_of_length_eq_zero h
  | cons x st ih =>
    intro a
    have key : ∀ (v : Int) (b : List Int), ((v :: b).length = (x :: st).length ∧ ∀ i, i < (x :: st).length → if (x :: st).getD i 0 < 0 then (v :: b).getD i 0 ∈ vs else (v :: b).getD i 0 = (x :: st).getD i 0) ↔
        (if x < 0 then v ∈ vs else v = x) ∧ b ∈ asgs vs st := by
      intro v b
      rw [ih b]
      constructor
      · rintro ⟨h1, h2⟩
        refine ⟨by have := h2 0 (by simp); simpa using this, by simpa using h1, fun i hi => ?_⟩
        have := h2 (i + 1) (by simp;omega)
        simpa using this
      · rintro ⟨h1, h2, h3⟩
        refine ⟨by simp [h2], fun i hi => ?_⟩
        cases i with
        | zero => simpa using h1
        | succ i =>
          have := h3 i (by simpa using hi)
          simpa using this
    unfold asgs
    split
    · rename_i hx
      simp only [List.mem_flatMap, List.mem_map]
      constructor
      · rintro ⟨v, hv, b, hb, rfl⟩
        exact (key v b).2 ⟨by rw [if_pos hx]; exact hv, hb⟩
      · intro h
        cases a with
        | nil => simp at h
        | cons v b =>
          have := (key v b).1 h
          rw [if_pos hx] at this
          exact ⟨v, this.1, b, this.2, rfl⟩
    · rename_i hx
      simp only [List.mem_map]
      constructor
      · rintro ⟨b, hb, rfl⟩
        exact (key x b).2 ⟨by rw [if_neg hx], hb⟩
      · intro h
        cases a with
        | nil => simp at h
        | cons v b =>
          have := (key v b).1 h
          rw [if_neg hx] at this
          exact ⟨b, this.2, by rw [this.1]⟩
def chgB (par : List (List Int)) (all : List Int) (i : Nat) : Bool := !(par.getD i []).isEmpty && !((par.getD i []).any fun p => all.getD p.toNat 0 == all.getD i 0)
def costN (par : List (List Int)) (all : List Int) : Nat := ((List.range par.length).filter (chgB par all)).length
def bstep (f : List Int → Nat) (o : List Int × Int) (a : List Int) : List Int × Int := if o.2 < 0 ∨ (f a : Int) < o.2 then (a, (f a : Int)) else o
def bestA (f : List Int → Nat) (l : List (List Int)) : List Int × Int := l.foldl (bstep f) ([], -1)
theorem bestA_snoc (f : List Int → Nat) (l : List (List Int)) (a : List Int) : bestA f (l ++ [a]) = bstep f (bestA f l) a := by
  unfold bestA; rw [List.foldl_append]; rfl
theorem bstep_zero (f : List Int → Nat) (o : List Int × Int) (h : o.2 = 0) (a : List Int) : bstep f o a = o := by
  unfold bstep; rw [if_neg (by omega)]
theorem fold_zero (f : List Int → Nat) (l : List (List Int)) (o : List Int × Int) (h : o.2 = 0) : l.foldl (bstep f) o = o := by
  induction l with
  | nil => rfl
  | cons a l ih => rw [List.foldl_cons, bstep_zero f o h a]; exact ih
theorem bestA_zero (f : List Int → Nat) (l l' : List (List Int)) (h : (bestA f l).2 = 0) : bestA f (l ++ l') = bestA f l := by
  unfold bestA at *
  rw [List.foldl_append]
  exact fold_zero f l' _ h
theorem bestA_spec (f : List Int → Nat) (l : List (List Int)) (hl : l ≠ []) : (bestA f l).1 ∈ l ∧ (bestA f l).2 = (f (bestA f l).1 : Int) ∧ ∀ b ∈ l, (bestA f l).2 ≤ (f b : Int) := by
  have key : ∀ l : List (List Int), (l = [] ∧ (bestA f l).2 = -1) ∨ ((bestA f l).1 ∈ l ∧ (bestA f l).2 = (f (bestA f l).1 : Int) ∧ ∀ b ∈ l, (bestA f l).2 ≤ (f b : Int)) := by
    intro l
    rw [← List.reverse_reverse l]
    generalize l.reverse = m
    induction m with
    | nil => exact .inl ⟨rfl, rfl⟩
    | cons a m ih =>
      right
      rw [List.reverse_cons, bestA_snoc]
      unfold bstep
      rcases ih with ⟨h1, h2⟩ | ⟨h1, h2, h3⟩
      · rw [if_pos (by omega), h1]
        exact ⟨by simp, rfl, fun b hb => by simp at hb; rw [hb]; exact Int.le_refl _⟩
      · by_cases hc : (bestA f m.reverse).2 < 0 ∨ (f a : Int) < (bestA f m.reverse).2
        · rw [if_pos hc]
          refine ⟨by simp, rfl, fun b hb => ?_⟩
          rcases List.mem_append.1 hb with hb | hb
          · have := h3 b hb
            have h4 : (f a : Int) < (bestA f m.reverse).2 := by omega
            show (f a : Int) ≤ f b
            omega
          · simp at hb; rw [hb]; exact Int.le_refl _
        · rw [if_neg hc]
          refine ⟨List.mem_append_left _ h1, h2, fun b hb => ?_⟩
          rcases List.mem_append.1 hb with hb | hb
          · exact h3 b hb
          · simp at hb; rw [hb];omega
  rcases key l with ⟨h, _⟩ | h
  · exact absurd h hl
  · exact h
theorem asgs_ne (vs : List Int) (hv : 0 < vs.length) (st : List Int) : asgs vs st ≠ [] := by
  intro h
  have h1 := asgs_len vs st
  rw [h] at h1
  have := Nat.pow_pos (n := unk st) hv
  simp at h1
  omega
theorem occ_mem (st : List Int) (x : Int) (h : x ∈ st) (h0 : 0 ≤ x) (h1 : x < 16) : x ∈ occ st := by
  have hm : x ∈ srtK st 16 := (srtK_mem _ _ _).2 ⟨h, h0, h1⟩
  unfold occ
  rw [if_neg (List.ne_nil_of_mem hm)]
  exact hm
theorem recolor (par : List (List Int)) (st all : List Int) (hok : ∀ i, i < par.length → ∀ p ∈ par.getD i [], 0 ≤ p ∧ p.toNat < par.length) (hl : all.length = par.length) (hs : st.length = par.length)
    (hst : ∀ x ∈ st, -1 ≤ x ∧ x < 16) (hk : ∀ i, i < st.length → 0 ≤ st.getD i 0 → all.getD i 0 = st.getD i 0) : ∃ b ∈ asgs (occ st) st, costN par b ≤ costN par all := by
  let g : Int → Int := fun x => if x ∈ occ st then x else (occ st).getD 0 0
  have hg : ∀ i, i < all.length → (all.map g).getD i 0 = g (all.getD i 0) := fun i hi => by simp [hi]
  refine ⟨all.map g, (asgs_mem _ _ _).2 ⟨by simp [hl, hs], fun i hi => ?_⟩, ?_⟩
  · rw [hg i (by omega)]
    have hm : st.getD i 0 ∈ st := by rw [List.getD_eq_getElem?_getD, List.getElem?_eq_getElem hi]; exact List.getElem_mem hi
    split
    · show (if _ ∈ occ st then _ else _) ∈ occ st
      split
      · assumption
      · have := occ_pos st
        rw [List.getD_eq_getElem?_getD, List.getElem?_eq_getElem this]
        exact List.getElem_mem this
    · have h2 := hk i hi (by omega)
      rw [h2]
      show (if _ ∈ occ st then _ else _) = _
      rw [if_pos (occ_mem st _ hm (by omega) (hst _ hm).2)]
  · unfold costN
    rw [← List.countP_eq_length_filter, ← List.countP_eq_length_filter]
    refine List.countP_mono_left fun i hi hc => ?_
    have hi := List.mem_range.1 hi
    unfold chgB at *
    simp only [Bool.and_eq_true, Bool.not_eq_true', List.any_eq_false, beq_iff_eq] at *
    refine ⟨hc.1, fun p hp e => hc.2 p hp ?_⟩
    rw [hg _ (by have := hok i hi p hp;omega), hg _ (by omega), e]
theorem unk_app (a b : List Int) : unk (a ++ b) = unk a + unk b := by
  induction a with
  | nil => simp [unk]
  | cons x a ih => rw [List.cons_append, unk, unk, ih];omega
theorem unk_take (st : List Int) (k : Nat) : unk (st.take k) ≤ unk st := by
  have := unk_app (st.take k) (st.drop k)
  rw [List.take_append_drop] at this
  omega
theorem unk_step (st : List Int) (k : Nat) (h : k < st.length) : unk (st.take (k + 1)) = unk (st.take k) + if st.getD k 0 < 0 then 1 else 0 := by
  rw [List.take_succ_eq_append_getElem h, unk_app, getD_lt _ _ _ h]
  simp [unk]
theorem many_hit (st : List Int) (k : Nat) (h : 65536 < (occ st).length ^ unk (st.take k)) : many st = true := by
  unfold many
  have := Nat.pow_le_pow_right (occ_pos st) (unk_take st k)
  exact decide_eq_true (by omega)
theorem many_end (st : List Int) (h : (occ st).length ^ unk st ≤ 65536) : many st = false := decide_eq_false (by omega)
end Go.Proofs.YtdigdmnnjbndlaaGreatDoor
