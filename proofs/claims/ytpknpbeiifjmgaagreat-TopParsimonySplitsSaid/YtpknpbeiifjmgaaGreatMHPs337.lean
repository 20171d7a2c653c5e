/-
  Part 7 of the proof: Rg, Cpt, C38, As38, Any, Be38, Pd38, As39, Ro39, Sm38, Lc38, Rdr, Pa36, Sl07. No statement of the seat is proved here.
-/
import Derived.Test.YtpknpbeiifjmgaaGreatMHPs336
import Derived.OrdersIn
namespace Go.Proofs.YtpknpbeiifjmgaaGreat
open Go.RowKit
def resetD (F : Fm) : Fm
  | some i => F (some i)
  | none => undef
def putsF : Fm → List Nat → List Value → Fm
  | F, p :: ps, v :: vs => putsF (upd F p v) ps vs
  | F, _, _ => F
def pushD (F : Fm) (D : Nat) : Fm
  | some i => F (some i)
  | none => .tuple (#[.pointer (some ⟨D, 0, none⟩)] ++ match F none with
    | .tuple vs => vs
    | _ => #[])
theorem marks_push (F : Fm) (D : Nat) : marksV (pushD F D none) = { target := .collected D, args := #[] } :: marksV (F none) := by
  unfold pushD
  cases h : F none <;> simp [marksV]
theorem Fr.reset {n : Nat} {a : Act} {F : Fm} (h : Fr n a F) : Fr n { a with defers := [] } (resetD F) := ⟨rfl, h.size, h.at'⟩
theorem Fr.puts {n : Nat} : ∀ (ps : List Nat) (vs : List Value) {tmps : Array Value} {F : Fm}, Fr n { tmps := tmps, defers := [] } F → vs.length = ps.length →
    Fr n { tmps := (ps.zip vs).foldl (fun t x => t.setIfInBounds x.1 x.2) tmps, defers := [] } (putsF F ps vs)
  | [], [], _, _, h, _ => h
  | p :: ps, v :: vs, tmps, F, h, hl => by
    have h1 := h.put (some p) v
    exact Fr.puts ps vs h1 (by simpa using hl)
  | [], _ :: _, _, _, _, hl => by simp at hl
  | _ :: _, [], _, _, _, hl => by simp at hl
section
variable {P : Program} {n : Nat} {w0 : World} {Q : Exit → Fm → List Res → Prop} {F : Fm} {L : List Res}
def roundQ (w0 : World) (B : List Res) (Next : List Res → Prop) (Stop : Code → List Res → Prop) : Exit → Fm → List Res → Prop
  | .normal, _, L => ∃ X', Ent w0 L (X' ++ B) ∧ Next X'
  | .ret, _, L => ∃ X', Ent w0 L (X' ++ B) ∧ Stop .ret X'
  | .exit id, _, L => ∃ X', Ent w0 L (X' ++ B) ∧ Stop (.exit id) X'
  | _, _, _ => False
def assignQ (P : Program) (n : Nat) (w0 : World) (ro : Nat) (B B' : List Res) (body : Code) (Next : List Res → Prop) (Stop : Code → List Res → Prop) : Exit → Fm → List Res → Prop
  | .normal, F, L => ∃ Y, Ent w0 L (Y ++ B) ∧ OKr P n w0 ro (roundQ w0 B' Next Stop) body F (Y ++ B')
  | _, _, _ => False
theorem Hp.putTail {B : Nat} {w : World} {X : List Res} {l D : Nat} {p p' : Obj → Prop} {o : Obj} (h : Hp B w0 w (X ++ [.obj l p, .mark D])) (ho : p' o) : Hp B w0 (w.putObj l o) (X ++ [.obj l p', .mark D]) := by
  have hi : (X ++ [Res.obj l p, .mark D])[X.length]? = some (.obj l p) := by
    rw [List.getElem?_append_right (Nat.le_refl _), Nat.sub_self]; rfl
  have hok := h.ok _ (List.mem_of_getElem? hi)
  have hlt := (hok.lt (k := l) rfl).2
  have := h.turn hi (w' := w.putObj l o) (r' := .obj l p') (grownBy_putObj' w l o) ⟨hok.1, o, World.putObj_heap_same hlt, ho⟩ (fun k hk => .inl hk)
  rwa [List.set_append_right _ _ (Nat.le_refl _), Nat.sub_self] at this
theorem OK_rangeFunc {σ : Type} (Rs : σ → List Res) {g : Operand} {ps : List Nat} {assign body : Code} {gf : FuncId} {lb : List Value} (hg : rv n F g = .func (.func gf) #[] lb.toArray) (he : Enters' P gf)
    (Good : σ → List Value → Prop) (Next : σ → List Value → List Res → Prop) (Stop : σ → List Value → Code → List Res → Prop) (Done : List Res → Prop) (StopD : Code → List Res → Prop)
    (hps : ∀ x av, Good x av → av.length = ps.length)
    (hiter : ∀ (y : Nat) (Br : List Res) (Bd : Code → List Res), (∀ x av, Good x av → SatY P y av w0 (Rs x ++ Br) (fun u L' => (u = .bool true ∧ ∃ X', Next x av X' ∧ L' = X' ++ Br) ∨ (u = .bool false ∧ ∃ c X', Stop x av c X' ∧ L' = X' ++ Bd c))) →
      SatL P gf (.func (.yield y) #[] #[] :: lb) w0 (L ++ Br) (fun _ L' => (∃ X', Done X' ∧ L' = X' ++ Br) ∨ (∃ c X', StopD c X' ∧ L' = X' ++ Bd c)))
    (hbody : ∀ (ro : Nat) (B B' : List Res) x av, Good x av → OKr P n w0 ro (assignQ P n w0 ro B B' body (Next x av) (Stop x av)) assign (putsF (resetD F) ps av) (Rs x ++ B))
    (hdone : ∀ D X', Done X' → Q .normal (pushD F D) (.mark D :: X'))
    (hstop : ∀ D c X', StopD c X' → (c = .ret ∧ Q .ret (pushD F D) (.mark D :: X')) ∨ ∃ id, c = .exit id ∧ Q (.exit id) (pushD F D) (.mark D :: X')) :
    OK P n w0 Q (.rangeFunc g ps.toArray assign body) F L := by
  refine OK.mk' fun w a hf hp => (wpIn_wide (n := 0)).1 (wpIn_rangeFunc fun fn _ => ?_)
  obtain ⟨rec, hrec⟩ : ∃ rec : Loop, rec = { state := .ready, pending := none, fn, tmps := a.tmps, params := ps.toArray, assign, body, defers := w.heap.size } := ⟨_, rfl⟩
  have hst : rec.state = .ready := by rw [hrec]
  have hpe : rec.pending = none := by rw [hrec]
  have hself : { rec with state := .ready, pending := none } = rec := by rw [hrec]
  let pr : Obj → Prop := fun o => o = .loop rec
  let pb : Obj → Prop := fun o => o = .loop { rec with state := .busy }
  let pd : Code → Obj → Prop := fun c o => o = .loop { rec with state := .done, pending := some c }
  let Br : List Res := [.obj (w.heap.size + 1) pr, .mark w.heap.size]
  let Bb : List Res := [.obj (w.heap.size + 1) pb, .mark w.heap.size]
  let Bd : Code → List Res := fun c => [.obj (w.heap.size + 1) (pd c), .mark w.heap.size]
  obtain ⟨w1, hw1⟩ : ∃ w1, w1 = (w.alloc (.deferred (some []))).alloc (.loop rec) := ⟨_, rfl⟩
  have hp1 : Hp w0.heap.size w0 w1 (L ++ Br) := by
    have h1 : Hp w0.heap.size w0 (w.alloc (.deferred (some []))) (.mark w.heap.size :: L) :=
      hp.fresh (r := .mark w.heap.size) ⟨hp.base, heap_alloc_new w _⟩ ((Below.refl _ _).alloc (Nat.le_refl _) _) (fun k hk => by simp [Res.blk] at hk;omega)
    have h2 : Hp w0.heap.size w0 w1 (.obj (w.heap.size + 1) pr :: .mark w.heap.size :: L) := by
      rw [hw1]
      have hsz : (w.alloc (.deferred (some []))).heap.size = w.heap.size + 1 := by simp
      refine h1.fresh (r := .obj (w.heap.size + 1) pr) ⟨by have := hp.base;omega, .loop rec, ?_, rfl⟩ ((Below.refl _ _).alloc (Nat.le_refl _) _) (fun k hk => by simp [Res.blk] at hk;omega)
      have := heap_alloc_new (w.alloc (.deferred (some []))) (.loop rec)
      rwa [hsz] at this
    exact h2.perm (List.perm_append_comm (l₁ := L) (l₂ := Br))
  have hl_of : ∀ {X : List Res} {w2 : World} {p : Obj → Prop}, Hp w0.heap.size w0 w2 (X ++ [.obj (w.heap.size + 1) p, .mark w.heap.size]) → ∃ o, w2.heap[w.heap.size + 1]? = some o ∧ p o := fun h => (h.ok _ (List.mem_append_right _ List.mem_cons_self)).2
  have hy : ∀ x av, Good x av → SatY P (w.heap.size + 1) av w0 (Rs x ++ Br) (fun u L' => (u = .bool true ∧ ∃ X', Next x av X' ∧ L' = X' ++ Br) ∨ (u = .bool false ∧ ∃ c X', Stop x av c X' ∧ L' = X' ++ Bd c)) := by
    intro x av hgood w2 hp2
    obtain ⟨o, hl, rfl⟩ := hl_of hp2
    have hrun := run_yield (P := P) (args := av.toArray) hl (by rw [hrec]; simpa using hps x av hgood)
    refine ⟨_, _, _, _, hrun, roundIn_of_wpIn trivial ?_⟩
    have hfr : Fr n { tmps := (rec.params.zip av.toArray).foldl (fun tmps (t, a) => tmps.setIfInBounds t a) rec.tmps, defers := [] } (putsF (resetD F) ps av) := by
      rw [hrec]
      have := Fr.puts ps av hf.reset (hps x av hgood)
      simpa using this
    have ha := (hbody (w.heap.size + 1) Br Bb x av hgood).use w2 _ hfr hp2
    rw [hrec] at ha ⊢
    refine wpIn_mono ha ?_
    rintro e a3 w3 ⟨F3, L3, hf3, hp3, hq3⟩
    cases e with
    | normal =>
      obtain ⟨Y, he3, hok⟩ := hq3
      have hp3' := he3.use _ hp3
      obtain ⟨o, hl3, ho⟩ := hl_of hp3'
      have ho' : o = .loop rec := ho
      subst ho'
      refine ⟨_, run_beginRound hl3 hst, ?_⟩
      have hp4 : Hp w0.heap.size w0 (w3.putObj (w.heap.size + 1) (.loop { rec with state := .busy })) (Y ++ Bb) := hp3'.putTail rfl
      refine wpIn_mono (hok.use _ a3 hf3 hp4) ?_
      have fin : ∀ (jump : Option Code) (w5 : World) (X' : List Res), Hp w0.heap.size w0 w5 (X' ++ Bb) →
          (Instr.endRound (w.heap.size + 1) jump).run P w5 = .ok (.bool jump.isNone) (w5.putObj (w.heap.size + 1) (.loop { rec with state := if jump.isNone then .ready else .done, pending := jump })) := fun jump w5 X' h5 => by
        obtain ⟨o, hl5, ho⟩ := hl_of h5
        have ho' : o = .loop { rec with state := .busy } := ho
        subst ho'
        exact run_endRound (r := { rec with state := .busy }) jump hl5
      rintro e a5 w5 ⟨F5, L5, hf5, hp5, hq5⟩
      cases e with
      | normal =>
        obtain ⟨X', he5, hn⟩ := hq5
        have hp5' := he5.use _ hp5
        refine ⟨_, _, fin none w5 X' hp5', _, _, rfl, hp5'.putTail (p' := pr) ?_, .inl ⟨rfl, X', hn, rfl⟩⟩
        show Obj.loop _ = Obj.loop rec
        congr 1
      | ret =>
        obtain ⟨X', he5, hn⟩ := hq5
        have hp5' := he5.use _ hp5
        exact ⟨_, _, fin (some .ret) w5 X' hp5', _, _, rfl, hp5'.putTail (p' := pd .ret) rfl, .inr ⟨rfl, .ret, X', hn, rfl⟩⟩
      | exit id =>
        obtain ⟨X', he5, hn⟩ := hq5
        have hp5' := he5.use _ hp5
        exact ⟨_, _, fin (some (.exit id)) w5 X' hp5', _, _, rfl, hp5'.putTail (p' := pd (.exit id)) rfl, .inr ⟨rfl, .exit id, X', hn, rfl⟩⟩
      | goto t => exact hq5.elim
      | panic c => exact hq5.elim
      | outgrown => exact hq5.elim
    | ret => exact hq3.elim
    | exit id => exact hq3.elim
    | goto t => exact hq3.elim
    | panic c => exact hq3.elim
    | outgrown => exact hq3.elim
  have hsat := hiter (w.heap.size + 1) Br Bd hy
  have hfin : ∀ _ : World, Fr n { a with defers := [{ target := .collected w.heap.size, args := #[] }] ++ a.defers } (pushD F w.heap.size) := fun _ => ⟨by rw [marks_push, ← hf.defers]; rfl, hf.size, hf.at'⟩
  refine ⟨w.heap.size + 1, [{ target := .collected w.heap.size, args := #[] }], w1, { target := .fn (.func gf) lb.toArray, args := #[.func (.yield (w.heap.size + 1)) #[] #[]] }, w1, gf,
    #[.func (.yield (w.heap.size + 1)) #[] #[]] ++ lb.toArray, w1, ?_, ?_, fun _ _ => trivial, ?_, (fun h => by cases h), ?_⟩
  · rw [hw1, hrec]; exact run_enterLoop_outer _ _ _ _ _
  · simp only [resolve, hf.eval, hg]
    simp [go_sem]
    rfl
  · have := he.run (#[.func (.yield (w.heap.size + 1)) #[] #[]] ++ lb.toArray) w1
    simp [invoke, go_sem] at this ⊢
    exact this
  · have hargs : #[Value.func (.yield (w.heap.size + 1)) #[] #[]] ++ lb.toArray = (Value.func (.yield (w.heap.size + 1)) #[] #[] :: lb).toArray := by simp
    rw [hargs]
    refine callsIn_wide.2 ((hsat.calls w1 hp1).mono ?_)
    rintro e w9 ⟨v, L9, rfl, hp9, h9⟩
    have tail : ∀ (X' : List Res) (p : Obj → Prop) (st : LoopState) (pe : Option Code), Hp w0.heap.size w0 w9 (X' ++ [.obj (w.heap.size + 1) p, .mark w.heap.size]) → (∀ o, p o → o = .loop { rec with state := st, pending := pe }) → st ≠ .busy →
        ∃ w10, (Instr.endLoop (w.heap.size + 1)).run P w9 = .ok pe w10 ∧ Hp w0.heap.size w0 w10 (.mark w.heap.size :: X') := fun X' p st pe h hp' hb => by
      obtain ⟨o, hl9, ho⟩ := hl_of h
      rw [hp' o ho] at hl9
      refine ⟨_, run_endLoop hl9 hb, ?_⟩
      have h10 := h.putTail (o := .loop { rec with state := .exhausted, pending := pe }) (p' := fun _ => True) trivial
      exact (h10.perm (List.perm_append_comm (l₁ := [.obj (w.heap.size + 1) (fun _ => True), .mark w.heap.size]) (l₂ := X'))).drop1
    rcases h9 with ⟨X', hd, rfl⟩ | ⟨c, X', hs, rfl⟩
    · obtain ⟨w10, hrun, hp10⟩ := tail X' pr .ready none hp9 (fun o ho => by rw [show o = .loop rec from ho, hself]) (by decide)
      exact ⟨none, w10, hrun, pushD F w.heap.size, _, hfin w10, hp10, hdone _ X' hd⟩
    · obtain ⟨w10, hrun, hp10⟩ := tail X' (pd c) .done (some c) hp9 (fun o ho => ho) (by decide)
      refine ⟨some c, w10, hrun, ?_⟩
      rcases hstop w.heap.size c X' hs with ⟨rfl, hq⟩ | ⟨id, rfl, hq⟩
      · exact wpIn_ret ⟨pushD F w.heap.size, _, hfin w10, hp10, hq⟩
      · exact wpIn_exit ⟨pushD F w.heap.size, _, hfin w10, hp10, hq⟩
def bodyM (P : Program) (n : Nat) (w0 : World) (rs : List ResultVar) (R : Value → List Res → Prop) : Exit → Fm → List Res → Prop
  | .normal, F, L => ∃ (Ds : List Nat) (vs : List Value) (L1 L' : List Res), marksV (F none) = Ds.map (fun D => { target := .collected D, args := #[] }) ∧ Ent w0 L (Ds.map Res.mark ++ L1) ∧ allRes P n F L1 rs vs ∧ Ent w0 L1 L' ∧ R (packV vs) L'
  | .ret, F, L => ∃ (Ds : List Nat) (vs : List Value) (L1 L' : List Res), marksV (F none) = Ds.map (fun D => { target := .collected D, args := #[] }) ∧ Ent w0 L (Ds.map Res.mark ++ L1) ∧ allRes P n F L1 rs vs ∧ Ent w0 L1 L' ∧ R (packV vs) L'
  | _, _, _ => False
theorem take_mark {w : World} {D : Nat} {L : List Res} (h : Hp w0.heap.size w0 w (.mark D :: L)) : (Instr.takeDeferred D).run P w = .ok [] (w.putObj D (.deferred none)) ∧ Hp w0.heap.size w0 (w.putObj D (.deferred none)) L := by
  have hok : w0.heap.size ≤ D ∧ w.heap[D]? = some (.deferred (some [])) := h.ok _ List.mem_cons_self
  have hlt := (Array.getElem?_eq_some_iff.1 hok.2).1
  refine ⟨run_takeDeferred hok.2, ?_⟩
  have := h.turn (i := 0) rfl (w' := w.putObj D (.deferred none)) (r' := .obj D (fun _ => True)) (grownBy_putObj' w D _) ⟨hok.1, _, World.putObj_heap_same hlt, trivial⟩ (fun k hk => .inl hk)
  exact this.drop1
theorem SatL.ofM {f : FuncId} {fn : Func} {c : Code} {args : List Value} {R : Value → List Res → Prop} (N : Nat) (rs : List ResultVar) (hf : P.funcs[f]? = some fn) (hN : fn.ntmps = N) (hnm : (fn.name == "runtime.NumGoroutine") = false) (hb : fn.body = some c)
    (hres : fn.results = rs.toArray) (hlen : Nat.ble args.length N = true) (h : OK P N w0 (bodyM P N w0 rs R) c (argF args) L) : SatL P f args w0 L R := by
  refine ⟨⟨fn, c, hf, hnm, hb⟩, fun w hp => ?_⟩
  refine (callsIn_wide (n := 0)).1 (callsIn_of_wp_marks hf hb trivial ((wpIn_wide (n := 0)).2 ?_))
  subst hN
  have hlen' : args.length ≤ fn.ntmps := by rwa [Nat.ble_eq] at hlen
  have hfr : Fr fn.ntmps { tmps := args.toArray ++ Array.replicate (fn.ntmps - args.toArray.size) undef, defers := [] } (argF args) := by
    refine ⟨rfl, by simp;omega, fun t ht => ?_⟩
    simp only [Array.getD_eq_getD_getElem?, argF, List.getD_eq_getElem?_getD]
    by_cases h : t < args.length
    · rw [Array.getElem?_append_left (by simpa using h)]
      simp
    · rw [Array.getElem?_append_right (by simpa using Nat.le_of_not_lt h), List.getElem?_eq_none (by omega)]
      simp only [List.size_toArray, Array.getElem?_replicate]
      split <;> rfl
  have key : ∀ (a' : Act) (w' : World) (F' : Fm) (L' : List Res) (vs : List Value), Fr fn.ntmps a' F' → Hp w0.heap.size w0 w' L' → allRes P fn.ntmps F' L' rs vs → (results fn a'.tmps).run P w' = .ok (packV vs) w' := by
    intro a' w' F' L' vs h1 h2 h3
    unfold results
    rw [hres, List.mapM_toArray]
    simp only [Sem.run_bind, Sem.run_map]
    rw [mapM_run (n := fn.ntmps) (F := F') (L := L') ?_ rs vs h3]
    · rcases vs with _ | ⟨v, _ | ⟨v2, vs⟩⟩ <;> simp [packV, Result.andThen]
    · intro r v h
      cases r with
      | tmp t =>
        have he : a'.tmps.getD t undef = v := (congrFun h1.eval (.tmp t)).trans h
        simp only [Sem.run_pure, he]
      | cell t tt =>
        obtain ⟨g, i, e, cs, h2', h3', h4⟩ := h
        have he : a'.tmps.getD t undef = .pointer (some ⟨g, 0, none⟩) := (congrFun h1.eval (.tmp t)).trans h2'
        have h5 := h4 w' (h2.boxAt i h3').1
        simp only [Sem.run_bind, Sem.run_pure, Result.andThen, he, asAddr, h5]
  have fin : ∀ (a' : Act) (F' : Fm) (vs : List Value) (L1 L' : List Res), Fr fn.ntmps a' F' → allRes P fn.ntmps F' L1 rs vs → Ent w0 L1 L' → R (packV vs) L' → ∀ (Ds : List Nat) (w' : World), Hp w0.heap.size w0 w' (Ds.map Res.mark ++ L1) →
      LeavesInM Fence.wide 0 P fn a'.tmps (fun e w' => ∃ v L', e = .returned v ∧ Hp w0.heap.size w0 w' L' ∧ R v L') (Ds.map (fun D => { target := .collected D, args := #[] })) .returning w' := by
    intro a' F' vs L1 L' h1 h3 he hR Ds
    induction Ds with
    | nil =>
      intro w' hp'
      exact ⟨_, key _ _ _ _ _ h1 hp' h3, _, L', rfl, he.use _ hp', hR⟩
    | cons D Ds ih =>
      intro w' hp'
      obtain ⟨h4, h5⟩ := take_mark (P := P) hp'
      exact ⟨by simp, .inl ⟨D, _, rfl, h4, ih _ h5⟩⟩
  refine wp_mono (h.use w _ hfr hp) ?_
  rintro e a' w' ⟨F', L2, h1, h2, h3⟩
  unfold bodyM at h3
  cases e with
  | normal =>
    obtain ⟨Ds, vs, L1, L', hm, he, hall, he2, hR⟩ := h3
    show LeavesInM _ _ _ _ _ _ _ _ _
    rw [h1.defers, hm]
    exact fin a' F' vs L1 L' h1 hall he2 hR Ds w' (he.use _ h2)
  | ret =>
    obtain ⟨Ds, vs, L1, L', hm, he, hall, he2, hR⟩ := h3
    show LeavesInM _ _ _ _ _ _ _ _ _
    rw [h1.defers, hm]
    exact fin a' F' vs L1 L' h1 hall he2 hR Ds w' (he.use _ h2)
  | _ => exact h3.elim
end
attribute [irreducible] bodyM
end Go.Proofs.YtpknpbeiifjmgaaGreat
namespace Go.Proofs.YtpknpbeiifjmgaaGreat
open Go.RowKit
theorem arr_get (xs : List Int) (j : Nat) (h : j < xs.length) : xs.toArray[j]! = xs[j] := by simp [h]
theorem compact_mem (xs : List Int) (x : Int) : x ∈ Lib.compact xs ↔ x ∈ xs := by
  unfold Lib.compact Lib.compactUpTo
  simp only [List.mem_map, List.mem_filter, List.mem_range]
  constructor
  · rintro ⟨j, ⟨h1, _⟩, rfl⟩
    rw [arr_get xs j h1]
    exact List.getElem_mem h1
  · intro hx
    obtain ⟨j, hj, rfl⟩ := List.getElem_of_mem hx
    clear hx
    induction j with
    | zero => exact ⟨0, ⟨hj, by simp [Lib.keeps]⟩, arr_get xs 0 hj⟩
    | succ j ih =>
      by_cases he : xs[j + 1] = xs[j]
      · rw [he]; exact ih (by omega)
      · refine ⟨j + 1, ⟨hj, ?_⟩, arr_get xs _ hj⟩
        apply Lib.keeps_pos
        rw [arr_get xs _ hj, Nat.add_sub_cancel, arr_get xs j (by omega)]
        exact he
theorem compact_asc (xs : List Int) (h : xs.Pairwise (· ≤ ·)) : (Lib.compact xs).Pairwise (· < ·) := by
  unfold Lib.compact Lib.compactUpTo
  rw [List.pairwise_map]
  refine (List.Pairwise.filter (Lib.keeps xs.toArray) List.pairwise_lt_range).imp_of_mem ?_
  intro i j hi hj hij
  simp only [List.mem_filter, List.mem_range] at hi hj
  have hk : xs.toArray[j]! ≠ xs.toArray[j - 1]! := by
    have := hj.2
    simp only [Lib.keeps, decide_eq_true_eq] at this
    rcases this with h0 | h0
    · omega
    · exact h0
  rw [arr_get xs j hj.1, arr_get xs (j - 1) (by omega)] at hk
  rw [arr_get xs i hi.1, arr_get xs j hj.1]
  have hp := List.pairwise_iff_getElem.1 h
  have h1 := hp (j - 1) j (by omega) hj.1 (by omega)
  rcases Nat.lt_or_ge i (j - 1) with h2 | h2
  · have := hp i (j - 1) hi.1 (by omega) h2
    omega
  · have : i = j - 1 := by omega
    subst this
    omega
theorem compact_len (xs : List Int) : (Lib.compact xs).length ≤ xs.length := by
  unfold Lib.compact Lib.compactUpTo
  rw [List.length_map]
  exact Nat.le_trans (List.length_filter_le _ _) (by simp)
set_option maxRecDepth 100000 in
set_option maxHeartbeats 4000000 in
theorem compact_int_sat (g cap n : Nat) (xs : List Int) (w0 : World) (L : List Res) (i : Nat) (hxn : xs.length = n) (hi : L[i]? = some (.row 3 1 (.slice (some ⟨g, 0, none⟩) n cap) n (ints xs))) (hx : n ≤ 1000000) :
    SatL Tryz.prog 7 [.slice (some ⟨g, 0, none⟩) n cap] w0 L (fun u L' => ∃ k, k = (Lib.compact xs).length ∧ u = .slice (some ⟨g, 0, none⟩) k cap ∧ L' = L.set i (.row 3 1 (.slice (some ⟨g, 0, none⟩) k cap) k (ints (Lib.compact xs)))) := by
  subst hxn
  refine ⟨⟨_, _, Tryz.func7, by kernel_rfl, rfl⟩, fun w hp => ?_⟩
  have ho : w.ownsRow w0.heap.size 3 1 (.slice (some ⟨g, 0, none⟩) xs.length cap) xs.length (ints xs) := hp.ok _ (List.mem_of_getElem? hi)
  have hlt := (ho.lt g rfl).2
  rcases ho.2 with ⟨h0, _⟩ | ⟨g', cap', cur, hv, hg, hb, hn, hcap, hsz, htake⟩
  · cases h0
  cases hv
  rw [Nat.mul_one] at htake
  have hcl := compact_len xs
  let ts := Lib.compact xs ++ List.replicate (xs.length - (Lib.compact xs).length) 0
  have htl : ts.length = xs.length := by simp [ts];omega
  refine (Tryz.slices_Compact_int g 0 cap xs w (Go.holds_of_blockI hb htake) (by omega) hn).mono ?_
  rintro e w' ⟨rfl, q, rfl⟩
  have e0 : ∀ W : World, Go.Sort.grow W #[] = W := fun W => Go.Sort.grow_empty W
  rw [← e0 (Go.Sort.putRow _ _ _ _ _)]
  have h1 : Hp w0.heap.size w0 (Go.Sort.grow (Go.Sort.putRow (Value.int .i64) (Go.Sort.ahead w q) g 0 ts.toArray) #[]) (L.set i (.row 3 1 (.slice (some ⟨g, 0, none⟩) xs.length cap) xs.length (ints ts))) :=
    hp.turn hi (r' := .row 3 1 (.slice (some ⟨g, 0, none⟩) xs.length cap) xs.length (ints ts)) (Go.grownBy_sortedI _) (Go.ownsRow_sortedI (w := w) (n := q) (os := #[]) (ts := ts) htl hg hb hn hcap hsz) (fun k hk => .inl hk)
  have hil : i < L.length := (List.getElem?_eq_some_iff.1 hi).1
  have hi2 : (L.set i (.row 3 1 (.slice (some ⟨g, 0, none⟩) xs.length cap) xs.length (ints ts)))[i]? = some (.row 3 1 (.slice (some ⟨g, 0, none⟩) xs.length cap) xs.length (ints ts)) := by
    rw [List.getElem?_set, if_pos rfl, if_pos hil]
  have h2 := h1.cut i hi2 (Lib.compact xs).length hcl
  rw [List.set_set] at h2
  have h3 : (ints ts).take ((Lib.compact xs).length * 1) = ints (Lib.compact xs) := by
    rw [Nat.mul_one]
    simp [ts, ints]
  rw [h3] at h2
  exact ⟨_, _, rfl, h2, _, rfl, rfl, rfl⟩
end Go.Proofs.YtpknpbeiifjmgaaGreat
namespace Go.Proofs.YtpknpbeiifjmgaaGreat
open Go.RowKit
theorem anyN_any (xs : List Int) (P : Int → Bool) : anyN (fun j => P (xs.getD j 0)) xs.length = xs.any P := by
  cases h : xs.any P with
  | true =>
    obtain ⟨x, hx, hp⟩ := List.any_eq_true.1 h
    obtain ⟨j, hj, rfl⟩ := List.getElem_of_mem hx
    exact anyN_hit hj (by rw [getD_lt _ _ _ hj]; exact hp)
  | false =>
    rw [List.any_eq_false] at h
    exact anyN_none fun j hj => by
      have := h _ (List.getElem_mem hj)
      rw [getD_lt _ _ _ hj]
      simpa using this
end Go.Proofs.YtpknpbeiifjmgaaGreat
namespace Go.Proofs.YtpknpbeiifjmgaaGreat
open Go.RowKit
theorem Ent.pickT {w0 : World} (A X : List Res) (is : List Nat) (hn : nodupB is = true) : Ent w0 (A ++ X) (pickL A is ++ X) := Ent.mk fun w hp => by
  induction is with
  | nil => exact hp.sub (List.sublist_append_right A X)
  | cons i is ih =>
    have hm : memN i is = false := by
      cases hb : memN i is with
      | false => rfl
      | true => simp [nodupB, hb] at hn
    have ih := ih (by simpa [nodupB, hm] using hn)
    unfold pickL at ih ⊢
    rw [List.filterMap_cons]
    cases hi : A[i]? with
    | none => exact ih
    | some r =>
      have hil := (List.getElem?_eq_some_iff.1 hi).1
      have hi' : (A ++ X)[i]? = some r := by rw [List.getElem?_append_left hil]; exact hi
      refine ih.cons (hp.ok r (List.mem_of_getElem? hi')) fun s hs => ?_
      rcases List.mem_append.1 hs with hs | hs
      · obtain ⟨j, hj, hjs⟩ := List.mem_filterMap.1 hs
        have hjl := (List.getElem?_eq_some_iff.1 hjs).1
        have hij : i ≠ j := by
          rintro rfl
          have := (memN_iff i is).2 hj
          rw [hm] at this; cases this
        exact hp.apart hij hi' (j := j) (by rw [List.getElem?_append_left hjl]; exact hjs)
      · obtain ⟨j, hj, rfl⟩ := List.getElem_of_mem hs
        exact hp.apart (i := i) (j := A.length + j) (by omega) hi' (by rw [List.getElem?_append_right (by omega)]; simp [hj])
end Go.Proofs.YtpknpbeiifjmgaaGreat
namespace Go.Proofs.YtpknpbeiifjmgaaGreat
open Go.RowKit
def maskS (n : Nat) (S : List Nat) : Array Bool := ((List.range n).map fun i => memN i S).toArray
section
variable {P : Program} {n : Nat} {w0 : World} {Q : Exit → Fm → List Res → Prop} {K : Fm → List Res → Prop} {F : Fm} {L : List Res} {l : List Oper} {N f : Nat} {S : List Nat}
def OKa (P : Program) (n : Nat) (w0 : World) (K : Fm → List Res → Prop) (l : List Oper) (N f : Nat) (S : List Nat) (F : Fm) (L : List Res) : Prop :=
  ∀ w a, Fr n a F → Hp w0.heap.size w0 w L → wpAny P .any l.toArray (liftN n w0 K) f (maskS N S) a w
theorem OKa.use (h : OKa P n w0 K l N f S F L) : ∀ w a, Fr n a F → Hp w0.heap.size w0 w L → wpAny P .any l.toArray (liftN n w0 K) f (maskS N S) a w := h
theorem OKa_end (hr : (Region.ready .any l.toArray (maskS N S)).isEmpty = true) (h : K F L) : OKa P n w0 K l N 0 S F L :=
  fun w a hf hp => ⟨List.isEmpty_iff.1 hr, rfl, F, L, hf, hp, h⟩
def kidOk (l : List Oper) (N : Nat) (S : List Nat) (i : Nat) (S' : List Nat) : Bool := (maskS N S').toList == ((maskS N S).setIfInBounds i true).toList
theorem kidOk_eq {i : Nat} {S' : List Nat} (h : kidOk l N S i S' = true) : maskS N S' = (maskS N S).setIfInBounds i true := by
  unfold kidOk at h
  exact Array.toList_inj.1 (beq_iff_eq.1 h)
end
attribute [irreducible] OKa
end Go.Proofs.YtpknpbeiifjmgaaGreat
namespace Go.Proofs.YtpknpbeiifjmgaaGreat
open Go.RowKit
theorem SatY.mono {P : Program} {l : Nat} {args : List Value} {w0 : World} {L : List Res} {R R' : Value → List Res → Prop} (h : SatY P l args w0 L R) (hr : ∀ v L, R v L → R' v L) : SatY P l args w0 L R' :=
  fun w hp => let ⟨fn, t, as2, b, h1, h2⟩ := h w hp; ⟨fn, t, as2, b, h1, h2.mono fun e w' ⟨v, L', a, b, c⟩ => ⟨v, L', a, b, hr _ _ c⟩⟩
end Go.Proofs.YtpknpbeiifjmgaaGreat
namespace Go.Proofs.YtpknpbeiifjmgaaGreat
theorem getD_mem {α : Type} (l : List α) (i : Nat) (d : α) (h : i < l.length) : l.getD i d ∈ l := by
  rw [getD_lt _ _ _ h]
  exact List.getElem_mem h
end Go.Proofs.YtpknpbeiifjmgaaGreat
namespace Go.Proofs.YtpknpbeiifjmgaaGreat
open Go.RowKit
theorem SatL.post {P : Program} {f : FuncId} {args : List Value} {w0 : World} {L : List Res} {R R' : Value → List Res → Prop} (h : SatL P f args w0 L R) (hr : ∀ v L', R v L' → ∃ L'', Ent w0 L' L'' ∧ R' v L'') : SatL P f args w0 L R' :=
  ⟨h.enters, fun w hp => (h.calls w hp).mono fun e w' ⟨v, L', h1, h2, h3⟩ => by
    obtain ⟨L'', e', h4⟩ := hr v L' h3
    exact ⟨v, L'', h1, e'.use _ h2, h4⟩⟩
end Go.Proofs.YtpknpbeiifjmgaaGreat
namespace Go.Proofs.YtpknpbeiifjmgaaGreat
open Go.RowKit
section
variable {P : Program} {n : Nat} {w0 : World} {Q : Exit → Fm → List Res → Prop} {K : Fm → List Res → Prop} {F : Fm} {L : List Res} {m : Md} {ops : Array Oper} {rest : List Oper} {d : Option Nat} {ty : TypeId} {pos : String} {aft : Array Edge}
theorem OKx_ldH {t : TypeId} {z : Value} [T : TOne P t z] {x : Operand} {b k : Nat} {v : Value} (hx : rv n F x = .pointer (some ⟨b, k, none⟩)) (hc : ∀ w, Hp w0.heap.size w0 w L → w.cell? ⟨b, k, none⟩ = some v)
    (kk : OKx P n w0 m ops K rest (updo F d v) L) : OKx P n w0 m ops K (⟨d, .load t x, ty, pos, aft, none⟩ :: rest) F L :=
  OKx_still (fun w hp _ _ _ _ => run_load1 T hx (hc w hp) _ _ _ _) kk
end
end Go.Proofs.YtpknpbeiifjmgaaGreat
namespace Go.Proofs.YtpknpbeiifjmgaaGreat
open Go.RowKit
def CV (l : List (Int × Int)) (j : Nat) : Nat → Value
  | 0 => .int .i64 (l.getD j (0, 0)).1
  | _ => .int .i64 (l.getD j (0, 0)).2
def Chs (w : World) (v : Value) (l : List (Int × Int)) : Prop := Sl2 w v 2 l.length (CV l)
theorem Chs.below {w w' : World} {v : Value} {l : List (Int × Int)} (h : Chs w v l) (hb : Below w.heap.size w w') : Chs w' v l := Sl2.below h hb
end Go.Proofs.YtpknpbeiifjmgaaGreat
namespace Go.Proofs.YtpknpbeiifjmgaaGreat
open Go.RowKit
set_option maxRecDepth 100000 in
set_option maxHeartbeats 4000000 in
theorem indexF_tab_sat (v : Value) (N : Nat) (e : Nat → Value) (p : Nat → Bool) (g : FuncId) (cs : Array Value) (w : World) (h : Sl w v 1 N e) (hf : ∀ k, k < N → ∀ w1, Below w.heap.size w w1 → SatV Tryz.prog g (e k :: cs.toList) w1 (.bool (p k))) :
    Sat Tryz.prog 37 [v, .func (.func g) #[] cs] w (IdxR p N) := by
  have hN := h.bound
  refine SatL.of 19 [4] Tryz.func37 (by kernel_rfl) (by kernel_rfl) rfl rfl rfl rfl ?_
  repeat' (first|(apply OK_seq)|(apply thenQ_n)|(apply OK_region)|(apply OKx_nilK)|(apply OK_block)|(apply blockQ_n)|(apply blockQ_s)|(apply thenQ_e)|(apply blockQ_e;exact rfl)|(apply thenQ_r)|(apply blockQ_r)|(apply OK_condT;exact rfl)|(apply OK_condF;exact rfl)|(apply OK_skip)|(apply OK_exit)|(apply OK_ret)|(apply OKx_move;(conv=>lhs;whnf)<;>exact rfl)|(apply OKx_assign;(conv=>lhs;whnf)<;>exact rfl)|(apply OKx_ldB;exact rfl;(first | exact at0|exact at1|exact at2|exact at3|exact at4|exact at5|exact at6|exact at7);exact rfl)|(apply OKx_ldR;(conv=>lhs;whnf)<;>exact rfl;(with_reducible assumption))|(apply OKx_len;exact rfl)|(apply OKx_lenR;(conv=>lhs;whnf)<;>exact rfl;(with_reducible assumption))|(apply OKx_lenR2;(conv=>lhs;whnf)<;>exact rfl;(with_reducible assumption))|(apply OKx_lenO;(conv=>lhs;whnf)<;>exact rfl;(first | exact at0|exact at1|exact at2|exact at3|exact at4|exact at5|exact at6|exact at7))|(apply OKx_lss;exact rfl;exact rfl;all_goals (intro _; try (exfalso;omega)))|(apply OKx_idxO;exact rfl;exact rfl;omega)|(apply OKx_idxR;(conv=>lhs;whnf)<;>exact rfl;(with_reducible assumption);exact rfl;omega;intro _ _)|(apply OKx_idxOz;exact rfl;exact rfl;omega;omega)|(apply OKx_idxRz;(conv=>lhs;whnf)<;>exact rfl;(with_reducible assumption);exact rfl;omega;omega;intro _ _)|(apply OKx_inc;exact rfl;exact rfl;omega)|(apply OKx_addN;exact rfl;exact rfl;omega)|(apply OKx_add;exact rfl;exact rfl;omega;omega))
  refine OK_loop1 8 [4, 5, 8, 9, 10, 11, 12, 13, 14, 15, 16, 17, 18] (fun m v L => ∃ k : Nat, k + m = N ∧ v = .int .i64 (k : Int) ∧ (∀ j, j < k → p j = false) ∧ L = []) N [] (Ent.refl _ _) ⟨0, by omega, rfl, fun j hj => absurd hj (by omega), rfl⟩ ?_
  rintro m v' L G ⟨k, hm, rfl, H, rfl⟩
  repeat' (first|(apply OK_seq)|(apply thenQ_n)|(apply OK_region)|(refine OKx_callB (f := g) rfl rfl rfl (fun w hp => hf k (by omega) w hp.below) ?_ ?_ <;> intro hq)|(apply OKx_nilK)|(apply OK_block)|(apply blockQ_n)|(apply blockQ_s)|(apply thenQ_e)|(apply blockQ_e;exact rfl)|(apply thenQ_r)|(apply blockQ_r)|(apply OK_condT;exact rfl)|(apply OK_condF;exact rfl)|(apply OK_skip)|(apply OK_exit)|(apply OK_ret)|(apply OKx_move;(conv=>lhs;whnf)<;>exact rfl)|(apply OKx_assign;(conv=>lhs;whnf)<;>exact rfl)|(apply OKx_ldB;exact rfl;(first | exact at0|exact at1|exact at2|exact at3|exact at4|exact at5|exact at6|exact at7);exact rfl)|(apply OKx_ldR;(conv=>lhs;whnf)<;>exact rfl;(with_reducible assumption))|(apply OKx_len;exact rfl)|(apply OKx_lenR;(conv=>lhs;whnf)<;>exact rfl;(with_reducible assumption))|(apply OKx_lenR2;(conv=>lhs;whnf)<;>exact rfl;(with_reducible assumption))|(apply OKx_lenO;(conv=>lhs;whnf)<;>exact rfl;(first | exact at0|exact at1|exact at2|exact at3|exact at4|exact at5|exact at6|exact at7))|(apply OKx_lss;exact rfl;exact rfl;all_goals (intro _; try (exfalso;omega)))|(apply OKx_idxO;exact rfl;exact rfl;omega)|(apply OKx_idxR;(conv=>lhs;whnf)<;>exact rfl;(with_reducible assumption);exact rfl;omega;intro _ _)|(apply OKx_idxOz;exact rfl;exact rfl;omega;omega)|(apply OKx_idxRz;(conv=>lhs;whnf)<;>exact rfl;(with_reducible assumption);exact rfl;omega;omega;intro _ _)|(apply OKx_inc;exact rfl;exact rfl;omega)|(apply OKx_addN;exact rfl;exact rfl;omega)|(apply OKx_add;exact rfl;exact rfl;omega;omega))
  · refine bodyQ_r1 (by ((conv=>lhs;whnf)<;>exact rfl)) ?_
    exact ⟨_, Ent.refl _ _, _, rfl, rfl, by rw [anyN_hit (by omega) hq, decide_eq_true (by omega)]⟩
  · refine ⟨by (repeat' (first | refine agree_upd rfl ?_ | exact agree_over | exact agree_refl _ _ | refine agree_over2 rfl ?_)), m - 1, _, by omega, Ent.refl _ _, ?_⟩
    refine ⟨k + 1, by omega, rfl, fun j hj => ?_, rfl⟩
    by_cases hjk : j < k
    · exact H j hjk
    · obtain rfl : j = k := by omega
      exact hq
  · refine bodyQ_r1 (by ((conv=>lhs;whnf)<;>exact rfl)) ?_
    exact ⟨_, Ent.refl _ _, _, rfl, rfl, by rw [anyN_none fun j hj => H j (by omega)]; rfl⟩
set_option maxRecDepth 100000 in
set_option maxHeartbeats 4000000 in
theorem containsF_tab_sat (v : Value) (N : Nat) (e : Nat → Value) (p : Nat → Bool) (g : FuncId) (cs : Array Value) (w : World) (h : Sl w v 1 N e) (hf : ∀ k, k < N → ∀ w1, Below w.heap.size w w1 → SatV Tryz.prog g (e k :: cs.toList) w1 (.bool (p k))) :
    SatV Tryz.prog 13 [v, .func (.func g) #[] cs] w (.bool (anyN p N)) := by
  refine SatL.of 9 [4] Tryz.func13 (by kernel_rfl) (by kernel_rfl) rfl rfl rfl rfl ?_
  repeat' (first|(apply OK_seq)|(apply thenQ_n)|(apply OK_region)|(apply OKx_gc 37;exact rfl; refine OKx_call (f := 37) rfl rfl (fun w hp => indexF_tab_sat v N e p g cs w (h.below hp.below) (fun k hk w1 hb => hf k hk w1 (below_on hp.below hb))) ?_; rintro _ _ ⟨i, rfl, rfl, hi⟩)|(apply OKx_nilK)|(apply OK_block)|(apply blockQ_n)|(apply blockQ_s)|(apply thenQ_e)|(apply blockQ_e;exact rfl)|(apply thenQ_r)|(apply blockQ_r)|(apply OK_condT;exact rfl)|(apply OK_condF;exact rfl)|(apply OK_skip)|(apply OK_exit)|(apply OK_ret)|(apply OKx_move;(conv=>lhs;whnf)<;>exact rfl)|(apply OKx_assign;(conv=>lhs;whnf)<;>exact rfl)|(apply OKx_geq;exact rfl;exact rfl;all_goals (intro _; try (exfalso;omega))))
  all_goals
    refine bodyQ_r1 (by ((conv=>lhs;whnf)<;>exact rfl)) ?_
    exact ⟨_, Ent.refl _ _, bool_eq (by rw [hi]; simp;omega), rfl⟩
theorem Pt.below {w w' : World} {p : Value} {sz : Nat} {f : Nat → Value} (h : Pt w p sz f) (hb : Below w.heap.size w w') : Pt w' p sz f := by
  obtain ⟨b, o, rfl, hc⟩ := h
  exact ⟨b, o, rfl, fun j hj => (hb.cell (World.block_lt_of_cell? w _ (hc j hj))).trans (hc j hj)⟩
end Go.Proofs.YtpknpbeiifjmgaaGreat
namespace Go.Proofs.YtpknpbeiifjmgaaGreat
open Go.RowKit
section
variable {P : Program} {ops : Array Oper}
theorem any_in {ro : Option Nat} {Q Q' : Exit → Act → World → Prop} (hp : ∀ c a w, ¬ Q (.panic c) a w) (ho : ¬ LetsOut Q) (hn : ∀ (i : Nat) (o : Oper), ops[i]? = some o → noDef o = true) (hq : ∀ a w, Q .normal a w → Q' .normal a w) :
    ∀ (fuel : Nat) (listed : Array Bool) (a : Act) (w : World), wpAny P .any ops Q fuel listed a w → wpAnyIn (fen ro) 0 P .any ops Q' fuel listed a w
  | 0, _, _, _, h => ⟨h.1, hq _ _ h.2⟩
  | fuel + 1, listed, a, w, h => by
    refine ⟨fun h0 => hq _ _ (h.1 h0), fun i hi => ?_⟩
    have h1 := h.2 i hi
    unfold wpOp at h1
    unfold wpOpIn
    cases ho2 : ops[i]? with
    | none => rw [ho2] at h1; exact any_in hp ho hn hq fuel _ _ _ h1
    | some o =>
      rw [ho2] at h1
      dsimp only at h1 ⊢
      split
      · rename_i hw
        rw [if_pos hw] at h1
        rcases h1 with h1 | h1
        · exact oper_in (hn i o ho2) hp ho (Oper.wp_mono (fun a w h => any_in hp ho hn hq fuel _ _ _ h) h1)
        · exact absurd h1.2 ho
      · rename_i hw
        rw [if_neg hw] at h1
        exact ⟨fun f _ => fen_fn ro f, any_in hp ho hn hq fuel _ _ _ h1⟩
end
section
variable {P : Program} {n : Nat} {w0 : World} {ro : Nat} {Q : Exit → Fm → List Res → Prop} {F : Fm} {L : List Res}
theorem OKr_of_any {id : Nat} {l : List Oper} (hm : P.follows .mixedOrders = true) (hn : l.all noDef = true) (h : ∀ w a, Fr n a F → Hp w0.heap.size w0 w L → wpAny P .any l.toArray (liftN n w0 (Q .normal)) l.toArray.size (Array.replicate l.toArray.size false) a w.drew) : OKr P n w0 ro Q (.region id l.toArray true) F L := by
  unfold OKr
  intro w a hf hp
  refine wpIn_region_any hm (any_in (Q := liftN n w0 (Q .normal)) liftN_noPanic liftN_noOut (fun i o hi => ?_) (fun a w h => ?_) _ _ _ _ (h w a hf hp))
  · rw [List.getElem?_toArray] at hi
    exact List.all_eq_true.1 hn o (List.mem_of_getElem? hi)
  · obtain ⟨_, F', L', h1, h2, h3⟩ := h
    exact ⟨F', L', h1, h2, h3⟩
theorem OKr_rid (id : Nat) {a : Array Oper} {b : Bool} (h : OKr P n w0 ro Q (.region id a b) F L) : OKr P n w0 ro Q (.region id a b) F L := h
theorem OKr_quiet {id : Nat} {l : List Oper} (hm : P.follows .mixedOrders = true) (hB : Region.lexB .any l.toArray = true) (h : OKx P n w0 .quiet l.toArray (Q .normal) l F L) (hn : l.all noDef = true := by rfl) : OKr P n w0 ro Q (.region id l.toArray true) F L := by
  refine OKr_of_any hm hn fun w a hf hp => ?_
  simp only [Region.lexB, Bool.and_eq_true] at hB
  refine wpAny_of_quiet (C := fun w => Hp w0.heap.size w0 w L) (Q := fun a' => ∃ F', Fr n a' F' ∧ Q .normal F' L) (fun a w hc h => (by obtain ⟨F', h1, h2⟩ := h; exact ⟨rfl, F', L, h1, hc, h2⟩)) _ _ _ _ hp.drew ?_
  have := wpAnyQ_lex (P := P) (C := fun w => Hp w0.heap.size w0 w L) (md := .any) hB.1 l 0 (Array.replicate l.toArray.size false) a (by simp) (by simpa using hB.2) (h.useQ a hf)
  simpa using this
end
end Go.Proofs.YtpknpbeiifjmgaaGreat
namespace Go.Proofs.YtpknpbeiifjmgaaGreat
open Go.RowKit
set_option maxRecDepth 100000 in
set_option maxHeartbeats 4000000 in
theorem conS_sat (v : Value) (xs : List ByteArray) (x : ByteArray) (w : World) (h : Strs w v xs) : SatV Tryz.prog 62 [v, .string x] w (.bool (Lib.containsS xs x)) :=
  Sat.lib ⟨_, _, Tryz.func62, by kernel_rfl, rfl⟩ fun w1 hb => (contains_str v xs x w1 (h.below hb)).mono fun e w' ⟨h1, h2⟩ => by
    subst h2
    exact ⟨_, [], h1, Hp.refl w1, rfl, rfl⟩
theorem Strs.drop {w : World} {g n cap o' : Nat} {xs : List ByteArray} (h : Strs w (.slice (some ⟨g, 0, none⟩) n cap) xs) (k : Nat) (hk : k ≤ xs.length) (ho : k < cap → o' = 0 + k * 1) : Strs w (.slice (some ⟨g, o', none⟩) (n - k) (cap - k)) (xs.drop k) := by
  obtain ⟨⟨hl, ⟨a', c', hv, hc⟩, hr⟩, h2⟩ := h
  simp only [Value.slice.injEq] at hv
  obtain ⟨rfl, rfl, rfl⟩ := hv
  have hcap := hr _ _ _ rfl
  have hlen : (xs.drop k).length = xs.length - k := List.length_drop
  refine ⟨⟨by omega, ⟨_, cap - k, by rw [hlen], ?_⟩, fun a1 m c hv => ?_⟩, fun s hs => h2 s (List.mem_of_mem_drop hs)⟩
  case refine_2 =>
    simp only [Value.slice.injEq] at hv
    omega
  rw [hlen]
  by_cases h0 : xs.length - k = 0
  · exact .inl h0
  right
  refine ⟨g, o', rfl, fun j hj => ?_⟩
  rcases hc with hc | ⟨b, off, ha, hc⟩
  · omega
  simp only [Option.some.injEq, Addr.mk.injEq] at ha
  obtain ⟨rfl, rfl, _⟩ := ha
  have := hc (k + j) (by omega)
  rw [ho (by omega), Nat.add_assoc, Nat.mul_one]
  rw [this]
  simp [List.getD_eq_getElem?_getD, List.getElem?_drop]
theorem bodyM_x2 {P : Program} {n : Nat} {w0 : World} {F : Fm} {L L1 : List Res} {r1 r2 : ResultVar} {v1 v2 : Value} {R : Value → List Res → Prop} (D : Nat) (e : Ent w0 L (.mark D :: L1)) (h1 : resIs P n F L1 r1 v1) (h2 : resIs P n F L1 r2 v2) (h : ∃ L', Ent w0 L1 L' ∧ R (.tuple #[v1, v2]) L') (hm : marksV (F none) = [{ target := .collected D, args := #[] }]) : bodyM P n w0 [r1, r2] R .ret F L := by
  unfold bodyM
  obtain ⟨L', e', hR⟩ := h
  exact ⟨[D], [v1, v2], L1, L', hm, e, ⟨h1, h2, trivial⟩, e', hR⟩
end Go.Proofs.YtpknpbeiifjmgaaGreat
namespace Go.Proofs.YtpknpbeiifjmgaaGreat
open Go.RowKit
section
variable {P : Program} {n : Nat} {w0 : World} {K : Fm → List Res → Prop} {F : Fm} {L : List Res} {m : Md} {ops : Array Oper} {rest : List Oper} {d : Option Nat} {ty : TypeId} {pos : String} {aft : Array Edge}
theorem OKx_sslH7 {t : TypeId} [T : TStr P t] {x hi : Operand} {s r : List UInt8} {h : Nat} {k : IntKind} (hx : rv n F x = .string (bOf s)) (hl : rv n F hi = .int k (h : Int)) (h1 : h ≤ s.length) (hr : s.take h = r)
    (kk : OKx P n w0 m ops K rest (updo F d (.string (bOf r))) L) : OKx P n w0 m ops K (⟨d, .slice t x none (some hi) none, ty, pos, aft, none⟩ :: rest) F L :=
  OKx_still (fun w _ _ _ _ _ => by
    have h2 := run_sliceAt_string (P := P) (w := w) t (.string (bOf s)) none (some (.int k (h : Int))) none T.und
    have h3 := run_slice_string_h (P := P) w t (bOf s) T.und k (h : Int) (by omega) (by rw [bOf_size];omega)
    have e : (bOf s).extract 0 h = bOf r := by
      rw [Lib.extract_eq, data_bOf, List.drop_zero, Nat.sub_zero, hr]
      rfl
    rw [Int.toNat_natCast, e] at h3
    rw [h3] at h2
    simp [execOp, hx, hl, h2, Result.andThen]) kk
end
end Go.Proofs.YtpknpbeiifjmgaaGreat
