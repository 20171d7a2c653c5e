/-
  Part 10 of the proof: Rg, It36, Cpt, As38, Any, Be38, Pd38, As39, Po39. No statement of the seat is proved here.
-/
import Derived.Test.YtdigdmnnjbndlaaGreatDoorMHTx369
namespace Go.Proofs.YtdigdmnnjbndlaaGreatDoor
open Go.RowKit
def resetD (F : Fm) : Fm
  | some i => F (some i)
  | none => undef
def putsF : Fm → List Nat → List Value → Fm
  | F, p :: ps, v :: vs => putsF (upd F p v) ps vs
  | F, _, _ => F
def pushD (F : Fm) (D : Nat) : Fm
  | some i => F (some i)
  | none => .tuple (#[.pointer (some ⟨D, 0, none⟩)] ++ match F none with
    | .tuple vs => vs
    | _ => #[])
theorem marks_push (F : Fm) (D : Nat) : marksV (pushD F D none) = { target := .collected D, args := #[] } :: marksV (F none) := by
  unfold pushD
  cases h : F none <;> simp [marksV]
theorem Fr.reset {n : Nat} {a : Act} {F : Fm} (h : Fr n a F) : Fr n { a with defers := [] } (resetD F) := ⟨rfl, h.size, h.at'⟩
theorem Fr.puts {n : Nat} : ∀ (ps : List Nat) (vs : List Value) {tmps : Array Value} {F : Fm}, Fr n { tmps := tmps, defers := [] } F → vs.length = ps.length →
    Fr n { tmps := (ps.zip vs).foldl (fun t x => t.setIfInBounds x.1 x.2) tmps, defers := [] } (putsF F ps vs)
  | [], [], _, _, h, _ => h
  | p :: ps, v :: vs, tmps, F, h, hl => by
    have h1 := h.put (some p) v
    exact Fr.puts ps vs h1 (by simpa using hl)
  | [], _ :: _, _, _, _, hl => by simp at hl
  | _ :: _, [], _, _, _, hl => by simp at hl
section
variable {P : Program} {n : Nat} {w0 : World} {Q : Exit → Fm → List Res → Prop} {F : Fm} {L : List Res}
def roundQ (w0 : World) (B : List Res) (Next : List Res → Prop) (Stop : Code → List Res → Prop) : Exit → Fm → List Res → Prop
  | .normal, _, L => ∃ X', Ent w0 L (X' ++ B) ∧ Next X'
  | .ret, _, L => ∃ X', Ent w0 L (X' ++ B) ∧ Stop .ret X'
  | .exit id, _, L => ∃ X', Ent w0 L (X' ++ B) ∧ Stop (.exit id) X'
  | _, _, _ => False
def assignQ (P : Program) (n : Nat) (w0 : World) (ro : Nat) (B B' : List Res) (body : Code) (Next : List Res → Prop) (Stop : Code → List Res → Prop) : Exit → Fm → List Res → Prop
  | .normal, F, L => ∃ Y, Ent w0 L (Y ++ B) ∧ OKr P n w0 ro (roundQ w0 B' Next Stop) body F (Y ++ B')
  | _, _, _ => False
theorem Hp.putTail {B : Nat} {w : World} {X : List Res} {l D : Nat} {p p' : Obj → Prop} {o : Obj} (h : Hp B w0 w (X ++ [.obj l p, .mark D])) (ho : p' o) : Hp B w0 (w.putObj l o) (X ++ [.obj l p', .mark D]) := by
  have hi : (X ++ [Res.obj l p, .mark D])[X.length]? = some (.obj l p) := by
    rw [List.getElem?_append_right (Nat.le_refl _), Nat.sub_self]; rfl
  have hok := h.ok _ (List.mem_of_getElem? hi)
  have hlt := (hok.lt (k := l) rfl).2
  have := h.turn hi (w' := w.putObj l o) (r' := .obj l p') (grownBy_putObj' w l o) ⟨hok.1, o, World.putObj_heap_same hlt, ho⟩ (fun k hk => .inl hk)
  rwa [List.set_append_right _ _ (Nat.le_refl _), Nat.sub_self] at this
theorem OK_rangeFunc {σ : Type} (Rs : σ → List Res) {g : Operand} {ps : List Nat} {assign body : Code} {gf : FuncId} {lb : List Value} (hg : rv n F g = .func (.func gf) #[] lb.toArray) (he : Enters' P gf)
    (Good : σ → List Value → Prop) (Next : σ → List Value → List Res → Prop) (Stop : σ → List Value → Code → List Res → Prop) (Done : List Res → Prop) (StopD : Code → List Res → Prop)
    (hps : ∀ x av, Good x av → av.length = ps.length)
    (hiter : ∀ (y : Nat) (Br : List Res) (Bd : Code → List Res), (∀ x av, Good x av → SatY P y av w0 (Rs x ++ Br) (fun u L' => (u = .bool true ∧ ∃ X', Next x av X' ∧ L' = X' ++ Br) ∨ (u = .bool false ∧ ∃ c X', Stop x av c X' ∧ L' = X' ++ Bd c))) →
      SatL P gf (.func (.yield y) #[] #[] :: lb) w0 (L ++ Br) (fun _ L' => (∃ X', Done X' ∧ L' = X' ++ Br) ∨ (∃ c X', StopD c X' ∧ L' = X' ++ Bd c)))
    (hbody : ∀ (ro : Nat) (B B' : List Res) x av, Good x av → OKr P n w0 ro (assignQ P n w0 ro B B' body (Next x av) (Stop x av)) assign (putsF (resetD F) ps av) (Rs x ++ B))
    (hdone : ∀ D X', Done X' → Q .normal (pushD F D) (.mark D :: X'))
    (hstop : ∀ D c X', StopD c X' → (c = .ret ∧ Q .ret (pushD F D) (.mark D :: X')) ∨ ∃ id, c = .exit id ∧ Q (.exit id) (pushD F D) (.mark D :: X')) :
    OK P n w0 Q (.rangeFunc g ps.toArray assign body) F L := by
  refine OK.mk' fun w a hf hp => (wpIn_wide (n := 0)).1 (wpIn_rangeFunc fun fn _ => ?_)
  obtain ⟨rec, hrec⟩ : ∃ rec : Loop, rec = { state := .ready, pending := none, fn, tmps := a.tmps, params := ps.toArray, assign, body, defers := w.heap.size } := ⟨_, rfl⟩
  have hst : rec.state = .ready := by rw [hrec]
  have hpe : rec.pending = none := by rw [hrec]
  have hself : { rec with state := .ready, pending := none } = rec := by rw [hrec]
  let pr : Obj → Prop := fun o => o = .loop rec
  let pb : Obj → Prop := fun o => o = .loop { rec with state := .busy }
  let pd : Code → Obj → Prop := fun c o => o = .loop { rec with state := .done, pending := some c }
  let Br : List Res := [.obj (w.heap.size + 1) pr, .mark w.heap.size]
  let Bb : List Res := [.obj (w.heap.size + 1) pb, .mark w.heap.size]
  let Bd : Code → List Res := fun c => [.obj (w.heap.size + 1) (pd c), .mark w.heap.size]
  obtain ⟨w1, hw1⟩ : ∃ w1, w1 = (w.alloc (.deferred (some []))).alloc (.loop rec) := ⟨_, rfl⟩
  have hp1 : Hp w0.heap.size w0 w1 (L ++ Br) := by
    have h1 : Hp w0.heap.size w0 (w.alloc (.deferred (some []))) (.mark w.heap.size :: L) :=
      hp.fresh (r := .mark w.heap.size) ⟨hp.base, heap_alloc_new w _⟩ ((Below.refl _ _).alloc (Nat.le_refl _) _) (fun k hk => by simp [Res.blk] at hk;omega)
    have h2 : Hp w0.heap.size w0 w1 (.obj (w.heap.size + 1) pr :: .mark w.heap.size :: L) := by
      rw [hw1]
      have hsz : (w.alloc (.deferred (some []))).heap.size = w.heap.size + 1 := by simp
      refine h1.fresh (r := .obj (w.heap.size + 1) pr) ⟨by have := hp.base;omega, .loop rec, ?_, rfl⟩ ((Below.refl _ _).alloc (Nat.le_refl _) _) (fun k hk => by simp [Res.blk] at hk;omega)
      have := heap_alloc_new (w.alloc (.deferred (some []))) (.loop rec)
      rwa [hsz] at this
    exact h2.perm (List.perm_append_comm (l₁ := L) (l₂ := Br))
  have hl_of : ∀ {X : List Res} {w2 : World} {p : Obj → Prop}, Hp w0.heap.size w0 w2 (X ++ [.obj (w.heap.size + 1) p, .mark w.heap.size]) → ∃ o, w2.heap[w.heap.size + 1]? = some o ∧ p o := fun h => (h.ok _ (List.mem_append_right _ List.mem_cons_self)).2
  have hy : ∀ x av, Good x av → SatY P (w.heap.size + 1) av w0 (Rs x ++ Br) (fun u L' => (u = .bool true ∧ ∃ X', Next x av X' ∧ L' = X' ++ Br) ∨ (u = .bool false ∧ ∃ c X', Stop x av c X' ∧ L' = X' ++ Bd c)) := by
    intro x av hgood w2 hp2
    obtain ⟨o, hl, rfl⟩ := hl_of hp2
    have hrun := run_yield (P := P) (args := av.toArray) hl (by rw [hrec]; simpa using hps x av hgood)
    refine ⟨_, _, _, _, hrun, roundIn_of_wpIn trivial ?_⟩
    have hfr : Fr n { tmps := (rec.params.zip av.toArray).foldl (fun tmps (t, a) => tmps.setIfInBounds t a) rec.tmps, defers := [] } (putsF (resetD F) ps av) := by
      rw [hrec]
      have := Fr.puts ps av hf.reset (hps x av hgood)
      simpa using this
    have ha := (hbody (w.heap.size + 1) Br Bb x av hgood).use w2 _ hfr hp2
    rw [hrec] at ha ⊢
    refine wpIn_mono ha ?_
    rintro e a3 w3 ⟨F3, L3, hf3, hp3, hq3⟩
    cases e with
    | normal =>
      obtain ⟨Y, he3, hok⟩ := hq3
      have hp3' := he3.use _ hp3
      obtain ⟨o, hl3, ho⟩ := hl_of hp3'
      have ho' : o = .loop rec := ho
      subst ho'
      refine ⟨_, run_beginRound hl3 hst, ?_⟩
      have hp4 : Hp w0.heap.size w0 (w3.putObj (w.heap.size + 1) (.loop { rec with state := .busy })) (Y ++ Bb) := hp3'.putTail rfl
      refine wpIn_mono (hok.use _ a3 hf3 hp4) ?_
      have fin : ∀ (jump : Option Code) (w5 : World) (X' : List Res), Hp w0.heap.size w0 w5 (X' ++ Bb) →
          (Instr.endRound (w.heap.size + 1) jump).run P w5 = .ok (.bool jump.isNone) (w5.putObj (w.heap.size + 1) (.loop { rec with state := if jump.isNone then .ready else .done, pending := jump })) := fun jump w5 X' h5 => by
        obtain ⟨o, hl5, ho⟩ := hl_of h5
        have ho' : o = .loop { rec with state := .busy } := ho
        subst ho'
        exact run_endRound (r := { rec with state := .busy }) jump hl5
      rintro e a5 w5 ⟨F5, L5, hf5, hp5, hq5⟩
      cases e with
      | normal =>
        obtain ⟨X', he5, hn⟩ := hq5
        have hp5' := he5.use _ hp5
        refine ⟨_, _, fin none w5 X' hp5', _, _, rfl, hp5'.putTail (p' := pr) ?_, .inl ⟨rfl, X', hn, rfl⟩⟩
        show Obj.loop _ = Obj.loop rec
        congr 1
      | ret =>
        obtain ⟨X', he5, hn⟩ := hq5
        have hp5' := he5.use _ hp5
        exact ⟨_, _, fin (some .ret) w5 X' hp5', _, _, rfl, hp5'.putTail (p' := pd .ret) rfl, .inr ⟨rfl, .ret, X', hn, rfl⟩⟩
      | exit id =>
        obtain ⟨X', he5, hn⟩ := hq5
        have hp5' := he5.use _ hp5
        exact ⟨_, _, fin (some (.exit id)) w5 X' hp5', _, _, rfl, hp5'.putTail (p' := pd (.exit id)) rfl, .inr ⟨rfl, .exit id, X', hn, rfl⟩⟩
      | goto t => exact hq5.elim
      | panic c => exact hq5.elim
      | outgrown => exact hq5.elim
    | ret => exact hq3.elim
    | exit id => exact hq3.elim
    | goto t => exact hq3.elim
    | panic c => exact hq3.elim
    | outgrown => exact hq3.elim
  have hsat := hiter (w.heap.size + 1) Br Bd hy
  have hfin : ∀ _ : World, Fr n { a with defers := [{ target := .collected w.heap.size, args := #[] }] ++ a.defers } (pushD F w.heap.size) := fun _ => ⟨by rw [marks_push, ← hf.defers]; rfl, hf.size, hf.at'⟩
  refine ⟨w.heap.size + 1, [{ target := .collected w.heap.size, args := #[] }], w1, { target := .fn (.func gf) lb.toArray, args := #[.func (.yield (w.heap.size + 1)) #[] #[]] }, w1, gf,
    #[.func (.yield (w.heap.size + 1)) #[] #[]] ++ lb.toArray, w1, ?_, ?_, fun _ _ => trivial, ?_, (fun h => by cases h), ?_⟩
  · rw [hw1, hrec]; exact run_enterLoop_outer _ _ _ _ _
  · simp only [resolve, hf.eval, hg]
    simp [go_sem]
    rfl
  · have := he.run (#[.func (.yield (w.heap.size + 1)) #[] #[]] ++ lb.toArray) w1
    simp [invoke, go_sem] at this ⊢
    exact this
  · have hargs : #[Value.func (.yield (w.heap.size + 1)) #[] #[]] ++ lb.toArray = (Value.func (.yield (w.heap.size + 1)) #[] #[] :: lb).toArray := by simp
    rw [hargs]
    refine callsIn_wide.2 ((hsat.calls w1 hp1).mono ?_)
    rintro e w9 ⟨v, L9, rfl, hp9, h9⟩
    have tail : ∀ (X' : List Res) (p : Obj → Prop) (st : LoopState) (pe : Option Code), Hp w0.heap.size w0 w9 (X' ++ [.obj (w.heap.size + 1) p, .mark w.heap.size]) → (∀ o, p o → o = .loop { rec with state := st, pending := pe }) → st ≠ .busy →
        ∃ w10, (Instr.endLoop (w.heap.size + 1)).run P w9 = .ok pe w10 ∧ Hp w0.heap.size w0 w10 (.mark w.heap.size :: X') := fun X' p st pe h hp' hb => by
      obtain ⟨o, hl9, ho⟩ := hl_of h
      rw [hp' o ho] at hl9
      refine ⟨_, run_endLoop hl9 hb, ?_⟩
      have h10 := h.putTail (o := .loop { rec with state := .exhausted, pending := pe }) (p' := fun _ => True) trivial
      exact (h10.perm (List.perm_append_comm (l₁ := [.obj (w.heap.size + 1) (fun _ => True), .mark w.heap.size]) (l₂ := X'))).drop1
    rcases h9 with ⟨X', hd, rfl⟩ | ⟨c, X', hs, rfl⟩
    · obtain ⟨w10, hrun, hp10⟩ := tail X' pr .ready none hp9 (fun o ho => by rw [show o = .loop rec from ho, hself]) (by decide)
      exact ⟨none, w10, hrun, pushD F w.heap.size, _, hfin w10, hp10, hdone _ X' hd⟩
    · obtain ⟨w10, hrun, hp10⟩ := tail X' (pd c) .done (some c) hp9 (fun o ho => ho) (by decide)
      refine ⟨some c, w10, hrun, ?_⟩
      rcases hstop w.heap.size c X' hs with ⟨rfl, hq⟩ | ⟨id, rfl, hq⟩
      · exact wpIn_ret ⟨pushD F w.heap.size, _, hfin w10, hp10, hq⟩
      · exact wpIn_exit ⟨pushD F w.heap.size, _, hfin w10, hp10, hq⟩
def bodyM (P : Program) (n : Nat) (w0 : World) (rs : List ResultVar) (R : Value → List Res → Prop) : Exit → Fm → List Res → Prop
  | .normal, F, L => ∃ (Ds : List Nat) (vs : List Value) (L1 L' : List Res), marksV (F none) = Ds.map (fun D => { target := .collected D, args := #[] }) ∧ Ent w0 L (Ds.map Res.mark ++ L1) ∧ allRes P n F L1 rs vs ∧ Ent w0 L1 L' ∧ R (packV vs) L'
  | .ret, F, L => ∃ (Ds : List Nat) (vs : List Value) (L1 L' : List Res), marksV (F none) = Ds.map (fun D => { target := .collected D, args := #[] }) ∧ Ent w0 L (Ds.map Res.mark ++ L1) ∧ allRes P n F L1 rs vs ∧ Ent w0 L1 L' ∧ R (packV vs) L'
  | _, _, _ => False
theorem take_mark {w : World} {D : Nat} {L : List Res} (h : Hp w0.heap.size w0 w (.mark D :: L)) : (Instr.takeDeferred D).run P w = .ok [] (w.putObj D (.deferred none)) ∧ Hp w0.heap.size w0 (w.putObj D (.deferred none)) L := by
  have hok : w0.heap.size ≤ D ∧ w.heap[D]? = some (.deferred (some [])) := h.ok _ List.mem_cons_self
  have hlt := (Array.getElem?_eq_some_iff.1 hok.2).1
  refine ⟨run_takeDeferred hok.2, ?_⟩
  have := h.turn (i := 0) rfl (w' := w.putObj D (.deferred none)) (r' := .obj D (fun _ => True)) (grownBy_putObj' w D _) ⟨hok.1, _, World.putObj_heap_same hlt, trivial⟩ (fun k hk => .inl hk)
  exact this.drop1
theorem SatL.ofM {f : FuncId} {fn : Func} {c : Code} {args : List Value} {R : Value → List Res → Prop} (N : Nat) (rs : List ResultVar) (hf : P.funcs[f]? = some fn) (hN : fn.ntmps = N) (hnm : (fn.name == "runtime.NumGoroutine") = false) (hb : fn.body = some c)
    (hres : fn.results = rs.toArray) (hlen : Nat.ble args.length N = true) (h : OK P N w0 (bodyM P N w0 rs R) c (argF args) L) : SatL P f args w0 L R := by
  refine ⟨⟨fn, c, hf, hnm, hb⟩, fun w hp => ?_⟩
  refine (callsIn_wide (n := 0)).1 (callsIn_of_wp_marks hf hb trivial ((wpIn_wide (n := 0)).2 ?_))
  subst hN
  have hlen' : args.length ≤ fn.ntmps := by rwa [Nat.ble_eq] at hlen
  have hfr : Fr fn.ntmps { tmps := args.toArray ++ Array.replicate (fn.ntmps - args.toArray.size) undef, defers := [] } (argF args) := by
    refine ⟨rfl, by simp;omega, fun t ht => ?_⟩
    simp only [Array.getD_eq_getD_getElem?, argF, List.getD_eq_getElem?_getD]
    by_cases h : t < args.length
    · rw [Array.getElem?_append_left (by simpa using h)]
      simp
    · rw [Array.getElem?_append_right (by simpa using Nat.le_of_not_lt h), List.getElem?_eq_none (by omega)]
      simp only [List.size_toArray, Array.getElem?_replicate]
      split <;> rfl
  have key : ∀ (a' : Act) (w' : World) (F' : Fm) (L' : List Res) (vs : List Value), Fr fn.ntmps a' F' → Hp w0.heap.size w0 w' L' → allRes P fn.ntmps F' L' rs vs → (results fn a'.tmps).run P w' = .ok (packV vs) w' := by
    intro a' w' F' L' vs h1 h2 h3
    unfold results
    rw [hres, List.mapM_toArray]
    simp only [Sem.run_bind, Sem.run_map]
    rw [mapM_run (n := fn.ntmps) (F := F') (L := L') ?_ rs vs h3]
    · rcases vs with _ | ⟨v, _ | ⟨v2, vs⟩⟩ <;> simp [packV, Result.andThen]
    · intro r v h
      cases r with
      | tmp t =>
        have he : a'.tmps.getD t undef = v := (congrFun h1.eval (.tmp t)).trans h
        simp only [Sem.run_pure, he]
      | cell t tt =>
        obtain ⟨g, i, e, cs, h2', h3', h4⟩ := h
        have he : a'.tmps.getD t undef = .pointer (some ⟨g, 0, none⟩) := (congrFun h1.eval (.tmp t)).trans h2'
        have h5 := h4 w' (h2.boxAt i h3').1
        simp only [Sem.run_bind, Sem.run_pure, Result.andThen, he, asAddr, h5]
  have fin : ∀ (a' : Act) (F' : Fm) (vs : List Value) (L1 L' : List Res), Fr fn.ntmps a' F' → allRes P fn.ntmps F' L1 rs vs → Ent w0 L1 L' → R (packV vs) L' → ∀ (Ds : List Nat) (w' : World), Hp w0.heap.size w0 w' (Ds.map Res.mark ++ L1) →
      LeavesInM Fence.wide 0 P fn a'.tmps (fun e w' => ∃ v L', e = .returned v ∧ Hp w0.heap.size w0 w' L' ∧ R v L') (Ds.map (fun D => { target := .collected D, args := #[] })) .returning w' := by
    intro a' F' vs L1 L' h1 h3 he hR Ds
    induction Ds with
    | nil =>
      intro w' hp'
      exact ⟨_, key _ _ _ _ _ h1 hp' h3, _, L', rfl, he.use _ hp', hR⟩
    | cons D Ds ih =>
      intro w' hp'
      obtain ⟨h4, h5⟩ := take_mark (P := P) hp'
      exact ⟨by simp, .inl ⟨D, _, rfl, h4, ih _ h5⟩⟩
  refine wp_mono (h.use w _ hfr hp) ?_
  rintro e a' w' ⟨F', L2, h1, h2, h3⟩
  unfold bodyM at h3
  cases e with
  | normal =>
    obtain ⟨Ds, vs, L1, L', hm, he, hall, he2, hR⟩ := h3
    show LeavesInM _ _ _ _ _ _ _ _ _
    rw [h1.defers, hm]
    exact fin a' F' vs L1 L' h1 hall he2 hR Ds w' (he.use _ h2)
  | ret =>
    obtain ⟨Ds, vs, L1, L', hm, he, hall, he2, hR⟩ := h3
    show LeavesInM _ _ _ _ _ _ _ _ _
    rw [h1.defers, hm]
    exact fin a' F' vs L1 L' h1 hall he2 hR Ds w' (he.use _ h2)
  | _ => exact h3.elim
end
attribute [irreducible] bodyM
end Go.Proofs.YtdigdmnnjbndlaaGreatDoor
namespace Go.Proofs.YtdigdmnnjbndlaaGreatDoor
open Go.RowKit
set_option maxRecDepth 100000 in
set_option maxHeartbeats 4000000 in
theorem lns_sat (t : ByteArray) (w : World) : Sat Tryz.prog 57 [.string t] w (fun u L => ∃ gl, u = .func (.func 98) #[] #[.pointer (some ⟨gl, 0, none⟩)] ∧ L = [.box 9 gl [.string t]]) := by
  refine SatL.of 4 [2] Tryz.func57 (by kernel_rfl) (by kernel_rfl) rfl rfl rfl rfl ?_
  repeat' (first|(apply OK_seq)|(apply thenQ_n)|(apply OK_region)|(apply OKx_nilK)|(apply OK_block)|(apply blockQ_n)|(apply blockQ_s)|(apply thenQ_e)|(apply blockQ_e;exact rfl)|(apply thenQ_r)|(apply blockQ_r)|(apply OK_condT;exact rfl)|(apply OK_condF;exact rfl)|(apply OK_skip)|(apply OK_exit)|(apply OK_ret)|(apply OKx_assign;(conv=>lhs;whnf)<;>exact rfl)|(apply OKx_box1;(conv=>lhs;whnf)<;>exact rfl;exact rfl;intro _)|(apply OKx_func;exact rfl;exact rfl))
  rename_i gl
  refine bodyQ_r1 (by ((conv=>lhs;whnf)<;>exact rfl)) ?_
  exact ⟨_, Ent.refl _ _, gl, rfl, rfl⟩
def ItL (Br : List Res) (Bd : Code → List Res) (P : List Res → Prop) (JE : Code → List Res → Prop) (_ : Value) (L : List Res) : Prop := (∃ J', P J' ∧ L = J' ++ Br) ∨ (∃ c J', JE c J' ∧ L = J' ++ Bd c)
def wvOk (wv : Value) (ws : List ByteArray) : Prop := (ws = [] ∧ wv = .slice none 0 0) ∨ ∃ g, wv = .slice (some ⟨g, 0, none⟩) ws.length ws.length
def zL (gl : Nat) (cur : List UInt8) : Res := .box 9 gl [.string (bOf cur)]
def YldL (gl : Nat) (cur : List UInt8) (Br : List Res) (Bd : Code → List Res) (JP : List (List ByteArray) → List Res → Prop) (JE : Code → List Res → Prop) (pre : List (List ByteArray)) (ws : List ByteArray) (u : Value) (L : List Res) : Prop :=
  (u = .bool true ∧ ∃ J', JP (pre ++ [ws]) J' ∧ L = (zL gl cur :: J') ++ Br) ∨ (u = .bool false ∧ ∃ c J', JE c J' ∧ L = (zL gl cur :: J') ++ Bd c)
set_option maxRecDepth 100000 in
set_option maxHeartbeats 4000000 in
theorem linI_sat (y gl : Nat) (t : List UInt8) (w0 : World) (J Br : List Res) (Bd : Code → List Res) (JP : List (List ByteArray) → List Res → Prop) (JE : Code → List Res → Prop)
    (hm : MxL w0) (ht : t.length ≤ 65536) (hJ : JP [] J)
    (hy : ∀ cur wv ws pre J, wvOk wv ws → JP pre J → (pre ++ [ws]) <+: linW t → SatY Tryz.prog y [wv] w0 ((rW wv ws :: zL gl cur :: J) ++ Br) (YldL gl cur Br Bd JP JE pre ws)) :
    SatL Tryz.prog 98 [.func (.yield y) #[] #[], .pointer (some ⟨gl, 0, none⟩)] w0 (zL gl t :: (J ++ Br)) (ItL Br Bd (JP (linW t)) JE) := by
  generalize hR : ItL Br Bd (JP (linW t)) JE = R
  refine SatL.of 23 [] Tryz.func98 (by kernel_rfl) (by kernel_rfl) rfl rfl rfl rfl ?_
  repeat' (first|(apply OK_seq)|(apply thenQ_n)|(apply OK_region)|(apply OKx_nilK)|(apply OK_block)|(apply blockQ_n)|(apply blockQ_s)|(apply thenQ_e)|(apply blockQ_e;exact rfl)|(apply thenQ_r)|(apply blockQ_r)|(apply OK_condT;exact rfl)|(apply OK_condF;exact rfl)|(apply OK_skip)|(apply OK_exit)|(apply OK_ret)|(apply OKx_move;(conv=>lhs;whnf)<;>exact rfl)|(apply OKx_assign;(conv=>lhs;whnf)<;>exact rfl)|(apply OKx_ldB;exact rfl;(first | exact at0|exact at1|exact at2|exact at3|exact at4|exact at5|exact at6|exact at7);exact rfl)|(apply OKx_ldR;(conv=>lhs;whnf)<;>exact rfl;(with_reducible assumption))|(apply OKx_sneq;exact rfl;exact rfl; all_goals intro _)|(apply OKx_notT;exact rfl)|(apply OKx_notF;exact rfl)|(apply OKx_extract;exact rfl;(conv=>lhs;whnf)<;>exact rfl)|(apply OKx_stB;exact rfl;(conv=>lhs;whnf)<;>exact rfl;exact rfl;exact rfl;(first | exact at0|exact at1|exact at2|exact at3|exact at4|exact at5|exact at6|exact at7);exact rfl;exact rfl;exact rfl))
  refine OK_loop1 22 [3, 4, 5, 6, 7, 8, 9, 10, 11, 12, 13, 14, 15, 16, 17, 18, 19, 20, 21, 22] (fun m v L => ∃ (cur : List UInt8) (pre : List (List ByteArray)) (J' : List Res), cur.length = m ∧ m ≤ 65536 ∧ pre ++ linW cur = linW t ∧ JP pre J' ∧ L = zL gl cur :: (J' ++ Br)) t.length _ (Ent.refl _ _) ⟨t, [], J, rfl, ht, rfl, hJ, rfl⟩ ?_
  rintro m v L G ⟨cur, pre, J', hm', hle, hpre, hJ', rfl⟩
  unfold zL
  by_cases hc : cur = []
  · subst hc
    rw [linW_nil, List.append_nil] at hpre
    subst hpre
    have e0 : bOf [] = ByteArray.empty := rfl
    rw [e0]
    repeat' (first|(apply OK_seq)|(apply thenQ_n)|(apply OK_region)|(apply OKx_gn; apply OKx_sneq;exact rfl;exact rfl; all_goals (intro hs; first | exact absurd rfl hs | skip))|(apply OKx_nilK)|(apply OK_block)|(apply blockQ_n)|(apply blockQ_s)|(apply thenQ_e)|(apply blockQ_e;exact rfl)|(apply thenQ_r)|(apply blockQ_r)|(apply OK_condT;exact rfl)|(apply OK_condF;exact rfl)|(apply OK_skip)|(apply OK_exit)|(apply OK_ret)|(apply OKx_move;(conv=>lhs;whnf)<;>exact rfl)|(apply OKx_assign;(conv=>lhs;whnf)<;>exact rfl)|(apply OKx_ldB;exact rfl;(first | exact at0|exact at1|exact at2|exact at3|exact at4|exact at5|exact at6|exact at7);exact rfl)|(apply OKx_ldR;(conv=>lhs;whnf)<;>exact rfl;(with_reducible assumption))|(apply OKx_sneq;exact rfl;exact rfl; all_goals intro _)|(apply OKx_notT;exact rfl)|(apply OKx_notF;exact rfl)|(apply OKx_extract;exact rfl;(conv=>lhs;whnf)<;>exact rfl)|(apply OKx_stB;exact rfl;(conv=>lhs;whnf)<;>exact rfl;exact rfl;exact rfl;(first | exact at0|exact at1|exact at2|exact at3|exact at4|exact at5|exact at6|exact at7);exact rfl;exact rfl;exact rfl))
    first | refine bodyQ_r0 ?_ | refine bodyQ_n0 ?_
    subst hR
    exact ⟨_, Ent.sub (List.sublist_cons_self _ _), .inl ⟨J', hJ', rfl⟩⟩
  have hpos : 0 < cur.length := List.length_pos_iff.2 hc
  have hne : bOf cur ≠ ByteArray.empty := fun e => hc (by have := congrArg (fun s : ByteArray => s.data.toList) e; exact this)
  have hsz : (bOf cur).size ≤ 4000000000 := by rw [bOf_size];omega
  have hcut := fun w1 (hb : Below w0.heap.size w0 w1) => cut_sat (bOf cur) 10 w1 (hm.below hb) hsz
  rw [data_bOf] at hcut
  rcases cut1 cur 10 with ⟨hno, e⟩ | ⟨a, b, rfl, hno, e⟩
  · rw [e] at hcut
    rw [linW_miss cur hno hc] at hpre
    repeat' (first|(refine OK_regionY (id := 5) 0 [_, _] [_] rfl rfl ?_)|(apply OK_seq)|(apply thenQ_n)|(apply OK_region)|(apply OKx_gn; apply OKx_sneq;exact rfl;exact rfl; all_goals (intro hs; first | exact absurd hs hne | skip))|(apply OKx_gc 99;exact rfl; refine OKx_callV (f := 99) rfl rfl rfl (fun w1 hp => hcut w1 hp.below) ?_)|(apply OKx_nilK)|(apply OK_block)|(apply blockQ_n)|(apply blockQ_s)|(apply thenQ_e)|(apply blockQ_e;exact rfl)|(apply thenQ_r)|(apply blockQ_r)|(apply OK_condT;exact rfl)|(apply OK_condF;exact rfl)|(apply OK_skip)|(apply OK_exit)|(apply OK_ret)|(apply OKx_move;(conv=>lhs;whnf)<;>exact rfl)|(apply OKx_assign;(conv=>lhs;whnf)<;>exact rfl)|(apply OKx_ldB;exact rfl;(first | exact at0|exact at1|exact at2|exact at3|exact at4|exact at5|exact at6|exact at7);exact rfl)|(apply OKx_ldR;(conv=>lhs;whnf)<;>exact rfl;(with_reducible assumption))|(apply OKx_sneq;exact rfl;exact rfl; all_goals intro _)|(apply OKx_notT;exact rfl)|(apply OKx_notF;exact rfl)|(apply OKx_extract;exact rfl;(conv=>lhs;whnf)<;>exact rfl)|(apply OKx_stB;exact rfl;(conv=>lhs;whnf)<;>exact rfl;exact rfl;exact rfl;(first | exact at0|exact at1|exact at2|exact at3|exact at4|exact at5|exact at6|exact at7);exact rfl;exact rfl;exact rfl))
    have hyy := hy cur (.slice none 0 0) [] pre J' (.inl ⟨rfl, rfl⟩) hJ' ⟨[], by rw [List.append_nil]; exact hpre⟩
    refine ⟨y, [.slice none 0 0], _, (by ((conv=>lhs;whnf)<;>exact rfl)), (by ((conv=>lhs;whnf)<;>exact rfl)), fun w hp => hyy w (by have := hp.nil 9 1; exact this), ?_⟩
    rintro _ _ (⟨rfl, J2, hJ2, rfl⟩ | ⟨rfl, cc, J2, hJ2, rfl⟩)
    · rw [List.cons_append]
      unfold zL
      repeat' (first|(apply OK_seq)|(apply thenQ_n)|(apply OK_region)|(apply OKx_nilK)|(apply OK_block)|(apply blockQ_n)|(apply blockQ_s)|(apply thenQ_e)|(apply blockQ_e;exact rfl)|(apply thenQ_r)|(apply blockQ_r)|(apply OK_condT;exact rfl)|(apply OK_condF;exact rfl)|(apply OK_skip)|(apply OK_exit)|(apply OK_ret)|(apply OKx_move;(conv=>lhs;whnf)<;>exact rfl)|(apply OKx_assign;(conv=>lhs;whnf)<;>exact rfl)|(apply OKx_ldB;exact rfl;(first | exact at0|exact at1|exact at2|exact at3|exact at4|exact at5|exact at6|exact at7);exact rfl)|(apply OKx_ldR;(conv=>lhs;whnf)<;>exact rfl;(with_reducible assumption))|(apply OKx_sneq;exact rfl;exact rfl; all_goals intro _)|(apply OKx_notT;exact rfl)|(apply OKx_notF;exact rfl)|(apply OKx_extract;exact rfl;(conv=>lhs;whnf)<;>exact rfl)|(apply OKx_stB;exact rfl;(conv=>lhs;whnf)<;>exact rfl;exact rfl;exact rfl;(first | exact at0|exact at1|exact at2|exact at3|exact at4|exact at5|exact at6|exact at7);exact rfl;exact rfl;exact rfl))
      refine ⟨by (repeat' (first | refine agree_upd rfl ?_ | exact agree_over | exact agree_refl _ _ | refine agree_over2 rfl ?_)), 0, _, by omega, Ent.refl _ _, ?_⟩
      exact ⟨[], linW t, J2, rfl, by omega, by rw [linW_nil, List.append_nil], by rw [← hpre]; exact hJ2, rfl⟩
    · rw [List.cons_append]
      unfold zL
      repeat' (first|(apply OK_seq)|(apply thenQ_n)|(apply OK_region)|(apply OKx_nilK)|(apply OK_block)|(apply blockQ_n)|(apply blockQ_s)|(apply thenQ_e)|(apply blockQ_e;exact rfl)|(apply thenQ_r)|(apply blockQ_r)|(apply OK_condT;exact rfl)|(apply OK_condF;exact rfl)|(apply OK_skip)|(apply OK_exit)|(apply OK_ret)|(apply OKx_move;(conv=>lhs;whnf)<;>exact rfl)|(apply OKx_assign;(conv=>lhs;whnf)<;>exact rfl)|(apply OKx_ldB;exact rfl;(first | exact at0|exact at1|exact at2|exact at3|exact at4|exact at5|exact at6|exact at7);exact rfl)|(apply OKx_ldR;(conv=>lhs;whnf)<;>exact rfl;(with_reducible assumption))|(apply OKx_sneq;exact rfl;exact rfl; all_goals intro _)|(apply OKx_notT;exact rfl)|(apply OKx_notF;exact rfl)|(apply OKx_extract;exact rfl;(conv=>lhs;whnf)<;>exact rfl)|(apply OKx_stB;exact rfl;(conv=>lhs;whnf)<;>exact rfl;exact rfl;exact rfl;(first | exact at0|exact at1|exact at2|exact at3|exact at4|exact at5|exact at6|exact at7);exact rfl;exact rfl;exact rfl))
      first | refine bodyQ_r0 ?_ | refine bodyQ_n0 ?_
      subst hR
      exact ⟨_, Ent.sub (List.sublist_cons_self _ _), .inr ⟨cc, J2, hJ2, rfl⟩⟩
  · rw [e] at hcut
    rw [linW_hit a b hno] at hpre
    rw [List.length_append, List.length_cons] at hm'
    have hspl := fun w1 (hb : Below w0.heap.size w0 w1) => split_sat (bOf a) w1 (hm.below hb) (by rw [bOf_size];omega)
    rw [data_bOf] at hspl
    repeat' (first|(refine OK_regionY (id := 5) 0 [_, _] [_] rfl rfl ?_)|(apply OK_seq)|(apply thenQ_n)|(apply OK_region)|(apply OKx_gn; apply OKx_sneq;exact rfl;exact rfl; all_goals (intro hs; first | exact absurd hs hne | skip))|(apply OKx_gc 99;exact rfl; refine OKx_callV (f := 99) rfl rfl rfl (fun w1 hp => hcut w1 hp.below) ?_)|(apply OKx_gc 100;exact rfl; refine OKx_call (f := 100) rfl rfl (fun w1 hp => hspl w1 hp.below) ?_; rintro _ _ ⟨gw, rfl, rfl⟩; rw [List.cons_append, List.nil_append])|(apply OKx_nilK)|(apply OK_block)|(apply blockQ_n)|(apply blockQ_s)|(apply thenQ_e)|(apply blockQ_e;exact rfl)|(apply thenQ_r)|(apply blockQ_r)|(apply OK_condT;exact rfl)|(apply OK_condF;exact rfl)|(apply OK_skip)|(apply OK_exit)|(apply OK_ret)|(apply OKx_move;(conv=>lhs;whnf)<;>exact rfl)|(apply OKx_assign;(conv=>lhs;whnf)<;>exact rfl)|(apply OKx_ldB;exact rfl;(first | exact at0|exact at1|exact at2|exact at3|exact at4|exact at5|exact at6|exact at7);exact rfl)|(apply OKx_ldR;(conv=>lhs;whnf)<;>exact rfl;(with_reducible assumption))|(apply OKx_sneq;exact rfl;exact rfl; all_goals intro _)|(apply OKx_notT;exact rfl)|(apply OKx_notF;exact rfl)|(apply OKx_extract;exact rfl;(conv=>lhs;whnf)<;>exact rfl)|(apply OKx_stB;exact rfl;(conv=>lhs;whnf)<;>exact rfl;exact rfl;exact rfl;(first | exact at0|exact at1|exact at2|exact at3|exact at4|exact at5|exact at6|exact at7);exact rfl;exact rfl;exact rfl))
    have hyy := hy (a ++ 10 :: b) (.slice (some ⟨gw, 0, none⟩) (wrd a).length (wrd a).length) (wrd a) pre J' (.inr ⟨gw, rfl⟩) hJ' ⟨linW b, by rw [List.append_assoc]; exact hpre⟩
    refine ⟨y, [.slice (some ⟨gw, 0, none⟩) (wrd a).length (wrd a).length], _, (by ((conv=>lhs;whnf)<;>exact rfl)), (by ((conv=>lhs;whnf)<;>exact rfl)), fun w hp => hyy w hp, ?_⟩
    rintro _ _ (⟨rfl, J2, hJ2, rfl⟩ | ⟨rfl, cc, J2, hJ2, rfl⟩)
    · rw [List.cons_append]
      unfold zL
      repeat' (first|(apply OK_seq)|(apply thenQ_n)|(apply OK_region)|(apply OKx_nilK)|(apply OK_block)|(apply blockQ_n)|(apply blockQ_s)|(apply thenQ_e)|(apply blockQ_e;exact rfl)|(apply thenQ_r)|(apply blockQ_r)|(apply OK_condT;exact rfl)|(apply OK_condF;exact rfl)|(apply OK_skip)|(apply OK_exit)|(apply OK_ret)|(apply OKx_move;(conv=>lhs;whnf)<;>exact rfl)|(apply OKx_assign;(conv=>lhs;whnf)<;>exact rfl)|(apply OKx_ldB;exact rfl;(first | exact at0|exact at1|exact at2|exact at3|exact at4|exact at5|exact at6|exact at7);exact rfl)|(apply OKx_ldR;(conv=>lhs;whnf)<;>exact rfl;(with_reducible assumption))|(apply OKx_sneq;exact rfl;exact rfl; all_goals intro _)|(apply OKx_notT;exact rfl)|(apply OKx_notF;exact rfl)|(apply OKx_extract;exact rfl;(conv=>lhs;whnf)<;>exact rfl)|(apply OKx_stB;exact rfl;(conv=>lhs;whnf)<;>exact rfl;exact rfl;exact rfl;(first | exact at0|exact at1|exact at2|exact at3|exact at4|exact at5|exact at6|exact at7);exact rfl;exact rfl;exact rfl))
      refine ⟨by (repeat' (first | refine agree_upd rfl ?_ | exact agree_over | exact agree_refl _ _ | refine agree_over2 rfl ?_)), b.length, _, by omega, Ent.refl _ _, ?_⟩
      exact ⟨b, pre ++ [wrd a], J2, rfl, by omega, by rw [List.append_assoc]; exact hpre, hJ2, rfl⟩
    · rw [List.cons_append]
      unfold zL
      repeat' (first|(apply OK_seq)|(apply thenQ_n)|(apply OK_region)|(apply OKx_nilK)|(apply OK_block)|(apply blockQ_n)|(apply blockQ_s)|(apply thenQ_e)|(apply blockQ_e;exact rfl)|(apply thenQ_r)|(apply blockQ_r)|(apply OK_condT;exact rfl)|(apply OK_condF;exact rfl)|(apply OK_skip)|(apply OK_exit)|(apply OK_ret)|(apply OKx_move;(conv=>lhs;whnf)<;>exact rfl)|(apply OKx_assign;(conv=>lhs;whnf)<;>exact rfl)|(apply OKx_ldB;exact rfl;(first | exact at0|exact at1|exact at2|exact at3|exact at4|exact at5|exact at6|exact at7);exact rfl)|(apply OKx_ldR;(conv=>lhs;whnf)<;>exact rfl;(with_reducible assumption))|(apply OKx_sneq;exact rfl;exact rfl; all_goals intro _)|(apply OKx_notT;exact rfl)|(apply OKx_notF;exact rfl)|(apply OKx_extract;exact rfl;(conv=>lhs;whnf)<;>exact rfl)|(apply OKx_stB;exact rfl;(conv=>lhs;whnf)<;>exact rfl;exact rfl;exact rfl;(first | exact at0|exact at1|exact at2|exact at3|exact at4|exact at5|exact at6|exact at7);exact rfl;exact rfl;exact rfl))
      first | refine bodyQ_r0 ?_ | refine bodyQ_n0 ?_
      subst hR
      exact ⟨_, Ent.sub (List.sublist_cons_self _ _), .inr ⟨cc, J2, hJ2, rfl⟩⟩
end Go.Proofs.YtdigdmnnjbndlaaGreatDoor
namespace Go.Proofs.YtdigdmnnjbndlaaGreatDoor
open Go.RowKit
theorem arr_get (xs : List Int) (j : Nat) (h : j < xs.length) : xs.toArray[j]! = xs[j] := by simp [h]
theorem compact_mem (xs : List Int) (x : Int) : x ∈ Lib.compact xs ↔ x ∈ xs := by
  unfold Lib.compact Lib.compactUpTo
  simp only [List.mem_map, List.mem_filter, List.mem_range]
  constructor
  · rintro ⟨j, ⟨h1, _⟩, rfl⟩
    rw [arr_get xs j h1]
    exact List.getElem_mem h1
  · intro hx
    obtain ⟨j, hj, rfl⟩ := List.getElem_of_mem hx
    clear hx
    induction j with
    | zero => exact ⟨0, ⟨hj, by simp [Lib.keeps]⟩, arr_get xs 0 hj⟩
    | succ j ih =>
      by_cases he : xs[j + 1] = xs[j]
      · rw [he]; exact ih (by omega)
      · refine ⟨j + 1, ⟨hj, ?_⟩, arr_get xs _ hj⟩
        apply Lib.keeps_pos
        rw [arr_get xs _ hj, Nat.add_sub_cancel, arr_get xs j (by omega)]
        exact he
theorem compact_asc (xs : List Int) (h : xs.Pairwise (· ≤ ·)) : (Lib.compact xs).Pairwise (· < ·) := by
  unfold Lib.compact Lib.compactUpTo
  rw [List.pairwise_map]
  refine (List.Pairwise.filter (Lib.keeps xs.toArray) List.pairwise_lt_range).imp_of_mem ?_
  intro i j hi hj hij
  simp only [List.mem_filter, List.mem_range] at hi hj
  have hk : xs.toArray[j]! ≠ xs.toArray[j - 1]! := by
    have := hj.2
    simp only [Lib.keeps, decide_eq_true_eq] at this
    rcases this with h0 | h0
    · omega
    · exact h0
  rw [arr_get xs j hj.1, arr_get xs (j - 1) (by omega)] at hk
  rw [arr_get xs i hi.1, arr_get xs j hj.1]
  have hp := List.pairwise_iff_getElem.1 h
  have h1 := hp (j - 1) j (by omega) hj.1 (by omega)
  rcases Nat.lt_or_ge i (j - 1) with h2 | h2
  · have := hp i (j - 1) hi.1 (by omega) h2
    omega
  · have : i = j - 1 := by omega
    subst this
    omega
theorem compact_len (xs : List Int) : (Lib.compact xs).length ≤ xs.length := by
  unfold Lib.compact Lib.compactUpTo
  rw [List.length_map]
  exact Nat.le_trans (List.length_filter_le _ _) (by simp)
set_option maxRecDepth 100000 in
set_option maxHeartbeats 4000000 in
theorem compact_int_sat (g cap n : Nat) (xs : List Int) (w0 : World) (L : List Res) (i : Nat) (hxn : xs.length = n) (hi : L[i]? = some (.row 3 1 (.slice (some ⟨g, 0, none⟩) n cap) n (ints xs))) (hx : n ≤ 1000000) :
    SatL Tryz.prog 97 [.slice (some ⟨g, 0, none⟩) n cap] w0 L (fun u L' => ∃ k, k = (Lib.compact xs).length ∧ u = .slice (some ⟨g, 0, none⟩) k cap ∧ L' = L.set i (.row 3 1 (.slice (some ⟨g, 0, none⟩) k cap) k (ints (Lib.compact xs)))) := by
  subst hxn
  refine ⟨⟨_, _, Tryz.func97, by kernel_rfl, rfl⟩, fun w hp => ?_⟩
  have ho : w.ownsRow w0.heap.size 3 1 (.slice (some ⟨g, 0, none⟩) xs.length cap) xs.length (ints xs) := hp.ok _ (List.mem_of_getElem? hi)
  have hlt := (ho.lt g rfl).2
  rcases ho.2 with ⟨h0, _⟩ | ⟨g', cap', cur, hv, hg, hb, hn, hcap, hsz, htake⟩
  · cases h0
  cases hv
  rw [Nat.mul_one] at htake
  have hcl := compact_len xs
  let ts := Lib.compact xs ++ List.replicate (xs.length - (Lib.compact xs).length) 0
  have htl : ts.length = xs.length := by simp [ts];omega
  refine (Tryz.slices_Compact_int g 0 cap xs w (Go.holds_of_blockI hb htake) (by omega) hn).mono ?_
  rintro e w' ⟨rfl, q, rfl⟩
  have e0 : ∀ W : World, Go.Sort.grow W #[] = W := fun W => Go.Sort.grow_empty W
  rw [← e0 (Go.Sort.putRow _ _ _ _ _)]
  have h1 : Hp w0.heap.size w0 (Go.Sort.grow (Go.Sort.putRow (Value.int .i64) (Go.Sort.ahead w q) g 0 ts.toArray) #[]) (L.set i (.row 3 1 (.slice (some ⟨g, 0, none⟩) xs.length cap) xs.length (ints ts))) :=
    hp.turn hi (r' := .row 3 1 (.slice (some ⟨g, 0, none⟩) xs.length cap) xs.length (ints ts)) (Go.grownBy_sortedI _) (Go.ownsRow_sortedI (w := w) (n := q) (os := #[]) (ts := ts) htl hg hb hn hcap hsz) (fun k hk => .inl hk)
  have hil : i < L.length := (List.getElem?_eq_some_iff.1 hi).1
  have hi2 : (L.set i (.row 3 1 (.slice (some ⟨g, 0, none⟩) xs.length cap) xs.length (ints ts)))[i]? = some (.row 3 1 (.slice (some ⟨g, 0, none⟩) xs.length cap) xs.length (ints ts)) := by
    rw [List.getElem?_set, if_pos rfl, if_pos hil]
  have h2 := h1.cut i hi2 (Lib.compact xs).length hcl
  rw [List.set_set] at h2
  have h3 : (ints ts).take ((Lib.compact xs).length * 1) = ints (Lib.compact xs) := by
    rw [Nat.mul_one]
    simp [ts, ints]
  rw [h3] at h2
  exact ⟨_, _, rfl, h2, _, rfl, rfl, rfl⟩
end Go.Proofs.YtdigdmnnjbndlaaGreatDoor
namespace Go.Proofs.YtdigdmnnjbndlaaGreatDoor
open Go.RowKit
theorem Ent.pickT {w0 : World} (A X : List Res) (is : List Nat) (hn : nodupB is = true) : Ent w0 (A ++ X) (pickL A is ++ X) := Ent.mk fun w hp => by
  induction is with
  | nil => exact hp.sub (List.sublist_append_right A X)
  | cons i is ih =>
    have hm : memN i is = false := by
      cases hb : memN i is with
      | false => rfl
      | true => simp [nodupB, hb] at hn
    have ih := ih (by simpa [nodupB, hm] using hn)
    unfold pickL at ih ⊢
    rw [List.filterMap_cons]
    cases hi : A[i]? with
    | none => exact ih
    | some r =>
      have hil := (List.getElem?_eq_some_iff.1 hi).1
      have hi' : (A ++ X)[i]? = some r := by rw [List.getElem?_append_left hil]; exact hi
      refine ih.cons (hp.ok r (List.mem_of_getElem? hi')) fun s hs => ?_
      rcases List.mem_append.1 hs with hs | hs
      · obtain ⟨j, hj, hjs⟩ := List.mem_filterMap.1 hs
        have hjl := (List.getElem?_eq_some_iff.1 hjs).1
        have hij : i ≠ j := by
          rintro rfl
          have := (memN_iff i is).2 hj
          rw [hm] at this; cases this
        exact hp.apart hij hi' (j := j) (by rw [List.getElem?_append_left hjl]; exact hjs)
      · obtain ⟨j, hj, rfl⟩ := List.getElem_of_mem hs
        exact hp.apart (i := i) (j := A.length + j) (by omega) hi' (by rw [List.getElem?_append_right (by omega)]; simp [hj])
def capsA (g1 gy go gf gv : Nat) : List Value := [.pointer (some ⟨g1, 0, none⟩), .pointer (some ⟨gy, 0, none⟩), .pointer (some ⟨go, 0, none⟩), .pointer (some ⟨gf, 0, none⟩), .pointer (some ⟨gv, 0, none⟩)]
def zA (y m g c g1 gy go gf gv : Nat) (sv ov : Value) (vs : List Int) : List Res :=
  [.box 22 g1 [sv], .box 113 gy [.func (.yield y) #[] #[]], .box 22 go [ov], .box 110 gf [.func (.func 129) #[] (capsA g1 gy go gf gv).toArray], .box 22 gv [.slice (some ⟨g, 0, none⟩) m c],
    .row 3 1 (.slice (some ⟨g, 0, none⟩) m c) m (ints vs)]
end Go.Proofs.YtdigdmnnjbndlaaGreatDoor
namespace Go.Proofs.YtdigdmnnjbndlaaGreatDoor
open Go.RowKit
def maskS (n : Nat) (S : List Nat) : Array Bool := ((List.range n).map fun i => memN i S).toArray
section
variable {P : Program} {n : Nat} {w0 : World} {Q : Exit → Fm → List Res → Prop} {K : Fm → List Res → Prop} {F : Fm} {L : List Res} {l : List Oper} {N f : Nat} {S : List Nat}
def OKa (P : Program) (n : Nat) (w0 : World) (K : Fm → List Res → Prop) (l : List Oper) (N f : Nat) (S : List Nat) (F : Fm) (L : List Res) : Prop :=
  ∀ w a, Fr n a F → Hp w0.heap.size w0 w L → wpAny P .any l.toArray (liftN n w0 K) f (maskS N S) a w
theorem OKa.use (h : OKa P n w0 K l N f S F L) : ∀ w a, Fr n a F → Hp w0.heap.size w0 w L → wpAny P .any l.toArray (liftN n w0 K) f (maskS N S) a w := h
theorem OKa_end (hr : (Region.ready .any l.toArray (maskS N S)).isEmpty = true) (h : K F L) : OKa P n w0 K l N 0 S F L :=
  fun w a hf hp => ⟨List.isEmpty_iff.1 hr, rfl, F, L, hf, hp, h⟩
def kidOk (l : List Oper) (N : Nat) (S : List Nat) (i : Nat) (S' : List Nat) : Bool := (maskS N S').toList == ((maskS N S).setIfInBounds i true).toList
theorem kidOk_eq {i : Nat} {S' : List Nat} (h : kidOk l N S i S' = true) : maskS N S' = (maskS N S).setIfInBounds i true := by
  unfold kidOk at h
  exact Array.toList_inj.1 (beq_iff_eq.1 h)
end
attribute [irreducible] OKa
end Go.Proofs.YtdigdmnnjbndlaaGreatDoor
namespace Go.Proofs.YtdigdmnnjbndlaaGreatDoor
open Go.RowKit
theorem SatY.mono {P : Program} {l : Nat} {args : List Value} {w0 : World} {L : List Res} {R R' : Value → List Res → Prop} (h : SatY P l args w0 L R) (hr : ∀ v L, R v L → R' v L) : SatY P l args w0 L R' :=
  fun w hp => let ⟨fn, t, as2, b, h1, h2⟩ := h w hp; ⟨fn, t, as2, b, h1, h2.mono fun e w' ⟨v, L', a, b, c⟩ => ⟨v, L', a, b, hr _ _ c⟩⟩
structure Gh where
  (y m g c gy go gf gv : Nat)
  (ov : Value)
  (o : List Int)
  (pre : List (List Int))
  (J : List Res)
def Gh.Z (x : Gh) (g1 : Nat) (sv : Value) (vs : List Int) : List Res := zA x.y x.m x.g x.c g1 x.gy x.go x.gf x.gv sv x.ov vs
end Go.Proofs.YtdigdmnnjbndlaaGreatDoor
namespace Go.Proofs.YtdigdmnnjbndlaaGreatDoor
theorem getD_mem {α : Type} (l : List α) (i : Nat) (d : α) (h : i < l.length) : l.getD i d ∈ l := by
  rw [getD_lt _ _ _ h]
  exact List.getElem_mem h
end Go.Proofs.YtdigdmnnjbndlaaGreatDoor
namespace Go.Proofs.YtdigdmnnjbndlaaGreatDoor
open Go.RowKit
theorem SatL.post {P : Program} {f : FuncId} {args : List Value} {w0 : World} {L : List Res} {R R' : Value → List Res → Prop} (h : SatL P f args w0 L R) (hr : ∀ v L', R v L' → ∃ L'', Ent w0 L' L'' ∧ R' v L'') : SatL P f args w0 L R' :=
  ⟨h.enters, fun w hp => (h.calls w hp).mono fun e w' ⟨v, L', h1, h2, h3⟩ => by
    obtain ⟨L'', e', h4⟩ := hr v L' h3
    exact ⟨v, L'', h1, e'.use _ h2, h4⟩⟩
end Go.Proofs.YtdigdmnnjbndlaaGreatDoor
namespace Go.Proofs.YtdigdmnnjbndlaaGreatDoor
open Go.RowKit
theorem getD_snoc {α : Type} (l : List α) (a d : α) (j : Nat) : (l ++ [a]).getD j d = if j < l.length then l.getD j d else if j = l.length then a else d := by
  by_cases h : j < l.length
  · rw [if_pos h]; simp [List.getD_eq_getElem?_getD, List.getElem?_append_left h]
  · rw [if_neg h]
    by_cases h2 : j = l.length
    · subst h2; simp
    · rw [if_neg h2, getD_ge _ _ _ (by simp;omega)]
end Go.Proofs.YtdigdmnnjbndlaaGreatDoor
