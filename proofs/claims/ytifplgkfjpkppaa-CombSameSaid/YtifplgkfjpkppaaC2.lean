/-
  A part of a proof: the lemmas that the last text joins. No conditions.
-/
import Derived.Scope
import Derived.Test.YtifplgkfjpkppaaC1
set_option linter.unusedSimpArgs false
set_option linter.unusedVariables false
namespace Go.Sx
section
variable {P : Program} {E : Env}

theorem exec_sound (EO : EnvOK P E) {call draws : Handler} (HC : HandlerOK P call) (HD : DrawsOK P E draws) {fuel : Nat} {ann : Nat → Option Ann} {lo : Nat} {g0 : G} {w0 : World} {N : Nat} (hlo : ∀ n, g0.A n → n < lo) :
    ∀ (c : Code) (here : Nat) {K : X → St → Prop} {st : St} {g : G} {a : Act} {w : World}, codeOK N c = true → Rel g0 w0 N st g a w → exec E call draws fuel ann lo here c st K → c.wp P (CPost g0 w0 N K) a w := by
  intro c
  induction c with
  | skip => intro here K st g a w _ R h; exact wp_skip ⟨.normal, st, g, rfl, h, R⟩
  | ret => intro here K st g a w _ R h; exact wp_ret ⟨.ret, st, g, rfl, h, R⟩
  | exit id => intro here K st g a w _ R h; exact wp_exit ⟨.exit id, st, g, rfl, h, R⟩
  | label l => intro here K st g a w _ R h; exact wp_label ⟨.normal, st, g, rfl, h, R⟩
  | region id ops d =>
    intro here K st g a w hc R h
    have hdst : ∀ o ∈ ops.toList, dstOK N o = true := fun o ho => List.all_eq_true.1 hc o ho
    cases d with
    | true =>
      refine wp_mono (HD id ops g0 g w0 w N st a _ hdst R h) ?_
      rintro e a' w' ⟨x, st', g', hx, hK, R'⟩
      cases x with
      | normal => exact ⟨.normal, st', g', hx, hK, R'⟩
      | exit i => exact hK.elim
      | ret => exact hK.elim
    | false =>
      refine wp_region ?_
      have := runOps_sound (Q := CPost g0 w0 N K) EO HC hdst ops.toList 0 (by simp) R h (fun a' w' hp => by
        obtain ⟨st', g', hK, R'⟩ := hp
        exact ⟨.normal, st', g', rfl, hK, R'⟩)
      rw [List.range_eq_range']
      simpa using this
  | seq x y ihx ihy =>
    intro here K st g a w hc R h
    simp only [codeOK, Bool.and_eq_true] at hc
    refine wp_seq (wp_mono (ihx here hc.1 R h) ?_)
    rintro e a' w' ⟨x1, st', g', hx, hK, R'⟩
    cases e <;> simp only [toX] at hx <;> try (cases hx; done)
    · cases hx; exact ihy here hc.2 R' hK
    · cases hx; exact ⟨_, st', g', rfl, hK, R'⟩
    · cases hx; exact ⟨_, st', g', rfl, hK, R'⟩
  | cond c x y ihx ihy =>
    intro here K st g a w hc R h
    simp only [codeOK, Bool.and_eq_true] at hc
    unfold exec at h
    split at h
    · rename_i t ht
      have hv := ev_den R.tmps c
      rw [ht] at hv
      have hv := den_bool hv
      cases t
      · exact wp_cond_false hv (ihy here hc.2 R h)
      · exact wp_cond_true hv (ihx here hc.1 R h)
    · exact h.elim
  | scope c ih =>
    intro here K st g a w hc R h
    refine wp_scope_straight (wp_mono (ih here hc R h) ?_)
    rintro e a' w' ⟨x1, st', g', hx, hK, R'⟩
    cases e <;> simp only [toX] at hx <;> try (cases hx; done)
    · cases hx; exact ⟨.normal, st', g', rfl, hK, R'⟩
    · cases hx; exact ⟨_, st', g', rfl, hK, R'⟩
    · cases hx; exact ⟨_, st', g', rfl, hK, R'⟩
  | block id c ih =>
    intro here K st g a w hc R h
    unfold exec at h
    split at h
    · refine wp_block (wp_mono (ih id hc R h) ?_)
      rintro e a' w' ⟨x1, st', g', hx, hK, R'⟩
      cases e <;> simp only [toX] at hx <;> try (cases hx; done)
      · cases hx; exact ⟨.normal, st', g', rfl, hK, R'⟩
      · rename_i id'
        cases hx
        simp only [Exit.inBlock]
        simp only at hK
        by_cases e : id' = id
        · subst e
          rw [if_pos rfl]
          simp at hK
          exact ⟨.normal, st', g', rfl, hK, R'⟩
        · rw [if_neg e]
          have : Nat.beq id' id = false := by
            cases hb : Nat.beq id' id
            · rfl
            · exact absurd (Nat.eq_of_beq_eq_true hb) e
          rw [this] at hK
          exact ⟨.exit id', st', g', rfl, hK, R'⟩
      · cases hx; exact ⟨.ret, st', g', rfl, hK, R'⟩
    · rename_i A hA
      obtain ⟨h, hnext⟩ := h
      have go : ∀ {s : St} {g' : G} {a' : Act} {w' : World}, Rel g0 w0 N s g' a' w' → (∃ y, A.pre st y ∧ Fits lo s (A.shape st y)) → CPost g0 w0 N K .normal a' w' := by
        rintro s g' a' w' R' ⟨y, hp, hf⟩
        obtain ⟨g2, R2⟩ := Fits.sound hlo R' hf
        exact ⟨.normal, _, g2, rfl, hnext y hp, R2⟩
      refine wp_block (wp_mono (ih id hc R h) ?_)
      rintro e a' w' ⟨x1, st', g', hx, hK, R'⟩
      cases e <;> simp only [toX] at hx <;> try (cases hx; done)
      · cases hx; exact go R' hK
      · rename_i id'
        cases hx
        simp only [Exit.inBlock]
        simp only at hK
        by_cases e : id' = id
        · subst e
          rw [if_pos rfl]
          simp only [Nat.beq_refl, cond_true] at hK
          exact go R' hK
        · rw [if_neg e]
          have : Nat.beq id' id = false := by
            cases hb : Nat.beq id' id
            · rfl
            · exact absurd (Nat.eq_of_beq_eq_true hb) e
          rw [this] at hK
          exact ⟨.exit id', st', g', rfl, hK, R'⟩
      · cases hx; exact ⟨.ret, st', g', rfl, hK, R'⟩
  | loop c ih =>
    intro here K st g a w hc R h
    unfold exec at h
    split at h
    · -- unrolled
      refine wp_loop_ghost (fun n a w => ∃ st g, Rel g0 w0 N st g a w ∧ loopN n (exec E call draws fuel ann lo here c) st K) ?_ (n₀ := fuel) ⟨st, g, R, h⟩
      rintro n a w ⟨st, g, R, h⟩
      cases n with
      | zero => exact h.elim
      | succ n =>
        refine wp_mono (ih here hc R h) ?_
        rintro e a' w' ⟨x1, st', g', hx, hK, R'⟩
        cases e <;> simp only [toX] at hx <;> try (cases hx; done)
        · cases hx; exact ⟨n, Nat.lt_succ_self n, st', g', R', hK⟩
        · cases hx; exact ⟨_, st', g', rfl, hK, R'⟩
        · cases hx; exact ⟨_, st', g', rfl, hK, R'⟩
    · -- by what holds at its head
      rename_i A hA
      obtain ⟨⟨x0, hp0, hf0⟩, hround⟩ := h
      obtain ⟨g1, R1⟩ := Fits.sound hlo R hf0
      refine wp_loop_ghost (fun n a w => ∃ x g, A.pre st x ∧ A.μ x = n ∧ Rel g0 w0 N (A.shape st x) g a w) ?_ (n₀ := A.μ x0) ⟨x0, g1, hp0, rfl, R1⟩
      rintro n a w ⟨x, g, hp, rfl, R⟩
      refine wp_mono (ih here hc R (hround x hp)) ?_
      rintro e a' w' ⟨x1, st', g', hx, hK, R'⟩
      cases e <;> simp only [toX] at hx <;> try (cases hx; done)
      · cases hx
        obtain ⟨x', hp', hf', hlt⟩ := hK
        obtain ⟨g2, R2⟩ := Fits.sound hlo R' hf'
        exact ⟨A.μ x', hlt, x', g2, hp', rfl, R2⟩
      · cases hx; exact ⟨_, st', g', rfl, hK, R'⟩
      · cases hx; exact ⟨_, st', g', rfl, hK, R'⟩
  | _ => intro here K st g a w _ R h; exact h.elim

def resOf (tmps : Array Value) : ResultVar → Sem Value
  | .tmp t => pure (tmps.getD t undef)
  | .cell x t => do loadVar t (← asAddr (tmps.getD x undef))

theorem resultsV_sound (EO : EnvOK P E) {g : G} {w : World} (HO : HeapOK g) (hw : w.heap = g.hp) {st : St} (hH : g.H = st.heap) {a : Act} (ht : ∀ t, Den g (getT st.tmps t) (a.tmps.getD t undef)) :
    ∀ (r : List ResultVar) {K : List V → Prop}, resultsV E st r K → ∃ Us vs, K Us ∧ (r.mapM (resOf a.tmps)).run P w = .ok vs w ∧ DensL g Us vs
  | [], K, h => ⟨[], [], h, rfl, rfl, fun i h => by simp at h⟩
  | .tmp t :: r, K, h => by
    obtain ⟨Us, vs, hK, hr, hd⟩ := resultsV_sound EO HO hw hH ht r h
    refine ⟨_, _ :: vs, hK, ?_, DensL.cons (ht t) hd⟩
    rw [List.mapM_cons, run_bind]
    show (match Sem.run P (pure (a.tmps.getD t undef)) w with | _ => _) = _
    rw [run_pure]; simp only []
    rw [run_bind, hr]; rfl
  | .cell x t :: r, K, h => by
    unfold resultsV at h
    split at h
    · rename_i p hp
      split at h
      · rename_i d hd
        obtain ⟨U, y, ad, hx, hK, hrun, hden⟩ := loadV_sound (EO t d hd) HO hw (ht x) (by rw [hH]; exact hp) h
        obtain ⟨Us, vs, hK, hr, hd⟩ := resultsV_sound EO HO hw hH ht r hK
        refine ⟨_, y :: vs, hK, ?_, DensL.cons hden hd⟩
        have h1 : (resOf a.tmps (.cell x t)).run P w = .ok y w := by
          unfold resOf; simp only []
          rw [run_bind, hx]; exact hrun
        rw [List.mapM_cons, run_bind, h1]; simp only []
        rw [run_bind, hr]; rfl
      · exact h.elim
    · exact h.elim

theorem mapM_arr {α β : Type} (f : α → Sem β) (x : Array α) : x.mapM f = List.toArray <$> x.toList.mapM f := by rw [Array.mapM_eq_mapM_toList]

theorem results_run (EO : EnvOK P E) {g : G} {w : World} (HO : HeapOK g) (hw : w.heap = g.hp) {st : St} (hH : g.H = st.heap) {a : Act} (ht : ∀ t, Den g (getT st.tmps t) (a.tmps.getD t undef)) {fn : Func} {K : List V → Prop} (h : resultsV E st fn.results.toList K) :
    ∃ Us y, K Us ∧ (results fn a.tmps).run P w = .ok y w ∧ Den g (oneOrTup Us) y := by
  obtain ⟨Us, vs, hK, hr, hd⟩ := resultsV_sound EO HO hw hH ht fn.results.toList h
  refine ⟨Us, (if h : vs.toArray.size = 1 then vs.toArray[0] else .tuple vs.toArray), hK, ?_, ?_⟩
  · show (do let vs ← fn.results.mapM (resOf a.tmps); pure (if h : vs.size = 1 then vs[0] else .tuple vs) : Sem Value).run P w = _
    rw [run_bind, mapM_arr, map_eq_pure_bind, run_bind, hr]
    rfl
  · match Us, vs, hd with
    | [], [], _ => exact .tup [] [] rfl (fun i h => by simp at h)
    | [U], [v], hd => exact hd.uncons.1
    | U :: U' :: r, v :: v' :: s, hd =>
      rw [dif_neg (by simp)]
      exact .tup _ _ hd.1 hd.2
    | [], _ :: _, hd => have := hd.1; simp at this
    | _ :: _, [], hd => have := hd.1; simp at this
    | [_], _ :: _ :: _, hd => have := hd.1; simp at this
    | _ :: _ :: _, [_], hd => have := hd.1; simp at this

/-- What is looked at of a function, once, by the kernel. -/
def fnOK (fn : Func) (nargs : Nat) : Bool := (match fn.body with | some c => codeOK fn.ntmps c | none => false) && !(fn.name == "runtime.NumGoroutine") && Nat.ble nargs fn.ntmps

theorem getT_zip : ∀ (l : List V) (k t : Nat), getT (zipT k l) t = if k ≤ t then (match l[t - k]? with | some v => v | none => .any) else .any
  | [], k, t => by simp [zipT, getT, lk]
  | v :: r, k, t => by
    simp only [zipT, getT_cons]
    by_cases e : t = k
    · subst e; simp
    · rw [if_neg e, getT_zip r (k + 1) t]
      by_cases h : k ≤ t
      · have : t - k = (t - (k + 1)) + 1 := by omega
        rw [if_pos h, if_pos (by omega), this]; simp
      · rw [if_neg h, if_neg (by omega)]

theorem runFn_sound (EO : EnvOK P E) {call draws : Handler} (HC : HandlerOK P call) (HD : DrawsOK P E draws) {fuel : Nat} {ann : Nat → Option Ann} {f : Nat} {fn : Func} (hf : P.funcs[f]? = some fn) {args : List V} {vals : List Value} (hok : fnOK fn args.length = true)
    {g : G} {w : World} {nm : Nat} {K : CallK} (HO : HeapOK g) (hw : w.heap = g.hp) (hn : ∀ n, g.A n → n < nm) (hd : DensL g args vals) (h : runFn E call draws fuel ann fn args g.H nm K) :
    Goes P f vals.toArray w (Returned g w K) := by
  simp only [fnOK, Bool.and_eq_true, Bool.not_eq_true'] at hok
  obtain ⟨⟨hc, hname⟩, hna⟩ := hok
  have hna := ble_le hna
  unfold runFn at h
  split at h
  · rename_i c hb
    rw [hb] at hc
    refine .inl ⟨⟨fn, hf, by rw [hb]; rfl, hname⟩, ?_⟩
    have hlen : args.length = vals.length := hd.1
    have R : Rel g w fn.ntmps ⟨zipT 0 args, g.H, nm⟩ g { tmps := vals.toArray ++ Array.replicate (fn.ntmps - vals.toArray.size) undef, defers := [] } w :=
      { H := rfl, ok := HO, heap := hw, names := hn, le := .refl g, keeps := .refl _ _, defers := rfl
        size := by simp; omega
        tmps := fun t => by
          show Den g (getT (zipT 0 args) t) _
          rw [getT_zip, if_pos (Nat.zero_le _), Nat.sub_zero]
          cases ht : args[t]? with
          | none => exact Den.mkAny _
          | some v =>
            obtain ⟨hlt, rfl⟩ := List.getElem?_eq_some_iff.1 ht
            have hlt' : t < vals.length := hlen ▸ hlt
            have : (vals.toArray ++ Array.replicate (fn.ntmps - vals.toArray.size) undef).getD t undef = vals[t] := by
              simp [Array.getD_eq_getD_getElem?, Array.getElem?_append_left, hlt']
            rw [this]; exact hd.2 t hlt hlt' }
    refine calls_of_wp hf hb (wp_mono (exec_sound EO HC HD hn c 0 hc R h) ?_)
    rintro e a' w' ⟨x1, st', g', hx, hK, R'⟩
    have fin : resultsV E st' fn.results.toList (fun l => K (oneOrTup l) st'.heap st'.next) → a'.defers = [] ∧ ∃ v, (results fn a'.tmps).run P w' = .ok v w' ∧ Returned g w K (.returned v) w' := by
      intro h
      obtain ⟨Us, y, hK, hr, hden⟩ := results_run EO R'.ok R'.heap R'.H R'.tmps h
      refine ⟨R'.defers, y, hr, oneOrTup Us, g', st'.next, y, ?_, rfl, hden, R'.le, R'.ok, R'.heap, R'.keeps, R'.names⟩
      rw [R'.H]; exact hK
    cases e <;> simp only [toX] at hx <;> try (cases hx; done)
    · cases hx; exact fin hK
    · cases hx; exact hK.elim
    · cases hx; exact fin hK
  · exact h.elim
end
end Go.Sx

namespace Go.Sx
section
variable {P : Program} {E : Env}

/-- What is new since the call began. -/
def newOk (b0 : Nat) (hp : Array Obj) (b : Nat) : Prop := b < hp.size ∧ b0 ≤ b

inductive DenRes (hp : Array Obj) (ok : Nat → Prop) : V → Value → Prop
  | one (v : V) (x : Value) : DenR hp ok v x → DenRes hp ok v x
  | tup (l : List V) (vs : List Value) : l.length = vs.length → (∀ i (h : i < l.length) (h' : i < vs.length), DenR hp ok l[i] vs[i]) → DenRes hp ok (.tup l) (.tuple vs.toArray)

def OwnRes (b0 : Nat) (hp : Array Obj) (v : V) (x : Value) : Prop :=
  ∃ o b bs, v = .rs false o ∧ flatO o = true ∧ SlwOK b bs (lenO o) (strO o) x ∧ (0 < lenO o → b0 ≤ b ∧ ∃ c T, hp[b]? = some (.cells c T (0, 0)) ∧ c.size = bs ∧ ∀ i (hi : i < (flatL o).length), c[i]? = some (flatL o)[i])

def ResOK (S : Spec) (b0 : Nat) (hp : Array Obj) (v : V) (x : Value) : Prop :=
  match S.own with
  | false => DenRes hp (newOk b0 hp) v x
  | true => OwnRes b0 hp v x

def SpecOK (P : Program) (f : Nat) (S : Spec) : Prop :=
  ∀ (args : List V) (w : World) (vals : List Value), args.length = vals.length → (∀ i (h : i < args.length) (h' : i < vals.length), DenR w.heap (allOk w.heap) args[i] vals[i]) → S.shape args = true → (∀ r, S.req = some r → r args) →
    Goes P f vals.toArray w (fun e w' => ∃ y, e = .returned y ∧ Keeps w.heap.size w w' ∧ ResOK S w.heap.size w'.heap (S.res (S.val args)) y)

theorem keeps_le {g : G} (HO : HeapOK g) {w w' : World} (hw : w.heap = g.hp) (hk : Keeps w.heap.size w w') (nm : Nat) :
    g.le { g with A := fun n => g.A n ∨ n = nm, hp := w'.heap } ∧ HeapOK { g with A := fun n => g.A n ∨ n = nm, hp := w'.heap } := by
  have hle : g.le { g with A := fun n => g.A n ∨ n = nm, hp := w'.heap } :=
    { A := fun n h => .inl h
      base := rfl
      fixed := fun n hA e' he hg => ⟨e', he, hg, rfl⟩
      grow := fun n hA e' he hg hv => ⟨e', he, hg, rfl, rfl, rfl, rfl, rfl⟩
      ok := fun b hb ho => ⟨by show b < w'.heap.size; have := hk.size; rw [hw] at this; omega, ho, by show w'.heap[b]? = _; rw [hk.block b (by rw [hw]; exact hb), hw]⟩ }
  refine ⟨hle, ?_⟩
  exact
  { basele := by show g.base ≤ w'.heap.size; have := hk.size; have := HO.basele; rw [hw] at *; omega
    names := fun n e he => ⟨.inl (HO.names n e he).1, fun h => .inl ((HO.names n e he).2 h)⟩
    objs := fun n e he hp => by
      obtain ⟨h1, c, T, h2, h3, h4⟩ := HO.objs n e he hp
      refine ⟨h1, c, T, ?_, h3, h4.mono hle⟩
      show w'.heap[g.ρ n]? = _
      rw [hk.block _ (by rw [hw]; exact HO.lt he hp), hw]; exact h2
    inj := HO.inj }

theorem fresh1_den {g : G} {v : V} {x : Value} (h : DenR g.hp (g.ok g.base) v x) : Den g (fresh1 v) x := by
  have base : Den g v x := .ro _ _ (h.mono fun b hb => okMono (Nat.zero_le _) b hb)
  cases h <;> first
    | exact base
    | exact .freshS _ _ (by constructor <;> assumption)
    | exact .freshP _ _ _ _ (by constructor <;> assumption)

theorem freshV_den {g : G} {ok : Nat → Prop} (hok : ∀ b, ok b → g.ok g.base b) {v : V} {x : Value} (h : DenRes g.hp ok v x) : Den g (freshV v) x := by
  cases h with
  | one _ _ h =>
    have h' := h.mono (hp' := g.hp) (ok' := g.ok g.base) (fun b hb => ⟨hok b hb, rfl⟩)
    have := fresh1_den h'
    cases h <;> exact this
  | tup l vs h1 h2 =>
    refine .tup _ vs (by simpa using h1) fun i h h' => ?_
    have := fresh1_den ((h2 i (by simpa using h) h').mono (hp' := g.hp) (ok' := g.ok g.base) (fun b hb => ⟨hok b hb, rfl⟩))
    simpa using this

/-- A slice that a call has made, taken in. -/
theorem own_in {g : G} (HO : HeapOK g) {w w' : World} (hw : w.heap = g.hp) (hk : Keeps w.heap.size w w') {nm : Nat} (hn : ¬ g.A nm) {o : V} {y : Value} {b bs : Nat} (hf : flatO o = true) (hS : SlwOK b bs (lenO o) (strO o) y)
    (hob : 0 < lenO o → w.heap.size ≤ b ∧ ∃ c T, w'.heap[b]? = some (.cells c T (0, 0)) ∧ c.size = bs ∧ ∀ i (hi : i < (flatL o).length), c[i]? = some (flatL o)[i]) :
    ∃ g', g'.H = (nm, ⟨true, nm, o⟩) :: g.H ∧ Den g' (.slw nm nm) y ∧ g.le g' ∧ HeapOK g' ∧ w'.heap = g'.hp ∧ ∀ n, g'.A n → g.A n ∨ n = nm := by
  let g' : G := { A := fun n => g.A n ∨ n = nm, H := (nm, ⟨true, nm, o⟩) :: g.H, ρ := fun n => if n = nm then b else g.ρ n, bs := fun n => if n = nm then bs else g.bs n, base := g.base, hp := w'.heap }
  have hsz := hk.size
  rw [hw] at hsz
  have hblock : ∀ k, k < g.hp.size → w'.heap[k]? = g.hp[k]? := fun k h => by rw [hk.block k (by rw [hw]; exact h), hw]
  have hle : g.le g' :=
    { A := fun n h => .inl h
      base := rfl
      fixed := fun n hA e' he hg => by
        have hne : n ≠ nm := fun h => hn (h ▸ hA)
        simp only [g', lk_cons, hne, if_false] at he
        exact ⟨e', he, hg, by simp [g', hne]⟩
      grow := fun n hA e' he hg hv => by
        have hne : n ≠ nm := fun h => hn (h ▸ hA)
        simp only [g', lk_cons, hne, if_false] at he
        exact ⟨e', he, hg, rfl, by simp [g', hne], by simp [g', hne], rfl, rfl⟩
      ok := fun k hk' ho => by
        refine ⟨by show k < w'.heap.size; omega, ?_, hblock k hk'⟩
        rintro ⟨n, e', he, hp, hr⟩
        by_cases hne : n = nm
        · subst hne
          have : e' = ⟨true, n, o⟩ := by simpa [g', lk_cons] using he.symm
          subst this
          have := (hob (present_len hp rfl)).1
          simp [g'] at hr
          rw [hw] at this; omega
        · simp only [g', lk_cons, hne, if_false] at he hr
          exact ho ⟨n, e', he, hp, hr⟩ }
  refine ⟨g', rfl, ?_, hle, ?_, rfl, fun n h => h⟩
  · have hone : y.one = true := by obtain ⟨ao, cap, rfl, _⟩ := hS; rfl
    refine .slw nm nm y hone (.inr rfl) (.inr rfl) fun e' he' _ _ => ?_
    have : e' = ⟨true, nm, o⟩ := by simpa [g', lk_cons] using he'.symm
    subst this
    simpa [g'] using hS
  · exact
    { basele := by show g.base ≤ w'.heap.size; have := HO.basele; omega
      names := fun n e he => by
        by_cases hne : n = nm
        · subst hne
          have : e = ⟨true, n, o⟩ := by simpa [g', lk_cons] using he.symm
          subst this
          exact ⟨.inr rfl, fun _ => .inr rfl⟩
        · simp only [g', lk_cons, hne, if_false] at he
          exact ⟨.inl (HO.names n e he).1, fun h => .inl ((HO.names n e he).2 h)⟩
      objs := fun n e he hp => by
        by_cases hne : n = nm
        · subst hne
          have : e = ⟨true, n, o⟩ := by simpa [g', lk_cons] using he.symm
          subst this
          obtain ⟨h1, c, T, h2, h3, h4⟩ := hob (present_len hp rfl)
          refine ⟨by simp [g']; have := HO.basele; rw [hw] at h1; omega, c, T, by simpa [g'] using h2, by simpa [g'] using h3, (objD_cont hf).2 ((flat_iff hf).2 h4)⟩
        · simp only [g', lk_cons, hne, if_false] at he
          obtain ⟨h1, c, T, h2, h3, h4⟩ := HO.objs n e he hp
          refine ⟨by simpa [g', hne] using h1, c, T, ?_, by simpa [g', hne] using h3, h4.mono hle⟩
          simp only [g', hne, if_false]
          rw [hblock _ (HO.lt he hp)]; exact h2
      inj := fun n m e1 e2 h1 h2 p1 p2 hr => by
        by_cases hn1 : n = nm <;> by_cases hm1 : m = nm
        · exact hn1.trans hm1.symm
        · exfalso
          subst hn1
          have : e1 = ⟨true, n, o⟩ := by simpa [g', lk_cons] using h1.symm
          subst this
          simp only [g', lk_cons, hm1, if_false] at h2
          have := HO.lt h2 p2
          have hb := (hob (present_len p1 rfl)).1
          simp [g', hm1] at hr; rw [hw] at hb; omega
        · exfalso
          subst hm1
          have : e2 = ⟨true, m, o⟩ := by simpa [g', lk_cons] using h2.symm
          subst this
          simp only [g', lk_cons, hn1, if_false] at h1
          have := HO.lt h1 p1
          have hb := (hob (present_len p2 rfl)).1
          simp [g', hn1] at hr; rw [hw] at hb; omega
        · simp only [g', lk_cons, hn1, hm1, if_false] at h1 h2
          simp [g', hn1, hm1] at hr
          exact HO.inj n m e1 e2 h1 h2 p1 p2 hr }

theorem call0_ext {specs : List (Nat × Spec)} (hS : ∀ f S, lk f specs = some S → SpecOK P f S) {f : Nat} {args : List V} {g : G} {w : World} {nm : Nat} {K : CallK} {vals : List Value} (HO : HeapOK g) (hw : w.heap = g.hp) (hn : ¬ g.A nm) (hd : DensL g args vals) (h : call0 specs f args g.H nm K) :
    Goes P f vals.toArray w (fun e w' => ∃ U g' y, K U g'.H (nm + 1) ∧ e = .returned y ∧ Den g' U y ∧ Ext g g' w w' nm) := by
  unfold call0 at h
  split at h
  · rename_i S hf
    unfold specCall at h
    obtain ⟨hsh, h⟩ := guard_iff.1 h
    have hh : (∀ r, S.req = some r → r (args.map (roV g.H))) ∧ specRes S (S.val (args.map (roV g.H))) g.H nm K := by
      split at h
      · rename_i hr
        refine ⟨fun r hr' => (by rw [hr] at hr'; cases hr'), ?_⟩
        split at h
        · exact h
        · exact h _ rfl
      · rename_i r hr
        refine ⟨fun r' hr' => (by rw [hr] at hr'; cases hr'; exact h.1), ?_⟩
        have h := h.2
        split at h
        · exact h
        · exact h _ rfl
    obtain ⟨hreq, hres⟩ := hh
    have hargs : ∀ i (h : i < (args.map (roV g.H)).length) (h' : i < vals.length), DenR w.heap (allOk w.heap) (args.map (roV g.H))[i] vals[i] := by
      intro i h h'
      rw [hw]
      have := roV_sound HO (hd.2 i (by simpa using h) h')
      simpa using this
    have hcalls := hS f S hf (args.map (roV g.H)) w vals (by simpa using hd.1) hargs hsh hreq
    refine hcalls.mono ?_
    rintro e w' ⟨y, rfl, hkeeps, hR⟩
    unfold specRes at hres
    unfold ResOK at hR
    have hkeep : Keeps g.base w w' := ⟨hkeeps.os, hkeeps.tape, hkeeps.output, hkeeps.size, fun b hb => hkeeps.block b (by have := HO.basele; rw [hw]; omega)⟩
    cases ho : S.own <;> simp only [ho] at hres hR
    · obtain ⟨hle, hok⟩ := keeps_le HO hw hkeeps nm
      refine ⟨_, { g with A := fun n => g.A n ∨ n = nm, hp := w'.heap }, y, hres, rfl, freshV_den (g := { g with A := fun n => g.A n ∨ n = nm, hp := w'.heap }) ?_ hR, ⟨hle, hok, rfl, fun n h => h, hkeep⟩⟩
      rintro b ⟨h1, h2⟩
      refine ⟨h1, ?_, by show g.base ≤ b; have := HO.basele; rw [hw] at h2; omega⟩
      rintro ⟨n, e, he, hp, hr⟩
      have := HO.lt he hp
      simp only at hr
      rw [hw] at h2; omega
    · obtain ⟨o, b, bs, hv, hfl, hS, hob⟩ := hR
      rw [hv] at hres
      simp only at hres
      obtain ⟨g', hH, hden, hle, hok, hheap, hnames⟩ := own_in HO hw hkeeps hn hfl hS hob
      exact ⟨_, g', y, by rw [hH]; exact hres, rfl, hden, ⟨hle, hok, hheap, hnames, hkeep⟩⟩
  · exact h.elim

theorem call0_sound {specs : List (Nat × Spec)} (hS : ∀ f S, lk f specs = some S → SpecOK P f S) : HandlerOK P (call0 specs) := by
  intro f args g w nm K vals HO hw hn hd h
  refine (call0_ext hS HO hw (fresh_name hn) hd h).mono ?_
  rintro e w' ⟨U, g', y, hK, rfl, hU, hx⟩
  refine ⟨U, g', nm + 1, y, hK, rfl, hU, hx.le, hx.ok, hx.heap, hx.keeps, fun n h => ?_⟩
  rcases hx.names n h with h | h
  · exact Nat.lt_succ_of_lt (hn n h)
  · omega

theorem fnOK_of {fn : Func} {n : Nat} (h : fnOK fn 0 = true) (hn : Nat.ble n fn.ntmps = true) : fnOK fn n = true := by
  unfold fnOK at *; simp only [Bool.and_eq_true] at *; exact ⟨h.1, hn⟩

/-- Functions that are walked into. -/
def FnsOK (P : Program) (fns : List (Nat × (Func × (Nat → Option Ann)))) : Prop := ∀ f fn ann, lk f fns = some (fn, ann) → P.funcs[f]? = some fn ∧ fnOK fn 0 = true

theorem call1_sound (EO : EnvOK P E) {c draws : Handler} (HC : HandlerOK P c) (HD : DrawsOK P E draws) {fuel : Nat} {fns : List (Nat × (Func × (Nat → Option Ann)))}
    (hF : FnsOK P fns) : HandlerOK P (call1 E c draws fuel fns) := by
  intro f args g w nm K vals HO hw hn hd h
  unfold call1 at h
  split at h
  · rename_i fn ann hf
    obtain ⟨h1, h2⟩ := hF f fn ann hf
    obtain ⟨hl, h⟩ := guard_iff.1 h
    exact runFn_sound EO HC HD h1 (fnOK_of h2 hl) HO hw hn hd h
  · exact HC f args g w nm K vals HO hw hn hd h
end
end Go.Sx

namespace Go.Sx
section
variable {P : Program} {E : Env} {g : G} {w : World}

def ownV (h : Heap) (v : V) : V :=
  match v with
  | .slw n ver => match lk n h with
    | some ⟨true, ver', o⟩ => (bif Nat.beq ver ver' && flatO o then .rs false o else .any)
    | _ => .any
  | _ => .any

theorem toNew {b : Nat} (hb : g.ok (g.lo true) b) : newOk g.base g.hp b ∧ g.hp[b]? = g.hp[b]? := ⟨⟨hb.1, hb.2.2⟩, rfl⟩
theorem own_new (HO : HeapOK g) {n : Nat} {e : Ent} (he : lk n g.H = some e) (hp : e.present) : newOk g.base g.hp (g.ρ n) := ⟨HO.lt he hp, (HO.objs n e he hp).1⟩

theorem ret0_sound (HO : HeapOK g) {v : V} {x : Value} (hd : Den g v x) : DenR g.hp (newOk g.base g.hp) (ret0 g.H v) x := by
  have anyR : ∀ {x}, DenR g.hp (newOk g.base g.hp) .any x := .any _
  by_cases h1 : ∃ fr o, v = .rs fr o
  · obtain ⟨fr, o, rfl⟩ := h1
    cases fr
    · exact anyR
    · exact (den_rs hd).mono fun b hb => toNew hb
  · by_cases h2 : ∃ fr o i f, v = .rptr fr o i f
    · obtain ⟨fr, o, i, f, rfl⟩ := h2
      cases fr
      · exact anyR
      · exact (den_rptr hd).mono fun b hb => toNew hb
    · have : ret0 g.H v = ro0 g.H v := by
        cases v <;> first
          | rfl
          | exact absurd ⟨_, _, rfl⟩ h1
          | exact absurd ⟨_, _, _, _, rfl⟩ h2
      rw [this]
      exact ro0_gen HO (fun n e he hp => own_new HO he hp) hd (fun fr o e => absurd ⟨fr, o, e⟩ h1) (fun fr o i f e => absurd ⟨fr, o, i, f, e⟩ h2)

theorem agg_ret {l : List V} {c : Array Value} (HO : HeapOK g) (hob : ObjD g (.agg l) c) : ∃ vs : Nat → Value, (∀ i, i < (l.map (ret0 g.H)).length → c[i]? = some (vs i)) ∧ (∀ i, i < (l.map (ret0 g.H)).length → (vs i).one = true) ∧ ∀ i (h : i < (l.map (ret0 g.H)).length), DenR g.hp (newOk g.base g.hp) (l.map (ret0 g.H))[i] (vs i) := by
  have hx : ∀ i, ∃ x, ∀ (hi : i < l.length), c[i]? = some x ∧ x.one = true ∧ Den g l[i] x := fun i => by
    by_cases hi : i < l.length
    · obtain ⟨x, hx⟩ := hob i hi; exact ⟨x, fun _ => hx⟩
    · exact ⟨.nilFunc, fun h => absurd h hi⟩
  refine ⟨fun i => Classical.choose (hx i), fun i hi => ?_, fun i hi => ?_, fun i hi => ?_⟩
  · exact (Classical.choose_spec (hx i) (by simpa using hi)).1
  · exact (Classical.choose_spec (hx i) (by simpa using hi)).2.1
  · have := ret0_sound HO (Classical.choose_spec (hx i) (by simpa using hi)).2.2
    simpa using this

theorem ret1_sound (HO : HeapOK g) {v : V} {x : Value} (hd : Den g v x) : DenR g.hp (newOk g.base g.hp) (ret1 g.H v) x := by
  have anyR : ∀ {x}, DenR g.hp (newOk g.base g.hp) .any x := .any _
  cases v <;> simp only [ret1] <;> try exact ret0_sound HO hd
  · -- ptr
    rename_i n i f
    obtain ⟨rfl, _, hx⟩ := den_ptr hd
    split
    · rename_i ver l he
      rw [hx _ he rfl]
      obtain ⟨_, c, T, hc, _, hob⟩ := HO.objs n _ he (.inl rfl)
      obtain ⟨vs, h1, h2, h3⟩ := agg_ret HO hob
      have := DenR.rptr (hp := g.hp) (ok := newOk g.base g.hp) (.agg (l.map (ret0 g.H))) 0 f (g.ρ n) 0 (own_new HO he (.inl rfl)) (.agg _ _ _ c T _ vs hc (fun i hi => by rw [Nat.zero_add]; exact h1 i hi) h2 h3)
      simpa using this
    · rename_i ver k l he
      rw [hx _ he rfl]
      have := DenR.rptr (hp := g.hp) (ok := newOk g.base g.hp) (.ints k l) 0 f (g.ρ n) 0 (own_new HO he (.inl rfl)) (flat_objR HO he (.inl rfl) rfl)
      simpa using this
    · exact anyR
  · -- slw
    rename_i n ver
    split
    · rename_i ver' l he
      cases hb : Nat.beq ver ver'
      · exact anyR
      · obtain ⟨_, _, hx⟩ := den_slw hd
        obtain ⟨ao, cap, rfl, h0, h1⟩ := hx _ he rfl (Nat.eq_of_beq_eq_true hb).symm
        have e1 : lenO (.agg (l.map (ret0 g.H))) = lenO (.agg l) := by simp [lenO]
        simp only [cond_true]
        rcases Nat.eq_zero_or_pos (lenO (.agg l)) with hz | hz
        · simp only [hz]; exact .rs0 _ _ _ (e1.trans hz)
        · obtain ⟨rfl, hle, _⟩ := h1 hz
          obtain ⟨_, c, T, hc, _, hob⟩ := HO.objs n _ he (.inr hz)
          obtain ⟨vs, h1, h2, h3⟩ := agg_ret HO hob
          have := DenR.rs (hp := g.hp) (ok := newOk g.base g.hp) (.agg (l.map (ret0 g.H))) (g.ρ n) 0 cap (own_new HO he (.inr hz)) (.agg _ _ _ c T _ vs hc (fun i hi => by rw [Nat.zero_add]; exact h1 i hi) h2 h3) (by rw [e1]; exact hle)
          rw [e1] at this
          exact this
    · exact ro0_gen HO (fun n e he hp => own_new HO he hp) hd (fun fr o e => by cases e) (fun fr o i f e => by cases e)
  · rw [den_ints hd]; exact .ints _ _
  · obtain ⟨vs, rfl, h1, h2, h3⟩ := den_agg hd
    exact .agg _ _ (by simpa using h1) h2 (fun i h h' => by
      have := ret0_sound HO (h3 i (by simpa using h) h')
      simpa using this)

theorem retV_sound (HO : HeapOK g) {v : V} {x : Value} (hd : Den g v x) : DenRes g.hp (newOk g.base g.hp) (retV g.H v) x := by
  by_cases h : ∃ l, v = .tup l
  · obtain ⟨l, rfl⟩ := h
    cases hd with
    | ro _ _ h => cases h
    | tup _ vs h1 h2 =>
      exact .tup _ vs (by simpa using h1) fun i h h' => by
        have := ret1_sound HO (h2 i (by simpa using h) h')
        simpa using this
  · have : retV g.H v = ret1 g.H v := by cases v <;> first | rfl | exact absurd ⟨_, rfl⟩ h
    rw [this]
    exact .one _ _ (ret1_sound HO hd)

theorem ownV_sound (HO : HeapOK g) {v : V} {x : Value} (hd : Den g v x) {r : V} (hv : ownV g.H v = r) (hr : ∃ o, r = .rs false o) : OwnRes g.base g.hp r x := by
  obtain ⟨o, rfl⟩ := hr
  cases v <;> simp only [ownV] at hv <;> try (cases hv; done)
  rename_i n ver
  split at hv
  · rename_i ver' o' he
    cases hb : (Nat.beq ver ver' && flatO o') <;> rw [hb] at hv
    · simp at hv
    · simp only [cond_true, V.rs.injEq, true_and] at hv
      subst hv
      simp only [Bool.and_eq_true] at hb
      obtain ⟨_, _, hx⟩ := den_slw hd
      refine ⟨o', g.ρ n, g.bs n, rfl, hb.2, hx _ he rfl (Nat.eq_of_beq_eq_true hb.1).symm, fun hpos => ?_⟩
      obtain ⟨h1, c, T, h2, h3, h4⟩ := HO.objs n _ he (.inr hpos)
      exact ⟨h1, c, T, h2, h3, (flat_iff hb.2).1 ((objD_cont hb.2).1 h4)⟩
  · cases hv

/-- What a run has to show. -/
def meets (S : Spec) (args : List V) : CallK := fun v h _ =>
  match S.own with
  | false => retV h v = S.res (S.val args)
  | true => ownV h v = S.res (S.val args)

theorem specOK_of_run (EO : EnvOK P E) {call draws : Handler} (HC : HandlerOK P call) (HD : DrawsOK P E draws) {fuel : Nat} {ann : Nat → Option Ann} {f : Nat} {fn : Func} (hf : P.funcs[f]? = some fn) (S : Spec) (hok : fnOK fn 0 = true)
    (hlen : ∀ args, S.shape args = true → args.length ≤ fn.ntmps) (hown : S.own = true → ∀ y, ∃ o, S.res y = .rs false o)
    (H : ∀ args, S.shape args = true → (∀ r, S.req = some r → r args) → runFn E call draws fuel ann fn args [] 0 (meets S args)) : SpecOK P f S := by
  intro args w vals hlen' hargs hsh hreq
  let g : G := { A := fun _ => False, H := [], ρ := fun _ => 0, bs := fun _ => 0, base := w.heap.size, hp := w.heap }
  have HO : HeapOK g := ⟨Nat.le_refl _, fun n e h => by simp [g, lk] at h, fun n e h => by simp [g, lk] at h, fun n m e e' h => by simp [g, lk] at h⟩
  have hden : DensL g args vals := ⟨hlen', fun i h h' => .ro _ _ ((hargs i h h').mono fun b hb => ⟨⟨hb, fun ⟨n, e, he, _⟩ => by simp [g, lk] at he, Nat.zero_le _⟩, rfl⟩)⟩
  have hc := runFn_sound EO HC HD hf (fnOK_of hok (Nat.ble_eq_true_of_le (hlen _ hsh))) HO (w := w) rfl (fun n h => h.elim) hden (H args hsh hreq)
  refine hc.mono ?_
  rintro e w' ⟨U, g', n', y, hK, rfl, hd, hle, HO', hw', hkeeps, _⟩
  refine ⟨y, rfl, hkeeps, ?_⟩
  have hb : g'.base = w.heap.size := hle.base
  unfold meets at hK
  unfold ResOK
  cases ho : S.own <;> rw [ho] at hK <;> simp only at hK ⊢
  · rw [← hK, hw', ← hb]
    exact retV_sound HO' hd
  · rw [hw', ← hb]
    exact ownV_sound HO' hd hK (hown ho _)
end
end Go.Sx

namespace Go.Sx
section

/-- A reader of v sees the same. -/
def Agree (h h' : Heap) (v : V) : Prop := ∀ n ∈ footV h v, lk n h = lk n h'

theorem Agree.one {h h' : Heap} {v : V} (A : Agree h h' v) {n : Nat} (hn : n ∈ vn2 v) : lk n h = lk n h' :=
  A n (List.mem_flatMap.2 ⟨n, hn, List.mem_cons_self ..⟩)
theorem Agree.two {h h' : Heap} {v : V} (A : Agree h h' v) {n m : Nat} (hn : n ∈ vn2 v) {e : Ent} (he : lk n h = some e) (hm : m ∈ vnA e.o) : lk m h = lk m h' :=
  A m (List.mem_flatMap.2 ⟨n, hn, by rw [he]; exact List.mem_cons_of_mem _ hm⟩)

theorem ro0_congr {h h' : Heap} {v : V} (A : ∀ n ∈ vn1 v, lk n h = lk n h') : ro0 h' v = ro0 h v := by
  cases v <;> simp only [ro0] <;> rw [A _ (by simp [vn1])]

theorem map_ro0 {h h' : Heap} {l : List V} (A : ∀ n ∈ l.flatMap vn1, lk n h = lk n h') : l.map (ro0 h') = l.map (ro0 h) :=
  List.map_congr_left fun v hv => ro0_congr fun n hn => A n (List.mem_flatMap.2 ⟨v, hv, hn⟩)

theorem roV_congr {h h' : Heap} {v : V} (A : Agree h h' v) : roV h' v = roV h v := by
  cases v <;> simp only [roV] <;> try first | rfl | (exact ro0_congr fun n hn => A.one hn)
  · rename_i n i f
    rw [← A.one (n := n) (by simp [vn2, vnA, vn1])]
    split
    · rename_i ver l he
      rw [map_ro0 fun m hm => A.two (n := n) (by simp [vn2, vnA, vn1]) he hm]
    · rfl
    · rfl
  · rename_i n ver
    have hr : ro0 h' (.slw n ver) = ro0 h (.slw n ver) := ro0_congr fun n hn => A.one hn
    rw [← A.one (n := n) (by simp [vn2, vnA, vn1]), hr]
    split
    · rename_i ver' l he
      rw [map_ro0 fun m hm => A.two (n := n) (by simp [vn2, vnA, vn1]) he hm]
    · rfl
  · rename_i l
    rw [map_ro0 fun m hm => A.one (by simpa [vn2, vnA] using hm)]

theorem deref_congr {h h' : Heap} {v : V} (A : Agree h h' v) : deref h' v = deref h v := by
  cases v <;> simp only [deref] <;> rw [A.one (by simp [vn2, vnA, vn1])]

theorem seqV_congr {h h' : Heap} {v : V} (A : Agree h h' v) : seqV h' v = seqV h v := by
  cases v <;> simp only [seqV] <;> rw [roV_congr A]

theorem binI_par {op : BinOp} {k k' : IntKind} {a b : Int} {K : V → Prop} (h : binI op k a k' b K) : ∃ v, K v ∧ ∀ K' : V → Prop, K' v → binI op k a k' b K' := by
  cases op <;> simp only [binI] at h ⊢
  case quo => obtain ⟨g1, h⟩ := guard_iff.1 h; obtain ⟨g2, h⟩ := guard_iff.1 h; exact ⟨_, h, fun K' h' => guard_iff.2 ⟨g1, guard_iff.2 ⟨g2, h'⟩⟩⟩
  case rem => obtain ⟨g1, h⟩ := guard_iff.1 h; obtain ⟨g2, h⟩ := guard_iff.1 h; exact ⟨_, h, fun K' h' => guard_iff.2 ⟨g1, guard_iff.2 ⟨g2, h'⟩⟩⟩
  all_goals obtain ⟨g1, h⟩ := guard_iff.1 h; exact ⟨_, h, fun K' h' => guard_iff.2 ⟨g1, h'⟩⟩

theorem eqArr_par {td : Nat → Option TD} {t : Nat} {k k' : IntKind} {l m : List Int} {K : Bool → Prop} (h : eqArr td t k l k' m K) : ∃ b, K b ∧ ∀ K' : Bool → Prop, K' b → eqArr td t k l k' m K' := by
  unfold eqArr at h ⊢
  split at h
  · split at h
    · obtain ⟨g1, h⟩ := guard_iff.1 h; exact ⟨_, h, fun K' h' => guard_iff.2 ⟨g1, h'⟩⟩
    · exact h.elim
  · exact h.elim
theorem binV_par {td : Nat → Option TD} {op : BinOp} {t : Nat} {x y : V} {K : V → Prop} (h : binV td op t x y K) : ∃ v, K v ∧ ∀ K' : V → Prop, K' v → binV td op t x y K' := by
  unfold binV at h ⊢
  split at h
  · split at h
    · exact binI_par h
    · exact h.elim
  · split at h
    · split at h
      · obtain ⟨b, hb, k⟩ := eqArr_par h; exact ⟨_, hb, fun K' h' => k (fun b => K' (.bool b)) h'⟩
      · obtain ⟨b, hb, k⟩ := eqArr_par h; exact ⟨_, hb, fun K' h' => k (fun b => K' (.bool (!b))) h'⟩
      · exact h.elim
    · exact h.elim
  · split at h
    · split at h
      · split at h
        · exact ⟨_, h, fun K' h' => h'⟩
        · exact h.elim
      · split at h
        · exact ⟨_, h, fun K' h' => h'⟩
        · exact h.elim
      · exact h.elim
    · exact h.elim

theorem cellAt_par {o : V} {idx off : Nat} {K : V → Prop} (h : cellAt o idx off K) : ∃ v, K v ∧ ∀ K' : V → Prop, K' v → cellAt o idx off K' := by
  cases o <;> simp only [cellAt] at h ⊢ <;> try exact h.elim
  · obtain ⟨g1, h⟩ := guard_iff.1 h; exact ⟨_, h, fun K' h' => guard_iff.2 ⟨g1, h'⟩⟩
  · obtain ⟨g1, h⟩ := guard_iff.1 h
    split at h
    · exact ⟨_, h, fun K' h' => guard_iff.2 ⟨g1, h'⟩⟩
    · exact h.elim
  · obtain ⟨g1, h⟩ := guard_iff.1 h
    split at h
    · exact ⟨_, h, fun K' h' => guard_iff.2 ⟨g1, h'⟩⟩
    · exact h.elim

theorem partAt_par {o : V} {idx off n : Nat} {K : V → Prop} (h : partAt o idx off n K) : ∃ v, K v ∧ ∀ K' : V → Prop, K' v → partAt o idx off n K' := by
  cases o <;> simp only [partAt] at h ⊢ <;> (try exact h.elim) <;> (obtain ⟨g1, h⟩ := guard_iff.1 h; exact ⟨_, h, fun K' h' => guard_iff.2 ⟨g1, h'⟩⟩)

theorem loadV_par {d : TD} {c : V} {p : V × Nat × Nat} {K : V → Prop} (h : loadV d c p K) : ∃ v, K v ∧ ∀ K' : V → Prop, K' v → loadV d c p K' := by
  unfold loadV at h ⊢
  split at h
  · obtain ⟨v, hK, hp⟩ := partAt_par h; exact ⟨_, hK, fun K' h' => hp _ h'⟩
  · obtain ⟨v, hK, hp⟩ := cellAt_par h; exact ⟨_, hK, fun K' h' => hp _ h'⟩

theorem putAt_par {o : V} {idx off : Nat} {x : V} {K : V → Prop} (h : putAt o idx off x K) : ∃ v, K v ∧ ∀ K' : V → Prop, K' v → putAt o idx off x K' := by
  unfold putAt at h ⊢
  split at h <;> try exact h.elim
  all_goals (split at h <;> (try exact h.elim) <;> (obtain ⟨g1, h⟩ := guard_iff.1 h; exact ⟨_, h, fun K' h' => guard_iff.2 ⟨g1, h'⟩⟩))

theorem lenV_par {h : Heap} {v : V} {K : V → Prop} (H : lenV h v K) : ∃ u, K u ∧ ∀ h' (K' : V → Prop), Agree h h' v → K' u → lenV h' v K' := by
  cases v <;> simp only [lenV] at H ⊢ <;> try exact H.elim
  · exact ⟨_, H, fun h' K' A k => k⟩
  · exact ⟨_, H, fun h' K' A k => k⟩
  · split at H
    · rename_i he
      obtain ⟨g1, H⟩ := guard_iff.1 H
      exact ⟨_, H, fun h' K' A k => by rw [← A.one (by simp [vn2, vnA, vn1]), he]; exact guard_iff.2 ⟨g1, k⟩⟩
    · exact H.elim
  · split at H
    · rename_i he
      obtain ⟨g1, H⟩ := guard_iff.1 H
      exact ⟨_, H, fun h' K' A k => by rw [← A.one (by simp [vn2, vnA, vn1]), he]; exact guard_iff.2 ⟨g1, k⟩⟩
    · exact H.elim
  · split at H
    · rename_i he
      exact ⟨_, H, fun h' K' A k => by rw [← A.one (by simp [vn2, vnA, vn1]), he]; exact k⟩
    · exact H.elim
  · exact ⟨_, H, fun h' K' A k => k⟩

theorem bif_par {b : Bool} {x y : V} {K : V → Prop} (h : bif b then K x else K y) : ∃ u, K u ∧ ∀ K' : V → Prop, K' u → bif b then K' x else K' y := by
  cases b
  · exact ⟨_, h, fun _ k => k⟩
  · exact ⟨_, h, fun _ k => k⟩

theorem eltV_par {h : Heap} {v : V} {j : Int} {K : V → Prop} (H : eltV h v j K) : ∃ u, K u ∧ ∀ h' (K' : V → Prop), Agree h h' v → K' u → eltV h' v j K' := by
  cases v <;> simp only [eltV] at H ⊢ <;> try exact H.elim
  · split at H
    · rename_i he
      obtain ⟨g1, H⟩ := guard_iff.1 H
      obtain ⟨g2, H⟩ := guard_iff.1 H
      obtain ⟨u, hu, hp⟩ := bif_par H
      exact ⟨_, hu, fun h' K' A k => by rw [← A.one (by simp [vn2, vnA, vn1]), he]; exact guard_iff.2 ⟨g1, guard_iff.2 ⟨g2, hp _ k⟩⟩⟩
    · exact H.elim
  · split at H
    · rename_i he
      obtain ⟨g1, H⟩ := guard_iff.1 H
      exact ⟨_, H, fun h' K' A k => by rw [← A.one (by simp [vn2, vnA, vn1]), he]; exact guard_iff.2 ⟨g1, k⟩⟩
    · exact H.elim
  · obtain ⟨g2, H⟩ := guard_iff.1 H
    obtain ⟨u, hu, hp⟩ := bif_par H
    exact ⟨_, hu, fun h' K' A k => guard_iff.2 ⟨g2, hp _ k⟩⟩

theorem sliceHi_par {hi : Option V} {n : Nat} {K : Int → Prop} (h : sliceHi hi n K) : ∃ j, K j ∧ ∀ K' : Int → Prop, K' j → sliceHi hi n K' := by
  unfold sliceHi at h ⊢
  split at h
  · exact ⟨_, h, fun _ k => k⟩
  · exact ⟨_, h, fun _ k => k⟩
  · exact h.elim

theorem sliceV_par {td : Nat → Option TD} {h : Heap} {d : TK} {x : V} {lo hi mx : Option V} {K : V → Prop} (H : sliceV td h d x lo hi mx K) : ∃ u, K u ∧ ∀ h' (K' : V → Prop), Agree h h' x → K' u → sliceV td h' d x lo hi mx K' := by
  unfold sliceV at H ⊢
  obtain ⟨g0, H⟩ := guard_iff.1 H
  split at H
  · split at H
    · split at H
      · split at H
        · rename_i m off o he
          obtain ⟨g1, H⟩ := guard_iff.1 H
          obtain ⟨l, H, h1⟩ := sliceHi_par H
          obtain ⟨t, H, h2⟩ := sliceHi_par H
          obtain ⟨u, H, h3⟩ := sliceHi_par H
          obtain ⟨g2, H⟩ := guard_iff.1 H
          refine ⟨_, H, fun h' K' A k => guard_iff.2 ⟨g0, ?_⟩⟩
          rw [← A.one (by simp [vn2, vnA, vn1]), he]
          exact guard_iff.2 ⟨g1, h1 _ (h2 _ (h3 _ (guard_iff.2 ⟨g2, k⟩)))⟩
        · exact H.elim
      · exact H.elim
    · exact H.elim
  · split at H
    · split at H
      · obtain ⟨g1, H⟩ := guard_iff.1 H
        obtain ⟨l, H, h1⟩ := sliceHi_par H
        obtain ⟨t, H, h2⟩ := sliceHi_par H
        obtain ⟨u, H, h3⟩ := sliceHi_par H
        obtain ⟨g2, H⟩ := guard_iff.1 H
        exact ⟨_, H, fun h' K' A k => guard_iff.2 ⟨g0, guard_iff.2 ⟨g1, h1 _ (h2 _ (h3 _ (guard_iff.2 ⟨g2, k⟩)))⟩⟩⟩
      · split at H
        · rename_i n ver ver' o he
          obtain ⟨g1, H⟩ := guard_iff.1 H
          obtain ⟨l, H, h1⟩ := sliceHi_par H
          obtain ⟨t, H, h2⟩ := sliceHi_par H
          obtain ⟨u, H, h3⟩ := sliceHi_par H
          obtain ⟨g2, H⟩ := guard_iff.1 H
          refine ⟨_, H, fun h' K' A k => guard_iff.2 ⟨g0, ?_⟩⟩
          rw [← A.one (by simp [vn2, vnA, vn1]), he]
          exact guard_iff.2 ⟨g1, h1 _ (h2 _ (h3 _ (guard_iff.2 ⟨g2, k⟩)))⟩
        · exact H.elim
      · exact H.elim
    · exact H.elim
  · exact H.elim

theorem buildV_par {k : TK} {td : Nat → Option TD} : ∀ {ps : List (Nat × V)} {o : V} {K : V → Prop}, buildV k td ps o K → ∃ v, K v ∧ ∀ K' : V → Prop, K' v → buildV k td ps o K'
  | [], o, K, h => ⟨_, h, fun _ k => k⟩
  | (i, v) :: r, o, K, h => by
    unfold buildV at h ⊢
    split at h
    · split at h
      · obtain ⟨g1, h⟩ := guard_iff.1 h
        obtain ⟨o', h, hp⟩ := putAt_par h
        obtain ⟨u, h, hq⟩ := buildV_par h
        exact ⟨u, h, fun K' k => guard_iff.2 ⟨g1, hp _ (hq _ k)⟩⟩
      · exact h.elim
    · exact h.elim

/-- What an operation yields and changes, and that it does so wherever it sees the same. -/
def Par (nm : Nat) (cs : List Nat) (h : Heap) (K : OpK) (again : Heap → OpK → Prop) : Prop :=
  ∃ v δ, (∀ p ∈ δ, p.1 = nm ∨ p.1 ∈ cs) ∧ K v (δ ++ h) ∧ ∀ h' (K' : OpK), K' v (δ ++ h') → again h' K'

theorem appendV_par {h : Heap} {nm : Nat} {x y : V} {K : OpK} (H : appendV h nm x y K) : ∃ v δ, (∀ p ∈ δ, p.1 = nm ∨ p.1 ∈ vn1 x) ∧ K v (δ ++ h) ∧ ∀ h' (K' : OpK), Agree h h' x → Agree h h' y → K' v (δ ++ h') → appendV h' nm x y K' := by
  unfold appendV at H ⊢
  split at H
  · exact H.elim
  · rename_i oy hoy
    split at H
    · obtain ⟨g1, H⟩ := guard_iff.1 H
      exact ⟨_, [_], fun p hp => by simp at hp; subst hp; exact .inl rfl, H, fun h' K' A B k => by rw [seqV_congr B, hoy]; exact guard_iff.2 ⟨g1, k⟩⟩
    · split at H
      · rename_i n ver ver' ox he
        obtain ⟨g1, H⟩ := guard_iff.1 H
        split at H
        · rename_i o ho
          obtain ⟨g2, H⟩ := guard_iff.1 H
          refine ⟨_, [_], fun p hp => by simp at hp; subst hp; exact .inr (by simp [vn1]), H, fun h' K' A B k => ?_⟩
          rw [seqV_congr B, hoy]
          simp only []
          rw [← A.one (by simp [vn2, vnA, vn1]), he]
          simp only [ho]
          exact guard_iff.2 ⟨g1, guard_iff.2 ⟨g2, k⟩⟩
        · exact H.elim
      · exact H.elim
    · exact H.elim

theorem builtinV_par {E : Env} {h : Heap} {b : Builtin} {args : List V} {tys : List Nat} {nm : Nat} {K : OpK} (H : builtinV E h b args tys nm K) :
    ∃ v δ, (∀ p ∈ δ, p.1 = nm ∨ (b = .append ∧ ∃ x r, args = x :: r ∧ p.1 ∈ vn1 x)) ∧ K v (δ ++ h) ∧ ∀ h' (K' : OpK), (∀ x ∈ args, Agree h h' x) → K' v (δ ++ h') → builtinV E h' b args tys nm K' := by
  cases b <;> simp only [builtinV] at H ⊢ <;> try exact H.elim
  · split at H
    · split at H
      · split at H
        · split at H
          · split at H
            · split at H
              · rename_i oy hoy
                obtain ⟨g1, H⟩ := guard_iff.1 H
                obtain ⟨v, δ, h1, h2, h3⟩ := appendV_par H
                refine ⟨v, δ, fun p hp => (h1 p hp).imp id (fun h => ⟨trivial, _, _, rfl, h⟩), h2, fun h' K' A k => ?_⟩
                have A1 := A _ (List.mem_cons_self ..)
                have A2 := A _ (List.mem_cons_of_mem _ (List.mem_cons_self ..))
                simp only [seqV_congr A2, hoy]
                exact guard_iff.2 ⟨g1, h3 _ _ A1 A2 k⟩
              · exact H.elim
            · exact H.elim
          · exact H.elim
        · exact H.elim
      · exact H.elim
    · exact H.elim
  · split at H
    · split at H
      · split at H
        · exact ⟨_, [], fun p hp => by simp at hp, H, fun h' K' A k => k⟩
        · split at H
          · exact H.elim
          · obtain ⟨u, hu, hp⟩ := lenV_par H
            exact ⟨u, [], fun p hp => by simp at hp, hu, fun h' K' A k => hp _ _ (A _ (List.mem_cons_self ..)) k⟩
        · split at H
          · exact ⟨_, [], fun p hp => by simp at hp, H, fun h' K' A k => k⟩
          · exact H.elim
        · exact H.elim
      · exact H.elim
    · exact H.elim
  · split at H
    · exact ⟨_, [], fun p hp => by simp at hp, H, fun h' K' A k => k⟩
    · exact H.elim
end
end Go.Sx

namespace Go.Sx
section
variable {E : Env}

/-- Operands and what they show stay as they were. -/
def Sees (T : List (Nat × V)) (h : Heap) (T' : List (Nat × V)) (h' : Heap) (xs : List Operand) : Prop := ∀ x ∈ xs, ev T' x = ev T x ∧ Agree h h' (ev T x)

theorem map_ev {T T' : List (Nat × V)} {l : List Operand} (h : ∀ x ∈ l, ev T' x = ev T x) : l.map (ev T') = l.map (ev T) := List.map_congr_left h
theorem opt_ev {T T' : List (Nat × V)} {l : Option Operand} (h : ∀ x ∈ l.toList, ev T' x = ev T x) : l.map (ev T') = l.map (ev T) := by
  cases l with
  | none => rfl
  | some x => simp [h x (by simp)]

def OneP (E : Env) (T : List (Nat × V)) (h : Heap) (nm : Nat) (o : Op) (K : OpK) : Prop :=
  ∃ v δ, (∀ p ∈ δ, p.1 = nm ∨ p.1 ∈ chg T o) ∧ K v (δ ++ h) ∧ ∀ T' h' (K' : OpK), Sees T h T' h' o.operands.toList → K' v (δ ++ h') → oneOp E T' h' nm o K'

theorem oneOp_par {T : List (Nat × V)} {h : Heap} {nm : Nat} {o : Op} {K : OpK} (H : oneOp E T h nm o K) : OneP E T h nm o K := by
  have nil : ∀ p ∈ ([] : Heap), p.1 = nm ∨ p.1 ∈ chg T o := fun p hp => by simp at hp
  have own : ∀ {e : Ent}, ∀ p ∈ ([(nm, e)] : Heap), p.1 = nm ∨ p.1 ∈ chg T o := fun p hp => by simp at hp; subst hp; exact .inl rfl
  cases o <;> simp only [oneOp] at H <;> try exact H.elim
  case move x => exact ⟨_, [], nil, H, fun T' h' K' S k => by simp only [oneOp]; rw [(S x (by simp [Op.operands])).1]; exact k⟩
  case assign x => exact ⟨_, [], nil, H, fun T' h' K' S k => by simp only [oneOp]; rw [(S x (by simp [Op.operands])).1]; exact k⟩
  case pick c a b =>
    split at H
    · rename_i t hc
      split at H
      · exact ⟨_, [], nil, H, fun T' h' K' S k => by simp only [oneOp]; rw [(S c (by simp [Op.operands])).1, (S a (by simp [Op.operands])).1, hc]; exact k⟩
      · exact ⟨_, [], nil, H, fun T' h' K' S k => by simp only [oneOp]; rw [(S c (by simp [Op.operands])).1, (S b (by simp [Op.operands])).1, hc]; exact k⟩
    · exact H.elim
  case alloc t =>
    split at H
    · rename_i d hd
      split at H
      · rename_i o ho
        exact ⟨_, [_], own, H, fun T' h' K' S k => by simp only [oneOp]; simp only [hd, ho]; exact k⟩
      · exact H.elim
    · exact H.elim
  case box t x =>
    split at H
    · rename_i o ho
      exact ⟨_, [_], own, H, fun T' h' K' S k => by simp only [oneOp]; rw [(S x (by simp [Op.operands])).1]; simp only [ho]; exact k⟩
    · exact H.elim
  case load t a =>
    split at H
    · rename_i p hp
      split at H
      · rename_i d hd
        obtain ⟨u, hu, hk⟩ := loadV_par H
        refine ⟨u, [], nil, hu, fun T' h' K' S k => ?_⟩
        have := S a (by simp [Op.operands])
        simp only [oneOp]
        rw [this.1, deref_congr this.2, hp]
        simp only [hd]
        exact hk _ k
      · exact H.elim
    · exact H.elim
  case store t a x =>
    split at H
    · exact H.elim
    · rename_i d hd
      split at H
      · rename_i n idx off ha
        split at H
        · rename_i ver ob he
          obtain ⟨u, hu, hk⟩ := putAt_par H
          obtain ⟨g1, hu⟩ := guard_iff.1 hu
          refine ⟨_, [_], fun p hp => by simp at hp; subst hp; exact .inr (by simp [chg, ha, vn1]), hu, fun T' h' K' S k => ?_⟩
          have h1 := S a (by simp [Op.operands])
          have h2 := S x (by simp [Op.operands])
          simp only [oneOp]
          simp only [hd]
          rw [h1.1, h2.1, ha]
          simp only
          rw [ha] at h1
          rw [← h1.2.one (by simp [vn2, vnA, vn1]), he]
          exact hk _ (guard_iff.2 ⟨g1, k⟩)
        · exact H.elim
      · rename_i n ver idx off ha
        split at H
        · rename_i ver' ob he
          obtain ⟨g0, H⟩ := guard_iff.1 H
          obtain ⟨u, hu, hk⟩ := putAt_par H
          obtain ⟨g1, hu⟩ := guard_iff.1 hu
          refine ⟨_, [_], fun p hp => by simp at hp; subst hp; exact .inr (by simp [chg, ha, vn1]), hu, fun T' h' K' S k => ?_⟩
          have h1 := S a (by simp [Op.operands])
          have h2 := S x (by simp [Op.operands])
          simp only [oneOp]
          simp only [hd]
          rw [h1.1, h2.1, ha]
          simp only
          rw [ha] at h1
          rw [← h1.2.one (by simp [vn2, vnA, vn1]), he]
          exact guard_iff.2 ⟨g0, hk _ (guard_iff.2 ⟨g1, k⟩)⟩
        · exact H.elim
      · exact H.elim
  case binOp op t x y f =>
    obtain ⟨u, hu, hk⟩ := binV_par H
    refine ⟨u, [], nil, hu, fun T' h' K' S k => ?_⟩
    simp only [oneOp]
    rw [(S x (by simp [Op.operands])).1, (S y (by simp [Op.operands])).1]
    exact hk _ k
  case unOp op t x =>
    split at H
    · rename_i hop
      split at H
      · rename_i b hb
        exact ⟨_, [], nil, H, fun T' h' K' S k => by simp only [oneOp]; rw [(S x (by simp [Op.operands])).1]; simp only [hb]; exact k⟩
      · exact H.elim
    · split at H
      · rename_i b hb
        exact ⟨_, [], nil, H, fun T' h' K' S k => by simp only [oneOp]; rw [(S x (by simp [Op.operands])).1]; simp only [hb]; exact k⟩
      · exact H.elim
    · exact H.elim
  case convert s d x =>
    split at H
    · rename_i h1 h2
      split at H
      · rename_i hx
        exact ⟨_, [], nil, H, fun T' h' K' S k => by simp only [oneOp]; rw [(S x (by simp [Op.operands])).1]; simp only [h1, h2, hx]; exact k⟩
      · exact H.elim
    · exact H.elim
  case makeFunc fn first captured =>
    split at H
    · refine ⟨_, [], nil, H, fun T' h' K' S k => ?_⟩
      simp only [oneOp]
      rw [map_ev fun x hx => (S x (by simp [Op.operands]; simp at hx; exact .inl hx)).1, map_ev fun x hx => (S x (by simp [Op.operands]; simp at hx; exact .inr hx)).1]
      exact k
    · exact H.elim
  case fieldAddr s x f =>
    split at H
    · rename_i hs
      split at H
      · rename_i hf
        split at H
        · rename_i hd
          refine ⟨_, [], nil, H, fun T' h' K' S k => ?_⟩
          have := S x (by simp [Op.operands])
          simp only [oneOp]
          simp only [hs, hf]
          rw [this.1, deref_congr this.2, hd]
          exact k
        · exact H.elim
      · exact H.elim
    · exact H.elim
  case field s x f =>
    split at H
    · rename_i hs
      split at H
      · rename_i hf
        split at H
        · rename_i hd
          split at H
          · rename_i hx
            obtain ⟨u, hu, hk⟩ := loadV_par H
            refine ⟨_, [], nil, hu, fun T' h' K' S k => ?_⟩
            simp only [oneOp]
            simp only [hs, hf, hd]
            rw [(S x (by simp [Op.operands])).1, hx]
            exact hk _ k
          · rename_i hx
            obtain ⟨u, hu, hk⟩ := loadV_par H
            refine ⟨_, [], nil, hu, fun T' h' K' S k => ?_⟩
            simp only [oneOp]
            simp only [hs, hf, hd]
            rw [(S x (by simp [Op.operands])).1, hx]
            exact hk _ k
          · exact H.elim
        · exact H.elim
      · exact H.elim
    · exact H.elim
  case indexAddr t x i =>
    split at H
    · rename_i ht
      split at H
      · rename_i he
        split at H
        · rename_i hi
          obtain ⟨g1, H⟩ := guard_iff.1 H
          split at H
          · rename_i hd
            refine ⟨_, [], nil, H, fun T' h' K' S k => ?_⟩
            have := S x (by simp [Op.operands])
            simp only [oneOp]
            simp only [ht, he]
            rw [(S i (by simp [Op.operands])).1, hi]
            simp only
            rw [this.1, deref_congr this.2, hd]
            exact guard_iff.2 ⟨g1, k⟩
          · exact H.elim
        · exact H.elim
      · exact H.elim
    · rename_i ht
      split at H
      · rename_i he
        split at H
        · rename_i hi
          split at H
          · rename_i hx
            obtain ⟨g1, H⟩ := guard_iff.1 H
            obtain ⟨u, hu, hk⟩ := eltV_par H
            refine ⟨_, [], nil, hu, fun T' h' K' S k => ?_⟩
            have := S x (by simp [Op.operands])
            simp only [oneOp]
            simp only [ht, he]
            rw [(S i (by simp [Op.operands])).1, hi, this.1, hx]
            exact guard_iff.2 ⟨g1, hk _ _ (hx ▸ this.2) k⟩
          · rename_i n ver hx
            split at H
            · rename_i hl
              obtain ⟨g1, H⟩ := guard_iff.1 H
              obtain ⟨u, hu, hk⟩ := eltV_par H
              refine ⟨_, [], nil, hu, fun T' h' K' S k => ?_⟩
              have h1 := S x (by simp [Op.operands])
              have h2 : Agree h h' (.slw n ver) := hx ▸ h1.2
              simp only [oneOp]
              simp only [ht, he]
              rw [(S i (by simp [Op.operands])).1, hi, h1.1, hx]
              simp only
              rw [← h2.one (by simp [vn2, vnA, vn1]), hl]
              exact guard_iff.2 ⟨g1, hk _ _ h2 k⟩
            · exact H.elim
          · rename_i hx
            obtain ⟨g1, H⟩ := guard_iff.1 H
            obtain ⟨u, hu, hk⟩ := eltV_par H
            refine ⟨_, [], nil, hu, fun T' h' K' S k => ?_⟩
            have := S x (by simp [Op.operands])
            simp only [oneOp]
            simp only [ht, he]
            rw [(S i (by simp [Op.operands])).1, hi, this.1, hx]
            exact guard_iff.2 ⟨g1, hk _ _ (hx ▸ this.2) k⟩
          · exact H.elim
        · exact H.elim
      · exact H.elim
    · exact H.elim
  case index t x i =>
    split at H
    · rename_i hi
      split at H
      · rename_i hx
        split at H
        · rename_i ht
          obtain ⟨g1, H⟩ := guard_iff.1 H
          refine ⟨_, [], nil, H, fun T' h' K' S k => ?_⟩
          simp only [oneOp]
          rw [(S i (by simp [Op.operands])).1, hi, (S x (by simp [Op.operands])).1, hx]
          simp only [ht]
          exact guard_iff.2 ⟨g1, k⟩
        · exact H.elim
      · rename_i hx
        split at H
        · rename_i ht
          split at H
          · rename_i he
            obtain ⟨g1, H⟩ := guard_iff.1 H
            obtain ⟨u, hu, hk⟩ := loadV_par H
            refine ⟨_, [], nil, hu, fun T' h' K' S k => ?_⟩
            simp only [oneOp]
            rw [(S i (by simp [Op.operands])).1, hi, (S x (by simp [Op.operands])).1, hx]
            simp only [ht, he]
            exact guard_iff.2 ⟨g1, hk _ k⟩
          · exact H.elim
        · exact H.elim
      · exact H.elim
    · exact H.elim
  case build t ps =>
    split at H
    · rename_i ht
      split at H
      · rename_i hz
        obtain ⟨g1, H⟩ := guard_iff.1 H
        obtain ⟨u, hu, hk⟩ := buildV_par H
        refine ⟨_, [], nil, hu, fun T' h' K' S k => ?_⟩
        have e : (ps.toList.map fun p => (p.1, ev T' p.2)) = ps.toList.map fun p => (p.1, ev T p.2) := List.map_congr_left fun p hp => by
          rw [(S p.2 (by simp only [Op.operands]; exact List.mem_map.2 ⟨p, hp, rfl⟩)).1]
        simp only [oneOp]
        simp only [ht, hz, e]
        exact guard_iff.2 ⟨g1, hk _ k⟩
      · exact H.elim
    · exact H.elim
  case buildSlice t len ps =>
    split at H
    · rename_i ht
      split at H
      · rename_i he
        split at H
        · rename_i hz
          obtain ⟨g1, H⟩ := guard_iff.1 H
          obtain ⟨u, hu, hk⟩ := buildV_par H
          split at hu
          · rename_i hl
            refine ⟨_, [_], own, hu, fun T' h' K' S k => ?_⟩
            have e : (ps.toList.map fun p => (p.1, ev T' p.2)) = ps.toList.map fun p => (p.1, ev T p.2) := List.map_congr_left fun p hp => by
              rw [(S p.2 (by simp only [Op.operands]; exact List.mem_map.2 ⟨p, hp, rfl⟩)).1]
            simp only [oneOp]
            simp only [ht, he, hz, e]
            exact guard_iff.2 ⟨g1, hk _ (by simp only [hl]; exact k)⟩
          · exact hu.elim
        · exact H.elim
      · exact H.elim
    · exact H.elim
  case makeSlice t l c =>
    split at H
    · rename_i ht
      split at H
      · rename_i he
        split at H
        · rename_i hl
          split at H
          · rename_i hc
            obtain ⟨g1, H⟩ := guard_iff.1 H
            refine ⟨_, [_], own, H, fun T' h' K' S k => ?_⟩
            simp only [oneOp]
            simp only [ht, he]
            rw [(S l (by simp [Op.operands])).1, (S c (by simp [Op.operands])).1, hl, hc]
            exact guard_iff.2 ⟨g1, k⟩
          · exact H.elim
        · exact H.elim
      · exact H.elim
    · exact H.elim
  case slice t x lo hi mx =>
    split at H
    · rename_i hd
      obtain ⟨u, hu, hk⟩ := sliceV_par H
      refine ⟨_, [], nil, hu, fun T' h' K' S k => ?_⟩
      have h1 := S x (by simp [Op.operands])
      simp only [oneOp]
      simp only [hd]
      rw [h1.1, opt_ev (l := lo) fun x hx => (S x (by simp [Op.operands] at hx ⊢; simp [hx])).1, opt_ev (l := hi) fun x hx => (S x (by simp [Op.operands] at hx ⊢; simp [hx])).1, opt_ev (l := mx) fun x hx => (S x (by simp [Op.operands] at hx ⊢; simp [hx])).1]
      exact hk _ _ h1.2 k
    · exact H.elim
  case sliceToArrayPointer t x =>
    split at H
    · rename_i ht
      split at H
      · rename_i m off len hx
        split at H
        · rename_i he
          obtain ⟨g1, H⟩ := guard_iff.1 H
          refine ⟨_, [], nil, H, fun T' h' K' S k => ?_⟩
          have h1 := S x (by simp [Op.operands])
          have h2 : Agree h h' (.sl m off len) := hx ▸ h1.2
          simp only [oneOp]
          simp only [ht]
          rw [h1.1, hx]
          simp only
          rw [← h2.one (by simp [vn2, vnA, vn1]), he]
          exact guard_iff.2 ⟨g1, k⟩
        · exact H.elim
      · exact H.elim
    · exact H.elim
  case nilCheck x =>
    split at H
    · rename_i hd
      refine ⟨_, [], nil, H, fun T' h' K' S k => ?_⟩
      have h1 := S x (by simp [Op.operands])
      simp only [oneOp]
      rw [h1.1, deref_congr h1.2, hd]
      exact k
    · exact H.elim
  case extract t i =>
    split at H
    · rename_i ht
      split at H
      · rename_i hl
        refine ⟨_, [], nil, H, fun T' h' K' S k => ?_⟩
        simp only [oneOp]
        rw [(S t (by simp [Op.operands])).1, ht]
        simp only [hl]
        exact k
      · exact H.elim
    · exact H.elim

theorem call0_next {specs : List (Nat × Spec)} {f : Nat} {args : List V} {h : Heap} {nm : Nat} {K : CallK} (H : call0 specs f args h nm K) :
    ∃ v δ, (∀ p ∈ δ, p.1 = nm) ∧ K v (δ ++ h) (nm + 1) ∧ ∀ h' (K' : CallK), (∀ x ∈ args, roV h' x = roV h x) → K' v (δ ++ h') (nm + 1) → call0 specs f args h' nm K' := by
  unfold call0 at H ⊢
  split at H
  · rename_i S hf
    unfold specCall at H
    obtain ⟨g1, H⟩ := guard_iff.1 H
    have res : ∀ y, specRes S y h nm K → ∃ v δ, (∀ p ∈ δ, p.1 = nm) ∧ K v (δ ++ h) (nm + 1) ∧ ∀ h' (K' : CallK), K' v (δ ++ h') (nm + 1) → specRes S y h' nm K' := by
      intro y hy
      unfold specRes at hy ⊢
      split at hy
      · exact ⟨_, [], fun p hp => by simp at hp, hy, fun h' K' k => k⟩
      · split at hy
        · exact ⟨_, [_], fun p hp => by simp at hp; subst hp; rfl, hy, fun h' K' k => k⟩
        · exact hy.elim
    have hh : (∀ r, S.req = some r → r (args.map (roV h))) ∧ specRes S (S.val (args.map (roV h))) h nm K := by
      split at H
      · rename_i hr
        refine ⟨fun r hr' => (by rw [hr] at hr'; cases hr'), ?_⟩
        split at H
        · exact H
        · exact H _ rfl
      · rename_i r hr
        refine ⟨fun r' hr' => (by rw [hr] at hr'; cases hr'; exact H.1), ?_⟩
        have H := H.2
        split at H
        · exact H
        · exact H _ rfl
    obtain ⟨v, δ, h1, h2, h3⟩ := res _ hh.2
    refine ⟨v, δ, h1, h2, fun h' K' A k => ?_⟩
    have e : args.map (roV h') = args.map (roV h) := List.map_congr_left A
    unfold specCall
    rw [e]
    refine guard_iff.2 ⟨g1, ?_⟩
    have fin := h3 h' K' k
    split
    · split
      · exact fin
      · intro y hy; rw [hy]; exact fin
    · rename_i r hr
      refine ⟨hh.1 _ hr, ?_⟩
      split
      · exact fin
      · intro y hy; rw [hy]; exact fin
  · exact H.elim

theorem vnA_clo_first {f : FuncId} {a b : List V} {x : V} (hx : x ∈ a ∨ x ∈ b) {n : Nat} (hn : n ∈ vnA x) : n ∈ vn2 (.clo f a b) := by
  simp only [vn2, List.mem_append, List.mem_flatMap]
  rcases hx with h | h
  · exact .inl ⟨x, h, hn⟩
  · exact .inr ⟨x, h, hn⟩

theorem Agree.part {h h' : Heap} {f : FuncId} {a b : List V} (A : Agree h h' (.clo f a b)) {x : V} (hx : x ∈ a ∨ x ∈ b) : roV h' x = roV h x := by
  by_cases hc : ∃ f a b, x = .clo f a b
  · obtain ⟨f, a, b, rfl⟩ := hc; rfl
  · refine roV_congr fun n hn => ?_
    obtain ⟨m, hm, hn⟩ := List.mem_flatMap.1 hn
    have hm' : m ∈ vnA x := by
      have : vn2 x = vnA x := by cases x <;> first | rfl | exact absurd ⟨_, _, _, rfl⟩ hc
      rw [← this]; exact hm
    have hin := vnA_clo_first (f := f) hx hm'
    exact A n (List.mem_flatMap.2 ⟨m, hin, hn⟩)

theorem stepOp_par {specs : List (Nat × Spec)} {st : St} {o : Oper} {K : St → Prop} (H : stepOp E (call0 specs) st o K) :
    ∃ v δ, (∀ p ∈ δ, p.1 = st.next ∨ p.1 ∈ chg st.tmps o.op) ∧ K ⟨putD st.tmps o.dst v, δ ++ st.heap, st.next + 1⟩ ∧
      ∀ T' h' (K' : St → Prop), Sees st.tmps st.heap T' h' o.op.operands.toList → K' ⟨putD T' o.dst v, δ ++ h', st.next + 1⟩ → stepOp E (call0 specs) ⟨T', h', st.next⟩ o K' := by
  obtain ⟨dst, op, ty, pos, after, gd⟩ := o
  by_cases hc : ∃ c, op = .call c
  · obtain ⟨c, rfl⟩ := hc
    unfold stepOp at H ⊢
    simp only at H ⊢
    split at H
    · rename_i b hb
      obtain ⟨v, δ, h1, h2, h3⟩ := builtinV_par H
      have hmem : ∀ x ∈ c.args.toList, x ∈ (Op.call c).operands.toList := fun x hx => by
        simp only [Op.operands, Call.operands, Array.toList_append, List.mem_append]; exact .inr hx
      refine ⟨v, δ, fun p hp => ?_, h2, fun T' h' K' S k => ?_⟩
      · rcases h1 p hp with h | ⟨rfl, x, r, hx, hp⟩
        · exact .inl h
        · refine .inr ?_
          simp only [chg, hb]
          match hl : c.args.toList with
          | [] => rw [hl] at hx; simp at hx
          | y :: s =>
            rw [hl] at hx
            simp at hx
            simp only []
            rw [hx.1]; exact hp
      · rw [map_ev fun x hx => (S x (hmem x hx)).1]
        refine h3 _ _ (fun x hx => ?_) k
        obtain ⟨y, hy, rfl⟩ := List.mem_map.1 hx
        exact (S y (hmem y hy)).2
    · rename_i f hf
      split at H
      · rename_i g first captured hclo
        obtain ⟨v, δ, h1, h2, h3⟩ := call0_next H
        have hmem : ∀ x ∈ c.args.toList, x ∈ (Op.call c).operands.toList := fun x hx => by
          simp only [Op.operands, Call.operands, Array.toList_append, List.mem_append]; exact .inr hx
        have hfm : f ∈ (Op.call c).operands.toList := by simp [Op.operands, Call.operands, hf]
        refine ⟨v, δ, fun p hp => .inl (h1 p hp), h2, fun T' h' K' S k => ?_⟩
        have h4 := S f hfm
        rw [h4.1, hclo, map_ev fun x hx => (S x (hmem x hx)).1]
        refine h3 _ _ (fun x hx => ?_) k
        rw [hclo] at h4
        simp only [List.mem_append] at hx
        rcases hx with hx | hx | hx
        · exact h4.2.part (.inl hx)
        · obtain ⟨y, hy, rfl⟩ := List.mem_map.1 hx
          exact roV_congr (S y (hmem y hy)).2
        · exact h4.2.part (.inr hx)
      · exact H.elim
    · exact H.elim
  · have h1 : oneOp E st.tmps st.heap st.next op (fun v hp => K ⟨putD st.tmps dst v, hp, st.next + 1⟩) := by
      unfold stepOp at H
      simp only at H
      split at H
      · rename_i c; exact absurd ⟨c, rfl⟩ hc
      · exact H
    obtain ⟨v, δ, h2, h3, h4⟩ := oneOp_par h1
    refine ⟨v, δ, h2, h3, fun T' h' K' S k => ?_⟩
    have := h4 T' h' (fun v hp => K' ⟨putD T' dst v, hp, st.next + 1⟩) S k
    unfold stepOp
    simp only
    split
    · rename_i c; exact absurd ⟨c, rfl⟩ hc
    · exact this
end
end Go.Sx

namespace Go.Sx
section

/-! ### States as functions: even keys are temporaries, odd ones names -/
abbrev Cell := V × Option Ent
abbrev Fn := Nat → Cell
def look (T : List (Nat × V)) (h : Heap) : Fn := fun k => if k % 2 = 0 then (getT T (k / 2), none) else (.any, lk (k / 2) h)
def upd (dst : Option Nat) (v : V) (δ : Heap) : Nat → Option Cell := fun k =>
  if k % 2 = 0 then (if dst = some (k / 2) then some (v, none) else none) else (match lk (k / 2) δ with | some e => some (.any, some e) | none => none)
def app (u : Nat → Option Cell) (F : Fn) : Fn := fun k => match u k with | some c => c | none => F k

theorem lk_append {n : Nat} : ∀ {a b : Heap}, lk n (a ++ b) = match lk n a with | some e => some e | none => lk n b
  | [], b => rfl
  | (m, e) :: r, b => by
    rw [List.cons_append, lk_cons, lk_cons]
    by_cases h : n = m
    · simp [h]
    · simp only [h, if_false]; exact lk_append

theorem look_even {T : List (Nat × V)} {h : Heap} (t : Nat) : look T h (2 * t) = (getT T t, none) := by
  unfold look; rw [if_pos (by omega)]; congr 2; omega
theorem look_odd {T : List (Nat × V)} {h : Heap} (n : Nat) : look T h (2 * n + 1) = (.any, lk n h) := by
  unfold look; rw [if_neg (by omega)]; congr 2; omega

theorem getT_putD {T : List (Nat × V)} {dst : Option Nat} {v : V} {t : Nat} : getT (putD T dst v) t = if dst = some t then v else getT T t := by
  cases dst with
  | none => rfl
  | some d =>
    simp only [putD, getT_cons]
    by_cases h : t = d
    · simp [h]
    · rw [if_neg h, if_neg (by simpa using fun e => h e.symm)]

theorem look_step {T : List (Nat × V)} {h δ : Heap} {dst : Option Nat} {v : V} : look (putD T dst v) (δ ++ h) = app (upd dst v δ) (look T h) := by
  funext k
  unfold app upd look
  by_cases hk : k % 2 = 0
  · simp only [if_pos hk, getT_putD]
    by_cases hd : dst = some (k / 2)
    · simp [hd]
    · simp [hd]
  · simp only [if_neg hk, lk_append]
    cases lk (k / 2) δ <;> rfl

theorem lk_mem {n : Nat} {e : Ent} : ∀ {l : Heap}, lk n l = some e → (n, e) ∈ l
  | (m, x) :: r, h => by
    rw [lk_cons] at h
    by_cases hm : n = m
    · subst hm; rw [if_pos rfl] at h; cases h; exact List.mem_cons_self ..
    · rw [if_neg hm] at h; exact List.mem_cons_of_mem _ (lk_mem h)

structure C where
  info : Info
  u : Nat → Option Cell
  F : Fn

def tb (m k : Nat) : Prop := Nat.testBit m k = true
def Supp (c : C) : Prop := ∀ k, c.u k ≠ none → tb c.info.W k
/-- The earlier and the later may change places. -/
def Apart (x c : C) : Prop := (∀ k, tb x.info.W k → ¬ tb c.info.R k) ∧ (∀ k, tb x.info.W k → ¬ tb c.info.W k) ∧ (∀ k, tb c.info.W k → ¬ tb x.info.R k)

theorem land_zero {x y : Nat} (h : Nat.land x y = 0) {k : Nat} (hx : tb x k) : ¬ tb y k := by
  intro hy
  have : Nat.testBit (x &&& y) k = false := by rw [show x &&& y = 0 from h]; simp
  rw [Nat.testBit_and] at this
  unfold tb at hx hy
  rw [hx, hy] at this
  cases this

theorem tb_lor {x y k : Nat} : tb (Nat.lor x y) k ↔ tb x k ∨ tb y k := by
  unfold tb
  show Nat.testBit (x ||| y) k = true ↔ _
  rw [Nat.testBit_or]; simp

theorem tb_one {n k : Nat} : tb (Nat.shiftLeft 1 n) k ↔ k = n := by
  unfold tb
  show Nat.testBit (1 <<< n) k = true ↔ _
  rw [Nat.one_shiftLeft, Nat.testBit_two_pow]
  simp [eq_comm]

theorem tb_maskT {m k : Nat} : ∀ {l : List Nat}, tb (maskT l m) k ↔ (∃ t ∈ l, k = 2 * t) ∨ tb m k
  | [] => by simp [maskT]
  | t :: r => by
    show tb (Nat.lor (Nat.shiftLeft 1 (2 * t)) (maskT r m)) k ↔ _
    rw [tb_lor, tb_one, tb_maskT (l := r)]
    simp [or_assoc]
theorem tb_maskN {m k : Nat} : ∀ {l : List Nat}, tb (maskN l m) k ↔ (∃ t ∈ l, k = 2 * t + 1) ∨ tb m k
  | [] => by simp [maskN]
  | t :: r => by
    show tb (Nat.lor (Nat.shiftLeft 1 (2 * t + 1)) (maskN r m)) k ↔ _
    rw [tb_lor, tb_one, tb_maskN (l := r)]
    simp [or_assoc]

theorem apart_of {x c : C} (h : apartM x.info.R x.info.W c.info.R c.info.W = true) : Apart x c := by
  unfold apartM at h
  simp only [Bool.and_eq_true] at h
  have h1 := Nat.eq_of_beq_eq_true h.1
  have h2 := Nat.eq_of_beq_eq_true h.2
  refine ⟨fun k hk hr => land_zero h1 hk (tb_lor.2 (.inl hr)), fun k hk hr => land_zero h1 hk (tb_lor.2 (.inr hr)), fun k hk hr => land_zero h2 hk hr⟩

def Chain : Fn → List C → Fn → Prop
  | F, [], Fe => F = Fe
  | F, c :: r, Fe => (∀ k, tb c.info.R k → F k = c.F k) ∧ Chain (app c.u F) r Fe

theorem app_off {u : Nat → Option Cell} {F : Fn} {k : Nat} (h : u k = none) : app u F k = F k := by unfold app; rw [h]
theorem supp_off {c : C} (h : Supp c) {k : Nat} (hk : ¬ tb c.info.W k) : c.u k = none := by
  cases hu : c.u k with
  | none => rfl
  | some x => exact absurd (h k (by rw [hu]; simp)) hk

theorem app_comm {x c : C} (hx : Supp x) (hc : Supp c) (A : Apart x c) (F : Fn) : app c.u (app x.u F) = app x.u (app c.u F) := by
  funext k
  by_cases h : tb x.info.W k
  · have h1 := supp_off hc (A.2.1 k h)
    rw [app_off h1]
    unfold app
    cases hu : x.u k with
    | none => simp only [h1]
    | some v => rfl
  · have h1 := supp_off hx h
    rw [app_off (F := app c.u F) h1]
    unfold app
    cases hu : c.u k with
    | none => simp only [h1]
    | some v => rfl

theorem Chain.front {Fe : Fn} {c : C} (hc : Supp c) : ∀ {pre post : List C} {F : Fn}, Chain F (pre ++ c :: post) Fe → (∀ x ∈ pre, Supp x ∧ Apart x c) → Chain F (c :: (pre ++ post)) Fe
  | [], post, F, h, _ => h
  | x :: r, post, F, h, hx => by
    obtain ⟨h1, h2⟩ := h
    obtain ⟨k1, k2⟩ := Chain.front hc (pre := r) (post := post) h2 fun y hy => hx y (List.mem_cons_of_mem _ hy)
    obtain ⟨hs, A⟩ := hx x (List.mem_cons_self ..)
    refine ⟨fun k hk => ?_, fun k hk => ?_, ?_⟩
    · rw [← k1 k hk, app_off (supp_off hs fun hw => A.1 k hw hk)]
    · rw [← h1 k hk, app_off (supp_off hc fun hw => A.2.2 k hw hk)]
    · show Chain (app x.u (app c.u F)) (r ++ post) Fe
      rw [← app_comm hs hc A]; exact k2
end
end Go.Sx

namespace Go.Sx
section
variable {P : Program} {E : Env} {specs : List (Nat × Spec)}

theorem stepOp_ext (EO : EnvOK P E) (hS : ∀ f S, lk f specs = some S → SpecOK P f S) {g : G} {w : World} {T : List (Nat × V)} {nm : Nat} {a : Act} (HO : HeapOK g) (hw : w.heap = g.hp) (hn : ¬ g.A nm)
    (ht : ∀ t, Den g (getT T t) (a.tmps.getD t undef)) {o : Oper} {K : St → Prop} (h : stepOp E (call0 specs) ⟨T, g.H, nm⟩ o K) {Q : Exit → Act → World → Prop} :
    o.wp P a w (fun a' w' => ∃ U g' y, K ⟨putD T o.dst U, g'.H, nm + 1⟩ ∧ a' = a.put o.dst y ∧ Den g' U y ∧ Ext g g' w w' nm) Q := by
  have hρ := ev_den ht
  by_cases hc : ∃ c, o.op = .call c
  · obtain ⟨c, hc⟩ := hc
    unfold stepOp at h
    rw [hc] at h
    simp only at h
    split at h
    · rename_i b hb
      obtain ⟨U, g', w', y, hK, hr, hU, hx⟩ := builtin_sound (P := P) (T := T) (ρ := a.eval) (w := w) (ty := o.type) (cs := c.args.map fun | .const _ => true | _ => false) EO HO hw hn hρ h
      refine wp_value (nx := .value y) ?_ rfl ⟨U, g', y, hK, rfl, hU, hx⟩
      unfold execOp; simp only [hc]
      rw [run_bind]
      unfold resolve; simp only [hb]
      rw [run_pure]; simp only []
      exact hr
    · rename_i f hf
      split at h
      · rename_i gf first captured hclo
        have hfv := hρ f; rw [hclo] at hfv
        obtain ⟨xs, ys, hfe, h1, h2, h3, h4⟩ := den_clo hfv
        have hargs : DensL g (first ++ (c.args.toList.map (ev T) ++ captured)) (xs ++ (c.args.toList.map a.eval ++ ys)) :=
          DensL.append ⟨h1, h3⟩ (DensL.append ⟨by simp, fun i k1 k2 => by rw [List.getElem_map, List.getElem_map]; exact hρ _⟩ ⟨h2, h4⟩)
        have hexec : (execOp a.eval o).run P w = (callFunc gf (xs ++ (c.args.toList.map a.eval ++ ys)).toArray).run P w := by
          unfold execOp; simp only [hc]
          rw [run_bind]
          unfold resolve; simp only [hf, hfe]
          unfold Deferred.ofValue
          simp only [run_pure]
          unfold invoke; simp only []
          congr 2
          simp
        rcases call0_ext hS HO hw hn hargs h with ⟨⟨fn, hfn, hbody, hname⟩, hcalls⟩ | ⟨y, w', hrun, he⟩
        · unfold Oper.wp
          have hrun : (execOp a.eval o).run P w = .ok (.enter gf (xs ++ (c.args.toList.map a.eval ++ ys)).toArray) w := by
            rw [hexec]
            unfold callFunc
            rw [run_bind]
            show (match Sem.run P program w with | _ => _) = _
            simp only [program, hfn]
            rw [if_neg (by rw [hname]; simp), if_neg (by rw [hbody]; simp), run_pure]
          rw [hrun]
          refine Calls.mono hcalls fun e w' he => ?_
          obtain ⟨U, g', y, hK, rfl, hU, hx⟩ := he
          exact ⟨U, g', y, hK, rfl, hU, hx⟩
        · obtain ⟨U, g', y', hK, hy, hU, hx⟩ := he
          cases hy
          exact wp_value (nx := .value y) (hexec.trans hrun) rfl ⟨U, g', y, hK, rfl, hU, hx⟩
      · exact h.elim
    · exact h.elim
  · have h' : oneOp E T g.H nm o.op (fun v hp => K ⟨putD T o.dst v, hp, nm + 1⟩) := by
      unfold stepOp at h
      split at h
      · rename_i c hcc; exact absurd ⟨c, hcc⟩ hc
      · exact h
    obtain ⟨U, g', w', nx, y, hK, hr, hv, hU, hx⟩ := oneOp_sound (P := P) (ρ := a.eval) EO HO hw hn hρ h'
    exact wp_value hr hv ⟨U, g', y, hK, rfl, hU, hx⟩

structure RelF (g0 : G) (w0 : World) (N base : Nat) (F : Fn) (done : List Nat) (g : G) (a : Act) (w : World) : Prop where
  H : ∀ n, lk n g.H = (F (2 * n + 1)).2
  ok : HeapOK g
  heap : w.heap = g.hp
  names : ∀ n, g.A n → n < base ∨ ∃ j ∈ done, n = base + j
  le : g0.le g
  keeps : Keeps g0.base w0 w
  tmps : ∀ t, Den g (F (2 * t)).1 (a.tmps.getD t undef)
  size : a.tmps.size = N
  defers : a.defers = []

/-- An operation of a region does as was found, wherever it sees the same. -/
def Runs (P : Program) (ops : Array Oper) (g0 : G) (w0 : World) (N base : Nat) (c : C) : Prop :=
  ∀ F g a w done (K : Act → World → Prop) Q, RelF g0 w0 N base F done g a w → (∀ k, tb c.info.R k → F k = c.F k) → c.info.i ∉ done →
    (∀ g' a' w', RelF g0 w0 N base (app c.u F) (c.info.i :: done) g' a' w' → K a' w') → wpOp P ops Q c.info.i K a w

theorem upd_supp {st : St} {o : Oper} {v : V} {δ : Heap} (hδ : ∀ p ∈ δ, p.1 = st.next ∨ p.1 ∈ chg st.tmps o.op) {k : Nat} (h : upd o.dst v δ k ≠ none) : tb (writeM st o) k := by
  unfold writeM
  rw [tb_maskT, tb_maskN]
  unfold upd at h
  by_cases hk : k % 2 = 0
  · rw [if_pos hk] at h
    by_cases hd : o.dst = some (k / 2)
    · rw [hd]; exact .inl ⟨k / 2, List.mem_cons_self .., by omega⟩
    · rw [if_neg hd] at h; exact absurd rfl h
  · rw [if_neg hk] at h
    split at h
    · rename_i e he
      refine .inr (.inl ⟨k / 2, ?_, by omega⟩)
      rcases hδ _ (lk_mem he) with h | h
      · exact h ▸ List.mem_cons_self ..
      · exact List.mem_cons_of_mem _ h
    · exact absurd rfl h

theorem RelF.put {g0 g g' : G} {w0 w w' : World} {N base i : Nat} {F : Fn} {done : List Nat} {a : Act} {dst : Option Nat} {v : V} {δ : Heap} {y : Value} (R : RelF g0 w0 N base F done g a w)
    (hd : (match dst with | some d => Nat.blt d N | none => true) = true) (hH : g'.H = δ ++ g.H) (hx : Ext g g' w w' (base + i)) (hU : dst ≠ none → Den g' v y) :
    RelF g0 w0 N base (app (upd dst v δ) F) (i :: done) g' (a.put dst y) w' where
  H := fun n => by
    rw [hH, lk_append]
    have : upd dst v δ (2 * n + 1) = match lk n δ with | some e => some (.any, some e) | none => none := by
      unfold upd; rw [if_neg (by omega)]
      have : (2 * n + 1) / 2 = n := by omega
      rw [this]; all_goals (cases lk n δ <;> rfl)
    unfold app; rw [this]
    cases lk n δ with
    | none => exact R.H n
    | some e => rfl
  ok := hx.ok
  heap := hx.heap
  names := fun n h => by
    rcases hx.names n h with h | h
    · rcases R.names n h with h | ⟨j, h1, h2⟩
      · exact .inl h
      · exact .inr ⟨j, List.mem_cons_of_mem _ h1, h2⟩
    · exact .inr ⟨i, List.mem_cons_self .., h⟩
  le := R.le.trans hx.le
  keeps := R.keeps.trans (by rw [← R.le.base]; exact hx.keeps)
  tmps := fun t => by
    have h1 : upd dst v δ (2 * t) = if dst = some t then some (v, none) else none := by
      unfold upd; rw [if_pos (by omega)]
      have : (2 * t) / 2 = t := by omega
      rw [this]
    have hlt : ∀ d, dst = some d → d < a.tmps.size := fun d h => by rw [h] at hd; rw [R.size]; exact blt_lt hd
    unfold app; rw [h1]
    by_cases h : dst = some t
    · subst h
      rw [if_pos rfl]
      simp [Act.put, Array.getElem?_setIfInBounds, hlt t rfl]
      exact hU (by simp)
    · rw [if_neg h]
      have : (a.put dst y).tmps.getD t undef = a.tmps.getD t undef := by
        cases dst with
        | none => rfl
        | some d =>
          simp only [Act.put, Array.getD_eq_getD_getElem?]
          rw [Array.getElem?_setIfInBounds_ne (by intro e; subst e; exact h rfl)]
      rw [this]; exact (R.tmps t).mono hx.le
  size := put_size.trans R.size
  defers := put_defers.trans R.defers

def seen (T : List (Nat × V)) (l : List Nat) : List (Nat × V) := l.map fun t => (t, getT T t)
theorem getT_seen {T : List (Nat × V)} {t : Nat} : ∀ {l : List Nat}, getT (seen T l) t = if t ∈ l then getT T t else .any
  | [] => rfl
  | d :: r => by
    show getT ((d, getT T d) :: seen T r) t = _
    rw [getT_cons, getT_seen (l := r)]
    by_cases h : t = d
    · subst h; simp
    · simp [h]

theorem looks_tmp {all : List Oper} {o : Oper} {t : Nat} (h : Operand.tmp t ∈ o.op.operands.toList) : t ∈ looks all o :=
  List.mem_append_left _ (List.mem_flatMap.2 ⟨_, h, List.mem_cons_self ..⟩)
theorem looks_guard {all : List Oper} {o : Oper} {j d : Nat} {want : Bool} (h : o.guard = some (j, want)) (hd : dstOf all j = some d) : d ∈ looks all o :=
  List.mem_append_right _ (by rw [h]; simp only []; rw [hd]; exact List.mem_cons_self ..)

theorem read_tmp {all : List Oper} {st : St} {o : Oper} {t : Nat} (h : t ∈ looks all o) : tb (readM all st o) (2 * t) := by
  unfold readM; rw [tb_maskT]; exact .inl ⟨t, h, rfl⟩
theorem read_name {all : List Oper} {st : St} {o : Oper} {x : Operand} {n : Nat} (hx : x ∈ o.op.operands.toList) (h : n ∈ footV st.heap (ev st.tmps x)) : tb (readM all st o) (2 * n + 1) := by
  unfold readM; rw [tb_maskT, tb_maskN]; exact .inr (.inl ⟨n, List.mem_flatMap.2 ⟨x, hx, h⟩, rfl⟩)

/-- A guard's word. -/
theorem guard_word {g0 g : G} {w0 w : World} {N base : Nat} {F : Fn} {done : List Nat} {a : Act} (R : RelF g0 w0 N base F done g a w) {ops : Array Oper} {j d : Nat} {t : Bool} (hd : dstOf ops.toList j = some d) (h : (F (2 * d)).1 = .bool t) : yielded ops a.tmps j = some t := by
  have hv := R.tmps d; rw [h] at hv; have hv := den_bool hv
  unfold dstOf at hd
  split at hd
  · rename_i o ho
    have ho' : ops[j]? = some o := by simpa using ho
    have : a.tmps[d]? = some (.bool t) := by
      rw [Array.getD_eq_getD_getElem?] at hv
      cases hq : a.tmps[d]? with
      | none => rw [hq] at hv; simp [undef] at hv
      | some v => rw [hq] at hv; simp at hv; rw [hv]
    simp [yielded, ho', hd, this]
  · simp at hd

theorem guard_none {g0 g : G} {w0 w : World} {N base : Nat} {F : Fn} {done : List Nat} {a : Act} (R : RelF g0 w0 N base F done g a w) {ops : Array Oper} {j d : Nat} {l : List V} (hd : dstOf ops.toList j = some d) (h : (F (2 * d)).1 = .tup l) : yielded ops a.tmps j = none := by
  have hv := R.tmps d; rw [h] at hv
  obtain ⟨vs, hv⟩ := den_tup0 hv
  unfold dstOf at hd
  split at hd
  · rename_i o ho
    have ho' : ops[j]? = some o := by simpa using ho
    rw [Array.getD_eq_getD_getElem?] at hv
    cases hq : a.tmps[d]? with
    | none => simp [yielded, ho', hd, hq]
    | some v =>
      rw [hq] at hv
      simp only [Option.getD_some] at hv
      subst hv
      simp [yielded, ho', hd, hq]
  · simp at hd

theorem runs_op (EO : EnvOK P E) (hS : ∀ f S, lk f specs = some S → SpecOK P f S) {ops : Array Oper} {g0 : G} {w0 : World} {N base i anc W : Nat} {o : Oper} {st : St} {v : V} {δ : Heap} (ho : ops[i]? = some o) (hdst : dstOK N o = true) (hnext : st.next = base + i)
    (hstep : ∀ T' h' (K' : St → Prop), Sees st.tmps st.heap T' h' o.op.operands.toList → K' ⟨putD T' o.dst v, δ ++ h', st.next + 1⟩ → stepOp E (call0 specs) ⟨T', h', st.next⟩ o K')
    (hg : o.guard = none ∨ ∃ j want d, o.guard = some (j, want) ∧ dstOf ops.toList j = some d ∧ getT st.tmps d = .bool want) :
    Runs P ops g0 w0 N base ⟨⟨i, anc, readM ops.toList st o, W⟩, upd o.dst v δ, look st.tmps st.heap⟩ := by
  intro F g a w done K Q R hF hi next
  simp only at hF hi next ⊢
  have hT : ∀ t ∈ looks ops.toList o, (F (2 * t)).1 = getT st.tmps t := fun t ht => by rw [hF _ (read_tmp ht), look_even]
  have hN : ∀ x ∈ o.op.operands.toList, ∀ n ∈ footV st.heap (ev st.tmps x), lk n st.heap = lk n g.H := fun x hx n hn => by
    rw [R.H n, hF _ (read_name hx hn), look_odd]
  have want : Region.wanted o (yielded ops a.tmps) = true := by
    unfold Region.wanted
    rcases hg with h | ⟨j, want, d, h1, h2, h3⟩
    · rw [h]
    · rw [h1]
      simp only []
      rw [guard_word R h2 (t := want) (by rw [hT d (looks_guard h1 h2), h3])]
      simp
  unfold wpOp
  rw [ho]
  simp only [want, if_true]
  refine .inl ?_
  have hden : ∀ t, Den g (getT (seen st.tmps (looks ops.toList o)) t) (a.tmps.getD t undef) := fun t => by
    rw [getT_seen]
    by_cases h : t ∈ looks ops.toList o
    · rw [if_pos h, ← hT t h]; exact R.tmps t
    · rw [if_neg h]; exact Den.mkAny _
  have hnm : ¬ g.A st.next := fun h => by
    rcases R.names _ h with h | ⟨j, h1, h2⟩
    · omega
    · have : i = j := by omega
      exact hi (this ▸ h1)
  have hs := hstep (seen st.tmps (looks ops.toList o)) g.H (fun s => s = ⟨putD (seen st.tmps (looks ops.toList o)) o.dst v, δ ++ g.H, st.next + 1⟩) (fun x hx => by
    refine ⟨?_, fun n hn => hN x hx n hn⟩
    cases x with
    | tmp t => show getT (seen st.tmps (looks ops.toList o)) t = getT st.tmps t; rw [getT_seen, if_pos (looks_tmp hx)]
    | const _ => rfl
    | global _ => rfl
    | func _ => rfl) rfl
  have := stepOp_ext EO hS (a := a) R.ok R.heap hnm hden hs (Q := Q)
  refine Oper.wp_mono ?_ this
  rintro a' w' ⟨U, g', y, hK, rfl, hU, hx⟩
  simp only [St.mk.injEq] at hK
  have hHe : g'.H = δ ++ g.H := hK.2.1
  rw [hnext] at hx
  cases hd : o.dst with
  | none =>
    rw [hd] at next
    exact next g' (a.put none y) w' (R.put (dst := none) (v := v) (δ := δ) (y := y) rfl hHe hx (fun h => absurd rfl h))
  | some d =>
    rw [hd] at next hK
    have hUv : U = v := by
      have := hK.1
      simp only [putD, List.cons.injEq, Prod.mk.injEq, true_and] at this
      exact this.1
    subst hUv
    exact next g' _ w' (R.put (by unfold dstOK at hdst; rw [hd] at hdst; exact hdst) hHe hx (fun _ => hU))

theorem runs_skip {ops : Array Oper} {g0 : G} {w0 : World} {N base i anc W : Nat} {o : Oper} {st : St} (ho : ops[i]? = some o) (hdst : dstOK N o = true)
    (hg : ∃ j want d, o.guard = some (j, want) ∧ dstOf ops.toList j = some d ∧ (getT st.tmps d = .bool (!want) ∨ ∃ l, getT st.tmps d = .tup l)) :
    Runs P ops g0 w0 N base ⟨⟨i, anc, readM ops.toList st o, W⟩, upd o.dst (.tup []) [], look st.tmps st.heap⟩ := by
  intro F g a w done K Q R hF hi next
  simp only at hF hi next ⊢
  obtain ⟨j, want, d, h1, h2, h3⟩ := hg
  have nw : Region.wanted o (yielded ops a.tmps) = false := by
    unfold Region.wanted
    rw [h1]
    simp only []
    rcases h3 with h3 | ⟨l, h3⟩
    · rw [guard_word R h2 (t := !want) (by rw [hF _ (read_tmp (looks_guard h1 h2)), look_even, h3])]
      cases want <;> rfl
    · rw [guard_none R h2 (l := l) (by rw [hF _ (read_tmp (looks_guard h1 h2)), look_even, h3])]
      cases want <;> rfl
  unfold wpOp
  rw [ho]
  simp only [nw, Bool.false_eq_true, if_false]
  exact next g _ w (R.put (δ := []) (v := .tup []) (y := undef) hdst rfl ⟨.refl g, R.ok, R.heap, fun n h => .inl h, .refl _ _⟩ (fun _ => den_undef))

theorem infoOf_mem {y k : Nat} : ∀ {acc : List Info}, tb (infoOf acc y) k → ∃ d ∈ acc, d.i = y ∧ tb d.anc k
  | [], h => by simp [infoOf, tb] at h
  | c :: r, h => by
    unfold infoOf at h
    cases hb : Nat.beq c.i y
    · rw [hb] at h
      obtain ⟨d, h1, h2⟩ := infoOf_mem (acc := r) h
      exact ⟨d, List.mem_cons_of_mem _ h1, h2⟩
    · rw [hb] at h
      exact ⟨c, List.mem_cons_self .., Nat.eq_of_beq_eq_true hb, h⟩

theorem ancOf_spec {acc : List Info} {k : Nat} : ∀ {ps : List Nat}, tb (ancOf acc ps) k → ∃ y ∈ ps, k = y ∨ ∃ d ∈ acc, d.i = y ∧ tb d.anc k
  | [], h => by simp [ancOf, tb] at h
  | y :: r, h => by
    have h : tb (Nat.lor (Nat.lor (Nat.shiftLeft 1 y) (infoOf acc y)) (ancOf acc r)) k := h
    rw [tb_lor, tb_lor, tb_one] at h
    rcases h with (h | h) | h
    · exact ⟨y, List.mem_cons_self .., .inl h⟩
    · exact ⟨y, List.mem_cons_self .., .inr (infoOf_mem h)⟩
    · obtain ⟨z, h1, h2⟩ := ancOf_spec (ps := r) h
      exact ⟨z, List.mem_cons_of_mem _ h1, h2⟩

theorem forceN_eq {α : Sort _} (n : Nat) (k : Nat → α) : forceN n k = k n := by cases n <;> rfl

def AncOK (ops : Array Oper) (all : List Info) (c : Info) : Prop :=
  ∃ o, ops[c.i]? = some o ∧ (∀ y ∈ preds o, y < c.i) ∧ ∀ k, tb c.anc k → ∃ y ∈ preds o, k = y ∨ ∃ d ∈ all, d.i = y ∧ tb d.anc k

/-- What a region's run in the text's order tells. -/
def Traced (P : Program) (ops : Array Oper) (g0 : G) (w0 : World) (N base : Nat) (K : St → Prop) (i n : Nat) (acc : List Info) (F : Fn) : Prop :=
  ∃ cs st', K st' ∧ st'.next = base + ops.size ∧ Chain F cs (look st'.tmps st'.heap) ∧ (∀ c ∈ cs, Runs P ops g0 w0 N base c ∧ Supp c) ∧ cs.map (fun c => c.info.i) = List.range' i n ∧
    (∀ c ∈ cs, ∀ x ∈ acc, tb c.info.anc x.i ∨ apartM x.R x.W c.info.R c.info.W = true) ∧ cs.Pairwise (fun x c => tb c.info.anc x.info.i ∨ Apart x c) ∧ ∀ c ∈ cs, AncOK ops (acc ++ cs.map (·.info)) c.info

theorem okPairs_spec {anc R W : Nat} {acc : List Info} (h : okPairs anc R W acc = true) : ∀ x ∈ acc, tb anc x.i ∨ apartM x.R x.W R W = true := fun x hx => by
  have := List.all_eq_true.1 h x hx
  simpa [tb] using this

theorem look_lit {T : List (Nat × V)} {h : Heap} {d : Nat} {t : Bool} (hd : getT T d = .bool t) : look ((d, .bool t) :: T) h = look T h := by
  funext k
  unfold look
  by_cases hk : k % 2 = 0
  · rw [if_pos hk, if_pos hk, getT_cons]
    by_cases e : k / 2 = d
    · rw [if_pos e, e, hd]
    · rw [if_neg e]
  · rw [if_neg hk, if_neg hk]

theorem trace (EO : EnvOK P E) (hS : ∀ f S, lk f specs = some S → SpecOK P f S) {ops : Array Oper} {g0 : G} {w0 : World} {N base : Nat} (hdst : ∀ o ∈ ops.toList, dstOK N o = true) {K : St → Prop} :
    ∀ (r : List Oper) (i : Nat) (acc : List Info) (st : St), ops.toList.drop i = r → i ≤ ops.size → st.next = base + i → drawOps E (call0 specs) ops.toList i r acc st K → Traced P ops g0 w0 N base K i r.length acc (look st.tmps st.heap) := by
  intro r
  induction r with
  | nil =>
    intro i acc st hr hle hn h
    have hi : ops.size ≤ i := by simpa using hr
    have e : i = ops.size := by omega
    exact ⟨[], st, h, by rw [hn, e], rfl, by simp, rfl, by simp, .nil, by simp⟩
  | cons o r ih =>
    intro i acc st hr hle hn h
    have hlt : i < ops.toList.length := by
      rcases Nat.lt_or_ge i ops.toList.length with h | h
      · exact h
      · rw [List.drop_eq_nil_of_le h] at hr; cases hr
    rw [List.drop_eq_getElem_cons hlt] at hr
    simp only [List.cons.injEq] at hr
    obtain ⟨hoi, hr⟩ := hr
    have ho : ops[i]? = some o := by
      rw [← hoi]; simp
    have hdo : dstOK N o = true := hdst o (hoi ▸ List.getElem_mem hlt)
    have join : ∀ (st1 : St) (st2 : St) (c : C), look st1.tmps st1.heap = look st.tmps st.heap → c.F = look st1.tmps st1.heap → c.info.i = i → Runs P ops g0 w0 N base c → Supp c → look st2.tmps st2.heap = app c.u c.F → st2.next = st.next + 1 →
        (okPairs c.info.anc c.info.R c.info.W acc && (preds o).all (fun y => Nat.blt y i)) = true → c.info.anc = ancOf acc (preds o) →
        drawOps E (call0 specs) ops.toList (i + 1) r (c.info :: acc) st2 K → Traced P ops g0 w0 N base K i (o :: r).length acc (look st.tmps st.heap) := by
      intro st1 st2 c hl hcF hci hrun hsupp hst2 hn2 hok hanc hd
      simp only [Bool.and_eq_true] at hok
      obtain ⟨cs, st', k1, k2, k3, k4, k5, k6, k7, k8⟩ := ih (i + 1) (c.info :: acc) st2 hr (by have : i < ops.size := (by simpa using hlt); omega) (by omega) hd
      refine ⟨c :: cs, st', k1, k2, ⟨fun k _ => by rw [hcF, hl], ?_⟩, ?_, ?_, ?_, ?_, ?_⟩
      · rw [← hl, ← hcF, ← hst2]; exact k3
      · intro d hd
        rcases List.mem_cons.1 hd with rfl | hd
        · exact ⟨hrun, hsupp⟩
        · exact k4 d hd
      · simp only [List.map_cons, List.length_cons, List.range'_succ]
        rw [k5, hci]
      · intro d hd x hx
        rcases List.mem_cons.1 hd with rfl | hd
        · exact okPairs_spec hok.1 x hx
        · exact k6 d hd x (List.mem_cons_of_mem _ hx)
      · refine List.pairwise_cons.2 ⟨fun d hd => ?_, k7⟩
        exact (k6 d hd c.info (List.mem_cons_self ..)).imp id apart_of
      · intro d hd
        rcases List.mem_cons.1 hd with rfl | hd
        · refine ⟨o, by rw [hci]; exact ho, fun y hy => ?_, fun k hk => ?_⟩
          · rw [hci]; exact blt_lt (List.all_eq_true.1 hok.2 y hy)
          · rw [hanc] at hk
            obtain ⟨y, hy, h⟩ := ancOf_spec hk
            exact ⟨y, hy, h.imp id fun ⟨e, h1, h2⟩ => ⟨e, List.mem_append_left _ h1, h2⟩⟩
        · obtain ⟨o', h1, h2, h3⟩ := k8 d hd
          refine ⟨o', h1, h2, fun k hk => ?_⟩
          obtain ⟨y, hy, h⟩ := h3 k hk
          refine ⟨y, hy, h.imp id fun ⟨e, h1, h2⟩ => ⟨e, ?_, h2⟩⟩
          simp only [List.mem_append, List.mem_cons, List.map_cons] at h1 ⊢
          rcases h1 with (h | h) | h
          · exact .inr (.inl h)
          · exact .inl h
          · exact .inr (.inr h)
    have one : ∀ st1 : St, look st1.tmps st1.heap = look st.tmps st.heap → st1.next = st.next → (o.guard = none ∨ ∃ j want d, o.guard = some (j, want) ∧ dstOf ops.toList j = some d ∧ getT st1.tmps d = .bool want) →
        drawOp E (call0 specs) ops.toList i acc st1 o (fun acc s => drawOps E (call0 specs) ops.toList (i + 1) r acc s K) → Traced P ops g0 w0 N base K i (o :: r).length acc (look st.tmps st.heap) := by
      intro st1 hl hn1 hg h
      unfold drawOp at h
      simp only [forceN_eq] at h
      obtain ⟨hok, h⟩ := guard_iff.1 h
      obtain ⟨v, δ, h1, h2, h3⟩ := stepOp_par h
      exact join st1 ⟨putD st1.tmps o.dst v, δ ++ st1.heap, st1.next + 1⟩ ⟨⟨i, ancOf acc (preds o), readM ops.toList st1 o, writeM st1 o⟩, upd o.dst v δ, look st1.tmps st1.heap⟩ hl rfl rfl
        (runs_op EO hS ho hdo (hn1.trans hn) h3 hg) (fun k hk => upd_supp h1 hk) look_step (by show st1.next + 1 = _; rw [hn1]) hok rfl h2
    have skip : ∀ st1 : St, look st1.tmps st1.heap = look st.tmps st.heap → st1.next = st.next → (∃ j want d, o.guard = some (j, want) ∧ dstOf ops.toList j = some d ∧ (getT st1.tmps d = .bool (!want) ∨ ∃ l, getT st1.tmps d = .tup l)) →
        drawSkip ops.toList i acc st1 o (fun acc s => drawOps E (call0 specs) ops.toList (i + 1) r acc s K) → Traced P ops g0 w0 N base K i (o :: r).length acc (look st.tmps st.heap) := by
      intro st1 hl hn1 hg h
      unfold drawSkip at h
      simp only [forceN_eq] at h
      obtain ⟨hok, h⟩ := guard_iff.1 h
      exact join st1 ⟨putD st1.tmps o.dst (.tup []), st1.heap, st1.next + 1⟩ ⟨⟨i, ancOf acc (preds o), readM ops.toList st1 o, writeM st1 o⟩, upd o.dst (.tup []) [], look st1.tmps st1.heap⟩ hl rfl rfl
        (runs_skip ho hdo hg) (fun k hk => upd_supp (st := st1) (o := o) (v := .tup []) (δ := []) (fun p hp => by simp at hp) hk) (by rw [← look_step]; rfl) (by show st1.next + 1 = _; rw [hn1]) hok rfl h
    unfold drawOps at h
    split at h
    · rename_i hg
      exact one st rfl rfl (.inl hg) h
    · rename_i j want hg
      split at h
      · exact h.elim
      · rename_i d hd
        split at h
        · rename_i t ht
          have ht := word_bool ht
          cases t <;> cases want <;> simp only at h
          · exact one ⟨_, _, _⟩ (look_lit ht) rfl (.inr ⟨j, _, d, hg, hd, by rw [getT_cons, if_pos rfl]⟩) h
          · exact skip ⟨_, _, _⟩ (look_lit ht) rfl ⟨j, _, d, hg, hd, .inl (by rw [getT_cons, if_pos rfl]; rfl)⟩ h
          · exact skip ⟨_, _, _⟩ (look_lit ht) rfl ⟨j, _, d, hg, hd, .inl (by rw [getT_cons, if_pos rfl]; rfl)⟩ h
          · exact one ⟨_, _, _⟩ (look_lit ht) rfl (.inr ⟨j, _, d, hg, hd, by rw [getT_cons, if_pos rfl]⟩) h
        · rename_i ht
          obtain ⟨l, ht⟩ := word_tup ht
          exact skip st rfl rfl ⟨j, want, d, hg, hd, .inr ⟨l, ht⟩⟩ h
        · exact h.elim

def Unlisted (rem : List C) (k : Nat) : Prop := ∃ c ∈ rem, c.info.i = k

theorem ready_iff {ops : Array Oper} {listed : Array Bool} {i : Nat} : i ∈ Region.ready .any ops listed ↔ ∃ o, ops[i]? = some o ∧ listed.getD i true = false ∧ ∀ y ∈ preds o, listed.getD y false = true := by
  unfold Region.ready
  simp only [List.mem_filter, List.mem_range, Bool.and_eq_true, Bool.not_eq_true']
  have hb : ∀ e : Edge, Region.binds .any e = bindsOn e := fun e => by unfold Region.binds bindsOn; cases e.ground <;> rfl
  constructor
  · rintro ⟨h1, h2, h3⟩
    refine ⟨ops[i], by simp [h1], h2, fun y hy => ?_⟩
    have h3 : (ops[i].after.all fun e => !Region.binds .any e || listed.getD e.on false) = true := by simpa [h1] using h3
    obtain ⟨e, he, rfl⟩ := List.mem_map.1 hy
    obtain ⟨he1, he2⟩ := List.mem_filter.1 he
    have := Array.all_eq_true'.1 h3 e (by simpa using he1)
    rw [hb, he2] at this
    simpa using this
  · rintro ⟨o, h1, h2, h3⟩
    obtain ⟨hlt, rfl⟩ := Array.getElem?_eq_some_iff.1 h1
    refine ⟨hlt, h2, ?_⟩
    have : (ops[i].after.all fun e => !Region.binds .any e || listed.getD e.on false) = true := by
      refine Array.all_eq_true'.2 fun e he => ?_
      rw [hb]
      cases hbe : bindsOn e with
      | false => rfl
      | true =>
        have := h3 e.on (List.mem_map.2 ⟨e, List.mem_filter.2 ⟨by simpa using he, hbe⟩, rfl⟩)
        simpa using this
    simpa [hlt] using this

theorem sim {ops : Array Oper} {g0 : G} {w0 : World} {N base : Nat} {all : List C} {Fe : Fn} {Q : Exit → Act → World → Prop} (hA : ∀ c ∈ all, AncOK ops (all.map (·.info)) c.info)
    (fin : ∀ done g a w, (∀ j ∈ done, j < ops.size) → RelF g0 w0 N base Fe done g a w → Q .normal a w) :
    ∀ (fuel : Nat) (rem : List C) (done : List Nat) (listed : Array Bool) (F : Fn) (g : G) (a : Act) (w : World), fuel = rem.length → (∀ c ∈ rem, c ∈ all) → rem.Pairwise (fun x c => x.info.i < c.info.i) →
      rem.Pairwise (fun x c => tb c.info.anc x.info.i ∨ Apart x c) → (∀ c ∈ rem, Runs P ops g0 w0 N base c ∧ Supp c) → Chain F rem Fe → RelF g0 w0 N base F done g a w → (∀ j ∈ done, j < ops.size) →
      listed.size = ops.size → (∀ k, k < ops.size → ∀ b, listed.getD k b = true ↔ ¬ Unlisted rem k) → (∀ j ∈ done, ¬ Unlisted rem j) → (∀ d ∈ all, ¬ Unlisted rem d.info.i → ∀ k, tb d.info.anc k → ¬ Unlisted rem k) →
      wpAny P .any ops Q fuel listed a w := by
  intro fuel
  induction fuel with
  | zero =>
    intro rem done listed F g a w hfuel hall hsort hpair hruns hch R hdone hsize hl hd hcl
    have : rem = [] := List.length_eq_zero_iff.1 hfuel.symm
    subst this
    have hF : F = Fe := hch
    subst hF
    refine ⟨?_, fin done g a w hdone R⟩
    refine List.eq_nil_iff_forall_not_mem.2 fun i hi => ?_
    obtain ⟨o, h1, h2, _⟩ := ready_iff.1 hi
    have := (hl i (Array.getElem?_eq_some_iff.1 h1).1 true).2 (by rintro ⟨c, hc, _⟩; simp at hc)
    rw [this] at h2; cases h2
  | succ fuel ih =>
    intro rem done listed F g a w hfuel hall hsort hpair hruns hch R hdone hsize hl hd hcl
    refine ⟨fun hnil => ?_, fun i hi => ?_⟩
    · exfalso
      match rem, hfuel with
      | c0 :: r, _ =>
        obtain ⟨o, h1, h2, _⟩ := hA c0 (hall c0 (List.mem_cons_self ..))
        have hlt := (Array.getElem?_eq_some_iff.1 h1).1
        have hmem : c0.info.i ∈ Region.ready .any ops listed := by
          refine ready_iff.2 ⟨o, h1, ?_, fun y hy => ?_⟩
          · cases hb : listed.getD c0.info.i true with
            | false => rfl
            | true => exact absurd ⟨c0, List.mem_cons_self .., rfl⟩ ((hl _ hlt _).1 hb)
          · have hy := h2 y hy
            refine (hl y (by omega) _).2 ?_
            rintro ⟨c, hc, he⟩
            rcases List.mem_cons.1 hc with rfl | hc
            · omega
            · have := (List.pairwise_cons.1 hsort).1 c hc
              omega
        rw [hnil] at hmem; cases hmem
    · obtain ⟨o, h1, h2, h3⟩ := ready_iff.1 hi
      have hlt := (Array.getElem?_eq_some_iff.1 h1).1
      have hun : Unlisted rem i := by
        refine Classical.byContradiction fun hn => ?_
        have := (hl i hlt true).2 hn
        rw [this] at h2; cases h2
      obtain ⟨c, hc, rfl⟩ := hun
      obtain ⟨pre, post, rfl⟩ := List.append_of_mem hc
      obtain ⟨o', k1, k2, k3⟩ := hA c (hall c hc)
      have ho : o' = o := by rw [h1] at k1; exact (Option.some.inj k1).symm
      subst ho
      have hanc : ∀ d ∈ all, d.info.i = c.info.i → ∀ k, tb d.info.anc k → ¬ Unlisted (pre ++ c :: post) k := by
        intro d hd he k hk
        obtain ⟨o2, j1, j2, j3⟩ := hA d hd
        have ho : o2 = o' := by rw [he, h1] at j1; exact (Option.some.inj j1).symm
        subst ho
        obtain ⟨y, hy, h⟩ := j3 k hk
        have hyl : ¬ Unlisted (pre ++ c :: post) y := (hl y (by have := j2 y hy; omega) _).1 (h3 y hy)
        rcases h with rfl | ⟨e, he1, he2, he3⟩
        · exact hyl
        · obtain ⟨d', hd', rfl⟩ := List.mem_map.1 he1
          exact hcl d' hd' (he2 ▸ hyl) k he3
      have hap : ∀ x ∈ pre, Supp x ∧ Apart x c := by
        intro x hx
        refine ⟨(hruns x (List.mem_append_left _ hx)).2, ?_⟩
        rcases (List.pairwise_append.1 hpair).2.2 x hx c (List.mem_cons_self ..) with h | h
        · exact absurd ⟨x, List.mem_append_left _ hx, rfl⟩ (hanc c (hall c hc) rfl _ h)
        · exact h
      obtain ⟨hag, hch'⟩ := hch.front (hruns c hc).2 hap
      have hsub : List.Sublist (pre ++ post) (pre ++ c :: post) := (List.Sublist.refl pre).append (List.sublist_cons_self c post)
      have hne : ∀ x ∈ pre ++ post, x.info.i ≠ c.info.i := by
        intro x hx
        have hs := List.pairwise_append.1 hsort
        rcases List.mem_append.1 hx with h | h
        · have := hs.2.2 x h c (List.mem_cons_self ..); omega
        · have := (List.pairwise_cons.1 hs.2.1).1 x h; omega
      have hun : ∀ k, Unlisted (pre ++ c :: post) k ↔ k = c.info.i ∨ Unlisted (pre ++ post) k := by
        intro k
        constructor
        · rintro ⟨x, hx, rfl⟩
          rcases List.mem_append.1 hx with h | h
          · exact .inr ⟨x, List.mem_append_left _ h, rfl⟩
          · rcases List.mem_cons.1 h with rfl | h
            · exact .inl rfl
            · exact .inr ⟨x, List.mem_append_right _ h, rfl⟩
        · rintro (rfl | ⟨x, hx, rfl⟩)
          · exact ⟨c, hc, rfl⟩
          · exact ⟨x, hsub.subset hx, rfl⟩
      have hnot : ¬ Unlisted (pre ++ post) c.info.i := fun ⟨x, hx, he⟩ => hne x hx he
      refine (hruns c hc).1 F g a w done _ Q R hag (fun hin => hd _ hin ⟨c, hc, rfl⟩) fun g' a' w' R' => ?_
      refine ih (pre ++ post) (c.info.i :: done) _ (app c.u F) g' a' w' ?_ (fun x hx => hall x (hsub.subset hx)) (hsort.sublist hsub) (hpair.sublist hsub) (fun x hx => hruns x (hsub.subset hx)) hch' R' ?_ ?_ ?_ ?_ ?_
      · simp at hfuel ⊢; omega
      · intro j hj
        rcases List.mem_cons.1 hj with rfl | hj
        · exact hlt
        · exact hdone j hj
      · simpa using hsize
      · intro k hk b
        by_cases he : k = c.info.i
        · subst he
          have : (listed.setIfInBounds c.info.i true).getD c.info.i b = true := by
            rw [Array.getD_eq_getD_getElem?, Array.getElem?_setIfInBounds_self_of_lt (by omega)]; rfl
          exact ⟨fun _ => hnot, fun _ => this⟩
        · have : (listed.setIfInBounds c.info.i true).getD k b = listed.getD k b := by
            rw [Array.getD_eq_getD_getElem?, Array.getElem?_setIfInBounds_ne (Ne.symm he), Array.getD_eq_getD_getElem?]
          rw [this, hl k hk b, hun k]
          simp [he]
      · intro j hj
        rcases List.mem_cons.1 hj with rfl | hj
        · exact hnot
        · exact fun h => hd j hj ((hun j).2 (.inr h))
      · intro d hdm hdu k hk hku
        by_cases he : d.info.i = c.info.i
        · exact hanc d hdm he k hk ((hun k).2 (.inr hku))
        · exact hcl d hdm (fun h => by rcases (hun _).1 h with h | h; exact he h; exact hdu h) k hk ((hun k).2 (.inr hku))

theorem draws_sound (EO : EnvOK P E) (hm : P.follows .mixedOrders = true) (hS : ∀ f S, lk f specs = some S → SpecOK P f S) : DrawsOK P E (call0 specs) := by
  intro id ops g0 g w0 w N st a K hdst R h
  refine wp_region_any hm ?_
  obtain ⟨cs, st', h1, h2, h3, h4, h5, _, h7, h8⟩ := trace (P := P) (g0 := g0) (w0 := w0) (N := N) (base := st.next) EO hS hdst ops.toList 0 [] st rfl (Nat.zero_le _) rfl h
  have hlen : ops.size = cs.length := by
    have := congrArg List.length h5
    simpa using this.symm
  have hR : RelF g0 w0 N st.next (look st.tmps st.heap) [] g a { w with drawn := w.drawn + 1 } :=
    { H := fun n => by rw [look_odd, R.H]
      ok := R.ok
      heap := R.heap
      names := fun n h => .inl (R.names n h)
      le := R.le
      keeps := R.keeps.trans ⟨rfl, rfl, rfl, Nat.le_refl _, fun b _ => rfl⟩
      tmps := fun t => by rw [look_even]; exact R.tmps t
      size := R.size
      defers := R.defers }
  have hidx : ∀ k, k < ops.size ↔ Unlisted cs k := by
    intro k
    have : k ∈ cs.map (fun c => c.info.i) ↔ k < ops.size := by rw [h5]; simp
    rw [← this]; simp [Unlisted]
  refine sim (P := P) (all := cs) (Fe := look st'.tmps st'.heap) h8 ?_ ops.size cs [] _ _ g a _ hlen (fun c h => h) ?_ h7 h4 h3 hR (by simp) (by simp) ?_ (by simp) ?_
  · intro done g' a' w' hd R'
    refine ⟨.normal, st', { g' with H := st'.heap }, rfl, h1, ?_⟩
    have hlk : ∀ n, lk n st'.heap = lk n g'.H := fun n => by rw [R'.H n, look_odd]
    have howned : ∀ b, G.owned { g' with H := st'.heap } b → g'.owned b := by
      rintro b ⟨n, e, he, hp, hr⟩
      exact ⟨n, e, by rw [← hlk]; exact he, hp, hr⟩
    have hle : g'.le { g' with H := st'.heap } :=
      { A := fun n h => h
        base := rfl
        fixed := fun n _ e' he hg => ⟨e', by rw [← hlk]; exact he, hg, rfl⟩
        grow := fun n _ e' he hg _ => ⟨e', by rw [← hlk]; exact he, hg, rfl, rfl, rfl, rfl, rfl⟩
        ok := fun b hb ho => ⟨hb, fun h => ho (howned b h), rfl⟩ }
    exact
      { H := rfl
        ok :=
          { basele := R'.ok.basele
            names := fun n e he => R'.ok.names n e (by rw [← hlk]; exact he)
            objs := fun n e he hp => by
              obtain ⟨j1, c, T, j2, j3, j4⟩ := R'.ok.objs n e (by rw [← hlk]; exact he) hp
              exact ⟨j1, c, T, j2, j3, j4.mono hle⟩
            inj := fun n m e e' h1 h2 => R'.ok.inj n m e e' (by rw [← hlk]; exact h1) (by rw [← hlk]; exact h2) }
        heap := R'.heap
        names := fun n h => by
          rcases R'.names n h with h | ⟨j, hj, rfl⟩
          · omega
          · have := hd j hj; omega
        le := R'.le.trans hle
        keeps := R'.keeps
        tmps := fun t => by
          have := R'.tmps t
          rw [look_even] at this
          exact this.mono hle
        size := R'.size
        defers := R'.defers }
  · have : (cs.map (fun c => c.info.i)).Pairwise (· < ·) := by rw [h5]; exact List.pairwise_lt_range'
    exact List.pairwise_map.1 this
  · intro k hk b
    have : (Array.replicate ops.size false).getD k b = false := by simp [Array.getD_eq_getD_getElem?, hk]
    rw [this]
    exact ⟨fun h => (by cases h), fun h => absurd ((hidx k).1 hk) h⟩
  · intro d hd hun
    exact absurd ⟨d, hd, rfl⟩ hun
end
end Go.Sx

namespace Go.Sx
section
variable {P : Program}

def zero1 : Value → Option V
  | .int k n => some (.int k n)
  | .bool b => some (.bool b)
  | .string s => some (.str s)
  | .pointer none => some .nilptr
  | .slice none 0 0 => some .nilsl
  | .nilFunc => some .nilfn
  | _ => none
def intsOf (k : IntKind) : List Value → Option (List Int)
  | [] => some []
  | .int k' n :: r => match kindEq k k', intsOf k r with
    | true, some l => some (n :: l)
    | _, _ => none
  | _ => none
def zeros1 : List Value → Option (List V)
  | [] => some []
  | v :: r => match zero1 v, zeros1 r with
    | some x, some l => some (x :: l)
    | _, _ => none
def zeroOf (v : Value) : Option V :=
  match v with
  | .agg vs => match vs.toList with
    | .int k n :: r => (match intsOf k (.int k n :: r) with | some l => some (.ints k l) | none => (match zeros1 (.int k n :: r) with | some l => some (.agg l) | none => none))
    | l => (match zeros1 l with | some l => some (.agg l) | none => none)
  | v => zero1 v

theorem zero1_sound {hp : Array Obj} {ok : Nat → Prop} {v : Value} {x : V} (h : zero1 v = some x) : DenR hp ok x v ∧ v.one = true ∧ x.cellish = true ∧ v.cells.size = 1 := by
  unfold zero1 at h
  split at h <;> first | (cases h; refine ⟨?_, rfl, rfl, rfl⟩; constructor) | (cases h)

theorem kindEq_eq' {k k' : IntKind} (h : kindEq k k' = true) : k = k' := by cases k <;> cases k' <;> first | rfl | (simp [kindEq] at h)

theorem intsOf_sound {k : IntKind} : ∀ {vs : List Value} {l : List Int}, intsOf k vs = some l → vs = l.map (Value.int k)
  | [], l, h => by simp [intsOf] at h; subst h; rfl
  | .int k' n :: r, l, h => by
    unfold intsOf at h
    split at h
    · rename_i m h1 h2
      cases h
      rw [intsOf_sound h2, kindEq_eq' h1]; rfl
    · cases h
  | .bool _ :: _, _, h | .string _ :: _, _, h | .pointer _ :: _, _, h | .slice .. :: _, _, h | .nilFunc :: _, _, h | .agg _ :: _, _, h | .tuple _ :: _, _, h => by simp [intsOf] at h
  | v :: r, l, h => by
    cases v <;> first | (simp [intsOf] at h; done) | skip
    rename_i k' n
    unfold intsOf at h
    split at h
    · rename_i m h1 h2
      cases h
      rw [intsOf_sound h2, kindEq_eq' h1]; rfl
    · cases h

theorem zeros1_sound {hp : Array Obj} {ok : Nat → Prop} : ∀ {vs : List Value} {l : List V}, zeros1 vs = some l → l.length = vs.length ∧ (∀ i (h' : i < vs.length), vs[i].one = true) ∧ ∀ i (h : i < l.length) (h' : i < vs.length), DenR hp ok l[i] vs[i]
  | [], l, h => by simp [zeros1] at h; subst h; exact ⟨rfl, fun i h => by simp at h, fun i h => by simp at h⟩
  | v :: r, l, h => by
    unfold zeros1 at h
    split at h
    · rename_i x m h1 h2
      cases h
      obtain ⟨a, b, c⟩ := zeros1_sound (hp := hp) (ok := ok) h2
      obtain ⟨d, e, _⟩ := zero1_sound (hp := hp) (ok := ok) h1
      refine ⟨by simp [a], fun i hi => ?_, fun i hi hi' => ?_⟩
      · cases i with
        | zero => exact e
        | succ i => exact b i (by simpa using hi)
      · cases i with
        | zero => exact d
        | succ i => exact c i (by simpa using hi) (by simpa using hi')
    · cases h

def fieldsOK (P : Program) : List Field → Bool
  | [] => true
  | f :: r => (match P.info? f.type with | some i => !Nat.beq i.size 0 | none => false) && fieldsOK P r
theorem fieldsOK_spec : ∀ {l : List Field}, fieldsOK P l = true → ∀ f ∈ l, ∃ i, P.info? f.type = some i ∧ i.size ≠ 0
  | f :: r, h, g, hg => by
    simp only [fieldsOK, Bool.and_eq_true] at h
    rcases List.mem_cons.1 hg with rfl | hg
    · have h1 := h.1
      split at h1
      · rename_i i hi
        exact ⟨i, hi, fun e => by rw [e] at h1; simp at h1⟩
      · cases h1
    · exact fieldsOK_spec h.2 g hg

def kindOf (P : Program) : TypeDesc → Option TK
  | .int k => some (.int k)
  | .string => some .str
  | .bool => some .bool
  | .pointer _ => some .ptr
  | .slice e => some (.slice e)
  | .array n e => some (.array n e)
  | .struct fs => match fieldsOK P fs.toList with | true => some (.struct (fs.toList.map fun f => (f.offset, f.type))) | false => none
  | _ => some .other

theorem kindOf_sound {u : TypeDesc} {k : TK} (h : kindOf P u = some k) : KindOK P k u := by
  unfold kindOf at h
  split at h
  · cases h; rfl
  · cases h; rfl
  · cases h; rfl
  · cases h; exact ⟨_, rfl⟩
  · cases h; rfl
  · cases h; rfl
  · split at h
    · rename_i hf
      cases h
      exact ⟨_, rfl, rfl, fieldsOK_spec hf⟩
    · cases h
  · cases h; trivial

def sizeIs : V → Nat → Bool
  | .ints _ l, n => Nat.beq l.length n
  | .agg l, n => Nat.beq l.length n
  | _, n => Nat.beq n 1

def tdOf (P : Program) (t : Nat) (sk : SK) : Option TD :=
  match P.info? t, P.underlying t with
  | some i, some u => match i.zero with
    | some z => match zeroOf z, kindOf P u with
      | some zv, some k => bif Nat.ble i.bytes 65536 && Nat.ble 1 i.size && Nat.beq z.cells.size i.size && (isAggD u || Nat.beq i.size 1) && sizeIs zv i.size then some ⟨i.size, isAggD u, zv, k, sk⟩ else none
      | _, _ => none
    | none => none
  | _, _ => none

theorem tdOf_sound {t : Nat} {sk : SK} {d : TD} (h : tdOf P t sk = some d) : TDOK P t d := by
  unfold tdOf at h
  split at h
  · rename_i i u hi hu
    split at h
    · rename_i z hz
      split at h
      · rename_i zv k hzv hk
        cases hb : (Nat.ble i.bytes 65536 && Nat.ble 1 i.size && Nat.beq z.cells.size i.size && (isAggD u || Nat.beq i.size 1) && sizeIs zv i.size) <;> rw [hb] at h
        · cases h
        · cases h
          simp only [Bool.and_eq_true, Bool.or_eq_true] at hb
          obtain ⟨⟨⟨⟨b1, b2⟩, b3⟩, b4⟩, b5⟩ := hb
          have hD : DenR #[] (fun _ => False) zv z := by
            unfold zeroOf at hzv
            split at hzv
            · rename_i vs
              have harr : vs = vs.toList.toArray := by simp
              split at hzv
              · rename_i k' n r hl
                split at hzv
                · rename_i l hl2
                  cases hzv
                  rw [harr, hl, intsOf_sound hl2]
                  exact .ints _ _
                · split at hzv
                  · rename_i l hl2
                    cases hzv
                    rw [harr, hl]
                    obtain ⟨a, b, c⟩ := zeros1_sound (hp := #[]) (ok := fun _ => False) hl2
                    exact .agg _ _ a b c
                  · cases hzv
              · split at hzv
                · rename_i l hl2
                  cases hzv
                  obtain ⟨a, b, c⟩ := zeros1_sound (hp := #[]) (ok := fun _ => False) hl2
                  rw [harr]
                  exact .agg _ _ a b c
                · cases hzv
            · exact (zero1_sound hzv).1
          refine ⟨⟨i, z, hi, rfl, ble_le b1, hz, hD, Nat.eq_of_beq_eq_true b3⟩, ⟨u, hu, rfl, kindOf_sound hk⟩, ble_le b2, fun o ho => ?_, fun ha => ?_⟩
          · show lenO o = i.size ∧ strO o = 1
            have ho : asObj zv = some o := ho
            cases zv <;> simp only [asObj, V.cellish] at ho <;> first
              | (cases ho; done)
              | (cases ho; simp only [sizeIs] at b5; exact ⟨(Nat.eq_of_beq_eq_true b5).symm, rfl⟩)
              | (cases ho; simp only [sizeIs] at b5; exact ⟨Nat.eq_of_beq_eq_true b5, rfl⟩)
          · have ha : isAggD u = false := ha
            rcases b4 with h | h
            · rw [ha] at h; cases h
            · exact Nat.eq_of_beq_eq_true h
      · cases h
    · cases h
  · cases h

def zl (n : Nat) : List Int := List.replicate n 0
theorem lk_memA {α : Type _} {n : Nat} {e : α} : ∀ {l : List (Nat × α)}, lk n l = some e → (n, e) ∈ l
  | (m, x) :: r, h => by
    unfold lk at h
    cases hb : Nat.beq n m <;> rw [hb] at h
    · exact List.mem_cons_of_mem _ (lk_memA h)
    · have := Nat.eq_of_beq_eq_true hb
      subst this
      cases h; exact List.mem_cons_self ..
theorem envOK_of {l : List (Nat × TD)} (h : l.map (fun p => tdOf P p.1 p.2.seq) = l.map (fun p => some p.2)) : EnvOK P ⟨fun t => lk t l, []⟩ := by
  intro t d hd
  have hm := lk_memA hd
  have := List.map_inj_left.1 h _ hm
  exact tdOf_sound this
end
end Go.Sx

namespace Go.Sx
section
variable {P : Program} {E : Env}

def DenRL (hp : Array Obj) (ok : Nat → Prop) (l : List V) (vs : List Value) : Prop := l.length = vs.length ∧ ∀ i (h : i < l.length) (h' : i < vs.length), DenR hp ok l[i] vs[i]

/-- How a value is read as an argument. -/
structure Arg (α : Type) where
  is : V → Bool
  of : V → α
  to : α → V
  weak : ∀ {hp ok v x}, is v = true → DenR hp ok v x → DenR hp ok (to (of v)) x
  back : ∀ a, of (to a) = a
structure Args (α : Type) where
  n : Nat
  is : List V → Bool
  of : List V → α
  to : α → List V
  len : ∀ l, is l = true → l.length = n
  weak : ∀ {hp ok l vs}, is l = true → DenRL hp ok l vs → DenRL hp ok (to (of l)) vs
  back : ∀ a, of (to a) = a

theorem DenRL.cons {hp : Array Obj} {ok : Nat → Prop} {v : V} {x : Value} {l : List V} {vs : List Value} (h : DenR hp ok v x) (hl : DenRL hp ok l vs) : DenRL hp ok (v :: l) (x :: vs) :=
  ⟨by simp [hl.1], fun i h1 h2 => by
    cases i with
    | zero => exact h
    | succ i => exact hl.2 i (by simpa using h1) (by simpa using h2)⟩

def Args.nil : Args Unit where
  n := 0
  is := fun l => match l with | [] => true | _ => false
  of := fun _ => ()
  to := fun _ => []
  len := fun l h => by cases l <;> first | rfl | cases h
  weak := fun {_ _ l _} h d => by cases l <;> first | exact d | cases h
  back := fun _ => rfl

def Args.cons {α β : Type} (p : Arg α) (q : Args β) : Args (α × β) where
  n := q.n + 1
  is := fun l => match l with | v :: r => p.is v && q.is r | _ => false
  of := fun l => match l with | v :: r => (p.of v, q.of r) | [] => (p.of .any, q.of [])
  to := fun a => p.to a.1 :: q.to a.2
  len := fun l h => by
    cases l with
    | nil => cases h
    | cons v r =>
      simp only [Bool.and_eq_true] at h
      simp [q.len r h.2]
  weak := fun {_ _ l vs} h d => by
    cases l with
    | nil => cases h
    | cons v r =>
      simp only [Bool.and_eq_true] at h
      cases vs with
      | nil => have := d.1; simp at this
      | cons x xs =>
        have h1 := d.2 0 (by simp) (by simp)
        have h2 : DenRL _ _ r xs := ⟨by simpa using d.1, fun i a b => d.2 (i + 1) (by simpa using a) (by simpa using b)⟩
        exact .cons (p.weak h.1 h1) (q.weak h.2 h2)
  back := fun a => by simp [p.back, q.back]

def mk {α β : Type} (A : Args α) (req : Option (α → Prop)) (f : α → β) (res : β → V) (named := false) (own := false) : Spec where
  Y := β
  shape := A.is
  req := match req with | none => none | some r => some (fun l => r (A.of l))
  val := fun l => f (A.of l)
  res := res
  named := named
  own := own

def meet {β : Type} (own : Bool) (res : β → V) (y : β) : CallK := fun v h _ => match own with | false => retV h v = res y | true => ownV h v = res y

/-- Contracts that hold. -/
def Good (P : Program) (l : List (Nat × Spec)) : Prop := ∀ f S, lk f l = some S → SpecOK P f S
theorem Good.nil : Good P [] := fun f S h => by simp [lk] at h
theorem Good.cons {f : Nat} {S : Spec} {l : List (Nat × Spec)} (h : SpecOK P f S) (k : Good P l) : Good P ((f, S) :: l) := fun g T hg => by
  rw [lk_cons] at hg
  by_cases e : g = f
  · subst e; rw [if_pos rfl] at hg; cases hg; exact h
  · rw [if_neg e] at hg; exact k g T hg

abbrev Fns := List (Nat × (Func × (Nat → Option Ann)))
def callN (E : Env) (specs : List (Nat × Spec)) (fuel : Nat) (fns : Fns) : Nat → Handler
  | 0 => call0 specs
  | n + 1 => call1 E (callN E specs fuel fns n) (call0 specs) fuel fns

theorem callN_sound (EO : EnvOK P E) (hm : P.follows .mixedOrders = true) {specs : List (Nat × Spec)} (hS : Good P specs) {fuel : Nat} {fns : Fns} (hF : FnsOK P fns) : ∀ n, HandlerOK P (callN E specs fuel fns n)
  | 0 => call0_sound hS
  | n + 1 => call1_sound EO (callN_sound EO hm hS hF n) (draws_sound EO hm hS) hF

theorem FnsOK.nil : FnsOK P [] := fun f fn ann h => by simp [lk] at h
theorem FnsOK.cons {f : Nat} {fn : Func} {ann : Nat → Option Ann} {l : Fns} (h1 : P.funcs[f]? = some fn) (h2 : fnOK fn 0 = true) (k : FnsOK P l) : FnsOK P ((f, (fn, ann)) :: l) := fun g gn an hg => by
  rw [lk_cons] at hg
  by_cases e : g = f
  · subst e; rw [if_pos rfl] at hg; cases hg; exact ⟨h1, h2⟩
  · rw [if_neg e] at hg; exact k g gn an hg

/-- One run for a contract. -/
def run1 (E : Env) (specs : List (Nat × Spec)) (fuel : Nat) (fns : Fns) (depth : Nat) (ann : Nat → Option Ann) (fn : Func) (args : List V) (K : CallK) : Prop :=
  runFn E (callN E specs fuel fns depth) (call0 specs) fuel ann fn args [] 0 K

theorem mk_ok (EO : EnvOK P E) (hm : P.follows .mixedOrders = true) {specs : List (Nat × Spec)} (hS : Good P specs) {fuel : Nat} {fns : Fns} (hF : FnsOK P fns) {depth : Nat} {f : Nat} {fn : Func} (hf : P.funcs[f]? = some fn) (hok : fnOK fn 0 = true)
    {α β : Type} {ann : α → Nat → Option Ann} {A : Args α} (hlen : Nat.ble A.n fn.ntmps = true) {req : Option (α → Prop)} {g : α → β} {res : β → V} {named own : Bool} (hown : own = true → ∀ y, ∃ o, res y = .rs false o)
    (H : ∀ a, (∀ r, req = some r → r a) → run1 E specs fuel fns depth (ann a) fn (A.to a) (meet own res (g a))) : SpecOK P f (mk A req g res named own) := by
  have HC := callN_sound (fuel := fuel) EO hm hS hF depth
  have HD := draws_sound EO hm hS
  intro args w vals hlen' hargs hsh hreq
  have hsh : A.is args = true := hsh
  have hw := A.weak hsh (hp := w.heap) (ok := allOk w.heap) (vs := vals) ⟨hlen', hargs⟩
  let S' : Spec := { mk A req g res named own with shape := fun l => A.is l, val := fun _ => g (A.of args), req := none }
  have hto : (A.to (A.of args)).length = A.n := hw.1.trans (hlen'.symm.trans (A.len _ hsh))
  have := specOK_of_run (f := f) EO HC HD (fuel := fuel) (ann := ann (A.of args)) hf { mk A req g res named own with shape := fun l => Nat.beq l.length A.n, val := fun _ => g (A.of args), req := some (fun l => l = A.to (A.of args)) } hok (fun l hl => by
      have := Nat.eq_of_beq_eq_true hl
      rw [this]; exact ble_le hlen) hown (fun l _ hr => by
      have hl : l = A.to (A.of args) := hr _ rfl
      subst hl
      have hq : ∀ r, req = some r → r (A.of args) := fun r hr' => hreq (fun l => r (A.of l)) (by simp [mk, hr'])
      have := H (A.of args) hq
      exact this)
  exact this (A.to (A.of args)) w vals hw.1 hw.2 (by show Nat.beq _ _ = true; rw [hto]; exact Nat.beq_refl _) (fun r hr => by cases hr; rfl)
end

attribute [irreducible] run1

/-! ### The kinds of arguments -/
def aInt (k : IntKind) : Arg Int where
  is := fun v => match v with | .int k' _ => kindEq k k' | _ => false
  of := fun v => match v with | .int _ n => n | _ => 0
  to := fun n => .int k n
  weak := fun {_ _ v x} h d => by
    cases v <;> first | (simp at h; done) | skip
    have := kindEq_eq' h; subst this; exact d
  back := fun _ => rfl
def aBool : Arg Bool where
  is := fun v => match v with | .bool _ => true | _ => false
  of := fun v => match v with | .bool b => b | _ => false
  to := fun n => .bool n
  weak := fun {_ _ v x} h d => by cases v <;> first | (simp at h; done) | exact d
  back := fun _ => rfl

/-- Numbers out of cells. -/
def cellsOf (k : IntKind) : List V → Option (List Int)
  | [] => some []
  | .int k' n :: r => (match kindEq k k' with
    | true => (match cellsOf k r with | some l => some (n :: l) | none => none)
    | false => none)
  | _ => none
theorem cellsOf_sound {hp : Array Obj} {ok : Nat → Prop} {k : IntKind} : ∀ {l : List V} {m : List Int} {vs : List Value}, cellsOf k l = some m → DenRL hp ok l vs → vs = m.map (Value.int k)
  | [], m, vs, h, d => by
    simp [cellsOf] at h; subst h
    have := d.1; simp at this
    exact List.length_eq_zero_iff.1 this.symm
  | v :: r, m, vs, h, d => by
    cases v <;> first | (simp [cellsOf] at h; done) | skip
    rename_i k' n
    unfold cellsOf at h
    split at h
    · rename_i hk
      split at h
      · rename_i l hl
        cases h
        cases vs with
        | nil => have := d.1; simp at this
        | cons x xs =>
          have h1 := d.2 0 (by simp) (by simp)
          have h2 : DenRL hp ok r xs := ⟨by simpa using d.1, fun i a b => d.2 (i + 1) (by simpa using a) (by simpa using b)⟩
          have hx : x = .int k' n := by
            have h1 : DenR hp ok (.int k' n) x := h1
            cases h1; rfl
          rw [cellsOf_sound hl h2, hx, kindEq_eq' hk]; rfl
      · cases h
    · cases h

def intsIn (k : IntKind) (v : V) : Option (List Int) :=
  match v with
  | .ints k' l => (match kindEq k k' with | true => some l | false => none)
  | .agg l => cellsOf k l
  | _ => none
theorem intsIn_sound {hp : Array Obj} {ok : Nat → Prop} {k : IntKind} {v : V} {x : Value} {l : List Int} (h : intsIn k v = some l) (d : DenR hp ok v x) : DenR hp ok (.ints k l) x := by
  unfold intsIn at h
  split at h
  · rename_i k' m
    split at h
    · rename_i hk
      cases h
      rw [kindEq_eq' hk]; exact d
    · cases h
  · cases d with
    | agg _ vs h1 h2 h3 => rw [cellsOf_sound h ⟨h1, h3⟩]; exact .ints _ _
  · cases h
def intsD (k : IntKind) (v : V) : List Int := match intsIn k v with | some l => l | none => []

/-- An array of n numbers, read by rd. -/
def aArr {α : Type} (k : IntKind) (n : Nat) (rd : List Int → α) (wr : α → List Int) (h : ∀ l, l.length = n → wr (rd l) = l) (hb : ∀ a, rd (wr a) = a) : Arg α where
  is := fun v => match intsIn k v with | some l => Nat.beq l.length n | none => false
  of := fun v => rd (intsD k v)
  to := fun a => .ints k (wr a)
  weak := fun {_ _ v x} hv d => by
    unfold intsD
    cases hi : intsIn k v with
    | none => rw [hi] at hv; cases hv
    | some l =>
      rw [hi] at hv
      simp only []
      rw [h l (Nat.eq_of_beq_eq_true hv)]
      exact intsIn_sound hi d
  back := fun a => by
    have : intsD k (.ints k (wr a)) = wr a := by cases k <;> rfl
    rw [this, hb]

def aEl : Arg El := aArr .u64 8 El.ofL El.toL (fun l h => by
  match l, h with
  | [_, _, _, _, _, _, _, _], _ => rfl) (fun _ => rfl)
def aPt : Arg Pt := aArr .u64 24 Pt.ofL Pt.toL (fun l h => by
  match l, h with
  | [_, _, _, _, _, _, _, _, _, _, _, _, _, _, _, _, _, _, _, _, _, _, _, _], _ => rfl) (fun _ => rfl)

/-- A slice of bytes, or nil. -/
def aBytes : Arg (List Int) where
  is := fun v => match v with | .rs _ (.ints .u8 _) => true | .nilsl => true | _ => false
  of := fun v => match v with | .rs _ (.ints .u8 l) => l | _ => []
  to := fun l => .rs false (.ints .u8 l)
  weak := fun {_ _ v x} hv d => by
    cases v <;> first | (simp at hv; done) | skip
    · cases d; exact .rs0 _ _ _ rfl
    · rename_i fr o
      cases o <;> first | (simp at hv; done) | skip
      rename_i k l
      cases k <;> first | (simp at hv; done) | skip
      cases d with
      | rs _ b off cap h1 h2 h3 => exact .rs _ b off cap h1 h2 h3
      | rs0 _ ao cap h => exact .rs0 _ ao cap h
  back := fun _ => rfl
end Go.Sx
