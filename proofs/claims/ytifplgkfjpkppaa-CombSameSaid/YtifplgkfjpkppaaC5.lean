/-
  A part of a proof: the lemmas that the last text joins. No conditions.
-/
import Derived.WalkKit
import Derived.ProofKit
import Derived.OpenShut
import Derived.Carry
import Derived.Test.YtifplgkfjpkppaaC4
set_option linter.unusedSimpArgs false
set_option linter.unusedVariables false
namespace Go.Sx
open Go.ChangeShapes Go.WideShapes Go.ChangeAt Go.RowKit
section
variable {H : Type} {enc : TypeId × Value → H} {P : Program} {W : World}

/-- A contract gives the call. -/
theorem calls_of_goes {f : Nat} {fn : Func} (hf : P.funcs[f]? = some fn) (hb : fn.body.isNone = false) (hn : (fn.name == "runtime.NumGoroutine") = false) {args : Array Value} {w : World} {Q : Ending → World → Prop} (h : Goes P f args w Q) : Calls P f args w Q := by
  rcases h with ⟨_, h⟩ | ⟨y, w', h, _⟩
  · exact h
  · exfalso
    unfold callFunc at h
    rw [run_bind] at h
    have hp : (program : Sem Program).run P w = .ok P w := rfl
    rw [hp] at h
    simp only [hf, hn, hb] at h
    simp [run_pure] at h
theorem keeps_below {w w' : World} (h : Keeps w.heap.size w w') : Below w.heap.size w w' := ⟨h.os, h.tape, h.output, h.size, h.block⟩

/-- A law's call: true, and what was there stays. -/
theorem law_calls {f : Nat} {fn : Func} {α : Type} {A : Args α} {req : Option (α → Prop)} (h : SpecOK P f (mk A req (fun _ => true) (fun b => V.bool b) false false)) (hf : P.funcs[f]? = some fn) (hb : fn.body.isNone = false) (hn : (fn.name == "runtime.NumGoroutine") = false)
    {w : World} {vals : List Value} {vs : List V} (hsh : A.is vs = true) (hreq : ∀ r, req = some r → r (A.of vs)) (hd : DenRL w.heap (allOk w.heap) vs vals) :
    Calls P f vals.toArray w fun e w' => e = .returned (.bool true) ∧ Below w.heap.size w w' := by
  refine (calls_of_goes hf hb hn (h vs w vals hd.1 hd.2 hsh (fun r hr => ?_))).mono ?_
  · cases req with
    | none => simp [mk] at hr
    | some q =>
      have : r = fun l => q (A.of l) := by simpa [mk] using hr.symm
      subst this
      exact hreq q rfl
  · rintro e w' ⟨y, he, hk, hr⟩
    refine ⟨?_, keeps_below hk⟩
    have hr : DenRes w'.heap _ (.bool true) y := hr
    cases hr with
    | one _ _ h => cases h; exact he

/-! ### Arguments, read -/
theorem slice_den {t e : TypeId} {k : IntKind} {v : Value} {d : DataW H} {ps : List MemPlace} {r : Reach} {b0 : Nat} (ht : P.underlying t = some (.slice e)) (he : P.underlying e = some (.int k)) (hc : P.cellsOf e = 1)
    (hval : Value.okWide P W r b0 t v) (h : DataW.Trod enc P W 0 (fun _ => true) true t v d ps) : ∃ l : List Int, (∀ n ∈ l, (Lit.int k n).wf = true) ∧ DenR W.heap (allOk W.heap) (.rs false (.ints k l)) v := by
  obtain ⟨fuel, hf⟩ := h
  obtain ⟨ao, len, cap, rfl⟩ := okWide_slice ht hval
  rcases open_ints ht he hc hf with ⟨h1, _⟩ | ⟨a, len', cap', zs, h1, _, hle, _, hzl, _, hcell, hwf⟩
  · have h1 : [Value.slice ao len cap] = [.slice none 0 0] := h1
    simp only [List.cons.injEq, Value.slice.injEq, and_true] at h1
    obtain ⟨rfl, rfl, rfl⟩ := h1
    exact ⟨[], fun n hn => by simp at hn, .rs0 _ _ _ rfl⟩
  · have h1 : [Value.slice ao len cap] = [.slice (some a) len' cap'] := h1
    simp only [List.cons.injEq, Value.slice.injEq, and_true] at h1
    obtain ⟨rfl, rfl, rfl⟩ := h1
    simp only [if_true] at hzl
    rcases Nat.eq_zero_or_pos len with h0 | hpos
    · subst h0
      exact ⟨[], fun n hn => by simp at hn, .rs0 _ _ _ rfl⟩
    · obtain ⟨b, off, rfl, hc⟩ := ints_at hcell (by omega)
      refine ⟨zs.take len, fun n hn => hwf n (List.mem_of_mem_take hn), ?_⟩
      have hlen : (zs.take len).length = len := by rw [List.length_take]; omega
      have hc0 := hc 0 (by omega)
      have hlt : b < W.heap.size := by
        rcases Nat.lt_or_ge b W.heap.size with h | h
        · exact h
        · exfalso
          have : W.heap[b]? = none := by simp [h]
          simp [World.cell?, this] at hc0
      have hob : ∃ c T fz, W.heap[b]? = some (.cells c T fz) ∧ ∀ j, j < zs.length → c[off + j]? = some (.int k (zs.getD j 0)) := by
        cases hq : W.heap[b]? with
        | none => simp [World.cell?, hq] at hc0
        | some o =>
          cases o with
          | cells c T fz => exact ⟨c, T, fz, rfl, fun j hj => by have := hc j hj; simpa [World.cell?, hq] using this⟩
          | map _ _ => simp [World.cell?, hq] at hc0
          | _ => simp [World.cell?, hq] at hc0
      obtain ⟨c, T, fz, hq, hcc⟩ := hob
      have hD := DenR.rs (hp := W.heap) (ok := allOk W.heap) (.ints k (zs.take len)) b off cap hlt (.ints k _ b off c T fz hq fun i hi => by
        rw [hlen] at hi
        rw [hcc i (by omega)]
        congr 2
        rw [List.getElem_take, List.getD_eq_getElem?_getD, List.getElem?_eq_getElem (by omega)]
        rfl) (by show (zs.take len).length ≤ cap; omega)
      have e : lenO (.ints k (zs.take len)) = len := hlen
      rw [e] at hD
      exact hD

theorem array_den {t e : TypeId} {n : Nat} {k : IntKind} {v : Value} {d : DataW H} {ps : List MemPlace} {r : Reach} {b0 : Nat} (ht : P.underlying t = some (.array n e)) (he : P.underlying e = some (.int k)) (hc : P.cellsOf e = 1) (hct : P.cellsOf t = n)
    (hval : Value.okWide P W r b0 t v) (h : DataW.Trod enc P W 0 (fun _ => true) true t v d ps) : ∃ l : List Int, l.length = n ∧ (∀ x ∈ l, (Lit.int k x).wf = true) ∧ DenR W.heap (allOk W.heap) (.ints k l) v := by
  obtain ⟨fuel, hf⟩ := h
  have hv : ∃ cs, v = .agg cs ∧ cs.size = P.cellsOf t := by
    simp only [Value.okWide, ht] at hval
    obtain ⟨cs, h1, h2, _⟩ := hval
    exact ⟨cs, h1, h2⟩
  obtain ⟨cs, rfl, hsz⟩ := hv
  obtain ⟨xs, m, _, _, hlen, hxs, hel⟩ := DataW.trod_array ht hf
  have hcs : (Value.agg cs).cells.toList = cs.toList := rfl
  rw [hcs] at hel hlen
  have each : ∀ i, i < n → ∃ x : Int, cs.toList[i]? = some (.int k x) ∧ (Lit.int k x).wf = true := by
    intro i hi
    have h1 := hel i hi
    rw [hc, Nat.mul_one, List.getElem?_eq_getElem (by omega)] at h1
    obtain ⟨x, h2, _, h3⟩ := DataW.trod_int he h1
    refine ⟨x, ?_, h3⟩
    have h4 := congrArg (fun l => l[0]?) h2
    simpa using h4
  have hn : cs.toList.length = n := by rw [hlen, hct]
  let f : Nat → Int := fun i => match cs.toList[i]? with | some (.int _ x) => x | _ => 0
  have hf2 : ∀ i, i < n → cs.toList[i]? = some (.int k (f i)) ∧ (Lit.int k (f i)).wf = true := by
    intro i hi
    obtain ⟨x, h1, h2⟩ := each i hi
    have e : f i = x := by show (match cs.toList[i]? with | some (.int _ x) => x | _ => 0) = x; rw [h1]
    rw [e]; exact ⟨h1, h2⟩
  refine ⟨(List.range n).map f, by simp, fun x hx => ?_, ?_⟩
  · obtain ⟨i, hi, rfl⟩ := List.mem_map.1 hx
    exact (hf2 i (List.mem_range.1 hi)).2
  · have e : cs = ((List.range n).map f |>.map (Value.int k)).toArray := by
      apply Array.ext'
      apply List.ext_getElem?
      intro i
      by_cases hi : i < n
      · rw [(hf2 i hi).1]; simp [hi]
      · rw [List.getElem?_eq_none (by omega)]; simp [hi]
    rw [e]
    exact .ints _ _

/-! ### Behind the call -/
theorem trodAll_stays (hl : laidOutB P = true) {W' : World} {sp : Nat → Bool} (hb : Below W.heap.size W W') : ∀ {ts : List TypeId} {vs : List Value} {ds : List (DataW H)} {ps : List MemPlace}, (∀ t ∈ ts, P.readableRec t = true ∧ t < P.types.size) →
    DataW.TrodAll enc P W 0 (fun _ => true) true ts vs ds ps → (∀ p ∈ ps, p.block < W.heap.size) → (∀ p ∈ ps, sp p.block = true) → DataW.TrodAll enc P W' 0 sp true ts vs ds ps
  | [], [], [], _, _, h, _, _ => h
  | t :: ts, v :: vs, d :: ds, _, hr, ⟨p, q, h1, h2, e⟩, hlt, hs =>
    ⟨p, q, WideElems.Trod_stays hl (hr t (List.mem_cons_self ..)).1 (hr t (List.mem_cons_self ..)).2 h1 (fun x hx => hb.same (hlt x (by rw [e]; exact List.mem_append_left _ hx))) (fun x hx => hs x (by rw [e]; exact List.mem_append_left _ hx)),
      trodAll_stays hl hb (fun t ht => hr t (List.mem_cons_of_mem _ ht)) h2 (fun x hx => hlt x (by rw [e]; exact List.mem_append_right _ hx)) (fun x hx => hs x (by rw [e]; exact List.mem_append_right _ hx)), e⟩
theorem law_post {f : Func} {s : ChangeSpec} {W' : World} {args : Array Value} {ds gs : List (DataW H)} {before : List MemPlace} {tb : TypeId}
    (hl : laidOutB P = true) (hr : ∀ t ∈ f.params.toList, P.readableRec t = true ∧ t < P.types.size) (hres : f.resultTypes = #[tb]) (ht : P.underlying tb = some .bool) (hvars : s.vars = [])
    (hfn : ∀ ds : List (DataW H), ds.length = f.params.size → s.fn H ds = { results := [.lit (.bool true)], args := ds }) (hlen : ds.length = f.params.size)
    (hW : DataW.Whole enc P f.params.toList s.vars false W args.toList ds gs before) (hb : Below W.heap.size W W') : s.post enc P f false true false false W args (.bool true) W' := by
  have hW' := hW
  obtain ⟨p, q, hA, hV, hps, hz, _⟩ := hW
  rw [hvars] at hV
  obtain ⟨hg, hq⟩ := trodVars_none hV
  subst hg
  subst hq
  rw [List.append_nil] at hps
  subst hps
  have hlt : ∀ x ∈ before, x.block < W.heap.size := fun x hx => by simpa using hW'.lt x hx
  have hf := hfn (ds ++ []) (by rw [List.append_nil]; exact hlen)
  have e1 : (s.fn H (ds ++ [])).args = ds := by rw [hf, List.append_nil]
  have e2 : (s.fn H (ds ++ [])).results = [.lit (.bool true)] := by rw [hf]
  have e3 : (s.fn H (ds ++ [])).vars = [] := by rw [hf]
  have hres1 : ∀ (b : Nat) (sp : Nat → Bool) (hd : Bool), DataW.TrodAll enc P W' b sp hd f.resultTypes.toList ((Value.bool true).resultList f.resultTypes.size) (s.fn H (ds ++ [])).results [] := fun b sp hd => by
    rw [e2, hres]
    exact trodAll_cons_mk (shut_bool ht true) trodAll_mk0
  have hargs : ∀ sp : Nat → Bool, (∀ p ∈ before, sp p.block = true) → DataW.TrodAll enc P W' 0 sp true f.params.toList args.toList (s.fn H (ds ++ [])).args before := fun sp hs => by
    rw [e1]; exact trodAll_stays hl hb hr hA hlt hs
  have hvv : ∀ sp : Nat → Bool, DataW.TrodVars enc P W' sp s.vars (s.fn H (ds ++ [])).vars [] := fun sp => by
    rw [e3, hvars]; exact rfl
  have hold : ∀ p ∈ before, (fun b => decide (b < W.heap.size)) p.block = true := fun p hp => by simpa using hlt p hp
  refine ⟨ds, [], before, [], before, [], hW', hres1 _ _ _, hargs _ hold, hvv _, World.keptBut_mono (fun p hp => ⟨hp, .inr (.inl hp)⟩) (hb.frame (· ∈ before)), fun h => by cases h⟩
end
end Go.Sx
