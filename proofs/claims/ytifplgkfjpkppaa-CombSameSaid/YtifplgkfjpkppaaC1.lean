/-
  A part of a proof: the lemmas that the last text joins. No conditions.
-/
import Derived.ChangeKeysEq
import Derived.Test.YtifplgkfjpkppaaC0
set_option linter.unusedSimpArgs false
set_option linter.unusedVariables false
namespace Go.Sx

theorem den_const {g : G} (v : Value) : Den g (ofConst v) v := by
  unfold ofConst; split <;> first
    | exact .ro _ _ (by constructor)
    | exact Den.mkAny _

section ops
variable {P : Program} {E : Env} {g : G} {w : World} {ρ : Operand → Value} {T : List (Nat × V)} {nm : Nat} {K : OpK}

theorem vrun {x : Sem Value} {y : Value} {w' : World} (h : x.run P w = .ok y w') : (do pure (Next.value (← x)) : Sem Next).run P w = .ok (.value y) w' := by
  rw [run_bind, h]; rfl

theorem asIntOf_run {k : IntKind} {n : Int} : (asIntOf (.int k n)).run P w = .ok (k, n) w := rfl
theorem asInt_run {k : IntKind} {n : Int} : (asInt (.int k n)).run P w = .ok n w := by unfold asInt; rw [run_bind, asIntOf_run]; rfl
theorem sureAddr_run {a : Addr} : (Instr.sureAddr (.pointer (some a))).run P w = .ok a w := rfl

theorem arrEq_one (l m : List Int) (k : IntKind) : ((l.map (Value.int k)).toArray = (m.map (Value.int k)).toArray) ↔ l = m := by
  constructor
  · intro h
    have h' : l.map (Value.int k) = m.map (Value.int k) := by simpa using h
    exact List.map_inj_right (fun a b e => by injection e) |>.1 h'
  · rintro rfl; rfl

theorem binI_sound {t : Nat} {op : BinOp} {k k' : IntKind} {a b : Int} {K : V → Prop} (h : binI op k a k' b K) : ∃ U y, K U ∧ (binOp op (xType := t) (.int k a) (.int k' b)).run P w = .ok y w ∧ Den g U y := by
  cases op <;> simp only [binI] at h
  case shl => obtain ⟨h1, hK⟩ := guard_iff.1 h; have h1 : 0 ≤ b := by simpa using h1
              exact ⟨_, _, hK, by simp [binOp, Op.shift, show ¬ b < 0 by omega, run_pure, shlI], Den.mkInt _ _⟩
  case shr => obtain ⟨h1, hK⟩ := guard_iff.1 h; have h1 : 0 ≤ b := by simpa using h1
              exact ⟨_, _, hK, by simp [binOp, Op.shift, show ¬ b < 0 by omega, run_pure, shrI], Den.mkInt _ _⟩
  case quo => obtain ⟨h1, h2⟩ := guard_iff.1 h; obtain ⟨h2, hK⟩ := guard_iff.1 h2; have e := kindEq_eq h1; subst e; have h2 : b ≠ 0 := by simpa using h2
              exact ⟨_, _, hK, by simp [binOp, Op.intDiv, h2, run_pure, wr], Den.mkInt _ _⟩
  case rem => obtain ⟨h1, h2⟩ := guard_iff.1 h; obtain ⟨h2, hK⟩ := guard_iff.1 h2; have e := kindEq_eq h1; subst e; have h2 : b ≠ 0 := by simpa using h2
              exact ⟨_, _, hK, by simp [binOp, Op.intDiv, h2, run_pure], Den.mkInt _ _⟩
  all_goals (obtain ⟨h1, hK⟩ := guard_iff.1 h; have e := kindEq_eq h1; subst e)
  case add => exact ⟨_, _, hK, by simp [binOp, Op.intArith, run_pure, wr], Den.mkInt _ _⟩
  case sub => exact ⟨_, _, hK, by simp [binOp, Op.intArith, run_pure, wr], Den.mkInt _ _⟩
  case mul => exact ⟨_, _, hK, by simp [binOp, Op.intArith, run_pure, wr], Den.mkInt _ _⟩
  case and => exact ⟨_, _, hK, by simp [binOp, Op.intBits, run_pure, bits2], Den.mkInt _ _⟩
  case or => exact ⟨_, _, hK, by simp [binOp, Op.intBits, run_pure, bits2], Den.mkInt _ _⟩
  case xor => exact ⟨_, _, hK, by simp [binOp, Op.intBits, run_pure, bits2], Den.mkInt _ _⟩
  case andNot => exact ⟨_, _, hK, by simp [binOp, Op.intBits, run_pure, bits2], Den.mkInt _ _⟩
  case eql => exact ⟨_, _, hK, by simp [binOp, Op.intCmp, run_pure], Den.mkBool _⟩
  case neq => exact ⟨_, _, hK, by simp [binOp, Op.intCmp, run_pure], Den.mkBool _⟩
  case lss => exact ⟨_, _, hK, by simp [binOp, Op.intCmp, run_pure], Den.mkBool _⟩
  case leq => exact ⟨_, _, hK, by simp [binOp, Op.intCmp, run_pure], Den.mkBool _⟩
  case gtr => exact ⟨_, _, hK, by simp [binOp, Op.intCmp, run_pure], Den.mkBool _⟩
  case geq => exact ⟨_, _, hK, by simp [binOp, Op.intCmp, run_pure], Den.mkBool _⟩
theorem eqItems_ints {e : Nat} {k0 k : IntKind} (d : Nat) (l m : List Int) (hu : P.underlying e = some (.int k0)) : ∀ (is : List Nat), (∀ i ∈ is, i < l.length ∧ i < m.length) →
    ∃ r : Bool, (Op.eqItems (d + 1) e 1 (l.map (Value.int k)).toArray (m.map (Value.int k)).toArray is).run P w = .ok r w ∧ (r = true ↔ ∀ i ∈ is, l[i]? = m[i]?)
  | [], _ => ⟨true, by simp [Op.eqItems, run_pure], by simp⟩
  | i :: is, h => by
    obtain ⟨h1, h2⟩ := h i (List.mem_cons_self ..)
    obtain ⟨r, hr, hiff⟩ := eqItems_ints d l m hu is fun j hj => h j (List.mem_cons_of_mem _ hj)
    have hp : P.plainKey e = true := by unfold Program.plainKey; rw [hu]
    have pa : ∀ (q : List Int), i < q.length → ∃ x, q[i]? = some x ∧ (part e (q.map (Value.int k)).toArray (i * 1)).run P w = .ok (.int k x) w := fun q hq =>
      ⟨q[i], List.getElem?_eq_getElem hq, run_part_plain w hp (by simp [hq])⟩
    obtain ⟨x, hx, px⟩ := pa l h1
    obtain ⟨y, hy, py⟩ := pa m h2
    simp only [Op.eqItems]
    rw [run_bind, px]; simp only []
    rw [run_bind, py]; simp only []
    rw [run_bind, run_equalIn_int w d e k k0 x y hu]; simp only []
    by_cases hxy : x = y
    · subst hxy
      refine ⟨r, by simpa using hr, ?_⟩
      rw [hiff]
      constructor
      · intro hh j hj
        rcases List.mem_cons.1 hj with rfl | hj
        · rw [hx, hy]
        · exact hh j hj
      · intro hh j hj
        exact hh j (List.mem_cons_of_mem _ hj)
    · have hb : (x == y) = false := by simpa using hxy
      refine ⟨false, by simp [hb, run_pure], ?_⟩
      constructor
      · intro hh; cases hh
      · intro hh
        have := hh i (List.mem_cons_self ..)
        rw [hx, hy] at this
        exact absurd (Option.some.inj this) hxy
theorem eqArr_sound (EO : EnvOK P E) {t : Nat} {k k' : IntKind} {l m : List Int} {K : Bool → Prop} (h : eqArr E.td t k l k' m K) (op : BinOp) (ox oy : Operand) :
    ∃ b : Bool, K b ∧ (eqGuard op t ox oy (.agg (l.map (Value.int k)).toArray) (.agg (m.map (Value.int k')).toArray)).run P w = .ok () w ∧ (Op.equal t (.agg (l.map (Value.int k)).toArray) (.agg (m.map (Value.int k')).toArray)).run P w = .ok b w := by
  unfold eqArr at h
  split at h
  · rename_i sz ag z n e sq ht
    split at h
    · rename_i s ag' z' k0 sq' he
      obtain ⟨hg, hK⟩ := guard_iff.1 h
      simp only [Bool.and_eq_true] at hg
      obtain ⟨⟨⟨g1, g2⟩, g3⟩, g4⟩ := hg
      have hkk : k = k' := by cases k <;> cases k' <;> first | rfl | (simp [kindEq] at g1)
      subst hkk
      have e2 := Nat.eq_of_beq_eq_true g2
      have e3 := Nat.eq_of_beq_eq_true g3
      have e4 := Nat.eq_of_beq_eq_true g4
      obtain ⟨u, hu, _, hk⟩ := (EO t _ ht).und
      have hk : u = .array n e := hk
      subst hk
      obtain ⟨u', hu', _, hk'⟩ := (EO e _ he).und
      have hk' : u' = .int k0 := hk'
      subst hk'
      obtain ⟨i, _, hi, his, _⟩ := (EO e _ he).info
      have his : i.size = s := his
      refine ⟨_, hK, ?_, ?_⟩
      · have hdep : P.depth = (2 * (P.types.size + Made.depth)) + 1 + 1 := rfl
        have hfalse : P.eqGuardType P.depth t = false := by
          rw [hdep]
          simp only [Program.eqGuardType, hu, hu']
        unfold eqGuard
        cases op <;> first
          | rfl
          | (simp only [Bool.not_true, Bool.false_eq_true, if_false]
             rw [run_bind]
             have hprog : (program : Sem Program).run P w = .ok P w := rfl
             simp [hprog, hfalse, run_bind, run_pure])
      · unfold Op.equal Op.maxDepth
        rw [run_equalIn_array w 9999 _ _ hu hi]
        have hc : P.cellsOf e = 1 := by unfold Program.cellsOf; rw [hi]; simp [his, e4]
        rw [hc]
        obtain ⟨r, hr, hiff⟩ := eqItems_ints (w := w) (P := P) (k := k) 9998 l m hu' (List.range n) fun j hj => by
          have := List.mem_range.1 hj; omega
        have : r = (l == m) := by
          rw [Bool.eq_iff_iff, hiff]
          constructor
          · intro hh
            have : l = m := List.ext_getElem? fun j => by
              by_cases hj : j < n
              · exact hh j (List.mem_range.2 hj)
              · rw [List.getElem?_eq_none (by omega), List.getElem?_eq_none (by omega)]
            simpa using this
          · intro hh j _
            have : l = m := by simpa using hh
            rw [this]
        rw [← this]; exact hr
    · exact h.elim
  · exact h.elim
theorem binV_sound (EO : EnvOK P E) {op : BinOp} {t : Nat} {X Y : V} {x y : Value} {K : V → Prop} (hx : Den g X x) (hy : Den g Y y) (h : binV E.td op t X Y K) (ox oy : Operand) :
    ∃ U z, K U ∧ (do eqGuard op t ox oy x y; binOp op t x y : Sem Value).run P w = .ok z w ∧ Den g U z := by
  by_cases hi : ∃ k a, X = .int k a
  · obtain ⟨k, a, rfl⟩ := hi
    simp only [binV] at h
    cases Y <;> simp only at h <;> try exact h.elim
    rename_i k' b
    rw [den_int hx, den_int hy]
    obtain ⟨U, z, hK, hr, hd⟩ := binI_sound (t := t) (P := P) (g := g) (w := w) h
    refine ⟨U, z, hK, ?_, hd⟩
    rw [run_bind]
    have : (eqGuard op t ox oy (.int k a) (.int k' b)).run P w = .ok () w := by
      unfold eqGuard; cases op <;> rfl
    rw [this]; exact hr
  by_cases hi2 : ∃ k l, X = .ints k l
  · obtain ⟨k, l, rfl⟩ := hi2
    simp only [binV] at h
    cases Y <;> simp only at h <;> try exact h.elim
    rename_i k' m
    rw [den_ints hx, den_ints hy]
    cases op <;> simp only at h <;> try exact h.elim
    · obtain ⟨b, hK, k1, k2⟩ := eqArr_sound (w := w) EO h .eql ox oy
      refine ⟨_, _, hK, ?_, Den.mkBool _⟩
      rw [run_bind, k1]; simp only []
      show (do pure (.bool (← Op.equal t _ _)) : Sem Value).run P w = _
      rw [run_bind, k2]; rfl
    · obtain ⟨b, hK, k1, k2⟩ := eqArr_sound (w := w) EO h .neq ox oy
      refine ⟨_, _, hK, ?_, Den.mkBool _⟩
      rw [run_bind, k1]; simp only []
      show (do pure (.bool (!(← Op.equal t _ _))) : Sem Value).run P w = _
      rw [run_bind, k2]; rfl
  · have h' : ∃ d, E.td t = some d ∧ ∃ r, eqV d.kind X Y = some r ∧ ((op = .eql ∧ K (.bool r)) ∨ (op = .neq ∧ K (.bool (!r)))) := by
      cases X <;> simp only [binV] at h
      case int k a => exact absurd ⟨k, a, rfl⟩ hi
      case ints k a => exact absurd ⟨k, a, rfl⟩ hi2
      all_goals
        split at h
        · rename_i d hd
          refine ⟨d, hd, ?_⟩
          split at h
          · split at h
            · rename_i r hr; exact ⟨r, hr, .inl ⟨rfl, h⟩⟩
            · exact h.elim
          · split at h
            · rename_i r hr; exact ⟨r, hr, .inr ⟨rfl, h⟩⟩
            · exact h.elim
          · exact h.elim
        · exact h.elim
    obtain ⟨d, hd, r, hr, hop⟩ := h'
    have TO := EO t d hd
    obtain ⟨u, hu, _, hk⟩ := TO.und
    have key : (eqGuard op t ox oy x y).run P w = .ok () w ∧ (Op.equal t x y).run P w = .ok r w ∧ (∀ a b c d, ¬ (x = .int a b ∧ y = .int c d)) ∧ (∀ q, binOp .eql t x y = q → q = (do pure (.bool (← Op.equal t x y)))) ∧ (∀ q, binOp .neq t x y = q → q = (do pure (.bool (!(← Op.equal t x y))))) := by
      unfold eqV at hr
      split at hr
      · rename_i hkd
        rw [hkd] at hk
        obtain ⟨e, rfl⟩ := hk
        split at hr
        · simp at hr; subst hr
          rw [den_nilptr hx, den_nilptr hy]
          refine ⟨by unfold eqGuard; cases op <;> rfl, ?_, by simp, by rintro q rfl; rfl, by rintro q rfl; rfl⟩
          unfold Op.equal Op.maxDepth Op.equalIn; rw [run_bind, run_underlying hu]; rfl
        · simp at hr; subst hr
          rw [den_nilptr hy]
          have := den_rptr hx
          cases this with
          | rptr _ _ _ b bo _ _ =>
            refine ⟨by unfold eqGuard; cases op <;> rfl, ?_, by simp, by rintro q rfl; rfl, by rintro q rfl; rfl⟩
            unfold Op.equal Op.maxDepth Op.equalIn; rw [run_bind, run_underlying hu]; rfl
        · simp at hr
      · rename_i hkd
        rw [hkd] at hk
        have hk : u = .bool := hk
        subst hk
        split at hr
        · simp at hr; subst hr
          rw [den_bool hx, den_bool hy]
          refine ⟨by unfold eqGuard; cases op <;> rfl, ?_, by simp, by rintro q rfl; rfl, by rintro q rfl; rfl⟩
          unfold Op.equal Op.maxDepth Op.equalIn; rw [run_bind, run_underlying hu]; rfl
        · simp at hr
      · rename_i e hkd
        rw [hkd] at hk
        have hk : u = .slice e := hk
        subst hk
        split at hr
        · simp at hr; subst hr
          rw [den_nilsl hx, den_nilsl hy]
          refine ⟨by unfold eqGuard; cases op <;> rfl, ?_, by simp, by rintro q rfl; rfl, by rintro q rfl; rfl⟩
          unfold Op.equal Op.maxDepth Op.equalIn; rw [run_bind, run_underlying hu]; rfl
        · rename_i fr o
          cases hb : Nat.blt 0 (lenO o) <;> rw [hb] at hr
          · simp at hr
          · simp at hr; subst hr
            have hpos := blt_lt hb
            rw [den_nilsl hy]
            have := den_rs hx
            cases this with
            | rs _ b off cap _ _ _ =>
              refine ⟨by unfold eqGuard; cases op <;> rfl, ?_, by simp, by rintro q rfl; rfl, by rintro q rfl; rfl⟩
              unfold Op.equal Op.maxDepth Op.equalIn; rw [run_bind, run_underlying hu]; rfl
            | rs0 _ ao cap h0 => omega
        · simp at hr
      · simp at hr
    obtain ⟨k1, k2, k3, k4, k5⟩ := key
    rcases hop with ⟨rfl, hK⟩ | ⟨rfl, hK⟩
    · refine ⟨_, _, hK, ?_, Den.mkBool _⟩
      rw [run_bind, k1]; simp only []
      rw [k4 _ rfl, run_bind, k2]; rfl
    · refine ⟨_, _, hK, ?_, Den.mkBool _⟩
      rw [run_bind, k1]; simp only []
      rw [k5 _ rfl, run_bind, k2]; rfl
end ops
end Go.Sx

namespace Go.Sx
section ops
variable {P : Program} {E : Env} {g : G} {w : World} {ρ : Operand → Value} {T : List (Nat × V)} {nm : Nat} {K : OpK}

theorem DenR.ofNone {d : V} {z : Value} (h : DenR #[] (fun _ => False) d z) : Den g d z := .ro _ _ (h.mono fun _ hb => hb.elim)

theorem oneOp_alloc (EO : EnvOK P E) (HO : HeapOK g) (hw : w.heap = g.hp) (hn : ¬ g.A nm) {o : Oper} {t : Nat} (ho : o.op = .alloc t) (h : oneOp E T g.H nm (.alloc t) K) : OpOK P ρ o g w nm K := by
  simp only [oneOp] at h
  split at h
  · rename_i d hd
    have TO := EO t d hd
    obtain ⟨i, z, hi, hs, _, hz, hden, hsz⟩ := TO.info
    split at h
    · rename_i ob hob
      have hObj := asObj_sound hob (DenR.ofNone (g := g) hden)
      refine ⟨_, g.create nm ⟨false, 0, ob⟩ z.cells t, _, .value (.pointer (some ⟨w.heap.size, 0, none⟩)), .pointer (some ⟨w.heap.size, 0, none⟩), h, ?_, rfl, ?_, create_ext HO hw hn ⟨false, 0, ob⟩ (by simp) z.cells t (fun _ => hObj)⟩
      · unfold execOp; simp only [ho]
        refine vrun ?_
        unfold Instr.alloc
        rw [run_bind, run_zeroValue hi hz]; simp only []
        rw [run_bind, run_newVar]; rfl
      · refine .ptr nm 0 _ rfl (.inr rfl) fun e _ _ => ?_
        simp [G.create, hw]
    · exact h.elim
  · exact h.elim

theorem oneOp_box (HO : HeapOK g) (hw : w.heap = g.hp) (hn : ¬ g.A nm) (hρ : ∀ x, Den g (ev T x) (ρ x)) {o : Oper} {t : Nat} {x : Operand} (ho : o.op = .box t x) (h : oneOp E T g.H nm (.box t x) K) : OpOK P ρ o g w nm K := by
  simp only [oneOp] at h
  split at h
  · rename_i ob hob
    have hObj := asObj_sound hob (hρ x)
    refine ⟨_, g.create nm ⟨false, 0, ob⟩ (ρ x).cells t, _, .value (.pointer (some ⟨w.heap.size, 0, none⟩)), .pointer (some ⟨w.heap.size, 0, none⟩), h, ?_, rfl, ?_, create_ext HO hw hn ⟨false, 0, ob⟩ (by simp) _ t (fun _ => hObj)⟩
    · unfold execOp; simp only [ho]
      refine vrun ?_
      unfold Instr.box
      rw [run_bind, run_newVar]; rfl
    · refine .ptr nm 0 _ rfl (.inr rfl) fun e _ _ => ?_
      simp [G.create, hw]
  · exact h.elim

theorem oneOp_load (EO : EnvOK P E) (HO : HeapOK g) (hw : w.heap = g.hp) (hρ : ∀ x, Den g (ev T x) (ρ x)) {o : Oper} {t : Nat} {x : Operand} (ho : o.op = .load t x) (h : oneOp E T g.H nm (.load t x) K) : OpOK P ρ o g w nm K := by
  simp only [oneOp] at h
  split at h
  · rename_i p hp
    split at h
    · rename_i d hd
      obtain ⟨U, y, a, hx, hK, hr, hden⟩ := loadV_sound (EO t d hd) HO hw (hρ x) hp h
      refine OpOK.same HO hw hK ?_ hden
      unfold execOp; simp only [ho, hx]
      refine vrun ?_
      unfold Instr.loadAt; rw [run_bind, sureAddr_run]; exact hr
    · exact h.elim
  · exact h.elim

theorem putAt_pos {o v : V} {idx off s : Nat} {K : V → Prop} (hs : 0 < s) (h : putAt o idx off v (fun o' => guard (match v with | .ints _ l => Nat.beq l.length s | .agg l => Nat.beq l.length s | _ => Nat.beq 1 s) (K o'))) : 0 < lenO o := by
  cases o <;> simp only [putAt] at h <;> try exact h.elim
  · cases v <;> simp only at h <;> try exact h.elim
    · have := (guard_iff.1 h).1; simp only [Bool.and_eq_true] at this; have := blt_lt this.2; simp only [lenO]; omega
    · obtain ⟨h1, h2⟩ := guard_iff.1 h; simp only [Bool.and_eq_true] at h1
      have := ble_le h1.2; have := Nat.eq_of_beq_eq_true (guard_iff.1 h2).1; simp only [lenO]; omega
  · cases v <;> simp only at h <;> first
      | (have := (guard_iff.1 h).1; simp only [Bool.and_eq_true] at this; have := blt_lt this.2; simp only [lenO]; omega)
      | (obtain ⟨h1, h2⟩ := guard_iff.1 h; simp only [Bool.and_eq_true] at h1
         have := ble_le h1.2; have := Nat.eq_of_beq_eq_true (guard_iff.1 h2).1; simp only [lenO]; omega)
  · cases v <;> (try simp only at h) <;> try exact h.elim
    rename_i k m
    cases k <;> try exact h.elim
    have := (guard_iff.1 h).1; simp only [Bool.and_eq_true] at this; have := blt_lt this.2; simp only [lenO]; omega

theorem oneOp_store (EO : EnvOK P E) (HO : HeapOK g) (hw : w.heap = g.hp) (hρ : ∀ x, Den g (ev T x) (ρ x)) {o : Oper} {t : Nat} {a x : Operand} (ho : o.op = .store t a x) (h : oneOp E T g.H nm (.store t a x) K) : OpOK P ρ o g w nm K := by
  simp only [oneOp] at h
  split at h
  · exact h.elim
  · rename_i d hd
    have TO := EO t d hd
    obtain ⟨i, z, hi, hs, _, hz, hden, hsz⟩ := TO.info
    have fin : ∀ {n ver : Nat} {gr : Bool} {ob : V} {idx off : Nat}, lk n g.H = some ⟨gr, ver, ob⟩ → (gr = true → 0 < lenO ob) → ρ a = .pointer (some ⟨g.ρ n, idx * strO ob + off, none⟩) →
        putAt ob idx off (ev T x) (fun ob' => guard (match ev T x with | .ints _ l => Nat.beq l.length d.size | .agg l => Nat.beq l.length d.size | _ => Nat.beq 1 d.size) (K .any ((n, ⟨gr, ver, ob'⟩) :: g.H))) → OpOK P ρ o g w nm K := by
      intro n ver gr ob idx off he hg ha hput
      have hpres : (⟨gr, ver, ob⟩ : Ent).present := by
        cases gr
        · exact .inl rfl
        · exact .inr (hg rfl)
      obtain ⟨hb, c, T', hc, hcs, hob⟩ := HO.objs n _ he hpres
      obtain ⟨ob', hK, hle, hone, hob', hl, hst⟩ := putAt_sound hob (hρ x) hput
      obtain ⟨hsize, hK⟩ := guard_iff.1 hK
      have hxs : (ρ x).cells.size = i.size := by
        rw [hs]
        have hx := hρ x
        cases hev : ev T x <;> simp only [hev] at hsize hx hput <;> first
          | (have := Nat.eq_of_beq_eq_true hsize; rw [den_ints hx]; simpa [Value.cells] using this)
          | (have := Nat.eq_of_beq_eq_true hsize; obtain ⟨vs, hv, k1, _⟩ := den_agg hx; rw [hv]; simp [Value.cells]; omega)
          | (have := Nat.eq_of_beq_eq_true hsize; rw [cells_one (cellish_one rfl hx)]; simpa using this)
          | (exfalso; revert hput; cases ob <;> simp [putAt, V.cellish, guard])
      rw [← hw] at hc
      obtain ⟨w', hr, hw', hu⟩ := run_storeVar (P := P) (t := t) (off := idx * strO ob + off) hi hxs hc hle hone
      refine ⟨_, g.upd n ⟨gr, ver, ob'⟩ w'.heap, w', .skip, undef, hK, ?_, rfl, Den.mkAny _, ?_⟩
      · unfold execOp; simp only [ho, ha]
        rw [run_bind]
        unfold Instr.storeAt; rw [run_bind, sureAddr_run]; simp only []
        rw [hr]; rfl
      · exact upd_ext HO hw he hpres hu hw' (by rw [putL_size]; exact hcs) hob' hl hst nm
    split at h
    · rename_i n idx off hev
      split at h
      · rename_i ver ob he
        have hd' := hρ a
        rw [hev] at hd'
        obtain ⟨rfl, hA, hx⟩ := den_ptr hd'
        refine fin (idx := 0) he (by simp) ?_ h
        rw [hx _ he rfl]; simp
      · exact h.elim
    · rename_i n ver idx off hev
      split at h
      · rename_i ver' ob he
        obtain ⟨hv, h⟩ := guard_iff.1 h
        have hv := Nat.eq_of_beq_eq_true hv
        have hd' := hρ a
        rw [hev] at hd'
        obtain ⟨hA, hA', hx⟩ := den_eptr hd'
        have hl : 0 < lenO ob := putAt_pos TO.pos h
        exact fin he (fun _ => hl) (hx _ he rfl hv.symm) h
      · exact h.elim
    · exact h.elim
end ops
end Go.Sx

namespace Go.Sx
section ops
variable {P : Program} {E : Env} {g : G} {w : World} {ρ : Operand → Value} {T : List (Nat × V)} {nm : Nat} {K : OpK}

theorem live_sound {v : V} {x : Value} {p : V × Nat × Nat} (hd : Den g v x) (h : deref g.H v = some p) :
    ∃ b k, x = .pointer (some ⟨b, k, none⟩) ∧ ∀ d, Den g (addOff v d) (.pointer (some ⟨b, k + d, none⟩)) := by
  cases v <;> simp only [deref] at h <;> try (cases h; done)
  · rename_i n i f
    split at h
    · rename_i ver o' he
      obtain ⟨rfl, hA, hx⟩ := den_ptr hd
      refine ⟨g.ρ n, f, hx _ he rfl, fun d => .ptr n (f + d) _ rfl hA fun e' _ _ => rfl⟩
    · simp at h
  · rename_i n ver i f
    split at h
    · rename_i ver' o' he
      cases hv : Nat.beq ver ver' <;> simp [hv] at h
      obtain ⟨hA, hA', hx⟩ := den_eptr hd
      have hv' : ver = ver' := Nat.eq_of_beq_eq_true hv
      refine ⟨g.ρ n, _, hx _ he rfl hv'.symm, fun d => .eptr n ver i (f + d) _ rfl hA hA' fun e' he' _ _ => ?_⟩
      rw [he] at he'; cases he'
      simp [Nat.add_assoc]
    · simp at h
  · rename_i fr o' i f
    have hr := den_rptr hd
    cases hr with
    | rptr _ _ _ b bo hb ho =>
      refine ⟨b, _, rfl, fun d => Den.mkRptr ?_⟩
      have := DenR.rptr (hp := g.hp) (ok := g.ok (g.lo fr)) o' i (f + d) b bo hb ho
      simpa [Nat.add_assoc] using this

theorem addOff_zero {v : V} {p : V × Nat × Nat} {H : Heap} (h : deref H v = some p) : addOff v 0 = v := by
  cases v <;> simp only [deref] at h <;> first | rfl | (cases h; done)

theorem oneOp_fieldAddr (EO : EnvOK P E) (HO : HeapOK g) (hw : w.heap = g.hp) (hρ : ∀ x, Den g (ev T x) (ρ x)) {o : Oper} {s f : Nat} {x : Operand} (ho : o.op = .fieldAddr s x f) (h : oneOp E T g.H nm (.fieldAddr s x f) K) : OpOK P ρ o g w nm K := by
  simp only [oneOp] at h
  split at h
  · rename_i sz ag z fs sq hd
    have TO := EO s _ hd
    obtain ⟨u, hu, _, fields, hf, hfs, hpos⟩ := TO.und
    subst hf
    split at h
    · rename_i off ty hoff
      have hof : fields[f]?.map (fun q => (q.offset, q.type)) = some (off, ty) := by
        rw [hfs] at hoff; simpa using hoff
      cases hq : fields[f]? with
      | none => simp [hq] at hof
      | some q =>
        simp [hq] at hof
        obtain ⟨i, hi, hi0⟩ := hpos q (by have := Array.mem_of_getElem? hq; simpa using this)
        split at h
        · rename_i p hp
          obtain ⟨b, k, hx, hden⟩ := live_sound (hρ x) hp
          refine OpOK.same HO hw h ?_ (hden off)
          unfold execOp; simp only [ho, hx]
          refine vrun ?_
          unfold Instr.fieldAt
          rw [run_bind, run_underlying hu]; simp only [hq]
          rw [run_bind, sureAddr_run]; simp only []
          rw [run_bind]
          unfold fieldPlace
          rw [run_bind, run_sizeOf hi]; simp only [hi0, if_false]
          rw [add_none, hof.1]; rfl
        · exact h.elim
    · exact h.elim
  · exact h.elim

theorem eltV_sound {v : V} {x : Value} {j : Int} {s : Nat} {K : V → Prop} (hd : Den g v x) (h : eltV g.H v j K)
    (hs : (∀ fr o, v = .rs fr o → strO o = s) ∧ (∀ n ver e, v = .slw n ver → lk n g.H = some e → strO e.o = s) ∧ (∀ n o l, v = .sl n o l → s = 1)) :
    ∃ U ao len cap b k, x = .slice ao len cap ∧ 0 ≤ j ∧ j < len ∧ ao = some ⟨b, k, none⟩ ∧ K U ∧ Den g U (.pointer (some ⟨b, k + j.toNat * s, none⟩)) := by
  cases v <;> simp only [eltV] at h <;> try exact h.elim
  · -- slw
    rename_i n ver
    split at h
    · rename_i ver' o he
      obtain ⟨h1, h⟩ := guard_iff.1 h
      obtain ⟨h2, h⟩ := guard_iff.1 h
      have hv := Nat.eq_of_beq_eq_true h1
      have hj : 0 ≤ j ∧ j < (lenO o : Int) := by simpa using h2
      obtain ⟨hA, hA', hx⟩ := den_slw hd
      obtain ⟨ao, cap, hxs, _, hlen⟩ := hx _ he rfl hv.symm
      obtain ⟨hao, hle, _⟩ := hlen (by have : (0 : Int) < lenO o := by omega
                                       exact Int.ofNat_lt.1 this)
      have hst := hs.2.1 n ver _ rfl he
      simp only at hst hao hle hxs
      cases hb : Nat.beq (strO o) 1 <;> simp [hb] at h
      · refine ⟨_, ao, _, cap, g.ρ n, 0, hxs, hj.1, hj.2, hao, h, .eptr n ver j.toNat 0 _ rfl hA hA' fun e' he' _ _ => ?_⟩
        rw [he] at he'; cases he'; simp [hst]
      · have h1 : strO o = 1 := Nat.eq_of_beq_eq_true hb
        refine ⟨_, ao, _, cap, g.ρ n, 0, hxs, hj.1, hj.2, hao, h, .eptr n ver 0 j.toNat _ rfl hA hA' fun e' he' _ _ => ?_⟩
        rw [he] at he'; cases he'; simp [← hst, h1]
    · exact h.elim
  · -- sl
    rename_i n off len
    split at h
    · rename_i ver' o he
      obtain ⟨h2, h⟩ := guard_iff.1 h
      have hj : 0 ≤ j ∧ j < (len : Int) := by simpa using h2
      obtain ⟨hA, hx⟩ := den_sl hd
      obtain ⟨ao, cap, hxs, hle, hao⟩ := hx _ he rfl
      have hs1 := hs.2.2 n off len rfl
      refine ⟨_, ao, _, cap, g.ρ n, off, hxs, hj.1, hj.2, hao (by omega), h, .ptr n _ _ rfl hA fun e' _ _ => by simp [hs1]⟩
    · exact h.elim
  · -- rs
    rename_i fr o
    obtain ⟨h2, h⟩ := guard_iff.1 h
    have hj : 0 ≤ j ∧ j < (lenO o : Int) := by simpa using h2
    have hr := den_rs hd
    have hst := hs.1 fr o rfl
    cases hr with
    | rs _ b off cap hb ho hl =>
      cases hbq : Nat.beq (strO o) 1 <;> simp [hbq] at h
      · refine ⟨_, _, _, cap, b, off, rfl, hj.1, hj.2, rfl, h, Den.mkRptr ?_⟩
        have := DenR.rptr (hp := g.hp) (ok := g.ok (g.lo fr)) o j.toNat 0 b off hb ho
        simpa [hst] using this
      · have h1 : strO o = 1 := Nat.eq_of_beq_eq_true hbq
        refine ⟨_, _, _, cap, b, off, rfl, hj.1, hj.2, rfl, h, Den.mkRptr ?_⟩
        have := DenR.rptr (hp := g.hp) (ok := g.ok (g.lo fr)) o 0 j.toNat b off hb ho
        simpa [← hst, h1] using this
    | rs0 _ ao cap h0 => rw [h0] at hj; omega

theorem oneOp_indexAddr (EO : EnvOK P E) (HO : HeapOK g) (hw : w.heap = g.hp) (hρ : ∀ x, Den g (ev T x) (ρ x)) {o : Oper} {t : Nat} {x y : Operand} (ho : o.op = .indexAddr t x y) (h : oneOp E T g.H nm (.indexAddr t x y) K) : OpOK P ρ o g w nm K := by
  simp only [oneOp] at h
  split at h
  · rename_i sz ag z n e sq hd
    have TO := EO t _ hd
    obtain ⟨u, hu, _, hk⟩ := TO.und
    have hk : u = .array n e := hk
    subst hk
    split at h
    · rename_i d hde
      obtain ⟨i, z', hi, hs, _⟩ := (EO e d hde).info
      split at h
      · rename_i k j hj
        obtain ⟨h1, h⟩ := guard_iff.1 h
        have hb : 0 ≤ j ∧ j < (n : Int) := by simpa using h1
        split at h
        · rename_i p hp
          obtain ⟨b, q, hx, hden⟩ := live_sound (hρ x) hp
          have hjv := hρ y; rw [hj] at hjv; have hjv := den_int hjv
          refine OpOK.same HO hw h ?_ (hden _)
          unfold execOp; simp only [ho, hx, hjv]
          refine vrun ?_
          unfold Instr.indexAt
          rw [run_bind, asIntOf_run]; simp only []
          rw [run_bind, run_underlying hu]; simp only []
          rw [run_bind, sureAddr_run]; simp only []
          rw [run_bind, run_pure]; simp only []
          rw [run_bind, run_underlying hu]; simp only []
          rw [if_pos hb, run_bind, run_sizeOf hi]; simp only [hs]
          rw [add_none]; rfl
        · exact h.elim
      · exact h.elim
    · exact h.elim
  · rename_i sz ag z e sq hd
    have TO := EO t _ hd
    obtain ⟨u, hu, _, hk⟩ := TO.und
    have hk : u = .slice e := hk
    subst hk
    split at h
    · rename_i d hde
      obtain ⟨i, z', hi, hs, _⟩ := (EO e d hde).info
      split at h
      · rename_i k j hj
        have hjv := hρ y; rw [hj] at hjv; have hjv := den_int hjv
        have fin : eltV g.H (ev T x) j (fun v => K v g.H) → ((∀ fr o, ev T x = .rs fr o → strO o = d.size) ∧ (∀ n ver e, ev T x = .slw n ver → lk n g.H = some e → strO e.o = d.size) ∧ (∀ n o l, ev T x = .sl n o l → d.size = 1)) → OpOK P ρ o g w nm K := by
          intro h hst
          obtain ⟨U, ao, len, cap, b, q, hx, h0, h1, hao, hK, hden⟩ := eltV_sound (hρ x) h hst
          refine OpOK.same HO hw hK ?_ hden
          unfold execOp; simp only [ho, hx, hjv]
          refine vrun ?_
          unfold Instr.indexAt
          rw [run_bind, asIntOf_run]; simp only []
          rw [run_bind, run_underlying hu]; simp only []
          rw [run_bind, run_pure]; simp only []
          rw [run_bind, run_underlying hu]; simp only [hao]
          rw [if_pos ⟨h0, h1⟩, run_bind, run_sizeOf hi]; simp only [hs]
          rw [add_none]; rfl
        split at h
        · rename_i fr ob hx
          obtain ⟨h1, h⟩ := guard_iff.1 h
          have := Nat.eq_of_beq_eq_true h1
          refine fin (by rw [hx]; exact h) ⟨fun fr' o' e' => ?_, fun n ver e e' => ?_, fun n o l e' => ?_⟩
          · rw [hx] at e'; cases e'; exact this
          · rw [hx] at e'; cases e'
          · rw [hx] at e'; cases e'
        · rename_i n ver hx
          split at h
          · rename_i gr ver' ob he
            obtain ⟨h1, h⟩ := guard_iff.1 h
            have := Nat.eq_of_beq_eq_true h1
            refine fin (by rw [hx]; exact h) ⟨fun fr' o' e' => ?_, fun n ver e e' he' => ?_, fun n o l e' => ?_⟩
            · rw [hx] at e'; cases e'
            · rw [hx] at e'; cases e'; rw [he] at he'; cases he'; exact this
            · rw [hx] at e'; cases e'
          · exact h.elim
        · rename_i n off len hx
          obtain ⟨h1, h⟩ := guard_iff.1 h
          have := Nat.eq_of_beq_eq_true h1
          refine fin (by rw [hx]; exact h) ⟨fun fr' o' e' => ?_, fun n ver e e' he' => ?_, fun n o l e' => this.symm⟩
          · rw [hx] at e'; cases e'
          · rw [hx] at e'; cases e'
        · exact h.elim
      · exact h.elim
    · exact h.elim
  · exact h.elim

theorem contAgg {l : List V} {vs : List Value} (h1 : l.length = vs.length) (h2 : ∀ i (h' : i < vs.length), vs[i].one = true) (h3 : ∀ i (h : i < l.length) (h' : i < vs.length), Den g l[i] vs[i]) : Cont (Den g) (.agg l) (fun i => vs.toArray[i]?) := by
  intro i hi
  have hi' := h1 ▸ hi
  exact ⟨vs[i], by simp [hi'], h2 i hi', h3 i hi hi'⟩
theorem contInts {k : IntKind} {l : List Int} : Cont (Den g) (.ints k l) (fun i => (l.map (Value.int k)).toArray[i]?) := by
  intro i hi; simp [hi]

theorem oneOp_field (EO : EnvOK P E) (HO : HeapOK g) (hw : w.heap = g.hp) (hρ : ∀ x, Den g (ev T x) (ρ x)) {o : Oper} {s f : Nat} {x : Operand} (ho : o.op = .field s x f) (h : oneOp E T g.H nm (.field s x f) K) : OpOK P ρ o g w nm K := by
  simp only [oneOp] at h
  split at h
  · rename_i sz ag z fs sq hd
    have TO := EO s _ hd
    obtain ⟨u, hu, _, fields, hf, hfs, hpos⟩ := TO.und
    subst hf
    split at h
    · rename_i off ty hoff
      have hof : fields[f]?.map (fun q => (q.offset, q.type)) = some (off, ty) := by
        rw [hfs] at hoff; simpa using hoff
      cases hq : fields[f]? with
      | none => simp [hq] at hof
      | some q =>
        simp [hq] at hof
        obtain ⟨hof1, hof2⟩ := hof
        split at h
        · rename_i d hdt
          have fin : ∀ {ob : V} {cs : Array Value}, ρ x = .agg cs → Cont (Den g) ob (fun i => cs[i]?) → loadV d .any (ob, 0, off) (fun v => K v g.H) → OpOK P ρ o g w nm K := by
            intro ob cs hx hC h
            obtain ⟨U, y, hK, hr, hden⟩ := part_sound (g := g) (w := w) (EO ty d hdt) hC (fun _ _ h => h) h
            refine OpOK.same HO hw hK ?_ hden
            unfold execOp; simp only [ho, hx]
            refine vrun ?_
            unfold Instr.field
            rw [run_bind, run_underlying hu]; simp only [hq]
            rw [run_bind]; show (match Sem.run P (asAgg (.agg cs)) w with | _ => _) = _
            simp only [asAgg, run_pure]
            rw [hof1, hof2]; exact hr
          split at h
          · rename_i k l hx
            have := hρ x; rw [hx] at this
            exact fin (den_ints this) contInts h
          · rename_i l hx
            have := hρ x; rw [hx] at this
            obtain ⟨vs, hv, h1, h2, h3⟩ := den_agg this
            exact fin hv (contAgg h1 h2 h3) h
          · exact h.elim
        · exact h.elim
    · exact h.elim
  · exact h.elim

theorem oneOp_index (EO : EnvOK P E) (HO : HeapOK g) (hw : w.heap = g.hp) (hρ : ∀ x, Den g (ev T x) (ρ x)) {o : Oper} {t : Nat} {x y : Operand} (ho : o.op = .index t x y) (h : oneOp E T g.H nm (.index t x y) K) : OpOK P ρ o g w nm K := by
  simp only [oneOp] at h
  split at h
  · rename_i kk j hj
    have hjv := hρ y; rw [hj] at hjv; have hjv := den_int hjv
    split at h
    · rename_i s hx
      have hxv := hρ x; rw [hx] at hxv; have hxv := den_str hxv
      split at h
      · rename_i sz ag z sq hd
        obtain ⟨u, hu, _, hk⟩ := (EO t _ hd).und
        have hk : u = .string := hk
        subst hk
        obtain ⟨h1, hK⟩ := guard_iff.1 h
        simp only [Bool.and_eq_true, decide_eq_true_eq] at h1
        have hlt := blt_lt h1.2
        refine OpOK.same HO hw hK ?_ (Den.mkInt _ _)
        unfold execOp; simp only [ho, hxv, hjv]
        refine vrun ?_
        unfold Instr.index
        rw [run_bind, asIntOf_run]; simp only []
        rw [run_bind, run_underlying hu]; simp only [h1.1, if_true]
        have e1 : s[j.toNat]? = some s[j.toNat] := by simp [hlt]
        rw [e1]; simp only [run_pure]
        have : s[j.toNat] = s.data.toList.getD j.toNat 0 := by
          have hl : j.toNat < s.data.size := hlt
          show s.data[j.toNat] = _
          simp [List.getD_eq_getElem?_getD]; rw [Array.getElem?_eq_getElem hl]; rfl
        rw [this]
      · exact h.elim
    · rename_i k l hx
      have hxv := hρ x; rw [hx] at hxv; have hxv := den_ints hxv
      split at h
      · rename_i sz ag z n e sq hd
        obtain ⟨u, hu, _, hk⟩ := (EO t _ hd).und
        have hk : u = .array n e := hk
        subst hk
        split at h
        · rename_i d hde
          obtain ⟨i, z', hi, hs, _⟩ := (EO e d hde).info
          obtain ⟨h1, h⟩ := guard_iff.1 h
          have hb : 0 ≤ j ∧ j < (n : Int) := by simpa using h1
          obtain ⟨U, y', hK, hr, hden⟩ := part_sound (g := g) (w := w) (EO e d hde) (contInts (k := k) (l := l)) (fun _ _ h => h) h
          refine OpOK.same HO hw hK ?_ hden
          unfold execOp; simp only [ho, hxv, hjv]
          refine vrun ?_
          unfold Instr.index
          rw [run_bind, asIntOf_run]; simp only []
          rw [run_bind, run_underlying hu]; simp only []
          rw [if_pos hb, run_bind, run_sizeOf hi]; simp only [hs]
          exact hr
        · exact h.elim
      · exact h.elim
    · exact h.elim
  · exact h.elim
end ops
end Go.Sx

namespace Go.Sx
section ops
variable {P : Program} {E : Env} {g : G} {w : World} {ρ : Operand → Value} {T : List (Nat × V)} {nm : Nat} {K : OpK}

theorem den_obj {o : V} {c : Array Value} (h : ObjD g o c) (hl : lenO o = c.size) (hs : strO o = 1) : Den g o (.agg c) := by
  cases o <;> simp only [ObjD] at h <;> try exact h.elim
  · rename_i k l
    have : c = (l.map (Value.int k)).toArray := by
      apply Array.ext
      · simp; exact hl.symm
      · intro i h1 h2
        have hi : i < l.length := by simpa using h2
        have := h i hi
        rw [Array.getElem?_eq_getElem h1] at this
        simpa using this
    rw [this]; exact Den.mkInts _ _
  · rename_i l
    have e : c = c.toList.toArray := by simp
    rw [e]
    refine .agg l c.toList (by simpa [lenO] using hl) ?_ ?_
    · intro i h'
      have h2 : i < l.length := by simp at h'; simp only [lenO] at hl; omega
      obtain ⟨x, hx, h1, _⟩ := h i h2
      have h3 : i < c.size := by simpa using h'
      rw [Array.getElem?_eq_getElem h3] at hx
      have : c.toList[i] = x := by simpa using hx
      rw [this]; exact h1
    · intro i h2 h'
      obtain ⟨x, hx, h1, hd⟩ := h i h2
      have h3 : i < c.size := by simpa using h'
      rw [Array.getElem?_eq_getElem h3] at hx
      have : c.toList[i] = x := by simpa using hx
      rw [this]; exact hd
  · simp [strO] at hs
  · simp [strO] at hs

theorem sizeV_sound {U : V} {x : Value} {s : Nat} (h : sizeV U = some s) (hd : Den g U x) : x.cells.size = s := by
  cases U <;> simp only [sizeV] at h <;> first
    | (split at h <;> simp at h; subst h; rw [cells_one (cellish_one ‹_› hd)]; rfl)
    | skip
  · simp at h; subst h; rw [den_ints hd]; simp [Value.cells]
  · simp at h; subst h; obtain ⟨vs, rfl, h1, _⟩ := den_agg hd; simp [Value.cells, h1]

theorem foldl_putL (L : List Value) : ∀ (c : Array Value) (off k : Nat), (L.zipIdx k).foldl (fun (cs : Array Value) (q : Value × Nat) => cs.setIfInBounds (off + q.2) q.1) c = putL c (off + k) L := by
  induction L with
  | nil => intro c off k; rfl
  | cons v r ih => intro c off k; simp only [List.zipIdx_cons, List.foldl_cons, putL]; rw [ih]; rfl

theorem fill_step {place : Nat → Option (Nat × Nat)} {cells : Array Value} {i off s : Nat} {v : Value} {rest : List (Nat × Value)} (hp : place i = some (off, s)) (hs : v.cells.size = s) (hle : off + v.cells.size ≤ cells.size) :
    Instr.fill place cells ((i, v) :: rest) = Instr.fill place (putL cells off v.cells.toList) rest := by
  simp only [Instr.fill, hp]
  rw [if_neg (by simp [hs]; omega)]
  congr 1
  have := foldl_putL v.cells.toList cells off 0
  rw [Nat.add_zero] at this
  rw [← this]
  rw [← Array.foldl_toList]
  simp [Array.toList_zipIdx]

theorem buildV_sound {k : TK} {td : Nat → Option TD} {place : Nat → Option (Nat × Nat)} (hplace : ∀ i off s, placeOf k td i = some (off, s) → place i = some (off, s)) :
    ∀ (ps : List (Nat × Operand)) (o : V) (c : Array Value) {K : V → Prop}, (∀ p ∈ ps, Den g (ev T p.2) (ρ p.2)) → ObjD g o c → strO o = 1 → buildV k td (ps.map fun p => (p.1, ev T p.2)) o K →
    ∃ o' c', K o' ∧ Instr.fill place c (ps.map fun p => (p.1, ρ p.2)) = some c' ∧ ObjD g o' c' ∧ c'.size = c.size ∧ lenO o' = lenO o ∧ strO o' = 1 := by
  intro ps
  induction ps with
  | nil => intro o c K _ hob hst h; exact ⟨o, c, h, rfl, hob, rfl, rfl, hst⟩
  | cons p r ih =>
    intro o c K hρ hob hst h
    obtain ⟨i, x⟩ := p
    simp only [List.map_cons, buildV] at h
    split at h
    · rename_i off s hpl
      split at h
      · rename_i s' hsv
        obtain ⟨h1, h⟩ := guard_iff.1 h
        have e := Nat.eq_of_beq_eq_true h1
        have hd := hρ (i, x) (by simp)
        obtain ⟨o1, hK, hle, _, hob1, hl1, hs1⟩ := putAt_sound hob hd h
        simp only [Nat.zero_mul, Nat.zero_add] at hle hob1
        obtain ⟨o', c', hK', hf, hob', hsz, hl', hs'⟩ := ih o1 _ (fun p hp => hρ p (by simp [hp])) hob1 (hs1.trans hst) hK
        refine ⟨o', c', hK', ?_, hob', by rw [hsz, putL_size], hl'.trans hl1, hs'⟩
        simp only [List.map_cons]
        rw [fill_step (hplace i off s hpl) ((sizeV_sound hsv hd).trans e.symm) hle]
        exact hf
      · exact h.elim
    · exact h.elim

theorem fields_places (fields : Array Field) (td : Nat → Option TD) (EO : ∀ t d, td t = some d → TDOK P t d) : (∀ f ∈ fields.toList, ∃ i, P.info? f.type = some i ∧ i.size ≠ 0) →
    ∃ places : Array (Nat × Nat), (fields.mapM fun f => do pure (f.offset, ← sizeOf f.type) : Sem (Array (Nat × Nat))).run P w = .ok places w ∧
      ∀ i : Nat, places[i]? = fields[i]?.map (fun f => (f.offset, ((P.info? f.type).map (·.size)).getD 0)) := by
  intro hf
  have key : ∀ (l : List Field), (∀ f ∈ l, ∃ i, P.info? f.type = some i ∧ i.size ≠ 0) → (l.mapM fun f => do pure (f.offset, ← sizeOf f.type) : Sem (List (Nat × Nat))).run P w = .ok (l.map fun f => (f.offset, ((P.info? f.type).map (·.size)).getD 0)) w := by
    intro l
    induction l with
    | nil => intro _; rfl
    | cons f r ih =>
      intro h
      obtain ⟨i, hi, _⟩ := h f (by simp)
      rw [List.mapM_cons, run_bind, run_bind, run_sizeOf hi]
      simp only [run_pure]
      rw [run_bind, ih (fun f hf => h f (by simp [hf]))]
      simp [run_pure, hi]
  refine ⟨(fields.toList.map fun f => (f.offset, ((P.info? f.type).map (·.size)).getD 0)).toArray, ?_, fun i => by simp⟩
  rw [Array.mapM_eq_mapM_toList]
  show Sem.run P (List.toArray <$> _) w = _
  rw [map_eq_pure_bind, run_bind, key _ hf]; rfl

theorem oneOp_build (EO : EnvOK P E) (HO : HeapOK g) (hw : w.heap = g.hp) (hρ : ∀ x, Den g (ev T x) (ρ x)) {o : Oper} {t : Nat} {ps : Array (Nat × Operand)} (ho : o.op = .build t ps) (h : oneOp E T g.H nm (.build t ps) K) : OpOK P ρ o g w nm K := by
  simp only [oneOp] at h
  split at h
  · rename_i sz ag z k sq hd
    have TO := EO t _ hd
    obtain ⟨u, hu, _, hk⟩ := TO.und
    obtain ⟨i, zv, hi, hs, _, hz, hden, hsz⟩ := TO.info
    split at h
    · rename_i ob hob
      have hObj := asObj_sound hob (DenR.ofNone (g := g) hden)
      obtain ⟨hl, hst⟩ := TO.len ob hob
      obtain ⟨hg, h⟩ := guard_iff.1 h
      have mapped : (ps.map fun (i, x) => (i, ρ x)).toList = ps.toList.map fun p => (p.1, ρ p.2) := by simp
      have fin : ∀ {place : Nat → Option (Nat × Nat)}, (∀ i off s, placeOf k E.td i = some (off, s) → place i = some (off, s)) →
          ∃ o' c', K o' g.H ∧ Instr.fill place zv.cells (ps.toList.map fun p => (p.1, ρ p.2)) = some c' ∧ Den g o' (.agg c') := by
        intro place hplace
        obtain ⟨o', c', hK, hf, hob', hcs, hl', hs'⟩ := buildV_sound hplace ps.toList ob zv.cells (fun p _ => hρ p.2) hObj hst h
        exact ⟨o', c', hK, hf, den_obj hob' (by simp only at hsz hl; omega) hs'⟩
      cases k with
      | array n e =>
        have hk : u = .array n e := hk
        subst hk
        cases hde : E.td e with
        | none => simp [hde] at hg
        | some d =>
          obtain ⟨ie, ze, hie, hse, _⟩ := (EO e d hde).info
          obtain ⟨o', c', hK, hf, hdo⟩ := fin (place := fun i => some (i * d.size, d.size)) (by intro i off s hp; simpa [placeOf, hde] using hp)
          refine OpOK.same HO hw hK ?_ hdo
          unfold execOp; simp only [ho]
          refine vrun ?_
          unfold Instr.build
          rw [run_bind, run_zeroValue hi hz]; simp only []
          rw [run_bind, run_underlying hu]; simp only []
          rw [run_bind, run_sizeOf hie]; simp only [hse, mapped, hf]; rfl
      | struct fs =>
        obtain ⟨fields, hf, hfs, hpos⟩ := hk
        subst hf
        obtain ⟨places, hrun, hget⟩ := fields_places (w := w) fields E.td EO hpos
        obtain ⟨o', c', hK, hf, hdo⟩ := fin (place := (places[·]?)) (by
          intro i off s hp
          simp only [placeOf] at hp
          split at hp
          · rename_i o1 t1 hq
            split at hp
            · rename_i d hd1
              simp at hp
              obtain ⟨rfl, rfl⟩ := hp
              obtain ⟨i1, _, hi1, hs1, _⟩ := (EO t1 d hd1).info
              rw [hget]
              rw [hfs] at hq
              simp at hq
              obtain ⟨f, hf1, rfl, rfl⟩ := hq
              simp [hf1, hi1, hs1]
            · simp at hp
          · simp at hp)
        refine OpOK.same HO hw hK ?_ hdo
        unfold execOp; simp only [ho]
        refine vrun ?_
        unfold Instr.build
        rw [run_bind, run_zeroValue hi hz]; simp only []
        rw [run_bind, run_underlying hu]; simp only []
        rw [run_bind, hrun]; simp only [mapped, hf]; rfl
      | _ => simp at hg
    · exact h.elim
  · exact h.elim
end ops
end Go.Sx

namespace Go.Sx
section ops
variable {P : Program} {E : Env} {g : G} {w : World} {ρ : Operand → Value} {T : List (Nat × V)} {nm : Nat} {K : OpK}

theorem oneOp_simple (EO : EnvOK P E) (HO : HeapOK g) (hw : w.heap = g.hp) (hρ : ∀ x, Den g (ev T x) (ρ x)) {o : Oper}
    (hop : (∃ x, o.op = .move x) ∨ (∃ x, o.op = .assign x) ∨ (∃ c a b, o.op = .pick c a b) ∨ (∃ op x t y t', o.op = .binOp op t x y t') ∨ (∃ op t x, o.op = .unOp op t x) ∨ (∃ s d x, o.op = .convert s d x) ∨ (∃ f a b, o.op = .makeFunc f a b) ∨ (∃ x, o.op = .nilCheck x) ∨ (∃ t i, o.op = .extract t i))
    (h : oneOp E T g.H nm o.op K) : OpOK P ρ o g w nm K := by
  rcases hop with ⟨x, ho⟩ | ⟨x, ho⟩ | ⟨c, a, b, ho⟩ | ⟨op, x, t, y, t', ho⟩ | ⟨op, t, x, ho⟩ | ⟨s, d, x, ho⟩ | ⟨f, a, b, ho⟩ | ⟨x, ho⟩ | ⟨t, i, ho⟩ <;> rw [ho] at h <;> simp only [oneOp] at h
  · exact OpOK.same HO hw h (by unfold execOp; simp only [ho]; rfl) (hρ x)
  · exact OpOK.same HO hw h (by unfold execOp; simp only [ho]; rfl) (hρ x)
  · split at h
    · rename_i t ht
      have hc := hρ c; rw [ht] at hc; have hc := den_bool hc
      cases t
      · exact OpOK.same HO hw h (by unfold execOp; simp only [ho, hc]; rfl) (hρ b)
      · exact OpOK.same HO hw h (by unfold execOp; simp only [ho, hc]; rfl) (hρ a)
    · exact h.elim
  · obtain ⟨U, z, hK, hr, hd⟩ := binV_sound (w := w) EO (hρ x) (hρ y) h x y
    refine OpOK.same HO hw hK ?_ hd
    unfold execOp; simp only [ho]
    exact vrun hr
  · cases op <;> simp only at h <;> try exact h.elim
    · split at h
      · rename_i k n hn
        have hx := hρ x; rw [hn] at hx; have hx := den_int hx
        exact OpOK.same HO hw h (by unfold execOp; simp only [ho, hx]; rfl) (Den.mkInt _ _)
      · exact h.elim
    · split at h
      · rename_i t ht
        have hx := hρ x; rw [ht] at hx; have hx := den_bool hx
        exact OpOK.same HO hw h (by unfold execOp; simp only [ho, hx]; rfl) (Den.mkBool _)
      · exact h.elim
  · split at h
    · rename_i sd sz ag z k sq h1 h2
      split at h
      · rename_i k' n hn
        have hx := hρ x; rw [hn] at hx; have hx := den_int hx
        obtain ⟨u, hu, _⟩ := (EO s _ h1).und
        obtain ⟨u', hu', _, hk'⟩ := (EO d _ h2).und
        have hk' : u' = .int k := hk'
        subst hk'
        refine OpOK.same HO hw h ?_ (Den.mkInt _ _)
        unfold execOp; simp only [ho, hx]
        refine vrun ?_
        unfold convert
        rw [run_bind, run_underlying hu]; simp only []
        rw [run_bind, run_underlying hu']; rfl
      · exact h.elim
    · exact h.elim
  · split at h
    · rename_i ff
      refine OpOK.same (y := .func (.func ff) (a.map ρ) (b.map ρ)) HO hw h (by unfold execOp; simp only [ho]; rfl) ?_
      have e1 : a.map ρ = (a.toList.map ρ).toArray := by cases a; simp
      have e2 : b.map ρ = (b.toList.map ρ).toArray := by cases b; simp
      rw [e1, e2]
      exact .clo ff _ _ _ _ (by simp) (by simp) (fun i h1 h2 => by rw [List.getElem_map, List.getElem_map]; exact hρ _) (fun i h1 h2 => by rw [List.getElem_map, List.getElem_map]; exact hρ _)
    · exact h.elim
  · split at h
    · rename_i p hp
      obtain ⟨b, k, hx, hden⟩ := live_sound (hρ x) hp
      have := hρ x
      rw [hx] at this
      exact OpOK.same HO hw h (by unfold execOp; simp only [ho, hx]; rfl) this
    · exact h.elim
  · split at h
    · rename_i l hl
      split at h
      · rename_i v hv
        have hx := hρ t; rw [hl] at hx
        obtain ⟨vs, hvs, h1, h2⟩ := den_tup hx
        obtain ⟨hlt, rfl⟩ := List.getElem?_eq_some_iff.1 hv
        refine OpOK.same HO hw h ?_ (h2 i hlt (h1 ▸ hlt))
        unfold execOp; simp only [ho, hvs]
        refine vrun ?_
        unfold Instr.extract
        have : (vs.toArray)[i]? = some vs[i] := by simp [h1 ▸ hlt]
        simp only [this]; rfl
      · exact h.elim
    · exact h.elim

theorem sliceBound_run {j : Int} {k : IntKind} {y : Nat} {code : BoundsCode} (h : 0 ≤ j ∧ j ≤ y) : (Instr.sliceBound (.int k j) y code).run P w = .ok j.toNat w := by
  unfold Instr.sliceBound
  rw [run_bind, asIntOf_run]; simp only [h, and_self, if_true]; rfl

def isB (v : Option Value) (d j : Int) : Prop :=
  match v with
  | none => j = d
  | some x => ∃ k, x = .int k j

theorem low_run (lo : Option Value) (l : Int) (q m' : Nat) (code : BoundsCode) : isB lo 0 l → 0 ≤ l → l ≤ q →
    (match lo with | some v => (do let l ← Instr.sliceBound v q code; pure (l, q, m')) | none => (do let l ← pure 0; pure (l, q, m')) : Sem (Nat × Nat × Nat)).run P w = .ok (l.toNat, q, m') w := by
  intro hlo h0 hq
  cases lo with
  | none => simp only [isB] at hlo; subst hlo; rfl
  | some x => obtain ⟨k, rfl⟩ := hlo; simp only []; rw [run_bind, sliceBound_run (by omega)]; rfl

/-- The three bounds of a slice expression. -/
theorem bounds_run {b : Bool} {len cap : Nat} {lo hi mx : Option Value} {l t u : Int} (hlo : isB lo 0 l) (hhi : isB hi len t) (hmx : isB mx len u) (hmh : mx = none ∨ hi ≠ none) (hcap : len ≤ cap)
    (h : 0 ≤ l ∧ l ≤ t ∧ t ≤ u ∧ u ≤ (len : Int)) : ∃ m, (Instr.sliceBounds b len cap lo hi mx).run P w = .ok (l.toNat, t.toNat, m) w ∧ t.toNat ≤ m ∧ m ≤ cap := by
  have low := fun (q m' : Nat) (code : BoundsCode) (hq : t ≤ q) => low_run (P := P) (w := w) lo l q m' code hlo (by omega) (by omega)
  unfold Instr.sliceBounds
  cases mx with
  | none =>
    refine ⟨cap, ?_, by omega, Nat.le_refl _⟩
    rw [run_bind, run_pure]; simp only []
    cases hi with
    | none =>
      simp only [isB] at hhi
      rw [run_bind, run_pure]; simp only []
      have e := low len cap (if (none : Option Value).isSome then .slice3C else .sliceB) (by omega)
      refine e.trans ?_
      have : t.toNat = len := by omega
      rw [this]
    | some y =>
      obtain ⟨k, rfl⟩ := hhi
      simp only []
      rw [run_bind, sliceBound_run (by omega)]; simp only []
      exact low t.toNat cap (if (none : Option Value).isSome then .slice3C else .sliceB) (by omega)
  | some z =>
    obtain ⟨kz, rfl⟩ := hmx
    cases hi with
    | none => simp at hmh
    | some y =>
      obtain ⟨k, rfl⟩ := hhi
      refine ⟨u.toNat, ?_, by omega, by omega⟩
      simp only []
      rw [run_bind, sliceBound_run (by omega)]; simp only []
      rw [run_bind, sliceBound_run (by omega)]; simp only []
      exact low t.toNat u.toNat (if (some (Value.int kz u) : Option Value).isSome then .slice3C else .sliceB) (by omega)

theorem sliceHi_sound {v : Option Operand} {n : Nat} {K : Int → Prop} (hρ : ∀ x, Den g (ev T x) (ρ x)) (h : sliceHi (v.map (ev T)) n K) : ∃ j, K j ∧ isB (v.map ρ) n j := by
  cases v with
  | none => exact ⟨n, h, rfl⟩
  | some x =>
    simp only [Option.map_some, sliceHi] at h
    split at h
    · rename_i he; simp at he
    · rename_i k j he
      simp at he
      have := hρ x; rw [he] at this
      exact ⟨j, h, _, den_int this⟩
    · exact h.elim

theorem take_drop_get {α : Type} (l : List α) (a n i : Nat) (h : i < ((l.drop a).take n).length) : ∃ hx, ((l.drop a).take n)[i] = l[a + i]'hx := by
  have : a + i < l.length := by simp at h; omega
  exact ⟨this, by simp⟩

theorem subO_len {o : V} {lo n : Nat} (h : lo + n ≤ lenO o) (hg : 0 < lenO o) : lenO (subO o lo n) = n ∧ strO (subO o lo n) = strO o := by
  cases o <;> simp only [subO, lenO, strO] at * <;> first | omega | (refine ⟨?_, trivial⟩; simp; omega) | exact ⟨rfl, rfl⟩ | exact ⟨trivial, trivial⟩ | skip

theorem subO_objR {hp : Array Obj} {ok : Nat → Prop} {o : V} {b bo lo n : Nat} (h : ObjR hp ok o b bo) (hle : lo + n ≤ lenO o) : ObjR hp ok (subO o lo n) b (bo + lo * strO o) := by
  cases h with
  | ints k l _ _ c T fz hc h =>
    refine .ints k _ _ _ c T fz hc fun i hi => ?_
    obtain ⟨h', e⟩ := take_drop_get l lo n i hi
    rw [e, ← h _ h']; simp [strO, Nat.add_assoc]
  | els l _ _ c T fz hc h =>
    refine .els _ _ _ c T fz hc fun i hi j hj => ?_
    obtain ⟨h', e⟩ := take_drop_get l lo n i hi
    rw [e, ← h _ h' j hj]; simp only [strO]; congr 1; omega
  | pts l _ _ c T fz hc h =>
    refine .pts _ _ _ c T fz hc fun i hi j hj => ?_
    obtain ⟨h', e⟩ := take_drop_get l lo n i hi
    rw [e, ← h _ h' j hj]; simp only [strO]; congr 1; omega
  | agg l _ _ c T fz vs hc h1 h2 h3 =>
    simp only [lenO] at hle
    refine .agg _ _ _ c T fz (fun i => vs (lo + i)) hc (fun i hi => ?_) (fun i hi => h2 _ (by simp at hi; omega)) (fun i hi => ?_)
    · rw [← h1 (lo + i) (by simp at hi; omega)]; simp [strO, Nat.add_assoc]
    · obtain ⟨h', e⟩ := take_drop_get l lo n i hi
      rw [e]; exact h3 _ h'
  | gen m s f _ _ c T fz vs hc hn h1 h2 h3 =>
    simp only [lenO] at hle
    refine .gen _ _ _ _ _ c T fz (fun i j => vs (lo + i) j) hc (fun i hi => hn _ (by omega)) (fun i hi j hj => ?_) (fun i hi j hj => h2 _ (by omega) j hj) (fun i hi j hj => h3 _ (by omega) j hj)
    rw [← h1 (lo + i) (by omega) j hj]; simp only [strO]; congr 1
    rw [Nat.add_mul]; omega
end ops
end Go.Sx

namespace Go.Sx
section ops
variable {P : Program} {E : Env} {g : G} {w : World} {ρ : Operand → Value} {T : List (Nat × V)} {nm : Nat} {K : OpK}

theorem oneOp_slice (EO : EnvOK P E) (HO : HeapOK g) (hw : w.heap = g.hp) (hρ : ∀ x, Den g (ev T x) (ρ x)) {o : Oper} {t : Nat} {x : Operand} {lo hi mx : Option Operand} (ho : o.op = .slice t x lo hi mx) (h : oneOp E T g.H nm (.slice t x lo hi mx) K) : OpOK P ρ o g w nm K := by
  simp only [oneOp] at h
  split at h
  · rename_i d hd
    have TO := EO t d hd
    obtain ⟨u, hu, _, hk⟩ := TO.und
    unfold sliceV at h
    obtain ⟨hmh, h⟩ := guard_iff.1 h
    have hmh' : mx.map ρ = none ∨ hi.map ρ ≠ none := by
      cases mx <;> cases hi <;> simp at hmh ⊢
    split at h
    · rename_i n e hkd
      rw [hkd] at hk
      have hk : u = .array n e := hk
      subst hk
      split at h
      · rename_i de hde
        obtain ⟨ie, _, hie, hse, _⟩ := (EO e de hde).info
        split at h
        · rename_i m off hx
          split at h
          · rename_i ver ob he
            obtain ⟨h1, h⟩ := guard_iff.1 h
            have hs1 := Nat.eq_of_beq_eq_true h1
            obtain ⟨l, h, bl⟩ := sliceHi_sound hρ h
            obtain ⟨q, h, bq⟩ := sliceHi_sound hρ h
            obtain ⟨v, h, bv⟩ := sliceHi_sound hρ h
            obtain ⟨h2, hK⟩ := guard_iff.1 h
            have hb : 0 ≤ l ∧ l ≤ q ∧ q ≤ v ∧ v ≤ (n : Int) := by simpa using h2
            have hxv := hρ x; rw [hx] at hxv
            obtain ⟨_, hA, hxx⟩ := den_ptr hxv
            have hxp := hxx _ he rfl
            obtain ⟨mm, hrun, hm1, hm2⟩ := bounds_run (P := P) (w := w) (b := false) bl bq bv hmh' (Nat.le_refl n) hb
            refine OpOK.same (y := .slice (some (if mm = l.toNat then ⟨g.ρ m, off, none⟩ else (⟨g.ρ m, off, none⟩ : Addr).add (l.toNat * 1))) (q.toNat - l.toNat) (mm - l.toNat)) HO hw hK ?_ ?_
            · unfold execOp; simp only [ho, hxp]
              refine vrun ?_
              unfold Instr.sliceAt
              rw [run_bind, run_underlying hu]; simp only []
              rw [run_bind, sureAddr_run]; simp only []
              rw [run_bind, hrun]; simp only []
              rw [run_bind, run_sizeOf hie]; simp only [hse, hs1]; rfl
            · refine .sl m _ _ _ rfl hA fun e' he' _ => ⟨_, _, rfl, by omega, fun hlt => ?_⟩
              rw [if_neg (by omega), add_none]; simp
          · exact h.elim
        · exact h.elim
      · exact h.elim
    · rename_i e hkd
      rw [hkd] at hk
      have hk : u = .slice e := hk
      subst hk
      split at h
      · rename_i de hde
        obtain ⟨ie, _, hie, hse, _⟩ := (EO e de hde).info
        have run : ∀ {ao : Option Addr} {len cap : Nat} {l q v : Int}, ρ x = .slice ao len cap → len ≤ cap → isB (lo.map ρ) 0 l → isB (hi.map ρ) len q → isB (mx.map ρ) len v → 0 ≤ l ∧ l ≤ q ∧ q ≤ v ∧ v ≤ (len : Int) →
            ∃ m, (execOp ρ o).run P w = .ok (.value (.slice (if m = l.toNat then ao else ao.map (·.add (l.toNat * de.size))) (q.toNat - l.toNat) (m - l.toNat))) w ∧ q.toNat ≤ m := by
          intro ao len cap l q v hx hle bl bq bv hb
          obtain ⟨mm, hrun, hm1, hm2⟩ := bounds_run (P := P) (w := w) (b := true) bl bq bv hmh' hle hb
          refine ⟨mm, ?_, hm1⟩
          unfold execOp; simp only [ho, hx]
          refine vrun ?_
          unfold Instr.sliceAt
          rw [run_bind, run_underlying hu]; simp only []
          unfold Instr.slice
          rw [run_bind, run_underlying hu]; simp only []
          rw [run_bind, hrun]; simp only []
          rw [run_bind, run_sizeOf hie]; simp only [hse]; rfl
        split at h
        · rename_i fr ob hx
          obtain ⟨h1, h⟩ := guard_iff.1 h
          have hst := Nat.eq_of_beq_eq_true h1
          obtain ⟨l, h, bl⟩ := sliceHi_sound hρ h
          obtain ⟨q, h, bq⟩ := sliceHi_sound hρ h
          obtain ⟨v, h, bv⟩ := sliceHi_sound hρ h
          obtain ⟨h2, hK⟩ := guard_iff.1 h
          have hb : 0 ≤ l ∧ l ≤ q ∧ q ≤ v ∧ v ≤ (lenO ob : Int) := by simpa using h2
          have hxv := hρ x; rw [hx] at hxv
          have hr := den_rs hxv
          cases hxe : ρ x with
          | slice ao len cap =>
            rw [hxe] at hr
            have hlen : len = lenO ob ∧ len ≤ cap ∨ lenO ob = 0 ∧ len = 0 := by
              cases hr with
              | rs _ _ _ _ _ _ hl => exact .inl ⟨rfl, hl⟩
              | rs0 _ _ _ h0 => exact .inr ⟨h0, rfl⟩
            have hle : len ≤ cap := by rcases hlen with h | h <;> omega
            have hll : len = lenO ob := by rcases hlen with h | h <;> omega
            obtain ⟨m, hrun, hm⟩ := run hxe hle bl (hll ▸ bq) (hll ▸ bv) (by omega)
            refine OpOK.same HO hw hK hrun (Den.mkRs ?_)
            by_cases hz : q.toNat - l.toNat = 0
            · rw [hz]
              refine .rs0 _ _ _ ?_
              cases ob <;> simp [subO, lenO]
            · have hpos : 0 < lenO ob := by omega
              cases hr with
              | rs _ b off _ hok hob _ =>
                obtain ⟨e1, e2⟩ := subO_len (o := ob) (lo := l.toNat) (n := q.toNat - l.toNat) (by omega) hpos
                rw [if_neg (by omega)]
                have := DenR.rs (hp := g.hp) (ok := g.ok (g.lo fr)) (subO ob l.toNat (q.toNat - l.toNat)) b (off + l.toNat * strO ob) (m - l.toNat) hok (subO_objR hob (by omega)) (by omega)
                rw [e1] at this
                simpa [add_none, hst] using this
              | rs0 _ _ _ h0 => omega
          | _ => rw [hxe] at hr; cases hr
        · rename_i n ver hx
          split at h
          · rename_i ver' ob he
            obtain ⟨h1, h⟩ := guard_iff.1 h
            simp only [Bool.and_eq_true] at h1
            have hst := Nat.eq_of_beq_eq_true h1.1
            have hv := Nat.eq_of_beq_eq_true h1.2
            obtain ⟨l, h, bl⟩ := sliceHi_sound hρ h
            obtain ⟨q, h, bq⟩ := sliceHi_sound hρ h
            obtain ⟨v, h, bv⟩ := sliceHi_sound hρ h
            obtain ⟨h2, hK⟩ := guard_iff.1 h
            have hb : 0 ≤ l ∧ l ≤ q ∧ q ≤ v ∧ v ≤ (lenO ob : Int) := by simpa using h2
            have hxv := hρ x; rw [hx] at hxv
            obtain ⟨hA, hA', hxx⟩ := den_slw hxv
            obtain ⟨ao, cap, hxe, h0, hpos⟩ := hxx _ he rfl hv.symm
            have hle : lenO ob ≤ cap := by
              rcases Nat.eq_zero_or_pos (lenO ob) with hz | hz
              · omega
              · exact (hpos hz).2.1
            obtain ⟨m, hrun, hm⟩ := run hxe hle bl bq bv hb
            refine OpOK.same HO hw hK hrun (.sub n ver _ _ _ rfl hA hA' fun e' he' _ _ => ⟨_, _, rfl, by omega, fun hlt => ?_⟩)
            rw [he] at he'; cases he'
            rw [if_neg (by omega), (hpos (by omega)).1]
            simp [add_none, hst]
          · exact h.elim
        · exact h.elim
      · exact h.elim
    · exact h.elim
  · exact h.elim

theorem oneOp_arr (EO : EnvOK P E) (HO : HeapOK g) (hw : w.heap = g.hp) (hρ : ∀ x, Den g (ev T x) (ρ x)) {o : Oper} {t : Nat} {x : Operand} (ho : o.op = .sliceToArrayPointer t x) (h : oneOp E T g.H nm (.sliceToArrayPointer t x) K) : OpOK P ρ o g w nm K := by
  simp only [oneOp] at h
  split at h
  · rename_i sz ag z n e sq hd
    obtain ⟨u, hu, _, hk⟩ := (EO t _ hd).und
    have hk : u = .array n e := hk
    subst hk
    split at h
    · rename_i m off len hx
      split at h
      · rename_i ver ob he
        obtain ⟨h1, hK⟩ := guard_iff.1 h
        simp only [Bool.and_eq_true] at h1
        have h2 := ble_le h1.1
        have h3 := blt_lt h1.2
        have hxv := hρ x; rw [hx] at hxv
        obtain ⟨hA, hxx⟩ := den_sl hxv
        obtain ⟨ao, cap, hxe, hle, hao⟩ := hxx _ he rfl
        have hao := hao (by omega)
        refine OpOK.same HO hw hK ?_ (.ptr m off (.pointer ao) rfl hA fun e' _ _ => by rw [hao])
        unfold execOp; simp only [ho, hxe]
        refine vrun ?_
        unfold Instr.arrayAt
        rw [run_bind, run_underlying hu]; simp only []
        rw [if_neg (by omega)]; rfl
      · exact h.elim
    · exact h.elim
  · exact h.elim

theorem replicate_cells (zero : Array Value) (n : Nat) (v : Value) (hz : zero = #[v]) : (Array.range (n * 1)).map (fun i => zero[i % zero.size]!) = (List.replicate n v).toArray := by
  subst hz
  apply Array.ext
  · simp
  · intro i h1 h2; simp [Nat.mod_one]

theorem oneOp_makeSlice (EO : EnvOK P E) (HO : HeapOK g) (hw : w.heap = g.hp) (hn : ¬ g.A nm) (hρ : ∀ x, Den g (ev T x) (ρ x)) {o : Oper} {t : Nat} {x y : Operand} (ho : o.op = .makeSlice t x y) (h : oneOp E T g.H nm (.makeSlice t x y) K) : OpOK P ρ o g w nm K := by
  simp only [oneOp] at h
  split at h
  · rename_i sz ag z e sq hd
    obtain ⟨u, hu, _, hk⟩ := (EO t _ hd).und
    have hk : u = .slice e := hk
    subst hk
    split at h
    · rename_i sz' ag' k' z' k sq' hde
      have TE := EO e _ hde
      obtain ⟨ie, ze, hie, hse, hbytes, hze, hdz, hcz⟩ := TE.info
      split at h
      · rename_i k1 n hx
        split at h
        · rename_i k2 m hy
          obtain ⟨h1, hK⟩ := guard_iff.1 h
          simp only [Bool.and_eq_true, decide_eq_true_eq] at h1
          obtain ⟨⟨⟨h1, h2⟩, h3⟩, h0, hle, hmn⟩ := h1
          have hs1 := Nat.eq_of_beq_eq_true h1
          have hkk := kindEq_eq h2
          subst hkk h3 hmn
          have hxv := hρ x; rw [hx] at hxv; have hxv := den_int hxv
          have hyv := hρ y; rw [hy] at hyv; have hyv := den_int hyv
          have hz0 : ze = .int k 0 := by cases hdz; rfl
          subst hz0
          have hwrap : IntKind.i64.wrap m = m := by
            unfold IntKind.wrap; simp [IntKind.signed, IntKind.bits]; omega
          have hbig : ¬ (ie.bytes * m > 2 ^ 48) := by
            have h1 : (ie.bytes : Int) * m ≤ 65536 * 4294967296 := Int.mul_le_mul (by omega) hle h0 (by omega)
            omega
          have hroom : ∀ b, (askRoom b).run P w = .ok () w := by intro b; unfold askRoom; split <;> rfl
          refine ⟨_, g.create nm ⟨true, nm, .ints k (List.replicate m.toNat 0)⟩ (List.replicate m.toNat (Value.int k 0)).toArray e, _, .value (.slice (some ⟨w.heap.size, 0, none⟩) m.toNat m.toNat), _, hK, ?_, rfl, ?_, create_ext HO hw hn _ (by simp) _ e (fun _ => ?_)⟩
          · unfold execOp; simp only [ho, hxv, hyv]
            refine vrun ?_
            unfold Instr.makeSlice
            rw [run_bind, run_underlying hu]; simp only []
            rw [run_bind, asInt_run]; simp only []
            rw [run_bind, asInt_run]; simp only []
            rw [run_bind, run_typeInfo hie]; simp only [hwrap]
            have hc1 : (decide (m < 0) || decide (↑ie.bytes * m > 2 ^ 48)) = false := by simp; omega
            simp only [hc1]
            rw [if_neg (by simp; omega)]
            rw [run_bind, hroom]; simp only []
            rw [run_bind, run_sizeOf hie]; simp only [hse, hs1]
            by_cases hm : m.toNat = 0
            · rw [if_pos (by omega), run_bind, run_pure]; simp only []
              rw [run_bind, run_newRow]
              have : m = 0 := by omega
              subst this
              have e0 : ∀ (f : Nat → Value), Array.map f (Array.range (Int.toNat 0 * 1)) = (List.replicate (Int.toNat 0) (Value.int k 0)).toArray := by intro f; simp
              simp only [e0]; rfl
            · rw [if_neg (by omega), run_bind, run_zeroValue hie hze]; simp only []
              rw [run_bind, run_pure]; simp only []
              rw [run_bind, run_newRow]
              have := replicate_cells (Value.int k 0).cells m.toNat (Value.int k 0) rfl
              simp only [this]; rfl
          · refine .slw nm nm _ rfl (.inr rfl) (.inr rfl) fun e' he' _ _ => ?_
            have : e' = ⟨true, nm, .ints k (List.replicate m.toNat 0)⟩ := by simpa [G.create, lk_cons] using he'.symm
            subst this
            refine ⟨some ⟨w.heap.size, 0, none⟩, m.toNat, by simp [lenO], by simp [lenO], fun _ => ⟨by simp [G.create, hw], by simp [lenO], by simp [G.create, strO]⟩⟩
          · intro i hi; simp at hi; simp [hi]
        · exact h.elim
      · exact h.elim
    · exact h.elim
  · exact h.elim
end ops
end Go.Sx

namespace Go.Sx

theorem ex8 {l : List Int} (h : 8 ≤ l.length) : ∃ (e : El) (r : List Int), l = e.toL ++ r ∧ l.length = r.length + 8 :=
  ⟨El.ofL (l.take 8), l.drop 8, by rw [ofL_toL8 _ (by simp; omega), List.take_append_drop], by simp; omega⟩
theorem ex24 {l : List Int} (h : 24 ≤ l.length) : ∃ (e : Pt) (r : List Int), l = e.toL ++ r ∧ l.length = r.length + 24 :=
  ⟨Pt.ofL (l.take 24), l.drop 24, by rw [ofL_toL _ (by simp; omega), List.take_append_drop], by simp; omega⟩

theorem chunk8_get : ∀ (n : Nat) (l : List Int), l.length = n * 8 → (chunk8 l).length = n ∧ ∀ i (h : i < (chunk8 l).length) j, j < 8 → ((chunk8 l)[i]).toL.getD j 0 = l.getD (i * 8 + j) 0
  | 0, l, h => by
    have : l = [] := List.length_eq_zero_iff.1 (by omega)
    subst this
    exact ⟨rfl, fun i h => by simp [chunk8] at h⟩
  | n + 1, l, h => by
    obtain ⟨e, r, rfl, hr⟩ := ex8 (l := l) (by omega)
    obtain ⟨h1, h2⟩ := chunk8_get n r (by omega)
    have hc : chunk8 (e.toL ++ r) = e :: chunk8 r := rfl
    refine ⟨by simp [hc, h1], fun i hi j hj => ?_⟩
    simp only [hc] at hi ⊢
    cases i with
    | zero =>
      simp only [List.getElem_cons_zero, Nat.zero_mul, Nat.zero_add, List.getD_eq_getElem?_getD]
      rw [List.getElem?_append_left (by rw [toL8]; exact hj)]
    | succ i =>
      have hi' : i < (chunk8 r).length := by simpa using hi
      have e1 : (i + 1) * 8 + j = 8 + (i * 8 + j) := by omega
      rw [e1]
      have := h2 i hi' j hj
      simp only [List.getElem_cons_succ]
      rw [this]
      simp only [List.getD_eq_getElem?_getD]
      rw [List.getElem?_append_right (by rw [toL8]; omega), toL8]
      congr 2; omega

theorem chunk24_get : ∀ (n : Nat) (l : List Int), l.length = n * 24 → (chunk24 l).length = n ∧ ∀ i (h : i < (chunk24 l).length) j, j < 24 → ((chunk24 l)[i]).toL.getD j 0 = l.getD (i * 24 + j) 0
  | 0, l, h => by
    have : l = [] := List.length_eq_zero_iff.1 (by omega)
    subst this
    exact ⟨rfl, fun i h => by simp [chunk24] at h⟩
  | n + 1, l, h => by
    obtain ⟨e, r, rfl, hr⟩ := ex24 (l := l) (by omega)
    obtain ⟨h1, h2⟩ := chunk24_get n r (by omega)
    have hc : chunk24 (e.toL ++ r) = e :: chunk24 r := rfl
    refine ⟨by simp [hc, h1], fun i hi j hj => ?_⟩
    simp only [hc] at hi ⊢
    cases i with
    | zero =>
      simp only [List.getElem_cons_zero, Nat.zero_mul, Nat.zero_add, List.getD_eq_getElem?_getD]
      rw [List.getElem?_append_left (by rw [toL24]; exact hj)]
    | succ i =>
      have hi' : i < (chunk24 r).length := by simpa using hi
      have e1 : (i + 1) * 24 + j = 24 + (i * 24 + j) := by omega
      rw [e1]
      have := h2 i hi' j hj
      simp only [List.getElem_cons_succ]
      rw [this]
      simp only [List.getD_eq_getElem?_getD]
      rw [List.getElem?_append_right (by rw [toL24]; omega), toL24]
      congr 2; omega

section ops
variable {P : Program} {E : Env} {g : G} {w : World} {ρ : Operand → Value} {T : List (Nat × V)} {nm : Nat} {K : OpK}

theorem zeros_eq {l : List Int} (h : zeros l = true) : l = List.replicate l.length 0 := by
  apply List.ext_getElem
  · simp
  · intro i h1 h2
    have := List.all_eq_true.1 h l[i] (List.getElem_mem h1)
    simpa using this

theorem rep_get (n q : Nat) (v : Value) (h : q < n) : (Value.agg (List.replicate n v).toArray).cells[q]! = v := by
  show (List.replicate n v).toArray[q]! = v
  rw [getElem!_pos _ q (by simpa using h)]; simp

theorem litO_sound {d : TD} {zv : Value} {len : Nat} {o0 : V} (hden : DenR #[] (fun _ => False) d.zero zv) (h : litO d.seq d.size d.zero len = some o0) (hsz : zv.cells.size = d.size) :
    ObjD g o0 ((Array.range (len * d.size)).map (fun i => zv.cells[i % zv.cells.size]!)) ∧ strO o0 = 1 ∧ lenO o0 = len * d.size := by
  unfold litO at h
  have ints0 : ∀ (k : IntKind) (n : Nat), (∀ i, i < n → zv.cells[i % zv.cells.size]! = Value.int k 0) → ObjD g (.ints k (List.replicate n 0)) ((Array.range n).map (fun i => zv.cells[i % zv.cells.size]!)) := by
    intro k n hz i hi
    simp at hi
    simp [hi, hz i hi]
  split at h
  · rename_i k hk
    split at h
    · rename_i k' n hz
      rw [hz] at hden
      cases hden
      rw [Bool.cond_eq_ite] at h
      split at h <;> rename_i hc <;> simp at hc h
      obtain ⟨⟨h1, h2⟩, h3⟩ := hc
      have := kindEq_eq h2
      subst h h3 this
      refine ⟨?_, rfl, by simp [lenO, h1]⟩
      rw [h1, Nat.mul_one]
      exact ints0 _ _ (fun i _ => by simp [Value.cells, Nat.mod_one])
    · simp at h
  · rename_i hk
    split at h
    · rename_i l hz
      rw [hz] at hden
      cases hden
      rw [Bool.cond_eq_ite] at h
      split at h <;> rename_i hc <;> simp at hc h
      obtain ⟨⟨h1, h2⟩, h3⟩ := hc
      subst h
      refine ⟨?_, rfl, by simp [lenO, h1]⟩
      rw [h1]
      refine ints0 _ _ (fun i _ => ?_)
      have hl := zeros_eq h3
      rw [hl, h2]
      have : i % 8 < 8 := Nat.mod_lt _ (by omega)
      generalize hq : i % 8 = q at this
      have hz : ∀ q, q < 8 → (Value.agg (List.map (Value.int .u64) (List.replicate 8 0)).toArray).cells[q]! = Value.int .u64 0 := fun q hq => by
        rw [List.map_replicate]; exact rep_get _ _ _ hq
      have hs : (Value.agg (List.map (Value.int .u64) (List.replicate 8 0)).toArray).cells.size = 8 := rfl
      rw [hs, hq]; exact hz q this
    · simp at h
  · rename_i hk
    split at h
    · rename_i l hz
      rw [hz] at hden
      cases hden
      rw [Bool.cond_eq_ite] at h
      split at h <;> rename_i hc <;> simp at hc h
      obtain ⟨⟨h1, h2⟩, h3⟩ := hc
      subst h
      refine ⟨?_, rfl, by simp [lenO, h1]⟩
      rw [h1]
      refine ints0 _ _ (fun i _ => ?_)
      have hl := zeros_eq h3
      rw [hl, h2]
      have : i % 24 < 24 := Nat.mod_lt _ (by omega)
      generalize hq : i % 24 = q at this
      have hz : ∀ q, q < 24 → (Value.agg (List.map (Value.int .u64) (List.replicate 24 0)).toArray).cells[q]! = Value.int .u64 0 := fun q hq => by
        rw [List.map_replicate]; exact rep_get _ _ _ hq
      have hs : (Value.agg (List.map (Value.int .u64) (List.replicate 24 0)).toArray).cells.size = 24 := rfl
      rw [hs, hq]; exact hz q this
    · simp at h
  · rw [Bool.cond_eq_ite] at h
    split at h <;> rename_i hc <;> simp at hc h
    obtain ⟨h1, h2⟩ := hc
    subst h
    have hd : Den g d.zero zv := DenR.ofNone hden
    have hone := cellish_one h2 hd
    refine ⟨?_, rfl, by simp [lenO, h1]⟩
    rw [h1, Nat.mul_one, cells_one hone]
    intro i hi
    simp at hi
    exact ⟨zv, by simp [hi, Nat.mod_one], hone, by simpa using hd⟩
  · simp at h

theorem litE_sound {sk : SK} {s len : Nat} {z o0 o o' : V} {c : Array Value} (h0 : litO sk s z len = some o0) (hob : ObjD g o c) (hs : strO o = 1) (hl : lenO o = lenO o0) (h : litE sk o = some o') (hlen : lenO o0 = len * s) :
    ObjD g o' c ∧ lenO o' = len ∧ len * strO o' = lenO o0 := by
  unfold litE at h
  unfold litO at h0
  cases sk <;> simp only at h h0
  · simp at h; subst h
    have h1 : s = 1 := by
      cases z <;> simp only at h0 <;> try (simp at h0; done)
      rw [Bool.cond_eq_ite] at h0
      split at h0 <;> rename_i hc <;> simp at hc h0
      exact hc.1.1
    subst h1
    exact ⟨hob, by omega, by rw [hs]; omega⟩
  · cases o <;> (try simp only at h) <;> try (simp at h; done)
    rename_i k l
    cases k <;> try (simp at h; done)
    simp at h; subst h
    have h1 : s = 8 := by
      cases z <;> (try simp only at h0) <;> try (simp at h0; done)
      rename_i k m
      cases k <;> try (simp at h0; done)
      simp only [Bool.cond_eq_ite] at h0
      split at h0 <;> rename_i hc <;> simp at hc h0
      exact hc.1.1
    subst h1
    have hll : l.length = len * 8 := by rw [← hlen, ← hl]; rfl
    obtain ⟨k1, k2⟩ := chunk8_get len l hll
    refine ⟨fun i hi j hj => ?_, k1, by simp only [strO]; omega⟩
    rw [k2 i hi j hj]
    have hb : i * 8 + j < l.length := by rw [k1] at hi; omega
    have := hob (i * 8 + j) hb
    rw [this]; simp [List.getD_eq_getElem?_getD, hb]
  · cases o <;> (try simp only at h) <;> try (simp at h; done)
    rename_i k l
    cases k <;> try (simp at h; done)
    simp at h; subst h
    have h1 : s = 24 := by
      cases z <;> (try simp only at h0) <;> try (simp at h0; done)
      rename_i k m
      cases k <;> try (simp at h0; done)
      simp only [Bool.cond_eq_ite] at h0
      split at h0 <;> rename_i hc <;> simp at hc h0
      exact hc.1.1
    subst h1
    have hll : l.length = len * 24 := by rw [← hlen, ← hl]; rfl
    obtain ⟨k1, k2⟩ := chunk24_get len l hll
    refine ⟨fun i hi j hj => ?_, k1, by simp only [strO]; omega⟩
    rw [k2 i hi j hj]
    have hb : i * 24 + j < l.length := by rw [k1] at hi; omega
    have := hob (i * 24 + j) hb
    rw [this]; simp [List.getD_eq_getElem?_getD, hb]
  · simp at h; subst h
    have h1 : s = 1 := by
      rw [Bool.cond_eq_ite] at h0
      split at h0 <;> rename_i hc <;> simp at hc h0
      exact hc.1
    subst h1
    exact ⟨hob, by omega, by rw [hs]; omega⟩
  · simp at h

theorem oneOp_buildSlice (EO : EnvOK P E) (HO : HeapOK g) (hw : w.heap = g.hp) (hn : ¬ g.A nm) (hρ : ∀ x, Den g (ev T x) (ρ x)) {o : Oper} {t len : Nat} {ps : Array (Nat × Operand)} (ho : o.op = .buildSlice t len ps) (h : oneOp E T g.H nm (.buildSlice t len ps) K) : OpOK P ρ o g w nm K := by
  simp only [oneOp] at h
  split at h
  · rename_i sz ag z e sq hd
    obtain ⟨u, hu, _, hk⟩ := (EO t _ hd).und
    have hk : u = .slice e := hk
    subst hk
    split at h
    · rename_i d hde
      have TE := EO e d hde
      obtain ⟨ie, zv, hie, hse, _, hz, hden, hsz⟩ := TE.info
      have hpos := TE.pos
      split at h
      · rename_i o0 ho0
        obtain ⟨hbound, h⟩ := guard_iff.1 h
        have hbound := ble_le hbound
        obtain ⟨hob0, hst0, hl0⟩ := litO_sound (g := g) (len := len) hden ho0 hsz
        obtain ⟨o', c', hK, hf, hob', hcs, hl', hs'⟩ := buildV_sound (place := fun i => some (i * d.size, d.size)) (by intro i off s hp; simpa [placeOf, hde] using hp) ps.toList o0 _ (fun p _ => hρ p.2) hob0 hst0 h
        split at hK
        · rename_i o'' hE
          obtain ⟨hob'', hlen, hstr⟩ := litE_sound ho0 hob' hs' hl' hE hl0
          have mapped : (ps.map fun (i, x) => (i, ρ x)).toList = ps.toList.map fun p => (p.1, ρ p.2) := by simp
          have hcsz : c'.size = len * d.size := by rw [hcs]; simp
          refine ⟨_, g.create nm ⟨true, nm, o''⟩ c' e, _, .value (.slice (some ⟨w.heap.size, 0, none⟩) len len), _, hK, ?_, rfl, ?_, create_ext HO hw hn _ (by simp) c' e (fun _ => hob'')⟩
          · unfold execOp; simp only [ho]
            refine vrun ?_
            unfold Instr.buildSlice
            rw [run_bind, run_underlying hu]; simp only []
            rw [run_bind, run_sizeOf hie]; simp only [hse]
            rw [if_neg (by omega)]
            by_cases hz0 : len * d.size = 0
            · rw [if_pos hz0, run_bind, run_pure]; simp only [mapped]
              have e0 : ∀ (f : Nat → Value) (f' : Nat → Value), Array.map f (Array.range (len * d.size)) = Array.map f' (Array.range (len * d.size)) := by intro f f'; rw [hz0]; simp
              rw [e0 _ (fun i => zv.cells[i % zv.cells.size]!), hf]; simp only []
              rw [run_bind, run_newRow]; rfl
            · rw [if_neg hz0, run_bind, run_zeroValue hie hz]; simp only []
              rw [run_bind, run_pure]; simp only [mapped, hf]
              rw [run_bind, run_newRow]; rfl
          · refine .slw nm nm _ rfl (.inr rfl) (.inr rfl) fun e' he' _ _ => ?_
            have : e' = ⟨true, nm, o''⟩ := by simpa [G.create, lk_cons] using he'.symm
            subst this
            refine ⟨some ⟨w.heap.size, 0, none⟩, len, by simp [hlen], by simp [hlen], fun _ => ⟨by simp [G.create, hw], by simp [hlen], ?_⟩⟩
            simp only [G.create, if_true]; omega
        · exact hK.elim
      · exact h.elim
    · exact h.elim
  · exact h.elim

/-- Every operation but calls. -/
theorem oneOp_sound (EO : EnvOK P E) (HO : HeapOK g) (hw : w.heap = g.hp) (hn : ¬ g.A nm) (hρ : ∀ x, Den g (ev T x) (ρ x)) {o : Oper} (h : oneOp E T g.H nm o.op K) : OpOK P ρ o g w nm K := by
  cases ho : o.op <;> rw [ho] at h
  case alloc => exact oneOp_alloc EO HO hw hn ho h
  case box => exact oneOp_box HO hw hn hρ ho h
  case load => exact oneOp_load EO HO hw hρ ho h
  case store => exact oneOp_store EO HO hw hρ ho h
  case fieldAddr => exact oneOp_fieldAddr EO HO hw hρ ho h
  case indexAddr => exact oneOp_indexAddr EO HO hw hρ ho h
  case field => exact oneOp_field EO HO hw hρ ho h
  case index => exact oneOp_index EO HO hw hρ ho h
  case build => exact oneOp_build EO HO hw hρ ho h
  case buildSlice => exact oneOp_buildSlice EO HO hw hn hρ ho h
  case makeSlice => exact oneOp_makeSlice EO HO hw hn hρ ho h
  case slice => exact oneOp_slice EO HO hw hρ ho h
  case sliceToArrayPointer => exact oneOp_arr EO HO hw hρ ho h
  case move x => exact oneOp_simple EO HO hw hρ (.inl ⟨x, ho⟩) (ho ▸ h)
  case assign x => exact oneOp_simple EO HO hw hρ (.inr (.inl ⟨x, ho⟩)) (ho ▸ h)
  case pick c a b => exact oneOp_simple EO HO hw hρ (.inr (.inr (.inl ⟨c, a, b, ho⟩))) (ho ▸ h)
  case binOp op t x y t' => exact oneOp_simple EO HO hw hρ (.inr (.inr (.inr (.inl ⟨op, x, t, y, t', ho⟩)))) (ho ▸ h)
  case unOp op t x => exact oneOp_simple EO HO hw hρ (.inr (.inr (.inr (.inr (.inl ⟨op, t, x, ho⟩))))) (ho ▸ h)
  case convert s d x => exact oneOp_simple EO HO hw hρ (.inr (.inr (.inr (.inr (.inr (.inl ⟨s, d, x, ho⟩)))))) (ho ▸ h)
  case makeFunc f a b => exact oneOp_simple EO HO hw hρ (.inr (.inr (.inr (.inr (.inr (.inr (.inl ⟨f, a, b, ho⟩))))))) (ho ▸ h)
  case nilCheck x => exact oneOp_simple EO HO hw hρ (.inr (.inr (.inr (.inr (.inr (.inr (.inr (.inl ⟨x, ho⟩)))))))) (ho ▸ h)
  case extract t i => exact oneOp_simple EO HO hw hρ (.inr (.inr (.inr (.inr (.inr (.inr (.inr (.inr ⟨t, i, ho⟩)))))))) (ho ▸ h)
  all_goals exact absurd h (by simp [oneOp])
end ops
end Go.Sx

namespace Go.Sx
section
variable {P : Program} {E : Env} {g : G} {w : World}

/-! ### Objects of numbers alone, as one row of cells -/
theorem flatMap_len {α β : Type} (f : α → List β) (s : Nat) (hf : ∀ a, (f a).length = s) : ∀ (l : List α), (l.flatMap f).length = l.length * s
  | [] => by simp
  | a :: r => by simp only [List.flatMap_cons, List.length_append, hf, flatMap_len f s hf r, List.length_cons]; rw [Nat.add_mul]; omega
theorem flatMap_get {α β : Type} (f : α → List β) (s : Nat) (hf : ∀ a, (f a).length = s) : ∀ (l : List α) (i j : Nat), j < s → (l.flatMap f)[i * s + j]? = (l[i]?).bind fun a => (f a)[j]?
  | [], i, j, h => by simp
  | a :: r, 0, j, h => by
    simp only [List.flatMap_cons, Nat.zero_mul, Nat.zero_add]
    rw [List.getElem?_append_left (by rw [hf]; exact h)]; simp
  | a :: r, i + 1, j, h => by
    simp only [List.flatMap_cons]
    have e : (i + 1) * s + j = s + (i * s + j) := by rw [Nat.add_mul]; omega
    rw [e, List.getElem?_append_right (by rw [hf]; omega), hf]
    have := flatMap_get f s hf r i j h
    simp only [Nat.add_sub_cancel_left]
    rw [this]; simp

def flatL : V → List Value
  | .ints k l => l.map (Value.int k)
  | .els l => l.flatMap fun e => e.toL.map (Value.int .u64)
  | .pts l => l.flatMap fun e => e.toL.map (Value.int .u64)
  | _ => []

theorem flatL_len {o : V} (h : flatO o = true) : (flatL o).length = lenO o * strO o := by
  cases o <;> simp [flatO] at h
  · simp [flatL, lenO, strO]
  · simp only [flatL, lenO, strO]; exact flatMap_len _ 8 (fun a => by simp [toL8]) _
  · simp only [flatL, lenO, strO]; exact flatMap_len _ 24 (fun a => by simp [toL24]) _

theorem flatL_one {o : V} : ∀ v ∈ flatL o, v.one = true := by
  intro v hv
  cases o <;> simp only [flatL] at hv <;> try (simp at hv; done)
  · simp at hv; obtain ⟨a, _, rfl⟩ := hv; rfl
  · simp at hv; obtain ⟨a, _, b, _, rfl⟩ := hv; rfl
  · simp at hv; obtain ⟨a, _, b, _, rfl⟩ := hv; rfl

theorem flat_iff {D : V → Value → Prop} {o : V} {get : Nat → Option Value} (h : flatO o = true) : Cont D o get ↔ ∀ i (hi : i < (flatL o).length), get i = some (flatL o)[i] := by
  have many : ∀ {α : Type} (l : List α) (tl : α → List Int) (s : Nat), 0 < s → (∀ a, (tl a).length = s) →
      ((∀ i (h : i < l.length) j, j < s → get (i * s + j) = some (.int .u64 ((tl l[i]).getD j 0))) ↔ ∀ i (hi : i < (l.flatMap fun e => (tl e).map (Value.int .u64)).length), get i = some (l.flatMap fun e => (tl e).map (Value.int .u64))[i]) := by
    intro α l tl s hs htl
    have hlen := flatMap_len (fun e => (tl e).map (Value.int .u64)) s (fun a => by simp [htl]) l
    have hget := flatMap_get (fun e => (tl e).map (Value.int .u64)) s (fun a => by simp [htl]) l
    constructor
    · intro h i hi
      rw [hlen] at hi
      have hq : i / s < l.length := by rw [Nat.div_lt_iff_lt_mul hs]; exact hi
      have hm : i % s < s := Nat.mod_lt _ hs
      have e : i / s * s + i % s = i := by rw [Nat.mul_comm]; exact Nat.div_add_mod i s
      have h1 := h (i / s) hq (i % s) hm
      have h2 := hget (i / s) (i % s) hm
      rw [e] at h1 h2
      rw [h1, ← List.getElem?_eq_getElem (by rw [hlen]; exact hi), h2]
      simp [hq, List.getD_eq_getElem?_getD, htl, hm]
    · intro h i hi j hj
      have hb : i * s + j < l.length * s := by
        have : (i + 1) * s ≤ l.length * s := Nat.mul_le_mul_right s hi
        rw [Nat.add_mul] at this; omega
      have h1 := h (i * s + j) (by rw [hlen]; exact hb)
      have h2 := hget i j hj
      rw [h1, ← List.getElem?_eq_getElem (by rw [hlen]; exact hb), h2]
      simp [hi, List.getD_eq_getElem?_getD, htl, hj]
  cases o <;> simp [flatO] at h
  · rename_i k l
    constructor
    · intro h i hi
      have hi' : i < l.length := by simpa [flatL] using hi
      rw [h i hi']; simp [flatL]
    · intro h i hi
      rw [h i (by simpa [flatL] using hi)]; simp [flatL]
  · exact many _ El.toL 8 (by omega) toL8
  · exact many _ Pt.toL 24 (by omega) toL24

theorem objD_cont {o : V} {c : Array Value} (h : flatO o = true) : ObjD g o c ↔ Cont (Den g) o (fun i => c[i]?) := by
  cases o <;> simp [flatO] at h <;> exact Iff.rfl

theorem objR_of {hp : Array Obj} {ok : Nat → Prop} {o : V} {b bo : Nat} {c : Array Value} {T : TypeId} {fz : Nat × Nat} (hf : flatO o = true) (hc : hp[b]? = some (.cells c T fz)) (h : ∀ i (hi : i < (flatL o).length), c[bo + i]? = some (flatL o)[i]) : ObjR hp ok o b bo := by
  have hC := (flat_iff (D := fun _ _ => True) (get := fun i => c[bo + i]?) hf).2 h
  cases o <;> simp [flatO] at hf
  · exact .ints _ _ _ _ c T fz hc hC
  · exact .els _ _ _ c T fz hc hC
  · exact .pts _ _ _ c T fz hc hC

/-- The readers' word for the whole memory. -/
def allOk (hp : Array Obj) (b : Nat) : Prop := b < hp.size

theorem toAll {lo : Nat} (b : Nat) (hb : g.ok lo b) : allOk g.hp b ∧ g.hp[b]? = g.hp[b]? := ⟨hb.1, rfl⟩

theorem beq_and {p q : Bool} {α : Type} {x y : α} {z : α} (h : (bif p && q then x else y) = z) : (p = true ∧ q = true ∧ x = z) ∨ ((p && q) = false ∧ y = z) := by
  cases p <;> cases q <;> simp at h ⊢ <;> exact h

theorem flat_objR (HO : HeapOK g) {ok : Nat → Prop} {n : Nat} {e : Ent} (he : lk n g.H = some e) (hp : e.present) (hf : flatO e.o = true) : ObjR g.hp ok e.o (g.ρ n) 0 := by
  obtain ⟨_, c, T, hc, _, hob⟩ := HO.objs n e he hp
  have := (flat_iff hf).1 ((objD_cont hf).1 hob)
  exact objR_of hf hc (fun i hi => by rw [Nat.zero_add]; exact this i hi)

theorem flat_sub {o : V} {lo n : Nat} (h : flatO o = true) : flatO (subO o lo n) = true := by cases o <;> simp [flatO] at h ⊢ <;> rfl

theorem ro0_gen (HO : HeapOK g) {ok : Nat → Prop} (hown : ∀ n e, lk n g.H = some e → e.present → ok (g.ρ n)) {v : V} {x : Value} (hd : Den g v x) (hrs : ∀ fr o, v = .rs fr o → DenR g.hp ok (.rs false o) x) (hrp : ∀ fr o i f, v = .rptr fr o i f → DenR g.hp ok (.rptr false o i f) x) : DenR g.hp ok (ro0 g.H v) x := by
  have anyR : ∀ {x}, DenR g.hp ok .any x := .any _
  cases v <;> simp only [ro0] <;> try exact anyR
  · rw [den_int hd]; exact .int _ _
  · rw [den_bool hd]; exact .bool _
  · rw [den_str hd]; exact .str _
  · rw [den_nilptr hd]; exact .nilptr
  · rw [den_nilsl hd]; exact .nilsl
  · rw [den_nilfn hd]; exact .nilfn
  · -- slw
    rename_i n ver
    split
    · rename_i ver' o he
      cases hb : (Nat.beq ver ver' && flatO o)
      · exact anyR
      · simp only [Bool.and_eq_true] at hb
        obtain ⟨_, _, hx⟩ := den_slw hd
        obtain ⟨ao, cap, rfl, h0, h1⟩ := hx _ he rfl (Nat.eq_of_beq_eq_true hb.1).symm
        rcases Nat.eq_zero_or_pos (lenO o) with hz | hz
        · simp only [hz]; exact .rs0 _ _ _ hz
        · obtain ⟨rfl, hle, _⟩ := h1 hz
          exact .rs _ _ _ _ (hown _ _ he (.inr hz)) (flat_objR HO he (.inr hz) hb.2) hle
    · exact anyR
  · -- sub
    rename_i n ver lo len
    split
    · rename_i ver' o he
      cases hb : (Nat.beq ver ver' && flatO o && Nat.ble (lo + len) (lenO o))
      · exact anyR
      · simp only [Bool.and_eq_true] at hb
        have hle := ble_le hb.2
        obtain ⟨_, _, hx⟩ := den_sub hd
        obtain ⟨ao, cap, rfl, h0, h1⟩ := hx _ he rfl (Nat.eq_of_beq_eq_true hb.1.1).symm
        rcases Nat.eq_zero_or_pos len with hz | hz
        · subst hz; exact .rs0 _ _ _ (by cases o <;> simp [subO, lenO])
        · have hpos : 0 < lenO o := by omega
          obtain ⟨e1, e2⟩ := subO_len (o := o) hle hpos
          have := DenR.rs (hp := g.hp) (ok := ok) (subO o lo len) (g.ρ n) (0 + lo * strO o) cap (hown _ _ he (.inr hpos)) (subO_objR (ok := ok) (flat_objR (ok := ok) HO he (.inr hpos) hb.1.2) hle) (by omega)
          rw [e1, Nat.zero_add, ← h1 hz] at this
          exact this
    · exact anyR
  · -- sl
    rename_i n off len
    split
    · rename_i ver k l he
      cases hb : Nat.ble (off + len) l.length
      · exact anyR
      · have hle := ble_le hb
        obtain ⟨_, hx⟩ := den_sl hd
        obtain ⟨ao, cap, rfl, h0, h1⟩ := hx _ he rfl
        have e1 : lenO (.ints k ((l.drop off).take len)) = len := by simp [lenO]; omega
        rcases Nat.eq_zero_or_pos len with hz | hz
        · subst hz; exact .rs0 _ _ _ (by simp [lenO])
        · have := DenR.rs (hp := g.hp) (ok := ok) (.ints k ((l.drop off).take len)) (g.ρ n) off cap (hown _ _ he (.inl rfl)) (by
            have := subO_objR (ok := ok) (lo := off) (n := len) (flat_objR (ok := ok) HO he (.inl rfl) rfl) hle
            simpa [strO, subO] using this) (by omega)
          rw [e1, ← h1 hz] at this
          exact this
    · exact anyR
  · exact hrp _ _ _ _ rfl
  · exact hrs _ _ rfl

theorem ro0_sound (HO : HeapOK g) {v : V} {x : Value} (hd : Den g v x) : DenR g.hp (allOk g.hp) (ro0 g.H v) x :=
  ro0_gen HO (fun _ _ he hp => HO.lt he hp) hd (fun fr o e => by subst e; exact (den_rs hd).mono toAll) (fun fr o i f e => by subst e; exact (den_rptr hd).mono toAll)

theorem agg_ro {l : List V} {c : Array Value} (HO : HeapOK g) (hob : ObjD g (.agg l) c) : ∃ vs : Nat → Value, (∀ i, i < (l.map (ro0 g.H)).length → c[i]? = some (vs i)) ∧ (∀ i, i < (l.map (ro0 g.H)).length → (vs i).one = true) ∧ ∀ i (h : i < (l.map (ro0 g.H)).length), DenR g.hp (allOk g.hp) (l.map (ro0 g.H))[i] (vs i) := by
  have hx : ∀ i, ∃ x, ∀ (hi : i < l.length), c[i]? = some x ∧ x.one = true ∧ Den g l[i] x := fun i => by
    by_cases hi : i < l.length
    · obtain ⟨x, hx⟩ := hob i hi; exact ⟨x, fun _ => hx⟩
    · exact ⟨.nilFunc, fun h => absurd h hi⟩
  refine ⟨fun i => Classical.choose (hx i), fun i hi => ?_, fun i hi => ?_, fun i hi => ?_⟩
  · exact (Classical.choose_spec (hx i) (by simpa using hi)).1
  · exact (Classical.choose_spec (hx i) (by simpa using hi)).2.1
  · have := ro0_sound HO (Classical.choose_spec (hx i) (by simpa using hi)).2.2
    simpa using this

theorem roV_sound (HO : HeapOK g) {v : V} {x : Value} (hd : Den g v x) : DenR g.hp (allOk g.hp) (roV g.H v) x := by
  have anyR : ∀ {x}, DenR g.hp (allOk g.hp) .any x := .any _
  cases v <;> simp only [roV] <;> try exact ro0_sound HO hd
  · -- ptr
    rename_i n i f
    obtain ⟨rfl, _, hx⟩ := den_ptr hd
    split
    · rename_i ver l he
      rw [hx _ he rfl]
      obtain ⟨_, c, T, hc, _, hob⟩ := HO.objs n _ he (.inl rfl)
      obtain ⟨vs, h1, h2, h3⟩ := agg_ro HO hob
      have := DenR.rptr (hp := g.hp) (ok := allOk g.hp) (.agg (l.map (ro0 g.H))) 0 f (g.ρ n) 0 (HO.lt he (.inl rfl)) (.agg _ _ _ c T _ vs hc (fun i hi => by rw [Nat.zero_add]; exact h1 i hi) h2 h3)
      simpa using this
    · rename_i ver k l he
      rw [hx _ he rfl]
      have := DenR.rptr (hp := g.hp) (ok := allOk g.hp) (.ints k l) 0 f (g.ρ n) 0 (HO.lt he (.inl rfl)) (flat_objR HO he (.inl rfl) rfl)
      simpa using this
    · exact anyR
  · -- slw
    rename_i n ver
    split
    · rename_i ver' l he
      cases hb : Nat.beq ver ver'
      · exact anyR
      · obtain ⟨_, _, hx⟩ := den_slw hd
        obtain ⟨ao, cap, rfl, h0, h1⟩ := hx _ he rfl (Nat.eq_of_beq_eq_true hb).symm
        have e1 : lenO (.agg (l.map (ro0 g.H))) = lenO (.agg l) := by simp [lenO]
        simp only [cond_true]
        rcases Nat.eq_zero_or_pos (lenO (.agg l)) with hz | hz
        · simp only [hz]; exact .rs0 _ _ _ (e1.trans hz)
        · obtain ⟨rfl, hle, _⟩ := h1 hz
          obtain ⟨_, c, T, hc, _, hob⟩ := HO.objs n _ he (.inr hz)
          obtain ⟨vs, h1, h2, h3⟩ := agg_ro HO hob
          have := DenR.rs (hp := g.hp) (ok := allOk g.hp) (.agg (l.map (ro0 g.H))) (g.ρ n) 0 cap (HO.lt he (.inr hz)) (.agg _ _ _ c T _ vs hc (fun i hi => by rw [Nat.zero_add]; exact h1 i hi) h2 h3) (by rw [e1]; exact hle)
          rw [e1] at this
          exact this
    · exact ro0_sound HO hd
  · rw [den_ints hd]; exact .ints _ _
  · obtain ⟨vs, rfl, h1, h2, h3⟩ := den_agg hd
    exact .agg _ _ (by simpa using h1) h2 (fun i h h' => by
      have := ro0_sound HO (h3 i (by simpa using h) h')
      simpa using this)

/-- What a slice shows, cell by cell. -/
theorem seq_cells (HO : HeapOK g) (hw : w.heap = g.hp) {y : V} {x : Value} {oy : V} (hd : Den g y x) (h : seqV g.H y = some oy) (hf : flatO oy = true) :
    ∃ ao cap, x = .slice ao (lenO oy) cap ∧ (Builtin.firstCells (strO oy) (lenO oy) x).run P w = .ok (flatL oy).toArray w := by
  have hr : DenR g.hp (allOk g.hp) (.rs false oy) x := by
    unfold seqV at h
    split at h
    · simp at h
    · have := roV_sound HO hd
      split at h
      · rename_i fr o hro
        simp at h; subst h
        rw [hro] at this
        cases this with
        | rs _ b off cap h1 h2 h3 => exact .rs _ _ _ _ h1 h2 h3
        | rs0 _ ao cap h => exact .rs0 _ _ _ h
      · simp at h
  cases hr with
  | rs _ b off cap h1 h2 h3 =>
    refine ⟨_, cap, rfl, ?_⟩
    have hC := (flat_iff hf).1 (Cont.ofR hw h2)
    unfold Builtin.firstCells
    rw [← flatL_len hf]
    exact run_loadCells _ (fun j hj => hC j hj)
  | rs0 _ ao cap h0 =>
    refine ⟨ao, cap, by rw [h0], ?_⟩
    have : flatL oy = [] := List.length_eq_zero_iff.1 (by rw [flatL_len hf, h0, Nat.zero_mul])
    rw [this, h0]
    cases ao with
    | none => rfl
    | some a => unfold Builtin.firstCells; simp only [Nat.zero_mul]; rfl
end
end Go.Sx

namespace Go.Sx
section
variable {P : Program} {E : Env} {g : G} {w : World}

/-- A growing object, in a new block, under a new stamp. -/
def G.renew (g : G) (nm n : Nat) (e : Ent) (c : Array Value) (T : TypeId) : G :=
  { A := fun m => g.A m ∨ m = nm, H := (n, e) :: g.H, ρ := fun m => if m = n then g.hp.size else g.ρ m, bs := fun m => if m = n then c.size else g.bs m, base := g.base, hp := g.hp.push (.cells c T) }

theorem renew_ext (HO : HeapOK g) (hw : w.heap = g.hp) {w' : World} {nm n : Nat} (hn : ¬ g.A nm) {e : Ent} (hg : e.grow = true) (hv : e.ver = nm) (hname : n = nm ∨ ∃ e0, lk n g.H = some e0 ∧ e0.grow = true) {c : Array Value} {T : TypeId} (hob : ObjD g e.o c)
    (hw' : w'.heap = w.heap.push (.cells c T)) (h1 : w'.os = w.os) (h2 : w'.tape = w.tape) (h3 : w'.output = w.output) : Ext g (g.renew nm n e c T) w w' nm := by
  have hle : g.le (g.renew nm n e c T) :=
    { A := fun _ h => .inl h
      base := rfl
      fixed := fun m hA e' he hg' => by
        by_cases hm : m = n
        · subst hm; simp [G.renew, lk_cons] at he; subst he; rw [hg] at hg'; cases hg'
        · simp only [G.renew, lk_cons, hm, if_false] at he
          exact ⟨e', he, hg', by simp [G.renew, hm]⟩
      grow := fun m hA e' he hg' hv' => by
        by_cases hm : m = n
        · subst hm; simp [G.renew, lk_cons] at he; subst he; rw [hv] at hv'; exact absurd hv' hn
        · simp only [G.renew, lk_cons, hm, if_false] at he
          exact ⟨e', he, hg', rfl, by simp [G.renew, hm], by simp [G.renew, hm], rfl, rfl⟩
      ok := fun b hb ho => by
        refine ⟨by simp [G.renew]; omega, ?_, by simp [G.renew, Array.getElem?_push]; omega⟩
        rintro ⟨m, e', he, hp, hr⟩
        by_cases hm : m = n
        · subst hm; simp [G.renew] at hr; omega
        · simp only [G.renew, lk_cons, hm, if_false] at he hr
          exact ho ⟨m, e', he, hp, hr⟩ }
  refine ⟨hle, ?_, by rw [hw', hw]; rfl, fun _ h => h, ⟨h1, h2, h3, by rw [hw']; simp, fun b hb => by rw [hw', Array.getElem?_push, if_neg (by have := HO.basele; rw [hw]; omega)]⟩⟩
  exact
  { basele := by simp [G.renew]; have := HO.basele; omega
    names := fun m e' he => by
      by_cases hm : m = n
      · subst hm
        have : e' = e := by simpa [G.renew, lk_cons] using he.symm
        subst this
        refine ⟨?_, fun _ => .inr hv⟩
        rcases hname with h | ⟨e0, h0, _⟩
        · exact .inr h
        · exact .inl (HO.names _ _ h0).1
      · simp only [G.renew, lk_cons, hm, if_false] at he
        exact ⟨.inl (HO.names m e' he).1, fun h => .inl ((HO.names m e' he).2 h)⟩
    objs := fun m e' he hp => by
      by_cases hm : m = n
      · subst hm
        have : e' = e := by simpa [G.renew, lk_cons] using he.symm
        subst this
        exact ⟨by simp [G.renew]; exact HO.basele, c, T, by simp [G.renew], by simp [G.renew], hob.mono hle⟩
      · simp only [G.renew, lk_cons, hm, if_false] at he
        obtain ⟨k1, c', T', k2, k3, k4⟩ := HO.objs m e' he hp
        have hlt := HO.lt he hp
        refine ⟨by simpa [G.renew, hm] using k1, c', T', ?_, by simpa [G.renew, hm] using k3, k4.mono hle⟩
        simp only [G.renew, hm, if_false]
        rw [Array.getElem?_push, if_neg (by omega)]; exact k2
    inj := fun a b e1 e2 k1 k2 p1 p2 hr => by
      by_cases ha : a = n <;> by_cases hb : b = n
      · exact ha.trans hb.symm
      · simp only [G.renew, lk_cons, hb, if_false] at k2
        have := HO.lt k2 p2
        simp [G.renew, ha, hb] at hr; omega
      · simp only [G.renew, lk_cons, ha, if_false] at k1
        have := HO.lt k1 p1
        simp [G.renew, ha, hb] at hr; omega
      · simp only [G.renew, lk_cons, ha, hb, if_false] at k1 k2
        simp [G.renew, ha, hb] at hr
        exact HO.inj a b e1 e2 k1 k2 p1 p2 hr }

/-- The same block, or none, under a new stamp. -/
def G.bump (g : G) (nm n : Nat) (e : Ent) (hp : Array Obj) : G := { g with A := fun m => g.A m ∨ m = nm, H := (n, e) :: g.H, hp := hp }

theorem bump_ext (HO : HeapOK g) (hw : w.heap = g.hp) {w' : World} {nm n : Nat} (hn : ¬ g.A nm) {e : Ent} (hg : e.grow = true) (hv : e.ver = nm) (hname : n = nm ∨ ∃ e0, lk n g.H = some e0 ∧ e0.grow = true)
    (hpres : e.present → ∃ e0, lk n g.H = some e0 ∧ e0.present) (hu : ∃ b, Upd w w' b ∧ (e.present → b = g.ρ n) ∧ (w' = w ∨ e.present))
    (hob : e.present → ∃ c T, w'.heap[g.ρ n]? = some (.cells c T (0, 0)) ∧ c.size = g.bs n ∧ ObjD g e.o c) : Ext g (g.bump nm n e w'.heap) w w' nm := by
  obtain ⟨b, hu, hb, hsame⟩ := hu
  have hsz : w'.heap.size = g.hp.size := hu.size.trans (by rw [hw])
  have hcell : ∀ k, (e.present → k ≠ g.ρ n) → w'.heap[k]? = g.hp[k]? := by
    intro k hk
    rcases hsame with h | h
    · rw [h, hw]
    · rw [hu.block k (by rw [hb h]; exact hk h), hw]
  have hle : g.le (g.bump nm n e w'.heap) :=
    { A := fun _ h => .inl h
      base := rfl
      fixed := fun m hA e' he hg' => by
        by_cases hm : m = n
        · subst hm; simp [G.bump, lk_cons] at he; subst he; rw [hg] at hg'; cases hg'
        · simp only [G.bump, lk_cons, hm, if_false] at he
          exact ⟨e', he, hg', rfl⟩
      grow := fun m hA e' he hg' hv' => by
        by_cases hm : m = n
        · subst hm; simp [G.bump, lk_cons] at he; subst he; rw [hv] at hv'; exact absurd hv' hn
        · simp only [G.bump, lk_cons, hm, if_false] at he
          exact ⟨e', he, hg', rfl, rfl, rfl, rfl, rfl⟩
      ok := fun k hk ho => by
        refine ⟨by show k < w'.heap.size; omega, ?_, hcell k (fun hp h => ?_)⟩
        · rintro ⟨m, e', he, hp, hr⟩
          by_cases hm : m = n
          · subst hm
            have : e' = e := by simpa [G.bump, lk_cons] using he.symm
            subst this
            obtain ⟨e0, h0, p0⟩ := hpres hp
            exact ho ⟨m, e0, h0, p0, hr⟩
          · simp only [G.bump, lk_cons, hm, if_false] at he
            exact ho ⟨m, e', he, hp, hr⟩
        · obtain ⟨e0, h0, p0⟩ := hpres hp
          exact ho ⟨n, e0, h0, p0, h.symm⟩ }
  refine ⟨hle, ?_, rfl, fun _ h => h, ⟨hu.os, hu.tape, hu.output, Nat.le_of_eq hu.size.symm, fun k hk => ?_⟩⟩
  · exact
    { basele := by show g.base ≤ w'.heap.size; rw [hsz]; exact HO.basele
      names := fun m e' he => by
        by_cases hm : m = n
        · subst hm
          have : e' = e := by simpa [G.bump, lk_cons] using he.symm
          subst this
          refine ⟨?_, fun _ => .inr hv⟩
          rcases hname with h | ⟨e0, h0, _⟩
          · exact .inr h
          · exact .inl (HO.names _ _ h0).1
        · simp only [G.bump, lk_cons, hm, if_false] at he
          exact ⟨.inl (HO.names m e' he).1, fun h => .inl ((HO.names m e' he).2 h)⟩
      objs := fun m e' he hp => by
        by_cases hm : m = n
        · subst hm
          have : e' = e := by simpa [G.bump, lk_cons] using he.symm
          subst this
          obtain ⟨c, T, k1, k2, k3⟩ := hob hp
          obtain ⟨e0, h0, p0⟩ := hpres hp
          exact ⟨(HO.objs m e0 h0 p0).1, c, T, k1, k2, k3.mono hle⟩
        · simp only [G.bump, lk_cons, hm, if_false] at he
          obtain ⟨k1, c', T', k2, k3, k4⟩ := HO.objs m e' he hp
          refine ⟨k1, c', T', ?_, k3, k4.mono hle⟩
          show w'.heap[g.ρ m]? = _
          rw [hcell _ (fun hpe h => ?_)]; exact k2
          obtain ⟨e0, h0, p0⟩ := hpres hpe
          exact hm (HO.inj m n e' e0 he h0 hp p0 h)
      inj := fun a b' e1 e2 k1 k2 p1 p2 hr => by
        have old : ∀ {a e1}, lk a (g.bump nm n e w'.heap).H = some e1 → e1.present → ∃ e', lk a g.H = some e' ∧ e'.present := by
          intro a e1 k1 p1
          by_cases ha : a = n
          · subst ha
            have : e1 = e := by simpa [G.bump, lk_cons] using k1.symm
            subst this
            exact hpres p1
          · simp only [G.bump, lk_cons, ha, if_false] at k1
            exact ⟨e1, k1, p1⟩
        obtain ⟨x, hx, px⟩ := old k1 p1
        obtain ⟨y, hy, py⟩ := old k2 p2
        exact HO.inj a b' x y hx hy px py hr }
  · rw [hcell k (fun hp h => ?_), hw]
    obtain ⟨e0, h0, p0⟩ := hpres hp
    have := (HO.objs n e0 h0 p0).1
    omega

theorem growBy_le (n : Nat) : ∀ (r c : Nat), Builtin.growBy n r c ≤ max c (n + (n + 768) / 4)
  | 0, c => by simp [Builtin.growBy]; omega
  | r + 1, c => by
    unfold Builtin.growBy
    split
    · omega
    · have := growBy_le n r (c + (c + 768) / 4); omega

theorem nextcap_le {need cap : Nat} (h : cap < need) (hn : need ≤ mostLen) : Builtin.nextslicecap need cap ≤ 1073741824 := by
  unfold mostLen at hn
  unfold Builtin.nextslicecap
  have := growBy_le need 4 cap
  split
  · omega
  · split <;> omega

theorem appO_spec {x y o : V} (h : appO x y = some o) : flatO x = true ∧ flatO y = true ∧ flatO o = true ∧ flatL o = flatL x ++ flatL y ∧ lenO o = lenO x + lenO y ∧ strO o = strO x ∧ strO y = strO x := by
  unfold appO at h
  split at h
  · rename_i k l k' m
    rw [Bool.cond_eq_ite] at h
    split at h
    · rename_i hk
      have := kindEq_eq hk
      simp at h; subst h this
      exact ⟨rfl, rfl, rfl, by simp [flatL], by simp [lenO], rfl, rfl⟩
    · simp at h
  · simp at h; subst h; exact ⟨rfl, rfl, rfl, by simp [flatL], by simp [lenO], rfl, rfl⟩
  · simp at h; subst h; exact ⟨rfl, rfl, rfl, by simp [flatL], by simp [lenO], rfl, rfl⟩
  · simp at h

theorem append_run {t u : Nat} {ty e : TypeId} {ie : TypeInfo} {zv : Value} {e2 : TypeId} {base : Option Addr} {len cap m : Nat} {yv : Value} {old new : List Value}
    (hu : P.underlying t = some (.slice e)) (hie : P.info? e = some ie) (hz : ie.zero = some zv) (hbytes : ie.bytes ≤ 65536) (hu2 : P.underlying u = some (.slice e2))
    (hlen : (Builtin.lenOf yv).run P w = .ok m w) (hnew : ∀ w1 : World, w1.heap = w.heap → (Builtin.firstCells ie.size m yv).run P w1 = .ok new.toArray w1) (hold : ∀ w1 : World, w1.heap = w.heap → (Builtin.firstCells ie.size len (.slice base len cap)).run P w1 = .ok old.toArray w1)
    (hgrow : cap < len + m) (hmost : len + m ≤ mostLen) :
    ∃ nc rest w', len + m ≤ nc ∧ rest.length = (nc - (len + m)) * zv.cells.size ∧ (Builtin.append_ #[t, u] ty #[.slice base len cap, yv]).run P w = .ok (.slice (some ⟨w.heap.size, 0, none⟩) (len + m) nc) w' ∧
      w'.heap = w.heap.push (.cells ((old ++ new) ++ rest).toArray e) ∧ w'.os = w.os ∧ w'.tape = w.tape ∧ w'.output = w.output := by
  let q := Question.appendCap (len + m) cap e
  let nc := q.cut (w.tape w.drawn q)
  have hnc : len + m ≤ nc := by show len + m ≤ len + m + _; omega
  refine ⟨nc, (Builtin.zeroCells zv.cells (nc - (len + m))).toList, { w with drawn := w.drawn + 1, heap := w.heap.push (.cells ((old ++ new) ++ (Builtin.zeroCells zv.cells (nc - (len + m))).toList).toArray e) }, hnc, by simp [Builtin.zeroCells], ?_, rfl, rfl, rfl, rfl⟩
  have hcapb := nextcap_le hgrow hmost
  unfold Builtin.append_
  simp only [List.getElem?_toArray, List.getElem?_cons_zero, List.getElem?_cons_succ]
  rw [run_bind, run_underlying hu]; simp only []
  rw [run_bind, run_sizeOf hie]; simp only []
  rw [run_bind, run_underlying hu2]; simp only []
  rw [run_bind, run_pure]; simp only []
  rw [if_neg (by simp)]
  rw [run_bind, hlen]; simp only []
  rw [if_neg (by omega)]
  rw [run_bind, run_typeInfo hie]; simp only []
  rw [if_neg (by rintro ⟨h, _⟩; unfold mostLen at hmost; simp [IntKind.max, IntKind.bits, IntKind.signed] at h; omega)]
  rw [run_bind, run_typeInfo hie]; simp only []
  have hnb : Builtin.nextslicecap (len + m) cap * ie.bytes ≤ 1073741824 * 65536 := Nat.mul_le_mul hcapb hbytes
  rw [if_neg (by omega)]
  have hch : (choose q).run P w = .ok nc { w with drawn := w.drawn + 1 } := rfl
  have hroom : ∀ b w1, (askRoom b).run P w1 = .ok () w1 := by intro b w1; unfold askRoom; split <;> rfl
  rw [run_bind, hch]; simp only []
  rw [run_bind, run_typeInfo hie]; simp only []
  rw [run_bind, hroom]; simp only []
  rw [run_bind, hold { w with drawn := w.drawn + 1 } rfl]; simp only []
  rw [if_pos (by rfl), run_bind, hnew { w with drawn := w.drawn + 1 } rfl]; simp only []
  rw [run_bind, run_zeroValue hie hz]; simp only []
  rw [run_bind, run_newRow]
  have e1 : old.toArray ++ new.toArray ++ Builtin.zeroCells zv.cells (nc - (len + m)) = (old ++ new ++ (Builtin.zeroCells zv.cells (nc - (len + m))).toList).toArray := by
    simp
  rw [e1]; rfl

theorem append_fits {t u : Nat} {ty e : TypeId} {ie : TypeInfo} {e2 : TypeId} {base : Option Addr} {len cap m : Nat} {yv : Value} {new : List Value}
    (hu : P.underlying t = some (.slice e)) (hie : P.info? e = some ie) (hu2 : P.underlying u = some (.slice e2))
    (hlen : (Builtin.lenOf yv).run P w = .ok m w) (hnew : (Builtin.firstCells ie.size m yv).run P w = .ok new.toArray w) (hfit : len + m ≤ cap) {w' : World}
    (hst : ∀ a, base = some a → (storeCells (a.add (len * ie.size)) new).run P w = .ok () w') (hno : base = none → w' = w) :
    (Builtin.append_ #[t, u] ty #[.slice base len cap, yv]).run P w = .ok (.slice base (len + m) cap) w' := by
  unfold Builtin.append_
  simp only [List.getElem?_toArray, List.getElem?_cons_zero, List.getElem?_cons_succ]
  rw [run_bind, run_underlying hu]; simp only []
  rw [run_bind, run_sizeOf hie]; simp only []
  rw [run_bind, run_underlying hu2]; simp only []
  rw [run_bind, run_pure]; simp only []
  rw [if_neg (by simp)]
  rw [run_bind, hlen]; simp only []
  rw [if_pos hfit]
  rw [if_pos (by rfl), run_bind, hnew]; simp only []
  cases base with
  | none => rw [hno rfl]; rfl
  | some a => simp only []; rw [run_bind, hst a rfl]; rfl
end
end Go.Sx

namespace Go.Sx
section
variable {P : Program} {E : Env} {g : G} {w : World}

def BOK (P : Program) (g : G) (w : World) (nm : Nat) (s : Sem Value) (K : V → Heap → Prop) : Prop :=
  ∃ U g' w' y, K U g'.H ∧ s.run P w = .ok y w' ∧ Den g' U y ∧ Ext g g' w w' nm

theorem present_len {e : Ent} (h : e.present) (hg : e.grow = true) : 0 < lenO e.o := by
  rcases h with h | h
  · rw [hg] at h; cases h
  · exact h

theorem slw_of {g' : G} {n nm : Nat} {e : Ent} {H : Heap} (hH : g'.H = (n, e) :: H) (hn : g'.A n) (hnm : g'.A nm) {x : Value} (hx1 : x.one = true) (hS : SlwOK (g'.ρ n) (g'.bs n) (lenO e.o) (strO e.o) x) : Den g' (.slw n nm) x := by
  refine .slw n nm x hx1 hn hnm fun e' he' _ _ => ?_
  have : e' = e := by rw [hH, lk_cons, if_pos rfl] at he'; exact (Option.some.inj he').symm
  subst this; exact hS

theorem appendV_sound (HO : HeapOK g) (hw : w.heap = g.hp) {nm : Nat} (hn : ¬ g.A nm) {X Y : V} {xv yv : Value} (hX : Den g X xv) (hY : Den g Y yv) {t u : Nat} {ty e e2 : TypeId} {ie : TypeInfo} {zv : Value}
    (hu : P.underlying t = some (.slice e)) (hie : P.info? e = some ie) (hz : ie.zero = some zv) (hzs : zv.cells.size = ie.size) (hbytes : ie.bytes ≤ 65536) (hu2 : P.underlying u = some (.slice e2)) {oy : V} (hoy : seqV g.H Y = some oy) (hstr : strO oy = ie.size)
    {K : OpK} (h : appendV g.H nm X Y K) : BOK P g w nm (Builtin.append_ #[t, u] ty #[xv, yv]) K := by
  unfold appendV at h
  rw [hoy] at h
  simp only at h
  -- the second operand
  have second : flatO oy = true → ∃ ao cap, yv = .slice ao (lenO oy) cap ∧ ∀ w1 : World, w1.heap = w.heap → (Builtin.firstCells ie.size (lenO oy) yv).run P w1 = .ok (flatL oy).toArray w1 := by
    intro hf
    obtain ⟨ao, cap, hy, _⟩ := seq_cells (P := P) HO hw hY hoy hf
    refine ⟨ao, cap, hy, fun w1 hw1 => ?_⟩
    obtain ⟨_, _, _, hr⟩ := seq_cells (P := P) HO (hw1.trans hw) hY hoy hf
    rw [← hstr]; exact hr
  have lenrun : ∀ {ao len cap} {w1 : World}, (Builtin.lenOf (.slice ao len cap)).run P w1 = .ok len w1 := fun {_ _ _ _} => rfl
  -- a new block
  have fresh : ∀ {n : Nat} {o : V} {base : Option Addr} {len cap : Nat} {old : List Value}, xv = .slice base len cap → (n = nm ∨ ∃ e0, lk n g.H = some e0 ∧ e0.grow = true) → flatO oy = true → flatO o = true → flatL o = old ++ flatL oy → lenO o = len + lenO oy → strO o = ie.size →
      (∀ w1 : World, w1.heap = w.heap → (Builtin.firstCells ie.size len (.slice base len cap)).run P w1 = .ok old.toArray w1) → cap < len + lenO oy → len + lenO oy ≤ mostLen → K (.slw n nm) ((n, ⟨true, nm, o⟩) :: g.H) → BOK P g w nm (Builtin.append_ #[t, u] ty #[xv, yv]) K := by
    intro n o base len cap old hx hname hfy hfo hL hlen hst hold hgrow hmost hK
    obtain ⟨ao, cp, hy, hnew⟩ := second hfy
    obtain ⟨nc, rest, w', hnc, hrest, hrun, hheap, h1, h2, h3⟩ := append_run (P := P) (w := w) (ty := ty) (m := lenO oy) (base := base) (len := len) (cap := cap) (yv := yv) hu hie hz hbytes hu2 (by rw [hy]; rfl) hnew hold hgrow hmost
    have hcells : ObjD g o ((old ++ flatL oy) ++ rest).toArray := by
      refine (objD_cont hfo).2 ((flat_iff hfo).2 fun i hi => ?_)
      rw [hL] at hi
      simp only [List.getElem?_toArray]
      rw [List.getElem?_append_left hi]
      simp only [hL]; exact List.getElem?_eq_getElem hi
    have hext := renew_ext HO hw hn (e := ⟨true, nm, o⟩) rfl rfl hname hcells hheap h1 h2 h3
    refine ⟨_, _, w', _, hK, by rw [hx]; exact hrun, ?_, hext⟩
    have hAn : (g.renew nm n ⟨true, nm, o⟩ ((old ++ flatL oy) ++ rest).toArray e).A n := by
      rcases hname with h | ⟨e0, h0, _⟩
      · exact Or.inr h
      · exact Or.inl (HO.names _ _ h0).1
    refine slw_of (H := g.H) rfl hAn (Or.inr rfl) rfl ?_
    refine ⟨some ⟨w.heap.size, 0, none⟩, nc, by rw [hlen], by rw [hlen]; omega, fun _ => ⟨by simp [G.renew, hw], by simp only [hlen]; exact hnc, ?_⟩⟩
    simp only [G.renew, if_true, hst]
    have hfl := flatL_len hfo
    rw [hL, hlen, hst] at hfl
    simp only [List.size_toArray, List.length_append, hrest, hzs] at hfl ⊢
    rw [hfl, ← Nat.add_mul]
    exact Nat.mul_le_mul_right _ (by omega)
  split at h
  · -- onto nil
    obtain ⟨hg, hK⟩ := guard_iff.1 h
    simp only [Bool.and_eq_true] at hg
    have hmost := ble_le hg.2
    have hx := den_nilsl hX
    rcases Nat.eq_zero_or_pos (lenO oy) with hz0 | hz0
    · obtain ⟨ao, cp, hy, hnew⟩ := second hg.1
      refine ⟨_, g.bump nm nm ⟨true, nm, oy⟩ w.heap, w, .slice none (0 + lenO oy) 0, hK, ?_, ?_, bump_ext HO hw hn rfl rfl (.inl rfl) (fun hp => absurd (present_len hp rfl) (by simp only [hz0]; omega)) ⟨0, ⟨rfl, rfl, rfl, rfl, fun _ _ => rfl⟩, fun hp => absurd (present_len hp rfl) (by simp only [hz0]; omega), .inl rfl⟩ (fun hp => absurd (present_len hp rfl) (by simp only [hz0]; omega))⟩
      · rw [hx]
        exact append_fits (P := P) (w := w) (m := lenO oy) hu hie hu2 (by rw [hy]; rfl) (hnew w rfl) (by omega) (by intro a ha; cases ha) (fun _ => rfl)
      · refine slw_of (H := g.H) rfl (Or.inr rfl) (Or.inr rfl) rfl ⟨none, 0, by simp [hz0], fun _ => rfl, by simp [hz0]⟩
    · refine fresh (n := nm) (o := oy) (old := []) hx (.inl rfl) hg.1 hg.1 (by simp) (by simp) hstr (fun w1 _ => rfl) (by omega) (by simpa using hmost) hK
  · -- onto one of our own
    rename_i n ver
    split at h
    · rename_i ver' ox he
      obtain ⟨hv, h⟩ := guard_iff.1 h
      have hv := Nat.eq_of_beq_eq_true hv
      split at h
      · rename_i o ho
        obtain ⟨hm, hK⟩ := guard_iff.1 h
        have hmost := ble_le hm
        obtain ⟨fx, fy, fo, hL, hlen, hs1, hs2⟩ := appO_spec ho
        obtain ⟨hA, hA', hS⟩ := den_slw hX
        obtain ⟨base, cap, hx, h0, hpos⟩ := hS _ he rfl hv.symm
        simp only at hx h0 hpos
        have hst : strO o = ie.size := by rw [hs1, ← hs2, hstr]
        obtain ⟨ao, cp, hy, hnew⟩ := second fy
        by_cases hfit : lenO ox + lenO oy ≤ cap
        · rcases Nat.eq_zero_or_pos (lenO ox) with hz0 | hz0
          · -- nothing, and nothing more
            have hc0 := h0 hz0
            have hl0 : lenO o = 0 := by omega
            have hnew0 : flatL oy = [] := List.length_eq_zero_iff.1 (by rw [flatL_len fy]; have : lenO oy = 0 := by omega
                                                                        rw [this, Nat.zero_mul])
            refine ⟨_, g.bump nm n ⟨true, nm, o⟩ w.heap, w, .slice base (lenO ox + lenO oy) cap, hK, ?_, ?_, bump_ext HO hw hn rfl rfl (.inr ⟨_, he, rfl⟩) (fun hp => absurd (present_len hp rfl) (by simp only [hl0]; omega)) ⟨0, ⟨rfl, rfl, rfl, rfl, fun _ _ => rfl⟩, fun hp => absurd (present_len hp rfl) (by simp only [hl0]; omega), .inl rfl⟩ (fun hp => absurd (present_len hp rfl) (by simp only [hl0]; omega))⟩
            · rw [hx]
              exact append_fits (P := P) (w := w) (m := lenO oy) hu hie hu2 (by rw [hy]; rfl) (hnew w rfl) hfit (by intro a _; rw [hnew0]; rfl) (fun _ => rfl)
            · refine slw_of (H := g.H) rfl (Or.inl hA) (Or.inr rfl) rfl ⟨base, cap, by simp [hlen], by simp [hc0], by simp [hl0]⟩
          · -- in place
            obtain ⟨rfl, hle, hcap⟩ := hpos hz0
            obtain ⟨hb, c, T, hc, hcs, hob⟩ := HO.objs n _ he (.inr hz0)
            have hle2 : 0 + lenO ox * ie.size + (flatL oy).length ≤ c.size := by
              rw [flatL_len fy, hstr, Nat.zero_add, ← Nat.add_mul, hcs]
              refine Nat.le_trans (Nat.mul_le_mul_right _ hfit) ?_
              rw [← hst, hs1]; exact hcap
            rw [← hw] at hc
            obtain ⟨w', hr, hw', hu'⟩ := run_storeCells (P := P) (b := g.ρ n) (flatL oy) 0 (0 + lenO ox * ie.size) w c hc (by simpa using hle2) flatL_one
            have hob' : ObjD g o (putL c (lenO ox * ie.size) (flatL oy)) := by
              refine (objD_cont fo).2 ((flat_iff fo).2 fun i hi => ?_)
              have hox := (flat_iff fx).1 ((objD_cont fx).1 hob)
              rw [putL_get _ _ _ (by simpa using hle2)]
              have hlx : (flatL ox).length = lenO ox * ie.size := by rw [flatL_len fx, ← hs1, hst]
              rw [hL, List.length_append, hlx] at hi
              by_cases hi2 : lenO ox * ie.size ≤ i
              · rw [if_pos (by omega)]
                rw [← List.getElem?_eq_getElem (l := flatL o) (i := i) (by rw [hL, List.length_append, hlx]; exact hi), hL, List.getElem?_append_right (by omega), hlx]
              · rw [if_neg (by omega)]
                have hi3 : i < (flatL ox).length := by omega
                have h4 := hox i hi3
                rw [h4, ← List.getElem?_eq_getElem (l := flatL o) (i := i) (by rw [hL, List.length_append, hlx]; exact hi), hL, List.getElem?_append_left hi3]
                exact (List.getElem?_eq_getElem hi3).symm
            have hpn : (⟨true, nm, o⟩ : Ent).present := .inr (by simp only [hlen]; omega)
            refine ⟨_, g.bump nm n ⟨true, nm, o⟩ w'.heap, w', .slice (some ⟨g.ρ n, 0, none⟩) (lenO ox + lenO oy) cap, hK, ?_, ?_, bump_ext HO hw hn rfl rfl (.inr ⟨_, he, rfl⟩) (fun _ => ⟨_, he, .inr hz0⟩) ⟨g.ρ n, hu', fun _ => rfl, .inr hpn⟩ (fun _ => ⟨_, T, by simpa using hw', by rw [putL_size]; exact hcs, hob'⟩)⟩
            · rw [hx]
              refine append_fits (P := P) (w := w) (m := lenO oy) hu hie hu2 (by rw [hy]; rfl) (hnew w rfl) hfit ?_ (by intro h; cases h)
              intro a ha
              cases ha
              rw [add_none]; exact hr
            · refine slw_of (H := g.H) rfl (Or.inl hA) (Or.inr rfl) rfl ⟨some ⟨g.ρ n, 0, none⟩, cap, by rw [hlen], by simp only [hlen]; omega, fun _ => ⟨rfl, by simp only [hlen]; exact hfit, ?_⟩⟩
              show cap * strO o ≤ g.bs n
              rw [hs1]; exact hcap
        · refine fresh (n := n) (o := o) (old := flatL ox) hx (.inr ⟨_, he, rfl⟩) fy fo hL hlen hst ?_ (by omega) hmost hK
          intro w1 hw1
          rcases Nat.eq_zero_or_pos (lenO ox) with hz0 | hz0
          · have : flatL ox = [] := List.length_eq_zero_iff.1 (by rw [flatL_len fx, hz0, Nat.zero_mul])
            rw [this, hz0]
            cases base with
            | none => rfl
            | some a => unfold Builtin.firstCells; simp only [Nat.zero_mul]; rfl
          · obtain ⟨rfl, hle, hcap⟩ := hpos hz0
            have hR := flat_objR (ok := allOk g.hp) HO he (.inr hz0) fx
            have hC := (flat_iff fx).1 (Cont.ofR (hw1.trans hw) hR)
            unfold Builtin.firstCells
            have hlx : (flatL ox).length = lenO ox * ie.size := by rw [flatL_len fx, ← hs1, hst]
            rw [← hlx]
            exact run_loadCells _ (fun j hj => hC j hj)
      · exact h.elim
    · exact h.elim
  · exact h.elim
end
end Go.Sx

namespace Go.Sx
section
variable {P : Program} {E : Env}

structure Rel (g0 : G) (w0 : World) (N : Nat) (st : St) (g : G) (a : Act) (w : World) : Prop where
  H : g.H = st.heap
  ok : HeapOK g
  heap : w.heap = g.hp
  names : ∀ n, g.A n → n < st.next
  le : g0.le g
  keeps : Keeps g0.base w0 w
  tmps : ∀ t, Den g (getT st.tmps t) (a.tmps.getD t undef)
  size : a.tmps.size = N
  defers : a.defers = []

theorem G.le.trans {a b c : G} (h : a.le b) (k : b.le c) : a.le c where
  A := fun n hn => k.A n (h.A n hn)
  base := k.base.trans h.base
  fixed := fun n hA e' he hg => by
    obtain ⟨e, h1, h2, h3⟩ := k.fixed n (h.A n hA) e' he hg
    obtain ⟨e0, k1, k2, k3⟩ := h.fixed n hA e h1 h2
    exact ⟨e0, k1, k2, h3.trans k3⟩
  grow := fun n hA e' he hg hv => by
    obtain ⟨e, h1, h2, h3, h4, h5, h6, h7⟩ := k.grow n (h.A n hA) e' he hg (h.A _ hv)
    obtain ⟨e0, k1, k2, k3, k4, k5, k6, k7⟩ := h.grow n hA e h1 h2 (h3 ▸ hv)
    exact ⟨e0, k1, k2, k3.trans h3, h4.trans k4, h5.trans k5, h6.trans k6, h7.trans k7⟩
  ok := fun b hb ho => by
    obtain ⟨h1, h2, h3⟩ := h.ok b hb ho
    obtain ⟨k1, k2, k3⟩ := k.ok b h1 h2
    exact ⟨k1, k2, k3.trans h3⟩

def DensL (g : G) (l : List V) (vs : List Value) : Prop := l.length = vs.length ∧ ∀ i (h : i < l.length) (h' : i < vs.length), Den g l[i] vs[i]

def Returned (g : G) (w : World) (K : CallK) : Ending → World → Prop := fun e w' => ∃ U g' n' y, K U g'.H n' ∧ e = .returned y ∧ Den g' U y ∧ g.le g' ∧ HeapOK g' ∧ w'.heap = g'.hp ∧ Keeps g.base w w' ∧ ∀ n, g'.A n → n < n'

/-- A call of f comes to Q: its code is run, or the model stands in for it. -/
def Goes (P : Program) (f : Nat) (args : Array Value) (w : World) (Q : Ending → World → Prop) : Prop :=
  ((∃ fn, P.funcs[f]? = some fn ∧ fn.body.isNone = false ∧ (fn.name == "runtime.NumGoroutine") = false) ∧ Calls P f args w Q) ∨ ∃ y w', (callFunc f args).run P w = .ok (.value y) w' ∧ Q (.returned y) w'
theorem Goes.mono {f : Nat} {args : Array Value} {w : World} {Q Q' : Ending → World → Prop} (h : Goes P f args w Q) (k : ∀ e w', Q e w' → Q' e w') : Goes P f args w Q' := by
  rcases h with ⟨a, b⟩ | ⟨y, w', a, b⟩
  · exact .inl ⟨a, Calls.mono b k⟩
  · exact .inr ⟨y, w', a, k _ _ b⟩

def HandlerOK (P : Program) (call : Handler) : Prop :=
  ∀ (f : Nat) (args : List V) (g : G) (w : World) (nm : Nat) (K : CallK) (vals : List Value), HeapOK g → w.heap = g.hp → (∀ n, g.A n → n < nm) → DensL g args vals → call f args g.H nm K →
    Goes P f vals.toArray w (Returned g w K)

theorem ev_den {g : G} {T : List (Nat × V)} {a : Act} (h : ∀ t, Den g (getT T t) (a.tmps.getD t undef)) (x : Operand) : Den g (ev T x) (a.eval x) := by
  cases x with
  | tmp t => exact h t
  | const v => exact den_const v
  | global g => exact Den.mkAny _
  | func f => exact .clo f [] [] [] [] rfl rfl (by intro i h; simp at h) (by intro i h; simp at h)

theorem getT_cons (d : Nat) (v : V) (l : List (Nat × V)) (t : Nat) : getT ((d, v) :: l) t = if t = d then v else getT l t := by
  unfold getT; rw [lk_cons]; by_cases h : t = d <;> simp [h]

def dstOK (N : Nat) (o : Oper) : Bool := match o.dst with | some d => Nat.blt d N | none => true

theorem put_tmps {g : G} {N : Nat} {T : List (Nat × V)} {a : Act} {dst : Option Nat} {U : V} {y : Value} (h : ∀ t, Den g (getT T t) (a.tmps.getD t undef)) (hs : a.tmps.size = N) (hd : (match dst with | some d => Nat.blt d N | none => true) = true) (hU : Den g U y) :
    ∀ t, Den g (getT (putD T dst U) t) ((a.put dst y).tmps.getD t undef) := by
  intro t
  cases dst with
  | none => exact h t
  | some d =>
    have hlt := blt_lt hd
    simp only [putD, getT_cons, Act.put]
    by_cases e : t = d
    · subst e
      simp [Array.getElem?_setIfInBounds, hs, hlt]
      exact hU
    · rw [if_neg e]
      have : (a.tmps.setIfInBounds d y).getD t undef = a.tmps.getD t undef := by
        simp only [Array.getD_eq_getD_getElem?]
        rw [Array.getElem?_setIfInBounds_ne (Ne.symm e)]
      rw [this]; exact h t

theorem put_size {a : Act} {dst : Option Nat} {y : Value} : (a.put dst y).tmps.size = a.tmps.size := by cases dst <;> simp [Act.put]
theorem put_defers {a : Act} {dst : Option Nat} {y : Value} : (a.put dst y).defers = a.defers := by cases dst <;> rfl

/-- A result laid into its slot. -/
theorem Rel.put {g0 : G} {w0 : World} {N : Nat} {st : St} {g g' : G} {a : Act} {w w' : World} (R : Rel g0 w0 N st g a w) {dst : Option Nat} {U : V} {y : Value} {n' : Nat}
    (hd : (match dst with | some d => Nat.blt d N | none => true) = true) (hle : g.le g') (hok : HeapOK g') (hheap : w'.heap = g'.hp) (hk : Keeps g.base w w') (hn : ∀ n, g'.A n → n < n') (hU : Den g' U y) :
    Rel g0 w0 N ⟨putD st.tmps dst U, g'.H, n'⟩ g' (a.put dst y) w' where
  H := rfl
  ok := hok
  heap := hheap
  names := hn
  le := R.le.trans hle
  keeps := R.keeps.trans (by rw [← R.le.base]; exact hk)
  tmps := put_tmps (fun t => (R.tmps t).mono hle) R.size hd hU
  size := put_size.trans R.size
  defers := put_defers.trans R.defers

theorem fresh_name {g : G} {nm : Nat} (h : ∀ n, g.A n → n < nm) : ¬ g.A nm := fun hn => Nat.lt_irrefl _ (h _ hn)

theorem lenV_sound {g : G} {v : V} {x : Value} {K : V → Prop} (hd : Den g v x) (h : lenV g.H v K) (hs : ∀ s, v ≠ .str s) : ∃ n : Nat, K (.int .i64 n) ∧ ∃ ao cap, x = .slice ao n cap := by
  cases v <;> simp only [lenV] at h <;> try exact h.elim
  · exact absurd rfl (hs _)
  · exact ⟨0, h, none, 0, den_nilsl hd⟩
  · rename_i n ver
    split at h
    · rename_i ver' o he
      obtain ⟨hv, hK⟩ := guard_iff.1 h
      obtain ⟨_, _, hS⟩ := den_slw hd
      obtain ⟨ao, cap, hx, _⟩ := hS _ he rfl (Nat.eq_of_beq_eq_true hv).symm
      exact ⟨_, hK, ao, cap, hx⟩
    · exact h.elim
  · rename_i n ver lo len
    split at h
    · rename_i ver' o he
      obtain ⟨hv, hK⟩ := guard_iff.1 h
      obtain ⟨_, _, hS⟩ := den_sub hd
      obtain ⟨ao, cap, hx, _⟩ := hS _ he rfl (Nat.eq_of_beq_eq_true hv).symm
      exact ⟨_, hK, ao, cap, hx⟩
    · exact h.elim
  · rename_i n off len
    split at h
    · rename_i ver' o he
      obtain ⟨_, hS⟩ := den_sl hd
      obtain ⟨ao, cap, hx, _⟩ := hS _ he rfl
      exact ⟨_, h, ao, cap, hx⟩
    · exact h.elim
  · rename_i fr o
    have hr := den_rs hd
    cases hr with
    | rs _ b off cap _ _ _ => exact ⟨_, h, _, cap, rfl⟩
    | rs0 _ ao cap h0 => exact ⟨_, h, ao, cap, by rw [h0]⟩

theorem toList_one {α : Type} {x : Array α} {a : α} (h : x.toList = [a]) : x = #[a] := by cases x; simp at h; subst h; rfl
theorem toList_two {α : Type} {x : Array α} {a b : α} (h : x.toList = [a, b]) : x = #[a, b] := by cases x; simp at h; subst h; rfl

theorem map_one {α β : Type} {f : α → β} {l : List α} {b : β} (h : l.map f = [b]) : ∃ a, l = [a] ∧ f a = b := by
  match l, h with
  | [a], h => simp at h; exact ⟨a, rfl, h⟩
theorem map_two {α β : Type} {f : α → β} {l : List α} {b c : β} (h : l.map f = [b, c]) : ∃ a d, l = [a, d] ∧ f a = b ∧ f d = c := by
  match l, h with
  | [a, d], h => simp at h; exact ⟨a, d, rfl, h.1, h.2⟩

theorem builtin_sound (EO : EnvOK P E) {g : G} {w : World} (HO : HeapOK g) (hw : w.heap = g.hp) {nm : Nat} (hn : ¬ g.A nm) {T : List (Nat × V)} {ρ : Operand → Value} (hρ : ∀ x, Den g (ev T x) (ρ x)) {b : Builtin} {args : Array Operand} {tys : Array Nat} {ty : Nat} {cs : Array Bool} {K : OpK}
    (h : builtinV E g.H b (args.toList.map (ev T)) tys.toList nm K) : ∃ U g' w' y, K U g'.H ∧ (builtin b tys ty cs (args.map ρ)).run P w = .ok (.value y) w' ∧ Den g' U y ∧ Ext g g' w w' nm := by
  cases b <;> simp only [builtinV] at h <;> try exact h.elim
  · -- append
    split at h
    · rename_i x y hargs
      obtain ⟨a, d, hl, rfl, rfl⟩ := map_two hargs
      have ha := toList_two hl
      subst ha
      split at h
      · rename_i t u htys
        have ht := toList_two htys
        subst ht
        split at h
        · rename_i sz ag z e sq hE1
          obtain ⟨ut, hut, _, hk⟩ := (EO t _ hE1).und
          have hk : ut = .slice e := hk
          subst hk
          split at h
          · rename_i dd hE2
            obtain ⟨ie, zv, hie, hse, hb, hz, _, hcz⟩ := (EO e dd hE2).info
            split at h
            · rename_i sz2 ag2 z2 e2 sq2 hE3
              obtain ⟨ut2, hut2, _, hk2⟩ := (EO u _ hE3).und
              have hk2 : ut2 = .slice e2 := hk2
              subst hk2
              split at h
              · rename_i oy hoy
                obtain ⟨h1, h⟩ := guard_iff.1 h
                have hst := Nat.eq_of_beq_eq_true h1
                obtain ⟨U, g', w', y, hK, hr, hd, hx⟩ := appendV_sound (P := P) (ty := ty) HO hw hn (hρ a) (hρ d) hut hie hz (hcz.trans hse.symm) hb hut2 hoy (hst.trans hse.symm) h
                refine ⟨U, g', w', y, hK, ?_, hd, hx⟩
                have e : (#[a, d] : Array Operand).map ρ = #[ρ a, ρ d] := by simp
                rw [e]
                unfold builtin; simp only []
                exact vrun hr
              · exact h.elim
            · exact h.elim
          · exact h.elim
        · exact h.elim
      · exact h.elim
    · exact h.elim
  · -- len
    split at h
    · rename_i v hargs
      obtain ⟨a, hl, rfl⟩ := map_one hargs
      have ha := toList_one hl
      subst ha
      split at h
      · rename_i t htys
        have ht := toList_one htys
        subst ht
        have run : ∀ {u : TypeDesc} {n : Int}, P.underlying t = some u → (match u, ρ a with | .array m _, _ => n = m | .slice _, .slice _ m _ => n = m | .string, .string s => n = s.size | _, _ => False) → (builtin .len #[t] ty cs (#[a].map ρ)).run P w = .ok (.value (.int .i64 n)) w := by
          intro u n hu hm
          unfold builtin; simp only []
          refine vrun ?_
          unfold Builtin.len_
          simp only [List.getElem?_toArray, List.getElem?_cons_zero, Array.getElem?_map, Option.map_some]
          rw [run_bind, run_underlying hu]
          cases u <;> (try simp only at hm) <;> try exact hm.elim
          · cases hx : ρ a <;> rw [hx] at hm <;> simp only at hm <;> try exact hm.elim
            subst hm; rfl
          · cases hx : ρ a <;> rw [hx] at hm <;> simp only at hm <;> try exact hm.elim
            subst hm; rfl
          · subst hm; rfl
        split at h
        · rename_i sz ag z n e sq hE1
          obtain ⟨ut, hut, _, hk⟩ := (EO t _ hE1).und
          have hk : ut = .array n e := hk
          subst hk
          exact ⟨_, g, w, _, h, run hut rfl, Den.mkInt _ _, .refl HO hw nm⟩
        · rename_i sz ag z e sq hE1
          obtain ⟨ut, hut, _, hk⟩ := (EO t _ hE1).und
          have hk : ut = .slice e := hk
          subst hk
          split at h
          · exact h.elim
          · rename_i hns
            obtain ⟨n, hK, ao, cap, hx⟩ := lenV_sound (hρ a) h (fun s hs => hns s hs)
            exact ⟨_, g, w, _, hK, run hut (by rw [hx]), Den.mkInt _ _, .refl HO hw nm⟩
        · rename_i sz ag z sq hE1
          obtain ⟨ut, hut, _, hk⟩ := (EO t _ hE1).und
          have hk : ut = .string := hk
          subst hk
          split at h
          · rename_i s hs
            have hx := hρ a; rw [hs] at hx; have hx := den_str hx
            exact ⟨_, g, w, _, h, run hut (by rw [hx]), Den.mkInt _ _, .refl HO hw nm⟩
          · exact h.elim
        · exact h.elim
      · exact h.elim
    · exact h.elim
  · -- max
    split at h
    · rename_i k a k' b hargs
      obtain ⟨x, y, hl, hx, hy⟩ := map_two hargs
      have ha := toList_two hl
      subst ha
      have hxv := hρ x; rw [hx] at hxv; have hxv := den_int hxv
      have hyv := hρ y; rw [hy] at hyv; have hyv := den_int hyv
      refine ⟨_, g, w, .int k (maxI a b), h, ?_, Den.mkInt _ _, .refl HO hw nm⟩
      unfold builtin; simp only []
      refine vrun ?_
      unfold Builtin.max_
      simp [hxv, hyv, Builtin.max2, maxI, List.foldlM, run_pure]
    · exact h.elim
end
end Go.Sx

namespace Go.Sx
section
variable {P : Program} {E : Env}

theorem DensL.cons {g : G} {v : V} {x : Value} {l : List V} {vs : List Value} (h : Den g v x) (hl : DensL g l vs) : DensL g (v :: l) (x :: vs) :=
  ⟨by simp [hl.1], fun i h1 h2 => by
    cases i with
    | zero => exact h
    | succ i => exact hl.2 i (by simpa using h1) (by simpa using h2)⟩
theorem DensL.uncons {g : G} {v : V} {x : Value} {l : List V} {vs : List Value} (h : DensL g (v :: l) (x :: vs)) : Den g v x ∧ DensL g l vs :=
  ⟨h.2 0 (by simp) (by simp), by simpa using h.1, fun i h1 h2 => h.2 (i + 1) (by simpa using h1) (by simpa using h2)⟩
theorem DensL.append {g : G} : ∀ {a b : List V} {xs ys : List Value}, DensL g a xs → DensL g b ys → DensL g (a ++ b) (xs ++ ys)
  | [], _, [], _, _, hb => hb
  | _ :: _, _, _ :: _, _, ha, hb => DensL.cons ha.uncons.1 (DensL.append ha.uncons.2 hb)
  | [], _, _ :: _, _, ha, _ => by have := ha.1; simp at this
  | _ :: _, _, [], _, ha, _ => by have := ha.1; simp at this

def Post (g0 : G) (w0 : World) (N : Nat) (K : St → Prop) (a' : Act) (w' : World) : Prop := ∃ st' g', K st' ∧ Rel g0 w0 N st' g' a' w'

theorem wp_value {o : Oper} {a : Act} {w w' : World} {next : Act → World → Prop} {Q : Exit → Act → World → Prop} {nx : Next} {y : Value} (hr : (execOp a.eval o).run P w = .ok nx w') (hv : valOf nx = some y) (h : next (a.put o.dst y) w') : o.wp P a w next Q := by
  unfold Oper.wp
  rw [hr]
  cases nx <;> simp [valOf] at hv <;> subst hv <;> exact h

theorem stepOp_sound (EO : EnvOK P E) {call : Handler} (HC : HandlerOK P call) {g0 g : G} {w0 w : World} {N : Nat} {st : St} {a : Act} (R : Rel g0 w0 N st g a w) {o : Oper} (hd : dstOK N o = true) {K : St → Prop} (h : stepOp E call st o K) {Q : Exit → Act → World → Prop} :
    o.wp P a w (Post g0 w0 N K) Q := by
  have hρ := ev_den R.tmps
  have hn := fresh_name R.names
  have ext : ∀ {U : V} {g' : G} {w' : World} {y : Value}, K ⟨putD st.tmps o.dst U, g'.H, st.next + 1⟩ → Den g' U y → Ext g g' w w' st.next → Post g0 w0 N K (a.put o.dst y) w' := by
    intro U g' w' y hK hU hx
    exact ⟨_, g', hK, R.put hd hx.le hx.ok hx.heap hx.keeps (fun n hn => by rcases hx.names n hn with h | h; exact Nat.lt_succ_of_lt (R.names n h); omega) hU⟩
  by_cases hc : ∃ c, o.op = .call c
  · obtain ⟨c, hc⟩ := hc
    unfold stepOp at h
    rw [hc] at h
    simp only at h
    split at h
    · -- builtin
      rename_i b hb
      rw [← R.H] at h
      obtain ⟨U, g', w', y, hK, hr, hU, hx⟩ := builtin_sound (P := P) (T := st.tmps) (ρ := a.eval) (w := w) (ty := o.type) (cs := c.args.map fun | .const _ => true | _ => false) EO R.ok R.heap hn hρ h
      refine wp_value (nx := .value y) ?_ rfl (ext hK hU hx)
      unfold execOp; simp only [hc]
      rw [run_bind]
      unfold resolve; simp only [hb]
      rw [run_pure]; simp only []
      exact hr
    · -- a function
      rename_i f hf
      split at h
      · rename_i gf first captured hclo
        have hfv := hρ f; rw [hclo] at hfv
        obtain ⟨xs, ys, hfe, h1, h2, h3, h4⟩ := den_clo hfv
        rw [← R.H] at h
        have hargs : DensL g (first ++ (c.args.toList.map (ev st.tmps) ++ captured)) (xs ++ (c.args.toList.map a.eval ++ ys)) :=
          DensL.append ⟨h1, h3⟩ (DensL.append ⟨by simp, fun i k1 k2 => by rw [List.getElem_map, List.getElem_map]; exact hρ _⟩ ⟨h2, h4⟩)
        have hexec : (execOp a.eval o).run P w = (callFunc gf (xs ++ (c.args.toList.map a.eval ++ ys)).toArray).run P w := by
          unfold execOp; simp only [hc]
          rw [run_bind]
          unfold resolve; simp only [hf, hfe]
          unfold Deferred.ofValue
          simp only [run_pure]
          unfold invoke; simp only []
          congr 2
          simp
        rcases HC gf _ g w st.next _ _ R.ok R.heap R.names hargs h with ⟨⟨fn, hfn, hbody, hname⟩, hcalls⟩ | ⟨y, w', hrun, he⟩
        · unfold Oper.wp
          have hrun : (execOp a.eval o).run P w = .ok (.enter gf (xs ++ (c.args.toList.map a.eval ++ ys)).toArray) w := by
            rw [hexec]
            unfold callFunc
            rw [run_bind]
            show (match Sem.run P program w with | _ => _) = _
            simp only [program, hfn]
            rw [if_neg (by rw [hname]; simp), if_neg (by rw [hbody]; simp), run_pure]
          rw [hrun]
          refine Calls.mono hcalls fun e w' he => ?_
          obtain ⟨U, g', n', y, hK, rfl, hU, hle, hok, hheap, hk, hnames⟩ := he
          exact ⟨_, g', hK, R.put hd hle hok hheap hk hnames hU⟩
        · obtain ⟨U, g', n', y', hK, hy, hU, hle, hok, hheap, hk, hnames⟩ := he
          cases hy
          exact wp_value (nx := .value y) (hexec.trans hrun) rfl ⟨_, g', hK, R.put hd hle hok hheap hk hnames hU⟩
      · exact h.elim
    · exact h.elim
  · have h' : oneOp E st.tmps st.heap st.next o.op (fun v hp => K ⟨putD st.tmps o.dst v, hp, st.next + 1⟩) := by
      unfold stepOp at h
      split at h
      · rename_i c hcc; exact absurd ⟨c, hcc⟩ hc
      · exact h
    rw [← R.H] at h'
    obtain ⟨U, g', w', nx, y, hK, hr, hv, hU, hx⟩ := oneOp_sound (P := P) (ρ := a.eval) EO R.ok R.heap hn hρ h'
    exact wp_value hr hv (ext hK hU hx)

theorem Rel.lit {g0 g : G} {w0 w : World} {N : Nat} {st : St} {a : Act} (R : Rel g0 w0 N st g a w) {d : Nat} {t : Bool} (h : getT st.tmps d = .bool t) : Rel g0 w0 N ⟨(d, .bool t) :: st.tmps, st.heap, st.next⟩ g a w :=
  { H := R.H, ok := R.ok, heap := R.heap, names := R.names, le := R.le, keeps := R.keeps, size := R.size, defers := R.defers
    tmps := fun q => by
      show Den g (getT ((d, .bool t) :: st.tmps) q) _
      rw [getT_cons]
      by_cases e : q = d
      · subst e; rw [if_pos rfl, ← h]; exact R.tmps q
      · rw [if_neg e]; exact R.tmps q }

theorem den_undef {g : G} : Den g (.tup []) undef := .tup [] [] rfl (fun i h => by simp at h)
theorem word_bool {v : V} {t : Bool} (h : wordOf v = some (some t)) : v = .bool t := by
  cases v <;> simp [wordOf] at h
  rw [h]
theorem word_tup {v : V} (h : wordOf v = some none) : ∃ l, v = .tup l := by
  cases v <;> simp [wordOf] at h
  exact ⟨_, rfl⟩
theorem den_tup0 {g : G} {l : List V} {x : Value} (h : Den g (.tup l) x) : ∃ vs, x = .tuple vs := by
  cases h with
  | ro _ _ h => cases h
  | tup _ vs _ _ => exact ⟨_, rfl⟩
theorem yielded_none {g0 g : G} {w0 w : World} {N : Nat} {st : St} {a : Act} (R : Rel g0 w0 N st g a w) {ops : Array Oper} {j d : Nat} {l : List V} (hd : dstOf ops.toList j = some d) (h : getT st.tmps d = .tup l) : yielded ops a.tmps j = none := by
  have hv := R.tmps d; rw [h] at hv
  obtain ⟨vs, hv⟩ := den_tup0 hv
  unfold dstOf at hd
  split at hd
  · rename_i o ho
    have ho' : ops[j]? = some o := by simpa using ho
    rw [Array.getD_eq_getD_getElem?] at hv
    cases hq : a.tmps[d]? with
    | none => simp [yielded, ho', hd, hq]
    | some v =>
      rw [hq] at hv
      simp only [Option.getD_some] at hv
      subst hv
      simp [yielded, ho', hd, hq]
  · simp at hd
theorem yielded_of {g0 g : G} {w0 w : World} {N : Nat} {st : St} {a : Act} (R : Rel g0 w0 N st g a w) {ops : Array Oper} {j d : Nat} {t : Bool} (hd : dstOf ops.toList j = some d) (h : getT st.tmps d = .bool t) : yielded ops a.tmps j = some t := by
  have hv := R.tmps d; rw [h] at hv; have hv := den_bool hv
  unfold dstOf at hd
  split at hd
  · rename_i o ho
    have ho' : ops[j]? = some o := by simpa using ho
    have : a.tmps[d]? = some (.bool t) := by
      rw [Array.getD_eq_getD_getElem?] at hv
      cases hq : a.tmps[d]? with
      | none => rw [hq] at hv; simp [undef] at hv
      | some v => rw [hq] at hv; simp at hv; rw [hv]
    simp [yielded, ho', hd, this]
  · simp at hd

theorem Rel.skip {g0 g : G} {w0 w : World} {N : Nat} {st : St} {a : Act} (R : Rel g0 w0 N st g a w) {dst : Option Nat} (hd : (match dst with | some d => Nat.blt d N | none => true) = true) : Rel g0 w0 N ⟨putD st.tmps dst (.tup []), st.heap, st.next + 1⟩ g (a.put dst undef) w := by
  have := R.put (U := .tup []) (y := undef) (n' := st.next + 1) hd (.refl g) R.ok R.heap (.refl _ _) (fun n hn => Nat.lt_succ_of_lt (R.names n hn)) den_undef
  rw [R.H] at this; exact this

theorem runOps_sound (EO : EnvOK P E) {call : Handler} (HC : HandlerOK P call) {g0 : G} {w0 : World} {N : Nat} {ops : Array Oper} (hdst : ∀ o ∈ ops.toList, dstOK N o = true) {Q : Exit → Act → World → Prop} :
    ∀ (r : List Oper) (i : Nat) {K : St → Prop} {st : St} {g : G} {a : Act} {w : World}, ops.toList.drop i = r → Rel g0 w0 N st g a w → runOps E call ops.toList r st K → (∀ a' w', Post g0 w0 N K a' w' → Q .normal a' w') →
      wpOps P ops Q (List.range' i r.length) a w := by
  intro r
  induction r with
  | nil => intro i K st g a w _ R h hQ; exact hQ _ _ ⟨st, g, h, R⟩
  | cons o r ih =>
    intro i K st g a w hr R h hQ
    have hi : i < ops.toList.length := by
      rcases Nat.lt_or_ge i ops.toList.length with h | h
      · exact h
      · rw [List.drop_eq_nil_of_le h] at hr; cases hr
    have ho : ops[i]? = some o := by
      have := List.drop_eq_getElem_cons hi
      rw [hr] at this
      injection this with h1 h2
      rw [h1]; simp at hi; simp [hi]
    have hr' : ops.toList.drop (i + 1) = r := by
      have := List.drop_eq_getElem_cons hi
      rw [hr] at this
      injection this with h1 h2
      exact h2.symm
    have hmem : o ∈ ops.toList := by have := Array.mem_of_getElem? ho; simpa using this
    have hd := hdst o hmem
    simp only [List.length_cons, List.range'_succ]
    unfold wpOps
    rw [ho]
    simp only
    have go : ∀ {st : St}, Rel g0 w0 N st g a w → Region.wanted o (yielded ops a.tmps) = true → stepOp E call st o (fun s => runOps E call ops.toList r s K) →
        (if Region.wanted o (yielded ops a.tmps) = true then o.wp P a w (wpOps P ops Q (List.range' (i + 1) r.length)) Q ∨ o.asks P a w ∧ LetsOut Q else wpOps P ops Q (List.range' (i + 1) r.length) (a.put o.dst undef) w) := by
      intro st R hw h
      rw [if_pos hw]
      refine .inl (Oper.wp_mono ?_ (stepOp_sound EO HC R hd h))
      rintro a' w' ⟨st', g', hK, R'⟩
      exact ih (i + 1) hr' R' hK hQ
    have no : ∀ {st : St}, Rel g0 w0 N st g a w → Region.wanted o (yielded ops a.tmps) = false → runOps E call ops.toList r ⟨putD st.tmps o.dst (.tup []), st.heap, st.next + 1⟩ K →
        (if Region.wanted o (yielded ops a.tmps) = true then o.wp P a w (wpOps P ops Q (List.range' (i + 1) r.length)) Q ∨ o.asks P a w ∧ LetsOut Q else wpOps P ops Q (List.range' (i + 1) r.length) (a.put o.dst undef) w) := by
      intro st R hw h
      rw [if_neg (by rw [hw]; simp)]
      exact ih (i + 1) hr' (R.skip hd) h hQ
    unfold runOps at h
    split at h
    · rename_i hg
      exact go R (by simp [Region.wanted, hg]) h
    · rename_i j want hg
      split at h
      · exact h.elim
      · rename_i d hdj
        split at h
        · rename_i t ht
          have ht := word_bool ht
          have hy := yielded_of R hdj ht
          have R' := R.lit ht
          cases t <;> cases want <;> simp only at h
          · exact go R' (by simp [Region.wanted, hg, hy]) h
          · exact no R' (by simp [Region.wanted, hg, hy]) h
          · exact no R' (by simp [Region.wanted, hg, hy]) h
          · exact go R' (by simp [Region.wanted, hg, hy]) h
        · rename_i ht
          obtain ⟨l, ht⟩ := word_tup ht
          have hy := yielded_none R hdj ht
          exact no R (by simp [Region.wanted, hg, hy]) h
        · exact h.elim
end
end Go.Sx

namespace Go.Sx
section
variable {P : Program} {E : Env}

theorem wp_loop_ghost {c : Code} {Q : Exit → Act → World → Prop} (I : Nat → Act → World → Prop)
    (round : ∀ n a w, I n a w → c.wp P (Exit.then (fun a' w' => ∃ m, m < n ∧ I m a' w') Q) a w) {n₀ : Nat} {a : Act} {w : World} (h₀ : I n₀ a w) : (Code.loop c).wp P Q a w := by
  intro b k cs
  have key : ∀ n a w, I n a w → ∃ e a' w', Q e a' w' ∧ Arrives P (lone (b.at a (.code c :: .inLoop c :: k)) cs w) b k cs e a' w' := by
    intro n
    induction n using Nat.strongRecOn with
    | _ n ih =>
      intro a w hI
      obtain ⟨e, a₁, w₁, hq, harr⟩ := round n a w hI b (.inLoop c :: k) cs
      cases e with
      | normal =>
        obtain ⟨m, hlt, hI₁⟩ := hq
        obtain ⟨e₂, a₂, w₂, hq₂, harr₂⟩ := ih m hlt a₁ w₁ hI₁
        exact ⟨e₂, a₂, w₂, hq₂, .of_steps (Steps.trans harr (.one step_inLoop)) harr₂⟩
      | exit id => exact ⟨_, a₁, w₁, hq, .pass (x := .inLoop c) rfl (fun _ _ => .inl (by simp)) harr⟩
      | goto l => exact ⟨_, a₁, w₁, hq, .pass (x := .inLoop c) rfl (fun _ _ => .inl (by simp)) harr⟩
      | ret => exact ⟨_, a₁, w₁, hq, .pass (x := .inLoop c) rfl (fun _ _ => .inl (by simp)) harr⟩
      | panic ch => exact ⟨_, a₁, w₁, hq, .pass (x := .inLoop c) rfl (fun _ _ => .inl (by simp)) harr⟩
      | outgrown => exact ⟨_, a₁, w₁, hq, .pass (x := .inLoop c) rfl (fun _ _ => .inl (by simp)) harr⟩
  obtain ⟨e, a', w', hq, harr⟩ := key _ a w h₀
  exact ⟨e, a', w', hq, .of_steps (.one step_loop) harr⟩

def toX : Exit → Option X
  | .normal => some .normal
  | .exit i => some (.exit i)
  | .ret => some .ret
  | _ => none

def CPost (g0 : G) (w0 : World) (N : Nat) (K : X → St → Prop) (e : Exit) (a' : Act) (w' : World) : Prop := ∃ x st' g', toX e = some x ∧ K x st' ∧ Rel g0 w0 N st' g' a' w'

def codeOK (N : Nat) : Code → Bool
  | .region _ ops _ => ops.toList.all (dstOK N)
  | .seq a b => codeOK N a && codeOK N b
  | .cond _ a b => codeOK N a && codeOK N b
  | .block _ c => codeOK N c
  | .loop c => codeOK N c
  | .scope c => codeOK N c
  | _ => true

/-- A region that draws its order is as good as one in the text's. -/
def DrawsOK (P : Program) (E : Env) (draws : Handler) : Prop :=
  ∀ (id : Nat) (ops : Array Oper) (g0 g : G) (w0 w : World) (N : Nat) (st : St) (a : Act) (K : St → Prop), (∀ o ∈ ops.toList, dstOK N o = true) → Rel g0 w0 N st g a w → drawOps E draws ops.toList 0 ops.toList [] st K →
    (Code.region id ops true).wp P (CPost g0 w0 N (fun x s => match x with | .normal => K s | _ => False)) a w

theorem simpleV_den {g g' : G} {N : Nat} (hA : ∀ n, n < N → g'.A n) (hfix : ∀ n, n < N → ∀ e', lk n g'.H = some e' → e'.grow = false → ∃ e, lk n g.H = some e ∧ e.grow = false ∧ g'.ρ n = g.ρ n)
    (hR : ∀ {lo : Nat} (b : Nat), g.ok lo b → g'.ok lo b ∧ g'.hp[b]? = g.hp[b]?) (hb : g'.base = g.base) {v : V} {x : Value} (hs : simpleV N v = true) (hd : Den g v x) : Den g' v x := by
  cases hd with
  | ro _ _ h => exact .ro _ _ (h.mono hR)
  | freshS _ _ h => exact .freshS _ _ (by rw [hb]; exact h.mono hR)
  | freshP _ _ _ _ h => exact .freshP _ _ _ _ (by rw [hb]; exact h.mono hR)
  | ptr n off _ h1 h2 h3 =>
    have hlt := blt_lt (by simpa [simpleV] using hs)
    refine .ptr n off x h1 (hA n hlt) fun e' he hg => ?_
    obtain ⟨e, k1, k2, k3⟩ := hfix n hlt e' he hg
    rw [k3]; exact h3 e k1 k2
  | sl n off len _ h1 h2 h3 =>
    have hlt := blt_lt (by simpa [simpleV] using hs)
    refine .sl n off len x h1 (hA n hlt) fun e' he hg => ?_
    obtain ⟨e, k1, k2, k3⟩ := hfix n hlt e' he hg
    rw [k3]; exact h3 e k1 k2
  | eptr => simp [simpleV] at hs
  | slw => simp [simpleV] at hs
  | sub => simp [simpleV] at hs
  | clo => simp [simpleV] at hs
  | agg => simp [simpleV] at hs
  | tup => simp [simpleV] at hs

theorem simple2_den {g g' : G} {N : Nat} (hA : ∀ n, n < N → g'.A n) (hfix : ∀ n, n < N → ∀ e', lk n g'.H = some e' → e'.grow = false → ∃ e, lk n g.H = some e ∧ e.grow = false ∧ g'.ρ n = g.ρ n)
    (hR : ∀ {lo : Nat} (b : Nat), g.ok lo b → g'.ok lo b ∧ g'.hp[b]? = g.hp[b]?) (hb : g'.base = g.base) {v : V} {x : Value} (hs : simple2 N v = true) (hd : Den g v x) : Den g' v x := by
  have one := fun {v : V} {x : Value} => simpleV_den (v := v) (x := x) hA hfix hR hb
  by_cases h1 : simpleV N v = true
  · exact one h1 hd
  · cases v <;> simp only [simple2] at hs <;> try exact absurd hs h1
    · rename_i f a b
      simp only [Bool.and_eq_true] at hs
      obtain ⟨xs, ys, rfl, k1, k2, k3, k4⟩ := den_clo hd
      exact .clo f a b xs ys k1 k2 (fun i h h' => one (List.all_eq_true.1 hs.1 _ (List.getElem_mem h)) (k3 i h h')) (fun i h h' => one (List.all_eq_true.1 hs.2 _ (List.getElem_mem h)) (k4 i h h'))
    · rename_i l
      obtain ⟨vs, rfl, k1, k2, k3⟩ := den_agg hd
      exact .agg l vs k1 k2 (fun i h h' => one (List.all_eq_true.1 hs _ (List.getElem_mem h)) (k3 i h h'))

theorem fitH_get {hs : Heap} {lo N : Nat} : ∀ {t : Heap}, fitH hs lo N t → ∀ n e', lk n t = some e' → n < N ∧ ∃ e, lk n hs = some e ∧ fitE e e' lo N
  | [], _, n, e', h => by simp [lk] at h
  | (m, e1) :: r, h, n, e', he => by
    obtain ⟨h1, h2⟩ := h
    obtain ⟨hlt, h1⟩ := guard_iff.1 h1
    rw [lk_cons] at he
    by_cases hm : n = m
    · subst hm
      rw [if_pos rfl] at he
      cases he
      split at h1
      · rename_i e hl; exact ⟨blt_lt hlt, e, hl, h1⟩
      · exact h1.elim
    · rw [if_neg hm] at he
      exact fitH_get h2 n e' he

theorem fitT_get {hs : Heap} {t : St} {T : List (Nat × V)} : ∀ {l : List (Nat × V)}, fitT hs t T l → ∀ n, (getT l n = .any) ∨ fitV hs t.heap t.next (getT T n) (getT l n)
  | [], _, n => .inl rfl
  | (m, v) :: r, h, n => by
    rw [getT_cons]
    by_cases e : n = m
    · subst e; rw [if_pos rfl]; exact .inr h.1
    · rw [if_neg e]; exact fitT_get h.2 n

theorem fitE_spec {e e' : Ent} {lo N : Nat} (h : fitE e e' lo N) : e.grow = e'.grow ∧ e.o = e'.o ∧ (e'.grow = true → e'.ver < N ∧ flatO e'.o = true ∧ (e.ver = e'.ver ∨ lo ≤ e'.ver)) ∧ (e'.grow = false → (∃ l, e'.o = .agg l ∧ simple2 N (.agg l) = true) ∨ ∃ k l, e'.o = .ints k l) := by
  unfold fitE at h
  split at h
  · rename_i hg
    obtain ⟨h1, h2⟩ := guard_iff.1 h
    simp only [Bool.and_eq_true, Bool.or_eq_true] at h1
    obtain ⟨⟨⟨h1, h3⟩, h4⟩, h5⟩ := h1
    refine ⟨hg.trans h1.symm, h2, fun _ => ⟨blt_lt h3, h4, h5.imp Nat.eq_of_beq_eq_true ble_le⟩, fun h => by rw [h1] at h; cases h⟩
  · rename_i hg
    obtain ⟨h1, h2⟩ := guard_iff.1 h
    simp only [Bool.and_eq_true, Bool.not_eq_true'] at h1
    obtain ⟨hg', h3⟩ := h1
    refine ⟨hg.trans hg'.symm, h2, fun (h : e'.grow = true) => ?_, fun _ => ?_⟩
    · rw [hg'] at h; cases h
    · split at h3
      · rename_i l hl; exact .inl ⟨l, hl, h3⟩
      · rename_i k l hl; exact .inr ⟨k, l, hl⟩
      · cases h3

theorem Fits.sound {lo : Nat} {g0 g : G} {w0 w : World} {N : Nat} {s t : St} {a : Act} (hlo : ∀ n, g0.A n → n < lo) (R : Rel g0 w0 N s g a w) (F : Fits lo s t) : ∃ g', Rel g0 w0 N t g' a w := by
  obtain ⟨hb, hH, hT⟩ := guard_iff.1 F
  simp only [Bool.and_eq_true] at hb
  have hlo1 := ble_le hb.1
  have hnext := ble_le hb.2
  have got := fun n e' (h : lk n t.heap = some e') => fitH_get hH n e' h
  let g' : G := { A := fun n => n < t.next, H := t.heap, ρ := g.ρ, bs := g.bs, base := g.base, hp := g.hp }
  have pres : ∀ {e e' : Ent}, e.grow = e'.grow → e.o = e'.o → e'.present → e.present := by
    intro e e' h1 h2 h; unfold Ent.present at *; rw [h1, h2]; exact h
  have own : ∀ b, g'.owned b → g.owned b := by
    rintro b ⟨n, e', he, hp, hr⟩
    obtain ⟨_, e, h1, h2⟩ := got n e' he
    obtain ⟨k1, k2, _, _⟩ := fitE_spec h2
    exact ⟨n, e, by rw [R.H]; exact h1, pres k1 k2 hp, hr⟩
  have hR : ∀ {lo : Nat} (b : Nat), g.ok lo b → g'.ok lo b ∧ g'.hp[b]? = g.hp[b]? := fun {lo} b h => ⟨⟨h.1, fun ho => h.2.1 (own b ho), h.2.2⟩, rfl⟩
  have hfix : ∀ n, n < t.next → ∀ e', lk n g'.H = some e' → e'.grow = false → ∃ e, lk n g.H = some e ∧ e.grow = false ∧ g'.ρ n = g.ρ n := by
    intro n _ e' he hg
    obtain ⟨_, e, h1, h2⟩ := got n e' he
    obtain ⟨k1, k2, _, _⟩ := fitE_spec h2
    exact ⟨e, by rw [R.H]; exact h1, k1.trans hg, rfl⟩
  have hA : ∀ n, n < t.next → g'.A n := fun n h => h
  have two := fun {v : V} {x : Value} => simple2_den (g := g) (g' := g') (v := v) (x := x) hA hfix hR rfl
  refine ⟨g', ⟨rfl, ?_, R.heap, fun n h => h, ?_, R.keeps, ?_, R.size, R.defers⟩⟩
  · exact
    { basele := R.ok.basele
      names := fun n e' he => by
        obtain ⟨hlt, e, h1, h2⟩ := got n e' he
        obtain ⟨k1, k2, k3, _⟩ := fitE_spec h2
        exact ⟨hlt, fun h => (k3 h).1⟩
      objs := fun n e' he hp => by
        obtain ⟨hlt, e, h1, h2⟩ := got n e' he
        obtain ⟨k1, k2, k3, k4⟩ := fitE_spec h2
        obtain ⟨j1, c, T, j2, j3, j4⟩ := R.ok.objs n e (by rw [R.H]; exact h1) (pres k1 k2 hp)
        refine ⟨j1, c, T, j2, j3, ?_⟩
        rw [k2] at j4
        cases hg : e'.grow
        · rcases k4 hg with ⟨l, hl, hs⟩ | ⟨k, l, hl⟩
          · rw [hl] at j4 ⊢
            intro i hi
            obtain ⟨x, x1, x2, x3⟩ := j4 i hi
            exact ⟨x, x1, x2, two (by
              have := List.all_eq_true.1 (show l.all (simpleV t.next) = true from hs) l[i] (List.getElem_mem hi)
              have h2 : simple2 t.next l[i] = true := by
                cases hli : l[i] <;> rw [hli] at this <;> first | exact this | (simp [simpleV] at this)
              exact h2) x3⟩
          · rw [hl] at j4 ⊢; exact j4
        · have := (k3 hg).2.1
          exact (objD_cont this).2 ((flat_iff this).2 ((flat_iff this).1 ((objD_cont this).1 j4)))
      inj := fun n m e1 e2 h1 h2 p1 p2 hr => by
        obtain ⟨_, x, x1, x2⟩ := got n e1 h1
        obtain ⟨_, y, y1, y2⟩ := got m e2 h2
        obtain ⟨a1, a2, _, _⟩ := fitE_spec x2
        obtain ⟨b1, b2, _, _⟩ := fitE_spec y2
        exact R.ok.inj n m x y (by rw [R.H]; exact x1) (by rw [R.H]; exact y1) (pres a1 a2 p1) (pres b1 b2 p2) hr }
  · exact
    { A := fun n h => Nat.lt_of_lt_of_le (hlo n h) hlo1
      base := R.le.base
      fixed := fun n h e' he hg => by
        obtain ⟨e, h1, h2, h3⟩ := hfix n (Nat.lt_of_lt_of_le (hlo n h) hlo1) e' he hg
        obtain ⟨e0, k1, k2, k3⟩ := R.le.fixed n h e h1 h2
        exact ⟨e0, k1, k2, h3.trans k3⟩
      grow := fun n h e' he hg hv => by
        obtain ⟨_, e, h1, h2⟩ := got n e' he
        obtain ⟨a1, a2, a3, _⟩ := fitE_spec h2
        have hver : e.ver = e'.ver := by
          rcases (a3 hg).2.2 with h | h
          · exact h
          · have := hlo _ hv; omega
        obtain ⟨e0, k1, k2, k3, k4, k5, k6, k7⟩ := R.le.grow n h e (by rw [R.H]; exact h1) (a1.trans hg) (hver ▸ hv)
        exact ⟨e0, k1, k2, k3.trans hver, k4, k5, by rw [← a2]; exact k6, by rw [← a2]; exact k7⟩
      ok := fun b hb ho => by
        obtain ⟨h1, h2, h3⟩ := R.le.ok b hb ho
        exact ⟨h1, fun h => h2 (own b h), h3⟩ }
  · intro q
    rcases fitT_get hT q with h | h
    · rw [h]; exact Den.mkAny _
    · have hd := R.tmps q
      unfold fitV at h
      split at h
      · rename_i he; rw [he]; exact Den.mkAny _
      · rename_i n' ver' he
        rw [he]
        split at h
        · rename_i n ver hv
          rw [hv] at hd
          obtain ⟨h1, hq1⟩ := guard_iff.1 h
          clear h
          simp only [Bool.and_eq_true] at h1
          have hnn := Nat.eq_of_beq_eq_true h1.1
          have hlt := blt_lt h1.2
          subst hnn
          split at hq1
          · rename_i w1 o1 hl1
            obtain ⟨h2, hq2⟩ := guard_iff.1 hq1
            have hw1 := Nat.eq_of_beq_eq_true h2
            split at hq2
            · rename_i w2 o2 hl2
              obtain ⟨h3, _⟩ := guard_iff.1 hq2
              have hw2 := Nat.eq_of_beq_eq_true h3
              obtain ⟨_, e, j1, j2⟩ := got n _ hl2
              have : e = ⟨true, w1, o1⟩ := by rw [hl1] at j1; exact (Option.some.inj j1).symm
              subst this
              obtain ⟨a1, a2, a3, _⟩ := fitE_spec j2
              obtain ⟨d1, d2, d3⟩ := den_slw hd
              have hS := d3 _ (by rw [R.H]; exact hl1) rfl hw1
              have hone : (a.tmps.getD q undef).one = true := by obtain ⟨ao, cap, hx, _⟩ := hS; rw [hx]; rfl
              refine .slw n ver' _ hone hlt (by rw [← hw2]; exact (a3 rfl).1) fun e' he' _ _ => ?_
              have : e' = ⟨true, w2, o2⟩ := by rw [hl2] at he'; exact (Option.some.inj he').symm
              subst this
              simp only at a2
              rw [← a2]; exact hS
            · exact hq2.elim
          · exact hq1.elim
        · exact h.elim
      · obtain ⟨h1, h2⟩ := guard_iff.1 h
        rw [h2] at hd
        exact two h1 hd
end
end Go.Sx
