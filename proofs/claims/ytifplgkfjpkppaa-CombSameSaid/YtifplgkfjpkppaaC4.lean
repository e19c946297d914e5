/-
  A part of a proof: the lemmas that the last text joins. No conditions.
-/
import Derived.Shelf.Spec.BitsCarry
import Derived.Test.YtifplgkfjpkppaaC3
set_option linter.unusedSimpArgs false
set_option linter.unusedVariables false
namespace Go.Sx
open Go.Proofs
set_option maxRecDepth 100000

def carryIn (c : Int) : Prop := c = 0 ∨ c = 1
def addS (x y c : Int) : Int := ((x.toNat + y.toNat + c.toNat) % 18446744073709551616 : Nat)
def addO (x y c : Int) : Int := ((x.toNat + y.toNat + c.toNat) / 18446744073709551616 : Nat)
def subS (x y c : Int) : Int := ((x.toNat + 18446744073709551616 - y.toNat - c.toNat) % 18446744073709551616 : Nat)
def subO' (x y c : Int) : Int := ((if x.toNat < y.toNat + c.toNat then 1 else 0 : Nat) : Int)
def two64 (y : Int × Int) : V := .tup [.int .u64 y.1, .int .u64 y.2]
def s_add64 : Spec := mk (A3 (aInt .u64) (aInt .u64) (aInt .u64)) (some fun a => carryIn a.2.2.1) (fun a => (addS a.1 a.2.1 a.2.2.1, addO a.1 a.2.1 a.2.2.1)) two64
def s_sub64 : Spec := mk (A3 (aInt .u64) (aInt .u64) (aInt .u64)) (some fun a => carryIn a.2.2.1) (fun a => (subS a.1 a.2.1 a.2.2.1, subO' a.1 a.2.1 a.2.2.1)) two64

theorem extern_ok {f : Nat} {g : Int × Int × Int × Unit → Int × Int} (h : ∀ x y c : Int, carryIn c → ∀ w, (callFunc f #[.int .u64 x, .int .u64 y, .int .u64 c]).run prog w = .ok (.value (.tuple #[.int .u64 (g (x, y, c, ())).1, .int .u64 (g (x, y, c, ())).2])) w) :
    SpecOK prog f (mk (A3 (aInt .u64) (aInt .u64) (aInt .u64)) (some fun a => carryIn a.2.2.1) g two64) := by
  intro args w vals hlen hargs hsh hreq
  have hw := (A3 (aInt .u64) (aInt .u64) (aInt .u64)).weak hsh (hp := w.heap) (ok := allOk w.heap) (vs := vals) ⟨hlen, hargs⟩
  have hc : carryIn ((A3 (aInt .u64) (aInt .u64) (aInt .u64)).of args).2.2.1 := hreq _ rfl
  show Goes prog f vals.toArray w (fun e w' => ∃ y, e = .returned y ∧ Keeps w.heap.size w w' ∧ ResOK _ w.heap.size w'.heap (two64 (g ((A3 (aInt .u64) (aInt .u64) (aInt .u64)).of args))) y)
  generalize (A3 (aInt .u64) (aInt .u64) (aInt .u64)).of args = a at hw hc ⊢
  obtain ⟨x, y, c, u⟩ := a
  have hl := hw.1
  match vals, hl, hw with
  | [v1, v2, v3], _, hw =>
    have h1 : DenR w.heap (allOk w.heap) (.int .u64 x) v1 := hw.2 0 (by simp [A3, Args.cons, Args.nil]) (by simp)
    have h2 : DenR w.heap (allOk w.heap) (.int .u64 y) v2 := hw.2 1 (by simp [A3, Args.cons, Args.nil]) (by simp)
    have h3 : DenR w.heap (allOk w.heap) (.int .u64 c) v3 := hw.2 2 (by simp [A3, Args.cons, Args.nil]) (by simp)
    cases h1; cases h2; cases h3
    refine .inr ⟨_, w, h x y c hc w, _, rfl, .refl _ _, ?_⟩
    show DenRes _ _ (.tup [.int .u64 _, .int .u64 _]) _
    refine .tup _ [_, _] rfl fun i h h' => ?_
    match i, h with
    | 0, _ => exact .int _ _
    | 1, _ => exact .int _ _

theorem ok_add64 : SpecOK prog n_math_bits_Add64 s_add64 := extern_ok fun x y c hc w => by
  rw [run_callFunc_extern (fn := f_math_bits_Add64) (by kernel_rfl) (by kernel_rfl) (by kernel_rfl) (by kernel_rfl) (e := add64Entry) (by kernel_rfl)]
  rcases hc with rfl | rfl <;> rfl
theorem ok_sub64 : SpecOK prog n_math_bits_Sub64 s_sub64 := extern_ok fun x y c hc w => by
  rw [run_callFunc_extern (fn := f_math_bits_Sub64) (by kernel_rfl) (by kernel_rfl) (by kernel_rfl) (by kernel_rfl) (e := sub64Entry) (by kernel_rfl)]
  rcases hc with rfl | rfl <;> rfl
end Go.Sx

namespace Go.Sx
open Go.Proofs
set_option maxRecDepth 100000

def shr64 (x n : Int) : Int := shrI .u64 x n
def shl64 (x n : Int) : Int := shlI .u64 x n
def m32 : Int := 4294967295
def mulHL (x y : Int) : Int × Int :=
  let x0 := and64 x m32
  let x1 := shr64 x 32
  let y0 := and64 y m32
  let y1 := shr64 y 32
  let w0 := mul64 x0 y0
  let t := add64 (mul64 x1 y0) (shr64 w0 32)
  let w1 := and64 t m32
  let w2 := shr64 t 32
  let w1 := add64 w1 (mul64 x0 y1)
  (add64 (add64 (mul64 x1 y1) w2) (shr64 w1 32), mul64 x y)
def s_mul64 : Spec := mk (A2 (aInt .u64) (aInt .u64)) none (fun a => mulHL a.1 a.2.1) two64
theorem r_mul64 (a) : run1 E [] 20 [] 0 noAnn f_math_bits_Mul64 ((A2 (aInt .u64) (aInt .u64)).to a) (meet false two64 (mulHL a.1 a.2.1)) = (two64 (mulHL a.1 a.2.1) = two64 (mulHL a.1 a.2.1)) := by kernel_rfl
theorem ok_mul64 : SpecOK prog n_math_bits_Mul64 s_mul64 :=
  mk_ok env_ok mixed Good.nil FnsOK.nil (by kernel_rfl) (by kernel_rfl) (by kernel_rfl) (notOwn false rfl) (fun a _ => yes (r_mul64 a) rfl)

/-- 128 bits: high, low. -/
structure W2 where
  hi : Int
  lo : Int
def W2.toL (w : W2) : List Int := [w.hi, w.lo]
def W2.ofL : List Int → W2
  | [a, b] => ⟨a, b⟩
  | _ => ⟨0, 0⟩
def aW2 : Arg W2 := aArr .u64 2 W2.ofL W2.toL (fun l h => by
  match l, h with
  | [_, _], _ => rfl) (fun _ => rfl)
def w2V (w : W2) : V := .ints .u64 w.toL
def W2.add (w v : W2) : W2 := ⟨addS w.hi v.hi (addO w.lo v.lo 0), addS w.lo v.lo 0⟩
def inU (x : Int) : Prop := 0 ≤ x ∧ x < 18446744073709551616
def W2.ok (w : W2) : Prop := inU w.lo
theorem inU_addS (x y c : Int) : inU (addS x y c) := by unfold inU addS; omega
theorem inU_subS (x y c : Int) : inU (subS x y c) := by unfold inU subS; omega
theorem inU_wr (x : Int) : inU (wr .u64 x) := by
  unfold inU wr IntKind.wrap
  simp [IntKind.signed, IntKind.bits]
  omega
theorem carry_of {x y : Int} (hx : inU x) (hy : inU y) : carryIn (addO x y 0) := by
  unfold carryIn addO; unfold inU at *; omega
theorem W2.add_ok (w v : W2) : (W2.add w v).ok := inU_addS _ _ _
def s_wadd : Spec := mk (A2 aW2 aW2) (some fun a => a.1.ok ∧ a.2.1.ok) (fun a => W2.add a.1 a.2.1) w2V
noncomputable def sp2 : List (Nat × Spec) := [(n_math_bits_Add64, s_add64), (n_math_bits_Sub64, s_sub64), (n_math_bits_Mul64, s_mul64)]
theorem sp2_ok : Good prog sp2 := .cons ok_add64 (.cons ok_sub64 (.cons ok_mul64 .nil))
theorem r_wadd (a) : run1 E sp2 20 [] 0 noAnn f_field_wide_add ((A2 aW2 aW2).to a) (meet false w2V (W2.add a.1 a.2.1)) = (carryIn 0 ∧ carryIn (addO a.1.lo a.2.1.lo 0) ∧ w2V (W2.add a.1 a.2.1) = w2V (W2.add a.1 a.2.1)) := by kernel_rfl
theorem ok_wadd : SpecOK prog n_field_wide_add s_wadd :=
  mk_ok env_ok mixed sp2_ok FnsOK.nil (by kernel_rfl) (by kernel_rfl) (by kernel_rfl) (notOwn false rfl) (fun a h => yes (r_wadd a) ⟨.inl rfl, carry_of (h _ rfl).1 (h _ rfl).2, rfl⟩)

def W2.times (w : W2) (x y : Int) : W2 := w.add ⟨(mulHL x y).1, (mulHL x y).2⟩
theorem mulHL_ok (x y : Int) : W2.ok ⟨(mulHL x y).1, (mulHL x y).2⟩ := inU_wr _
def s_wtimes : Spec := mk (A3 aW2 (aInt .u64) (aInt .u64)) (some fun a => a.1.ok) (fun a => W2.times a.1 a.2.1 a.2.2.1) w2V
noncomputable def sp3 : List (Nat × Spec) := [(n_field_wide_add, s_wadd), (n_math_bits_Mul64, s_mul64)]
theorem sp3_ok : Good prog sp3 := .cons ok_wadd (.cons ok_mul64 .nil)
theorem r_wtimes (a) : run1 E sp3 20 [] 0 noAnn f_field_wide_times ((A3 aW2 (aInt .u64) (aInt .u64)).to a) (meet false w2V (W2.times a.1 a.2.1 a.2.2.1)) = ((a.1.ok ∧ W2.ok ⟨(mulHL a.2.1 a.2.2.1).1, (mulHL a.2.1 a.2.2.1).2⟩) ∧ w2V (W2.times a.1 a.2.1 a.2.2.1) = w2V (W2.times a.1 a.2.1 a.2.2.1)) := by kernel_rfl
theorem ok_wtimes : SpecOK prog n_field_wide_times s_wtimes :=
  mk_ok env_ok mixed sp3_ok FnsOK.nil (by kernel_rfl) (by kernel_rfl) (by kernel_rfl) (notOwn false rfl) (fun a h => yes (r_wtimes a) ⟨⟨h _ rfl, mulHL_ok _ _⟩, rfl⟩)

def W2.over (w : W2) : W2 := ⟨shr64 w.hi 56, or64 (shl64 w.hi 8) (shr64 w.lo 56)⟩
def s_wover : Spec := mk (A1 aW2) none (fun a => W2.over a.1) w2V
theorem r_wover (a) : run1 E [] 20 [] 0 noAnn f_field_wide_over ((A1 aW2).to a) (meet false w2V (W2.over a.1)) = (w2V (W2.over a.1) = w2V (W2.over a.1)) := by kernel_rfl
theorem ok_wover : SpecOK prog n_field_wide_over s_wover :=
  mk_ok env_ok mixed Good.nil FnsOK.nil (by kernel_rfl) (by kernel_rfl) (by kernel_rfl) (notOwn false rfl) (fun a _ => yes (r_wover a) rfl)
end Go.Sx

namespace Go.Sx
open Go.Proofs
set_option maxRecDepth 100000

def wAt (L : List Int) (i : Nat) : W2 := W2.ofL ((L.drop (i * 2)).take 2)
def wSet (L : List Int) (i : Nat) (w : W2) : List Int := spliceL L (i * 2) w.toL
def lim (a : El) (i : Nat) : Int := a.toL.getD i 0
def pairs : List (Nat × Nat) := [(0,0),(0,1),(0,2),(0,3),(0,4),(0,5),(0,6),(0,7),(1,0),(1,1),(1,2),(1,3),(1,4),(1,5),(1,6),(1,7),(2,0),(2,1),(2,2),(2,3),(2,4),(2,5),(2,6),(2,7),(3,0),(3,1),(3,2),(3,3),(3,4),(3,5),(3,6),(3,7),(4,0),(4,1),(4,2),(4,3),(4,4),(4,5),(4,6),(4,7),(5,0),(5,1),(5,2),(5,3),(5,4),(5,5),(5,6),(5,7),(6,0),(6,1),(6,2),(6,3),(6,4),(6,5),(6,6),(6,7),(7,0),(7,1),(7,2),(7,3),(7,4),(7,5),(7,6),(7,7)]
def rowStep (a b : El) (L : List Int) (p : Nat × Nat) : List Int := wSet L (p.1 + p.2) ((wAt L (p.1 + p.2)).times (lim a p.1) (lim b p.2))
def rows (a b : El) : List (Nat × Nat) → List Int → List Int
  | [], L => L
  | p :: r, L => rows a b r (rowStep a b L p)
def rowsP (a b : El) : List (Nat × Nat) → List Int → (List Int → Prop) → Prop
  | [], L, K => K L
  | p :: r, L, K => (wAt L (p.1 + p.2)).ok ∧ rowsP a b r (rowStep a b L p) K
def downs : List Nat := [14, 13, 12, 11, 10, 9, 8]
def down1 (L : List Int) (i : Nat) : List Int := wSet L (i - 8) ((wAt L (i - 8)).add (wAt L i))
def down2 (L : List Int) (i : Nat) : List Int := wSet L (i - 4) ((wAt L (i - 4)).add (wAt L i))
def downP : List Nat → List Int → (List Int → Prop) → Prop
  | [], L, K => K L
  | i :: r, L, K => ((wAt L (i - 8)).ok ∧ (wAt L i).ok) ∧ ((wAt (down1 L i) (i - 4)).ok ∧ (wAt (down1 L i) i).ok) ∧ downP r (down2 (down1 L i) i) K
def outs : List Nat := [0, 1, 2, 3, 4, 5, 6, 7]
def outP (L : List Int) : List Nat → List Int → W2 → (List Int → W2 → Prop) → Prop
  | [], o, w, K => K o w
  | i :: r, o, w, K => ((wAt L i).ok ∧ w.ok) ∧ outP L r (setL o i (and64 ((wAt L i).add w).lo mask56)) (((wAt L i).add w).over) K
def lastStep (o : List Int) (w : W2) : El :=
  let low := and64 w.lo mask56
  let high := w.over.lo
  let o := setL o 0 (add64 (o.getD 0 0) low)
  let o := setL o 4 (add64 (o.getD 4 0) low)
  let o := setL o 1 (add64 (o.getD 1 0) high)
  let o := setL o 5 (add64 (o.getD 5 0) high)
  El.carry (El.ofL o)
def mulP (a b : El) (K : El → Prop) : Prop :=
  rowsP a b pairs (zl 30) fun L => downP downs L fun L => outP L outs (zl 8) ⟨0, 0⟩ fun o w => K (lastStep o w)
noncomputable def sp4 : List (Nat × Spec) := [(n_field_wide_add, s_wadd), (n_field_wide_times, s_wtimes), (n_field_wide_over, s_wover), (n_field_Element_carry, s_carry)]
theorem sp4_ok : Good prog sp4 := .cons ok_wadd (.cons ok_wtimes (.cons ok_wover (.cons ok_carry .nil)))
theorem r_mul (r : El) (a) : run1 E sp4 20 [] 0 noAnn f_field_Mul ((A2 aEl aEl).to a) (meet false elV r) = mulP a.1 a.2.1 (fun v => elV v = elV r) := by kernel_rfl

def downV : List Nat → List Int → List Int
  | [], L => L
  | i :: r, L => downV r (down2 (down1 L i) i)
def outV (L : List Int) : List Nat → List Int → W2 → List Int × W2
  | [], o, w => (o, w)
  | i :: r, o, w => outV L r (setL o i (and64 ((wAt L i).add w).lo mask56)) (((wAt L i).add w).over)
def El.mul (a b : El) : El :=
  let r := outV (downV downs (rows a b pairs (zl 30))) outs (zl 8) ⟨0, 0⟩
  lastStep r.1 r.2

def okL (L : List Int) : Prop := ∀ x ∈ L, inU x
theorem okL_zl (n : Nat) : okL (zl n) := fun x h => by
  have := List.eq_of_mem_replicate h
  subst this; exact ⟨by decide, by decide⟩
theorem wAt_okL {L : List Int} (h : okL L) (i : Nat) : inU (wAt L i).hi ∧ inU (wAt L i).lo := by
  have h0 : inU 0 := ⟨by decide, by decide⟩
  have : ∀ M : List Int, (∀ x ∈ M, inU x) → inU (W2.ofL M).hi ∧ inU (W2.ofL M).lo := by
    intro M hM
    match M with
    | [a, b] => exact ⟨hM a (by simp), hM b (by simp)⟩
    | [] => exact ⟨h0, h0⟩
    | [_] => exact ⟨h0, h0⟩
    | _ :: _ :: _ :: _ => exact ⟨h0, h0⟩
  exact this _ fun x hx => h x (List.mem_of_mem_drop (List.mem_of_mem_take hx))
theorem wSet_okL {L : List Int} (h : okL L) {i : Nat} {w : W2} (h1 : inU w.hi) (h2 : inU w.lo) : okL (wSet L i w) := by
  intro x hx
  unfold wSet spliceL at hx
  simp only [List.mem_append] at hx
  rcases hx with hx | hx | hx
  · exact h x (List.mem_of_mem_take hx)
  · simp [W2.toL] at hx
    rcases hx with rfl | rfl
    · exact h1
    · exact h2
  · exact h x (List.mem_of_mem_drop hx)
theorem add_inU (w v : W2) : inU (w.add v).hi ∧ inU (w.add v).lo := ⟨inU_addS _ _ _, inU_addS _ _ _⟩
theorem rowStep_ok {a b : El} {L : List Int} (h : okL L) (p : Nat × Nat) : okL (rowStep a b L p) := wSet_okL h (add_inU _ _).1 (add_inU _ _).2
theorem rowsP_intro {a b : El} {K : List Int → Prop} : ∀ {ps : List (Nat × Nat)} {L : List Int}, okL L → (okL (rows a b ps L) → K (rows a b ps L)) → rowsP a b ps L K
  | [], L, h, k => k h
  | p :: r, L, h, k => ⟨(wAt_okL h _).2, rowsP_intro (rowStep_ok h p) k⟩
theorem down1_ok {L : List Int} (h : okL L) (i : Nat) : okL (down1 L i) := wSet_okL h (add_inU _ _).1 (add_inU _ _).2
theorem down2_ok {L : List Int} (h : okL L) (i : Nat) : okL (down2 L i) := wSet_okL h (add_inU _ _).1 (add_inU _ _).2
theorem downP_intro {K : List Int → Prop} : ∀ {is : List Nat} {L : List Int}, okL L → (okL (downV is L) → K (downV is L)) → downP is L K
  | [], L, h, k => k h
  | i :: r, L, h, k => ⟨⟨(wAt_okL h _).2, (wAt_okL h _).2⟩, ⟨(wAt_okL (down1_ok h i) _).2, (wAt_okL (down1_ok h i) _).2⟩, downP_intro (down2_ok (down1_ok h i) i) k⟩
theorem over_ok (w : W2) : w.over.ok := by
  show inU (bits2 .or .u64 _ _)
  exact inU_wr _
theorem outP_intro {L : List Int} {K : List Int → W2 → Prop} (h : okL L) : ∀ {is : List Nat} {o : List Int} {w : W2}, w.ok → (K (outV L is o w).1 (outV L is o w).2) → outP L is o w K
  | [], o, w, _, k => k
  | i :: r, o, w, hw, k => ⟨⟨(wAt_okL h _).2, hw⟩, outP_intro h (over_ok _) k⟩
theorem mulP_intro {a b : El} {K : El → Prop} (k : K (El.mul a b)) : mulP a b K := by
  refine rowsP_intro (okL_zl _) fun h => ?_
  refine downP_intro h fun h => ?_
  exact outP_intro h ⟨by decide, by decide⟩ k
def s_mul : Spec := mk (A2 aEl aEl) none (fun a => El.mul a.1 a.2.1) elV
theorem ok_mul : SpecOK prog n_field_Mul s_mul :=
  mk_ok env_ok mixed sp4_ok FnsOK.nil (by kernel_rfl) (by kernel_rfl) (by kernel_rfl) (notOwn false rfl) (fun a _ => yes (r_mul _ a) (mulP_intro rfl))
end Go.Sx

namespace Go.Sx
open Go.Proofs
set_option maxRecDepth 100000

def El.strongAt (a : El) : List Nat → List Int → Int → List Int × Int
  | [], b, l => (b, l)
  | i :: r, b, l =>
    let q := add64 (lim primeE i) l
    El.strongAt a r (setL b i (and64 (subS (lim a i) q 0) mask56)) (subO' (lim a i) q 0)
def El.strong (x : El) : El :=
  let a := x.carry.carry
  let r := El.strongAt a outs a.toL 0
  El.select (wr .i64 (sub64 1 r.2)) a (El.ofL r.1)
noncomputable def sp5 : List (Nat × Spec) := [(n_math_bits_Sub64, s_sub64), (n_field_Element_carry, s_carry), (n_field_prime, s_prime), (n_field_Select, s_select)]
theorem sp5_ok : Good prog sp5 := .cons ok_sub64 (.cons ok_carry (.cons ok_prime (.cons ok_select .nil)))
theorem r_strong (a) : run1 E sp5 20 [] 0 noAnn f_field_Element_strong ((A1 aEl).to a) (meet false elV (El.strong a.1)) = (carryIn 0 ∧ carryIn 0 ∧ carryIn 0 ∧ carryIn 0 ∧ carryIn 0 ∧ carryIn 0 ∧ carryIn 0 ∧ carryIn 0 ∧ elV (El.strong a.1) = elV (El.strong a.1)) := by kernel_rfl
def s_strong : Spec := mk (A1 aEl) none (fun a => El.strong a.1) elV
theorem ok_strong : SpecOK prog n_field_Element_strong s_strong :=
  mk_ok env_ok mixed sp5_ok FnsOK.nil (by kernel_rfl) (by kernel_rfl) (by kernel_rfl) (notOwn false rfl) (fun a _ => yes (r_strong a) ⟨.inl rfl, .inl rfl, .inl rfl, .inl rfl, .inl rfl, .inl rfl, .inl rfl, .inl rfl, rfl⟩)

def El.bytes (a : El) : List Int := outs.flatMap fun i => [0, 1, 2, 3, 4, 5, 6].map fun k : Nat => wr .u8 (shr64 (lim a i) ((8 * k : Nat) : Int))
def bytesV (l : List Int) : V := .rs false (.ints .u8 l)
theorem isOwn {β : Type} {f : β → List Int} (b : Bool) : b = true → ∀ y, ∃ o, bytesV (f y) = .rs false o := fun _ y => ⟨_, rfl⟩
def s_raw : Spec := mk (A1 aEl) none (fun a => El.bytes a.1) bytesV false true
theorem r_raw (a) : run1 E [] 20 [] 0 noAnn f_field_raw ((A1 aEl).to a) (meet true bytesV (El.bytes a.1)) = (bytesV (El.bytes a.1) = bytesV (El.bytes a.1)) := by kernel_rfl
theorem ok_raw : SpecOK prog n_field_raw s_raw :=
  mk_ok env_ok mixed Good.nil FnsOK.nil (by kernel_rfl) (by kernel_rfl) (by kernel_rfl) (fun _ y => ⟨_, rfl⟩) (fun a _ => yes (r_raw a) rfl)
def El.Bytes (a : El) : List Int := a.strong.bytes
def s_Bytes : Spec := mk (A1 aEl) none (fun a => El.Bytes a.1) bytesV false true
noncomputable def sp6 : List (Nat × Spec) := [(n_field_raw, s_raw), (n_field_Element_strong, s_strong), (n_field_Element_carry, s_carry), (n_field_prime, s_prime), (n_field_Mul, s_mul), (n_field_Select, s_select)]
theorem sp6_ok : Good prog sp6 := .cons ok_raw (.cons ok_strong (.cons ok_carry (.cons ok_prime (.cons ok_mul (.cons ok_select .nil)))))
theorem r_Bytes (a) : run1 E sp6 20 [] 0 noAnn f_field_Bytes ((A1 aEl).to a) (meet true bytesV (El.Bytes a.1)) = (bytesV (El.Bytes a.1) = bytesV (El.Bytes a.1)) := by kernel_rfl
theorem ok_Bytes : SpecOK prog n_field_Bytes s_Bytes :=
  mk_ok env_ok mixed sp6_ok FnsOK.nil (by kernel_rfl) (by kernel_rfl) (by kernel_rfl) (fun _ y => ⟨_, rfl⟩) (fun a _ => yes (r_Bytes a) rfl)

def boolV (b : Bool) : V := .bool b
def El.zero (a : El) : Bool := outs.foldl (fun all i => or64 all (lim a.strong i)) 0 == 0
def s_Zero : Spec := mk (A1 aEl) none (fun a => El.zero a.1) boolV
theorem r_Zero (a) : run1 E sp6 20 [] 0 noAnn f_field_Zero ((A1 aEl).to a) (meet false boolV (El.zero a.1)) = (boolV (El.zero a.1) = boolV (El.zero a.1)) := by kernel_rfl
theorem ok_Zero : SpecOK prog n_field_Zero s_Zero :=
  mk_ok env_ok mixed sp6_ok FnsOK.nil (by kernel_rfl) (by kernel_rfl) (by kernel_rfl) (notOwn false rfl) (fun a _ => yes (r_Zero a) rfl)

def El.sub (a b : El) : El := El.carry (El.ofL (outs.map fun i => sub64 (add64 (lim a i) (mul64 2 (lim primeE i))) (lim b i)))
def s_Sub : Spec := mk (A2 aEl aEl) none (fun a => El.sub a.1 a.2.1) elV
theorem r_Sub (a) : run1 E sp6 20 fnsEach 2 noAnn f_field_Sub ((A2 aEl aEl).to a) (meet false elV (El.sub a.1 a.2.1)) = (elV (El.sub a.1 a.2.1) = elV (El.sub a.1 a.2.1)) := by kernel_rfl
theorem ok_Sub : SpecOK prog n_field_Sub s_Sub :=
  mk_ok env_ok mixed sp6_ok fnsEach_ok (by kernel_rfl) (by kernel_rfl) (by kernel_rfl) (notOwn false rfl) (fun a _ => yes (r_Sub a) rfl)
end Go.Sx

namespace Go.Sx
open Go.Proofs
set_option maxRecDepth 100000

def eqs : List (V × V) → Prop
  | [] => True
  | p :: r => p.1 = p.2 ∧ eqs r
def iteP (b : Bool) (p q : Prop) : Prop := match b with | true => p | false => q
theorem iteP_intro {b : Bool} {p q : Prop} (h : b = true → p) (k : b = false → q) : iteP b p q := by cases b <;> simp only [iteP] <;> first | exact h rfl | exact k rfl
theorem wr_i64 {x : Int} (h1 : -9223372036854775808 ≤ x) (h2 : x < 9223372036854775808) : wr .i64 x = x := by
  unfold wr IntKind.wrap
  simp [IntKind.signed, IntKind.bits]
  omega

def El.square (a : El) : El := El.mul a a
def s_Square : Spec := mk (A1 aEl) none (fun a => El.square a.1) elV
noncomputable def spM : List (Nat × Spec) := [(n_field_Mul, s_mul)]
theorem spM_ok : Good prog spM := .cons ok_mul .nil
theorem r_Square (a) : run1 E spM 20 [] 0 noAnn f_field_Square ((A1 aEl).to a) (meet false elV (El.square a.1)) = (elV (El.square a.1) = elV (El.square a.1)) := by kernel_rfl
theorem ok_Square : SpecOK prog n_field_Square s_Square :=
  mk_ok env_ok mixed spM_ok FnsOK.nil (by kernel_rfl) (by kernel_rfl) (by kernel_rfl) (notOwn false rfl) (fun a _ => yes (r_Square a) rfl)

def El.neg (a : El) : El := El.sub (El.ofL (zl 8)) a
def s_Neg : Spec := mk (A1 aEl) none (fun a => El.neg a.1) elV
noncomputable def spS : List (Nat × Spec) := [(n_field_Sub, s_Sub), (n_field_Mul, s_mul), (n_field_Square, s_Square), (n_field_Zero, s_Zero), (n_field_Select, s_select)]
theorem spS_ok : Good prog spS := .cons ok_Sub (.cons ok_mul (.cons ok_Square (.cons ok_Zero (.cons ok_select .nil))))
theorem r_Neg (a) : run1 E spS 20 [] 0 noAnn f_field_Neg ((A1 aEl).to a) (meet false elV (El.neg a.1)) = (elV (El.neg a.1) = elV (El.neg a.1)) := by kernel_rfl
theorem ok_Neg : SpecOK prog n_field_Neg s_Neg :=
  mk_ok env_ok mixed spS_ok FnsOK.nil (by kernel_rfl) (by kernel_rfl) (by kernel_rfl) (notOwn false rfl) (fun a _ => yes (r_Neg a) rfl)

def El.eq (a b : El) : Bool := (El.sub a b).zero
def s_Equal : Spec := mk (A2 aEl aEl) none (fun a => El.eq a.1 a.2.1) boolV
theorem r_Equal (a) : run1 E spS 20 [] 0 noAnn f_field_Equal ((A2 aEl aEl).to a) (meet false boolV (El.eq a.1 a.2.1)) = (boolV (El.eq a.1 a.2.1) = boolV (El.eq a.1 a.2.1)) := by kernel_rfl
theorem ok_Equal : SpecOK prog n_field_Equal s_Equal :=
  mk_ok env_ok mixed spS_ok FnsOK.nil (by kernel_rfl) (by kernel_rfl) (by kernel_rfl) (notOwn false rfl) (fun a _ => yes (r_Equal a) rfl)

def El.small (n : Int) : El := ⟨and64 (wr .u64 n) mask56, shr64 (wr .u64 n) 56, 0, 0, 0, 0, 0, 0⟩
def El.int (n : Int) : El := match decide (n < 0) with
  | true => El.neg (El.small (wr .i64 (0 - n)))
  | false => El.small n
noncomputable def spN : List (Nat × Spec) := [(n_field_Neg, s_Neg)]
theorem spN_ok : Good prog spN := .cons ok_Neg .nil
theorem r_Int (r : El) (a) : run1 E spN 20 [] 0 noAnn f_field_Int ((A1 (aInt .i64)).to a) (meet false elV r) = iteP (decide (a.1 < 0)) (elV (El.neg (El.small (wr .i64 (0 - a.1)))) = elV r) (elV (El.small a.1) = elV r) := by kernel_rfl
def s_Int : Spec := mk (A1 (aInt .i64)) none (fun a => El.int a.1) elV
theorem ok_Int : SpecOK prog n_field_Int s_Int :=
  mk_ok env_ok mixed spN_ok FnsOK.nil (by kernel_rfl) (by kernel_rfl) (by kernel_rfl) (notOwn false rfl) (fun a _ => yes (r_Int _ a) (by
    unfold El.int; cases decide (a.1 < 0) <;> rfl))

def El.times (a : El) (n : Int) : El := El.mul a (El.int n)
def s_Times : Spec := mk (A2 aEl (aInt .i64)) none (fun a => El.times a.1 a.2.1) elV
noncomputable def spT : List (Nat × Spec) := [(n_field_Int, s_Int), (n_field_Mul, s_mul), (n_field_Select, s_select)]
theorem spT_ok : Good prog spT := .cons ok_Int (.cons ok_mul (.cons ok_select .nil))
theorem r_Times (a) : run1 E spT 20 [] 0 noAnn f_field_Times ((A2 aEl (aInt .i64)).to a) (meet false elV (El.times a.1 a.2.1)) = (elV (El.times a.1 a.2.1) = elV (El.times a.1 a.2.1)) := by kernel_rfl
theorem ok_Times : SpecOK prog n_field_Times s_Times :=
  mk_ok env_ok mixed spT_ok FnsOK.nil (by kernel_rfl) (by kernel_rfl) (by kernel_rfl) (notOwn false rfl) (fun a _ => yes (r_Times a) rfl)

def El.squares (a : El) : Nat → El
  | 0 => a
  | n + 1 => El.square (El.squares a n)
noncomputable def spQ : List (Nat × Spec) := [(n_field_Square, s_Square)]
theorem spQ_ok : Good prog spQ := .cons ok_Square .nil
structure SqX where
  i : Int
  b : El
def sqPre (n : Int) (a : El) (x : SqX) : Prop := 0 ≤ x.i ∧ (x.i ≤ n ∨ x.i = 0) ∧ x.b = El.squares a x.i.toNat
def sqμ (n : Int) (x : SqX) : Nat := (n - x.i).toNat
def annSq (n : Int) (a : El) : Nat → Option Ann := fun id => match id with
  | 0 => some ⟨SqX, fun _ x => ⟨[(2, .ptr 0 0 0), (4, .ptr 1 0 0), (5, .int .i64 n), (6, .int .i64 x.i)], [(0, ⟨false, 0, elV x.b⟩), (1, ⟨false, 0, .ints .u64 (zl 8)⟩)], 4⟩, fun _ => sqPre n a, sqμ n⟩
  | _ => none
def sqFit (n : Int) (b : El) (i : Int) (x : SqX) : Prop :=
  eqs [(elV b, elV x.b), (.ints .u64 (zl 8), .ints .u64 (zl 8))] ∧ eqs [(.ptr 0 0 0, .ptr 0 0 0), (.ptr 1 0 0, .ptr 1 0 0), (.int .i64 n, .int .i64 n), (.int .i64 i, .int .i64 x.i)]
theorem r_squares (r : El) (a) : run1 E spQ 20 [] 0 (annSq a.2.1 a.1) f_root_squares ((A2 aEl (aInt .i64)).to a) (meet false elV r) =
    ((∃ x, sqPre a.2.1 a.1 x ∧ sqFit a.2.1 a.1 0 x) ∧ ∀ x, sqPre a.2.1 a.1 x → iteP (decide (x.i < a.2.1))
      (∃ x', sqPre a.2.1 a.1 x' ∧ sqFit a.2.1 (El.square x.b) (wr .i64 (x.i + 1)) x' ∧ sqμ a.2.1 x' < sqμ a.2.1 x) (elV x.b = elV r)) := by kernel_rfl

theorem eqs_nil : eqs [] := trivial
theorem eqs_cons {a b : V} {l : List (V × V)} (h : a = b) (k : eqs l) : eqs ((a, b) :: l) := ⟨h, k⟩
theorem sqFit_mk {n : Int} {b : El} {i : Int} {x : SqX} (h1 : b = x.b) (h2 : i = x.i) : sqFit n b i x := ⟨⟨by rw [h1], rfl, trivial⟩, rfl, rfl, rfl, by rw [h2], trivial⟩
def s_squares : Spec := mk (A2 aEl (aInt .i64)) (some fun a => a.2.1 < 9223372036854775808) (fun a => El.squares a.1 a.2.1.toNat) elV
theorem ok_squares : SpecOK prog n_root_squares s_squares :=
  mk_ok env_ok mixed spQ_ok FnsOK.nil (by kernel_rfl) (by kernel_rfl) (by kernel_rfl) (notOwn false rfl) (fun a h => by
    have hn : a.2.1 < 9223372036854775808 := h _ rfl
    refine yes (r_squares (El.squares a.1 a.2.1.toNat) a) ?_
    refine ⟨⟨⟨0, a.1⟩, ⟨by simp, .inr rfl, rfl⟩, sqFit_mk rfl rfl⟩, ?_⟩
    rintro x ⟨h0, h1, h2⟩
    refine iteP_intro (fun hd => ?_) (fun hd => ?_)
    · have hlt := of_decide_eq_true hd
      refine ⟨⟨x.i + 1, El.square x.b⟩, ⟨by simp; omega, .inl (by simp; omega), ?_⟩, sqFit_mk rfl (wr_i64 (by omega) (by omega)), ?_⟩
      · show El.square x.b = El.squares a.1 (x.i + 1).toNat
        have : (x.i + 1).toNat = x.i.toNat + 1 := by omega
        rw [this, h2]; rfl
      · show (a.2.1 - (x.i + 1)).toNat < (a.2.1 - x.i).toNat
        omega
    · have hlt := of_decide_eq_false hd
      have : x.i.toNat = a.2.1.toNat := by omega
      rw [h2, this])

def El.join (x : El) (n : Nat) (y : El) : El := El.mul (El.squares x n) y
def El.chain (a : El) : El :=
  let two := El.join a 1 a
  let three := El.join two 1 a
  let nine := El.join (El.join three 3 three) 3 three
  let eighteen := El.join nine 9 nine
  let most := El.join (El.join eighteen 1 a) 18 eighteen
  let most := El.join (El.join most 37 most) 37 most
  let most := El.join most 111 most
  El.join (El.join most 1 a) 223 most
def s_join : Spec := mk (A3 aEl (aInt .i64) aEl) (some fun a => a.2.1 < 9223372036854775808) (fun a => El.join a.1 a.2.1.toNat a.2.2.1) elV
noncomputable def spJ : List (Nat × Spec) := [(n_root_squares, s_squares), (n_field_Mul, s_mul)]
theorem spJ_ok : Good prog spJ := .cons ok_squares (.cons ok_mul .nil)
theorem r_join (a) : run1 E spJ 20 [] 0 noAnn f_root_chain_1 ((A3 aEl (aInt .i64) aEl).to a) (meet false elV (El.join a.1 a.2.1.toNat a.2.2.1)) = (a.2.1 < 9223372036854775808 ∧ elV (El.join a.1 a.2.1.toNat a.2.2.1) = elV (El.join a.1 a.2.1.toNat a.2.2.1)) := by kernel_rfl
theorem ok_join : SpecOK prog n_root_chain_1 s_join :=
  mk_ok env_ok mixed spJ_ok FnsOK.nil (by kernel_rfl) (by kernel_rfl) (by kernel_rfl) (notOwn false rfl) (fun a h => yes (r_join a) ⟨h _ rfl, rfl⟩)
def small63 (n : Int) : Prop := n < 9223372036854775808
noncomputable def spC : List (Nat × Spec) := [(n_root_chain_1, s_join)]
theorem spC_ok : Good prog spC := .cons ok_join .nil
def s_chain : Spec := mk (A1 aEl) none (fun a => El.chain a.1) elV
theorem r_chain (a) : run1 E spC 20 [] 0 noAnn f_root_chain ((A1 aEl).to a) (meet false elV (El.chain a.1)) = (small63 1 ∧ small63 1 ∧ small63 3 ∧ small63 3 ∧ small63 9 ∧ small63 1 ∧ small63 18 ∧ small63 37 ∧ small63 37 ∧ small63 111 ∧ small63 1 ∧ small63 223 ∧ elV (El.chain a.1) = elV (El.chain a.1)) := by kernel_rfl
theorem ok_chain : SpecOK prog n_root_chain s_chain :=
  mk_ok env_ok mixed spC_ok FnsOK.nil (by kernel_rfl) (by kernel_rfl) (by kernel_rfl) (notOwn false rfl) (fun a _ => yes (r_chain a) (by unfold small63; refine ⟨?_, ?_, ?_, ?_, ?_, ?_, ?_, ?_, ?_, ?_, ?_, ?_, rfl⟩ <;> decide))
def El.inv (a : El) : El := El.mul (El.squares (El.chain a) 2) a
noncomputable def spI : List (Nat × Spec) := [(n_root_chain, s_chain), (n_root_squares, s_squares), (n_field_Mul, s_mul)]
theorem spI_ok : Good prog spI := .cons ok_chain (.cons ok_squares (.cons ok_mul .nil))
def s_Inverse : Spec := mk (A1 aEl) none (fun a => El.inv a.1) elV
theorem r_Inverse (a) : run1 E spI 20 [] 0 noAnn f_root_Inverse ((A1 aEl).to a) (meet false elV (El.inv a.1)) = (small63 2 ∧ elV (El.inv a.1) = elV (El.inv a.1)) := by kernel_rfl
theorem ok_Inverse : SpecOK prog n_root_Inverse s_Inverse :=
  mk_ok env_ok mixed spI_ok FnsOK.nil (by kernel_rfl) (by kernel_rfl) (by kernel_rfl) (notOwn false rfl) (fun a _ => yes (r_Inverse a) ⟨show (2 : Int) < 9223372036854775808 by decide, rfl⟩)
end Go.Sx

namespace Go.Sx
open Go.Proofs
set_option maxRecDepth 100000

structure E2 where
  a : El
  b : El
def E2.toL (p : E2) : List Int := [p.a.a0, p.a.a1, p.a.a2, p.a.a3, p.a.a4, p.a.a5, p.a.a6, p.a.a7, p.b.a0, p.b.a1, p.b.a2, p.b.a3, p.b.a4, p.b.a5, p.b.a6, p.b.a7]
def E2.ofL : List Int → E2
  | [a0, a1, a2, a3, a4, a5, a6, a7, b0, b1, b2, b3, b4, b5, b6, b7] => ⟨⟨a0, a1, a2, a3, a4, a5, a6, a7⟩, ⟨b0, b1, b2, b3, b4, b5, b6, b7⟩⟩
  | _ => ⟨default, default⟩
def aE2 : Arg E2 := aArr .u64 16 E2.ofL E2.toL (fun l h => by
  match l, h with
  | [_, _, _, _, _, _, _, _, _, _, _, _, _, _, _, _], _ => rfl) (fun _ => rfl)
def e2V (p : E2) : V := .ints .u64 p.toL
def twoV (p : El × El) : V := .tup [elV p.1, elV p.2]
def El.swap (bit : Int) (a b : El) : El × El := (El.select bit a b, El.select bit b a)
def s_Swap : Spec := mk (A3 (aInt .i64) aEl aEl) none (fun a => El.swap a.1 a.2.1 a.2.2.1) twoV
theorem r_Swap (a) : run1 E spT 20 [] 0 noAnn f_field_Swap ((A3 (aInt .i64) aEl aEl).to a) (meet false twoV (El.swap a.1 a.2.1 a.2.2.1)) = (twoV (El.swap a.1 a.2.1 a.2.2.1) = twoV (El.swap a.1 a.2.1 a.2.2.1)) := by kernel_rfl
theorem ok_Swap : SpecOK prog n_field_Swap s_Swap :=
  mk_ok env_ok mixed spT_ok FnsOK.nil (by kernel_rfl) (by kernel_rfl) (by kernel_rfl) (notOwn false rfl) (fun a _ => yes (r_Swap a) rfl)
noncomputable def spW : List (Nat × Spec) := [(n_field_Swap, s_Swap), (n_field_Add, s_add), (n_field_Sub, s_Sub), (n_field_Mul, s_mul), (n_field_Square, s_Square), (n_field_Times, s_Times)]
theorem spW_ok : Good prog spW := .cons ok_Swap (.cons ok_add (.cons ok_Sub (.cons ok_mul (.cons ok_Square (.cons ok_Times .nil)))))
def E2.swap (p : E2) (bit : Int) : E2 := ⟨El.select bit p.a p.b, El.select bit p.b p.a⟩
def s_pswap : Spec := mk (A2 aE2 (aInt .i64)) none (fun a => E2.swap a.1 a.2.1) e2V
theorem r_pswap (a) : run1 E spW 20 [] 0 noAnn f_ladder_pair_swap ((A2 aE2 (aInt .i64)).to a) (meet false e2V (E2.swap a.1 a.2.1)) = (e2V (E2.swap a.1 a.2.1) = e2V (E2.swap a.1 a.2.1)) := by kernel_rfl
theorem ok_pswap : SpecOK prog n_ladder_pair_swap s_pswap :=
  mk_ok env_ok mixed spW_ok FnsOK.nil (by kernel_rfl) (by kernel_rfl) (by kernel_rfl) (notOwn false rfl) (fun a _ => yes (r_pswap a) rfl)
def ladStep (u : El) (x z : E2) : E2 × E2 :=
  let a := El.add x.a z.a
  let b := El.sub x.a z.a
  let s := El.mul (El.sub x.b z.b) a
  let t := El.mul (El.add x.b z.b) b
  let a := El.square a
  let b := El.square b
  let w := El.sub a b
  (⟨El.mul a b, El.square (El.add s t)⟩, ⟨El.mul w (El.add a (El.times w 39081)), El.mul u (El.square (El.sub s t))⟩)
def e22V (p : E2 × E2) : V := .tup [e2V p.1, e2V p.2]
def s_Step : Spec := mk (A3 aEl aE2 aE2) none (fun a => ladStep a.1 a.2.1 a.2.2.1) e22V
theorem r_Step (a) : run1 E spW 20 [] 0 noAnn f_ladder_Step ((A3 aEl aE2 aE2).to a) (meet false e22V (ladStep a.1 a.2.1 a.2.2.1)) = (e22V (ladStep a.1 a.2.1 a.2.2.1) = e22V (ladStep a.1 a.2.1 a.2.2.1)) := by kernel_rfl
theorem ok_Step : SpecOK prog n_ladder_Step s_Step :=
  mk_ok env_ok mixed spW_ok FnsOK.nil (by kernel_rfl) (by kernel_rfl) (by kernel_rfl) (notOwn false rfl) (fun a _ => yes (r_Step a) rfl)
end Go.Sx

namespace Go.Sx
open Go.Proofs
set_option maxRecDepth 100000

def elErrV (p : El × Int) : V := .tup [elV p.1, .int .i64 p.2]
noncomputable def fnsOf : Fns := [(n_field_each_uint64, (f_field_each_uint64, noAnn)), (n_field_Of_1, (f_field_Of_1, noAnn))]
theorem fnsOf_ok : FnsOK prog fnsOf := .cons (by kernel_rfl) (by kernel_rfl) (.cons (by kernel_rfl) (by kernel_rfl) .nil)
def limbV (l : List Int) (i : Nat) : List Nat → Int → Int
  | [], n => n
  | k :: r, n => limbV l i r (or64 n (shl64 (wr .u64 (l.getD (7 * i + k) 0)) ((8 * k : Nat) : Int)))
def El.of (l : List Int) : El := El.ofL (outs.map fun i => limbV l i [0, 1, 2, 3, 4, 5, 6] 0)
theorem r_Of (b0 b1 b2 b3 b4 b5 b6 b7 b8 b9 b10 b11 b12 b13 b14 b15 b16 b17 b18 b19 b20 b21 b22 b23 b24 b25 b26 b27 b28 b29 b30 b31 b32 b33 b34 b35 b36 b37 b38 b39 b40 b41 b42 b43 b44 b45 b46 b47 b48 b49 b50 b51 b52 b53 b54 b55 : Int) : run1 E [] 20 fnsOf 2 noAnn f_field_Of ((A1 aBytes).to ([b0, b1, b2, b3, b4, b5, b6, b7, b8, b9, b10, b11, b12, b13, b14, b15, b16, b17, b18, b19, b20, b21, b22, b23, b24, b25, b26, b27, b28, b29, b30, b31, b32, b33, b34, b35, b36, b37, b38, b39, b40, b41, b42, b43, b44, b45, b46, b47, b48, b49, b50, b51, b52, b53, b54, b55], ())) (meet false elErrV (El.of [b0, b1, b2, b3, b4, b5, b6, b7, b8, b9, b10, b11, b12, b13, b14, b15, b16, b17, b18, b19, b20, b21, b22, b23, b24, b25, b26, b27, b28, b29, b30, b31, b32, b33, b34, b35, b36, b37, b38, b39, b40, b41, b42, b43, b44, b45, b46, b47, b48, b49, b50, b51, b52, b53, b54, b55], 0)) = (elErrV (El.of [b0, b1, b2, b3, b4, b5, b6, b7, b8, b9, b10, b11, b12, b13, b14, b15, b16, b17, b18, b19, b20, b21, b22, b23, b24, b25, b26, b27, b28, b29, b30, b31, b32, b33, b34, b35, b36, b37, b38, b39, b40, b41, b42, b43, b44, b45, b46, b47, b48, b49, b50, b51, b52, b53, b54, b55], 0) = elErrV (El.of [b0, b1, b2, b3, b4, b5, b6, b7, b8, b9, b10, b11, b12, b13, b14, b15, b16, b17, b18, b19, b20, b21, b22, b23, b24, b25, b26, b27, b28, b29, b30, b31, b32, b33, b34, b35, b36, b37, b38, b39, b40, b41, b42, b43, b44, b45, b46, b47, b48, b49, b50, b51, b52, b53, b54, b55], 0)) := by kernel_rfl
theorem list56 {P : List Int → Prop} (h : ∀ b0 b1 b2 b3 b4 b5 b6 b7 b8 b9 b10 b11 b12 b13 b14 b15 b16 b17 b18 b19 b20 b21 b22 b23 b24 b25 b26 b27 b28 b29 b30 b31 b32 b33 b34 b35 b36 b37 b38 b39 b40 b41 b42 b43 b44 b45 b46 b47 b48 b49 b50 b51 b52 b53 b54 b55, P [b0, b1, b2, b3, b4, b5, b6, b7, b8, b9, b10, b11, b12, b13, b14, b15, b16, b17, b18, b19, b20, b21, b22, b23, b24, b25, b26, b27, b28, b29, b30, b31, b32, b33, b34, b35, b36, b37, b38, b39, b40, b41, b42, b43, b44, b45, b46, b47, b48, b49, b50, b51, b52, b53, b54, b55]) (l : List Int) (hl : l.length = 56) : P l := by
  match l, hl with
  | b0 :: b1 :: b2 :: b3 :: b4 :: b5 :: b6 :: b7 :: b8 :: b9 :: b10 :: b11 :: b12 :: b13 :: b14 :: b15 :: b16 :: b17 :: b18 :: b19 :: b20 :: b21 :: b22 :: b23 :: b24 :: b25 :: b26 :: b27 :: b28 :: b29 :: b30 :: b31 :: b32 :: b33 :: b34 :: b35 :: b36 :: b37 :: b38 :: b39 :: b40 :: b41 :: b42 :: b43 :: b44 :: b45 :: b46 :: b47 :: b48 :: b49 :: b50 :: b51 :: b52 :: b53 :: b54 :: b55 :: [], _ => exact h b0 b1 b2 b3 b4 b5 b6 b7 b8 b9 b10 b11 b12 b13 b14 b15 b16 b17 b18 b19 b20 b21 b22 b23 b24 b25 b26 b27 b28 b29 b30 b31 b32 b33 b34 b35 b36 b37 b38 b39 b40 b41 b42 b43 b44 b45 b46 b47 b48 b49 b50 b51 b52 b53 b54 b55
def s_Of : Spec := mk (A1 aBytes) (some fun a => a.1.length = 56) (fun a => (El.of a.1, (0 : Int))) elErrV
theorem ok_Of : SpecOK prog n_field_Of s_Of :=
  mk_ok (fuel := 20) (depth := 2) (ann := fun _ => noAnn) env_ok mixed Good.nil fnsOf_ok (by kernel_rfl) (by kernel_rfl) (by kernel_rfl) (notOwn false rfl) (fun a h => by
    obtain ⟨l, ⟨⟩⟩ := a
    have hl : l.length = 56 := h _ rfl
    exact list56 (P := fun l => run1 E [] 20 fnsOf 2 noAnn f_field_Of ((A1 aBytes).to (l, ())) (meet false elErrV (El.of l, 0))) (fun b0 b1 b2 b3 b4 b5 b6 b7 b8 b9 b10 b11 b12 b13 b14 b15 b16 b17 b18 b19 b20 b21 b22 b23 b24 b25 b26 b27 b28 b29 b30 b31 b32 b33 b34 b35 b36 b37 b38 b39 b40 b41 b42 b43 b44 b45 b46 b47 b48 b49 b50 b51 b52 b53 b54 b55 => yes (r_Of b0 b1 b2 b3 b4 b5 b6 b7 b8 b9 b10 b11 b12 b13 b14 b15 b16 b17 b18 b19 b20 b21 b22 b23 b24 b25 b26 b27 b28 b29 b30 b31 b32 b33 b34 b35 b36 b37 b38 b39 b40 b41 b42 b43 b44 b45 b46 b47 b48 b49 b50 b51 b52 b53 b54 b55) rfl) l hl)
end Go.Sx

namespace Go.Sx
open Go.Proofs
set_option maxRecDepth 100000

structure LadX where
  i : Int
  last : Int
  x : E2
  z : E2
def xor63 (a b : Int) : Int := bits2 .xor .i64 a b
def bitV (l : List Int) (i : Int) : Int := wr .i64 (bits2 .and .u8 (shrI .u8 (l.getD (wr .i64 (i.tdiv 8)).toNat 0) (i.tmod 8)) 1)
def bitP (l : List Int) (i : Int) (K : Int → Prop) : Prop :=
  iteP (decide (i ≥ 0)) (guard (decide (0 ≤ wr .i64 (i.tdiv 8) ∧ wr .i64 (i.tdiv 8) < (l.length : Int))) (guard (Nat.beq 0 0 && Nat.blt (wr .i64 (i.tdiv 8)).toNat l.length) (guard (decide (0 ≤ i.tmod 8)) (K (bitV l i))))) (K 0)
def ladShape (l : List Int) (u : El) (x : LadX) : St :=
  ⟨[(0, .rs false (.ints .u8 l)), (3, .ptr 0 0 0), (4, .ptr 1 0 0), (6, .ptr 12 0 0), (7, .ptr 13 0 0), (8, .int .i64 x.last), (9, .int .i64 x.i)],
   [(0, ⟨false, 0, elV u⟩), (1, ⟨false, 0, .ints .u64 (zl 8)⟩), (12, ⟨false, 0, e2V x.x⟩), (13, ⟨false, 0, e2V x.z⟩)], 22⟩
def ladFit (l : List Int) (u : El) (i last : Int) (x z : E2) (y : LadX) : Prop :=
  eqs [(elV u, elV u), (.ints .u64 (zl 8), .ints .u64 (zl 8)), (e2V x, e2V y.x), (e2V z, e2V y.z)] ∧
  eqs [(.rs false (.ints .u8 l), .rs false (.ints .u8 l)), (.ptr 0 0 0, .ptr 0 0 0), (.ptr 1 0 0, .ptr 1 0 0), (.ptr 12 0 0, .ptr 12 0 0), (.ptr 13 0 0, .ptr 13 0 0), (.int .i64 last, .int .i64 y.last), (.int .i64 i, .int .i64 y.i)]
def annLad (pre : LadX → Prop) (μ : LadX → Nat) (l : List Int) (u : El) : Nat → Option Ann := fun id => match id with
  | 0 => some ⟨LadX, fun _ x => ladShape l u x, fun _ => pre, μ⟩
  | _ => none
noncomputable def spL : List (Nat × Spec) := [(n_field_Int, s_Int), (n_ladder_pair_swap, s_pswap), (n_ladder_Step, s_Step), (n_root_Inverse, s_Inverse), (n_field_Mul, s_mul)]
theorem spL_ok : Good prog spL := .cons ok_Int (.cons ok_pswap (.cons ok_Step (.cons ok_Inverse (.cons ok_mul .nil))))
def ladX0 (u : El) : E2 := ⟨El.int 1, u⟩
def ladZ0 : E2 := ⟨El.int 0, El.int 1⟩
theorem r_Ladder (pre : LadX → Prop) (μ : LadX → Nat) (r : El × Int) (l : List Int) (u : El) : run1 E spL 20 [] 0 (annLad pre μ l u) f_ladder_Ladder ((A2 aBytes aEl).to (l, u, ())) (meet false elErrV r) =
    iteP (decide ((l.length : Int) > 64)) (elErrV (El.ofL (zl 8), 11) = elErrV r)
      ((∃ y, pre y ∧ ladFit l u (wr .i64 (wr .i64 (8 * (l.length : Int)) - 1)) 0 (ladX0 u) ladZ0 y) ∧ ∀ x, pre x →
        bitP l x.i fun b => iteP (decide (x.i < 0))
          (elErrV (El.mul (E2.swap x.x (xor63 b x.last)).a (El.inv (E2.swap x.z (xor63 b x.last)).a), 0) = elErrV r)
          (∃ y, pre y ∧ ladFit l u (wr .i64 (x.i - 1)) b (ladStep u (E2.swap x.x (xor63 b x.last)) (E2.swap x.z (xor63 b x.last))).1 (ladStep u (E2.swap x.x (xor63 b x.last)) (E2.swap x.z (xor63 b x.last))).2 y ∧ μ y < μ x)) := by kernel_rfl

def ladBit (l : List Int) (i : Int) : Int := match decide (i ≥ 0) with | true => bitV l i | false => 0
def ladIter (l : List Int) (u : El) (x : LadX) : LadX :=
  let b := ladBit l x.i
  let r := ladStep u (E2.swap x.x (xor63 b x.last)) (E2.swap x.z (xor63 b x.last))
  ⟨x.i - 1, b, r.1, r.2⟩
def ladAt (l : List Int) (u : El) : Nat → LadX
  | 0 => ⟨8 * (l.length : Int) - 1, 0, ladX0 u, ladZ0⟩
  | n + 1 => ladIter l u (ladAt l u n)
def ladEnd (l : List Int) (u : El) (x : LadX) : El :=
  El.mul (E2.swap x.x (xor63 (ladBit l x.i) x.last)).a (El.inv (E2.swap x.z (xor63 (ladBit l x.i) x.last)).a)
def El.ladder (l : List Int) (u : El) : El × Int := match decide ((l.length : Int) > 64) with
  | true => (El.ofL (zl 8), 11)
  | false => (ladEnd l u (ladAt l u (8 * l.length)), 0)
theorem ladAt_i (l : List Int) (u : El) : ∀ n, (ladAt l u n).i = 8 * (l.length : Int) - 1 - n
  | 0 => by simp [ladAt]
  | n + 1 => by
    show (ladAt l u n).i - 1 = _
    rw [ladAt_i l u n]; omega
theorem ladFit_mk {l : List Int} {u : El} {i last : Int} {x z : E2} {y : LadX} (h : y = ⟨i, last, x, z⟩) : ladFit l u i last x z y := by
  subst h; exact ⟨⟨rfl, rfl, rfl, rfl, trivial⟩, rfl, rfl, rfl, rfl, rfl, rfl, rfl, trivial⟩
theorem bitP_intro {l : List Int} {i : Int} {K : Int → Prop} (hl : l.length ≤ 64) (h : i < 8 * (l.length : Int)) (k : K (ladBit l i)) : bitP l i K := by
  unfold bitP
  unfold ladBit at k
  refine iteP_intro (fun hd => ?_) (fun hd => ?_)
  · rw [hd] at k
    have h0 : i ≥ 0 := of_decide_eq_true hd
    have h1 : i.tdiv 8 = i / 8 := Int.tdiv_eq_ediv_of_nonneg h0
    have h2 : wr .i64 (i.tdiv 8) = i / 8 := by rw [h1]; exact wr_i64 (by omega) (by omega)
    refine guard_iff.2 ⟨?_, guard_iff.2 ⟨?_, guard_iff.2 ⟨?_, k⟩⟩⟩
    · rw [h2]; exact decide_eq_true (by omega)
    · rw [h2]
      have : Nat.blt (i / 8).toNat l.length = true := Nat.ble_eq_true_of_le (by omega)
      rw [this]; rfl
    · exact decide_eq_true (Int.tmod_nonneg _ h0)
  · rw [hd] at k; exact k
def ladPre (l : List Int) (u : El) (x : LadX) : Prop := ∃ n : Nat, n ≤ 8 * l.length ∧ x = ladAt l u n
def s_Ladder : Spec := mk (A2 aBytes aEl) none (fun a => El.ladder a.1 a.2.1) elErrV
theorem ok_Ladder : SpecOK prog n_ladder_Ladder s_Ladder :=
  mk_ok (fuel := 20) (depth := 0) (ann := fun a => annLad (ladPre a.1 a.2.1) (fun x => (x.i + 1).toNat) a.1 a.2.1) env_ok mixed spL_ok FnsOK.nil (by kernel_rfl) (by kernel_rfl) (by kernel_rfl) (notOwn false rfl) (fun a _ => by
    obtain ⟨l, u, ⟨⟩⟩ := a
    refine yes (r_Ladder (ladPre l u) (fun x => (x.i + 1).toNat) (El.ladder l u) l u) ?_
    unfold El.ladder
    refine iteP_intro (fun hd => ?_) (fun hd => ?_)
    · rw [hd]
    · rw [hd]
      have hl : l.length ≤ 64 := by have := of_decide_eq_false hd; omega
      refine ⟨⟨ladAt l u 0, ⟨0, Nat.zero_le _, rfl⟩, ladFit_mk ?_⟩, ?_⟩
      · show (⟨8 * (l.length : Int) - 1, 0, ladX0 u, ladZ0⟩ : LadX) = _
        rw [wr_i64 (x := 8 * (l.length : Int)) (by omega) (by omega), wr_i64 (x := 8 * (l.length : Int) - 1) (by omega) (by omega)]
      · rintro x ⟨n, hn, rfl⟩
        have hi := ladAt_i l u n
        refine bitP_intro hl (by omega) (iteP_intro (fun h => ?_) (fun h => ?_))
        · have := of_decide_eq_true h
          have e : n = 8 * l.length := by omega
          subst e; rfl
        · have := of_decide_eq_false h
          refine ⟨ladAt l u (n + 1), ⟨n + 1, by omega, rfl⟩, ladFit_mk ?_, ?_⟩
          · rw [wr_i64 (by omega) (by omega)]; rfl
          · rw [ladAt_i, ladAt_i]; omega)
end Go.Sx

namespace Go.Sx
open Go.Proofs
set_option maxRecDepth 100000

/-! ### point -/
def ptV (p : Pt) : V := .ints .u64 p.toL
def Pt.identity : Pt := ⟨El.int 0, El.int 1, El.int 1⟩
noncomputable def spP0 : List (Nat × Spec) := [(n_field_Int, s_Int)]
theorem spP0_ok : Good prog spP0 := .cons ok_Int .nil
def s_pIdentity : Spec := mk .nil none (fun _ => Pt.identity) ptV
theorem r_pIdentity : run1 E spP0 20 [] 0 noAnn f_point_Identity (Args.nil.to ()) (meet false ptV Pt.identity) = (ptV Pt.identity = ptV Pt.identity) := by kernel_rfl
theorem ok_pIdentity : SpecOK prog n_point_Identity s_pIdentity :=
  mk_ok env_ok mixed spP0_ok FnsOK.nil (by kernel_rfl) (by kernel_rfl) (by kernel_rfl) (notOwn false rfl) (fun a _ => yes r_pIdentity rfl)

noncomputable def spP1 : List (Nat × Spec) := [(n_field_Int, s_Int), (n_field_Add, s_add), (n_field_Sub, s_Sub), (n_field_Mul, s_mul), (n_field_Square, s_Square), (n_field_Times, s_Times), (n_field_Neg, s_Neg), (n_field_Equal, s_Equal)]
theorem spP1_ok : Good prog spP1 := .cons ok_Int (.cons ok_add (.cons ok_Sub (.cons ok_mul (.cons ok_Square (.cons ok_Times (.cons ok_Neg (.cons ok_Equal .nil)))))))

def Pt.add (p q : Pt) : Pt :=
  let a := El.mul p.z q.z
  let b := El.square a
  let c := El.mul p.x q.x
  let e := El.mul p.y q.y
  let t := El.times (El.mul c e) (-39081)
  let down := El.sub b t
  let up := El.add b t
  let h := El.sub (El.sub (El.mul (El.add p.x p.y) (El.add q.x q.y)) c) e
  ⟨El.mul (El.mul a down) h, El.mul (El.mul a up) (El.sub e c), El.mul down up⟩
def s_pAdd : Spec := mk (A2 aPt aPt) none (fun a => Pt.add a.1 a.2.1) ptV
theorem r_pAdd (a) : run1 E spP1 20 [] 0 noAnn f_point_Add ((A2 aPt aPt).to a) (meet false ptV (Pt.add a.1 a.2.1)) = (ptV (Pt.add a.1 a.2.1) = ptV (Pt.add a.1 a.2.1)) := by kernel_rfl
theorem ok_pAdd : SpecOK prog n_point_Add s_pAdd :=
  mk_ok env_ok mixed spP1_ok FnsOK.nil (by kernel_rfl) (by kernel_rfl) (by kernel_rfl) (notOwn false rfl) (fun a _ => yes (r_pAdd a) rfl)

def Pt.double (p : Pt) : Pt :=
  let b := El.square (El.add p.x p.y)
  let c := El.square p.x
  let e := El.square p.y
  let s := El.add c e
  let j := El.sub s (El.times (El.square p.z) 2)
  ⟨El.mul (El.sub b s) j, El.mul s (El.sub c e), El.mul s j⟩
def s_pDouble : Spec := mk (A1 aPt) none (fun a => Pt.double a.1) ptV
theorem r_pDouble (a) : run1 E spP1 20 [] 0 noAnn f_point_Double ((A1 aPt).to a) (meet false ptV (Pt.double a.1)) = (ptV (Pt.double a.1) = ptV (Pt.double a.1)) := by kernel_rfl
theorem ok_pDouble : SpecOK prog n_point_Double s_pDouble :=
  mk_ok env_ok mixed spP1_ok FnsOK.nil (by kernel_rfl) (by kernel_rfl) (by kernel_rfl) (notOwn false rfl) (fun a _ => yes (r_pDouble a) rfl)

def Pt.neg (p : Pt) : Pt := ⟨El.neg p.x, p.y, p.z⟩
def s_pNeg : Spec := mk (A1 aPt) none (fun a => Pt.neg a.1) ptV
theorem r_pNeg (a) : run1 E spP1 20 [] 0 noAnn f_point_Neg ((A1 aPt).to a) (meet false ptV (Pt.neg a.1)) = (ptV (Pt.neg a.1) = ptV (Pt.neg a.1)) := by kernel_rfl
theorem ok_pNeg : SpecOK prog n_point_Neg s_pNeg :=
  mk_ok env_ok mixed spP1_ok FnsOK.nil (by kernel_rfl) (by kernel_rfl) (by kernel_rfl) (notOwn false rfl) (fun a _ => yes (r_pNeg a) rfl)

def Pt.four (p : Pt) : Pt := Pt.double (Pt.double p)
noncomputable def spP2 : List (Nat × Spec) := [(n_point_Double, s_pDouble)]
theorem spP2_ok : Good prog spP2 := .cons ok_pDouble .nil
def s_pFour : Spec := mk (A1 aPt) none (fun a => Pt.four a.1) ptV
theorem r_pFour (a) : run1 E spP2 20 [] 0 noAnn f_point_Four ((A1 aPt).to a) (meet false ptV (Pt.four a.1)) = (ptV (Pt.four a.1) = ptV (Pt.four a.1)) := by kernel_rfl
theorem ok_pFour : SpecOK prog n_point_Four s_pFour :=
  mk_ok env_ok mixed spP2_ok FnsOK.nil (by kernel_rfl) (by kernel_rfl) (by kernel_rfl) (notOwn false rfl) (fun a _ => yes (r_pFour a) rfl)

def aI1 : Arg Int := aArr .i64 1 (fun l => l.getD 0 0) (fun n => [n]) (fun l h => by
  match l, h with
  | [_], _ => rfl) (fun _ => rfl)
noncomputable def spP3 : List (Nat × Spec) := [(n_field_Select, s_select)]
theorem spP3_ok : Good prog spP3 := .cons ok_select .nil
def s_pickof : Spec := mk (A3 aI1 aEl aEl) none (fun a => El.select a.1 a.2.1 a.2.2.1) elV
theorem r_pickof (a) : run1 E spP3 20 [] 0 noAnn f_point_pick_of ((A3 aI1 aEl aEl).to a) (meet false elV (El.select a.1 a.2.1 a.2.2.1)) = (elV (El.select a.1 a.2.1 a.2.2.1) = elV (El.select a.1 a.2.1 a.2.2.1)) := by kernel_rfl
theorem ok_pickof : SpecOK prog n_point_pick_of s_pickof :=
  mk_ok env_ok mixed spP3_ok FnsOK.nil (by kernel_rfl) (by kernel_rfl) (by kernel_rfl) (notOwn false rfl) (fun a _ => yes (r_pickof a) rfl)
def Pt.select (b : Int) (p q : Pt) : Pt := ⟨El.select b p.x q.x, El.select b p.y q.y, El.select b p.z q.z⟩
noncomputable def spP4 : List (Nat × Spec) := [(n_point_pick_of, s_pickof)]
theorem spP4_ok : Good prog spP4 := .cons ok_pickof .nil
def s_pSelect : Spec := mk (A3 (aInt .i64) aPt aPt) none (fun a => Pt.select a.1 a.2.1 a.2.2.1) ptV
theorem r_pSelect (a) : run1 E spP4 20 [] 0 noAnn f_point_Select ((A3 (aInt .i64) aPt aPt).to a) (meet false ptV (Pt.select a.1 a.2.1 a.2.2.1)) = (ptV (Pt.select a.1 a.2.1 a.2.2.1) = ptV (Pt.select a.1 a.2.1 a.2.2.1)) := by kernel_rfl
theorem ok_pSelect : SpecOK prog n_point_Select s_pSelect :=
  mk_ok env_ok mixed spP4_ok FnsOK.nil (by kernel_rfl) (by kernel_rfl) (by kernel_rfl) (notOwn false rfl) (fun a _ => yes (r_pSelect a) rfl)
end Go.Sx

namespace Go.Sx
open Go.Proofs
set_option maxRecDepth 100000

theorem r_pEqual (r : Bool) (a) : run1 E spP1 20 [] 0 noAnn f_point_Equal ((A2 aPt aPt).to a) (meet false boolV r) =
    iteP (El.eq (El.mul a.1.x a.2.1.z) (El.mul a.2.1.x a.1.z)) (boolV (El.eq (El.mul a.1.y a.2.1.z) (El.mul a.2.1.y a.1.z)) = boolV r) (boolV false = boolV r) := by kernel_rfl
def Pt.eq (p q : Pt) : Bool := El.eq (El.mul p.x q.z) (El.mul q.x p.z) && El.eq (El.mul p.y q.z) (El.mul q.y p.z)
def s_pEqual : Spec := mk (A2 aPt aPt) none (fun a => Pt.eq a.1 a.2.1) boolV
theorem ok_pEqual : SpecOK prog n_point_Equal s_pEqual :=
  mk_ok (fuel := 20) (depth := 0) (ann := fun _ => noAnn) env_ok mixed spP1_ok FnsOK.nil (by kernel_rfl) (by kernel_rfl) (by kernel_rfl) (notOwn false rfl) (fun a _ => by
    refine yes (r_pEqual (Pt.eq a.1 a.2.1) a) ?_
    unfold Pt.eq
    refine iteP_intro (fun h => ?_) (fun h => ?_)
    · rw [h, Bool.true_and]
    · rw [h, Bool.false_and])

def baseXL : List Int := [94, 192, 12, 199, 43, 168, 38, 38, 142, 147, 0, 139, 225, 128, 59, 67, 17, 101, 182, 42, 247, 26, 174, 18, 100, 164, 211, 163] ++ [36, 227, 109, 234, 103, 23, 15, 71, 112, 101, 20, 158, 218, 54, 191, 34, 166, 21, 29, 34, 237, 13, 237, 107, 198, 112, 25, 79]
def baseYL : List Int := [20, 250, 48, 242, 91, 121, 8, 152, 173, 200, 215, 78, 44, 19, 189, 253, 196, 57, 124, 230, 28, 255, 211, 58, 215, 194, 160, 5] ++ [30, 156, 120, 135, 64, 152, 163, 108, 115, 115, 234, 75, 98, 199, 201, 86, 55, 32, 118, 136, 36, 188, 182, 110, 113, 70, 63, 105]
def Pt.base : Pt := ⟨El.of baseXL, El.of baseYL, El.int 1⟩
noncomputable def spBase : List (Nat × Spec) := [(n_field_Int, s_Int), (n_field_Of, s_Of)]
theorem spBase_ok : Good prog spBase := .cons ok_Int (.cons ok_Of .nil)
noncomputable def fnsBase : Fns := [(n_point_element, (f_point_element, noAnn))]
theorem fnsBase_ok : FnsOK prog fnsBase := .cons (by kernel_rfl) (by kernel_rfl) .nil
def s_Base : Spec := mk .nil none (fun _ => Pt.base) ptV
theorem r_Base : run1 E spBase 120 fnsBase 1 noAnn f_point_Base (Args.nil.to ()) (meet false ptV Pt.base) = (baseXL.length = 56 ∧ baseYL.length = 56 ∧ ptV Pt.base = ptV Pt.base) := by kernel_rfl
theorem ok_Base : SpecOK prog n_point_Base s_Base :=
  mk_ok env_ok mixed spBase_ok fnsBase_ok (by kernel_rfl) (by kernel_rfl) (by kernel_rfl) (notOwn false rfl) (fun a _ => yes r_Base ⟨rfl, rfl, rfl⟩)

noncomputable def spAff : List (Nat × Spec) := [(n_field_Mul, s_mul), (n_root_Inverse, s_Inverse)]
theorem spAff_ok : Good prog spAff := .cons ok_mul (.cons ok_Inverse .nil)
end Go.Sx

namespace Go.Sx
open Go.Proofs
set_option maxRecDepth 100000

/-! ### comb -/
def sameX (a b : Int) : Int := xor64 (wr .u64 a) (wr .u64 b)
def sameI (a b : Int) : Int := wr .i64 (1 - wr .i64 (shrI .u64 (or64 (sameX a b) (wr .u64 (0 - sameX a b))) 63))
def intV (n : Int) : V := .int .i64 n
def s_Same : Spec := mk (A2 (aInt .i64) (aInt .i64)) none (fun a => sameI a.1 a.2.1) intV
theorem r_Same (a) : run1 E [] 20 [] 0 noAnn f_comb_Same ((A2 (aInt .i64) (aInt .i64)).to a) (meet false intV (sameI a.1 a.2.1)) = (intV (sameI a.1 a.2.1) = intV (sameI a.1 a.2.1)) := by kernel_rfl
theorem ok_Same : SpecOK prog n_comb_Same s_Same :=
  mk_ok env_ok mixed Good.nil FnsOK.nil (by kernel_rfl) (by kernel_rfl) (by kernel_rfl) (notOwn false rfl) (fun a _ => yes (r_Same a) rfl)

def ptsV (l : List Pt) : V := .rs false (.pts l)
def ptsErrV (p : List Pt × Int) : V := .tup [ptsV p.1, .int .i64 p.2]
noncomputable def spDbl : List (Nat × Spec) := [(n_point_Double, s_pDouble)]
theorem spDbl_ok : Good prog spDbl := .cons ok_pDouble .nil
noncomputable def fnsDbl : Fns := [(n_comb_doubled, (f_comb_doubled, noAnn))]
theorem fnsDbl_ok : FnsOK prog fnsDbl := .cons (by kernel_rfl) (by kernel_rfl) .nil
def Pt.dbls (p : Pt) : Nat → Pt
  | 0 => p
  | n + 1 => Pt.double (Pt.dbls p n)
def pow24 (p : Pt) : List Pt × Int := ([p, Pt.dbls p 4], 0)
theorem r_Pow24 (p : Pt) : run1 E spDbl 20 fnsDbl 1 noAnn f_comb_Powers ((A3 aPt (aInt .i64) (aInt .i64)).to (p, 2, 4, ())) (meet false ptsErrV (pow24 p)) = (ptsErrV (pow24 p) = ptsErrV (pow24 p)) := by kernel_rfl
def s_Pow24 : Spec := mk (A3 aPt (aInt .i64) (aInt .i64)) (some fun a => a.2.1 = 2 ∧ a.2.2.1 = 4) (fun a => pow24 a.1) ptsErrV
theorem ok_Pow24 : SpecOK prog n_comb_Powers s_Pow24 :=
  mk_ok (fuel := 20) (depth := 1) (ann := fun _ => noAnn) env_ok mixed spDbl_ok fnsDbl_ok (by kernel_rfl) (by kernel_rfl) (by kernel_rfl) (notOwn false rfl) (fun a h => by
    obtain ⟨p, n, m, ⟨⟩⟩ := a
    obtain ⟨h1, h2⟩ := h _ rfl
    have h1 : n = 2 := h1
    have h2 : m = 4 := h2
    subst h1; subst h2
    exact yes (r_Pow24 p) rfl)
end Go.Sx

namespace Go.Sx
open Go.Proofs
set_option maxRecDepth 100000

/-- A slice of points, or nil. -/
def aPts : Arg (List Pt) where
  is := fun v => match v with | .rs _ (.pts _) => true | .nilsl => true | _ => false
  of := fun v => match v with | .rs _ (.pts l) => l | _ => []
  to := fun l => .rs false (.pts l)
  weak := fun {_ _ v x} hv d => by
    cases v <;> first | (simp at hv; done) | skip
    · cases d; exact .rs0 _ _ _ rfl
    · rename_i fr o
      cases o <;> first | (simp at hv; done) | skip
      cases d with
      | rs _ b off cap h1 h2 h3 => exact .rs _ b off cap h1 h2 h3
      | rs0 _ ao cap h => exact .rs0 _ ao cap h
  back := fun _ => rfl
theorem r_clonePts (p : Pt) (l : List Pt) : run1 E [] 20 [] 0 noAnn f_slices_Clone_point_Point_point_Point ((A1 aPts).to (p :: l, ())) (meet true ptsV (p :: l)) = guard (Nat.ble (0 + (p :: l).length) 268435456) (ptsV (p :: l) = ptsV (p :: l)) := by kernel_rfl
def s_clonePts : Spec := mk (A1 aPts) (some fun a => 0 < a.1.length ∧ a.1.length ≤ 1024) (fun a => a.1) ptsV false true
theorem ok_clonePts : SpecOK prog n_slices_Clone_point_Point_point_Point s_clonePts :=
  mk_ok (fuel := 20) (depth := 0) (ann := fun _ => noAnn) env_ok mixed Good.nil FnsOK.nil (by kernel_rfl) (by kernel_rfl) (by kernel_rfl) (fun _ y => ⟨_, rfl⟩) (fun a h => by
    obtain ⟨l, ⟨⟩⟩ := a
    obtain ⟨h1, h2⟩ := h _ rfl
    cases l with
    | nil => simp at h1
    | cons p l =>
      refine yes (r_clonePts p l) ?_
      have h2 : (p :: l).length ≤ 1024 := h2
      rw [show Nat.ble (0 + (p :: l).length) 268435456 = true from Nat.ble_eq_true_of_le (by omega)]
      exact rfl)

def tab2 (p : Pt) : List Pt := [Pt.identity, Pt.add Pt.identity p, Pt.add Pt.identity (Pt.dbls p 4), Pt.add (Pt.add Pt.identity p) (Pt.dbls p 4)]
def tabErrV (p : List Pt × Int × Int × Int) : V := .tup [.rptr false (.agg [ptsV p.1, .int .i64 p.2.1, .int .i64 p.2.2.1]) 0 0, .int .i64 p.2.2.2]
noncomputable def spNew : List (Nat × Spec) := [(n_point_Identity, s_pIdentity), (n_point_Add, s_pAdd), (n_slices_Clone_point_Point_point_Point, s_clonePts), (n_comb_Powers, s_Pow24)]
theorem spNew_ok : Good prog spNew := .cons ok_pIdentity (.cons ok_pAdd (.cons ok_clonePts (.cons ok_Pow24 .nil)))
noncomputable def fnsNew : Fns := [(n_comb_New_1, (f_comb_New_1, noAnn))]
theorem fnsNew_ok : FnsOK prog fnsNew := .cons (by kernel_rfl) (by kernel_rfl) .nil
def cR (n : Nat) (p : Prop) : Prop := (0 < n ∧ n ≤ 1024) ∧ p
def new21 (p : Pt) : List Pt × Int × Int × Int := (tab2 p, 2, 1, 0)
theorem r_New21 (p : Pt) : run1 E spNew 20 fnsNew 1 noAnn f_comb_New ((A3 aPt (aInt .i64) (aInt .i64)).to (p, 2, 1, ())) (meet false tabErrV (new21 p)) =
    (((2 : Int) = 2 ∧ (4 : Int) = 4) ∧ cR 1 (cR 2 (tabErrV (new21 p) = tabErrV (new21 p)))) := by kernel_rfl
def s_New21 : Spec := mk (A3 aPt (aInt .i64) (aInt .i64)) (some fun a => a.2.1 = 2 ∧ a.2.2.1 = 1) (fun a => new21 a.1) tabErrV
theorem ok_New21 : SpecOK prog n_comb_New s_New21 :=
  mk_ok (fuel := 20) (depth := 1) (ann := fun _ => noAnn) env_ok mixed spNew_ok fnsNew_ok (by kernel_rfl) (by kernel_rfl) (by kernel_rfl) (notOwn false rfl) (fun a h => by
    obtain ⟨p, n, m, ⟨⟩⟩ := a
    obtain ⟨h1, h2⟩ := h _ rfl
    have h1 : n = 2 := h1
    have h2 : m = 1 := h2
    subst h1; subst h2
    exact yes (r_New21 p) ⟨⟨rfl, rfl⟩, ⟨by omega, by omega⟩, ⟨by omega, by omega⟩, rfl⟩)

end Go.Sx

namespace Go.Sx
open Go.Proofs
set_option maxRecDepth 100000

def lookN (i : Int) : Nat → List Pt → Pt → Pt
  | _, [], o => o
  | k, p :: r, o => lookN i (k + 1) r (Pt.select (sameI (k : Int) i) o p)
def lookA (i : Int) : Pt := lookN i 0 (tab2 Pt.base) Pt.identity
noncomputable def spA11 : List (Nat × Spec) := [(n_point_Identity, s_pIdentity), (n_point_Base, s_Base), (n_point_Add, s_pAdd), (n_point_Equal, s_pEqual), (n_point_Select, s_pSelect), (n_comb_Same, s_Same), (n_comb_New, s_New21)]
theorem spA11_ok : Good prog spA11 := .cons ok_pIdentity (.cons ok_Base (.cons ok_pAdd (.cons ok_pEqual (.cons ok_pSelect (.cons ok_Same (.cons ok_New21 .nil))))))
noncomputable def fnsA11 : Fns := [(n_comb_Table_Len, (f_comb_Table_Len, noAnn)), (n_comb_Table_Look, (f_comb_Table_Look, noAnn)), (n_comb_Look, (f_comb_Look, noAnn))]
theorem fnsA11_ok : FnsOK prog fnsA11 := .cons (by kernel_rfl) (by kernel_rfl) (.cons (by kernel_rfl) (by kernel_rfl) (.cons (by kernel_rfl) (by kernel_rfl) .nil))
theorem r_awake11 : run1 E spA11 20 fnsA11 2 noAnn f_law11_awake (Args.nil.to ()) (meet false boolV true) =
    (((2 : Int) = 2 ∧ (1 : Int) = 1) ∧ boolV true = boolV true) := by kernel_rfl
def s_awake11 : Spec := mk .nil none (fun _ => true) boolV
theorem ok_awake11 : SpecOK prog n_law11_awake s_awake11 :=
  mk_ok (fuel := 20) (depth := 2) (ann := fun _ => noAnn) env_ok mixed spA11_ok fnsA11_ok (by kernel_rfl) (by kernel_rfl) (by kernel_rfl) (notOwn false rfl) (fun _ _ => yes r_awake11 ⟨⟨rfl, rfl⟩, rfl⟩)
end Go.Sx

namespace Go.Sx

/-! ### Powers, the order of a number, primes -/
def Pr (n : Nat) : Prop := 1 < n ∧ ∀ m, m ∣ n → m = 1 ∨ m = n

theorem pr_coprime {q m : Nat} (hq : Pr q) (h : ¬ q ∣ m) : Nat.Coprime q m := by
  rcases hq.2 (Nat.gcd q m) (Nat.gcd_dvd_left q m) with h1 | h1
  · exact h1
  · exact absurd (h1 ▸ Nat.gcd_dvd_right q m) h

def prodL : List Nat → Nat
  | [] => 1
  | a :: r => a * prodL r

theorem some_prime : ∀ {fs : List Nat} {m : Nat}, (∀ q ∈ fs, Pr q) → m ≠ 1 → m ∣ prodL fs → ∃ q ∈ fs, q ∣ m
  | [], m, _, h1, hd => absurd (Nat.dvd_one.1 hd) h1
  | q :: r, m, hp, h1, hd => by
    by_cases h : q ∣ m
    · exact ⟨q, List.mem_cons_self .., h⟩
    · have hc : Nat.Coprime m q := (pr_coprime (hp q (List.mem_cons_self ..)) h).symm
      obtain ⟨t, ht, hm⟩ := some_prime (fun q hq => hp q (List.mem_cons_of_mem _ hq)) h1 (hc.dvd_of_dvd_mul_left hd)
      exact ⟨t, List.mem_cons_of_mem _ ht, hm⟩

theorem dvd_prodL : ∀ {fs : List Nat} {q : Nat}, q ∈ fs → q ∣ prodL fs
  | a :: r, q, h => by
    rcases List.mem_cons.1 h with rfl | h
    · exact Nat.dvd_mul_right _ _
    · exact Nat.dvd_trans (dvd_prodL h) (Nat.dvd_mul_left _ _)

theorem pow_one_mod {g n a b : Nat} (h : g ^ a % n = 1 % n) : (g ^ (a * b)) % n = 1 % n := by
  induction b with
  | zero => simp
  | succ b ih => rw [Nat.mul_succ, Nat.pow_add, Nat.mul_mod, ih, h, ← Nat.mul_mod]

/-- What powers are 1 goes on by gcd. -/
theorem pow_gcd {g n N : Nat} (hN : 0 < N) (hg : g ^ N % n = 1 % n) : ∀ (a b : Nat), g ^ a % n = 1 % n → g ^ b % n = 1 % n → g ^ (Nat.gcd a b) % n = 1 % n := by
  have sub : ∀ a b, g ^ a % n = 1 % n → g ^ (a + b) % n = 1 % n → g ^ b % n = 1 % n := by
    intro a b h1 h2
    rw [Nat.pow_add, Nat.mul_mod, h1, ← Nat.mul_mod, Nat.one_mul] at h2
    exact h2
  intro a
  induction a using Nat.strongRecOn with
  | ind a ih =>
    intro b h1 h2
    rcases Nat.eq_zero_or_pos a with rfl | ha
    · simpa using h2
    · rw [Nat.gcd_rec]
      refine ih (b % a) (Nat.mod_lt _ ha) a ?_ h1
      refine sub (a * (b / a)) (b % a) (pow_one_mod h1) ?_
      rw [Nat.div_add_mod]; exact h2

theorem no_inj : ∀ (N : Nat) (f : Nat → Nat), (∀ i, i < N + 1 → f i < N) → ∃ i j, i < j ∧ j < N + 1 ∧ f i = f j
  | 0, f, h => absurd (h 0 (by omega)) (by omega)
  | N + 1, f, h => by
    by_cases he : ∃ i, i < N + 1 ∧ f i = f (N + 1)
    · obtain ⟨i, hi, e⟩ := he
      exact ⟨i, N + 1, hi, by omega, e⟩
    · have hne : ∀ i, i < N + 1 → f i ≠ f (N + 1) := fun i hi e => he ⟨i, hi, e⟩
      obtain ⟨i, j, hij, hj, e⟩ := no_inj N (fun i => if f i = N then f (N + 1) else f i) (fun i hi => by
        have h1 := h i (by omega)
        have h2 := h (N + 1) (by omega)
        have h3 := hne i hi
        show (if f i = N then f (N + 1) else f i) < N
        split <;> omega)
      refine ⟨i, j, hij, by omega, ?_⟩
      have h3 := hne i (by omega)
      have h4 := hne j (by omega)
      have e : (if f i = N then f (N + 1) else f i) = (if f j = N then f (N + 1) else f j) := e
      split at e <;> split at e
      · omega
      · exact absurd e.symm h4
      · exact absurd e h3
      · exact e

theorem onto {N : Nat} {f : Nat → Nat} (h : ∀ i, i < N → f i < N) (hi : ∀ i j, i < j → j < N → f i ≠ f j) {y : Nat} (hy : y < N) : ∃ i, i < N ∧ f i = y := by
  cases N with
  | zero => omega
  | succ N =>
    by_cases he : ∃ i, i < N + 1 ∧ f i = y
    · exact he
    · have hne : ∀ i, i < N + 1 → f i ≠ y := fun i hi e => he ⟨i, hi, e⟩
      obtain ⟨i, j, hij, hj, e⟩ := no_inj N (fun i => if f i = N then y else f i) (fun i hi => by
        have h1 := h i hi
        have h3 := hne i hi
        show (if f i = N then y else f i) < N
        split <;> omega)
      exfalso
      have h3 := hne i (by omega)
      have h4 := hne j (by omega)
      have e : (if f i = N then y else f i) = (if f j = N then y else f j) := e
      refine hi i j hij hj ?_
      split at e <;> split at e
      · omega
      · exact absurd e.symm h4
      · exact absurd e h3
      · exact e

theorem pow_mod_ne {g n N : Nat} (hn : 1 < n) (hN : 0 < N) (hg : g ^ N % n = 1) (i : Nat) : g ^ i % n ≠ 0 := by
  intro h
  have h1 : g ^ (N * (i + 1)) % n = 1 := by
    have := pow_one_mod (b := i + 1) (g := g) (n := n) (a := N) (by rw [hg, Nat.mod_eq_of_lt hn])
    rwa [Nat.mod_eq_of_lt hn] at this
  have h2 : N * (i + 1) = i + (N * (i + 1) - i) := by
    have : i + 1 ≤ N * (i + 1) := Nat.le_mul_of_pos_left _ hN
    omega
  rw [h2, Nat.pow_add, Nat.mul_mod, h] at h1
  simp at h1

/-- Lucas: g's powers are all numbers from 1 to n - 1. -/
theorem lucas {n g : Nat} {fs : List Nat} (hn : 2 < n) (hp : ∀ q ∈ fs, Pr q) (hprod : prodL fs = n - 1) (h1 : g ^ (n - 1) % n = 1) (h2 : ∀ q ∈ fs, g ^ ((n - 1) / q) % n ≠ 1) :
    Pr n ∧ ∀ x, 0 < x → x < n → ∃ k, k < n - 1 ∧ g ^ k % n = x := by
  have hm1 : 1 % n = 1 := Nat.mod_eq_of_lt (by omega)
  have ord : ∀ k, 0 < k → g ^ k % n = 1 → n - 1 ≤ k := by
    intro k hk hgk
    have hd := pow_gcd (g := g) (n := n) (N := n - 1) (by omega) (by rw [h1, hm1]) k (n - 1) (by rw [hgk, hm1]) (by rw [h1, hm1])
    rw [hm1] at hd
    by_cases he : (n - 1) / Nat.gcd k (n - 1) = 1
    · have hdvd := Nat.gcd_dvd_right k (n - 1)
      have : n - 1 = Nat.gcd k (n - 1) := by
        have := Nat.div_mul_cancel hdvd
        rw [he] at this; omega
      exact this ▸ Nat.gcd_le_left _ hk
    · exfalso
      have hdvd := Nat.gcd_dvd_right k (n - 1)
      obtain ⟨q, hq, hqd⟩ := some_prime hp he (by rw [hprod]; exact Nat.div_dvd_of_dvd hdvd)
      refine h2 q hq ?_
      obtain ⟨c, hc⟩ := hqd
      have h4 := Nat.div_mul_cancel hdvd
      rw [hc] at h4
      have h3 : n - 1 = q * (Nat.gcd k (n - 1) * c) := h4.symm.trans (by rw [Nat.mul_assoc, Nat.mul_comm c])
      have hq0 : 0 < q := Nat.lt_trans Nat.zero_lt_one (hp q hq).1
      have h5 : (n - 1) / q = Nat.gcd k (n - 1) * c := Nat.div_eq_of_eq_mul_right hq0 h3
      rw [h5]
      have := pow_one_mod (b := c) (g := g) (n := n) (a := Nat.gcd k (n - 1)) (by rw [hd, hm1])
      rw [this, hm1]
  have inj : ∀ i j, i < j → j < n - 1 → g ^ i % n ≠ g ^ j % n := by
    intro i j hij hj e
    have h3 : g ^ (i + (n - 1 - i)) % n = 1 := by rw [show i + (n - 1 - i) = n - 1 by omega]; exact h1
    have h4 : g ^ (j + (n - 1 - i)) % n = 1 := by
      rw [Nat.pow_add, Nat.mul_mod, ← e, ← Nat.mul_mod, ← Nat.pow_add]; exact h3
    have h5 : j + (n - 1 - i) = (j - i) + (n - 1) := by omega
    rw [h5, Nat.pow_add, Nat.mul_mod, h1, Nat.mul_one, Nat.mod_mod] at h4
    have := ord (j - i) (by omega) h4
    omega
  have sur : ∀ x, 0 < x → x < n → ∃ k, k < n - 1 ∧ g ^ k % n = x := by
    intro x h0 hx
    obtain ⟨i, hi, e⟩ := onto (N := n - 1) (f := fun i => g ^ i % n - 1) (fun i hi => by
      have h3 := Nat.mod_lt (g ^ i) (show 0 < n by omega)
      show g ^ i % n - 1 < n - 1
      omega) (fun i j hij hj => by
      have h3 := inj i j hij hj
      have h4 := pow_mod_ne (show 1 < n by omega) (show 0 < n - 1 by omega) h1 i
      have h5 := pow_mod_ne (show 1 < n by omega) (show 0 < n - 1 by omega) h1 j
      show g ^ i % n - 1 ≠ g ^ j % n - 1
      omega) (y := x - 1) (by omega)
    refine ⟨i, hi, ?_⟩
    have h4 := pow_mod_ne (show 1 < n by omega) (show 0 < n - 1 by omega) h1 i
    have e : g ^ i % n - 1 = x - 1 := e
    omega
  refine ⟨⟨by omega, fun m hm => ?_⟩, sur⟩
  by_cases hmn : m = n
  · exact .inr hmn
  · left
    have hm0 : 0 < m := Nat.pos_of_dvd_of_pos hm (by omega)
    have hml : m < n := by have := Nat.le_of_dvd (by omega) hm; omega
    obtain ⟨k, hk, e⟩ := sur m hm0 hml
    have h3 : g ^ (k + (n - 1 - k)) % n = 1 := by rw [show k + (n - 1 - k) = n - 1 by omega]; exact h1
    rw [Nat.pow_add, Nat.mul_mod, e] at h3
    have h4 : m ∣ (m * (g ^ (n - 1 - k) % n)) % n := (Nat.dvd_mod_iff hm).2 (Nat.dvd_mul_right _ _)
    rw [h3] at h4
    exact Nat.dvd_one.1 h4

/-! ### Powers, quickly -/
def powA (m : Nat) : Nat → Nat → Nat → Nat → Nat
  | 0, _, _, acc => acc
  | f + 1, b, e, acc => powA m f (b * b % m) (e / 2) (bif Nat.beq (e % 2) 1 then acc * b % m else acc)
def powM (b e m : Nat) : Nat := powA m (Nat.log2 e + 1) b e 1 % m

theorem powA_eq (m : Nat) : ∀ (f b e acc : Nat), e < 2 ^ f → powA m f b e acc % m = acc * b ^ e % m
  | 0, b, e, acc, h => by
    have : e = 0 := by simpa using h
    subst this; simp [powA]
  | f + 1, b, e, acc, h => by
    have h1 : e / 2 < 2 ^ f := by rw [Nat.pow_succ] at h; omega
    unfold powA
    rw [powA_eq m f _ _ _ h1]
    have hb : (b * b % m) ^ (e / 2) % m = b ^ (2 * (e / 2)) % m := by
      rw [← Nat.pow_mod, Nat.pow_mul, Nat.pow_two]
    cases he : Nat.beq (e % 2) 1
    · have : e % 2 = 0 := by
        have := Nat.ne_of_beq_eq_false he
        omega
      simp only [cond_false]
      rw [Nat.mul_mod, hb, ← Nat.mul_mod, show 2 * (e / 2) = e by omega]
    · have := Nat.eq_of_beq_eq_true he
      simp only [cond_true]
      rw [Nat.mul_mod, hb, Nat.mod_mod, ← Nat.mul_mod, Nat.mul_assoc, ← Nat.pow_succ', show (2 * (e / 2)).succ = e by omega]

theorem powM_eq (b e m : Nat) : powM b e m = b ^ e % m := by
  unfold powM
  rw [powA_eq m _ b e 1 Nat.lt_log2_self, Nat.one_mul]

def lucasB (n g : Nat) (fs : List Nat) : Bool :=
  Nat.blt 2 n && Nat.beq (prodL fs) (n - 1) && Nat.beq (powM g (n - 1) n) 1 && fs.all (fun q => !Nat.beq (powM g ((n - 1) / q) n) 1)
theorem lucasB_ok {n g : Nat} {fs : List Nat} (h : lucasB n g fs = true) (hp : ∀ q ∈ fs, Pr q) : Pr n ∧ ∀ x, 0 < x → x < n → ∃ k, k < n - 1 ∧ g ^ k % n = x := by
  unfold lucasB at h
  simp only [Bool.and_eq_true, List.all_eq_true] at h
  obtain ⟨⟨⟨h1, h2⟩, h3⟩, h4⟩ := h
  refine lucas (g := g) (fs := fs) (by simpa [Nat.blt_eq] using h1) hp (Nat.eq_of_beq_eq_true h2) ?_ ?_
  · rw [← powM_eq]; exact Nat.eq_of_beq_eq_true h3
  · intro q hq e
    have := h4 q hq
    rw [powM_eq, e] at this
    simp at this

/-- Small primes, by trial. -/
def trial (n : Nat) : Bool := Nat.blt 1 n && (List.range n).all (fun m => Nat.ble m 1 || !Nat.beq (n % m) 0)
theorem trial_ok {n : Nat} (h : trial n = true) : Pr n := by
  unfold trial at h
  simp only [Bool.and_eq_true, List.all_eq_true] at h
  have h1 : 1 < n := by simpa [Nat.blt_eq] using h.1
  refine ⟨h1, fun m hm => ?_⟩
  by_cases hmn : m = n
  · exact .inr hmn
  · left
    have hml : m < n := by have := Nat.le_of_dvd (by omega) hm; omega
    have hm0 : 0 < m := Nat.pos_of_dvd_of_pos hm (by omega)
    have h2 := h.2 m (List.mem_range.2 hml)
    have h3 : n % m = 0 := Nat.mod_eq_zero_of_dvd hm
    rw [h3] at h2
    simp only [Bool.or_eq_true] at h2
    rcases h2 with h2 | h2
    · have := Nat.le_of_ble_eq_true h2; omega
    · simp at h2
end Go.Sx

namespace Go.Sx
theorem pnil : ∀ q ∈ ([] : List Nat), Pr q := fun q h => nomatch h
theorem pcons {q : Nat} {r : List Nat} (h : Pr q) (k : ∀ x ∈ r, Pr x) : ∀ x ∈ q :: r, Pr x := fun x hx => by
  rcases List.mem_cons.1 hx with rfl | hx
  · exact h
  · exact k x hx
theorem pr_2 : Pr 2 := trial_ok (by decide +kernel)
theorem pr_5 : Pr 5 := trial_ok (by decide +kernel)
theorem pr_641 : Pr 641 := (lucasB_ok (n := 641) (g := 3) (fs := [2, 2, 2, 2, 2, 2, 2, 5]) (by decide +kernel) (pcons pr_2 (pcons pr_2 (pcons pr_2 (pcons pr_2 (pcons pr_2 (pcons pr_2 (pcons pr_2 (pcons pr_5 pnil))))))))).1
theorem pr_41 : Pr 41 := trial_ok (by decide +kernel)
theorem pr_223 : Pr 223 := trial_ok (by decide +kernel)
theorem pr_18287 : Pr 18287 := (lucasB_ok (n := 18287) (g := 5) (fs := [2, 41, 223]) (by decide +kernel) (pcons pr_2 (pcons pr_41 (pcons pr_223 pnil)))).1
theorem pr_3 : Pr 3 := trial_ok (by decide +kernel)
theorem pr_7 : Pr 7 := trial_ok (by decide +kernel)
theorem pr_196687 : Pr 196687 := (lucasB_ok (n := 196687) (g := 3) (fs := [2, 3, 3, 7, 7, 223]) (by decide +kernel) (pcons pr_2 (pcons pr_3 (pcons pr_3 (pcons pr_7 (pcons pr_7 (pcons pr_223 pnil))))))).1
theorem pr_137 : Pr 137 := trial_ok (by decide +kernel)
theorem pr_1466449 : Pr 1466449 := (lucasB_ok (n := 1466449) (g := 7) (fs := [2, 2, 2, 2, 3, 137, 223]) (by decide +kernel) (pcons pr_2 (pcons pr_2 (pcons pr_2 (pcons pr_2 (pcons pr_3 (pcons pr_137 (pcons pr_223 pnil)))))))).1
theorem pr_109 : Pr 109 := trial_ok (by decide +kernel)
theorem pr_2916841 : Pr 2916841 := (lucasB_ok (n := 2916841) (g := 13) (fs := [2, 2, 2, 3, 5, 109, 223]) (by decide +kernel) (pcons pr_2 (pcons pr_2 (pcons pr_2 (pcons pr_3 (pcons pr_5 (pcons pr_109 (pcons pr_223 pnil)))))))).1
theorem pr_11 : Pr 11 := trial_ok (by decide +kernel)
theorem pr_727 : Pr 727 := (lucasB_ok (n := 727) (g := 5) (fs := [2, 3, 11, 11]) (by decide +kernel) (pcons pr_2 (pcons pr_3 (pcons pr_11 (pcons pr_11 pnil))))).1
theorem pr_17449 : Pr 17449 := (lucasB_ok (n := 17449) (g := 14) (fs := [2, 2, 2, 3, 727]) (by decide +kernel) (pcons pr_2 (pcons pr_2 (pcons pr_2 (pcons pr_3 (pcons pr_727 pnil)))))).1
theorem pr_6700417 : Pr 6700417 := (lucasB_ok (n := 6700417) (g := 5) (fs := [2, 2, 2, 2, 2, 2, 2, 3, 17449]) (by decide +kernel) (pcons pr_2 (pcons pr_2 (pcons pr_2 (pcons pr_2 (pcons pr_2 (pcons pr_2 (pcons pr_2 (pcons pr_3 (pcons pr_17449 pnil)))))))))).1
theorem pr_29 : Pr 29 := trial_ok (by decide +kernel)
theorem pr_31 : Pr 31 := trial_ok (by decide +kernel)
theorem pr_229 : Pr 229 := trial_ok (by decide +kernel)
theorem pr_411743 : Pr 411743 := (lucasB_ok (n := 411743) (g := 10) (fs := [2, 29, 31, 229]) (by decide +kernel) (pcons pr_2 (pcons pr_29 (pcons pr_31 (pcons pr_229 pnil))))).1
theorem pr_151 : Pr 151 := trial_ok (by decide +kernel)
theorem pr_23 : Pr 23 := trial_ok (by decide +kernel)
theorem pr_59 : Pr 59 := trial_ok (by decide +kernel)
theorem pr_37 : Pr 37 := trial_ok (by decide +kernel)
theorem pr_593 : Pr 593 := (lucasB_ok (n := 593) (g := 3) (fs := [2, 2, 2, 2, 37]) (by decide +kernel) (pcons pr_2 (pcons pr_2 (pcons pr_2 (pcons pr_2 (pcons pr_37 pnil)))))).1
theorem pr_1609403 : Pr 1609403 := (lucasB_ok (n := 1609403) (g := 2) (fs := [2, 23, 59, 593]) (by decide +kernel) (pcons pr_2 (pcons pr_23 (pcons pr_59 (pcons pr_593 pnil))))).1
theorem pr_3402277943 : Pr 3402277943 := (lucasB_ok (n := 3402277943) (g := 5) (fs := [2, 7, 151, 1609403]) (by decide +kernel) (pcons pr_2 (pcons pr_7 (pcons pr_151 (pcons pr_1609403 pnil))))).1
theorem pr_1469495262398780123809 : Pr 1469495262398780123809 := (lucasB_ok (n := 1469495262398780123809) (g := 17) (fs := [2, 2, 2, 2, 2, 3, 7, 7, 223, 411743, 3402277943]) (by decide +kernel) (pcons pr_2 (pcons pr_2 (pcons pr_2 (pcons pr_2 (pcons pr_2 (pcons pr_3 (pcons pr_7 (pcons pr_7 (pcons pr_223 (pcons pr_411743 (pcons pr_3402277943 pnil)))))))))))).1
theorem pr_2531 : Pr 2531 := (lucasB_ok (n := 2531) (g := 2) (fs := [2, 5, 11, 23]) (by decide +kernel) (pcons pr_2 (pcons pr_5 (pcons pr_11 (pcons pr_23 pnil))))).1
theorem pr_67 : Pr 67 := trial_ok (by decide +kernel)
theorem pr_197 : Pr 197 := trial_ok (by decide +kernel)
theorem pr_271 : Pr 271 := trial_ok (by decide +kernel)
theorem pr_43 : Pr 43 := trial_ok (by decide +kernel)
theorem pr_1979 : Pr 1979 := (lucasB_ok (n := 1979) (g := 2) (fs := [2, 23, 43]) (by decide +kernel) (pcons pr_2 (pcons pr_23 (pcons pr_43 pnil)))).1
theorem pr_47497 : Pr 47497 := (lucasB_ok (n := 47497) (g := 5) (fs := [2, 2, 2, 3, 1979]) (by decide +kernel) (pcons pr_2 (pcons pr_2 (pcons pr_2 (pcons pr_3 (pcons pr_1979 pnil)))))).1
theorem pr_189989 : Pr 189989 := (lucasB_ok (n := 189989) (g := 2) (fs := [2, 2, 47497]) (by decide +kernel) (pcons pr_2 (pcons pr_2 (pcons pr_47497 pnil)))).1
theorem pr_379979 : Pr 379979 := (lucasB_ok (n := 379979) (g := 2) (fs := [2, 189989]) (by decide +kernel) (pcons pr_2 (pcons pr_189989 pnil))).1
theorem pr_97859369123353 : Pr 97859369123353 := (lucasB_ok (n := 97859369123353) (g := 5) (fs := [2, 2, 2, 3, 3, 67, 197, 271, 379979]) (by decide +kernel) (pcons pr_2 (pcons pr_2 (pcons pr_2 (pcons pr_3 (pcons pr_3 (pcons pr_67 (pcons pr_197 (pcons pr_271 (pcons pr_379979 pnil)))))))))).1
theorem pr_167773885276849215533569 : Pr 167773885276849215533569 := (lucasB_ok (n := 167773885276849215533569) (g := 17) (fs := [2, 2, 2, 2, 2, 2, 2, 2, 2, 3, 3, 3, 7, 7, 2531, 97859369123353]) (by decide +kernel) (pcons pr_2 (pcons pr_2 (pcons pr_2 (pcons pr_2 (pcons pr_2 (pcons pr_2 (pcons pr_2 (pcons pr_2 (pcons pr_2 (pcons pr_3 (pcons pr_3 (pcons pr_3 (pcons pr_7 (pcons pr_7 (pcons pr_2531 (pcons pr_97859369123353 pnil))))))))))))))))).1
theorem pr_13 : Pr 13 := trial_ok (by decide +kernel)
theorem pr_463 : Pr 463 := trial_ok (by decide +kernel)
theorem pr_17 : Pr 17 := trial_ok (by decide +kernel)
theorem pr_613 : Pr 613 := (lucasB_ok (n := 613) (g := 2) (fs := [2, 2, 3, 3, 17]) (by decide +kernel) (pcons pr_2 (pcons pr_2 (pcons pr_3 (pcons pr_3 (pcons pr_17 pnil)))))).1
theorem pr_217003 : Pr 217003 := (lucasB_ok (n := 217003) (g := 3) (fs := [2, 3, 59, 613]) (by decide +kernel) (pcons pr_2 (pcons pr_3 (pcons pr_59 (pcons pr_613 pnil))))).1
theorem pr_1764234391 : Pr 1764234391 := (lucasB_ok (n := 1764234391) (g := 3) (fs := [2, 3, 5, 271, 217003]) (by decide +kernel) (pcons pr_2 (pcons pr_3 (pcons pr_5 (pcons pr_271 (pcons pr_217003 pnil)))))).1
theorem pr_34741861125639557 : Pr 34741861125639557 := (lucasB_ok (n := 34741861125639557) (g := 13) (fs := [2, 2, 7, 7, 7, 31, 463, 1764234391]) (by decide +kernel) (pcons pr_2 (pcons pr_2 (pcons pr_7 (pcons pr_7 (pcons pr_7 (pcons pr_31 (pcons pr_463 (pcons pr_1764234391 pnil))))))))).1
theorem pr_36131535570665139281 : Pr 36131535570665139281 := (lucasB_ok (n := 36131535570665139281) (g := 3) (fs := [2, 2, 2, 2, 5, 13, 34741861125639557]) (by decide +kernel) (pcons pr_2 (pcons pr_2 (pcons pr_2 (pcons pr_2 (pcons pr_5 (pcons pr_13 (pcons pr_34741861125639557 pnil)))))))).1
theorem pr_596242599987116128415063 : Pr 596242599987116128415063 := (lucasB_ok (n := 596242599987116128415063) (g := 5) (fs := [2, 37, 223, 36131535570665139281]) (by decide +kernel) (pcons pr_2 (pcons pr_37 (pcons pr_223 (pcons pr_36131535570665139281 pnil))))).1
theorem pr_443 : Pr 443 := trial_ok (by decide +kernel)
theorem pr_1481 : Pr 1481 := (lucasB_ok (n := 1481) (g := 3) (fs := [2, 2, 2, 5, 37]) (by decide +kernel) (pcons pr_2 (pcons pr_2 (pcons pr_2 (pcons pr_5 (pcons pr_37 pnil)))))).1
theorem pr_2963 : Pr 2963 := (lucasB_ok (n := 2963) (g := 2) (fs := [2, 1481]) (by decide +kernel) (pcons pr_2 (pcons pr_1481 pnil))).1
theorem pr_36753053 : Pr 36753053 := (lucasB_ok (n := 36753053) (g := 2) (fs := [2, 2, 7, 443, 2963]) (by decide +kernel) (pcons pr_2 (pcons pr_2 (pcons pr_7 (pcons pr_443 (pcons pr_2963 pnil)))))).1
theorem pr_149 : Pr 149 := trial_ok (by decide +kernel)
theorem pr_2683 : Pr 2683 := (lucasB_ok (n := 2683) (g := 2) (fs := [2, 3, 3, 149]) (by decide +kernel) (pcons pr_2 (pcons pr_3 (pcons pr_3 (pcons pr_149 pnil))))).1
theorem pr_2437 : Pr 2437 := (lucasB_ok (n := 2437) (g := 2) (fs := [2, 2, 3, 7, 29]) (by decide +kernel) (pcons pr_2 (pcons pr_2 (pcons pr_3 (pcons pr_7 (pcons pr_29 pnil)))))).1
theorem pr_9749 : Pr 9749 := (lucasB_ok (n := 9749) (g := 2) (fs := [2, 2, 2437]) (by decide +kernel) (pcons pr_2 (pcons pr_2 (pcons pr_2437 pnil)))).1
theorem pr_116989 : Pr 116989 := (lucasB_ok (n := 116989) (g := 10) (fs := [2, 2, 3, 9749]) (by decide +kernel) (pcons pr_2 (pcons pr_2 (pcons pr_3 (pcons pr_9749 pnil))))).1
theorem pr_1255525949 : Pr 1255525949 := (lucasB_ok (n := 1255525949) (g := 2) (fs := [2, 2, 2683, 116989]) (by decide +kernel) (pcons pr_2 (pcons pr_2 (pcons pr_2683 (pcons pr_116989 pnil))))).1
theorem pr_19 : Pr 19 := trial_ok (by decide +kernel)
theorem pr_61 : Pr 61 := trial_ok (by decide +kernel)
theorem pr_1549 : Pr 1549 := (lucasB_ok (n := 1549) (g := 2) (fs := [2, 2, 3, 3, 43]) (by decide +kernel) (pcons pr_2 (pcons pr_2 (pcons pr_3 (pcons pr_3 (pcons pr_43 pnil)))))).1
theorem pr_6197 : Pr 6197 := (lucasB_ok (n := 6197) (g := 2) (fs := [2, 2, 1549]) (by decide +kernel) (pcons pr_2 (pcons pr_2 (pcons pr_1549 pnil)))).1
theorem pr_1335912079 : Pr 1335912079 := (lucasB_ok (n := 1335912079) (g := 6) (fs := [2, 3, 19, 31, 61, 6197]) (by decide +kernel) (pcons pr_2 (pcons pr_3 (pcons pr_19 (pcons pr_31 (pcons pr_61 (pcons pr_6197 pnil))))))).1
theorem pr_32061889897 : Pr 32061889897 := (lucasB_ok (n := 32061889897) (g := 10) (fs := [2, 2, 2, 3, 1335912079]) (by decide +kernel) (pcons pr_2 (pcons pr_2 (pcons pr_2 (pcons pr_3 (pcons pr_1335912079 pnil)))))).1
theorem pr_25136521679249 : Pr 25136521679249 := (lucasB_ok (n := 25136521679249) (g := 3) (fs := [2, 2, 2, 2, 7, 7, 32061889897]) (by decide +kernel) (pcons pr_2 (pcons pr_2 (pcons pr_2 (pcons pr_2 (pcons pr_7 (pcons pr_7 (pcons pr_32061889897 pnil)))))))).1
theorem pr_37414057161322375957408148834323969 : Pr 37414057161322375957408148834323969 := (lucasB_ok (n := 37414057161322375957408148834323969) (g := 23) (fs := [2, 2, 2, 2, 2, 2, 2, 2, 2, 3, 3, 7, 36753053, 1255525949, 25136521679249]) (by decide +kernel) (pcons pr_2 (pcons pr_2 (pcons pr_2 (pcons pr_2 (pcons pr_2 (pcons pr_2 (pcons pr_2 (pcons pr_2 (pcons pr_2 (pcons pr_3 (pcons pr_3 (pcons pr_7 (pcons pr_36753053 (pcons pr_1255525949 (pcons pr_25136521679249 pnil)))))))))))))))).1
def pp : Nat := 726838724295606890549323807888004534353641360687318060281490199180612328166730772686396383698676545930088884461843637361053498018365439
theorem lucas_p : Pr 726838724295606890549323807888004534353641360687318060281490199180612328166730772686396383698676545930088884461843637361053498018365439 ∧ ∀ x, 0 < x → x < 726838724295606890549323807888004534353641360687318060281490199180612328166730772686396383698676545930088884461843637361053498018365439 → ∃ k, k < 726838724295606890549323807888004534353641360687318060281490199180612328166730772686396383698676545930088884461843637361053498018365439 - 1 ∧ 7 ^ k % 726838724295606890549323807888004534353641360687318060281490199180612328166730772686396383698676545930088884461843637361053498018365439 = x := lucasB_ok (n := 726838724295606890549323807888004534353641360687318060281490199180612328166730772686396383698676545930088884461843637361053498018365439) (g := 7) (fs := [2, 641, 18287, 196687, 1466449, 2916841, 6700417, 1469495262398780123809, 167773885276849215533569, 596242599987116128415063, 37414057161322375957408148834323969]) (by decide +kernel) (pcons pr_2 (pcons pr_641 (pcons pr_18287 (pcons pr_196687 (pcons pr_1466449 (pcons pr_2916841 (pcons pr_6700417 (pcons pr_1469495262398780123809 (pcons pr_167773885276849215533569 (pcons pr_596242599987116128415063 (pcons pr_37414057161322375957408148834323969 pnil)))))))))))
end Go.Sx

namespace Go.Sx
/-- p. -/
abbrev PP : Nat := 726838724295606890549323807888004534353641360687318060281490199180612328166730772686396383698676545930088884461843637361053498018365439
abbrev Fp := Fin PP

def fpow (x : Fp) : Nat → Fp
  | 0 => 1
  | n + 1 => fpow x n * x

theorem mul_val (x y : Fp) : (x * y).val = x.val * y.val % PP := Fin.val_mul x y
theorem fpow_val (x : Fp) : ∀ n, (fpow x n).val = x.val ^ n % PP
  | 0 => rfl
  | n + 1 => by rw [fpow, mul_val, fpow_val x n, Nat.pow_succ, Nat.mod_mul_mod]
theorem fpow_add (x : Fp) (m : Nat) : ∀ n, fpow x (m + n) = fpow x m * fpow x n
  | 0 => by show fpow x m = fpow x m * 1; grobner
  | n + 1 => by rw [← Nat.add_assoc, fpow, fpow_add x m n, fpow]; grobner
theorem fpow_mul (x : Fp) (m : Nat) : ∀ n, fpow x (m * n) = fpow (fpow x m) n
  | 0 => by simp [fpow]
  | n + 1 => by rw [Nat.mul_succ, fpow_add, fpow_mul x m n, fpow]
theorem mul_fpow (x y : Fp) : ∀ n, fpow (x * y) n = fpow x n * fpow y n
  | 0 => by simp [fpow]
  | n + 1 => by rw [fpow, mul_fpow x y n, fpow, fpow]; grobner
theorem fpow_one (x : Fp) : fpow x 1 = x := by show 1 * x = x; grobner
theorem fpow_two (x : Fp) : fpow x 2 = x * x := by show 1 * x * x = x * x; grobner
theorem one_fpow : ∀ n, fpow 1 n = 1
  | 0 => rfl
  | n + 1 => by rw [fpow, one_fpow n]; grobner
theorem zero_fpow (n : Nat) : fpow 0 (n + 1) = 0 := by rw [fpow]; grobner

theorem gen (x : Fp) (hx : x ≠ 0) : ∃ k, fpow 7 k = x := by
  have h0 : 0 < x.val := by
    rcases Nat.eq_zero_or_pos x.val with h | h
    · exact absurd (Fin.ext h) hx
    · exact h
  obtain ⟨k, _, hk⟩ := lucas_p.2 x.val h0 x.isLt
  exact ⟨k, Fin.ext (by rw [fpow_val]; exact hk)⟩

theorem gen_whole : fpow 7 (PP - 1) = 1 := Fin.ext (by
  rw [fpow_val, ← powM_eq]; decide +kernel)
theorem fermat (x : Fp) (hx : x ≠ 0) : fpow x (PP - 1) = 1 := by
  obtain ⟨k, rfl⟩ := gen x hx
  rw [← fpow_mul, Nat.mul_comm, fpow_mul, gen_whole, one_fpow]

/-- 1 divided by x; 0 of 0. -/
def finv (x : Fp) : Fp := fpow x (PP - 2)
theorem finv_mul {x : Fp} (hx : x ≠ 0) : finv x * x = 1 := by
  have := fermat x hx
  rw [show PP - 1 = (PP - 2) + 1 from by decide +kernel] at this
  exact this
theorem mul_finv {x : Fp} (hx : x ≠ 0) : x * finv x = 1 := by
  have := finv_mul hx; grobner
theorem finv_zero : finv 0 = 0 := by
  unfold finv
  rw [show PP - 2 = (PP - 3) + 1 from by decide +kernel]
  exact zero_fpow _
theorem one_ne : (1 : Fp) ≠ 0 := by decide +kernel
theorem two_ne : (2 : Fp) ≠ 0 := by decide +kernel
theorem mul_zero_or {x y : Fp} (h : x * y = 0) : x = 0 ∨ y = 0 := by
  by_cases hx : x = 0
  · exact .inl hx
  · right; have := mul_finv hx; grobner
theorem mul_ne {x y : Fp} (hx : x ≠ 0) (hy : y ≠ 0) : x * y ≠ 0 := fun h => (mul_zero_or h).elim hx hy
theorem finv_unique {x y : Fp} (h : x * y = 1) : finv x = y := by
  have hx : x ≠ 0 := fun e => one_ne (by rw [← h, e]; grobner)
  have := mul_finv hx; grobner
theorem finv_ne {x : Fp} (hx : x ≠ 0) : finv x ≠ 0 := fun e => one_ne (by rw [← mul_finv hx, e]; grobner)
theorem finv_finv (x : Fp) : finv (finv x) = x := by
  by_cases hx : x = 0
  · subst hx; rw [finv_zero, finv_zero]
  · exact finv_unique (finv_mul hx)
theorem finv_mulx (x y : Fp) : finv (x * y) = finv x * finv y := by
  unfold finv; exact mul_fpow x y _
theorem finv_one : finv 1 = 1 := finv_unique (by grobner)
theorem sq_zero {x : Fp} (h : x * x = 0) : x = 0 := (mul_zero_or h).elim id id
theorem sq_eq {x y : Fp} (h : x * x = y * y) : x = y ∨ x = -y := by
  rcases mul_zero_or (x := x - y) (y := x + y) (by grobner) with h | h
  · left; grobner
  · right; grobner

/-! ### Squares -/
theorem gen_half : fpow 7 ((PP - 1) / 2) = -1 := Fin.ext (by
  rw [fpow_val, ← powM_eq]; decide +kernel)
theorem half_sq {x : Fp} (hx : x ≠ 0) : fpow (x * x) ((PP - 1) / 2) = 1 := by
  have h := fermat x hx
  rw [show PP - 1 = 2 * ((PP - 1) / 2) from by decide +kernel, fpow_mul] at h
  rw [← h, fpow_two]
/-- Of what is not 0 either it, or 0 less it, is a square. -/
theorem sq_or {x : Fp} (hx : x ≠ 0) : (∃ t, t * t = x ∧ fpow x ((PP - 1) / 2) = 1) ∨ (∃ t, t * t = -x ∧ fpow x ((PP - 1) / 2) = -1) := by
  obtain ⟨k, rfl⟩ := gen x hx
  have hk : fpow (fpow 7 k) ((PP - 1) / 2) = fpow (-1) k := by rw [← fpow_mul, Nat.mul_comm, fpow_mul, gen_half]
  have hneg : fpow 7 ((PP - 1) / 2) = -1 := gen_half
  have h2 : fpow (-1) 2 = (1 : Fp) := by rw [fpow_two]; grobner
  rcases Nat.mod_two_eq_zero_or_one k with h | h
  · left
    refine ⟨fpow 7 (k / 2), ?_, ?_⟩
    · rw [← fpow_add, show k / 2 + k / 2 = k by omega]
    · rw [hk, show k = 2 * (k / 2) by omega, fpow_mul, h2, one_fpow]
  · right
    refine ⟨fpow 7 ((k + (PP - 1) / 2) / 2), ?_, ?_⟩
    · rw [← fpow_add]
      have hodd : (PP - 1) / 2 % 2 = 1 := by decide +kernel
      have e : (k + (PP - 1) / 2) / 2 + (k + (PP - 1) / 2) / 2 = k + (PP - 1) / 2 := by omega
      rw [e, fpow_add, hneg]; grobner
    · rw [hk, show k = 2 * (k / 2) + 1 by omega, fpow_add, fpow_mul, h2, one_fpow, fpow_one]; grobner
theorem one_ne_neg : (1 : Fp) ≠ -1 := by decide +kernel
/-- A number that is no square. -/
theorem nonsq_of {d : Fp} (h : fpow d ((PP - 1) / 2) = -1) : ∀ t, t * t ≠ d := by
  intro t e
  by_cases ht : t = 0
  · subst ht
    rw [← e, show (PP - 1) / 2 = ((PP - 1) / 2 - 1) + 1 from by decide +kernel, fpow] at h
    exact one_ne (by grobner)
  · rw [← e, half_sq ht] at h
    exact one_ne_neg h
theorem nonsq_neg_one : ∀ t : Fp, t * t ≠ -1 := nonsq_of (Fin.ext (by rw [fpow_val, ← powM_eq]; decide +kernel))

/-- The root's candidate. -/
def fchain (x : Fp) : Fp := fpow x ((PP - 3) / 4)
theorem chain_sq (x : Fp) : (x * fchain x) * (x * fchain x) = x * fpow x ((PP - 1) / 2) := by
  unfold fchain
  have e : (PP - 1) / 2 = (PP - 3) / 4 + ((PP - 3) / 4 + 1) := by decide +kernel
  rw [e, fpow_add, fpow_add, fpow_one]; grobner
theorem root_of_sq {x t : Fp} (h : t * t = x) : (x * fchain x) * (x * fchain x) = x := by
  rw [chain_sq]
  by_cases hx : x = 0
  · subst hx; grobner
  · have ht : t ≠ 0 := fun e => hx (by rw [← h, e]; grobner)
    rw [← h, half_sq ht]; grobner
theorem root_of_non {x : Fp} (h : ∀ t, t * t ≠ x) : (x * fchain x) * (x * fchain x) = -x := by
  have hx : x ≠ 0 := fun e => h 0 (by rw [e]; grobner)
  rw [chain_sq]
  rcases sq_or hx with ⟨t, ht, _⟩ | ⟨t, _, ht⟩
  · exact absurd ht (h t)
  · rw [ht]; grobner
end Go.Sx

namespace Go.Sx
set_option maxRecDepth 100000

/-- A whole number modulo p. -/
def ofI (n : Int) : Fp := ⟨(n % (PP : Int)).toNat, by have := Int.emod_nonneg n (b := (PP : Int)) (by decide); have := Int.emod_lt_of_pos n (b := (PP : Int)) (by decide); omega⟩
theorem ofI_val (n : Int) : ((ofI n).val : Int) = n % (PP : Int) := by
  show (((n % (PP : Int)).toNat : Nat) : Int) = _
  have := Int.emod_nonneg n (b := (PP : Int)) (by decide); omega
theorem ofI_ext {a b : Int} (h : a % (PP : Int) = b % (PP : Int)) : ofI a = ofI b := Fin.ext (by
  have h1 := ofI_val a
  have h2 := ofI_val b
  rw [h] at h1; omega)
theorem ofI_inj {a b : Int} (h : ofI a = ofI b) : a % (PP : Int) = b % (PP : Int) := by rw [← ofI_val, ← ofI_val, h]
theorem ofI_add (a b : Int) : ofI (a + b) = ofI a + ofI b := Fin.ext (Int.ofNat_inj.1 (by
  rw [ofI_val, Fin.val_add, Int.natCast_emod, Int.natCast_add, ofI_val, ofI_val, ← Int.add_emod]))
theorem ofI_mul (a b : Int) : ofI (a * b) = ofI a * ofI b := Fin.ext (Int.ofNat_inj.1 (by
  rw [ofI_val, mul_val, Int.natCast_emod, Int.natCast_mul, ofI_val, ofI_val, ← Int.mul_emod]))
theorem ofI_valF (x : Fp) : ofI (x.val : Int) = x := Fin.ext (by
  have := ofI_val (x.val : Int)
  rw [Int.emod_eq_of_lt (by omega) (by have := x.isLt; omega)] at this
  omega)
theorem ofI_zero : ofI 0 = 0 := by decide +kernel
theorem ofI_one : ofI 1 = 1 := by decide +kernel
theorem ofI_p : ofI (PP : Int) = 0 := by decide +kernel
theorem ofI_neg (a : Int) : ofI (-a) = -ofI a := by
  have h := ofI_add a (-a)
  rw [Int.add_right_neg, ofI_zero] at h
  grobner
theorem ofI_sub (a b : Int) : ofI (a - b) = ofI a - ofI b := by
  rw [Int.sub_eq_add_neg, ofI_add, ofI_neg]; grobner
theorem ofI_subp (a k : Int) : ofI (a - k * (PP : Int)) = ofI a := by
  rw [ofI_sub, ofI_mul, ofI_p]; grobner
theorem ofI_addp (a k : Int) : ofI (a + k * (PP : Int)) = ofI a := by
  rw [ofI_add, ofI_mul, ofI_p]; grobner

/-! ### Words -/
theorem wr_u64 {x : Int} (h1 : 0 ≤ x) (h2 : x < 18446744073709551616) : wr .u64 x = x := by
  unfold wr IntKind.wrap
  simp [IntKind.signed, IntKind.bits]
  omega
theorem shr_u64 {x : Int} (n : Nat) (h1 : 0 ≤ x) (hn : n ≤ 64) : shrI .u64 x (n : Int) = x / ((2 ^ n : Nat) : Int) := by
  unfold shrI
  simp only [IntKind.bits]
  rw [Int.toNat_natCast, Nat.min_eq_left hn, Int.fdiv_eq_ediv_of_nonneg _ (by exact Int.le_of_lt (Int.pow_pos (by decide)))]
  simp
theorem bits_u64 {x y : Int} (hx : inU x) (hy : inU y) : BitVec.ofInt 64 x = BitVec.ofNat 64 x.toNat ∧ BitVec.ofInt 64 y = BitVec.ofNat 64 y.toNat := by
  unfold inU at *
  constructor <;> apply BitVec.eq_of_toNat_eq <;> simp <;> omega
theorem and_u64 {x : Int} (n : Nat) (h : inU x) (hn : n ≤ 64) : and64 x (((2 ^ n - 1 : Nat) : Nat) : Int) = x % ((2 ^ n : Nat) : Int) := by
  have hp : 2 ^ n ≤ 2 ^ 64 := Nat.pow_le_pow_right (by decide) hn
  have hp0 : 0 < 2 ^ n := Nat.pow_pos (by decide)
  have hy : inU (((2 ^ n - 1 : Nat) : Nat) : Int) := by
    have : (2 : Nat) ^ 64 = 18446744073709551616 := by decide
    unfold inU; omega
  have hxl : x.toNat < 2 ^ 64 := by
    have : (2 : Nat) ^ 64 = 18446744073709551616 := by decide
    unfold inU at h; omega
  have key : (BitVec.ofNat 64 x.toNat &&& BitVec.ofNat 64 (2 ^ n - 1)).toNat = x.toNat % 2 ^ n := by
    rw [BitVec.toNat_and, BitVec.toNat_ofNat, BitVec.toNat_ofNat, Nat.mod_eq_of_lt hxl, Nat.mod_eq_of_lt (by omega : 2 ^ n - 1 < 2 ^ 64), Nat.and_two_pow_sub_one_eq_mod]
  have e0 : and64 x (((2 ^ n - 1 : Nat) : Nat) : Int) = wr .u64 (((BitVec.ofNat 64 x.toNat &&& BitVec.ofNat 64 (2 ^ n - 1)).toNat : Nat) : Int) := by
    show wr .u64 (((BitVec.ofInt 64 x &&& BitVec.ofInt 64 (((2 ^ n - 1 : Nat) : Nat) : Int)).toNat : Nat) : Int) = _
    rw [(bits_u64 h hy).1, (bits_u64 h hy).2, Int.toNat_natCast]
  have hm := Nat.mod_lt x.toNat hp0
  have : (2 : Nat) ^ 64 = 18446744073709551616 := by decide
  rw [e0, key, wr_u64 (by omega) (by omega), Int.natCast_emod]
  unfold inU at h
  congr 1
  omega
theorem and56 {x : Int} (h : inU x) : and64 x mask56 = x % 72057594037927936 := and_u64 56 h (by decide)
theorem shr56 {x : Int} (h : 0 ≤ x) : shrI .u64 x 56 = x / 72057594037927936 := shr_u64 56 h (by decide)
theorem and32 {x : Int} (h : inU x) : and64 x m32 = x % 4294967296 := and_u64 32 h (by decide)
theorem shr32 {x : Int} (h : 0 ≤ x) : shrI .u64 x 32 = x / 4294967296 := shr_u64 32 h (by decide)
theorem cS_eq {a c : Int} (h1 : 0 ≤ a + c) (h2 : a + c < 18446744073709551616) : cS a c = (a + c) / 72057594037927936 := by
  unfold cS add64; rw [wr_u64 h1 h2, shr56 h1]
theorem cM_eq {a c : Int} (h1 : 0 ≤ a + c) (h2 : a + c < 18446744073709551616) : cM a c = (a + c) % 72057594037927936 := by
  unfold cM add64; rw [wr_u64 h1 h2, and56 ⟨h1, h2⟩]

/-! ### An element's number -/
def El.nat (a : El) : Int := a.a0 + a.a1 * 72057594037927936 + a.a2 * 5192296858534827628530496329220096 + a.a3 * 374144419156711147060143317175368453031918731001856 + a.a4 * 26959946667150639794667015087019630673637144422540572481103610249216 + a.a5 * 1942668892225729070919461906823518906642406839052139521251812409738904285205208498176 + a.a6 * 139984046386112763159840142535527767382602843577165595931249318810236991948760059086304843329475444736 + a.a7 * 10086913586276986678343434265636765134100413253239154346994763111486904773503285916522052161250538404046496765518544896
def El.v (a : El) : Fp := ofI a.nat
structure El.bd (m : Int) (a : El) : Prop where
  (h0 : 0 ≤ a.a0 ∧ a.a0 ≤ m)
  (h1 : 0 ≤ a.a1 ∧ a.a1 ≤ m)
  (h2 : 0 ≤ a.a2 ∧ a.a2 ≤ m)
  (h3 : 0 ≤ a.a3 ∧ a.a3 ≤ m)
  (h4 : 0 ≤ a.a4 ∧ a.a4 ≤ m)
  (h5 : 0 ≤ a.a5 ∧ a.a5 ≤ m)
  (h6 : 0 ≤ a.a6 ∧ a.a6 ≤ m)
  (h7 : 0 ≤ a.a7 ∧ a.a7 ≤ m)
/-- Limbs that are less than 2^56 and 256. -/
abbrev El.ok (a : El) : Prop := El.bd 72057594037928191 a

theorem carry_gen {a : El} (h : El.bd 9223372036854775808 a) : ∃ q : Int, 0 ≤ q ∧ q ≤ 129 ∧ (El.carry a).nat = a.nat - q * (PP : Int) ∧ (El.carry a).ok := by
  obtain ⟨h0, h1, h2, h3, h4, h5, h6, h7⟩ := h
  obtain ⟨a0, a1, a2, a3, a4, a5, a6, a7⟩ := a
  simp only at h0 h1 h2 h3 h4 h5 h6 h7
  have e0 := cS_eq (a := a0) (c := 0) (by omega) (by omega)
  have f0 := cM_eq (a := a0) (c := 0) (by omega) (by omega)
  generalize hc0 : cS a0 0 = c0 at e0
  have e1 := cS_eq (a := a1) (c := c0) (by omega) (by omega)
  have f1 := cM_eq (a := a1) (c := c0) (by omega) (by omega)
  generalize hc1 : cS a1 c0 = c1 at e1
  have e2 := cS_eq (a := a2) (c := c1) (by omega) (by omega)
  have f2 := cM_eq (a := a2) (c := c1) (by omega) (by omega)
  generalize hc2 : cS a2 c1 = c2 at e2
  have e3 := cS_eq (a := a3) (c := c2) (by omega) (by omega)
  have f3 := cM_eq (a := a3) (c := c2) (by omega) (by omega)
  generalize hc3 : cS a3 c2 = c3 at e3
  have e4 := cS_eq (a := a4) (c := c3) (by omega) (by omega)
  have f4 := cM_eq (a := a4) (c := c3) (by omega) (by omega)
  generalize hc4 : cS a4 c3 = c4 at e4
  have e5 := cS_eq (a := a5) (c := c4) (by omega) (by omega)
  have f5 := cM_eq (a := a5) (c := c4) (by omega) (by omega)
  generalize hc5 : cS a5 c4 = c5 at e5
  have e6 := cS_eq (a := a6) (c := c5) (by omega) (by omega)
  have f6 := cM_eq (a := a6) (c := c5) (by omega) (by omega)
  generalize hc6 : cS a6 c5 = c6 at e6
  have e7 := cS_eq (a := a7) (c := c6) (by omega) (by omega)
  have f7 := cM_eq (a := a7) (c := c6) (by omega) (by omega)
  generalize hc7 : cS a7 c6 = c7 at e7
  have hcar : El.carry ⟨a0, a1, a2, a3, a4, a5, a6, a7⟩ = ⟨add64 (cM a0 0) c7, cM a1 c0, cM a2 c1, cM a3 c2, add64 (cM a4 c3) c7, cM a5 c4, cM a6 c5, cM a7 c6⟩ := by
    simp only [El.carry, hc0, hc1, hc2, hc3, hc4, hc5, hc6, hc7]
  have g0 : add64 (cM a0 0) c7 = cM a0 0 + c7 := wr_u64 (by omega) (by omega)
  have g4 : add64 (cM a4 c3) c7 = cM a4 c3 + c7 := wr_u64 (by omega) (by omega)
  refine ⟨c7, by omega, by omega, ?_, ?_⟩
  · rw [hcar, g0, g4]
    simp only [El.nat, PP]
    clear hcar g0 g4 hc0 hc1 hc2 hc3 hc4 hc5 hc6 hc7
    omega
  · rw [hcar, g0, g4]
    constructor <;> dsimp only <;> omega
theorem carry_v {a : El} (h : El.bd 9223372036854775808 a) : (El.carry a).v = a.v ∧ (El.carry a).ok := by
  obtain ⟨q, _, _, h1, h2⟩ := carry_gen h
  exact ⟨by unfold El.v; rw [h1, ofI_subp], h2⟩
end Go.Sx

namespace Go.Sx
set_option maxRecDepth 100000

/-! ### Masks -/
abbrev bv (x : Int) : BitVec 64 := BitVec.ofInt 64 x
theorem toNat_bv {x : Int} (h : inU x) : ((bv x).toNat : Int) = x := by
  unfold bv inU at *; simp; omega
theorem bv_toNat (x : BitVec 64) : bv (x.toNat : Int) = x := by
  unfold bv; simp
theorem wr_toNat (x : BitVec 64) : wr .u64 (x.toNat : Int) = (x.toNat : Int) := wr_u64 (by omega) (by have := x.isLt; omega)
theorem and_bv (x y : Int) : and64 x y = ((bv x &&& bv y).toNat : Int) := wr_toNat _
theorem or_bv (x y : Int) : or64 x y = ((bv x ||| bv y).toNat : Int) := wr_toNat _
theorem xor_bv (x y : Int) : xor64 x y = ((bv x ^^^ bv y).toNat : Int) := wr_toNat _
theorem inU_bv (x : BitVec 64) : inU (x.toNat : Int) := ⟨by omega, by have := x.isLt; omega⟩
theorem sel0 {a b : Int} (ha : inU a) : selL 0 a b = a := by
  have h0 : bv 0 = 0#64 := by decide
  unfold selL
  rw [xor_bv, and_bv, xor_bv, bv_toNat, h0, BitVec.zero_and]
  first
    | rw [BitVec.xor_zero, toNat_bv ha]
    | rw [bv_toNat, BitVec.xor_zero, toNat_bv ha]
theorem sel1 {a b : Int} (hb : inU b) : selL 18446744073709551615 a b = b := by
  have h0 : bv 18446744073709551615 = BitVec.allOnes 64 := by decide
  unfold selL
  rw [xor_bv, and_bv, xor_bv, bv_toNat, h0, BitVec.allOnes_and, bv_toNat, ← BitVec.xor_assoc, BitVec.xor_self, BitVec.zero_xor, toNat_bv hb]
theorem wr_mod (bit : Int) : wr .u64 bit = bit % 18446744073709551616 := by
  unfold wr IntKind.wrap
  simp [IntKind.signed, IntKind.bits]
theorem selM_eq (bit : Int) : selM bit = if bit % 2 = 0 then 0 else 18446744073709551615 := by
  unfold selM
  have h : and64 (wr .u64 bit) 1 = (wr .u64 bit) % 2 := and_u64 1 (inU_wr bit) (by decide)
  rw [h, wr_mod bit, wr_mod]
  split <;> omega
structure El.inw (a : El) : Prop where
  (h0 : inU a.a0)
  (h1 : inU a.a1)
  (h2 : inU a.a2)
  (h3 : inU a.a3)
  (h4 : inU a.a4)
  (h5 : inU a.a5)
  (h6 : inU a.a6)
  (h7 : inU a.a7)
theorem El.bd.inw {m : Int} {a : El} (h : El.bd m a) (hm : m < 18446744073709551616) : El.inw a := by
  obtain ⟨h0, h1, h2, h3, h4, h5, h6, h7⟩ := h
  constructor <;> unfold inU <;> omega
theorem El.bd.mono {m n : Int} {a : El} (h : El.bd m a) (hm : m ≤ n) : El.bd n a := by
  obtain ⟨h0, h1, h2, h3, h4, h5, h6, h7⟩ := h
  constructor <;> omega
theorem select_eq (bit : Int) {a b : El} (ha : El.inw a) (hb : El.inw b) : El.select bit a b = if bit % 2 = 0 then a else b := by
  unfold El.select
  simp only [selM_eq]
  split
  · simp only [sel0 ha.h0, sel0 ha.h1, sel0 ha.h2, sel0 ha.h3, sel0 ha.h4, sel0 ha.h5, sel0 ha.h6, sel0 ha.h7]
  · simp only [sel1 hb.h0, sel1 hb.h1, sel1 hb.h2, sel1 hb.h3, sel1 hb.h4, sel1 hb.h5, sel1 hb.h6, sel1 hb.h7]

/-! ### The number less than p -/
theorem el_eq_of {a b : El} (ha : El.bd 72057594037927935 a) (hb : El.bd 72057594037927935 b) (h : a.nat = b.nat) : a = b := by
  obtain ⟨a0, a1, a2, a3, a4, a5, a6, a7⟩ := a
  obtain ⟨b0, b1, b2, b3, b4, b5, b6, b7⟩ := b
  obtain ⟨h0, h1, h2, h3, h4, h5, h6, h7⟩ := ha
  obtain ⟨k0, k1, k2, k3, k4, k5, k6, k7⟩ := hb
  simp only [El.nat] at *
  have e0 : a0 = b0 := by omega
  have e1 : a1 = b1 := by omega
  have e2 : a2 = b2 := by omega
  have e3 : a3 = b3 := by omega
  have e4 : a4 = b4 := by omega
  have e5 : a5 = b5 := by omega
  have e6 : a6 = b6 := by omega
  have e7 : a7 = b7 := by omega
  subst e0 e1 e2 e3 e4 e5 e6 e7
  rfl

theorem cc_bd {a : El} (h : El.ok a) : El.bd 72057594037927935 a.carry.carry := by
  obtain ⟨h0, h1, h2, h3, h4, h5, h6, h7⟩ := h
  obtain ⟨a0, a1, a2, a3, a4, a5, a6, a7⟩ := a
  simp only at h0 h1 h2 h3 h4 h5 h6 h7
  -- the first time
  have step : ∀ x c : Int, 0 ≤ x → x ≤ 72057594037928191 → 0 ≤ c → c ≤ 1 → cS x c = (x + c) / 72057594037927936 ∧ cM x c = (x + c) % 72057594037927936 ∧ 0 ≤ cS x c ∧ cS x c ≤ 1 := by
    intro x c h1 h2 h3 h4
    have e := cS_eq (a := x) (c := c) (by omega) (by omega)
    exact ⟨e, cM_eq (by omega) (by omega), by omega, by omega⟩
  obtain ⟨e0, f0, p0, q0⟩ := step a0 0 h0.1 h0.2 (by omega) (by omega)
  generalize hc0 : cS a0 0 = c0 at e0 p0 q0
  obtain ⟨e1, f1, p1, q1⟩ := step a1 c0 h1.1 h1.2 p0 q0
  generalize hc1 : cS a1 c0 = c1 at e1 p1 q1
  obtain ⟨e2, f2, p2, q2⟩ := step a2 c1 h2.1 h2.2 p1 q1
  generalize hc2 : cS a2 c1 = c2 at e2 p2 q2
  obtain ⟨e3, f3, p3, q3⟩ := step a3 c2 h3.1 h3.2 p2 q2
  generalize hc3 : cS a3 c2 = c3 at e3 p3 q3
  obtain ⟨e4, f4, p4, q4⟩ := step a4 c3 h4.1 h4.2 p3 q3
  generalize hc4 : cS a4 c3 = c4 at e4 p4 q4
  obtain ⟨e5, f5, p5, q5⟩ := step a5 c4 h5.1 h5.2 p4 q4
  generalize hc5 : cS a5 c4 = c5 at e5 p5 q5
  obtain ⟨e6, f6, p6, q6⟩ := step a6 c5 h6.1 h6.2 p5 q5
  generalize hc6 : cS a6 c5 = c6 at e6 p6 q6
  obtain ⟨e7, f7, p7, q7⟩ := step a7 c6 h7.1 h7.2 p6 q6
  generalize hc7 : cS a7 c6 = c7 at e7 p7 q7
  have g0 : add64 (cM a0 0) c7 = cM a0 0 + c7 := wr_u64 (by omega) (by omega)
  have g4 : add64 (cM a4 c3) c7 = cM a4 c3 + c7 := wr_u64 (by omega) (by omega)
  have hcar : El.carry ⟨a0, a1, a2, a3, a4, a5, a6, a7⟩ = ⟨cM a0 0 + c7, cM a1 c0, cM a2 c1, cM a3 c2, cM a4 c3 + c7, cM a5 c4, cM a6 c5, cM a7 c6⟩ := by
    simp only [El.carry, hc0, hc1, hc2, hc3, hc4, hc5, hc6, hc7, g0, g4]
  rw [hcar]
  generalize cM a0 0 = r0 at *
  generalize cM a1 c0 = r1 at *
  generalize cM a2 c1 = r2 at *
  generalize cM a3 c2 = r3 at *
  generalize cM a4 c3 = r4 at *
  generalize cM a5 c4 = r5 at *
  generalize cM a6 c5 = r6 at *
  generalize cM a7 c6 = r7 at *
  have htop : c7 = 1 → r7 ≤ 256 := by intro h; omega
  have b0 : 0 ≤ r0 ∧ r0 < 72057594037927936 := by omega
  have b1 : 0 ≤ r1 ∧ r1 < 72057594037927936 := by omega
  have b2 : 0 ≤ r2 ∧ r2 < 72057594037927936 := by omega
  have b3 : 0 ≤ r3 ∧ r3 < 72057594037927936 := by omega
  have b4 : 0 ≤ r4 ∧ r4 < 72057594037927936 := by omega
  have b5 : 0 ≤ r5 ∧ r5 < 72057594037927936 := by omega
  have b6 : 0 ≤ r6 ∧ r6 < 72057594037927936 := by omega
  have b7 : 0 ≤ r7 ∧ r7 < 72057594037927936 := by omega
  clear hcar g0 g4 hc0 hc1 hc2 hc3 hc4 hc5 hc6 hc7 e0 e1 e2 e3 e4 e5 e6 e7 f0 f1 f2 f3 f4 f5 f6 f7 h0 h1 h2 h3 h4 h5 h6 h7
  -- the second time
  obtain ⟨e0, f0, u0, v0⟩ := step (r0 + c7) 0 (by omega) (by omega) (by omega) (by omega)
  generalize hc0 : cS (r0 + c7) 0 = d0 at e0 u0 v0
  obtain ⟨e1, f1, u1, v1⟩ := step r1 d0 b1.1 (by omega) u0 v0
  generalize hc1 : cS r1 d0 = d1 at e1 u1 v1
  obtain ⟨e2, f2, u2, v2⟩ := step r2 d1 b2.1 (by omega) u1 v1
  generalize hc2 : cS r2 d1 = d2 at e2 u2 v2
  obtain ⟨e3, f3, u3, v3⟩ := step r3 d2 b3.1 (by omega) u2 v2
  generalize hc3 : cS r3 d2 = d3 at e3 u3 v3
  obtain ⟨e4, f4, u4, v4⟩ := step (r4 + c7) d3 (by omega) (by omega) u3 v3
  generalize hc4 : cS (r4 + c7) d3 = d4 at e4 u4 v4
  obtain ⟨e5, f5, u5, v5⟩ := step r5 d4 b5.1 (by omega) u4 v4
  generalize hc5 : cS r5 d4 = d5 at e5 u5 v5
  obtain ⟨e6, f6, u6, v6⟩ := step r6 d5 b6.1 (by omega) u5 v5
  generalize hc6 : cS r6 d5 = d6 at e6 u6 v6
  obtain ⟨e7, f7, u7, v7⟩ := step r7 d6 b7.1 (by omega) u6 v6
  generalize hc7 : cS r7 d6 = d7 at e7 u7 v7
  have top : d7 = 0 := by
    rcases (show c7 = 0 ∨ c7 = 1 by omega) with h | h
    · have : d0 = 0 := by omega
      have : d1 = 0 := by omega
      have : d2 = 0 := by omega
      have : d3 = 0 := by omega
      have : d4 = 0 := by omega
      have : d5 = 0 := by omega
      have : d6 = 0 := by omega
      omega
    · have := htop h; omega
  have z0 : ∀ x : Int, 0 ≤ x → x < 18446744073709551616 → add64 x 0 = x := fun x h1 h2 => by
    unfold add64; rw [Int.add_zero]; exact wr_u64 h1 h2
  have hcar : El.carry ⟨r0 + c7, r1, r2, r3, r4 + c7, r5, r6, r7⟩ = ⟨cM (r0 + c7) 0, cM r1 d0, cM r2 d1, cM r3 d2, cM (r4 + c7) d3, cM r5 d4, cM r6 d5, cM r7 d6⟩ := by
    simp only [El.carry, hc0, hc1, hc2, hc3, hc4, hc5, hc6, hc7, top]
    rw [z0 _ (by omega) (by omega), z0 _ (by omega) (by omega)]
  rw [hcar]
  constructor <;> dsimp only <;> omega

theorem subS_eq {a q : Int} (ha : inU a) (hq : inU q) : subS a q 0 = (a - q) % 18446744073709551616 := by
  unfold subS inU at *; omega
theorem subO_eq {a q : Int} (ha : inU a) (hq : inU q) : subO' a q 0 = if a < q then 1 else 0 := by
  unfold subO' inU at *
  split <;> split <;> first | rfl | omega

theorem strong_spec {x : El} (h : El.ok x) : El.bd 72057594037927935 x.strong ∧ x.strong.nat = (x.v.val : Int) := by
  have hb := cc_bd h
  have hv : x.carry.carry.v = x.v := by
    have h1 := carry_v (h.mono (n := 9223372036854775808) (by decide))
    have h2 := carry_v (h1.2.mono (n := 9223372036854775808) (by decide))
    rw [h2.1, h1.1]
  have hstr : x.strong = El.select (wr .i64 (sub64 1 (El.strongAt x.carry.carry outs x.carry.carry.toL 0).2)) x.carry.carry (El.ofL (El.strongAt x.carry.carry outs x.carry.carry.toL 0).1) := rfl
  rw [hstr, ← hv]
  generalize x.carry.carry = a at hb ⊢
  clear hstr hv h x
  obtain ⟨a0, a1, a2, a3, a4, a5, a6, a7⟩ := a
  obtain ⟨h0, h1, h2, h3, h4, h5, h6, h7⟩ := hb
  simp only at h0 h1 h2 h3 h4 h5 h6 h7
  -- one limb
  have step : ∀ a p l : Int, 0 ≤ a → a ≤ 72057594037927935 → 0 ≤ p → p ≤ 72057594037927935 → 0 ≤ l → l ≤ 1 →
      subO' a (add64 p l) 0 = (if a < p + l then 1 else 0) ∧ and64 (subS a (add64 p l) 0) mask56 = a - p - l + 72057594037927936 * subO' a (add64 p l) 0 ∧ 0 ≤ subO' a (add64 p l) 0 ∧ subO' a (add64 p l) 0 ≤ 1 := by
    intro a p l ha ha' hp hp' hl hl'
    have e : add64 p l = p + l := wr_u64 (by omega) (by omega)
    rw [e, subO_eq ⟨ha, by omega⟩ ⟨by omega, by omega⟩, and56 (inU_subS _ _ _), subS_eq ⟨ha, by omega⟩ ⟨by omega, by omega⟩]
    refine ⟨rfl, ?_, ?_, ?_⟩ <;> split <;> omega
  have hlist : El.strongAt ⟨a0, a1, a2, a3, a4, a5, a6, a7⟩ outs [a0, a1, a2, a3, a4, a5, a6, a7] 0 =
      (let l0 := subO' a0 (add64 mask56 0) 0
       let l1 := subO' a1 (add64 mask56 l0) 0
       let l2 := subO' a2 (add64 mask56 l1) 0
       let l3 := subO' a3 (add64 mask56 l2) 0
       let l4 := subO' a4 (add64 72057594037927934 l3) 0
       let l5 := subO' a5 (add64 mask56 l4) 0
       let l6 := subO' a6 (add64 mask56 l5) 0
       let l7 := subO' a7 (add64 mask56 l6) 0
       ([and64 (subS a0 (add64 mask56 0) 0) mask56, and64 (subS a1 (add64 mask56 l0) 0) mask56, and64 (subS a2 (add64 mask56 l1) 0) mask56, and64 (subS a3 (add64 mask56 l2) 0) mask56, and64 (subS a4 (add64 72057594037927934 l3) 0) mask56, and64 (subS a5 (add64 mask56 l4) 0) mask56, and64 (subS a6 (add64 mask56 l5) 0) mask56, and64 (subS a7 (add64 mask56 l6) 0) mask56], l7)) := rfl
  have hm : mask56 = 72057594037927935 := rfl
  show El.bd _ (El.select (wr .i64 (sub64 1 (El.strongAt ⟨a0, a1, a2, a3, a4, a5, a6, a7⟩ outs [a0, a1, a2, a3, a4, a5, a6, a7] 0).2)) _ (El.ofL (El.strongAt ⟨a0, a1, a2, a3, a4, a5, a6, a7⟩ outs [a0, a1, a2, a3, a4, a5, a6, a7] 0).1)) ∧ (El.select (wr .i64 (sub64 1 (El.strongAt ⟨a0, a1, a2, a3, a4, a5, a6, a7⟩ outs [a0, a1, a2, a3, a4, a5, a6, a7] 0).2)) _ (El.ofL (El.strongAt ⟨a0, a1, a2, a3, a4, a5, a6, a7⟩ outs [a0, a1, a2, a3, a4, a5, a6, a7] 0).1)).nat = _
  rw [hlist]
  obtain ⟨_, f0, u0, v0⟩ := step a0 mask56 0 h0.1 h0.2 (by decide) (by decide) (by decide) (by decide)
  generalize subO' a0 (add64 mask56 0) 0 = l0 at f0 u0 v0 ⊢
  obtain ⟨_, f1, u1, v1⟩ := step a1 mask56 l0 h1.1 h1.2 (by decide) (by decide) u0 v0
  dsimp only
  generalize subO' a1 (add64 mask56 l0) 0 = l1 at f1 u1 v1 ⊢
  obtain ⟨_, f2, u2, v2⟩ := step a2 mask56 l1 h2.1 h2.2 (by decide) (by decide) u1 v1
  generalize subO' a2 (add64 mask56 l1) 0 = l2 at f2 u2 v2 ⊢
  obtain ⟨_, f3, u3, v3⟩ := step a3 mask56 l2 h3.1 h3.2 (by decide) (by decide) u2 v2
  generalize subO' a3 (add64 mask56 l2) 0 = l3 at f3 u3 v3 ⊢
  obtain ⟨_, f4, u4, v4⟩ := step a4 72057594037927934 l3 h4.1 h4.2 (by decide) (by decide) u3 v3
  generalize subO' a4 (add64 72057594037927934 l3) 0 = l4 at f4 u4 v4 ⊢
  obtain ⟨_, f5, u5, v5⟩ := step a5 mask56 l4 h5.1 h5.2 (by decide) (by decide) u4 v4
  generalize subO' a5 (add64 mask56 l4) 0 = l5 at f5 u5 v5 ⊢
  obtain ⟨_, f6, u6, v6⟩ := step a6 mask56 l5 h6.1 h6.2 (by decide) (by decide) u5 v5
  generalize subO' a6 (add64 mask56 l5) 0 = l6 at f6 u6 v6 ⊢
  obtain ⟨_, f7, u7, v7⟩ := step a7 mask56 l6 h7.1 h7.2 (by decide) (by decide) u6 v6
  generalize subO' a7 (add64 mask56 l6) 0 = l7 at f7 u7 v7 ⊢
  rw [f0, f1, f2, f3, f4, f5, f6, f7]
  have bnd : ∀ x : Int, 0 ≤ and64 x mask56 ∧ and64 x mask56 ≤ 72057594037927935 := by
    intro x
    rw [and_bv]
    have := BitVec.toNat_and (bv x) (bv mask56)
    have h2 : (bv mask56).toNat = 72057594037927935 := by decide
    have h3 := Nat.and_le_right (n := (bv x).toNat) (m := (bv mask56).toNat)
    omega
  have g0 := bnd (subS a0 (add64 mask56 0) 0)
  have g1 := bnd (subS a1 (add64 mask56 l0) 0)
  have g2 := bnd (subS a2 (add64 mask56 l1) 0)
  have g3 := bnd (subS a3 (add64 mask56 l2) 0)
  have g4 := bnd (subS a4 (add64 72057594037927934 l3) 0)
  have g5 := bnd (subS a5 (add64 mask56 l4) 0)
  have g6 := bnd (subS a6 (add64 mask56 l5) 0)
  have g7 := bnd (subS a7 (add64 mask56 l6) 0)
  rw [f0] at g0
  rw [f1] at g1
  rw [f2] at g2
  rw [f3] at g3
  rw [f4] at g4
  rw [f5] at g5
  rw [f6] at g6
  rw [f7] at g7
  rw [hm] at *
  clear f0 f1 f2 f3 f4 f5 f6 f7 bnd step hlist
  have hsel := select_eq (wr .i64 (sub64 1 l7)) (a := ⟨a0, a1, a2, a3, a4, a5, a6, a7⟩) (b := El.ofL [a0 - 72057594037927935 - 0 + 72057594037927936 * l0, a1 - 72057594037927935 - l0 + 72057594037927936 * l1, a2 - 72057594037927935 - l1 + 72057594037927936 * l2, a3 - 72057594037927935 - l2 + 72057594037927936 * l3, a4 - 72057594037927934 - l3 + 72057594037927936 * l4, a5 - 72057594037927935 - l4 + 72057594037927936 * l5, a6 - 72057594037927935 - l5 + 72057594037927936 * l6, a7 - 72057594037927935 - l6 + 72057594037927936 * l7])
    (by constructor <;> unfold inU <;> dsimp only <;> omega) (by constructor <;> unfold inU <;> dsimp only [El.ofL] <;> omega)
  rw [hsel]
  have hval := ofI_val (El.nat ⟨a0, a1, a2, a3, a4, a5, a6, a7⟩)
  unfold El.v
  rw [hval]
  simp only [PP]
  rcases (show l7 = 0 ∨ l7 = 1 by omega) with h | h
  · subst h
    rw [if_neg (by decide)]
    refine ⟨by constructor <;> dsimp only [El.ofL] <;> omega, ?_⟩
    simp only [El.nat, El.ofL]
    omega
  · subst h
    rw [if_pos (by decide)]
    refine ⟨by constructor <;> dsimp only <;> omega, ?_⟩
    simp only [El.nat]
    omega
end Go.Sx

namespace Go.Sx
set_option maxRecDepth 100000

/-! ### Sums, differences -/
theorem add_spec {a b : El} (ha : a.ok) (hb : b.ok) : (El.add a b).ok ∧ (El.add a b).v = a.v + b.v := by
  obtain ⟨h0, h1, h2, h3, h4, h5, h6, h7⟩ := ha
  obtain ⟨a0, a1, a2, a3, a4, a5, a6, a7⟩ := a
  obtain ⟨k0, k1, k2, k3, k4, k5, k6, k7⟩ := hb
  obtain ⟨b0, b1, b2, b3, b4, b5, b6, b7⟩ := b
  simp only at h0 h1 h2 h3 h4 h5 h6 h7 k0 k1 k2 k3 k4 k5 k6 k7
  have e : ∀ x y : Int, 0 ≤ x → x ≤ 72057594037928191 → 0 ≤ y → y ≤ 72057594037928191 → add64 x y = x + y := fun x y _ _ _ _ => wr_u64 (by omega) (by omega)
  have hadd : El.add ⟨a0, a1, a2, a3, a4, a5, a6, a7⟩ ⟨b0, b1, b2, b3, b4, b5, b6, b7⟩ = El.carry ⟨a0 + b0, a1 + b1, a2 + b2, a3 + b3, a4 + b4, a5 + b5, a6 + b6, a7 + b7⟩ := by
    unfold El.add
    dsimp only
    rw [e a0 b0 h0.1 h0.2 k0.1 k0.2, e a1 b1 h1.1 h1.2 k1.1 k1.2, e a2 b2 h2.1 h2.2 k2.1 k2.2, e a3 b3 h3.1 h3.2 k3.1 k3.2, e a4 b4 h4.1 h4.2 k4.1 k4.2, e a5 b5 h5.1 h5.2 k5.1 k5.2, e a6 b6 h6.1 h6.2 k6.1 k6.2, e a7 b7 h7.1 h7.2 k7.1 k7.2]
  rw [hadd]
  have hc := carry_v (a := ⟨a0 + b0, a1 + b1, a2 + b2, a3 + b3, a4 + b4, a5 + b5, a6 + b6, a7 + b7⟩) (by constructor <;> dsimp only <;> omega)
  refine ⟨hc.2, ?_⟩
  rw [hc.1]
  unfold El.v
  rw [← ofI_add]
  congr 1
  simp only [El.nat]
  omega
theorem sub_spec {a b : El} (ha : a.ok) (hb : b.ok) : (El.sub a b).ok ∧ (El.sub a b).v = a.v - b.v := by
  obtain ⟨h0, h1, h2, h3, h4, h5, h6, h7⟩ := ha
  obtain ⟨a0, a1, a2, a3, a4, a5, a6, a7⟩ := a
  obtain ⟨k0, k1, k2, k3, k4, k5, k6, k7⟩ := hb
  obtain ⟨b0, b1, b2, b3, b4, b5, b6, b7⟩ := b
  simp only at h0 h1 h2 h3 h4 h5 h6 h7 k0 k1 k2 k3 k4 k5 k6 k7
  have e : ∀ x y p : Int, 0 ≤ x → x ≤ 72057594037928191 → 0 ≤ y → y ≤ 72057594037928191 → 72057594037927934 ≤ p → p ≤ 72057594037927935 → sub64 (add64 x (mul64 2 p)) y = x + 2 * p - y := fun x y p _ _ _ _ _ _ => by
    have h1 : mul64 2 p = 2 * p := wr_u64 (by omega) (by omega)
    have h2 : add64 x (2 * p) = x + 2 * p := wr_u64 (by omega) (by omega)
    rw [h1, h2]
    exact wr_u64 (by omega) (by omega)
  have hsub : El.sub ⟨a0, a1, a2, a3, a4, a5, a6, a7⟩ ⟨b0, b1, b2, b3, b4, b5, b6, b7⟩ = El.carry ⟨a0 + 2 * 72057594037927935 - b0, a1 + 2 * 72057594037927935 - b1, a2 + 2 * 72057594037927935 - b2, a3 + 2 * 72057594037927935 - b3, a4 + 2 * 72057594037927934 - b4, a5 + 2 * 72057594037927935 - b5, a6 + 2 * 72057594037927935 - b6, a7 + 2 * 72057594037927935 - b7⟩ := by
    show El.carry ⟨sub64 (add64 a0 (mul64 2 72057594037927935)) b0, sub64 (add64 a1 (mul64 2 72057594037927935)) b1, sub64 (add64 a2 (mul64 2 72057594037927935)) b2, sub64 (add64 a3 (mul64 2 72057594037927935)) b3, sub64 (add64 a4 (mul64 2 72057594037927934)) b4, sub64 (add64 a5 (mul64 2 72057594037927935)) b5, sub64 (add64 a6 (mul64 2 72057594037927935)) b6, sub64 (add64 a7 (mul64 2 72057594037927935)) b7⟩ = _
    rw [e a0 b0 _ h0.1 h0.2 k0.1 k0.2 (by decide) (by decide), e a1 b1 _ h1.1 h1.2 k1.1 k1.2 (by decide) (by decide), e a2 b2 _ h2.1 h2.2 k2.1 k2.2 (by decide) (by decide), e a3 b3 _ h3.1 h3.2 k3.1 k3.2 (by decide) (by decide), e a4 b4 _ h4.1 h4.2 k4.1 k4.2 (by decide) (by decide), e a5 b5 _ h5.1 h5.2 k5.1 k5.2 (by decide) (by decide), e a6 b6 _ h6.1 h6.2 k6.1 k6.2 (by decide) (by decide), e a7 b7 _ h7.1 h7.2 k7.1 k7.2 (by decide) (by decide)]
  rw [hsub]
  have hc := carry_v (a := ⟨a0 + 2 * 72057594037927935 - b0, a1 + 2 * 72057594037927935 - b1, a2 + 2 * 72057594037927935 - b2, a3 + 2 * 72057594037927935 - b3, a4 + 2 * 72057594037927934 - b4, a5 + 2 * 72057594037927935 - b5, a6 + 2 * 72057594037927935 - b6, a7 + 2 * 72057594037927935 - b7⟩) (by constructor <;> dsimp only <;> omega)
  refine ⟨hc.2, ?_⟩
  rw [hc.1]
  unfold El.v
  rw [← ofI_sub, ← ofI_addp (_ - _) 2]
  congr 1
  simp only [El.nat, PP]
  omega
theorem El.bd.ok {m : Int} {a : El} (h : El.bd m a) (hm : m ≤ 72057594037928191) : a.ok := h.mono hm
theorem zero_ok : (El.ofL (zl 8)).ok := by constructor <;> decide
theorem zero_v : (El.ofL (zl 8)).v = 0 := by decide +kernel
theorem neg_spec {a : El} (ha : a.ok) : (El.neg a).ok ∧ (El.neg a).v = -a.v := by
  have := sub_spec zero_ok ha
  refine ⟨this.1, ?_⟩
  have h := this.2
  rw [zero_v] at h
  unfold El.neg
  rw [h]; grobner
theorem select_spec (bit : Int) {a b : El} (ha : a.ok) (hb : b.ok) : El.select bit a b = if bit % 2 = 0 then a else b :=
  select_eq bit (ha.inw (by decide)) (hb.inw (by decide))
theorem or_zero : ∀ x y : Int, or64 x y = 0 ↔ (bv x = 0#64 ∧ bv y = 0#64) := by
  intro x y
  rw [or_bv]
  constructor
  · intro h
    have h : bv x ||| bv y = 0#64 := by
      apply BitVec.eq_of_toNat_eq
      rw [BitVec.toNat_ofNat, Nat.zero_mod]
      exact Int.ofNat_inj.1 h
    exact BitVec.or_eq_zero_iff.1 h
  · rintro ⟨h1, h2⟩
    rw [h1, h2]; decide
theorem bv_zero {x : Int} (h : inU x) : bv x = 0#64 ↔ x = 0 := by
  constructor
  · intro e
    have := toNat_bv h
    rw [e] at this
    simpa using this.symm
  · rintro rfl; decide
theorem bv_or (x y : Int) : bv (or64 x y) = bv x ||| bv y := by rw [or_bv, bv_toNat]

theorem zero_spec {a : El} (ha : a.ok) : El.zero a = decide (a.v = 0) := by
  obtain ⟨hb, hn⟩ := strong_spec ha
  have hw := hb.inw (by decide)
  have key : (outs.foldl (fun all i => or64 all (lim a.strong i)) 0 = 0) ↔ a.v = 0 := by
    generalize a.strong = s at hb hn hw
    have hfold : outs.foldl (fun all i => or64 all (lim s i)) 0 = or64 (or64 (or64 (or64 (or64 (or64 (or64 (or64 0 s.a0) s.a1) s.a2) s.a3) s.a4) s.a5) s.a6) s.a7 := rfl
    rw [hfold]
    simp only [or_zero, bv_or, BitVec.or_eq_zero_iff, bv_zero hw.h0, bv_zero hw.h1, bv_zero hw.h2, bv_zero hw.h3, bv_zero hw.h4, bv_zero hw.h5, bv_zero hw.h6, bv_zero hw.h7]
    obtain ⟨h0, h1, h2, h3, h4, h5, h6, h7⟩ := hb
    obtain ⟨s0, s1, s2, s3, s4, s5, s6, s7⟩ := s
    simp only [El.nat] at *
    constructor
    · rintro ⟨⟨⟨⟨⟨⟨⟨⟨_, e0⟩, e1⟩, e2⟩, e3⟩, e4⟩, e5⟩, e6⟩, e7⟩
      have : a.v.val = 0 := by omega
      exact Fin.ext this
    · intro e
      rw [e] at hn
      have hn : s0 + s1 * 72057594037927936 + s2 * 5192296858534827628530496329220096 + s3 * 374144419156711147060143317175368453031918731001856 + s4 * 26959946667150639794667015087019630673637144422540572481103610249216 + s5 * 1942668892225729070919461906823518906642406839052139521251812409738904285205208498176 + s6 * 139984046386112763159840142535527767382602843577165595931249318810236991948760059086304843329475444736 + s7 * 10086913586276986678343434265636765134100413253239154346994763111486904773503285916522052161250538404046496765518544896 = 0 := hn
      refine ⟨⟨⟨⟨⟨⟨⟨⟨by decide, ?_⟩, ?_⟩, ?_⟩, ?_⟩, ?_⟩, ?_⟩, ?_⟩, ?_⟩ <;> omega
  unfold El.zero
  by_cases h : a.v = 0
  · rw [key.2 h, decide_eq_true h]; rfl
  · rw [decide_eq_false h]
    exact beq_eq_false_iff_ne.2 fun e => h (key.1 e)
theorem eq_spec {a b : El} (ha : a.ok) (hb : b.ok) : El.eq a b = decide (a.v = b.v) := by
  have := sub_spec ha hb
  unfold El.eq
  rw [zero_spec this.1, this.2]
  by_cases h : a.v = b.v
  · rw [decide_eq_true h, decide_eq_true (by rw [h]; grobner)]
  · rw [decide_eq_false h, decide_eq_false fun e => h (by grobner)]

theorem small_spec {n : Int} (h0 : 0 ≤ n) (h1 : n < 18446744073709551616) : (El.small n).ok ∧ (El.small n).v = ofI n := by
  have e : El.small n = ⟨n % 72057594037927936, n / 72057594037927936, 0, 0, 0, 0, 0, 0⟩ := by
    unfold El.small shr64
    rw [wr_u64 h0 h1, and56 ⟨h0, h1⟩, shr56 h0]
  rw [e]
  refine ⟨by constructor <;> dsimp only <;> omega, ?_⟩
  unfold El.v
  congr 1
  simp only [El.nat]
  omega
def inI (n : Int) : Prop := -9223372036854775808 ≤ n ∧ n < 9223372036854775808
theorem int_spec {n : Int} (h : inI n) : (El.int n).ok ∧ (El.int n).v = ofI n := by
  unfold inI at h
  unfold El.int
  by_cases hn : n < 0
  · rw [decide_eq_true hn]
    simp only
    have e : El.small (wr .i64 (0 - n)) = El.small (-n) := by
      have hw : wr .u64 (wr .i64 (0 - n)) = wr .u64 (-n) := by
        rw [wr_mod, wr_mod]
        unfold wr IntKind.wrap
        simp [IntKind.signed, IntKind.bits]
        omega
      unfold El.small
      rw [hw]
    rw [e]
    have hs := small_spec (n := -n) (by omega) (by omega)
    have := neg_spec hs.1
    refine ⟨this.1, ?_⟩
    rw [this.2, hs.2, ofI_neg]; grobner
  · rw [decide_eq_false hn]
    exact small_spec (by omega) (by omega)

/-! ### Bytes -/
/-- So many bytes of a number, the lowest one first. -/
def le : Nat → Nat → List Int
  | 0, _ => []
  | k + 1, n => ((n % 256 : Nat) : Int) :: le k (n / 256)
theorem le_len : ∀ k n, (le k n).length = k
  | 0, _ => rfl
  | k + 1, n => by simp [le, le_len k]
theorem le_append : ∀ (m k a b : Nat), a < 256 ^ m → le (m + k) (a + 256 ^ m * b) = le m a ++ le k b
  | 0, k, a, b, h => by
    have : a = 0 := by simpa using h
    subst this; simp [le]
  | m + 1, k, a, b, h => by
    have e : m + 1 + k = (m + k) + 1 := by omega
    rw [e]
    have h1 : a / 256 < 256 ^ m := by rw [Nat.pow_succ] at h; omega
    have h2 : 256 ^ (m + 1) * b = 256 * (256 ^ m * b) := by rw [Nat.pow_succ, Nat.mul_comm (256 ^ m) 256, Nat.mul_assoc]
    have h3 : (a + 256 * (256 ^ m * b)) % 256 = a % 256 := by omega
    have h4 : (a + 256 * (256 ^ m * b)) / 256 = a / 256 + 256 ^ m * b := by omega
    rw [h2, le, h3, h4, le_append m k _ _ h1]
    rfl
def isByte (x : Int) : Prop := 0 ≤ x ∧ x < 256
theorem le_byte : ∀ k n, ∀ x ∈ le k n, isByte x
  | 0, _ => fun x h => by simp [le] at h
  | k + 1, n => fun x h => by
    rcases List.mem_cons.1 h with rfl | h
    · unfold isByte; omega
    · exact le_byte k _ x h
theorem le_inj : ∀ {k a b : Nat}, a < 256 ^ k → b < 256 ^ k → le k a = le k b → a = b
  | 0, a, b, ha, hb, _ => by simp at ha hb; omega
  | k + 1, a, b, ha, hb, h => by
    simp only [le, List.cons.injEq] at h
    rw [Nat.pow_succ] at ha hb
    have := le_inj (by omega) (by omega) h.2
    have := h.1
    omega
theorem wr_u8 (x : Int) : wr .u8 x = x % 256 := by
  unfold wr IntKind.wrap
  simp [IntKind.signed, IntKind.bits]
theorem limb_bytes {x : Int} (h0 : 0 ≤ x) : [0, 1, 2, 3, 4, 5, 6].map (fun k : Nat => wr .u8 (shr64 x ((8 * k : Nat) : Int))) = le 7 x.toNat := by
  have e : ∀ k : Nat, k ≤ 6 → wr .u8 (shr64 x ((8 * k : Nat) : Int)) = ((x.toNat / 2 ^ (8 * k) % 256 : Nat) : Int) := by
    intro k hk
    unfold shr64
    rw [shr_u64 _ h0 (by omega), wr_u8]
    have : x = (x.toNat : Int) := by omega
    rw [this]
    simp
  simp only [List.map, le]
  rw [e 0 (by decide), e 1 (by decide), e 2 (by decide), e 3 (by decide), e 4 (by decide), e 5 (by decide), e 6 (by decide)]
  simp only [Nat.div_div_eq_div_mul, Nat.reduceMul, Nat.reducePow, Nat.div_one]
def lb (x : Int) : List Int := [0, 1, 2, 3, 4, 5, 6].map (fun k : Nat => wr .u8 (shr64 x ((8 * k : Nat) : Int)))
theorem lb_eq {x : Int} (h0 : 0 ≤ x) : lb x = le 7 x.toNat := limb_bytes h0
theorem bytes_parts (a : El) : El.bytes a = lb a.a0 ++ (lb a.a1 ++ (lb a.a2 ++ (lb a.a3 ++ (lb a.a4 ++ (lb a.a5 ++ (lb a.a6 ++ (lb a.a7 ++ []))))))) := by
  obtain ⟨a0, a1, a2, a3, a4, a5, a6, a7⟩ := a
  kernel_rfl
theorem lb_app (k : Nat) (x : Int) (b : Nat) (h0 : 0 ≤ x) (h1 : x ≤ 72057594037927935) : lb x ++ le k b = le (7 + k) (x.toNat + 72057594037927936 * b) := by
  have h256 : (256 : Nat) ^ 7 = 72057594037927936 := by decide
  have := le_append 7 k x.toNat b (by rw [h256]; omega)
  rw [h256] at this
  rw [lb_eq h0]
  exact this.symm
theorem nat_toNat {a : El} (h : El.bd 72057594037927935 a) : a.nat.toNat = a.a0.toNat + 72057594037927936 * (a.a1.toNat + 72057594037927936 * (a.a2.toNat + 72057594037927936 * (a.a3.toNat + 72057594037927936 * (a.a4.toNat + 72057594037927936 * (a.a5.toNat + 72057594037927936 * (a.a6.toNat + 72057594037927936 * (a.a7.toNat + 72057594037927936 * 0))))))) := by
  obtain ⟨a0, a1, a2, a3, a4, a5, a6, a7⟩ := a
  obtain ⟨h0, h1, h2, h3, h4, h5, h6, h7⟩ := h
  simp only at h0 h1 h2 h3 h4 h5 h6 h7
  simp only [El.nat]
  omega
theorem bytes_spec {a : El} (h : El.bd 72057594037927935 a) : El.bytes a = le 56 a.nat.toNat := by
  have e0 : ([] : List Int) = le 0 0 := rfl
  rw [bytes_parts, nat_toNat h, e0, lb_app 0 _ _ h.h7.1 h.h7.2, lb_app _ _ _ h.h6.1 h.h6.2, lb_app _ _ _ h.h5.1 h.h5.2, lb_app _ _ _ h.h4.1 h.h4.2, lb_app _ _ _ h.h3.1 h.h3.2, lb_app _ _ _ h.h2.1 h.h2.2, lb_app _ _ _ h.h1.1 h.h1.2, lb_app _ _ _ h.h0.1 h.h0.2]
theorem Bytes_spec {a : El} (ha : a.ok) : El.Bytes a = le 56 a.v.val := by
  obtain ⟨hb, hn⟩ := strong_spec ha
  unfold El.Bytes
  rw [bytes_spec hb, hn]; rfl

def leval : List Int → Int
  | [] => 0
  | b :: r => b + 256 * leval r
theorem or_add {x y : Int} {n : Nat} (hx : 0 ≤ x) (hx2 : x < ((2 ^ n : Nat) : Int)) (hy : 0 ≤ y) (h : ((2 ^ n : Nat) : Int) * y + x < 18446744073709551616) : or64 x (((2 ^ n : Nat) : Int) * y) = x + ((2 ^ n : Nat) : Int) * y := by
  have hp : 0 ≤ ((2 ^ n : Nat) : Int) * y := Int.mul_nonneg (by omega) hy
  have h1 : inU x := ⟨hx, by omega⟩
  have h2 : inU (((2 ^ n : Nat) : Int) * y) := ⟨hp, by omega⟩
  rw [or_bv]
  have e1 : (bv x).toNat = x.toNat := by have := toNat_bv h1; omega
  have e2 : (bv (((2 ^ n : Nat) : Int) * y)).toNat = 2 ^ n * y.toNat := by
    have e3 := toNat_bv h2
    have e4 : ((2 ^ n * y.toNat : Nat) : Int) = ((2 ^ n : Nat) : Int) * y := by
      rw [Int.natCast_mul]; congr 1; omega
    omega
  rw [BitVec.toNat_or, e1, e2, Nat.or_comm, ← Nat.two_pow_add_eq_or_of_lt (by omega)]
  rw [Int.natCast_add, Int.natCast_mul]
  have : ((y.toNat : Nat) : Int) = y := by omega
  rw [this]; omega
theorem limb_val {b0 b1 b2 b3 b4 b5 b6 : Int} (h0 : isByte b0) (h1 : isByte b1) (h2 : isByte b2) (h3 : isByte b3) (h4 : isByte b4) (h5 : isByte b5) (h6 : isByte b6) :
    or64 (or64 (or64 (or64 (or64 (or64 (or64 0 (shl64 (wr .u64 b0) ((8 * 0 : Nat) : Int))) (shl64 (wr .u64 b1) ((8 * 1 : Nat) : Int))) (shl64 (wr .u64 b2) ((8 * 2 : Nat) : Int))) (shl64 (wr .u64 b3) ((8 * 3 : Nat) : Int))) (shl64 (wr .u64 b4) ((8 * 4 : Nat) : Int))) (shl64 (wr .u64 b5) ((8 * 5 : Nat) : Int))) (shl64 (wr .u64 b6) ((8 * 6 : Nat) : Int)) = leval [b0, b1, b2, b3, b4, b5, b6] := by
  have sh : ∀ (b : Int) (k : Nat), isByte b → k ≤ 6 → shl64 (wr .u64 b) ((8 * k : Nat) : Int) = ((2 ^ (8 * k) : Nat) : Int) * b := by
    intro b k hb hk
    have hb := hb
    unfold isByte at hb
    rw [wr_u64 hb.1 (by omega)]
    unfold shl64 shlI
    simp only [IntKind.bits]
    rw [Int.toNat_natCast, Nat.min_eq_left (by omega)]
    have e : ((2 : Int) ^ (8 * k)) = ((2 ^ (8 * k) : Nat) : Int) := by simp
    rw [e]
    have hle : 2 ^ (8 * k) ≤ 2 ^ 48 := Nat.pow_le_pow_right (by decide) (by omega)
    have h48 : (2 : Nat) ^ 48 = 281474976710656 := by decide
    generalize 2 ^ (8 * k) = P at hle ⊢
    have hm : b * (P : Int) ≤ 255 * (P : Int) := Int.mul_le_mul_of_nonneg_right (by omega) (by omega)
    have hm0 : 0 ≤ b * (P : Int) := Int.mul_nonneg hb.1 (by omega)
    have := wr_u64 (x := b * (P : Int)) hm0 (by omega)
    unfold wr at this
    rw [this, Int.mul_comm]
  unfold isByte at h0 h1 h2 h3 h4 h5 h6
  rw [sh b0 0 h0 (by decide), sh b1 1 h1 (by decide), sh b2 2 h2 (by decide), sh b3 3 h3 (by decide), sh b4 4 h4 (by decide), sh b5 5 h5 (by decide), sh b6 6 h6 (by decide)]
  rw [or_add (x := 0) (n := 8 * 0) (by omega) (by decide) h0.1 (by simp; omega)]
  rw [or_add (n := 8 * 1) (by simp; omega) (by simp; omega) h1.1 (by simp; omega)]
  rw [or_add (n := 8 * 2) (by simp; omega) (by simp; omega) h2.1 (by simp; omega)]
  rw [or_add (n := 8 * 3) (by simp; omega) (by simp; omega) h3.1 (by simp; omega)]
  rw [or_add (n := 8 * 4) (by simp; omega) (by simp; omega) h4.1 (by simp; omega)]
  rw [or_add (n := 8 * 5) (by simp; omega) (by simp; omega) h5.1 (by simp; omega)]
  rw [or_add (n := 8 * 6) (by simp; omega) (by simp; omega) h6.1 (by simp; omega)]
  simp [leval]
  omega
end Go.Sx

namespace Go.Sx
open Go.Proofs
set_option maxRecDepth 100000

theorem same_shr (X : BitVec 64) : shrI .u64 (or64 (X.toNat : Int) (wr .u64 (0 - (X.toNat : Int)))) 63 = if X = 0#64 then 0 else 1 := by
  have hx := X.isLt
  have hw : wr .u64 (0 - (X.toNat : Int)) = (0 - (X.toNat : Int)) % 18446744073709551616 := wr_mod _
  by_cases h0 : X = 0#64
  · rw [if_pos h0]; subst h0; rfl
  · rw [if_neg h0]
    have hp : 0 < X.toNat := by
      rcases Nat.eq_zero_or_pos X.toNat with h | h
      · exact absurd (BitVec.eq_of_toNat_eq (by simpa using h)) h0
      · exact h
    have hw2 : wr .u64 (0 - (X.toNat : Int)) = ((2 ^ 64 - X.toNat : Nat) : Int) := by rw [hw]; omega
    rw [hw2, or_bv, bv_toNat]
    have hb : (bv ((2 ^ 64 - X.toNat : Nat) : Int)).toNat = 2 ^ 64 - X.toNat := by
      show (BitVec.ofInt 64 _).toNat = _
      rw [BitVec.toNat_ofInt]; omega
    have hlt := (X ||| bv ((2 ^ 64 - X.toNat : Nat) : Int)).isLt
    have h1 := @Nat.left_le_or X.toNat (2 ^ 64 - X.toNat)
    have h2 := @Nat.right_le_or X.toNat (2 ^ 64 - X.toNat)
    have he : (X ||| bv ((2 ^ 64 - X.toNat : Nat) : Int)).toNat = X.toNat ||| (2 ^ 64 - X.toNat) := by rw [BitVec.toNat_or, hb]
    generalize (X ||| bv ((2 ^ 64 - X.toNat : Nat) : Int)).toNat = m at *
    show Int.fdiv (m : Int) (2 ^ (min (63 : Int).toNat 64)) = 1
    have e : ((2 : Int) ^ (min (63 : Int).toNat 64)) = 9223372036854775808 := rfl
    rw [e, Int.fdiv_eq_ediv_of_nonneg _ (by omega)]
    omega

theorem wr_inj {a b : Int} (ha : -9223372036854775808 ≤ a ∧ a < 9223372036854775808) (hb : -9223372036854775808 ≤ b ∧ b < 9223372036854775808) (h : wr .u64 a = wr .u64 b) : a = b := by
  rw [wr_mod, wr_mod] at h; omega
theorem bv_inj {a b : Int} (h : bv (wr .u64 a) = bv (wr .u64 b)) : wr .u64 a = wr .u64 b := by
  rw [wr_mod, wr_mod] at *
  have := congrArg BitVec.toNat h
  have e : ∀ x : Int, (bv (x % 18446744073709551616)).toNat = (x % 18446744073709551616).toNat := fun x => by
    show (BitVec.ofInt 64 _).toNat = _
    rw [BitVec.toNat_ofInt]; omega
  rw [e, e] at this
  omega
theorem sameI_eq {a b : Int} (ha : -9223372036854775808 ≤ a ∧ a < 9223372036854775808) (hb : -9223372036854775808 ≤ b ∧ b < 9223372036854775808) : sameI a b = if a = b then 1 else 0 := by
  unfold sameI sameX
  rw [xor_bv, same_shr]
  by_cases h : a = b
  · subst h
    rw [if_pos rfl, if_pos (BitVec.xor_self)]; rfl
  · rw [if_neg h, if_neg (fun k => h (wr_inj ha hb (bv_inj (BitVec.xor_eq_zero_iff.1 k))))]; rfl

noncomputable def spCS : List (Nat × Spec) := [(n_comb_Same, s_Same), (n_law11_awake, s_awake11)]
theorem spCS_ok : Good prog spCS := .cons ok_Same (.cons ok_awake11 .nil)
def csF (r : Bool) (a b w : Int) : Prop := iteP (sameI a b == w) (iteP (sameI b a == w) (iteP (sameI a a == 1) (boolV true = boolV r) (boolV false = boolV r)) (boolV false = boolV r)) (boolV false = boolV r)
theorem r_CombSame (r : Bool) (a b : Int) : run1 E spCS 20 [] 0 noAnn f_law11_CombSame ((A2 (aInt .i64) (aInt .i64)).to (a, b, ())) (meet false boolV r) =
    iteP (a == b) (csF r a b 1) (csF r a b 0) := by kernel_rfl
def i64 (a : Int) : Prop := -9223372036854775808 ≤ a ∧ a < 9223372036854775808
def s_CombSame : Spec := mk (A2 (aInt .i64) (aInt .i64)) (some fun a => i64 a.1 ∧ i64 a.2.1) (fun _ => true) (fun b => V.bool b)
theorem csF_true {a b w : Int} (h1 : sameI a b = w) (h2 : sameI b a = w) (h3 : sameI a a = 1) : csF true a b w := by
  unfold csF
  rw [h1, h2, h3]
  refine iteP_intro (fun _ => iteP_intro (fun _ => iteP_intro (fun _ => rfl) (fun h => ?_)) (fun h => ?_)) (fun h => ?_)
  · simp at h
  · simp at h
  · simp at h
theorem ok_CombSame : SpecOK prog n_law11_CombSame s_CombSame :=
  mk_ok (fuel := 20) (depth := 0) (ann := fun _ => noAnn) env_ok mixed spCS_ok FnsOK.nil (by kernel_rfl) (by kernel_rfl) (by kernel_rfl) (notOwn false rfl) (fun a h => by
    obtain ⟨a, b, ⟨⟩⟩ := a
    obtain ⟨ha, hb⟩ := h _ rfl
    have ha : i64 a := ha
    have hb : i64 b := hb
    refine yes (r_CombSame true a b) ?_
    have e3 : sameI a a = 1 := by rw [sameI_eq ha ha, if_pos rfl]
    refine iteP_intro (fun h => ?_) (fun h => ?_)
    · have h : a = b := by simpa using h
      subst h
      exact csF_true e3 e3 e3
    · have h : ¬ a = b := by simpa using h
      exact csF_true (by rw [sameI_eq ha hb, if_neg h]) (by rw [sameI_eq hb ha, if_neg (fun k => h k.symm)]) e3)
end Go.Sx
