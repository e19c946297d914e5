/-
  A part of a proof: the lemmas that the last text joins. No conditions.
-/
import Derived.Test.YtifplgkfjpkppaaK4
set_option linter.unusedSimpArgs false
set_option linter.unusedVariables false
namespace Go.Sx
open Go.Proofs
set_option maxRecDepth 100000

def bytesOK (l : List Int) : Prop := ∀ x ∈ l, isByte x
def num8 (l : List Int) : Nat := (leval l).toNat
theorem getD_byte {l : List Int} (h : bytesOK l) (i : Nat) : isByte (l.getD i 0) := by
  by_cases hi : i < l.length
  · rw [List.getD_eq_getElem?_getD, List.getElem?_eq_getElem hi]
    exact h _ (List.getElem_mem hi)
  · rw [List.getD_eq_getElem?_getD, List.getElem?_eq_none (by omega)]
    exact ⟨by decide, by decide⟩
theorem num8_cons {b : Int} {r : List Int} (h : bytesOK (b :: r)) : num8 (b :: r) = b.toNat + 256 * num8 r ∧ b.toNat < 256 ∧ bytesOK r := by
  have h1 := h b (List.mem_cons_self ..)
  have h2 : bytesOK r := fun x hx => h x (List.mem_cons_of_mem _ hx)
  have h3 := leval_nonneg h2
  unfold isByte at h1
  unfold num8
  simp only [leval]
  exact ⟨by omega, by omega, h2⟩
theorem num8_byte : ∀ {l : List Int} (_ : bytesOK l) (j : Nat), num8 l / 256 ^ j % 256 = (l.getD j 0).toNat
  | [], _, j => by simp [num8, leval]
  | b :: r, h, 0 => by
    obtain ⟨h1, h2, h3⟩ := num8_cons h
    simp only [Nat.pow_zero, Nat.div_one, List.getD_cons_zero]
    omega
  | b :: r, h, j + 1 => by
    obtain ⟨h1, h2, h3⟩ := num8_cons h
    rw [h1, Nat.pow_succ, Nat.mul_comm (256 ^ j) 256, ← Nat.div_div_eq_div_mul, show (b.toNat + 256 * num8 r) / 256 = num8 r by omega, num8_byte h3 j]
    simp
theorem num8_lt {l : List Int} (h : bytesOK l) : num8 l < 2 ^ (8 * l.length) := by
  have h1 := leval_nonneg h
  have e : (2 : Nat) ^ (8 * l.length) = 256 ^ l.length := by rw [Nat.pow_mul]
  rw [e]
  unfold num8
  have : ((256 ^ l.length : Nat) : Int) = 256 ^ l.length := by simp
  omega
theorem atL_spec {l : List Int} (h : bytesOK l) {i : Int} (hi : 0 ≤ i) : atL l i = (num8 l / 256 ^ i.toNat % 256 : Nat) := by
  rw [num8_byte h]
  have hb := getD_byte h i.toNat
  unfold isByte at hb
  unfold atL
  by_cases hd : i ≥ (l.length : Int)
  · rw [decide_eq_true hd]
    rw [List.getD_eq_getElem?_getD, List.getElem?_eq_none (by omega)]; rfl
  · rw [decide_eq_false hd]
    simp only
    rw [wr_i64 (by omega) (by omega)]; omega
theorem bitL_spec {l : List Int} (h : bytesOK l) {i : Int} (hi : 0 ≤ i) : bitL l i = (num8 l / 2 ^ i.toNat % 2 : Nat) := by
  unfold bitL
  rw [decide_eq_false (by omega)]
  simp only
  rw [atL_spec h (by omega)]
  congr 1
  rw [Int.toNat_natCast]
  have e1 : (i / 8).toNat = i.toNat / 8 := by omega
  have e2 : (i % 8).toNat = i.toNat % 8 := by omega
  rw [e1, e2]
  generalize i.toNat = n
  have e3 : (2 : Nat) ^ n = 256 ^ (n / 8) * 2 ^ (n % 8) := by
    rw [show (256 : Nat) = 2 ^ 8 by rfl, ← Nat.pow_mul, ← Nat.pow_add]; congr 1; omega
  rw [e3, ← Nat.div_div_eq_div_mul]
  generalize num8 l / 256 ^ (n / 8) = m
  have h8 : n % 8 < 8 := Nat.mod_lt _ (by decide)
  have e4 : 256 = 2 ^ (n % 8) * 2 ^ (8 - n % 8) := by rw [← Nat.pow_add, show n % 8 + (8 - n % 8) = 8 by omega]
  rw [e4, Nat.mod_mul_right_div_self]
  have e5 : 2 ^ (8 - n % 8) = 2 * 2 ^ (7 - n % 8) := by rw [← Nat.pow_succ']; congr 1; omega
  rw [e5, Nat.mod_mul_right_mod]
def bPre (l : List Int) (i : Int) (x : BX) : Prop := ∃ k : Nat, x.k = k ∧ k ≤ (i % 8).toNat ∧ x.n = ((atL l (i / 8)).toNat / 2 ^ k : Nat)
def bμ (i : Int) (x : BX) : Nat := (i % 8 - x.k).toNat
def idxOK (i : Int) : Prop := i < 4611686018427387904
def s_Bit : Spec := mk (A2 aBytes (aInt .i64)) (some fun a => bytesOK a.1 ∧ idxOK a.2.1) (fun a => bitL a.1 a.2.1) intV
theorem atL_nonneg {l : List Int} (h : bytesOK l) {i : Int} (hi : 0 ≤ i) : 0 ≤ atL l i ∧ atL l i < 256 := by
  rw [atL_spec h hi]; omega
theorem ok_Bit : SpecOK prog n_ref03_Bit s_Bit :=
  mk_ok (fuel := 20) (depth := 0) (ann := fun a => annBit (bPre a.1 a.2.1) (bμ a.2.1) a.1 a.2.1) env_ok mixed spAt_ok FnsOK.nil (by kernel_rfl) (by kernel_rfl) (by kernel_rfl) (notOwn false rfl) (fun a h => by
    obtain ⟨l, i, ⟨⟩⟩ := a
    have hd : bytesOK l ∧ idxOK i := h _ rfl
    obtain ⟨hl, hi⟩ := hd
    unfold idxOK at hi
    refine yes (r_Bit (bPre l i) (bμ i) (bitL l i) l i) ?_
    unfold bitL
    refine iteP_intro (fun hb => by rw [hb]) (fun hb => ?_)
    have h0 := of_decide_eq_false hb
    rw [hb]
    have e1 : i64 (i.tdiv 8) = i / 8 := by
      rw [Int.tdiv_eq_ediv_of_nonneg (by omega)]; exact wr_i64 (by omega) (by omega)
    have e2 : i.tmod 8 = i % 8 := Int.tmod_eq_emod_of_nonneg (by omega)
    have ha := atL_nonneg hl (i := i / 8) (by omega)
    rw [e1, e2]
    refine ⟨by omega, ⟨⟨0, atL l (i / 8)⟩, ⟨0, rfl, Nat.zero_le _, by simp; omega⟩, ⟨trivial, rfl, rfl, rfl, rfl, trivial⟩⟩, ?_⟩
    rintro ⟨xk, xn⟩ ⟨k, hk, hk2, hn⟩
    simp only at hk hn
    subst hk hn
    refine iteP_intro (fun hb => ?_) (fun hb => ?_)
    · have hlt : (k : Int) < i % 8 := of_decide_eq_true hb
      refine ⟨⟨((k + 1 : Nat) : Int), (((atL l (i / 8)).toNat / 2 ^ (k + 1) : Nat) : Int)⟩, ⟨k + 1, rfl, by omega, rfl⟩, ⟨trivial, rfl, rfl, ?_, ?_, trivial⟩, ?_⟩
      · dsimp only
        have e3 : i64 ((((atL l (i / 8)).toNat / 2 ^ k : Nat) : Int).tdiv 2) = (((atL l (i / 8)).toNat / 2 ^ (k + 1) : Nat) : Int) := by
          have hle : (atL l (i / 8)).toNat / 2 ^ k ≤ 256 := Nat.le_trans (Nat.div_le_self _ _) (by omega)
          rw [Int.tdiv_eq_ediv_of_nonneg (Int.natCast_nonneg _), Nat.pow_succ, ← Nat.div_div_eq_div_mul]
          generalize (atL l (i / 8)).toNat / 2 ^ k = q at hle
          rw [i64_eq (by omega) (by omega)]; omega
        rw [e3]
      · dsimp only
        rw [i64_eq (by omega) (by omega)]; rfl
      · unfold bμ; dsimp only; omega
    · have hge : ¬ (k : Int) < i % 8 := of_decide_eq_false hb
      have hk : k = (i % 8).toNat := by omega
      subst hk
      dsimp only
      rw [Int.tmod_eq_emod_of_nonneg (Int.natCast_nonneg _)]
      congr 1)

/-! ### How many bits -/
def lenN (l : List Int) : Nat → Nat
  | 0 => 0
  | n + 1 => if bitL l n = 0 then lenN l n else n + 1
def lenL (l : List Int) : Int := (lenN l (8 * l.length) : Nat)
def annLen (pre : Int → Prop) (μ : Int → Nat) (l : List Int) : Nat → Option Ann := fun id => match id with
  | 0 => some ⟨Int, fun _ x => ⟨[(0, .rs false (.ints .u8 l)), (3, .int .i64 x)], [], 0⟩, fun _ => pre, μ⟩
  | _ => none
noncomputable def spBit : List (Nat × Spec) := [(n_ref03_Bit, s_Bit)]
theorem spBit_ok : Good prog spBit := .cons ok_Bit .nil
def fitL (l : List Int) (n : Int) (x : Int) : Prop := True ∧ eqs [(.rs false (.ints .u8 l), .rs false (.ints .u8 l)), (.int .i64 n, .int .i64 x)]
theorem r_Len (pre : Int → Prop) (μ : Int → Nat) (r : Int) (l : List Int) : run1 E spBit 20 [] 0 (annLen pre μ l) f_ref03_Len ((A1 aBytes).to (l, ())) (meet false intV r) =
    ((∃ x, pre x ∧ fitL l (i64 (8 * (l.length : Int))) x) ∧ ∀ x, pre x → iteP (decide (x > 0))
      ((bytesOK l ∧ idxOK (i64 (x - 1))) ∧ iteP (bitL l (i64 (x - 1)) == 0) (∃ x', pre x' ∧ fitL l (i64 (x - 1)) x' ∧ μ x' < μ x) (intV x = intV r)) (intV x = intV r)) := by kernel_rfl
def lPre (l : List Int) (x : Int) : Prop := ∃ n : Nat, x = n ∧ n ≤ 8 * l.length ∧ lenN l n = lenN l (8 * l.length)
def small28 (l : List Int) : Prop := l.length ≤ 268435456
def s_Len : Spec := mk (A1 aBytes) (some fun a => bytesOK a.1 ∧ small28 a.1) (fun a => lenL a.1) intV
theorem ok_Len : SpecOK prog n_ref03_Len s_Len :=
  mk_ok (fuel := 20) (depth := 0) (ann := fun a => annLen (lPre a.1) Int.toNat a.1) env_ok mixed spBit_ok FnsOK.nil (by kernel_rfl) (by kernel_rfl) (by kernel_rfl) (notOwn false rfl) (fun a h => by
    obtain ⟨l, ⟨⟩⟩ := a
    have hd : bytesOK l ∧ small28 l := h _ rfl
    obtain ⟨hl, hs⟩ := hd
    unfold small28 at hs
    refine yes (r_Len (lPre l) Int.toNat (lenL l) l) ⟨⟨(8 * l.length : Nat), ⟨8 * l.length, rfl, Nat.le_refl _, rfl⟩, ⟨trivial, rfl, ?_, trivial⟩⟩, ?_⟩
    · dsimp only
      rw [i64_eq (by omega) (by omega)]; congr 1
    · rintro x ⟨n, rfl, hn, he⟩
      refine iteP_intro (fun hb => ?_) (fun hb => ?_)
      · have h0 : (n : Int) > 0 := of_decide_eq_true hb
        have e1 : i64 ((n : Int) - 1) = ((n - 1 : Nat) : Int) := by rw [i64_eq (by omega) (by omega)]; omega
        rw [e1]
        have hn1 : n = (n - 1) + 1 := by omega
        refine ⟨⟨hl, by unfold idxOK; omega⟩, iteP_intro (fun hb => ?_) (fun hb => ?_)⟩
        · have hz : bitL l ((n - 1 : Nat) : Int) = 0 := by simpa using hb
          refine ⟨((n - 1 : Nat) : Int), ⟨n - 1, rfl, by omega, ?_⟩, ⟨trivial, rfl, rfl, trivial⟩, by omega⟩
          rw [← he, hn1, lenN, if_pos hz, Nat.add_sub_cancel]
        · have hz : ¬ bitL l ((n - 1 : Nat) : Int) = 0 := by simpa using hb
          show intV n = intV (lenL l)
          unfold lenL
          rw [← he, hn1, lenN, if_neg hz]
      · have h0 : ¬ (n : Int) > 0 := of_decide_eq_false hb
        have : n = 0 := by omega
        subst this
        show intV ((0 : Nat) : Int) = intV (lenL l)
        unfold lenL
        rw [← he]; rfl)
end Go.Sx

namespace Go.Sx
open Go.Proofs
set_option maxRecDepth 100000

/-! ### p - 2 -/
def primeB : List Int := [255, 255, 255, 255, 255, 255, 255, 255, 255, 255, 255, 255, 255, 255, 255, 255, 255, 255, 255, 255, 255, 255, 255, 255, 255, 255, 255, 255, 254, 255, 255, 255, 255, 255, 255, 255, 255, 255, 255, 255, 255, 255, 255, 255, 255, 255, 255, 255, 255, 255, 255, 255, 255, 255, 255, 255]
def invB : List Int := [253, 255, 255, 255, 255, 255, 255, 255, 255, 255, 255, 255, 255, 255, 255, 255, 255, 255, 255, 255, 255, 255, 255, 255, 255, 255, 255, 255, 254, 255, 255, 255, 255, 255, 255, 255, 255, 255, 255, 255, 255, 255, 255, 255, 255, 255, 255, 255, 255, 255, 255, 255, 255, 255, 255, 255]
noncomputable def fnsSub : Fns := [(n_ref03_at, (f_ref03_at, noAnn)), (n_ref03_Cut, (f_ref03_Cut, noAnn))]
theorem fnsSub_ok : FnsOK prog fnsSub := .cons (by kernel_rfl) (by kernel_rfl) (.cons (by kernel_rfl) (by kernel_rfl) .nil)
theorem r_SubC : run1 E [] 60 fnsSub 1 noAnn f_ref03_Sub ((A2 aBytes aBytes).to (primeB, [2], ())) (meet false bytesV invB) = (bytesV invB = bytesV invB) := by kernel_rfl
def s_SubC : Spec := mk (A2 aBytes aBytes) (some fun a => a.1 = primeB ∧ a.2.1 = [2]) (fun _ => invB) bytesV
theorem ok_SubC : SpecOK prog n_ref03_Sub s_SubC :=
  mk_ok (fuel := 60) (depth := 1) (ann := fun _ => noAnn) env_ok mixed Good.nil fnsSub_ok (by kernel_rfl) (by kernel_rfl) (by kernel_rfl) (notOwn false rfl) (fun a h => by
    obtain ⟨x, y, ⟨⟩⟩ := a
    have hd : x = primeB ∧ y = [2] := h _ rfl
    obtain ⟨rfl, rfl⟩ := hd
    exact yes r_SubC rfl)
noncomputable def spPm : List (Nat × Spec) := [(n_ref04_prime, s_primeF), (n_ref04_Bytes, s_FBytes)]
theorem spPm_ok : Good prog spPm := .cons ok_primeF (.cons ok_FBytes .nil)
theorem r_Prime : run1 E spPm 20 [] 0 noAnn f_ref04_Prime (Args.nil.to ()) (meet false bytesV primeB) = (bytesV primeB = bytesV primeB) := by kernel_rfl
def s_Prime : Spec := mk .nil none (fun _ => primeB) bytesV
theorem ok_Prime : SpecOK prog n_ref04_Prime s_Prime :=
  mk_ok (fuel := 20) (depth := 0) (ann := fun _ => noAnn) env_ok mixed spPm_ok FnsOK.nil (by kernel_rfl) (by kernel_rfl) (by kernel_rfl) (notOwn false rfl) (fun a _ => yes r_Prime rfl)

/-! ### Power -/
def C2 (a b : F16) (K : Prop) : Prop := (a.can ∧ b.can) ∧ K
theorem can_add (a b : F16) : (F16.add a b).can := can_of _
theorem can_sub (a b : F16) : (F16.sub a b).can := can_of _
theorem can_mul (a b : F16) : (F16.mul a b).can := can_of _
theorem can_neg (a : F16) : (F16.neg a).can := can_of _
theorem can_int (n : Int) : (F16.int n).can := can_of _
theorem fp_add (a b : F16) : (F16.add a b).fp = a.fp + b.fp := fp_of _
theorem fp_sub (a b : F16) : (F16.sub a b).fp = a.fp - b.fp := fp_of _
theorem fp_mul (a b : F16) : (F16.mul a b).fp = a.fp * b.fp := fp_of _
theorem fp_neg (a : F16) : (F16.neg a).fp = -a.fp := fp_of _
theorem fp_int (n : Int) : (F16.int n).fp = ofI n := fp_of _
structure PX where
  i : Int
  o : F16
def annPow (pre : PX → Prop) (μ : PX → Nat) (a : F16) (l : List Int) : Nat → Option Ann := fun id => match id with
  | 0 => some ⟨PX, fun _ x => ⟨[(1, .rs false (.ints .u8 l)), (2, .ptr 0 0 0), (4, .ptr 1 0 0), (5, .ptr 3 0 0), (6, .int .i64 x.i)], [(0, ⟨false, 0, fV a⟩), (1, ⟨false, 0, .ints .i64 (zl 16)⟩), (3, ⟨false, 0, fV x.o⟩)], 4⟩, fun _ => pre, μ⟩
  | _ => none
noncomputable def spPw : List (Nat × Spec) := [(n_ref04_Int, s_FInt), (n_ref04_Mul, s_FMul), (n_ref03_Bit, s_Bit)]
theorem spPw_ok : Good prog spPw := .cons ok_FInt (.cons ok_FMul (.cons ok_Bit .nil))
def fitP (a : F16) (l : List Int) (o : F16) (i : Int) (x : PX) : Prop :=
  eqs [(fV a, fV a), (.ints .i64 (zl 16), .ints .i64 (zl 16)), (fV o, fV x.o)] ∧ eqs [(.rs false (.ints .u8 l), .rs false (.ints .u8 l)), (.ptr 0 0 0, .ptr 0 0 0), (.ptr 1 0 0, .ptr 1 0 0), (.ptr 3 0 0, .ptr 3 0 0), (.int .i64 i, .int .i64 x.i)]
theorem r_Pow (pre : PX → Prop) (μ : PX → Nat) (r a : F16) (l : List Int) : run1 E spPw 20 [] 0 (annPow pre μ a l) f_ref05_Power ((A2 aF aBytes).to (a, l, ())) (meet false fV r) =
    (inI 1 ∧ (∃ x, pre x ∧ fitP a l (F16.int 1) (i64 (i64 (8 * (l.length : Int)) - 1)) x) ∧ ∀ x, pre x → iteP (decide (x.i ≥ 0))
      (C2 x.o x.o ((bytesOK l ∧ idxOK x.i) ∧ iteP (bitL l x.i == 1)
        (C2 (F16.mul x.o x.o) a (∃ x', pre x' ∧ fitP a l (F16.mul (F16.mul x.o x.o) a) (i64 (x.i - 1)) x' ∧ μ x' < μ x))
        (∃ x', pre x' ∧ fitP a l (F16.mul x.o x.o) (i64 (x.i - 1)) x' ∧ μ x' < μ x)))
      (fV x.o = fV r)) := by kernel_rfl
def F16.pow (a : F16) (l : List Int) : F16 := F16.of (fpow a.fp (num8 l))
theorem can_pow (a : F16) (l : List Int) : (F16.pow a l).can := can_of _
theorem fp_pow (a : F16) (l : List Int) : (F16.pow a l).fp = fpow a.fp (num8 l) := fp_of _
def pPre (a : F16) (l : List Int) (x : PX) : Prop := ∃ n : Nat, x.i = (n : Int) - 1 ∧ n ≤ 8 * l.length ∧ x.o = F16.of (fpow a.fp (num8 l / 2 ^ n))
def pμ (x : PX) : Nat := (x.i + 1).toNat
def s_Pow : Spec := mk (A2 aF aBytes) (some fun a => a.1.can ∧ bytesOK a.2.1 ∧ small28 a.2.1) (fun a => F16.pow a.1 a.2.1) fV true
theorem mul_of (x y : Fp) : F16.mul (F16.of x) (F16.of y) = F16.of (x * y) := by
  unfold F16.mul; rw [fp_of, fp_of]
theorem ok_Pow : SpecOK prog n_ref05_Power s_Pow :=
  mk_ok (fuel := 20) (depth := 0) (ann := fun a => annPow (pPre a.1 a.2.1) pμ a.1 a.2.1) env_ok mixed spPw_ok FnsOK.nil (by kernel_rfl) (by kernel_rfl) (by kernel_rfl) (notOwn false rfl) (fun a h => by
    obtain ⟨a, l, ⟨⟩⟩ := a
    have hd : a.can ∧ bytesOK l ∧ small28 l := h _ rfl
    obtain ⟨ha, hl, hs⟩ := hd
    unfold small28 at hs
    refine yes (r_Pow (pPre a l) pμ (F16.pow a l) a l) ⟨by unfold inI; decide, ⟨⟨((8 * l.length : Nat) : Int) - 1, F16.int 1⟩, ⟨8 * l.length, rfl, Nat.le_refl _, ?_⟩, ⟨⟨rfl, rfl, rfl, trivial⟩, rfl, rfl, rfl, rfl, ?_, trivial⟩⟩, ?_⟩
    · have hlt := num8_lt hl
      rw [Nat.div_eq_of_lt hlt]
      show F16.of (ofI 1) = F16.of 1
      rw [ofI_one]
    · dsimp only
      rw [i64_eq (x := 8 * (l.length : Int)) (by omega) (by omega), i64_eq (by omega) (by omega)]
      congr 1
    · rintro ⟨xi, xo⟩ ⟨n, h1, h2, h3⟩
      simp only at h1 h3
      subst h1 h3
      refine iteP_intro (fun hb => ?_) (fun hb => ?_)
      · have h0 : (n : Int) - 1 ≥ 0 := of_decide_eq_true hb
        have hbit := bitL_spec hl (i := (n : Int) - 1) (by omega)
        have en : ((n : Int) - 1).toNat = n - 1 := by omega
        rw [en] at hbit
        have hq : num8 l / 2 ^ (n - 1) = 2 * (num8 l / 2 ^ n) + num8 l / 2 ^ (n - 1) % 2 := by
          have e : 2 ^ n = 2 ^ (n - 1) * 2 := by rw [← Nat.pow_succ]; congr 1; omega
          rw [e, ← Nat.div_div_eq_div_mul]; omega
        have e1 : i64 ((n : Int) - 1 - 1) = ((n - 1 : Nat) : Int) - 1 := by rw [i64_eq (by omega) (by omega)]; omega
        dsimp only
        rw [e1, mul_of]
        refine ⟨⟨can_of _, can_of _⟩, ⟨hl, by unfold idxOK; omega⟩, iteP_intro (fun hb => ?_) (fun hb => ?_)⟩
        · have hb1 : num8 l / 2 ^ (n - 1) % 2 = 1 := by
            have : bitL l ((n : Int) - 1) = 1 := by simpa using hb
            omega
          refine ⟨⟨can_of _, ha⟩, ⟨((n - 1 : Nat) : Int) - 1, F16.of (fpow a.fp (num8 l / 2 ^ (n - 1)))⟩, ⟨n - 1, rfl, by omega, rfl⟩, ⟨⟨rfl, rfl, ?_, trivial⟩, rfl, rfl, rfl, rfl, rfl, trivial⟩, ?_⟩
          · dsimp only
            congr 1
            unfold F16.mul
            rw [fp_of, hq, hb1, fpow, ← fpow_add, show num8 l / 2 ^ n + num8 l / 2 ^ n = 2 * (num8 l / 2 ^ n) by omega]
          · unfold pμ; dsimp only; omega
        · have hb1 : num8 l / 2 ^ (n - 1) % 2 = 0 := by
            have : ¬ bitL l ((n : Int) - 1) = 1 := by simpa using hb
            omega
          refine ⟨⟨((n - 1 : Nat) : Int) - 1, F16.of (fpow a.fp (num8 l / 2 ^ (n - 1)))⟩, ⟨n - 1, rfl, by omega, rfl⟩, ⟨⟨rfl, rfl, ?_, trivial⟩, rfl, rfl, rfl, rfl, rfl, trivial⟩, ?_⟩
          · dsimp only
            congr 2
            rw [hq, hb1, ← fpow_add, Nat.add_zero, show num8 l / 2 ^ n + num8 l / 2 ^ n = 2 * (num8 l / 2 ^ n) by omega]
          · unfold pμ; dsimp only; omega
      · have h0 : ¬ (n : Int) - 1 ≥ 0 := of_decide_eq_false hb
        have : n = 0 := by omega
        subst this
        show fV (F16.of (fpow a.fp (num8 l / 2 ^ 0))) = fV (F16.pow a l)
        rw [Nat.pow_zero, Nat.div_one]; rfl)
def F16.inv (a : F16) : F16 := F16.of (finv a.fp)
theorem can_inv (a : F16) : (F16.inv a).can := can_of _
theorem fp_inv (a : F16) : (F16.inv a).fp = finv a.fp := fp_of _
noncomputable def spIv : List (Nat × Spec) := [(n_ref04_Prime, s_Prime), (n_ref03_Sub, s_SubC), (n_ref05_Power, s_Pow)]
theorem spIv_ok : Good prog spIv := .cons ok_Prime (.cons ok_SubC (.cons ok_Pow .nil))
theorem r_FInv (r : F16) (a) : run1 E spIv 20 [] 0 noAnn f_ref05_Inverse ((A1 aF).to a) (meet false fV r) = ((primeB = primeB ∧ ([2] : List Int) = [2]) ∧ (a.1.can ∧ bytesOK invB ∧ small28 invB) ∧ ∀ y, y = F16.pow a.1 invB → fV y = fV r) := by kernel_rfl
def s_FInv : Spec := mk (A1 aF) (some fun a => a.1.can) (fun a => F16.inv a.1) fV true
theorem invB_num : num8 invB = PP - 2 := by decide +kernel
theorem invB_ok : bytesOK invB := by
  intro x hx
  unfold isByte
  simp only [invB, List.mem_cons, List.not_mem_nil, or_false] at hx
  omega
theorem ok_FInv : SpecOK prog n_ref05_Inverse s_FInv :=
  mk_ok (fuel := 20) (depth := 0) (ann := fun _ => noAnn) env_ok mixed spIv_ok FnsOK.nil (by kernel_rfl) (by kernel_rfl) (by kernel_rfl) (notOwn false rfl) (fun a h => by
    have hd : a.1.can := h _ rfl
    refine yes (r_FInv (F16.inv a.1) a) ⟨⟨rfl, rfl⟩, ⟨hd, invB_ok, by unfold small28; decide⟩, fun y hy => ?_⟩
    rw [hy]
    unfold F16.pow F16.inv finv
    rw [invB_num])
end Go.Sx

namespace Go.Sx
open Go.Proofs
set_option maxRecDepth 100000

/-! ### The ladder, over the field -/
structure L4 where
  (x0 z0 x1 z1 : Fp)
def L4.step (u : Fp) (p : L4) : L4 :=
  ⟨(p.x0 + p.z0) * (p.x0 + p.z0) * ((p.x0 - p.z0) * (p.x0 - p.z0)),
   ((p.x0 + p.z0) * (p.x0 + p.z0) - (p.x0 - p.z0) * (p.x0 - p.z0)) * ((p.x0 + p.z0) * (p.x0 + p.z0) + ofI 39081 * ((p.x0 + p.z0) * (p.x0 + p.z0) - (p.x0 - p.z0) * (p.x0 - p.z0))),
   ((p.x1 - p.z1) * (p.x0 + p.z0) + (p.x1 + p.z1) * (p.x0 - p.z0)) * ((p.x1 - p.z1) * (p.x0 + p.z0) + (p.x1 + p.z1) * (p.x0 - p.z0)),
   u * (((p.x1 - p.z1) * (p.x0 + p.z0) - (p.x1 + p.z1) * (p.x0 - p.z0)) * ((p.x1 - p.z1) * (p.x0 + p.z0) - (p.x1 + p.z1) * (p.x0 - p.z0)))⟩
def L4.swap (p : L4) : L4 := ⟨p.x1, p.z1, p.x0, p.z0⟩
def L4.bit (u : Fp) (p : L4) (b : Nat) : L4 := if b = 1 then (p.swap.step u).swap else p.step u
def ladF (u : Fp) : Nat → Nat → L4
  | 0, _ => ⟨1, 0, u, 1⟩
  | f + 1, m => (ladF u f (m / 2)).bit u (m % 2)
def lad0 (p : L4) : Fp := p.x0 * finv p.z0

/-! ### The reference's step -/
structure P4 where
  (x0 z0 x1 z1 : F16)
def P4.toL (p : P4) : List Int := p.x0.toL ++ (p.z0.toL ++ (p.x1.toL ++ p.z1.toL))
def P4.ofL (l : List Int) : P4 := ⟨F16.ofL (l.take 16), F16.ofL ((l.drop 16).take 16), F16.ofL ((l.drop 32).take 16), F16.ofL ((l.drop 48).take 16)⟩
theorem P4.back (l : List Int) (h : l.length = 64) : (P4.ofL l).toL = l := by
  unfold P4.toL P4.ofL
  simp only
  rw [toL_ofL16 (by rw [List.length_take]; omega), toL_ofL16 (by rw [List.length_take, List.length_drop]; omega), toL_ofL16 (by rw [List.length_take, List.length_drop]; omega), toL_ofL16 (by rw [List.length_take, List.length_drop]; omega)]
  have e3 : (l.drop 48).take 16 = l.drop 48 := List.take_of_length_le (by rw [List.length_drop]; omega)
  have e2 : (l.drop 32).take 16 ++ l.drop 48 = l.drop 32 := by
    have := List.take_append_drop 16 (l.drop 32)
    rwa [List.drop_drop] at this
  have e1 : (l.drop 16).take 16 ++ l.drop 32 = l.drop 16 := by
    have := List.take_append_drop 16 (l.drop 16)
    rwa [List.drop_drop] at this
  rw [e3, e2, e1, List.take_append_drop]
def aP4 : Arg P4 := aArr .i64 64 P4.ofL P4.toL P4.back (fun _ => rfl)
def p4V (p : P4) : V := .ints .i64 p.toL
def P4.can (p : P4) : Prop := p.x0.can ∧ p.z0.can ∧ p.x1.can ∧ p.z1.can
def P4.l4 (p : P4) : L4 := ⟨p.x0.fp, p.z0.fp, p.x1.fp, p.z1.fp⟩
def P4.of (p : L4) : P4 := ⟨F16.of p.x0, F16.of p.z0, F16.of p.x1, F16.of p.z1⟩
theorem P4.can_of (p : L4) : (P4.of p).can := ⟨Go.Sx.can_of _, Go.Sx.can_of _, Go.Sx.can_of _, Go.Sx.can_of _⟩
theorem P4.l4_of (p : L4) : (P4.of p).l4 = p := by
  unfold P4.l4 P4.of
  simp only [fp_of]
noncomputable def spSt : List (Nat × Spec) := [(n_ref04_Int, s_FInt), (n_ref04_Mul, s_FMul), (n_ref04_Add, s_FAdd), (n_ref04_Sub, s_FSub)]
theorem spSt_ok : Good prog spSt := .cons ok_FInt (.cons ok_FMul (.cons ok_FAdd (.cons ok_FSub .nil)))
def stepFA (p : P4) : F16 := F16.add p.x0 p.z0
def stepFB (p : P4) : F16 := F16.sub p.x0 p.z0
def stepFS (p : P4) : F16 := F16.mul (F16.sub p.x1 p.z1) (stepFA p)
def stepFT (p : P4) : F16 := F16.mul (F16.add p.x1 p.z1) (stepFB p)
def stepFW (p : P4) : F16 := F16.sub (F16.mul (stepFA p) (stepFA p)) (F16.mul (stepFB p) (stepFB p))
def stepFR (u : F16) (p : P4) : P4 :=
  ⟨F16.mul (F16.mul (stepFA p) (stepFA p)) (F16.mul (stepFB p) (stepFB p)),
   F16.mul (stepFW p) (F16.add (F16.mul (stepFA p) (stepFA p)) (F16.mul (F16.int 39081) (stepFW p))),
   F16.mul (F16.add (stepFS p) (stepFT p)) (F16.add (stepFS p) (stepFT p)),
   F16.mul u (F16.mul (F16.sub (stepFS p) (stepFT p)) (F16.sub (stepFS p) (stepFT p)))⟩
theorem r_StepF (r : P4) (u : F16) (p : P4) : run1 E spSt 20 [] 0 noAnn f_ref10_Step ((A2 aF aP4).to (u, p, ())) (meet false p4V r) =
    C2 p.x0 p.z0 (C2 p.x0 p.z0 (C2 p.x1 p.z1 (C2 (F16.sub p.x1 p.z1) (stepFA p) (C2 p.x1 p.z1 (C2 (F16.add p.x1 p.z1) (stepFB p) (C2 (stepFA p) (stepFA p) (C2 (stepFB p) (stepFB p)
      (C2 (F16.mul (stepFA p) (stepFA p)) (F16.mul (stepFB p) (stepFB p)) (C2 (stepFS p) (stepFT p) (C2 (stepFS p) (stepFT p)
      (C2 (F16.mul (stepFA p) (stepFA p)) (F16.mul (stepFB p) (stepFB p)) (inI 39081 ∧ C2 (F16.int 39081) (stepFW p) (C2 (F16.mul (stepFA p) (stepFA p)) (F16.mul (F16.int 39081) (stepFW p))
      (C2 (stepFW p) (F16.add (F16.mul (stepFA p) (stepFA p)) (F16.mul (F16.int 39081) (stepFW p))) (C2 (F16.add (stepFS p) (stepFT p)) (F16.add (stepFS p) (stepFT p))
      (C2 (F16.sub (stepFS p) (stepFT p)) (F16.sub (stepFS p) (stepFT p)) (C2 u (F16.mul (F16.sub (stepFS p) (stepFT p)) (F16.sub (stepFS p) (stepFT p)))
      (p4V (stepFR u p) = p4V r)))))))))))))))))) := by kernel_rfl
def s_StepF : Spec := mk (A2 aF aP4) (some fun a => a.1.can ∧ a.2.1.can) (fun a => P4.of (a.2.1.l4.step a.1.fp)) p4V
theorem ok_StepF : SpecOK prog n_ref10_Step s_StepF :=
  mk_ok (fuel := 20) (depth := 0) (ann := fun _ => noAnn) env_ok mixed spSt_ok FnsOK.nil (by kernel_rfl) (by kernel_rfl) (by kernel_rfl) (notOwn false rfl) (fun a h => by
    obtain ⟨u, p, ⟨⟩⟩ := a
    have hd : u.can ∧ p.can := h _ rfl
    obtain ⟨hu, h1, h2, h3, h4⟩ := hd
    refine yes (r_StepF (P4.of (p.l4.step u.fp)) u p) ?_
    have ei : inI 39081 := by unfold inI; decide
    have e : stepFR u p = P4.of (p.l4.step u.fp) := by
      simp only [stepFR, stepFA, stepFB, stepFS, stepFT, stepFW, P4.of, L4.step, P4.l4, F16.mul, F16.add, F16.sub, F16.int, fp_of]
    simp only [C2, hu, h1, h2, h3, h4, ei, e, stepFA, stepFB, stepFS, stepFT, stepFW, can_add, can_sub, can_mul, can_int, and_self])

/-! ### The reference's ladder -/
structure LX where
  i : Int
  p : P4
def annLadF (pre : LX → Prop) (μ : LX → Nat) (k : List Int) (u : F16) : Nat → Option Ann := fun id => match id with
  | 0 => some ⟨LX, fun _ x => ⟨[(0, .rs false (.ints .u8 k)), (3, .ptr 0 0 0), (4, .ptr 1 0 0), (5, .ptr 6 0 0), (6, .int .i64 x.i)], [(0, ⟨false, 0, fV u⟩), (1, ⟨false, 0, .ints .i64 (zl 16)⟩), (6, ⟨false, 0, p4V x.p⟩)], 7⟩, fun _ => pre, μ⟩
  | _ => none
def fitLF (k : List Int) (u : F16) (p : P4) (i : Int) (x : LX) : Prop :=
  eqs [(fV u, fV u), (.ints .i64 (zl 16), .ints .i64 (zl 16)), (p4V p, p4V x.p)] ∧ eqs [(.rs false (.ints .u8 k), .rs false (.ints .u8 k)), (.ptr 0 0 0, .ptr 0 0 0), (.ptr 1 0 0, .ptr 1 0 0), (.ptr 6 0 0, .ptr 6 0 0), (.int .i64 i, .int .i64 x.i)]
noncomputable def spLF : List (Nat × Spec) := [(n_ref04_Int, s_FInt), (n_ref03_Len, s_Len), (n_ref03_Bit, s_Bit), (n_ref10_Step, s_StepF), (n_ref05_Inverse, s_FInv), (n_ref04_Mul, s_FMul)]
theorem spLF_ok : Good prog spLF := .cons ok_FInt (.cons ok_Len (.cons ok_Bit (.cons ok_StepF (.cons ok_FInv (.cons ok_FMul .nil)))))
def z16 : F16 := ⟨0, 0, 0, 0, 0, 0, 0, 0, 0, 0, 0, 0, 0, 0, 0, 0⟩
def P4.swap (p : P4) : P4 := ⟨p.x1, p.z1, p.x0, p.z0⟩
def P4.step (u : F16) (p : P4) : P4 := P4.of (p.l4.step u.fp)
theorem r_LadF (pre : LX → Prop) (μ : LX → Nat) (r u : F16) (k : List Int) : run1 E spLF 20 [] 0 (annLadF pre μ k u) f_ref10_Ladder ((A2 aBytes aF).to (k, u, ())) (meet false fV r) =
    (inI 1 ∧ inI 1 ∧ (bytesOK k ∧ small28 k) ∧ (∃ x, pre x ∧ fitLF k u ⟨F16.int 1, z16, u, F16.int 1⟩ (i64 (lenL k - 1)) x) ∧ ∀ x, pre x → iteP (decide (x.i ≥ 0))
      ((bytesOK k ∧ idxOK x.i) ∧ iteP (bitL k x.i == 1)
        ((u.can ∧ x.p.swap.can) ∧ ∃ x', pre x' ∧ fitLF k u (P4.step u x.p.swap).swap (i64 (x.i - 1)) x' ∧ μ x' < μ x)
        ((u.can ∧ x.p.can) ∧ ∃ x', pre x' ∧ fitLF k u (P4.step u x.p) (i64 (x.i - 1)) x' ∧ μ x' < μ x))
      (x.p.z0.can ∧ ∀ y, y = F16.inv x.p.z0 → C2 x.p.x0 y (fV (F16.mul x.p.x0 y) = fV r))) := by kernel_rfl
end Go.Sx

namespace Go.Sx
open Go.Proofs
set_option maxRecDepth 100000

theorem lenN_le (l : List Int) : ∀ n, lenN l n ≤ n
  | 0 => Nat.le_refl _
  | n + 1 => by
    unfold lenN
    split
    · exact Nat.le_trans (lenN_le l n) (Nat.le_succ n)
    · exact Nat.le_refl _
theorem lenN_spec {l : List Int} (h : bytesOK l) : ∀ n, num8 l < 2 ^ n → num8 l < 2 ^ lenN l n
  | 0, hn => hn
  | n + 1, hn => by
    unfold lenN
    split
    · rename_i hz
      refine lenN_spec h n ?_
      rw [bitL_spec h (by omega)] at hz
      have e : ((n : Nat) : Int).toNat = n := by omega
      rw [e] at hz
      rw [Nat.pow_succ] at hn
      have h1 : num8 l / 2 ^ n < 2 := Nat.div_lt_of_lt_mul (by omega)
      have h2 : num8 l / 2 ^ n = 0 := by
        generalize num8 l / 2 ^ n = q at hz h1
        omega
      have h3 : 0 < 2 ^ n := Nat.pow_pos (by decide)
      rcases Nat.div_eq_zero_iff.1 h2 with h | h
      · omega
      · exact h
    · exact hn
/-- What the reference's ladder comes to. -/
def ladR (k : List Int) (u : Fp) : Fp := lad0 (ladF u (lenN k (8 * k.length)) (num8 k))
def F16.lad (k : List Int) (u : F16) : F16 := F16.of (ladR k u.fp)
theorem can_lad (k : List Int) (u : F16) : (F16.lad k u).can := can_of _
theorem fp_lad (k : List Int) (u : F16) : (F16.lad k u).fp = ladR k u.fp := fp_of _
def lfPre (k : List Int) (u : F16) (x : LX) : Prop := ∃ n f : Nat, x.i = (n : Int) - 1 ∧ n + f = lenN k (8 * k.length) ∧ x.p = P4.of (ladF u.fp f (num8 k / 2 ^ n))
def lfμ (x : LX) : Nat := (x.i + 1).toNat
theorem z16_of : F16.of 0 = z16 := by kernel_rfl
def s_LadF : Spec := mk (A2 aBytes aF) (some fun a => bytesOK a.1 ∧ small28 a.1 ∧ a.2.1.can) (fun a => F16.lad a.1 a.2.1) fV true
theorem P4.swap_of (q : L4) : (P4.of q).swap = P4.of q.swap := rfl
theorem ok_LadF : SpecOK prog n_ref10_Ladder s_LadF :=
  mk_ok (fuel := 20) (depth := 0) (ann := fun a => annLadF (lfPre a.1 a.2.1) lfμ a.1 a.2.1) env_ok mixed spLF_ok FnsOK.nil (by kernel_rfl) (by kernel_rfl) (by kernel_rfl) (notOwn false rfl) (fun a h => by
    obtain ⟨k, u, ⟨⟩⟩ := a
    have hd : bytesOK k ∧ small28 k ∧ u.can := h _ rfl
    obtain ⟨hk, hs, hu⟩ := hd
    have hs' := hs
    unfold small28 at hs'
    have hle := lenN_le k (8 * k.length)
    have i1 : inI 1 := by unfold inI; decide
    refine yes (r_LadF (lfPre k u) lfμ (F16.lad k u) u k) ⟨i1, i1, ⟨hk, hs⟩, ⟨⟨(lenN k (8 * k.length) : Int) - 1, ⟨F16.int 1, z16, u, F16.int 1⟩⟩, ⟨lenN k (8 * k.length), 0, rfl, rfl, ?_⟩, ⟨⟨rfl, rfl, rfl, trivial⟩, rfl, rfl, rfl, rfl, ?_, trivial⟩⟩, ?_⟩
    · show (⟨F16.int 1, z16, u, F16.int 1⟩ : P4) = ⟨F16.of 1, F16.of 0, F16.of u.fp, F16.of 1⟩
      rw [z16_of, ← hu.eq]
      unfold F16.int
      rw [ofI_one]
    · dsimp only
      unfold lenL
      rw [i64_eq (by omega) (by omega)]
    · rintro ⟨xi, xp⟩ ⟨n, f, h1, h2, h3⟩
      simp only at h1 h3
      subst h1 h3
      refine iteP_intro (fun hb => ?_) (fun hb => ?_)
      · have h0 : (n : Int) - 1 ≥ 0 := of_decide_eq_true hb
        have hbit := bitL_spec hk (i := (n : Int) - 1) (by omega)
        have en : ((n : Int) - 1).toNat = n - 1 := by omega
        rw [en] at hbit
        have e1 : i64 ((n : Int) - 1 - 1) = ((n - 1 : Nat) : Int) - 1 := by rw [i64_eq (by omega) (by omega)]; omega
        have hq : num8 k / 2 ^ (n - 1) / 2 = num8 k / 2 ^ n := by
          have e : 2 ^ n = 2 ^ (n - 1) * 2 := by rw [← Nat.pow_succ]; congr 1; omega
          rw [e, ← Nat.div_div_eq_div_mul]
        have hx : ladF u.fp (f + 1) (num8 k / 2 ^ (n - 1)) = (ladF u.fp f (num8 k / 2 ^ n)).bit u.fp (num8 k / 2 ^ (n - 1) % 2) := by
          rw [ladF, hq]
        dsimp only
        rw [e1]
        refine ⟨⟨hk, by unfold idxOK; omega⟩, iteP_intro (fun hb => ?_) (fun hb => ?_)⟩
        · have hb1 : num8 k / 2 ^ (n - 1) % 2 = 1 := by
            have : bitL k ((n : Int) - 1) = 1 := by simpa using hb
            omega
          refine ⟨⟨hu, by rw [P4.swap_of]; exact P4.can_of _⟩, ⟨((n - 1 : Nat) : Int) - 1, P4.of (ladF u.fp (f + 1) (num8 k / 2 ^ (n - 1)))⟩, ⟨n - 1, f + 1, rfl, by omega, rfl⟩, ⟨⟨rfl, rfl, ?_, trivial⟩, rfl, rfl, rfl, rfl, rfl, trivial⟩, ?_⟩
          · dsimp only
            rw [hx, hb1, L4.bit, if_pos rfl, P4.swap_of]
            unfold P4.step
            rw [P4.l4_of, P4.swap_of]
          · unfold lfμ; dsimp only; omega
        · have hb1 : num8 k / 2 ^ (n - 1) % 2 = 0 := by
            have : ¬ bitL k ((n : Int) - 1) = 1 := by simpa using hb
            omega
          refine ⟨⟨hu, P4.can_of _⟩, ⟨((n - 1 : Nat) : Int) - 1, P4.of (ladF u.fp (f + 1) (num8 k / 2 ^ (n - 1)))⟩, ⟨n - 1, f + 1, rfl, by omega, rfl⟩, ⟨⟨rfl, rfl, ?_, trivial⟩, rfl, rfl, rfl, rfl, rfl, trivial⟩, ?_⟩
          · dsimp only
            rw [hx, hb1, L4.bit, if_neg (by decide)]
            unfold P4.step
            rw [P4.l4_of]
          · unfold lfμ; dsimp only; omega
      · have h0 : ¬ (n : Int) - 1 ≥ 0 := of_decide_eq_false hb
        have hn0 : n = 0 := by omega
        subst hn0
        have hf : f = lenN k (8 * k.length) := by omega
        subst hf
        dsimp only
        refine ⟨can_of _, fun y hy => ⟨⟨can_of _, by rw [hy]; exact can_of _⟩, ?_⟩⟩
        rw [hy, Nat.pow_zero, Nat.div_one]
        unfold P4.of F16.inv F16.lad ladR lad0
        dsimp only
        rw [fp_of, mul_of])

/-! ### Clamp -/
def clampF (l : List Int) : List Int :=
  let l1 := setL l 0 (wr .u8 (wr .u8 ((l.getD 0 0).tdiv 4) * 4))
  setL l1 55 (wr .u8 ((l1.getD 55 0).tmod 128 + 128))
def andOrOK : Bool := (List.range 256).all fun n => decide (andOr8 (n : Int) 252 0 = (n : Int) / 4 * 4) && decide (andOr8 (n : Int) 255 128 = (n : Int) % 128 + 128)
theorem andOr_all : andOrOK = true := by kernel_rfl
theorem andOr_eq {x : Int} (hx : 0 ≤ x) (hx2 : x < 256) : andOr8 x 252 0 = x / 4 * 4 ∧ andOr8 x 255 128 = x % 128 + 128 := by
  have h := andOr_all
  unfold andOrOK at h
  rw [List.all_eq_true] at h
  have key := h x.toNat (List.mem_range.2 (by omega))
  clear h
  simp only [Bool.and_eq_true, decide_eq_true_eq] at key
  rw [Int.toNat_of_nonneg hx] at key
  exact key
def clampS (l : List Int) : List Int := setL (setL l 0 (l.getD 0 0 / 4 * 4)) 55 (l.getD 55 0 % 128 + 128)
theorem clampL_eq {l : List Int} (hl : l.length = 56) (h : bytesOK l) : clampL l = clampS l := by
  have h0 := getD_byte h 0
  have h55 := getD_byte h 55
  unfold isByte at h0 h55
  unfold clampL clampS
  dsimp only
  rw [setL_get 0 _ _ _ _ (by omega), if_neg (by decide), (andOr_eq h0.1 h0.2).1, (andOr_eq h55.1 h55.2).2]
theorem clampF_eq {l : List Int} (hl : l.length = 56) (h : bytesOK l) : clampF l = clampS l := by
  have h0 := getD_byte h 0
  have h55 := getD_byte h 55
  unfold isByte at h0 h55
  unfold clampF clampS
  dsimp only
  rw [setL_get 0 _ _ _ _ (by omega), if_neg (by decide), Int.tdiv_eq_ediv_of_nonneg h0.1, Int.tmod_eq_emod_of_nonneg h55.1, wr_u8, wr_u8, wr_u8]
  generalize l.getD 0 0 = x at *
  generalize l.getD 55 0 = y at *
  have e1 : (x / 4 % 256 * 4) % 256 = x / 4 * 4 := by omega
  have e2 : (y % 128 + 128) % 256 = y % 128 + 128 := by omega
  rw [e1, e2]
theorem clampS_get {l : List Int} (hl : l.length = 56) (j : Nat) : (clampS l).getD j 0 = if j = 55 then l.getD 55 0 % 128 + 128 else if j = 0 then l.getD 0 0 / 4 * 4 else l.getD j 0 := by
  unfold clampS
  rw [setL_get 0 _ _ _ _ (by rw [setL_len]; omega), setL_get 0 _ _ _ _ (by omega)]
theorem clampS_len {l : List Int} (hl : l.length = 56) : (clampS l).length = 56 := by
  unfold clampS
  rw [setL_len, setL_len]; exact hl
theorem clampS_ok {l : List Int} (hl : l.length = 56) (h : bytesOK l) : bytesOK (clampS l) := by
  intro x hx
  obtain ⟨j, hj, rfl⟩ := List.getElem_of_mem hx
  have := clampS_get hl j
  rw [List.getD_eq_getElem?_getD, List.getElem?_eq_getElem hj] at this
  have e : (clampS l)[j] = if j = 55 then l.getD 55 0 % 128 + 128 else if j = 0 then l.getD 0 0 / 4 * 4 else l.getD j 0 := this
  rw [e]
  have hb := getD_byte h j
  have h0 := getD_byte h 0
  have h55 := getD_byte h 55
  unfold isByte at *
  split
  · omega
  · split <;> omega
theorem top_bit {m b : Nat} (h : m / 256 ^ 55 % 256 = b) (hb : 128 ≤ b) : 2 ^ 447 ≤ m := by
  have h1 : 128 ≤ m / 256 ^ 55 := Nat.le_trans hb (by rw [← h]; exact Nat.mod_le _ _)
  have h2 : 128 * 256 ^ 55 ≤ m := (Nat.le_div_iff_mul_le (Nat.pow_pos (by decide))).1 h1
  have e : (2 : Nat) ^ 447 = 128 * 256 ^ 55 := by kernel_rfl
  rw [e]; exact h2
theorem clampS_top {l : List Int} (hl : l.length = 56) (h : bytesOK l) : 2 ^ 447 ≤ num8 (clampS l) := by
  have h1 := num8_byte (clampS_ok hl h) 55
  rw [clampS_get hl 55, if_pos rfl] at h1
  refine top_bit h1 ?_
  have h55 := getD_byte h 55
  unfold isByte at h55
  omega
theorem clampS_four {l : List Int} (hl : l.length = 56) (h : bytesOK l) : num8 (clampS l) % 4 = 0 := by
  have h1 := num8_byte (clampS_ok hl h) 0
  rw [clampS_get hl 0, if_neg (by decide), if_pos rfl] at h1
  rw [Nat.pow_zero, Nat.div_one] at h1
  have h0 := getD_byte h 0
  unfold isByte at h0
  omega
theorem r_ClampF (b0 b1 b2 b3 b4 b5 b6 b7 b8 b9 b10 b11 b12 b13 b14 b15 b16 b17 b18 b19 b20 b21 b22 b23 b24 b25 b26 b27 b28 b29 b30 b31 b32 b33 b34 b35 b36 b37 b38 b39 b40 b41 b42 b43 b44 b45 b46 b47 b48 b49 b50 b51 b52 b53 b54 b55 : Int) : run1 E [] 20 [] 0 noAnn f_ref06_Clamp ((A1 aBytes).to ([b0, b1, b2, b3, b4, b5, b6, b7, b8, b9, b10, b11, b12, b13, b14, b15, b16, b17, b18, b19, b20, b21, b22, b23, b24, b25, b26, b27, b28, b29, b30, b31, b32, b33, b34, b35, b36, b37, b38, b39, b40, b41, b42, b43, b44, b45, b46, b47, b48, b49, b50, b51, b52, b53, b54, b55], ())) (meet true bytesV (clampF [b0, b1, b2, b3, b4, b5, b6, b7, b8, b9, b10, b11, b12, b13, b14, b15, b16, b17, b18, b19, b20, b21, b22, b23, b24, b25, b26, b27, b28, b29, b30, b31, b32, b33, b34, b35, b36, b37, b38, b39, b40, b41, b42, b43, b44, b45, b46, b47, b48, b49, b50, b51, b52, b53, b54, b55])) = (bytesV (clampF [b0, b1, b2, b3, b4, b5, b6, b7, b8, b9, b10, b11, b12, b13, b14, b15, b16, b17, b18, b19, b20, b21, b22, b23, b24, b25, b26, b27, b28, b29, b30, b31, b32, b33, b34, b35, b36, b37, b38, b39, b40, b41, b42, b43, b44, b45, b46, b47, b48, b49, b50, b51, b52, b53, b54, b55]) = bytesV (clampF [b0, b1, b2, b3, b4, b5, b6, b7, b8, b9, b10, b11, b12, b13, b14, b15, b16, b17, b18, b19, b20, b21, b22, b23, b24, b25, b26, b27, b28, b29, b30, b31, b32, b33, b34, b35, b36, b37, b38, b39, b40, b41, b42, b43, b44, b45, b46, b47, b48, b49, b50, b51, b52, b53, b54, b55])) := by kernel_rfl
def s_ClampF : Spec := mk (A1 aBytes) (some fun a => a.1.length = 56) (fun a => clampF a.1) bytesV false true
theorem ok_ClampF : SpecOK prog n_ref06_Clamp s_ClampF :=
  mk_ok (fuel := 20) (depth := 0) (ann := fun _ => noAnn) env_ok mixed Good.nil FnsOK.nil (by kernel_rfl) (by kernel_rfl) (by kernel_rfl) (fun _ y => ⟨_, rfl⟩) (fun a h => by
    obtain ⟨l, ⟨⟩⟩ := a
    have hl : l.length = 56 := h _ rfl
    exact list56 (P := fun l => run1 E [] 20 [] 0 noAnn f_ref06_Clamp ((A1 aBytes).to (l, ())) (meet true bytesV (clampF l))) (fun b0 b1 b2 b3 b4 b5 b6 b7 b8 b9 b10 b11 b12 b13 b14 b15 b16 b17 b18 b19 b20 b21 b22 b23 b24 b25 b26 b27 b28 b29 b30 b31 b32 b33 b34 b35 b36 b37 b38 b39 b40 b41 b42 b43 b44 b45 b46 b47 b48 b49 b50 b51 b52 b53 b54 b55 => yes (r_ClampF b0 b1 b2 b3 b4 b5 b6 b7 b8 b9 b10 b11 b12 b13 b14 b15 b16 b17 b18 b19 b20 b21 b22 b23 b24 b25 b26 b27 b28 b29 b30 b31 b32 b33 b34 b35 b36 b37 b38 b39 b40 b41 b42 b43 b44 b45 b46 b47 b48 b49 b50 b51 b52 b53 b54 b55) rfl) l hl)
end Go.Sx

namespace Go.Sx
open Go.Proofs
set_option maxRecDepth 100000

/-! ### The program's ladder means the ladder -/
def E2.ok (p : E2) : Prop := p.a.ok ∧ p.b.ok
def toL4 (x z : E2) : L4 := ⟨x.a.v, z.a.v, x.b.v, z.b.v⟩
theorem i39081 : inI 39081 := by unfold inI; decide
theorem ladStep_spec {u : El} {x z : E2} (hu : u.ok) (hx : x.ok) (hz : z.ok) : (ladStep u x z).1.ok ∧ (ladStep u x z).2.ok ∧ toL4 (ladStep u x z).1 (ladStep u x z).2 = (toL4 x z).step u.v := by
  have a := add_spec hx.1 hz.1
  have b := sub_spec hx.1 hz.1
  have s0 := sub_spec hx.2 hz.2
  have s := mul_spec s0.1 a.1
  have t0 := add_spec hx.2 hz.2
  have t := mul_spec t0.1 b.1
  have aa := square_spec a.1
  have bb := square_spec b.1
  have w := sub_spec aa.1 bb.1
  have ab := mul_spec aa.1 bb.1
  have tw := times_spec (n := 39081) w.1 i39081
  have aw := add_spec aa.1 tw.1
  have zz := mul_spec w.1 aw.1
  have st := add_spec s.1 t.1
  have st2 := square_spec st.1
  have dd := sub_spec s.1 t.1
  have dd2 := square_spec dd.1
  have ud := mul_spec hu dd2.1
  refine ⟨⟨ab.1, st2.1⟩, ⟨zz.1, ud.1⟩, ?_⟩
  have e1 := ab.2
  rw [aa.2, bb.2, a.2, b.2] at e1
  have e2 := zz.2
  rw [aw.2, tw.2, w.2, aa.2, bb.2, a.2, b.2] at e2
  have e3 := st2.2
  rw [st.2, s.2, t.2, s0.2, t0.2, a.2, b.2] at e3
  have e4 := ud.2
  rw [dd2.2, dd.2, s.2, t.2, s0.2, t0.2, a.2, b.2] at e4
  have hl : toL4 (ladStep u x z).1 (ladStep u x z).2 = ⟨(El.mul (El.square (El.add x.a z.a)) (El.square (El.sub x.a z.a))).v, (El.mul (El.sub (El.square (El.add x.a z.a)) (El.square (El.sub x.a z.a))) (El.add (El.square (El.add x.a z.a)) (El.times (El.sub (El.square (El.add x.a z.a)) (El.square (El.sub x.a z.a))) 39081))).v, (El.square (El.add (El.mul (El.sub x.b z.b) (El.add x.a z.a)) (El.mul (El.add x.b z.b) (El.sub x.a z.a)))).v, (El.mul u (El.square (El.sub (El.mul (El.sub x.b z.b) (El.add x.a z.a)) (El.mul (El.add x.b z.b) (El.sub x.a z.a))))).v⟩ := rfl
  have ec : ∀ x y z : Fp, x * (y + x * z) = x * (y + z * x) := by intro x y z; grobner
  rw [ec] at e2
  rw [hl, e1, e2, e3, e4]
  unfold L4.step toL4
  dsimp only
theorem swap_spec {p : E2} (hp : p.ok) (bit : Int) : (p.swap bit).ok ∧ (p.swap bit).a = (if bit % 2 = 0 then p.a else p.b) ∧ (p.swap bit).b = (if bit % 2 = 0 then p.b else p.a) := by
  unfold E2.swap
  dsimp only
  rw [select_spec bit hp.1 hp.2, select_spec bit hp.2 hp.1]
  refine ⟨?_, rfl, rfl⟩
  split
  · exact ⟨hp.1, hp.2⟩
  · exact ⟨hp.2, hp.1⟩
theorem bits8 (x : Int) (n : Nat) (hx : isByte x) (hn : n < 8) : bits2 .and .u8 (shrI .u8 x (n : Int)) 1 = x / 2 ^ n % 2 := by
  unfold isByte at hx
  have e1 : shrI .u8 x (n : Int) = x / 2 ^ n := by
    unfold shrI
    simp only [IntKind.bits]
    rw [Int.toNat_natCast, Nat.min_eq_left (by omega), Int.fdiv_eq_ediv_of_nonneg _ (Int.le_of_lt (Int.pow_pos (by decide)))]
  rw [e1]
  have h0 : 0 ≤ x / 2 ^ n := Int.ediv_nonneg hx.1 (Int.le_of_lt (Int.pow_pos (by decide)))
  have h1 : x / 2 ^ n < 256 := Int.lt_of_le_of_lt (Int.ediv_le_self _ hx.1) hx.2
  generalize x / 2 ^ n = y at h0 h1
  have e2 : bits2 .and .u8 y 1 = wr .u8 (((BitVec.ofInt 8 y &&& BitVec.ofInt 8 1).toNat : Nat) : Int) := rfl
  have e3 : BitVec.ofInt 8 y = BitVec.ofNat 8 y.toNat := by
    apply BitVec.eq_of_toNat_eq; simp; omega
  have e4 : (BitVec.ofNat 8 y.toNat &&& BitVec.ofInt 8 1).toNat = y.toNat % 2 := by
    have e5 : BitVec.ofInt 8 1 = 1#8 := by decide
    rw [BitVec.toNat_and, e5, BitVec.toNat_ofNat, BitVec.toNat_ofNat, Nat.mod_eq_of_lt (by omega : y.toNat < 2 ^ 8)]
    simp
  rw [e2, e3, e4, wr_u8]
  omega
theorem bitV_spec {l : List Int} (h : bytesOK l) {i : Int} (h0 : 0 ≤ i) (h1 : i < 4611686018427387904) : bitV l i = (num8 l / 2 ^ i.toNat % 2 : Nat) := by
  rw [← bitL_spec h h0]
  unfold bitV bitL
  rw [decide_eq_false (by omega)]
  simp only
  rw [atL_spec h (by omega), Int.toNat_natCast, num8_byte h]
  have e1 : wr .i64 (i.tdiv 8) = i / 8 := by
    rw [Int.tdiv_eq_ediv_of_nonneg h0]; exact wr_i64 (by omega) (by omega)
  have e2 : i.tmod 8 = ((i % 8).toNat : Int) := by rw [Int.tmod_eq_emod_of_nonneg h0]; omega
  have hb := getD_byte h (i / 8).toNat
  have hm : (i % 8).toNat < 8 := by omega
  rw [e1, e2, bits8 _ _ hb hm]
  unfold isByte at hb
  generalize l.getD (i / 8).toNat 0 = x at hb
  have e3 : x = (x.toNat : Int) := by omega
  rw [e3]
  generalize x.toNat = m
  generalize (i % 8).toNat = k
  have e4 : ((m : Int) / 2 ^ k % 2) = ((m / 2 ^ k % 2 : Nat) : Int) := by simp
  rw [e4, Int.toNat_natCast]
  have : m / 2 ^ k % 2 < 2 := Nat.mod_lt _ (by decide)
  exact wr_i64 (by omega) (by omega)
theorem xor01 {a b : Int} (ha : a = 0 ∨ a = 1) (hb : b = 0 ∨ b = 1) : xor63 a b = if a = b then 0 else 1 := by
  rcases ha with rfl | rfl <;> rcases hb with rfl | rfl <;> decide
def L4.sw (b : Int) (p : L4) : L4 := if b = 1 then p.swap else p
theorem L4.swap_swap (p : L4) : p.swap.swap = p := rfl
theorem toL4_swap {x z : E2} (hx : x.ok) (hz : z.ok) {b last : Int} (hb : b = 0 ∨ b = 1) (hl : last = 0 ∨ last = 1) : toL4 (x.swap (xor63 b last)) (z.swap (xor63 b last)) = ((toL4 x z).sw last).sw b := by
  unfold toL4
  rw [(swap_spec hx _).2.1, (swap_spec hx _).2.2, (swap_spec hz _).2.1, (swap_spec hz _).2.2, xor01 hb hl]
  rcases hb with rfl | rfl <;> rcases hl with rfl | rfl <;> simp [L4.sw, L4.swap]
theorem bit_01 {l : List Int} (h : bytesOK l) (i : Int) (hi : i < 4611686018427387904) : ladBit l i = 0 ∨ ladBit l i = 1 := by
  unfold ladBit
  by_cases h0 : i ≥ 0
  · rw [decide_eq_true h0]
    simp only
    rw [bitV_spec h h0 hi]; omega
  · rw [decide_eq_false h0]; exact .inl rfl
theorem ladAt_spec {l : List Int} {u : El} (h : bytesOK l) (hu : u.ok) (hs : l.length ≤ 64) : ∀ n, n ≤ 8 * l.length → (ladAt l u n).x.ok ∧ (ladAt l u n).z.ok ∧ ((ladAt l u n).last = 0 ∨ (ladAt l u n).last = 1) ∧
    (toL4 (ladAt l u n).x (ladAt l u n).z).sw (ladAt l u n).last = ladF u.v n (num8 l / 2 ^ (8 * l.length - n))
  | 0, _ => by
    have i0 := int_spec (n := 0) (by unfold inI; decide)
    have i1 := int_spec (n := 1) (by unfold inI; decide)
    refine ⟨⟨i1.1, hu⟩, ⟨i0.1, i1.1⟩, .inl rfl, ?_⟩
    show (⟨(El.int 1).v, (El.int 0).v, u.v, (El.int 1).v⟩ : L4) = ⟨1, 0, u.v, 1⟩
    rw [i0.2, i1.2, ofI_zero, ofI_one]
  | n + 1, hn => by
    obtain ⟨hx, hz, hl, he⟩ := ladAt_spec h hu hs n (by omega)
    have hi := ladAt_i l u n
    have hb := bit_01 h (ladAt l u n).i (by omega)
    have hsx := (swap_spec hx (xor63 (ladBit l (ladAt l u n).i) (ladAt l u n).last)).1
    have hsz := (swap_spec hz (xor63 (ladBit l (ladAt l u n).i) (ladAt l u n).last)).1
    obtain ⟨s1, s2, s3⟩ := ladStep_spec hu hsx hsz
    refine ⟨s1, s2, hb, ?_⟩
    show (toL4 (ladStep u _ _).1 (ladStep u _ _).2).sw (ladBit l (ladAt l u n).i) = _
    rw [s3, toL4_swap hx hz hb hl, he]
    have e1 : ladBit l (ladAt l u n).i = ((num8 l / 2 ^ (8 * l.length - (n + 1)) % 2 : Nat) : Int) := by
      unfold ladBit
      rw [decide_eq_true (by omega)]
      simp only
      have et : (ladAt l u n).i.toNat = 8 * l.length - (n + 1) := by omega
      rw [bitV_spec h (by omega) (by omega), et]
    have e2 : num8 l / 2 ^ (8 * l.length - (n + 1)) / 2 = num8 l / 2 ^ (8 * l.length - n) := by
      rw [Nat.div_div_eq_div_mul, ← Nat.pow_succ]; congr 2; omega
    rw [ladF, e2, e1]
    generalize ladF u.v n (num8 l / 2 ^ (8 * l.length - n)) = p
    have : num8 l / 2 ^ (8 * l.length - (n + 1)) % 2 < 2 := Nat.mod_lt _ (by decide)
    generalize num8 l / 2 ^ (8 * l.length - (n + 1)) % 2 = b at this
    unfold L4.bit L4.sw
    rcases (show b = 0 ∨ b = 1 by omega) with rfl | rfl <;> simp
/-- What the program's ladder comes to. -/
def ladP (k : List Int) (u : Fp) : Fp := lad0 (ladF u (8 * k.length) (num8 k))
theorem ladder_spec {l : List Int} {u : El} (h : bytesOK l) (hu : u.ok) : (El.ladder l u).1.ok ∧ (l.length ≤ 64 → (El.ladder l u).2 = 0 ∧ (El.ladder l u).1.v = ladP l u.v) ∧ (64 < l.length → El.ladder l u = (El.ofL (zl 8), 11)) := by
  unfold El.ladder
  by_cases hd : (l.length : Int) > 64
  · rw [decide_eq_true hd]
    exact ⟨zero_ok, fun h => by omega, fun _ => rfl⟩
  · rw [decide_eq_false hd]
    simp only
    have hle : l.length ≤ 64 := by omega
    obtain ⟨hx, hz, hl, he⟩ := ladAt_spec h hu hle (8 * l.length) (Nat.le_refl _)
    have hi := ladAt_i l u (8 * l.length)
    have hb : ladBit l (ladAt l u (8 * l.length)).i = 0 := by
      unfold ladBit
      rw [decide_eq_false (by omega)]
    have hsx := (swap_spec hx (xor63 0 (ladAt l u (8 * l.length)).last)).1
    have hsz := (swap_spec hz (xor63 0 (ladAt l u (8 * l.length)).last)).1
    have e := toL4_swap hx hz (.inl rfl) hl
    rw [he, Nat.sub_self, Nat.pow_zero, Nat.div_one] at e
    have hinv := inv_spec hsz.1
    have hm := mul_spec hsx.1 hinv.1
    unfold ladEnd
    rw [hb]
    refine ⟨hm.1, fun _ => ⟨trivial, ?_⟩, fun h => by omega⟩
    rw [hm.2, hinv.2]
    unfold ladP lad0
    have e : toL4 ((ladAt l u (8 * l.length)).x.swap (xor63 0 (ladAt l u (8 * l.length)).last)) ((ladAt l u (8 * l.length)).z.swap (xor63 0 (ladAt l u (8 * l.length)).last)) = ladF u.v (8 * l.length) (num8 l) := e
    rw [← e]
    rfl
end Go.Sx

namespace Go.Sx
open Go.Proofs
set_option maxRecDepth 100000

/-! ### Nil as no bytes -/
theorem SpecOK.weaken {P : Program} {f : Nat} {α β : Type} {A : Args α} {req : Option (α → Prop)} {g : α → β} {res res' : β → V} {named : Bool}
    (hw : ∀ (hp : Array Obj) (ok : Nat → Prop) (y : β) (x : Value), DenRes hp ok (res y) x → DenRes hp ok (res' y) x) (h : SpecOK P f (mk A req g res named false)) (named' : Bool) : SpecOK P f (mk A req g res' named' false) := by
  intro args w vals h1 h2 h3 h4
  refine (h args w vals h1 h2 h3 h4).mono ?_
  rintro e w' ⟨y, he, hk, hr⟩
  exact ⟨y, he, hk, hw _ _ _ _ hr⟩
theorem SpecOK.nm {P : Program} {f : Nat} {α β : Type} {A : Args α} {req : Option (α → Prop)} {g : α → β} {res : β → V} {named own : Bool} (h : SpecOK P f (mk A req g res named own)) : SpecOK P f (mk A req g res true own) := h
def lV (o : Option (List Int)) : V := bytesV (o.getD [])
def lErrV (p : Option (List Int) × Int) : V := .tup [lV p.1, .int .i64 p.2]
theorem obytes_l {hp : Array Obj} {ok : Nat → Prop} {o : Option (List Int)} {x : Value} (h : DenR hp ok (obytesV o) x) : DenR hp ok (lV o) x := by
  cases o with
  | none =>
    have h : DenR hp ok .nilsl x := h
    cases h
    exact .rs0 _ _ _ rfl
  | some l => exact h
theorem obErr_l {hp : Array Obj} {ok : Nat → Prop} {p : Option (List Int) × Int} {x : Value} (h : DenRes hp ok (obErrV p) x) : DenRes hp ok (lErrV p) x := by
  have h : DenRes hp ok (.tup [obytesV p.1, .int .i64 p.2]) x := h
  cases h with
  | one _ _ h => cases h
  | tup _ vs h1 h2 =>
    refine .tup _ vs h1 fun i hi hi' => ?_
    match i, hi with
    | 0, _ => exact obytes_l (h2 0 (by simp) hi')
    | 1, _ => exact h2 1 (by simp) hi'
theorem obRes_l {hp : Array Obj} {ok : Nat → Prop} {o : Option (List Int)} {x : Value} (h : DenRes hp ok (obytesV o) x) : DenRes hp ok (lV o) x := by
  cases o with
  | none =>
    have h : DenRes hp ok .nilsl x := h
    cases h with
    | one _ _ h => exact .one _ _ (obytes_l (o := none) h)
  | some l => exact h
def s_X448L : Spec := mk (A2 aBytes aBytes) none (fun a => x448 a.1 a.2.1) lErrV true
theorem ok_X448L : SpecOK prog n_ladder_X448 s_X448L := ok_X448.weaken (fun _ _ _ _ h => obErr_l h) true
def s_PublicL : Spec := mk (A1 aBytes) none (fun a => pubV a.1) lErrV true
theorem ok_PublicL : SpecOK prog n_ladder_Public s_PublicL := ok_Public.weaken (fun _ _ _ _ h => obErr_l h) true

/-! ### The reference's X448 -/
noncomputable def spRX : List (Nat × Spec) := [(n_ref06_Clamp, s_ClampF), (n_ref04_Of, s_FOf), (n_ref10_Ladder, s_LadF), (n_ref04_Same, s_Same), (n_ref04_Bytes, s_FBytes)]
theorem spRX_ok : Good prog spRX := .cons ok_ClampF (.cons ok_FOf (.cons ok_LadF (.cons ok_Same (.cons ok_FBytes .nil))))
theorem r_RX448 (r : Option (List Int)) (k u : List Int) : run1 E spRX 20 [] 0 noAnn f_ref10_X448 ((A2 aBytes aBytes).to (k, u, ())) (meet false obytesV r) =
    (k.length = 56 ∧ (u.length = 56 ∧ ∀ x ∈ u, isByte x) ∧ (bytesOK (clampF k) ∧ small28 (clampF k) ∧ (F16.ofBytes u).can) ∧ ∀ y, y = F16.lad (clampF k) (F16.ofBytes u) →
      iteP (F16.same y z16) (obytesV none = obytesV r) (obytesV (some (F16.bytes y)) = obytesV r)) := by kernel_rfl
def rx448 (k u : List Int) : Option (List Int) := if ladR (clampS k) (ofI (leval u)) = 0 then none else some (le 56 (ladR (clampS k) (ofI (leval u))).val)
def s_RX448 : Spec := mk (A2 aBytes aBytes) (some fun a => (a.1.length = 56 ∧ bytesOK a.1) ∧ a.2.1.length = 56 ∧ bytesOK a.2.1) (fun a => rx448 a.1 a.2.1) obytesV
theorem can_z16 : z16.can := by rw [← z16_of]; exact can_of _
theorem fp_z16 : z16.fp = 0 := by rw [← z16_of]; exact fp_of _
theorem ok_RX448 : SpecOK prog n_ref10_X448 s_RX448 :=
  mk_ok (fuel := 20) (depth := 0) (ann := fun _ => noAnn) env_ok mixed spRX_ok FnsOK.nil (by kernel_rfl) (by kernel_rfl) (by kernel_rfl) (notOwn false rfl) (fun a h => by
    obtain ⟨k, u, ⟨⟩⟩ := a
    have hd : (k.length = 56 ∧ bytesOK k) ∧ u.length = 56 ∧ bytesOK u := h _ rfl
    obtain ⟨⟨k1, k2⟩, u1, u2⟩ := hd
    refine yes (r_RX448 (rx448 k u) k u) ⟨k1, ⟨u1, u2⟩, ⟨?_, ?_, can_of _⟩, fun y hy => ?_⟩
    · rw [clampF_eq k1 k2]; exact clampS_ok k1 k2
    · rw [clampF_eq k1 k2]
      show (clampS k).length ≤ 268435456
      have := clampS_len k1
      omega
    · subst hy
      rw [same_spec (can_lad _ _) can_z16, FBytes_spec (can_lad _ _), fp_lad, fp_z16, clampF_eq k1 k2]
      have e : (F16.ofBytes u).fp = ofI (leval u) := fp_of _
      rw [e]
      unfold rx448
      generalize ladR (clampS k) (ofI (leval u)) = q
      refine iteP_intro (fun hb => ?_) (fun hb => ?_)
      · rw [if_pos (of_decide_eq_true hb)]
      · rw [if_neg (of_decide_eq_false hb)])
def s_RX448L : Spec := mk (A2 aBytes aBytes) (some fun a => (a.1.length = 56 ∧ bytesOK a.1) ∧ a.2.1.length = 56 ∧ bytesOK a.2.1) (fun a => rx448 a.1 a.2.1) lV true
theorem ok_RX448L : SpecOK prog n_ref10_X448 s_RX448L := ok_RX448.weaken (fun _ _ _ _ h => obRes_l h) true

/-! ### Are two lists of bytes one? -/
def annEq (pre : Int → Prop) (μ : Int → Nat) (a b : List Int) : Nat → Option Ann := fun id => match id with
  | 0 => some ⟨Int, fun _ x => ⟨[(0, .rs false (.ints .u8 a)), (1, .rs false (.ints .u8 b)), (5, .int .i64 x)], [], 0⟩, fun _ => pre, μ⟩
  | _ => none
def fitEq (a b : List Int) (i x : Int) : Prop := True ∧ eqs [(.rs false (.ints .u8 a), .rs false (.ints .u8 a)), (.rs false (.ints .u8 b), .rs false (.ints .u8 b)), (.int .i64 i, .int .i64 x)]
theorem r_eq1 (pre : Int → Prop) (μ : Int → Nat) (r : Bool) (a b : List Int) : run1 E [] 20 [] 0 (annEq pre μ a b) f_law01_Bytes ((A2 aBytes aBytes).to (a, b, ())) (meet false boolV r) =
    iteP ((a.length : Int) != (b.length : Int)) (boolV false = boolV r) ((∃ x, pre x ∧ fitEq a b 0 x) ∧ ∀ x, pre x → iteP (decide (x < (a.length : Int)))
      (inA a.length x (rdA a x.toNat (inA b.length x (rdA b x.toNat (iteP (a.getD x.toNat 0 != b.getD x.toNat 0) (boolV false = boolV r) (∃ x', pre x' ∧ fitEq a b (i64 (x + 1)) x' ∧ μ x' < μ x))))))
      (boolV true = boolV r)) := by kernel_rfl
theorem r_eq11 (pre : Int → Prop) (μ : Int → Nat) (r : Bool) (a b : List Int) : run1 E [] 20 [] 0 (annEq pre μ a b) f_law11_Bytes ((A2 aBytes aBytes).to (a, b, ())) (meet false boolV r) =
    iteP ((a.length : Int) != (b.length : Int)) (boolV false = boolV r) ((∃ x, pre x ∧ fitEq a b 0 x) ∧ ∀ x, pre x → iteP (decide (x < (a.length : Int)))
      (inA a.length x (rdA a x.toNat (inA b.length x (rdA b x.toNat (iteP (a.getD x.toNat 0 != b.getD x.toNat 0) (boolV false = boolV r) (∃ x', pre x' ∧ fitEq a b (i64 (x + 1)) x' ∧ μ x' < μ x))))))
      (boolV true = boolV r)) := by kernel_rfl
def eqL (a b : List Int) : Bool := a == b
def eqPre (a b : List Int) (x : Int) : Prop := ∃ i : Nat, x = i ∧ i ≤ a.length ∧ ∀ j, j < i → a.getD j 0 = b.getD j 0
def eqμ (a : List Int) (x : Int) : Nat := (a.length - x).toNat
def s_eq : Spec := mk (A2 aBytes aBytes) (some fun a => small28 a.1) (fun a => eqL a.1 a.2.1) boolV
theorem eq_body {a b : List Int} (hs : small28 a) : iteP ((a.length : Int) != (b.length : Int)) (boolV false = boolV (eqL a b)) ((∃ x, eqPre a b x ∧ fitEq a b 0 x) ∧ ∀ x, eqPre a b x → iteP (decide (x < (a.length : Int)))
      (inA a.length x (rdA a x.toNat (inA b.length x (rdA b x.toNat (iteP (a.getD x.toNat 0 != b.getD x.toNat 0) (boolV false = boolV (eqL a b)) (∃ x', eqPre a b x' ∧ fitEq a b (i64 (x + 1)) x' ∧ eqμ a x' < eqμ a x))))))
      (boolV true = boolV (eqL a b))) := by
  unfold small28 at hs
  refine iteP_intro (fun hb => ?_) (fun hb => ?_)
  · have : ¬ a.length = b.length := fun e => by rw [e] at hb; simp at hb
    have e : eqL a b = false := beq_eq_false_iff_ne.2 fun e => this (by rw [e])
    rw [e]
  · have hl : a.length = b.length := by simp at hb; omega
    refine ⟨⟨0, ⟨0, rfl, Nat.zero_le _, fun j hj => absurd hj (Nat.not_lt_zero j)⟩, ⟨trivial, rfl, rfl, rfl, trivial⟩⟩, ?_⟩
    rintro x ⟨i, rfl, hi, he⟩
    have ei : ((i : Nat) : Int).toNat = i := by omega
    refine iteP_intro (fun hb => ?_) (fun hb => ?_)
    · have hlt : (i : Int) < a.length := of_decide_eq_true hb
      rw [ei]
      refine inA_intro (by omega) (rdA_intro (by omega) (inA_intro (by omega) (rdA_intro (by omega) ?_)))
      refine iteP_intro (fun hb => ?_) (fun hb => ?_)
      · have hne : a.getD i 0 ≠ b.getD i 0 := by simpa using hb
        have e : eqL a b = false := beq_eq_false_iff_ne.2 fun e => hne (by rw [e])
        rw [e]
      · have heq : a.getD i 0 = b.getD i 0 := by simpa using hb
        refine ⟨((i + 1 : Nat) : Int), ⟨i + 1, rfl, by omega, fun j hj => ?_⟩, ⟨trivial, rfl, rfl, ?_, trivial⟩, ?_⟩
        · by_cases h : j = i
          · rw [h]; exact heq
          · exact he j (by omega)
        · rw [i64_eq (by omega) (by omega)]; rfl
        · unfold eqμ; omega
    · have hge : ¬ (i : Int) < a.length := of_decide_eq_false hb
      have e : a = b := List.ext_getElem? fun j => by
        by_cases hj : j < a.length
        · have := he j (by omega)
          rw [List.getD_eq_getElem?_getD, List.getD_eq_getElem?_getD, List.getElem?_eq_getElem hj, List.getElem?_eq_getElem (by omega)] at this
          rw [List.getElem?_eq_getElem hj, List.getElem?_eq_getElem (by omega)]
          simpa using this
        · rw [List.getElem?_eq_none (by omega), List.getElem?_eq_none (by omega)]
      have : eqL a b = true := by unfold eqL; rw [e]; simp
      rw [this]
theorem ok_eq1 : SpecOK prog n_law01_Bytes s_eq :=
  mk_ok (fuel := 20) (depth := 0) (ann := fun a => annEq (eqPre a.1 a.2.1) (eqμ a.1) a.1 a.2.1) env_ok mixed Good.nil FnsOK.nil (by kernel_rfl) (by kernel_rfl) (by kernel_rfl) (notOwn false rfl) (fun a h => yes (r_eq1 (eqPre a.1 a.2.1) (eqμ a.1) (eqL a.1 a.2.1) a.1 a.2.1) (eq_body (h _ rfl)))
theorem ok_eq11 : SpecOK prog n_law11_Bytes s_eq :=
  mk_ok (fuel := 20) (depth := 0) (ann := fun a => annEq (eqPre a.1 a.2.1) (eqμ a.1) a.1 a.2.1) env_ok mixed Good.nil FnsOK.nil (by kernel_rfl) (by kernel_rfl) (by kernel_rfl) (notOwn false rfl) (fun a h => yes (r_eq11 (eqPre a.1 a.2.1) (eqμ a.1) (eqL a.1 a.2.1) a.1 a.2.1) (eq_body (h _ rfl)))

/-! ### The chapter's examples -/
def s_LadderN : Spec := mk (A2 aBytes aEl) none (fun a => El.ladder a.1 a.2.1) elErrV true
theorem ok_LadderN : SpecOK prog n_ladder_Ladder s_LadderN := ok_Ladder
def s_IntN : Spec := mk (A1 (aInt .i64)) none (fun a => El.int a.1) elV true
theorem ok_IntN : SpecOK prog n_field_Int s_IntN := ok_Int
noncomputable def spA10 : List (Nat × Spec) := [(n_ladder_Ladder, s_LadderN), (n_ladder_X448, s_X448L), (n_field_Int, s_IntN), (n_field_Equal, s_Equal), (n_field_Zero, s_Zero)]
theorem spA10_ok : Good prog spA10 := .cons ok_LadderN (.cons ok_X448L (.cons ok_IntN (.cons ok_Equal (.cons ok_Zero .nil))))
def ands : List Bool → Prop → Prop → Prop
  | [], p, _ => p
  | b :: r, p, q => iteP b (ands r p q) q
theorem ands_intro {l : List Bool} {p q : Prop} (h : ∀ b ∈ l, b = true) (k : p) : ands l p q := by
  induction l with
  | nil => exact k
  | cons b r ih =>
    unfold ands
    rw [h b (List.mem_cons_self ..)]
    exact ih fun c hc => h c (List.mem_cons_of_mem _ hc)
end Go.Sx

namespace Go.Sx
open Go.Proofs
set_option maxRecDepth 100000

theorem r_awake10 (r : Bool) : run1 E spA10 20 [] 0 noAnn f_law10_awake (Args.nil.to ()) (meet false boolV r) =
    (∀ e1, e1 = El.int 7 → ∀ y1, y1 = El.ladder [1] e1 → ∀ e2, e2 = El.int 7 → ∀ y2, y2 = El.ladder [] e2 → ∀ y3, y3 = x448 (List.replicate 56 0) (List.replicate 56 0) → ∀ e3, e3 = El.int 7 →
      ands [El.eq y1.1 e3, y1.2 == 0, El.zero y2.1, y2.2 == 0, ((y3.1.getD []).length : Int) == 0] (boolV (y3.2 == 15) = boolV r) (boolV false = boolV r)) := by kernel_rfl
theorem lad_step_zero (p : L4) (h : p.x0 * p.z0 = 0) : (p.step 0).x0 * (p.step 0).z0 = 0 ∧ (p.step 0).x1 * (p.step 0).z1 = 0 := by
  obtain ⟨x0, z0, x1, z1⟩ := p
  simp only at h
  unfold L4.step
  dsimp only
  generalize ofI 39081 = c
  constructor
  · have : (x0 + z0) * (x0 + z0) - (x0 - z0) * (x0 - z0) = 0 := by grobner
    rw [this]; grobner
  · grobner
theorem lad_zero : ∀ (f m : Nat), (ladF 0 f m).x0 * (ladF 0 f m).z0 = 0 ∧ (ladF 0 f m).x1 * (ladF 0 f m).z1 = 0
  | 0, m => by unfold ladF; dsimp only; constructor <;> grobner
  | f + 1, m => by
    obtain ⟨h1, h2⟩ := lad_zero f (m / 2)
    rw [ladF]
    generalize ladF 0 f (m / 2) = p at h1 h2
    unfold L4.bit
    split
    · obtain ⟨a, b⟩ := lad_step_zero p.swap h2
      exact ⟨b, a⟩
    · exact lad_step_zero p h1
theorem lad0_zero {p : L4} (h : p.x0 * p.z0 = 0) : lad0 p = 0 := by
  unfold lad0
  rcases mul_zero_or h with h | h
  · rw [h]; grobner
  · rw [h, finv_zero]; grobner
theorem lad0_of {p : L4} {a : Fp} (h : p.z0 ≠ 0) (k : p.x0 = a * p.z0) : lad0 p = a := by
  unfold lad0
  have := mul_finv h
  rw [k]; grobner

/-- What both come to, for a secret number that is clamped. -/
theorem x448_spec {k u : List Int} (hk : k.length = 56) (hkb : bytesOK k) (hu : u.length = 56) (hub : bytesOK u) :
    x448 k u = (rx448 k u, if ladP (clampS k) (ofI (leval u)) = 0 then 15 else 0) ∧ ladR (clampS k) (ofI (leval u)) = ladP (clampS k) (ofI (leval u)) := by
  have hlen : lenN (clampS k) (8 * (clampS k).length) = 8 * (clampS k).length := by
    have h1 := clampS_top hk hkb
    have h2 := num8_lt (clampS_ok hk hkb)
    have h3 := lenN_spec (clampS_ok hk hkb) _ h2
    have h4 := lenN_le (clampS k) (8 * (clampS k).length)
    have h5 := clampS_len hk
    have h6 : 447 < lenN (clampS k) (8 * (clampS k).length) := (Nat.pow_lt_pow_iff_right (by decide : 1 < 2)).1 (Nat.lt_of_le_of_lt h1 h3)
    omega
  have hR : ladR (clampS k) (ofI (leval u)) = ladP (clampS k) (ofI (leval u)) := by
    unfold ladR ladP
    rw [hlen]
  refine ⟨?_, hR⟩
  have ho := of_v hu hub
  have hl := ladder_spec (clampS_ok hk hkb) ho.1
  have hl2 := hl.2.1 (by rw [clampS_len hk]; decide)
  rw [ho.2] at hl2
  unfold x448
  have e1 : ((k.length : Int) != 56) = false := by rw [hk]; rfl
  have e2 : ((u.length : Int) != 56) = false := by rw [hu]; rfl
  rw [e1, e2, clampL_eq hk hkb]
  have e3 : ((El.ladder (clampS k) (El.of u)).2 != 0) = false := by rw [hl2.1]; rfl
  simp only [e3]
  rw [zero_spec hl.1, Bytes_spec hl.1, hl2.2]
  unfold rx448
  rw [hR]
  generalize ladP (clampS k) (ofI (leval u)) = q
  by_cases hq : q = 0
  · rw [decide_eq_true hq, if_pos hq, if_pos hq]
  · rw [decide_eq_false hq, if_neg hq, if_neg hq]
theorem zeros_ok (n : Nat) : bytesOK (List.replicate n 0) := fun x hx => by
  rw [List.eq_of_mem_replicate hx]; exact ⟨by decide, by decide⟩
theorem one_ok : bytesOK [1] := fun x hx => by
  simp at hx; subst hx; exact ⟨by decide, by decide⟩
theorem nil_ok : bytesOK [] := fun x hx => by simp at hx
theorem i7 : inI 7 := by unfold inI; decide
theorem lad17 : (ladF 7 8 1).z0 ≠ 0 ∧ (ladF 7 8 1).x0 = 7 * (ladF 7 8 1).z0 := by decide +kernel
theorem ladP17 : ladP [1] 7 = 7 := by
  unfold ladP
  have e1 : 8 * ([1] : List Int).length = 8 := rfl
  have e2 : num8 [1] = 1 := by decide
  rw [e1, e2]
  exact lad0_of lad17.1 lad17.2
theorem ladP0 (u : Fp) : ladP [] u = 0 := by
  unfold ladP
  have e1 : 8 * ([] : List Int).length = 0 := rfl
  rw [e1]
  unfold ladF lad0
  dsimp only
  rw [finv_zero]; grobner
theorem awake10 : run1 E spA10 20 [] 0 noAnn f_law10_awake (Args.nil.to ()) (meet false boolV true) := by
  refine yes (r_awake10 true) ?_
  intro e1 h1 y1 h2 e2 h3 y2 h4 y3 h5 e3 h6
  subst h1 h2 h3 h4 h6
  have h7 := int_spec i7
  have o7 : ofI 7 = 7 := by decide +kernel
  have l1 := ladder_spec one_ok h7.1
  have l0 := ladder_spec nil_ok h7.1
  have hz : (List.replicate 56 (0 : Int)).length = 56 := rfl
  have hx := x448_spec hz (zeros_ok 56) hz (zeros_ok 56)
  have hl0 : leval (List.replicate 56 0) = 0 := by decide
  have hP : ladP (clampS (List.replicate 56 0)) (ofI (leval (List.replicate 56 0))) = 0 := by
    rw [hl0, ofI_zero]
    exact lad0_zero (lad_zero _ _).1
  have hX : x448 (List.replicate 56 0) (List.replicate 56 0) = (none, 15) := by
    rw [hx.1]
    unfold rx448
    rw [hx.2, if_pos hP, if_pos hP]
  have b1 : El.eq (El.ladder [1] (El.int 7)).1 (El.int 7) = true := by
    rw [eq_spec l1.1 h7.1, (l1.2.1 (by decide)).2, h7.2, o7]
    exact decide_eq_true ladP17
  have b2 : ((El.ladder [1] (El.int 7)).2 == 0) = true := by rw [(l1.2.1 (by decide)).1]; rfl
  have b3 : El.zero (El.ladder [] (El.int 7)).1 = true := by
    rw [zero_spec l0.1, (l0.2.1 (by decide)).2, h7.2]
    exact decide_eq_true (ladP0 _)
  have b4 : ((El.ladder [] (El.int 7)).2 == 0) = true := by rw [(l0.2.1 (by decide)).1]; rfl
  rw [hX] at h5
  subst h5
  rw [b1, b2, b3, b4]
  exact rfl
def s_true : Spec := mk .nil none (fun _ => true) boolV
theorem ok_awake10 : SpecOK prog n_law10_awake s_true :=
  mk_ok (fuel := 20) (depth := 0) (ann := fun _ => noAnn) env_ok mixed spA10_ok FnsOK.nil (by kernel_rfl) (by kernel_rfl) (by kernel_rfl) (notOwn false rfl) (fun a _ => awake10)
noncomputable def spL10 : List (Nat × Spec) := [(n_law10_awake, s_true), (n_ladder_X448, s_X448L), (n_ladder_Public, s_PublicL), (n_ref10_X448, s_RX448L), (n_ref04_Bytes, s_FBytes), (n_ref04_Int, s_FInt), (n_law01_Bytes, s_eq)]
theorem spL10_ok : Good prog spL10 := .cons ok_awake10 (.cons ok_X448L (.cons ok_PublicL (.cons ok_RX448L (.cons ok_FBytes (.cons ok_FInt (.cons ok_eq1 .nil))))))
end Go.Sx

namespace Go.Sx
open Go.Proofs
set_option maxRecDepth 100000

/-- What a law ends in. -/
def yesP (r : Bool) : Prop := boolV true = boolV r
def noP (r : Bool) : Prop := boolV false = boolV r
def ln (o : Option (List Int)) : Int := ((o.getD []).length : Nat)
def bK (k : List Int) : Prop := k.length = 56 ∧ bytesOK k
theorem r_LadderShares (r : Bool) (k u : List Int) : run1 E spL10 20 [] 0 noAnn f_law10_LadderShares ((A2 aBytes aBytes).to (k, u, ())) (meet false boolV r) =
    iteP (decide ((k.length : Int) > 80)) (yesP r) (iteP (decide ((u.length : Int) > 80)) (yesP r) (∀ A, A = x448 k u → ∀ B, B = pubV k → iteP ((k.length : Int) != 56)
      (ands [ln A.1 == 0, A.2 == 11, ln B.1 == 0, B.2 == 11] (yesP r) (noP r))
      (inI 5 ∧ (bK k ∧ bK (F16.bytes (F16.int 5))) ∧ ∀ R, R = rx448 k (F16.bytes (F16.int 5)) → small28 (B.1.getD []) ∧
        let cont : Prop := iteP ((u.length : Int) != 56) (ands [ln A.1 == 0, A.2 == 11] (yesP r) (noP r))
          ((bK k ∧ bK u) ∧ ∀ W, W = rx448 k u → iteP (ln W == 0) (ands [ln A.1 == 0, A.2 == 15] (yesP r) (noP r)) (small28 (A.1.getD []) ∧ ands [eqL (A.1.getD []) (W.getD []), A.2 == 0] (yesP r) (noP r)))
        let X : Prop := iteP (ln R == 0) (iteP (B.2 != 15) (noP r) cont) cont
        iteP (!eqL (B.1.getD []) (R.getD [])) (noP r) (iteP (decide (ln R > 0)) (iteP (B.2 != 0) (noP r) X) X)))) := by kernel_rfl
theorem le56_ok (n : Nat) : bK (le 56 n) := ⟨le_len 56 n, le_byte 56 n⟩
theorem rx_len (k u : List Int) : (ln (rx448 k u) = 0 ∧ rx448 k u = none) ∨ (ln (rx448 k u) = 56 ∧ ∃ l, rx448 k u = some l) := by
  unfold rx448
  split
  · exact .inl ⟨rfl, rfl⟩
  · refine .inr ⟨?_, _, rfl⟩
    unfold ln
    rw [Option.getD_some, le_len]; rfl
theorem rx_code {k u : List Int} (h : ladR (clampS k) (ofI (leval u)) = ladP (clampS k) (ofI (leval u))) : (if ladP (clampS k) (ofI (leval u)) = 0 then (15 : Int) else 0) = if ln (rx448 k u) = 0 then 15 else 0 := by
  rw [← h]
  unfold rx448
  generalize ladR (clampS k) (ofI (leval u)) = q
  by_cases hq : q = 0
  · rw [if_pos hq, if_pos hq, if_pos (show ln none = 0 from rfl)]
  · rw [if_neg hq, if_neg hq, if_neg (by unfold ln; rw [Option.getD_some, le_len]; decide)]
theorem x448_bad {k u : List Int} (h : ¬ k.length = 56 ∨ ¬ u.length = 56) : x448 k u = (none, 11) := by
  unfold x448
  by_cases hk : k.length = 56
  · have hu : ¬ u.length = 56 := h.resolve_left (fun e => e hk)
    have e1 : ((k.length : Int) != 56) = false := by rw [hk]; rfl
    have e2 : ((u.length : Int) != 56) = true := by simp; omega
    rw [e1, e2]
  · have e1 : ((k.length : Int) != 56) = true := by simp; omega
    rw [e1]
theorem eqL_refl (l : List Int) : eqL l l = true := by unfold eqL; simp
theorem small28_le {l : List Int} (h : l.length ≤ 56) : small28 l := by unfold small28; omega
theorem five : inI 5 := by unfold inI; decide
theorem LadderShares_true {k u : List Int} (hk : bytesOK k) (hu : bytesOK u) : run1 E spL10 20 [] 0 noAnn f_law10_LadderShares ((A2 aBytes aBytes).to (k, u, ())) (meet false boolV true) := by
  refine yes (r_LadderShares true k u) (iteP_intro (fun _ => rfl) fun _ => iteP_intro (fun _ => rfl) fun _ => ?_)
  intro A hA B hB
  have h5 := int_spec five
  have hp : El.Bytes (El.int 5) = F16.bytes (F16.int 5) := by
    rw [Bytes_spec h5.1, FBytes_spec (can_int 5), h5.2, fp_int]
  have hbp : bK (F16.bytes (F16.int 5)) := by rw [FBytes_spec (can_int 5)]; exact le56_ok _
  unfold pubV at hB
  rw [hp] at hB
  refine iteP_intro (fun hb => ?_) (fun hb => ?_)
  · have hk56 : ¬ k.length = 56 := by simp at hb; omega
    rw [x448_bad (.inl hk56)] at hA hB
    have b1 : (ln A.1 == 0) = true := by rw [hA]; rfl
    have b2 : (A.2 == 11) = true := by rw [hA]; rfl
    have b3 : (ln B.1 == 0) = true := by rw [hB]; rfl
    have b4 : (B.2 == 11) = true := by rw [hB]; rfl
    rw [b1, b2, b3, b4]
    exact rfl
  · have hk56 : k.length = 56 := by simp at hb; omega
    refine ⟨five, ⟨⟨hk56, hk⟩, hbp⟩, fun R hR => ?_⟩
    have hs := x448_spec hk56 hk hbp.1 hbp.2
    rw [hs.1] at hB
    have hR1 : B.1 = R := by rw [hB, hR]
    have hB2 : B.2 = if ln R = 0 then 15 else 0 := by
      rw [hB, hR]
      dsimp only
      exact rx_code hs.2
    have hRl : ln R = 0 ∨ ln R = 56 := by
      rw [hR]
      rcases rx_len k (F16.bytes (F16.int 5)) with ⟨h, _⟩ | ⟨h, _⟩
      · exact .inl h
      · exact .inr h
    refine ⟨small28_le (by rw [hR1]; unfold ln at hRl; omega), ?_⟩
    have cont : iteP ((u.length : Int) != 56) (ands [ln A.1 == 0, A.2 == 11] (yesP true) (noP true))
          ((bK k ∧ bK u) ∧ ∀ W, W = rx448 k u → iteP (ln W == 0) (ands [ln A.1 == 0, A.2 == 15] (yesP true) (noP true)) (small28 (A.1.getD []) ∧ ands [eqL (A.1.getD []) (W.getD []), A.2 == 0] (yesP true) (noP true))) := by
      refine iteP_intro (fun hb => ?_) (fun hb => ?_)
      · have hu56 : ¬ u.length = 56 := by simp at hb; omega
        rw [x448_bad (.inr hu56)] at hA
        have b1 : (ln A.1 == 0) = true := by rw [hA]; rfl
        have b2 : (A.2 == 11) = true := by rw [hA]; rfl
        rw [b1, b2]
        exact rfl
      · have hu56 : u.length = 56 := by simp at hb; omega
        refine ⟨⟨⟨hk56, hk⟩, hu56, hu⟩, fun W hW => ?_⟩
        have hs := x448_spec hk56 hk hu56 hu
        rw [hs.1] at hA
        have hA1 : A.1 = W := by rw [hA, hW]
        have hA2 : A.2 = if ln W = 0 then 15 else 0 := by
          rw [hA, hW]
          dsimp only
          exact rx_code hs.2
        have hWl : ln W = 0 ∨ ln W = 56 := by
          rw [hW]
          rcases rx_len k u with ⟨h, _⟩ | ⟨h, _⟩
          · exact .inl h
          · exact .inr h
        rw [hA1, hA2]
        rcases hWl with hw | hw
        · rw [hw, if_pos rfl]; exact rfl
        · rw [hw, if_neg (by decide)]
          refine ⟨small28_le (by unfold ln at hw; omega), ?_⟩
          rw [eqL_refl]; exact rfl
    rw [hR1, hB2, eqL_refl]
    rcases hRl with hw | hw
    · rw [hw, if_pos rfl]; exact cont
    · rw [hw, if_neg (by decide)]; exact cont
def s_Law2 (req : List Int × List Int × Unit → Prop) : Spec := mk (A2 aBytes aBytes) (some req) (fun _ => true) boolV
theorem ok_LadderShares : SpecOK prog n_law10_LadderShares (s_Law2 fun a => bytesOK a.1 ∧ bytesOK a.2.1) :=
  mk_ok (fuel := 20) (depth := 0) (ann := fun _ => noAnn) env_ok mixed spL10_ok FnsOK.nil (by kernel_rfl) (by kernel_rfl) (by kernel_rfl) (notOwn false rfl) (fun a h => by
    have hd : bytesOK a.1 ∧ bytesOK a.2.1 := h _ rfl
    exact LadderShares_true hd.1 hd.2)
end Go.Sx

namespace Go.Sx

/-! ### Edwards curves whose d is no square -/
structure Cur where
  d : Fp
  ns : ∀ t, t * t ≠ d
theorem Cur.d0 (C : Cur) : C.d ≠ 0 := fun h => C.ns 0 (by rw [h]; grobner)
theorem sq_quot {s t d : Fp} (ht : t ≠ 0) (h : s * s = d * (t * t)) : (s * finv t) * (s * finv t) = d := by
  have := mul_finv ht
  grobner
structure EC (C : Cur) where
  x : Fp
  y : Fp
  on : x * x + y * y = 1 + C.d * (x * x) * (y * y)
theorem EC.ext {C : Cur} {P Q : EC C} (hx : P.x = Q.x) (hy : P.y = Q.y) : P = Q := by
  cases P; cases Q; simp only at hx hy; subst hx hy; rfl
section
variable {C : Cur}
/-- No denominator is 0. -/
theorem complete (P Q : EC C) (e : Fp) (he : e = 1 ∨ e = -1) : C.d * P.x * Q.x * P.y * Q.y ≠ e := by
  intro h
  obtain ⟨x1, y1, h1⟩ := P
  obtain ⟨x2, y2, h2⟩ := Q
  simp only at h
  have hee : e * e = 1 := by rcases he with rfl | rfl <;> grobner
  have hne : e ≠ 0 := fun h0 => one_ne (by rw [← hee, h0]; grobner)
  have hx1 : x1 ≠ 0 := fun h0 => hne (by rw [← h, h0]; grobner)
  have hy1 : y1 ≠ 0 := fun h0 => hne (by rw [← h, h0]; grobner)
  have hx2 : x2 ≠ 0 := fun h0 => hne (by rw [← h, h0]; grobner)
  have hy2 : y2 ≠ 0 := fun h0 => hne (by rw [← h, h0]; grobner)
  have k1 : (x1 + e * y1) * (x1 + e * y1) = C.d * ((x1 * y1 * (x2 + y2)) * (x1 * y1 * (x2 + y2))) := by
    rcases he with rfl | rfl <;> grobner
  have k2 : (x1 - e * y1) * (x1 - e * y1) = C.d * ((x1 * y1 * (x2 - y2)) * (x1 * y1 * (x2 - y2))) := by
    rcases he with rfl | rfl <;> grobner
  have z1 : x2 + y2 = 0 := by
    by_cases hz : x2 + y2 = 0
    · exact hz
    · exact absurd (sq_quot (mul_ne (mul_ne hx1 hy1) hz) k1) (C.ns _)
  have z2 : x2 - y2 = 0 := by
    by_cases hz : x2 - y2 = 0
    · exact hz
    · exact absurd (sq_quot (mul_ne (mul_ne hx1 hy1) hz) k2) (C.ns _)
  exact hx2 (by
    have : (2 : Fp) * x2 = 0 := by grobner
    rcases mul_zero_or this with h | h
    · exact absurd h two_ne
    · exact h)
def EC.t (P Q : EC C) : Fp := C.d * P.x * Q.x * P.y * Q.y
theorem EC.up (P Q : EC C) : 1 + EC.t P Q ≠ 0 := fun h => complete P Q (-1) (.inr rfl) (by unfold EC.t at h; grobner)
theorem EC.down (P Q : EC C) : 1 - EC.t P Q ≠ 0 := fun h => complete P Q 1 (.inl rfl) (by unfold EC.t at h; grobner)
theorem closed_raw {d x1 y1 x2 y2 i j : Fp} (h1 : x1 * x1 + y1 * y1 = 1 + d * (x1 * x1) * (y1 * y1)) (h2 : x2 * x2 + y2 * y2 = 1 + d * (x2 * x2) * (y2 * y2))
    (hi : (1 + d * x1 * x2 * y1 * y2) * i = 1) (hj : (1 - d * x1 * x2 * y1 * y2) * j = 1) :
    ((x1 * y2 + x2 * y1) * i) * ((x1 * y2 + x2 * y1) * i) + ((y1 * y2 - x1 * x2) * j) * ((y1 * y2 - x1 * x2) * j) = 1 + d * (((x1 * y2 + x2 * y1) * i) * ((x1 * y2 + x2 * y1) * i)) * (((y1 * y2 - x1 * x2) * j) * ((y1 * y2 - x1 * x2) * j)) := by
  grobner
def EC.add (P Q : EC C) : EC C := ⟨(P.x * Q.y + Q.x * P.y) * finv (1 + EC.t P Q), (P.y * Q.y - P.x * Q.x) * finv (1 - EC.t P Q), closed_raw P.on Q.on (mul_finv (EC.up P Q)) (mul_finv (EC.down P Q))⟩
def EC.zero : EC C := ⟨0, 1, by grobner⟩
def EC.neg (P : EC C) : EC C := ⟨-P.x, P.y, by have := P.on; grobner⟩
/-- A sum is told by what it does times its denominators. -/
theorem EC.add_of {P Q R : EC C} (hx : R.x * (1 + EC.t P Q) = P.x * Q.y + Q.x * P.y) (hy : R.y * (1 - EC.t P Q) = P.y * Q.y - P.x * Q.x) : EC.add P Q = R := by
  have h1 := mul_finv (EC.up P Q)
  have h2 := mul_finv (EC.down P Q)
  refine EC.ext ?_ ?_
  · show (P.x * Q.y + Q.x * P.y) * finv (1 + EC.t P Q) = R.x
    rw [← hx]; grobner
  · show (P.y * Q.y - P.x * Q.x) * finv (1 - EC.t P Q) = R.y
    rw [← hy]; grobner
theorem EC.add_x (P Q : EC C) : (EC.add P Q).x * (1 + EC.t P Q) = P.x * Q.y + Q.x * P.y := by
  have h1 := mul_finv (EC.up P Q)
  show (P.x * Q.y + Q.x * P.y) * finv (1 + EC.t P Q) * (1 + EC.t P Q) = _
  grobner
theorem EC.add_y (P Q : EC C) : (EC.add P Q).y * (1 - EC.t P Q) = P.y * Q.y - P.x * Q.x := by
  have h1 := mul_finv (EC.down P Q)
  show (P.y * Q.y - P.x * Q.x) * finv (1 - EC.t P Q) * (1 - EC.t P Q) = _
  grobner
theorem EC.add_comm (P Q : EC C) : EC.add P Q = EC.add Q P := by
  have e : EC.t Q P = EC.t P Q := by unfold EC.t; grobner
  refine EC.add_of ?_ ?_
  · rw [← e, EC.add_x]; grobner
  · rw [← e, EC.add_y]; grobner
theorem EC.add_zero (P : EC C) : EC.add P EC.zero = P := by
  refine EC.add_of ?_ ?_ <;> unfold EC.t EC.zero <;> grobner
theorem EC.zero_add (P : EC C) : EC.add EC.zero P = P := by rw [EC.add_comm, EC.add_zero]
theorem EC.add_neg (P : EC C) : EC.add P P.neg = EC.zero := by
  have := P.on
  refine EC.add_of ?_ ?_ <;> unfold EC.t EC.zero EC.neg <;> grobner
theorem assoc_px {d x1 y1 x2 y2 x3 y3 : Fp} (h1 : x1 * x1 + y1 * y1 = 1 + d * (x1 * x1) * (y1 * y1)) (h2 : x2 * x2 + y2 * y2 = 1 + d * (x2 * x2) * (y2 * y2)) (h3 : x3 * x3 + y3 * y3 = 1 + d * (x3 * x3) * (y3 * y3)) :
    ((x1 * y2 + x2 * y1) * (1 - d * x1 * x2 * y1 * y2) * y3 + x3 * (y1 * y2 - x1 * x2) * (1 + d * x1 * x2 * y1 * y2)) * ((1 - d * x2 * x3 * y2 * y3) * (1 + d * x2 * x3 * y2 * y3) + d * x1 * y1 * (x2 * y3 + x3 * y2) * (y2 * y3 - x2 * x3)) =
    (x1 * (y2 * y3 - x2 * x3) * (1 + d * x2 * x3 * y2 * y3) + (x2 * y3 + x3 * y2) * y1 * (1 - d * x2 * x3 * y2 * y3)) * ((1 - d * x1 * x2 * y1 * y2) * (1 + d * x1 * x2 * y1 * y2) + d * (x1 * y2 + x2 * y1) * (y1 * y2 - x1 * x2) * x3 * y3) := by
  grobner
theorem assoc_py {d x1 y1 x2 y2 x3 y3 : Fp} (h1 : x1 * x1 + y1 * y1 = 1 + d * (x1 * x1) * (y1 * y1)) (h2 : x2 * x2 + y2 * y2 = 1 + d * (x2 * x2) * (y2 * y2)) (h3 : x3 * x3 + y3 * y3 = 1 + d * (x3 * x3) * (y3 * y3)) :
    ((y1 * y2 - x1 * x2) * (1 + d * x1 * x2 * y1 * y2) * y3 - (x1 * y2 + x2 * y1) * (1 - d * x1 * x2 * y1 * y2) * x3) * ((1 - d * x2 * x3 * y2 * y3) * (1 + d * x2 * x3 * y2 * y3) - d * x1 * y1 * (x2 * y3 + x3 * y2) * (y2 * y3 - x2 * x3)) =
    (y1 * (y2 * y3 - x2 * x3) * (1 + d * x2 * x3 * y2 * y3) - x1 * (x2 * y3 + x3 * y2) * (1 - d * x2 * x3 * y2 * y3)) * ((1 - d * x1 * x2 * y1 * y2) * (1 + d * x1 * x2 * y1 * y2) - d * (x1 * y2 + x2 * y1) * (y1 * y2 - x1 * x2) * x3 * y3) := by
  grobner
theorem cancel {a x y : Fp} (ha : a ≠ 0) (h : a * x = a * y) : x = y := by
  have : a * (x - y) = 0 := by grobner
  rcases mul_zero_or this with h | h
  · exact absurd h ha
  · grobner
/-- S is what the left side comes to; it comes to the right side's, too. -/
theorem assoc_x {A B C D Nx Ny Ux Vy X Y U V S d x1 y1 x3 y3 : Fp} (hA : A ≠ 0) (hB : B ≠ 0) (hC : C ≠ 0) (hD : D ≠ 0)
    (hX : X * A = Nx) (hY : Y * B = Ny) (hU : U * C = Ux) (hV : V * D = Vy) (hE : 1 + d * X * x3 * Y * y3 ≠ 0)
    (hS : S * (1 + d * X * x3 * Y * y3) = X * y3 + x3 * Y)
    (h : (Nx * B * y3 + x3 * Ny * A) * (D * C + d * x1 * y1 * Ux * Vy) = (x1 * Vy * C + Ux * y1 * D) * (B * A + d * Nx * Ny * x3 * y3)) :
    S * (1 + d * x1 * U * y1 * V) = x1 * V + U * y1 := by
  have e1 : B * A + d * Nx * Ny * x3 * y3 = A * B * (1 + d * X * x3 * Y * y3) := by rw [← hX, ← hY]; grobner
  have e2 : Nx * B * y3 + x3 * Ny * A = A * B * (X * y3 + x3 * Y) := by rw [← hX, ← hY]; grobner
  have e3 : D * C + d * x1 * y1 * Ux * Vy = C * D * (1 + d * x1 * U * y1 * V) := by rw [← hU, ← hV]; grobner
  have e4 : x1 * Vy * C + Ux * y1 * D = C * D * (x1 * V + U * y1) := by rw [← hU, ← hV]; grobner
  rw [e1, e2, e3, e4, ← hS] at h
  refine cancel (mul_ne (mul_ne (mul_ne hA hB) (mul_ne hC hD)) hE) ?_
  generalize 1 + d * X * x3 * Y * y3 = E1 at *
  generalize 1 + d * x1 * U * y1 * V = E2 at *
  generalize x1 * V + U * y1 = F2 at *
  clear e1 e2 e3 e4 hX hY hU hV hS
  grobner
theorem assoc_y {A B C D Nx Ny Ux Vy X Y U V T d x1 y1 x3 y3 : Fp} (hA : A ≠ 0) (hB : B ≠ 0) (hC : C ≠ 0) (hD : D ≠ 0)
    (hX : X * A = Nx) (hY : Y * B = Ny) (hU : U * C = Ux) (hV : V * D = Vy) (hE : 1 - d * X * x3 * Y * y3 ≠ 0)
    (hT : T * (1 - d * X * x3 * Y * y3) = Y * y3 - X * x3)
    (h : (Ny * A * y3 - Nx * B * x3) * (D * C - d * x1 * y1 * Ux * Vy) = (y1 * Vy * C - x1 * Ux * D) * (B * A - d * Nx * Ny * x3 * y3)) :
    T * (1 - d * x1 * U * y1 * V) = y1 * V - x1 * U := by
  have e1 : B * A - d * Nx * Ny * x3 * y3 = A * B * (1 - d * X * x3 * Y * y3) := by rw [← hX, ← hY]; grobner
  have e2 : Ny * A * y3 - Nx * B * x3 = A * B * (Y * y3 - X * x3) := by rw [← hX, ← hY]; grobner
  have e3 : D * C - d * x1 * y1 * Ux * Vy = C * D * (1 - d * x1 * U * y1 * V) := by rw [← hU, ← hV]; grobner
  have e4 : y1 * Vy * C - x1 * Ux * D = C * D * (y1 * V - x1 * U) := by rw [← hU, ← hV]; grobner
  rw [e1, e2, e3, e4, ← hT] at h
  refine cancel (mul_ne (mul_ne (mul_ne hA hB) (mul_ne hC hD)) hE) ?_
  generalize 1 - d * X * x3 * Y * y3 = E1 at *
  generalize 1 - d * x1 * U * y1 * V = E2 at *
  generalize y1 * V - x1 * U = F2 at *
  clear e1 e2 e3 e4 hX hY hU hV hT
  grobner
theorem EC.add_assoc (P Q R : EC C) : EC.add (EC.add P Q) R = EC.add P (EC.add Q R) := by
  have u1 := EC.up P Q
  have u2 := EC.down P Q
  have u3 := EC.up Q R
  have u4 := EC.down Q R
  have u5 := EC.up (EC.add P Q) R
  have u6 := EC.down (EC.add P Q) R
  have a1 := EC.add_x P Q
  have a2 := EC.add_y P Q
  have a3 := EC.add_x Q R
  have a4 := EC.add_y Q R
  have a5 := EC.add_x (EC.add P Q) R
  have a6 := EC.add_y (EC.add P Q) R
  have px := assoc_px P.on Q.on R.on
  have py := assoc_py P.on Q.on R.on
  refine (EC.add_of ?_ ?_).symm
  · unfold EC.t at u1 u2 u3 u4 u5 u6 a1 a2 a3 a4 a5 a6 ⊢
    exact assoc_x u1 u2 u3 u4 a1 a2 a3 a4 u5 a5 px
  · unfold EC.t at u1 u2 u3 u4 u5 u6 a1 a2 a3 a4 a5 a6 ⊢
    exact assoc_y u1 u2 u3 u4 a1 a2 a3 a4 u6 a6 py

/-! ### Multiples -/
def EC.mul (P : EC C) : Nat → EC C
  | 0 => EC.zero
  | n + 1 => EC.add (EC.mul P n) P
theorem EC.mul_add (P : EC C) (m : Nat) : ∀ n, EC.mul P (m + n) = EC.add (EC.mul P m) (EC.mul P n)
  | 0 => (EC.add_zero _).symm
  | n + 1 => by rw [← Nat.add_assoc, EC.mul, EC.mul_add P m n, EC.mul, EC.add_assoc]
theorem EC.mul_one (P : EC C) : EC.mul P 1 = P := EC.zero_add P
theorem EC.mul_two (P : EC C) : EC.mul P 2 = EC.add P P := by
  show EC.add (EC.mul P 1) P = _
  rw [EC.mul_one]
theorem EC.zero_mul : ∀ n, EC.mul (EC.zero : EC C) n = EC.zero
  | 0 => rfl
  | n + 1 => by rw [EC.mul, EC.zero_mul n, EC.add_zero]
theorem EC.mul_mul (P : EC C) (m : Nat) : ∀ n, EC.mul P (m * n) = EC.mul (EC.mul P m) n
  | 0 => rfl
  | n + 1 => by rw [Nat.mul_succ, EC.mul_add, EC.mul_mul P m n, EC.mul]
theorem EC.add_add (P Q R S : EC C) : EC.add (EC.add P Q) (EC.add R S) = EC.add (EC.add P R) (EC.add Q S) := by
  rw [EC.add_assoc, ← EC.add_assoc Q R S, EC.add_comm Q R, EC.add_assoc R Q S, ← EC.add_assoc]
theorem EC.add_mul (P Q : EC C) : ∀ n, EC.mul (EC.add P Q) n = EC.add (EC.mul P n) (EC.mul Q n)
  | 0 => by show EC.zero = EC.add EC.zero EC.zero; rw [EC.add_zero]
  | n + 1 => by rw [EC.mul, EC.add_mul P Q n, EC.mul, EC.mul, EC.add_add]
theorem EC.neg_of {P Q : EC C} (h : EC.add P Q = EC.zero) : Q = P.neg := by
  have : EC.add P.neg (EC.add P Q) = P.neg := by rw [h, EC.add_zero]
  rw [← EC.add_assoc, EC.add_comm P.neg P, EC.add_neg, EC.zero_add] at this
  exact this
theorem EC.neg_neg (P : EC C) : P.neg.neg = P := EC.ext (by show - - P.x = P.x; grobner) rfl
theorem EC.neg_add (P Q : EC C) : (EC.add P Q).neg = EC.add P.neg Q.neg := by
  refine (EC.neg_of ?_).symm
  rw [EC.add_add, EC.add_neg, EC.add_neg, EC.add_zero]
theorem EC.neg_mul (P : EC C) : ∀ n, EC.mul P.neg n = (EC.mul P n).neg
  | 0 => by
    show EC.zero = EC.neg EC.zero
    exact EC.neg_of (EC.add_zero (EC.zero : EC C))
  | n + 1 => by rw [EC.mul, EC.neg_mul P n, EC.mul, EC.neg_add]
theorem EC.neg_zero : (EC.zero : EC C).neg = EC.zero := (EC.neg_of (EC.add_zero EC.zero)).symm
end
end Go.Sx

namespace Go.Sx
set_option maxRecDepth 100000

/-! ### The two curves of a u -/
abbrev cc : Fp := 39081
theorem c_mul : ofI 39081 = cc := by decide +kernel
theorem c0 : cc ≠ 0 := by decide +kernel
theorem c1 : cc + 1 ≠ 0 := by decide +kernel
theorem ncc : ∀ t, t * t ≠ cc * (cc + 1) := nonsq_of (Fin.ext (by rw [fpow_val, ← powM_eq]; decide +kernel))
def dP : Fp := cc * finv (cc + 1)
def dM : Fp := (cc + 1) * finv cc
theorem dP_mul : dP * (cc + 1) = cc := by
  have := mul_finv c1
  unfold dP; grobner
theorem dM_mul : dM * cc = cc + 1 := by
  have := mul_finv c0
  unfold dM; grobner
def curP : Cur := ⟨dP, fun t h => ncc (t * (cc + 1)) (by have := dP_mul; grobner)⟩
def curM : Cur := ⟨dM, fun t h => ncc (t * cc) (by have := dM_mul; grobner)⟩
/-- A curve, its sign, and what its d has to do with it. -/
structure Side where
  C : Cur
  s : Fp
  kind : (s = 1 ∧ C.d * (cc + 1) = cc) ∨ (s = -1 ∧ C.d * cc = cc + 1)
def sideP : Side := ⟨curP, 1, .inl ⟨rfl, dP_mul⟩⟩
def sideM : Side := ⟨curM, -1, .inr ⟨rfl, dM_mul⟩⟩
theorem Side.ss (S : Side) : S.s * S.s = 1 := by rcases S.kind with ⟨h, _⟩ | ⟨h, _⟩ <;> rw [h] <;> grobner
theorem Side.s0 (S : Side) : S.s ≠ 0 := fun h => one_ne (by rw [← S.ss, h]; grobner)

/-- A fraction is a point's u. -/
def RepU (S : Side) (x z : Fp) (P : EC S.C) : Prop := ∃ l, l ≠ 0 ∧ x = l * (1 + P.y) ∧ z = l * S.s * (1 - P.y)

section
variable {S : Side}
theorem den_double (P : EC S.C) : (1 - S.C.d * (P.y * P.y)) * (1 - EC.t P P) = S.C.d * (P.y * P.y) * (P.y * P.y) - 2 * S.C.d * (P.y * P.y) + 1 := by
  have := P.on
  unfold EC.t
  grobner
theorem den_y (P : EC S.C) : 1 - S.C.d * (P.y * P.y) ≠ 0 := by
  intro h
  by_cases hy : P.y = 0
  · rw [hy] at h; exact one_ne (by grobner)
  · have := mul_finv hy
    exact S.C.ns (finv P.y) (by grobner)
theorem dbl_y (P : EC S.C) : (EC.add P P).y * (S.C.d * (P.y * P.y) * (P.y * P.y) - 2 * S.C.d * (P.y * P.y) + 1) = 2 * (P.y * P.y) - S.C.d * (P.y * P.y) * (P.y * P.y) - 1 := by
  rw [← den_double]
  have h := EC.add_y P P
  have := P.on
  have e : (1 - S.C.d * (P.y * P.y)) * (P.y * P.y - P.x * P.x) = 2 * (P.y * P.y) - S.C.d * (P.y * P.y) * (P.y * P.y) - 1 := by grobner
  rw [← e, ← h]; grobner
theorem four_ne : (4 : Fp) ≠ 0 := by decide +kernel
theorem rep_double {x z : Fp} {P : EC S.C} (h : RepU S x z P) :
    RepU S ((x + z) * (x + z) * ((x - z) * (x - z))) (((x + z) * (x + z) - (x - z) * (x - z)) * ((x + z) * (x + z) + cc * ((x + z) * (x + z) - (x - z) * (x - z)))) (EC.add P P) := by
  obtain ⟨l, hl, hx, hz⟩ := h
  have hden : S.C.d * (P.y * P.y) * (P.y * P.y) - 2 * S.C.d * (P.y * P.y) + 1 ≠ 0 := by
    rw [← den_double]; exact mul_ne (den_y P) (EC.down P P)
  have hY := dbl_y P
  unfold RepU
  generalize (EC.add P P).y = Y at hY ⊢
  generalize P.y = y at *
  rcases S.kind with ⟨hs, hd⟩ | ⟨hs, hd⟩
  · rw [hs] at hz ⊢
    refine ⟨8 * (l * l) * (l * l) * (cc + 1) * (S.C.d * (y * y) * (y * y) - 2 * S.C.d * (y * y) + 1), mul_ne (mul_ne (mul_ne (mul_ne (by decide +kernel) (mul_ne hl hl)) (mul_ne hl hl)) c1) hden, ?_, ?_⟩
    · subst hx hz
      have e : 8 * (l * l) * (l * l) * (cc + 1) * (S.C.d * (y * y) * (y * y) - 2 * S.C.d * (y * y) + 1) * (1 + Y) = 8 * (l * l) * (l * l) * (cc + 1) * ((S.C.d * (y * y) * (y * y) - 2 * S.C.d * (y * y) + 1) + Y * (S.C.d * (y * y) * (y * y) - 2 * S.C.d * (y * y) + 1)) := by grobner
      rw [e, hY]
      clear e hY hden
      grobner
    · subst hx hz
      have e : 8 * (l * l) * (l * l) * (cc + 1) * (S.C.d * (y * y) * (y * y) - 2 * S.C.d * (y * y) + 1) * 1 * (1 - Y) = 8 * (l * l) * (l * l) * (cc + 1) * ((S.C.d * (y * y) * (y * y) - 2 * S.C.d * (y * y) + 1) - Y * (S.C.d * (y * y) * (y * y) - 2 * S.C.d * (y * y) + 1)) := by grobner
      rw [e, hY]
      clear e hY hden
      generalize cc = c at *
      grobner
  · rw [hs] at hz ⊢
    refine ⟨-(8 * (l * l) * (l * l) * cc * (S.C.d * (y * y) * (y * y) - 2 * S.C.d * (y * y) + 1)), ?_, ?_, ?_⟩
    · intro h0
      have : 8 * (l * l) * (l * l) * cc * (S.C.d * (y * y) * (y * y) - 2 * S.C.d * (y * y) + 1) = 0 := by
        generalize 8 * (l * l) * (l * l) * cc * (S.C.d * (y * y) * (y * y) - 2 * S.C.d * (y * y) + 1) = q at h0
        grobner
      exact mul_ne (mul_ne (mul_ne (mul_ne (by decide +kernel) (mul_ne hl hl)) (mul_ne hl hl)) c0) hden this
    · subst hx hz
      have e : -(8 * (l * l) * (l * l) * cc * (S.C.d * (y * y) * (y * y) - 2 * S.C.d * (y * y) + 1)) * (1 + Y) = -(8 * (l * l) * (l * l) * cc * ((S.C.d * (y * y) * (y * y) - 2 * S.C.d * (y * y) + 1) + Y * (S.C.d * (y * y) * (y * y) - 2 * S.C.d * (y * y) + 1))) := by grobner
      rw [e, hY]
      clear e hY hden
      generalize cc = c at *
      grobner
    · subst hx hz
      have e : -(8 * (l * l) * (l * l) * cc * (S.C.d * (y * y) * (y * y) - 2 * S.C.d * (y * y) + 1)) * -1 * (1 - Y) = 8 * (l * l) * (l * l) * cc * ((S.C.d * (y * y) * (y * y) - 2 * S.C.d * (y * y) + 1) - Y * (S.C.d * (y * y) * (y * y) - 2 * S.C.d * (y * y) + 1)) := by grobner
      rw [e, hY]
      clear e hY hden
      generalize cc = c at *
      grobner

theorem dif_poly {d x1 y1 x2 y2 : Fp} (h1 : x1 * x1 + y1 * y1 = 1 + d * (x1 * x1) * (y1 * y1)) (h2 : x2 * x2 + y2 * y2 = 1 + d * (x2 * x2) * (y2 * y2)) :
    (y1 + y2) * (y1 + y2) * (1 - d * x1 * x2 * y1 * y2 - (y1 * y2 - x1 * x2)) * (1 + d * x1 * x2 * y1 * y2 - (y1 * y2 + x1 * x2)) =
    (y1 - y2) * (y1 - y2) * (1 - d * x1 * x2 * y1 * y2 + (y1 * y2 - x1 * x2)) * (1 + d * x1 * x2 * y1 * y2 + (y1 * y2 + x1 * x2)) := by grobner
/-- What the sum and the difference of two points have to do with each other. -/
theorem dif_y (P Q : EC S.C) (Ym : Fp) (hm : Ym * (1 + EC.t P Q) = P.y * Q.y + P.x * Q.x) :
    (P.y + Q.y) * (P.y + Q.y) * (1 - (EC.add P Q).y) * (1 - Ym) = (P.y - Q.y) * (P.y - Q.y) * (1 + (EC.add P Q).y) * (1 + Ym) := by
  have hp := EC.add_y P Q
  generalize (EC.add P Q).y = Yp at hp ⊢
  have hk := dif_poly P.on Q.on
  have u1 := EC.up P Q
  have u2 := EC.down P Q
  refine cancel (mul_ne u2 u1) ?_
  have et : S.C.d * P.x * Q.x * P.y * Q.y = EC.t P Q := rfl
  rw [et] at hk
  rw [← hp, ← hm] at hk
  clear hp hm u1 u2 et
  generalize EC.t P Q = t at *
  grobner
theorem sum_dif {a b y : Fp} (h : a * (1 - y) = b * (1 + y)) : y * (a + b) = a - b := by grobner
theorem rep_add {x0 z0 x1 z1 u Ym : Fp} {P Q : EC S.C} (h0 : RepU S x0 z0 P) (h1 : RepU S x1 z1 Q) (hu0 : u ≠ 0) (hu : u * (1 - Ym) = S.s * (1 + Ym)) (hD : Ym ≠ 1) (hm : Ym * (1 + EC.t P Q) = P.y * Q.y + P.x * Q.x) :
    RepU S (((x1 - z1) * (x0 + z0) + (x1 + z1) * (x0 - z0)) * ((x1 - z1) * (x0 + z0) + (x1 + z1) * (x0 - z0))) (u * (((x1 - z1) * (x0 + z0) - (x1 + z1) * (x0 - z0)) * ((x1 - z1) * (x0 + z0) - (x1 + z1) * (x0 - z0)))) (EC.add P Q) := by
  obtain ⟨l, hl, rfl, rfl⟩ := h0
  obtain ⟨m, hM, rfl, rfl⟩ := h1
  have hk := dif_y P Q Ym hm
  have hd1 : 1 - Ym ≠ 0 := fun h => hD (by grobner)
  -- the sum's and the difference's squares
  have key : (P.y + Q.y) * (P.y + Q.y) * (1 - (EC.add P Q).y) = S.s * (u * ((P.y - Q.y) * (P.y - Q.y))) * (1 + (EC.add P Q).y) := by
    refine cancel hd1 ?_
    have ss := S.ss
    have : (1 - Ym) * (S.s * (u * ((P.y - Q.y) * (P.y - Q.y))) * (1 + (EC.add P Q).y)) = (S.s * S.s) * ((P.y - Q.y) * (P.y - Q.y) * (1 + (EC.add P Q).y) * (1 + Ym)) := by
      have e : (1 - Ym) * (S.s * (u * ((P.y - Q.y) * (P.y - Q.y))) * (1 + (EC.add P Q).y)) = (u * (1 - Ym)) * (S.s * ((P.y - Q.y) * (P.y - Q.y)) * (1 + (EC.add P Q).y)) := by grobner
      rw [e, hu]; grobner
    rw [this, ss, ← hk]; grobner
  have hne : (P.y + Q.y) * (P.y + Q.y) + S.s * (u * ((P.y - Q.y) * (P.y - Q.y))) ≠ 0 := by
    intro h
    have k1 : (P.y + Q.y) * (P.y + Q.y) - S.s * (u * ((P.y - Q.y) * (P.y - Q.y))) = 0 := by
      have := (sum_dif key).symm
      rw [this, h]; grobner
    have k2 : (2 : Fp) * ((P.y + Q.y) * (P.y + Q.y)) = 0 := by grobner
    have k3 : (2 : Fp) * (S.s * (u * ((P.y - Q.y) * (P.y - Q.y)))) = 0 := by grobner
    have a1 : P.y + Q.y = 0 := by
      rcases mul_zero_or k2 with h | h
      · exact absurd h two_ne
      · exact sq_zero h
    have a2 : P.y - Q.y = 0 := by
      rcases mul_zero_or k3 with h | h
      · exact absurd h two_ne
      · rcases mul_zero_or h with h | h
        · exact absurd h S.s0
        · rcases mul_zero_or h with h | h
          · exact absurd h hu0
          · exact sq_zero h
    have b1 : P.y = 0 := by
      have : (2 : Fp) * P.y = 0 := by grobner
      rcases mul_zero_or this with h | h
      · exact absurd h two_ne
      · exact h
    have b2 : Q.y = 0 := by grobner
    have p1 := P.on
    have q1 := Q.on
    rw [b1] at p1
    rw [b2] at q1
    unfold EC.t at hm
    rw [b1, b2] at hm
    have e1 : Ym = P.x * Q.x := by grobner
    have e2 : Ym * Ym = 1 * 1 := by rw [e1]; grobner
    rcases sq_eq e2 with h | h
    · exact hD h
    · rw [h] at hu
      have : u * 2 = 0 := by grobner
      rcases mul_zero_or this with h | h
      · exact hu0 h
      · exact two_ne h
  unfold RepU
  generalize (EC.add P Q).y = Yp at *
  have ky : Yp * ((P.y + Q.y) * (P.y + Q.y) + S.s * (u * ((P.y - Q.y) * (P.y - Q.y)))) = (P.y + Q.y) * (P.y + Q.y) - S.s * (u * ((P.y - Q.y) * (P.y - Q.y))) := sum_dif key
  refine ⟨8 * (l * l) * (m * m) * ((P.y + Q.y) * (P.y + Q.y) + S.s * (u * ((P.y - Q.y) * (P.y - Q.y)))), mul_ne (mul_ne (mul_ne (by decide +kernel) (mul_ne hl hl)) (mul_ne hM hM)) hne, ?_, ?_⟩
  · have e : 8 * (l * l) * (m * m) * ((P.y + Q.y) * (P.y + Q.y) + S.s * (u * ((P.y - Q.y) * (P.y - Q.y)))) * (1 + Yp) = 8 * (l * l) * (m * m) * (((P.y + Q.y) * (P.y + Q.y) + S.s * (u * ((P.y - Q.y) * (P.y - Q.y)))) + Yp * ((P.y + Q.y) * (P.y + Q.y) + S.s * (u * ((P.y - Q.y) * (P.y - Q.y))))) := by grobner
    rw [e, ky]
    clear e ky key hne hk hm hu
    rcases S.kind with ⟨hs, _⟩ | ⟨hs, _⟩ <;> rw [hs] <;> grobner
  · have e : 8 * (l * l) * (m * m) * ((P.y + Q.y) * (P.y + Q.y) + S.s * (u * ((P.y - Q.y) * (P.y - Q.y)))) * S.s * (1 - Yp) = 8 * (l * l) * (m * m) * S.s * (((P.y + Q.y) * (P.y + Q.y) + S.s * (u * ((P.y - Q.y) * (P.y - Q.y)))) - Yp * ((P.y + Q.y) * (P.y + Q.y) + S.s * (u * ((P.y - Q.y) * (P.y - Q.y))))) := by grobner
    rw [e, ky]
    clear e ky key hne hk hm hu
    rcases S.kind with ⟨hs, _⟩ | ⟨hs, _⟩ <;> rw [hs] <;> grobner

/-! ### The ladder is a multiple -/
/-- The u of a point; 0 of the identity. -/
def uOf (S : Side) (P : EC S.C) : Fp := S.s * (1 + P.y) * finv (1 - P.y)
theorem rep_u {x z : Fp} {P : EC S.C} (h : RepU S x z P) : x * finv z = uOf S P := by
  obtain ⟨l, hl, rfl, rfl⟩ := h
  unfold uOf
  rw [finv_mulx, finv_mulx]
  have h1 := mul_finv hl
  have h2 : finv S.s = S.s := finv_unique S.ss
  rw [h2]
  grobner
/-- What two points' u come to: the difference's u is u. -/
structure Two (S : Side) (D : EC S.C) (p : L4) (m : Nat) : Prop where
  a : RepU S p.x0 p.z0 (EC.mul D m)
  b : RepU S p.x1 p.z1 (EC.mul D (m + 1))
theorem t_neg (P Q : EC S.C) : EC.t P Q.neg = - EC.t Q P := by
  obtain ⟨x1, y1, h1⟩ := P
  obtain ⟨x2, y2, h2⟩ := Q
  show S.C.d * x1 * (-x2) * y1 * y2 = -(S.C.d * x2 * x1 * y2 * y1)
  generalize S.C.d = d
  clear h1 h2
  grobner
theorem t_self (D : EC S.C) (m : Nat) : D.y * (1 + EC.t (EC.mul D m) (EC.mul D (m + 1))) = (EC.mul D m).y * (EC.mul D (m + 1)).y + (EC.mul D m).x * (EC.mul D (m + 1)).x := by
  have h : EC.add (EC.mul D (m + 1)) (EC.mul D m).neg = D := by
    rw [EC.mul, EC.add_comm (EC.mul D m) D, EC.add_assoc, EC.add_neg, EC.add_zero]
  have e := EC.add_y (EC.mul D (m + 1)) (EC.mul D m).neg
  rw [h] at e
  rw [t_neg] at e
  have e1 : (EC.mul D m).neg.y = (EC.mul D m).y := rfl
  have e2 : (EC.mul D m).neg.x = -(EC.mul D m).x := rfl
  rw [e1, e2] at e
  generalize EC.t (EC.mul D m) (EC.mul D (m + 1)) = t at *
  grobner
theorem t_comm (P Q : EC S.C) : EC.t P Q = EC.t Q P := by
  obtain ⟨x1, y1, h1⟩ := P
  obtain ⟨x2, y2, h2⟩ := Q
  show S.C.d * x1 * x2 * y1 * y2 = S.C.d * x2 * x1 * y2 * y1
  generalize S.C.d = d
  clear h1 h2
  grobner
theorem two_bit {D : EC S.C} {u : Fp} (hu0 : u ≠ 0) (hu : u * (1 - D.y) = S.s * (1 + D.y)) (hD : D.y ≠ 1) {p : L4} {m b : Nat} (hb : b < 2) (h : Two S D p m) : Two S D (p.bit u b) (2 * m + b) := by
  have ht := t_self D m
  have e2 : EC.add (EC.mul D m) (EC.mul D (m + 1)) = EC.mul D (2 * m + 1) := by rw [← EC.mul_add]; congr 1; omega
  rcases (show b = 0 ∨ b = 1 by omega) with rfl | rfl
  · have h0 := rep_double h.a
    have h1 := rep_add h.a h.b hu0 hu hD ht
    rw [e2] at h1
    have e1 : EC.add (EC.mul D m) (EC.mul D m) = EC.mul D (2 * m) := by rw [← EC.mul_add]; congr 1; omega
    rw [e1] at h0
    have eb : p.bit u 0 = p.step u := by unfold L4.bit; rw [if_neg (by decide)]
    rw [eb]
    refine ⟨?_, h1⟩
    show RepU S (p.step u).x0 (p.step u).z0 _
    unfold L4.step
    dsimp only
    rw [c_mul]
    exact h0
  · have h0 := rep_double h.b
    have h1 := rep_add h.b h.a hu0 hu hD (by rw [t_comm, ht]; grobner)
    rw [EC.add_comm, e2] at h1
    have e1 : EC.add (EC.mul D (m + 1)) (EC.mul D (m + 1)) = EC.mul D (2 * m + 1 + 1) := by rw [← EC.mul_add]; congr 1; omega
    rw [e1] at h0
    have eb : p.bit u 1 = (p.swap.step u).swap := by unfold L4.bit; rw [if_pos rfl]
    rw [eb]
    refine ⟨h1, ?_⟩
    show RepU S (p.swap.step u).x0 (p.swap.step u).z0 _
    unfold L4.step
    dsimp only
    rw [c_mul]
    exact h0
theorem two_lad {D : EC S.C} {u : Fp} (hu0 : u ≠ 0) (hu : u * (1 - D.y) = S.s * (1 + D.y)) (hD : D.y ≠ 1) : ∀ f m, m < 2 ^ f → Two S D (ladF u f m) m
  | 0, m, hm => by
    have : m = 0 := by simpa using hm
    subst this
    have h2 := mul_finv two_ne
    have hd : 1 - D.y ≠ 0 := fun h => hD (by grobner)
    have hi := mul_finv hd
    refine ⟨⟨finv 2, finv_ne two_ne, ?_, ?_⟩, ⟨S.s * finv (1 - D.y), mul_ne S.s0 (finv_ne hd), ?_, ?_⟩⟩
    · show (1 : Fp) = finv 2 * (1 + 1); grobner
    · show (0 : Fp) = finv 2 * S.s * (1 - 1); grobner
    · rw [EC.mul_one]
      show u = S.s * finv (1 - D.y) * (1 + D.y)
      have : u = u * (1 - D.y) * finv (1 - D.y) := by grobner
      rw [this, hu]; grobner
    · rw [EC.mul_one]
      show (1 : Fp) = S.s * finv (1 - D.y) * S.s * (1 - D.y)
      have ss := S.ss
      grobner
  | f + 1, m, hm => by
    rw [Nat.pow_succ] at hm
    have := two_bit hu0 hu hD (b := m % 2) (Nat.mod_lt _ (by decide)) (two_lad hu0 hu hD f (m / 2) (by omega))
    rw [show 2 * (m / 2) + m % 2 = m by omega] at this
    exact this
theorem lad_mul {D : EC S.C} {u : Fp} (hu0 : u ≠ 0) (hu : u * (1 - D.y) = S.s * (1 + D.y)) (hD : D.y ≠ 1) {f m : Nat} (hm : m < 2 ^ f) : lad0 (ladF u f m) = uOf S (EC.mul D m) :=
  rep_u (two_lad hu0 hu hD f m hm).a
end
end Go.Sx

namespace Go.Sx
set_option maxRecDepth 100000

theorem nonsq_mul {a b : Fp} (ha : ∀ t, t * t ≠ a) (hb : ∀ t, t * t ≠ b) : ∃ t, t * t = a * b := by
  have a0 : a ≠ 0 := fun h => ha 0 (by rw [h]; grobner)
  have b0 : b ≠ 0 := fun h => hb 0 (by rw [h]; grobner)
  rcases sq_or a0 with ⟨t, ht, _⟩ | ⟨s, hs, _⟩
  · exact absurd ht (ha t)
  · rcases sq_or b0 with ⟨t, ht, _⟩ | ⟨r, hr, _⟩
    · exact absurd ht (hb t)
    · exact ⟨s * r, by grobner⟩
theorem den_ne (C : Cur) (y : Fp) : 1 - C.d * (y * y) ≠ 0 := by
  intro h
  by_cases hy : y = 0
  · rw [hy] at h; exact one_ne (by grobner)
  · have := mul_finv hy
    exact C.ns (finv y) (by grobner)
theorem on_of {d t y i : Fp} (hi : (1 - d * (y * y)) * i = 1) (ht : t * t = (1 - y * y) * i) : t * t + y * y = 1 + d * (t * t) * (y * y) := by grobner
theorem on_of' {d e t y z i : Fp} (hi : (1 - d * (y * y)) * i = 1) (hz : y * z = 1) (hde : d * e = 1) (ht : t * t = d * ((1 - y * y) * i)) : t * t + z * z = 1 + e * (t * t) * (z * z) := by grobner
theorem dPM : dP * dM = 1 := by
  have h1 := dP_mul
  have h2 := dM_mul
  have := mul_finv c0
  have := mul_finv c1
  generalize dP = p at *
  generalize dM = q at *
  generalize cc = c at *
  grobner
/-- Each u, but 0, is a point's on one of both curves. -/
theorem exists_D (u : Fp) : ∃ (S : Side) (D : EC S.C), u * (1 - D.y) = S.s * (1 + D.y) ∧ D.y ≠ 1 := by
  by_cases h1 : u + 1 = 0
  · have hm : u = -1 := by grobner
    refine ⟨sideM, ⟨1, 0, by show (1 : Fp) * 1 + 0 * 0 = 1 + dM * (1 * 1) * (0 * 0); grobner⟩, ?_, ?_⟩
    · show u * (1 - 0) = -1 * (1 + 0)
      rw [hm]; grobner
    · show (0 : Fp) ≠ 1
      exact fun h => one_ne h.symm
  · have hi := mul_finv h1
    have hy : ∃ y, y * (u + 1) = u - 1 := ⟨(u - 1) * finv (u + 1), by grobner⟩
    obtain ⟨y, hy⟩ := hy
    have hu : u * (1 - y) = 1 + y := by
      refine cancel h1 ?_
      grobner
    have hy1 : y ≠ 1 := by
      intro e
      rw [e] at hu
      exact two_ne (by grobner)
    have hd := den_ne curP y
    have hdi := mul_finv hd
    by_cases hw : ∃ t, t * t = (1 - y * y) * finv (1 - curP.d * (y * y))
    · obtain ⟨t, ht⟩ := hw
      refine ⟨sideP, ⟨t, y, on_of hdi ht⟩, ?_, hy1⟩
      show u * (1 - y) = 1 * (1 + y)
      rw [hu]; grobner
    · have hw : ∀ t, t * t ≠ (1 - y * y) * finv (1 - curP.d * (y * y)) := fun t ht => hw ⟨t, ht⟩
      obtain ⟨t, ht⟩ := nonsq_mul curP.ns hw
      have hy0 : y ≠ 0 := by
        intro e
        refine hw 1 ?_
        rw [e]
        have e1 : 1 - curP.d * (0 * 0) = 1 := by grobner
        rw [e1, finv_one]; grobner
      have hyi := mul_finv hy0
      refine ⟨sideM, ⟨t, finv y, on_of' hdi hyi dPM ht⟩, ?_, ?_⟩
      · show u * (1 - finv y) = -1 * (1 + finv y)
        refine cancel hy0 ?_
        grobner
      · show finv y ≠ 1
        intro e
        rw [e] at hyi
        exact hy1 (by grobner)
section
variable {S : Side}
theorem u_zero {P : EC S.C} (h : uOf S P = 0) : EC.add P P = EC.zero := by
  have hy : P.y * P.y = 1 := by
    unfold uOf at h
    rcases mul_zero_or h with h | h
    · rcases mul_zero_or h with h | h
      · exact absurd h S.s0
      · grobner
    · by_cases h1 : 1 - P.y = 0
      · grobner
      · exact absurd h (finv_ne h1)
  have hx : P.x = 0 := by
    have hon := P.on
    have : (P.x * P.x) * (1 - S.C.d) = 0 := by grobner
    rcases mul_zero_or this with h | h
    · exact sq_zero h
    · exact absurd (show (1 : Fp) * 1 = S.C.d by grobner) (S.C.ns 1)
  refine EC.add_of ?_ ?_
  · show (0 : Fp) * _ = _
    rw [hx]; grobner
  · have ht : EC.t P P = 0 := by unfold EC.t; rw [hx]; grobner
    rw [ht]
    show (1 : Fp) * (1 - 0) = _
    rw [hy, hx]; grobner
theorem u_ne {P : EC S.C} (h : uOf S P ≠ 0) : P.y ≠ 1 ∧ uOf S P * (1 - P.y) = S.s * (1 + P.y) := by
  have h1 : 1 - P.y ≠ 0 := by
    intro e
    apply h
    unfold uOf
    rw [e, finv_zero]; grobner
  have hi := mul_finv h1
  refine ⟨fun e => h1 (by rw [e]; grobner), ?_⟩
  unfold uOf
  grobner
theorem u_of_zero : uOf S (EC.zero : EC S.C) = 0 := by
  unfold uOf
  have : 1 - (EC.zero : EC S.C).y = 0 := by show (1 : Fp) - 1 = 0; grobner
  rw [this, finv_zero]; grobner
end
/-- One after the other. -/
def ladTwo (f : Nat) (u : Fp) (a b : Nat) : Fp := if lad0 (ladF u f a) = 0 then 0 else lad0 (ladF (lad0 (ladF u f a)) f b)
theorem ladTwo_mul {S : Side} {D : EC S.C} {u : Fp} (hu0 : u ≠ 0) (hu : u * (1 - D.y) = S.s * (1 + D.y)) (hD : D.y ≠ 1) {f a b : Nat} (ha : a < 2 ^ f) (hb : b < 2 ^ f) (hb2 : b % 2 = 0) : ladTwo f u a b = uOf S (EC.mul D (a * b)) := by
  unfold ladTwo
  rw [lad_mul hu0 hu hD ha]
  by_cases h : uOf S (EC.mul D a) = 0
  · rw [if_pos h]
    have h2 := u_zero h
    have e : b = 2 * (b / 2) := by omega
    rw [EC.mul_mul, e, EC.mul_mul, EC.mul_two, h2, EC.zero_mul, u_of_zero]
  · rw [if_neg h]
    obtain ⟨h1, h2⟩ := u_ne h
    rw [lad_mul h h2 h1 hb, EC.mul_mul]
theorem lad_meet (f : Nat) (u : Fp) {a b : Nat} (ha : a < 2 ^ f) (hb : b < 2 ^ f) (ha2 : a % 2 = 0) (hb2 : b % 2 = 0) : ladTwo f u a b = ladTwo f u b a := by
  by_cases hu0 : u = 0
  · subst hu0
    have z : ∀ m, lad0 (ladF 0 f m) = 0 := fun m => lad0_zero (lad_zero f m).1
    unfold ladTwo
    rw [if_pos (z a), if_pos (z b)]
  · obtain ⟨S, D, hu, hD⟩ := exists_D u
    rw [ladTwo_mul hu0 hu hD ha hb hb2, ladTwo_mul hu0 hu hD hb ha ha2, Nat.mul_comm]
end Go.Sx

namespace Go.Sx
open Go.Proofs
set_option maxRecDepth 100000

/-! ### An array of 56 bytes -/
def aRaw : Arg (List Int) := aArr .u8 56 id id (fun _ _ => rfl) (fun _ => rfl)
theorem r_Raw (b0 b1 b2 b3 b4 b5 b6 b7 b8 b9 b10 b11 b12 b13 b14 b15 b16 b17 b18 b19 b20 b21 b22 b23 b24 b25 b26 b27 b28 b29 b30 b31 b32 b33 b34 b35 b36 b37 b38 b39 b40 b41 b42 b43 b44 b45 b46 b47 b48 b49 b50 b51 b52 b53 b54 b55 : Int) : run1 E [] 20 [] 0 noAnn f_law04_Bytes ((A1 aRaw).to ([b0, b1, b2, b3, b4, b5, b6, b7, b8, b9, b10, b11, b12, b13, b14, b15, b16, b17, b18, b19, b20, b21, b22, b23, b24, b25, b26, b27, b28, b29, b30, b31, b32, b33, b34, b35, b36, b37, b38, b39, b40, b41, b42, b43, b44, b45, b46, b47, b48, b49, b50, b51, b52, b53, b54, b55], ())) (meet false bytesV [b0, b1, b2, b3, b4, b5, b6, b7, b8, b9, b10, b11, b12, b13, b14, b15, b16, b17, b18, b19, b20, b21, b22, b23, b24, b25, b26, b27, b28, b29, b30, b31, b32, b33, b34, b35, b36, b37, b38, b39, b40, b41, b42, b43, b44, b45, b46, b47, b48, b49, b50, b51, b52, b53, b54, b55]) = (bytesV [b0, b1, b2, b3, b4, b5, b6, b7, b8, b9, b10, b11, b12, b13, b14, b15, b16, b17, b18, b19, b20, b21, b22, b23, b24, b25, b26, b27, b28, b29, b30, b31, b32, b33, b34, b35, b36, b37, b38, b39, b40, b41, b42, b43, b44, b45, b46, b47, b48, b49, b50, b51, b52, b53, b54, b55] = bytesV [b0, b1, b2, b3, b4, b5, b6, b7, b8, b9, b10, b11, b12, b13, b14, b15, b16, b17, b18, b19, b20, b21, b22, b23, b24, b25, b26, b27, b28, b29, b30, b31, b32, b33, b34, b35, b36, b37, b38, b39, b40, b41, b42, b43, b44, b45, b46, b47, b48, b49, b50, b51, b52, b53, b54, b55]) := by kernel_rfl
def s_Raw : Spec := mk (A1 aRaw) (some fun a => a.1.length = 56) (fun a => a.1) bytesV
theorem ok_Raw : SpecOK prog n_law04_Bytes s_Raw :=
  mk_ok (fuel := 20) (depth := 0) (ann := fun _ => noAnn) env_ok mixed Good.nil FnsOK.nil (by kernel_rfl) (by kernel_rfl) (by kernel_rfl) (notOwn false rfl) (fun a h => by
    obtain ⟨l, ⟨⟩⟩ := a
    have hl : l.length = 56 := h _ rfl
    exact list56 (P := fun l => run1 E [] 20 [] 0 noAnn f_law04_Bytes ((A1 aRaw).to (l, ())) (meet false bytesV l)) (fun b0 b1 b2 b3 b4 b5 b6 b7 b8 b9 b10 b11 b12 b13 b14 b15 b16 b17 b18 b19 b20 b21 b22 b23 b24 b25 b26 b27 b28 b29 b30 b31 b32 b33 b34 b35 b36 b37 b38 b39 b40 b41 b42 b43 b44 b45 b46 b47 b48 b49 b50 b51 b52 b53 b54 b55 => yes (r_Raw b0 b1 b2 b3 b4 b5 b6 b7 b8 b9 b10 b11 b12 b13 b14 b15 b16 b17 b18 b19 b20 b21 b22 b23 b24 b25 b26 b27 b28 b29 b30 b31 b32 b33 b34 b35 b36 b37 b38 b39 b40 b41 b42 b43 b44 b45 b46 b47 b48 b49 b50 b51 b52 b53 b54 b55) rfl) l hl)

/-! ### One after the other -/
noncomputable def spTw : List (Nat × Spec) := [(n_ladder_X448, s_X448L)]
theorem spTw_ok : Good prog spTw := .cons ok_X448L .nil
theorem r_twice (r : Option (List Int) × Int) (a b u : List Int) : run1 E spTw 20 [] 0 noAnn f_law10_twice ((A3 aBytes aBytes aBytes).to (a, b, u, ())) (meet false obErrV r) =
    (∀ X, X = x448 a u → iteP (X.2 != 0) (obErrV (none, X.2) = obErrV r) (∀ Y, Y = x448 b (X.1.getD []) → obErrV (some (Y.1.getD []), Y.2) = obErrV r)) := by kernel_rfl
def twiceO (a b u : List Int) : Option (List Int) × Int := if (x448 a u).2 = 0 then (some ((x448 b ((x448 a u).1.getD [])).1.getD []), (x448 b ((x448 a u).1.getD [])).2) else (none, (x448 a u).2)
def s_twice : Spec := mk (A3 aBytes aBytes aBytes) none (fun a => twiceO a.1 a.2.1 a.2.2.1) obErrV
theorem ok_twice : SpecOK prog n_law10_twice s_twice :=
  mk_ok (fuel := 20) (depth := 0) (ann := fun _ => noAnn) env_ok mixed spTw_ok FnsOK.nil (by kernel_rfl) (by kernel_rfl) (by kernel_rfl) (notOwn false rfl) (fun a _ => by
    obtain ⟨x, y, u, ⟨⟩⟩ := a
    refine yes (r_twice (twiceO x y u) x y u) fun X hX => ?_
    unfold twiceO
    rw [← hX]
    refine iteP_intro (fun hb => ?_) (fun hb => ?_)
    · rw [if_neg (by simpa using hb)]
    · rw [if_pos (by simpa using hb)]
      intro Y hY
      rw [hY])
def s_twiceL : Spec := mk (A3 aBytes aBytes aBytes) none (fun a => twiceO a.1 a.2.1 a.2.2.1) lErrV true
theorem ok_twiceL : SpecOK prog n_law10_twice s_twiceL := ok_twice.weaken (fun _ _ _ _ h => obErr_l h) true

/-! ### The law -/
noncomputable def spLM : List (Nat × Spec) := [(n_law04_Bytes, s_Raw), (n_law10_awake, s_true), (n_ladder_X448, s_X448L), (n_ladder_Public, s_PublicL), (n_law01_Bytes, s_eq), (n_law10_twice, s_twiceL), (n_field_Bytes, s_Bytes), (n_field_Int, s_IntN)]
theorem spLM_ok : Good prog spLM := .cons ok_Raw (.cons ok_awake10 (.cons ok_X448L (.cons ok_PublicL (.cons ok_eq1 (.cons ok_twiceL (.cons ok_Bytes (.cons ok_IntN .nil)))))))
def ld (l : List Int) : List Int := List.take 56 (List.drop 0 l)
def isA (l : List Int) (K : Prop) : Prop := guard (Nat.beq 0 0 && Nat.ble (0 + 56) l.length) (guard (Nat.beq (ld l).length 56 && true) ((ld l).length = 56 ∧ K))
theorem r_LadderMeets (r : Bool) (a b u : List Int) : run1 E spLM 20 [] 0 noAnn f_law10_LadderMeets ((A3 aRaw aRaw aRaw).to (a, b, u, ())) (meet false boolV r) =
    (isA a (isA b (∀ e, e = El.int 5 → ∀ X, X = twiceO (ld a) (ld b) (El.Bytes e) → ∀ Y, Y = twiceO (ld b) (ld a) (El.Bytes e) →
      let rest : Prop := isA u (∀ V, V = twiceO (ld a) (ld b) (ld u) → isA u (∀ W, W = twiceO (ld b) (ld a) (ld u) → iteP (V.2 == W.2) (small28 (V.1.getD []) ∧ ands [eqL (V.1.getD []) (W.1.getD [])] (yesP r) (noP r)) (noP r)))
      let pub : Prop := ∀ G, G = pubV (ld b) → iteP (G.2 == 0) (∀ Z, Z = x448 (ld a) (G.1.getD []) → iteP (Z.2 != Y.2) (noP r) (small28 (Z.1.getD []) ∧ iteP (!eqL (Z.1.getD []) (Y.1.getD [])) (noP r) rest)) rest
      iteP (X.2 != Y.2) (noP r) (small28 (X.1.getD []) ∧ iteP (!eqL (X.1.getD []) (Y.1.getD [])) (noP r)
        (iteP (X.2 != 0) (iteP (X.2 != 15) (noP r) pub) pub))))) := by kernel_rfl
end Go.Sx

namespace Go.Sx
open Go.Proofs
set_option maxRecDepth 100000

def ladT (a b : List Int) (u : Fp) : Fp := ladTwo 448 u (num8 (clampS a)) (num8 (clampS b))
theorem ladP448 {a : List Int} (ha : a.length = 56) (u : Fp) : ladP (clampS a) u = lad0 (ladF u 448 (num8 (clampS a))) := by
  unfold ladP
  rw [clampS_len ha]
theorem leval_val (x : Fp) : ofI (leval (le 56 x.val)) = x := by
  rw [leval_le, Nat.mod_eq_of_lt (Nat.lt_trans x.isLt (by decide +kernel))]
  exact ofI_valF x
theorem x448_parts {k u : List Int} (hk : bK k) (hu : bK u) : (x448 k u).2 = (if ladP (clampS k) (ofI (leval u)) = 0 then 15 else 0) ∧ (x448 k u).1.getD [] = (if ladP (clampS k) (ofI (leval u)) = 0 then [] else le 56 (ladP (clampS k) (ofI (leval u))).val) := by
  obtain ⟨h1, h2⟩ := x448_spec hk.1 hk.2 hu.1 hu.2
  rw [h1]
  unfold rx448
  rw [h2]
  dsimp only
  generalize ladP (clampS k) (ofI (leval u)) = q
  refine ⟨rfl, ?_⟩
  by_cases hq : q = 0
  · rw [if_pos hq, if_pos hq]; rfl
  · rw [if_neg hq, if_neg hq]; rfl
theorem twice_parts {a b u : List Int} (ha : bK a) (hb : bK b) (hu : bK u) : (twiceO a b u).2 = (if ladT a b (ofI (leval u)) = 0 then 15 else 0) ∧ (twiceO a b u).1.getD [] = (if ladT a b (ofI (leval u)) = 0 then [] else le 56 (ladT a b (ofI (leval u))).val) := by
  obtain ⟨h1, h2⟩ := x448_parts ha hu
  unfold twiceO ladT ladTwo
  rw [ladP448 ha.1] at h1 h2
  generalize lad0 (ladF (ofI (leval u)) 448 (num8 (clampS a))) = q at *
  by_cases hq : q = 0
  · rw [if_pos hq] at h1
    rw [h1, if_neg (by decide), if_pos hq, if_pos rfl, if_pos rfl]
    exact ⟨rfl, rfl⟩
  · rw [if_neg hq] at h1 h2
    rw [h1, if_pos rfl, if_neg hq, h2]
    obtain ⟨k1, k2⟩ := x448_parts hb (le56_ok q.val)
    rw [ladP448 hb.1, leval_val] at k1 k2
    exact ⟨k1, k2⟩
theorem ladT_comm {a b : List Int} (ha : bK a) (hb : bK b) (u : Fp) : ladT a b u = ladT b a u := by
  have lt : ∀ {a : List Int}, bK a → num8 (clampS a) < 2 ^ 448 := fun h => by
    have := num8_lt (clampS_ok h.1 h.2)
    have h8 : 8 * 56 = 448 := rfl
    rw [clampS_len h.1, h8] at this
    exact this
  have e := clampS_four ha.1 ha.2
  have f := clampS_four hb.1 hb.2
  exact lad_meet 448 u (lt ha) (lt hb) (by omega) (by omega)
theorem ld_eq {a : List Int} (h : a.length = 56) : ld a = a := by
  unfold ld
  show List.take 56 a = a
  exact List.take_of_length_le (by omega)
theorem isA_intro {a : List Int} {K : Prop} (h : a.length = 56) (k : K) : isA a K := by
  unfold isA
  rw [ld_eq h, h]
  exact guard_iff.2 ⟨rfl, guard_iff.2 ⟨rfl, rfl, k⟩⟩
theorem five_ok : bK (El.Bytes (El.int 5)) := by
  rw [Bytes_spec (int_spec five).1]; exact le56_ok _
theorem getD_small {T : Fp} {l : List Int} (h : l = if T = 0 then [] else le 56 T.val) : small28 l := by
  refine small28_le ?_
  rw [h]
  split
  · decide
  · rw [le_len]; decide
theorem LadderMeets_true {a b u : List Int} (ha : bK a) (hb : bK b) (hu : bK u) : run1 E spLM 20 [] 0 noAnn f_law10_LadderMeets ((A3 aRaw aRaw aRaw).to (a, b, u, ())) (meet false boolV true) := by
  refine yes (r_LadderMeets true a b u) (isA_intro ha.1 (isA_intro hb.1 ?_))
  rw [ld_eq ha.1, ld_eq hb.1, ld_eq hu.1]
  intro e he X hX Y hY
  rw [he] at hX hY
  have h5 := five_ok
  obtain ⟨x2, x1⟩ := twice_parts ha hb h5
  obtain ⟨y2, y1⟩ := twice_parts hb ha h5
  rw [← hX] at x1 x2
  rw [← hY] at y1 y2
  rw [ladT_comm hb ha] at y1 y2
  have hXY2 : X.2 = Y.2 := by rw [x2, y2]
  have hXY1 : X.1.getD [] = Y.1.getD [] := by rw [x1, y1]
  have rest : isA u (∀ V, V = twiceO a b u → isA u (∀ W, W = twiceO b a u → iteP (V.2 == W.2) (small28 (V.1.getD []) ∧ ands [eqL (V.1.getD []) (W.1.getD [])] (yesP true) (noP true)) (noP true))) := by
    refine isA_intro hu.1 fun V hV => isA_intro hu.1 fun W hW => ?_
    obtain ⟨v2, v1⟩ := twice_parts ha hb hu
    obtain ⟨w2, w1⟩ := twice_parts hb ha hu
    rw [← hV] at v1 v2
    rw [← hW] at w1 w2
    rw [ladT_comm hb ha] at w1 w2
    have e2 : V.2 = W.2 := by rw [v2, w2]
    have e1 : V.1.getD [] = W.1.getD [] := by rw [v1, w1]
    have b1 : (V.2 == W.2) = true := by rw [e2]; exact beq_self_eq_true _
    rw [b1, e1, eqL_refl]
    exact ⟨getD_small w1, rfl⟩
  have pub : ∀ G, G = pubV b → iteP (G.2 == 0) (∀ Z, Z = x448 a (G.1.getD []) → iteP (Z.2 != Y.2) (noP true) (small28 (Z.1.getD []) ∧ iteP (!eqL (Z.1.getD []) (Y.1.getD [])) (noP true) (isA u (∀ V, V = twiceO a b u → isA u (∀ W, W = twiceO b a u → iteP (V.2 == W.2) (small28 (V.1.getD []) ∧ ands [eqL (V.1.getD []) (W.1.getD [])] (yesP true) (noP true)) (noP true)))))) (isA u (∀ V, V = twiceO a b u → isA u (∀ W, W = twiceO b a u → iteP (V.2 == W.2) (small28 (V.1.getD []) ∧ ands [eqL (V.1.getD []) (W.1.getD [])] (yesP true) (noP true)) (noP true)))) := by
    intro G hG
    refine iteP_intro (fun h => ?_) (fun _ => rest)
    intro Z hZ
    have hG2 : (x448 b (El.Bytes (El.int 5))).2 = 0 := by
      unfold pubV at hG
      rw [← hG]; simpa using h
    have hYZ : Y = (some (Z.1.getD []), Z.2) := by
      rw [hY, hZ, hG]
      unfold twiceO pubV
      rw [if_pos hG2]
    have e2 : Z.2 = Y.2 := by rw [hYZ]
    have e1 : Z.1.getD [] = Y.1.getD [] := by rw [hYZ]; rfl
    have b1 : (Z.2 != Y.2) = false := by rw [e2]; simp
    rw [b1, e1, eqL_refl]
    exact ⟨getD_small y1, rest⟩
  have b1 : (X.2 != Y.2) = false := by rw [hXY2]; simp
  rw [b1, hXY1, eqL_refl]
  refine ⟨getD_small y1, ?_⟩
  have x15 : X.2 = 15 ∨ X.2 = 0 := by
    rw [x2]
    generalize ladT a b (ofI (leval (El.Bytes (El.int 5)))) = q
    by_cases hq : q = 0
    · rw [if_pos hq]; exact .inl rfl
    · rw [if_neg hq]; exact .inr rfl
  refine iteP_intro (fun h => absurd h (by decide)) (fun _ => iteP_intro (fun h => iteP_intro (fun h2 => ?_) (fun _ => pub)) (fun _ => pub))
  exfalso
  rcases x15 with h3 | h3
  · rw [h3] at h2; exact absurd h2 (by decide)
  · rw [h3] at h; exact absurd h (by decide)
theorem ok_LadderMeets : SpecOK prog n_law10_LadderMeets (mk (A3 aRaw aRaw aRaw) (some fun a => bK a.1 ∧ bK a.2.1 ∧ bK a.2.2.1) (fun _ => true) boolV) :=
  mk_ok (fuel := 20) (depth := 0) (ann := fun _ => noAnn) env_ok mixed spLM_ok FnsOK.nil (by kernel_rfl) (by kernel_rfl) (by kernel_rfl) (notOwn false rfl) (fun a h => by
    have hd : bK a.1 ∧ bK a.2.1 ∧ bK a.2.2.1 := h _ rfl
    exact LadderMeets_true hd.1 hd.2.1 hd.2.2)
end Go.Sx
