/- The reference's numbers and literals as plain functions. -/
import Derived.Lib.Atoi
import Derived.Lib.ItoaNum
import Derived.Test.YtdnclnacneakbaaGreatDoorR1
import Derived.Test.YtdnclnacneakbaaGreatDoorR3
import Derived.Test.YtdnclnacneakbaaGreatDoorL2
set_option linter.unusedVariables false
set_option linter.unusedSimpArgs false
set_option linter.unusedSectionVars false
section
namespace Go.Proofs.YtdnclnacneakbaaGreatDoor.PSmall
open Go.RowKit Go.Proofs.YtdnclnacneakbaaGreatDoorW.PrintWords Go.Proofs.YtdnclnacneakbaaGreatDoorW.PrintLast Go.Proofs.YtdnclnacneakbaaGreatDoorW.PrintMore
def Tot {α : Type} (g : Nat → Option α) : Prop := ∃ r, Ev g r
theorem Tot.bind {α β : Type} {g : Nat → Option α} {f : Nat → α → Option β} (h : Tot g) (k : ∀ a, Tot (fun n => f n a)) : Tot (fun n => (g n).bind (f n)) := by
  obtain ⟨a, ha⟩ := h
  obtain ⟨r, hr⟩ := k a
  exact ⟨r, Ev.bind ha hr⟩
theorem Tot.step {α : Type} {g f : Nat → Option α} (h : ∀ k, g (k + 1) = f k) (k : Tot f) : Tot g := by
  obtain ⟨r, hr⟩ := k
  exact ⟨r, Ev.step h hr⟩
theorem Ev.same {α : Type} {g : Nat → Option α} {a b : α} (h : Ev g a) (k : Ev g b) : a = b := by
  obtain ⟨K, hK⟩ := h
  obtain ⟨L, hL⟩ := k
  have h1 := hK (max K L) (Nat.le_max_left _ _)
  have h2 := hL (max K L) (Nat.le_max_right _ _)
  rw [h1] at h2
  exact Option.some.inj h2
theorem Ev.ite_pos {α : Type} {c : Prop} [Decidable c] {g f : Nat → Option α} {r : α} (hc : c) (h : Ev g r) : Ev (fun n => if c then g n else f n) r := by
  simp only [if_pos hc]; exact h
theorem Ev.ite_neg {α : Type} {c : Prop} [Decidable c] {g f : Nat → Option α} {r : α} (hc : ¬ c) (h : Ev f r) : Ev (fun n => if c then g n else f n) r := by
  simp only [if_neg hc]; exact h
theorem width_cases {wd : Int} (h2 : 2 ≤ wd) (h8 : wd ≤ 8) : wd = 2 ∨ wd = 3 ∨ wd = 4 ∨ wd = 5 ∨ wd = 6 ∨ wd = 7 ∨ wd = 8 := by omega
def half (wd : Int) : Int := if wd = 2 then 2 else if wd = 3 then 4 else if wd = 4 then 8 else if wd = 5 then 16 else if wd = 6 then 32 else if wd = 7 then 64 else 128
theorem half_cases {wd : Int} (h2 : 2 ≤ wd) (h8 : wd ≤ 8) : half wd = 2 ∨ half wd = 4 ∨ half wd = 8 ∨ half wd = 16 ∨ half wd = 32 ∨ half wd = 64 ∨ half wd = 128 := by
  rcases width_cases h2 h8 with rfl | rfl | rfl | rfl | rfl | rfl | rfl <;> decide +kernel
def wr (wd n : Int) : Int := (n + half wd) % (2 * half wd) - half wd
theorem value_least {wd : Int} (h2 : 2 ≤ wd) (h8 : wd ≤ 8) : value_Least.f wd = some (-half wd) := by
  rcases width_cases h2 h8 with rfl | rfl | rfl | rfl | rfl | rfl | rfl <;> decide +kernel
theorem value_greatest {wd : Int} (h2 : 2 ≤ wd) (h8 : wd ≤ 8) : value_Greatest.f wd = some (half wd - 1) := by
  rcases width_cases h2 h8 with rfl | rfl | rfl | rfl | rfl | rfl | rfl <;> decide +kernel
theorem ref_power {wd : Int} (h2 : 2 ≤ wd) (h8 : wd ≤ 8) : Ev (fun k => assessorref11_power.f k wd) (2 * half wd) := by
  refine Ev.of (fun k => assessorref11_power.mono wd k) (k := 20) ?_
  rcases width_cases h2 h8 with rfl | rfl | rfl | rfl | rfl | rfl | rfl <;> decide +kernel
theorem ref_least {wd : Int} (h2 : 2 ≤ wd) (h8 : wd ≤ 8) : Ev (fun k => assessorref11_Least.f k wd) (-half wd) := by
  refine Ev.of (fun k => assessorref11_Least.mono wd k) (k := 20) ?_
  rcases width_cases h2 h8 with rfl | rfl | rfl | rfl | rfl | rfl | rfl <;> decide +kernel
theorem ref_greatest {wd : Int} (h2 : 2 ≤ wd) (h8 : wd ≤ 8) : Ev (fun k => assessorref11_Greatest.f k wd) (half wd - 1) := by
  refine Ev.of (fun k => assessorref11_Greatest.mono wd k) (k := 20) ?_
  rcases width_cases h2 h8 with rfl | rfl | rfl | rfl | rfl | rfl | rfl <;> decide +kernel
theorem half_pos {wd : Int} (h2 : 2 ≤ wd) (h8 : wd ≤ 8) : 2 ≤ half wd ∧ half wd ≤ 128 := by
  rcases width_cases h2 h8 with rfl | rfl | rfl | rfl | rfl | rfl | rfl <;> decide +kernel
theorem ref_width {wd : Int} (h2 : 2 ≤ wd) (h8 : wd ≤ 8) : assessorref11_Width.f wd = some true := by
  unfold assessorref11_Width.f; rw [if_pos (by omega), decide_eq_true h8]
theorem ref_width_no {wd : Int} (h : wd < 2 ∨ 8 < wd) : assessorref11_Width.f wd = some false := by
  unfold assessorref11_Width.f
  by_cases h2 : 2 ≤ wd
  · rw [if_pos h2, decide_eq_false (by omega)]
  · rw [if_neg (by omega)]
theorem tmod_eq (n k : Int) (hk : 0 < k) : Int.tmod n k = if 0 ≤ n then n % k else -((-n) % k) := by
  by_cases h : 0 ≤ n
  · rw [if_pos h, Int.tmod_eq_emod_of_nonneg h]
  · rw [if_neg h]
    have h1 : Int.tmod n k = -(Int.tmod (-n) k) := by rw [Int.neg_tmod, Int.neg_neg]
    rw [h1, Int.tmod_eq_emod_of_nonneg (by omega)]
theorem wr_range {wd : Int} (h2 : 2 ≤ wd) (h8 : wd ≤ 8) (n : Int) : -half wd ≤ wr wd n ∧ wr wd n ≤ half wd - 1 := by
  unfold wr
  rcases half_cases h2 h8 with hh | hh | hh | hh | hh | hh | hh <;> rw [hh] <;> omega
theorem wr_id {wd : Int} (h2 : 2 ≤ wd) (h8 : wd ≤ 8) {n : Int} (h : -half wd ≤ n ∧ n ≤ half wd - 1) : wr wd n = n := by
  unfold wr
  rcases half_cases h2 h8 with hh | hh | hh | hh | hh | hh | hh <;> rw [hh] at h ⊢ <;> omega
theorem wr_neg_neg {wd : Int} (h2 : 2 ≤ wd) (h8 : wd ≤ 8) {n : Int} (h : -half wd ≤ n ∧ n ≤ half wd - 1) : wr wd (-(wr wd (-n))) = n := by
  unfold wr
  rcases half_cases h2 h8 with hh | hh | hh | hh | hh | hh | hh <;> rw [hh] at h ⊢ <;> omega
theorem ref_wrap {wd : Int} (h2 : 2 ≤ wd) (h8 : wd ≤ 8) (n : Int) : Ev (fun k => assessorref11_Wrap.f k wd n) (wr wd n) := by
  obtain ⟨p1, p2⟩ := half_pos h2 h8
  have hw : ∀ x : Int, -1000 ≤ x → x ≤ 1000 → wrap64 x = x := fun x h1 h2 => by unfold wrap64; omega
  have ht := tmod_eq n (2 * half wd) (by omega)
  have hm : 0 ≤ n % (2 * half wd) ∧ n % (2 * half wd) < 2 * half wd := ⟨Int.emod_nonneg _ (by omega), Int.emod_lt_of_pos _ (by omega)⟩
  have hm2 : 0 ≤ (-n) % (2 * half wd) ∧ (-n) % (2 * half wd) < 2 * half wd := ⟨Int.emod_nonneg _ (by omega), Int.emod_lt_of_pos _ (by omega)⟩
  have hr : -(2 * half wd) < Int.tmod n (2 * half wd) ∧ Int.tmod n (2 * half wd) < 2 * half wd := by rw [ht]; split <;> omega
  have hval : (if Int.tmod n (2 * half wd) < -half wd then Int.tmod n (2 * half wd) + 2 * half wd else if Int.tmod n (2 * half wd) > half wd - 1 then Int.tmod n (2 * half wd) - 2 * half wd else Int.tmod n (2 * half wd)) = wr wd n := by
    rw [ht]
    unfold wr
    clear ht hm hm2 hr hw p1 p2
    rcases half_cases h2 h8 with hh | hh | hh | hh | hh | hh | hh <;> rw [hh] <;> by_cases hn : 0 ≤ n <;> simp only [hn, if_true, if_false] <;> (repeat' split) <;> omega
  unfold assessorref11_Wrap.f
  simp only [ref_width h2 h8, Option.bind_some, if_true]
  refine Ev.bind (ref_power h2 h8) ?_
  refine Ev.ite_neg (by omega) ?_
  refine Ev.bind (ref_least h2 h8) ?_
  generalize Int.tmod n (2 * half wd) = t at *
  by_cases c1 : t < -half wd
  · rw [if_pos c1] at hval
    refine Ev.ite_pos c1 (Ev.bind (ref_power h2 h8) ?_)
    rw [hw _ (by omega) (by omega), hval]; exact Ev.now _
  · rw [if_neg c1] at hval
    refine Ev.ite_neg c1 (Ev.bind (ref_greatest h2 h8) ?_)
    by_cases c2 : t > half wd - 1
    · rw [if_pos c2] at hval
      refine Ev.ite_pos c2 (Ev.bind (ref_power h2 h8) ?_)
      rw [hw _ (by omega) (by omega), hval]; exact Ev.now _
    · rw [if_neg c2] at hval
      refine Ev.ite_neg c2 ?_
      rw [hval]; exact Ev.now _
theorem wrap_shift (n : Int) (C m : Int) (h : (C = 4611686018427387904 ∧ m = 2) ∨ (C = 2305843009213693952 ∧ m = 4) ∨ (C = 1152921504606846976 ∧ m = 8) ∨ (C = 576460752303423488 ∧ m = 16) ∨ (C = 288230376151711744 ∧ m = 32) ∨ (C = 144115188075855872 ∧ m = 64) ∨ (C = 72057594037927936 ∧ m = 128)) :
    ((n * C + 9223372036854775808) % 18446744073709551616 - 9223372036854775808) / C = (n + m) % (2 * m) - m := by
  rcases h with ⟨rfl, rfl⟩ | ⟨rfl, rfl⟩ | ⟨rfl, rfl⟩ | ⟨rfl, rfl⟩ | ⟨rfl, rfl⟩ | ⟨rfl, rfl⟩ | ⟨rfl, rfl⟩ <;> omega
theorem pow_cases {wd : Int} (h2 : 2 ≤ wd) (h8 : wd ≤ 8) : ((2 : Int) ^ min (wrap64 (64 - wd)).toNat IntKind.i64.bits = 4611686018427387904 ∧ half wd = 2) ∨ ((2 : Int) ^ min (wrap64 (64 - wd)).toNat IntKind.i64.bits = 2305843009213693952 ∧ half wd = 4) ∨ ((2 : Int) ^ min (wrap64 (64 - wd)).toNat IntKind.i64.bits = 1152921504606846976 ∧ half wd = 8) ∨ ((2 : Int) ^ min (wrap64 (64 - wd)).toNat IntKind.i64.bits = 576460752303423488 ∧ half wd = 16) ∨ ((2 : Int) ^ min (wrap64 (64 - wd)).toNat IntKind.i64.bits = 288230376151711744 ∧ half wd = 32) ∨ ((2 : Int) ^ min (wrap64 (64 - wd)).toNat IntKind.i64.bits = 144115188075855872 ∧ half wd = 64) ∨ ((2 : Int) ^ min (wrap64 (64 - wd)).toNat IntKind.i64.bits = 72057594037927936 ∧ half wd = 128) := by
  rcases width_cases h2 h8 with rfl | rfl | rfl | rfl | rfl | rfl | rfl <;> decide +kernel
theorem val_wrap {wd : Int} (h2 : 2 ≤ wd) (h8 : wd ≤ 8) (n : Int) : value_Wrap.f wd n = some (wr wd n) := by
  unfold value_Wrap.f value_isWidth.f
  rw [if_pos (by omega), decide_eq_true h8]
  simp only [Option.bind_some, if_true]
  rw [if_pos (by unfold wrap64; omega)]
  have e1 : ∀ x : Int, IntKind.i64.wrap x = wrap64 x := fun x => i64_w x
  unfold shr shl
  rw [e1]
  have := wrap_shift n _ _ (pow_cases h2 h8)
  unfold wr
  have e2 : ∀ x : Int, wrap64 x = (x + 9223372036854775808) % 18446744073709551616 - 9223372036854775808 := fun x => by unfold wrap64; rfl
  rw [← this, e2 (n * _)]
end Go.Proofs.YtdnclnacneakbaaGreatDoor.PSmall
end
section
namespace Go.Proofs.YtdnclnacneakbaaGreatDoor.PSmall
open Go.RowKit Go.Proofs.YtdnclnacneakbaaGreatDoorW.PrintWords Go.Proofs.YtdnclnacneakbaaGreatDoorW.PrintLast Go.Proofs.YtdnclnacneakbaaGreatDoorW.PrintMore
theorem w64s {x : Int} (h : -9223372036854775808 ≤ x ∧ x < 9223372036854775808) : wrap64 x = x := by unfold wrap64; omega
theorem bt_list (s : ByteArray) (i : Nat) (h : i < s.size) : ∃ c : UInt8, s.data.toList.drop i = c :: s.data.toList.drop (i + 1) ∧ bt s i = c.toNat := by
  have hl : i < s.data.toList.length := by simpa using h
  refine ⟨s.data.toList[i], List.drop_eq_getElem_cons hl, ?_⟩
  unfold bt
  rw [dif_pos (by simpa using h)]
  simp only [Int.toNat_natCast]
  rfl
theorem drop_end (s : ByteArray) : s.data.toList.drop s.size = [] := List.drop_eq_nil_of_le (Nat.le_of_eq (by rw [Array.length_toList]; rfl))
theorem digit_yes {c : Int} (h : 48 ≤ c ∧ c ≤ 57) : assessorref02_digit.f c = some true := by
  unfold assessorref02_digit.f; rw [if_pos h.1, decide_eq_true h.2]
theorem digit_no {c : Int} (h : ¬ (48 ≤ c ∧ c ≤ 57)) : assessorref02_digit.f c = some false := by
  unfold assessorref02_digit.f
  by_cases h1 : c ≥ 48
  · rw [if_pos h1, decide_eq_false (by omega)]
  · rw [if_neg h1]
theorem num_run (s : ByteArray) (hs : s.size ≤ 9) : ∀ (d i acc : Nat), i + d = s.size → acc < 10 ^ i →
    (∀ j : Nat, i ≤ j → j < s.size → 48 ≤ bt s j ∧ bt s j ≤ 57) → ∃ N : Nat, N < 10 ^ s.size ∧ Lib.decFrom acc (s.data.toList.drop i) = some N ∧ Ev (fun k => assessorref02_Number.l0 k s acc i) ((N : Int), true)
  | 0, i, acc, hi, ha, _ => by
    obtain rfl : i = s.size := by omega
    refine ⟨acc, ha, by rw [drop_end]; rfl, Ev.step (f := fun _ => some ((acc : Int), true)) (fun k => ?_) (Ev.now _)⟩
    simp only [assessorref02_Number.l0]; rw [if_neg (by omega)]
  | d + 1, i, acc, hi, ha, hd => by
    obtain ⟨c, hc1, hc2⟩ := bt_list s i (by omega)
    have hdi := hd i (Nat.le_refl _) (by omega)
    rw [hc2] at hdi
    have hp : 10 ^ i ≤ 10 ^ 9 := Nat.pow_le_pow_right (by omega) (by omega)
    obtain ⟨N, h1, h2, h3⟩ := num_run s hs d (i + 1) (acc * 10 + (c.toNat - 48)) (by omega) (by rw [Nat.pow_succ]; omega) (fun j h4 h5 => hd j (by omega) h5)
    refine ⟨N, h1, ?_, ?_⟩
    · rw [hc1]
      simp only [Lib.decFrom, Lib.digitVal]
      rw [if_pos (by omega)]
      exact h2
    · refine Ev.step (f := fun k => assessorref02_Number.l0 k s ((acc * 10 + (c.toNat - 48) : Nat) : Int) ((i + 1 : Nat) : Int)) (fun k => ?_) h3
      simp only [assessorref02_Number.l0]
      rw [if_pos (by omega), if_pos (by omega), hc2, digit_yes hdi, Option.bind_some, if_pos rfl, w64s (x := 10 * (acc : Int)) (by omega), w64s (x := 10 * (acc : Int) + ((c.toNat : Int) - 48) % 256) (by omega), w64s (x := (i : Int) + 1) (by omega)]
      congr 1
      omega
theorem num_bad (s : ByteArray) (hs : s.size ≤ 9) : ∀ (d i : Nat) (acc : Int), i + d = s.size → (∃ j : Nat, i ≤ j ∧ j < s.size ∧ ¬ (48 ≤ bt s j ∧ bt s j ≤ 57)) → Ev (fun k => assessorref02_Number.l0 k s acc i) ((0 : Int), false)
  | 0, i, acc, hi, ⟨j, h1, h2, _⟩ => by omega
  | d + 1, i, acc, hi, ⟨j, h1, h2, h3⟩ => by
    by_cases hdi : 48 ≤ bt s i ∧ bt s i ≤ 57
    · have hji : j ≠ i := fun e => h3 (by rw [e]; exact hdi)
      have ih := num_bad s hs d (i + 1) (wrap64 (wrap64 (10 * acc) + (bt s i - 48) % 256)) (by omega) ⟨j, by omega, h2, h3⟩
      refine Ev.step (f := fun k => assessorref02_Number.l0 k s (wrap64 (wrap64 (10 * acc) + (bt s i - 48) % 256)) ((i + 1 : Nat) : Int)) (fun k => ?_) ih
      simp only [assessorref02_Number.l0]
      rw [if_pos (by omega), if_pos (by omega), digit_yes hdi, Option.bind_some, if_pos rfl, w64s (x := (i : Int) + 1) (by omega)]
      rfl
    · refine Ev.step (f := fun _ => some ((0 : Int), false)) (fun k => ?_) (Ev.now _)
      simp only [assessorref02_Number.l0]
      rw [if_pos (by omega), if_pos (by omega), digit_no hdi, Option.bind_some, if_neg (by decide)]
theorem number_yes (s : ByteArray) (h : isNumber s) : ∃ N : Nat, N < 10 ^ 9 ∧ Lib.atoi s.data.toList = some (N : Int) ∧ Ev (fun k => assessorref02_Number.f k s) ((N : Int), true) := by
  obtain ⟨h1, h2, h3⟩ := h
  obtain ⟨N, n1, n2, n3⟩ := num_run s h2 s.size 0 0 (by omega) (by omega) (fun j _ h5 => h3 j h5)
  refine ⟨N, Nat.lt_of_lt_of_le n1 (Nat.pow_le_pow_right (by omega) h2), ?_, ?_⟩
  · obtain ⟨c, hc1, hc2⟩ := bt_list s 0 h1
    have h30 := h3 0 h1
    rw [hc2] at h30
    rw [List.drop_zero] at n2 hc1
    rw [hc1] at n2 ⊢
    unfold Lib.atoi
    have e1 : (c == 45) = false := beq_eq_false_iff_ne.mpr (fun e => by rw [e] at h30; exact absurd h30.1 (by decide))
    have e2 : (c == 43) = false := beq_eq_false_iff_ne.mpr (fun e => by rw [e] at h30; exact absurd h30.1 (by decide))
    simp only [e1, e2, Lib.decNat, List.isEmpty_cons, n2]
    rfl
  · unfold assessorref02_Number.f
    refine Ev.ite_neg (by omega) ?_
    rw [decide_eq_false (by omega)]
    refine Ev.step (f := fun k => assessorref02_Number.l0 k s 0 0) (fun k => ?_) n3
    simp only [assessorref02_Number.j0]
    rw [if_neg (by decide)]
theorem number_no (s : ByteArray) (h : ¬ isNumber s) : Ev (fun k => assessorref02_Number.f k s) ((0 : Int), false) := by
  unfold assessorref02_Number.f
  by_cases h1 : (s.size : Int) < 1
  · refine Ev.ite_pos h1 (Ev.step (f := fun _ => some ((0 : Int), false)) (fun k => ?_) (Ev.now _))
    simp only [assessorref02_Number.j0, if_true]
  · refine Ev.ite_neg h1 ?_
    by_cases h2 : (s.size : Int) > 9
    · rw [decide_eq_true h2]
      refine Ev.step (f := fun _ => some ((0 : Int), false)) (fun k => ?_) (Ev.now _)
      simp only [assessorref02_Number.j0, if_true]
    · rw [decide_eq_false h2]
      have hb : ∃ j : Nat, 0 ≤ j ∧ j < s.size ∧ ¬ (48 ≤ bt s j ∧ bt s j ≤ 57) := Classical.byContradiction fun hn => h ⟨by omega, by omega, fun j hj => Classical.byContradiction fun hh => hn ⟨j, Nat.zero_le _, hj, hh⟩⟩
      refine Ev.step (f := fun k => assessorref02_Number.l0 k s 0 0) (fun k => ?_) (num_bad s (by omega) s.size 0 0 (by omega) hb)
      simp only [assessorref02_Number.j0]
      rw [if_neg (by decide)]
open Classical in
theorem number_ev (s : ByteArray) : Ev (fun k => assessorref03_number.f k s) (decide (isPlain s)) := by
  unfold assessorref03_number.f
  by_cases hn : isNumber s
  · obtain ⟨N, _, _, h⟩ := number_yes s hn
    refine Ev.bind h ?_
    simp only [if_true]
    by_cases h0 : s.toList = [48]
    · rw [decide_eq_true (show isPlain s from ⟨hn, .inl h0⟩)]
      exact Ev.ite_pos h0 (Ev.now _)
    · refine Ev.ite_neg h0 (Ev.ite_pos (by have := hn.1; omega) ?_)
      by_cases hb : bt s 0 = 48
      · rw [decide_eq_false (fun h : isPlain s => h.2.elim h0 fun h => h hb), hb]; exact Ev.now _
      · rw [decide_eq_true (show isPlain s from ⟨hn, .inr hb⟩)]
        have : (bt s 0 != 48) = true := bne_iff_ne.mpr hb
        rw [this]; exact Ev.now _
  · rw [decide_eq_false (fun h : isPlain s => hn h.1)]
    refine Ev.bind (number_no s hn) ?_
    exact Ev.ite_neg (by decide) (Ev.now _)
end Go.Proofs.YtdnclnacneakbaaGreatDoor.PSmall
end
section
namespace Go.Proofs.YtdnclnacneakbaaGreatDoor.PSmall
open Go.RowKit Go.Proofs.YtdnclnacneakbaaGreatDoorW.PrintWords Go.Proofs.YtdnclnacneakbaaGreatDoorW.PrintLast Go.Proofs.YtdnclnacneakbaaGreatDoorW.PrintMore
theorem Tot.succ {α : Type} {g : Nat → Option α} (h : Tot (fun k => g (k + 1))) : Tot g := Tot.step (f := fun k => g (k + 1)) (fun _ => rfl) h
theorem Tot.const {α β : Type} {o : Option α} {f : Nat → α → Option β} (h : ∃ a, o = some a) (k : ∀ a, Tot (fun n => f n a)) : Tot (fun n => o.bind (f n)) := by
  obtain ⟨a, rfl⟩ := h
  exact k a
end Go.Proofs.YtdnclnacneakbaaGreatDoor.PSmall
end
section
namespace Go.Proofs.YtdnclnacneakbaaGreatDoor.PSmall
open Go.RowKit Go.Proofs.YtdnclnacneakbaaGreatDoorW.PrintWords Go.Proofs.YtdnclnacneakbaaGreatDoorW.PrintLast Go.Proofs.YtdnclnacneakbaaGreatDoorW.PrintMore
theorem Ev.succ {α : Type} {g : Nat → Option α} {r : α} (h : Ev (fun k => g (k + 1)) r) : Ev g r := Ev.step (f := fun k => g (k + 1)) (fun _ => rfl) h
theorem Ev.const {α β : Type} {o : Option α} {a : α} {f : Nat → α → Option β} {r : β} (h : o = some a) (k : Ev (fun n => f n a) r) : Ev (fun n => o.bind (f n)) r := by
  subst h
  exact k
def bs (l : List UInt8) : ByteArray := ⟨l.toArray⟩
theorem bs_size (l : List UInt8) : (bs l).size = l.length := by simp [bs, ByteArray.size]
theorem bs_data (l : List UInt8) : (bs l).data.toList = l := by simp [bs]
theorem bs_toList (l : List UInt8) : (bs l).toList = l := by rw [ByteArray.toList_eq]; exact bs_data l
theorem digit_ex : ∀ d : Fin 10, (⟨#[48, 49, 50, 51, 52, 53, 54, 55, 56, 57]⟩ : ByteArray).extract d.val (d.val + 1) = bs [UInt8.ofNat (48 + d.val)] := by decide +kernel
theorem bs_append (a b : List UInt8) : bs a ++ bs b = bs (a ++ b) := by
  apply ByteArray.ext
  rw [ByteArray.data_append]
  simp [bs]
theorem decimal_ev (n : Nat) (hn : n < 1000000000) : Ev (fun k => assessorref36_decimal.f k (n : Int)) (bs (Lib.decDigits n)) := by
  induction n using Nat.strongRecOn with
  | _ n ih =>
  have ht : Int.tmod (n : Int) 10 = ((n % 10 : Nat) : Int) := by rw [Int.tmod_eq_emod_of_nonneg (by omega)]; omega
  have hd : Int.tdiv (n : Int) 10 = ((n / 10 : Nat) : Int) := by rw [Int.tdiv_eq_ediv_of_nonneg (by omega)]; omega
  have he : (⟨#[48, 49, 50, 51, 52, 53, 54, 55, 56, 57]⟩ : ByteArray).extract ((n % 10 : Nat) : Int).toNat (((n % 10 : Nat) : Int) + 1).toNat = bs [UInt8.ofNat (48 + n % 10)] := digit_ex ⟨n % 10, Nat.mod_lt _ (by decide)⟩
  refine Ev.succ ?_
  simp only [assessorref36_decimal.f]
  rw [ht, hd, w64s (x := ((n % 10 : Nat) : Int) + 1) (by omega), he, w64s (x := ((n / 10 : Nat) : Int)) (by omega)]
  refine Ev.ite_pos (by omega) (Ev.ite_pos (by omega) (Ev.ite_pos (by omega) ?_))
  by_cases h10 : n < 10
  · refine Ev.ite_pos (by omega) ?_
    rw [Lib.decDigits, dif_pos h10, Nat.mod_eq_of_lt h10]
    exact Ev.now _
  · have hdd : Lib.decDigits n = Lib.decDigits (n / 10) ++ [UInt8.ofNat (48 + n % 10)] := by rw [Lib.decDigits, dif_neg h10]
    refine Ev.ite_neg (by omega) (Ev.bind (ih (n / 10) (by omega) (by omega)) ?_)
    rw [hdd]
    refine Ev.ite_pos ?_ ?_
    · rw [bs_size, bs_size, Lib.decDigits_length]
      have h3 : ∀ (j u : Nat), u < 10 ^ (j + 1) → Lib.nDigits u ≤ j + 1 := fun j => by
        induction j with
        | zero => intro u hu; rw [Lib.nDigits_small (by omega)]; omega
        | succ j ihj =>
          intro u hu
          by_cases hu10 : u < 10
          · rw [Lib.nDigits_small hu10]; omega
          · rw [Lib.nDigits_big hu10]
            have := ihj (u / 10) (by rw [Nat.pow_succ] at hu; omega)
            omega
      have := h3 8 (n / 10) (by omega)
      simp only [List.length_singleton]
      omega
    · rw [bs_append]; exact Ev.now _
theorem digits_small {n : Nat} (hn : n < 1000) : (n < 10 ∧ Lib.decDigits n = [UInt8.ofNat (48 + n)]) ∨ (10 ≤ n ∧ n < 100 ∧ Lib.decDigits n = [UInt8.ofNat (48 + n / 10), UInt8.ofNat (48 + n % 10)]) ∨ (100 ≤ n ∧ Lib.decDigits n = [UInt8.ofNat (48 + n / 100), UInt8.ofNat (48 + n / 10 % 10), UInt8.ofNat (48 + n % 10)]) := by
  by_cases h1 : n < 10
  · exact .inl ⟨h1, Lib.decDigits_one h1⟩
  · by_cases h2 : n < 100
    · exact .inr (.inl ⟨by omega, h2, Lib.decDigits_two h1 h2⟩)
    · refine .inr (.inr ⟨by omega, ?_⟩)
      rw [Lib.decDigits, dif_neg h1, Lib.decDigits_two (by omega) (by omega)]
      have : n / 10 / 10 = n / 100 := by omega
      rw [this]; rfl
theorem ofNat_digit {a : Nat} (h : a < 10) : (UInt8.ofNat (48 + a)).toNat = 48 + a := by
  rw [UInt8.toNat_ofNat']; omega
theorem digitVal_of {a : Nat} (h : a < 10) : Lib.digitVal (UInt8.ofNat (48 + a)) = some a := by
  unfold Lib.digitVal
  rw [ofNat_digit h, if_pos (by omega)]
  congr 1; omega
theorem bt_bs (l : List UInt8) (i : Nat) (h : i < l.length) : bt (bs l) i = (l[i]).toNat := by
  unfold bt
  rw [dif_pos (by rw [bs_size]; simpa using h)]
  simp only [Int.toNat_natCast]
  rfl
theorem atoi_head {b : UInt8} {r : List UInt8} {a : Nat} (hb : b = UInt8.ofNat (48 + a)) (h : a < 10) {m : Nat} (hm : Lib.decFrom 0 (b :: r) = some m) : Lib.atoi (b :: r) = some (m : Int) := by
  have hn := ofNat_digit h
  rw [← hb] at hn
  unfold Lib.atoi
  have e1 : (b == 45) = false := beq_eq_false_iff_ne.mpr (fun e => by rw [e] at hn; have : (45 : UInt8).toNat = 45 := rfl; omega)
  have e2 : (b == 43) = false := beq_eq_false_iff_ne.mpr (fun e => by rw [e] at hn; have : (43 : UInt8).toNat = 43 := rfl; omega)
  simp only [e1, e2, Lib.decNat, List.isEmpty_cons, hm]
  rfl
theorem itoa_plain {n : Nat} (hn : n < 1000) : isPlain (bs (Lib.decDigits n)) ∧ Lib.atoi (Lib.decDigits n) = some (n : Int) := by
  have dig : ∀ a : Nat, a < 10 → 48 ≤ ((UInt8.ofNat (48 + a)).toNat : Int) ∧ ((UInt8.ofNat (48 + a)).toNat : Int) ≤ 57 := fun a h => by rw [ofNat_digit h]; omega
  rcases digits_small hn with ⟨h1, h2⟩ | ⟨h0, h1, h2⟩ | ⟨h1, h2⟩
  · rw [h2]
    refine ⟨⟨⟨by rw [bs_size]; exact Nat.succ_pos _, by rw [bs_size]; simp, fun i hi => ?_⟩, ?_⟩, ?_⟩
    · rw [bs_size] at hi
      rw [bt_bs _ i hi]
      have : i = 0 := by simpa using hi
      subst this
      exact dig n h1
    · by_cases h : n = 0
      · subst h; exact .inl (bs_toList _)
      · refine .inr ?_
        rw [show (0 : Int) = ((0 : Nat) : Int) from rfl, bt_bs _ 0 (by simp)]
        simp only [List.getElem_cons_zero, ofNat_digit h1]
        omega
    · refine atoi_head rfl h1 ?_
      simp only [Lib.decFrom, digitVal_of h1]
      congr 1; omega
  · rw [h2]
    refine ⟨⟨⟨by rw [bs_size]; exact Nat.succ_pos _, by rw [bs_size]; simp, fun i hi => ?_⟩, .inr ?_⟩, ?_⟩
    · rw [bs_size] at hi
      rw [bt_bs _ i hi]
      have : i = 0 ∨ i = 1 := by simp at hi; omega
      rcases this with rfl | rfl
      · exact dig _ (by omega)
      · exact dig _ (by omega)
    · rw [show (0 : Int) = ((0 : Nat) : Int) from rfl, bt_bs _ 0 (by simp)]
      simp only [List.getElem_cons_zero]
      rw [ofNat_digit (by omega)]
      omega
    · refine atoi_head rfl (by omega) ?_
      have h3 := digitVal_of (a := n / 10) (by omega)
      have h4 := digitVal_of (a := n % 10) (by omega)
      simp only [Lib.decFrom, h3, h4]
      congr 1; omega
  · rw [h2]
    refine ⟨⟨⟨by rw [bs_size]; exact Nat.succ_pos _, by rw [bs_size]; simp, fun i hi => ?_⟩, .inr ?_⟩, ?_⟩
    · rw [bs_size] at hi
      rw [bt_bs _ i hi]
      have : i = 0 ∨ i = 1 ∨ i = 2 := by simp at hi; omega
      rcases this with rfl | rfl | rfl
      · exact dig _ (by omega)
      · exact dig _ (by omega)
      · exact dig _ (by omega)
    · rw [show (0 : Int) = ((0 : Nat) : Int) from rfl, bt_bs _ 0 (by simp)]
      simp only [List.getElem_cons_zero]
      rw [ofNat_digit (by omega)]
      omega
    · refine atoi_head rfl (by omega) ?_
      have h3 := digitVal_of (a := n / 100) (by omega)
      have h4 := digitVal_of (a := n / 10 % 10) (by omega)
      have h5 := digitVal_of (a := n % 10) (by omega)
      simp only [Lib.decFrom, h3, h4, h5]
      congr 1; omega
theorem ref_lit_bad {wd v : Int} (h : ¬ (2 ≤ wd ∧ wd ≤ 8) ∨ ((2 ≤ wd ∧ wd ≤ 8) ∧ (v < -half wd ∨ half wd - 1 < v))) : Ev (fun k => assessorref36_Literal.f k wd v) (0, bs [], 0, 0, [], 2) := by
  have hj : Ev (fun k => assessorref36_Literal.j0 k v true) (0, bs [], 0, 0, [], 2) := by
    refine Ev.succ ?_
    simp only [assessorref36_Literal.j0, if_true]
    exact Ev.now _
  unfold assessorref36_Literal.f
  rcases h with h | ⟨⟨h2, h8⟩, h⟩
  · refine Ev.const (ref_width_no (by omega)) (Ev.ite_neg (by decide) hj)
  · refine Ev.const (ref_width h2 h8) (Ev.ite_pos rfl (Ev.bind (ref_least h2 h8) ?_))
    by_cases hlo : v < -half wd
    · exact Ev.ite_pos hlo hj
    · refine Ev.ite_neg hlo (Ev.bind (ref_greatest h2 h8) ?_)
      rw [decide_eq_true (show v > half wd - 1 by omega)]
      exact hj
theorem ref_lit_ok {wd v : Int} (h2 : 2 ≤ wd) (h8 : wd ≤ 8) (hlo : -half wd ≤ v) (hhi : v ≤ half wd - 1) :
    Ev (fun k => assessorref36_Literal.f k wd v) (if v < 0 then (28, bs [45], 0, 0, [⟨24, bs (Lib.decDigits (-v).toNat), 0, 0, []⟩], 0) else (24, bs (Lib.decDigits v.toNat), 0, 0, [], 0)) := by
  obtain ⟨p1, p2⟩ := half_pos h2 h8
  unfold assessorref36_Literal.f
  refine Ev.const (ref_width h2 h8) (Ev.ite_pos rfl (Ev.bind (ref_least h2 h8) (Ev.ite_neg (by omega) (Ev.bind (ref_greatest h2 h8) ?_))))
  rw [decide_eq_false (show ¬ v > half wd - 1 by omega)]
  refine Ev.succ ?_
  simp only [assessorref36_Literal.j0, assessorref36_node.f, Option.bind_some]
  refine Ev.ite_neg (by decide) ?_
  by_cases hv : v < 0
  · rw [if_pos hv, w64s (by omega)]
    refine Ev.ite_pos hv ?_
    have := decimal_ev (-v).toNat (by omega)
    rw [Int.toNat_of_nonneg (by omega)] at this
    exact Ev.bind this (Ev.now _)
  · rw [if_neg hv]
    refine Ev.ite_neg hv ?_
    have := decimal_ev v.toNat (by omega)
    rw [Int.toNat_of_nonneg (by omega)] at this
    exact Ev.bind this (Ev.now _)
end Go.Proofs.YtdnclnacneakbaaGreatDoor.PSmall
end
section
namespace Go.Proofs.YtdnclnacneakbaaGreatDoor.PSmall
open Go.RowKit Go.Proofs.YtdnclnacneakbaaGreatDoorW.PrintWords Go.Proofs.YtdnclnacneakbaaGreatDoorW.PrintLast Go.Proofs.YtdnclnacneakbaaGreatDoorW.PrintMore
mutual
def cnt : S24 → Nat
  | ⟨_, _, _, _, l⟩ => cntL l + 1
def cntL : List S24 → Nat
  | [] => 0
  | x :: xs => cnt x + cntL xs
end
mutual
def pre : S24 → List S24
  | ⟨a, b, c, d, l⟩ => ⟨a, b, c, d, l⟩ :: preL l
def preL : List S24 → List S24
  | [] => []
  | x :: xs => pre x ++ preL xs
end
theorem cnt_eq (t : S24) : cnt t = cntL t.f4 + 1 := by cases t; rfl
theorem pre_eq (t : S24) : pre t = t :: preL t.f4 := by cases t; rfl
mutual
theorem pre_len : ∀ t : S24, (pre t).length = cnt t
  | ⟨a, b, c, d, l⟩ => by
    rw [pre_eq, cnt_eq, List.length_cons]
    show (preL l).length + 1 = cntL l + 1
    rw [preL_len l]
theorem preL_len : ∀ l : List S24, (preL l).length = cntL l
  | [] => rfl
  | x :: xs => by rw [preL, cntL, List.length_append, pre_len x, preL_len xs]
end
theorem cnt_pos (t : S24) : 1 ≤ cnt t := by rw [cnt_eq]; omega
theorem cntL_len : ∀ l : List S24, l.length ≤ cntL l
  | [] => Nat.le_refl _
  | x :: xs => by have := cntL_len xs; have := cnt_pos x; simp only [List.length_cons, cntL]; omega
theorem cntL_mem : ∀ (l : List S24) (x : S24), x ∈ l → cnt x ≤ cntL l
  | y :: ys, x, h => by
    rcases List.mem_cons.1 h with rfl | h
    · simp only [cntL]; omega
    · have := cntL_mem ys x h; simp only [cntL]; omega
theorem tiny_of (t : S24) (h : cnt t ≤ 1000) : Tiny t := by
  rw [cnt_eq] at h
  refine .mk (by have := cntL_len t.f4; omega) fun x hx => tiny_of x (by have := cntL_mem _ _ hx; omega)
termination_by SizeOf.sizeOf t
decreasing_by
  have := List.sizeOf_lt_of_mem hx
  cases t
  simp only [S24.mk.sizeOf_spec] at this ⊢
  omega
theorem rd_at (l : List S24) (i : Nat) (h : i < l.length) : l.drop i = rd_T24 l (i : Int) :: l.drop (i + 1) := by
  unfold rd_T24
  rw [Int.toNat_natCast, List.getD_eq_getElem?_getD, List.getElem?_eq_getElem h]
  exact List.drop_eq_getElem_cons h
theorem nodes_ev (t : S24) (ht : cnt t < 2199023255552) : Ev (fun k => assessorref03_Nodes.f k t.f0 t.f1 t.f2 t.f3 t.f4) (pre t) := by
  rw [cnt_eq] at ht
  have hlen := cntL_len t.f4
  have hl : ∀ (d i : Nat) (acc : List S24), i + d = t.f4.length → acc.length + cntL (t.f4.drop i) < 2199023255552 → Ev (fun k => assessorref03_Nodes.l0 k acc i t.f0 t.f1 t.f2 t.f3 t.f4) (acc ++ preL (t.f4.drop i)) := by
    intro d
    induction d with
    | zero =>
      intro i acc h _
      refine Ev.succ ?_
      simp only [assessorref03_Nodes.l0]
      rw [List.drop_eq_nil_of_le (by omega), preL, List.append_nil]
      exact Ev.ite_neg (by omega) (Ev.now _)
    | succ d ih =>
      intro i acc h hb
      have hi : i < t.f4.length := by omega
      have hd := rd_at t.f4 i hi
      have hmem : rd_T24 t.f4 (i : Int) ∈ t.f4 := List.mem_of_mem_drop (by rw [hd]; exact List.mem_cons_self)
      rw [hd, cntL] at hb
      have hx := nodes_ev (rd_T24 t.f4 (i : Int)) (by omega)
      have hlx := pre_len (rd_T24 t.f4 (i : Int))
      have e : wrap64 ((i : Int) + 1) = ((i + 1 : Nat) : Int) := w64s (by omega)
      have ih2 := ih (i + 1) (acc ++ pre (rd_T24 t.f4 (i : Int))) (by omega) (by rw [List.length_append]; omega)
      refine Ev.succ ?_
      simp only [assessorref03_Nodes.l0]
      rw [e, hd, preL, ← List.append_assoc]
      exact Ev.ite_pos (by omega) (Ev.ite_pos (by omega) (Ev.bind hx (Ev.ite_pos (by omega) ih2)))
  refine Ev.succ ?_
  simp only [assessorref03_Nodes.f]
  have := hl t.f4.length 0 [t] (by omega) (by simp only [List.drop_zero, List.length_singleton]; omega)
  rw [List.drop_zero] at this
  rw [pre_eq]
  cases t
  exact this
termination_by SizeOf.sizeOf t
decreasing_by
  have := List.sizeOf_lt_of_mem hmem
  cases t
  simp only [S24.mk.sizeOf_spec] at this ⊢
  omega
theorem small_run (l : List S24) (m : Int) (hl : l.length < 2199023255552) : ∀ d i : Nat, i + d = l.length → ∃ b, Ev (fun k => assessorref03_Small.l0 k m l i) b ∧ (b = true → (l.length : Int) ≤ m)
  | 0, i, h => by
    refine ⟨decide ((l.length : Int) ≤ m), Ev.succ ?_, fun hb => of_decide_eq_true hb⟩
    simp only [assessorref03_Small.l0]
    exact Ev.ite_neg (by omega) (Ev.now _)
  | d + 1, i, h => by
    have e : wrap64 ((i : Int) + 1) = ((i + 1 : Nat) : Int) := w64s (by omega)
    obtain ⟨b, hb1, hb2⟩ := small_run l m hl d (i + 1) (by omega)
    by_cases hs : ((rd_T24 l (i : Int)).f1.size : Int) > 60
    · refine ⟨false, Ev.succ ?_, fun h => by cases h⟩
      simp only [assessorref03_Small.l0]
      exact Ev.ite_pos (by omega) (Ev.ite_pos (by omega) (Ev.ite_pos hs (Ev.now _)))
    · refine ⟨b, Ev.succ ?_, hb2⟩
      simp only [assessorref03_Small.l0]
      rw [e]
      exact Ev.ite_pos (by omega) (Ev.ite_pos (by omega) (Ev.ite_neg hs hb1))
theorem small_ev (t : S24) (ht : cnt t < 2199023255552) : ∃ b, Ev (fun k => assessorref03_Small.f k t.f0 t.f1 t.f2 t.f3 t.f4 20) b ∧ (b = true → Tiny t) := by
  have hl := pre_len t
  obtain ⟨b, h1, h2⟩ := small_run (pre t) 20 (by omega) (pre t).length 0 (by omega)
  refine ⟨b, ?_, fun hb => tiny_of t (by have := h2 hb; omega)⟩
  unfold assessorref03_Small.f
  exact Ev.bind (nodes_ev t ht) h1
theorem equal_leaf (c : Int) (s : ByteArray) (a b : Int) : Ev (fun k => assessorref03_Equal.f k c s a b [] c s a b []) true := by
  refine Ev.succ ?_
  simp only [assessorref03_Equal.f]
  refine Ev.ite_pos (by trivial) (Ev.ite_pos (by trivial) (Ev.ite_pos (by trivial) (Ev.ite_pos (by trivial) (Ev.succ ?_))))
  simp only [assessorref03_Equal.j0]
  refine Ev.ite_neg (by simp) (Ev.succ ?_)
  simp only [assessorref03_Equal.l0]
  exact Ev.ite_neg (by decide) (Ev.now _)
theorem equal_one (c : Int) (s : ByteArray) (a b : Int) (u : S24) (hu : u.f4 = []) : Ev (fun k => assessorref03_Equal.f k c s a b [u] c s a b [u]) true := by
  have hx := equal_leaf u.f0 u.f1 u.f2 u.f3
  have e : rd_T24 [u] 0 = u := rfl
  refine Ev.succ ?_
  simp only [assessorref03_Equal.f]
  refine Ev.ite_pos (by trivial) (Ev.ite_pos (by trivial) (Ev.ite_pos (by trivial) (Ev.ite_pos (by trivial) (Ev.succ ?_))))
  simp only [assessorref03_Equal.j0]
  refine Ev.ite_neg (by simp) (Ev.succ ?_)
  simp only [assessorref03_Equal.l0]
  refine Ev.ite_pos (by simp) (Ev.ite_pos (by decide) (Ev.ite_pos (by simp) ?_))
  rw [e, hu]
  refine Ev.bind hx (Ev.ite_pos (by trivial) (Ev.succ ?_))
  simp only [assessorref03_Equal.l0]
  exact Ev.ite_neg (by rw [w64s (by decide)]; simp) (Ev.now _)
end Go.Proofs.YtdnclnacneakbaaGreatDoor.PSmall
end
