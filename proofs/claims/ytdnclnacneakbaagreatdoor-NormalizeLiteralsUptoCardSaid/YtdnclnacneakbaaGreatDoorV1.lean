/- The reference's small readers answer something, by hand. -/
import Derived.Test.YtdnclnacneakbaaGreatDoorL2
import Derived.Test.YtdnclnacneakbaaGreatDoorL4
set_option linter.unusedVariables false
set_option linter.unusedSimpArgs false
set_option linter.unusedSectionVars false
section
namespace Go.Proofs.YtdnclnacneakbaaGreatDoor.PSmall
open Go.RowKit Go.Shelf Go.Proofs.YtdnclnacneakbaaGreatDoorW.PrintWords Go.Proofs.YtdnclnacneakbaaGreatDoorW.PrintLast Go.Proofs.YtdnclnacneakbaaGreatDoorW.PrintMore
set_option linter.unusedVariables false
set_option linter.unusedSimpArgs false
def SomeBool (w : World) (e : Ending) (w' : World) : Prop := (∃ r, e = .returned (.bool r)) ∧ Below w.heap.size w w'
theorem SomeBool.mk {w w' : World} (r : Bool) (h : Below w.heap.size w w') : SomeBool w (.returned (.bool r)) w' := ⟨⟨r, rfl⟩, h⟩
def SomeTwo (w : World) (e : Ending) (w' : World) : Prop := (∃ a b, e = .returned (.tuple #[.int .i64 a, .int .i64 b])) ∧ Below w.heap.size w w'
theorem SomeTwo.mk {w w' : World} (a b : Int) (h : Below w.heap.size w w') : SomeTwo w (.returned (.tuple #[.int .i64 a, .int .i64 b])) w' := ⟨⟨a, b, rfl⟩, h⟩
set_option maxRecDepth 100000 in
set_option maxHeartbeats 40000000 in
theorem most_any (c : Int) (w : World) : Calls Tryz.prog 120 #[.int .i64 c] w (SomeTwo w) := by
  go_enter Tryz.func120, Tryz.ntmps120
  go_wp2
  all_goals go_ret2
  all_goals exact SomeTwo.mk _ _ (Below.refl _ _)
set_option maxRecDepth 100000 in
set_option maxHeartbeats 4000000 in
theorem most24 (w : World) : Calls Tryz.prog 120 #[.int .i64 24] w fun e w' => e = .returned (.tuple #[.int .i64 0, .int .i64 0]) ∧ w' = w := by
  go_enter Tryz.func120, Tryz.ntmps120
  go_wp2
  go_ret2
  exact ⟨rfl, rfl⟩
set_option maxRecDepth 100000 in
set_option maxHeartbeats 4000000 in
theorem most28 (w : World) : Calls Tryz.prog 120 #[.int .i64 28] w fun e w' => e = .returned (.tuple #[.int .i64 1, .int .i64 1]) ∧ w' = w := by
  go_enter Tryz.func120, Tryz.ntmps120
  go_wp2
  go_ret2
  exact ⟨rfl, rfl⟩
end Go.Proofs.YtdnclnacneakbaaGreatDoor.PSmall
end
section
namespace Go.Proofs.YtdnclnacneakbaaGreatDoor.PSmall
open Go.RowKit Go.Shelf Go.Proofs.YtdnclnacneakbaaGreatDoorW.PrintWords Go.Proofs.YtdnclnacneakbaaGreatDoorW.PrintLast Go.Proofs.YtdnclnacneakbaaGreatDoorW.PrintMore
set_option linter.unusedVariables false
set_option linter.unusedSimpArgs false
def SomeInt (w : World) (e : Ending) (w' : World) : Prop := (∃ a, e = .returned (.int .i64 a)) ∧ Below w.heap.size w w'
theorem SomeInt.mk {w w' : World} (a : Int) (h : Below w.heap.size w w') : SomeInt w (.returned (.int .i64 a)) w' := ⟨⟨a, rfl⟩, h⟩
set_option maxHeartbeats 4000000 in
theorem letter_any (a : Int) (w : World) : Calls Tryz.prog 296 #[.int .u8 a] w (SomeBool w) := by
  go_enter Tryz.func296, Tryz.ntmps296
  go_wp2
  all_goals go_ret
  all_goals exact SomeBool.mk _ (Below.refl _ _)
set_option maxHeartbeats 4000000 in
theorem digit_any (a : Int) (w : World) : Calls Tryz.prog 64 #[.int .u8 a] w (SomeBool w) := by
  go_enter Tryz.func64, Tryz.ntmps64
  go_wp2
  all_goals go_ret
  all_goals exact SomeBool.mk _ (Below.refl _ _)
def Strs (w : World) (b n : Nat) : Prop := ∀ i, i < n → ∃ s, w.cell? ⟨b, i, none⟩ = some (.string s)
def isStr : Value → Bool
  | .string _ => true
  | _ => false
theorem strs_lit (w : World) (cs : Array Value) (T : TypeId) (h : cs.toList.all isStr = true) : Strs (w.alloc (.cells cs T (0, 0))) w.heap.size cs.size := by
  intro i hi
  have hc := blk_cell (World.alloc_heap_new w (.cells cs T (0, 0))) i
  have hg : cs[i]? = some cs[i] := Array.getElem?_eq_getElem hi
  rw [hg] at hc
  have := List.all_eq_true.1 h cs[i] (by simp)
  cases hv : cs[i] with
  | string s => rw [hv] at hc; exact ⟨s, hc⟩
  | _ => rw [hv] at this; cases this
set_option maxRecDepth 100000 in
set_option maxHeartbeats 8000000 in
theorem has_any (b n c : Nat) (a : ByteArray) (w : World) (hn : n ≤ 100) (h : Strs w b n) : Calls Tryz.prog 213 #[.slice (some ⟨b, 0, none⟩) n c, .string a] w (SomeBool w) := by
  have HS := Aside0.mk h
  clear h
  go_enter Tryz.func213, Tryz.ntmps213
  go_wp2
  go_loop [5] (fun i => ∃ k : Nat, k ≤ n ∧ i = .int .i64 k) (fun i => n - (intOf i).toNat)
  case atStart => exact ⟨0, Nat.zero_le _, rfl⟩
  case round =>
    obtain ⟨k, hk, rfl⟩ := hrel
    by_cases hlt : k < n
    · obtain ⟨s, hc⟩ := HS.out k hlt
      by_cases he : s.toList = a.toList
      · have c1 : (s.toList == a.toList) = true := beq_iff_eq.mpr he
        clear he
        go_wp2
        go_ret
        exact SomeBool.mk _ (Below.refl _ _)
      · have c1 : (s.toList == a.toList) = false := beq_eq_false_iff_ne.mpr he
        clear he
        go_wp2
        go_round
        case rel => exact ⟨k + 1, by omega, by go_num⟩
        case measure => simp [intOf]; omega
    · go_wp2
      go_ret
      exact SomeBool.mk _ (Below.refl _ _)
set_option maxRecDepth 100000 in
set_option maxHeartbeats 8000000 in
theorem keyword_any (a : ByteArray) (w : World) : Calls Tryz.prog 297 #[.string a] w (SomeBool w) := by
  go_enter Tryz.func297, Tryz.ntmps297
  go_wp2_with (go_at_call 213; (with_reducible refine (has_any _ _ _ _ _ ?hn ?hs).mono ?_); (case hn => decide); (case hs => exact strs_lit _ _ _ rfl); rintro e w1 ⟨⟨b1, rfl⟩, hb1⟩)
  go_ret
  exact SomeBool.mk _ (((Below.refl _ w).alloc (Nat.le_refl _) _).trans (hb1.mono (by simp)))
theorem below_then {w W X : World} (h : Below w.heap.size w W) (h' : Below W.heap.size W X) : Below w.heap.size w X := h.trans (h'.mono h.size)
set_option maxRecDepth 100000 in
set_option maxHeartbeats 8000000 in
theorem symbol_any (s : ByteArray) (i : Nat) (hs : s.size ≤ 1000) (hi : i < s.size) (w : World) : Calls Tryz.prog 396 #[.string s, .int .i64 i] w (SomeInt w) := by
  have p0 : (0 : Int) ≤ i := by omega
  have p1 : (i : Int) < s.size := by omega
  have p2 : (i : Int) + 1 ≤ s.size := by omega
  have p3 : (i : Int) ≤ 1000 := by omega
  have q0 : ((0 : Int) ≤ i) = True := eq_true p0
  have q1 : ((i : Int) ≤ i + 2) = True := eq_true (by omega)
  have q2 : ((i : Int) ≤ i + 1) = True := eq_true (by omega)
  have q3 : ((i : Int) + 1 ≤ s.size) = True := eq_true p2
  have HB := Aside0.mk (Below.refl w.heap.size w)
  by_cases h2 : i + 2 ≤ s.size
  · have c1 : decide ((i : Int) + 2 ≤ s.size) = true := decide_eq_true (by omega)
    have p4 : ((i : Int) + 2 ≤ s.size) = True := eq_true (by omega)
    go_enter Tryz.func396, Tryz.ntmps396
    go_wp2_with (go_at_call 213; (with_reducible refine (has_any _ _ _ _ _ ?hn ?hs).mono ?_); (case hn => decide); (case hs => exact strs_lit _ _ _ rfl); rintro e w1 ⟨⟨b1, rfl⟩, hb1⟩; (replace HB := Aside0.mk (below_then (w := w) (by repeat (first | exact HB.out | apply below_alloc)) hb1)); clear hb1; cases b1)
    all_goals go_ret
    all_goals exact SomeInt.mk _ (by repeat (first | exact HB.out | apply below_alloc))
  · have c1 : decide ((i : Int) + 2 ≤ s.size) = false := decide_eq_false (by omega)
    go_enter Tryz.func396, Tryz.ntmps396
    go_wp2_with (go_at_call 213; (with_reducible refine (has_any _ _ _ _ _ ?hn ?hs).mono ?_); (case hn => decide); (case hs => exact strs_lit _ _ _ rfl); rintro e w1 ⟨⟨b1, rfl⟩, hb1⟩; (replace HB := Aside0.mk (below_then (w := w) (by repeat (first | exact HB.out | apply below_alloc)) hb1)); clear hb1; cases b1)
    all_goals go_ret
    all_goals exact SomeInt.mk _ (by repeat (first | exact HB.out | apply below_alloc))
set_option maxRecDepth 100000 in
set_option maxHeartbeats 8000000 in
theorem begins_any (s : ByteArray) (i : Nat) (hs : s.size ≤ 1000) (hi : i < s.size) (w : World) : Calls Tryz.prog 398 #[.string s, .int .i64 i] w (SomeBool w) := by
  have p0 : (0 : Int) ≤ i := by omega
  have p1 : (i : Int) < s.size := by omega
  have HB := Aside0.mk (Below.refl w.heap.size w)
  go_enter Tryz.func398, Tryz.ntmps398
  go_wp2_with (first | (go_at_call 296; refine (letter_any _ _).mono ?_; rintro e w1 ⟨⟨b1, rfl⟩, hb1⟩; (replace HB := Aside0.mk (below_then (w := w) HB.out hb1)); clear hb1; cases b1) | (go_at_call 64; refine (digit_any _ _).mono ?_; rintro e w1 ⟨⟨b1, rfl⟩, hb1⟩; (replace HB := Aside0.mk (below_then (w := w) HB.out hb1)); clear hb1; cases b1) | (go_at_call 396; (with_reducible refine (symbol_any s i hs hi _).mono ?_); rintro e w1 ⟨⟨a1, rfl⟩, hb1⟩; (replace HB := Aside0.mk (below_then (w := w) HB.out hb1)); clear hb1))
  all_goals go_ret
  all_goals exact SomeBool.mk _ HB.out
def SameBool (w : World) (e : Ending) (w' : World) : Prop := (∃ r, e = .returned (.bool r)) ∧ w = w'
set_option maxHeartbeats 4000000 in
theorem letter_same (a : Int) (w : World) : Calls Tryz.prog 296 #[.int .u8 a] w (SameBool w) := by
  go_enter Tryz.func296, Tryz.ntmps296
  go_wp2
  all_goals go_ret
  all_goals exact ⟨⟨_, rfl⟩, rfl⟩
set_option maxHeartbeats 4000000 in
theorem digit_same (a : Int) (w : World) : Calls Tryz.prog 64 #[.int .u8 a] w (SameBool w) := by
  go_enter Tryz.func64, Tryz.ntmps64
  go_wp2
  all_goals go_ret
  all_goals exact ⟨⟨_, rfl⟩, rfl⟩
set_option maxHeartbeats 4000000 in
theorem blank_same (a : Int) (w : World) : Calls Tryz.prog 397 #[.int .u8 a] w (SameBool w) := by
  go_enter Tryz.func397, Tryz.ntmps397
  go_wp2
  all_goals go_ret
  all_goals exact ⟨⟨_, rfl⟩, rfl⟩
set_option maxRecDepth 100000 in
set_option maxHeartbeats 16000000 in
theorem token_any (s : ByteArray) (hs : s.size ≤ 1000) (hi : 0 < s.size) (w : World) : Calls Tryz.prog 298 #[.string s, .int .i64 0] w (SomeTwo w) := by
  have p0 : (0 : Int) < s.size := by omega
  have q0 : ((0 : Int) < s.size) = True := eq_true p0
  have q1 : (0 < s.size) = True := eq_true hi
  have HB := Aside0.mk (Below.refl w.heap.size w)
  have hsym : ∀ W, Calls Tryz.prog 396 #[.string s, .int .i64 0] W (SomeInt W) := fun W => symbol_any s 0 hs hi W
  go_enter Tryz.func298, Tryz.ntmps298
  go_wp2_with (first | (go_at_call 296; refine (letter_same _ _).mono ?_; rintro e w1 ⟨⟨b1, rfl⟩, rfl⟩; cases b1) | (go_at_call 64; refine (digit_same _ _).mono ?_; rintro e w1 ⟨⟨b1, rfl⟩, rfl⟩; cases b1) | (go_at_call 396; (with_reducible refine (hsym _).mono ?_); rintro e w1 ⟨⟨a1, rfl⟩, hb1⟩; (replace HB := Aside0.mk (below_then (w := w) HB.out hb1)); clear hb1))
  · go_ret2
    exact SomeTwo.mk _ _ HB.out
  · go_loopw [6] (fun i wr => ∃ k : Nat, k ≤ s.size ∧ i = .int .i64 k ∧ Aside0 (Below w.heap.size w wr)) (fun i _ => s.size - (intOf i).toNat)
    case atStart => exact ⟨0, Nat.zero_le _, rfl, HB⟩
    case round =>
      clear HB
      obtain ⟨k, hk, rfl, HB⟩ := hrel
      by_cases hlt : k < s.size
      · have p1 : ((0 : Int) ≤ k) = True := eq_true (by omega)
        have p2 : ((k : Int) < s.size) = True := eq_true (by omega)
        have c1 : decide ((k : Int) < s.size) = true := decide_eq_true (by omega)
        have hbeg : ∀ W, Calls Tryz.prog 398 #[.string s, .int .i64 k] W (SomeBool W) := fun W => begins_any s k hs hlt W
        go_wp2_with (first | (go_at_call 397; refine (blank_same _ _).mono ?_; rintro e w9 ⟨⟨b1, rfl⟩, rfl⟩; cases b1) | (go_at_call 398; (with_reducible refine (hbeg _).mono ?_); rintro e w9 ⟨⟨b1, rfl⟩, hb1⟩; (replace HB := Aside0.mk (below_then (w := w) HB.out hb1)); clear hb1; cases b1))
        all_goals first | (go_ret2; exact SomeTwo.mk _ _ HB.out) | (go_roundw; (case rel => exact ⟨k + 1, by omega, by go_num, HB⟩); (case measure => simp [intOf]; omega))
      · go_wp2
        go_ret2
        exact SomeTwo.mk _ _ HB.out
  · go_loop [6] (fun i => ∃ k : Nat, k ≤ s.size ∧ i = .int .i64 k) (fun i => s.size - (intOf i).toNat)
    case atStart => exact ⟨0, Nat.zero_le _, rfl⟩
    case round =>
      obtain ⟨k, hk, rfl⟩ := hrel
      by_cases hlt : k < s.size
      · have p1 : ((0 : Int) ≤ k) = True := eq_true (by omega)
        have p2 : ((k : Int) < s.size) = True := eq_true (by omega)
        have c1 : decide ((k : Int) < s.size) = true := decide_eq_true (by omega)
        go_wp2_with (go_at_call 64; refine (digit_same _ _).mono ?_; rintro e w9 ⟨⟨b1, rfl⟩, rfl⟩; cases b1)
        all_goals first | (go_ret2; exact SomeTwo.mk _ _ HB.out) | (go_round; (case rel => exact ⟨k + 1, by omega, by go_num⟩); (case measure => simp [intOf]; omega))
      · go_wp2
        go_ret2
        exact SomeTwo.mk _ _ HB.out
  · go_loop [6] (fun i => ∃ k : Nat, k ≤ s.size ∧ i = .int .i64 k) (fun i => s.size - (intOf i).toNat)
    case atStart => exact ⟨0, Nat.zero_le _, rfl⟩
    case round =>
      obtain ⟨k, hk, rfl⟩ := hrel
      have q2 : ((0 : Int) ≤ k) = True := eq_true (by omega)
      have q3 : ((k : Int) ≤ s.size) = True := eq_true (by omega)
      by_cases hlt : k < s.size
      · have p2 : ((k : Int) < s.size) = True := eq_true (by omega)
        have c1 : decide ((k : Int) < s.size) = true := decide_eq_true (by omega)
        go_wp2_with (first | (go_at_call 296; refine (letter_same _ _).mono ?_; rintro e w1 ⟨⟨b1, rfl⟩, rfl⟩; cases b1) | (go_at_call 64; refine (digit_same _ _).mono ?_; rintro e w9 ⟨⟨b1, rfl⟩, rfl⟩; cases b1) | (go_at_call 297; (refine (keyword_any _ _).mono ?_); rintro e w9 ⟨⟨b1, rfl⟩, hb1⟩; (replace HB := Aside0.mk (below_then (w := w) HB.out hb1)); clear hb1; cases b1))
        all_goals first | (go_ret2; exact SomeTwo.mk _ _ HB.out) | (go_round; (case rel => exact ⟨k + 1, by omega, by go_num⟩); (case measure => simp [intOf]; omega))
      · go_wp2_with (go_at_call 297; (refine (keyword_any _ _).mono ?_); rintro e w9 ⟨⟨b1, rfl⟩, hb1⟩; (replace HB := Aside0.mk (below_then (w := w) HB.out hb1)); clear hb1; cases b1)
        all_goals (go_ret2; exact SomeTwo.mk _ _ HB.out)
end Go.Proofs.YtdnclnacneakbaaGreatDoor.PSmall
end
section
namespace Go.Proofs.YtdnclnacneakbaaGreatDoor.PSmall
open Go.RowKit Go.Shelf Go.Proofs.YtdnclnacneakbaaGreatDoorW.PrintWords Go.Proofs.YtdnclnacneakbaaGreatDoorW.PrintLast Go.Proofs.YtdnclnacneakbaaGreatDoorW.PrintMore
set_option linter.unusedVariables false
set_option linter.unusedSimpArgs false
set_option maxRecDepth 100000 in
set_option maxHeartbeats 16000000 in
theorem name_any (s : ByteArray) (w : World) : Calls Tryz.prog 211 #[.string s] w (SomeBool w) := by
  have HB := Aside0.mk (Below.refl w.heap.size w)
  by_cases h1 : s.size < 1
  · have c1 : decide ((s.size : Int) < 1) = true := decide_eq_true (by omega)
    go_enter Tryz.func211, Tryz.ntmps211
    go_wp2
    go_ret
    exact SomeBool.mk _ HB.out
  · have c1 : decide ((s.size : Int) < 1) = false := decide_eq_false (by omega)
    by_cases h2 : s.size > 16
    · have c2 : decide (16 < (s.size : Int)) = true := decide_eq_true (by omega)
      go_enter Tryz.func211, Tryz.ntmps211
      go_wp2
      go_ret
      exact SomeBool.mk _ HB.out
    · have c2 : decide (16 < (s.size : Int)) = false := decide_eq_false (by omega)
      have q0 : ((0 : Int) < s.size) = True := eq_true (by omega)
      have q1 : (0 < s.size) = True := eq_true (by omega)
      have htok : ∀ W, Calls Tryz.prog 298 #[.string s, .int .i64 0] W (SomeTwo W) := fun W => token_any s (by omega) (by omega) W
      go_enter Tryz.func211, Tryz.ntmps211
      go_wp2_with (first | (go_at_call 296; refine (letter_same _ _).mono ?_; rintro e w1 ⟨⟨b1, rfl⟩, rfl⟩; cases b1) | (go_at_call 297; (refine (keyword_any _ _).mono ?_); rintro e w9 ⟨⟨b1, rfl⟩, hb1⟩; (replace HB := Aside0.mk (below_then (w := w) HB.out hb1)); clear hb1; cases b1) | (go_at_call 298; (with_reducible refine (htok _).mono ?_); rintro e w9 ⟨⟨a1, a2, rfl⟩, hb1⟩; (replace HB := Aside0.mk (below_then (w := w) HB.out hb1)); clear hb1))
      all_goals go_ret
      all_goals exact SomeBool.mk _ HB.out
open Classical in
theorem refnum_calls (s : ByteArray) (w : World) : Calls Tryz.prog 212 #[.string s] w fun e w' => e = .returned (.bool (decide (isPlain s))) ∧ Below w.heap.size w w' := by
  obtain ⟨K, h⟩ := number_ev s
  exact (assessorref03_number.calls K s _ w (h K (Nat.le_refl _))).mono fun e w' ⟨h1, h2⟩ => ⟨h1, h2.below⟩
open Classical in
theorem refnum_any (s : ByteArray) (w : World) : Calls Tryz.prog 212 #[.string s] w (SomeBool w) := (refnum_calls s w).mono fun e w' ⟨h1, h2⟩ => ⟨⟨_, h1⟩, h2⟩
theorem strs_at (w : World) (b : Nat) (cs : Array Value) (T : TypeId) (hb : b = w.heap.size) (h : cs.toList.all isStr = true) : Strs (w.alloc (.cells cs T (0, 0))) b cs.size := by
  subst hb
  exact strs_lit w cs T h
theorem node_cells (w : World) (c : Int) (s : ByteArray) (a b : Int) (A : Option Addr) (n m : Nat) : ∃ z, w.alloc (.cells #[.int .i64 c, .string s, .int .i64 a, .int .i64 b, .slice A n m] 24 (0, 0)) = z ∧ Below w.heap.size w z ∧ z.heap[w.heap.size]? = some (.cells #[.int .i64 c, .string s, .int .i64 a, .int .i64 b, .slice A n m] 24 (0, 0)) :=
  ⟨_, rfl, (Below.refl _ w).alloc (Nat.le_refl _) _, World.alloc_heap_new w _⟩
set_option maxRecDepth 100000 in
set_option maxHeartbeats 40000000 in
theorem text_any (c : Int) (s : ByteArray) (a b : Int) (A : Option Addr) (n m : Nat) (w : World) :
    Calls Tryz.prog 119 #[.agg #[.int .i64 c, .string s, .int .i64 a, .int .i64 b, .slice A n m]] w (SomeBool w) := by
  have HB := Aside0.mk (Below.refl w.heap.size w)
  go_enter Tryz.func119, Tryz.ntmps119
  go_wp2_with (first | (go_at_call 211; refine (name_any _ _).mono ?_; rintro e w9 ⟨⟨b1, rfl⟩, hb1⟩; (replace HB := Aside0.mk (below_then (w := w) (by repeat (first | exact HB.out | apply below_alloc)) hb1)); clear hb1; cases b1) | (go_at_call 212; refine (refnum_any _ _).mono ?_; rintro e w9 ⟨⟨b1, rfl⟩, hb1⟩; (replace HB := Aside0.mk (below_then (w := w) (by repeat (first | exact HB.out | apply below_alloc)) hb1)); clear hb1; cases b1) | (go_at_call 213; (with_reducible refine (has_any _ _ _ _ _ ?hn ?hs).mono ?_); (case hn => decide); (case hs => exact strs_at _ _ _ _ (by simp) rfl); rintro e w1 ⟨⟨b1, rfl⟩, hb1⟩; (replace HB := Aside0.mk (below_then (w := w) (by repeat (first | exact HB.out | apply below_alloc)) hb1)); clear hb1; cases b1))
  all_goals go_ret
  all_goals exact SomeBool.mk _ (by repeat (first | exact HB.out | apply below_alloc))
open Classical in
set_option maxRecDepth 100000 in
set_option maxHeartbeats 4000000 in
theorem text24 (s : ByteArray) (a b : Int) (A : Option Addr) (n m : Nat) (w : World) :
    Calls Tryz.prog 119 #[.agg #[.int .i64 24, .string s, .int .i64 a, .int .i64 b, .slice A n m]] w fun e w' => e = .returned (.bool (decide (isPlain s))) ∧ Below w.heap.size w w' := by
  go_enter Tryz.func119, Tryz.ntmps119
  go_wp2_with (go_at_call 212; refine (refnum_calls _ _).mono ?_; rintro e w9 ⟨rfl, hb1⟩)
  go_ret
  exact ⟨rfl, below_then ((Below.refl _ w).alloc (Nat.le_refl _) _) hb1⟩
set_option maxRecDepth 100000 in
set_option maxHeartbeats 4000000 in
theorem text28 (s : ByteArray) (hs : s.toList = [45]) (a b : Int) (A : Option Addr) (n m : Nat) (w : World) :
    Calls Tryz.prog 119 #[.agg #[.int .i64 28, .string s, .int .i64 a, .int .i64 b, .slice A n m]] w fun e w' => e = .returned (.bool true) ∧ Below w.heap.size w w' := by
  have c1 : (s.toList == ([45] : List UInt8)) = true := beq_iff_eq.mpr hs
  clear hs
  go_enter Tryz.func119, Tryz.ntmps119
  go_wp2
  go_ret
  exact ⟨rfl, (Below.refl _ w).alloc (Nat.le_refl _) _⟩
end Go.Proofs.YtdnclnacneakbaaGreatDoor.PSmall
end
section
namespace Go.Proofs.YtdnclnacneakbaaGreatDoor.PSmall
open Go.RowKit Go.Shelf Go.Proofs.YtdnclnacneakbaaGreatDoorW.PrintWords Go.Proofs.YtdnclnacneakbaaGreatDoorW.PrintLast Go.Proofs.YtdnclnacneakbaaGreatDoorW.PrintMore
set_option linter.unusedVariables false
set_option linter.unusedSimpArgs false
def typeB (x : Int) : Bool := x == 9 || x == 10
def statB (x : Int) : Bool := decide (12 ≤ x) && decide (x ≤ 19)
def exprB (x : Int) : Bool := decide (20 ≤ x) && decide (x ≤ 29)
def placeB (x : Int) : Bool := x == 20 || (x == 21 || x == 22)
def kidB (c i x : Int) (s : ByteArray) : Bool :=
  if c == 2 then x == 3 || x == 5 else
  if c == 3 then x == 4 else
  if c == 4 then x == 9 && (s.toList == [105, 110, 116] || s.toList == [98, 111, 111, 108]) else
  if c == 5 then (i == 0 && x == 6) || ((i == 1 && (typeB x || x == 0)) || (i == 2 && x == 11)) else
  if c == 6 then x == 7 || x == 8 else
  if c == 7 then typeB x || x == 0 else if c == 8 then typeB x || x == 0 else
  if c == 11 then statB x else
  if c == 12 then (i == 0 && (typeB x || x == 0)) || (i == 1 && exprB x) else
  if c == 13 then (i == 0 && placeB x) || (i == 1 && exprB x) else
  if c == 14 then (i == 0 && exprB x) || ((i == 1 && x == 11) || (i == 2 && (x == 11 || (x == 14 || x == 0)))) else
  if c == 15 then (i == 0 && exprB x) || (i == 1 && x == 11) else
  if c == 16 then (decide (i < 2) && exprB x) || (i == 2 && x == 11) else
  if c == 17 then exprB x || x == 0 else
  if c == 21 then (i == 0 && x == 20) || (i == 1 && exprB x) else
  if c == 22 then x == 20 else if c == 23 then x == 20 else exprB x
def IsBool (r : Bool) (w : World) (e : Ending) (w' : World) : Prop := e = .returned (.bool r) ∧ Below w.heap.size w w'
theorem IsBool.mk {w w' : World} {r r' : Bool} (h : r' = r) (hb : Below w.heap.size w w') : IsBool r w (.returned (.bool r')) w' := by subst h; exact ⟨rfl, hb⟩
def SameAs (r : Bool) (w : World) (e : Ending) (w' : World) : Prop := e = .returned (.bool r) ∧ w = w'
theorem SameAs.mk {w : World} {r r' : Bool} (h : r' = r) : SameAs r w (.returned (.bool r')) w := by subst h; exact ⟨rfl, rfl⟩
set_option maxHeartbeats 4000000 in
theorem type_is (a : Int) (w : World) : Calls Tryz.prog 214 #[.int .i64 a] w (SameAs (typeB a) w) := by
  go_enter Tryz.func214, Tryz.ntmps214
  go_wp2
  all_goals go_ret
  all_goals exact SameAs.mk (by simp_all [typeB])
set_option maxHeartbeats 4000000 in
theorem stat_is (a : Int) (w : World) : Calls Tryz.prog 215 #[.int .i64 a] w (SameAs (statB a) w) := by
  go_enter Tryz.func215, Tryz.ntmps215
  go_wp2
  all_goals go_ret
  all_goals exact SameAs.mk (by simp_all [statB] <;> omega)
set_option maxHeartbeats 4000000 in
theorem expr_is (a : Int) (w : World) : Calls Tryz.prog 62 #[.int .i64 a] w (SameAs (exprB a) w) := by
  go_enter Tryz.func62, Tryz.ntmps62
  go_wp2
  all_goals go_ret
  all_goals exact SameAs.mk (by simp_all [exprB] <;> omega)
set_option maxHeartbeats 4000000 in
theorem place_is (a : Int) (w : World) : Calls Tryz.prog 216 #[.int .i64 a] w (SameAs (placeB a) w) := by
  go_enter Tryz.func216, Tryz.ntmps216
  go_wp2
  all_goals go_ret
  all_goals exact SameAs.mk (by simp_all [placeB] <;> rw [Bool.or_assoc])
set_option maxRecDepth 100000 in
set_option maxHeartbeats 40000000 in
theorem kid_is (c i x : Int) (s : ByteArray) (a b : Int) (A : Option Addr) (n m : Nat) (w : World) :
    Calls Tryz.prog 121 #[.int .i64 c, .int .i64 i, .agg #[.int .i64 x, .string s, .int .i64 a, .int .i64 b, .slice A n m]] w (IsBool (kidB c i x s) w) := by
  go_enter Tryz.func121, Tryz.ntmps121
  go_wp2_with (first | (go_at_call 214; refine (type_is _ _).mono ?_; rintro e w1 ⟨rfl, rfl⟩; cases hq : typeB x) | (go_at_call 215; refine (stat_is _ _).mono ?_; rintro e w1 ⟨rfl, rfl⟩; cases hq : statB x) | (go_at_call 216; refine (place_is _ _).mono ?_; rintro e w1 ⟨rfl, rfl⟩; cases hp : placeB x) | (go_at_call 62; refine (expr_is _ _).mono ?_; rintro e w1 ⟨rfl, rfl⟩; cases hr : exprB x))
  all_goals go_ret
  all_goals exact IsBool.mk (by simp_all [kidB] <;> first | rw [Bool.or_assoc] | omega) ((Below.refl _ w).alloc (Nat.le_refl _) _)
end Go.Proofs.YtdnclnacneakbaaGreatDoor.PSmall
end
