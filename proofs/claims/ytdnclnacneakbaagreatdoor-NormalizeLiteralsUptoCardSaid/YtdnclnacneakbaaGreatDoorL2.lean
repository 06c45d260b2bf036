/- Numbers, trees in memory, shapes. -/
import Derived.Laws.EntriesVeiled
import Derived.Lib.AppendIntMem
import Derived.Lib.LaidTab
import Derived.LoopIn
import Derived.LoopNIn
import Derived.OwnWalkIn
import Derived.RangeFuncBound
import Derived.RangeFuncCalls
import Derived.RangeFuncLeaves
import Derived.RangeFuncNested
import Derived.Shelf.Abstract
import Derived.Shelf.RegionOpen
import Derived.Sort.LoopGhostIn
import Derived.TacticsInMore
import Derived.WalkKit
import Derived.Test.YtdnclnacneakbaaGreatDoorSh
import Derived.Test.YtdnclnacneakbaaGreatDoorR3
import Derived.Test.YtdnclnacneakbaaGreatDoorL0
set_option linter.unusedVariables false
set_option linter.unusedSimpArgs false
set_option linter.unusedSectionVars false
section
namespace Go.Proofs.YtdnclnacneakbaaGreatDoor.PSmall
open Go.RowKit Go.Proofs.YtdnclnacneakbaaGreatDoorW.PrintWords Go.Proofs.YtdnclnacneakbaaGreatDoorW.PrintLast Go.Proofs.YtdnclnacneakbaaGreatDoorW.PrintMore
set_option linter.unusedVariables false
set_option linter.unusedSimpArgs false
def runF (s : ByteArray) : Nat → Int → Option Int
  | 0, _ => none
  | k + 1, x => if x < (s.size : Int) then (if 0 ≤ x then ((lexer_digit.f (bt s x)).bind fun t => if t = true then runF s k (wrap64 (x + 1)) else some x) else none) else some x
set_option maxHeartbeats 8000000 in
set_option maxRecDepth 100000 in
theorem run_calls (k : Nat) (s : ByteArray) (i r : Int) (w : World) (h : runF s k i = some r) :
    Calls Tryz.prog 288 #[.string s, .int .i64 i, .func (.func 290) #[] #[]] w fun e w' => e = .returned (.int .i64 r) ∧ Drawn0 w w' := by
  have H' := Aside0.mk h
  clear h
  go_enter Tryz.func288, Tryz.ntmps288
  go_wp2
  go_loopg [1] k (fun kq v1 w' => ∃ (x : Int), v1 = .int .i64 x ∧ Aside0 (runF s kq x = some r) ∧ Aside0 (kq ≤ k) ∧ Drawn0 w w')
  case atStart => exact ⟨i, rfl, H', ⟨Nat.le_refl _⟩, Drawn0.refl _⟩
  case round =>
    clear H'
    obtain ⟨x, rfl, HA, HK2, ⟨m2, rfl⟩⟩ := hrel
    cases gk with
    | zero => exact absurd HA.out (by simp [runF])
    | succ k2 =>
      have H := HA.out
      clear HA
      simp only [runF] at H
      by_cases c5 : x < (s.size : Int)
      · rw [if_pos c5] at H
        have c5b0 : decide (x < (s.size : Int)) = true := decide_eq_true c5
        by_cases c6 : 0 ≤ x
        · rw [if_pos c6] at H
          obtain ⟨t, A80, H⟩ := Option.bind_eq_some_iff.mp H
          have A8 := Aside0.mk A80
          clear A80
          have p7 : 0 ≤ (x : Int) := c6
          have q7 : x < (s.size : Int) := c5
          have hx7 := bt_at s x
          replace p7 := eq_true p7
          replace q7 := eq_true q7
          clear c5 c6
          by_cases c9 : t = true
          · subst c9
            rw [if_pos rfl] at H
            have H' := Aside0.mk H
            clear H
            go_wp2_with (first | (go_at_call 290; refine (lexer_digit.calls (bt s x) true _ A8.out).mono ?_; rintro e w' ⟨rfl, ⟨nd, rfl⟩⟩))
            go_roundg k2
            case measure => have := HK2.out; omega
            case rel => exact ⟨_, rfl, H', ⟨by have := HK2.out; omega⟩, by repeat (first | exact Drawn0.refl _ | apply Drawn0.step)⟩
          · replace c9 := Bool.eq_false_iff.mpr c9
            subst c9
            rw [if_neg (by decide)] at H
            obtain rfl := Option.some.inj H
            go_wp2_with (first | (go_at_call 290; refine (lexer_digit.calls (bt s x) false _ A8.out).mono ?_; rintro e w' ⟨rfl, ⟨nd, rfl⟩⟩))
            go_ret
            exact ⟨rfl, by repeat (first | exact Drawn0.refl _ | apply Drawn0.step)⟩
        · rw [if_neg c6] at H
          exact absurd H (by simp)
      · rw [if_neg c5] at H
        have c5b0 : decide (x < (s.size : Int)) = false := decide_eq_false c5
        clear c5
        obtain rfl := Option.some.inj H
        go_wp2
        go_ret
        exact ⟨rfl, by repeat (first | exact Drawn0.refl _ | apply Drawn0.step)⟩
end Go.Proofs.YtdnclnacneakbaaGreatDoor.PSmall
end
section
namespace Go.Proofs.YtdnclnacneakbaaGreatDoor.PSmall
open Go.RowKit Go.Proofs.YtdnclnacneakbaaGreatDoorW.PrintWords Go.Proofs.YtdnclnacneakbaaGreatDoorW.PrintLast Go.Proofs.YtdnclnacneakbaaGreatDoorW.PrintMore
set_option linter.unusedVariables false
set_option linter.unusedSimpArgs false
theorem toList_size (s : ByteArray) : s.toList.length = s.size := by rw [ByteArray.toList_eq]; rfl
set_option maxHeartbeats 8000000 in
set_option maxRecDepth 100000 in
theorem lnum_calls_bad (s : ByteArray) (w : World) (hb : s.size = 0 ∨ 9 < s.size) :
    Calls Tryz.prog 273 #[.string s] w fun e w' => e = .returned (.tuple #[.int .i64 0, .bool false]) ∧ Below w.heap.size w w' := by
  rcases hb with hb | hb
  · have h0 : s = ⟨#[]⟩ := by
      cases s with | mk d =>
      have : d = #[] := Array.eq_empty_of_size_eq_zero hb
      rw [this]
    subst h0
    go_enter Tryz.func273, Tryz.ntmps273
    go_wp2
    go_ret2
    exact ⟨rfl, Below.refl _ _⟩
  · have h0 : (s.toList == ([] : List UInt8)) = false := by
      rw [beq_eq_false_iff_ne]; intro e; have := toList_size s; rw [e] at this; simp at this; omega
    have h1 : decide (9 < (s.size : Int)) = true := decide_eq_true (by omega)
    go_enter Tryz.func273, Tryz.ntmps273
    go_wp2
    go_ret2
    exact ⟨rfl, Below.refl _ _⟩
set_option maxHeartbeats 8000000 in
set_option maxRecDepth 100000 in
theorem lnum_calls_no (s : ByteArray) (k : Nat) (r : Int) (w : World) (hb : 0 < s.size ∧ s.size ≤ 9) (h : runF s k 0 = some r) (hr : r < (s.size : Int)) :
    Calls Tryz.prog 273 #[.string s] w fun e w' => e = .returned (.tuple #[.int .i64 0, .bool false]) ∧ Below w.heap.size w w' := by
  have h0 : (s.toList == ([] : List UInt8)) = false := by
    rw [beq_eq_false_iff_ne]; intro e; have := toList_size s; rw [e] at this; simp at this; omega
  have h1 : decide (9 < (s.size : Int)) = false := decide_eq_false (by omega)
  have h2 : decide (r < (s.size : Int)) = true := decide_eq_true hr
  have HA := Aside0.mk h
  clear h hb hr
  go_enter Tryz.func273, Tryz.ntmps273
  go_wp2_with (first | (go_at_call 288; refine (run_calls k s 0 r _ HA.out).mono ?_; rintro e w' ⟨rfl, ⟨nd, rfl⟩⟩))
  go_ret2
  exact ⟨rfl, Drawn0.below ⟨nd, rfl⟩⟩
set_option maxHeartbeats 8000000 in
set_option maxRecDepth 100000 in
theorem lnum_calls_yes (s : ByteArray) (k : Nat) (w : World) (hb : 0 < s.size ∧ s.size ≤ 9) (h : runF s k 0 = some (s.size : Int)) :
    Calls Tryz.prog 273 #[.string s] w fun e w' => (∃ v, e = .returned (.tuple #[.int .i64 v, .bool true])) ∧ Below w.heap.size w w' := by
  have h0 : (s.toList == ([] : List UInt8)) = false := by
    rw [beq_eq_false_iff_ne]; intro e; have := toList_size s; rw [e] at this; simp at this; omega
  have h1 : decide (9 < (s.size : Int)) = false := decide_eq_false (by omega)
  have h2 : decide ((s.size : Int) < (s.size : Int)) = false := decide_eq_false (by omega)
  have HA := Aside0.mk h
  clear h
  go_enter Tryz.func273, Tryz.ntmps273
  go_wp2_with (first | (go_at_call 288; refine (run_calls k s 0 _ _ HA.out).mono ?_; rintro e w' ⟨rfl, ⟨nd, rfl⟩⟩))
  have hcv := Lib.run_convert_string_bytes (P := Tryz.prog) (w.drewN nd) 9 173 5 s (u := .string) Tryz.underlying9 Tryz.underlying173 Tryz.underlying5
  rw [hcv]
  have hB : Below w.heap.size w (Lib.bytesWorld (w.drewN nd) 5 s) := by
    refine ⟨rfl, rfl, rfl, ?_, fun j hj => ?_⟩
    · rw [Lib.bytesWorld_size]; exact Nat.le_succ _
    · exact Lib.bytesWorld_at_old (w.drewN nd) 5 s j hj
  have hC : ∀ j, j < s.size → (Lib.bytesWorld (w.drewN nd) 5 s).cell? ⟨w.heap.size, j, none⟩ = some (.int .u8 (s.data.toList.getD j 0).toNat) := fun j hj => Lib.bytesWorld_cell (w.drewN nd) 5 s j hj
  have HB := Aside0.mk hB
  have HC := Aside0.mk hC
  clear hB hC hcv
  generalize Lib.bytesWorld (w.drewN nd) 5 s = W1 at HB HC ⊢
  generalize grownCap (w.drewN nd) s.size 0 5 = cap
  go_wp2
  go_loopg [4, 24] s.size (fun kq v4 v24 w' => ∃ (x : Int) (i : Nat), v4 = .int .i64 x ∧ v24 = .int .i64 i ∧ Aside0 (i + kq = s.size) ∧ w' = W1)
  case atStart => exact ⟨0, 0, rfl, rfl, ⟨by omega⟩, rfl⟩
  case round =>
    obtain ⟨x, i, rfl, rfl, HK, rfl⟩ := hrel
    by_cases hi : i < s.size
    · have c1 : decide ((i : Int) < (s.size : Int)) = true := decide_eq_true (by omega)
      have p1 : ((0 : Int) ≤ (i : Int)) = True := eq_true (by omega)
      have p2 : ((i : Int) < (s.size : Int)) = True := eq_true (by omega)
      have hcell := HC.out i hi
      go_wp2
      go_roundg (s.size - (i + 1))
      case measure => have := HK.out; omega
      case rel => exact ⟨_, i + 1, rfl, by simp, ⟨by omega⟩, rfl⟩
    · have c1 : decide ((i : Int) < (s.size : Int)) = false := decide_eq_false (by omega)
      go_wp2
      go_ret2
      exact ⟨⟨_, rfl⟩, HB.out⟩
def allDigits (s : ByteArray) : Prop := ∀ i : Nat, i < s.size → 48 ≤ bt s i ∧ bt s i ≤ 57
def isNumber (s : ByteArray) : Prop := 0 < s.size ∧ s.size ≤ 9 ∧ allDigits s
theorem w64 {x : Int} (h : 0 ≤ x ∧ x < 9223372036854775808) : wrap64 x = x := by unfold wrap64; omega
theorem runF_end (s : ByteArray) (hs : s.size ≤ 9) : ∀ (d i : Nat), i + d = s.size → (∀ j : Nat, j < i → 48 ≤ bt s j ∧ bt s j ≤ 57) → ∃ k r, runF s k i = some r ∧ r ≤ (s.size : Int) ∧ (allDigits s ↔ r = (s.size : Int))
  | 0, i, h, hd => by
    refine ⟨1, (i : Int), ?_, by omega, ?_⟩
    · simp only [runF]; rw [if_neg (by omega)]
    · refine ⟨fun _ => by omega, fun _ j hj => hd j (by omega)⟩
  | d + 1, i, h, hd => by
    by_cases hdig : 48 ≤ bt s i ∧ bt s i ≤ 57
    · obtain ⟨k, r, h1, h2, h3⟩ := runF_end s hs d (i + 1) (by omega) (fun j hj => by
        by_cases hji : j = i
        · subst hji; exact hdig
        · exact hd j (by omega))
      refine ⟨k + 1, r, ?_, h2, h3⟩
      simp only [runF]
      rw [if_pos (by omega), if_pos (by omega)]
      have hf : lexer_digit.f (bt s i) = some true := by
        unfold lexer_digit.f
        rw [if_pos hdig.1, decide_eq_true hdig.2]
      rw [hf, Option.bind_some, if_pos rfl, w64 (by omega)]
      exact_mod_cast h1
    · refine ⟨1, (i : Int), ?_, by omega, ?_⟩
      · simp only [runF]
        rw [if_pos (by omega), if_pos (by omega)]
        have hf : lexer_digit.f (bt s i) = some false := by
          unfold lexer_digit.f
          by_cases h48 : bt s i ≥ 48
          · rw [if_pos h48, decide_eq_false (fun h => hdig ⟨h48, h⟩)]
          · rw [if_neg h48]
        rw [hf, Option.bind_some, if_neg (by decide)]
      · exact ⟨fun ha => absurd (ha i (by omega)) hdig, fun he => by omega⟩
open Classical in
theorem lnum_calls (s : ByteArray) (w : World) :
    Calls Tryz.prog 273 #[.string s] w fun e w' => (∃ v, e = .returned (.tuple #[.int .i64 v, .bool (decide (isNumber s))])) ∧ Below w.heap.size w w' := by
  by_cases hb : s.size = 0 ∨ 9 < s.size
  · refine (lnum_calls_bad s w hb).mono ?_
    rintro e w' ⟨rfl, h⟩
    refine ⟨⟨0, ?_⟩, h⟩
    rw [decide_eq_false (fun hn : isNumber s => by have := hn.1; have := hn.2.1; omega)]
  · obtain ⟨k, r, h1, h2, h3⟩ := runF_end s (by omega) s.size 0 (by omega) (fun j hj => by omega)
    by_cases hr : r = (s.size : Int)
    · subst hr
      refine (lnum_calls_yes s k w (by omega) h1).mono ?_
      rintro e w' ⟨⟨v, rfl⟩, h⟩
      refine ⟨⟨v, ?_⟩, h⟩
      rw [decide_eq_true (show isNumber s from ⟨by omega, by omega, h3.2 rfl⟩)]
    · refine (lnum_calls_no s k r w (by omega) h1 (by omega)).mono ?_
      rintro e w' ⟨rfl, h⟩
      refine ⟨⟨0, ?_⟩, h⟩
      rw [decide_eq_false (fun hn : isNumber s => hr (h3.1 hn.2.2))]
def isPlain (s : ByteArray) : Prop := isNumber s ∧ (s.toList = [48] ∨ bt s 0 ≠ 48)
set_option maxHeartbeats 8000000 in
set_option maxRecDepth 100000 in
open Classical in
theorem tnum_calls (s : ByteArray) (w : World) :
    Calls Tryz.prog 205 #[.string s] w fun e w' => e = .returned (.bool (decide (isPlain s))) ∧ Below w.heap.size w w' := by
  have hN := lnum_calls s w
  by_cases hn : isNumber s
  · rw [decide_eq_true hn] at hN
    have p7 : 0 ≤ (0 : Int) := by omega
    have q7 : (0 : Int) < (s.size : Int) := by have := hn.1; omega
    have hx7 := bt_at s 0
    have hpos : (0 < s.size) = True := eq_true (by omega)
    have q7b := eq_true q7
    by_cases h0 : s.toList = [48]
    · have c1 : (s.toList == ([48] : List UInt8)) = true := beq_iff_eq.mpr h0
      rw [decide_eq_true (show isPlain s from ⟨hn, .inl h0⟩)]
      clear hn
      go_enter Tryz.func205, Tryz.ntmps205
      go_wp2_with (first | (go_at_call 273; refine hN.mono ?_; rintro e w' ⟨⟨v, rfl⟩, hb⟩))
      go_ret
      exact ⟨rfl, hb⟩
    · have c1 : (s.toList == ([48] : List UInt8)) = false := beq_eq_false_iff_ne.mpr h0
      have hd : decide (isPlain s) = (bt s 0 != 48) := by
        by_cases hb : bt s 0 = 48
        · rw [hb]
          rw [decide_eq_false (fun h : isPlain s => h.2.elim h0 fun h => h hb)]; rfl
        · rw [decide_eq_true (show isPlain s from ⟨hn, .inr hb⟩)]
          have : (bt s 0 != 48) = true := bne_iff_ne.mpr hb
          rw [this]
      rw [hd]
      clear hn hd
      go_enter Tryz.func205, Tryz.ntmps205
      go_wp2_with (first | (go_at_call 273; refine hN.mono ?_; rintro e w' ⟨⟨v, rfl⟩, hb⟩))
      go_ret
      exact ⟨by rw [← hx7 (by simp; omega)]; rfl, hb⟩
  · rw [decide_eq_false hn] at hN
    rw [decide_eq_false (fun h : isPlain s => hn h.1)]
    clear hn
    go_enter Tryz.func205, Tryz.ntmps205
    go_wp2_with (first | (go_at_call 273; refine hN.mono ?_; rintro e w' ⟨⟨v, rfl⟩, hb⟩))
    go_ret
    exact ⟨rfl, hb⟩
end Go.Proofs.YtdnclnacneakbaaGreatDoor.PSmall
end
section
namespace Go.Proofs.YtdnclnacneakbaaGreatDoor.PSmall
open Go.RowKit Go.Proofs.YtdnclnacneakbaaGreatDoorW.PrintWords Go.Proofs.YtdnclnacneakbaaGreatDoorW.PrintLast Go.Proofs.YtdnclnacneakbaaGreatDoorW.PrintMore
set_option linter.unusedVariables false
set_option linter.unusedSimpArgs false
def shape24 : Value := .agg #[.func (.func 205) #[] #[], .slice none 0 0, .nilFunc, .int .i64 0]
theorem two_blocks {w w' : World} {o1 o2 : Obj} (h : Below ((w.alloc o1).alloc o2).heap.size ((w.alloc o1).alloc o2) w') : w'.heap[w.heap.size]? = some o1 ∧ w'.heap[w.heap.size + 1]? = some o2 ∧ Below w.heap.size w w' := by
  have hs : ((w.alloc o1).alloc o2).heap.size = w.heap.size + 2 := by simp [World.alloc, -World.alloc_eq]
  refine ⟨?_, ?_, h.os, h.tape, h.output, ?_, fun k hk => ?_⟩
  · rw [h.block _ (by omega)]
    simp [World.alloc, -World.alloc_eq, Array.getElem?_push]
  · rw [h.block _ (by omega)]
    show ((w.heap.push o1).push o2)[w.heap.size + 1]? = _
    rw [Array.getElem?_push, if_pos (by simp)]
  · have := h.size; omega
  · rw [h.block _ (by omega)]
    have h1 : k ≠ w.heap.size := by omega
    have h2 : k ≠ w.heap.size + 1 := by omega
    simp [World.alloc, -World.alloc_eq, Array.getElem?_push, h1, h2]
theorem eq55 (w : World) : (binOp .eql 55 .nilFunc .nilFunc).run Tryz.prog w = .ok (.bool true) w := by kernel_rfl
theorem ne55 (w : World) : (binOp .neq 55 .nilFunc .nilFunc).run Tryz.prog w = .ok (.bool false) w := by kernel_rfl
attribute [local go_sem] eq55 ne55
set_option maxHeartbeats 8000000 in
set_option maxRecDepth 100000 in
open Classical in
theorem fits_calls (k a b : Int) (s : ByteArray) (A : Option Addr) (n c : Nat) (w : World) :
    Calls Tryz.prog 113 #[shape24, .agg #[.int .i64 k, .string s, .int .i64 a, .int .i64 b, .slice A n c]] w fun e w' => e = .returned (.bool (decide (isPlain s ∧ n = 0))) ∧ Below w.heap.size w w' := by
  unfold shape24
  by_cases hp : isPlain s
  · by_cases hn : n = 0
    · rw [decide_eq_true (show isPlain s ∧ n = 0 from ⟨hp, hn⟩)]
      subst hn
      go_enter Tryz.func113, Tryz.ntmps113
      go_wp2_with (first | (go_at_call 205; refine (tnum_calls s _).mono ?_; rw [decide_eq_true hp]; rintro e w' ⟨rfl, hb⟩; (obtain ⟨hb1, hb2, hb3⟩ := two_blocks hb); have g2 := blk_cell hb1 2; have g1 := blk_cell hb1 1; have g0 := blk_cell hb1 0; have g3 := blk_cell hb1 3; have f0 := blk_cell hb2 0; have f1 := blk_cell hb2 1; have f2 := blk_cell hb2 2; have f3 := blk_cell hb2 3; have f4 := blk_cell hb2 4; simp only [List.getElem?_toArray, List.getElem?_cons_zero, List.getElem?_cons_succ] at g0 g1 g2 g3 f0 f1 f2 f3 f4; clear hb hb1 hb2))
      go_loopg [44] 1 (fun kq v44 w'' => v44 = .int .i64 0 ∧ w'' = w')
      case atStart => exact ⟨rfl, rfl⟩
      case round =>
        obtain ⟨rfl, rfl⟩ := hrel
        go_wp2
        go_ret
        exact ⟨rfl, hb3⟩
    · rw [decide_eq_false (fun h : isPlain s ∧ n = 0 => hn h.2)]
      have c1 : ((n : Int) != 0) = true := bne_iff_ne.mpr (by omega)
      go_enter Tryz.func113, Tryz.ntmps113
      go_wp2_with (first | (go_at_call 205; refine (tnum_calls s _).mono ?_; rw [decide_eq_true hp]; rintro e w' ⟨rfl, hb⟩; (obtain ⟨hb1, hb2, hb3⟩ := two_blocks hb); have g2 := blk_cell hb1 2; have g1 := blk_cell hb1 1; have g0 := blk_cell hb1 0; have g3 := blk_cell hb1 3; have f0 := blk_cell hb2 0; have f1 := blk_cell hb2 1; have f2 := blk_cell hb2 2; have f3 := blk_cell hb2 3; have f4 := blk_cell hb2 4; simp only [List.getElem?_toArray, List.getElem?_cons_zero, List.getElem?_cons_succ] at g0 g1 g2 g3 f0 f1 f2 f3 f4; clear hb hb1 hb2))
      go_ret
      exact ⟨rfl, hb3⟩
  · rw [decide_eq_false (fun h : isPlain s ∧ n = 0 => hp h.1)]
    go_enter Tryz.func113, Tryz.ntmps113
    go_wp2_with (first | (go_at_call 205; refine (tnum_calls s _).mono ?_; rw [decide_eq_false hp]; rintro e w' ⟨rfl, hb⟩; (obtain ⟨hb1, hb2, hb3⟩ := two_blocks hb); have g2 := blk_cell hb1 2; have g1 := blk_cell hb1 1; have g0 := blk_cell hb1 0; have g3 := blk_cell hb1 3; have f0 := blk_cell hb2 0; have f1 := blk_cell hb2 1; have f2 := blk_cell hb2 2; have f3 := blk_cell hb2 3; have f4 := blk_cell hb2 4; simp only [List.getElem?_toArray, List.getElem?_cons_zero, List.getElem?_cons_succ] at g0 g1 g2 g3 f0 f1 f2 f3 f4; clear hb hb1 hb2))
    go_ret
    exact ⟨rfl, hb3⟩
end Go.Proofs.YtdnclnacneakbaaGreatDoor.PSmall
end
section
namespace Go.Proofs.YtdnclnacneakbaaGreatDoor.PSmall
open Go.RowKit Go.Shelf Go.Proofs.YtdnclnacneakbaaGreatDoorW.PrintWords Go.Proofs.YtdnclnacneakbaaGreatDoorW.PrintLast Go.Proofs.YtdnclnacneakbaaGreatDoorW.PrintMore
set_option linter.unusedVariables false
set_option linter.unusedSimpArgs false
attribute [local go_sem] Oper.semAt_some
def Keep (B : Nat) (W W' : World) : Prop := W.heap.size ≤ W'.heap.size ∧ ∀ k, B ≤ k → k < W.heap.size → W'.heap[k]? = W.heap[k]?
theorem Keep.trans {B : Nat} {U V W : World} (h : Keep B U V) (h' : Keep B V W) : Keep B U W := ⟨Nat.le_trans h.1 h'.1, fun k h1 h2 => (h'.2 k h1 (Nat.lt_of_lt_of_le h2 h.1)).trans (h.2 k h1 h2)⟩
theorem Keep.of_below {B : Nat} {W W' : World} (h : Below W.heap.size W W') : Keep B W W' := ⟨h.size, fun k _ h2 => h.block k h2⟩
inductive Tiny : S24 → Prop
  | mk {t : S24} (h : t.f4.length ≤ 1000) (hk : ∀ x ∈ t.f4, Tiny x) : Tiny t
theorem Tiny.len {t : S24} (h : Tiny t) : t.f4.length ≤ 1000 := by cases h; assumption
theorem Tiny.kid {t : S24} (h : Tiny t) : ∀ x ∈ t.f4, Tiny x := by cases h; assumption
set_option maxRecDepth 100000 in
set_option maxHeartbeats 4000000 in
theorem visit_step (F : Fence) (hd : F.depth = none) (h157 : F.fn 157) (hro : F.round = none) (l B : Nat) (w0 : World) (J0 J : World → Prop) (hJ0b : ∀ W, J0 W → B ≤ W.heap.size) (hJb : ∀ W, J W → Below w0.heap.size w0 W ∧ B ≤ W.heap.size ∧ w0.heap.size ≤ B)
    (hJ0s : ∀ W W', J0 W → Below W.heap.size W W' → J0 W') (hJs : ∀ W W', J W → Below W.heap.size W W' → J W') (t : S24) (ht : Tiny t)
    (hY : ∀ m A c W, J0 W → YieldAt F m Tryz.prog l #[.agg #[.int .i64 t.f0, .string t.f1, .int .i64 t.f2, .int .i64 t.f3, .slice A t.f4.length c]] W fun e W' => e = .returned (.bool true) ∧ J W' ∧ Keep B W W')
    (ih : ∀ x ∈ t.f4, ∀ (n : Nat) (A : Option Addr) (c : Nat) (W : World), k24.C w0 A x.f4.length x.f4 → x.f4.length ≤ c → J W →
      CallsIn F n Tryz.prog 157 #[.agg #[.int .i64 x.f0, .string x.f1, .int .i64 x.f2, .int .i64 x.f3, .slice A x.f4.length c], .func (.yield l) #[] #[]] W fun e W' => e = .returned (.bool true) ∧ J W' ∧ Keep B W W') :
    ∀ (n : Nat) (A : Option Addr) (c : Nat) (W : World), k24.C w0 A t.f4.length t.f4 → t.f4.length ≤ c → J0 W →
      CallsIn F n Tryz.prog 157 #[.agg #[.int .i64 t.f0, .string t.f1, .int .i64 t.f2, .int .i64 t.f3, .slice A t.f4.length c], .func (.yield l) #[] #[]] W fun e W' => e = .returned (.bool true) ∧ J W' ∧ Keep B W W' := by
  intro n A c W hC hc hJ
  have hdd : ∀ k : Nat, (F.depth.isSome = true → 1 ≤ k) := fun k h => by rw [hd] at h; cases h
  have hB1 := hJ0b W hJ
  have hyr : ∀ o, YieldAt F (n - 1) Tryz.prog l #[.agg #[.int .i64 t.f0, .string t.f1, .int .i64 t.f2, .int .i64 t.f3, .slice A t.f4.length c]] (W.alloc o) fun e W' => e = .returned (.bool true) ∧ J W' ∧ Keep B (W.alloc o) W' :=
    fun o => hY (n - 1) _ _ _ (hJ0s _ _ hJ (below_alloc (Below.refl _ _) o))
  obtain ⟨fn, tmps, assign, body, hy, hR⟩ := hyr (.cells #[.int .i64 t.f0, .string t.f1, .int .i64 t.f2, .int .i64 t.f3, .slice A t.f4.length c] 24)
  refine callsIn_of_wp Tryz.func157 rfl h157 ?_ hro
  simp only [Tryz.ntmps157, List.size_toArray, List.length_cons, List.length_nil, Nat.reduceAdd, Nat.reduceSub, Array.replicate_succ, Array.replicate_zero, List.push_toArray, List.append_toArray, List.nil_append, List.cons_append]
  gi_wp2_with (first | ((try refine ⟨hdd _, ?_⟩); refine hR.mono ?_; clear hR; rintro e W2 ⟨rfl, hJ2, hk2⟩; have hbk : W2.heap[W.heap.size]? = some (Obj.cells #[.int .i64 t.f0, .string t.f1, .int .i64 t.f2, .int .i64 t.f3, .slice A t.f4.length c] 24 (0, 0)) := (hk2.2 _ hB1 (by simp)).trans (World.alloc_heap_new W _); have f4 := blk_cell hbk 4; simp only [List.getElem?_toArray, List.getElem?_cons_zero, List.getElem?_cons_succ] at f4))
  have hKW : Keep B W W2 := (Keep.of_below (below_alloc (Below.refl _ _) _)).trans hk2
  clear hk2 hyr hbk f4
  gi_loopg [14] t.f4.length (fun kq v14 wr => ∃ (i : Nat), v14 = .int .i64 i ∧ Aside0 (i + kq = t.f4.length) ∧ J wr ∧ Keep B W wr)
  case atStart => exact ⟨0, rfl, ⟨by omega⟩, hJ2, hKW⟩
  case round =>
    obtain ⟨i, rfl, HK, hJw, hKw⟩ := hrel
    obtain ⟨hbw, hBw, _⟩ := hJb wr hJw
    by_cases hi : i < t.f4.length
    · have c1 : decide ((i : Int) < (t.f4.length : Int)) = true := decide_eq_true (by omega)
      have p1 : ((0 : Int) ≤ (i : Int)) = True := eq_true (by omega)
      have p2 : ((i : Int) < (t.f4.length : Int)) = True := eq_true (by omega)
      obtain ⟨ad, A4, c4, rfl, hx0, hx1, hx2, hx3, hx4, hl4, hi4⟩ := at_T24 hC (i : Int) (by omega) (by omega)
      replace hx0 := (hbw.cell (World.block_lt_of_cell? w0 _ hx0)).trans hx0
      replace hx1 := (hbw.cell (World.block_lt_of_cell? w0 _ hx1)).trans hx1
      replace hx2 := (hbw.cell (World.block_lt_of_cell? w0 _ hx2)).trans hx2
      replace hx3 := (hbw.cell (World.block_lt_of_cell? w0 _ hx3)).trans hx3
      replace hx4 := (hbw.cell (World.block_lt_of_cell? w0 _ hx4)).trans hx4
      simp only [Int.toNat_natCast] at hx0 hx1 hx2 hx3 hx4
      have hmem : rd_T24 t.f4 (i : Int) ∈ t.f4 := by
        unfold rd_T24
        rw [Int.toNat_natCast, List.getD_eq_getElem?_getD, List.getElem?_eq_getElem hi]
        exact List.getElem_mem hi
      gi_wp2_with (first | ((try refine ⟨hdd _, ?_⟩); gi_at_call 157; refine (ih _ hmem (n - 1) A4 c4 _ hi4 hl4 (hJs _ _ hJw (below_alloc (Below.refl _ _) _))).mono ?_; rintro e W3 ⟨rfl, hJ3, hk3⟩))
      gi_roundg (t.f4.length - (i + 1))
      case measure => have := HK.out; omega
      case rel => exact ⟨i + 1, by rw [w64 (by have := ht.len; omega)]; simp, ⟨by omega⟩, hJ3, hKw.trans ((Keep.of_below (below_alloc (Below.refl _ _) _)).trans hk3)⟩
    · have c1 : decide ((i : Int) < (t.f4.length : Int)) = false := decide_eq_false (by omega)
      gi_wp2
      go_ret
      exact ⟨rfl, hJw, hKw⟩
theorem visit_in (F : Fence) (hd : F.depth = none) (h157 : F.fn 157) (hro : F.round = none) (l B : Nat) (w0 : World) (J : World → Prop) (hJb : ∀ W, J W → Below w0.heap.size w0 W ∧ B ≤ W.heap.size ∧ w0.heap.size ≤ B)
    (hJs : ∀ W W', J W → Below W.heap.size W W' → J W')
    (hY : ∀ m k s a b A n c W, J W → YieldAt F m Tryz.prog l #[.agg #[.int .i64 k, .string s, .int .i64 a, .int .i64 b, .slice A n c]] W fun e W' => e = .returned (.bool true) ∧ J W' ∧ Keep B W W') (t : S24) (ht : Tiny t) :
    ∀ (n : Nat) (A : Option Addr) (c : Nat) (W : World), k24.C w0 A t.f4.length t.f4 → t.f4.length ≤ c → J W →
      CallsIn F n Tryz.prog 157 #[.agg #[.int .i64 t.f0, .string t.f1, .int .i64 t.f2, .int .i64 t.f3, .slice A t.f4.length c], .func (.yield l) #[] #[]] W fun e W' => e = .returned (.bool true) ∧ J W' ∧ Keep B W W' :=
  visit_step F hd h157 hro l B w0 J J (fun W h => (hJb W h).2.1) hJb hJs hJs t ht (fun m A c W h => hY m _ _ _ _ _ _ _ W h) fun x hx => visit_in F hd h157 hro l B w0 J hJb hJs hY x (ht.kid x hx)
termination_by SizeOf.sizeOf t
decreasing_by
  have := List.sizeOf_lt_of_mem hx
  cases t
  simp only [S24.mk.sizeOf_spec] at this ⊢
  omega
set_option maxRecDepth 100000 in
set_option maxHeartbeats 4000000 in
theorem nodes1_in (F : Fence) (hd : F.depth = none) (h156 : F.fn 156) (h157 : F.fn 157) (hro : F.round = none) (l B bx : Nat) (w0 : World) (J0 J : World → Prop) (hJ0b : ∀ W, J0 W → B ≤ W.heap.size) (hJb : ∀ W, J W → Below w0.heap.size w0 W ∧ B ≤ W.heap.size ∧ w0.heap.size ≤ B)
    (hJ0s : ∀ W W', J0 W → Below W.heap.size W W' → J0 W') (hJs : ∀ W W', J W → Below W.heap.size W W' → J W') (t : S24) (ht : Tiny t) (A : Option Addr) (c : Nat) (hC : k24.C w0 A t.f4.length t.f4) (hc : t.f4.length ≤ c)
    (hY0 : ∀ m A c W, J0 W → YieldAt F m Tryz.prog l #[.agg #[.int .i64 t.f0, .string t.f1, .int .i64 t.f2, .int .i64 t.f3, .slice A t.f4.length c]] W fun e W' => e = .returned (.bool true) ∧ J W' ∧ Keep B W W')
    (hY : t.f4 ≠ [] → ∀ m k s a b A n c W, J W → YieldAt F m Tryz.prog l #[.agg #[.int .i64 k, .string s, .int .i64 a, .int .i64 b, .slice A n c]] W fun e W' => e = .returned (.bool true) ∧ J W' ∧ Keep B W W')
    (n : Nat) (W : World) (hbx : W.heap[bx]? = some (.cells #[.int .i64 t.f0, .string t.f1, .int .i64 t.f2, .int .i64 t.f3, .slice A t.f4.length c] 24 (0, 0))) (h0 : J0 W) :
    CallsIn F n Tryz.prog 156 #[.func (.yield l) #[] #[], .pointer (some ⟨bx, 0, none⟩)] W fun e W' => (∃ v, e = .returned v) ∧ J W' := by
  have hdd : ∀ k : Nat, (F.depth.isSome = true → 1 ≤ k) := fun k h => by rw [hd] at h; cases h
  have hv := visit_step F hd h157 hro l B w0 J0 J hJ0b hJb hJ0s hJs t ht hY0 (fun x hx => visit_in F hd h157 hro l B w0 J hJb hJs (hY (List.ne_nil_of_mem hx)) x (ht.kid x hx)) (n - 1) A c W hC hc h0
  have f0 := blk_cell hbx 0
  have f1 := blk_cell hbx 1
  have f2 := blk_cell hbx 2
  have f3 := blk_cell hbx 3
  have f4 := blk_cell hbx 4
  simp only [List.getElem?_toArray, List.getElem?_cons_zero, List.getElem?_cons_succ] at f0 f1 f2 f3 f4
  refine callsIn_of_wp Tryz.func156 rfl h156 ?_ hro
  simp only [Tryz.ntmps156, List.size_toArray, List.length_cons, List.length_nil, Nat.reduceAdd, Nat.reduceSub, Array.replicate_succ, Array.replicate_zero, List.push_toArray, List.append_toArray, List.nil_append, List.cons_append]
  gi_wp2_with (first | ((try refine ⟨hdd _, ?_⟩); gi_at_call 157; refine hv.mono ?_; rintro e W1 ⟨rfl, hJ1, _⟩))
  go_end0
  exact ⟨⟨_, rfl⟩, hJ1⟩
set_option maxHeartbeats 4000000 in
theorem nodes_in (F : Fence) (h81 : F.fn 81) (hro : F.round = none) (n : Nat) (k : Int) (s : ByteArray) (a b : Int) (A : Option Addr) (m c : Nat) (w : World) :
    CallsIn F n Tryz.prog 81 #[.agg #[.int .i64 k, .string s, .int .i64 a, .int .i64 b, .slice A m c]] w fun e w' => e = .returned (.func (.func 156) #[] #[.pointer (some ⟨w.heap.size, 0, none⟩)]) ∧ w' = w.alloc (.cells #[.int .i64 k, .string s, .int .i64 a, .int .i64 b, .slice A m c] 24) := by
  refine callsIn_of_wp Tryz.func81 rfl h81 ?_ hro
  simp only [Tryz.ntmps81, List.size_toArray, List.length_cons, List.length_nil, Nat.reduceAdd, Nat.reduceSub, Array.replicate_succ, Array.replicate_zero, List.push_toArray, List.append_toArray, List.nil_append, List.cons_append]
  gi_wp2
  go_ret
  exact ⟨rfl, rfl⟩
end Go.Proofs.YtdnclnacneakbaaGreatDoor.PSmall
end
section
set_option linter.unusedSectionVars false
set_option maxRecDepth 100000
namespace Go.Am
open Proofs
noncomputable def shapesRun : Option (AV × Heap) := run prims2 3000 112 [] { tr := .nil, next := 0, floor := 0, log := [] }
noncomputable def shapesEs : List (AV × AV) := match shapesRun with
  | some (.map b, R) => match R.get b with
    | some (.bag es) => es
    | _ => []
  | _ => []
noncomputable def shapesOk : Bool := match shapesRun with
  | some (.map b, R) => match R.get b with
    | some (.bag _) => true
    | _ => false
  | _ => false
theorem shapesOk_true : shapesOk = true := by kernel_rfl
def agg4 : AV → Bool
  | .agg [a, b, c, d] => a.scalar && b.scalar && c.scalar && d.scalar
  | _ => false
def int64 : AV → Bool
  | .int .i64 _ => true
  | _ => false
theorem shapes_all : shapesEs.all (fun e => int64 e.1 && agg4 e.2) = true := by kernel_rfl
def av24 : AV := .agg [.func 205 [] [], .nilslice, .nilfunc, .int .i64 0]
noncomputable def look24 : Bool := match lookup Tryz.prog (fun b => if b = 0 then some (.bag shapesEs) else none) 164 (.map 0) (.int .i64 24) true with
  | some v => v.same (.tuple [av24, .bool true])
  | none => false
theorem look24_true : look24 = true := by kernel_rfl
theorem under164 : Tryz.prog.underlying 164 = some (.map 3 169) := by kernel_rfl
theorem under3 : Tryz.prog.underlying 3 = some (.int .i64) := by kernel_rfl
noncomputable def zero169 : Bool := match tzero Tryz.prog 169 with | some z => agg4 z | none => false
theorem zero169_true : zero169 = true := by kernel_rfl
theorem findKey_int (k : Int) : ∀ (es : List (AV × AV)) (i : Nat), es.all (fun e => int64 e.1 && agg4 e.2) = true →
    ∃ r, findKey (.int .i64) (.int .i64 k) (es.map fun e => (e.1, e.2, 0)) i = some r ∧ ∀ j v, r = some (j, v) → agg4 v = true
  | [], i, _ => ⟨none, rfl, fun j v h => by cases h⟩
  | (a, v) :: es, i, h => by
    simp only [List.all_cons, Bool.and_eq_true] at h
    obtain ⟨⟨h1, h2⟩, h3⟩ := h
    obtain ⟨n, rfl⟩ : ∃ n, a = .int .i64 n := by
      unfold int64 at h1
      split at h1
      · exact ⟨_, rfl⟩
      · cases h1
    simp only [List.map_cons]
    by_cases hkn : (k == n) = true
    · refine ⟨some (i, v), ?_, fun j u hu => by cases hu; exact h2⟩
      simp only [findKey, sameKey, if_true, hkn]
    · obtain ⟨r, hr, hr2⟩ := findKey_int k es (i + 1) (by simpa using h3)
      refine ⟨r, ?_, hr2⟩
      have hf : (k == n) = false := by simpa using hkn
      simp only [findKey, sameKey, if_true, hf]
      exact hr
theorem scalar_one' {φ : Emb} {a : AV} {v : Value} (h : a.scalar = true) (hv : VRel φ a v) : v.oneCell' = true := by
  cases hv <;> first | rfl | (cases h)
theorem agg4_rel {φ : Emb} {a : AV} {v : Value} (h : agg4 a = true) (hv : VRel φ a v) : ∃ x0 x1 x2 x3, v = .agg #[x0, x1, x2, x3] ∧ x0.oneCell' = true ∧ x1.oneCell' = true ∧ x2.oneCell' = true ∧ x3.oneCell' = true := by
  unfold agg4 at h
  split at h
  · simp only [Bool.and_eq_true] at h
    obtain ⟨⟨⟨h0, h1⟩, h2⟩, h3⟩ := h
    cases hv with
    | agg hs =>
      cases hs with
      | cons a0 t => cases t with
        | cons a1 t => cases t with
          | cons a2 t => cases t with
            | cons a3 t => cases t; exact ⟨_, _, _, _, rfl, scalar_one' h0 a0, scalar_one' h1 a1, scalar_one' h2 a2, scalar_one' h3 a3⟩
  · cases h
def MapOk (mb : Nat) (W : World) : Prop :=
  (∀ k : Int, ∃ x0 x1 x2 x3 c, (Instr.lookup 164 (.map (some mb)) (.int .i64 k) true).run Tryz.prog W = .ok (.tuple #[.agg #[x0, x1, x2, x3], .bool c]) W ∧ x0.oneCell' = true ∧ x1.oneCell' = true ∧ x2.oneCell' = true ∧ x3.oneCell' = true) ∧
  (Instr.lookup 164 (.map (some mb)) (.int .i64 24) true).run Tryz.prog W = .ok (.tuple #[.agg #[.func (.func 205) #[] #[], .slice none 0 0, .nilFunc, .int .i64 0], .bool true]) W
theorem mapOk {φ : Emb} {bm : Nat} {e : Spot} {W : World} (he : φ bm = some e) (h : ORel φ (.bag shapesEs) e W.heap[e.blk]?) : MapOk e.blk W := by
  obtain ⟨g, hg⟩ : ∃ g : Get, g = fun b => if b = bm then some (.bag shapesEs) else none := ⟨_, rfl⟩
  have hgb : g bm = some (.bag shapesEs) := by rw [hg]; simp
  have hM : MRel φ g W := by
    refine ⟨fun b o e1 hb he1 => ?_, fun b b' o o' e1 e1' hb hb' _ _ _ => ?_⟩
    · rw [hg] at hb
      simp only at hb
      split at hb
      · rename_i hbe
        subst hbe
        rw [he] at he1; cases he1
        simp only [Option.some.injEq] at hb
        subst hb
        exact h
      · cases hb
    · rw [hg] at hb hb'
      simp only at hb hb'
      split at hb
      · split at hb'
        · rename_i h1 h2; rw [h1, h2]
        · cases hb'
      · cases hb
  have hent : entries g (.map bm) = some (shapesEs.map fun e => (e.1, e.2, 0)) := by
    simp only [entries, hgb]
  have hz : ∃ z, tzero Tryz.prog 169 = some z ∧ agg4 z = true := by
    have := zero169_true
    unfold zero169 at this
    split at this
    · rename_i z hz; exact ⟨z, hz, this⟩
    · cases this
  obtain ⟨z, hz1, hz2⟩ := hz
  refine ⟨fun k => ?_, ?_⟩
  · obtain ⟨r, hr1, hr2⟩ := findKey_int k shapesEs 0 shapes_all
    obtain ⟨x, c, hl, hx⟩ : ∃ x c, lookup Tryz.prog g 164 (.map bm) (.int .i64 k) true = some (.tuple [x, .bool c]) ∧ agg4 x = true := by
      unfold lookup
      rw [under164, hent]
      simp only [under3, keyOk, Bool.not_true, Bool.false_eq_true, if_false, hr1, hz1, if_true]
      cases r with
      | none => exact ⟨z, false, rfl, hz2⟩
      | some jv => exact ⟨jv.2, true, rfl, hr2 jv.1 jv.2 rfl⟩
    obtain ⟨u, hu1, hu2⟩ := lookup_ok (P := Tryz.prog) hM hl (.map he) (.int .i64 k)
    cases hu2 with
    | tuple hs =>
      cases hs with
      | cons h1 t => cases t with
        | cons h2 t =>
          cases t; cases h2
          obtain ⟨x0, x1, x2, x3, rfl, hs⟩ := agg4_rel hx h1
          exact ⟨x0, x1, x2, x3, c, hu1, hs⟩
  · have hl : lookup Tryz.prog g 164 (.map bm) (.int .i64 24) true = some (.tuple [av24, .bool true]) := by
      have h1 := look24_true
      unfold look24 at h1
      split at h1
      · rename_i v hv
        have h2 := AV.same_eq _ _ h1
        subst h2
        rw [← hv]
        unfold lookup
        rw [hent]
        simp only [entries, if_true]
      · cases h1
    obtain ⟨u, hu1, hu2⟩ := lookup_ok (P := Tryz.prog) hM hl (.map he) (.int .i64 24)
    unfold av24 at hu2
    cases hu2 with
    | tuple hs =>
      cases hs with
      | cons h1 t => cases t with
        | cons h2 t =>
          cases t; cases h2
          cases h1 with
          | agg ha =>
            cases ha with
            | cons b1 t => cases t with
              | cons b2 t => cases t with
                | cons b3 t => cases t with
                  | cons b4 t =>
                    cases t; cases b2; cases b3; cases b4
                    cases b1 with
                    | func c1 c2 => cases c1; cases c2; exact hu1
theorem shapes_calls (w : World) : Calls Tryz.prog 112 #[] w fun e w' => ∃ mb, e = .returned (.map (some mb)) ∧ w.heap.size ≤ mb ∧ mb < w'.heap.size ∧ RowKit.Below w.heap.size w w' ∧ ∀ W : World, W.heap[mb]? = w'.heap[mb]? → MapOk mb W := by
  have h := shapesOk_true
  unfold shapesOk at h
  split at h
  rotate_left
  · cases h
  rename_i b R hrun
  split at h
  rotate_left
  · cases h
  rename_i es hget
  have hes : shapesEs = es := by
    unfold shapesEs
    rw [hrun]
    simp only [hget]
  obtain ⟨_, ha, hcalls⟩ := run_ok prims2_ok 3000 _ _ _ _ _ hrun
  have hM0 : MRel (fun _ => none) (Heap.get { tr := .nil, next := 0, floor := 0, log := [] }) w := ⟨fun b o e hb => by unfold Heap.get at hb; simp at hb, fun b b' o o' e e' hb => by unfold Heap.get at hb; simp at hb⟩
  refine (hcalls (fun _ => none) w [] hM0 .nil (fun _ _ _ => rfl)).mono ?_
  rintro e w' ⟨v, φ', rfl, hv, st⟩
  cases hv with
  | map he =>
    rename_i sp
    have hO := st.rel.obj b _ sp hget he
    have hlow : w.heap.size ≤ sp.blk := by
      rcases st.mv.dom b sp he with h | ⟨_, _, h | ⟨b0, e0, h0, _⟩⟩
      · cases h
      · exact h
      · cases h0
    refine ⟨sp.blk, rfl, hlow, hO.lt, ⟨st.mv.os, st.mv.tape, st.mv.output, st.mv.size, fun k hk => st.mv.frame k ?_⟩, fun W hW => ?_⟩
    · rintro (h | ⟨b0, e0, h0, _⟩)
      · omega
      · cases h0
    · refine mapOk (φ := φ') he ?_
      rw [hW, hes]; exact hO
end Go.Am
end
section
namespace Go
variable {F : Fence} {n : Nat} {P : Program}
def lrec (fn : FuncId) (tmps : Array Value) (ps : Array Tmp) (assign body : Code) (D : Nat) (st : LoopState) : Loop := { state := st, pending := none, fn := fn, tmps := tmps, params := ps, assign := assign, body := body, defers := D }
theorem wpIn_range_ready {g : Operand} {ps : Array Tmp} {assign body : Code} {Q : Exit → Act → World → Prop} {a : Act} {w : World}
    (hro : F.round = none) (hd : F.depth = none) {gf : Nat} {lb : Array Value} (hg : a.eval g = .func (.func gf) #[] lb) (hFg : F.fn gf) (eg : ∀ args w, (callFunc gf args).run P w = .ok (.enter gf args) w)
    (h : ∀ fn, F.fn fn → CallsIn F (n - 1) P gf (#[.func (.yield (w.heap.size + 1)) #[] #[]] ++ lb) ((w.alloc (.deferred (some []))).alloc (.loop (lrec fn a.tmps ps assign body w.heap.size .ready)))
      fun e W' => (∃ v, e = .returned v) ∧ W'.heap[w.heap.size + 1]? = some (.loop (lrec fn a.tmps ps assign body w.heap.size .ready)) ∧
        Q .normal { a with defers := { target := .collected w.heap.size, args := #[] } :: a.defers } (W'.putObj (w.heap.size + 1) (.loop (lrec fn a.tmps ps assign body w.heap.size .exhausted)))) :
    (Code.rangeFunc g ps assign body).wpIn F n P Q a w := by
  refine wpIn_rangeFunc ?_
  intro fn hfn
  rw [hro]
  obtain ⟨W1, hW1⟩ : ∃ W1, (w.alloc (.deferred (some []))).alloc (.loop (lrec fn a.tmps ps assign body w.heap.size .ready)) = W1 := ⟨_, rfl⟩
  have hen := run_enterLoop_outer (P := P) (w := w) fn a.tmps ps assign body
  rw [show ({ state := .ready, pending := none, fn, tmps := a.tmps, params := ps, assign, body, defers := w.heap.size } : Loop) = lrec fn a.tmps ps assign body w.heap.size .ready from rfl, hW1] at hen
  have h' := h fn hfn
  rw [hW1] at h'
  refine ⟨w.heap.size + 1, [{ target := .collected w.heap.size, args := #[] }], W1, { target := .fn (.func gf) lb, args := #[.func (.yield (w.heap.size + 1)) #[] #[]] }, W1, gf,
    #[.func (.yield (w.heap.size + 1)) #[] #[]] ++ lb, W1, hen, ?_, ?_, ?_, fun h => (by rw [hd] at h; cases h), ?_⟩
  · simp only [resolve, hg]
    simp [go_sem]
  · intro f' hf'; simp [Target.leads] at hf'; subst hf'; exact hFg
  · simp [invoke, go_sem, eg]
  · refine h'.mono ?_
    rintro e W2 ⟨⟨v, rfl⟩, hl, hQ⟩
    exact ⟨none, _, run_endLoop (P := P) hl (by simp [lrec]), hQ⟩
theorem yieldAt_ready {l fn : Nat} {tmps args : Array Value} {ps : Array Tmp} {assign body : Code} {D : Nat} {W : World} {R : Ending → World → Prop} (hF : F.fn fn)
    (hl : W.heap[l]? = some (.loop (lrec fn tmps ps assign body D .ready))) (hps : args.size = ps.size)
    (h : assign.wpIn (F.inRound l) n P (fun x a' W' => x = .normal ∧ W'.heap[l]? = some (.loop (lrec fn tmps ps assign body D .ready)) ∧
      body.wpIn (F.inRound l) n P (fun x a'' W'' => x = .normal ∧ W''.heap[l]? = some (.loop (lrec fn tmps ps assign body D .busy)) ∧ R (.returned (.bool true)) (W''.putObj l (.loop (lrec fn tmps ps assign body D .ready))))
        a' (W'.putObj l (.loop (lrec fn tmps ps assign body D .busy)))) { tmps := (ps.zip args).foldl (fun t (p, v) => t.setIfInBounds p v) tmps, defers := [] } W) :
    YieldAt F n P l args W R := by
  have hy := run_yield (P := P) (args := args) hl hps
  refine ⟨fn, _, assign, body, hy, roundIn_of_wpIn hF (wpIn_mono h ?_)⟩
  rintro x a' W' ⟨rfl, h1, h2⟩
  refine ⟨_, run_beginRound h1 rfl, wpIn_mono h2 ?_⟩
  rintro x a'' W'' ⟨rfl, h3, h4⟩
  exact ⟨_, _, run_endRound none h3, h4⟩
end Go
end
section
namespace Go.Proofs.YtdnclnacneakbaaGreatDoor.PSmall
open Go.RowKit Go.Shelf Go.Proofs.YtdnclnacneakbaaGreatDoorW.PrintWords Go.Proofs.YtdnclnacneakbaaGreatDoorW.PrintLast Go.Proofs.YtdnclnacneakbaaGreatDoorW.PrintMore
set_option linter.unusedVariables false
set_option linter.unusedSimpArgs false
attribute [local go_sem] Oper.semAt_some eq55 ne55
theorem five_cells {W W1 : World} {b : Nat} {k : Int} {s : ByteArray} {a c2 : Int} {A : Option Addr} {n c : Nat} {tt : TypeId} (h : W.heap[b]? = some (.cells #[.int .i64 k, .string s, .int .i64 a, .int .i64 c2, .slice A n c] tt (0, 0))) (hb : Below W.heap.size W W1) :
    W1.cell? ⟨b, 0, none⟩ = some (.int .i64 k) ∧ W1.cell? ⟨b, 1, none⟩ = some (.string s) ∧ W1.cell? ⟨b, 2, none⟩ = some (.int .i64 a) ∧ W1.cell? ⟨b, 3, none⟩ = some (.int .i64 c2) ∧ W1.cell? ⟨b, 4, none⟩ = some (.slice A n c) := by
  have hx : W1.heap[b]? = _ := (hb.block b (Array.getElem?_eq_some_iff.1 h).1).trans h
  have f0 := blk_cell hx 0
  have f1 := blk_cell hx 1
  have f2 := blk_cell hx 2
  have f3 := blk_cell hx 3
  have f4 := blk_cell hx 4
  simp only [List.getElem?_toArray, List.getElem?_cons_zero, List.getElem?_cons_succ] at f0 f1 f2 f3 f4
  exact ⟨f0, f1, f2, f3, f4⟩
structure St (w w1 : World) (mb : Nat) (L : Loop) (ok : Bool) (W : World) : Prop where
  below : Below w.heap.size w W
  size : w1.heap.size + 5 ≤ W.heap.size
  hm : W.heap[w1.heap.size]? = some (.cells #[.map (some mb)] 164 (0, 0))
  hok : W.heap[w1.heap.size + 1]? = some (.cells #[.bool ok] 4 (0, 0))
  hmb : W.heap[mb]? = w1.heap[mb]?
  hD : W.heap[w1.heap.size + 3]? = some (.deferred (some []))
  hL : W.heap[w1.heap.size + 4]? = some (.loop L)
theorem St.mono {w w1 : World} {mb : Nat} {L : Loop} {ok : Bool} {W W' : World} (hmb : mb < w1.heap.size) (h : St w w1 mb L ok W) (hw : w.heap.size ≤ w1.heap.size) (hb : Below W.heap.size W W') : St w w1 mb L ok W' := by
  have hs := h.size
  have hs2 := hb.size
  exact ⟨h.below.trans (hb.mono (by omega)), by omega, (hb.block _ (by omega)).trans h.hm, (hb.block _ (by omega)).trans h.hok, (hb.block _ (by omega)).trans h.hmb, (hb.block _ (by omega)).trans h.hD, (hb.block _ (by omega)).trans h.hL⟩
theorem St.set {w w1 : World} {mb : Nat} {L : Loop} {ok : Bool} {W : World} (hmb : mb < w1.heap.size) (h : St w w1 mb L ok W) (hw : w.heap.size ≤ w1.heap.size) (ok' : Bool) : St w w1 mb L ok' (W.setCell ⟨w1.heap.size + 1, 0, none⟩ (.bool ok')) := by
  have hs := h.size
  refine ⟨h.below.setCell (by show _ ≤ w1.heap.size + 1; omega) _, by simpa [World.setCell] using h.size, (Below.heap_setCell _ _ _ _ (by show _ ≠ w1.heap.size + 1; omega)).trans h.hm, ?_, (Below.heap_setCell _ _ _ _ (by show _ ≠ w1.heap.size + 1; omega)).trans h.hmb, (Below.heap_setCell _ _ _ _ (by show _ ≠ w1.heap.size + 1; omega)).trans h.hD, (Below.heap_setCell _ _ _ _ (by show _ ≠ w1.heap.size + 1; omega)).trans h.hL⟩
  simp only [World.setCell, Array.getElem?_modify, if_true, h.hok, Option.map_some]
  rfl
theorem St.put {w w1 : World} {mb : Nat} {L L' : Loop} {ok : Bool} {W : World} (hmb : mb < w1.heap.size) (h : St w w1 mb L ok W) (hw : w.heap.size ≤ w1.heap.size) : St w w1 mb L' ok (W.putObj (w1.heap.size + 4) (.loop L')) := by
  have hs := h.size
  have ho : ∀ k, k ≠ w1.heap.size + 4 → (W.putObj (w1.heap.size + 4) (.loop L')).heap[k]? = W.heap[k]? := fun k hk => World.putObj_heap_other hk
  refine ⟨⟨h.below.os, h.below.tape, h.below.output, ?_, fun k hk => (ho k (by omega)).trans (h.below.block k hk)⟩, ?_, (ho _ (by omega)).trans h.hm, (ho _ (by omega)).trans h.hok, (ho _ (by omega)).trans h.hmb, (ho _ (by omega)).trans h.hD, World.putObj_heap_same (by omega)⟩
  · have := h.below.size; simpa [World.putObj] using this
  · simpa [World.putObj] using h.size
theorem St.ok {w w1 : World} {mb : Nat} {L : Loop} {ok : Bool} {W : World} (h : St w w1 mb L ok W) : W.cell? ⟨w1.heap.size + 1, 0, none⟩ = some (.bool ok) := by
  have := blk_cell h.hok 0; simpa using this
theorem St.map {w w1 : World} {mb : Nat} {L : Loop} {ok : Bool} {W : World} (h : St w w1 mb L ok W) : W.cell? ⟨w1.heap.size, 0, none⟩ = some (.map (some mb)) := by
  have := blk_cell h.hm 0; simpa using this
theorem enter156 (args : Array Value) (w : World) : (callFunc 156 args).run Tryz.prog w = .ok (.enter 156 args) w := Am.run_callFunc ⟨Tryz.f156, _, Tryz.func156, rfl, by kernel_rfl⟩ args w
set_option maxRecDepth 100000 in
set_option maxHeartbeats 4000000 in
open Classical in
theorem shaped_calls (t : S24) (ht : Tiny t) (hk : t.f0 = 24) (A : Option Addr) (c : Nat) (w : World) (hC : k24.C w A t.f4.length t.f4) (hc : t.f4.length ≤ c) :
    Calls Tryz.prog 59 #[.agg #[.int .i64 t.f0, .string t.f1, .int .i64 t.f2, .int .i64 t.f3, .slice A t.f4.length c]] w fun e w' => e = .returned (.bool (decide (isPlain t.f1 ∧ t.f4.length = 0))) ∧ Below w.heap.size w w' := by
  obtain ⟨okb, hokb⟩ : ∃ okb, decide (isPlain t.f1 ∧ t.f4.length = 0) = okb := ⟨_, rfl⟩
  have hfit : ∀ A' c' v, Calls Tryz.prog 113 #[.agg #[.func (.func 205) #[] #[], .slice none 0 0, .nilFunc, .int .i64 0], .agg #[.int .i64 24, .string t.f1, .int .i64 t.f2, .int .i64 t.f3, .slice A' t.f4.length c']] v fun e w' => e = .returned (.bool okb) ∧ Below v.heap.size v w' := fun A' c' v => by
    rw [← hokb]; exact fits_calls 24 _ _ _ _ _ _ _
  rw [hokb]
  refine (callsIn_wide (n := 0)).1 (callsIn_of_wp_marks Tryz.func59 rfl trivial ?_)
  have hd : Fence.wide.depth = none := rfl
  simp only [Tryz.ntmps59, List.size_toArray, List.length_cons, List.length_nil, Nat.reduceAdd, Nat.reduceSub, Array.replicate_succ, Array.replicate_zero, List.push_toArray, List.append_toArray, List.nil_append, List.cons_append]
  gi_wp2_with (first | (refine ⟨trivial, ?_⟩; gi_at_call 112; refine ((callsIn_wide (n := 0)).2 (Am.shapes_calls _)).mono ?_; rintro e W1 ⟨mb, rfl, hm1, hm2, hb1, hmap⟩; obtain ⟨f0, f1, f2, f3, f4⟩ := five_cells (World.alloc_heap_new w _) (hb1.trans (((Below.refl W1.heap.size W1).alloc (Nat.le_refl _) (Obj.cells #[Value.map (some mb)] 164 (0, 0))).alloc (by simp) (Obj.cells #[Value.bool true] 4 (0, 0)) |>.mono hb1.size))) | (refine ⟨trivial, ?_⟩; gi_at_call 81; refine (nodes_in _ trivial rfl _ _ _ _ _ _ _ _ _).mono ?_; rintro e W2 ⟨rfl, rfl⟩))
  refine wpIn_range_ready rfl rfl rfl trivial enter156 fun fn _ => ?_
  have hs1 := hb1.size
  simp only [World.size_alloc] at hs1 hm1 hm2
  have e0 : (((W1.alloc (Obj.cells #[Value.map (some mb)] 164 (0, 0))).alloc (Obj.cells #[Value.bool true] 4 (0, 0))).alloc (Obj.cells #[Value.int IntKind.i64 24, Value.string t.f1, Value.int IntKind.i64 t.f2, Value.int IntKind.i64 t.f3, Value.slice A t.f4.length c] 24 (0, 0))).heap.size = W1.heap.size + 3 := by simp
  rw [e0]
  generalize hrec : lrec fn _ _ _ _ (W1.heap.size + 3) = rec
  simp only [Nat.add_assoc, Nat.reduceAdd]
  have hr0 : ∀ (m : Nat) (A' : Option Addr) (c' : Nat) (W : World), St w W1 mb (rec .ready) true W → YieldAt Fence.wide m Tryz.prog (W1.heap.size + 4) #[.agg #[.int .i64 t.f0, .string t.f1, .int .i64 t.f2, .int .i64 t.f3, .slice A' t.f4.length c']] W
      fun e W' => e = .returned (.bool true) ∧ St w W1 mb (rec .ready) okb W' ∧ Keep (W1.heap.size + 5) W W' := by
    intro m A' c' W hW
    rw [← hrec] at hW ⊢
    refine yieldAt_ready trivial hW.hL rfl ?_
    rw [hrec] at hW
    simp
    gi_wp2
    have hb2 : Below W.heap.size W (W.alloc (Obj.cells #[Value.int IntKind.i64 24, Value.string t.f1, Value.int IntKind.i64 t.f2, Value.int IntKind.i64 t.f3, Value.slice A' t.f4.length c'] 24 (0, 0))) := (Below.refl _ _).alloc (Nat.le_refl _) _
    have hW2 := hW.mono hm2 (by omega) hb2
    have hbx := World.alloc_heap_new W (Obj.cells #[Value.int IntKind.i64 24, Value.string t.f1, Value.int IntKind.i64 t.f2, Value.int IntKind.i64 t.f3, Value.slice A' t.f4.length c'] 24 (0, 0))
    have hsz : W1.heap.size + 5 ≤ W.heap.size := hW.size
    refine ⟨hW2.hL, ?_⟩
    have hW3 := hW2.put (L' := rec .busy) hm2 (by omega)
    have hbx3 := (World.putObj_heap_other (o := .loop (rec .busy)) (show W.heap.size ≠ W1.heap.size + 4 by omega)).trans hbx
    have hk3 : Keep (W1.heap.size + 5) W (World.putObj (W.alloc (Obj.cells #[Value.int IntKind.i64 24, Value.string t.f1, Value.int IntKind.i64 t.f2, Value.int IntKind.i64 t.f3, Value.slice A' t.f4.length c'] 24 (0, 0))) (W1.heap.size + 4) (.loop (rec .busy))) := (Keep.of_below hb2).trans ⟨by simp, fun k h1 h2 => World.putObj_heap_other (by omega)⟩
    generalize World.putObj (W.alloc (Obj.cells #[Value.int IntKind.i64 24, Value.string t.f1, Value.int IntKind.i64 t.f2, Value.int IntKind.i64 t.f3, Value.slice A' t.f4.length c'] 24 (0, 0))) (W1.heap.size + 4) (.loop (rec .busy)) = W3 at hW3 hbx3 hk3 ⊢
    have hlook := (hmap W3 hW3.hmb).2
    have hmc := hW3.map
    obtain ⟨g0, g1, g2, g3, g4⟩ := five_cells hbx3 (Below.refl _ _)
    have hb4 : Below W3.heap.size W3 (W3.alloc (Obj.cells #[Value.func (Fn.func 205) #[] #[], Value.slice none 0 0, Value.nilFunc, Value.int IntKind.i64 0] 169 (0, 0))) := (Below.refl _ _).alloc (Nat.le_refl _) _
    have hW4 := hW3.mono hm2 (by omega) hb4
    have hbx4 := (hb4.block _ (Array.getElem?_eq_some_iff.1 hbx3).1).trans hbx3
    obtain ⟨i0, i1, i2, i3, i4⟩ := five_cells hbx3 hb4
    have hok4 := hW4.ok
    gi_wp2_with (first | (refine ⟨trivial, ?_⟩; gi_at_call 113; refine (CallsIn.inRound _ (callsIn_wide.2 (hfit _ _ _))).mono ?_; rintro e W5 ⟨rfl, hb5⟩; have hW5 := hW4.mono hm2 (by omega) hb5; have hbx5 := (hb5.block _ (Array.getElem?_eq_some_iff.1 hbx4).1).trans hbx4; have hok5 := hW5.ok; have hfr5 := blk_frozen hW5.hok 0; have hW6 := hW5.set hm2 (by omega) okb; have hbx6 := (Below.heap_setCell W5 ⟨W1.heap.size + 1, 0, none⟩ (.bool okb) _ (show W.heap.size ≠ W1.heap.size + 1 by omega)).trans hbx5; have hok6 := hW6.ok; obtain ⟨j0, j1, j2, j3, j4⟩ := five_cells hbx6 (Below.refl _ _)))
    refine ⟨hW6.hL, hW6.put hm2 (by omega), (hk3.trans ((Keep.of_below hb4).trans (Keep.of_below hb5))).trans ⟨by simp [World.setCell], fun k h1 h2 => (World.putObj_heap_other (by omega)).trans (Below.heap_setCell _ _ _ _ (by show _ ≠ W1.heap.size + 1; omega))⟩⟩
  have hrN : okb = false → ∀ (m : Nat) (k : Int) (s : ByteArray) (a b : Int) (A' : Option Addr) (n c' : Nat) (W : World), St w W1 mb (rec .ready) okb W → YieldAt Fence.wide m Tryz.prog (W1.heap.size + 4) #[.agg #[.int .i64 k, .string s, .int .i64 a, .int .i64 b, .slice A' n c']] W
      fun e W' => e = .returned (.bool true) ∧ St w W1 mb (rec .ready) okb W' ∧ Keep (W1.heap.size + 5) W W' := by
    rintro rfl m k s a b A' n c' W hW
    rw [← hrec] at hW ⊢
    refine yieldAt_ready trivial hW.hL rfl ?_
    rw [hrec] at hW
    simp
    gi_wp2
    have hb2 : Below W.heap.size W (W.alloc (Obj.cells #[Value.int IntKind.i64 k, Value.string s, Value.int IntKind.i64 a, Value.int IntKind.i64 b, Value.slice A' n c'] 24 (0, 0))) := (Below.refl _ _).alloc (Nat.le_refl _) _
    have hW2 := hW.mono hm2 (by omega) hb2
    have hbx := World.alloc_heap_new W (Obj.cells #[Value.int IntKind.i64 k, Value.string s, Value.int IntKind.i64 a, Value.int IntKind.i64 b, Value.slice A' n c'] 24 (0, 0))
    have hsz : W1.heap.size + 5 ≤ W.heap.size := hW.size
    refine ⟨hW2.hL, ?_⟩
    have hW3 := hW2.put (L' := rec .busy) hm2 (by omega)
    have hbx3 := (World.putObj_heap_other (o := .loop (rec .busy)) (show W.heap.size ≠ W1.heap.size + 4 by omega)).trans hbx
    have hk3 : Keep (W1.heap.size + 5) W (World.putObj (W.alloc (Obj.cells #[Value.int IntKind.i64 k, Value.string s, Value.int IntKind.i64 a, Value.int IntKind.i64 b, Value.slice A' n c'] 24 (0, 0))) (W1.heap.size + 4) (.loop (rec .busy))) := (Keep.of_below hb2).trans ⟨by simp, fun k h1 h2 => World.putObj_heap_other (by omega)⟩
    generalize World.putObj (W.alloc (Obj.cells #[Value.int IntKind.i64 k, Value.string s, Value.int IntKind.i64 a, Value.int IntKind.i64 b, Value.slice A' n c'] 24 (0, 0))) (W1.heap.size + 4) (.loop (rec .busy)) = W3 at hW3 hbx3 hk3 ⊢
    obtain ⟨x0, x1, x2, x3, cc, hlook, ho0, ho1, ho2, ho3⟩ := (hmap W3 hW3.hmb).1 k
    have hs0 : ∀ (p : Addr) (m : Mode) (v : World), (store p x0 m).run Tryz.prog v = stored Tryz.prog v p x0 m := fun p m v => run_store Tryz.prog v p x0 m ho0
    have hs1 : ∀ (p : Addr) (m : Mode) (v : World), (store p x1 m).run Tryz.prog v = stored Tryz.prog v p x1 m := fun p m v => run_store Tryz.prog v p x1 m ho1
    have hs2 : ∀ (p : Addr) (m : Mode) (v : World), (store p x2 m).run Tryz.prog v = stored Tryz.prog v p x2 m := fun p m v => run_store Tryz.prog v p x2 m ho2
    have hs3 : ∀ (p : Addr) (m : Mode) (v : World), (store p x3 m).run Tryz.prog v = stored Tryz.prog v p x3 m := fun p m v => run_store Tryz.prog v p x3 m ho3
    have hmc := hW3.map
    obtain ⟨g0, g1, g2, g3, g4⟩ := five_cells hbx3 (Below.refl _ _)
    have hb4 : Below W3.heap.size W3 (W3.alloc (Obj.cells #[x0, x1, x2, x3] 169 (0, 0))) := (Below.refl _ _).alloc (Nat.le_refl _) _
    have hW4 := hW3.mono hm2 (by omega) hb4
    have hbx4 := (hb4.block _ (Array.getElem?_eq_some_iff.1 hbx3).1).trans hbx3
    have hok4 := hW4.ok
    have hfr4 := blk_frozen hW4.hok 0
    have hW6 := hW4.set hm2 (by omega) false
    have hbx6 := (Below.heap_setCell (W3.alloc (Obj.cells #[x0, x1, x2, x3] 169 (0, 0))) ⟨W1.heap.size + 1, 0, none⟩ (.bool false) _ (show W.heap.size ≠ W1.heap.size + 1 by omega)).trans hbx4
    have hok6 := hW6.ok
    obtain ⟨j0, j1, j2, j3, j4⟩ := five_cells hbx6 (Below.refl _ _)
    by_cases hk4 : k = 4
    · subst hk4
      gi_wp2_with (first | (refine ⟨trivial, ?_⟩))
      refine ⟨hW6.hL, hW6.put hm2 (by omega), (hk3.trans (Keep.of_below hb4)).trans ⟨by simp [World.setCell], fun k h1 h2 => (World.putObj_heap_other (by omega)).trans (Below.heap_setCell _ _ _ _ (by show _ ≠ W1.heap.size + 1; omega))⟩⟩
    · have hk4' : (k == 4) = false := beq_eq_false_iff_ne.mpr hk4
      gi_wp2_with (first | (refine ⟨trivial, ?_⟩))
      refine ⟨hW6.hL, hW6.put hm2 (by omega), (hk3.trans (Keep.of_below hb4)).trans ⟨by simp [World.setCell], fun k h1 h2 => (World.putObj_heap_other (by omega)).trans (Below.heap_setCell _ _ _ _ (by show _ ≠ W1.heap.size + 1; omega))⟩⟩
  have hW0 : St w W1 mb (rec .ready) true (((((W1.alloc (Obj.cells #[Value.map (some mb)] 164 (0, 0))).alloc (Obj.cells #[Value.bool true] 4 (0, 0))).alloc (Obj.cells #[Value.int IntKind.i64 24, Value.string t.f1, Value.int IntKind.i64 t.f2, Value.int IntKind.i64 t.f3, Value.slice A t.f4.length c] 24 (0, 0))).alloc (Obj.deferred (some []))).alloc (Obj.loop (rec LoopState.ready))) := by
    have hB : Below W1.heap.size W1 (((((W1.alloc (Obj.cells #[Value.map (some mb)] 164 (0, 0))).alloc (Obj.cells #[Value.bool true] 4 (0, 0))).alloc (Obj.cells #[Value.int IntKind.i64 24, Value.string t.f1, Value.int IntKind.i64 t.f2, Value.int IntKind.i64 t.f3, Value.slice A t.f4.length c] 24 (0, 0))).alloc (Obj.deferred (some []))).alloc (Obj.loop (rec LoopState.ready))) :=
      (((((Below.refl _ W1).alloc (by simp) _).alloc (by simp only [World.size_alloc]; omega) _).alloc (by simp only [World.size_alloc]; omega) _).alloc (by simp only [World.size_alloc]; omega) _).alloc (by simp only [World.size_alloc]; omega) _
    refine ⟨?_, by simp, ?_, ?_, hB.block _ hm2, ?_, ?_⟩
    · exact (((Below.refl _ w).alloc (Nat.le_refl _) _).trans (hb1.mono (by simp))).trans (hB.mono (by omega))
    all_goals (show (((((W1.heap.push _).push _).push _).push _).push _)[_]? = _; simp only [Array.getElem?_push, Array.size_push])
    all_goals (repeat (first | rw [if_pos trivial] | rw [if_pos (by omega)] | rw [if_neg (by omega)]))
  refine (nodes1_in Fence.wide rfl trivial trivial rfl (W1.heap.size + 4) (W1.heap.size + 5) (W1.heap.size + 2) w (St w W1 mb (rec .ready) true) (St w W1 mb (rec .ready) okb) (fun W h => h.size) (fun W h => ⟨h.below, h.size, by omega⟩)
    (fun W W' h hb => h.mono hm2 (by omega) hb) (fun W W' h hb => h.mono hm2 (by omega) hb) t ht A c hC hc (fun m A' c' W h => hr0 m A' c' W h) (fun hne => hrN (by rw [← hokb]; exact decide_eq_false fun h => hne (List.eq_nil_of_length_eq_zero h.2))) _ _ ?_ hW0).mono ?_
  · rw [hk]
    show (((((W1.heap.push _).push _).push _).push _).push _)[_]? = _
    simp only [Array.getElem?_push, Array.size_push]
    repeat (first | rw [if_pos trivial] | rw [if_pos (by omega)] | rw [if_neg (by omega)])
  · rintro e W' ⟨⟨v, rfl⟩, hJ⟩
    refine ⟨⟨v, rfl⟩, hJ.hL, ?_⟩
    have hX := hJ.put (L' := rec .exhausted) hm2 (by omega)
    generalize W'.putObj (W1.heap.size + 4) (.loop (rec .exhausted)) = X at hX ⊢
    have hokx := hX.ok
    gi_wp2
    refine ⟨by simp, .inl ⟨W1.heap.size + 3, _, rfl, run_takeDeferred hX.hD, ?_⟩⟩
    refine ⟨.bool okb, by simp [results, Tryz.f59, go_sem], rfl, ?_⟩
    refine ⟨hX.below.os, hX.below.tape, hX.below.output, by simpa [World.putObj] using hX.below.size, fun k hk => (World.putObj_heap_other (by omega)).trans (hX.below.block k hk)⟩
end Go.Proofs.YtdnclnacneakbaaGreatDoor.PSmall
end
section
namespace Go.Proofs.YtdnclnacneakbaaGreatDoor.PSmall
open Go.RowKit Go.Shelf Go.Proofs.YtdnclnacneakbaaGreatDoorW.PrintWords Go.Proofs.YtdnclnacneakbaaGreatDoorW.PrintLast Go.Proofs.YtdnclnacneakbaaGreatDoorW.PrintMore
set_option linter.unusedVariables false
set_option linter.unusedSimpArgs false
theorem isExpr24 : tree_isExpression.f 24 = some true := rfl
set_option maxRecDepth 100000 in
set_option maxHeartbeats 4000000 in
open Classical in
theorem expr_calls (t : S24) (ht : Tiny t) (hk : t.f0 = 24) (A : Option Addr) (c : Nat) (w : World) (hC : k24.C w A t.f4.length t.f4) (hc : t.f4.length ≤ c) :
    Calls Tryz.prog 28 #[.agg #[.int .i64 t.f0, .string t.f1, .int .i64 t.f2, .int .i64 t.f3, .slice A t.f4.length c]] w fun e w' => e = .returned (.bool (decide (isPlain t.f1 ∧ t.f4.length = 0))) ∧ Below w.heap.size w w' := by
  obtain ⟨okb, hokb⟩ : ∃ okb, decide (isPlain t.f1 ∧ t.f4.length = 0) = okb := ⟨_, rfl⟩
  have hsh : ∀ (W : World), Below w.heap.size w W → Calls Tryz.prog 59 #[.agg #[.int .i64 24, .string t.f1, .int .i64 t.f2, .int .i64 t.f3, .slice A t.f4.length c]] W fun e w' => e = .returned (.bool okb) ∧ Below W.heap.size W w' := fun W hb => by
    have := shaped_calls t ht hk A c W (Kd.C_below hC hb) hc
    rw [hk, hokb] at this
    exact this
  rw [hokb, hk]
  go_enter Tryz.func28, Tryz.ntmps28
  go_wp2_with (first | (go_at_call 58; refine (tree_isExpression.calls 24 true _ isExpr24).mono ?_; rintro e w' ⟨rfl, ⟨nd, rfl⟩⟩) | (go_at_call 59; refine (hsh _ (pw_below_drewN ((Below.refl _ w).alloc (Nat.le_refl _) _) nd)).mono ?_; rintro e w' ⟨rfl, hb⟩))
  go_ret
  exact ⟨rfl, (pw_below_drewN ((Below.refl _ w).alloc (Nat.le_refl _) _) nd).trans (hb.mono (by simp))⟩
set_option maxHeartbeats 4000000 in
theorem node_calls (k : Int) (s : ByteArray) (A : Option Addr) (n c : Nat) (w : World) :
    Calls Tryz.prog 21 #[.int .i64 k, .string s, .slice A n c] w fun e w' => e = .returned (.agg #[.int .i64 k, .string s, .int .i64 0, .int .i64 0, .slice A n c]) ∧ Below w.heap.size w w' := by
  go_enter Tryz.func21, Tryz.ntmps21
  go_wp2
  refine bodyPost_ret (results_cell_row rfl _ _ w.heap.size 24 #[.int .i64 k, .string s, .int .i64 0, .int .i64 0, .slice A n c] (0, 0) _ rfl (World.alloc_heap_new w _) Tryz.underlying24 rfl (by kernel_rfl)) rfl ?_
  exact ⟨rfl, (Below.refl _ w).alloc (Nat.le_refl _) _⟩
end Go.Proofs.YtdnclnacneakbaaGreatDoor.PSmall
end
section
namespace Go.Proofs.YtdnclnacneakbaaGreatDoor.PSmall
open Go.RowKit Go.Shelf Go.Proofs.YtdnclnacneakbaaGreatDoorW.PrintWords Go.Proofs.YtdnclnacneakbaaGreatDoorW.PrintLast Go.Proofs.YtdnclnacneakbaaGreatDoorW.PrintMore
set_option linter.unusedVariables false
set_option linter.unusedSimpArgs false
def Tab (w : World) : Prop := Lib.TabIs Tryz.prog w "internal/strconv.uint64pow10" .u64 Lib.pow10Tab
theorem Tab.below {w w' : World} (h : Tab w) (hb : Below w.heap.size w w') : Tab w' := by
  unfold Tab Lib.TabIs World.var? at h ⊢
  cases hg : Tryz.prog.globalNamed "internal/strconv.uint64pow10" with
  | none => rw [hg] at h; cases h
  | some g =>
    rw [hg] at h
    simp only [Option.bind_some] at h ⊢
    have hlt : g < w.heap.size := by
      by_cases hg : g < w.heap.size
      · exact hg
      · rw [Array.getElem?_eq_none (by omega)] at h; cases h
    rw [hb.block g hlt]
    exact h
theorem itoa_calls (n : Int) (h0 : -1000 ≤ n) (h1 : n ≤ 1000) (w : World) (ht : Tab w) : Calls Tryz.prog 22 #[.int .i64 n] w fun e w' => e = .returned (.string ⟨(Lib.itoa n).toArray⟩) ∧ Below w.heap.size w w' := by
  refine (Tryz.strconv_Itoa n (by omega) (by omega) w ht).mono ?_
  rintro e w' ⟨rfl, k, os, rfl⟩
  exact ⟨rfl, Lib.below_grow _ w (Nat.le_refl _) k os⟩
theorem w64neg (n : Int) (h : n < 0) (h1 : -1000 ≤ n) : wrap64 (-n) = -n := w64 (by omega)
theorem five_frozen {W W1 : World} {b : Nat} {cs : Array Value} {tt : TypeId} (h : W.heap[b]? = some (.cells cs tt (0, 0))) (hb : Below W.heap.size W W1) : W1.frozen? ⟨b, 0, none⟩ = false ∧ W1.frozen? ⟨b, 1, none⟩ = false ∧ W1.frozen? ⟨b, 2, none⟩ = false ∧ W1.frozen? ⟨b, 3, none⟩ = false ∧ W1.frozen? ⟨b, 4, none⟩ = false := by
  have hx : W1.heap[b]? = _ := (hb.block b (Array.getElem?_eq_some_iff.1 h).1).trans h
  exact ⟨blk_frozen hx 0, blk_frozen hx 1, blk_frozen hx 2, blk_frozen hx 3, blk_frozen hx 4⟩
theorem set_five {W : World} {b : Nat} {cs : Array Value} {tt : TypeId} (h : W.heap[b]? = some (.cells cs tt (0, 0))) (h5 : cs.size = 5) (v0 v1 v2 v3 v4 : Value) :
    (((((W.setCell ⟨b, 0, none⟩ v0).setCell ⟨b, 1, none⟩ v1).setCell ⟨b, 2, none⟩ v2).setCell ⟨b, 3, none⟩ v3).setCell ⟨b, 4, none⟩ v4).heap[b]? = some (.cells #[v0, v1, v2, v3, v4] tt (0, 0)) := by
  obtain ⟨l⟩ := cs
  match l, h5 with
  | [a0, a1, a2, a3, a4], _ =>
    simp only [World.setCell, Array.getElem?_modify, if_true, h, Option.map_some]
    rfl
theorem set_five_below {w W : World} {b : Nat} (hb : Below w.heap.size w W) (hg : w.heap.size ≤ b) (v0 v1 v2 v3 v4 : Value) :
    Below w.heap.size w (((((W.setCell ⟨b, 0, none⟩ v0).setCell ⟨b, 1, none⟩ v1).setCell ⟨b, 2, none⟩ v2).setCell ⟨b, 3, none⟩ v3).setCell ⟨b, 4, none⟩ v4) :=
  ((((hb.setCell hg _).setCell hg _).setCell hg _).setCell hg _).setCell hg _
set_option maxRecDepth 100000 in
set_option maxHeartbeats 4000000 in
theorem lit_pos (wd n lo hi : Int) (h1 : 2 ≤ wd) (h2 : wd ≤ 8) (hL : value_Least.f wd = some lo) (hG : value_Greatest.f wd = some hi) (hlo : lo ≤ n) (hhi : n ≤ hi) (hn : 0 ≤ n) (hb1 : n ≤ 1000) (w : World) (ht : Tab w) :
    Calls Tryz.prog 6 #[.int .i64 wd, .int .i64 n] w fun e w' => e = .returned (.tuple #[.agg #[.int .i64 24, .string ⟨(Lib.itoa n).toArray⟩, .int .i64 0, .int .i64 0, .slice none 0 0], .int .i64 0]) ∧ Below w.heap.size w w' := by
  have c1 : decide (wd < 2) = false := decide_eq_false (by omega)
  have c2 : decide (8 < wd) = false := decide_eq_false (by omega)
  have c3 : decide (n < lo) = false := decide_eq_false (by omega)
  have c4 : decide (hi < n) = false := decide_eq_false (by omega)
  have c5 : decide (n < 0) = false := decide_eq_false (by omega)
  obtain ⟨z, hz⟩ : ∃ z, (w.alloc (Obj.cells #[Value.int IntKind.i64 0, Value.string { data := #[] }, Value.int IntKind.i64 0, Value.int IntKind.i64 0, Value.slice none 0 0] 24 (0, 0))) = z := ⟨_, rfl⟩
  have hzb : Below w.heap.size w z := by rw [← hz]; exact (Below.refl _ w).alloc (Nat.le_refl _) _
  have hzx : z.heap[w.heap.size]? = some (.cells #[.int .i64 0, .string ⟨#[]⟩, .int .i64 0, .int .i64 0, .slice none 0 0] 24 (0, 0)) := by rw [← hz]; exact World.alloc_heap_new w _
  have hzl := (Array.getElem?_eq_some_iff.1 hzx).1
  go_enter Tryz.func6, Tryz.ntmps6
  go_wp2_with (first | (go_at_call 19; refine (value_Least.calls wd lo _ hL).mono ?_; rintro e w' ⟨rfl, ⟨nd, rfl⟩⟩) | (go_at_call 20; refine (value_Greatest.calls wd hi _ hG).mono ?_; rintro e w' ⟨rfl, ⟨nd2, rfl⟩⟩) | (go_at_call 22; (try rw [hz]); have hb0 : Below z.heap.size z (z.drewN (nd + nd2)) := pw_below_drewN (Below.refl _ _) _; refine (itoa_calls n (by omega) (by omega) _ ((ht.below hzb).below hb0)).mono ?_; rintro e w2 ⟨rfl, hb2⟩) | (go_at_call 21; refine (node_calls _ _ _ _ _ _).mono ?_; rintro e w3 ⟨rfl, hb3⟩; have hbz := (hb0.trans hb2).trans (hb3.mono hb2.size); have hx3 : w3.heap[w.heap.size]? = _ := (hbz.block _ hzl).trans hzx; obtain ⟨f0, f1, f2, f3, f4⟩ := five_cells hzx hbz; obtain ⟨r0, r1, r2, r3, r4⟩ := five_frozen hzx hbz))
  refine bodyPost_ret (results_ct rfl _ _ w.heap.size 24 #[.int .i64 24, .string ⟨(Lib.itoa n).toArray⟩, .int .i64 0, .int .i64 0, .slice none 0 0] (0, 0) _ rfl (set_five hx3 rfl _ _ _ _ _) Tryz.underlying24 rfl (by kernel_rfl)) rfl ?_
  exact ⟨rfl, set_five_below (hzb.trans (hbz.mono hzb.size)) (Nat.le_refl _) _ _ _ _ _⟩
set_option maxRecDepth 100000 in
set_option maxHeartbeats 4000000 in
theorem lit_neg (wd n lo hi : Int) (h1 : 2 ≤ wd) (h2 : wd ≤ 8) (hL : value_Least.f wd = some lo) (hG : value_Greatest.f wd = some hi) (hlo : lo ≤ n) (hhi : n ≤ hi) (hn : n < 0) (hb1 : -1000 ≤ n) (w : World) (ht : Tab w) :
    Calls Tryz.prog 6 #[.int .i64 wd, .int .i64 n] w fun e w' => ∃ A c, e = .returned (.tuple #[.agg #[.int .i64 28, .string ⟨#[45]⟩, .int .i64 0, .int .i64 0, .slice A 1 c], .int .i64 0]) ∧
      k24.C w' A 1 [(⟨24, ⟨(Lib.itoa (-n)).toArray⟩, 0, 0, []⟩ : S24)] ∧ 1 ≤ c ∧ Below w.heap.size w w' := by
  have c1 : decide (wd < 2) = false := decide_eq_false (by omega)
  have c2 : decide (8 < wd) = false := decide_eq_false (by omega)
  have c3 : decide (n < lo) = false := decide_eq_false (by omega)
  have c4 : decide (hi < n) = false := decide_eq_false (by omega)
  have c5 : decide (n < 0) = true := decide_eq_true (by omega)
  have c6 : wrap64 (-n) = -n := w64neg n hn hb1
  obtain ⟨z, hz⟩ : ∃ z, (w.alloc (Obj.cells #[Value.int IntKind.i64 0, Value.string { data := #[] }, Value.int IntKind.i64 0, Value.int IntKind.i64 0, Value.slice none 0 0] 24 (0, 0))) = z := ⟨_, rfl⟩
  have hzb : Below w.heap.size w z := by rw [← hz]; exact (Below.refl _ w).alloc (Nat.le_refl _) _
  have hzx : z.heap[w.heap.size]? = some (.cells #[.int .i64 0, .string ⟨#[]⟩, .int .i64 0, .int .i64 0, .slice none 0 0] 24 (0, 0)) := by rw [← hz]; exact World.alloc_heap_new w _
  have hzl := (Array.getElem?_eq_some_iff.1 hzx).1
  go_enter Tryz.func6, Tryz.ntmps6
  go_wp2_with (first | (go_at_call 19; refine (value_Least.calls wd lo _ hL).mono ?_; rintro e w' ⟨rfl, ⟨nd, rfl⟩⟩) | (go_at_call 20; refine (value_Greatest.calls wd hi _ hG).mono ?_; rintro e w' ⟨rfl, ⟨nd2, rfl⟩⟩) | (go_at_call 22; (try rw [hz]); have hb0 : Below z.heap.size z (z.drewN (nd + nd2)) := pw_below_drewN (Below.refl _ _) _; refine (itoa_calls (-n) (by omega) (by omega) _ ((ht.below hzb).below hb0)).mono ?_; rintro e w2 ⟨rfl, hb2⟩) | (go_at_call 21; (with_reducible refine (node_calls 24 _ _ _ _ _).mono ?_); rintro e w3 ⟨rfl, hb3⟩) | ((with_reducible refine gate_dst (N := 33) rfl ?_); refine Kd.N_lit k24 (w0 := w3) w3.heap.size 24 ?hg (N' := 33) ?hd (xs := [(⟨24, ⟨(Lib.itoa (-n)).toArray⟩, 0, 0, []⟩ : S24)]) (inner := [.int .i64 24, .string ⟨(Lib.itoa (-n)).toArray⟩, .int .i64 0, .int .i64 0, .slice none 0 0]) (ok := fun k_ => k_ ≠ w.heap.size) (okp := fun k_ => k_ ≠ w.heap.size) ?hr ?hp (fun _ h_ => h_) (by have := hb2.size; have := hb3.size; have : w.heap.size < (z.drewN (nd + nd2)).heap.size := hzl; omega) (Below.refl _ _) (Nat.le_refl _) (by simp) ?_; (case hd => rfl); (case hg => rfl); (case hr => first | (go_simp; done) | (go_simp; rfl)); (case hp => exact Reps.c5 (k24_mkF _ _ (⟨24, ⟨(Lib.itoa (-n)).toArray⟩, 0, 0, []⟩ : S24) (Nat.le_refl _) (Kd.F_nil k24 _ _)) (Reps.none _ _)); intro v33 w4 ho hb4 hg4 hn4; obtain ⟨A, c, rfl⟩ := Kd.N_slice ho; have hC4 := Kd.N_reads' ho) | (go_at_call 21; (with_reducible refine (node_calls 28 _ _ _ _ _).mono ?_); rintro e w5 ⟨rfl, hb5⟩; have hbz := (((hb0.trans hb2).trans (hb3.mono hb2.size)).trans (hb4.mono (Nat.le_trans hb2.size hb3.size))).trans (hb5.mono (Nat.le_trans (Nat.le_trans hb2.size hb3.size) hb4.size)); have hx5 : w5.heap[w.heap.size]? = _ := (hbz.block _ hzl).trans hzx; obtain ⟨f0, f1, f2, f3, f4⟩ := five_cells hzx hbz; obtain ⟨r0, r1, r2, r3, r4⟩ := five_frozen hzx hbz))
  refine bodyPost_ret (results_ct rfl _ _ w.heap.size 24 #[.int .i64 28, .string ⟨#[45]⟩, .int .i64 0, .int .i64 0, .slice A 1 c] (0, 0) _ rfl (set_five hx5 rfl _ _ _ _ _) Tryz.underlying24 rfl (by kernel_rfl)) rfl ?_
  refine ⟨A, c, rfl, ?_, hC4.2.1, set_five_below (hzb.trans (hbz.mono hzb.size)) (Nat.le_refl _) _ _ _ _ _⟩
  have hV : Kd.V k24 24 w5 w3.heap.size (fun k_ => k_ ≠ w.heap.size) (.slice A 1 c) [(⟨24, ⟨(Lib.itoa (-n)).toArray⟩, 0, 0, []⟩ : S24)] := Kd.V_below (Kd.N_V ho) hb5
  have hV2 := Kd.V_far (p := ⟨w.heap.size, 4, none⟩) (Kd.V_far (p := ⟨w.heap.size, 3, none⟩) (Kd.V_far (p := ⟨w.heap.size, 2, none⟩) (Kd.V_far (p := ⟨w.heap.size, 1, none⟩) (Kd.V_far (p := ⟨w.heap.size, 0, none⟩) hV (fun _ h => h) (.int .i64 28)) (fun _ h => h) (.string ⟨#[45]⟩)) (fun _ h => h) (.int .i64 0)) (fun _ h => h) (.int .i64 0)) (fun _ h => h) (.slice A 1 c)
  exact (Kd.V_reads' hV2).2.2
set_option maxRecDepth 100000 in
set_option maxHeartbeats 4000000 in
theorem lit_low (wd n : Int) (h1 : wd < 2) (w : World) :
    Calls Tryz.prog 6 #[.int .i64 wd, .int .i64 n] w fun e w' => e = .returned (.tuple #[.agg #[.int .i64 0, .string ⟨#[]⟩, .int .i64 0, .int .i64 0, .slice none 0 0], .int .i64 2]) ∧ Below w.heap.size w w' := by
  have c1 : decide (wd < 2) = true := decide_eq_true h1
  obtain ⟨z, hz⟩ : ∃ z, (w.alloc (Obj.cells #[Value.int IntKind.i64 0, Value.string { data := #[] }, Value.int IntKind.i64 0, Value.int IntKind.i64 0, Value.slice none 0 0] 24 (0, 0))) = z := ⟨_, rfl⟩
  have hzb : Below w.heap.size w z := by rw [← hz]; exact (Below.refl _ w).alloc (Nat.le_refl _) _
  have hzx : z.heap[w.heap.size]? = some (.cells #[.int .i64 0, .string ⟨#[]⟩, .int .i64 0, .int .i64 0, .slice none 0 0] 24 (0, 0)) := by rw [← hz]; exact World.alloc_heap_new w _
  have hzl := (Array.getElem?_eq_some_iff.1 hzx).1
  obtain ⟨f0, f1, f2, f3, f4⟩ := five_cells hzx (Below.refl _ _)
  obtain ⟨r0, r1, r2, r3, r4⟩ := five_frozen hzx (Below.refl _ _)
  go_enter Tryz.func6, Tryz.ntmps6
  go_wp2
  (try rw [hz])
  have hb0 : Below z.heap.size z (z) := by first | exact Below.refl _ _ | exact pw_below_drewN (Below.refl _ _) _
  refine bodyPost_ret (results_ct rfl _ _ w.heap.size 24 #[.int .i64 0, .string ⟨#[]⟩, .int .i64 0, .int .i64 0, .slice none 0 0] (0, 0) _ rfl (set_five ((hb0.block _ hzl).trans hzx) rfl _ _ _ _ _) Tryz.underlying24 rfl (by kernel_rfl)) rfl ?_
  exact ⟨rfl, set_five_below (hzb.trans (hb0.mono hzb.size)) (Nat.le_refl _) _ _ _ _ _⟩
set_option maxRecDepth 100000 in
set_option maxHeartbeats 4000000 in
theorem lit_high (wd n : Int) (h1 : 8 < wd) (w : World) :
    Calls Tryz.prog 6 #[.int .i64 wd, .int .i64 n] w fun e w' => e = .returned (.tuple #[.agg #[.int .i64 0, .string ⟨#[]⟩, .int .i64 0, .int .i64 0, .slice none 0 0], .int .i64 2]) ∧ Below w.heap.size w w' := by
  have c1 : decide (wd < 2) = false := decide_eq_false (by omega)
  have c2 : decide (8 < wd) = true := decide_eq_true h1
  obtain ⟨z, hz⟩ : ∃ z, (w.alloc (Obj.cells #[Value.int IntKind.i64 0, Value.string { data := #[] }, Value.int IntKind.i64 0, Value.int IntKind.i64 0, Value.slice none 0 0] 24 (0, 0))) = z := ⟨_, rfl⟩
  have hzb : Below w.heap.size w z := by rw [← hz]; exact (Below.refl _ w).alloc (Nat.le_refl _) _
  have hzx : z.heap[w.heap.size]? = some (.cells #[.int .i64 0, .string ⟨#[]⟩, .int .i64 0, .int .i64 0, .slice none 0 0] 24 (0, 0)) := by rw [← hz]; exact World.alloc_heap_new w _
  have hzl := (Array.getElem?_eq_some_iff.1 hzx).1
  obtain ⟨f0, f1, f2, f3, f4⟩ := five_cells hzx (Below.refl _ _)
  obtain ⟨r0, r1, r2, r3, r4⟩ := five_frozen hzx (Below.refl _ _)
  go_enter Tryz.func6, Tryz.ntmps6
  go_wp2
  (try rw [hz])
  have hb0 : Below z.heap.size z (z) := by first | exact Below.refl _ _ | exact pw_below_drewN (Below.refl _ _) _
  refine bodyPost_ret (results_ct rfl _ _ w.heap.size 24 #[.int .i64 0, .string ⟨#[]⟩, .int .i64 0, .int .i64 0, .slice none 0 0] (0, 0) _ rfl (set_five ((hb0.block _ hzl).trans hzx) rfl _ _ _ _ _) Tryz.underlying24 rfl (by kernel_rfl)) rfl ?_
  exact ⟨rfl, set_five_below (hzb.trans (hb0.mono hzb.size)) (Nat.le_refl _) _ _ _ _ _⟩
set_option maxRecDepth 100000 in
set_option maxHeartbeats 4000000 in
theorem lit_less (wd n lo : Int) (h1 : 2 ≤ wd) (h2 : wd ≤ 8) (hL : value_Least.f wd = some lo) (hn : n < lo) (w : World) :
    Calls Tryz.prog 6 #[.int .i64 wd, .int .i64 n] w fun e w' => e = .returned (.tuple #[.agg #[.int .i64 0, .string ⟨#[]⟩, .int .i64 0, .int .i64 0, .slice none 0 0], .int .i64 2]) ∧ Below w.heap.size w w' := by
  have c1 : decide (wd < 2) = false := decide_eq_false (by omega)
  have c2 : decide (8 < wd) = false := decide_eq_false (by omega)
  have c3 : decide (n < lo) = true := decide_eq_true hn
  obtain ⟨z, hz⟩ : ∃ z, (w.alloc (Obj.cells #[Value.int IntKind.i64 0, Value.string { data := #[] }, Value.int IntKind.i64 0, Value.int IntKind.i64 0, Value.slice none 0 0] 24 (0, 0))) = z := ⟨_, rfl⟩
  have hzb : Below w.heap.size w z := by rw [← hz]; exact (Below.refl _ w).alloc (Nat.le_refl _) _
  have hzx : z.heap[w.heap.size]? = some (.cells #[.int .i64 0, .string ⟨#[]⟩, .int .i64 0, .int .i64 0, .slice none 0 0] 24 (0, 0)) := by rw [← hz]; exact World.alloc_heap_new w _
  have hzl := (Array.getElem?_eq_some_iff.1 hzx).1
  obtain ⟨f0, f1, f2, f3, f4⟩ := five_cells hzx (Below.refl _ _)
  obtain ⟨r0, r1, r2, r3, r4⟩ := five_frozen hzx (Below.refl _ _)
  go_enter Tryz.func6, Tryz.ntmps6
  go_wp2_with (first | (go_at_call 19; refine (value_Least.calls wd lo _ hL).mono ?_; rintro e w' ⟨rfl, ⟨nd, rfl⟩⟩; obtain ⟨f0, f1, f2, f3, f4⟩ := five_cells hzx (pw_below_drewN (Below.refl _ z) nd); obtain ⟨r0, r1, r2, r3, r4⟩ := five_frozen hzx (pw_below_drewN (Below.refl _ z) nd)))
  (try rw [hz])
  have hb0 : Below z.heap.size z (z.drewN nd) := by first | exact Below.refl _ _ | exact pw_below_drewN (Below.refl _ _) _
  refine bodyPost_ret (results_ct rfl _ _ w.heap.size 24 #[.int .i64 0, .string ⟨#[]⟩, .int .i64 0, .int .i64 0, .slice none 0 0] (0, 0) _ rfl (set_five ((hb0.block _ hzl).trans hzx) rfl _ _ _ _ _) Tryz.underlying24 rfl (by kernel_rfl)) rfl ?_
  exact ⟨rfl, set_five_below (hzb.trans (hb0.mono hzb.size)) (Nat.le_refl _) _ _ _ _ _⟩
set_option maxRecDepth 100000 in
set_option maxHeartbeats 4000000 in
theorem lit_more (wd n lo hi : Int) (h1 : 2 ≤ wd) (h2 : wd ≤ 8) (hL : value_Least.f wd = some lo) (hG : value_Greatest.f wd = some hi) (hn : lo ≤ n) (hh : hi < n) (w : World) :
    Calls Tryz.prog 6 #[.int .i64 wd, .int .i64 n] w fun e w' => e = .returned (.tuple #[.agg #[.int .i64 0, .string ⟨#[]⟩, .int .i64 0, .int .i64 0, .slice none 0 0], .int .i64 2]) ∧ Below w.heap.size w w' := by
  have c1 : decide (wd < 2) = false := decide_eq_false (by omega)
  have c2 : decide (8 < wd) = false := decide_eq_false (by omega)
  have c3 : decide (n < lo) = false := decide_eq_false (by omega)
  have c4 : decide (hi < n) = true := decide_eq_true hh
  obtain ⟨z, hz⟩ : ∃ z, (w.alloc (Obj.cells #[Value.int IntKind.i64 0, Value.string { data := #[] }, Value.int IntKind.i64 0, Value.int IntKind.i64 0, Value.slice none 0 0] 24 (0, 0))) = z := ⟨_, rfl⟩
  have hzb : Below w.heap.size w z := by rw [← hz]; exact (Below.refl _ w).alloc (Nat.le_refl _) _
  have hzx : z.heap[w.heap.size]? = some (.cells #[.int .i64 0, .string ⟨#[]⟩, .int .i64 0, .int .i64 0, .slice none 0 0] 24 (0, 0)) := by rw [← hz]; exact World.alloc_heap_new w _
  have hzl := (Array.getElem?_eq_some_iff.1 hzx).1
  obtain ⟨f0, f1, f2, f3, f4⟩ := five_cells hzx (Below.refl _ _)
  obtain ⟨r0, r1, r2, r3, r4⟩ := five_frozen hzx (Below.refl _ _)
  go_enter Tryz.func6, Tryz.ntmps6
  go_wp2_with (first | (go_at_call 19; refine (value_Least.calls wd lo _ hL).mono ?_; rintro e w' ⟨rfl, ⟨nd, rfl⟩⟩; obtain ⟨f0, f1, f2, f3, f4⟩ := five_cells hzx (pw_below_drewN (Below.refl _ z) nd); obtain ⟨r0, r1, r2, r3, r4⟩ := five_frozen hzx (pw_below_drewN (Below.refl _ z) nd)) | (go_at_call 20; refine (value_Greatest.calls wd hi _ hG).mono ?_; rintro e w' ⟨rfl, ⟨nd2, rfl⟩⟩; obtain ⟨f0, f1, f2, f3, f4⟩ := five_cells hzx (pw_below_drewN (Below.refl _ z) (nd + nd2)); obtain ⟨r0, r1, r2, r3, r4⟩ := five_frozen hzx (pw_below_drewN (Below.refl _ z) (nd + nd2))))
  (try rw [hz])
  have hb0 : Below z.heap.size z (z.drewN (nd + nd2)) := by first | exact Below.refl _ _ | exact pw_below_drewN (Below.refl _ _) _
  refine bodyPost_ret (results_ct rfl _ _ w.heap.size 24 #[.int .i64 0, .string ⟨#[]⟩, .int .i64 0, .int .i64 0, .slice none 0 0] (0, 0) _ rfl (set_five ((hb0.block _ hzl).trans hzx) rfl _ _ _ _ _) Tryz.underlying24 rfl (by kernel_rfl)) rfl ?_
  exact ⟨rfl, set_five_below (hzb.trans (hb0.mono hzb.size)) (Nat.le_refl _) _ _ _ _ _⟩
end Go.Proofs.YtdnclnacneakbaaGreatDoor.PSmall
end
