/- Contracts of the reference's number functions (written by the kit's print tool, pruned; one part mended by hand). -/
import Derived.Test.YtdnclnacneakbaaGreatDoorR1
set_option linter.unusedVariables false
set_option linter.unusedSimpArgs false
set_option linter.unusedSectionVars false
section
namespace Go.Proofs.YtdnclnacneakbaaGreatDoor.PSmall
open Go.RowKit Go.Proofs.YtdnclnacneakbaaGreatDoorW.PrintWords Go.Proofs.YtdnclnacneakbaaGreatDoorW.PrintLast Go.Proofs.YtdnclnacneakbaaGreatDoorW.PrintMore
attribute [local go_sem] max2_int min2_int max_two min_two max_three min_three max_four min_four
set_option linter.unusedVariables false
set_option linter.unusedSimpArgs false
def lexer_digit.f (a0 : Int) : Option (Bool) := if a0 ≥ 48 then (some (decide (a0 ≤ 57))) else (some false)
set_option maxHeartbeats 8000000 in
set_option maxRecDepth 100000 in
theorem lexer_digit.calls (a0 : Int) (r : Bool) (w : World) (h : lexer_digit.f a0 = some r) :
    Calls Tryz.prog 290 #[.int .u8 a0] w fun e w' => e = .returned (.bool r) ∧ Drawn0 w w' := by
  have H : (if a0 ≥ 48 then (some (decide (a0 ≤ 57))) else (some false)) = some r := h
  clear h
  by_cases c2 : a0 ≥ 48
  · rw [if_pos c2] at H
    have c2b0 : decide (48 ≤ a0) = true := decide_eq_true c2
    clear c2
    obtain rfl := Option.some.inj H
    go_enter Tryz.func290, Tryz.ntmps290
    go_wp2
    go_ret
    exact ⟨by first | rfl | (simp; done) | (simp [*]; done), by repeat (first | exact Drawn0.refl _ | apply Drawn0.step)⟩
  · rw [if_neg c2] at H
    have c2b0 : decide (48 ≤ a0) = false := decide_eq_false c2
    clear c2
    obtain rfl := Option.some.inj H
    go_enter Tryz.func290, Tryz.ntmps290
    go_wp2
    go_ret
    exact ⟨by first | rfl | (simp; done) | (simp [*]; done), by repeat (first | exact Drawn0.refl _ | apply Drawn0.step)⟩
def tree_isExpression.f (a0 : Int) : Option (Bool) := if a0 ≥ 20 then (some (decide (a0 ≤ 29))) else (some false)
set_option maxHeartbeats 8000000 in
set_option maxRecDepth 100000 in
theorem tree_isExpression.calls (a0 : Int) (r : Bool) (w : World) (h : tree_isExpression.f a0 = some r) :
    Calls Tryz.prog 58 #[.int .i64 a0] w fun e w' => e = .returned (.bool r) ∧ Drawn0 w w' := by
  have H : (if a0 ≥ 20 then (some (decide (a0 ≤ 29))) else (some false)) = some r := h
  clear h
  by_cases c2 : a0 ≥ 20
  · rw [if_pos c2] at H
    have c2b0 : decide (20 ≤ a0) = true := decide_eq_true c2
    clear c2
    obtain rfl := Option.some.inj H
    go_enter Tryz.func58, Tryz.ntmps58
    go_wp2
    go_ret
    exact ⟨by first | rfl | (simp; done) | (simp [*]; done), by repeat (first | exact Drawn0.refl _ | apply Drawn0.step)⟩
  · rw [if_neg c2] at H
    have c2b0 : decide (20 ≤ a0) = false := decide_eq_false c2
    clear c2
    obtain rfl := Option.some.inj H
    go_enter Tryz.func58, Tryz.ntmps58
    go_wp2
    go_ret
    exact ⟨by first | rfl | (simp; done) | (simp [*]; done), by repeat (first | exact Drawn0.refl _ | apply Drawn0.step)⟩
end Go.Proofs.YtdnclnacneakbaaGreatDoor.PSmall
end
section
namespace Go.Proofs.YtdnclnacneakbaaGreatDoor.PSmall
open Go.RowKit Go.Proofs.YtdnclnacneakbaaGreatDoorW.PrintWords Go.Proofs.YtdnclnacneakbaaGreatDoorW.PrintLast Go.Proofs.YtdnclnacneakbaaGreatDoorW.PrintMore
attribute [local go_sem] max2_int min2_int max_two min_two max_three min_three max_four min_four
set_option linter.unusedVariables false
set_option linter.unusedSimpArgs false
def assessorref11_Width.f (a0 : Int) : Option (Bool) := if a0 ≥ 2 then (some (decide (a0 ≤ 8))) else (some false)
set_option maxHeartbeats 8000000 in
set_option maxRecDepth 100000 in
theorem assessorref11_Width.calls (a0 : Int) (r : Bool) (w : World) (h : assessorref11_Width.f a0 = some r) :
    Calls Tryz.prog 23 #[.int .i64 a0] w fun e w' => e = .returned (.bool r) ∧ Drawn0 w w' := by
  have H : (if a0 ≥ 2 then (some (decide (a0 ≤ 8))) else (some false)) = some r := h
  clear h
  by_cases c2 : a0 ≥ 2
  · rw [if_pos c2] at H
    have c2b0 : decide (2 ≤ a0) = true := decide_eq_true c2
    clear c2
    obtain rfl := Option.some.inj H
    go_enter Tryz.func23, Tryz.ntmps23
    go_wp2
    go_ret
    exact ⟨by first | rfl | (simp; done) | (simp [*]; done), by repeat (first | exact Drawn0.refl _ | apply Drawn0.step)⟩
  · rw [if_neg c2] at H
    have c2b0 : decide (2 ≤ a0) = false := decide_eq_false c2
    clear c2
    obtain rfl := Option.some.inj H
    go_enter Tryz.func23, Tryz.ntmps23
    go_wp2
    go_ret
    exact ⟨by first | rfl | (simp; done) | (simp [*]; done), by repeat (first | exact Drawn0.refl _ | apply Drawn0.step)⟩
def assessorref11_power.l0 : Nat → Int → Int → Int → Option (Int)
  | 0, _, _, _ => none
  | k + 1, x0, x3, x4 => if x4 < x0 then (assessorref11_power.l0 k x0 (wrap64 (2 * x3)) (wrap64 (x4 + 1))) else (some x3)
def assessorref11_power.f (k : Nat) (a0 : Int) : Option (Int) := assessorref11_power.l0 k a0 1 0
theorem assessorref11_power.mono_l : ∀ k, (∀ y0 y1 y2, LeO (assessorref11_power.l0 k y0 y1 y2) (assessorref11_power.l0 (k + 1) y0 y1 y2))
  | 0 => fun _ _ _ r h => by simp [assessorref11_power.l0] at h
  | k + 1 => by
    have ih0 := assessorref11_power.mono_l k
    · intro y0 y1 y2
      unfold assessorref11_power.l0
      repeat' first
      | (with_reducible exact ih0 _ _ _)
      | (with_reducible exact LeO.refl _)
      | (with_reducible exact LeO.none _)
      | (with_reducible refine LeO.ite ?_ ?_)
      | (with_reducible refine LeO.bind ?_ (fun _ => ?_))
      | exact ih0 _ _ _
      | exact LeO.none _
      | refine LeO.ite ?_ ?_
      | refine LeO.bind ?_ (fun _ => ?_)
theorem assessorref11_power.mono : ∀ a0 k, LeO (assessorref11_power.f k a0) (assessorref11_power.f (k + 1) a0) := by
  intro a0 k
  have ih0 := assessorref11_power.mono_l k
  unfold assessorref11_power.f
  repeat' first
      | (with_reducible exact ih0 _ _ _)
      | (with_reducible exact LeO.refl _)
      | (with_reducible exact LeO.none _)
      | (with_reducible refine LeO.ite ?_ ?_)
      | (with_reducible refine LeO.bind ?_ (fun _ => ?_))
      | exact ih0 _ _ _
      | exact LeO.none _
      | refine LeO.ite ?_ ?_
      | refine LeO.bind ?_ (fun _ => ?_)
set_option maxHeartbeats 8000000 in
set_option maxRecDepth 100000 in
theorem assessorref11_power.calls (k : Nat) (a0 : Int) (r : Int) (w : World) (h : assessorref11_power.f k a0 = some r) :
    Calls Tryz.prog 57 #[.int .i64 a0] w fun e w' => e = .returned (.int .i64 r) ∧ Drawn0 w w' := by
  have H : (assessorref11_power.l0 k a0 1 0) = some r := h
  clear h
  have H' := Aside0.mk H
  clear H
  go_enter Tryz.func57, Tryz.ntmps57
  go_wp2
  go_loopg [3, 4] k (fun kq v3 v4 w' => ∃ (x3_1 : Int) (x4_1 : Int), v3 = .int .i64 x3_1 ∧ v4 = .int .i64 x4_1 ∧ Aside0 (assessorref11_power.l0 kq a0 x3_1 x4_1 = some r) ∧ Aside0 (kq ≤ k) ∧ Drawn0 w w')
  case atStart => exact ⟨(1), (0), (by first | rfl | (simp; done) | (simp [*]; done)), (by first | rfl | (simp; done) | (simp [*]; done)), H', ⟨Nat.le_refl _⟩, by repeat (first | exact Drawn0.refl _ | apply Drawn0.step)⟩
  case round =>
    clear H'
    obtain ⟨x3_1, x4_1, rfl, rfl, HA, HK1, ⟨m1, rfl⟩⟩ := hrel
    cases gk with
    | zero => exact absurd HA.out (by simp [assessorref11_power.l0])
    | succ k1 =>
      have H := HA.out
      clear HA
      simp only [assessorref11_power.l0] at H
      by_cases c2 : x4_1 < a0
      · rw [if_pos c2] at H
        have c2b0 : decide (x4_1 < a0) = true := decide_eq_true c2
        clear c2
        have H' := Aside0.mk H
        clear H
        go_wp2
        go_roundg k1
        case measure => have := HK1.out; omega
        case rel => exact ⟨(wrap64 (2 * x3_1)), (wrap64 (x4_1 + 1)), (by first | rfl | (simp; done) | (simp [*]; done)), (by first | rfl | (simp; done) | (simp [*]; done)), H', ⟨by have := HK1.out; omega⟩, by repeat (first | exact Drawn0.refl _ | apply Drawn0.step)⟩
      · rw [if_neg c2] at H
        have c2b0 : decide (x4_1 < a0) = false := decide_eq_false c2
        clear c2
        obtain rfl := Option.some.inj H
        go_wp2
        go_ret
        exact ⟨by first | rfl | (simp; done) | (simp [*]; done), by repeat (first | exact Drawn0.refl _ | apply Drawn0.step)⟩
def assessorref11_Least.f (k : Nat) (a0 : Int) : Option (Int) := (assessorref11_Width.f a0).bind fun t122 => (if t122 = true then ((assessorref11_power.f k (wrap64 (a0 - 1))).bind fun t123 => (some (wrap64 (-t123)))) else (some 0))
theorem assessorref11_Least.mono : ∀ a0 k, LeO (assessorref11_Least.f k a0) (assessorref11_Least.f (k + 1) a0) := by
  intro a0 k
  unfold assessorref11_Least.f
  repeat' first
      | (with_reducible exact assessorref11_power.mono _ _)
      | (with_reducible exact LeO.refl _)
      | (with_reducible exact LeO.none _)
      | (with_reducible refine LeO.ite ?_ ?_)
      | (with_reducible refine LeO.bind ?_ (fun _ => ?_))
      | exact assessorref11_power.mono _ _
      | exact LeO.none _
      | refine LeO.ite ?_ ?_
      | refine LeO.bind ?_ (fun _ => ?_)
set_option maxHeartbeats 8000000 in
set_option maxRecDepth 100000 in
theorem assessorref11_Least.calls (k : Nat) (a0 : Int) (r : Int) (w : World) (h : assessorref11_Least.f k a0 = some r) :
    Calls Tryz.prog 24 #[.int .i64 a0] w fun e w' => e = .returned (.int .i64 r) ∧ Drawn0 w w' := by
  have H : ((assessorref11_Width.f a0).bind fun t122 => (if t122 = true then ((assessorref11_power.f k (wrap64 (a0 - 1))).bind fun t123 => (some (wrap64 (-t123)))) else (some 0))) = some r := h
  clear h
  replace H := Option.bind_eq_some_iff.mp H
  obtain ⟨t122, A20, H⟩ := H
  replace H : (if t122 = true then ((assessorref11_power.f k (wrap64 (a0 - 1))).bind fun t123 => (some (wrap64 (-t123)))) else (some 0)) = some r := H
  have A2 := Aside0.mk A20
  clear A20
  by_cases c3 : t122 = true
  · subst c3
    have H1 : ((assessorref11_power.f k (wrap64 (a0 - 1))).bind fun t123 => (some (wrap64 (-t123)))) = some r := by rw [if_pos rfl] at H; exact H
    clear H
    have H := H1
    clear H1
    replace H := Option.bind_eq_some_iff.mp H
    obtain ⟨t123, A40, H⟩ := H
    replace H : (some (wrap64 (-t123))) = some r := H
    have A4 := Aside0.mk A40
    clear A40
    obtain rfl := Option.some.inj H
    go_enter Tryz.func24, Tryz.ntmps24
    go_wp2_with (first | ((with_reducible refine gate_callee (f := 23) rfl ?_); refine goesL_ (some 4) rfl rfl Tryz.func23 (by kernel_rfl) rfl #[.int .i64 a0] rfl (by (try simp only [List.map_toArray, List.map_cons, List.map_nil]); first | done | rfl | (simp only [List.length_drop, List.length_take]; rfl)) ?_; (with_reducible refine (assessorref11_Width.calls a0 true _ A2.out).mono ?_); rintro e w' ⟨rfl, ⟨nd, rfl⟩⟩; refine ⟨_, rfl, ?_⟩) | ((with_reducible refine gate_callee (f := 57) rfl ?_); refine goesL_ (some 8) rfl rfl Tryz.func57 (by kernel_rfl) rfl #[.int .i64 (wrap64 (a0 - 1))] rfl (by (try simp only [List.map_toArray, List.map_cons, List.map_nil]); first | done | rfl | (simp only [List.length_drop, List.length_take]; rfl)) ?_; (with_reducible refine (assessorref11_power.calls k (wrap64 (a0 - 1)) t123 _ A4.out).mono ?_); rintro e w' ⟨rfl, ⟨nd, rfl⟩⟩; refine ⟨_, rfl, ?_⟩))
    go_ret
    exact ⟨by first | rfl | (simp; done) | (simp [*]; done), by repeat (first | exact Drawn0.refl _ | apply Drawn0.step)⟩
  · replace c3 := Bool.eq_false_iff.mpr c3
    subst c3
    have H1 : (some 0) = some r := by rw [if_neg (show ¬ (false = true) by decide)] at H; exact H
    clear H
    have H := H1
    clear H1
    obtain rfl := Option.some.inj H
    go_enter Tryz.func24, Tryz.ntmps24
    go_wp2_with (first | ((with_reducible refine gate_callee (f := 23) rfl ?_); refine goesL_ (some 4) rfl rfl Tryz.func23 (by kernel_rfl) rfl #[.int .i64 a0] rfl (by (try simp only [List.map_toArray, List.map_cons, List.map_nil]); first | done | rfl | (simp only [List.length_drop, List.length_take]; rfl)) ?_; (with_reducible refine (assessorref11_Width.calls a0 false _ A2.out).mono ?_); rintro e w' ⟨rfl, ⟨nd, rfl⟩⟩; refine ⟨_, rfl, ?_⟩))
    go_ret
    exact ⟨by first | rfl | (simp; done) | (simp [*]; done), by repeat (first | exact Drawn0.refl _ | apply Drawn0.step)⟩
def assessorref11_Greatest.f (k : Nat) (a0 : Int) : Option (Int) := (assessorref11_Width.f a0).bind fun t124 => (if t124 = true then ((assessorref11_power.f k (wrap64 (a0 - 1))).bind fun t125 => (some (wrap64 (t125 - 1)))) else (some 0))
theorem assessorref11_Greatest.mono : ∀ a0 k, LeO (assessorref11_Greatest.f k a0) (assessorref11_Greatest.f (k + 1) a0) := by
  intro a0 k
  unfold assessorref11_Greatest.f
  repeat' first
      | (with_reducible exact assessorref11_power.mono _ _)
      | (with_reducible exact LeO.refl _)
      | (with_reducible exact LeO.none _)
      | (with_reducible refine LeO.ite ?_ ?_)
      | (with_reducible refine LeO.bind ?_ (fun _ => ?_))
      | exact assessorref11_power.mono _ _
      | exact LeO.none _
      | refine LeO.ite ?_ ?_
      | refine LeO.bind ?_ (fun _ => ?_)
set_option maxHeartbeats 8000000 in
set_option maxRecDepth 100000 in
theorem assessorref11_Greatest.calls (k : Nat) (a0 : Int) (r : Int) (w : World) (h : assessorref11_Greatest.f k a0 = some r) :
    Calls Tryz.prog 25 #[.int .i64 a0] w fun e w' => e = .returned (.int .i64 r) ∧ Drawn0 w w' := by
  have H : ((assessorref11_Width.f a0).bind fun t124 => (if t124 = true then ((assessorref11_power.f k (wrap64 (a0 - 1))).bind fun t125 => (some (wrap64 (t125 - 1)))) else (some 0))) = some r := h
  clear h
  replace H := Option.bind_eq_some_iff.mp H
  obtain ⟨t124, A20, H⟩ := H
  replace H : (if t124 = true then ((assessorref11_power.f k (wrap64 (a0 - 1))).bind fun t125 => (some (wrap64 (t125 - 1)))) else (some 0)) = some r := H
  have A2 := Aside0.mk A20
  clear A20
  by_cases c3 : t124 = true
  · subst c3
    have H1 : ((assessorref11_power.f k (wrap64 (a0 - 1))).bind fun t125 => (some (wrap64 (t125 - 1)))) = some r := by rw [if_pos rfl] at H; exact H
    clear H
    have H := H1
    clear H1
    replace H := Option.bind_eq_some_iff.mp H
    obtain ⟨t125, A40, H⟩ := H
    replace H : (some (wrap64 (t125 - 1))) = some r := H
    have A4 := Aside0.mk A40
    clear A40
    obtain rfl := Option.some.inj H
    go_enter Tryz.func25, Tryz.ntmps25
    go_wp2_with (first | ((with_reducible refine gate_callee (f := 23) rfl ?_); refine goesL_ (some 4) rfl rfl Tryz.func23 (by kernel_rfl) rfl #[.int .i64 a0] rfl (by (try simp only [List.map_toArray, List.map_cons, List.map_nil]); first | done | rfl | (simp only [List.length_drop, List.length_take]; rfl)) ?_; (with_reducible refine (assessorref11_Width.calls a0 true _ A2.out).mono ?_); rintro e w' ⟨rfl, ⟨nd, rfl⟩⟩; refine ⟨_, rfl, ?_⟩) | ((with_reducible refine gate_callee (f := 57) rfl ?_); refine goesL_ (some 8) rfl rfl Tryz.func57 (by kernel_rfl) rfl #[.int .i64 (wrap64 (a0 - 1))] rfl (by (try simp only [List.map_toArray, List.map_cons, List.map_nil]); first | done | rfl | (simp only [List.length_drop, List.length_take]; rfl)) ?_; (with_reducible refine (assessorref11_power.calls k (wrap64 (a0 - 1)) t125 _ A4.out).mono ?_); rintro e w' ⟨rfl, ⟨nd, rfl⟩⟩; refine ⟨_, rfl, ?_⟩))
    go_ret
    exact ⟨by first | rfl | (simp; done) | (simp [*]; done), by repeat (first | exact Drawn0.refl _ | apply Drawn0.step)⟩
  · replace c3 := Bool.eq_false_iff.mpr c3
    subst c3
    have H1 : (some 0) = some r := by rw [if_neg (show ¬ (false = true) by decide)] at H; exact H
    clear H
    have H := H1
    clear H1
    obtain rfl := Option.some.inj H
    go_enter Tryz.func25, Tryz.ntmps25
    go_wp2_with (first | ((with_reducible refine gate_callee (f := 23) rfl ?_); refine goesL_ (some 4) rfl rfl Tryz.func23 (by kernel_rfl) rfl #[.int .i64 a0] rfl (by (try simp only [List.map_toArray, List.map_cons, List.map_nil]); first | done | rfl | (simp only [List.length_drop, List.length_take]; rfl)) ?_; (with_reducible refine (assessorref11_Width.calls a0 false _ A2.out).mono ?_); rintro e w' ⟨rfl, ⟨nd, rfl⟩⟩; refine ⟨_, rfl, ?_⟩))
    go_ret
    exact ⟨by first | rfl | (simp; done) | (simp [*]; done), by repeat (first | exact Drawn0.refl _ | apply Drawn0.step)⟩
def assessorref36_node.f (a0 : Int) (a1 : ByteArray) (l2 : List (S24)) : Option (Int × ByteArray × Int × Int × (List (S24))) := some (a0, a1, 0, 0, l2)
set_option maxHeartbeats 8000000 in
set_option maxRecDepth 100000 in
theorem assessorref36_node.calls (a0 : Int) (a1 : ByteArray) (P2_ : Nat → Prop) (A2 : Option Addr) (c2 : Nat) (l2 : List (S24)) (r1 : Int) (r2 : ByteArray) (r3 : Int) (r4 : Int) (r5 : List (S24)) (w : World) (hs2 : Kd.V k24 24 w w.heap.size (fun k_ => P2_ k_) (.slice A2 l2.length c2) l2) (h : assessorref36_node.f a0 a1 l2 = some (r1, r2, r3, r4, r5)) :
    Calls Tryz.prog 26 #[.int .i64 a0, .string a1, .slice A2 l2.length c2] w fun e w' => ∃ v4_ : Value, e = .returned (.agg #[.int .i64 r1, .string r2, .int .i64 r3, .int .i64 r4, v4_]) ∧ Kd.V k24 24 w' w.heap.size (fun k_ => (P2_ k_ ∨ w.heap.size ≤ k_)) v4_ r5 ∧ Below w.heap.size w w' := by
  have hu24 := Tryz.underlying24
  have HO2 := Aside0.mk (show Kd.V k24 24 w w.heap.size (fun k_ => (P2_ k_ ∨ w.heap.size ≤ k_)) (.slice A2 l2.length c2) l2 from Kd.V_mono hs2 (fun k_ hk => .inl hk))
  have HB := Aside0.mk (Below.refl w.heap.size w)
  have H : (some (a0, a1, 0, 0, l2)) = some (r1, r2, r3, r4, r5) := h
  clear h
  simp only [Option.some.injEq, Prod.mk.injEq] at H
  obtain ⟨rfl, rfl, rfl, rfl, rfl⟩ := H
  go_enter Tryz.func26, Tryz.ntmps26
  go_wp2_with (first | ((with_reducible refine gate_dst (N := 6) rfl ?_); refine box_event ?hg (N := 6) ?hd (cs := #[.int .i64 0, .string (⟨#[]⟩ : ByteArray), .int .i64 0, .int .i64 0, .slice none 0 0]) (t := 24) ?hr ?_; (case hd => rfl); (case hg => rfl); (case hr => first | (go_simp; done) | (go_simp; rfl)); intro gb126 hg w4 hbox hb; have n0_ := Aside0.mk (Kd.V_below (Kd.V_elderB (by (with_reducible repeat (first | apply Kd.V_alloc | apply Kd.V_drewN | apply Kd.V_drew)); exact HO2.out) gb126 (Nat.le_of_eq hg.symm)) hb); have n1_ := Aside0.mk (below_step (by repeat (first | (with_reducible first | exact HB.out | apply below_alloc | apply pw_below_drewN | apply below_drew1) | exact HB.out)) hb); have n2_ := Aside0.mk (hbox); have n3_ := Aside0.mk ((by rw [hg]; exact (below_size (by repeat (first | (with_reducible first | exact HB.out | apply below_alloc | apply pw_below_drewN | apply below_drew1) | exact HB.out))) : w.heap.size ≤ gb126)); have n4_ := Aside0.mk ((by rw [hg]; exact (below_size (by repeat (first | (with_reducible first | exact HB.out | apply below_alloc | apply pw_below_drewN | apply below_drew1) | exact HB.out))) : w.heap.size ≤ gb126)); clear HO2; clear HB; have HO2 := n0_; have HB := n1_; have BK126 := n2_; have GW126 := n3_; have GE126 := n4_; clear n0_ n1_ n2_ n3_ n4_; clear hb hbox hg; have hcz5_0 : w4.cell? ⟨gb126, 0, none⟩ = some (.int .i64 0) := (blk_cell BK126.out 0).trans rfl; have hcz5_1 : w4.cell? ⟨gb126, 1, none⟩ = some (.string (⟨#[]⟩ : ByteArray)) := (blk_cell BK126.out 1).trans rfl; have hcz5_2 : w4.cell? ⟨gb126, 2, none⟩ = some (.int .i64 0) := (blk_cell BK126.out 2).trans rfl; have hcz5_3 : w4.cell? ⟨gb126, 3, none⟩ = some (.int .i64 0) := (blk_cell BK126.out 3).trans rfl; have hcz5_4 : w4.cell? ⟨gb126, 4, none⟩ = some (.slice none 0 0) := (blk_cell BK126.out 4).trans rfl; have hfz5_0 := blk_frozen BK126.out 0; have hfz5_1 := blk_frozen BK126.out 1; have hfz5_2 := blk_frozen BK126.out 2; have hfz5_3 := blk_frozen BK126.out 3; have hfz5_4 := blk_frozen BK126.out 4))
  refine bodyPost_ret (results_cell_row rfl _ _ gb126 24 #[.int .i64 a0, .string a1, .int .i64 0, .int .i64 0, .slice A2 l2.length c2] (0, 0) _ rfl (by (with_reducible repeat (first | refine blk_drewN ?_ _ | refine blk_drew ?_ | refine blk_alloc ?_ _)); refine blk_put (cs := #[.int .i64 a0, .string a1, .int .i64 0, .int .i64 0, .slice none 0 0]) ?_ 4 _ rfl; (with_reducible repeat (first | refine blk_drewN ?_ _ | refine blk_drew ?_ | refine blk_alloc ?_ _)); refine blk_put (cs := #[.int .i64 a0, .string a1, .int .i64 0, .int .i64 0, .slice none 0 0]) ?_ 3 _ rfl; (with_reducible repeat (first | refine blk_drewN ?_ _ | refine blk_drew ?_ | refine blk_alloc ?_ _)); refine blk_put (cs := #[.int .i64 a0, .string a1, .int .i64 0, .int .i64 0, .slice none 0 0]) ?_ 2 _ rfl; (with_reducible repeat (first | refine blk_drewN ?_ _ | refine blk_drew ?_ | refine blk_alloc ?_ _)); refine blk_put (cs := #[.int .i64 a0, .string (⟨#[]⟩ : ByteArray), .int .i64 0, .int .i64 0, .slice none 0 0]) ?_ 1 _ rfl; (with_reducible repeat (first | refine blk_drewN ?_ _ | refine blk_drew ?_ | refine blk_alloc ?_ _)); refine blk_put (cs := #[.int .i64 0, .string (⟨#[]⟩ : ByteArray), .int .i64 0, .int .i64 0, .slice none 0 0]) ?_ 0 _ rfl; (with_reducible repeat (first | refine blk_drewN ?_ _ | refine blk_drew ?_ | refine blk_alloc ?_ _)); exact BK126.out) Tryz.underlying24 rfl (by kernel_rfl)) rfl ?_
  exact ⟨_, by first | rfl | (simp [errW_none, errW_some] <;> rfl) | (simp [*, errW_none, errW_some] <;> rfl), by (with_reducible repeat (first | apply Kd.V_alloc | apply Kd.V_drewN | apply Kd.V_drew)); exact Kd.V_mono (Kd.V_far (p := ⟨gb126, 4, none⟩) (Kd.V_far (p := ⟨gb126, 3, none⟩) (Kd.V_far (p := ⟨gb126, 2, none⟩) (Kd.V_far (p := ⟨gb126, 1, none⟩) (Kd.V_far (p := ⟨gb126, 0, none⟩) (Kd.V_mono HO2.out (fun k_ hk => (⟨hk, hk.2⟩ : _ ∧ k_ ≠ gb126))) (fun _ hk => hk.2) (.int .i64 a0)) (fun _ hk => hk.2) (.string a1)) (fun _ hk => hk.2) (.int .i64 0)) (fun _ hk => hk.2) (.int .i64 0)) (fun _ hk => hk.2) (.slice A2 l2.length c2)) (fun _ hk => hk.1.1), by repeat (first | (with_reducible first | exact HB.out | apply below_alloc | apply pw_below_drewN | apply below_drew1 | refine below_set ?_ GE126.out) | exact HB.out)⟩
def assessorref36_decimal.f : Nat → Int → Option (ByteArray)
  | 0, _ => none
  | k + 1, a0 => if 0 ≤ (Int.tmod a0 10) then (if (Int.tmod a0 10) ≤ (wrap64 ((Int.tmod a0 10) + 1)) then (if (wrap64 ((Int.tmod a0 10) + 1)) ≤ 10 then (if a0 < 10 then (some ((⟨#[48, 49, 50, 51, 52, 53, 54, 55, 56, 57]⟩ : ByteArray).extract ((Int.tmod a0 10) : Int).toNat ((wrap64 ((Int.tmod a0 10) + 1)) : Int).toNat)) else ((assessorref36_decimal.f k (wrap64 (Int.tdiv a0 10))).bind fun t127 => (if t127.size + ((⟨#[48, 49, 50, 51, 52, 53, 54, 55, 56, 57]⟩ : ByteArray).extract ((Int.tmod a0 10) : Int).toNat ((wrap64 ((Int.tmod a0 10) + 1)) : Int).toNat).size ≤ 9223372036854775807 then (some (t127 ++ ((⟨#[48, 49, 50, 51, 52, 53, 54, 55, 56, 57]⟩ : ByteArray).extract ((Int.tmod a0 10) : Int).toNat ((wrap64 ((Int.tmod a0 10) + 1)) : Int).toNat))) else (none)))) else (none)) else (none)) else (none)
theorem assessorref36_decimal.mono_l : ∀ k, (∀ y0, LeO (assessorref36_decimal.f k y0) (assessorref36_decimal.f (k + 1) y0))
  | 0 => fun _ r h => by simp [assessorref36_decimal.f] at h
  | k + 1 => by
    have ih0 := assessorref36_decimal.mono_l k
    · intro y0
      unfold assessorref36_decimal.f
      repeat' first
      | (with_reducible exact ih0 _)
      | (with_reducible exact LeO.refl _)
      | (with_reducible exact LeO.none _)
      | (with_reducible refine LeO.ite ?_ ?_)
      | (with_reducible refine LeO.bind ?_ (fun _ => ?_))
      | exact ih0 _
      | exact LeO.none _
      | refine LeO.ite ?_ ?_
      | refine LeO.bind ?_ (fun _ => ?_)
theorem assessorref36_decimal.mono : ∀ a0 k, LeO (assessorref36_decimal.f k a0) (assessorref36_decimal.f (k + 1) a0) := by
  intro a0 k
  have ih0 := assessorref36_decimal.mono_l k
  exact ih0 a0
set_option maxHeartbeats 8000000 in
set_option maxRecDepth 100000 in
theorem assessorref36_decimal.calls (k : Nat) : ∀ (a0 : Int) (r : ByteArray) (w : World) (h : assessorref36_decimal.f k a0 = some r),
    Calls Tryz.prog 27 #[.int .i64 a0] w fun e w' => e = .returned (.string r) ∧ Drawn0 w w' := by
  induction k using Nat.strongRecOn with
  | _ k ih =>
  intro a0 r w h
  cases k with
  | zero => exact absurd h (by simp [assessorref36_decimal.f])
  | succ k =>
  simp only [assessorref36_decimal.f] at h
  have H : (if 0 ≤ (Int.tmod a0 10) then (if (Int.tmod a0 10) ≤ (wrap64 ((Int.tmod a0 10) + 1)) then (if (wrap64 ((Int.tmod a0 10) + 1)) ≤ 10 then (if a0 < 10 then (some ((⟨#[48, 49, 50, 51, 52, 53, 54, 55, 56, 57]⟩ : ByteArray).extract ((Int.tmod a0 10) : Int).toNat ((wrap64 ((Int.tmod a0 10) + 1)) : Int).toNat)) else ((assessorref36_decimal.f k (wrap64 (Int.tdiv a0 10))).bind fun t127 => (if t127.size + ((⟨#[48, 49, 50, 51, 52, 53, 54, 55, 56, 57]⟩ : ByteArray).extract ((Int.tmod a0 10) : Int).toNat ((wrap64 ((Int.tmod a0 10) + 1)) : Int).toNat).size ≤ 9223372036854775807 then (some (t127 ++ ((⟨#[48, 49, 50, 51, 52, 53, 54, 55, 56, 57]⟩ : ByteArray).extract ((Int.tmod a0 10) : Int).toNat ((wrap64 ((Int.tmod a0 10) + 1)) : Int).toNat))) else (none)))) else (none)) else (none)) else (none)) = some r := h
  clear h
  obtain ⟨ji2, hji2⟩ : ∃ j_ : Int, (Int.tmod a0 10) = j_ := ⟨_, rfl⟩
  replace H : (if 0 ≤ (ji2) then (if (ji2) ≤ (wrap64 ((ji2) + 1)) then (if (wrap64 ((ji2) + 1)) ≤ 10 then (if a0 < 10 then (some ((⟨#[48, 49, 50, 51, 52, 53, 54, 55, 56, 57]⟩ : ByteArray).extract ((ji2) : Int).toNat ((wrap64 ((ji2) + 1)) : Int).toNat)) else ((assessorref36_decimal.f k (wrap64 (Int.tdiv a0 10))).bind fun t127 => (if t127.size + ((⟨#[48, 49, 50, 51, 52, 53, 54, 55, 56, 57]⟩ : ByteArray).extract ((ji2) : Int).toNat ((wrap64 ((ji2) + 1)) : Int).toNat).size ≤ 9223372036854775807 then (some (t127 ++ ((⟨#[48, 49, 50, 51, 52, 53, 54, 55, 56, 57]⟩ : ByteArray).extract ((ji2) : Int).toNat ((wrap64 ((ji2) + 1)) : Int).toNat))) else (none)))) else (none)) else (none)) else (none)) = some r := by first | (rw [hji2] at H; exact H) | (simp only [hji2] at H ⊢; exact H)
  by_cases c3 : 0 ≤ (ji2)
  · rw [if_pos c3] at H
    have c3b0 := eq_true c3
    have c3b1 : decide (0 ≤ (ji2)) = true := decide_eq_true c3
    clear c3
    by_cases c4 : (ji2) ≤ (wrap64 ((ji2) + 1))
    · rw [if_pos c4] at H
      have c4b0 := eq_true c4
      have c4b1 : decide ((ji2) ≤ (wrap64 ((ji2) + 1))) = true := decide_eq_true c4
      by_cases c5 : (wrap64 ((ji2) + 1)) ≤ 10
      · rw [if_pos c5] at H
        have c5b0 := eq_true c5
        have c5b1 : decide ((wrap64 ((ji2) + 1)) ≤ 10) = true := decide_eq_true c5
        by_cases c6 : a0 < 10
        · rw [if_pos c6] at H
          have c6b0 : decide (a0 < 10) = true := decide_eq_true c6
          clear c6
          obtain rfl := Option.some.inj H
          go_enter Tryz.func27, Tryz.ntmps27
          go_wp2
          go_ret
          exact ⟨by first | rfl | (simp; done) | (simp only [← hji2] <;> (first | rfl | simp)) | (simp [*]; done), by repeat (first | exact Drawn0.refl _ | apply Drawn0.step)⟩
        · rw [if_neg c6] at H
          have c6b0 : decide (a0 < 10) = false := decide_eq_false c6
          clear c6
          replace H := Option.bind_eq_some_iff.mp H
          obtain ⟨t127, A70, H⟩ := H
          replace H : (if t127.size + ((⟨#[48, 49, 50, 51, 52, 53, 54, 55, 56, 57]⟩ : ByteArray).extract ((ji2) : Int).toNat ((wrap64 ((ji2) + 1)) : Int).toNat).size ≤ 9223372036854775807 then (some (t127 ++ ((⟨#[48, 49, 50, 51, 52, 53, 54, 55, 56, 57]⟩ : ByteArray).extract ((ji2) : Int).toNat ((wrap64 ((ji2) + 1)) : Int).toNat))) else (none)) = some r := H
          have A7 := Aside0.mk A70
          clear A70
          by_cases c8 : t127.size + ((⟨#[48, 49, 50, 51, 52, 53, 54, 55, 56, 57]⟩ : ByteArray).extract ((ji2) : Int).toNat ((wrap64 ((ji2) + 1)) : Int).toNat).size ≤ 9223372036854775807
          · rw [if_pos c8] at H
            have c8b0 := eq_true c8
            have c8b1 : decide (t127.size + ((⟨#[48, 49, 50, 51, 52, 53, 54, 55, 56, 57]⟩ : ByteArray).extract ((ji2) : Int).toNat ((wrap64 ((ji2) + 1)) : Int).toNat).size ≤ 9223372036854775807) = true := decide_eq_true c8
            try have c8b2 : (9223372036854775807 < t127.size + ((⟨#[48, 49, 50, 51, 52, 53, 54, 55, 56, 57]⟩ : ByteArray).extract ((ji2) : Int).toNat ((wrap64 ((ji2) + 1)) : Int).toNat).size) = False := eq_false (Nat.not_lt.2 c8)
            obtain rfl := Option.some.inj H
            go_enter Tryz.func27, Tryz.ntmps27
            go_wp2_with (first | ((with_reducible refine gate_callee (f := 27) rfl ?_); refine goesL_ (some 15) rfl rfl Tryz.func27 (by kernel_rfl) rfl #[.int .i64 (wrap64 (Int.tdiv a0 10))] rfl (by (try simp only [List.map_toArray, List.map_cons, List.map_nil]); first | done | rfl | (simp only [List.length_drop, List.length_take]; rfl)) ?_; (with_reducible refine (ih k (by omega) (wrap64 (Int.tdiv a0 10)) t127 _ A7.out).mono ?_); rintro e w' ⟨rfl, ⟨nd, rfl⟩⟩; refine ⟨_, rfl, ?_⟩))
            go_ret
            exact ⟨by first | rfl | (simp; done) | (simp only [← hji2] <;> (first | rfl | simp)) | (simp [*]; done), by repeat (first | exact Drawn0.refl _ | apply Drawn0.step)⟩
          · rw [if_neg c8] at H
            exact absurd H (by simp)
      · rw [if_neg c5] at H
        exact absurd H (by simp)
    · rw [if_neg c4] at H
      exact absurd H (by simp)
  · rw [if_neg c3] at H
    exact absurd H (by simp)
def assessorref36_Literal.j0 : Nat → Int → Bool → Option (Int × ByteArray × Int × Int × (List (S24)) × Int)
  | 0, _, _ => none
  | k + 1, x1, x20 => if x20 = true then (some (0, (⟨#[]⟩ : ByteArray), 0, 0, ([] : List (S24)), 2)) else (if x1 < 0 then ((assessorref36_decimal.f k (wrap64 (-x1))).bind fun t132 => ((assessorref36_node.f 24 t132 ([] : List (S24))).bind fun bt133 => ((assessorref36_node.f 28 (⟨#[45]⟩ : ByteArray) (([(⟨bt133.1, bt133.2.1, bt133.2.2.1, bt133.2.2.2.1, bt133.2.2.2.2⟩ : S24)] : List (S24)))).bind fun bt143 => (some (bt143.1, bt143.2.1, bt143.2.2.1, bt143.2.2.2.1, bt143.2.2.2.2, 0))))) else ((assessorref36_decimal.f k x1).bind fun t150 => ((assessorref36_node.f 24 t150 ([] : List (S24))).bind fun bt151 => (some (bt151.1, bt151.2.1, bt151.2.2.1, bt151.2.2.2.1, bt151.2.2.2.2, 0)))))
def assessorref36_Literal.f (k : Nat) (a0 : Int) (a1 : Int) : Option (Int × ByteArray × Int × Int × (List (S24)) × Int) := (assessorref11_Width.f a0).bind fun t129 => (if t129 = true then ((assessorref11_Least.f k a0).bind fun t130 => (if a1 < t130 then (assessorref36_Literal.j0 k a1 true) else ((assessorref11_Greatest.f k a0).bind fun t131 => (assessorref36_Literal.j0 k a1 (decide (a1 > t131)))))) else (assessorref36_Literal.j0 k a1 true))
theorem assessorref36_Literal.mono_l : ∀ k, (∀ y0 y1, LeO (assessorref36_Literal.j0 k y0 y1) (assessorref36_Literal.j0 (k + 1) y0 y1))
  | 0 => fun _ _ r h => by simp [assessorref36_Literal.j0] at h
  | k + 1 => by
    have ih0 := assessorref36_Literal.mono_l k
    · intro y0 y1
      unfold assessorref36_Literal.j0
      repeat' first
      | (with_reducible exact ih0 _ _)
      | (with_reducible exact assessorref11_Greatest.mono _ _)
      | (with_reducible exact assessorref11_Least.mono _ _)
      | (with_reducible exact assessorref36_decimal.mono _ _)
      | (with_reducible exact LeO.refl _)
      | (with_reducible exact LeO.none _)
      | (with_reducible refine LeO.ite ?_ ?_)
      | (with_reducible refine LeO.bind ?_ (fun _ => ?_))
      | exact ih0 _ _
      | exact assessorref11_Greatest.mono _ _
      | exact assessorref11_Least.mono _ _
      | exact assessorref36_decimal.mono _ _
      | exact LeO.none _
      | refine LeO.ite ?_ ?_
      | refine LeO.bind ?_ (fun _ => ?_)
theorem assessorref36_Literal.mono : ∀ a0 a1 k, LeO (assessorref36_Literal.f k a0 a1) (assessorref36_Literal.f (k + 1) a0 a1) := by
  intro a0 a1 k
  have ih0 := assessorref36_Literal.mono_l k
  unfold assessorref36_Literal.f
  repeat' first
      | (with_reducible exact ih0 _ _)
      | (with_reducible exact assessorref11_Greatest.mono _ _)
      | (with_reducible exact assessorref11_Least.mono _ _)
      | (with_reducible exact assessorref36_decimal.mono _ _)
      | (with_reducible exact LeO.refl _)
      | (with_reducible exact LeO.none _)
      | (with_reducible refine LeO.ite ?_ ?_)
      | (with_reducible refine LeO.bind ?_ (fun _ => ?_))
      | exact ih0 _ _
      | exact assessorref11_Greatest.mono _ _
      | exact assessorref11_Least.mono _ _
      | exact assessorref36_decimal.mono _ _
      | exact LeO.none _
      | refine LeO.ite ?_ ?_
      | refine LeO.bind ?_ (fun _ => ?_)
set_option maxHeartbeats 8000000 in
set_option maxRecDepth 100000 in
theorem assessorref36_Literal.calls (k : Nat) (a0 : Int) (a1 : Int) (r1 : Int) (r2 : ByteArray) (r3 : Int) (r4 : Int) (r5 : List (S24)) (r6 : Int) (w : World) (h : assessorref36_Literal.f k a0 a1 = some (r1, r2, r3, r4, r5, r6)) :
    Calls Tryz.prog 7 #[.int .i64 a0, .int .i64 a1] w fun e w' => ∃ v4_ : Value, e = .returned (.tuple #[.agg #[.int .i64 r1, .string r2, .int .i64 r3, .int .i64 r4, v4_], .int .i64 r6]) ∧ Kd.V k24 24 w' w.heap.size (fun k_ => (w.heap.size ≤ k_)) v4_ r5 ∧ Below w.heap.size w w' := by
  have hu24 := Tryz.underlying24
  have HB := Aside0.mk (Below.refl w.heap.size w)
  have H : ((assessorref11_Width.f a0).bind fun t129 => (if t129 = true then ((assessorref11_Least.f k a0).bind fun t130 => (if a1 < t130 then (assessorref36_Literal.j0 k a1 true) else ((assessorref11_Greatest.f k a0).bind fun t131 => (assessorref36_Literal.j0 k a1 (decide (a1 > t131)))))) else (assessorref36_Literal.j0 k a1 true))) = some (r1, r2, r3, r4, r5, r6) := h
  clear h
  have HC3 := Aside0.mk H
  clear H
  go_enter Tryz.func7, Tryz.ntmps7
  go_upto_region 1 with (first | ((with_reducible refine gate_dst (N := 4) rfl ?_); refine box_event ?hg (N := 4) ?hd (cs := #[.int .i64 0, .string (⟨#[]⟩ : ByteArray), .int .i64 0, .int .i64 0, .slice none 0 0]) (t := 24) ?hr ?_; (case hd => rfl); (case hg => rfl); (case hr => first | (go_simp; done) | (go_simp; rfl)); intro gb128 hg w4 hbox hb; have n0_ := Aside0.mk (below_step (by repeat (first | (with_reducible first | exact HB.out | apply below_alloc | apply pw_below_drewN | apply below_drew1) | exact HB.out)) hb); have n1_ := Aside0.mk (hbox); have n2_ := Aside0.mk ((by rw [hg]; exact (below_size (by repeat (first | (with_reducible first | exact HB.out | apply below_alloc | apply pw_below_drewN | apply below_drew1) | exact HB.out))) : w.heap.size ≤ gb128)); have n3_ := Aside0.mk ((by rw [hg]; exact (below_size (by repeat (first | (with_reducible first | exact HB.out | apply below_alloc | apply pw_below_drewN | apply below_drew1) | exact HB.out))) : w.heap.size ≤ gb128)); clear HB; have HB := n0_; have BK128 := n1_; have GW128 := n2_; have GE128 := n3_; clear n0_ n1_ n2_ n3_; clear hb hbox hg))
  (try simp only [Act.put, List.setIfInBounds_toArray, List.set_cons_zero, List.set_cons_succ])
  go_cut [20] (fun v20 wc => ∃ (kq : Nat) (x20_2 : Bool), v20 = .bool x20_2 ∧ Aside0 (assessorref36_Literal.j0 kq a1 x20_2 = some (r1, r2, r3, r4, r5, r6)) ∧ Aside0 (kq ≤ k) ∧ Aside0 (wc.heap[gb128]? = some (.cells #[.int .i64 0, .string (⟨#[]⟩ : ByteArray), .int .i64 0, .int .i64 0, (.slice none 0 0)] 24 (0, 0))) ∧ Aside0 (Below w.heap.size w wc))
  case first =>
    have H := HC3.out
    clear HC3
    replace H := Option.bind_eq_some_iff.mp H
    obtain ⟨t129, A50, H⟩ := H
    replace H : (if t129 = true then ((assessorref11_Least.f k a0).bind fun t130 => (if a1 < t130 then (assessorref36_Literal.j0 k a1 true) else ((assessorref11_Greatest.f k a0).bind fun t131 => (assessorref36_Literal.j0 k a1 (decide (a1 > t131)))))) else (assessorref36_Literal.j0 k a1 true)) = some (r1, r2, r3, r4, r5, r6) := H
    have A5 := Aside0.mk A50
    clear A50
    by_cases c6 : t129 = true
    · subst c6
      have H1 : ((assessorref11_Least.f k a0).bind fun t130 => (if a1 < t130 then (assessorref36_Literal.j0 k a1 true) else ((assessorref11_Greatest.f k a0).bind fun t131 => (assessorref36_Literal.j0 k a1 (decide (a1 > t131)))))) = some (r1, r2, r3, r4, r5, r6) := by rw [if_pos rfl] at H; exact H
      clear H
      have H := H1
      clear H1
      replace H := Option.bind_eq_some_iff.mp H
      obtain ⟨t130, A70, H⟩ := H
      replace H : (if a1 < t130 then (assessorref36_Literal.j0 k a1 true) else ((assessorref11_Greatest.f k a0).bind fun t131 => (assessorref36_Literal.j0 k a1 (decide (a1 > t131))))) = some (r1, r2, r3, r4, r5, r6) := H
      have A7 := Aside0.mk A70
      clear A70
      by_cases c8 : a1 < t130
      · rw [if_pos c8] at H
        have c8b0 : decide (a1 < t130) = true := decide_eq_true c8
        clear c8
        (first | rw [c8b0] | (simp only [i64_w, i32_w]; rw [c8b0]) | skip)
        have H' := Aside0.mk H
        clear H
        go_wp2_with (first | ((with_reducible refine gate_callee (f := 23) rfl ?_); refine goesL_ (some 7) rfl rfl Tryz.func23 (by kernel_rfl) rfl #[.int .i64 a0] rfl (by (try simp only [List.map_toArray, List.map_cons, List.map_nil]); first | done | rfl | (simp only [List.length_drop, List.length_take]; rfl)) ?_; (with_reducible refine (assessorref11_Width.calls a0 true _ A5.out).mono ?_); rintro e w' ⟨rfl, ⟨nd, rfl⟩⟩; refine ⟨_, rfl, ?_⟩) | (go_at_call 24; (with_reducible refine (assessorref11_Least.calls k a0 t130 _ A7.out).mono ?_); rintro e w' ⟨rfl, ⟨nd, rfl⟩⟩))
        go_meet
        case rel => exact ⟨_, (true), (by first | rfl | (simp; done) | (simp [*]; done)), H', ⟨by first | omega | exact Nat.le_refl _⟩, ⟨by (with_reducible repeat (first | refine blk_drewN ?_ _ | refine blk_drew ?_ | refine blk_alloc ?_ _)); exact BK128.out⟩, ⟨by repeat (first | (with_reducible first | exact HB.out | apply below_alloc | apply pw_below_drewN | apply below_drew1 | refine below_set ?_ GE128.out) | exact HB.out)⟩⟩
      · rw [if_neg c8] at H
        have c8b0 : decide (a1 < t130) = false := decide_eq_false c8
        clear c8
        (first | rw [c8b0] | (simp only [i64_w, i32_w]; rw [c8b0]) | skip)
        replace H := Option.bind_eq_some_iff.mp H
        obtain ⟨t131, A90, H⟩ := H
        replace H : (assessorref36_Literal.j0 k a1 (decide (a1 > t131))) = some (r1, r2, r3, r4, r5, r6) := H
        have A9 := Aside0.mk A90
        clear A90
        have H' := Aside0.mk H
        clear H
        go_wp2_with (first | ((with_reducible refine gate_callee (f := 23) rfl ?_); refine goesL_ (some 7) rfl rfl Tryz.func23 (by kernel_rfl) rfl #[.int .i64 a0] rfl (by (try simp only [List.map_toArray, List.map_cons, List.map_nil]); first | done | rfl | (simp only [List.length_drop, List.length_take]; rfl)) ?_; (with_reducible refine (assessorref11_Width.calls a0 true _ A5.out).mono ?_); rintro e w' ⟨rfl, ⟨nd, rfl⟩⟩; refine ⟨_, rfl, ?_⟩) | (go_at_call 24; (with_reducible refine (assessorref11_Least.calls k a0 t130 _ A7.out).mono ?_); rintro e w' ⟨rfl, ⟨nd, rfl⟩⟩) | (go_at_call 25; (with_reducible refine (assessorref11_Greatest.calls k a0 t131 _ A9.out).mono ?_); rintro e w' ⟨rfl, ⟨nd, rfl⟩⟩))
        go_meet
        case rel => exact ⟨_, (decide (a1 > t131)), (by first | rfl | (simp; done) | (simp [*]; done)), H', ⟨by first | omega | exact Nat.le_refl _⟩, ⟨by (with_reducible repeat (first | refine blk_drewN ?_ _ | refine blk_drew ?_ | refine blk_alloc ?_ _)); exact BK128.out⟩, ⟨by repeat (first | (with_reducible first | exact HB.out | apply below_alloc | apply pw_below_drewN | apply below_drew1 | refine below_set ?_ GE128.out) | exact HB.out)⟩⟩
    · replace c6 := Bool.eq_false_iff.mpr c6
      subst c6
      have H1 : (assessorref36_Literal.j0 k a1 true) = some (r1, r2, r3, r4, r5, r6) := by rw [if_neg (show ¬ (false = true) by decide)] at H; exact H
      clear H
      have H := H1
      clear H1
      have H' := Aside0.mk H
      clear H
      go_wp2_with (first | ((with_reducible refine gate_callee (f := 23) rfl ?_); refine goesL_ (some 7) rfl rfl Tryz.func23 (by kernel_rfl) rfl #[.int .i64 a0] rfl (by (try simp only [List.map_toArray, List.map_cons, List.map_nil]); first | done | rfl | (simp only [List.length_drop, List.length_take]; rfl)) ?_; (with_reducible refine (assessorref11_Width.calls a0 false _ A5.out).mono ?_); rintro e w' ⟨rfl, ⟨nd, rfl⟩⟩; refine ⟨_, rfl, ?_⟩))
      go_meet
      case rel => exact ⟨_, (true), (by first | rfl | (simp; done) | (simp [*]; done)), H', ⟨by first | omega | exact Nat.le_refl _⟩, ⟨by (with_reducible repeat (first | refine blk_drewN ?_ _ | refine blk_drew ?_ | refine blk_alloc ?_ _)); exact BK128.out⟩, ⟨by repeat (first | (with_reducible first | exact HB.out | apply below_alloc | apply pw_below_drewN | apply below_drew1 | refine below_set ?_ GE128.out) | exact HB.out)⟩⟩
  case rest =>
    clear HC3
    try clear c2
    try clear p2
    try clear c6
    try clear c7
    try clear c8
    try clear c8b0
    obtain ⟨kq, x20_2, rfl, HA, HJ2, BK128, HB⟩ := hcut
    cases kq with
    | zero => exact absurd HA.out (by simp [assessorref36_Literal.j0])
    | succ kj2 =>
      have H := HA.out
      clear HA
      simp only [assessorref36_Literal.j0] at H
      by_cases c10 : x20_2 = true
      · subst c10
        have H1 : (some (0, (⟨#[]⟩ : ByteArray), 0, 0, ([] : List (S24)), 2)) = some (r1, r2, r3, r4, r5, r6) := by rw [if_pos rfl] at H; exact H
        clear H
        have H := H1
        clear H1
        simp only [Option.some.injEq, Prod.mk.injEq] at H
        obtain ⟨rfl, rfl, rfl, rfl, rfl, rfl⟩ := H
        have hcz11_0 : wc.cell? ⟨gb128, 0, none⟩ = some (.int .i64 0) := (blk_cell BK128.out 0).trans rfl
        have hcz11_1 : wc.cell? ⟨gb128, 1, none⟩ = some (.string (⟨#[]⟩ : ByteArray)) := (blk_cell BK128.out 1).trans rfl
        have hcz11_2 : wc.cell? ⟨gb128, 2, none⟩ = some (.int .i64 0) := (blk_cell BK128.out 2).trans rfl
        have hcz11_3 : wc.cell? ⟨gb128, 3, none⟩ = some (.int .i64 0) := (blk_cell BK128.out 3).trans rfl
        have hcz11_4 : wc.cell? ⟨gb128, 4, none⟩ = some (.slice none 0 0) := (blk_cell BK128.out 4).trans rfl
        have hfz11_0 := blk_frozen BK128.out 0
        have hfz11_1 := blk_frozen BK128.out 1
        have hfz11_2 := blk_frozen BK128.out 2
        have hfz11_3 := blk_frozen BK128.out 3
        have hfz11_4 := blk_frozen BK128.out 4
        go_wp2
        refine bodyPost_ret (results_ct rfl _ _ gb128 24 #[.int .i64 0, .string (⟨#[]⟩ : ByteArray), .int .i64 0, .int .i64 0, .slice none 0 0] (0, 0) _ rfl (by (with_reducible repeat (first | refine blk_drewN ?_ _ | refine blk_drew ?_ | refine blk_alloc ?_ _)); refine blk_put (cs := #[.int .i64 0, .string (⟨#[]⟩ : ByteArray), .int .i64 0, .int .i64 0, .slice none 0 0]) ?_ 4 _ rfl; (with_reducible repeat (first | refine blk_drewN ?_ _ | refine blk_drew ?_ | refine blk_alloc ?_ _)); refine blk_put (cs := #[.int .i64 0, .string (⟨#[]⟩ : ByteArray), .int .i64 0, .int .i64 0, .slice none 0 0]) ?_ 3 _ rfl; (with_reducible repeat (first | refine blk_drewN ?_ _ | refine blk_drew ?_ | refine blk_alloc ?_ _)); refine blk_put (cs := #[.int .i64 0, .string (⟨#[]⟩ : ByteArray), .int .i64 0, .int .i64 0, .slice none 0 0]) ?_ 2 _ rfl; (with_reducible repeat (first | refine blk_drewN ?_ _ | refine blk_drew ?_ | refine blk_alloc ?_ _)); refine blk_put (cs := #[.int .i64 0, .string (⟨#[]⟩ : ByteArray), .int .i64 0, .int .i64 0, .slice none 0 0]) ?_ 1 _ rfl; (with_reducible repeat (first | refine blk_drewN ?_ _ | refine blk_drew ?_ | refine blk_alloc ?_ _)); refine blk_put (cs := #[.int .i64 0, .string (⟨#[]⟩ : ByteArray), .int .i64 0, .int .i64 0, .slice none 0 0]) ?_ 0 _ rfl; (with_reducible repeat (first | refine blk_drewN ?_ _ | refine blk_drew ?_ | refine blk_alloc ?_ _)); exact BK128.out) Tryz.underlying24 rfl (by kernel_rfl)) rfl ?_
        exact ⟨_, by first | rfl | (simp [errW_none, errW_some] <;> rfl) | (simp [*, errW_none, errW_some] <;> rfl), Kd.V_nil _ _ _ _ _, by repeat (first | (with_reducible first | exact HB.out | apply below_alloc | apply pw_below_drewN | apply below_drew1 | refine below_set ?_ GE128.out) | exact HB.out)⟩
      · replace c10 := Bool.eq_false_iff.mpr c10
        subst c10
        have H1 : (if a1 < 0 then ((assessorref36_decimal.f kj2 (wrap64 (-a1))).bind fun t132 => ((assessorref36_node.f 24 t132 ([] : List (S24))).bind fun bt133 => ((assessorref36_node.f 28 (⟨#[45]⟩ : ByteArray) (([(⟨bt133.1, bt133.2.1, bt133.2.2.1, bt133.2.2.2.1, bt133.2.2.2.2⟩ : S24)] : List (S24)))).bind fun bt143 => (some (bt143.1, bt143.2.1, bt143.2.2.1, bt143.2.2.2.1, bt143.2.2.2.2, 0))))) else ((assessorref36_decimal.f kj2 a1).bind fun t150 => ((assessorref36_node.f 24 t150 ([] : List (S24))).bind fun bt151 => (some (bt151.1, bt151.2.1, bt151.2.2.1, bt151.2.2.2.1, bt151.2.2.2.2, 0))))) = some (r1, r2, r3, r4, r5, r6) := by rw [if_neg (show ¬ (false = true) by decide)] at H; exact H
        clear H
        have H := H1
        clear H1
        by_cases c12 : a1 < 0
        · rw [if_pos c12] at H
          have c12b0 : decide (a1 < 0) = true := decide_eq_true c12
          clear c12
          replace H := Option.bind_eq_some_iff.mp H
          obtain ⟨t132, A130, H⟩ := H
          replace H : ((assessorref36_node.f 24 t132 ([] : List (S24))).bind fun bt133 => ((assessorref36_node.f 28 (⟨#[45]⟩ : ByteArray) (([(⟨bt133.1, bt133.2.1, bt133.2.2.1, bt133.2.2.2.1, bt133.2.2.2.2⟩ : S24)] : List (S24)))).bind fun bt143 => (some (bt143.1, bt143.2.1, bt143.2.2.1, bt143.2.2.2.1, bt143.2.2.2.2, 0)))) = some (r1, r2, r3, r4, r5, r6) := H
          have A13 := Aside0.mk A130
          clear A130
          replace H := Option.bind_eq_some_iff.mp H
          obtain ⟨⟨t133, t134, t135, t136, t137⟩, A140, H⟩ := H
          replace H : ((assessorref36_node.f 28 (⟨#[45]⟩ : ByteArray) (([(⟨t133, t134, t135, t136, t137⟩ : S24)] : List (S24)))).bind fun bt143 => (some (bt143.1, bt143.2.1, bt143.2.2.1, bt143.2.2.2.1, bt143.2.2.2.2, 0))) = some (r1, r2, r3, r4, r5, r6) := H
          have A14 := Aside0.mk A140
          clear A140
          obtain ⟨y140, hy140⟩ : ∃ y_ : List (S24), y_ = (([(⟨t133, t134, t135, t136, t137⟩ : S24)] : List (S24))) := ⟨_, rfl⟩
          replace H : ((assessorref36_node.f 28 (⟨#[45]⟩ : ByteArray) y140).bind fun bt143 => (some (bt143.1, bt143.2.1, bt143.2.2.1, bt143.2.2.2.1, bt143.2.2.2.2, 0))) = some (r1, r2, r3, r4, r5, r6) := by first | (rw [hy140]; with_reducible exact H) | (have H2_ := (Option.bind_some _ _).symm.trans H; rw [hy140]; with_reducible exact H2_) | (have H2_ := (Option.bind_some _ _).symm.trans H; with_reducible exact H2_) | with_reducible exact H | (rw [hy140]; exact H) | exact H
          have Ny140 := Aside0.mk hy140
          clear hy140
          replace H := Option.bind_eq_some_iff.mp H
          obtain ⟨⟨t143, t144, t145, t146, t147⟩, A150, H⟩ := H
          replace H : (some (t143, t144, t145, t146, t147, 0)) = some (r1, r2, r3, r4, r5, r6) := H
          have A15 := Aside0.mk A150
          clear A150
          simp only [Option.some.injEq, Prod.mk.injEq] at H
          obtain ⟨rfl, rfl, rfl, rfl, rfl, rfl⟩ := H
          go_wp2_with (first | ((with_reducible refine gate_callee (f := 27) rfl ?_); refine goesL_ (some 26) rfl rfl Tryz.func27 (by kernel_rfl) rfl #[.int .i64 (wrap64 (-a1))] rfl (by (try simp only [List.map_toArray, List.map_cons, List.map_nil]); first | done | rfl | (simp only [List.length_drop, List.length_take]; rfl)) ?_; (with_reducible refine (assessorref36_decimal.calls kj2 (wrap64 (-a1)) t132 _ A13.out).mono ?_); rintro e w' ⟨rfl, ⟨nd, rfl⟩⟩; refine ⟨_, rfl, ?_⟩; (try (rw [drewN_self wc]; generalize hq_ : World.drewN wc _ = wc; have n0_ : Aside0 (wc.heap[gb128]? = some (.cells #[.int .i64 0, .string (⟨#[]⟩ : ByteArray), .int .i64 0, .int .i64 0, .slice none 0 0] 24 (0, 0))) := ⟨by rw [← hq_]; exact (by (with_reducible repeat (first | refine blk_drewN ?_ _ | refine blk_drew ?_ | refine blk_alloc ?_ _)); exact BK128.out)⟩; have n1_ : Aside0 (Below w.heap.size w wc) := ⟨by rw [← hq_]; exact (by repeat (first | (with_reducible first | exact HB.out | apply below_alloc | apply pw_below_drewN | apply below_drew1 | refine below_set ?_ GE128.out) | exact HB.out))⟩; clear BK128 HB hq_; have BK128 := n0_; have HB := n1_; clear n0_ n1_))) | ((with_reducible refine gate_callee (f := 26) rfl ?_); refine goesL_ (some 27) rfl rfl Tryz.func26 (by kernel_rfl) rfl #[.int .i64 24, .string t132, .slice none 0 0] rfl (by (try simp only [List.map_toArray, List.map_cons, List.map_nil]); first | done | rfl | (simp only [List.length_drop, List.length_take]; rfl)) ?_; (refine (assessorref36_node.calls 24 t132 (fun k_ => False) _ _ ([] : List (S24)) t133 t134 t135 t136 t137 _ ?side1 A14.out).mono ?_); (case side1 => exact Kd.V_nil _ _ _ _ _); rintro e w16 ⟨v138, rfl, ho0, hb⟩; refine ⟨_, rfl, ?_⟩; have n0_ := Aside0.mk (Kd.V_lower (Kd.V_mono (ok' := fun k_ => (w.heap.size ≤ k_) ∧ k_ ≠ gb128) ho0 (fun k_ hk_ => ⟨Or.elim hk_ (fun hs_ => (hs_).elim) (fun hn_ => (Nat.le_trans (below_size (by repeat (first | (with_reducible first | exact HB.out | apply below_alloc | apply pw_below_drewN | apply below_drew1 | refine below_set ?_ GE128.out) | exact HB.out))) hn_)), Or.elim hk_ (fun hs_ => (hs_).elim) (fun hn_ => (Kd.freshB (g := gb128) (o := .cells #[.int .i64 0, .string (⟨#[]⟩ : ByteArray), .int .i64 0, .int .i64 0, .slice none 0 0] 24 (0, 0)) (by (with_reducible repeat (first | refine blk_drewN ?_ _ | refine blk_drew ?_ | refine blk_alloc ?_ _)); exact BK128.out) k_ hn_))⟩)) (below_size (by repeat (first | (with_reducible first | exact HB.out | apply below_alloc | apply pw_below_drewN | apply below_drew1 | refine below_set ?_ GE128.out) | exact HB.out)))); have n1_ := Aside0.mk (blk_below (g := gb128) (o := .cells #[.int .i64 0, .string (⟨#[]⟩ : ByteArray), .int .i64 0, .int .i64 0, .slice none 0 0] 24 (0, 0)) (by (with_reducible repeat (first | refine blk_drewN ?_ _ | refine blk_drew ?_ | refine blk_alloc ?_ _)); exact BK128.out) hb); have n2_ := Aside0.mk (below_step (by repeat (first | (with_reducible first | exact HB.out | apply below_alloc | apply pw_below_drewN | apply below_drew1 | refine below_set ?_ GE128.out) | exact HB.out)) hb); clear BK128; clear HB; have HO139 := n0_; have BK128 := n1_; have HB := n2_; clear n0_ n1_ n2_; (try clear hb); (try clear hb2); (try clear hk); (try clear hi); (try clear ho0); obtain ⟨Ao17, co17, eo17⟩ := Kd.V_slice HO139.out; subst eo17) | ((with_reducible refine gate_dst (N := 28) rfl ?_); refine Kd.N_lit k24 _ 24 ?hg (N' := 28) ?hd (xs := ([(⟨t133, t134, t135, t136, t137⟩ : S24)] : List (S24))) (inner := [.int .i64 t133, .string t134, .int .i64 t135, .int .i64 t136, .slice Ao17 t137.length co17]) (ok := (fun k_ => (w.heap.size ≤ k_) ∧ k_ ≠ gb128)) (okp := (fun k_ => (w.heap.size ≤ k_) ∧ k_ ≠ gb128)) ?hr ?hp (fun _ hk => hk) ((show ∀ k_, w16.heap.size ≤ k_ → (fun k_ => (w.heap.size ≤ k_) ∧ k_ ≠ gb128) k_ from fun k_ hk => ⟨(Nat.le_trans (below_size (by repeat (first | (with_reducible first | exact HB.out | apply below_alloc | apply pw_below_drewN | apply below_drew1 | refine below_set ?_ GE128.out) | exact HB.out))) hk), Kd.freshB (g := gb128) (o := .cells #[.int .i64 0, .string (⟨#[]⟩ : ByteArray), .int .i64 0, .int .i64 0, .slice none 0 0] 24 (0, 0)) (by (with_reducible repeat (first | refine blk_drewN ?_ _ | refine blk_drew ?_ | refine blk_alloc ?_ _)); exact BK128.out) k_ hk⟩) _ (Nat.le_refl _)) (Below.refl _ _) (Nat.le_refl _) (by simp) ?_; (case hd => rfl); (case hg => rfl); (case hr => first | (go_simp; done) | (go_simp; rfl)); (case hp => exact (Reps.c5 (show Kd.FK k24 _ _ (⟨t133, t134, t135, t136, t137⟩ : S24) [.int .i64 t133, .string t134, .int .i64 t135, .int .i64 t136, .slice Ao17 t137.length co17] from (k24_mkF _ _ (⟨t133, t134, t135, t136, t137⟩ : S24) (Kd.V_reads' (Kd.V_mono (ok' := (fun k_ => (w.heap.size ≤ k_) ∧ k_ ≠ gb128)) (HO139.out) (fun k_ hk => ⟨hk.1, hk.2⟩))).2.1 (Kd.V_F (Kd.V_mono (ok' := (fun k_ => (w.heap.size ≤ k_) ∧ k_ ≠ gb128)) (HO139.out) (fun k_ hk => ⟨hk.1, hk.2⟩))))) (Reps.none _ _))); intro v141 w18 ho19 hb hg_ hnew_; clear hg_ hnew_; (first | rw [← Ny140.out] at ho19 | (simp only [Int.reduceToNat] at ho19; rw [← Ny140.out] at ho19)); have n0_ := Aside0.mk (Kd.V_elder' (by (with_reducible repeat (first | apply Kd.V_alloc | apply Kd.V_drewN | apply Kd.V_drew)); exact HO139.out) (Kd.N_base ho19) hb); have n1_ := Aside0.mk (Kd.N_lower ho19 (below_size (by repeat (first | (with_reducible first | exact HB.out | apply below_alloc | apply pw_below_drewN | apply below_drew1 | refine below_set ?_ GE128.out) | exact HB.out)))); have n2_ := Aside0.mk (blk_below (g := gb128) (o := .cells #[.int .i64 0, .string (⟨#[]⟩ : ByteArray), .int .i64 0, .int .i64 0, .slice none 0 0] 24 (0, 0)) (by (with_reducible repeat (first | refine blk_drewN ?_ _ | refine blk_drew ?_ | refine blk_alloc ?_ _)); exact BK128.out) hb); have n3_ := Aside0.mk (below_step (by repeat (first | (with_reducible first | exact HB.out | apply below_alloc | apply pw_below_drewN | apply below_drew1 | refine below_set ?_ GE128.out) | exact HB.out)) hb); clear HO139; clear BK128; clear HB; have HO139 := n0_; have HO142 := n1_; have BK128 := n2_; have HB := n3_; clear n0_ n1_ n2_ n3_; clear hb ho19; obtain ⟨Ao20, co20, eo20⟩ := Kd.N_slice HO142.out; subst eo20) | ((with_reducible refine gate_callee (f := 26) rfl ?_); refine goesL_ (some 29) rfl rfl Tryz.func26 (by kernel_rfl) rfl #[.int .i64 28, .string (⟨#[45]⟩ : ByteArray), .slice Ao20 y140.length co20] rfl (by (try simp only [List.map_toArray, List.map_cons, List.map_nil]); first | done | rfl | (simp only [List.length_drop, List.length_take]; rfl)) ?_; (with_reducible refine (assessorref36_node.calls 28 (⟨#[45]⟩ : ByteArray) (fun k_ => ((w.heap.size ≤ k_) ∧ k_ ≠ gb128)) _ _ y140 t143 t144 t145 t146 t147 _ ?side1 A15.out).mono ?_); (case side1 => exact Kd.N_V (HO142.out)); rintro e w21 ⟨v148, rfl, ho0, hb⟩; refine ⟨_, rfl, ?_⟩; have n0_ := Aside0.mk (Kd.V_below (by (with_reducible repeat (first | apply Kd.V_alloc | apply Kd.V_drewN | apply Kd.V_drew)); exact HO139.out) hb); have n1_ := Aside0.mk (Kd.N_below (by (with_reducible repeat (first | apply Kd.N_alloc | apply Kd.N_drewN | apply Kd.N_drew)); exact HO142.out) hb); have n2_ := Aside0.mk (Kd.V_lower (Kd.V_mono (ok' := fun k_ => (w.heap.size ≤ k_) ∧ k_ ≠ gb128) ho0 (fun k_ hk_ => ⟨Or.elim hk_ (fun hs_ => hs_.1) (fun hn_ => (Nat.le_trans (below_size (by repeat (first | (with_reducible first | exact HB.out | apply below_alloc | apply pw_below_drewN | apply below_drew1 | refine below_set ?_ GE128.out) | exact HB.out))) hn_)), Or.elim hk_ (fun hs_ => hs_.2) (fun hn_ => (Kd.freshB (g := gb128) (o := .cells #[.int .i64 0, .string (⟨#[]⟩ : ByteArray), .int .i64 0, .int .i64 0, .slice none 0 0] 24 (0, 0)) (by (with_reducible repeat (first | refine blk_drewN ?_ _ | refine blk_drew ?_ | refine blk_alloc ?_ _)); exact BK128.out) k_ hn_))⟩)) (below_size (by repeat (first | (with_reducible first | exact HB.out | apply below_alloc | apply pw_below_drewN | apply below_drew1 | refine below_set ?_ GE128.out) | exact HB.out)))); have n3_ := Aside0.mk (blk_below (g := gb128) (o := .cells #[.int .i64 0, .string (⟨#[]⟩ : ByteArray), .int .i64 0, .int .i64 0, .slice none 0 0] 24 (0, 0)) (by (with_reducible repeat (first | refine blk_drewN ?_ _ | refine blk_drew ?_ | refine blk_alloc ?_ _)); exact BK128.out) hb); have n4_ := Aside0.mk (below_step (by repeat (first | (with_reducible first | exact HB.out | apply below_alloc | apply pw_below_drewN | apply below_drew1 | refine below_set ?_ GE128.out) | exact HB.out)) hb); clear HO139; clear HO142; clear BK128; clear HB; have HO139 := n0_; have HO142 := n1_; have HO149 := n2_; have BK128 := n3_; have HB := n4_; clear n0_ n1_ n2_ n3_ n4_; (try clear hb); (try clear hb2); (try clear hk); (try clear hi); (try clear ho0); have hcz22_0 : w21.cell? ⟨gb128, 0, none⟩ = some (.int .i64 0) := (blk_cell BK128.out 0).trans rfl; have hcz22_1 : w21.cell? ⟨gb128, 1, none⟩ = some (.string (⟨#[]⟩ : ByteArray)) := (blk_cell BK128.out 1).trans rfl; have hcz22_2 : w21.cell? ⟨gb128, 2, none⟩ = some (.int .i64 0) := (blk_cell BK128.out 2).trans rfl; have hcz22_3 : w21.cell? ⟨gb128, 3, none⟩ = some (.int .i64 0) := (blk_cell BK128.out 3).trans rfl; have hcz22_4 : w21.cell? ⟨gb128, 4, none⟩ = some (.slice none 0 0) := (blk_cell BK128.out 4).trans rfl; have hfz22_0 := blk_frozen BK128.out 0; have hfz22_1 := blk_frozen BK128.out 1; have hfz22_2 := blk_frozen BK128.out 2; have hfz22_3 := blk_frozen BK128.out 3; have hfz22_4 := blk_frozen BK128.out 4; obtain ⟨Ao23, co23, eo23⟩ := Kd.V_slice HO149.out; subst eo23))
          refine bodyPost_ret (results_ct rfl _ _ gb128 24 #[.int .i64 t143, .string t144, .int .i64 t145, .int .i64 t146, .slice Ao23 t147.length co23] (0, 0) _ rfl (by (with_reducible repeat (first | refine blk_drewN ?_ _ | refine blk_drew ?_ | refine blk_alloc ?_ _)); refine blk_put (cs := #[.int .i64 t143, .string t144, .int .i64 t145, .int .i64 t146, .slice none 0 0]) ?_ 4 _ rfl; (with_reducible repeat (first | refine blk_drewN ?_ _ | refine blk_drew ?_ | refine blk_alloc ?_ _)); refine blk_put (cs := #[.int .i64 t143, .string t144, .int .i64 t145, .int .i64 0, .slice none 0 0]) ?_ 3 _ rfl; (with_reducible repeat (first | refine blk_drewN ?_ _ | refine blk_drew ?_ | refine blk_alloc ?_ _)); refine blk_put (cs := #[.int .i64 t143, .string t144, .int .i64 0, .int .i64 0, .slice none 0 0]) ?_ 2 _ rfl; (with_reducible repeat (first | refine blk_drewN ?_ _ | refine blk_drew ?_ | refine blk_alloc ?_ _)); refine blk_put (cs := #[.int .i64 t143, .string (⟨#[]⟩ : ByteArray), .int .i64 0, .int .i64 0, .slice none 0 0]) ?_ 1 _ rfl; (with_reducible repeat (first | refine blk_drewN ?_ _ | refine blk_drew ?_ | refine blk_alloc ?_ _)); refine blk_put (cs := #[.int .i64 0, .string (⟨#[]⟩ : ByteArray), .int .i64 0, .int .i64 0, .slice none 0 0]) ?_ 0 _ rfl; (with_reducible repeat (first | refine blk_drewN ?_ _ | refine blk_drew ?_ | refine blk_alloc ?_ _)); exact BK128.out) Tryz.underlying24 rfl (by kernel_rfl)) rfl ?_
          exact ⟨_, by first | rfl | (simp [errW_none, errW_some] <;> rfl) | (simp [*, errW_none, errW_some] <;> rfl), by (with_reducible repeat (first | apply Kd.V_alloc | apply Kd.V_drewN | apply Kd.V_drew)); exact Kd.V_mono (Kd.V_far (p := ⟨gb128, 4, none⟩) (Kd.V_far (p := ⟨gb128, 3, none⟩) (Kd.V_far (p := ⟨gb128, 2, none⟩) (Kd.V_far (p := ⟨gb128, 1, none⟩) (Kd.V_far (p := ⟨gb128, 0, none⟩) (Kd.V_mono HO149.out (fun k_ hk => (⟨hk, hk.2⟩ : _ ∧ k_ ≠ gb128))) (fun _ hk => hk.2) (.int .i64 t143)) (fun _ hk => hk.2) (.string t144)) (fun _ hk => hk.2) (.int .i64 t145)) (fun _ hk => hk.2) (.int .i64 t146)) (fun _ hk => hk.2) (.slice Ao23 t147.length co23)) (fun _ hk => hk.1.1), by repeat (first | (with_reducible first | exact HB.out | apply below_alloc | apply pw_below_drewN | apply below_drew1 | refine below_set ?_ GE128.out) | exact HB.out)⟩
        · rw [if_neg c12] at H
          have c12b0 : decide (a1 < 0) = false := decide_eq_false c12
          clear c12
          replace H := Option.bind_eq_some_iff.mp H
          obtain ⟨t150, A240, H⟩ := H
          replace H : ((assessorref36_node.f 24 t150 ([] : List (S24))).bind fun bt151 => (some (bt151.1, bt151.2.1, bt151.2.2.1, bt151.2.2.2.1, bt151.2.2.2.2, 0))) = some (r1, r2, r3, r4, r5, r6) := H
          have A24 := Aside0.mk A240
          clear A240
          replace H := Option.bind_eq_some_iff.mp H
          obtain ⟨⟨t151, t152, t153, t154, t155⟩, A250, H⟩ := H
          replace H : (some (t151, t152, t153, t154, t155, 0)) = some (r1, r2, r3, r4, r5, r6) := H
          have A25 := Aside0.mk A250
          clear A250
          simp only [Option.some.injEq, Prod.mk.injEq] at H
          obtain ⟨rfl, rfl, rfl, rfl, rfl, rfl⟩ := H
          go_wp2_with (first | ((with_reducible refine gate_callee (f := 27) rfl ?_); refine goesL_ (some 31) rfl rfl Tryz.func27 (by kernel_rfl) rfl #[.int .i64 a1] rfl (by (try simp only [List.map_toArray, List.map_cons, List.map_nil]); first | done | rfl | (simp only [List.length_drop, List.length_take]; rfl)) ?_; (with_reducible refine (assessorref36_decimal.calls kj2 a1 t150 _ A24.out).mono ?_); rintro e w' ⟨rfl, ⟨nd, rfl⟩⟩; refine ⟨_, rfl, ?_⟩; (try (rw [drewN_self wc]; generalize hq_ : World.drewN wc _ = wc; have n0_ : Aside0 (wc.heap[gb128]? = some (.cells #[.int .i64 0, .string (⟨#[]⟩ : ByteArray), .int .i64 0, .int .i64 0, .slice none 0 0] 24 (0, 0))) := ⟨by rw [← hq_]; exact (by (with_reducible repeat (first | refine blk_drewN ?_ _ | refine blk_drew ?_ | refine blk_alloc ?_ _)); exact BK128.out)⟩; have n1_ : Aside0 (Below w.heap.size w wc) := ⟨by rw [← hq_]; exact (by repeat (first | (with_reducible first | exact HB.out | apply below_alloc | apply pw_below_drewN | apply below_drew1 | refine below_set ?_ GE128.out) | exact HB.out))⟩; clear BK128 HB hq_; have BK128 := n0_; have HB := n1_; clear n0_ n1_))) | ((with_reducible refine gate_callee (f := 26) rfl ?_); refine goesL_ (some 32) rfl rfl Tryz.func26 (by kernel_rfl) rfl #[.int .i64 24, .string t150, .slice none 0 0] rfl (by (try simp only [List.map_toArray, List.map_cons, List.map_nil]); first | done | rfl | (simp only [List.length_drop, List.length_take]; rfl)) ?_; (refine (assessorref36_node.calls 24 t150 (fun k_ => False) _ _ ([] : List (S24)) t151 t152 t153 t154 t155 _ ?side1 A25.out).mono ?_); (case side1 => exact Kd.V_nil _ _ _ _ _); rintro e w26 ⟨v156, rfl, ho0, hb⟩; refine ⟨_, rfl, ?_⟩; have n0_ := Aside0.mk (Kd.V_lower (Kd.V_mono (ok' := fun k_ => (w.heap.size ≤ k_) ∧ k_ ≠ gb128) ho0 (fun k_ hk_ => ⟨Or.elim hk_ (fun hs_ => (hs_).elim) (fun hn_ => (Nat.le_trans (below_size (by repeat (first | (with_reducible first | exact HB.out | apply below_alloc | apply pw_below_drewN | apply below_drew1 | refine below_set ?_ GE128.out) | exact HB.out))) hn_)), Or.elim hk_ (fun hs_ => (hs_).elim) (fun hn_ => (Kd.freshB (g := gb128) (o := .cells #[.int .i64 0, .string (⟨#[]⟩ : ByteArray), .int .i64 0, .int .i64 0, .slice none 0 0] 24 (0, 0)) (by (with_reducible repeat (first | refine blk_drewN ?_ _ | refine blk_drew ?_ | refine blk_alloc ?_ _)); exact BK128.out) k_ hn_))⟩)) (below_size (by repeat (first | (with_reducible first | exact HB.out | apply below_alloc | apply pw_below_drewN | apply below_drew1 | refine below_set ?_ GE128.out) | exact HB.out)))); have n1_ := Aside0.mk (blk_below (g := gb128) (o := .cells #[.int .i64 0, .string (⟨#[]⟩ : ByteArray), .int .i64 0, .int .i64 0, .slice none 0 0] 24 (0, 0)) (by (with_reducible repeat (first | refine blk_drewN ?_ _ | refine blk_drew ?_ | refine blk_alloc ?_ _)); exact BK128.out) hb); have n2_ := Aside0.mk (below_step (by repeat (first | (with_reducible first | exact HB.out | apply below_alloc | apply pw_below_drewN | apply below_drew1 | refine below_set ?_ GE128.out) | exact HB.out)) hb); clear BK128; clear HB; have HO157 := n0_; have BK128 := n1_; have HB := n2_; clear n0_ n1_ n2_; (try clear hb); (try clear hb2); (try clear hk); (try clear hi); (try clear ho0); have hcz27_0 : w26.cell? ⟨gb128, 0, none⟩ = some (.int .i64 0) := (blk_cell BK128.out 0).trans rfl; have hcz27_1 : w26.cell? ⟨gb128, 1, none⟩ = some (.string (⟨#[]⟩ : ByteArray)) := (blk_cell BK128.out 1).trans rfl; have hcz27_2 : w26.cell? ⟨gb128, 2, none⟩ = some (.int .i64 0) := (blk_cell BK128.out 2).trans rfl; have hcz27_3 : w26.cell? ⟨gb128, 3, none⟩ = some (.int .i64 0) := (blk_cell BK128.out 3).trans rfl; have hcz27_4 : w26.cell? ⟨gb128, 4, none⟩ = some (.slice none 0 0) := (blk_cell BK128.out 4).trans rfl; have hfz27_0 := blk_frozen BK128.out 0; have hfz27_1 := blk_frozen BK128.out 1; have hfz27_2 := blk_frozen BK128.out 2; have hfz27_3 := blk_frozen BK128.out 3; have hfz27_4 := blk_frozen BK128.out 4; obtain ⟨Ao28, co28, eo28⟩ := Kd.V_slice HO157.out; subst eo28))
          refine bodyPost_ret (results_ct rfl _ _ gb128 24 #[.int .i64 t151, .string t152, .int .i64 t153, .int .i64 t154, .slice Ao28 t155.length co28] (0, 0) _ rfl (by (with_reducible repeat (first | refine blk_drewN ?_ _ | refine blk_drew ?_ | refine blk_alloc ?_ _)); refine blk_put (cs := #[.int .i64 t151, .string t152, .int .i64 t153, .int .i64 t154, .slice none 0 0]) ?_ 4 _ rfl; (with_reducible repeat (first | refine blk_drewN ?_ _ | refine blk_drew ?_ | refine blk_alloc ?_ _)); refine blk_put (cs := #[.int .i64 t151, .string t152, .int .i64 t153, .int .i64 0, .slice none 0 0]) ?_ 3 _ rfl; (with_reducible repeat (first | refine blk_drewN ?_ _ | refine blk_drew ?_ | refine blk_alloc ?_ _)); refine blk_put (cs := #[.int .i64 t151, .string t152, .int .i64 0, .int .i64 0, .slice none 0 0]) ?_ 2 _ rfl; (with_reducible repeat (first | refine blk_drewN ?_ _ | refine blk_drew ?_ | refine blk_alloc ?_ _)); refine blk_put (cs := #[.int .i64 t151, .string (⟨#[]⟩ : ByteArray), .int .i64 0, .int .i64 0, .slice none 0 0]) ?_ 1 _ rfl; (with_reducible repeat (first | refine blk_drewN ?_ _ | refine blk_drew ?_ | refine blk_alloc ?_ _)); refine blk_put (cs := #[.int .i64 0, .string (⟨#[]⟩ : ByteArray), .int .i64 0, .int .i64 0, .slice none 0 0]) ?_ 0 _ rfl; (with_reducible repeat (first | refine blk_drewN ?_ _ | refine blk_drew ?_ | refine blk_alloc ?_ _)); exact BK128.out) Tryz.underlying24 rfl (by kernel_rfl)) rfl ?_
          exact ⟨_, by first | rfl | (simp [errW_none, errW_some] <;> rfl) | (simp [*, errW_none, errW_some] <;> rfl), by (with_reducible repeat (first | apply Kd.V_alloc | apply Kd.V_drewN | apply Kd.V_drew)); exact Kd.V_mono (Kd.V_far (p := ⟨gb128, 4, none⟩) (Kd.V_far (p := ⟨gb128, 3, none⟩) (Kd.V_far (p := ⟨gb128, 2, none⟩) (Kd.V_far (p := ⟨gb128, 1, none⟩) (Kd.V_far (p := ⟨gb128, 0, none⟩) (Kd.V_mono HO157.out (fun k_ hk => (⟨hk, hk.2⟩ : _ ∧ k_ ≠ gb128))) (fun _ hk => hk.2) (.int .i64 t151)) (fun _ hk => hk.2) (.string t152)) (fun _ hk => hk.2) (.int .i64 t153)) (fun _ hk => hk.2) (.int .i64 t154)) (fun _ hk => hk.2) (.slice Ao28 t155.length co28)) (fun _ hk => hk.1.1), by repeat (first | (with_reducible first | exact HB.out | apply below_alloc | apply pw_below_drewN | apply below_drew1 | refine below_set ?_ GE128.out) | exact HB.out)⟩
def assessorref03_IsExpression.f (a0 : Int) : Option (Bool) := if a0 ≥ 20 then (some (decide (a0 ≤ 29))) else (some false)
def assessorref02_letter.f (a0 : Int) : Option (Bool) := if a0 ≥ 97 then (some (decide (a0 ≤ 122))) else (some false)
def assessorref02_Has.l0 : Nat → List ByteArray → ByteArray → Int → Option (Bool)
  | 0, _, _, _ => none
  | k + 1, x0, x1, x5 => if x5 < (x0.length : Int) then (if 0 ≤ x5 then (if (rdOf ByteArray.empty x0 x5).toList = x1.toList then (some true) else (assessorref02_Has.l0 k x0 x1 (wrap64 (x5 + 1)))) else (none)) else (some false)
def assessorref02_Has.f (k : Nat) (l0 : List ByteArray) (a1 : ByteArray) : Option (Bool) := assessorref02_Has.l0 k l0 a1 0
theorem assessorref02_Has.mono_l : ∀ k, (∀ y0 y1 y2, LeO (assessorref02_Has.l0 k y0 y1 y2) (assessorref02_Has.l0 (k + 1) y0 y1 y2))
  | 0 => fun _ _ _ r h => by simp [assessorref02_Has.l0] at h
  | k + 1 => by
    have ih0 := assessorref02_Has.mono_l k
    · intro y0 y1 y2
      unfold assessorref02_Has.l0
      repeat' first
      | (with_reducible exact ih0 _ _ _)
      | (with_reducible exact LeO.refl _)
      | (with_reducible exact LeO.none _)
      | (with_reducible refine LeO.ite ?_ ?_)
      | (with_reducible refine LeO.bind ?_ (fun _ => ?_))
      | exact ih0 _ _ _
      | exact LeO.none _
      | refine LeO.ite ?_ ?_
      | refine LeO.bind ?_ (fun _ => ?_)
theorem assessorref02_Has.mono : ∀ a0 a1 k, LeO (assessorref02_Has.f k a0 a1) (assessorref02_Has.f (k + 1) a0 a1) := by
  intro a0 a1 k
  have ih0 := assessorref02_Has.mono_l k
  unfold assessorref02_Has.f
  repeat' first
      | (with_reducible exact ih0 _ _ _)
      | (with_reducible exact LeO.refl _)
      | (with_reducible exact LeO.none _)
      | (with_reducible refine LeO.ite ?_ ?_)
      | (with_reducible refine LeO.bind ?_ (fun _ => ?_))
      | exact ih0 _ _ _
      | exact LeO.none _
      | refine LeO.ite ?_ ?_
      | refine LeO.bind ?_ (fun _ => ?_)
def assessorref02_Keyword.f (k : Nat) (a0 : ByteArray) : Option (Bool) := (assessorref02_Has.f k (([(⟨#[114, 101, 99, 111, 114, 100]⟩ : ByteArray), (⟨#[112, 114, 111, 99]⟩ : ByteArray), (⟨#[118, 97, 114]⟩ : ByteArray), (⟨#[105, 102]⟩ : ByteArray), (⟨#[101, 108, 115, 101]⟩ : ByteArray), (⟨#[119, 104, 105, 108, 101]⟩ : ByteArray), (⟨#[102, 111, 114]⟩ : ByteArray), (⟨#[116, 111]⟩ : ByteArray), (⟨#[114, 101, 116, 117, 114, 110]⟩ : ByteArray), (⟨#[97, 115, 115, 101, 114, 116]⟩ : ByteArray), (⟨#[97, 110, 100]⟩ : ByteArray), (⟨#[111, 114]⟩ : ByteArray), (⟨#[110, 111, 116]⟩ : ByteArray), (⟨#[116, 114, 117, 101]⟩ : ByteArray), (⟨#[102, 97, 108, 115, 101]⟩ : ByteArray), (⟨#[105, 110, 116]⟩ : ByteArray), (⟨#[98, 111, 111, 108]⟩ : ByteArray), (⟨#[108, 101, 110]⟩ : ByteArray)] : List ByteArray)) a0).bind fun t162 => (some t162)
theorem assessorref02_Keyword.mono : ∀ a0 k, LeO (assessorref02_Keyword.f k a0) (assessorref02_Keyword.f (k + 1) a0) := by
  intro a0 k
  unfold assessorref02_Keyword.f
  repeat' first
      | (with_reducible exact assessorref02_Has.mono _ _ _)
      | (with_reducible exact LeO.refl _)
      | (with_reducible exact LeO.none _)
      | (with_reducible refine LeO.ite ?_ ?_)
      | (with_reducible refine LeO.bind ?_ (fun _ => ?_))
      | exact assessorref02_Has.mono _ _ _
      | exact LeO.none _
      | refine LeO.ite ?_ ?_
      | refine LeO.bind ?_ (fun _ => ?_)
def assessorref02_digit.f (a0 : Int) : Option (Bool) := if a0 ≥ 48 then (some (decide (a0 ≤ 57))) else (some false)
set_option maxHeartbeats 8000000 in
set_option maxRecDepth 100000 in
theorem assessorref02_digit.calls (a0 : Int) (r : Bool) (w : World) (h : assessorref02_digit.f a0 = some r) :
    Calls Tryz.prog 64 #[.int .u8 a0] w fun e w' => e = .returned (.bool r) ∧ Drawn0 w w' := by
  have H : (if a0 ≥ 48 then (some (decide (a0 ≤ 57))) else (some false)) = some r := h
  clear h
  by_cases c2 : a0 ≥ 48
  · rw [if_pos c2] at H
    have c2b0 : decide (48 ≤ a0) = true := decide_eq_true c2
    clear c2
    obtain rfl := Option.some.inj H
    go_enter Tryz.func64, Tryz.ntmps64
    go_wp2
    go_ret
    exact ⟨by first | rfl | (simp; done) | (simp [*]; done), by repeat (first | exact Drawn0.refl _ | apply Drawn0.step)⟩
  · rw [if_neg c2] at H
    have c2b0 : decide (48 ≤ a0) = false := decide_eq_false c2
    clear c2
    obtain rfl := Option.some.inj H
    go_enter Tryz.func64, Tryz.ntmps64
    go_wp2
    go_ret
    exact ⟨by first | rfl | (simp; done) | (simp [*]; done), by repeat (first | exact Drawn0.refl _ | apply Drawn0.step)⟩
end Go.Proofs.YtdnclnacneakbaaGreatDoor.PSmall
end
section
namespace Go.Proofs.YtdnclnacneakbaaGreatDoor.PSmall
open Go.RowKit Go.Proofs.YtdnclnacneakbaaGreatDoorW.PrintWords Go.Proofs.YtdnclnacneakbaaGreatDoorW.PrintLast Go.Proofs.YtdnclnacneakbaaGreatDoorW.PrintMore
attribute [local go_sem] max2_int min2_int max_two min_two max_three min_three max_four min_four
set_option linter.unusedVariables false
set_option linter.unusedSimpArgs false
def assessorref02_symbol.j0 : Nat → ByteArray → Int → Bool → Option (Int)
  | 0, _, _, _ => none
  | k + 1, x0, x1, x18 => if x18 = true then (some 2) else (if 0 ≤ x1 then (if x1 ≤ (wrap64 (x1 + 1)) then (if (wrap64 (x1 + 1)) ≤ (x0.size : Int) then ((assessorref02_Has.f k (([(⟨#[60]⟩ : ByteArray), (⟨#[62]⟩ : ByteArray), (⟨#[61]⟩ : ByteArray), (⟨#[43]⟩ : ByteArray), (⟨#[45]⟩ : ByteArray), (⟨#[42]⟩ : ByteArray), (⟨#[47]⟩ : ByteArray), (⟨#[37]⟩ : ByteArray), (⟨#[40]⟩ : ByteArray), (⟨#[41]⟩ : ByteArray), (⟨#[123]⟩ : ByteArray), (⟨#[125]⟩ : ByteArray), (⟨#[91]⟩ : ByteArray), (⟨#[93]⟩ : ByteArray), (⟨#[44]⟩ : ByteArray), (⟨#[59]⟩ : ByteArray), (⟨#[58]⟩ : ByteArray), (⟨#[46]⟩ : ByteArray)] : List ByteArray)) (x0.extract (x1 : Int).toNat ((wrap64 (x1 + 1)) : Int).toNat)).bind fun t170 => (if t170 = true then (some 1) else (some 0))) else (none)) else (none)) else (none))
def assessorref02_symbol.f (k : Nat) (a0 : ByteArray) (a1 : Int) : Option (Int) := if (wrap64 (a1 + 2)) ≤ (a0.size : Int) then (if 0 ≤ a1 then (if a1 ≤ (wrap64 (a1 + 2)) then ((assessorref02_Has.f k (([(⟨#[61, 61]⟩ : ByteArray), (⟨#[33, 61]⟩ : ByteArray), (⟨#[60, 61]⟩ : ByteArray), (⟨#[62, 61]⟩ : ByteArray)] : List ByteArray)) (a0.extract (a1 : Int).toNat ((wrap64 (a1 + 2)) : Int).toNat)).bind fun t166 => (assessorref02_symbol.j0 k a0 a1 t166)) else (none)) else (none)) else (assessorref02_symbol.j0 k a0 a1 false)
theorem assessorref02_symbol.mono_l : ∀ k, (∀ y0 y1 y2, LeO (assessorref02_symbol.j0 k y0 y1 y2) (assessorref02_symbol.j0 (k + 1) y0 y1 y2))
  | 0 => fun _ _ _ r h => by simp [assessorref02_symbol.j0] at h
  | k + 1 => by
    have ih0 := assessorref02_symbol.mono_l k
    · intro y0 y1 y2
      unfold assessorref02_symbol.j0
      repeat' first
      | (with_reducible exact ih0 _ _ _)
      | (with_reducible exact assessorref02_Has.mono _ _ _)
      | (with_reducible exact LeO.refl _)
      | (with_reducible exact LeO.none _)
      | (with_reducible refine LeO.ite ?_ ?_)
      | (with_reducible refine LeO.bind ?_ (fun _ => ?_))
      | exact ih0 _ _ _
      | exact assessorref02_Has.mono _ _ _
      | exact LeO.none _
      | refine LeO.ite ?_ ?_
      | refine LeO.bind ?_ (fun _ => ?_)
theorem assessorref02_symbol.mono : ∀ a0 a1 k, LeO (assessorref02_symbol.f k a0 a1) (assessorref02_symbol.f (k + 1) a0 a1) := by
  intro a0 a1 k
  have ih0 := assessorref02_symbol.mono_l k
  unfold assessorref02_symbol.f
  repeat' first
      | (with_reducible exact ih0 _ _ _)
      | (with_reducible exact assessorref02_Has.mono _ _ _)
      | (with_reducible exact LeO.refl _)
      | (with_reducible exact LeO.none _)
      | (with_reducible refine LeO.ite ?_ ?_)
      | (with_reducible refine LeO.bind ?_ (fun _ => ?_))
      | exact ih0 _ _ _
      | exact assessorref02_Has.mono _ _ _
      | exact LeO.none _
      | refine LeO.ite ?_ ?_
      | refine LeO.bind ?_ (fun _ => ?_)
def assessorref02_blank.f (a0 : Int) : Option (Bool) := if a0 = 9 then (some true) else (if a0 = 10 then (some true) else (if a0 = 13 then (some true) else (some (a0 == 32))))
def assessorref02_begins.f (k : Nat) (a0 : ByteArray) (a1 : Int) : Option (Bool) := if 0 ≤ a1 then (if a1 < (a0.size : Int) then ((assessorref02_letter.f (bt a0 a1)).bind fun t171 => (if t171 = true then (some true) else ((assessorref02_digit.f (bt a0 a1)).bind fun t172 => (if t172 = true then (some true) else ((assessorref02_symbol.f k a0 a1).bind fun t173 => (some (decide (t173 > 0)))))))) else (none)) else (none)
theorem assessorref02_begins.mono : ∀ a0 a1 k, LeO (assessorref02_begins.f k a0 a1) (assessorref02_begins.f (k + 1) a0 a1) := by
  intro a0 a1 k
  unfold assessorref02_begins.f
  repeat' first
      | (with_reducible exact assessorref02_symbol.mono _ _ _)
      | (with_reducible exact LeO.refl _)
      | (with_reducible exact LeO.none _)
      | (with_reducible refine LeO.ite ?_ ?_)
      | (with_reducible refine LeO.bind ?_ (fun _ => ?_))
      | exact assessorref02_symbol.mono _ _ _
      | exact LeO.none _
      | refine LeO.ite ?_ ?_
      | refine LeO.bind ?_ (fun _ => ?_)
end Go.Proofs.YtdnclnacneakbaaGreatDoor.PSmall
end
section
namespace Go.Proofs.YtdnclnacneakbaaGreatDoor.PSmall
open Go.RowKit Go.Proofs.YtdnclnacneakbaaGreatDoorW.PrintWords Go.Proofs.YtdnclnacneakbaaGreatDoorW.PrintLast Go.Proofs.YtdnclnacneakbaaGreatDoorW.PrintMore
attribute [local go_sem] max2_int min2_int max_two min_two max_three min_three max_four min_four
set_option linter.unusedVariables false
set_option linter.unusedSimpArgs false
mutual
def assessorref02_token.l0 : Nat → ByteArray → Int → Int → Option (Int × Int)
  | 0, _, _, _ => none
  | k + 1, x0, x1, x6 => if x6 < (x0.size : Int) then (if 0 ≤ x6 then ((assessorref02_letter.f (bt x0 x6)).bind fun t175 => (if t175 = true then (assessorref02_token.l0 k x0 x1 (wrap64 (x6 + 1))) else ((assessorref02_digit.f (bt x0 x6)).bind fun t176 => (if t176 = true then (assessorref02_token.l0 k x0 x1 (wrap64 (x6 + 1))) else (if (bt x0 x6) = 95 then (assessorref02_token.l0 k x0 x1 (wrap64 (x6 + 1))) else (if 0 ≤ x1 then (if x1 ≤ x6 then (if x6 ≤ (x0.size : Int) then ((assessorref02_Keyword.f k (x0.extract (x1 : Int).toNat (x6 : Int).toNat)).bind fun t177 => (if t177 = true then (some (1, x6)) else (some (0, x6)))) else (none)) else (none)) else (none))))))) else (none)) else (if 0 ≤ x1 then (if x1 ≤ x6 then (if x6 ≤ (x0.size : Int) then ((assessorref02_Keyword.f k (x0.extract (x1 : Int).toNat (x6 : Int).toNat)).bind fun t178 => (if t178 = true then (some (1, x6)) else (some (0, x6)))) else (none)) else (none)) else (none))
def assessorref02_token.l1 : Nat → ByteArray → Int → Option (Int × Int)
  | 0, _, _ => none
  | k + 1, x0, x6 => if x6 < (x0.size : Int) then (if 0 ≤ x6 then ((assessorref02_digit.f (bt x0 x6)).bind fun t180 => (if t180 = true then (assessorref02_token.l1 k x0 (wrap64 (x6 + 1))) else (some (2, x6)))) else (none)) else (some (2, x6))
def assessorref02_token.l2 : Nat → ByteArray → Int → Option (Int × Int)
  | 0, _, _ => none
  | k + 1, x0, x6 => if x6 < (x0.size : Int) then (if 0 ≤ x6 then ((assessorref02_blank.f (bt x0 x6)).bind fun t183 => (if t183 = true then (some (4, x6)) else (if (bt x0 x6) = 35 then (some (4, x6)) else ((assessorref02_begins.f k x0 x6).bind fun t184 => (if t184 = true then (some (4, x6)) else (assessorref02_token.l2 k x0 (wrap64 (x6 + 1)))))))) else (none)) else (some (4, x6))
end
def assessorref02_token.f (k : Nat) (a0 : ByteArray) (a1 : Int) : Option (Int × Int) := if 0 ≤ a1 then (if a1 < (a0.size : Int) then ((assessorref02_letter.f (bt a0 a1)).bind fun t174 => (if t174 = true then (assessorref02_token.l0 k a0 a1 a1) else ((assessorref02_digit.f (bt a0 a1)).bind fun t179 => (if t179 = true then (assessorref02_token.l1 k a0 a1) else ((assessorref02_symbol.f k a0 a1).bind fun t181 => (if t181 > 0 then ((assessorref02_symbol.f k a0 a1).bind fun t182 => (some (3, wrap64 (a1 + t182)))) else (assessorref02_token.l2 k a0 a1))))))) else (none)) else (none)
theorem assessorref02_token.mono_l : ∀ k, (∀ y0 y1 y2, LeO (assessorref02_token.l0 k y0 y1 y2) (assessorref02_token.l0 (k + 1) y0 y1 y2)) ∧ (∀ y0 y1, LeO (assessorref02_token.l1 k y0 y1) (assessorref02_token.l1 (k + 1) y0 y1)) ∧ (∀ y0 y1, LeO (assessorref02_token.l2 k y0 y1) (assessorref02_token.l2 (k + 1) y0 y1))
  | 0 => ⟨fun _ _ _ r h => by simp [assessorref02_token.l0] at h, fun _ _ r h => by simp [assessorref02_token.l1] at h, fun _ _ r h => by simp [assessorref02_token.l2] at h⟩
  | k + 1 => by
    obtain ⟨ih0, ih1, ih2⟩ := assessorref02_token.mono_l k
    refine ⟨?_, ?_, ?_⟩
    · intro y0 y1 y2
      unfold assessorref02_token.l0
      repeat' first
      | (with_reducible exact ih0 _ _ _)
      | (with_reducible exact ih1 _ _)
      | (with_reducible exact ih2 _ _)
      | (with_reducible exact assessorref02_Keyword.mono _ _)
      | (with_reducible exact assessorref02_begins.mono _ _ _)
      | (with_reducible exact assessorref02_symbol.mono _ _ _)
      | (with_reducible exact LeO.refl _)
      | (with_reducible exact LeO.none _)
      | (with_reducible refine LeO.ite ?_ ?_)
      | (with_reducible refine LeO.bind ?_ (fun _ => ?_))
      | exact ih0 _ _ _
      | exact ih1 _ _
      | exact ih2 _ _
      | exact assessorref02_Keyword.mono _ _
      | exact assessorref02_begins.mono _ _ _
      | exact assessorref02_symbol.mono _ _ _
      | exact LeO.none _
      | refine LeO.ite ?_ ?_
      | refine LeO.bind ?_ (fun _ => ?_)
    · intro y0 y1
      unfold assessorref02_token.l1
      repeat' first
      | (with_reducible exact ih0 _ _ _)
      | (with_reducible exact ih1 _ _)
      | (with_reducible exact ih2 _ _)
      | (with_reducible exact assessorref02_Keyword.mono _ _)
      | (with_reducible exact assessorref02_begins.mono _ _ _)
      | (with_reducible exact assessorref02_symbol.mono _ _ _)
      | (with_reducible exact LeO.refl _)
      | (with_reducible exact LeO.none _)
      | (with_reducible refine LeO.ite ?_ ?_)
      | (with_reducible refine LeO.bind ?_ (fun _ => ?_))
      | exact ih0 _ _ _
      | exact ih1 _ _
      | exact ih2 _ _
      | exact assessorref02_Keyword.mono _ _
      | exact assessorref02_begins.mono _ _ _
      | exact assessorref02_symbol.mono _ _ _
      | exact LeO.none _
      | refine LeO.ite ?_ ?_
      | refine LeO.bind ?_ (fun _ => ?_)
    · intro y0 y1
      unfold assessorref02_token.l2
      repeat' first
      | (with_reducible exact ih0 _ _ _)
      | (with_reducible exact ih1 _ _)
      | (with_reducible exact ih2 _ _)
      | (with_reducible exact assessorref02_Keyword.mono _ _)
      | (with_reducible exact assessorref02_begins.mono _ _ _)
      | (with_reducible exact assessorref02_symbol.mono _ _ _)
      | (with_reducible exact LeO.refl _)
      | (with_reducible exact LeO.none _)
      | (with_reducible refine LeO.ite ?_ ?_)
      | (with_reducible refine LeO.bind ?_ (fun _ => ?_))
      | exact ih0 _ _ _
      | exact ih1 _ _
      | exact ih2 _ _
      | exact assessorref02_Keyword.mono _ _
      | exact assessorref02_begins.mono _ _ _
      | exact assessorref02_symbol.mono _ _ _
      | exact LeO.none _
      | refine LeO.ite ?_ ?_
      | refine LeO.bind ?_ (fun _ => ?_)
theorem assessorref02_token.mono : ∀ a0 a1 k, LeO (assessorref02_token.f k a0 a1) (assessorref02_token.f (k + 1) a0 a1) := by
  intro a0 a1 k
  obtain ⟨ih0, ih1, ih2⟩ := assessorref02_token.mono_l k
  unfold assessorref02_token.f
  repeat' first
      | (with_reducible exact ih0 _ _ _)
      | (with_reducible exact ih1 _ _)
      | (with_reducible exact ih2 _ _)
      | (with_reducible exact assessorref02_Keyword.mono _ _)
      | (with_reducible exact assessorref02_begins.mono _ _ _)
      | (with_reducible exact assessorref02_symbol.mono _ _ _)
      | (with_reducible exact LeO.refl _)
      | (with_reducible exact LeO.none _)
      | (with_reducible refine LeO.ite ?_ ?_)
      | (with_reducible refine LeO.bind ?_ (fun _ => ?_))
      | exact ih0 _ _ _
      | exact ih1 _ _
      | exact ih2 _ _
      | exact assessorref02_Keyword.mono _ _
      | exact assessorref02_begins.mono _ _ _
      | exact assessorref02_symbol.mono _ _ _
      | exact LeO.none _
      | refine LeO.ite ?_ ?_
      | refine LeO.bind ?_ (fun _ => ?_)
end Go.Proofs.YtdnclnacneakbaaGreatDoor.PSmall
end
section
namespace Go.Proofs.YtdnclnacneakbaaGreatDoor.PSmall
open Go.RowKit Go.Proofs.YtdnclnacneakbaaGreatDoorW.PrintWords Go.Proofs.YtdnclnacneakbaaGreatDoorW.PrintLast Go.Proofs.YtdnclnacneakbaaGreatDoorW.PrintMore
attribute [local go_sem] max2_int min2_int max_two min_two max_three min_three max_four min_four
set_option linter.unusedVariables false
set_option linter.unusedSimpArgs false
def assessorref02_Name.f (k : Nat) (a0 : ByteArray) : Option (Bool) := if (a0.size : Int) < 1 then (some false) else (if (a0.size : Int) > 16 then (some false) else (if 0 < (a0.size : Int) then ((assessorref02_letter.f (bt a0 0)).bind fun t185 => (if t185 = true then ((assessorref02_Keyword.f k a0).bind fun t186 => (if t186 = true then (some false) else ((assessorref02_token.f k a0 0).bind fun bt187 => (some (bt187.2 == (a0.size : Int)))))) else (some false))) else (none)))
theorem assessorref02_Name.mono : ∀ a0 k, LeO (assessorref02_Name.f k a0) (assessorref02_Name.f (k + 1) a0) := by
  intro a0 k
  unfold assessorref02_Name.f
  repeat' first
      | (with_reducible exact assessorref02_Keyword.mono _ _)
      | (with_reducible exact assessorref02_token.mono _ _ _)
      | (with_reducible exact LeO.refl _)
      | (with_reducible exact LeO.none _)
      | (with_reducible refine LeO.ite ?_ ?_)
      | (with_reducible refine LeO.bind ?_ (fun _ => ?_))
      | exact assessorref02_Keyword.mono _ _
      | exact assessorref02_token.mono _ _ _
      | exact LeO.none _
      | refine LeO.ite ?_ ?_
      | refine LeO.bind ?_ (fun _ => ?_)
mutual
def assessorref02_Number.j0 : Nat → ByteArray → Bool → Option (Int × Bool)
  | 0, _, _ => none
  | k + 1, x0, x13 => if x13 = true then (some (0, false)) else (assessorref02_Number.l0 k x0 0 0)
def assessorref02_Number.l0 : Nat → ByteArray → Int → Int → Option (Int × Bool)
  | 0, _, _, _ => none
  | k + 1, x0, x4, x5 => if x5 < (x0.size : Int) then (if 0 ≤ x5 then ((assessorref02_digit.f (bt x0 x5)).bind fun t189 => (if t189 = true then (assessorref02_Number.l0 k x0 (wrap64 ((wrap64 (10 * x4)) + (((bt x0 x5) - 48) % 256))) (wrap64 (x5 + 1))) else (some (0, false)))) else (none)) else (some (x4, true))
end
def assessorref02_Number.f (k : Nat) (a0 : ByteArray) : Option (Int × Bool) := if (a0.size : Int) < 1 then (assessorref02_Number.j0 k a0 true) else (assessorref02_Number.j0 k a0 (decide ((a0.size : Int) > 9)))
theorem assessorref02_Number.mono_l : ∀ k, (∀ y0 y1, LeO (assessorref02_Number.j0 k y0 y1) (assessorref02_Number.j0 (k + 1) y0 y1)) ∧ (∀ y0 y1 y2, LeO (assessorref02_Number.l0 k y0 y1 y2) (assessorref02_Number.l0 (k + 1) y0 y1 y2))
  | 0 => ⟨fun _ _ r h => by simp [assessorref02_Number.j0] at h, fun _ _ _ r h => by simp [assessorref02_Number.l0] at h⟩
  | k + 1 => by
    obtain ⟨ih0, ih1⟩ := assessorref02_Number.mono_l k
    refine ⟨?_, ?_⟩
    · intro y0 y1
      unfold assessorref02_Number.j0
      repeat' first
      | (with_reducible exact ih0 _ _)
      | (with_reducible exact ih1 _ _ _)
      | (with_reducible exact LeO.refl _)
      | (with_reducible exact LeO.none _)
      | (with_reducible refine LeO.ite ?_ ?_)
      | (with_reducible refine LeO.bind ?_ (fun _ => ?_))
      | exact ih0 _ _
      | exact ih1 _ _ _
      | exact LeO.none _
      | refine LeO.ite ?_ ?_
      | refine LeO.bind ?_ (fun _ => ?_)
    · intro y0 y1 y2
      unfold assessorref02_Number.l0
      repeat' first
      | (with_reducible exact ih0 _ _)
      | (with_reducible exact ih1 _ _ _)
      | (with_reducible exact LeO.refl _)
      | (with_reducible exact LeO.none _)
      | (with_reducible refine LeO.ite ?_ ?_)
      | (with_reducible refine LeO.bind ?_ (fun _ => ?_))
      | exact ih0 _ _
      | exact ih1 _ _ _
      | exact LeO.none _
      | refine LeO.ite ?_ ?_
      | refine LeO.bind ?_ (fun _ => ?_)
theorem assessorref02_Number.mono : ∀ a0 k, LeO (assessorref02_Number.f k a0) (assessorref02_Number.f (k + 1) a0) := by
  intro a0 k
  obtain ⟨ih0, ih1⟩ := assessorref02_Number.mono_l k
  unfold assessorref02_Number.f
  repeat' first
      | (with_reducible exact ih0 _ _)
      | (with_reducible exact ih1 _ _ _)
      | (with_reducible exact LeO.refl _)
      | (with_reducible exact LeO.none _)
      | (with_reducible refine LeO.ite ?_ ?_)
      | (with_reducible refine LeO.bind ?_ (fun _ => ?_))
      | exact ih0 _ _
      | exact ih1 _ _ _
      | exact LeO.none _
      | refine LeO.ite ?_ ?_
      | refine LeO.bind ?_ (fun _ => ?_)
set_option maxHeartbeats 8000000 in
set_option maxRecDepth 100000 in
theorem assessorref02_Number.calls (k : Nat) (a0 : ByteArray) (r1 : Int) (r2 : Bool) (w : World) (h : assessorref02_Number.f k a0 = some (r1, r2)) :
    Calls Tryz.prog 32 #[.string a0] w fun e w' => e = .returned (.tuple #[.int .i64 r1, .bool r2]) ∧ Drawn0 w w' := by
  have H : (if (a0.size : Int) < 1 then (assessorref02_Number.j0 k a0 true) else (assessorref02_Number.j0 k a0 (decide ((a0.size : Int) > 9)))) = some (r1, r2) := h
  clear h
  have HC2 := Aside0.mk H
  clear H
  go_enter Tryz.func32, Tryz.ntmps32
  go_upto_region 1 with (fail)
  go_cut [13] (fun v13 wc => ∃ (kq : Nat) (x13_1 : Bool), v13 = .bool x13_1 ∧ Aside0 (assessorref02_Number.j0 kq a0 x13_1 = some (r1, r2)) ∧ Aside0 (kq ≤ k) ∧ Drawn0 w wc)
  case first =>
    have H := HC2.out
    clear HC2
    by_cases c3 : (a0.size : Int) < 1
    · rw [if_pos c3] at H
      have c3b0 : decide ((a0.size : Int) < 1) = true := decide_eq_true c3
      have c3b1 : decide (a0.size < 1) = true := decide_eq_true (by omega)
      clear c3
      (first | rw [c3b0] | (simp only [i64_w, i32_w]; rw [c3b0]) | skip)
      have H' := Aside0.mk H
      clear H
      go_wp2
      go_meet
      case rel => exact ⟨_, (true), (by first | rfl | (simp; done) | (simp [*]; done)), H', ⟨by first | omega | exact Nat.le_refl _⟩, by repeat (first | exact Drawn0.refl _ | apply Drawn0.step)⟩
    · rw [if_neg c3] at H
      have c3b0 : decide ((a0.size : Int) < 1) = false := decide_eq_false c3
      have c3b1 : decide (a0.size < 1) = false := decide_eq_false (by omega)
      clear c3
      (first | rw [c3b0] | (simp only [i64_w, i32_w]; rw [c3b0]) | skip)
      have H' := Aside0.mk H
      clear H
      go_wp2
      go_meet
      case rel => exact ⟨_, (decide ((a0.size : Int) > 9)), (by first | rfl | (simp; done) | (simp [*]; done)), H', ⟨by first | omega | exact Nat.le_refl _⟩, by repeat (first | exact Drawn0.refl _ | apply Drawn0.step)⟩
  case rest =>
    clear HC2
    try clear p2
    try clear c3
    try clear c3b0
    try clear c3b1
    obtain ⟨kq, x13_1, rfl, HA, HJ1, ⟨mc1, rfl⟩⟩ := hcut
    cases kq with
    | zero => exact absurd HA.out (by simp [assessorref02_Number.j0])
    | succ kj1 =>
      have H := HA.out
      clear HA
      simp only [assessorref02_Number.j0] at H
      by_cases c4 : x13_1 = true
      · subst c4
        have H1 : (some (0, false)) = some (r1, r2) := by rw [if_pos rfl] at H; exact H
        clear H
        have H := H1
        clear H1
        simp only [Option.some.injEq, Prod.mk.injEq] at H
        obtain ⟨rfl, rfl⟩ := H
        go_wp2
        go_ret2
        exact ⟨by first | rfl | (simp; done) | (simp [*]; done), by repeat (first | exact Drawn0.refl _ | apply Drawn0.step)⟩
      · replace c4 := Bool.eq_false_iff.mpr c4
        subst c4
        have H1 : (assessorref02_Number.l0 kj1 a0 0 0) = some (r1, r2) := by rw [if_neg (show ¬ (false = true) by decide)] at H; exact H
        clear H
        have H := H1
        clear H1
        have H' := Aside0.mk H
        clear H
        go_wp2
        go_loopg [4, 5] kj1 (fun kq v4 v5 w' => ∃ (x4_2 : Int) (x5_2 : Int), v4 = .int .i64 x4_2 ∧ v5 = .int .i64 x5_2 ∧ Aside0 (assessorref02_Number.l0 kq a0 x4_2 x5_2 = some (r1, r2)) ∧ Aside0 (kq ≤ kj1) ∧ Drawn0 w w')
        case atStart => exact ⟨(0), (0), (by first | rfl | (simp; done) | (simp [*]; done)), (by first | rfl | (simp; done) | (simp [*]; done)), H', ⟨Nat.le_refl _⟩, by repeat (first | exact Drawn0.refl _ | apply Drawn0.step)⟩
        case round =>
          clear H'
          try clear c1
          try clear p2
          try clear c3
          try clear c3b0
          try clear c3b1
          try clear c4
          try clear p2
          obtain ⟨x4_2, x5_2, rfl, rfl, HA, HK2, ⟨m2, rfl⟩⟩ := hrel
          cases gk with
          | zero => exact absurd HA.out (by simp [assessorref02_Number.l0])
          | succ k2 =>
            have H := HA.out
            clear HA
            simp only [assessorref02_Number.l0] at H
            by_cases c5 : x5_2 < (a0.size : Int)
            · rw [if_pos c5] at H
              have c5b0 : decide (x5_2 < (a0.size : Int)) = true := decide_eq_true c5
              clear c5
              by_cases c6 : 0 ≤ x5_2
              · rw [if_pos c6] at H
                have c6b0 : decide (0 ≤ x5_2) = true := decide_eq_true c6
                clear c6
                replace H := Option.bind_eq_some_iff.mp H
                obtain ⟨t189, A80, H⟩ := H
                replace H : (if t189 = true then (assessorref02_Number.l0 k2 a0 (wrap64 ((wrap64 (10 * x4_2)) + (((bt a0 x5_2) - 48) % 256))) (wrap64 (x5_2 + 1))) else (some (0, false))) = some (r1, r2) := H
                have A8 := Aside0.mk A80
                clear A80
                by_cases c9 : t189 = true
                · subst c9
                  have H1 : (assessorref02_Number.l0 k2 a0 (wrap64 ((wrap64 (10 * x4_2)) + (((bt a0 x5_2) - 48) % 256))) (wrap64 (x5_2 + 1))) = some (r1, r2) := by rw [if_pos rfl] at H; exact H
                  clear H
                  have H := H1
                  clear H1
                  have H' := Aside0.mk H
                  clear H
                  have p7 : 0 ≤ (x5_2 : Int) := of_decide_eq_true (by first | (with_reducible assumption) | assumption)
                  have q7 : x5_2 < (a0.size : Int) := of_decide_eq_true (by first | (with_reducible assumption) | assumption)
                  have hx7 := bt_at a0 x5_2
                  replace p7 := eq_true p7
                  replace q7 := eq_true q7
                  go_wp2_with (first | ((with_reducible refine gate_callee (f := 64) rfl ?_); refine goesL_ (some 23) rfl rfl Tryz.func64 (by kernel_rfl) rfl #[.int .u8 (bt a0 x5_2)] rfl (by (try simp only [List.map_toArray, List.map_cons, List.map_nil]); first | done | rfl | (simp only [List.length_drop, List.length_take]; rfl)) ?_; (with_reducible refine (assessorref02_digit.calls (bt a0 x5_2) true _ A8.out).mono ?_); rintro e w' ⟨rfl, ⟨nd, rfl⟩⟩; refine ⟨_, rfl, ?_⟩; have p10 : 0 ≤ (x5_2 : Int) := of_decide_eq_true (by first | (with_reducible assumption) | assumption); have q10 : x5_2 < (a0.size : Int) := of_decide_eq_true (by first | (with_reducible assumption) | assumption); have hx10 := bt_at a0 x5_2; replace p10 := eq_true p10; replace q10 := eq_true q10))
                  go_roundg k2
                  case measure => have := HJ1.out; have := HK2.out; omega
                  case rel => exact ⟨(wrap64 ((wrap64 (10 * x4_2)) + (((bt a0 x5_2) - 48) % 256))), (wrap64 (x5_2 + 1)), (by first | rfl | (simp; done) | (simp [*]; done)), (by first | rfl | (simp; done) | (simp [*]; done)), H', ⟨by have := HJ1.out; have := HK2.out; omega⟩, by repeat (first | exact Drawn0.refl _ | apply Drawn0.step)⟩
                · replace c9 := Bool.eq_false_iff.mpr c9
                  subst c9
                  have H1 : (some (0, false)) = some (r1, r2) := by rw [if_neg (show ¬ (false = true) by decide)] at H; exact H
                  clear H
                  have H := H1
                  clear H1
                  simp only [Option.some.injEq, Prod.mk.injEq] at H
                  obtain ⟨rfl, rfl⟩ := H
                  have p7 : 0 ≤ (x5_2 : Int) := of_decide_eq_true (by first | (with_reducible assumption) | assumption)
                  have q7 : x5_2 < (a0.size : Int) := of_decide_eq_true (by first | (with_reducible assumption) | assumption)
                  have hx7 := bt_at a0 x5_2
                  replace p7 := eq_true p7
                  replace q7 := eq_true q7
                  go_wp2_with (first | ((with_reducible refine gate_callee (f := 64) rfl ?_); refine goesL_ (some 23) rfl rfl Tryz.func64 (by kernel_rfl) rfl #[.int .u8 (bt a0 x5_2)] rfl (by (try simp only [List.map_toArray, List.map_cons, List.map_nil]); first | done | rfl | (simp only [List.length_drop, List.length_take]; rfl)) ?_; (with_reducible refine (assessorref02_digit.calls (bt a0 x5_2) false _ A8.out).mono ?_); rintro e w' ⟨rfl, ⟨nd, rfl⟩⟩; refine ⟨_, rfl, ?_⟩))
                  go_ret2
                  exact ⟨by first | rfl | (simp; done) | (simp [*]; done), by repeat (first | exact Drawn0.refl _ | apply Drawn0.step)⟩
              · rw [if_neg c6] at H
                exact absurd H (by simp)
            · rw [if_neg c5] at H
              have c5b0 : decide (x5_2 < (a0.size : Int)) = false := decide_eq_false c5
              clear c5
              simp only [Option.some.injEq, Prod.mk.injEq] at H
              obtain ⟨rfl, rfl⟩ := H
              go_wp2
              go_ret2
              exact ⟨by first | rfl | (simp; done) | (simp [*]; done), by repeat (first | exact Drawn0.refl _ | apply Drawn0.step)⟩
def assessorref03_number.f (k : Nat) (a0 : ByteArray) : Option (Bool) := (assessorref02_Number.f k a0).bind fun bt190 => (if bt190.2 = true then (if a0.toList = ([48] : List UInt8) then (some true) else (if 0 < (a0.size : Int) then (some ((bt a0 0) != 48)) else (none))) else (some false))
theorem assessorref03_number.mono : ∀ a0 k, LeO (assessorref03_number.f k a0) (assessorref03_number.f (k + 1) a0) := by
  intro a0 k
  unfold assessorref03_number.f
  repeat' first
      | (with_reducible exact assessorref02_Number.mono _ _)
      | (with_reducible exact LeO.refl _)
      | (with_reducible exact LeO.none _)
      | (with_reducible refine LeO.ite ?_ ?_)
      | (with_reducible refine LeO.bind ?_ (fun _ => ?_))
      | exact assessorref02_Number.mono _ _
      | exact LeO.none _
      | refine LeO.ite ?_ ?_
      | refine LeO.bind ?_ (fun _ => ?_)
set_option maxHeartbeats 8000000 in
set_option maxRecDepth 100000 in
theorem assessorref03_number.calls (k : Nat) (a0 : ByteArray) (r : Bool) (w : World) (h : assessorref03_number.f k a0 = some r) :
    Calls Tryz.prog 212 #[.string a0] w fun e w' => e = .returned (.bool r) ∧ Drawn0 w w' := by
  have H : ((assessorref02_Number.f k a0).bind fun bt190 => (if bt190.2 = true then (if a0.toList = ([48] : List UInt8) then (some true) else (if 0 < (a0.size : Int) then (some ((bt a0 0) != 48)) else (none))) else (some false))) = some r := h
  clear h
  replace H := Option.bind_eq_some_iff.mp H
  obtain ⟨⟨t190, t191⟩, A20, H⟩ := H
  replace H : (if t191 = true then (if a0.toList = ([48] : List UInt8) then (some true) else (if 0 < (a0.size : Int) then (some ((bt a0 0) != 48)) else (none))) else (some false)) = some r := H
  have A2 := Aside0.mk A20
  clear A20
  by_cases c3 : t191 = true
  · subst c3
    have H1 : (if a0.toList = ([48] : List UInt8) then (some true) else (if 0 < (a0.size : Int) then (some ((bt a0 0) != 48)) else (none))) = some r := by rw [if_pos rfl] at H; exact H
    clear H
    have H := H1
    clear H1
    by_cases c4 : a0.toList = ([48] : List UInt8)
    · rw [if_pos c4] at H
      have c4b0 : (a0.toList == ([48] : List UInt8)) = true := beq_iff_eq.mpr c4
      have c4b1 : (a0.toList != ([48] : List UInt8)) = false := bne_eq_false_iff_eq.mpr c4
      clear c4
      obtain rfl := Option.some.inj H
      go_enter Tryz.func212, Tryz.ntmps212
      go_wp2_with (first | ((with_reducible refine gate_callee (f := 32) rfl ?_); refine goesL_ (some 7) rfl rfl Tryz.func32 (by kernel_rfl) rfl #[.string a0] rfl (by (try simp only [List.map_toArray, List.map_cons, List.map_nil]); first | done | rfl | (simp only [List.length_drop, List.length_take]; rfl)) ?_; (with_reducible refine (assessorref02_Number.calls k a0 t190 true _ A2.out).mono ?_); rintro e w' ⟨rfl, ⟨nd, rfl⟩⟩; refine ⟨_, rfl, ?_⟩))
      go_ret
      exact ⟨by first | rfl | (simp; done) | (simp [*]; done), by repeat (first | exact Drawn0.refl _ | apply Drawn0.step)⟩
    · rw [if_neg c4] at H
      have c4b0 : (a0.toList == ([48] : List UInt8)) = false := beq_eq_false_iff_ne.mpr c4
      have c4b1 : (a0.toList != ([48] : List UInt8)) = true := bne_iff_ne.mpr c4
      by_cases c5 : 0 < (a0.size : Int)
      · rw [if_pos c5] at H
        have c5b0 : decide (0 < (a0.size : Int)) = true := decide_eq_true c5
        have c5b1 : decide (0 < a0.size) = true := decide_eq_true (by omega)
        clear c5
        obtain rfl := Option.some.inj H
        go_enter Tryz.func212, Tryz.ntmps212
        go_wp2_with (first | ((with_reducible refine gate_callee (f := 32) rfl ?_); refine goesL_ (some 7) rfl rfl Tryz.func32 (by kernel_rfl) rfl #[.string a0] rfl (by (try simp only [List.map_toArray, List.map_cons, List.map_nil]); first | done | rfl | (simp only [List.length_drop, List.length_take]; rfl)) ?_; (with_reducible refine (assessorref02_Number.calls k a0 t190 true _ A2.out).mono ?_); rintro e w' ⟨rfl, ⟨nd, rfl⟩⟩; refine ⟨_, rfl, ?_⟩; have p6 : 0 ≤ (0 : Int) := (by omega); have q6 : 0 < a0.size := (by have : (0 : Int) < (a0.size : Int) := of_decide_eq_true (by first | (with_reducible assumption) | assumption); omega); have hx6 : ∀ h : 0 < a0.size, ((a0[0]'h).toNat : Int) = bt a0 0 := bt_at a0 0; clear p6; have qi6 : (0 < (a0.size : Int)) = True := eq_true (of_decide_eq_true (by first | (with_reducible assumption) | assumption)); replace q6 := eq_true q6))
        go_ret
        exact ⟨by first | rfl | (simp; done) | (simp [*]; done), by repeat (first | exact Drawn0.refl _ | apply Drawn0.step)⟩
      · rw [if_neg c5] at H
        exact absurd H (by simp)
  · replace c3 := Bool.eq_false_iff.mpr c3
    subst c3
    have H1 : (some false) = some r := by rw [if_neg (show ¬ (false = true) by decide)] at H; exact H
    clear H
    have H := H1
    clear H1
    obtain rfl := Option.some.inj H
    go_enter Tryz.func212, Tryz.ntmps212
    go_wp2_with (first | ((with_reducible refine gate_callee (f := 32) rfl ?_); refine goesL_ (some 7) rfl rfl Tryz.func32 (by kernel_rfl) rfl #[.string a0] rfl (by (try simp only [List.map_toArray, List.map_cons, List.map_nil]); first | done | rfl | (simp only [List.length_drop, List.length_take]; rfl)) ?_; (with_reducible refine (assessorref02_Number.calls k a0 t190 false _ A2.out).mono ?_); rintro e w' ⟨rfl, ⟨nd, rfl⟩⟩; refine ⟨_, rfl, ?_⟩))
    go_ret
    exact ⟨by first | rfl | (simp; done) | (simp [*]; done), by repeat (first | exact Drawn0.refl _ | apply Drawn0.step)⟩
end Go.Proofs.YtdnclnacneakbaaGreatDoor.PSmall
end
section
namespace Go.Proofs.YtdnclnacneakbaaGreatDoor.PSmall
open Go.RowKit Go.Proofs.YtdnclnacneakbaaGreatDoorW.PrintWords Go.Proofs.YtdnclnacneakbaaGreatDoorW.PrintLast Go.Proofs.YtdnclnacneakbaaGreatDoorW.PrintMore
attribute [local go_sem] max2_int min2_int max_two min_two max_three min_three max_four min_four
set_option linter.unusedVariables false
set_option linter.unusedSimpArgs false
mutual
def assessorref03_text.j0 : Nat → Int → Bool → Int → ByteArray → Int → Int → List (S24) → Option (Bool)
  | 0, _, _, _, _, _, _, _ => none
  | k + 1, x4, x5, x193000, x193001, x193002, x193003, x193004 => if x5 = true then ((assessorref02_Name.f k x193001).bind fun t193 => (some t193)) else (if x4 = 9 then (if x193001.toList = ([105, 110, 116] : List UInt8) then (some true) else (if x193001.toList = ([98, 111, 111, 108] : List UInt8) then (some true) else ((assessorref02_Name.f k x193001).bind fun t194 => (some t194)))) else (if x4 = 10 then (assessorref03_text.j1 k x4 (x4 == 10) x193000 x193001 x193002 x193003 x193004) else (assessorref03_text.j1 k x4 (x4 == 24) x193000 x193001 x193002 x193003 x193004)))
def assessorref03_text.j1 : Nat → Int → Bool → Int → ByteArray → Int → Int → List (S24) → Option (Bool)
  | 0, _, _, _, _, _, _, _ => none
  | k + 1, x4, x35, x193000, x193001, x193002, x193003, x193004 => if x35 = true then ((assessorref03_number.f k x193001).bind fun t195 => (some t195)) else (if x4 = 25 then (if x193001.toList = ([116, 114, 117, 101] : List UInt8) then (some true) else (some (x193001.toList == ([102, 97, 108, 115, 101] : List UInt8)))) else (if x4 = 28 then (if x193001.toList = ([45] : List UInt8) then (some true) else (some (x193001.toList == ([110, 111, 116] : List UInt8)))) else (if x4 = 29 then ((assessorref02_Has.f k (([(⟨#[111, 114]⟩ : ByteArray), (⟨#[97, 110, 100]⟩ : ByteArray), (⟨#[61, 61]⟩ : ByteArray), (⟨#[33, 61]⟩ : ByteArray), (⟨#[60]⟩ : ByteArray), (⟨#[60, 61]⟩ : ByteArray), (⟨#[62]⟩ : ByteArray), (⟨#[62, 61]⟩ : ByteArray), (⟨#[43]⟩ : ByteArray), (⟨#[45]⟩ : ByteArray), (⟨#[42]⟩ : ByteArray), (⟨#[47]⟩ : ByteArray), (⟨#[37]⟩ : ByteArray)] : List ByteArray)) x193001).bind fun t199 => (some t199)) else (some (x193001.toList == ([] : List UInt8))))))
end
def assessorref03_text.f (k : Nat) (a0_0 : Int) (a0_1 : ByteArray) (a0_2 : Int) (a0_3 : Int) (l0_4 : List (S24)) : Option (Bool) := if a0_0 = 3 then (assessorref03_text.j0 k a0_0 (a0_0 == 3) a0_0 a0_1 a0_2 a0_3 l0_4) else (if a0_0 = 4 then (assessorref03_text.j0 k a0_0 (a0_0 == 4) a0_0 a0_1 a0_2 a0_3 l0_4) else (if a0_0 = 5 then (assessorref03_text.j0 k a0_0 (a0_0 == 5) a0_0 a0_1 a0_2 a0_3 l0_4) else (if a0_0 = 7 then (assessorref03_text.j0 k a0_0 (a0_0 == 7) a0_0 a0_1 a0_2 a0_3 l0_4) else (if a0_0 = 8 then (assessorref03_text.j0 k a0_0 (a0_0 == 8) a0_0 a0_1 a0_2 a0_3 l0_4) else (if a0_0 = 12 then (assessorref03_text.j0 k a0_0 (a0_0 == 12) a0_0 a0_1 a0_2 a0_3 l0_4) else (if a0_0 = 16 then (assessorref03_text.j0 k a0_0 (a0_0 == 16) a0_0 a0_1 a0_2 a0_3 l0_4) else (if a0_0 = 19 then (assessorref03_text.j0 k a0_0 (a0_0 == 19) a0_0 a0_1 a0_2 a0_3 l0_4) else (if a0_0 = 20 then (assessorref03_text.j0 k a0_0 (a0_0 == 20) a0_0 a0_1 a0_2 a0_3 l0_4) else (if a0_0 = 22 then (assessorref03_text.j0 k a0_0 (a0_0 == 22) a0_0 a0_1 a0_2 a0_3 l0_4) else (assessorref03_text.j0 k a0_0 (a0_0 == 27) a0_0 a0_1 a0_2 a0_3 l0_4))))))))))
theorem assessorref03_text.mono_l : ∀ k, (∀ y0 y1 y2 y3 y4 y5 y6, LeO (assessorref03_text.j0 k y0 y1 y2 y3 y4 y5 y6) (assessorref03_text.j0 (k + 1) y0 y1 y2 y3 y4 y5 y6)) ∧ (∀ y0 y1 y2 y3 y4 y5 y6, LeO (assessorref03_text.j1 k y0 y1 y2 y3 y4 y5 y6) (assessorref03_text.j1 (k + 1) y0 y1 y2 y3 y4 y5 y6))
  | 0 => ⟨fun _ _ _ _ _ _ _ r h => by simp [assessorref03_text.j0] at h, fun _ _ _ _ _ _ _ r h => by simp [assessorref03_text.j1] at h⟩
  | k + 1 => by
    obtain ⟨ih0, ih1⟩ := assessorref03_text.mono_l k
    refine ⟨?_, ?_⟩
    · intro y0 y1 y2 y3 y4 y5 y6
      unfold assessorref03_text.j0
      repeat' first
      | (with_reducible exact ih0 _ _ _ _ _ _ _)
      | (with_reducible exact ih1 _ _ _ _ _ _ _)
      | (with_reducible exact assessorref02_Has.mono _ _ _)
      | (with_reducible exact assessorref02_Name.mono _ _)
      | (with_reducible exact assessorref03_number.mono _ _)
      | (with_reducible exact LeO.refl _)
      | (with_reducible exact LeO.none _)
      | (with_reducible refine LeO.ite ?_ ?_)
      | (with_reducible refine LeO.bind ?_ (fun _ => ?_))
      | exact ih0 _ _ _ _ _ _ _
      | exact ih1 _ _ _ _ _ _ _
      | exact assessorref02_Has.mono _ _ _
      | exact assessorref02_Name.mono _ _
      | exact assessorref03_number.mono _ _
      | exact LeO.none _
      | refine LeO.ite ?_ ?_
      | refine LeO.bind ?_ (fun _ => ?_)
    · intro y0 y1 y2 y3 y4 y5 y6
      unfold assessorref03_text.j1
      repeat' first
      | (with_reducible exact ih0 _ _ _ _ _ _ _)
      | (with_reducible exact ih1 _ _ _ _ _ _ _)
      | (with_reducible exact assessorref02_Has.mono _ _ _)
      | (with_reducible exact assessorref02_Name.mono _ _)
      | (with_reducible exact assessorref03_number.mono _ _)
      | (with_reducible exact LeO.refl _)
      | (with_reducible exact LeO.none _)
      | (with_reducible refine LeO.ite ?_ ?_)
      | (with_reducible refine LeO.bind ?_ (fun _ => ?_))
      | exact ih0 _ _ _ _ _ _ _
      | exact ih1 _ _ _ _ _ _ _
      | exact assessorref02_Has.mono _ _ _
      | exact assessorref02_Name.mono _ _
      | exact assessorref03_number.mono _ _
      | exact LeO.none _
      | refine LeO.ite ?_ ?_
      | refine LeO.bind ?_ (fun _ => ?_)
theorem assessorref03_text.mono : ∀ a0 a1 a2 a3 a4 k, LeO (assessorref03_text.f k a0 a1 a2 a3 a4) (assessorref03_text.f (k + 1) a0 a1 a2 a3 a4) := by
  intro a0 a1 a2 a3 a4 k
  obtain ⟨ih0, ih1⟩ := assessorref03_text.mono_l k
  unfold assessorref03_text.f
  repeat' first
      | (with_reducible exact ih0 _ _ _ _ _ _ _)
      | (with_reducible exact ih1 _ _ _ _ _ _ _)
      | (with_reducible exact assessorref02_Has.mono _ _ _)
      | (with_reducible exact assessorref02_Name.mono _ _)
      | (with_reducible exact assessorref03_number.mono _ _)
      | (with_reducible exact LeO.refl _)
      | (with_reducible exact LeO.none _)
      | (with_reducible refine LeO.ite ?_ ?_)
      | (with_reducible refine LeO.bind ?_ (fun _ => ?_))
      | exact ih0 _ _ _ _ _ _ _
      | exact ih1 _ _ _ _ _ _ _
      | exact assessorref02_Has.mono _ _ _
      | exact assessorref02_Name.mono _ _
      | exact assessorref03_number.mono _ _
      | exact LeO.none _
      | refine LeO.ite ?_ ?_
      | refine LeO.bind ?_ (fun _ => ?_)
end Go.Proofs.YtdnclnacneakbaaGreatDoor.PSmall
end
section
namespace Go.Proofs.YtdnclnacneakbaaGreatDoor.PSmall
open Go.RowKit Go.Proofs.YtdnclnacneakbaaGreatDoorW.PrintWords Go.Proofs.YtdnclnacneakbaaGreatDoorW.PrintLast Go.Proofs.YtdnclnacneakbaaGreatDoorW.PrintMore
attribute [local go_sem] max2_int min2_int max_two min_two max_three min_three max_four min_four
set_option linter.unusedVariables false
set_option linter.unusedSimpArgs false
mutual
def assessorref03_most.j0 : Nat → Int → Bool → Option (Int × Int)
  | 0, _, _ => none
  | k + 1, x4, x5 => if x5 = true then (some (0, 4096)) else (if x4 = 3 then (assessorref03_most.j1 k x4 (x4 == 3)) else (assessorref03_most.j1 k x4 (x4 == 26)))
def assessorref03_most.j1 : Nat → Int → Bool → Option (Int × Int)
  | 0, _, _ => none
  | k + 1, x4, x11 => if x11 = true then (some (1, 4096)) else (if x4 = 5 then (assessorref03_most.j2 k x4 (x4 == 5)) else (if x4 = 14 then (assessorref03_most.j2 k x4 (x4 == 14)) else (assessorref03_most.j2 k x4 (x4 == 16))))
def assessorref03_most.j2 : Nat → Int → Bool → Option (Int × Int)
  | 0, _, _ => none
  | k + 1, x4, x14 => if x14 = true then (some (3, 3)) else (if x4 = 12 then (assessorref03_most.j3 k x4 (x4 == 12)) else (if x4 = 13 then (assessorref03_most.j3 k x4 (x4 == 13)) else (if x4 = 15 then (assessorref03_most.j3 k x4 (x4 == 15)) else (if x4 = 21 then (assessorref03_most.j3 k x4 (x4 == 21)) else (assessorref03_most.j3 k x4 (x4 == 29))))))
def assessorref03_most.j3 : Nat → Int → Bool → Option (Int × Int)
  | 0, _, _ => none
  | k + 1, x4, x18 => if x18 = true then (some (2, 2)) else (if x4 = 4 then (some (1, 1)) else (if x4 = 7 then (some (1, 1)) else (if x4 = 8 then (some (1, 1)) else (if x4 = 17 then (some (1, 1)) else (if x4 = 18 then (some (1, 1)) else (if x4 = 22 then (some (1, 1)) else (if x4 = 23 then (some (1, 1)) else (if x4 = 28 then (some (1, 1)) else (some (0, 0))))))))))
end
def assessorref03_most.f (k : Nat) (a0 : Int) : Option (Int × Int) := if a0 = 2 then (assessorref03_most.j0 k a0 (a0 == 2)) else (if a0 = 6 then (assessorref03_most.j0 k a0 (a0 == 6)) else (if a0 = 11 then (assessorref03_most.j0 k a0 (a0 == 11)) else (if a0 = 19 then (assessorref03_most.j0 k a0 (a0 == 19)) else (assessorref03_most.j0 k a0 (a0 == 27)))))
theorem assessorref03_most.mono_l : ∀ k, (∀ y0 y1, LeO (assessorref03_most.j0 k y0 y1) (assessorref03_most.j0 (k + 1) y0 y1)) ∧ (∀ y0 y1, LeO (assessorref03_most.j1 k y0 y1) (assessorref03_most.j1 (k + 1) y0 y1)) ∧ (∀ y0 y1, LeO (assessorref03_most.j2 k y0 y1) (assessorref03_most.j2 (k + 1) y0 y1)) ∧ (∀ y0 y1, LeO (assessorref03_most.j3 k y0 y1) (assessorref03_most.j3 (k + 1) y0 y1))
  | 0 => ⟨fun _ _ r h => by simp [assessorref03_most.j0] at h, fun _ _ r h => by simp [assessorref03_most.j1] at h, fun _ _ r h => by simp [assessorref03_most.j2] at h, fun _ _ r h => by simp [assessorref03_most.j3] at h⟩
  | k + 1 => by
    obtain ⟨ih0, ih1, ih2, ih3⟩ := assessorref03_most.mono_l k
    refine ⟨?_, ?_, ?_, ?_⟩
    · intro y0 y1
      unfold assessorref03_most.j0
      repeat' first
      | (with_reducible exact ih0 _ _)
      | (with_reducible exact ih1 _ _)
      | (with_reducible exact ih2 _ _)
      | (with_reducible exact ih3 _ _)
      | (with_reducible exact LeO.refl _)
      | (with_reducible exact LeO.none _)
      | (with_reducible refine LeO.ite ?_ ?_)
      | (with_reducible refine LeO.bind ?_ (fun _ => ?_))
      | exact ih0 _ _
      | exact ih1 _ _
      | exact ih2 _ _
      | exact ih3 _ _
      | exact LeO.none _
      | refine LeO.ite ?_ ?_
      | refine LeO.bind ?_ (fun _ => ?_)
    · intro y0 y1
      unfold assessorref03_most.j1
      repeat' first
      | (with_reducible exact ih0 _ _)
      | (with_reducible exact ih1 _ _)
      | (with_reducible exact ih2 _ _)
      | (with_reducible exact ih3 _ _)
      | (with_reducible exact LeO.refl _)
      | (with_reducible exact LeO.none _)
      | (with_reducible refine LeO.ite ?_ ?_)
      | (with_reducible refine LeO.bind ?_ (fun _ => ?_))
      | exact ih0 _ _
      | exact ih1 _ _
      | exact ih2 _ _
      | exact ih3 _ _
      | exact LeO.none _
      | refine LeO.ite ?_ ?_
      | refine LeO.bind ?_ (fun _ => ?_)
    · intro y0 y1
      unfold assessorref03_most.j2
      repeat' first
      | (with_reducible exact ih0 _ _)
      | (with_reducible exact ih1 _ _)
      | (with_reducible exact ih2 _ _)
      | (with_reducible exact ih3 _ _)
      | (with_reducible exact LeO.refl _)
      | (with_reducible exact LeO.none _)
      | (with_reducible refine LeO.ite ?_ ?_)
      | (with_reducible refine LeO.bind ?_ (fun _ => ?_))
      | exact ih0 _ _
      | exact ih1 _ _
      | exact ih2 _ _
      | exact ih3 _ _
      | exact LeO.none _
      | refine LeO.ite ?_ ?_
      | refine LeO.bind ?_ (fun _ => ?_)
    · intro y0 y1
      unfold assessorref03_most.j3
      repeat' first
      | (with_reducible exact ih0 _ _)
      | (with_reducible exact ih1 _ _)
      | (with_reducible exact ih2 _ _)
      | (with_reducible exact ih3 _ _)
      | (with_reducible exact LeO.refl _)
      | (with_reducible exact LeO.none _)
      | (with_reducible refine LeO.ite ?_ ?_)
      | (with_reducible refine LeO.bind ?_ (fun _ => ?_))
      | exact ih0 _ _
      | exact ih1 _ _
      | exact ih2 _ _
      | exact ih3 _ _
      | exact LeO.none _
      | refine LeO.ite ?_ ?_
      | refine LeO.bind ?_ (fun _ => ?_)
theorem assessorref03_most.mono : ∀ a0 k, LeO (assessorref03_most.f k a0) (assessorref03_most.f (k + 1) a0) := by
  intro a0 k
  obtain ⟨ih0, ih1, ih2, ih3⟩ := assessorref03_most.mono_l k
  unfold assessorref03_most.f
  repeat' first
      | (with_reducible exact ih0 _ _)
      | (with_reducible exact ih1 _ _)
      | (with_reducible exact ih2 _ _)
      | (with_reducible exact ih3 _ _)
      | (with_reducible exact LeO.refl _)
      | (with_reducible exact LeO.none _)
      | (with_reducible refine LeO.ite ?_ ?_)
      | (with_reducible refine LeO.bind ?_ (fun _ => ?_))
      | exact ih0 _ _
      | exact ih1 _ _
      | exact ih2 _ _
      | exact ih3 _ _
      | exact LeO.none _
      | refine LeO.ite ?_ ?_
      | refine LeO.bind ?_ (fun _ => ?_)
def assessorref03_Type.f (a0 : Int) : Option (Bool) := if a0 = 9 then (some true) else (some (a0 == 10))
def assessorref03_IsStatement.f (a0 : Int) : Option (Bool) := if a0 ≥ 12 then (some (decide (a0 ≤ 19))) else (some false)
def assessorref03_Place.f (a0 : Int) : Option (Bool) := if a0 = 20 then (some true) else (if a0 = 21 then (some true) else (some (a0 == 22)))
end Go.Proofs.YtdnclnacneakbaaGreatDoor.PSmall
end
section
namespace Go.Proofs.YtdnclnacneakbaaGreatDoor.PSmall
open Go.RowKit Go.Proofs.YtdnclnacneakbaaGreatDoorW.PrintWords Go.Proofs.YtdnclnacneakbaaGreatDoorW.PrintLast Go.Proofs.YtdnclnacneakbaaGreatDoorW.PrintMore
attribute [local go_sem] max2_int min2_int max_two min_two max_three min_three max_four min_four
set_option linter.unusedVariables false
set_option linter.unusedSimpArgs false
def assessorref03_kid.j0 : Nat → Int → Int → Int → Bool → Option (Bool)
  | 0, _, _, _, _ => none
  | k + 1, x1, x7, x10, x73 => if x73 = true then ((assessorref03_Type.f x7).bind fun t203 => (if t203 = true then (some true) else (some (x7 == 0)))) else (if x10 = 11 then ((assessorref03_IsStatement.f x7).bind fun t204 => (some t204)) else (if x10 = 12 then (if x1 = 0 then ((assessorref03_Type.f x7).bind fun t205 => (if t205 = true then (some true) else (if x7 = 0 then (some true) else (if x1 = 1 then ((assessorref03_IsExpression.f x7).bind fun t206 => (some t206)) else (some false))))) else (if x1 = 1 then ((assessorref03_IsExpression.f x7).bind fun t207 => (some t207)) else (some false))) else (if x10 = 13 then (if x1 = 0 then ((assessorref03_Place.f x7).bind fun t208 => (if t208 = true then (some true) else (if x1 = 1 then ((assessorref03_IsExpression.f x7).bind fun t209 => (some t209)) else (some false)))) else (if x1 = 1 then ((assessorref03_IsExpression.f x7).bind fun t210 => (some t210)) else (some false))) else (if x10 = 14 then (if x1 = 0 then ((assessorref03_IsExpression.f x7).bind fun t211 => (if t211 = true then (some true) else (if x1 = 1 then (if x7 = 11 then (some true) else (if x1 = 2 then (if x7 = 14 then (some true) else (some (x7 == 0))) else (some false))) else (if x1 = 2 then (if x7 = 11 then (some true) else (if x7 = 14 then (some true) else (some (x7 == 0)))) else (some false))))) else (if x1 = 1 then (if x7 = 11 then (some true) else (if x1 = 2 then (if x7 = 14 then (some true) else (some (x7 == 0))) else (some false))) else (if x1 = 2 then (if x7 = 11 then (some true) else (if x7 = 14 then (some true) else (some (x7 == 0)))) else (some false)))) else (if x10 = 15 then (if x1 = 0 then ((assessorref03_IsExpression.f x7).bind fun t212 => (if t212 = true then (some true) else (if x1 = 1 then (some (x7 == 11)) else (some false)))) else (if x1 = 1 then (some (x7 == 11)) else (some false))) else (if x10 = 16 then (if x1 < 2 then ((assessorref03_IsExpression.f x7).bind fun t213 => (if t213 = true then (some true) else (if x1 = 2 then (some (x7 == 11)) else (some false)))) else (if x1 = 2 then (some (x7 == 11)) else (some false))) else (if x10 = 17 then ((assessorref03_IsExpression.f x7).bind fun t214 => (if t214 = true then (some true) else (some (x7 == 0)))) else (if x10 = 21 then (if x1 = 0 then (if x7 = 20 then (some true) else (if x1 = 1 then ((assessorref03_IsExpression.f x7).bind fun t215 => (some t215)) else (some false))) else (if x1 = 1 then ((assessorref03_IsExpression.f x7).bind fun t216 => (some t216)) else (some false))) else (if x10 = 22 then (some (x7 == 20)) else (if x10 = 23 then (some (x7 == 20)) else ((assessorref03_IsExpression.f x7).bind fun t217 => (some t217))))))))))))
def assessorref03_kid.f (k : Nat) (a0 : Int) (a1 : Int) (a2_0 : Int) (a2_1 : ByteArray) (a2_2 : Int) (a2_3 : Int) (l2_4 : List (S24)) : Option (Bool) := if a0 = 2 then (if a2_0 = 3 then (some true) else (some (a2_0 == 5))) else (if a0 = 3 then (some (a2_0 == 4)) else (if a0 = 4 then (if a2_0 = 9 then (if a2_1.toList = ([105, 110, 116] : List UInt8) then (some true) else (some (a2_1.toList == ([98, 111, 111, 108] : List UInt8)))) else (some false)) else (if a0 = 5 then (if a1 = 0 then (if a2_0 = 6 then (some true) else (if a1 = 1 then ((assessorref03_Type.f a2_0).bind fun t201 => (if t201 = true then (some true) else (if a2_0 = 0 then (some true) else (if a1 = 2 then (some (a2_0 == 11)) else (some false))))) else (if a1 = 2 then (some (a2_0 == 11)) else (some false)))) else (if a1 = 1 then ((assessorref03_Type.f a2_0).bind fun t202 => (if t202 = true then (some true) else (if a2_0 = 0 then (some true) else (if a1 = 2 then (some (a2_0 == 11)) else (some false))))) else (if a1 = 2 then (some (a2_0 == 11)) else (some false)))) else (if a0 = 6 then (if a2_0 = 7 then (some true) else (some (a2_0 == 8))) else (if a0 = 7 then (assessorref03_kid.j0 k a1 a2_0 a0 (a0 == 7)) else (assessorref03_kid.j0 k a1 a2_0 a0 (a0 == 8)))))))
theorem assessorref03_kid.mono_l : ∀ k, (∀ y0 y1 y2 y3, LeO (assessorref03_kid.j0 k y0 y1 y2 y3) (assessorref03_kid.j0 (k + 1) y0 y1 y2 y3))
  | 0 => fun _ _ _ _ r h => by simp [assessorref03_kid.j0] at h
  | k + 1 => by
    have ih0 := assessorref03_kid.mono_l k
    · intro y0 y1 y2 y3
      unfold assessorref03_kid.j0
      repeat' first
      | (with_reducible exact ih0 _ _ _ _)
      | (with_reducible exact LeO.refl _)
      | (with_reducible exact LeO.none _)
      | (with_reducible refine LeO.ite ?_ ?_)
      | (with_reducible refine LeO.bind ?_ (fun _ => ?_))
      | exact ih0 _ _ _ _
      | exact LeO.none _
      | refine LeO.ite ?_ ?_
      | refine LeO.bind ?_ (fun _ => ?_)
theorem assessorref03_kid.mono : ∀ a0 a1 a2 a3 a4 a5 a6 k, LeO (assessorref03_kid.f k a0 a1 a2 a3 a4 a5 a6) (assessorref03_kid.f (k + 1) a0 a1 a2 a3 a4 a5 a6) := by
  intro a0 a1 a2 a3 a4 a5 a6 k
  have ih0 := assessorref03_kid.mono_l k
  unfold assessorref03_kid.f
  repeat' first
      | (with_reducible exact ih0 _ _ _ _)
      | (with_reducible exact LeO.refl _)
      | (with_reducible exact LeO.none _)
      | (with_reducible refine LeO.ite ?_ ?_)
      | (with_reducible refine LeO.bind ?_ (fun _ => ?_))
      | exact ih0 _ _ _ _
      | exact LeO.none _
      | refine LeO.ite ?_ ?_
      | refine LeO.bind ?_ (fun _ => ?_)
end Go.Proofs.YtdnclnacneakbaaGreatDoor.PSmall
end
section
namespace Go.Proofs.YtdnclnacneakbaaGreatDoor.PSmall
open Go.RowKit Go.Proofs.YtdnclnacneakbaaGreatDoorW.PrintWords Go.Proofs.YtdnclnacneakbaaGreatDoorW.PrintLast Go.Proofs.YtdnclnacneakbaaGreatDoorW.PrintMore
attribute [local go_sem] max2_int min2_int max_two min_two max_three min_three max_four min_four
set_option linter.unusedVariables false
set_option linter.unusedSimpArgs false
mutual
def assessorref03_Shape.j0 : Nat → Bool → Int → ByteArray → Int → Int → List (S24) → Option (Bool)
  | 0, _, _, _, _, _, _ => none
  | k + 1, x23, x219000, x219001, x219002, x219003, x219004 => if x23 = true then (some false) else ((assessorref03_most.f k x219000).bind fun bt220 => (if (x219004.length : Int) < bt220.1 then (assessorref03_Shape.j1 k true x219000 x219001 x219002 x219003 x219004) else (assessorref03_Shape.j1 k (decide ((x219004.length : Int) > bt220.2)) x219000 x219001 x219002 x219003 x219004)))
def assessorref03_Shape.j1 : Nat → Bool → Int → ByteArray → Int → Int → List (S24) → Option (Bool)
  | 0, _, _, _, _, _, _ => none
  | k + 1, x41, x219000, x219001, x219002, x219003, x219004 => if x41 = true then (some false) else (assessorref03_Shape.l0 k 0 x219000 x219001 x219002 x219003 x219004)
def assessorref03_Shape.l0 : Nat → Int → Int → ByteArray → Int → Int → List (S24) → Option (Bool)
  | 0, _, _, _, _, _, _ => none
  | k + 1, x5, x219000, x219001, x219002, x219003, x219004 => if x5 < (x219004.length : Int) then (if 0 ≤ x5 then ((assessorref03_kid.f k x219000 x5 ((rd_T24 x219004 x5).f0) ((rd_T24 x219004 x5).f1) ((rd_T24 x219004 x5).f2) ((rd_T24 x219004 x5).f3) ((rd_T24 x219004 x5).f4)).bind fun t223 => (if t223 = true then ((assessorref03_Shape.f k ((rd_T24 x219004 x5).f0) ((rd_T24 x219004 x5).f1) ((rd_T24 x219004 x5).f2) ((rd_T24 x219004 x5).f3) ((rd_T24 x219004 x5).f4)).bind fun t225 => (if t225 = true then (assessorref03_Shape.l0 k (wrap64 (x5 + 1)) x219000 x219001 x219002 x219003 x219004) else (some false))) else (some false))) else (none)) else (some true)
def assessorref03_Shape.f : Nat → Int → ByteArray → Int → Int → List (S24) → Option (Bool)
  | 0, _, _, _, _, _ => none
  | k + 1, a0_0, a0_1, a0_2, a0_3, l0_4 => if a0_0 < 0 then (assessorref03_Shape.j0 k true a0_0 a0_1 a0_2 a0_3 l0_4) else (if a0_0 = 1 then (assessorref03_Shape.j0 k true a0_0 a0_1 a0_2 a0_3 l0_4) else (if a0_0 > 29 then (assessorref03_Shape.j0 k true a0_0 a0_1 a0_2 a0_3 l0_4) else ((assessorref03_text.f k a0_0 a0_1 a0_2 a0_3 l0_4).bind fun t219 => (assessorref03_Shape.j0 k (!t219) a0_0 a0_1 a0_2 a0_3 l0_4))))
end
theorem assessorref03_Shape.mono_l : ∀ k, (∀ y0 y1 y2 y3 y4, LeO (assessorref03_Shape.f k y0 y1 y2 y3 y4) (assessorref03_Shape.f (k + 1) y0 y1 y2 y3 y4)) ∧ (∀ y0 y1 y2 y3 y4 y5, LeO (assessorref03_Shape.j0 k y0 y1 y2 y3 y4 y5) (assessorref03_Shape.j0 (k + 1) y0 y1 y2 y3 y4 y5)) ∧ (∀ y0 y1 y2 y3 y4 y5, LeO (assessorref03_Shape.j1 k y0 y1 y2 y3 y4 y5) (assessorref03_Shape.j1 (k + 1) y0 y1 y2 y3 y4 y5)) ∧ (∀ y0 y1 y2 y3 y4 y5, LeO (assessorref03_Shape.l0 k y0 y1 y2 y3 y4 y5) (assessorref03_Shape.l0 (k + 1) y0 y1 y2 y3 y4 y5))
  | 0 => ⟨fun _ _ _ _ _ r h => by simp [assessorref03_Shape.f] at h, fun _ _ _ _ _ _ r h => by simp [assessorref03_Shape.j0] at h, fun _ _ _ _ _ _ r h => by simp [assessorref03_Shape.j1] at h, fun _ _ _ _ _ _ r h => by simp [assessorref03_Shape.l0] at h⟩
  | k + 1 => by
    obtain ⟨ih0, ih1, ih2, ih3⟩ := assessorref03_Shape.mono_l k
    refine ⟨?_, ?_, ?_, ?_⟩
    · intro y0 y1 y2 y3 y4
      unfold assessorref03_Shape.f
      repeat' first
      | (with_reducible exact ih0 _ _ _ _ _)
      | (with_reducible exact ih1 _ _ _ _ _ _)
      | (with_reducible exact ih2 _ _ _ _ _ _)
      | (with_reducible exact ih3 _ _ _ _ _ _)
      | (with_reducible exact assessorref03_kid.mono _ _ _ _ _ _ _ _)
      | (with_reducible exact assessorref03_most.mono _ _)
      | (with_reducible exact assessorref03_text.mono _ _ _ _ _ _)
      | (with_reducible exact LeO.refl _)
      | (with_reducible exact LeO.none _)
      | (with_reducible refine LeO.ite ?_ ?_)
      | (with_reducible refine LeO.bind ?_ (fun _ => ?_))
      | exact ih0 _ _ _ _ _
      | exact ih1 _ _ _ _ _ _
      | exact ih2 _ _ _ _ _ _
      | exact ih3 _ _ _ _ _ _
      | exact assessorref03_kid.mono _ _ _ _ _ _ _ _
      | exact assessorref03_most.mono _ _
      | exact assessorref03_text.mono _ _ _ _ _ _
      | exact LeO.none _
      | refine LeO.ite ?_ ?_
      | refine LeO.bind ?_ (fun _ => ?_)
    · intro y0 y1 y2 y3 y4 y5
      unfold assessorref03_Shape.j0
      repeat' first
      | (with_reducible exact ih0 _ _ _ _ _)
      | (with_reducible exact ih1 _ _ _ _ _ _)
      | (with_reducible exact ih2 _ _ _ _ _ _)
      | (with_reducible exact ih3 _ _ _ _ _ _)
      | (with_reducible exact assessorref03_kid.mono _ _ _ _ _ _ _ _)
      | (with_reducible exact assessorref03_most.mono _ _)
      | (with_reducible exact assessorref03_text.mono _ _ _ _ _ _)
      | (with_reducible exact LeO.refl _)
      | (with_reducible exact LeO.none _)
      | (with_reducible refine LeO.ite ?_ ?_)
      | (with_reducible refine LeO.bind ?_ (fun _ => ?_))
      | exact ih0 _ _ _ _ _
      | exact ih1 _ _ _ _ _ _
      | exact ih2 _ _ _ _ _ _
      | exact ih3 _ _ _ _ _ _
      | exact assessorref03_kid.mono _ _ _ _ _ _ _ _
      | exact assessorref03_most.mono _ _
      | exact assessorref03_text.mono _ _ _ _ _ _
      | exact LeO.none _
      | refine LeO.ite ?_ ?_
      | refine LeO.bind ?_ (fun _ => ?_)
    · intro y0 y1 y2 y3 y4 y5
      unfold assessorref03_Shape.j1
      repeat' first
      | (with_reducible exact ih0 _ _ _ _ _)
      | (with_reducible exact ih1 _ _ _ _ _ _)
      | (with_reducible exact ih2 _ _ _ _ _ _)
      | (with_reducible exact ih3 _ _ _ _ _ _)
      | (with_reducible exact assessorref03_kid.mono _ _ _ _ _ _ _ _)
      | (with_reducible exact assessorref03_most.mono _ _)
      | (with_reducible exact assessorref03_text.mono _ _ _ _ _ _)
      | (with_reducible exact LeO.refl _)
      | (with_reducible exact LeO.none _)
      | (with_reducible refine LeO.ite ?_ ?_)
      | (with_reducible refine LeO.bind ?_ (fun _ => ?_))
      | exact ih0 _ _ _ _ _
      | exact ih1 _ _ _ _ _ _
      | exact ih2 _ _ _ _ _ _
      | exact ih3 _ _ _ _ _ _
      | exact assessorref03_kid.mono _ _ _ _ _ _ _ _
      | exact assessorref03_most.mono _ _
      | exact assessorref03_text.mono _ _ _ _ _ _
      | exact LeO.none _
      | refine LeO.ite ?_ ?_
      | refine LeO.bind ?_ (fun _ => ?_)
    · intro y0 y1 y2 y3 y4 y5
      unfold assessorref03_Shape.l0
      repeat' first
      | (with_reducible exact ih0 _ _ _ _ _)
      | (with_reducible exact ih1 _ _ _ _ _ _)
      | (with_reducible exact ih2 _ _ _ _ _ _)
      | (with_reducible exact ih3 _ _ _ _ _ _)
      | (with_reducible exact assessorref03_kid.mono _ _ _ _ _ _ _ _)
      | (with_reducible exact assessorref03_most.mono _ _)
      | (with_reducible exact assessorref03_text.mono _ _ _ _ _ _)
      | (with_reducible exact LeO.refl _)
      | (with_reducible exact LeO.none _)
      | (with_reducible refine LeO.ite ?_ ?_)
      | (with_reducible refine LeO.bind ?_ (fun _ => ?_))
      | exact ih0 _ _ _ _ _
      | exact ih1 _ _ _ _ _ _
      | exact ih2 _ _ _ _ _ _
      | exact ih3 _ _ _ _ _ _
      | exact assessorref03_kid.mono _ _ _ _ _ _ _ _
      | exact assessorref03_most.mono _ _
      | exact assessorref03_text.mono _ _ _ _ _ _
      | exact LeO.none _
      | refine LeO.ite ?_ ?_
      | refine LeO.bind ?_ (fun _ => ?_)
theorem assessorref03_Shape.mono : ∀ a0 a1 a2 a3 a4 k, LeO (assessorref03_Shape.f k a0 a1 a2 a3 a4) (assessorref03_Shape.f (k + 1) a0 a1 a2 a3 a4) := by
  intro a0 a1 a2 a3 a4 k
  obtain ⟨ih0, ih1, ih2, ih3⟩ := assessorref03_Shape.mono_l k
  exact ih0 a0 a1 a2 a3 a4
end Go.Proofs.YtdnclnacneakbaaGreatDoor.PSmall
end
section
namespace Go.Proofs.YtdnclnacneakbaaGreatDoor.PSmall
open Go.RowKit Go.Proofs.YtdnclnacneakbaaGreatDoorW.PrintWords Go.Proofs.YtdnclnacneakbaaGreatDoorW.PrintLast Go.Proofs.YtdnclnacneakbaaGreatDoorW.PrintMore
attribute [local go_sem] max2_int min2_int max_two min_two max_three min_three max_four min_four
set_option linter.unusedVariables false
set_option linter.unusedSimpArgs false
def assessorref03_Expression.f (k : Nat) (a0_0 : Int) (a0_1 : ByteArray) (a0_2 : Int) (a0_3 : Int) (l0_4 : List (S24)) : Option (Bool) := (assessorref03_IsExpression.f a0_0).bind fun t227 => (if t227 = true then ((assessorref03_Shape.f k a0_0 a0_1 a0_2 a0_3 l0_4).bind fun t228 => (some t228)) else (some false))
theorem assessorref03_Expression.mono : ∀ a0 a1 a2 a3 a4 k, LeO (assessorref03_Expression.f k a0 a1 a2 a3 a4) (assessorref03_Expression.f (k + 1) a0 a1 a2 a3 a4) := by
  intro a0 a1 a2 a3 a4 k
  unfold assessorref03_Expression.f
  repeat' first
      | (with_reducible exact assessorref03_Shape.mono _ _ _ _ _ _)
      | (with_reducible exact LeO.refl _)
      | (with_reducible exact LeO.none _)
      | (with_reducible refine LeO.ite ?_ ?_)
      | (with_reducible refine LeO.bind ?_ (fun _ => ?_))
      | exact assessorref03_Shape.mono _ _ _ _ _ _
      | exact LeO.none _
      | refine LeO.ite ?_ ?_
      | refine LeO.bind ?_ (fun _ => ?_)
def assessorref11_Wrap.f (k : Nat) (a0 : Int) (a1 : Int) : Option (Int) := (assessorref11_Width.f a0).bind fun t229 => (if t229 = true then ((assessorref11_power.f k a0).bind fun t230 => (if t230 = 0 then (none) else ((assessorref11_Least.f k a0).bind fun t231 => (if (Int.tmod a1 t230) < t231 then ((assessorref11_power.f k a0).bind fun t232 => (some (wrap64 ((Int.tmod a1 t230) + t232)))) else ((assessorref11_Greatest.f k a0).bind fun t233 => (if (Int.tmod a1 t230) > t233 then ((assessorref11_power.f k a0).bind fun t234 => (some (wrap64 ((Int.tmod a1 t230) - t234)))) else (some (Int.tmod a1 t230)))))))) else (some 0))
theorem assessorref11_Wrap.mono : ∀ a0 a1 k, LeO (assessorref11_Wrap.f k a0 a1) (assessorref11_Wrap.f (k + 1) a0 a1) := by
  intro a0 a1 k
  unfold assessorref11_Wrap.f
  repeat' first
      | (with_reducible exact assessorref11_Greatest.mono _ _)
      | (with_reducible exact assessorref11_Least.mono _ _)
      | (with_reducible exact assessorref11_power.mono _ _)
      | (with_reducible exact LeO.refl _)
      | (with_reducible exact LeO.none _)
      | (with_reducible refine LeO.ite ?_ ?_)
      | (with_reducible refine LeO.bind ?_ (fun _ => ?_))
      | exact assessorref11_Greatest.mono _ _
      | exact assessorref11_Least.mono _ _
      | exact assessorref11_power.mono _ _
      | exact LeO.none _
      | refine LeO.ite ?_ ?_
      | refine LeO.bind ?_ (fun _ => ?_)
set_option maxHeartbeats 8000000 in
set_option maxRecDepth 100000 in
theorem assessorref11_Wrap.calls (k : Nat) (a0 : Int) (a1 : Int) (r : Int) (w : World) (h : assessorref11_Wrap.f k a0 a1 = some r) :
    Calls Tryz.prog 33 #[.int .i64 a0, .int .i64 a1] w fun e w' => e = .returned (.int .i64 r) ∧ Drawn0 w w' := by
  have H : ((assessorref11_Width.f a0).bind fun t229 => (if t229 = true then ((assessorref11_power.f k a0).bind fun t230 => (if t230 = 0 then (none) else ((assessorref11_Least.f k a0).bind fun t231 => (if (Int.tmod a1 t230) < t231 then ((assessorref11_power.f k a0).bind fun t232 => (some (wrap64 ((Int.tmod a1 t230) + t232)))) else ((assessorref11_Greatest.f k a0).bind fun t233 => (if (Int.tmod a1 t230) > t233 then ((assessorref11_power.f k a0).bind fun t234 => (some (wrap64 ((Int.tmod a1 t230) - t234)))) else (some (Int.tmod a1 t230)))))))) else (some 0))) = some r := h
  clear h
  replace H := Option.bind_eq_some_iff.mp H
  obtain ⟨t229, A30, H⟩ := H
  replace H : (if t229 = true then ((assessorref11_power.f k a0).bind fun t230 => (if t230 = 0 then (none) else ((assessorref11_Least.f k a0).bind fun t231 => (if (Int.tmod a1 t230) < t231 then ((assessorref11_power.f k a0).bind fun t232 => (some (wrap64 ((Int.tmod a1 t230) + t232)))) else ((assessorref11_Greatest.f k a0).bind fun t233 => (if (Int.tmod a1 t230) > t233 then ((assessorref11_power.f k a0).bind fun t234 => (some (wrap64 ((Int.tmod a1 t230) - t234)))) else (some (Int.tmod a1 t230)))))))) else (some 0)) = some r := H
  have A3 := Aside0.mk A30
  clear A30
  by_cases c4 : t229 = true
  · subst c4
    have H1 : ((assessorref11_power.f k a0).bind fun t230 => (if t230 = 0 then (none) else ((assessorref11_Least.f k a0).bind fun t231 => (if (Int.tmod a1 t230) < t231 then ((assessorref11_power.f k a0).bind fun t232 => (some (wrap64 ((Int.tmod a1 t230) + t232)))) else ((assessorref11_Greatest.f k a0).bind fun t233 => (if (Int.tmod a1 t230) > t233 then ((assessorref11_power.f k a0).bind fun t234 => (some (wrap64 ((Int.tmod a1 t230) - t234)))) else (some (Int.tmod a1 t230)))))))) = some r := by rw [if_pos rfl] at H; exact H
    clear H
    have H := H1
    clear H1
    replace H := Option.bind_eq_some_iff.mp H
    obtain ⟨t230, A50, H⟩ := H
    replace H : (if t230 = 0 then (none) else ((assessorref11_Least.f k a0).bind fun t231 => (if (Int.tmod a1 t230) < t231 then ((assessorref11_power.f k a0).bind fun t232 => (some (wrap64 ((Int.tmod a1 t230) + t232)))) else ((assessorref11_Greatest.f k a0).bind fun t233 => (if (Int.tmod a1 t230) > t233 then ((assessorref11_power.f k a0).bind fun t234 => (some (wrap64 ((Int.tmod a1 t230) - t234)))) else (some (Int.tmod a1 t230))))))) = some r := H
    have A5 := Aside0.mk A50
    clear A50
    by_cases c6 : t230 = 0
    · rw [if_pos c6] at H
      exact absurd H (by simp)
    · rw [if_neg c6] at H
      have c6b0 : (t230 == 0) = false := beq_eq_false_iff_ne.mpr c6
      have c6b1 : (t230 != 0) = true := bne_iff_ne.mpr c6
      replace H := Option.bind_eq_some_iff.mp H
      obtain ⟨t231, A70, H⟩ := H
      replace H : (if (Int.tmod a1 t230) < t231 then ((assessorref11_power.f k a0).bind fun t232 => (some (wrap64 ((Int.tmod a1 t230) + t232)))) else ((assessorref11_Greatest.f k a0).bind fun t233 => (if (Int.tmod a1 t230) > t233 then ((assessorref11_power.f k a0).bind fun t234 => (some (wrap64 ((Int.tmod a1 t230) - t234)))) else (some (Int.tmod a1 t230))))) = some r := H
      have A7 := Aside0.mk A70
      clear A70
      by_cases c8 : (Int.tmod a1 t230) < t231
      · rw [if_pos c8] at H
        have c8b0 : decide ((Int.tmod a1 t230) < t231) = true := decide_eq_true c8
        clear c8
        replace H := Option.bind_eq_some_iff.mp H
        obtain ⟨t232, A90, H⟩ := H
        replace H : (some (wrap64 ((Int.tmod a1 t230) + t232))) = some r := H
        have A9 := Aside0.mk A90
        clear A90
        obtain rfl := Option.some.inj H
        go_enter Tryz.func33, Tryz.ntmps33
        go_wp2_with (first | ((with_reducible refine gate_callee (f := 23) rfl ?_); refine goesL_ (some 6) rfl rfl Tryz.func23 (by kernel_rfl) rfl #[.int .i64 a0] rfl (by (try simp only [List.map_toArray, List.map_cons, List.map_nil]); first | done | rfl | (simp only [List.length_drop, List.length_take]; rfl)) ?_; (with_reducible refine (assessorref11_Width.calls a0 true _ A3.out).mono ?_); rintro e w' ⟨rfl, ⟨nd, rfl⟩⟩; refine ⟨_, rfl, ?_⟩) | ((with_reducible refine gate_callee (f := 57) rfl ?_); refine goesL_ (some 10) rfl rfl Tryz.func57 (by kernel_rfl) rfl #[.int .i64 a0] rfl (by (try simp only [List.map_toArray, List.map_cons, List.map_nil]); first | done | rfl | (simp only [List.length_drop, List.length_take]; rfl)) ?_; (with_reducible refine (assessorref11_power.calls k a0 t230 _ A5.out).mono ?_); rintro e w' ⟨rfl, ⟨nd, rfl⟩⟩; refine ⟨_, rfl, ?_⟩) | ((with_reducible refine gate_callee (f := 24) rfl ?_); refine goesL_ (some 14) rfl rfl Tryz.func24 (by kernel_rfl) rfl #[.int .i64 a0] rfl (by (try simp only [List.map_toArray, List.map_cons, List.map_nil]); first | done | rfl | (simp only [List.length_drop, List.length_take]; rfl)) ?_; (with_reducible refine (assessorref11_Least.calls k a0 t231 _ A7.out).mono ?_); rintro e w' ⟨rfl, ⟨nd, rfl⟩⟩; refine ⟨_, rfl, ?_⟩) | ((with_reducible refine gate_callee (f := 57) rfl ?_); refine goesL_ (some 18) rfl rfl Tryz.func57 (by kernel_rfl) rfl #[.int .i64 a0] rfl (by (try simp only [List.map_toArray, List.map_cons, List.map_nil]); first | done | rfl | (simp only [List.length_drop, List.length_take]; rfl)) ?_; (with_reducible refine (assessorref11_power.calls k a0 t232 _ A9.out).mono ?_); rintro e w' ⟨rfl, ⟨nd, rfl⟩⟩; refine ⟨_, rfl, ?_⟩))
        go_ret
        exact ⟨by first | rfl | (simp; done) | (simp [*]; done), by repeat (first | exact Drawn0.refl _ | apply Drawn0.step)⟩
      · rw [if_neg c8] at H
        have c8b0 : decide ((Int.tmod a1 t230) < t231) = false := decide_eq_false c8
        clear c8
        replace H := Option.bind_eq_some_iff.mp H
        obtain ⟨t233, A100, H⟩ := H
        replace H : (if (Int.tmod a1 t230) > t233 then ((assessorref11_power.f k a0).bind fun t234 => (some (wrap64 ((Int.tmod a1 t230) - t234)))) else (some (Int.tmod a1 t230))) = some r := H
        have A10 := Aside0.mk A100
        clear A100
        by_cases c11 : (Int.tmod a1 t230) > t233
        · rw [if_pos c11] at H
          have c11b0 : decide (t233 < (Int.tmod a1 t230)) = true := decide_eq_true c11
          clear c11
          replace H := Option.bind_eq_some_iff.mp H
          obtain ⟨t234, A120, H⟩ := H
          replace H : (some (wrap64 ((Int.tmod a1 t230) - t234))) = some r := H
          have A12 := Aside0.mk A120
          clear A120
          obtain rfl := Option.some.inj H
          go_enter Tryz.func33, Tryz.ntmps33
          go_wp2_with (first | ((with_reducible refine gate_callee (f := 23) rfl ?_); refine goesL_ (some 6) rfl rfl Tryz.func23 (by kernel_rfl) rfl #[.int .i64 a0] rfl (by (try simp only [List.map_toArray, List.map_cons, List.map_nil]); first | done | rfl | (simp only [List.length_drop, List.length_take]; rfl)) ?_; (with_reducible refine (assessorref11_Width.calls a0 true _ A3.out).mono ?_); rintro e w' ⟨rfl, ⟨nd, rfl⟩⟩; refine ⟨_, rfl, ?_⟩) | ((with_reducible refine gate_callee (f := 57) rfl ?_); refine goesL_ (some 10) rfl rfl Tryz.func57 (by kernel_rfl) rfl #[.int .i64 a0] rfl (by (try simp only [List.map_toArray, List.map_cons, List.map_nil]); first | done | rfl | (simp only [List.length_drop, List.length_take]; rfl)) ?_; (with_reducible refine (assessorref11_power.calls k a0 t230 _ A5.out).mono ?_); rintro e w' ⟨rfl, ⟨nd, rfl⟩⟩; refine ⟨_, rfl, ?_⟩) | ((with_reducible refine gate_callee (f := 24) rfl ?_); refine goesL_ (some 14) rfl rfl Tryz.func24 (by kernel_rfl) rfl #[.int .i64 a0] rfl (by (try simp only [List.map_toArray, List.map_cons, List.map_nil]); first | done | rfl | (simp only [List.length_drop, List.length_take]; rfl)) ?_; (with_reducible refine (assessorref11_Least.calls k a0 t231 _ A7.out).mono ?_); rintro e w' ⟨rfl, ⟨nd, rfl⟩⟩; refine ⟨_, rfl, ?_⟩) | ((with_reducible refine gate_callee (f := 25) rfl ?_); refine goesL_ (some 22) rfl rfl Tryz.func25 (by kernel_rfl) rfl #[.int .i64 a0] rfl (by (try simp only [List.map_toArray, List.map_cons, List.map_nil]); first | done | rfl | (simp only [List.length_drop, List.length_take]; rfl)) ?_; (with_reducible refine (assessorref11_Greatest.calls k a0 t233 _ A10.out).mono ?_); rintro e w' ⟨rfl, ⟨nd, rfl⟩⟩; refine ⟨_, rfl, ?_⟩) | ((with_reducible refine gate_callee (f := 57) rfl ?_); refine goesL_ (some 26) rfl rfl Tryz.func57 (by kernel_rfl) rfl #[.int .i64 a0] rfl (by (try simp only [List.map_toArray, List.map_cons, List.map_nil]); first | done | rfl | (simp only [List.length_drop, List.length_take]; rfl)) ?_; (with_reducible refine (assessorref11_power.calls k a0 t234 _ A12.out).mono ?_); rintro e w' ⟨rfl, ⟨nd, rfl⟩⟩; refine ⟨_, rfl, ?_⟩))
          go_ret
          exact ⟨by first | rfl | (simp; done) | (simp [*]; done), by repeat (first | exact Drawn0.refl _ | apply Drawn0.step)⟩
        · rw [if_neg c11] at H
          have c11b0 : decide (t233 < (Int.tmod a1 t230)) = false := decide_eq_false c11
          clear c11
          obtain rfl := Option.some.inj H
          go_enter Tryz.func33, Tryz.ntmps33
          go_wp2_with (first | ((with_reducible refine gate_callee (f := 23) rfl ?_); refine goesL_ (some 6) rfl rfl Tryz.func23 (by kernel_rfl) rfl #[.int .i64 a0] rfl (by (try simp only [List.map_toArray, List.map_cons, List.map_nil]); first | done | rfl | (simp only [List.length_drop, List.length_take]; rfl)) ?_; (with_reducible refine (assessorref11_Width.calls a0 true _ A3.out).mono ?_); rintro e w' ⟨rfl, ⟨nd, rfl⟩⟩; refine ⟨_, rfl, ?_⟩) | ((with_reducible refine gate_callee (f := 57) rfl ?_); refine goesL_ (some 10) rfl rfl Tryz.func57 (by kernel_rfl) rfl #[.int .i64 a0] rfl (by (try simp only [List.map_toArray, List.map_cons, List.map_nil]); first | done | rfl | (simp only [List.length_drop, List.length_take]; rfl)) ?_; (with_reducible refine (assessorref11_power.calls k a0 t230 _ A5.out).mono ?_); rintro e w' ⟨rfl, ⟨nd, rfl⟩⟩; refine ⟨_, rfl, ?_⟩) | ((with_reducible refine gate_callee (f := 24) rfl ?_); refine goesL_ (some 14) rfl rfl Tryz.func24 (by kernel_rfl) rfl #[.int .i64 a0] rfl (by (try simp only [List.map_toArray, List.map_cons, List.map_nil]); first | done | rfl | (simp only [List.length_drop, List.length_take]; rfl)) ?_; (with_reducible refine (assessorref11_Least.calls k a0 t231 _ A7.out).mono ?_); rintro e w' ⟨rfl, ⟨nd, rfl⟩⟩; refine ⟨_, rfl, ?_⟩) | ((with_reducible refine gate_callee (f := 25) rfl ?_); refine goesL_ (some 22) rfl rfl Tryz.func25 (by kernel_rfl) rfl #[.int .i64 a0] rfl (by (try simp only [List.map_toArray, List.map_cons, List.map_nil]); first | done | rfl | (simp only [List.length_drop, List.length_take]; rfl)) ?_; (with_reducible refine (assessorref11_Greatest.calls k a0 t233 _ A10.out).mono ?_); rintro e w' ⟨rfl, ⟨nd, rfl⟩⟩; refine ⟨_, rfl, ?_⟩))
          go_ret
          exact ⟨by first | rfl | (simp; done) | (simp [*]; done), by repeat (first | exact Drawn0.refl _ | apply Drawn0.step)⟩
  · replace c4 := Bool.eq_false_iff.mpr c4
    subst c4
    have H1 : (some 0) = some r := by rw [if_neg (show ¬ (false = true) by decide)] at H; exact H
    clear H
    have H := H1
    clear H1
    obtain rfl := Option.some.inj H
    go_enter Tryz.func33, Tryz.ntmps33
    go_wp2_with (first | ((with_reducible refine gate_callee (f := 23) rfl ?_); refine goesL_ (some 6) rfl rfl Tryz.func23 (by kernel_rfl) rfl #[.int .i64 a0] rfl (by (try simp only [List.map_toArray, List.map_cons, List.map_nil]); first | done | rfl | (simp only [List.length_drop, List.length_take]; rfl)) ?_; (with_reducible refine (assessorref11_Width.calls a0 false _ A3.out).mono ?_); rintro e w' ⟨rfl, ⟨nd, rfl⟩⟩; refine ⟨_, rfl, ?_⟩))
    go_ret
    exact ⟨by first | rfl | (simp; done) | (simp [*]; done), by repeat (first | exact Drawn0.refl _ | apply Drawn0.step)⟩
mutual
def assessorref36_Value.j0 : Nat → Int → Bool → Int → ByteArray → Int → Int → List (S24) → Option (Int × Bool)
  | 0, _, _, _, _, _, _, _ => none
  | k + 1, x0, x17, x236000, x236001, x236002, x236003, x236004 => if x17 = true then (some (0, false)) else (if x236000 = 24 then ((assessorref02_Number.f k x236001).bind fun bt238 => ((assessorref11_Wrap.f k x0 bt238.1).bind fun t240 => (some (t240, true)))) else (if x236000 = 28 then (if x236001.toList = ([45] : List UInt8) then (if 0 < (x236004.length : Int) then (assessorref36_Value.j1 k x0 (((rd_T24 x236004 0).f0) == 24) x236000 x236001 x236002 x236003 x236004) else (none)) else (assessorref36_Value.j1 k x0 false x236000 x236001 x236002 x236003 x236004)) else (assessorref36_Value.j1 k x0 false x236000 x236001 x236002 x236003 x236004)))
def assessorref36_Value.j1 : Nat → Int → Bool → Int → ByteArray → Int → Int → List (S24) → Option (Int × Bool)
  | 0, _, _, _, _, _, _, _ => none
  | k + 1, x0, x45, x236000, x236001, x236002, x236003, x236004 => if x45 = true then (if 0 < (x236004.length : Int) then ((assessorref36_Value.f k x0 ((rd_T24 x236004 0).f0) ((rd_T24 x236004 0).f1) ((rd_T24 x236004 0).f2) ((rd_T24 x236004 0).f3) ((rd_T24 x236004 0).f4)).bind fun bt243 => ((assessorref11_Wrap.f k x0 (wrap64 (-bt243.1))).bind fun t245 => (some (t245, true)))) else (none)) else (some (0, false))
def assessorref36_Value.f : Nat → Int → Int → ByteArray → Int → Int → List (S24) → Option (Int × Bool)
  | 0, _, _, _, _, _, _ => none
  | k + 1, a0, a1_0, a1_1, a1_2, a1_3, l1_4 => (assessorref11_Width.f a0).bind fun t236 => (if t236 = true then ((assessorref03_Expression.f k a1_0 a1_1 a1_2 a1_3 l1_4).bind fun t237 => (assessorref36_Value.j0 k a0 (!t237) a1_0 a1_1 a1_2 a1_3 l1_4)) else (assessorref36_Value.j0 k a0 true a1_0 a1_1 a1_2 a1_3 l1_4))
end
theorem assessorref36_Value.mono_l : ∀ k, (∀ y0 y1 y2 y3 y4 y5, LeO (assessorref36_Value.f k y0 y1 y2 y3 y4 y5) (assessorref36_Value.f (k + 1) y0 y1 y2 y3 y4 y5)) ∧ (∀ y0 y1 y2 y3 y4 y5 y6, LeO (assessorref36_Value.j0 k y0 y1 y2 y3 y4 y5 y6) (assessorref36_Value.j0 (k + 1) y0 y1 y2 y3 y4 y5 y6)) ∧ (∀ y0 y1 y2 y3 y4 y5 y6, LeO (assessorref36_Value.j1 k y0 y1 y2 y3 y4 y5 y6) (assessorref36_Value.j1 (k + 1) y0 y1 y2 y3 y4 y5 y6))
  | 0 => ⟨fun _ _ _ _ _ _ r h => by simp [assessorref36_Value.f] at h, fun _ _ _ _ _ _ _ r h => by simp [assessorref36_Value.j0] at h, fun _ _ _ _ _ _ _ r h => by simp [assessorref36_Value.j1] at h⟩
  | k + 1 => by
    obtain ⟨ih0, ih1, ih2⟩ := assessorref36_Value.mono_l k
    refine ⟨?_, ?_, ?_⟩
    · intro y0 y1 y2 y3 y4 y5
      unfold assessorref36_Value.f
      repeat' first
      | (with_reducible exact ih0 _ _ _ _ _ _)
      | (with_reducible exact ih1 _ _ _ _ _ _ _)
      | (with_reducible exact ih2 _ _ _ _ _ _ _)
      | (with_reducible exact assessorref02_Number.mono _ _)
      | (with_reducible exact assessorref03_Expression.mono _ _ _ _ _ _)
      | (with_reducible exact assessorref11_Wrap.mono _ _ _)
      | (with_reducible exact LeO.refl _)
      | (with_reducible exact LeO.none _)
      | (with_reducible refine LeO.ite ?_ ?_)
      | (with_reducible refine LeO.bind ?_ (fun _ => ?_))
      | exact ih0 _ _ _ _ _ _
      | exact ih1 _ _ _ _ _ _ _
      | exact ih2 _ _ _ _ _ _ _
      | exact assessorref02_Number.mono _ _
      | exact assessorref03_Expression.mono _ _ _ _ _ _
      | exact assessorref11_Wrap.mono _ _ _
      | exact LeO.none _
      | refine LeO.ite ?_ ?_
      | refine LeO.bind ?_ (fun _ => ?_)
    · intro y0 y1 y2 y3 y4 y5 y6
      unfold assessorref36_Value.j0
      repeat' first
      | (with_reducible exact ih0 _ _ _ _ _ _)
      | (with_reducible exact ih1 _ _ _ _ _ _ _)
      | (with_reducible exact ih2 _ _ _ _ _ _ _)
      | (with_reducible exact assessorref02_Number.mono _ _)
      | (with_reducible exact assessorref03_Expression.mono _ _ _ _ _ _)
      | (with_reducible exact assessorref11_Wrap.mono _ _ _)
      | (with_reducible exact LeO.refl _)
      | (with_reducible exact LeO.none _)
      | (with_reducible refine LeO.ite ?_ ?_)
      | (with_reducible refine LeO.bind ?_ (fun _ => ?_))
      | exact ih0 _ _ _ _ _ _
      | exact ih1 _ _ _ _ _ _ _
      | exact ih2 _ _ _ _ _ _ _
      | exact assessorref02_Number.mono _ _
      | exact assessorref03_Expression.mono _ _ _ _ _ _
      | exact assessorref11_Wrap.mono _ _ _
      | exact LeO.none _
      | refine LeO.ite ?_ ?_
      | refine LeO.bind ?_ (fun _ => ?_)
    · intro y0 y1 y2 y3 y4 y5 y6
      unfold assessorref36_Value.j1
      repeat' first
      | (with_reducible exact ih0 _ _ _ _ _ _)
      | (with_reducible exact ih1 _ _ _ _ _ _ _)
      | (with_reducible exact ih2 _ _ _ _ _ _ _)
      | (with_reducible exact assessorref02_Number.mono _ _)
      | (with_reducible exact assessorref03_Expression.mono _ _ _ _ _ _)
      | (with_reducible exact assessorref11_Wrap.mono _ _ _)
      | (with_reducible exact LeO.refl _)
      | (with_reducible exact LeO.none _)
      | (with_reducible refine LeO.ite ?_ ?_)
      | (with_reducible refine LeO.bind ?_ (fun _ => ?_))
      | exact ih0 _ _ _ _ _ _
      | exact ih1 _ _ _ _ _ _ _
      | exact ih2 _ _ _ _ _ _ _
      | exact assessorref02_Number.mono _ _
      | exact assessorref03_Expression.mono _ _ _ _ _ _
      | exact assessorref11_Wrap.mono _ _ _
      | exact LeO.none _
      | refine LeO.ite ?_ ?_
      | refine LeO.bind ?_ (fun _ => ?_)
theorem assessorref36_Value.mono : ∀ a0 a1 a2 a3 a4 a5 k, LeO (assessorref36_Value.f k a0 a1 a2 a3 a4 a5) (assessorref36_Value.f (k + 1) a0 a1 a2 a3 a4 a5) := by
  intro a0 a1 a2 a3 a4 a5 k
  obtain ⟨ih0, ih1, ih2⟩ := assessorref36_Value.mono_l k
  exact ih0 a0 a1 a2 a3 a4 a5
def value_isWidth.f (a0 : Int) : Option (Bool) := if a0 ≥ 2 then (some (decide (a0 ≤ 8))) else (some false)
set_option maxHeartbeats 8000000 in
set_option maxRecDepth 100000 in
theorem value_isWidth.calls (a0 : Int) (r : Bool) (w : World) (h : value_isWidth.f a0 = some r) :
    Calls Tryz.prog 55 #[.int .i64 a0] w fun e w' => e = .returned (.bool r) ∧ Drawn0 w w' := by
  have H : (if a0 ≥ 2 then (some (decide (a0 ≤ 8))) else (some false)) = some r := h
  clear h
  by_cases c2 : a0 ≥ 2
  · rw [if_pos c2] at H
    have c2b0 : decide (2 ≤ a0) = true := decide_eq_true c2
    clear c2
    obtain rfl := Option.some.inj H
    go_enter Tryz.func55, Tryz.ntmps55
    go_wp2
    go_ret
    exact ⟨by first | rfl | (simp; done) | (simp [*]; done), by repeat (first | exact Drawn0.refl _ | apply Drawn0.step)⟩
  · rw [if_neg c2] at H
    have c2b0 : decide (2 ≤ a0) = false := decide_eq_false c2
    clear c2
    obtain rfl := Option.some.inj H
    go_enter Tryz.func55, Tryz.ntmps55
    go_wp2
    go_ret
    exact ⟨by first | rfl | (simp; done) | (simp [*]; done), by repeat (first | exact Drawn0.refl _ | apply Drawn0.step)⟩
def value_Least.f (a0 : Int) : Option (Int) := (value_isWidth.f a0).bind fun t246 => (if t246 = true then (if 0 ≤ (wrap64 (a0 - 1)) then (some (shl .i64 (-1) (wrap64 (a0 - 1)))) else (none)) else (some 0))
set_option maxHeartbeats 8000000 in
set_option maxRecDepth 100000 in
theorem value_Least.calls (a0 : Int) (r : Int) (w : World) (h : value_Least.f a0 = some r) :
    Calls Tryz.prog 19 #[.int .i64 a0] w fun e w' => e = .returned (.int .i64 r) ∧ Drawn0 w w' := by
  have H : ((value_isWidth.f a0).bind fun t246 => (if t246 = true then (if 0 ≤ (wrap64 (a0 - 1)) then (some (shl .i64 (-1) (wrap64 (a0 - 1)))) else (none)) else (some 0))) = some r := h
  clear h
  replace H := Option.bind_eq_some_iff.mp H
  obtain ⟨t246, A20, H⟩ := H
  replace H : (if t246 = true then (if 0 ≤ (wrap64 (a0 - 1)) then (some (shl .i64 (-1) (wrap64 (a0 - 1)))) else (none)) else (some 0)) = some r := H
  have A2 := Aside0.mk A20
  clear A20
  by_cases c3 : t246 = true
  · subst c3
    have H1 : (if 0 ≤ (wrap64 (a0 - 1)) then (some (shl .i64 (-1) (wrap64 (a0 - 1)))) else (none)) = some r := by rw [if_pos rfl] at H; exact H
    clear H
    have H := H1
    clear H1
    obtain ⟨ji4, hji4⟩ : ∃ j_ : Int, (wrap64 (a0 - 1)) = j_ := ⟨_, rfl⟩
    replace H : (if 0 ≤ (ji4) then (some (shl .i64 (-1) (ji4))) else (none)) = some r := by first | (rw [hji4] at H; exact H) | (simp only [hji4] at H ⊢; exact H)
    (try rw [hji4] at A2)
    have hji4w : (IntKind.i64.wrap (a0 - 1)) = ji4 := (i64_w _).trans hji4
    by_cases c5 : 0 ≤ (ji4)
    · rw [if_pos c5] at H
      have c5b0 := eq_true c5
      have c5b1 : decide (0 ≤ (ji4)) = true := decide_eq_true c5
      clear c5
      obtain ⟨ji6, hji6⟩ : ∃ j_ : Int, (shl .i64 (-1) (ji4)) = j_ := ⟨_, rfl⟩
      replace H : (some ji6) = some r := by first | (rw [hji6] at H; exact H) | (simp only [hji6] at H ⊢; exact H)
      (try rw [hji6] at A2)
      have hji6_ : (IntKind.i64.wrap ((-1) * 2 ^ min (ji4).toNat 64)) = ji6 := hji6
      have hji6z : (ji4) ≤ 64 → (IntKind.i64.wrap ((-1) * 2 ^ (ji4).toNat)) = ji6 := shl_small hji6
      have hji6y : (wrap64 ((-1) * 2 ^ min (ji4).toNat 64)) = ji6 := (i64_w _).symm.trans hji6_
      have hji6x : (ji4) ≤ 64 → (wrap64 ((-1) * 2 ^ (ji4).toNat)) = ji6 := fun h_ => (i64_w _).symm.trans (hji6z h_)
      obtain rfl := Option.some.inj H
      go_enter Tryz.func19, Tryz.ntmps19
      go_wp2_with (first | ((with_reducible refine gate_callee (f := 55) rfl ?_); refine goesL_ (some 4) rfl rfl Tryz.func55 (by kernel_rfl) rfl #[.int .i64 a0] rfl (by (try simp only [List.map_toArray, List.map_cons, List.map_nil]); first | done | rfl | (simp only [List.length_drop, List.length_take]; rfl)) ?_; (with_reducible refine (value_isWidth.calls a0 true _ A2.out).mono ?_); rintro e w' ⟨rfl, ⟨nd, rfl⟩⟩; refine ⟨_, rfl, ?_⟩))
      go_ret
      have e1 : wrap64 (-2 ^ min ji4.toNat 64) = ji6 := by rw [← hji6y, Int.neg_mul, Int.one_mul]
      exact ⟨by show Ending.returned (Value.int .i64 (wrap64 (-2 ^ min ji4.toNat 64))) = _; rw [e1], by repeat (first | exact Drawn0.refl _ | apply Drawn0.step)⟩
    · rw [if_neg c5] at H
      exact absurd H (by simp)
  · replace c3 := Bool.eq_false_iff.mpr c3
    subst c3
    have H1 : (some 0) = some r := by rw [if_neg (show ¬ (false = true) by decide)] at H; exact H
    clear H
    have H := H1
    clear H1
    obtain rfl := Option.some.inj H
    go_enter Tryz.func19, Tryz.ntmps19
    go_wp2_with (first | ((with_reducible refine gate_callee (f := 55) rfl ?_); refine goesL_ (some 4) rfl rfl Tryz.func55 (by kernel_rfl) rfl #[.int .i64 a0] rfl (by (try simp only [List.map_toArray, List.map_cons, List.map_nil]); first | done | rfl | (simp only [List.length_drop, List.length_take]; rfl)) ?_; (with_reducible refine (value_isWidth.calls a0 false _ A2.out).mono ?_); rintro e w' ⟨rfl, ⟨nd, rfl⟩⟩; refine ⟨_, rfl, ?_⟩))
    go_ret
    exact ⟨by first | rfl | (simp; done) | (simp [*]; done), by repeat (first | exact Drawn0.refl _ | apply Drawn0.step)⟩
def value_Greatest.f (a0 : Int) : Option (Int) := (value_isWidth.f a0).bind fun t247 => (if t247 = true then (if 0 ≤ (wrap64 (a0 - 1)) then (some (wrap64 ((shl .i64 1 (wrap64 (a0 - 1))) - 1))) else (none)) else (some 0))
set_option maxHeartbeats 8000000 in
set_option maxRecDepth 100000 in
theorem value_Greatest.calls (a0 : Int) (r : Int) (w : World) (h : value_Greatest.f a0 = some r) :
    Calls Tryz.prog 20 #[.int .i64 a0] w fun e w' => e = .returned (.int .i64 r) ∧ Drawn0 w w' := by
  have H : ((value_isWidth.f a0).bind fun t247 => (if t247 = true then (if 0 ≤ (wrap64 (a0 - 1)) then (some (wrap64 ((shl .i64 1 (wrap64 (a0 - 1))) - 1))) else (none)) else (some 0))) = some r := h
  clear h
  replace H := Option.bind_eq_some_iff.mp H
  obtain ⟨t247, A20, H⟩ := H
  replace H : (if t247 = true then (if 0 ≤ (wrap64 (a0 - 1)) then (some (wrap64 ((shl .i64 1 (wrap64 (a0 - 1))) - 1))) else (none)) else (some 0)) = some r := H
  have A2 := Aside0.mk A20
  clear A20
  by_cases c3 : t247 = true
  · subst c3
    have H1 : (if 0 ≤ (wrap64 (a0 - 1)) then (some (wrap64 ((shl .i64 1 (wrap64 (a0 - 1))) - 1))) else (none)) = some r := by rw [if_pos rfl] at H; exact H
    clear H
    have H := H1
    clear H1
    obtain ⟨ji4, hji4⟩ : ∃ j_ : Int, (wrap64 (a0 - 1)) = j_ := ⟨_, rfl⟩
    replace H : (if 0 ≤ (ji4) then (some (wrap64 ((shl .i64 1 (ji4)) - 1))) else (none)) = some r := by first | (rw [hji4] at H; exact H) | (simp only [hji4] at H ⊢; exact H)
    (try rw [hji4] at A2)
    have hji4w : (IntKind.i64.wrap (a0 - 1)) = ji4 := (i64_w _).trans hji4
    by_cases c5 : 0 ≤ (ji4)
    · rw [if_pos c5] at H
      have c5b0 := eq_true c5
      have c5b1 : decide (0 ≤ (ji4)) = true := decide_eq_true c5
      clear c5
      obtain ⟨ji6, hji6⟩ : ∃ j_ : Int, (shl .i64 1 (ji4)) = j_ := ⟨_, rfl⟩
      replace H : (some (wrap64 ((ji6) - 1))) = some r := by first | (rw [hji6] at H; exact H) | (simp only [hji6] at H ⊢; exact H)
      (try rw [hji6] at A2)
      have hji6_ : (IntKind.i64.wrap (1 * 2 ^ min (ji4).toNat 64)) = ji6 := hji6
      have hji6z : (ji4) ≤ 64 → (IntKind.i64.wrap (1 * 2 ^ (ji4).toNat)) = ji6 := shl_small hji6
      have hji6u : (IntKind.i64.wrap (2 ^ min (ji4).toNat 64)) = ji6 := by have h_ := hji6_; rw [Int.one_mul] at h_; exact h_
      have hji6v : (ji4) ≤ 64 → (IntKind.i64.wrap (2 ^ (ji4).toNat)) = ji6 := fun hle_ => by have h_ := hji6z hle_; rw [Int.one_mul] at h_; exact h_
      have hji6y : (wrap64 (1 * 2 ^ min (ji4).toNat 64)) = ji6 := (i64_w _).symm.trans hji6_
      have hji6x : (ji4) ≤ 64 → (wrap64 (1 * 2 ^ (ji4).toNat)) = ji6 := fun h_ => (i64_w _).symm.trans (hji6z h_)
      obtain rfl := Option.some.inj H
      go_enter Tryz.func20, Tryz.ntmps20
      go_wp2_with (first | ((with_reducible refine gate_callee (f := 55) rfl ?_); refine goesL_ (some 4) rfl rfl Tryz.func55 (by kernel_rfl) rfl #[.int .i64 a0] rfl (by (try simp only [List.map_toArray, List.map_cons, List.map_nil]); first | done | rfl | (simp only [List.length_drop, List.length_take]; rfl)) ?_; (with_reducible refine (value_isWidth.calls a0 true _ A2.out).mono ?_); rintro e w' ⟨rfl, ⟨nd, rfl⟩⟩; refine ⟨_, rfl, ?_⟩))
      go_ret
      exact ⟨by first | rfl | (simp; done) | (simp only [← hji4, ← hji6] <;> (first | rfl | simp)) | (simp [*]; done), by repeat (first | exact Drawn0.refl _ | apply Drawn0.step)⟩
    · rw [if_neg c5] at H
      exact absurd H (by simp)
  · replace c3 := Bool.eq_false_iff.mpr c3
    subst c3
    have H1 : (some 0) = some r := by rw [if_neg (show ¬ (false = true) by decide)] at H; exact H
    clear H
    have H := H1
    clear H1
    obtain rfl := Option.some.inj H
    go_enter Tryz.func20, Tryz.ntmps20
    go_wp2_with (first | ((with_reducible refine gate_callee (f := 55) rfl ?_); refine goesL_ (some 4) rfl rfl Tryz.func55 (by kernel_rfl) rfl #[.int .i64 a0] rfl (by (try simp only [List.map_toArray, List.map_cons, List.map_nil]); first | done | rfl | (simp only [List.length_drop, List.length_take]; rfl)) ?_; (with_reducible refine (value_isWidth.calls a0 false _ A2.out).mono ?_); rintro e w' ⟨rfl, ⟨nd, rfl⟩⟩; refine ⟨_, rfl, ?_⟩))
    go_ret
    exact ⟨by first | rfl | (simp; done) | (simp [*]; done), by repeat (first | exact Drawn0.refl _ | apply Drawn0.step)⟩
def value_Wrap.f (a0 : Int) (a1 : Int) : Option (Int) := (value_isWidth.f a0).bind fun t248 => (if t248 = true then (if 0 ≤ (wrap64 (64 - a0)) then (some (shr .i64 (shl .i64 a1 (wrap64 (64 - a0))) (wrap64 (64 - a0)))) else (none)) else (some 0))
set_option maxHeartbeats 8000000 in
set_option maxRecDepth 100000 in
theorem value_Wrap.calls (a0 : Int) (a1 : Int) (r : Int) (w : World) (h : value_Wrap.f a0 a1 = some r) :
    Calls Tryz.prog 30 #[.int .i64 a0, .int .i64 a1] w fun e w' => e = .returned (.int .i64 r) ∧ Drawn0 w w' := by
  have H : ((value_isWidth.f a0).bind fun t248 => (if t248 = true then (if 0 ≤ (wrap64 (64 - a0)) then (some (shr .i64 (shl .i64 a1 (wrap64 (64 - a0))) (wrap64 (64 - a0)))) else (none)) else (some 0))) = some r := h
  clear h
  replace H := Option.bind_eq_some_iff.mp H
  obtain ⟨t248, A30, H⟩ := H
  replace H : (if t248 = true then (if 0 ≤ (wrap64 (64 - a0)) then (some (shr .i64 (shl .i64 a1 (wrap64 (64 - a0))) (wrap64 (64 - a0)))) else (none)) else (some 0)) = some r := H
  have A3 := Aside0.mk A30
  clear A30
  by_cases c4 : t248 = true
  · subst c4
    have H1 : (if 0 ≤ (wrap64 (64 - a0)) then (some (shr .i64 (shl .i64 a1 (wrap64 (64 - a0))) (wrap64 (64 - a0)))) else (none)) = some r := by rw [if_pos rfl] at H; exact H
    clear H
    have H := H1
    clear H1
    obtain ⟨ji5, hji5⟩ : ∃ j_ : Int, (wrap64 (64 - a0)) = j_ := ⟨_, rfl⟩
    replace H : (if 0 ≤ (ji5) then (some (shr .i64 (shl .i64 a1 (ji5)) (ji5))) else (none)) = some r := by first | (rw [hji5] at H; exact H) | (simp only [hji5] at H ⊢; exact H)
    (try rw [hji5] at A3)
    have hji5w : (IntKind.i64.wrap (64 - a0)) = ji5 := (i64_w _).trans hji5
    by_cases c6 : 0 ≤ (ji5)
    · rw [if_pos c6] at H
      have c6b0 := eq_true c6
      have c6b1 : decide (0 ≤ (ji5)) = true := decide_eq_true c6
      clear c6
      obtain ⟨ji7, hji7⟩ : ∃ j_ : Int, (shl .i64 a1 (ji5)) = j_ := ⟨_, rfl⟩
      replace H : (some (shr .i64 (ji7) (ji5))) = some r := by first | (rw [hji7] at H; exact H) | (simp only [hji7] at H ⊢; exact H)
      (try rw [hji7] at A3)
      have hji7_ : (IntKind.i64.wrap (a1 * 2 ^ min (ji5).toNat 64)) = ji7 := hji7
      have hji7z : (ji5) ≤ 64 → (IntKind.i64.wrap (a1 * 2 ^ (ji5).toNat)) = ji7 := shl_small hji7
      have hji7y : (wrap64 (a1 * 2 ^ min (ji5).toNat 64)) = ji7 := (i64_w _).symm.trans hji7_
      have hji7x : (ji5) ≤ 64 → (wrap64 (a1 * 2 ^ (ji5).toNat)) = ji7 := fun h_ => (i64_w _).symm.trans (hji7z h_)
      have c8b0 := eq_true (of_decide_eq_true (by first | (with_reducible assumption) | assumption) : 0 ≤ (ji5))
      obtain ⟨ji9, hji9⟩ : ∃ j_ : Int, (shr .i64 (ji7) (ji5)) = j_ := ⟨_, rfl⟩
      replace H : (some ji9) = some r := by first | (rw [hji9] at H; exact H) | (simp only [hji9] at H ⊢; exact H)
      (try rw [hji9] at A3)
      have hji9_ : ((ji7) / 2 ^ min (ji5).toNat 64) = ji9 := hji9
      have hji9z : (ji5) ≤ 64 → ((ji7) / 2 ^ (ji5).toNat) = ji9 := shr_small hji9
      obtain rfl := Option.some.inj H
      go_enter Tryz.func30, Tryz.ntmps30
      go_wp2_with (first | ((with_reducible refine gate_callee (f := 55) rfl ?_); refine goesL_ (some 7) rfl rfl Tryz.func55 (by kernel_rfl) rfl #[.int .i64 a0] rfl (by (try simp only [List.map_toArray, List.map_cons, List.map_nil]); first | done | rfl | (simp only [List.length_drop, List.length_take]; rfl)) ?_; (with_reducible refine (value_isWidth.calls a0 true _ A3.out).mono ?_); rintro e w' ⟨rfl, ⟨nd, rfl⟩⟩; refine ⟨_, rfl, ?_⟩))
      go_ret
      exact ⟨by first | rfl | (simp; done) | (simp only [← hji5, ← hji7, ← hji9] <;> (first | rfl | simp)) | (simp [*]; done), by repeat (first | exact Drawn0.refl _ | apply Drawn0.step)⟩
    · rw [if_neg c6] at H
      exact absurd H (by simp)
  · replace c4 := Bool.eq_false_iff.mpr c4
    subst c4
    have H1 : (some 0) = some r := by rw [if_neg (show ¬ (false = true) by decide)] at H; exact H
    clear H
    have H := H1
    clear H1
    obtain rfl := Option.some.inj H
    go_enter Tryz.func30, Tryz.ntmps30
    go_wp2_with (first | ((with_reducible refine gate_callee (f := 55) rfl ?_); refine goesL_ (some 7) rfl rfl Tryz.func55 (by kernel_rfl) rfl #[.int .i64 a0] rfl (by (try simp only [List.map_toArray, List.map_cons, List.map_nil]); first | done | rfl | (simp only [List.length_drop, List.length_take]; rfl)) ?_; (with_reducible refine (value_isWidth.calls a0 false _ A3.out).mono ?_); rintro e w' ⟨rfl, ⟨nd, rfl⟩⟩; refine ⟨_, rfl, ?_⟩))
    go_ret
    exact ⟨by first | rfl | (simp; done) | (simp [*]; done), by repeat (first | exact Drawn0.refl _ | apply Drawn0.step)⟩
end Go.Proofs.YtdnclnacneakbaaGreatDoor.PSmall
end
