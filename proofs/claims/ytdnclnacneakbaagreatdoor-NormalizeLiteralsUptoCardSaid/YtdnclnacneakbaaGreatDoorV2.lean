/- The reference's Value, way by way, and that both Values tell the same. -/
import Derived.Test.YtdnclnacneakbaaGreatDoorL3
import Derived.Test.YtdnclnacneakbaaGreatDoorL4
import Derived.Test.YtdnclnacneakbaaGreatDoorV1
set_option linter.unusedVariables false
set_option linter.unusedSimpArgs false
set_option linter.unusedSectionVars false
section
namespace Go.Proofs.YtdnclnacneakbaaGreatDoor.PSmall
open Go.RowKit Go.Shelf Go.Proofs.YtdnclnacneakbaaGreatDoorW.PrintWords Go.Proofs.YtdnclnacneakbaaGreatDoorW.PrintLast Go.Proofs.YtdnclnacneakbaaGreatDoorW.PrintMore
set_option linter.unusedVariables false
set_option linter.unusedSimpArgs false
theorem kid_mem {l : List S24} {k : Nat} (h : k < l.length) : rd_T24 l (k : Int) ∈ l := by
  unfold rd_T24
  rw [Int.toNat_natCast, List.getD_eq_getElem?_getD, List.getElem?_eq_getElem h]
  exact List.getElem_mem h
theorem keepc {W X : World} {a : Addr} {v : Value} (hb : Below W.heap.size W X) (h : W.cell? a = some v) : X.cell? a = some v := (hb.cell (World.block_lt_of_cell? W _ h)).trans h
set_option maxRecDepth 100000 in
set_option maxHeartbeats 16000000 in
theorem shape_step (t : S24) (ht : Tiny t) (ih : ∀ x ∈ t.f4, ∀ (A : Option Addr) (c : Nat) (W : World), k24.C W A x.f4.length x.f4 → x.f4.length ≤ c →
      Calls Tryz.prog 63 #[.agg #[.int .i64 x.f0, .string x.f1, .int .i64 x.f2, .int .i64 x.f3, .slice A x.f4.length c]] W (SomeBool W)) (A : Option Addr) (c : Nat) (w : World) (hC : k24.C w A t.f4.length t.f4) (hc : t.f4.length ≤ c) :
    Calls Tryz.prog 63 #[.agg #[.int .i64 t.f0, .string t.f1, .int .i64 t.f2, .int .i64 t.f3, .slice A t.f4.length c]] w (SomeBool w) := by
  obtain ⟨z, hz, hzb, hzx⟩ := node_cells w t.f0 t.f1 t.f2 t.f3 A t.f4.length c
  have hzl := (Array.getElem?_eq_some_iff.1 hzx).1
  obtain ⟨f0, f1, f2, f3, f4⟩ := five_cells hzx (Below.refl _ _)
  have hlen := ht.len
  have HI := Aside0.mk ih
  clear ih
  go_enter Tryz.func63, Tryz.ntmps63
  go_wp2_with (first | (go_at_call 119; refine (text_any _ _ _ _ _ _ _ _).mono ?_; rintro e w1 ⟨⟨b1, rfl⟩, hb1⟩; clear f0 f1 f2 f3 f4; have bb1 := below_then hzb hb1; have x1 : w1.heap[w.heap.size]? = _ := (hb1.block _ hzl).trans hzx; obtain ⟨f0, f1, f2, f3, f4⟩ := five_cells x1 (Below.refl _ _); cases b1) | (go_at_call 120; refine (most_any _ _).mono ?_; rintro e w2 ⟨⟨a1, a2, rfl⟩, hb2⟩; clear f0 f1 f2 f3 f4; have bb2 := below_then bb1 hb2; have x2 : w2.heap[w.heap.size]? = _ := (hb2.block _ (Array.getElem?_eq_some_iff.1 x1).1).trans x1; obtain ⟨f0, f1, f2, f3, f4⟩ := five_cells x2 (Below.refl _ _)))
  all_goals first | (go_ret; first | exact SomeBool.mk _ hzb | exact SomeBool.mk _ bb2 | exact SomeBool.mk _ bb1; done) | skip
  have HB := Aside0.mk bb2
  have HX := Aside0.mk x2
  clear bb2 bb1 x2 x1 hb1 hb2 f0 f1 f2 f3 f4 hzb hzx hzl hz
  go_loopw [5] (fun i wr => ∃ k : Nat, k ≤ t.f4.length ∧ i = .int .i64 k ∧ Aside0 (Below w.heap.size w wr) ∧ Aside0 (wr.heap[w.heap.size]? = some (.cells #[.int .i64 t.f0, .string t.f1, .int .i64 t.f2, .int .i64 t.f3, .slice A t.f4.length c] 24 (0, 0)))) (fun i _ => t.f4.length - (intOf i).toNat)
  case atStart => exact ⟨0, Nat.zero_le _, rfl, HB, HX⟩
  case round =>
    clear HB HX
    obtain ⟨k, hk, rfl, HB, HX⟩ := hrel
    obtain ⟨f0, f1, f2, f3, f4⟩ := five_cells HX.out (Below.refl _ _)
    by_cases hlt : k < t.f4.length
    · have p1 : ((0 : Int) ≤ k) = True := eq_true (by omega)
      have p2 : ((k : Int) < t.f4.length) = True := eq_true (by omega)
      have c1 : decide ((k : Int) < t.f4.length) = true := decide_eq_true (by omega)
      obtain ⟨ad, A4, c4, rfl, hx0, hx1, hx2, hx3, hx4, hl4, hi4⟩ := at_T24 (Kd.C_below hC HB.out) (k : Int) (by omega) (by omega)
      have hin : ∀ W, Below wr.heap.size wr W → Calls Tryz.prog 63 #[.agg #[.int .i64 (rd_T24 t.f4 (k : Int)).f0, .string (rd_T24 t.f4 (k : Int)).f1, .int .i64 (rd_T24 t.f4 (k : Int)).f2, .int .i64 (rd_T24 t.f4 (k : Int)).f3, .slice A4 (rd_T24 t.f4 (k : Int)).f4.length c4]] W (SomeBool W) := fun W hb => HI.out _ (kid_mem hlt) A4 c4 W (Kd.C_below hi4 hb) hl4
      have HN := Aside0.mk hin
      have HW := Aside0.mk (Below.refl wr.heap.size wr)
      clear hin
      generalize rd_T24 t.f4 (k : Int) = u at *
      simp only [Int.toNat_natCast] at hx0 hx1 hx2 hx3 hx4
      have kb := fun W => kid_is t.f0 (k : Int) u.f0 u.f1 u.f2 u.f3 A4 u.f4.length c4 W
      generalize kidB t.f0 (k : Int) u.f0 u.f1 = kv at kb
      have HKB := Aside0.mk kb
      clear kb
      cases kv
      · go_wp2
        refine wp_region_held_drew (S := (fun W' => W'.cell? ⟨w.heap.size, 0, none⟩ = some (.int .i64 t.f0) ∧ W'.cell? ⟨w.heap.size, 4, none⟩ = some (.slice (some ad) t.f4.length c) ∧ W'.cell? (ad.add (k * 5)) = some (.int .i64 u.f0) ∧ W'.cell? ⟨(ad.add (k * 5)).block, (ad.add (k * 5)).off + 1, none⟩ = some (.string u.f1) ∧ W'.cell? ⟨(ad.add (k * 5)).block, (ad.add (k * 5)).off + 2, none⟩ = some (.int .i64 u.f2) ∧ W'.cell? ⟨(ad.add (k * 5)).block, (ad.add (k * 5)).off + 3, none⟩ = some (.int .i64 u.f3) ∧ W'.cell? ⟨(ad.add (k * 5)).block, (ad.add (k * 5)).off + 4, none⟩ = some (.slice A4 u.f4.length c4) ∧ Below wr.heap.size wr W')) (by kernel_rfl) ?_ (fun hHeld => ?_)
        · exact ⟨f0, f4, hx0, hx1, hx2, hx3, hx4, (Below.refl _ _).drew⟩
        refine wpAnyH_take (i := 0) (v := ?v0) rfl (by kernel_rfl) (by kernel_rfl) (by kernel_rfl) (fun _ _ _ h => h) (Or.inl ⟨by rfl, ?hy0⟩) (by assumption) ?rest0
        case hy0 => intro w' hSw; (try dsimp only at hSw); go_simp; (try (with_reducible rfl))
        try simp only [Act.put, List.setIfInBounds_toArray, List.set_cons_zero, List.set_cons_succ]
        refine wpAnyH_take (i := 1) (v := ?v1) rfl (by kernel_rfl) (by kernel_rfl) (by kernel_rfl) (fun _ _ _ h => h) (Or.inl ⟨by rfl, ?hy1⟩) (by assumption) ?rest1
        case hy1 => intro w' hSw; (try dsimp only at hSw); go_simp; (try (with_reducible rfl))
        try simp only [Act.put, List.setIfInBounds_toArray, List.set_cons_zero, List.set_cons_succ]
        refine wpAnyH_take (i := 2) (v := ?v2) rfl (by kernel_rfl) (by kernel_rfl) (by kernel_rfl) (fun _ _ _ h => h) (Or.inl ⟨by rfl, ?hy2⟩) (by assumption) ?rest2
        case hy2 => intro w' hSw; (try dsimp only at hSw); go_simp; (try (with_reducible rfl))
        try simp only [Act.put, List.setIfInBounds_toArray, List.set_cons_zero, List.set_cons_succ]
        refine wpAnyH_take (i := 3) (v := ?v3) rfl (by kernel_rfl) (by kernel_rfl) (by kernel_rfl) (fun _ _ _ h => h) (Or.inl ⟨by rfl, ?hy3⟩) (by assumption) ?rest3
        case hy3 => intro w' hSw; (try dsimp only at hSw); go_simp; (try (with_reducible rfl))
        try simp only [Act.put, List.setIfInBounds_toArray, List.set_cons_zero, List.set_cons_succ]
        refine wpAnyH_take (i := 4) (v := ?v4) rfl (by kernel_rfl) (by kernel_rfl) (by kernel_rfl) (fun _ _ _ h => h) (Or.inl ⟨by rfl, ?hy4⟩) (by assumption) ?rest4
        case hy4 => intro w' hSw; (try dsimp only at hSw); go_simp; (try (with_reducible rfl))
        try simp only [Act.put, List.setIfInBounds_toArray, List.set_cons_zero, List.set_cons_succ]
        refine wpAnyH_take (i := 5) (v := ?v5) rfl (by kernel_rfl) (by kernel_rfl) (by kernel_rfl) (fun _ _ _ h => h) (Or.inl ⟨by rfl, ?hy5⟩) (by assumption) ?rest5
        case hy5 => intro w' hSw; (try dsimp only at hSw); go_simp; (try (with_reducible rfl))
        try simp only [Act.put, List.setIfInBounds_toArray, List.set_cons_zero, List.set_cons_succ]
        refine wpAnyH_take (i := 6) (v := ?v6) rfl (by kernel_rfl) (by kernel_rfl) (by kernel_rfl) (fun _ _ _ h => h) (Or.inl ⟨by rfl, ?hy6⟩) (by assumption) ?rest6
        case hy6 => intro w' hSw; (try dsimp only at hSw); go_simp; (try (with_reducible rfl))
        try simp only [Act.put, List.setIfInBounds_toArray, List.set_cons_zero, List.set_cons_succ]
        refine wpAnyH_take (i := 7) (v := ?v7) rfl (by kernel_rfl) (by kernel_rfl) (by kernel_rfl) (fun _ _ _ h => h) (Or.inl ⟨by rfl, ?hy7⟩) (by assumption) ?rest7
        case hy7 => intro w' hSw; (try dsimp only at hSw); go_simp; (try (with_reducible rfl))
        try simp only [Act.put, List.setIfInBounds_toArray, List.set_cons_zero, List.set_cons_succ]
        refine wpAnyH_ready (rs := [8]) (by kernel_rfl) (by simp) ?_
        refine AllReadyH.cons rfl (fun K hK => ?_) AllReadyH.nil
        go_simp
        go_at_call 121
        refine (HKB.out _).mono ?_
        rintro e w9 ⟨rfl, hb1⟩
        refine hK.out _ _ ?_ (fun hHeld => ?_)
        · exact ⟨keepc hb1 f0, keepc hb1 f4, keepc hb1 hx0, keepc hb1 hx1, keepc hb1 hx2, keepc hb1 hx3, keepc hb1 hx4, below_then (Below.refl _ _).drew hb1⟩
        clear hK K
        try simp only [Act.put, List.setIfInBounds_toArray, List.set_cons_zero, List.set_cons_succ]
        refine wpAnyH_take (i := 9) (v := ?v9) rfl (by kernel_rfl) (by kernel_rfl) (by kernel_rfl) (fun _ _ _ h => h) (Or.inl ⟨by rfl, ?hy9⟩) (by assumption) ?rest9
        case hy9 => intro w' hSw; (try dsimp only at hSw); go_simp; (try (with_reducible rfl))
        try simp only [Act.put, List.setIfInBounds_toArray, List.set_cons_zero, List.set_cons_succ]
        refine wpAnyH_take (i := 10) (v := ?v10) rfl (by kernel_rfl) (by kernel_rfl) (by kernel_rfl) (fun _ _ _ h => h) (Or.inl ⟨by rfl, ?hy10⟩) (by assumption) ?rest10
        case hy10 => intro w' hSw; (try dsimp only at hSw); go_simp; (try (with_reducible rfl))
        try simp only [Act.put, List.setIfInBounds_toArray, List.set_cons_zero, List.set_cons_succ]
        refine wpAnyH_take (i := 11) rfl (by kernel_rfl) (by kernel_rfl) (by kernel_rfl) (fun _ _ _ h => h) (Or.inr ⟨by rfl, rfl⟩) (by assumption) ?_
        try simp only [Act.put, List.setIfInBounds_toArray, List.set_cons_zero, List.set_cons_succ]
        refine wpAnyH_take (i := 12) rfl (by kernel_rfl) (by kernel_rfl) (by kernel_rfl) (fun _ _ _ h => h) (Or.inr ⟨by rfl, rfl⟩) (by assumption) ?_
        try simp only [Act.put, List.setIfInBounds_toArray, List.set_cons_zero, List.set_cons_succ]
        refine wpAnyH_take (i := 13) rfl (by kernel_rfl) (by kernel_rfl) (by kernel_rfl) (fun _ _ _ h => h) (Or.inr ⟨by rfl, rfl⟩) (by assumption) ?_
        try simp only [Act.put, List.setIfInBounds_toArray, List.set_cons_zero, List.set_cons_succ]
        refine wpAnyH_take (i := 14) rfl (by kernel_rfl) (by kernel_rfl) (by kernel_rfl) (fun _ _ _ h => h) (Or.inr ⟨by rfl, rfl⟩) (by assumption) ?_
        try simp only [Act.put, List.setIfInBounds_toArray, List.set_cons_zero, List.set_cons_succ]
        refine wpAnyH_take (i := 15) rfl (by kernel_rfl) (by kernel_rfl) (by kernel_rfl) (fun _ _ _ h => h) (Or.inr ⟨by rfl, rfl⟩) (by assumption) ?_
        try simp only [Act.put, List.setIfInBounds_toArray, List.set_cons_zero, List.set_cons_succ]
        refine wpAnyH_ready (rs := [16]) (by kernel_rfl) (by simp) ?_
        refine AllReadyH.cons rfl (fun K hK => ?_) AllReadyH.nil
        go_simp
        refine hK.out _ _ ?_ (fun hHeld => ?_)
        · exact ⟨keepc hb1 f0, keepc hb1 f4, keepc hb1 hx0, keepc hb1 hx1, keepc hb1 hx2, keepc hb1 hx3, keepc hb1 hx4, below_then (Below.refl _ _).drew hb1⟩
        clear hK K
        refine wpAnyH_take (i := 17) rfl (by kernel_rfl) (by kernel_rfl) (by kernel_rfl) (fun _ _ _ h => h) (Or.inr ⟨by rfl, rfl⟩) (by assumption) ?_
        try simp only [Act.put, List.setIfInBounds_toArray, List.set_cons_zero, List.set_cons_succ]
        refine wpAnyH_take (i := 18) (v := ?v18) rfl (by kernel_rfl) (by kernel_rfl) (by kernel_rfl) (fun _ _ _ h => h) (Or.inl ⟨by rfl, ?hy18⟩) (by assumption) ?rest18
        case hy18 => intro w' hSw; (try dsimp only at hSw); go_simp; (try (with_reducible rfl))
        try simp only [Act.put, List.setIfInBounds_toArray, List.set_cons_zero, List.set_cons_succ]
        refine wpAnyH_done (by kernel_rfl) ?_ _
        all_goals go_wp2
        all_goals go_ret
        all_goals exact SomeBool.mk _ (below_then HB.out (below_then (Below.refl _ _).drew hb1))
      · go_wp2
        go_region_held3 (fun W' => W'.cell? ⟨w.heap.size, 0, none⟩ = some (.int .i64 t.f0) ∧ W'.cell? ⟨w.heap.size, 4, none⟩ = some (.slice (some ad) t.f4.length c) ∧ W'.cell? (ad.add (k * 5)) = some (.int .i64 u.f0) ∧ W'.cell? ⟨(ad.add (k * 5)).block, (ad.add (k * 5)).off + 1, none⟩ = some (.string u.f1) ∧ W'.cell? ⟨(ad.add (k * 5)).block, (ad.add (k * 5)).off + 2, none⟩ = some (.int .i64 u.f2) ∧ W'.cell? ⟨(ad.add (k * 5)).block, (ad.add (k * 5)).off + 3, none⟩ = some (.int .i64 u.f3) ∧ W'.cell? ⟨(ad.add (k * 5)).block, (ad.add (k * 5)).off + 4, none⟩ = some (.slice A4 u.f4.length c4) ∧ Below wr.heap.size wr W')
          (first | exact ⟨f0, f4, hx0, hx1, hx2, hx3, hx4, (Below.refl _ _).drew⟩ | (go_split_ands; refine ⟨?_, ?_, ?_, ?_, ?_, ?_, ?_, ?_⟩ <;> first | exact keepc hb1 (by assumption) | exact below_then (by assumption) hb1) | exact ⟨keepc hb1 f0, keepc hb1 f4, keepc hb1 hx0, keepc hb1 hx1, keepc hb1 hx2, keepc hb1 hx3, keepc hb1 hx4, below_then (Below.refl _ _).drew hb1⟩)
          (first | (go_at_call 121; refine (HKB.out _).mono ?_; rintro e w9 ⟨rfl, hb1⟩) | (go_at_call 63; refine (HN.out _ (by first | assumption | (go_split_ands; assumption))).mono ?_; rintro e w9 ⟨⟨b1, rfl⟩, hb1⟩))
        have hbw : Below wr.heap.size wr w9 := by go_split_ands; assumption
        have HX9 := Aside0.mk ((hbw.block _ (Array.getElem?_eq_some_iff.1 HX.out).1).trans HX.out)
        have HB9 := Aside0.mk (below_then HB.out hbw)
        clear hbw
        cases b1
        · go_wp2
          go_ret
          exact SomeBool.mk _ HB9.out
        · go_wp2
          go_roundw
          case rel => exact ⟨k + 1, by omega, by go_num, HB9, HX9⟩
          case measure => simp [intOf]; omega
    · go_wp2
      go_ret
      exact SomeBool.mk _ HB.out
theorem shape_any (t : S24) (ht : Tiny t) (A : Option Addr) (c : Nat) (w : World) (hC : k24.C w A t.f4.length t.f4) (hc : t.f4.length ≤ c) :
    Calls Tryz.prog 63 #[.agg #[.int .i64 t.f0, .string t.f1, .int .i64 t.f2, .int .i64 t.f3, .slice A t.f4.length c]] w (SomeBool w) :=
  shape_step t ht (fun x hx A c W hC hc => shape_any x (ht.kid x hx) A c W hC hc) A c w hC hc
termination_by SizeOf.sizeOf t
decreasing_by
  have := List.sizeOf_lt_of_mem hx
  cases t
  simp only [S24.mk.sizeOf_spec] at this ⊢
  omega
open Classical in
set_option maxRecDepth 100000 in
set_option maxHeartbeats 16000000 in
theorem rshape24 (s : ByteArray) (a b : Int) (n : Nat) (A : Option Addr) (c : Nat) (w : World) :
    Calls Tryz.prog 63 #[.agg #[.int .i64 24, .string s, .int .i64 a, .int .i64 b, .slice A n c]] w (IsBool (decide (isPlain s ∧ n = 0)) w) := by
  obtain ⟨z, hz, hzb, hzx⟩ := node_cells w 24 s a b A n c
  have hzl := (Array.getElem?_eq_some_iff.1 hzx).1
  obtain ⟨f0, f1, f2, f3, f4⟩ := five_cells hzx (Below.refl _ _)
  have ht := fun W => text24 s a b A n c W
  by_cases hp : isPlain s
  · rw [decide_eq_true hp] at ht
    have HT := Aside0.mk ht
    clear ht
    by_cases hn : n = 0
    · subst hn
      rw [decide_eq_true (show isPlain s ∧ 0 = 0 from ⟨hp, rfl⟩)]
      go_enter Tryz.func63, Tryz.ntmps63
      go_wp2_with (first | (go_at_call 119; refine (HT.out _).mono ?_; rintro e w1 ⟨rfl, hb1⟩; clear f0 f1 f2 f3 f4; have bb1 := below_then hzb hb1; have x1 : w1.heap[w.heap.size]? = _ := (hb1.block _ hzl).trans hzx; obtain ⟨f0, f1, f2, f3, f4⟩ := five_cells x1 (Below.refl _ _)) | (go_at_call 120; refine (most24 _).mono ?_; rintro e w2 ⟨rfl, rfl⟩))
      go_loopg [5] 1 (fun kq v5 w'' => v5 = .int .i64 0 ∧ w'' = w2)
      case atStart => exact ⟨rfl, rfl⟩
      case round =>
        obtain ⟨rfl, rfl⟩ := hrel
        go_wp2
        go_ret
        exact IsBool.mk rfl bb1
    · rw [decide_eq_false (fun h : isPlain s ∧ n = 0 => hn h.2)]
      have c1 : decide (0 < (n : Int)) = true := decide_eq_true (by omega)
      have c2 : decide ((n : Int) < 0) = false := decide_eq_false (by omega)
      go_enter Tryz.func63, Tryz.ntmps63
      go_wp2_with (first | (go_at_call 119; refine (HT.out _).mono ?_; rintro e w1 ⟨rfl, hb1⟩; clear f0 f1 f2 f3 f4; have bb1 := below_then hzb hb1; have x1 : w1.heap[w.heap.size]? = _ := (hb1.block _ hzl).trans hzx; obtain ⟨f0, f1, f2, f3, f4⟩ := five_cells x1 (Below.refl _ _)) | (go_at_call 120; refine (most24 _).mono ?_; rintro e w2 ⟨rfl, rfl⟩))
      go_ret
      exact IsBool.mk rfl bb1
  · rw [decide_eq_false hp] at ht
    have HT := Aside0.mk ht
    clear ht
    rw [decide_eq_false (fun h : isPlain s ∧ n = 0 => hp h.1)]
    go_enter Tryz.func63, Tryz.ntmps63
    go_wp2_with (go_at_call 119; refine (HT.out _).mono ?_; rintro e w1 ⟨rfl, hb1⟩; have bb1 := below_then hzb hb1)
    go_ret
    exact IsBool.mk rfl bb1
set_option maxRecDepth 100000 in
set_option maxHeartbeats 16000000 in
theorem rshape28_len (s : ByteArray) (hs : s.toList = [45]) (a b : Int) (n : Nat) (hn : n ≠ 1) (A : Option Addr) (c : Nat) (w : World) :
    Calls Tryz.prog 63 #[.agg #[.int .i64 28, .string s, .int .i64 a, .int .i64 b, .slice A n c]] w (IsBool false w) := by
  obtain ⟨z, hz, hzb, hzx⟩ := node_cells w 28 s a b A n c
  have hzl := (Array.getElem?_eq_some_iff.1 hzx).1
  obtain ⟨f0, f1, f2, f3, f4⟩ := five_cells hzx (Below.refl _ _)
  have HT := Aside0.mk (fun W => text28 s hs a b A n c W)
  clear hs
  by_cases h0 : n < 1
  · have c1 : decide ((n : Int) < 1) = true := decide_eq_true (by omega)
    clear hn h0
    go_enter Tryz.func63, Tryz.ntmps63
    go_wp2_with (first | (go_at_call 119; refine (HT.out _).mono ?_; rintro e w1 ⟨rfl, hb1⟩; clear f0 f1 f2 f3 f4; have bb1 := below_then hzb hb1; have x1 : w1.heap[w.heap.size]? = _ := (hb1.block _ hzl).trans hzx; obtain ⟨f0, f1, f2, f3, f4⟩ := five_cells x1 (Below.refl _ _)) | (go_at_call 120; refine (most28 _).mono ?_; rintro e w2 ⟨rfl, rfl⟩))
    go_ret
    exact IsBool.mk rfl bb1
  · have c1 : decide ((n : Int) < 1) = false := decide_eq_false (by omega)
    have c2 : decide (1 < (n : Int)) = true := decide_eq_true (by omega)
    clear hn h0
    go_enter Tryz.func63, Tryz.ntmps63
    go_wp2_with (first | (go_at_call 119; refine (HT.out _).mono ?_; rintro e w1 ⟨rfl, hb1⟩; clear f0 f1 f2 f3 f4; have bb1 := below_then hzb hb1; have x1 : w1.heap[w.heap.size]? = _ := (hb1.block _ hzl).trans hzx; obtain ⟨f0, f1, f2, f3, f4⟩ := five_cells x1 (Below.refl _ _)) | (go_at_call 120; refine (most28 _).mono ?_; rintro e w2 ⟨rfl, rfl⟩))
    go_ret
    exact IsBool.mk rfl bb1
open Classical in
set_option maxRecDepth 100000 in
set_option maxHeartbeats 16000000 in
theorem rshape28_num (s : ByteArray) (hs : s.toList = [45]) (a b : Int) (l : List S24) (hu : (rd_T24 l 0).f0 = 24) (rv : Bool) (hrv : decide (isPlain (rd_T24 l 0).f1 ∧ (rd_T24 l 0).f4.length = 0) = rv) (A : Option Addr) (c : Nat) (w : World) (hC : k24.C w A 1 l) :
    Calls Tryz.prog 63 #[.agg #[.int .i64 28, .string s, .int .i64 a, .int .i64 b, .slice A 1 c]] w (IsBool rv w) := by
  obtain ⟨z, hz, hzb, hzx⟩ := node_cells w 28 s a b A 1 c
  have hzl := (Array.getElem?_eq_some_iff.1 hzx).1
  obtain ⟨f0, f1, f2, f3, f4⟩ := five_cells hzx (Below.refl _ _)
  have HT := Aside0.mk (fun W => text28 s hs a b A 1 c W)
  have hsh : ∀ (A' : Option Addr) (c' : Nat) W, Calls Tryz.prog 63 #[.agg #[.int .i64 24, .string (rd_T24 l 0).f1, .int .i64 (rd_T24 l 0).f2, .int .i64 (rd_T24 l 0).f3, .slice A' (rd_T24 l 0).f4.length c']] W (IsBool rv W) := fun A' c' W => by
    rw [← hrv]; exact rshape24 _ _ _ _ _ _ _
  have HSH := Aside0.mk hsh
  have HU := Aside0.mk hu
  clear hs hsh hrv hu
  go_enter Tryz.func63, Tryz.ntmps63
  go_wp2_with (first | (go_at_call 119; refine (HT.out _).mono ?_; rintro e w1 ⟨rfl, hb1⟩; clear f0 f1 f2 f3 f4; have bb1 := below_then hzb hb1; have x1 : w1.heap[w.heap.size]? = _ := (hb1.block _ hzl).trans hzx; obtain ⟨f0, f1, f2, f3, f4⟩ := five_cells x1 (Below.refl _ _)) | (go_at_call 120; refine (most28 _).mono ?_; rintro e w2 ⟨rfl, hw2⟩; subst w2))
  have HB := Aside0.mk bb1
  have HX := Aside0.mk x1
  clear bb1 x1 hb1 f0 f1 f2 f3 f4 hzb hzx hzl hz
  go_loopw [5] (fun i wr => ∃ x : Int, i = .int .i64 x ∧ Aside0 (x = 0 ∨ (x = 1 ∧ rv = true)) ∧ Aside0 (Below w.heap.size w wr) ∧ Aside0 (wr.heap[w.heap.size]? = some (.cells #[.int .i64 28, .string s, .int .i64 a, .int .i64 b, .slice A 1 c] 24 (0, 0)))) (fun i _ => 1 - (intOf i).toNat)
  case atStart => exact ⟨0, rfl, ⟨.inl rfl⟩, HB, HX⟩
  case round =>
    clear HB HX
    obtain ⟨x, rfl, HK, HB, HX⟩ := hrel
    obtain ⟨f0, f1, f2, f3, f4⟩ := five_cells HX.out (Below.refl _ _)
    rcases HK.out with rfl | ⟨rfl, rfl⟩
    · obtain ⟨ad, A4, c4, rfl, hx0, hx1, hx2, hx3, hx4, hl4, hi4⟩ := at_T24 (Kd.C_below hC HB.out) 0 (by omega) (by omega)
      rw [HU.out] at hx0
      clear HU HK
      generalize rd_T24 l 0 = u at *
      simp only [Int.toNat_zero, Nat.zero_mul, Addr.add_zero'] at hx0 hx1 hx2 hx3 hx4
      have kb : ∀ W, Calls Tryz.prog 121 #[.int .i64 28, .int .i64 0, .agg #[.int .i64 24, .string u.f1, .int .i64 u.f2, .int .i64 u.f3, .slice A4 u.f4.length c4]] W (IsBool true W) := fun W => kid_is 28 0 24 u.f1 u.f2 u.f3 A4 u.f4.length c4 W
      have HKB := Aside0.mk kb
      have HN := Aside0.mk (fun W => HSH.out A4 c4 W)
      clear kb HSH
      go_wp2
      go_region_held3 (fun W' => W'.cell? ⟨w.heap.size, 0, none⟩ = some (.int .i64 28) ∧ W'.cell? ⟨w.heap.size, 4, none⟩ = some (.slice (some ad) 1 c) ∧ W'.cell? ad = some (.int .i64 24) ∧ W'.cell? ⟨ad.block, ad.off + 1, none⟩ = some (.string u.f1) ∧ W'.cell? ⟨ad.block, ad.off + 2, none⟩ = some (.int .i64 u.f2) ∧ W'.cell? ⟨ad.block, ad.off + 3, none⟩ = some (.int .i64 u.f3) ∧ W'.cell? ⟨ad.block, ad.off + 4, none⟩ = some (.slice A4 u.f4.length c4) ∧ Below wr.heap.size wr W')
        (first | exact ⟨f0, f4, hx0, hx1, hx2, hx3, hx4, (Below.refl _ _).drew⟩ | (go_split_ands; refine ⟨?_, ?_, ?_, ?_, ?_, ?_, ?_, ?_⟩ <;> first | exact keepc hb1 (by assumption) | exact below_then (by assumption) hb1) | exact ⟨keepc hb1 f0, keepc hb1 f4, keepc hb1 hx0, keepc hb1 hx1, keepc hb1 hx2, keepc hb1 hx3, keepc hb1 hx4, below_then (Below.refl _ _).drew hb1⟩)
        (first | (go_at_call 121; refine (HKB.out _).mono ?_; rintro e w9 ⟨rfl, hb1⟩) | (go_at_call 63; refine (HN.out _).mono ?_; rintro e w9 ⟨rfl, hb1⟩))
      have hbw : Below wr.heap.size wr w9 := by go_split_ands; assumption
      have HX9 := Aside0.mk ((hbw.block _ (Array.getElem?_eq_some_iff.1 HX.out).1).trans HX.out)
      have HB9 := Aside0.mk (below_then HB.out hbw)
      clear hbw
      cases rv
      · go_wp2
        go_ret
        exact IsBool.mk rfl HB9.out
      · go_wp2
        go_roundw
        case rel => exact ⟨1, rfl, ⟨.inr ⟨rfl, by trivial⟩⟩, HB9, HX9⟩
        case measure => simp [intOf]
    · go_wp2
      go_ret
      exact IsBool.mk rfl HB.out
end Go.Proofs.YtdnclnacneakbaaGreatDoor.PSmall
end
section
namespace Go.Proofs.YtdnclnacneakbaaGreatDoor.PSmall
open Go.RowKit Go.Shelf Go.Proofs.YtdnclnacneakbaaGreatDoorW.PrintWords Go.Proofs.YtdnclnacneakbaaGreatDoorW.PrintLast Go.Proofs.YtdnclnacneakbaaGreatDoorW.PrintMore
set_option linter.unusedVariables false
set_option linter.unusedSimpArgs false
set_option maxRecDepth 100000 in
set_option maxHeartbeats 16000000 in
theorem rexpr_of (k : Int) (s : ByteArray) (a b : Int) (n : Nat) (A : Option Addr) (c : Nat) (w : World) (r : Bool) (hk : 20 ≤ k ∧ k ≤ 29)
    (h : ∀ W, Below w.heap.size w W → Calls Tryz.prog 63 #[.agg #[.int .i64 k, .string s, .int .i64 a, .int .i64 b, .slice A n c]] W (IsBool r W)) :
    Calls Tryz.prog 31 #[.agg #[.int .i64 k, .string s, .int .i64 a, .int .i64 b, .slice A n c]] w (IsBool r w) := by
  have e1 : exprB k = true := by simp [exprB, hk.1, hk.2]
  have HE := Aside0.mk e1
  have H := Aside0.mk h
  clear h e1 hk
  go_enter Tryz.func31, Tryz.ntmps31
  go_wp2_with (first | (go_at_call 62; refine (expr_is _ _).mono ?_; rintro e w1 ⟨rfl, rfl⟩; rw [HE.out]) | (go_at_call 63; refine (H.out _ ((Below.refl _ w).alloc (Nat.le_refl _) _)).mono ?_; rintro e w2 ⟨rfl, hb2⟩))
  go_ret
  exact IsBool.mk rfl (below_then ((Below.refl _ w).alloc (Nat.le_refl _) _) hb2)
set_option maxRecDepth 100000 in
set_option maxHeartbeats 16000000 in
theorem rexpr_any (t : S24) (ht : Tiny t) (A : Option Addr) (c : Nat) (w : World) (hC : k24.C w A t.f4.length t.f4) (hc : t.f4.length ≤ c) :
    Calls Tryz.prog 31 #[.agg #[.int .i64 t.f0, .string t.f1, .int .i64 t.f2, .int .i64 t.f3, .slice A t.f4.length c]] w (SomeBool w) := by
  have hsh := fun W hb => shape_any t ht A c W (Kd.C_below hC hb) hc
  have H := Aside0.mk (show ∀ W, Below w.heap.size w W → Calls Tryz.prog 63 #[.agg #[.int .i64 t.f0, .string t.f1, .int .i64 t.f2, .int .i64 t.f3, .slice A t.f4.length c]] W (SomeBool W) from hsh)
  clear hsh
  cases hq : exprB t.f0
  all_goals
    have HE := Aside0.mk hq
    clear hq
    go_enter Tryz.func31, Tryz.ntmps31
    go_wp2_with (first | (go_at_call 62; refine (expr_is _ _).mono ?_; rintro e w1 ⟨rfl, rfl⟩; rw [HE.out]) | (go_at_call 63; refine (H.out _ ((Below.refl _ w).alloc (Nat.le_refl _) _)).mono ?_; rintro e w2 ⟨⟨b2, rfl⟩, hb2⟩))
    go_ret
    first | exact SomeBool.mk _ (below_then ((Below.refl _ w).alloc (Nat.le_refl _) _) hb2) | exact SomeBool.mk _ ((Below.refl _ w).alloc (Nat.le_refl _) _)
def IsPair (r : Int) (x : Bool) (w : World) (e : Ending) (w' : World) : Prop := e = .returned (.tuple #[.int .i64 r, .bool x]) ∧ Below w.heap.size w w'
theorem width_is {wd : Int} {r : Bool} (h : assessorref11_Width.f wd = some r) (w : World) : Calls Tryz.prog 23 #[.int .i64 wd] w fun e w' => e = .returned (.bool r) ∧ Drawn0 w w' := assessorref11_Width.calls wd r w h
set_option maxRecDepth 100000 in
set_option maxHeartbeats 16000000 in
theorem rval_width {wd : Int} (h : ¬ (2 ≤ wd ∧ wd ≤ 8)) (k : Int) (s : ByteArray) (a b : Int) (n : Nat) (A : Option Addr) (c : Nat) (w : World) :
    Calls Tryz.prog 9 #[.int .i64 wd, .agg #[.int .i64 k, .string s, .int .i64 a, .int .i64 b, .slice A n c]] w (IsPair 0 false w) := by
  have hw := Aside0.mk (ref_width_no (wd := wd) (by omega))
  clear h
  go_enter Tryz.func9, Tryz.ntmps9
  go_wp2_with (go_at_call 23; refine (width_is hw.out _).mono ?_; rintro e w1 ⟨rfl, ⟨nd, rfl⟩⟩)
  go_ret2
  exact ⟨rfl, pw_below_drewN ((Below.refl _ w).alloc (Nat.le_refl _) _) _⟩
set_option maxHeartbeats 4000000 in
theorem width_same {wd : Int} (h2 : 2 ≤ wd) (h8 : wd ≤ 8) (w : World) : Calls Tryz.prog 23 #[.int .i64 wd] w fun e w' => e = .returned (.bool true) ∧ w = w' := by
  have c1 : decide (2 ≤ wd) = true := decide_eq_true h2
  have c2 : decide (wd ≤ 8) = true := decide_eq_true h8
  go_enter Tryz.func23, Tryz.ntmps23
  go_wp2
  go_ret
  exact ⟨rfl, rfl⟩
theorem rval_no {wd : Int} (h2 : 2 ≤ wd) (h8 : wd ≤ 8) (k : Int) (s : ByteArray) (a b : Int) (n : Nat) (A : Option Addr) (c : Nat) (w : World)
    (h : ∀ W, Below w.heap.size w W → Calls Tryz.prog 31 #[.agg #[.int .i64 k, .string s, .int .i64 a, .int .i64 b, .slice A n c]] W (IsBool false W)) :
    Calls Tryz.prog 9 #[.int .i64 wd, .agg #[.int .i64 k, .string s, .int .i64 a, .int .i64 b, .slice A n c]] w (IsPair 0 false w) := by
  have H := Aside0.mk h
  clear h
  obtain ⟨z, hz, hzb, hzx⟩ := node_cells w k s a b A n c
  have hzl := (Array.getElem?_eq_some_iff.1 hzx).1
  obtain ⟨f0, f1, f2, f3, f4⟩ := five_cells hzx (Below.refl _ _)
  go_enter Tryz.func9, Tryz.ntmps9
  go_wp2_with (first | (go_at_call 23; refine (width_same h2 h8 _).mono ?_; rintro e w1 ⟨rfl, rfl⟩) | (go_at_call 31; refine (H.out _ hzb).mono ?_; rintro e w2 ⟨rfl, hb2⟩))
  go_ret2
  exact ⟨rfl, below_then hzb hb2⟩
set_option maxRecDepth 100000 in
set_option maxHeartbeats 16000000 in
theorem rval_none {wd : Int} (h2 : 2 ≤ wd) (h8 : wd ≤ 8) (t : S24) (ht : Tiny t) (h : (t.f0 ≠ 24 ∧ t.f0 ≠ 28) ∨ (t.f0 = 28 ∧ t.f1.toList ≠ [45]) ∨ (t.f0 = 28 ∧ t.f1.toList = [45] ∧ t.f4.length = 1 ∧ (rd_T24 t.f4 0).f0 ≠ 24)) (A : Option Addr) (c : Nat) (w : World) (hC : k24.C w A t.f4.length t.f4) (hc : t.f4.length ≤ c) :
    Calls Tryz.prog 9 #[.int .i64 wd, .agg #[.int .i64 t.f0, .string t.f1, .int .i64 t.f2, .int .i64 t.f3, .slice A t.f4.length c]] w (IsPair 0 false w) := by
  have H := Aside0.mk (fun W hb => rexpr_any t ht A c W (Kd.C_below hC hb) hc)
  obtain ⟨z, hz, hzb, hzx⟩ := node_cells w t.f0 t.f1 t.f2 t.f3 A t.f4.length c
  have hzl := (Array.getElem?_eq_some_iff.1 hzx).1
  obtain ⟨f0, f1, f2, f3, f4⟩ := five_cells hzx (Below.refl _ _)
  rcases h with ⟨h1, h3⟩ | ⟨h1, h3⟩ | ⟨h1, h3, h4, h5⟩
  · have c1 : (t.f0 == 24) = false := beq_eq_false_iff_ne.mpr h1
    have c3 : (t.f0 == 28) = false := beq_eq_false_iff_ne.mpr h3
    clear h1 h3
    go_enter Tryz.func9, Tryz.ntmps9
    go_wp2_with (first | (go_at_call 23; refine (width_same h2 h8 _).mono ?_; rintro e w1 ⟨rfl, rfl⟩) | (go_at_call 31; refine (H.out _ hzb).mono ?_; rintro e w2 ⟨⟨b2, rfl⟩, hb2⟩; clear f0 f1 f2 f3 f4; have bb2 := below_then hzb hb2; have x2 : w2.heap[w.heap.size]? = _ := (hb2.block _ hzl).trans hzx; obtain ⟨f0, f1, f2, f3, f4⟩ := five_cells x2 (Below.refl _ _); cases b2))
    all_goals go_ret2
    all_goals exact ⟨rfl, bb2⟩
  · have c1 : (t.f1.toList == ([45] : List UInt8)) = false := beq_eq_false_iff_ne.mpr h3
    rw [h1] at H f0 hz ⊢
    clear h3
    go_enter Tryz.func9, Tryz.ntmps9
    go_wp2_with (first | (go_at_call 23; refine (width_same h2 h8 _).mono ?_; rintro e w1 ⟨rfl, rfl⟩) | (go_at_call 31; refine (H.out _ hzb).mono ?_; rintro e w2 ⟨⟨b2, rfl⟩, hb2⟩; clear f0 f1 f2 f3 f4; have bb2 := below_then hzb hb2; have x2 : w2.heap[w.heap.size]? = _ := (hb2.block _ hzl).trans hzx; obtain ⟨f0, f1, f2, f3, f4⟩ := five_cells x2 (Below.refl _ _); (try rw [h1] at f0); cases b2))
    all_goals go_ret2
    all_goals exact ⟨rfl, bb2⟩
  · have c1 : (t.f1.toList == ([45] : List UInt8)) = true := beq_iff_eq.mpr h3
    obtain ⟨ad, A4, c4, rfl, hx0, _, _, _, _, _, _⟩ := at_T24 hC 0 (by omega) (by omega)
    have c5 : ((rd_T24 t.f4 0).f0 == 24) = false := beq_eq_false_iff_ne.mpr h5
    clear h5
    generalize (rd_T24 t.f4 0).f0 = uk at *
    simp only [Int.toNat_zero, Nat.zero_mul, Addr.add_zero'] at hx0
    rw [h1, h4] at H hzx
    rw [h1] at f0
    rw [h4] at f4
    rw [h1, h4] at hz
    rw [h1, h4]
    clear h3 h1 h4
    go_enter Tryz.func9, Tryz.ntmps9
    go_wp2_with (first | (go_at_call 23; refine (width_same h2 h8 _).mono ?_; rintro e w1 ⟨rfl, rfl⟩) | (go_at_call 31; refine (H.out _ hzb).mono ?_; rintro e w2 ⟨⟨b2, rfl⟩, hb2⟩; clear f0 f1 f2 f3 f4; have bb2 := below_then hzb hb2; have x2 : w2.heap[w.heap.size]? = _ := (hb2.block _ hzl).trans hzx; obtain ⟨f0, f1, f2, f3, f4⟩ := five_cells x2 (Below.refl _ _); have y0 := keepc bb2 hx0; cases b2))
    all_goals go_ret2
    all_goals exact ⟨rfl, bb2⟩
theorem wrap_calls {wd : Int} (h2 : 2 ≤ wd) (h8 : wd ≤ 8) (n : Int) (w : World) : Calls Tryz.prog 33 #[.int .i64 wd, .int .i64 n] w fun e w' => e = .returned (.int .i64 (wr wd n)) ∧ Below w.heap.size w w' := by
  obtain ⟨K, h⟩ := ref_wrap h2 h8 n
  exact (assessorref11_Wrap.calls K wd n _ w (h K (Nat.le_refl _))).mono fun e w' ⟨h1, h3⟩ => ⟨h1, h3.below⟩
theorem number_calls {s : ByteArray} (h : isNumber s) : ∃ N : Nat, N < 10 ^ 9 ∧ Lib.atoi s.data.toList = some (N : Int) ∧ ∀ w, Calls Tryz.prog 32 #[.string s] w fun e w' => e = .returned (.tuple #[.int .i64 N, .bool true]) ∧ Below w.heap.size w w' := by
  obtain ⟨N, h1, h2, K, h3⟩ := number_yes s h
  exact ⟨N, h1, h2, fun w => (assessorref02_Number.calls K s _ _ w (h3 K (Nat.le_refl _))).mono fun e w' ⟨h4, h5⟩ => ⟨h4, h5.below⟩⟩
open Classical in
set_option maxRecDepth 100000 in
set_option maxHeartbeats 16000000 in
theorem rval_self {wd : Int} (h2 : 2 ≤ wd) (h8 : wd ≤ 8) (s : ByteArray) (a b : Int) (n : Nat) (h : isPlain s ∧ n = 0) : ∃ N : Int, Lib.atoi s.data.toList = some N ∧
    ∀ (A : Option Addr) (c : Nat) (w : World), Calls Tryz.prog 9 #[.int .i64 wd, .agg #[.int .i64 24, .string s, .int .i64 a, .int .i64 b, .slice A n c]] w (IsPair (wr wd N) true w) := by
  obtain ⟨N, _, n2, n3⟩ := number_calls h.1.1
  refine ⟨N, n2, fun A c w => ?_⟩
  have HN := Aside0.mk n3
  have H := Aside0.mk (show ∀ W, Calls Tryz.prog 31 #[.agg #[.int .i64 24, .string s, .int .i64 a, .int .i64 b, .slice A n c]] W (IsBool true W) from fun W => rexpr_of 24 s a b n A c W true (by decide) (fun W' _ => by
    have := rshape24 s a b n A c W'
    rw [decide_eq_true h] at this
    exact this))
  clear n3 n2 h
  obtain ⟨z, hz, hzb, hzx⟩ := node_cells w 24 s a b A n c
  have hzl := (Array.getElem?_eq_some_iff.1 hzx).1
  obtain ⟨f0, f1, f2, f3, f4⟩ := five_cells hzx (Below.refl _ _)
  go_enter Tryz.func9, Tryz.ntmps9
  go_wp2_with (first | (go_at_call 23; refine (width_same h2 h8 _).mono ?_; rintro e w1 ⟨rfl, rfl⟩) | (go_at_call 31; refine (H.out _).mono ?_; rintro e w2 ⟨rfl, hb2⟩; clear f0 f1 f2 f3 f4; have bb2 := below_then hzb hb2; have x2 : w2.heap[w.heap.size]? = _ := (hb2.block _ hzl).trans hzx; obtain ⟨f0, f1, f2, f3, f4⟩ := five_cells x2 (Below.refl _ _)) | (go_at_call 32; refine (HN.out _).mono ?_; rintro e w3 ⟨rfl, hb3⟩) | (go_at_call 33; refine (wrap_calls h2 h8 _ _).mono ?_; rintro e w4 ⟨rfl, hb4⟩))
  go_ret2
  exact ⟨rfl, below_then (below_then bb2 hb3) hb4⟩
open Classical in
set_option maxRecDepth 100000 in
set_option maxHeartbeats 16000000 in
theorem rval_kid {wd : Int} (h2 : 2 ≤ wd) (h8 : wd ≤ 8) (s : ByteArray) (a b : Int) (l : List S24) (hs : s.toList = [45]) (hu : (rd_T24 l 0).f0 = 24) (h : isPlain (rd_T24 l 0).f1 ∧ (rd_T24 l 0).f4.length = 0) : ∃ N : Int, Lib.atoi (rd_T24 l 0).f1.data.toList = some N ∧
    ∀ (A : Option Addr) (c : Nat) (w : World), k24.C w A 1 l → Calls Tryz.prog 9 #[.int .i64 wd, .agg #[.int .i64 28, .string s, .int .i64 a, .int .i64 b, .slice A 1 c]] w (IsPair (wr wd (-(wr wd N))) true w) := by
  obtain ⟨p1, p2⟩ := half_pos h2 h8
  obtain ⟨N, n1, n2⟩ := rval_self h2 h8 (rd_T24 l 0).f1 (rd_T24 l 0).f2 (rd_T24 l 0).f3 (rd_T24 l 0).f4.length h
  refine ⟨N, n1, fun A c w hC => ?_⟩
  have hr := wr_range h2 h8 N
  have hneg : wrap64 (-(wr wd N)) = -(wr wd N) := w64s (by omega)
  have hrv := decide_eq_true h
  obtain ⟨ad, A4, c4, rfl, hx0, hx1, hx2, hx3, hx4, hl4, hi4⟩ := at_T24 hC 0 (by omega) (by omega)
  have H := Aside0.mk (show ∀ W, Below w.heap.size w W → Calls Tryz.prog 31 #[.agg #[.int .i64 28, .string s, .int .i64 a, .int .i64 b, .slice (some ad) 1 c]] W (IsBool true W) from fun W hb => rexpr_of 28 s a b 1 (some ad) c W true (by decide) (fun W' hb' => rshape28_num s hs a b l hu true hrv (some ad) c W' (Kd.C_below hC (below_then hb hb'))))
  have HV := Aside0.mk (fun W => n2 A4 c4 W)
  have HNEG := Aside0.mk hneg
  have c1 : (s.toList == ([45] : List UInt8)) = true := beq_iff_eq.mpr hs
  rw [hu] at hx0
  clear hs hu h n1 n2 hr hneg hrv p1 p2
  generalize rd_T24 l 0 = u at *
  simp only [Int.toNat_zero, Nat.zero_mul, Addr.add_zero'] at hx0 hx1 hx2 hx3 hx4
  obtain ⟨z, hz, hzb, hzx⟩ := node_cells w 28 s a b (some ad) 1 c
  have hzl := (Array.getElem?_eq_some_iff.1 hzx).1
  obtain ⟨f0, f1, f2, f3, f4⟩ := five_cells hzx (Below.refl _ _)
  go_enter Tryz.func9, Tryz.ntmps9
  go_wp2_with (first | (go_at_call 23; refine (width_same h2 h8 _).mono ?_; rintro e w1 ⟨rfl, rfl⟩) | (go_at_call 31; refine (H.out _ hzb).mono ?_; rintro e w2 ⟨rfl, hb2⟩; clear f0 f1 f2 f3 f4; have bb2 := below_then hzb hb2; have x2 : w2.heap[w.heap.size]? = _ := (hb2.block _ hzl).trans hzx; obtain ⟨f0, f1, f2, f3, f4⟩ := five_cells x2 (Below.refl _ _); have y0 := keepc bb2 hx0; have y1 := keepc bb2 hx1; have y2 := keepc bb2 hx2; have y3 := keepc bb2 hx3; have y4 := keepc bb2 hx4) | (go_at_call 9; refine (HV.out _).mono ?_; rintro e w3 ⟨rfl, hb3⟩; (try rw [HNEG.out])) | (go_at_call 33; (try rw [HNEG.out]); refine (wrap_calls h2 h8 _ _).mono ?_; rintro e w4 ⟨rfl, hb4⟩))
  go_ret2
  exact ⟨rfl, below_then (below_then bb2 hb3) hb4⟩
end Go.Proofs.YtdnclnacneakbaaGreatDoor.PSmall
end
section
namespace Go.Proofs.YtdnclnacneakbaaGreatDoor.PSmall
open Go.RowKit Go.Proofs.YtdnclnacneakbaaGreatDoorW.PrintWords Go.Proofs.YtdnclnacneakbaaGreatDoorW.PrintLast Go.Proofs.YtdnclnacneakbaaGreatDoorW.PrintMore
def PVal (f : Nat) (wd : Int) (t : S24) (r : Int) (x : Bool) : Prop := ∀ (A : Option Addr) (c : Nat) (w : World), k24.C w A t.f4.length t.f4 → t.f4.length ≤ c →
      Calls Tryz.prog f #[.int .i64 wd, .agg #[.int .i64 t.f0, .string t.f1, .int .i64 t.f2, .int .i64 t.f3, .slice A t.f4.length c]] w (IsPair r x w)
theorem rval_shape_no {wd : Int} (h2 : 2 ≤ wd) (h8 : wd ≤ 8) (k : Int) (hk : 20 ≤ k ∧ k ≤ 29) (s : ByteArray) (a b : Int) (n : Nat) (A : Option Addr) (c : Nat) (w : World)
    (h : ∀ W, Below w.heap.size w W → Calls Tryz.prog 63 #[.agg #[.int .i64 k, .string s, .int .i64 a, .int .i64 b, .slice A n c]] W (IsBool false W)) :
    Calls Tryz.prog 9 #[.int .i64 wd, .agg #[.int .i64 k, .string s, .int .i64 a, .int .i64 b, .slice A n c]] w (IsPair 0 false w) :=
  rval_no h2 h8 k s a b n A c w fun W hb => rexpr_of k s a b n A c W false hk fun W' hb' => h W' (below_then hb hb')
open Classical in
theorem value_both (wd : Int) (t : S24) (ht : Tiny t) : ∃ (r : Int) (x : Bool), PVal 8 wd t r x ∧ PVal 9 wd t r x ∧ (2 ≤ wd → wd ≤ 8 → ∀ N : Int,
      ((t.f0 = 24 ∧ (isPlain t.f1 ∧ t.f4.length = 0) ∧ Lib.atoi t.f1.data.toList = some N) → r = wr wd N ∧ x = true) ∧
      ((t.f0 = 28 ∧ t.f1.toList = [45] ∧ t.f4.length = 1 ∧ (rd_T24 t.f4 0).f0 = 24 ∧ (isPlain (rd_T24 t.f4 0).f1 ∧ (rd_T24 t.f4 0).f4.length = 0) ∧ Lib.atoi (rd_T24 t.f4 0).f1.data.toList = some N) → r = wr wd (-(wr wd N)) ∧ x = true)) := by
  by_cases hw : 2 ≤ wd ∧ wd ≤ 8
  · obtain ⟨h2, h8⟩ := hw
    obtain ⟨p1, p2⟩ := half_pos h2 h8
    by_cases h24 : t.f0 = 24
    · by_cases hp : isPlain t.f1 ∧ t.f4.length = 0
      · obtain ⟨N, n1, n2⟩ := rval_self h2 h8 t.f1 t.f2 t.f3 t.f4.length hp
        have hr := wr_range h2 h8 N
        have e : value_Wrap.f wd (wrap64 (wr wd N)) = some (wr wd N) := by rw [val_wrap h2 h8, w64s (by omega), wr_id h2 h8 hr]
        refine ⟨wr wd N, true, fun A c w hC hc => val_self_yes wd t ht h24 hp h2 h8 N (wr wd N) _ n1 (val_wrap h2 h8 N) e A c w hC hc, fun A c w _ _ => by rw [h24]; exact n2 A c w, fun _ _ M => ⟨fun h => ?_, fun h => by omega⟩⟩
        have := n1.symm.trans h.2.2
        cases this
        exact ⟨rfl, rfl⟩
      · exact ⟨0, false, fun A c w hC hc => val_self_bad wd t ht h24 hp A c w hC hc, fun A c w _ _ => by
          rw [h24]; exact rval_shape_no h2 h8 24 (by decide) _ _ _ _ A c w fun W _ => by
            have := rshape24 t.f1 t.f2 t.f3 t.f4.length A c W
            rw [decide_eq_false hp] at this
            exact this, fun _ _ M => ⟨fun h => absurd h.2.1 hp, fun h => by omega⟩⟩
    · by_cases h28 : t.f0 = 28
      · by_cases hs : t.f1.toList = [45]
        · by_cases hl : t.f4.length = 1
          · by_cases hu : (rd_T24 t.f4 0).f0 = 24
            · by_cases hp : isPlain (rd_T24 t.f4 0).f1 ∧ (rd_T24 t.f4 0).f4.length = 0
              · obtain ⟨N, n1, n2⟩ := rval_kid h2 h8 t.f1 t.f2 t.f3 t.f4 hs hu hp
                have hr := wr_range h2 h8 N
                have e : value_Wrap.f wd (wrap64 (-(wr wd N))) = some (wr wd (-(wr wd N))) := by rw [val_wrap h2 h8, w64s (by omega)]
                refine ⟨wr wd (-(wr wd N)), true, fun A c w hC hc => val_kid_yes wd t ht h28 hs hl hu hp h2 h8 N (wr wd N) _ n1 (val_wrap h2 h8 N) e A c w hC hc, fun A c w hC _ => ?_, fun _ _ M => ⟨fun h => absurd h.1 h24, fun h => ?_⟩⟩
                · rw [h28, hl]; rw [hl] at hC; exact n2 A c w hC
                · have := n1.symm.trans h.2.2.2.2.2
                  cases this
                  exact ⟨rfl, rfl⟩
              · exact ⟨0, false, fun A c w hC hc => val_kid_bad wd t ht h28 hs hl hu hp A c w hC hc, fun A c w hC _ => by
                  rw [hl] at hC
                  rw [h28, hl]
                  exact rval_shape_no h2 h8 28 (by decide) _ _ _ _ A c w fun W hb => rshape28_num t.f1 hs _ _ t.f4 hu false (decide_eq_false hp) A c W (Kd.C_below hC hb), fun _ _ M => ⟨fun h => absurd h.1 h24, fun h => absurd h.2.2.2.2.1 hp⟩⟩
            · exact ⟨0, false, fun A c w hC hc => val_kid_other wd t ht h28 hs hl hu A c w hC hc, fun A c w hC hc => rval_none h2 h8 t ht (.inr (.inr ⟨h28, hs, hl, hu⟩)) A c w hC hc, fun _ _ M => ⟨fun h => absurd h.1 h24, fun h => absurd h.2.2.2.1 hu⟩⟩
          · exact ⟨0, false, fun A c w hC hc => val_self_len wd t ht h28 hs hl A c w hC hc, fun A c w _ _ => by
              rw [h28]; exact rval_shape_no h2 h8 28 (by decide) _ _ _ _ A c w fun W _ => rshape28_len t.f1 hs _ _ _ hl A c W, fun _ _ M => ⟨fun h => absurd h.1 h24, fun h => absurd h.2.2.1 hl⟩⟩
        · exact ⟨0, false, fun A c w hC hc => val_self_text wd t ht h28 hs A c w hC hc, fun A c w hC hc => rval_none h2 h8 t ht (.inr (.inl ⟨h28, hs⟩)) A c w hC hc, fun _ _ M => ⟨fun h => absurd h.1 h24, fun h => absurd h.2.1 hs⟩⟩
      · exact ⟨0, false, fun A c w hC hc => val_self_other wd t ht h24 h28 A c w hC hc, fun A c w hC hc => rval_none h2 h8 t ht (.inl ⟨h24, h28⟩) A c w hC hc, fun _ _ M => ⟨fun h => absurd h.1 h24, fun h => absurd h.1 h28⟩⟩
  · refine ⟨0, false, fun A c w hC hc => ?_, fun A c w _ _ => rval_width hw _ _ _ _ _ A c w, fun h2 h8 => absurd ⟨h2, h8⟩ hw⟩
    have hlh : wd < 2 ∨ 8 < wd := by omega
    by_cases h24 : t.f0 = 24
    · by_cases hp : isPlain t.f1 ∧ t.f4.length = 0
      · rcases hlh with h | h
        · exact val_self_low wd t ht h24 hp h A c w hC hc
        · exact val_self_high wd t ht h24 hp h A c w hC hc
      · exact val_self_bad wd t ht h24 hp A c w hC hc
    · by_cases h28 : t.f0 = 28
      · by_cases hs : t.f1.toList = [45]
        · by_cases hl : t.f4.length = 1
          · by_cases hu : (rd_T24 t.f4 0).f0 = 24
            · by_cases hp : isPlain (rd_T24 t.f4 0).f1 ∧ (rd_T24 t.f4 0).f4.length = 0
              · rcases hlh with h | h
                · exact val_kid_low wd t ht h28 hs hl hu hp h A c w hC hc
                · exact val_kid_high wd t ht h28 hs hl hu hp h A c w hC hc
              · exact val_kid_bad wd t ht h28 hs hl hu hp A c w hC hc
            · exact val_kid_other wd t ht h28 hs hl hu A c w hC hc
          · exact val_self_len wd t ht h28 hs hl A c w hC hc
        · exact val_self_text wd t ht h28 hs A c w hC hc
      · exact val_self_other wd t ht h24 h28 A c w hC hc
end Go.Proofs.YtdnclnacneakbaaGreatDoor.PSmall
end
