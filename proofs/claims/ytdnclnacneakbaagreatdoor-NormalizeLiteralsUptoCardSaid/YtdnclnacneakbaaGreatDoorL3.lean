/- The program's Value, way by way. -/
import Derived.Test.YtdnclnacneakbaaGreatDoorL2
set_option linter.unusedVariables false
set_option linter.unusedSimpArgs false
set_option linter.unusedSectionVars false
namespace Go.Proofs.YtdnclnacneakbaaGreatDoor.PSmall
open Go.RowKit Go.Shelf Go.Proofs.YtdnclnacneakbaaGreatDoorW.PrintWords Go.Proofs.YtdnclnacneakbaaGreatDoorW.PrintLast Go.Proofs.YtdnclnacneakbaaGreatDoorW.PrintMore
set_option linter.unusedVariables false
set_option linter.unusedSimpArgs false
theorem atoi_calls (s : ByteArray) (n : Int) (hl : s.size ≤ 9) (h : Lib.atoi s.data.toList = some n) (w : World) :
    Calls Tryz.prog 29 #[.string s] w fun e w' => e = .returned (.tuple #[.int .i64 n, .nilIface]) ∧ Below w.heap.size w w' := by
  refine (Tryz.strconv_Atoi s n (by omega) h w).mono ?_
  rintro e w' ⟨rfl, t, rfl⟩
  refine ⟨rfl, rfl, rfl, rfl, ?_, fun j hj => Lib.bytesWorld_at_old w 5 t j hj⟩
  rw [Lib.bytesWorld_size]; exact Nat.le_succ _
theorem Below.then_ {w W X : World} (h : Below w.heap.size w W) (h' : Below W.heap.size W X) : Below w.heap.size w X := h.trans (h'.mono h.size)
set_option maxRecDepth 100000 in
set_option maxHeartbeats 4000000 in
theorem val_kid_other (wd : Int) (t : S24) (ht : Tiny t) (hk : t.f0 = 28) (hs : t.f1.toList = [45]) (hl : t.f4.length = 1) (hu : (rd_T24 t.f4 0).f0 ≠ 24) (A : Option Addr) (c : Nat) (w : World) (hC : k24.C w A t.f4.length t.f4) (hc : t.f4.length ≤ c) :
    Calls Tryz.prog 8 #[.int .i64 wd, .agg #[.int .i64 t.f0, .string t.f1, .int .i64 t.f2, .int .i64 t.f3, .slice A t.f4.length c]] w fun e w' => e = .returned (.tuple #[Value.int IntKind.i64 0, Value.bool false]) ∧ Below w.heap.size w w' := by
  rw [hk]
  have HU := Aside0.mk hu
  clear hu
  have c1 : (t.f1.toList == ([45] : List UInt8)) = true := beq_iff_eq.mpr hs
  rw [hl] at hC hc ⊢
  obtain ⟨ad, A4, c4, rfl, hx0, hx1, hx2, hx3, hx4, hl4, hi4⟩ := at_T24 hC 0 (by omega) (by omega)
  have hut : Tiny (rd_T24 t.f4 0) := ht.kid _ (by
    unfold rd_T24
    rw [show Int.toNat 0 = 0 from rfl, List.getD_eq_getElem?_getD, List.getElem?_eq_getElem (by omega)]
    exact List.getElem_mem _)
  generalize rd_T24 t.f4 0 = u at *
  simp only [Int.toNat_zero, Nat.zero_mul, Addr.add_zero'] at hx0 hx1 hx2 hx3 hx4
  obtain ⟨z, hz⟩ : ∃ z, (w.alloc (Obj.cells #[Value.int IntKind.i64 28, Value.string t.f1, Value.int IntKind.i64 t.f2, Value.int IntKind.i64 t.f3, Value.slice (some ad) 1 c] 24 (0, 0))) = z := ⟨_, rfl⟩
  have hzb : Below w.heap.size w z := by rw [← hz]; exact (Below.refl _ w).alloc (Nat.le_refl _) _
  have hzx : z.heap[w.heap.size]? = some (.cells #[.int .i64 28, .string t.f1, .int .i64 t.f2, .int .i64 t.f3, .slice (some ad) 1 c] 24 (0, 0)) := by rw [← hz]; exact World.alloc_heap_new w _
  have hzl := (Array.getElem?_eq_some_iff.1 hzx).1
  obtain ⟨f0, f1, f2, f3, f4⟩ := five_cells hzx (Below.refl _ _)
  obtain ⟨r0, r1, r2, r3, r4⟩ := five_frozen hzx (Below.refl _ _)
  replace hx0 := (hzb.cell (World.block_lt_of_cell? w _ hx0)).trans hx0
  replace hx1 := (hzb.cell (World.block_lt_of_cell? w _ hx1)).trans hx1
  replace hx2 := (hzb.cell (World.block_lt_of_cell? w _ hx2)).trans hx2
  replace hx3 := (hzb.cell (World.block_lt_of_cell? w _ hx3)).trans hx3
  replace hx4 := (hzb.cell (World.block_lt_of_cell? w _ hx4)).trans hx4
  have hXx := set_five hzx rfl (.int .i64 u.f0) (.string u.f1) (.int .i64 u.f2) (.int .i64 u.f3) (.slice A4 u.f4.length c4)
  have hXb := set_five_below hzb (Nat.le_refl _) (.int .i64 u.f0) (.string u.f1) (.int .i64 u.f2) (.int .i64 u.f3) (.slice A4 u.f4.length c4)
  replace hXb := hXb.drew
  go_enter Tryz.func8, Tryz.ntmps8
  go_wp2
  (try rw [hz])
  go_region
  rename_i hKK
  refine hKK _ _ ?_
  clear hKK r0 r1 r2 r3 r4 hx0 hx1 hx2 hx3 hx4 f0 f1 f2 f3 f4
  replace hXx : (((((z.setCell ⟨w.heap.size, 0, none⟩ (.int .i64 u.f0)).setCell ⟨w.heap.size, 1, none⟩ (.string u.f1)).setCell ⟨w.heap.size, 2, none⟩ (.int .i64 u.f2)).setCell ⟨w.heap.size, 3, none⟩ (.int .i64 u.f3)).setCell ⟨w.heap.size, 4, none⟩ (.slice A4 u.f4.length c4)).drew.heap[w.heap.size]? = _ := hXx
  generalize (((((z.setCell ⟨w.heap.size, 0, none⟩ (.int .i64 u.f0)).setCell ⟨w.heap.size, 1, none⟩ (.string u.f1)).setCell ⟨w.heap.size, 2, none⟩ (.int .i64 u.f2)).setCell ⟨w.heap.size, 3, none⟩ (.int .i64 u.f3)).setCell ⟨w.heap.size, 4, none⟩ (.slice A4 u.f4.length c4)).drew = X at *
  clear hzx hzl hzb hz
  have hzx := hXx
  obtain ⟨f0, f1, f2, f3, f4⟩ := five_cells hXx (Below.refl _ _)
  have d1 : (u.f0 != 24) = true := bne_iff_ne.mpr HU.out
  go_wp2
  apply bodyPost_ret
  · exact results_tmp2 (fn := Tryz.f8) (t := 4) (u := 5) rfl _ _ _
  · rfl
  · exact ⟨rfl, hXb⟩
open Classical in
set_option maxRecDepth 100000 in
set_option maxHeartbeats 4000000 in
theorem val_kid_bad (wd : Int) (t : S24) (ht : Tiny t) (hk : t.f0 = 28) (hs : t.f1.toList = [45]) (hl : t.f4.length = 1) (hu : (rd_T24 t.f4 0).f0 = 24) (hp : ¬ (isPlain (rd_T24 t.f4 0).f1 ∧ (rd_T24 t.f4 0).f4.length = 0)) (A : Option Addr) (c : Nat) (w : World) (hC : k24.C w A t.f4.length t.f4) (hc : t.f4.length ≤ c) :
    Calls Tryz.prog 8 #[.int .i64 wd, .agg #[.int .i64 t.f0, .string t.f1, .int .i64 t.f2, .int .i64 t.f3, .slice A t.f4.length c]] w fun e w' => e = .returned (.tuple #[Value.int IntKind.i64 0, Value.bool false]) ∧ Below w.heap.size w w' := by
  rw [hk]
  have HU := Aside0.mk hu
  clear hu
  have HP := Aside0.mk hp
  clear hp
  have c1 : (t.f1.toList == ([45] : List UInt8)) = true := beq_iff_eq.mpr hs
  rw [hl] at hC hc ⊢
  obtain ⟨ad, A4, c4, rfl, hx0, hx1, hx2, hx3, hx4, hl4, hi4⟩ := at_T24 hC 0 (by omega) (by omega)
  have hut : Tiny (rd_T24 t.f4 0) := ht.kid _ (by
    unfold rd_T24
    rw [show Int.toNat 0 = 0 from rfl, List.getD_eq_getElem?_getD, List.getElem?_eq_getElem (by omega)]
    exact List.getElem_mem _)
  generalize rd_T24 t.f4 0 = u at *
  simp only [Int.toNat_zero, Nat.zero_mul, Addr.add_zero'] at hx0 hx1 hx2 hx3 hx4
  obtain ⟨z, hz⟩ : ∃ z, (w.alloc (Obj.cells #[Value.int IntKind.i64 28, Value.string t.f1, Value.int IntKind.i64 t.f2, Value.int IntKind.i64 t.f3, Value.slice (some ad) 1 c] 24 (0, 0))) = z := ⟨_, rfl⟩
  have hzb : Below w.heap.size w z := by rw [← hz]; exact (Below.refl _ w).alloc (Nat.le_refl _) _
  have hzx : z.heap[w.heap.size]? = some (.cells #[.int .i64 28, .string t.f1, .int .i64 t.f2, .int .i64 t.f3, .slice (some ad) 1 c] 24 (0, 0)) := by rw [← hz]; exact World.alloc_heap_new w _
  have hzl := (Array.getElem?_eq_some_iff.1 hzx).1
  obtain ⟨f0, f1, f2, f3, f4⟩ := five_cells hzx (Below.refl _ _)
  obtain ⟨r0, r1, r2, r3, r4⟩ := five_frozen hzx (Below.refl _ _)
  replace hx0 := (hzb.cell (World.block_lt_of_cell? w _ hx0)).trans hx0
  replace hx1 := (hzb.cell (World.block_lt_of_cell? w _ hx1)).trans hx1
  replace hx2 := (hzb.cell (World.block_lt_of_cell? w _ hx2)).trans hx2
  replace hx3 := (hzb.cell (World.block_lt_of_cell? w _ hx3)).trans hx3
  replace hx4 := (hzb.cell (World.block_lt_of_cell? w _ hx4)).trans hx4
  have hXx := set_five hzx rfl (.int .i64 u.f0) (.string u.f1) (.int .i64 u.f2) (.int .i64 u.f3) (.slice A4 u.f4.length c4)
  have hXb := set_five_below hzb (Nat.le_refl _) (.int .i64 u.f0) (.string u.f1) (.int .i64 u.f2) (.int .i64 u.f3) (.slice A4 u.f4.length c4)
  replace hXb := hXb.drew
  go_enter Tryz.func8, Tryz.ntmps8
  go_wp2
  (try rw [hz])
  go_region
  rename_i hKK
  refine hKK _ _ ?_
  clear hKK r0 r1 r2 r3 r4 hx0 hx1 hx2 hx3 hx4 f0 f1 f2 f3 f4
  replace hXx : (((((z.setCell ⟨w.heap.size, 0, none⟩ (.int .i64 u.f0)).setCell ⟨w.heap.size, 1, none⟩ (.string u.f1)).setCell ⟨w.heap.size, 2, none⟩ (.int .i64 u.f2)).setCell ⟨w.heap.size, 3, none⟩ (.int .i64 u.f3)).setCell ⟨w.heap.size, 4, none⟩ (.slice A4 u.f4.length c4)).drew.heap[w.heap.size]? = _ := hXx
  generalize (((((z.setCell ⟨w.heap.size, 0, none⟩ (.int .i64 u.f0)).setCell ⟨w.heap.size, 1, none⟩ (.string u.f1)).setCell ⟨w.heap.size, 2, none⟩ (.int .i64 u.f2)).setCell ⟨w.heap.size, 3, none⟩ (.int .i64 u.f3)).setCell ⟨w.heap.size, 4, none⟩ (.slice A4 u.f4.length c4)).drew = X at *
  clear hzx hzl hzb hz
  have hzx := hXx
  obtain ⟨f0, f1, f2, f3, f4⟩ := five_cells hXx (Below.refl _ _)
  have hu24 := HU.out
  rw [hu24] at f0
  have hex := expr_calls u hut hu24 A4 c4 X (Kd.C_below hi4 hXb) hl4; rw [hu24, decide_eq_false HP.out] at hex
  go_wp2_with (first | (go_at_call 28; (try rw [hz]); refine hex.mono ?_; rintro e w1 ⟨rfl, hb1⟩; obtain ⟨g0, g1, g2, g3, g4⟩ := five_cells hXx hb1))
  apply bodyPost_ret
  · exact results_tmp2 (fn := Tryz.f8) (t := 4) (u := 5) rfl _ _ _
  · rfl
  · exact ⟨rfl, Below.then_ hXb hb1⟩
open Classical in
set_option maxRecDepth 100000 in
set_option maxHeartbeats 4000000 in
theorem val_kid_low (wd : Int) (t : S24) (ht : Tiny t) (hk : t.f0 = 28) (hs : t.f1.toList = [45]) (hl : t.f4.length = 1) (hu : (rd_T24 t.f4 0).f0 = 24) (hp : isPlain (rd_T24 t.f4 0).f1 ∧ (rd_T24 t.f4 0).f4.length = 0) (hw : wd < 2) (A : Option Addr) (c : Nat) (w : World) (hC : k24.C w A t.f4.length t.f4) (hc : t.f4.length ≤ c) :
    Calls Tryz.prog 8 #[.int .i64 wd, .agg #[.int .i64 t.f0, .string t.f1, .int .i64 t.f2, .int .i64 t.f3, .slice A t.f4.length c]] w fun e w' => e = .returned (.tuple #[Value.int IntKind.i64 0, Value.bool false]) ∧ Below w.heap.size w w' := by
  rw [hk]
  have HU := Aside0.mk hu
  clear hu
  have HP := Aside0.mk hp
  clear hp
  have c1 : (t.f1.toList == ([45] : List UInt8)) = true := beq_iff_eq.mpr hs
  rw [hl] at hC hc ⊢
  obtain ⟨ad, A4, c4, rfl, hx0, hx1, hx2, hx3, hx4, hl4, hi4⟩ := at_T24 hC 0 (by omega) (by omega)
  have hut : Tiny (rd_T24 t.f4 0) := ht.kid _ (by
    unfold rd_T24
    rw [show Int.toNat 0 = 0 from rfl, List.getD_eq_getElem?_getD, List.getElem?_eq_getElem (by omega)]
    exact List.getElem_mem _)
  generalize rd_T24 t.f4 0 = u at *
  simp only [Int.toNat_zero, Nat.zero_mul, Addr.add_zero'] at hx0 hx1 hx2 hx3 hx4
  obtain ⟨z, hz⟩ : ∃ z, (w.alloc (Obj.cells #[Value.int IntKind.i64 28, Value.string t.f1, Value.int IntKind.i64 t.f2, Value.int IntKind.i64 t.f3, Value.slice (some ad) 1 c] 24 (0, 0))) = z := ⟨_, rfl⟩
  have hzb : Below w.heap.size w z := by rw [← hz]; exact (Below.refl _ w).alloc (Nat.le_refl _) _
  have hzx : z.heap[w.heap.size]? = some (.cells #[.int .i64 28, .string t.f1, .int .i64 t.f2, .int .i64 t.f3, .slice (some ad) 1 c] 24 (0, 0)) := by rw [← hz]; exact World.alloc_heap_new w _
  have hzl := (Array.getElem?_eq_some_iff.1 hzx).1
  obtain ⟨f0, f1, f2, f3, f4⟩ := five_cells hzx (Below.refl _ _)
  obtain ⟨r0, r1, r2, r3, r4⟩ := five_frozen hzx (Below.refl _ _)
  replace hx0 := (hzb.cell (World.block_lt_of_cell? w _ hx0)).trans hx0
  replace hx1 := (hzb.cell (World.block_lt_of_cell? w _ hx1)).trans hx1
  replace hx2 := (hzb.cell (World.block_lt_of_cell? w _ hx2)).trans hx2
  replace hx3 := (hzb.cell (World.block_lt_of_cell? w _ hx3)).trans hx3
  replace hx4 := (hzb.cell (World.block_lt_of_cell? w _ hx4)).trans hx4
  have hXx := set_five hzx rfl (.int .i64 u.f0) (.string u.f1) (.int .i64 u.f2) (.int .i64 u.f3) (.slice A4 u.f4.length c4)
  have hXb := set_five_below hzb (Nat.le_refl _) (.int .i64 u.f0) (.string u.f1) (.int .i64 u.f2) (.int .i64 u.f3) (.slice A4 u.f4.length c4)
  replace hXb := hXb.drew
  go_enter Tryz.func8, Tryz.ntmps8
  go_wp2
  (try rw [hz])
  go_region
  rename_i hKK
  refine hKK _ _ ?_
  clear hKK r0 r1 r2 r3 r4 hx0 hx1 hx2 hx3 hx4 f0 f1 f2 f3 f4
  replace hXx : (((((z.setCell ⟨w.heap.size, 0, none⟩ (.int .i64 u.f0)).setCell ⟨w.heap.size, 1, none⟩ (.string u.f1)).setCell ⟨w.heap.size, 2, none⟩ (.int .i64 u.f2)).setCell ⟨w.heap.size, 3, none⟩ (.int .i64 u.f3)).setCell ⟨w.heap.size, 4, none⟩ (.slice A4 u.f4.length c4)).drew.heap[w.heap.size]? = _ := hXx
  generalize (((((z.setCell ⟨w.heap.size, 0, none⟩ (.int .i64 u.f0)).setCell ⟨w.heap.size, 1, none⟩ (.string u.f1)).setCell ⟨w.heap.size, 2, none⟩ (.int .i64 u.f2)).setCell ⟨w.heap.size, 3, none⟩ (.int .i64 u.f3)).setCell ⟨w.heap.size, 4, none⟩ (.slice A4 u.f4.length c4)).drew = X at *
  clear hzx hzl hzb hz
  have hzx := hXx
  obtain ⟨f0, f1, f2, f3, f4⟩ := five_cells hXx (Below.refl _ _)
  have hu24 := HU.out
  rw [hu24] at f0
  have hex := expr_calls u hut hu24 A4 c4 X (Kd.C_below hi4 hXb) hl4; rw [hu24, decide_eq_true HP.out] at hex
  have d5 : decide (wd < 2) = true := decide_eq_true hw
  go_wp2_with (first | (go_at_call 28; (try rw [hz]); refine hex.mono ?_; rintro e w1 ⟨rfl, hb1⟩; obtain ⟨g0, g1, g2, g3, g4⟩ := five_cells hXx hb1))
  apply bodyPost_ret
  · exact results_tmp2 (fn := Tryz.f8) (t := 4) (u := 5) rfl _ _ _
  · rfl
  · exact ⟨rfl, Below.then_ hXb hb1⟩
open Classical in
set_option maxRecDepth 100000 in
set_option maxHeartbeats 4000000 in
theorem val_kid_high (wd : Int) (t : S24) (ht : Tiny t) (hk : t.f0 = 28) (hs : t.f1.toList = [45]) (hl : t.f4.length = 1) (hu : (rd_T24 t.f4 0).f0 = 24) (hp : isPlain (rd_T24 t.f4 0).f1 ∧ (rd_T24 t.f4 0).f4.length = 0) (hw : 8 < wd) (A : Option Addr) (c : Nat) (w : World) (hC : k24.C w A t.f4.length t.f4) (hc : t.f4.length ≤ c) :
    Calls Tryz.prog 8 #[.int .i64 wd, .agg #[.int .i64 t.f0, .string t.f1, .int .i64 t.f2, .int .i64 t.f3, .slice A t.f4.length c]] w fun e w' => e = .returned (.tuple #[Value.int IntKind.i64 0, Value.bool false]) ∧ Below w.heap.size w w' := by
  rw [hk]
  have HU := Aside0.mk hu
  clear hu
  have HP := Aside0.mk hp
  clear hp
  have c1 : (t.f1.toList == ([45] : List UInt8)) = true := beq_iff_eq.mpr hs
  rw [hl] at hC hc ⊢
  obtain ⟨ad, A4, c4, rfl, hx0, hx1, hx2, hx3, hx4, hl4, hi4⟩ := at_T24 hC 0 (by omega) (by omega)
  have hut : Tiny (rd_T24 t.f4 0) := ht.kid _ (by
    unfold rd_T24
    rw [show Int.toNat 0 = 0 from rfl, List.getD_eq_getElem?_getD, List.getElem?_eq_getElem (by omega)]
    exact List.getElem_mem _)
  generalize rd_T24 t.f4 0 = u at *
  simp only [Int.toNat_zero, Nat.zero_mul, Addr.add_zero'] at hx0 hx1 hx2 hx3 hx4
  obtain ⟨z, hz⟩ : ∃ z, (w.alloc (Obj.cells #[Value.int IntKind.i64 28, Value.string t.f1, Value.int IntKind.i64 t.f2, Value.int IntKind.i64 t.f3, Value.slice (some ad) 1 c] 24 (0, 0))) = z := ⟨_, rfl⟩
  have hzb : Below w.heap.size w z := by rw [← hz]; exact (Below.refl _ w).alloc (Nat.le_refl _) _
  have hzx : z.heap[w.heap.size]? = some (.cells #[.int .i64 28, .string t.f1, .int .i64 t.f2, .int .i64 t.f3, .slice (some ad) 1 c] 24 (0, 0)) := by rw [← hz]; exact World.alloc_heap_new w _
  have hzl := (Array.getElem?_eq_some_iff.1 hzx).1
  obtain ⟨f0, f1, f2, f3, f4⟩ := five_cells hzx (Below.refl _ _)
  obtain ⟨r0, r1, r2, r3, r4⟩ := five_frozen hzx (Below.refl _ _)
  replace hx0 := (hzb.cell (World.block_lt_of_cell? w _ hx0)).trans hx0
  replace hx1 := (hzb.cell (World.block_lt_of_cell? w _ hx1)).trans hx1
  replace hx2 := (hzb.cell (World.block_lt_of_cell? w _ hx2)).trans hx2
  replace hx3 := (hzb.cell (World.block_lt_of_cell? w _ hx3)).trans hx3
  replace hx4 := (hzb.cell (World.block_lt_of_cell? w _ hx4)).trans hx4
  have hXx := set_five hzx rfl (.int .i64 u.f0) (.string u.f1) (.int .i64 u.f2) (.int .i64 u.f3) (.slice A4 u.f4.length c4)
  have hXb := set_five_below hzb (Nat.le_refl _) (.int .i64 u.f0) (.string u.f1) (.int .i64 u.f2) (.int .i64 u.f3) (.slice A4 u.f4.length c4)
  replace hXb := hXb.drew
  go_enter Tryz.func8, Tryz.ntmps8
  go_wp2
  (try rw [hz])
  go_region
  rename_i hKK
  refine hKK _ _ ?_
  clear hKK r0 r1 r2 r3 r4 hx0 hx1 hx2 hx3 hx4 f0 f1 f2 f3 f4
  replace hXx : (((((z.setCell ⟨w.heap.size, 0, none⟩ (.int .i64 u.f0)).setCell ⟨w.heap.size, 1, none⟩ (.string u.f1)).setCell ⟨w.heap.size, 2, none⟩ (.int .i64 u.f2)).setCell ⟨w.heap.size, 3, none⟩ (.int .i64 u.f3)).setCell ⟨w.heap.size, 4, none⟩ (.slice A4 u.f4.length c4)).drew.heap[w.heap.size]? = _ := hXx
  generalize (((((z.setCell ⟨w.heap.size, 0, none⟩ (.int .i64 u.f0)).setCell ⟨w.heap.size, 1, none⟩ (.string u.f1)).setCell ⟨w.heap.size, 2, none⟩ (.int .i64 u.f2)).setCell ⟨w.heap.size, 3, none⟩ (.int .i64 u.f3)).setCell ⟨w.heap.size, 4, none⟩ (.slice A4 u.f4.length c4)).drew = X at *
  clear hzx hzl hzb hz
  have hzx := hXx
  obtain ⟨f0, f1, f2, f3, f4⟩ := five_cells hXx (Below.refl _ _)
  have hu24 := HU.out
  rw [hu24] at f0
  have hex := expr_calls u hut hu24 A4 c4 X (Kd.C_below hi4 hXb) hl4; rw [hu24, decide_eq_true HP.out] at hex
  have d5 : decide (wd < 2) = false := decide_eq_false (by omega)
  have d6 : decide (8 < wd) = true := decide_eq_true hw
  go_wp2_with (first | (go_at_call 28; (try rw [hz]); refine hex.mono ?_; rintro e w1 ⟨rfl, hb1⟩; obtain ⟨g0, g1, g2, g3, g4⟩ := five_cells hXx hb1))
  apply bodyPost_ret
  · exact results_tmp2 (fn := Tryz.f8) (t := 4) (u := 5) rfl _ _ _
  · rfl
  · exact ⟨rfl, Below.then_ hXb hb1⟩
open Classical in
set_option maxRecDepth 100000 in
set_option maxHeartbeats 4000000 in
theorem val_kid_yes (wd : Int) (t : S24) (ht : Tiny t) (hk : t.f0 = 28) (hs : t.f1.toList = [45]) (hl : t.f4.length = 1) (hu : (rd_T24 t.f4 0).f0 = 24) (hp : isPlain (rd_T24 t.f4 0).f1 ∧ (rd_T24 t.f4 0).f4.length = 0) (h2 : 2 ≤ wd) (h8 : wd ≤ 8) (x y r : Int) (hx : Lib.atoi (rd_T24 t.f4 0).f1.data.toList = some x) (hy : value_Wrap.f wd x = some y) (hr : value_Wrap.f wd (wrap64 (-y)) = some r) (A : Option Addr) (c : Nat) (w : World) (hC : k24.C w A t.f4.length t.f4) (hc : t.f4.length ≤ c) :
    Calls Tryz.prog 8 #[.int .i64 wd, .agg #[.int .i64 t.f0, .string t.f1, .int .i64 t.f2, .int .i64 t.f3, .slice A t.f4.length c]] w fun e w' => e = .returned (.tuple #[Value.int IntKind.i64 r, Value.bool true]) ∧ Below w.heap.size w w' := by
  rw [hk]
  have HU := Aside0.mk hu
  clear hu
  have HP := Aside0.mk hp
  clear hp
  have HX := Aside0.mk hx
  clear hx
  have c1 : (t.f1.toList == ([45] : List UInt8)) = true := beq_iff_eq.mpr hs
  rw [hl] at hC hc ⊢
  obtain ⟨ad, A4, c4, rfl, hx0, hx1, hx2, hx3, hx4, hl4, hi4⟩ := at_T24 hC 0 (by omega) (by omega)
  have hut : Tiny (rd_T24 t.f4 0) := ht.kid _ (by
    unfold rd_T24
    rw [show Int.toNat 0 = 0 from rfl, List.getD_eq_getElem?_getD, List.getElem?_eq_getElem (by omega)]
    exact List.getElem_mem _)
  generalize rd_T24 t.f4 0 = u at *
  simp only [Int.toNat_zero, Nat.zero_mul, Addr.add_zero'] at hx0 hx1 hx2 hx3 hx4
  obtain ⟨z, hz⟩ : ∃ z, (w.alloc (Obj.cells #[Value.int IntKind.i64 28, Value.string t.f1, Value.int IntKind.i64 t.f2, Value.int IntKind.i64 t.f3, Value.slice (some ad) 1 c] 24 (0, 0))) = z := ⟨_, rfl⟩
  have hzb : Below w.heap.size w z := by rw [← hz]; exact (Below.refl _ w).alloc (Nat.le_refl _) _
  have hzx : z.heap[w.heap.size]? = some (.cells #[.int .i64 28, .string t.f1, .int .i64 t.f2, .int .i64 t.f3, .slice (some ad) 1 c] 24 (0, 0)) := by rw [← hz]; exact World.alloc_heap_new w _
  have hzl := (Array.getElem?_eq_some_iff.1 hzx).1
  obtain ⟨f0, f1, f2, f3, f4⟩ := five_cells hzx (Below.refl _ _)
  obtain ⟨r0, r1, r2, r3, r4⟩ := five_frozen hzx (Below.refl _ _)
  replace hx0 := (hzb.cell (World.block_lt_of_cell? w _ hx0)).trans hx0
  replace hx1 := (hzb.cell (World.block_lt_of_cell? w _ hx1)).trans hx1
  replace hx2 := (hzb.cell (World.block_lt_of_cell? w _ hx2)).trans hx2
  replace hx3 := (hzb.cell (World.block_lt_of_cell? w _ hx3)).trans hx3
  replace hx4 := (hzb.cell (World.block_lt_of_cell? w _ hx4)).trans hx4
  have hXx := set_five hzx rfl (.int .i64 u.f0) (.string u.f1) (.int .i64 u.f2) (.int .i64 u.f3) (.slice A4 u.f4.length c4)
  have hXb := set_five_below hzb (Nat.le_refl _) (.int .i64 u.f0) (.string u.f1) (.int .i64 u.f2) (.int .i64 u.f3) (.slice A4 u.f4.length c4)
  replace hXb := hXb.drew
  go_enter Tryz.func8, Tryz.ntmps8
  go_wp2
  (try rw [hz])
  go_region
  rename_i hKK
  refine hKK _ _ ?_
  clear hKK r0 r1 r2 r3 r4 hx0 hx1 hx2 hx3 hx4 f0 f1 f2 f3 f4
  replace hXx : (((((z.setCell ⟨w.heap.size, 0, none⟩ (.int .i64 u.f0)).setCell ⟨w.heap.size, 1, none⟩ (.string u.f1)).setCell ⟨w.heap.size, 2, none⟩ (.int .i64 u.f2)).setCell ⟨w.heap.size, 3, none⟩ (.int .i64 u.f3)).setCell ⟨w.heap.size, 4, none⟩ (.slice A4 u.f4.length c4)).drew.heap[w.heap.size]? = _ := hXx
  generalize (((((z.setCell ⟨w.heap.size, 0, none⟩ (.int .i64 u.f0)).setCell ⟨w.heap.size, 1, none⟩ (.string u.f1)).setCell ⟨w.heap.size, 2, none⟩ (.int .i64 u.f2)).setCell ⟨w.heap.size, 3, none⟩ (.int .i64 u.f3)).setCell ⟨w.heap.size, 4, none⟩ (.slice A4 u.f4.length c4)).drew = X at *
  clear hzx hzl hzb hz
  have hzx := hXx
  obtain ⟨f0, f1, f2, f3, f4⟩ := five_cells hXx (Below.refl _ _)
  have hu24 := HU.out
  rw [hu24] at f0
  have hx := HX.out
  have hex := expr_calls u hut hu24 A4 c4 X (Kd.C_below hi4 hXb) hl4; rw [hu24, decide_eq_true HP.out] at hex
  have d5 : decide (wd < 2) = false := decide_eq_false (by omega)
  have d6 : decide (8 < wd) = false := decide_eq_false (by omega)
  have hsz : u.f1.size ≤ 9 := HP.out.1.1.2.1
  go_wp2_with (first | (go_at_call 28; (try rw [hz]); refine hex.mono ?_; rintro e w1 ⟨rfl, hb1⟩; obtain ⟨g0, g1, g2, g3, g4⟩ := five_cells hXx hb1) | (go_at_call 29; refine (atoi_calls _ x (by omega) hx _).mono ?_; rintro e w2 ⟨rfl, hb2⟩) | (go_at_call 30; (with_reducible refine (value_Wrap.calls wd x y _ hy).mono ?_); rintro e w' ⟨rfl, ⟨nd, rfl⟩⟩) | (go_at_call 30; refine (value_Wrap.calls wd _ r _ hr).mono ?_; rintro e w' ⟨rfl, ⟨nd2, rfl⟩⟩))
  apply bodyPost_ret
  · exact results_tmp2 (fn := Tryz.f8) (t := 4) (u := 5) rfl _ _ _
  · rfl
  · exact ⟨rfl, Below.then_ (Below.then_ (Below.then_ hXb hb1) hb2) (pw_below_drewN (Below.refl _ _) _)⟩
set_option maxRecDepth 100000 in
set_option maxHeartbeats 4000000 in
theorem val_self_other (wd : Int) (t : S24) (ht : Tiny t) (hu : t.f0 ≠ 24) (hk : t.f0 ≠ 28) (A : Option Addr) (c : Nat) (w : World) (hC : k24.C w A t.f4.length t.f4) (hc : t.f4.length ≤ c) :
    Calls Tryz.prog 8 #[.int .i64 wd, .agg #[.int .i64 t.f0, .string t.f1, .int .i64 t.f2, .int .i64 t.f3, .slice A t.f4.length c]] w fun e w' => e = .returned (.tuple #[Value.int IntKind.i64 0, Value.bool false]) ∧ Below w.heap.size w w' := by
  obtain ⟨u, hu⟩ : ∃ u, u = t := ⟨_, rfl⟩
  subst hu
  have hut := ht
  have hi4 := hC
  have hl4 := hc
  obtain ⟨A4, hA4⟩ : ∃ A4, A4 = A := ⟨_, rfl⟩
  subst hA4
  obtain ⟨c4, hc4⟩ : ∃ c4, c4 = c := ⟨_, rfl⟩
  subst hc4
  obtain ⟨X, hz⟩ : ∃ z, (w.alloc (Obj.cells #[Value.int IntKind.i64 u.f0, Value.string u.f1, Value.int IntKind.i64 u.f2, Value.int IntKind.i64 u.f3, Value.slice A4 u.f4.length c4] 24 (0, 0))) = z := ⟨_, rfl⟩
  have hXb : Below w.heap.size w X := by rw [← hz]; exact (Below.refl _ w).alloc (Nat.le_refl _) _
  have hXx : X.heap[w.heap.size]? = some (.cells #[.int .i64 u.f0, .string u.f1, .int .i64 u.f2, .int .i64 u.f3, .slice A4 u.f4.length c4] 24 (0, 0)) := by rw [← hz]; exact World.alloc_heap_new w _
  obtain ⟨f0, f1, f2, f3, f4⟩ := five_cells hXx (Below.refl _ _)
  have d1 : (u.f0 != 24) = true := bne_iff_ne.mpr hu
  have d0 : (u.f0 == 28) = false := beq_eq_false_iff_ne.mpr hk
  go_enter Tryz.func8, Tryz.ntmps8
  go_wp2
  (try rw [hz])
  apply bodyPost_ret
  · exact results_tmp2 (fn := Tryz.f8) (t := 4) (u := 5) rfl _ _ _
  · rfl
  · exact ⟨rfl, hXb⟩
set_option maxRecDepth 100000 in
set_option maxHeartbeats 4000000 in
theorem val_self_text (wd : Int) (t : S24) (ht : Tiny t) (hk : t.f0 = 28) (hs : t.f1.toList ≠ [45]) (A : Option Addr) (c : Nat) (w : World) (hC : k24.C w A t.f4.length t.f4) (hc : t.f4.length ≤ c) :
    Calls Tryz.prog 8 #[.int .i64 wd, .agg #[.int .i64 t.f0, .string t.f1, .int .i64 t.f2, .int .i64 t.f3, .slice A t.f4.length c]] w fun e w' => e = .returned (.tuple #[Value.int IntKind.i64 0, Value.bool false]) ∧ Below w.heap.size w w' := by
  obtain ⟨u, hu⟩ : ∃ u, u = t := ⟨_, rfl⟩
  subst hu
  have hut := ht
  have hi4 := hC
  have hl4 := hc
  obtain ⟨A4, hA4⟩ : ∃ A4, A4 = A := ⟨_, rfl⟩
  subst hA4
  obtain ⟨c4, hc4⟩ : ∃ c4, c4 = c := ⟨_, rfl⟩
  subst hc4
  obtain ⟨X, hz⟩ : ∃ z, (w.alloc (Obj.cells #[Value.int IntKind.i64 u.f0, Value.string u.f1, Value.int IntKind.i64 u.f2, Value.int IntKind.i64 u.f3, Value.slice A4 u.f4.length c4] 24 (0, 0))) = z := ⟨_, rfl⟩
  have hXb : Below w.heap.size w X := by rw [← hz]; exact (Below.refl _ w).alloc (Nat.le_refl _) _
  have hXx : X.heap[w.heap.size]? = some (.cells #[.int .i64 u.f0, .string u.f1, .int .i64 u.f2, .int .i64 u.f3, .slice A4 u.f4.length c4] 24 (0, 0)) := by rw [← hz]; exact World.alloc_heap_new w _
  obtain ⟨f0, f1, f2, f3, f4⟩ := five_cells hXx (Below.refl _ _)
  have d1 : (u.f1.toList == ([45] : List UInt8)) = false := beq_eq_false_iff_ne.mpr hs
  rw [hk]
  rw [hk] at f0 hz
  go_enter Tryz.func8, Tryz.ntmps8
  go_wp2
  (try rw [hz])
  apply bodyPost_ret
  · exact results_tmp2 (fn := Tryz.f8) (t := 4) (u := 5) rfl _ _ _
  · rfl
  · exact ⟨rfl, hXb⟩
set_option maxRecDepth 100000 in
set_option maxHeartbeats 4000000 in
theorem val_self_len (wd : Int) (t : S24) (ht : Tiny t) (hk : t.f0 = 28) (hs : t.f1.toList = [45]) (hl : t.f4.length ≠ 1) (A : Option Addr) (c : Nat) (w : World) (hC : k24.C w A t.f4.length t.f4) (hc : t.f4.length ≤ c) :
    Calls Tryz.prog 8 #[.int .i64 wd, .agg #[.int .i64 t.f0, .string t.f1, .int .i64 t.f2, .int .i64 t.f3, .slice A t.f4.length c]] w fun e w' => e = .returned (.tuple #[Value.int IntKind.i64 0, Value.bool false]) ∧ Below w.heap.size w w' := by
  obtain ⟨u, hu⟩ : ∃ u, u = t := ⟨_, rfl⟩
  subst hu
  have hut := ht
  have hi4 := hC
  have hl4 := hc
  obtain ⟨A4, hA4⟩ : ∃ A4, A4 = A := ⟨_, rfl⟩
  subst hA4
  obtain ⟨c4, hc4⟩ : ∃ c4, c4 = c := ⟨_, rfl⟩
  subst hc4
  obtain ⟨X, hz⟩ : ∃ z, (w.alloc (Obj.cells #[Value.int IntKind.i64 u.f0, Value.string u.f1, Value.int IntKind.i64 u.f2, Value.int IntKind.i64 u.f3, Value.slice A4 u.f4.length c4] 24 (0, 0))) = z := ⟨_, rfl⟩
  have hXb : Below w.heap.size w X := by rw [← hz]; exact (Below.refl _ w).alloc (Nat.le_refl _) _
  have hXx : X.heap[w.heap.size]? = some (.cells #[.int .i64 u.f0, .string u.f1, .int .i64 u.f2, .int .i64 u.f3, .slice A4 u.f4.length c4] 24 (0, 0)) := by rw [← hz]; exact World.alloc_heap_new w _
  obtain ⟨f0, f1, f2, f3, f4⟩ := five_cells hXx (Below.refl _ _)
  have d1 : (u.f1.toList == ([45] : List UInt8)) = true := beq_iff_eq.mpr hs
  have d2 : ((u.f4.length : Int) == 1) = false := beq_eq_false_iff_ne.mpr (by omega)
  rw [hk]
  rw [hk] at f0 hz
  go_enter Tryz.func8, Tryz.ntmps8
  go_wp2
  (try rw [hz])
  apply bodyPost_ret
  · exact results_tmp2 (fn := Tryz.f8) (t := 4) (u := 5) rfl _ _ _
  · rfl
  · exact ⟨rfl, hXb⟩
open Classical in
set_option maxRecDepth 100000 in
set_option maxHeartbeats 4000000 in
theorem val_self_bad (wd : Int) (t : S24) (ht : Tiny t) (hu : t.f0 = 24) (hp : ¬ (isPlain t.f1 ∧ t.f4.length = 0)) (A : Option Addr) (c : Nat) (w : World) (hC : k24.C w A t.f4.length t.f4) (hc : t.f4.length ≤ c) :
    Calls Tryz.prog 8 #[.int .i64 wd, .agg #[.int .i64 t.f0, .string t.f1, .int .i64 t.f2, .int .i64 t.f3, .slice A t.f4.length c]] w fun e w' => e = .returned (.tuple #[Value.int IntKind.i64 0, Value.bool false]) ∧ Below w.heap.size w w' := by
  have HP := Aside0.mk hp
  clear hp
  obtain ⟨u, hu⟩ : ∃ u, u = t := ⟨_, rfl⟩
  subst hu
  have hut := ht
  have hi4 := hC
  have hl4 := hc
  obtain ⟨A4, hA4⟩ : ∃ A4, A4 = A := ⟨_, rfl⟩
  subst hA4
  obtain ⟨c4, hc4⟩ : ∃ c4, c4 = c := ⟨_, rfl⟩
  subst hc4
  obtain ⟨X, hz⟩ : ∃ z, (w.alloc (Obj.cells #[Value.int IntKind.i64 u.f0, Value.string u.f1, Value.int IntKind.i64 u.f2, Value.int IntKind.i64 u.f3, Value.slice A4 u.f4.length c4] 24 (0, 0))) = z := ⟨_, rfl⟩
  have hXb : Below w.heap.size w X := by rw [← hz]; exact (Below.refl _ w).alloc (Nat.le_refl _) _
  have hXx : X.heap[w.heap.size]? = some (.cells #[.int .i64 u.f0, .string u.f1, .int .i64 u.f2, .int .i64 u.f3, .slice A4 u.f4.length c4] 24 (0, 0)) := by rw [← hz]; exact World.alloc_heap_new w _
  obtain ⟨f0, f1, f2, f3, f4⟩ := five_cells hXx (Below.refl _ _)
  have hu24 := hu
  have hex := expr_calls u hut hu24 A4 c4 X (Kd.C_below hi4 hXb) hl4; rw [hu24, decide_eq_false HP.out] at hex
  rw [hu24]
  rw [hu24] at f0 hz
  go_enter Tryz.func8, Tryz.ntmps8
  go_wp2_with (first | (go_at_call 28; (try rw [hz]); refine hex.mono ?_; rintro e w1 ⟨rfl, hb1⟩; obtain ⟨g0, g1, g2, g3, g4⟩ := five_cells hXx hb1))
  apply bodyPost_ret
  · exact results_tmp2 (fn := Tryz.f8) (t := 4) (u := 5) rfl _ _ _
  · rfl
  · exact ⟨rfl, Below.then_ hXb hb1⟩
open Classical in
set_option maxRecDepth 100000 in
set_option maxHeartbeats 4000000 in
theorem val_self_low (wd : Int) (t : S24) (ht : Tiny t) (hu : t.f0 = 24) (hp : isPlain t.f1 ∧ t.f4.length = 0) (hw : wd < 2) (A : Option Addr) (c : Nat) (w : World) (hC : k24.C w A t.f4.length t.f4) (hc : t.f4.length ≤ c) :
    Calls Tryz.prog 8 #[.int .i64 wd, .agg #[.int .i64 t.f0, .string t.f1, .int .i64 t.f2, .int .i64 t.f3, .slice A t.f4.length c]] w fun e w' => e = .returned (.tuple #[Value.int IntKind.i64 0, Value.bool false]) ∧ Below w.heap.size w w' := by
  have HP := Aside0.mk hp
  clear hp
  obtain ⟨u, hu⟩ : ∃ u, u = t := ⟨_, rfl⟩
  subst hu
  have hut := ht
  have hi4 := hC
  have hl4 := hc
  obtain ⟨A4, hA4⟩ : ∃ A4, A4 = A := ⟨_, rfl⟩
  subst hA4
  obtain ⟨c4, hc4⟩ : ∃ c4, c4 = c := ⟨_, rfl⟩
  subst hc4
  obtain ⟨X, hz⟩ : ∃ z, (w.alloc (Obj.cells #[Value.int IntKind.i64 u.f0, Value.string u.f1, Value.int IntKind.i64 u.f2, Value.int IntKind.i64 u.f3, Value.slice A4 u.f4.length c4] 24 (0, 0))) = z := ⟨_, rfl⟩
  have hXb : Below w.heap.size w X := by rw [← hz]; exact (Below.refl _ w).alloc (Nat.le_refl _) _
  have hXx : X.heap[w.heap.size]? = some (.cells #[.int .i64 u.f0, .string u.f1, .int .i64 u.f2, .int .i64 u.f3, .slice A4 u.f4.length c4] 24 (0, 0)) := by rw [← hz]; exact World.alloc_heap_new w _
  obtain ⟨f0, f1, f2, f3, f4⟩ := five_cells hXx (Below.refl _ _)
  have hu24 := hu
  have hex := expr_calls u hut hu24 A4 c4 X (Kd.C_below hi4 hXb) hl4; rw [hu24, decide_eq_true HP.out] at hex
  have d5 : decide (wd < 2) = true := decide_eq_true hw
  rw [hu24]
  rw [hu24] at f0 hz
  go_enter Tryz.func8, Tryz.ntmps8
  go_wp2_with (first | (go_at_call 28; (try rw [hz]); refine hex.mono ?_; rintro e w1 ⟨rfl, hb1⟩; obtain ⟨g0, g1, g2, g3, g4⟩ := five_cells hXx hb1))
  apply bodyPost_ret
  · exact results_tmp2 (fn := Tryz.f8) (t := 4) (u := 5) rfl _ _ _
  · rfl
  · exact ⟨rfl, Below.then_ hXb hb1⟩
open Classical in
set_option maxRecDepth 100000 in
set_option maxHeartbeats 4000000 in
theorem val_self_high (wd : Int) (t : S24) (ht : Tiny t) (hu : t.f0 = 24) (hp : isPlain t.f1 ∧ t.f4.length = 0) (hw : 8 < wd) (A : Option Addr) (c : Nat) (w : World) (hC : k24.C w A t.f4.length t.f4) (hc : t.f4.length ≤ c) :
    Calls Tryz.prog 8 #[.int .i64 wd, .agg #[.int .i64 t.f0, .string t.f1, .int .i64 t.f2, .int .i64 t.f3, .slice A t.f4.length c]] w fun e w' => e = .returned (.tuple #[Value.int IntKind.i64 0, Value.bool false]) ∧ Below w.heap.size w w' := by
  have HP := Aside0.mk hp
  clear hp
  obtain ⟨u, hu⟩ : ∃ u, u = t := ⟨_, rfl⟩
  subst hu
  have hut := ht
  have hi4 := hC
  have hl4 := hc
  obtain ⟨A4, hA4⟩ : ∃ A4, A4 = A := ⟨_, rfl⟩
  subst hA4
  obtain ⟨c4, hc4⟩ : ∃ c4, c4 = c := ⟨_, rfl⟩
  subst hc4
  obtain ⟨X, hz⟩ : ∃ z, (w.alloc (Obj.cells #[Value.int IntKind.i64 u.f0, Value.string u.f1, Value.int IntKind.i64 u.f2, Value.int IntKind.i64 u.f3, Value.slice A4 u.f4.length c4] 24 (0, 0))) = z := ⟨_, rfl⟩
  have hXb : Below w.heap.size w X := by rw [← hz]; exact (Below.refl _ w).alloc (Nat.le_refl _) _
  have hXx : X.heap[w.heap.size]? = some (.cells #[.int .i64 u.f0, .string u.f1, .int .i64 u.f2, .int .i64 u.f3, .slice A4 u.f4.length c4] 24 (0, 0)) := by rw [← hz]; exact World.alloc_heap_new w _
  obtain ⟨f0, f1, f2, f3, f4⟩ := five_cells hXx (Below.refl _ _)
  have hu24 := hu
  have hex := expr_calls u hut hu24 A4 c4 X (Kd.C_below hi4 hXb) hl4; rw [hu24, decide_eq_true HP.out] at hex
  have d5 : decide (wd < 2) = false := decide_eq_false (by omega)
  have d6 : decide (8 < wd) = true := decide_eq_true hw
  rw [hu24]
  rw [hu24] at f0 hz
  go_enter Tryz.func8, Tryz.ntmps8
  go_wp2_with (first | (go_at_call 28; (try rw [hz]); refine hex.mono ?_; rintro e w1 ⟨rfl, hb1⟩; obtain ⟨g0, g1, g2, g3, g4⟩ := five_cells hXx hb1))
  apply bodyPost_ret
  · exact results_tmp2 (fn := Tryz.f8) (t := 4) (u := 5) rfl _ _ _
  · rfl
  · exact ⟨rfl, Below.then_ hXb hb1⟩
open Classical in
set_option maxRecDepth 100000 in
set_option maxHeartbeats 4000000 in
theorem val_self_yes (wd : Int) (t : S24) (ht : Tiny t) (hu : t.f0 = 24) (hp : isPlain t.f1 ∧ t.f4.length = 0) (h2 : 2 ≤ wd) (h8 : wd ≤ 8) (x y r : Int) (hx : Lib.atoi t.f1.data.toList = some x) (hy : value_Wrap.f wd x = some y) (hr : value_Wrap.f wd (wrap64 y) = some r) (A : Option Addr) (c : Nat) (w : World) (hC : k24.C w A t.f4.length t.f4) (hc : t.f4.length ≤ c) :
    Calls Tryz.prog 8 #[.int .i64 wd, .agg #[.int .i64 t.f0, .string t.f1, .int .i64 t.f2, .int .i64 t.f3, .slice A t.f4.length c]] w fun e w' => e = .returned (.tuple #[Value.int IntKind.i64 r, Value.bool true]) ∧ Below w.heap.size w w' := by
  have HP := Aside0.mk hp
  clear hp
  have HX := Aside0.mk hx
  clear hx
  obtain ⟨u, hu⟩ : ∃ u, u = t := ⟨_, rfl⟩
  subst hu
  have hut := ht
  have hi4 := hC
  have hl4 := hc
  obtain ⟨A4, hA4⟩ : ∃ A4, A4 = A := ⟨_, rfl⟩
  subst hA4
  obtain ⟨c4, hc4⟩ : ∃ c4, c4 = c := ⟨_, rfl⟩
  subst hc4
  obtain ⟨X, hz⟩ : ∃ z, (w.alloc (Obj.cells #[Value.int IntKind.i64 u.f0, Value.string u.f1, Value.int IntKind.i64 u.f2, Value.int IntKind.i64 u.f3, Value.slice A4 u.f4.length c4] 24 (0, 0))) = z := ⟨_, rfl⟩
  have hXb : Below w.heap.size w X := by rw [← hz]; exact (Below.refl _ w).alloc (Nat.le_refl _) _
  have hXx : X.heap[w.heap.size]? = some (.cells #[.int .i64 u.f0, .string u.f1, .int .i64 u.f2, .int .i64 u.f3, .slice A4 u.f4.length c4] 24 (0, 0)) := by rw [← hz]; exact World.alloc_heap_new w _
  obtain ⟨f0, f1, f2, f3, f4⟩ := five_cells hXx (Below.refl _ _)
  have hu24 := hu
  have hx := HX.out
  have hex := expr_calls u hut hu24 A4 c4 X (Kd.C_below hi4 hXb) hl4; rw [hu24, decide_eq_true HP.out] at hex
  have d5 : decide (wd < 2) = false := decide_eq_false (by omega)
  have d6 : decide (8 < wd) = false := decide_eq_false (by omega)
  have hsz : u.f1.size ≤ 9 := HP.out.1.1.2.1
  rw [hu24]
  rw [hu24] at f0 hz
  go_enter Tryz.func8, Tryz.ntmps8
  go_wp2_with (first | (go_at_call 28; (try rw [hz]); refine hex.mono ?_; rintro e w1 ⟨rfl, hb1⟩; obtain ⟨g0, g1, g2, g3, g4⟩ := five_cells hXx hb1) | (go_at_call 29; refine (atoi_calls _ x (by omega) hx _).mono ?_; rintro e w2 ⟨rfl, hb2⟩) | (go_at_call 30; (with_reducible refine (value_Wrap.calls wd x y _ hy).mono ?_); rintro e w' ⟨rfl, ⟨nd, rfl⟩⟩) | (go_at_call 30; refine (value_Wrap.calls wd _ r _ hr).mono ?_; rintro e w' ⟨rfl, ⟨nd2, rfl⟩⟩))
  apply bodyPost_ret
  · exact results_tmp2 (fn := Tryz.f8) (t := 4) (u := 5) rfl _ _ _
  · rfl
  · exact ⟨rfl, Below.then_ (Below.then_ (Below.then_ hXb hb1) hb2) (pw_below_drewN (Below.refl _ _) _)⟩
end Go.Proofs.YtdnclnacneakbaaGreatDoor.PSmall
