/- The law's own walk: it answers true. -/
import Derived.Test.YtdnclnacneakbaaGreatDoorL1
import Derived.Test.YtdnclnacneakbaaGreatDoorL4
import Derived.Test.YtdnclnacneakbaaGreatDoorV2
set_option linter.unusedVariables false
set_option linter.unusedSimpArgs false
set_option linter.unusedSectionVars false
section
namespace Go.Proofs.YtdnclnacneakbaaGreatDoor.PSmall
open Go.RowKit Go.Shelf Go.Proofs.YtdnclnacneakbaaGreatDoorW.PrintWords Go.Proofs.YtdnclnacneakbaaGreatDoorW.PrintLast Go.Proofs.YtdnclnacneakbaaGreatDoorW.PrintMore
set_option linter.unusedVariables false
set_option linter.unusedSimpArgs false
theorem itoa_nat {n : Int} (h : 0 ≤ n) : (⟨(Lib.itoa n).toArray⟩ : ByteArray) = bs (Lib.decDigits n.toNat) := by
  unfold Lib.itoa; rw [if_neg (by omega)]; rfl
theorem k24_nil (w : World) : k24.C w none ([] : List S24).length [] := Kd.C_nil k24 w
theorem lit_both (wd v : Int) : ∃ (kd : Int) (s : ByteArray) (l : List S24) (e : Int),
    Ev (fun k => assessorref36_Literal.f k wd v) (kd, s, 0, 0, l, e) ∧ Ev (fun k => assessorref03_Equal.f k kd s 0 0 l kd s 0 0 l) true ∧
    (∀ w, Tab w → Calls Tryz.prog 6 #[.int .i64 wd, .int .i64 v] w fun r w' => ∃ A c, r = .returned (.tuple #[.agg #[.int .i64 kd, .string s, .int .i64 0, .int .i64 0, .slice A l.length c], .int .i64 e]) ∧ k24.C w' A l.length l ∧ l.length ≤ c ∧ Below w.heap.size w w') ∧
    (e ≠ 0 ∨ (e = 0 ∧ (2 ≤ wd ∧ wd ≤ 8 ∧ ∃ N : Int, (kd = 24 ∧ (isPlain s ∧ l.length = 0) ∧ Lib.atoi s.data.toList = some N ∧ v = wr wd N) ∨ (kd = 28 ∧ s.toList = [45] ∧ l.length = 1 ∧ (rd_T24 l 0).f0 = 24 ∧ (isPlain (rd_T24 l 0).f1 ∧ (rd_T24 l 0).f4.length = 0) ∧ Lib.atoi (rd_T24 l 0).f1.data.toList = some N ∧ v = wr wd (-(wr wd N)))) ∧ Tiny ⟨kd, s, 0, 0, l⟩)) := by
  by_cases hw : 2 ≤ wd ∧ wd ≤ 8
  · obtain ⟨h2, h8⟩ := hw
    obtain ⟨p1, p2⟩ := half_pos h2 h8
    have hL := value_least h2 h8
    have hG := value_greatest h2 h8
    by_cases hlo : v < -half wd
    · refine ⟨0, bs [], [], 2, ref_lit_bad (.inr ⟨⟨h2, h8⟩, .inl hlo⟩), equal_leaf _ _ _ _, fun w hT => ?_, .inl (by decide)⟩
      refine (lit_less wd v _ h2 h8 hL hlo w).mono ?_
      rintro r w' ⟨rfl, hb⟩
      exact ⟨none, 0, rfl, k24_nil w', Nat.le_refl _, hb⟩
    · by_cases hhi : half wd - 1 < v
      · refine ⟨0, bs [], [], 2, ref_lit_bad (.inr ⟨⟨h2, h8⟩, .inr hhi⟩), equal_leaf _ _ _ _, fun w hT => ?_, .inl (by decide)⟩
        refine (lit_more wd v _ _ h2 h8 hL hG (by omega) hhi w).mono ?_
        rintro r w' ⟨rfl, hb⟩
        exact ⟨none, 0, rfl, k24_nil w', Nat.le_refl _, hb⟩
      · have hr := ref_lit_ok h2 h8 (show -half wd ≤ v by omega) (by omega)
        by_cases hv : v < 0
        · rw [if_pos hv] at hr
          obtain ⟨i1, i2⟩ := itoa_plain (n := (-v).toNat) (by omega)
          refine ⟨28, bs [45], [⟨24, bs (Lib.decDigits (-v).toNat), 0, 0, []⟩], 0, hr, equal_one _ _ _ _ _ rfl, fun w hT => ?_, .inr ⟨rfl, ?_, tiny_of _ (by simp [cnt, cntL])⟩⟩
          · refine (lit_neg wd v _ _ h2 h8 hL hG (by omega) (by omega) hv (by omega) w hT).mono ?_
            rintro r w' ⟨A, c, rfl, hC, hc, hb⟩
            rw [itoa_nat (show 0 ≤ -v by omega)] at hC
            exact ⟨A, c, rfl, hC, hc, hb⟩
          · refine ⟨h2, h8, -v, .inr ⟨rfl, bs_toList _, rfl, rfl, ⟨i1, rfl⟩, ?_, (wr_neg_neg h2 h8 (by omega)).symm⟩⟩
            show Lib.atoi (bs (Lib.decDigits (-v).toNat)).data.toList = some (-v)
            rw [bs_data, i2]
            congr 1
            omega
        · rw [if_neg hv] at hr
          obtain ⟨i1, i2⟩ := itoa_plain (n := v.toNat) (by omega)
          refine ⟨24, bs (Lib.decDigits v.toNat), [], 0, hr, equal_leaf _ _ _ _, fun w hT => ?_, .inr ⟨rfl, ?_, tiny_of _ (by simp [cnt, cntL])⟩⟩
          · refine (lit_pos wd v _ _ h2 h8 hL hG (by omega) (by omega) (by omega) (by omega) w hT).mono ?_
            rintro r w' ⟨rfl, hb⟩
            rw [itoa_nat (show 0 ≤ v by omega)]
            exact ⟨none, 0, rfl, k24_nil w', Nat.le_refl _, hb⟩
          · refine ⟨h2, h8, v, .inl ⟨rfl, ⟨i1, rfl⟩, ?_, (wr_id h2 h8 (by omega)).symm⟩⟩
            rw [bs_data, i2]
            congr 1
            omega
  · refine ⟨0, bs [], [], 2, ref_lit_bad (.inl hw), equal_leaf _ _ _ _, fun w hT => ?_, .inl (by decide)⟩
    by_cases h2 : wd < 2
    · refine (lit_low wd v h2 w).mono ?_
      rintro r w' ⟨rfl, hb⟩
      exact ⟨none, 0, rfl, k24_nil w', Nat.le_refl _, hb⟩
    · refine (lit_high wd v (by omega) w).mono ?_
      rintro r w' ⟨rfl, hb⟩
      exact ⟨none, 0, rfl, k24_nil w', Nat.le_refl _, hb⟩
theorem laid_box (W : World) (v0 v1 v2 v3 v4 : Value) : ∃ Z X, W.alloc (Obj.cells #[Value.int IntKind.i64 0, Value.string { data := #[] }, Value.int IntKind.i64 0, Value.int IntKind.i64 0, Value.slice none 0 0] 24 (0, 0)) = Z ∧
    ((((Z.setCell ⟨W.heap.size, 0, none⟩ v0).setCell ⟨W.heap.size, 1, none⟩ v1).setCell ⟨W.heap.size, 2, none⟩ v2).setCell ⟨W.heap.size, 3, none⟩ v3).setCell ⟨W.heap.size, 4, none⟩ v4 = X ∧
    (Z.frozen? ⟨W.heap.size, 0, none⟩ = false ∧ Z.frozen? ⟨W.heap.size, 1, none⟩ = false ∧ Z.frozen? ⟨W.heap.size, 2, none⟩ = false ∧ Z.frozen? ⟨W.heap.size, 3, none⟩ = false ∧ Z.frozen? ⟨W.heap.size, 4, none⟩ = false) ∧
    (Z.cell? ⟨W.heap.size, 0, none⟩ = some (.int .i64 0) ∧ Z.cell? ⟨W.heap.size, 1, none⟩ = some (.string ⟨#[]⟩) ∧ Z.cell? ⟨W.heap.size, 2, none⟩ = some (.int .i64 0) ∧ Z.cell? ⟨W.heap.size, 3, none⟩ = some (.int .i64 0) ∧ Z.cell? ⟨W.heap.size, 4, none⟩ = some (.slice none 0 0)) ∧
    Below W.heap.size W X ∧ X.heap[W.heap.size]? = some (.cells #[v0, v1, v2, v3, v4] 24 (0, 0)) := by
  refine ⟨_, _, rfl, rfl, ?_, five_cells (World.alloc_heap_new W _) (Below.refl _ _), ?_, ?_⟩
  · exact five_frozen (World.alloc_heap_new W _) (Below.refl _ _)
  · exact set_five_below ((Below.refl _ W).alloc (Nat.le_refl _) _) (Nat.le_refl _) _ _ _ _ _
  · exact set_five (World.alloc_heap_new W _) rfl _ _ _ _ _
end Go.Proofs.YtdnclnacneakbaaGreatDoor.PSmall
end
section
namespace Go.Proofs.YtdnclnacneakbaaGreatDoor.PSmall
open Go.RowKit Go.Shelf Go.Proofs.YtdnclnacneakbaaGreatDoorW.PrintWords Go.Proofs.YtdnclnacneakbaaGreatDoorW.PrintLast Go.Proofs.YtdnclnacneakbaaGreatDoorW.PrintMore
set_option linter.unusedVariables false
set_option linter.unusedSimpArgs false
theorem _root_.Go.RowKit.Below.next_ {w W X : World} (h : Below w.heap.size w W) (h' : Below W.heap.size W X) : Below w.heap.size w X := h.trans (h'.mono h.size)
def LitOk (wd v kd : Int) (s : ByteArray) (l : List S24) (e : Int) : Prop := ∀ w, Tab w → Calls Tryz.prog 6 #[.int .i64 wd, .int .i64 v] w fun r w' => ∃ A c, r = .returned (.tuple #[.agg #[.int .i64 kd, .string s, .int .i64 0, .int .i64 0, .slice A l.length c], .int .i64 e]) ∧ k24.C w' A l.length l ∧ l.length ≤ c ∧ Below w.heap.size w w'
set_option maxRecDepth 100000 in
set_option maxHeartbeats 8000000 in
theorem law_big (wd v : Int) (t : S24) (A : Option Addr) (c : Nat) (w : World) (hS : Am.Stands w) (hT : Tab w) (hC : k24.C w A t.f4.length t.f4) (hc : t.f4.length ≤ c) (k : Nat) (hsm : assessorref03_Small.f k t.f0 t.f1 t.f2 t.f3 t.f4 20 = some false) :
    Calls Tryz.prog 3 #[.int .i64 wd, .int .i64 v, .agg #[.int .i64 t.f0, .string t.f1, .int .i64 t.f2, .int .i64 t.f3, .slice A t.f4.length c]] w fun e w' => e = .returned (.bool true) ∧ Below w.heap.size w w' := by
  have HSm := Aside0.mk hsm
  clear hsm
  obtain ⟨z, hz⟩ : ∃ z, (w.alloc (Obj.cells #[Value.int IntKind.i64 t.f0, Value.string t.f1, Value.int IntKind.i64 t.f2, Value.int IntKind.i64 t.f3, Value.slice A t.f4.length c] 24 (0, 0))) = z := ⟨_, rfl⟩
  have hzb : Below w.heap.size w z := by rw [← hz]; exact (Below.refl _ w).alloc (Nat.le_refl _) _
  have hzx : z.heap[w.heap.size]? = some (.cells #[.int .i64 t.f0, .string t.f1, .int .i64 t.f2, .int .i64 t.f3, .slice A t.f4.length c] 24 (0, 0)) := by rw [← hz]; exact World.alloc_heap_new w _
  have hzl := (Array.getElem?_eq_some_iff.1 hzx).1
  have hSz : Am.Stands z := hS.of (hzb.block 0 hS.lt)
  have aw : ∀ W, Am.Stands W → Calls Tryz.prog 4 #[] W fun e w' => e = .returned (.bool true) ∧ Below W.heap.size W w' := fun W h => Am.awake_calls W h
  go_enter Tryz.func3, Tryz.ntmps3
  go_wp2_with (first | (go_at_call 4; refine (aw _ hSz).mono ?_; rintro e w1 ⟨rfl, hb1⟩; have b1 := hzb.next_ hb1; have x1 : w1.heap[w.heap.size]? = _ := (hb1.block _ hzl).trans hzx; obtain ⟨f0, f1, f2, f3, f4⟩ := five_cells hzx hb1) | (go_at_call 5; refine (assessorref03_Small.calls k t.f0 t.f1 t.f2 t.f3 A c t.f4 20 false w1 (Kd.C_below hC b1) hc HSm.out).mono ?_; rintro e w2 ⟨rfl, hb2⟩; clear f0 f1 f2 f3 f4; have b2 := b1.next_ hb2; have x2 : w2.heap[w.heap.size]? = _ := (hb2.block _ (Array.getElem?_eq_some_iff.1 x1).1).trans x1))
  go_ret
  exact ⟨rfl, b2⟩
set_option maxRecDepth 100000 in
set_option maxHeartbeats 8000000 in
theorem law_bad (wd v : Int) (t : S24) (A : Option Addr) (c : Nat) (w : World) (hS : Am.Stands w) (hT : Tab w) (hC : k24.C w A t.f4.length t.f4) (hc : t.f4.length ≤ c) (k : Nat) (hsm : assessorref03_Small.f k t.f0 t.f1 t.f2 t.f3 t.f4 20 = some true) (kd : Int) (s : ByteArray) (l : List S24) (e : Int) (hrl : assessorref36_Literal.f k wd v = some (kd, s, 0, 0, l, e)) (heq : assessorref03_Equal.f k kd s 0 0 l kd s 0 0 l = some true) (hli : LitOk wd v kd s l e) (rr : Int) (rx : Bool) (hrv : PVal 9 wd t rr rx) (hv : PVal 8 wd t rr rx) (he : e ≠ 0) :
    Calls Tryz.prog 3 #[.int .i64 wd, .int .i64 v, .agg #[.int .i64 t.f0, .string t.f1, .int .i64 t.f2, .int .i64 t.f3, .slice A t.f4.length c]] w fun e w' => e = .returned (.bool true) ∧ Below w.heap.size w w' := by
  have HSm := Aside0.mk hsm
  clear hsm
  have HRl := Aside0.mk hrl
  have HE := Aside0.mk heq
  have HLi := Aside0.mk hli
  have HRv := Aside0.mk hrv
  have HV := Aside0.mk hv
  clear hrl heq hli hrv hv
  have ce : (e != 0) = true := bne_iff_ne.mpr he
  have HHe := Aside0.mk he
  clear he
  obtain ⟨z, hz⟩ : ∃ z, (w.alloc (Obj.cells #[Value.int IntKind.i64 t.f0, Value.string t.f1, Value.int IntKind.i64 t.f2, Value.int IntKind.i64 t.f3, Value.slice A t.f4.length c] 24 (0, 0))) = z := ⟨_, rfl⟩
  have hzb : Below w.heap.size w z := by rw [← hz]; exact (Below.refl _ w).alloc (Nat.le_refl _) _
  have hzx : z.heap[w.heap.size]? = some (.cells #[.int .i64 t.f0, .string t.f1, .int .i64 t.f2, .int .i64 t.f3, .slice A t.f4.length c] 24 (0, 0)) := by rw [← hz]; exact World.alloc_heap_new w _
  have hzl := (Array.getElem?_eq_some_iff.1 hzx).1
  have hSz : Am.Stands z := hS.of (hzb.block 0 hS.lt)
  have aw : ∀ W, Am.Stands W → Calls Tryz.prog 4 #[] W fun e w' => e = .returned (.bool true) ∧ Below W.heap.size W w' := fun W h => Am.awake_calls W h
  go_enter Tryz.func3, Tryz.ntmps3
  go_wp2_with (first | (go_at_call 4; refine (aw _ hSz).mono ?_; rintro e w1 ⟨rfl, hb1⟩; have b1 := hzb.next_ hb1; have x1 : w1.heap[w.heap.size]? = _ := (hb1.block _ hzl).trans hzx; obtain ⟨f0, f1, f2, f3, f4⟩ := five_cells hzx hb1) | (go_at_call 5; refine (assessorref03_Small.calls k t.f0 t.f1 t.f2 t.f3 A c t.f4 20 true w1 (Kd.C_below hC b1) hc HSm.out).mono ?_; rintro e w2 ⟨rfl, hb2⟩; clear f0 f1 f2 f3 f4; have b2 := b1.next_ hb2; have x2 : w2.heap[w.heap.size]? = _ := (hb2.block _ (Array.getElem?_eq_some_iff.1 x1).1).trans x1) | (go_at_call 6; refine (HLi.out _ (hT.below b2)).mono ?_; rintro e w3 ⟨A3, c3, rfl, hC3, hc3, hb3⟩; have b3 := b2.next_ hb3; have x3 : w3.heap[w.heap.size]? = _ := (hb3.block _ (Array.getElem?_eq_some_iff.1 x2).1).trans x2; obtain ⟨Z3, X3, hZ3, hX3, ⟨r30, r31, r32, r33, r34⟩, ⟨q30, q31, q32, q33, q34⟩, hbX3, hxX3⟩ := laid_box w3 (.int .i64 kd) (.string s) (.int .i64 0) (.int .i64 0) (.slice A3 l.length c3)) | (go_at_call 7; refine (assessorref36_Literal.calls k wd v kd s 0 0 l e X3 HRl.out).mono ?_; rintro e' w4 ⟨v4, rfl, hV4, hb4⟩; obtain ⟨A4, c4, rfl⟩ := Kd.V_slice hV4; obtain ⟨_, hc4, hC4⟩ := Kd.V_reads' hV4; clear r30 r31 r32 r33 r34 q30 q31 q32 q33 q34; have g3 := hbX3.next_ hb4; have b4 := b3.next_ g3; have x4 : w4.heap[w.heap.size]? = _ := (g3.block _ (Array.getElem?_eq_some_iff.1 x3).1).trans x3; have y4 : w4.heap[w3.heap.size]? = _ := (hb4.block _ (Array.getElem?_eq_some_iff.1 hxX3).1).trans hxX3; obtain ⟨Z4, X4, hZ4, hX4, ⟨r40, r41, r42, r43, r44⟩, ⟨q40, q41, q42, q43, q44⟩, hbX4, hxX4⟩ := laid_box w4 (.int .i64 kd) (.string s) (.int .i64 0) (.int .i64 0) (.slice A4 l.length c4); have xX4 : X4.heap[w.heap.size]? = _ := (hbX4.block _ (Array.getElem?_eq_some_iff.1 x4).1).trans x4; obtain ⟨f0, f1, f2, f3, f4⟩ := five_cells xX4 (Below.refl _ _)) | (go_at_call 9; have q9 := HRv.out A c w5 (Kd.C_below hC b5) hc; (with_reducible refine q9.mono ?_); clear q9; rintro e' w6 ⟨rfl, hb6⟩; clear f0 f1 f2 f3 f4; have b6 := b5.next_ hb6; have y6 : w6.heap[w3.heap.size]? = _ := (hb6.block _ (Array.getElem?_eq_some_iff.1 y5).1).trans y5; have u6 : w6.heap[w4.heap.size]? = _ := (hb6.block _ (Array.getElem?_eq_some_iff.1 u5).1).trans u5; obtain ⟨f0, f1, f2, f3, f4⟩ := five_cells y6 (Below.refl _ _); obtain ⟨p0, p1, p2, p3, p4⟩ := five_cells u6 (Below.refl _ _)) | (go_at_call 10; refine (assessorref03_Equal.calls k kd s 0 0 A3 c3 l kd s 0 0 A4 c4 l true w6 (Kd.C_below hC3 (g3.next_ (g4.next_ hb6))) hc3 (Kd.C_below hC4 (g4.next_ hb6)) hc4 HE.out).mono ?_; rintro e' w7 ⟨rfl, hb7⟩; clear f0 f1 f2 f3 f4 p0 p1 p2 p3 p4; have b7 := b6.next_ hb7; have y7 : w7.heap[w3.heap.size]? = _ := (hb7.block _ (Array.getElem?_eq_some_iff.1 y6).1).trans y6; obtain ⟨f0, f1, f2, f3, f4⟩ := five_cells y7 (Below.refl _ _)) | (go_at_call 8; have q8 := HV.out A c X4 (Kd.C_below hC (b4.next_ hbX4)) hc; (with_reducible refine q8.mono ?_); clear q8; rintro e' w5 ⟨rfl, hb5⟩; clear f0 f1 f2 f3 f4 r40 r41 r42 r43 r44 q40 q41 q42 q43 q44; have g4 := hbX4.next_ hb5; have b5 := b4.next_ g4; have x5 : w5.heap[w.heap.size]? = _ := (hb5.block _ (Array.getElem?_eq_some_iff.1 xX4).1).trans xX4; have y5 : w5.heap[w3.heap.size]? = _ := (g4.block _ (Array.getElem?_eq_some_iff.1 y4).1).trans y4; have u5 : w5.heap[w4.heap.size]? = _ := (hb5.block _ (Array.getElem?_eq_some_iff.1 hxX4).1).trans hxX4; obtain ⟨f0, f1, f2, f3, f4⟩ := five_cells x5 (Below.refl _ _)))
  go_ret
  exact ⟨rfl, b7⟩
set_option maxRecDepth 100000 in
set_option maxHeartbeats 8000000 in
theorem law_good (wd v : Int) (t : S24) (A : Option Addr) (c : Nat) (w : World) (hS : Am.Stands w) (hT : Tab w) (hC : k24.C w A t.f4.length t.f4) (hc : t.f4.length ≤ c) (k : Nat) (hsm : assessorref03_Small.f k t.f0 t.f1 t.f2 t.f3 t.f4 20 = some true) (kd : Int) (s : ByteArray) (l : List S24) (hrl : assessorref36_Literal.f k wd v = some (kd, s, 0, 0, l, 0)) (heq : assessorref03_Equal.f k kd s 0 0 l kd s 0 0 l = some true) (hli : LitOk wd v kd s l 0) (rr : Int) (rx : Bool) (hrv : PVal 9 wd t rr rx) (hv : PVal 8 wd t rr rx) (hv2 : PVal 8 wd ⟨kd, s, 0, 0, l⟩ v true) :
    Calls Tryz.prog 3 #[.int .i64 wd, .int .i64 v, .agg #[.int .i64 t.f0, .string t.f1, .int .i64 t.f2, .int .i64 t.f3, .slice A t.f4.length c]] w fun e w' => e = .returned (.bool true) ∧ Below w.heap.size w w' := by
  have HSm := Aside0.mk hsm
  clear hsm
  have HRl := Aside0.mk hrl
  have HE := Aside0.mk heq
  have HLi := Aside0.mk hli
  have HRv := Aside0.mk hrv
  have HV := Aside0.mk hv
  clear hrl heq hli hrv hv
  have HV2 := Aside0.mk hv2
  clear hv2
  obtain ⟨z, hz⟩ : ∃ z, (w.alloc (Obj.cells #[Value.int IntKind.i64 t.f0, Value.string t.f1, Value.int IntKind.i64 t.f2, Value.int IntKind.i64 t.f3, Value.slice A t.f4.length c] 24 (0, 0))) = z := ⟨_, rfl⟩
  have hzb : Below w.heap.size w z := by rw [← hz]; exact (Below.refl _ w).alloc (Nat.le_refl _) _
  have hzx : z.heap[w.heap.size]? = some (.cells #[.int .i64 t.f0, .string t.f1, .int .i64 t.f2, .int .i64 t.f3, .slice A t.f4.length c] 24 (0, 0)) := by rw [← hz]; exact World.alloc_heap_new w _
  have hzl := (Array.getElem?_eq_some_iff.1 hzx).1
  have hSz : Am.Stands z := hS.of (hzb.block 0 hS.lt)
  have aw : ∀ W, Am.Stands W → Calls Tryz.prog 4 #[] W fun e w' => e = .returned (.bool true) ∧ Below W.heap.size W w' := fun W h => Am.awake_calls W h
  go_enter Tryz.func3, Tryz.ntmps3
  go_wp2_with (first | (go_at_call 4; refine (aw _ hSz).mono ?_; rintro e w1 ⟨rfl, hb1⟩; have b1 := hzb.next_ hb1; have x1 : w1.heap[w.heap.size]? = _ := (hb1.block _ hzl).trans hzx; obtain ⟨f0, f1, f2, f3, f4⟩ := five_cells hzx hb1) | (go_at_call 5; refine (assessorref03_Small.calls k t.f0 t.f1 t.f2 t.f3 A c t.f4 20 true w1 (Kd.C_below hC b1) hc HSm.out).mono ?_; rintro e w2 ⟨rfl, hb2⟩; clear f0 f1 f2 f3 f4; have b2 := b1.next_ hb2; have x2 : w2.heap[w.heap.size]? = _ := (hb2.block _ (Array.getElem?_eq_some_iff.1 x1).1).trans x1) | (go_at_call 6; refine (HLi.out _ (hT.below b2)).mono ?_; rintro e w3 ⟨A3, c3, rfl, hC3, hc3, hb3⟩; have b3 := b2.next_ hb3; have x3 : w3.heap[w.heap.size]? = _ := (hb3.block _ (Array.getElem?_eq_some_iff.1 x2).1).trans x2; obtain ⟨Z3, X3, hZ3, hX3, ⟨r30, r31, r32, r33, r34⟩, ⟨q30, q31, q32, q33, q34⟩, hbX3, hxX3⟩ := laid_box w3 (.int .i64 kd) (.string s) (.int .i64 0) (.int .i64 0) (.slice A3 l.length c3)) | (go_at_call 7; refine (assessorref36_Literal.calls k wd v kd s 0 0 l 0 X3 HRl.out).mono ?_; rintro e' w4 ⟨v4, rfl, hV4, hb4⟩; obtain ⟨A4, c4, rfl⟩ := Kd.V_slice hV4; obtain ⟨_, hc4, hC4⟩ := Kd.V_reads' hV4; clear r30 r31 r32 r33 r34 q30 q31 q32 q33 q34; have g3 := hbX3.next_ hb4; have b4 := b3.next_ g3; have x4 : w4.heap[w.heap.size]? = _ := (g3.block _ (Array.getElem?_eq_some_iff.1 x3).1).trans x3; have y4 : w4.heap[w3.heap.size]? = _ := (hb4.block _ (Array.getElem?_eq_some_iff.1 hxX3).1).trans hxX3; obtain ⟨Z4, X4, hZ4, hX4, ⟨r40, r41, r42, r43, r44⟩, ⟨q40, q41, q42, q43, q44⟩, hbX4, hxX4⟩ := laid_box w4 (.int .i64 kd) (.string s) (.int .i64 0) (.int .i64 0) (.slice A4 l.length c4); have xX4 : X4.heap[w.heap.size]? = _ := (hbX4.block _ (Array.getElem?_eq_some_iff.1 x4).1).trans x4; obtain ⟨f0, f1, f2, f3, f4⟩ := five_cells xX4 (Below.refl _ _)) | (go_at_call 9; have q9 := HRv.out A c w5 (Kd.C_below hC b5) hc; (with_reducible refine q9.mono ?_); clear q9; rintro e' w6 ⟨rfl, hb6⟩; clear f0 f1 f2 f3 f4; have b6 := b5.next_ hb6; have y6 : w6.heap[w3.heap.size]? = _ := (hb6.block _ (Array.getElem?_eq_some_iff.1 y5).1).trans y5; have u6 : w6.heap[w4.heap.size]? = _ := (hb6.block _ (Array.getElem?_eq_some_iff.1 u5).1).trans u5; obtain ⟨f0, f1, f2, f3, f4⟩ := five_cells y6 (Below.refl _ _); obtain ⟨p0, p1, p2, p3, p4⟩ := five_cells u6 (Below.refl _ _)) | (go_at_call 10; refine (assessorref03_Equal.calls k kd s 0 0 A3 c3 l kd s 0 0 A4 c4 l true w6 (Kd.C_below hC3 (g3.next_ (g4.next_ hb6))) hc3 (Kd.C_below hC4 (g4.next_ hb6)) hc4 HE.out).mono ?_; rintro e' w7 ⟨rfl, hb7⟩; clear f0 f1 f2 f3 f4 p0 p1 p2 p3 p4; have b7 := b6.next_ hb7; have y7 : w7.heap[w3.heap.size]? = _ := (hb7.block _ (Array.getElem?_eq_some_iff.1 y6).1).trans y6; obtain ⟨f0, f1, f2, f3, f4⟩ := five_cells y7 (Below.refl _ _)) | (first | (go_at_call 8; have q8 := HV.out A c X4 (Kd.C_below hC (b4.next_ hbX4)) hc; (with_reducible refine q8.mono ?_); clear q8; rintro e' w5 ⟨rfl, hb5⟩; clear f0 f1 f2 f3 f4 r40 r41 r42 r43 r44 q40 q41 q42 q43 q44; have g4 := hbX4.next_ hb5; have b5 := b4.next_ g4; have x5 : w5.heap[w.heap.size]? = _ := (hb5.block _ (Array.getElem?_eq_some_iff.1 xX4).1).trans xX4; have y5 : w5.heap[w3.heap.size]? = _ := (g4.block _ (Array.getElem?_eq_some_iff.1 y4).1).trans y4; have u5 : w5.heap[w4.heap.size]? = _ := (hb5.block _ (Array.getElem?_eq_some_iff.1 hxX4).1).trans hxX4; obtain ⟨f0, f1, f2, f3, f4⟩ := five_cells x5 (Below.refl _ _)) | (go_at_call 8; have q8 := HV2.out A3 c3 w7 (Kd.C_below hC3 ((g3.next_ (g4.next_ hb6)).next_ hb7)) hc3; (with_reducible refine q8.mono ?_); clear q8; rintro e' w8 ⟨rfl, hb8⟩; have b8 := b7.next_ hb8)))
  go_ret
  exact ⟨rfl, b8⟩
end Go.Proofs.YtdnclnacneakbaaGreatDoor.PSmall
end
section
namespace Go.Proofs.YtdnclnacneakbaaGreatDoor.PSmall
open Go.RowKit Go.Shelf Go.Proofs.YtdnclnacneakbaaGreatDoorW.PrintWords Go.Proofs.YtdnclnacneakbaaGreatDoorW.PrintLast Go.Proofs.YtdnclnacneakbaaGreatDoorW.PrintMore
theorem law_all (wd v : Int) (t : S24) (A : Option Addr) (c : Nat) (w : World) (hS : Am.Stands w) (hT : Tab w) (hC : k24.C w A t.f4.length t.f4) (hc : t.f4.length ≤ c) (hn : cnt t < 2199023255552) :
    Calls Tryz.prog 3 #[.int .i64 wd, .int .i64 v, .agg #[.int .i64 t.f0, .string t.f1, .int .i64 t.f2, .int .i64 t.f3, .slice A t.f4.length c]] w fun e w' => e = .returned (.bool true) ∧ Below w.heap.size w w' := by
  obtain ⟨b, ⟨K0, h0⟩, hb⟩ := small_ev t hn
  cases b with
  | false => exact law_big wd v t A c w hS hT hC hc K0 (h0 K0 (Nat.le_refl _))
  | true =>
    have ht := hb rfl
    obtain ⟨kd, s, l, e, ⟨K1, h1⟩, ⟨K2, h2⟩, hli, he⟩ := lit_both wd v
    obtain ⟨rr, rx, hv, g3, _⟩ := value_both wd t ht
    have g0 := h0 (K0 + K1 + K2) (by omega)
    have g1 := h1 (K0 + K1 + K2) (by omega)
    have g2 := h2 (K0 + K1 + K2) (by omega)
    rcases he with he | ⟨rfl, hev, htl⟩
    · exact law_bad wd v t A c w hS hT hC hc _ g0 kd s l e g1 g2 hli rr rx g3 hv he
    · obtain ⟨r2, x2, hv2, _, hh⟩ := value_both wd ⟨kd, s, 0, 0, l⟩ htl
      obtain ⟨h2w, h8w, N, hN⟩ := hev
      have hq : r2 = v ∧ x2 = true := by
        rcases hN with ⟨a1, a2, a3, a4⟩ | ⟨a1, a2, a3, a4, a5, a6, a7⟩
        · rw [a4]; exact (hh h2w h8w N).1 ⟨a1, a2, a3⟩
        · rw [a7]; exact (hh h2w h8w N).2 ⟨a1, a2, a3, a4, a5, a6⟩
      rw [hq.1, hq.2] at hv2
      exact law_good wd v t A c w hS hT hC hc _ g0 kd s l g1 g2 hli rr rx g3 hv hv2
end Go.Proofs.YtdnclnacneakbaaGreatDoor.PSmall
end
