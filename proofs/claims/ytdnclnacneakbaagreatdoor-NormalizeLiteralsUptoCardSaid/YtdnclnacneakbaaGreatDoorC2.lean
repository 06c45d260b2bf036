/- What nobody goes, the reading of the arguments, the contract of the row. -/
import Derived.Carry
import Derived.ChangeOld
import Derived.Deep.DeepHandedRow
import Derived.Deep.DeepWitnessRowRef
import Derived.KernelRfl
import Derived.LaidLaws
import Derived.Lib.LaidTab
import Derived.OpenShut
import Derived.ProofKit
import Derived.Stop.LaidErr
import Derived.Test.YtdnclnacneakbaaGreatDoorCards
import Derived.Test.YtdnclnacneakbaaGreatDoorRows
import Derived.Test.YtdnclnacneakbaaGreatDoorTie
import Derived.WalkKit
import Derived.Test.YtdnclnacneakbaaGreatDoorL4
import Derived.Test.YtdnclnacneakbaaGreatDoorL5
set_option linter.unusedVariables false
set_option linter.unusedSimpArgs false
set_option linter.unusedSectionVars false
section
namespace Go.Proofs.YtdnclnacneakbaaGreatDoor.PSmall
open Go.ChangeShapes Go.WideShapes Go.ChangeAt Go.RowKit Go.Proofs.YtdnclnacneakbaaGreatDoorW.PrintWords
set_option linter.unusedVariables false
theorem cells24 : Tryz.prog.cellsOf 24 = 5 := by kernel_rfl
theorem cells3 : Tryz.prog.cellsOf 3 = 1 := by kernel_rfl
theorem cells9 : Tryz.prog.cellsOf 9 = 1 := by kernel_rfl
theorem cells22 : Tryz.prog.cellsOf 22 = 1 := by kernel_rfl
theorem list_of {α : Type} {P : Nat → α → Prop} : ∀ (n : Nat), (∀ i, i < n → ∃ t, P i t) → ∃ l : List α, l.length = n ∧ ∀ i t, l[i]? = some t → P i t
  | 0, _ => ⟨[], rfl, fun i t h => by simp at h⟩
  | n + 1, h => by
    obtain ⟨l, h1, h2⟩ := list_of n (fun i hi => h i (by omega))
    obtain ⟨t, ht⟩ := h n (by omega)
    refine ⟨l ++ [t], by simp [h1], fun i u hu => ?_⟩
    by_cases hi : i < n
    · rw [List.getElem?_append_left (by omega)] at hu
      exact h2 i u hu
    · have hin : i = n := by
        have := (List.getElem?_eq_some_iff.1 hu).1
        simp at this; omega
      subst hin
      rw [List.getElem?_append_right (by omega)] at hu
      simp [h1] at hu
      subst hu
      exact ht
section
variable {H : Type} {enc : TypeId × Value → H} {w : World}
theorem sum_le : ∀ (l : List S24) (es : List (DataW H × List MemPlace)), l.length = es.length → (∀ (i : Nat) (t : S24) (y : DataW H × List MemPlace), l[i]? = some t → es[i]? = some y → cnt t ≤ Rows.uptoBulk y.1) → cntL l ≤ Rows.uptoBulkAll (es.map (·.1))
  | [], [], _, _ => Nat.le_refl _
  | t :: l, y :: es, hl, h => by
    have h0 := h 0 t y rfl rfl
    have h1 := sum_le l es (by simpa using hl) (fun i u z hu hz => h (i + 1) u z (by simpa using hu) (by simpa using hz))
    simp only [cntL, List.map_cons, Rows.uptoBulkAll]
    omega
theorem trod_struct5 {P : Program} {t : TypeId} {f0 f1 f2 f3 f4 : Field} {fuel : Nat} {cs : List Value} {x : DataW H × List MemPlace} (ht : P.underlying t = some (.struct #[f0, f1, f2, f3, f4])) (h : DataW.trod enc P w 0 (fun _ => true) true fuel t cs = some x) :
    ∃ y0 y1 y2 y3 y4 n, fuel = n + 1 ∧ x.1 = .agg [y0.1, y1.1, y2.1, y3.1, y4.1] ∧ cs.length = P.cellsOf t ∧ DataW.trod enc P w 0 (fun _ => true) true n f0.type ((cs.drop f0.offset).take (P.cellsOf f0.type)) = some y0 ∧
      DataW.trod enc P w 0 (fun _ => true) true n f1.type ((cs.drop f1.offset).take (P.cellsOf f1.type)) = some y1 ∧ DataW.trod enc P w 0 (fun _ => true) true n f2.type ((cs.drop f2.offset).take (P.cellsOf f2.type)) = some y2 ∧
      DataW.trod enc P w 0 (fun _ => true) true n f3.type ((cs.drop f3.offset).take (P.cellsOf f3.type)) = some y3 ∧ DataW.trod enc P w 0 (fun _ => true) true n f4.type ((cs.drop f4.offset).take (P.cellsOf f4.type)) = some y4 := by
  obtain ⟨xs, n, e, rfl, hl, hlen, hf⟩ := DataW.trod_struct ht h
  match xs, hlen with
  | [y0, y1, y2, y3, y4], _ => exact ⟨y0, y1, y2, y3, y4, n, e, by simp, hl, by simpa using hf 0 f0 rfl, by simpa using hf 1 f1 rfl, by simpa using hf 2 f2 rfl, by simpa using hf 3 f3 rfl, by simpa using hf 4 f4 rfl⟩
set_option maxRecDepth 100000 in
theorem read24 (n : Nat) : ∀ (cs : List Value) (x : DataW H × List MemPlace), DataW.trod enc Tryz.prog w 0 (fun _ => true) true n 24 cs = some x →
    ∃ (t : S24) (A : Option Addr) (c : Nat), cs = [.int .i64 t.f0, .string t.f1, .int .i64 t.f2, .int .i64 t.f3, .slice A t.f4.length c] ∧ t.f4.length ≤ c ∧ k24.C w A t.f4.length t.f4 ∧ cnt t ≤ Rows.uptoBulk x.1 := by
  induction n using Nat.strongRecOn with
  | _ n ih =>
  intro cs x h
  obtain ⟨y0, y1, y2, y3, y4, m, rfl, ex, hl, h0, h1, h2, h3, h4⟩ := trod_struct5 Tryz.underlying24 h
  rw [cells24] at hl
  rw [ex]
  clear h ex
  match cs, hl with
  | [c0, c1, c2, c3, c4], _ =>
    dsimp only at h0 h1 h2 h3 h4
    rw [cells3] at h0 h2 h3
    rw [cells9] at h1
    rw [cells22] at h4
    simp only [List.drop_zero, List.drop_succ_cons, List.take_succ_cons, List.take_zero, List.getElem?_cons_zero, List.getElem?_cons_succ] at h0 h1 h2 h3 h4
    obtain ⟨k0, e0, rfl, _⟩ := DataW.trod_int Tryz.underlying3 h0
    obtain ⟨s1, e1, rfl, _⟩ := DataW.trod_string Tryz.underlying9 h1
    obtain ⟨k2, e2, rfl, _⟩ := DataW.trod_int Tryz.underlying3 h2
    obtain ⟨k3, e3, rfl, _⟩ := DataW.trod_int Tryz.underlying3 h3
    simp only [List.cons.injEq, and_true] at e0 e1 e2 e3
    subst e0; subst e1; subst e2; subst e3
    rcases DataW.trod_slice Tryz.underlying22 h4 with ⟨e4, rfl⟩ | ⟨a, len, cap, elems, rest, k, rfl, e4, rfl, _, hlc, hcm, hel, hat, _, _⟩
    · simp only [List.cons.injEq, and_true] at e4
      subst e4
      refine ⟨⟨k0, s1, k2, k3, []⟩, none, 0, rfl, Nat.le_refl _, Kd.C_nil k24 w, ?_⟩
      simp only [cnt, cntL, List.map_cons, List.map_nil, Rows.uptoBulk]
      omega
    · simp only [List.cons.injEq, and_true] at e4
      subst e4
      rw [cells24] at hat
      have hone : ∀ i, i < len → ∃ t : S24, (∃ ci, ci.length = 5 ∧ k24.K w t ci ∧ ∀ j u, ci[j]? = some u → w.cell? (a.add (i * 5 + j)) = some u) ∧ ∀ y, elems[i]? = some y → cnt t ≤ Rows.uptoBulk y.1 := by
        intro i hi
        have hx := hat i hi
        rw [List.getElem?_eq_getElem (by omega)] at hx
        obtain ⟨ci, hc1, hc2⟩ := Option.bind_eq_some_iff.1 hx
        obtain ⟨t, A, c, rfl, ht1, ht2, ht3⟩ := ih k (by omega) ci _ hc2
        obtain ⟨_, hcl, hcc⟩ := World.cells?_some hc1
        refine ⟨t, ⟨_, rfl, k24_mk w t ht1 ht2, fun j u hu => ?_⟩, fun y hy => ?_⟩
        · have hj : j < 5 := (List.getElem?_eq_some_iff.1 hu).1
          have := hcc j hj
          rw [hu] at this
          rw [← this, Addr.add_add]
        · rw [List.getElem?_eq_getElem (by omega)] at hy
          cases hy
          exact ht3
      obtain ⟨l, hl1, hl2⟩ := list_of len hone
      refine ⟨⟨k0, s1, k2, k3, l⟩, some a, cap, by simp only [hl1], by simp only [hl1]; exact hlc, ⟨rfl, by simp only [hl1]; exact Nat.le_trans hlc (Nat.le_trans hcm (by decide +kernel)), fun _ => ⟨a, rfl, fun j p hp => ?_⟩⟩, ?_⟩
      · obtain ⟨ci, q1, q2, q3⟩ := (hl2 j p hp).1
        exact ⟨ci, q1, q2, q3⟩
      · have hs := sum_le l elems (by omega) (fun i t y ht hy => (hl2 i t ht).2 y hy)
        simp only [cnt, List.map_cons, List.map_nil, Rows.uptoBulk, Rows.uptoBulkAll]
        omega
end
end Go.Proofs.YtdnclnacneakbaaGreatDoor.PSmall
end
section
namespace Go.Proofs.YtdnclnacneakbaaGreatDoor.law
open Go.ChangeShapes Go.WideShapes Go.ChangeAt Go.RowKit Go.Proofs.YtdnclnacneakbaaGreatDoor.PSmall
set_option linter.unusedVariables false
theorem own : ownKnob Tryz.prog.godebug = none := by kernel_rfl
theorem laidOut : laidOutB Tryz.prog = true := by kernel_rfl
theorem gTab : Tryz.prog.globalNamed "internal/strconv.uint64pow10" = some 3 := by kernel_rfl
theorem gTabType : (Tryz.prog.globals[3]?).map (·.type) = some 338 := by kernel_rfl
theorem under338 : Tryz.prog.underlying 338 = some (.array 20 261) := Tryz.underlying338
theorem under261 : Tryz.prog.underlying 261 = some (.int .u64) := Tryz.underlying261
theorem cells338 : Tryz.prog.cellsOf 338 = 20 := by kernel_rfl
theorem cells261 : Tryz.prog.cellsOf 261 = 1 := by kernel_rfl
theorem table {W : World} (h : laidMetH Tryz.prog Rows.normalizeLiteralsUptoRow.laid W) : Tab W := by
  have h1 : laidMet Tryz.prog Rows.normalizeLiteralsUptoRow.laid W := h
  have h2 : laidMet Tryz.prog [("internal/strconv.uint64pow10", Rows.laid_internal_strconv_uint64pow10), ("strconv.ErrRange", Rows.laid_strconv_ErrRange), ("strconv.ErrSyntax", Rows.laid_strconv_ErrSyntax)] W := laidMet.tail (laidMet.tail h1)
  exact Lib.tabIs_of_head gTab gTabType under338 under261 cells261 cells338 h2
theorem stands {W : World} (h : W.ShapedOpen Tryz.prog) : Am.Stands W := by
  obtain ⟨m, hm⟩ := Tryz.laysM144.s1_3 W h
  exact ⟨m, hm⟩
set_option maxRecDepth 100000 in
theorem contract (H : Type) (enc : TypeId × Value → H) (W : World) (base : Nat) (args : Array Value) (ds gs : List (DataW H)) (before : List MemPlace)
    (hval : ∀ (j : Nat) t v, Tryz.f3.params[j]? = some t → args[j]? = some v → Value.okWide Tryz.prog W .any base t v)
    (hW : DataW.Whole enc Tryz.prog Tryz.f3.params.toList Rows.normalizeLiteralsSpec.vars false W args.toList ds gs before) (hL : laidMetH Tryz.prog Rows.normalizeLiteralsUptoRow.laid W) (hsh : W.ShapedOpen Tryz.prog) (hk : Rows.uptoSmall H (ds ++ gs) = true) :
    Calls Tryz.prog 3 args W fun e W' => ∃ v, e = .returned v ∧ Rows.normalizeLiteralsSpec.post enc Tryz.prog Tryz.f3 false true false false W args v W' := by
  have hW' := hW
  obtain ⟨p, q, hA0, hV, rfl, hfz, hnd⟩ := hW
  have hA : DataW.TrodAll enc Tryz.prog W 0 (fun _ => true) true Tryz.f3.params.toList args.toList ds p := hA0
  rw [Tryz.params3] at hA hval
  obtain ⟨v0, vs0, d0, ds0, p0, q0, hargs, rfl, rfl, h0, r0⟩ := trodAll_cons hA
  obtain ⟨v1, vs1, d1, ds1, p1, q1, rfl, rfl, rfl, h1, r1⟩ := trodAll_cons r0
  obtain ⟨v2, vs2, d2, ds2, p2, q2, rfl, rfl, rfl, h2, r2⟩ := trodAll_cons r1
  obtain ⟨rfl, rfl, rfl⟩ := trodAll_nil r2
  obtain rfl : args = #[v0, v1, v2] := by cases args; simp_all
  obtain ⟨rfl, rfl⟩ := trodVars_none hV
  obtain ⟨a0, rfl, rfl, rfl, w0⟩ := open_int Tryz.underlying3 (hval 0 3 v0 rfl rfl) h0
  obtain ⟨a1, rfl, rfl, rfl, w1⟩ := open_int Tryz.underlying3 (hval 1 3 v1 rfl rfl) h1
  have k2 := h2
  have lt2 : ∀ x ∈ p2, x.block < W.heap.size := by obtain ⟨m, hm⟩ := k2; exact DataW.trod_lt m _ _ _ hm
  obtain ⟨cs, rfl, hcs⟩ := okWide_struct Tryz.underlying24 (hval 2 24 v2 rfl rfl)
  obtain ⟨t, A, c, ht, hc, hC, hcnt⟩ : ∃ (t : S24) (A : Option Addr) (c : Nat), cs = #[.int .i64 t.f0, .string t.f1, .int .i64 t.f2, .int .i64 t.f3, .slice A t.f4.length c] ∧ t.f4.length ≤ c ∧ k24.C W A t.f4.length t.f4 ∧ cnt t ≤ Rows.uptoBulk d2 := by
    obtain ⟨m, hm⟩ := h2
    obtain ⟨t, A, c, h1, h2, h3, h4⟩ := read24 m _ _ hm
    refine ⟨t, A, c, ?_, h2, h3, h4⟩
    have h5 : cs.toList = _ := h1
    rw [← h5]
  subst ht
  have hb : cnt t < 2199023255552 := by
    have h := of_decide_eq_true hk
    simp only [List.append_nil, Rows.uptoBulkAll] at h
    omega
  clear hA0 hk
  simp only [List.append_nil] at hW'
  refine (law_all a0 a1 t A c W (stands hsh) (table hL) hC hc hb).mono fun e W' ⟨he, bel⟩ => ?_
  subst he
  exact ⟨_, rfl, _, _, _, [], _, [], hW', trodAll_mk1 (shut_bool Tryz.underlying4 _), (trodAll_cons_mk (shut_int Tryz.underlying3 w0) (trodAll_cons_mk (shut_int Tryz.underlying3 w1) (trodAll_cons_mk (Below.trod laidOut (by kernel_rfl) (of_decide_eq_true (by kernel_rfl)) k2 bel lt2) trodAll_mk0))), rfl, bel.frame _, fun h => by cases h⟩
end Go.Proofs.YtdnclnacneakbaaGreatDoor.law
end
section
namespace Go.Proofs.YtdnclnacneakbaaGreatDoor.law
theorem noGo : Tryz.prog.funcs.any Func.goes = false := by kernel_rfl
theorem goes_none {P : Program} (h : P.funcs.any Func.goes = false) (c : OpenClaim) (hs : c.start = .entering) : c.goesBy P = false := by
  have h1 : ∀ f, P.goes f = false := fun f => by
    unfold Program.goes
    rw [h, Bool.and_false, Bool.or_false]
    rw [Bool.eq_false_iff]
    intro h2
    obtain ⟨g, _, hg⟩ := List.any_eq_true.1 h2
    cases hf : P.funcs[g]? with
    | none => rw [hf] at hg; cases hg
    | some fn =>
      rw [hf] at hg
      have h3 : P.funcs.any Func.goes = true := Array.any_eq_true'.2 ⟨fn, Array.mem_of_getElem? hf, by simpa using hg⟩
      rw [h] at h3; cases h3
  unfold OpenClaim.goesBy Program.goesAt Program.goesFrom
  rw [hs]
  cases P.funcNamed c.func with
  | none => rfl
  | some f => simp [h1 f]
end Go.Proofs.YtdnclnacneakbaaGreatDoor.law
end
