/- The program's Awake answers true in a fresh world. -/
import Derived.Below
import Derived.Test.YtdnclnacneakbaaGreatDoorL0
import Derived.Test.YtdnclnacneakbaaGreatDoorPG
import Derived.Test.YtdnclnacneakbaaGreatDoorPK
set_option linter.unusedVariables false
set_option linter.unusedSimpArgs false
set_option linter.unusedSectionVars false
set_option linter.unusedSectionVars false
set_option maxRecDepth 100000
namespace Go.Am
open Proofs
noncomputable def topPs : List (FuncId × Piece) := [(11, p7_11), (12, p8_12), (13, p9_13), (14, p23_14), (15, p24_15), (15, p25_15), (16, p26_16)]
theorem topPs_ok : ∀ x ∈ topPs, CallOk Tryz.prog (fun f' xs H => if f' = x.1 then piecePrim x.2 xs H else none) := by
  intro x hx
  simp only [topPs, List.mem_cons, List.not_mem_nil, or_false] at hx
  rcases hx with rfl | rfl | rfl | rfl | rfl | rfl | rfl
  · exact p7_11_ok
  · exact p8_12_ok
  · exact p9_13_ok
  · exact p23_14_ok
  · exact p24_15_ok
  · exact p25_15_ok
  · exact p26_16_ok
noncomputable def topPrims : Prims := withPieces prims2 (run prims2 3000) topPs
theorem topPrims_ok : PrimsOk Tryz.prog topPrims := withPieces_ok prims2_ok (run_ok prims2_ok 3000) topPs_ok
noncomputable def awakeCode : Code := Tryz.f4.body.getD .skip
noncomputable def exTop (c : Code) (fr : Fr) (H : Heap) : Res := K.exec Tryz.prog okT (fun f => K.get (K.path f) ft) topPrims 3000 none Tryz.f4.ntmps (K.comp Tryz.prog Tryz.f4.ntmps c) fr H
theorem exTop_ok (c : Code) (fr : Fr) (H : Heap) (x : Ex) (fr' : Fr) (H' : Heap) (h : exTop c fr H = .done x fr' H') : CodeOk Tryz.prog none Tryz.f4.ntmps c fr H x fr' H' := by
  unfold exTop at h
  rw [K.exec_eq ft_get names_ok] at h
  exact exec_ok mixed_ok okT_ok topPrims_ok 3000 none _ c fr H x fr' H' h
def heap0 : Heap := { tr := .nil, next := 0, floor := 0, log := [] }
noncomputable def awakeRun : Bool :=
  match splitC 12 awakeCode with
  | (cs, .seq (.region _ ops false) .ret) => match runList exTop cs .nil heap0 with
    | some (fr1, H1) => match runOpsC ⟨runWith topPs, noRound⟩ Tryz.f4.ntmps ops ops.toList fr1 H1 with
      | some (fr2, H2) => match results Tryz.prog H2 fr2 Tryz.f4.results.toList with
        | some [.bool true] => true
        | _ => false
      | none => false
    | none => false
  | _ => false
theorem awakeRun_true : awakeRun = true := by kernel_rfl
theorem awake_body : Tryz.f4.body = some awakeCode := by
  unfold awakeCode
  cases h : Tryz.f4.body with
  | none => exact absurd h (by intro h; have : Tryz.f4.body.isSome = true := by kernel_rfl
                               rw [h] at this; cases this)
  | some c => rfl
theorem awake_calls (w : World) (hS : Stands w) : Calls Tryz.prog 4 #[] w fun e w' => e = .returned (.bool true) ∧ RowKit.Below w.heap.size w w' := by
  have h := awakeRun_true
  unfold awakeRun at h
  split at h
  rotate_left
  · cases h
  rename_i cs id ops hsplit
  split at h
  rotate_left
  · cases h
  rename_i fr1 H1 h1
  split at h
  rotate_left
  · cases h
  rename_i fr2 H2 h2
  split at h
  rotate_left
  · cases h
  rename_i hr
  have hcode : awakeCode = seqs cs (.seq (.region id ops false) .ret) := by
    have := splitC_eq 12 awakeCode
    rw [hsplit] at this
    exact this.symm
  obtain ⟨a1, s1⟩ := runList_ok (nt := Tryz.f4.ntmps) exTop_ok cs h1
  obtain ⟨a2, s2⟩ := runOpsC_ok (doors_ok (runWith_ok topPs_ok)) ops.toList h2
  have hM0 : MRel (fun _ => none) heap0.get w := ⟨fun b o e hb => by unfold Heap.get heap0 at hb; simp at hb, fun b b' o o' e e' hb => by unfold Heap.get heap0 at hb; simp at hb⟩
  have hf : Fresh (fun _ => none) heap0.next H2.next := fun b _ _ => rfl
  have hO : Off (fun _ => none) heap0.get := fun b e h => by cases h
  have key : ∀ (ds : List Nat) (a' : Act) (w' : World) (φ' : Emb), Step (fun _ => none) φ' heap0 H2 w w' → FRel φ' fr2 a'.tmps → MarksAt φ' H2.get w.heap.size w' ds →
      LeavesInM (fence none) 0 Tryz.prog Tryz.f4 a'.tmps (fun e w' => e = .returned (.bool true) ∧ RowKit.Below w.heap.size w w') (ds.map markOf) .returning w' := by
    intro ds a' w' φ' st hF hm
    refine leaves (P := Tryz.prog) (rc := none) hF hr (fun v w'' hv st' => ?_) ds w' st hm
    cases hv
    refine ⟨rfl, st'.mv.os, st'.mv.tape, st'.mv.output, st'.mv.size, fun k hk => st'.mv.frame k ?_⟩
    rintro (h | ⟨b, e, hb, _⟩)
    · omega
    · cases hb
  refine (callsIn_wide (n := 0)).1 (callsIn_of_wp_marks Tryz.func4 awake_body trivial ?_)
  rw [hcode]
  refine s1 _ (fun _ => none) _ w _ hM0 ?_ ?_ (fun b _ _ => rfl) fun a' w' φ' p1 => ?_
  · intro t
    have h3 : FRel (fun _ => none) .nil (#[] : Array Value) := fun t => by simp only [Fr.at, Tr.get_nil]; exact VRel.undef
    have := undefs_frel h3 (Tryz.f4.ntmps - 0) t
    simpa using this
  · simp
  · refine wpIn_seq (wpIn_region ?_)
    rw [List.range_eq_range']
    have hf1 : Fresh φ' H1.next H2.next := p1.step.fresh a1 hf
    obtain ⟨hS1, hO1⟩ := step_off p1.step a1 (hf.sub (Nat.le_refl _) a2.next) hS hO
    rw [← Array.length_toList]
    refine s2 φ' a' w' _ 0 (by simp) p1.step.rel p1.frel p1.nt hf1 hS1 hO1 fun a2' w2 φ2 f2 n2 d2 st2 => ?_
    · have p2 := p1.trans ⟨st2, f2, n2, [], by simpa using d2, .nil _ _ _ _⟩ a1 a2 hf
      obtain ⟨ds, hd, hm⟩ := p2.marks
      simp only [List.append_nil] at hd
      have := key ds a2' w2 φ2 p2.step p2.frel hm
      rw [← hd] at this
      exact wpIn_ret this
end Go.Am
