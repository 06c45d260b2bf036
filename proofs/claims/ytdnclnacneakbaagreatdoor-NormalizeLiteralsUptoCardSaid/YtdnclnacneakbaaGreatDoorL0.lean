/- Primitives, base words and the tail of a call. -/
import Derived.Test.YtdnclnacneakbaaGreatDoorA2
import Derived.Test.YtdnclnacneakbaaGreatDoorA3
import Derived.Test.YtdnclnacneakbaaGreatDoorSh
set_option linter.unusedVariables false
set_option linter.unusedSimpArgs false
set_option linter.unusedSectionVars false
section
set_option linter.unusedSectionVars false
namespace Go.Am
open Proofs
def strsOf : List AV → Option (List (List UInt8))
  | [] => some []
  | .str s :: vs => (strsOf vs).map (s :: ·)
  | _ => none
def joinP (xs : List AV) (H : Heap) : Option (AV × Heap) :=
  match xs with
  | [.nilslice, .str _] => some (.str [], H)
  | [.slice b o len _ es, .str sep] =>
    if len == 0 then some (.str [], H) else
    if es == 1 then
      match (H.get.read b o len).bind strsOf with
      | some ss => if ss.length ≤ 140737488355328 && (Lib.join ss sep).length ≤ 140737488355328 then some (.str (Lib.join ss sep), H) else none
      | none => none
    else none
  | _ => none
def repeatP (xs : List AV) (H : Heap) : Option (AV × Heap) :=
  match xs with
  | [.str s, .int .i64 n] => if 0 ≤ n && (n.toNat ≤ 9223372036854775807 && s.length * n.toNat ≤ 140737488355328) then some (.str (Lib.repeatL s n.toNat), H) else none
  | _ => none
def containsP (xs : List AV) (H : Heap) : Option (AV × Heap) :=
  match xs with
  | [.str s, .str [c]] => some (.bool (decide (0 ≤ Lib.indexByte s c)), H)
  | _ => none
theorem enters_join : Enters Tryz.prog 458 := ⟨Tryz.f458, _, Tryz.func458, rfl, by kernel_rfl⟩
theorem enters_repeat : Enters Tryz.prog 460 := ⟨Tryz.f460, _, Tryz.func460, rfl, by kernel_rfl⟩
theorem enters_contains : Enters Tryz.prog 17 := ⟨Tryz.f17, _, Tryz.func17, rfl, by kernel_rfl⟩
theorem bytes_size (l : List UInt8) : (⟨l.toArray⟩ : ByteArray).size = l.length := by show l.toArray.size = _; simp
theorem joinP_ok : CallOk Tryz.prog (fun f' xs H => if f' = 458 then joinP xs H else none) := by
  intro f xs H av H' h
  simp only at h
  split at h
  rotate_left
  · cases h
  rename_i hf
  subst hf
  refine ⟨enters_join, ?_⟩
  unfold joinP at h
  split at h
  · simp only [Option.some.injEq, Prod.mk.injEq] at h
    obtain ⟨rfl, rfl⟩ := h
    refine ⟨.refl _, fun φ w vs hM hvs hf => ?_⟩
    cases hvs with
    | cons h1 t => cases t with
      | cons h2 t => cases t; cases h1; cases h2
                     refine (Tryz.strings_Join_none none 0 _ w).mono ?_
                     rintro e w' ⟨rfl, rfl⟩
                     exact ⟨_, φ, rfl, .str [], .refl hM⟩
  · rename_i b o len cap es sep
    split at h
    · rename_i hl
      simp only [beq_iff_eq] at hl
      subst hl
      simp only [Option.some.injEq, Prod.mk.injEq] at h
      obtain ⟨rfl, rfl⟩ := h
      refine ⟨.refl _, fun φ w vs hM hvs hf => ?_⟩
      cases hvs with
      | cons h1 t => cases t with
        | cons h2 t =>
          cases t; cases h1; cases h2
          refine (Tryz.strings_Join_none _ _ _ w).mono ?_
          rintro e w' ⟨rfl, rfl⟩
          exact ⟨_, φ, rfl, .str [], .refl hM⟩
    · rename_i hl
      have hl : len ≠ 0 := by simpa using hl
      split at h
      rotate_left
      · cases h
      rename_i hes
      simp only [beq_iff_eq] at hes
      subst hes
      split at h
      rotate_left
      · cases h
      rename_i ss hss
      split at h
      rotate_left
      · cases h
      rename_i hlen
      simp only [Bool.and_eq_true, decide_eq_true_eq] at hlen
      simp only [Option.some.injEq, Prod.mk.injEq] at h
      obtain ⟨rfl, rfl⟩ := h
      refine ⟨.refl _, fun φ w vs hM hvs hf => ?_⟩
      cases hvs with
      | cons h1 t => cases t with
        | cons h2 t =>
          cases t
          cases h2
          cases h1 with
          | slice he h3 h4 h5 h6 =>
            rename_i e o' cap'
            obtain ⟨h7, h8⟩ := h6 (by omega)
            simp only [Option.bind_eq_some_iff] at hss
            obtain ⟨cells, hr, hs⟩ := hss
            have hrd := hr
            unfold Get.read Get.cellsOf at hr
            split at hr
            rotate_left
            · cases hr
            rename_i cs hcs
            split at hr
            rotate_left
            · cases hr
            rename_i hfit
            simp only [Option.some.injEq] at hr
            split at hcs
            rotate_left
            · cases hcs
            rename_i cs' hg
            simp only [Option.some.injEq] at hcs
            subst hcs
            obtain ⟨c, el, fz, o1, o2, o3, o4, o5⟩ := hM.obj b _ e hg he
            have hvals : ∀ (ss : List (List UInt8)) (cells : List AV), strsOf cells = some ss → ∀ (j : Nat) s, ss[j]? = some s → cells[j]? = some (.str s) := by
              intro ss
              induction ss with
              | nil => intro cells _ j s hj; simp at hj
              | cons s0 ss ih =>
                intro cells hc j s hj
                cases cells with
                | nil => simp [strsOf] at hc
                | cons a cells =>
                  cases a <;> simp only [strsOf] at hc <;> try (cases hc; done)
                  simp only [Option.map_eq_some_iff, List.cons.injEq] at hc
                  obtain ⟨ss', k1, rfl, rfl⟩ := hc
                  cases j with
                  | zero => simpa using hj
                  | succ j => simpa using ih cells k1 j s (by simpa using hj)
            have hlenss : ∀ (cells : List AV) (ss : List (List UInt8)), strsOf cells = some ss → ss.length = cells.length := by
              intro cells
              induction cells with
              | nil => intro ss hc; simp only [strsOf, Option.some.injEq] at hc; subst hc; rfl
              | cons a cells ih =>
                intro ss hc
                cases a <;> simp only [strsOf] at hc <;> try (cases hc; done)
                simp only [Option.map_eq_some_iff] at hc
                obtain ⟨ss', k1, rfl⟩ := hc
                simp [ih ss' k1]
            have hcl : cells.length = len := by rw [← hr]; simp; omega
            have hsl : (ss.map fun s => (⟨s.toArray⟩ : ByteArray)).length = len := by rw [List.length_map, hlenss _ _ hs, hcl]
            have hdata : (ss.map fun s => (⟨s.toArray⟩ : ByteArray)).map (fun x => x.data.toList) = ss := by
              rw [List.map_map]
              have : ((fun x : ByteArray => x.data.toList) ∘ fun s => (⟨s.toArray⟩ : ByteArray)) = id := by funext s; simp
              rw [this]; simp
            have hj := Tryz.strings_Join e.blk o' cap' (ss.map fun s => (⟨s.toArray⟩ : ByteArray)) ⟨sep.toArray⟩ w (fun j x hx => ?_) (hM.lt hg he) (by rw [List.length_map]; exact hlen.1) (by rw [hsl]; omega) (by rw [hdata]; simpa using hlen.2)
            · rw [hsl, hdata] at hj
              refine hj.mono ?_
              rintro en w' ⟨rfl, hb⟩
              exact ⟨_, φ, rfl, by simpa using VRel.str (Lib.join ss sep), below_step hM hb⟩
            · rw [List.getElem?_map, Option.map_eq_some_iff] at hx
              obtain ⟨s, hs1, rfl⟩ := hx
              have hc1 := hvals ss cells hs j s hs1
              rw [← hr, List.getElem?_take] at hc1
              split at hc1
              · rw [List.getElem?_drop] at hc1
                obtain ⟨v, hv1, hv2⟩ := o5 (o + j) _ hc1
                cases hv2
                rw [cell_at o1, h7, show e.base + o + j = e.base + (o + j) by omega]
                exact hv1
              · cases hc1
  · cases h
theorem repeatP_ok : CallOk Tryz.prog (fun f' xs H => if f' = 460 then repeatP xs H else none) := by
  intro f xs H av H' h
  simp only at h
  split at h
  rotate_left
  · cases h
  rename_i hf
  subst hf
  refine ⟨enters_repeat, ?_⟩
  unfold repeatP at h
  split at h
  rotate_left
  · cases h
  rename_i s n
  split at h
  rotate_left
  · cases h
  rename_i hc
  simp only [Bool.and_eq_true, decide_eq_true_eq] at hc
  simp only [Option.some.injEq, Prod.mk.injEq] at h
  obtain ⟨rfl, rfl⟩ := h
  refine ⟨.refl _, fun φ w vs hM hvs hf => ?_⟩
  cases hvs with
  | cons h1 t => cases t with
    | cons h2 t =>
      cases t; cases h1; cases h2
      have hn : n = (n.toNat : Int) := by omega
      have hr := Tryz.strings_Repeat ⟨s.toArray⟩ n.toNat w hc.2.1 (by rw [bytes_size]; exact hc.2.2)
      rw [← hn] at hr
      refine hr.mono ?_
      rintro en w' ⟨rfl, hb⟩
      exact ⟨_, φ, rfl, by simpa using VRel.str (Lib.repeatL s n.toNat), below_step hM hb⟩
theorem containsP_ok : CallOk Tryz.prog (fun f' xs H => if f' = 17 then containsP xs H else none) := by
  intro f xs H av H' h
  simp only at h
  split at h
  rotate_left
  · cases h
  rename_i hf
  subst hf
  refine ⟨enters_contains, ?_⟩
  unfold containsP at h
  split at h
  rotate_left
  · cases h
  rename_i s c
  simp only [Option.some.injEq, Prod.mk.injEq] at h
  obtain ⟨rfl, rfl⟩ := h
  refine ⟨.refl _, fun φ w vs hM hvs hf => ?_⟩
  cases hvs with
  | cons h1 t => cases t with
    | cons h2 t =>
      cases t; cases h1; cases h2
      refine (Tryz.strings_Contains_one ⟨s.toArray⟩ c w).mono ?_
      rintro en w' ⟨rfl, rfl⟩
      exact ⟨_, φ, rfl, by simpa using VRel.bool _, .refl hM⟩
def libPrims : Prims := fun f => if f == 458 then some joinP else if f == 460 then some repeatP else if f == 17 then some containsP else none
theorem libPrims_ok : PrimsOk Tryz.prog libPrims := by
  intro f g hg
  unfold libPrims at hg
  split at hg
  · rename_i hf
    simp only [beq_iff_eq] at hf
    subst hf
    simp only [Option.some.injEq] at hg
    subst hg
    exact joinP_ok
  · split at hg
    · rename_i hf
      simp only [beq_iff_eq] at hf
      subst hf
      simp only [Option.some.injEq] at hg
      subst hg
      exact repeatP_ok
    · split at hg
      · rename_i hf
        simp only [beq_iff_eq] at hf
        subst hf
        simp only [Option.some.injEq] at hg
        subst hg
        exact containsP_ok
      · cases hg
end Go.Am
end
section
set_option maxRecDepth 100000
namespace Go.Am
open Proofs
noncomputable def ft : Tr Func := (.node (.node (.node (.node (.node (.node (.node (.node (.node .nil (some Tryz.f255) .nil)
 (some Tryz.f127) (.node .nil (some Tryz.f383) .nil))
 (some Tryz.f63) (.node (.node .nil (some Tryz.f319) .nil)
 (some Tryz.f191) (.node .nil (some Tryz.f447) .nil)))
 (some Tryz.f31) (.node (.node (.node .nil (some Tryz.f287) .nil)
 (some Tryz.f159) (.node .nil (some Tryz.f415) .nil))
 (some Tryz.f95) (.node (.node .nil (some Tryz.f351) .nil)
 (some Tryz.f223) (.node .nil (some Tryz.f479) .nil))))
 (some Tryz.f15) (.node (.node (.node (.node .nil (some Tryz.f271) .nil)
 (some Tryz.f143) (.node .nil (some Tryz.f399) .nil))
 (some Tryz.f79) (.node (.node .nil (some Tryz.f335) .nil)
 (some Tryz.f207) (.node .nil (some Tryz.f463) .nil)))
 (some Tryz.f47) (.node (.node (.node .nil (some Tryz.f303) .nil)
 (some Tryz.f175) (.node .nil (some Tryz.f431) .nil))
 (some Tryz.f111) (.node (.node .nil (some Tryz.f367) .nil)
 (some Tryz.f239) (.node .nil (some Tryz.f495) .nil)))))
 (some Tryz.f7) (.node (.node (.node (.node (.node .nil (some Tryz.f263) .nil)
 (some Tryz.f135) (.node .nil (some Tryz.f391) .nil))
 (some Tryz.f71) (.node (.node .nil (some Tryz.f327) .nil)
 (some Tryz.f199) (.node .nil (some Tryz.f455) .nil)))
 (some Tryz.f39) (.node (.node (.node .nil (some Tryz.f295) .nil)
 (some Tryz.f167) (.node .nil (some Tryz.f423) .nil))
 (some Tryz.f103) (.node (.node .nil (some Tryz.f359) .nil)
 (some Tryz.f231) (.node .nil (some Tryz.f487) .nil))))
 (some Tryz.f23) (.node (.node (.node (.node .nil (some Tryz.f279) .nil)
 (some Tryz.f151) (.node .nil (some Tryz.f407) .nil))
 (some Tryz.f87) (.node (.node .nil (some Tryz.f343) .nil)
 (some Tryz.f215) (.node .nil (some Tryz.f471) .nil)))
 (some Tryz.f55) (.node (.node (.node .nil (some Tryz.f311) .nil)
 (some Tryz.f183) (.node .nil (some Tryz.f439) .nil))
 (some Tryz.f119) (.node (.node .nil (some Tryz.f375) .nil)
 (some Tryz.f247) .nil)))))
 (some Tryz.f3) (.node (.node (.node (.node (.node (.node .nil (some Tryz.f259) .nil)
 (some Tryz.f131) (.node .nil (some Tryz.f387) .nil))
 (some Tryz.f67) (.node (.node .nil (some Tryz.f323) .nil)
 (some Tryz.f195) (.node .nil (some Tryz.f451) .nil)))
 (some Tryz.f35) (.node (.node (.node .nil (some Tryz.f291) .nil)
 (some Tryz.f163) (.node .nil (some Tryz.f419) .nil))
 (some Tryz.f99) (.node (.node .nil (some Tryz.f355) .nil)
 (some Tryz.f227) (.node .nil (some Tryz.f483) .nil))))
 (some Tryz.f19) (.node (.node (.node (.node .nil (some Tryz.f275) .nil)
 (some Tryz.f147) (.node .nil (some Tryz.f403) .nil))
 (some Tryz.f83) (.node (.node .nil (some Tryz.f339) .nil)
 (some Tryz.f211) (.node .nil (some Tryz.f467) .nil)))
 (some Tryz.f51) (.node (.node (.node .nil (some Tryz.f307) .nil)
 (some Tryz.f179) (.node .nil (some Tryz.f435) .nil))
 (some Tryz.f115) (.node (.node .nil (some Tryz.f371) .nil)
 (some Tryz.f243) (.node .nil (some Tryz.f499) .nil)))))
 (some Tryz.f11) (.node (.node (.node (.node (.node .nil (some Tryz.f267) .nil)
 (some Tryz.f139) (.node .nil (some Tryz.f395) .nil))
 (some Tryz.f75) (.node (.node .nil (some Tryz.f331) .nil)
 (some Tryz.f203) (.node .nil (some Tryz.f459) .nil)))
 (some Tryz.f43) (.node (.node (.node .nil (some Tryz.f299) .nil)
 (some Tryz.f171) (.node .nil (some Tryz.f427) .nil))
 (some Tryz.f107) (.node (.node .nil (some Tryz.f363) .nil)
 (some Tryz.f235) (.node .nil (some Tryz.f491) .nil))))
 (some Tryz.f27) (.node (.node (.node (.node .nil (some Tryz.f283) .nil)
 (some Tryz.f155) (.node .nil (some Tryz.f411) .nil))
 (some Tryz.f91) (.node (.node .nil (some Tryz.f347) .nil)
 (some Tryz.f219) (.node .nil (some Tryz.f475) .nil)))
 (some Tryz.f59) (.node (.node (.node .nil (some Tryz.f315) .nil)
 (some Tryz.f187) (.node .nil (some Tryz.f443) .nil))
 (some Tryz.f123) (.node (.node .nil (some Tryz.f379) .nil)
 (some Tryz.f251) .nil))))))
 (some Tryz.f1) (.node (.node (.node (.node (.node (.node (.node .nil (some Tryz.f257) .nil)
 (some Tryz.f129) (.node .nil (some Tryz.f385) .nil))
 (some Tryz.f65) (.node (.node .nil (some Tryz.f321) .nil)
 (some Tryz.f193) (.node .nil (some Tryz.f449) .nil)))
 (some Tryz.f33) (.node (.node (.node .nil (some Tryz.f289) .nil)
 (some Tryz.f161) (.node .nil (some Tryz.f417) .nil))
 (some Tryz.f97) (.node (.node .nil (some Tryz.f353) .nil)
 (some Tryz.f225) (.node .nil (some Tryz.f481) .nil))))
 (some Tryz.f17) (.node (.node (.node (.node .nil (some Tryz.f273) .nil)
 (some Tryz.f145) (.node .nil (some Tryz.f401) .nil))
 (some Tryz.f81) (.node (.node .nil (some Tryz.f337) .nil)
 (some Tryz.f209) (.node .nil (some Tryz.f465) .nil)))
 (some Tryz.f49) (.node (.node (.node .nil (some Tryz.f305) .nil)
 (some Tryz.f177) (.node .nil (some Tryz.f433) .nil))
 (some Tryz.f113) (.node (.node .nil (some Tryz.f369) .nil)
 (some Tryz.f241) (.node .nil (some Tryz.f497) .nil)))))
 (some Tryz.f9) (.node (.node (.node (.node (.node .nil (some Tryz.f265) .nil)
 (some Tryz.f137) (.node .nil (some Tryz.f393) .nil))
 (some Tryz.f73) (.node (.node .nil (some Tryz.f329) .nil)
 (some Tryz.f201) (.node .nil (some Tryz.f457) .nil)))
 (some Tryz.f41) (.node (.node (.node .nil (some Tryz.f297) .nil)
 (some Tryz.f169) (.node .nil (some Tryz.f425) .nil))
 (some Tryz.f105) (.node (.node .nil (some Tryz.f361) .nil)
 (some Tryz.f233) (.node .nil (some Tryz.f489) .nil))))
 (some Tryz.f25) (.node (.node (.node (.node .nil (some Tryz.f281) .nil)
 (some Tryz.f153) (.node .nil (some Tryz.f409) .nil))
 (some Tryz.f89) (.node (.node .nil (some Tryz.f345) .nil)
 (some Tryz.f217) (.node .nil (some Tryz.f473) .nil)))
 (some Tryz.f57) (.node (.node (.node .nil (some Tryz.f313) .nil)
 (some Tryz.f185) (.node .nil (some Tryz.f441) .nil))
 (some Tryz.f121) (.node (.node .nil (some Tryz.f377) .nil)
 (some Tryz.f249) .nil)))))
 (some Tryz.f5) (.node (.node (.node (.node (.node (.node .nil (some Tryz.f261) .nil)
 (some Tryz.f133) (.node .nil (some Tryz.f389) .nil))
 (some Tryz.f69) (.node (.node .nil (some Tryz.f325) .nil)
 (some Tryz.f197) (.node .nil (some Tryz.f453) .nil)))
 (some Tryz.f37) (.node (.node (.node .nil (some Tryz.f293) .nil)
 (some Tryz.f165) (.node .nil (some Tryz.f421) .nil))
 (some Tryz.f101) (.node (.node .nil (some Tryz.f357) .nil)
 (some Tryz.f229) (.node .nil (some Tryz.f485) .nil))))
 (some Tryz.f21) (.node (.node (.node (.node .nil (some Tryz.f277) .nil)
 (some Tryz.f149) (.node .nil (some Tryz.f405) .nil))
 (some Tryz.f85) (.node (.node .nil (some Tryz.f341) .nil)
 (some Tryz.f213) (.node .nil (some Tryz.f469) .nil)))
 (some Tryz.f53) (.node (.node (.node .nil (some Tryz.f309) .nil)
 (some Tryz.f181) (.node .nil (some Tryz.f437) .nil))
 (some Tryz.f117) (.node (.node .nil (some Tryz.f373) .nil)
 (some Tryz.f245) (.node .nil (some Tryz.f501) .nil)))))
 (some Tryz.f13) (.node (.node (.node (.node (.node .nil (some Tryz.f269) .nil)
 (some Tryz.f141) (.node .nil (some Tryz.f397) .nil))
 (some Tryz.f77) (.node (.node .nil (some Tryz.f333) .nil)
 (some Tryz.f205) (.node .nil (some Tryz.f461) .nil)))
 (some Tryz.f45) (.node (.node (.node .nil (some Tryz.f301) .nil)
 (some Tryz.f173) (.node .nil (some Tryz.f429) .nil))
 (some Tryz.f109) (.node (.node .nil (some Tryz.f365) .nil)
 (some Tryz.f237) (.node .nil (some Tryz.f493) .nil))))
 (some Tryz.f29) (.node (.node (.node (.node .nil (some Tryz.f285) .nil)
 (some Tryz.f157) (.node .nil (some Tryz.f413) .nil))
 (some Tryz.f93) (.node (.node .nil (some Tryz.f349) .nil)
 (some Tryz.f221) (.node .nil (some Tryz.f477) .nil)))
 (some Tryz.f61) (.node (.node (.node .nil (some Tryz.f317) .nil)
 (some Tryz.f189) (.node .nil (some Tryz.f445) .nil))
 (some Tryz.f125) (.node (.node .nil (some Tryz.f381) .nil)
 (some Tryz.f253) .nil)))))))
 (some Tryz.f0) (.node (.node (.node (.node (.node (.node (.node (.node .nil (some Tryz.f256) .nil)
 (some Tryz.f128) (.node .nil (some Tryz.f384) .nil))
 (some Tryz.f64) (.node (.node .nil (some Tryz.f320) .nil)
 (some Tryz.f192) (.node .nil (some Tryz.f448) .nil)))
 (some Tryz.f32) (.node (.node (.node .nil (some Tryz.f288) .nil)
 (some Tryz.f160) (.node .nil (some Tryz.f416) .nil))
 (some Tryz.f96) (.node (.node .nil (some Tryz.f352) .nil)
 (some Tryz.f224) (.node .nil (some Tryz.f480) .nil))))
 (some Tryz.f16) (.node (.node (.node (.node .nil (some Tryz.f272) .nil)
 (some Tryz.f144) (.node .nil (some Tryz.f400) .nil))
 (some Tryz.f80) (.node (.node .nil (some Tryz.f336) .nil)
 (some Tryz.f208) (.node .nil (some Tryz.f464) .nil)))
 (some Tryz.f48) (.node (.node (.node .nil (some Tryz.f304) .nil)
 (some Tryz.f176) (.node .nil (some Tryz.f432) .nil))
 (some Tryz.f112) (.node (.node .nil (some Tryz.f368) .nil)
 (some Tryz.f240) (.node .nil (some Tryz.f496) .nil)))))
 (some Tryz.f8) (.node (.node (.node (.node (.node .nil (some Tryz.f264) .nil)
 (some Tryz.f136) (.node .nil (some Tryz.f392) .nil))
 (some Tryz.f72) (.node (.node .nil (some Tryz.f328) .nil)
 (some Tryz.f200) (.node .nil (some Tryz.f456) .nil)))
 (some Tryz.f40) (.node (.node (.node .nil (some Tryz.f296) .nil)
 (some Tryz.f168) (.node .nil (some Tryz.f424) .nil))
 (some Tryz.f104) (.node (.node .nil (some Tryz.f360) .nil)
 (some Tryz.f232) (.node .nil (some Tryz.f488) .nil))))
 (some Tryz.f24) (.node (.node (.node (.node .nil (some Tryz.f280) .nil)
 (some Tryz.f152) (.node .nil (some Tryz.f408) .nil))
 (some Tryz.f88) (.node (.node .nil (some Tryz.f344) .nil)
 (some Tryz.f216) (.node .nil (some Tryz.f472) .nil)))
 (some Tryz.f56) (.node (.node (.node .nil (some Tryz.f312) .nil)
 (some Tryz.f184) (.node .nil (some Tryz.f440) .nil))
 (some Tryz.f120) (.node (.node .nil (some Tryz.f376) .nil)
 (some Tryz.f248) .nil)))))
 (some Tryz.f4) (.node (.node (.node (.node (.node (.node .nil (some Tryz.f260) .nil)
 (some Tryz.f132) (.node .nil (some Tryz.f388) .nil))
 (some Tryz.f68) (.node (.node .nil (some Tryz.f324) .nil)
 (some Tryz.f196) (.node .nil (some Tryz.f452) .nil)))
 (some Tryz.f36) (.node (.node (.node .nil (some Tryz.f292) .nil)
 (some Tryz.f164) (.node .nil (some Tryz.f420) .nil))
 (some Tryz.f100) (.node (.node .nil (some Tryz.f356) .nil)
 (some Tryz.f228) (.node .nil (some Tryz.f484) .nil))))
 (some Tryz.f20) (.node (.node (.node (.node .nil (some Tryz.f276) .nil)
 (some Tryz.f148) (.node .nil (some Tryz.f404) .nil))
 (some Tryz.f84) (.node (.node .nil (some Tryz.f340) .nil)
 (some Tryz.f212) (.node .nil (some Tryz.f468) .nil)))
 (some Tryz.f52) (.node (.node (.node .nil (some Tryz.f308) .nil)
 (some Tryz.f180) (.node .nil (some Tryz.f436) .nil))
 (some Tryz.f116) (.node (.node .nil (some Tryz.f372) .nil)
 (some Tryz.f244) (.node .nil (some Tryz.f500) .nil)))))
 (some Tryz.f12) (.node (.node (.node (.node (.node .nil (some Tryz.f268) .nil)
 (some Tryz.f140) (.node .nil (some Tryz.f396) .nil))
 (some Tryz.f76) (.node (.node .nil (some Tryz.f332) .nil)
 (some Tryz.f204) (.node .nil (some Tryz.f460) .nil)))
 (some Tryz.f44) (.node (.node (.node .nil (some Tryz.f300) .nil)
 (some Tryz.f172) (.node .nil (some Tryz.f428) .nil))
 (some Tryz.f108) (.node (.node .nil (some Tryz.f364) .nil)
 (some Tryz.f236) (.node .nil (some Tryz.f492) .nil))))
 (some Tryz.f28) (.node (.node (.node (.node .nil (some Tryz.f284) .nil)
 (some Tryz.f156) (.node .nil (some Tryz.f412) .nil))
 (some Tryz.f92) (.node (.node .nil (some Tryz.f348) .nil)
 (some Tryz.f220) (.node .nil (some Tryz.f476) .nil)))
 (some Tryz.f60) (.node (.node (.node .nil (some Tryz.f316) .nil)
 (some Tryz.f188) (.node .nil (some Tryz.f444) .nil))
 (some Tryz.f124) (.node (.node .nil (some Tryz.f380) .nil)
 (some Tryz.f252) .nil))))))
 (some Tryz.f2) (.node (.node (.node (.node (.node (.node (.node .nil (some Tryz.f258) .nil)
 (some Tryz.f130) (.node .nil (some Tryz.f386) .nil))
 (some Tryz.f66) (.node (.node .nil (some Tryz.f322) .nil)
 (some Tryz.f194) (.node .nil (some Tryz.f450) .nil)))
 (some Tryz.f34) (.node (.node (.node .nil (some Tryz.f290) .nil)
 (some Tryz.f162) (.node .nil (some Tryz.f418) .nil))
 (some Tryz.f98) (.node (.node .nil (some Tryz.f354) .nil)
 (some Tryz.f226) (.node .nil (some Tryz.f482) .nil))))
 (some Tryz.f18) (.node (.node (.node (.node .nil (some Tryz.f274) .nil)
 (some Tryz.f146) (.node .nil (some Tryz.f402) .nil))
 (some Tryz.f82) (.node (.node .nil (some Tryz.f338) .nil)
 (some Tryz.f210) (.node .nil (some Tryz.f466) .nil)))
 (some Tryz.f50) (.node (.node (.node .nil (some Tryz.f306) .nil)
 (some Tryz.f178) (.node .nil (some Tryz.f434) .nil))
 (some Tryz.f114) (.node (.node .nil (some Tryz.f370) .nil)
 (some Tryz.f242) (.node .nil (some Tryz.f498) .nil)))))
 (some Tryz.f10) (.node (.node (.node (.node (.node .nil (some Tryz.f266) .nil)
 (some Tryz.f138) (.node .nil (some Tryz.f394) .nil))
 (some Tryz.f74) (.node (.node .nil (some Tryz.f330) .nil)
 (some Tryz.f202) (.node .nil (some Tryz.f458) .nil)))
 (some Tryz.f42) (.node (.node (.node .nil (some Tryz.f298) .nil)
 (some Tryz.f170) (.node .nil (some Tryz.f426) .nil))
 (some Tryz.f106) (.node (.node .nil (some Tryz.f362) .nil)
 (some Tryz.f234) (.node .nil (some Tryz.f490) .nil))))
 (some Tryz.f26) (.node (.node (.node (.node .nil (some Tryz.f282) .nil)
 (some Tryz.f154) (.node .nil (some Tryz.f410) .nil))
 (some Tryz.f90) (.node (.node .nil (some Tryz.f346) .nil)
 (some Tryz.f218) (.node .nil (some Tryz.f474) .nil)))
 (some Tryz.f58) (.node (.node (.node .nil (some Tryz.f314) .nil)
 (some Tryz.f186) (.node .nil (some Tryz.f442) .nil))
 (some Tryz.f122) (.node (.node .nil (some Tryz.f378) .nil)
 (some Tryz.f250) .nil)))))
 (some Tryz.f6) (.node (.node (.node (.node (.node (.node .nil (some Tryz.f262) .nil)
 (some Tryz.f134) (.node .nil (some Tryz.f390) .nil))
 (some Tryz.f70) (.node (.node .nil (some Tryz.f326) .nil)
 (some Tryz.f198) (.node .nil (some Tryz.f454) .nil)))
 (some Tryz.f38) (.node (.node (.node .nil (some Tryz.f294) .nil)
 (some Tryz.f166) (.node .nil (some Tryz.f422) .nil))
 (some Tryz.f102) (.node (.node .nil (some Tryz.f358) .nil)
 (some Tryz.f230) (.node .nil (some Tryz.f486) .nil))))
 (some Tryz.f22) (.node (.node (.node (.node .nil (some Tryz.f278) .nil)
 (some Tryz.f150) (.node .nil (some Tryz.f406) .nil))
 (some Tryz.f86) (.node (.node .nil (some Tryz.f342) .nil)
 (some Tryz.f214) (.node .nil (some Tryz.f470) .nil)))
 (some Tryz.f54) (.node (.node (.node .nil (some Tryz.f310) .nil)
 (some Tryz.f182) (.node .nil (some Tryz.f438) .nil))
 (some Tryz.f118) (.node (.node .nil (some Tryz.f374) .nil)
 (some Tryz.f246) (.node .nil (some Tryz.f502) .nil)))))
 (some Tryz.f14) (.node (.node (.node (.node (.node .nil (some Tryz.f270) .nil)
 (some Tryz.f142) (.node .nil (some Tryz.f398) .nil))
 (some Tryz.f78) (.node (.node .nil (some Tryz.f334) .nil)
 (some Tryz.f206) (.node .nil (some Tryz.f462) .nil)))
 (some Tryz.f46) (.node (.node (.node .nil (some Tryz.f302) .nil)
 (some Tryz.f174) (.node .nil (some Tryz.f430) .nil))
 (some Tryz.f110) (.node (.node .nil (some Tryz.f366) .nil)
 (some Tryz.f238) (.node .nil (some Tryz.f494) .nil))))
 (some Tryz.f30) (.node (.node (.node (.node .nil (some Tryz.f286) .nil)
 (some Tryz.f158) (.node .nil (some Tryz.f414) .nil))
 (some Tryz.f94) (.node (.node .nil (some Tryz.f350) .nil)
 (some Tryz.f222) (.node .nil (some Tryz.f478) .nil)))
 (some Tryz.f62) (.node (.node (.node .nil (some Tryz.f318) .nil)
 (some Tryz.f190) (.node .nil (some Tryz.f446) .nil))
 (some Tryz.f126) (.node (.node .nil (some Tryz.f382) .nil)
 (some Tryz.f254) .nil))))))))
def ofL : Nat → List Func → Tr Func → Tr Func
  | _, [], t => t
  | k, x :: xs, t => ofL (k + 1) xs (t.set (path k) (some x))
theorem ofL_get : ∀ (xs : List Func) (k : Nat) (t : Tr Func) (f : Nat), (ofL k xs t).get (path f) = if k ≤ f ∧ f < k + xs.length then xs[f - k]? else t.get (path f)
  | [], k, t, f => by simp only [ofL, List.length_nil]; rw [if_neg (by omega)]
  | x :: xs, k, t, f => by
    simp only [ofL]
    rw [ofL_get xs (k + 1)]
    by_cases h : k + 1 ≤ f ∧ f < k + 1 + xs.length
    · rw [if_pos h, if_pos (by simp only [List.length_cons]; omega)]
      rw [show f - k = (f - (k + 1)) + 1 by omega]
      simp
    · rw [if_neg h, Tr.get_set]
      by_cases hk : path k = path f
      · have := path_inj hk
        subst this
        rw [if_pos rfl, if_pos (by simp only [List.length_cons]; omega)]
        simp
      · have hne : k ≠ f := fun e => hk (by rw [e])
        rw [if_neg hk, if_neg (by simp only [List.length_cons]; omega)]
theorem ft_eq : ft = ofL 0 Tryz.prog.funcs.toList .nil := by kernel_rfl
theorem ft_get (f : Nat) : K.get (K.path f) ft = Tryz.prog.funcs[f]? := by
  rw [K.get_eq, K.path_eq, ft_eq, ofL_get]
  split
  · simp
  · rename_i h
    rw [Tr.get_nil]
    rw [← Array.getElem?_toList, List.getElem?_eq_none]
    omega
theorem no_num : Tryz.prog.funcs.toList.all (fun fn => !(fn.name == "runtime.NumGoroutine")) = true := by kernel_rfl
theorem names_ok (f : Nat) (fn : Func) (h : Tryz.prog.funcs[f]? = some fn) : (fn.name == "runtime.NumGoroutine") = false := by
  have h1 := List.all_eq_true.1 no_num fn (by rw [Array.mem_toList_iff]; exact Array.mem_of_getElem? h)
  simpa using h1
theorem mixed_ok : Tryz.prog.follows .mixedOrders = true := by kernel_rfl
def okT (t : TypeId) : Bool := t == 80
theorem okT_ok : OkTypes Tryz.prog okT := by
  intro t h
  simp only [okT, beq_iff_eq] at h
  subst h
  exact ⟨by kernel_rfl, by kernel_rfl⟩
noncomputable def run (prims : Prims) (n : Nat) : CallF := K.call Tryz.prog okT (fun f => K.get (K.path f) ft) prims n
theorem run_ok {prims : Prims} (hp : PrimsOk Tryz.prog prims) (n : Nat) : CallOk Tryz.prog (run prims n) := by
  unfold run
  rw [K.call_eq_am ft_get names_ok]
  exact call_ok mixed_ok okT_ok hp n
def noRound : Nat → List AV → Heap → OutH := fun _ _ _ => none
theorem doors_ok {cf : CallF} (h : CallOk Tryz.prog cf) : DoorsOk Tryz.prog ⟨cf, noRound⟩ := ⟨h, fun l xs H av H' h => by cases h⟩
noncomputable def allP (xs : List AV) (H : Heap) : Option (AV × Heap) := enterL Tryz.prog okT ⟨run libPrims 3000, noRound⟩ 300 343 xs H
theorem allP_ok : CallOk Tryz.prog (fun f' xs H => if f' = 343 then allP xs H else none) := by
  intro f xs H av H' h
  simp only at h
  split at h
  · rename_i hf
    subst hf
    exact enterL_ok mixed_ok okT_ok (doors_ok (run_ok libPrims_ok 3000)) 300 _ _ _ _ _ h
  · cases h
noncomputable def prims1 : Prims := fun f => if f == 343 then some allP else libPrims f
theorem prims1_ok : PrimsOk Tryz.prog prims1 := by
  intro f g hg
  unfold prims1 at hg
  split at hg
  · rename_i hf
    simp only [beq_iff_eq] at hf
    subst hf
    simp only [Option.some.injEq] at hg
    subst hg
    exact allP_ok
  · exact libPrims_ok f g hg
noncomputable def resolveP (xs : List AV) (H : Heap) : Option (AV × Heap) := enterL Tryz.prog okT ⟨run prims1 3000, noRound⟩ 300 158 xs H
theorem resolveP_ok : CallOk Tryz.prog (fun f' xs H => if f' = 158 then resolveP xs H else none) := by
  intro f xs H av H' h
  simp only at h
  split at h
  · rename_i hf
    subst hf
    exact enterL_ok mixed_ok okT_ok (doors_ok (run_ok prims1_ok 3000)) 300 _ _ _ _ _ h
  · cases h
noncomputable def prims2 : Prims := fun f => if f == 158 then some resolveP else prims1 f
theorem prims2_ok : PrimsOk Tryz.prog prims2 := by
  intro f g hg
  unfold prims2 at hg
  split at hg
  · rename_i hf
    simp only [beq_iff_eq] at hf
    subst hf
    simp only [Option.some.injEq] at hg
    subst hg
    exact resolveP_ok
  · exact prims1_ok f g hg
noncomputable def runWith (ps : List (FuncId × Piece)) : CallF := run (withPieces prims2 (run prims2 3000) ps) 3000
theorem runWith_ok {ps : List (FuncId × Piece)} (hps : ∀ x ∈ ps, CallOk Tryz.prog (fun f' xs H => if f' = x.1 then piecePrim x.2 xs H else none)) : CallOk Tryz.prog (runWith ps) := run_ok (withPieces_ok prims2_ok (run_ok prims2_ok 3000) hps) 3000
theorem piece_ok {f : FuncId} {p : Piece} {ps : List (FuncId × Piece)} (hps : ∀ x ∈ ps, CallOk Tryz.prog (fun f' xs H => if f' = x.1 then piecePrim x.2 xs H else none)) (h : pieceRun (runWith ps) f p = true) :
    CallOk Tryz.prog (fun f' xs H => if f' = f then piecePrim p xs H else none) :=
  piecePrim_ok (runWith_ok hps) h
end Go.Am
end
section
set_option linter.unusedSectionVars false
namespace Go.Am
open Proofs
def seqs : List Code → Code → Code
  | [], r => r
  | c :: cs, r => .seq c (seqs cs r)
def splitC : Nat → Code → List Code × Code
  | 0, c => ([], c)
  | n + 1, .seq a b => (a :: (splitC n b).1, (splitC n b).2)
  | _ + 1, c => ([], c)
theorem splitC_eq : ∀ (n : Nat) (c : Code), seqs (splitC n c).1 (splitC n c).2 = c
  | 0, c => rfl
  | n + 1, c => by
    cases c <;> simp only [splitC, seqs]
    rw [splitC_eq]
def runList (ex : Code → Fr → Heap → Res) : List Code → Fr → Heap → Option (Fr × Heap)
  | [], fr, H => some (fr, H)
  | c :: cs, fr, H => match ex c fr H with
    | .done .normal fr' H' => runList ex cs fr' H'
    | _ => none
section
variable {P : Program} {ok : TypeId → Bool} {nt : Nat}
theorem runList_ok {ex : Code → Fr → Heap → Res} (hex : ∀ c fr H x fr' H', ex c fr H = .done x fr' H' → CodeOk P none nt c fr H x fr' H') : ∀ (cs : List Code) {fr fr' : Fr} {H H' : Heap}, runList ex cs fr H = some (fr', H') →
    AStep H H' ∧ ∀ (rest : Code) (φ : Emb) (a : Act) (w : World) (Q : Exit → Act → World → Prop), MRel φ H.get w → FRel φ fr a.tmps → nt ≤ a.tmps.size → Fresh φ H.next H'.next →
      (∀ a' w' φ', Post φ φ' H H' w w' a a' fr' nt → rest.wpIn (fence none) 0 P Q a' w') → (seqs cs rest).wpIn (fence none) 0 P Q a w
  | [], fr, fr', H, H', h => by
    simp only [runList, Option.some.injEq, Prod.mk.injEq] at h
    obtain ⟨rfl, rfl⟩ := h
    exact ⟨.refl _, fun rest φ a w Q hM hF hn _ hQ => hQ a w φ ⟨.refl hM, hF, hn, [], by simp, .nil _ _ _ _⟩⟩
  | c :: cs, fr, fr', H, H', h => by
    simp only [runList] at h
    split at h
    rotate_left
    · cases h
    rename_i fr1 H1 h1
    obtain ⟨a1, s1⟩ := hex _ _ _ _ _ _ h1
    obtain ⟨a2, s2⟩ := runList_ok hex cs h
    refine ⟨a1.trans a2, fun rest φ a w Q hM hF hn hf hQ => wpIn_seq (s1 none φ a w _ rfl hM hF hn (hf.sub (Nat.le_refl _) a2.next) fun a' w' φ' p1 => ?_)⟩
    exact s2 rest φ' a' w' Q p1.step.rel p1.frel p1.nt (p1.step.fresh a1 hf) fun a2' w2 φ2 p2 => hQ a2' w2 φ2 (p1.trans p2 a1 a2 hf)
def Stands (w : World) : Prop := ∃ m, w.cell? ⟨0, 0, none⟩ = some (.int .i64 m)
def Off (φ : Emb) (g : Get) : Prop := ∀ b e, φ b = some e → g b ≠ none → e.blk ≠ 0
theorem Stands.lt {w : World} (h : Stands w) : 0 < w.heap.size := by
  obtain ⟨m, h⟩ := h
  rcases Nat.eq_zero_or_pos w.heap.size with h0 | h0
  · simp [World.cell?, Array.getElem?_eq_none (show w.heap.size ≤ 0 by omega)] at h
  · exact h0
theorem Stands.of {w w' : World} (h : Stands w) (he : w'.heap[0]? = w.heap[0]?) : Stands w' := by
  obtain ⟨m, h⟩ := h
  refine ⟨m, ?_⟩
  simp only [World.cell?] at h ⊢
  rw [he]; exact h
theorem step_off {φ φ' : Emb} {H H' : Heap} {w w' : World} (s : Step φ φ' H H' w w') (ha : AStep H H') (hf : Fresh φ H.next H'.next) (hS : Stands w) (hO : Off φ H.get) : Stands w' ∧ Off φ' H'.get := by
  have hnot : ¬ Mine φ H.get (Wr H H') w 0 := by
    rintro (h | ⟨b, e, hb, hk, hl, _⟩)
    · have := hS.lt; omega
    · exact hO b e hb hl hk
  refine ⟨hS.of (s.mv.frame 0 hnot), fun b e hb hl hk => ?_⟩
  rcases s.mv.dom b e hb with h | ⟨_, _, h⟩
  · have hbn : b < H.next := by
      rcases Nat.lt_or_ge b H.next with h1 | h1
      · exact h1
      · rw [hf b h1 (get_lt hl)] at h; cases h
    exact hO b e h (ha.live b hbn hl) hk
  · rw [hk] at h; exact hnot h
end
noncomputable def holdsOf (o : Oper) : Option (Operand × Operand) :=
  match o.op with
  | .call { callee := .value (.func 17), args, .. } => match args.toList with
    | [x, y] => some (x, y)
    | _ => none
  | _ => none
noncomputable def stepC (d : Doors) (nt : Nat) (ops : Array Oper) (fr : Fr) (H : Heap) (o : Oper) : Option (Fr × Heap) :=
  match holdsOf o with
  | some (x, y) => if wanted ops fr o then
      match ev fr x, ev fr y with
      | some (.str s), some (.str t) => if s.length < 4294967281 then (putAt nt fr o.dst (.bool (Lib.contains s t))).map (·, H) else none
      | _, _ => none
    else none
  | none => stepOp Tryz.prog okT d nt ops fr H o
noncomputable def runOpsC (d : Doors) (nt : Nat) (ops : Array Oper) : List Oper → Fr → Heap → Option (Fr × Heap)
  | [], fr, H => some (fr, H)
  | o :: os, fr, H => match stepC d nt ops fr H o with
    | some (fr', H') => runOpsC d nt ops os fr' H'
    | none => none
theorem stepC_ok {d : Doors} (hc : DoorsOk Tryz.prog d) {nt : Nat} {ops : Array Oper} {fr fr' : Fr} {H H' : Heap} {o : Oper} (h : stepC d nt ops fr H o = some (fr', H')) :
    AStep H H' ∧ ∀ (φ : Emb) (a : Act) (w : World) (K : Act → World → Prop) (Q : Exit → Act → World → Prop), MRel φ H.get w → FRel φ fr a.tmps → nt ≤ a.tmps.size → Fresh φ H.next H'.next → Stands w → Off φ H.get →
      (∀ a' w' φ', FRel φ' fr' a'.tmps → nt ≤ a'.tmps.size → a'.defers = a.defers → Step φ φ' H H' w w' → K a' w') →
      (if Region.wanted o (yielded ops a.tmps) then o.wpIn (fence none) 0 Tryz.prog a w K Q else (∀ f, o.about Tryz.prog w a.eval = some f → (fence none).fn f) ∧ K (a.put o.dst undef) w) := by
  unfold stepC at h
  split at h
  · rename_i x y hh
    split at h
    rotate_left
    · cases h
    rename_i hw
    split at h
    rotate_left
    · cases h
    rename_i s t hx hy
    split at h
    rotate_left
    · cases h
    rename_i hs
    simp only [Option.map_eq_some_iff, Prod.mk.injEq] at h
    obtain ⟨fr1, hp, rfl, rfl⟩ := h
    refine ⟨.refl _, fun φ a w K Q hM hF hn hf hS hO hK => ?_⟩
    rw [wanted_eq hF, hw, if_pos rfl]
    unfold holdsOf at hh
    split at hh
    rotate_left
    · cases hh
    rename_i args ats hop
    split at hh
    rotate_left
    · cases hh
    rename_i x' y' hargs
    simp only [Option.some.injEq, Prod.mk.injEq] at hh
    obtain ⟨rfl, rfl⟩ := hh
    have hvx := ev_rel hF hx
    have hvy := ev_rel hF hy
    generalize hcx : a.eval x' = vx at hvx
    generalize hcy : a.eval y' = vy at hvy
    cases hvx
    cases hvy
    obtain ⟨m, hm⟩ := hS
    have hcall := Tryz.strings_Contains ⟨s.toArray⟩ ⟨t.toArray⟩ m w (by rw [bytes_size]; exact hs) hm
    have hrun : (execOp a.eval o).run Tryz.prog w = .ok (.enter 17 #[.string ⟨s.toArray⟩, .string ⟨t.toArray⟩]) w := by
      have hev : a.eval (.func 17) = .func (.func 17) #[] #[] := rfl
      have hmap : args.map a.eval = #[.string ⟨s.toArray⟩, .string ⟨t.toArray⟩] := by
        apply Array.ext'
        rw [Array.toList_map, hargs]
        simp [hcx, hcy]
      simp only [execOp, hop, resolve, hev, Deferred.ofValue, Sem.run_bind, Sem.run_pure, Result.andThen_ok, invoke, hmap, run_callFunc enters_contains]
      rfl
    refine ⟨fun _ _ => trivial, ?_⟩
    rw [Oper.semAt_eq _ _ _ (fun c h => by rw [hop] at h; cases h), hrun, Oper.uponIn_enter]
    refine ⟨fun h => (by cases h), ?_⟩
    have hin : CallsIn (fence none) 0 Tryz.prog 17 _ w _ := (callsIn_wide (n := 0)).2 hcall
    refine hin.mono ?_
    rintro e w' ⟨rfl, rfl⟩
    obtain ⟨k1, k2, k3⟩ := put_frel (v := .bool (Lib.contains s t)) hF hn hp (.bool _)
    have : (Value.bool (Lib.contains (⟨s.toArray⟩ : ByteArray).data.toList (⟨t.toArray⟩ : ByteArray).data.toList)) = .bool (Lib.contains s t) := by simp
    rw [this]
    exact hK _ _ _ k1 k2 k3 (.refl hM)
  · obtain ⟨h1, h2⟩ := stepOp_ok okT_ok hc h
    exact ⟨h1, fun φ a w K Q hM hF hn hf _ _ hK => h2 none φ a w K Q hM hF hn hf hK⟩
theorem runOpsC_ok {d : Doors} (hc : DoorsOk Tryz.prog d) {nt : Nat} {ops : Array Oper} : ∀ (os : List Oper) {fr fr' : Fr} {H H' : Heap}, runOpsC d nt ops os fr H = some (fr', H') →
    AStep H H' ∧ ∀ (φ : Emb) (a : Act) (w : World) (Q : Exit → Act → World → Prop) (k : Nat), ops.toList.drop k = os → MRel φ H.get w → FRel φ fr a.tmps → nt ≤ a.tmps.size → Fresh φ H.next H'.next → Stands w → Off φ H.get →
      (∀ a' w' φ', FRel φ' fr' a'.tmps → nt ≤ a'.tmps.size → a'.defers = a.defers → Step φ φ' H H' w w' → Q .normal a' w') →
      wpOpsIn (fence none) 0 Tryz.prog ops Q (List.range' k os.length) a w
  | [], fr, fr', H, H', h => by
    simp only [runOpsC, Option.some.injEq, Prod.mk.injEq] at h
    obtain ⟨rfl, rfl⟩ := h
    refine ⟨.refl _, fun φ a w Q k _ hM hF hn _ _ _ hQ => ?_⟩
    exact hQ a w φ hF hn rfl (.refl hM)
  | o :: os, fr, fr', H, H', h => by
    simp only [runOpsC] at h
    split at h
    · rename_i fr1 H1 h1
      obtain ⟨a1, s1⟩ := stepC_ok hc h1
      obtain ⟨a2, s2⟩ := runOpsC_ok hc os h
      refine ⟨a1.trans a2, fun φ a w Q k hk hM hF hn hf hS hO hQ => ?_⟩
      have hlt : k < ops.toList.length := by
        rcases Nat.lt_or_ge k ops.toList.length with h | h
        · exact h
        · rw [List.drop_eq_nil_of_le h] at hk; cases hk
      rw [List.drop_eq_getElem_cons hlt] at hk
      simp only [List.cons.injEq] at hk
      obtain ⟨hk1, hk2⟩ := hk
      have ho : ops[k]? = some o := by
        rw [← Array.getElem?_toList, List.getElem?_eq_getElem hlt, hk1]
      rw [List.length_cons, List.range'_succ]
      simp only [wpOpsIn, ho]
      have hf1 : Fresh φ H.next H1.next := hf.sub (Nat.le_refl _) a2.next
      exact s1 φ a w _ Q hM hF hn hf1 hS hO fun a' w' φ' f1 n1 d1 st1 => by
        obtain ⟨hS', hO'⟩ := step_off st1 a1 hf1 hS hO
        refine s2 φ' a' w' Q (k + 1) hk2 st1.rel f1 n1 (st1.fresh a1 hf) hS' hO' fun a2' w2 φ2 f2 n2 d2 st2 => ?_
        exact hQ a2' w2 φ2 f2 n2 (d2.trans d1) (st1.trans st2 a1 a2 hf1)
    · cases h
end Go.Am
end
