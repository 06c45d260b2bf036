/- The same relation at whole calls, and the closure of a function's calls checked by a decision. -/
import Derived.LoopNIn
import Derived.OrdersIn
import Derived.RangeFuncLeaves
import Derived.RangeFuncNested
import Derived.Test.YtdnclnacneakbaaGreatDoorA1
set_option linter.unusedVariables false
set_option linter.unusedSimpArgs false
set_option linter.unusedSectionVars false
section
namespace Go.Am
section
variable {P : Program} {φ : Emb} {g : Get} {nx : Nat} {w : World} {fr : Fr} {a : Act} {ok : TypeId → Bool}
def FRel (φ : Emb) (fr : Fr) (tmps : Array Value) : Prop := ∀ t, VRel φ (fr.at t) (tmps.getD t undef)
theorem FRel.mono {φ' : Emb} {tmps : Array Value} (hx : φ.Ext φ') (h : FRel φ fr tmps) : FRel φ' fr tmps := fun t => (h t).mono hx
def Sees (φ : Emb) (fr : Fr) (a : Act) (xs : List Operand) : Prop := ∀ x, x ∈ xs → ∀ av, ev fr x = some av → VRel φ av (a.eval x)
theorem ev_rel (hF : FRel φ fr a.tmps) {x : Operand} {av : AV} (h : ev fr x = some av) : VRel φ av (a.eval x) := by
  cases x with
  | tmp t => simp only [ev, Option.some.injEq] at h; subst h; exact hF t
  | const v => exact ofVal_rel h
  | global g => simp [ev] at h
  | func f => simp only [ev, Option.some.injEq] at h; subst h; exact .func .nil .nil
theorem FRel.sees (hF : FRel φ fr a.tmps) (xs : List Operand) : Sees φ fr a xs := fun _ _ _ h => ev_rel hF h
theorem evs_rel : ∀ {xs : List Operand} {as : List AV}, Sees φ fr a xs → evs fr xs = some as → VRels φ as (xs.map a.eval)
  | [], as, _, h => by simp [evs] at h; subst h; exact .nil
  | x :: xs, as, hF, h => by
    simp only [evs] at h
    split at h
    · rename_i b bs h1 h2
      simp at h; subst h
      exact .cons (hF x (by simp) _ h1) (evs_rel (fun y hy => hF y (by simp [hy])) h2)
    · cases h
theorem parts_rel : ∀ {ps : List (Nat × Operand)} {vs : List AV}, Sees φ fr a (ps.map (·.2)) → evs fr (ps.map (·.2)) = some vs → PRels φ ((ps.map (·.1)).zip vs) (ps.map fun (i, x) => (i, a.eval x))
  | [], vs, _, h => by simp [evs] at h; subst h; exact .nil
  | (i, x) :: ps, vs, hF, h => by
    simp only [List.map_cons, evs] at h
    split at h
    · rename_i b bs h1 h2
      simp at h; subst h
      simp only [List.map_cons, List.zip_cons_cons]
      exact .cons (hF x (by simp) _ h1) (parts_rel (fun y hy => hF y (by simp only [List.map_cons, List.mem_cons]; exact .inr hy)) h2)
    · cases h
def OpOk (P : Program) (φ : Emb) (g : Get) (nx : Nat) (w : World) (s : Sem Next) (av : AV) (e : Eff) : Prop :=
  ∃ r v w' φ', s.run P w = .ok r w' ∧ (r = .value v ∨ (r = .skip ∧ v = undef)) ∧ VRel φ' av v ∧ MRel φ' (e.get g nx) w' ∧ Moves φ φ' g nx (e.top nx) e.hits w w'
theorem OpOk.of_v {s : Sem Value} {av : AV} {e : Eff} (h : VOk P φ g nx w s av e) : OpOk P φ g nx w (do pure (.value (← s))) av e := by
  obtain ⟨v, w', φ', h1, h2, h3, h4⟩ := h
  exact ⟨.value v, v, w', φ', by simp [h1], .inl rfl, h2, h3, h4⟩
theorem OpOk.of_u {s : Sem Unit} {e : Eff} (h : UOk P φ g nx w s e) : OpOk P φ g nx w (do s; pure .skip) .undef e := by
  obtain ⟨w', φ', h1, h3, h4⟩ := h
  exact ⟨.skip, undef, w', φ', by simp [h1], .inr ⟨rfl, rfl⟩, .undef, h3, h4⟩
theorem OpOk.of_k {s : Sem Value} {av : AV} (hM : MRel φ g w) (h : ∃ u, s.run P w = .ok u w ∧ VRel φ av u) : OpOk P φ g nx w (do pure (.value (← s))) av .keep := by
  obtain ⟨u, h1, h2⟩ := h
  exact .of_v (.keep hM h1 h2)
theorem OpOk.value (hM : MRel φ g w) {av : AV} {v : Value} (h : VRel φ av v) : OpOk P φ g nx w (pure (.value v)) av .keep :=
  ⟨.value v, v, w, φ, rfl, .inl rfl, h, hM, .refl _ _ _ _ _ _⟩
theorem map_arr {α β : Type} (f : α → β) (xs : Array α) : (xs.toList.map f).toArray = xs.map f := by rw [← Array.toList_map]
theorem some_keep {x : Option AV} {av : AV} {eff : Eff} (h : x.map (·, Eff.keep) = some (av, eff)) : x = some av ∧ eff = .keep := by
  cases x with
  | none => simp at h
  | some y => simp only [Option.map_some, Option.some.injEq, Prod.mk.injEq] at h; exact ⟨by rw [h.1], h.2.symm⟩
theorem builtin_ok (hM : MRel φ g w) {b : Builtin} {ts : Array TypeId} {xs : List AV} {vs : List Value} {av : AV} {eff : Eff} (hf : Free φ nx eff) (h : builtin P g nx b ts xs = some (av, eff)) (hx : VRels φ xs vs) (ty : TypeId) (cs : Array Bool) :
    OpOk P φ g nx w (Go.builtin b ts ty cs vs.toArray) av eff := by
  unfold builtin at h
  split at h
  · rename_i x
    cases hx with
    | cons h1 h2 =>
      cases h2
      split at h
      · rename_i t ht
        split at h
        · rename_i n hn
          simp only [Option.some.injEq, Prod.mk.injEq] at h
          obtain ⟨rfl, rfl⟩ := h
          exact .of_k hM ⟨_, len_ok hM hn h1 ht, .int _ _⟩
        · cases h
      · cases h
  · rename_i s x
    cases hx with
    | cons h1 h2 =>
      cases h2 with
      | cons h3 h4 =>
        cases h4
        split at h
        · rename_i t ht
          exact .of_v (append_ok hM hf h h1 h3 ht)
        · cases h
  · rename_i s x
    cases hx with
    | cons h1 h2 =>
      cases h2 with
      | cons h3 h4 =>
        cases h4
        split at h
        · rename_i t ht
          exact .of_v (copy_ok hM h h1 h3 ht)
        · cases h
  · rename_i x rest
    cases hx with
    | cons h1 h2 =>
      obtain ⟨hm, rfl⟩ := some_keep h
      obtain ⟨u, k1, k2⟩ := max_ok (P := P) (w := w) (isMax := true) hm h1 h2
      exact .of_k hM ⟨u, k1, k2⟩
  · rename_i x rest
    cases hx with
    | cons h1 h2 =>
      obtain ⟨hm, rfl⟩ := some_keep h
      obtain ⟨u, k1, k2⟩ := max_ok (P := P) (w := w) (isMax := false) hm h1 h2
      exact .of_k hM ⟨u, k1, k2⟩
  · cases h
theorem head_rel {lo : Option Operand} (hF : Sees φ fr a lo.toList) {l : List AV} (h : evs fr lo.toList = some l) : ORels φ l.head? (lo.map a.eval) := by
  cases lo with
  | none => simp [evs] at h; subst h; exact .none
  | some x =>
    simp only [Option.toList_some, evs] at h
    split at h
    · rename_i b bs h1 h2
      simp at h; subst h
      exact .some (hF x (by simp) _ h1)
    · cases h
theorem plain_ok (hok : OkTypes P ok) (hM : MRel φ g w) {o : Oper} (hF : Sees φ fr a o.op.operands.toList) {av : AV} {eff : Eff} (hf : Free φ nx eff) (h : plainOp P ok fr g nx o = some (av, eff)) :
    OpOk P φ g nx w (execOp a.eval o) av eff := by
  obtain ⟨dst, op, type, pos, after, guard⟩ := o
  unfold plainOp at h
  unfold execOp
  cases op with
  | move x => obtain ⟨h1, rfl⟩ := some_keep h; exact .value hM (hF _ (by simp [Op.operands]) _ h1)
  | assign x => obtain ⟨h1, rfl⟩ := some_keep h; exact .value hM (hF _ (by simp [Op.operands]) _ h1)
  | pick c x y =>
    simp only at h
    split at h
    · rename_i hc
      obtain ⟨h1, rfl⟩ := some_keep h
      have := hF _ (by simp [Op.operands]) _ hc
      generalize hcv : a.eval c = cv at this
      cases this
      have := OpOk.value (P := P) (nx := nx) hM (hF _ (by simp [Op.operands]) _ h1)
      simpa [asBool, hcv] using this
    · rename_i hc
      obtain ⟨h1, rfl⟩ := some_keep h
      have := hF _ (by simp [Op.operands]) _ hc
      generalize hcv : a.eval c = cv at this
      cases this
      have := OpOk.value (P := P) (nx := nx) hM (hF _ (by simp [Op.operands]) _ h1)
      simpa [asBool, hcv] using this
    · cases h
  | alloc t =>
    simp only at h
    split at h
    · rename_i z hz
      obtain ⟨zv, hz1, hz2⟩ := run_zero hz
      refine .of_v ?_
      obtain ⟨v, w', φ', k1, k2, k3, k4⟩ := boxed_ok (P := P) hM hf h (hz2 φ) t
      exact ⟨v, w', φ', by simpa [Instr.alloc, hz1] using k1, k2, k3, k4⟩
    · cases h
  | box t x =>
    simp only at h
    split at h
    · rename_i v hv
      exact .of_v (boxed_ok hM hf h (hF _ (by simp [Op.operands]) _ hv) t)
    · cases h
  | build t ps =>
    simp only at h
    split at h
    · rename_i vs hv
      obtain ⟨h1, rfl⟩ := some_keep h
      refine .of_k hM ?_
      have := build_ok (P := P) (w := w) h1 (parts_rel (fun y hy => hF y (by simpa [Op.operands] using hy)) hv)
      rw [map_arr] at this
      exact this
    · cases h
  | buildSlice t n ps =>
    simp only at h
    split at h
    · rename_i vs hv
      refine .of_v ?_
      have := buildSlice_ok (P := P) hM hf h (parts_rel (fun y hy => hF y (by simpa [Op.operands] using hy)) hv)
      rw [map_arr] at this
      exact this
    · cases h
  | load t x =>
    simp only at h
    split at h
    · rename_i v hv
      obtain ⟨h1, rfl⟩ := some_keep h
      exact .of_k hM (load_ok hM h1 (hF _ (by simp [Op.operands]) _ hv))
    · cases h
  | store t x y =>
    simp only at h
    split at h
    · rename_i vx vy hx hy
      simp only [Option.map_eq_some_iff, Prod.mk.injEq] at h
      obtain ⟨e, he, rfl, rfl⟩ := h
      exact .of_u (store_ok hM he (hF _ (by simp [Op.operands]) _ hx) (hF _ (by simp [Op.operands]) _ hy))
    · cases h
  | nilCheck x =>
    simp only at h
    split at h
    · rename_i b o hx
      simp only [Option.some.injEq, Prod.mk.injEq] at h
      obtain ⟨rfl, rfl⟩ := h
      have := hF _ (by simp [Op.operands]) _ hx
      generalize hcv : a.eval x = cv at this
      cases this with
      | ptr _ he => simp only [hcv]; exact .value hM (.ptr _ he)
    · rename_i f b c hx
      simp only [Option.some.injEq, Prod.mk.injEq] at h
      obtain ⟨rfl, rfl⟩ := h
      have := hF _ (by simp [Op.operands]) _ hx
      generalize hcv : a.eval x = cv at this
      cases this with
      | func h1 h2 => simp only [hcv]; exact .value hM (.func h1 h2)
    · cases h
  | binOp op t x y yt =>
    simp only at h
    split at h
    · rename_i vx vy hx hy
      split at h
      · cases h
      · rename_i hg
        obtain ⟨h1, rfl⟩ := some_keep h
        refine .of_k hM (binOp_ok hok h1 ?_ (hF _ (by simp [Op.operands]) _ hx) (hF _ (by simp [Op.operands]) _ hy))
        intro hn _
        simp only [hn, Bool.true_and, Bool.and_eq_true, Bool.not_eq_true', not_and, Bool.not_eq_false] at hg
        by_cases hcx : isConst x = true
        · exact .inl hcx
        · exact .inr (hg (by simpa using hcx))
    · cases h
  | unOp op t x =>
    simp only at h
    obtain ⟨h1, rfl⟩ := some_keep h
    simp only [Option.bind_eq_some_iff] at h1
    obtain ⟨v, hv, h1⟩ := h1
    exact .of_k hM (unOp_ok h1 (hF _ (by simp [Op.operands]) _ hv))
  | convert s d x =>
    simp only at h
    split at h
    · rename_i v hv
      exact .of_v (convert_ok hM hf h (hF _ (by simp [Op.operands]) _ hv))
    · cases h
  | makeFunc fn first caps =>
    cases fn with
    | func f =>
      simp only at h
      split at h
      · rename_i va vc h1 h2
        simp only [Option.some.injEq, Prod.mk.injEq] at h
        obtain ⟨rfl, rfl⟩ := h
        refine .of_k hM ⟨_, rfl, ?_⟩
        have := VRel.func (f := f) (evs_rel (fun y hy => hF y (by simp [Op.operands, Call.operands] at hy ⊢; simp [hy])) h1) (evs_rel (fun y hy => hF y (by simp [Op.operands, Call.operands] at hy ⊢; simp [hy])) h2)
        rw [map_arr, map_arr] at this
        exact this
      · cases h
    | _ => simp at h
  | makeMap t r =>
    cases r with
    | some _ => simp at h
    | none =>
      simp only [Option.some.injEq, Prod.mk.injEq] at h
      obtain ⟨rfl, rfl⟩ := h
      refine .of_v ?_
      obtain ⟨k1, k2, k3⟩ := new_rel (w' := { w with heap := w.heap.push (.map #[] 0) }) hM hf.new (o := .map [] 0) (x := .map #[] 0) (base := 0) (size := 0) rfl ⟨rfl, rfl, rfl⟩ (fun _ => False) ⟨#[], rfl, .nil⟩
      exact ⟨.map (some w.heap.size), _, _, by simp [Instr.makeMap], .map (b := nx) (e := ⟨w.heap.size, 0, 0⟩) (upd_same _ _ _), k2, k3⟩
  | makeSlice t l c =>
    simp only at h
    split at h
    · rename_i vl vc h1 h2
      exact .of_v (makeSlice_ok hM hf h (hF _ (by simp [Op.operands]) _ h1) (hF _ (by simp [Op.operands]) _ h2))
    · cases h
  | slice t x lo hi mx =>
    cases mx with
    | some _ => simp at h
    | none =>
      simp only at h
      split at h
      · rename_i vx vl vh h1 h2 h3
        obtain ⟨h4, rfl⟩ := some_keep h
        exact .of_k hM (slice_ok hM h4 (hF _ (by simp [Op.operands]) _ h1) (head_rel (fun y hy => hF y (by simp [Op.operands] at hy ⊢; simp [hy])) h2) (head_rel (fun y hy => hF y (by simp [Op.operands] at hy ⊢; simp [hy])) h3))
      · cases h
  | fieldAddr t x f =>
    simp only at h
    obtain ⟨h1, rfl⟩ := some_keep h
    simp only [Option.bind_eq_some_iff] at h1
    obtain ⟨v, hv, h1⟩ := h1
    exact .of_k hM (fieldAddr_ok h1 (hF _ (by simp [Op.operands]) _ hv))
  | field t x f =>
    simp only at h
    obtain ⟨h1, rfl⟩ := some_keep h
    simp only [Option.bind_eq_some_iff] at h1
    obtain ⟨v, hv, h1⟩ := h1
    exact .of_k hM (field_ok h1 (hF _ (by simp [Op.operands]) _ hv))
  | indexAddr t x i =>
    simp only at h
    split at h
    · rename_i vx vi h1 h2
      obtain ⟨h3, rfl⟩ := some_keep h
      exact .of_k hM (indexAddr_ok h3 (hF _ (by simp [Op.operands]) _ h1) (hF _ (by simp [Op.operands]) _ h2))
    · cases h
  | index t x i =>
    simp only at h
    split at h
    · rename_i vx vi h1 h2
      obtain ⟨h3, rfl⟩ := some_keep h
      exact .of_k hM (index_ok h3 (hF _ (by simp [Op.operands]) _ h1) (hF _ (by simp [Op.operands]) _ h2))
    · cases h
  | lookup t m k c =>
    simp only at h
    split at h
    · rename_i vm vk h1 h2
      obtain ⟨h3, rfl⟩ := some_keep h
      exact .of_k hM (lookup_ok hM h3 (hF _ (by simp [Op.operands]) _ h1) (hF _ (by simp [Op.operands]) _ h2))
    · cases h
  | mapUpdate t m k v =>
    simp only at h
    split at h
    · rename_i vm vk vv h1 h2 h3
      simp only [Option.map_eq_some_iff, Prod.mk.injEq] at h
      obtain ⟨e, he, rfl, rfl⟩ := h
      exact .of_u (mapUpdate_ok hM he (hF _ (by simp [Op.operands]) _ h1) (hF _ (by simp [Op.operands]) _ h2) (hF _ (by simp [Op.operands]) _ h3))
    · cases h
  | insert t m k v =>
    simp only at h
    split at h
    · rename_i vm vk vv h1 h2 h3
      simp only [Option.map_eq_some_iff, Prod.mk.injEq] at h
      obtain ⟨e, he, rfl, rfl⟩ := h
      exact .of_u (mapUpdate_ok hM he (hF _ (by simp [Op.operands]) _ h1) (hF _ (by simp [Op.operands]) _ h2) (hF _ (by simp [Op.operands]) _ h3))
    · cases h
  | range t x =>
    simp only at h
    split at h
    · rename_i v hv
      exact .of_v (range_ok hM hf h (hF _ (by simp [Op.operands]) _ hv))
    · cases h
  | next it s =>
    simp only at h
    split at h
    · rename_i v hv
      exact .of_v (next_ok hM h (hF _ (by simp [Op.operands]) _ hv) type)
    · cases h
  | entry it =>
    simp only at h
    split at h
    · rename_i v hv
      obtain ⟨h3, rfl⟩ := some_keep h
      exact .of_k hM (entry_ok hM h3 (hF _ (by simp [Op.operands]) _ hv))
    · cases h
  | extract t i =>
    simp only at h
    split at h
    · rename_i vs hv
      obtain ⟨h3, rfl⟩ := some_keep h
      have := hF _ (by simp [Op.operands]) _ hv
      generalize hcv : a.eval t = cv at this
      cases this with
      | tuple hvs =>
        obtain ⟨u, k1, k2⟩ := hvs.get h3
        exact .of_k hM ⟨u, by simp [Instr.extract, hcv, k1], k2⟩
    · cases h
  | call c =>
    obtain ⟨callee, args, argTypes⟩ := c
    cases callee with
    | builtin b =>
      simp only at h
      split at h
      · rename_i vs hv
        have key := fun cs => builtin_ok (P := P) (w := w) hM hf h (evs_rel (fun y hy => hF y (by simp [Op.operands, Call.operands] at hy ⊢; simp [hy])) hv) type cs
        simp only [map_arr] at key
        simp only [resolve, pure_bind, invoke]
        exact key _
      · cases h
    | _ => simp at h
  | _ => simp at h
end
end Go.Am
end
section
namespace Go.Am
def Wr (H H' : Heap) (b : Nat) : Prop := b ∈ H'.log ∨ H.floor ≤ b
structure AStep (H H' : Heap) : Prop where
  next : H.next ≤ H'.next
  floor : H'.floor = H.floor
  log : ∀ b, b ∈ H.log → b ∈ H'.log
  keep : ∀ b, b < H.next → ¬ Wr H H' b → H'.get b = H.get b
  live : ∀ b, b < H.next → H'.get b ≠ none → H.get b ≠ none
structure Step (φ φ' : Emb) (H H' : Heap) (w w' : World) : Prop where
  rel : MRel φ' H'.get w'
  mv : Moves φ φ' H.get H.next H'.next (Wr H H') w w'
def Fresh (φ : Emb) (lo hi : Nat) : Prop := ∀ b, lo ≤ b → b < hi → φ b = none
theorem AStep.refl (H : Heap) : AStep H H := ⟨Nat.le_refl _, rfl, fun _ h => h, fun _ _ _ => rfl, fun _ _ h => h⟩
theorem Wr.mono {H H1 H2 : Heap} (_h1 : AStep H H1) (h2 : AStep H1 H2) {b : Nat} (h : Wr H H1 b) : Wr H H2 b := h.imp (h2.log b) id
theorem AStep.trans {H H1 H2 : Heap} (h1 : AStep H H1) (h2 : AStep H1 H2) : AStep H H2 := by
  refine ⟨Nat.le_trans h1.next h2.next, h2.floor.trans h1.floor, fun b h => h2.log b (h1.log b h), ?_, ?_⟩
  · intro b hb hw
    rw [h2.keep b (Nat.lt_of_lt_of_le hb h1.next) (fun h => hw (h.imp id (fun k => h1.floor ▸ k)))]
    exact h1.keep b hb fun h => hw (Wr.mono h1 h2 h)
  · intro b hb hl
    exact h1.live b hb (h2.live b (Nat.lt_of_lt_of_le hb h1.next) hl)
theorem get_lt {H : Heap} {b : Nat} (h : H.get b ≠ none) : b < H.next := by
  unfold Heap.get at h
  split at h
  · assumption
  · exact absurd rfl h
theorem Fresh.sub {φ : Emb} {lo hi lo' hi' : Nat} (h : Fresh φ lo hi) (h1 : lo ≤ lo') (h2 : hi' ≤ hi) : Fresh φ lo' hi' := fun b hb1 hb2 => h b (by omega) (by omega)
theorem Step.fresh {φ φ1 : Emb} {H H1 : Heap} {w w1 : World} {hi : Nat} (s1 : Step φ φ1 H H1 w w1) (a1 : AStep H H1) (hf : Fresh φ H.next hi) : Fresh φ1 H1.next hi := by
  intro b hb1 hb2
  cases h : φ1 b with
  | none => rfl
  | some e =>
    rcases s1.mv.dom b e h with h1 | ⟨_, h2, _⟩
    · rw [hf b (Nat.le_trans a1.next hb1) hb2] at h1; cases h1
    · omega
theorem mine_back {φ φ1 : Emb} {H H1 H2 : Heap} {w w1 : World} (s1 : Step φ φ1 H H1 w w1) (a1 : AStep H H1) (a2 : AStep H1 H2) (hf : Fresh φ H.next H1.next) {k : Nat}
    (h : Mine φ1 H1.get (Wr H1 H2) w1 k) : Mine φ H.get (Wr H H2) w k := by
  rcases h with h | ⟨b, e, hb, hk, hl, hw⟩
  · exact .inl (Nat.le_trans s1.mv.size h)
  · rcases s1.mv.dom b e hb with h1 | ⟨_, _, h3⟩
    · have hlt : b < H.next := by
        rcases Nat.lt_or_ge b H.next with h2 | h2
        · exact h2
        · rw [hf b h2 (get_lt hl)] at h1; cases h1
      exact .inr ⟨b, e, h1, hk, a1.live b hlt hl, hw.imp id fun h => a1.floor ▸ h⟩
    · subst hk
      rcases h3 with h3 | ⟨b0, e0, p1, p2, p3, p4⟩
      · exact .inl h3
      · exact .inr ⟨b0, e0, p1, p2, p3, Wr.mono a1 a2 p4⟩
theorem Step.trans {φ φ1 φ2 : Emb} {H H1 H2 : Heap} {w w1 w2 : World} (s1 : Step φ φ1 H H1 w w1) (s2 : Step φ1 φ2 H1 H2 w1 w2) (a1 : AStep H H1) (a2 : AStep H1 H2) (hf : Fresh φ H.next H1.next) :
    Step φ φ2 H H2 w w2 := by
  refine ⟨s2.rel, ⟨s1.mv.ext.trans s2.mv.ext, ?_, ?_, Nat.le_trans s1.mv.size s2.mv.size, s2.mv.os.trans s1.mv.os, s2.mv.tape.trans s1.mv.tape, s2.mv.output.trans s1.mv.output⟩⟩
  · intro b e hb
    rcases s2.mv.dom b e hb with h | ⟨h1, h2, h3⟩
    · rcases s1.mv.dom b e h with k | ⟨k1, k2, k3⟩
      · exact .inl k
      · refine .inr ⟨k1, Nat.lt_of_lt_of_le k2 a2.next, ?_⟩
        rcases k3 with k3 | ⟨b0, e0, p1, p2, p3, p4⟩
        · exact .inl k3
        · exact .inr ⟨b0, e0, p1, p2, p3, Wr.mono a1 a2 p4⟩
    · exact .inr ⟨Nat.le_trans a1.next h1, h2, mine_back s1 a1 a2 hf h3⟩
  · intro k hk
    have h1 : ¬ Mine φ H.get (Wr H H1) w k := by
      intro h
      apply hk
      rcases h with h | ⟨b0, e0, p1, p2, p3, p4⟩
      · exact .inl h
      · exact .inr ⟨b0, e0, p1, p2, p3, Wr.mono a1 a2 p4⟩
    have h2 : ¬ Mine φ1 H1.get (Wr H1 H2) w1 k := fun h => hk (mine_back s1 a1 a2 hf h)
    rw [s2.mv.frame k h2, s1.mv.frame k h1]
theorem Step.refl {φ : Emb} {H : Heap} {w : World} (h : MRel φ H.get w) : Step φ φ H H w w := ⟨h, .refl _ _ _ _ _ _⟩
theorem noted_mem {H : Heap} {b c : Nat} (h : c ∈ H.log) : c ∈ noted H b := by
  unfold noted; split
  · exact List.mem_cons_of_mem _ h
  · exact h
theorem noted_self (H : Heap) (b : Nat) : b ∈ noted H b ∨ H.floor ≤ b := by
  unfold noted
  split
  · exact .inl (by simp)
  · rename_i h
    simp only [Bool.and_eq_true, decide_eq_true_eq, Bool.not_eq_true', not_and, Bool.not_eq_false] at h
    by_cases hb : b < H.floor
    · exact .inl (by simpa using h hb)
    · exact .inr (by omega)
theorem app_step {H H' : Heap} {e : Eff} (h : H.app e = some H') :
    H'.get = e.get H.get H.next ∧ H'.next = e.top H.next ∧ AStep H H' ∧ ∀ b, e.hits b → Wr H H' b := by
  cases e with
  | keep =>
    simp only [Heap.app, Option.some.injEq] at h
    subst h
    exact ⟨rfl, rfl, .refl _, fun _ h => h.elim⟩
  | new o =>
    simp only [Heap.app] at h
    · simp only [Option.some.injEq] at h
      subst h
      have hg : ∀ b, (({ H with tr := H.tr.set (path H.next) (some o), next := H.next + 1 } : Heap).get b) = upd H.get H.next (some o) b := by
        intro b
        by_cases hb : b = H.next
        · subst hb
          simp [Heap.get, upd, Tr.get_set]
        · rw [upd_ne _ _ hb]
          simp only [Heap.get, Tr.get_set]
          by_cases hlt : b < H.next
          · rw [if_pos (by omega), if_pos hlt, if_neg fun hp => hb (path_inj hp).symm]
          · rw [if_neg (by omega), if_neg hlt]
      refine ⟨funext hg, rfl, ⟨Nat.le_succ _, rfl, fun _ h => h, ?_, ?_⟩, fun _ h => h.elim⟩
      · intro b hb _
        rw [hg b, upd_ne _ _ (by omega)]
      · intro b hb hl
        rw [hg b, upd_ne _ _ (by omega)] at hl
        exact hl
  | put b o =>
    simp only [Heap.app] at h
    split at h
    · rename_i hn
      have hlive : H.get b ≠ none := by cases hb : H.get b with
        | none => rw [hb] at hn; simp at hn
        | some _ => simp
      have hbn := get_lt hlive
      simp only [Option.some.injEq] at h
      subst h
      have hg : ∀ c, (({ H with tr := H.tr.set (path b) (some o), log := noted H b } : Heap).get c) = upd H.get b (some o) c := by
        intro c
        by_cases hc : c = b
        · subst hc
          simp [Heap.get, upd, Tr.get_set, hbn]
        · rw [upd_ne _ _ hc]
          simp only [Heap.get, Tr.get_set]
          by_cases hlt : c < H.next
          · rw [if_pos hlt, if_pos hlt, if_neg fun hp => hc (path_inj hp).symm]
          · rw [if_neg hlt, if_neg hlt]
      have hself : ∀ c, (Eff.put b o).hits c → c ∈ noted H b ∨ H.floor ≤ c := fun c hc => by
        have hc : c = b := hc
        subst hc
        exact noted_self H c
      refine ⟨funext hg, rfl, ⟨Nat.le_refl _, rfl, fun _ h => noted_mem h, ?_, ?_⟩, hself⟩
      · intro c hc hw
        rw [hg c, upd_ne _ _ fun e => hw (by subst e; exact noted_self H c)]
      · intro c hc hl
        by_cases hcb : c = b
        · subst hcb; exact hlive
        · rw [hg c, upd_ne _ _ hcb] at hl; exact hl
    · cases h
  | swap b o =>
    simp only [Heap.app] at h
    split at h
    · rename_i hn
      have hlive : H.get b ≠ none := by cases hb : H.get b with
        | none => rw [hb] at hn; simp at hn
        | some _ => simp
      have hbn := get_lt hlive
      simp only [Option.some.injEq] at h
      subst h
      have hg : ∀ c, (({ H with tr := (H.tr.set (path b) none).set (path H.next) (some o), next := H.next + 1, log := noted H b } : Heap).get c) = upd (upd H.get b none) H.next (some o) c := by
        intro c
        by_cases hc : c = H.next
        · subst hc
          simp [Heap.get, upd, Tr.get_set]
        · rw [upd_ne _ _ hc]
          simp only [Heap.get, Tr.get_set]
          by_cases hlt : c < H.next
          · rw [if_pos (by omega), if_neg fun hp => hc (path_inj hp).symm]
            by_cases hcb : c = b
            · subst hcb; rw [if_pos rfl, upd_same]
            · rw [upd_ne _ _ hcb, if_neg fun hp => hcb (path_inj hp).symm]
              show _ = if c < H.next then _ else _
              rw [if_pos hlt]
          · rw [if_neg (by omega), upd_ne _ _ (by omega)]
            show _ = if c < H.next then _ else _
            rw [if_neg hlt]
      have hself : ∀ c, (Eff.swap b o).hits c → c ∈ noted H b ∨ H.floor ≤ c := fun c hc => by
        have hc : c = b := hc
        subst hc
        exact noted_self H c
      refine ⟨funext hg, rfl, ⟨Nat.le_succ _, rfl, fun _ h => noted_mem h, ?_, ?_⟩, hself⟩
      · intro c hc hw
        rw [hg c, upd_ne _ _ (by omega), upd_ne _ _ fun e => hw (by subst e; exact noted_self H c)]
      · intro c hc hl
        by_cases hcb : c = b
        · subst hcb; exact hlive
        · rw [hg c, upd_ne _ _ (by omega), upd_ne _ _ hcb] at hl; exact hl
    · cases h
theorem plain_step {P : Program} {ok : TypeId → Bool} {φ : Emb} {H H' : Heap} {w : World} {fr : Fr} {a : Act} (hok : OkTypes P ok) (hM : MRel φ H.get w) {o : Oper} (hF : Sees φ fr a o.op.operands.toList) {av : AV} {e : Eff}
    (h : plainOp P ok fr H.get H.next o = some (av, e)) (ha : H.app e = some H') (hf : Fresh φ H.next H'.next) :
    ∃ r v w' φ', (execOp a.eval o).run P w = .ok r w' ∧ (r = .value v ∨ (r = .skip ∧ v = undef)) ∧ VRel φ' av v ∧ Step φ φ' H H' w w' := by
  obtain ⟨h1, h2, _, h4⟩ := app_step ha
  have hfree : Free φ H.next e := by
    rcases Nat.lt_or_ge H.next H'.next with h5 | h5
    · exact .inr (hf _ (Nat.le_refl _) h5)
    · refine .inl ?_
      rw [← h2]
      have : H.next ≤ e.top H.next := by cases e <;> simp [Eff.top]
      omega
  obtain ⟨r, v, w', φ', k1, k2, k3, k4, k5⟩ := plain_ok hok hM hF hfree h
  refine ⟨r, v, w', φ', k1, k2, k3, ⟨by rw [h1]; exact k4, ?_⟩⟩
  exact k5.weaken (Nat.le_refl _) (by rw [h2]; exact Nat.le_refl _) fun b hb => h4 b hb
end Go.Am
end
section
namespace Go.Am.K
theorem pathAt_eq : ∀ (n k : Nat), pathAt n k = Am.pathAt n k
  | 0, 0 => rfl
  | 0, _ + 1 => rfl
  | n + 1, 0 => rfl
  | n + 1, k + 1 => by
    show Bool.rec (motive := fun _ => Pa) (.i (pathAt n (k / 2))) (.o (pathAt n (k / 2))) (Nat.beq (k % 2) 0) = _
    simp only [Am.pathAt, pathAt_eq n]
    by_cases h : k % 2 = 0
    · rw [h]; rfl
    · rw [if_neg h]
      have : Nat.beq (k % 2) 0 = false := by
        cases hb : Nat.beq (k % 2) 0 with
        | false => rfl
        | true => exact absurd (Nat.eq_of_beq_eq_true hb) h
      rw [this]
theorem path_eq (k : Nat) : path k = Am.path k := pathAt_eq k k
theorem get_eq {α : Type} : ∀ (p : Pa) (t : Tr α), get p t = t.get p := by
  intro p
  induction p with
  | z => intro t; cases t <;> rfl
  | o p ih => intro t; cases t with
    | nil => rfl
    | node l v r => exact ih l
  | i p ih => intro t; cases t with
    | nil => rfl
    | node l v r => exact ih r
theorem set_eq {α : Type} (x : Option α) : ∀ (p : Pa) (t : Tr α), set x p t = t.set p x := by
  intro p
  induction p with
  | z => intro t; cases t <;> rfl
  | o p ih => intro t; cases t with
    | nil => show Tr.node (set x p .nil) none .nil = _; rw [ih]; rfl
    | node l v r => show Tr.node (set x p l) v r = _; rw [ih]; rfl
  | i p ih => intro t; cases t with
    | nil => show Tr.node .nil none (set x p .nil) = _; rw [ih]; rfl
    | node l v r => show Tr.node l v (set x p r) = _; rw [ih]; rfl
theorem evT_eq (t : Nat) (fr : Fr) : evT (path t) fr = some (fr.at t) := by
  unfold evT Fr.at
  rw [get_eq, path_eq]
  cases fr.get (Am.path t) <;> rfl
theorem evX_eq (x : Operand) (fr : Fr) : evX (cX x) fr = ev fr x := by
  cases x with
  | tmp t => exact evT_eq t fr
  | const v => rfl
  | global g => rfl
  | func f => rfl
theorem evXs_eq : ∀ (xs : List Operand) (fr : Fr), evXs (cXs xs) fr = evs fr xs
  | [], fr => rfl
  | x :: xs, fr => by
    show bindO (consO (evXs (cXs xs) fr)) (evX (cX x) fr) = _
    rw [evXs_eq xs fr, evX_eq]
    simp only [evs]
    cases ev fr x <;> cases evs fr xs <;> rfl
theorem withX_eq (x : Operand) (fr : Fr) (k : AV → R1) : withX (cX x) fr k = (ev fr x).bind k := by
  unfold withX
  rw [evX_eq]
  cases ev fr x <;> rfl
theorem ble_true {a b : Nat} (h : a < b) : Nat.ble (Nat.succ a) b = true := Nat.ble_eq_true_of_le h
theorem ble_false {a b : Nat} (h : ¬ a < b) : Nat.ble (Nat.succ a) b = false := by
  cases hb : Nat.ble (Nat.succ a) b with
  | false => rfl
  | true => exact absurd (Nat.le_of_ble_eq_true hb) h
theorem hget_eq (H : Heap) (b : Nat) : hget H b = H.get b := by
  unfold Heap.get
  show Bool.rec (motive := fun _ => Option AObj) none (get (path b) H.tr) (Nat.ble (Nat.succ b) H.next) = _
  by_cases h : b < H.next
  · rw [if_pos h, ble_true h, get_eq, path_eq]
  · rw [if_neg h, ble_false h]
theorem forceN_eq {β : Type} (k : Nat → β) (n : Nat) : forceN k n = k n := by cases n <;> rfl
theorem putK_eq (nt : Nat) (dst : Option Tmp) (v : AV) (fr : Fr) (H : Heap) (k : Kont) : putK (cD nt dst) v fr H k = (putAt nt fr dst v).bind fun fr' => k fr' H := by
  cases dst with
  | none => rfl
  | some d =>
    show putK (Bool.rec (motive := fun _ => KD) .bad (.d (path d)) (Nat.ble (Nat.succ d) nt)) v fr H k = (if d < nt then some (Tr.set fr (Am.path d) (some v)) else none).bind fun fr' => k fr' H
    by_cases h : d < nt
    · rw [if_pos h, ble_true h]
      show k (set (some v) (path d) fr) H = _
      rw [set_eq, path_eq]; rfl
    · rw [if_neg h, ble_false h]; rfl
section
variable {P : Program} {ok : TypeId → Bool} {call : Doors} {nt : Nat} {fr : Fr} {H : Heap} {k : Kont}
def fin (nt : Nat) (dst : Option Tmp) (fr : Fr) (k : Kont) (r : AV × Heap) : R1 := (putAt nt fr dst r.1).bind fun fr' => k fr' r.2
theorem outK_eq (dst : Option Tmp) (r : OutH) : outK (cD nt dst) fr k r = r.bind (fin nt dst fr k) := by
  cases r with
  | none => rfl
  | some r => obtain ⟨v, H⟩ := r; exact putK_eq nt dst v fr H k
theorem put_fin (dst : Option Tmp) (v : AV) : putK (cD nt dst) v fr H k = fin nt dst fr k (v, H) := putK_eq nt dst v fr H k
theorem gen_eq (o : Oper) : opK P ok call (.gen o) (cD nt o.dst) fr H k = (runOp P ok call fr H o).bind (fin nt o.dst fr k) := outK_eq _ _
theorem keep_run {o : Oper} {x : Option AV} (hc : ∀ c, o.op ≠ .call c) (h : plainOp P ok fr H.get H.next o = x.map (·, .keep)) : runOp P ok call fr H o = x.map (·, H) := by
  unfold runOp
  split
  · rename_i f args ats hop; exact absurd hop (hc _)
  · rw [h]; cases x <;> rfl
theorem mv_eq (x : Operand) (dst : Option Tmp) : kMv (cX x) (cD nt dst) fr H k = ((ev fr x).map (·, H)).bind (fin nt dst fr k) := by
  unfold kMv
  rw [withX_eq]
  cases ev fr x with
  | none => rfl
  | some v => exact put_fin dst v
theorem boolK_eq (t e : R1) (v : AV) : boolK t e v = match v with | .bool true => t | .bool false => e | _ => none := by
  cases v <;> try rfl
  rename_i b; cases b <;> rfl
theorem nth_eq : ∀ (cs : List AV) (o : Nat), nth cs o = cs[o]?
  | [], o => by simp [nth]
  | a :: cs, 0 => rfl
  | a :: cs, o + 1 => by show nth cs o = _; rw [nth_eq cs o]; simp
theorem dropX_eq : ∀ (cs : List AV) (o : Nat), dropX cs o = if o ≤ cs.length then some (cs.drop o) else none
  | [], 0 => rfl
  | [], o + 1 => rfl
  | a :: cs, 0 => rfl
  | a :: cs, o + 1 => by
    show dropX cs o = _
    rw [dropX_eq cs o]
    simp
theorem takeX_eq : ∀ (n : Nat) (cs : List AV), takeX n cs = if n ≤ cs.length then some (cs.take n) else none
  | 0, cs => by rw [if_pos (Nat.zero_le _)]; rfl
  | n + 1, [] => rfl
  | n + 1, a :: cs => by
    show consO (takeX n cs) a = _
    rw [takeX_eq n cs]
    by_cases h : n ≤ cs.length
    · rw [if_pos h, if_pos (by simpa using h)]; rfl
    · rw [if_neg h, if_neg (by simpa using h)]; rfl
theorem cellsK_eq (b : Nat) (f : List AV → R1) : cellsK H b f = (H.get.cellsOf b).bind f := by
  unfold cellsK Get.cellsOf
  rw [hget_eq]
  cases H.get b with
  | none => rfl
  | some o => cases o <;> rfl
theorem read_one (b o : Nat) : (H.get.read b o 1).bind (·.head?) = (H.get.cellsOf b).bind fun cs => cs[o]? := by
  unfold Get.read
  cases H.get.cellsOf b with
  | none => rfl
  | some cs =>
    simp only [Option.bind_some]
    by_cases h : o + 1 ≤ cs.length
    · rw [if_pos h]
      simp only [Option.bind_some]
      rw [List.head?_take]
      simp
    · rw [if_neg h, List.getElem?_eq_none (by omega)]; rfl
theorem read_eq (b o n : Nat) : H.get.read b o n = (H.get.cellsOf b).bind fun cs => (dropX cs o).bind (takeX n) := by
  unfold Get.read
  cases H.get.cellsOf b with
  | none => rfl
  | some cs =>
    simp only [Option.bind_some]
    rw [dropX_eq]
    by_cases h : o ≤ cs.length
    · rw [if_pos h]
      simp only [Option.bind_some]
      rw [takeX_eq]
      by_cases h2 : o + n ≤ cs.length
      · rw [if_pos h2, if_pos (by simp; omega)]
      · rw [if_neg h2, if_neg (by simp; omega)]
    · rw [if_neg h, if_neg (by omega)]; rfl
theorem ld_eq (o : Oper) (t : TypeId) (x : Operand) (ho : o.op = .load t x) : opK P ok call (cLoad P o t x) (cD nt o.dst) fr H k = (runOp P ok call fr H o).bind (fin nt o.dst fr k) := by
  unfold cLoad isAgg
  cases hg : tagg P t with
  | none => exact gen_eq o
  | some ag =>
    cases hs : tsize P t with
    | none => cases ag <;> exact gen_eq o
    | some n =>
      rw [keep_run (x := (ev fr x).bind (load P H.get t)) (by rw [ho]; simp) (by
        unfold plainOp
        rw [ho]
        simp only
        cases ev fr x <;> rfl)]
      cases ag with
      | true =>
        show kLdn n (cX x) (cD nt o.dst) fr H k = _
        unfold kLdn
        rw [withX_eq]
        cases ev fr x with
        | none => rfl
        | some v =>
          cases v <;> try rfl
          rename_i b off
          simp only [Option.bind_some]
          show cellsK H b _ = _
          rw [cellsK_eq]
          simp only [load, hg, hs, read_eq]
          cases H.get.cellsOf b with
          | none => rfl
          | some cs =>
            simp only [Option.bind_some]
            cases dropX cs off with
            | none => rfl
            | some l =>
              simp only [Option.bind_some]
              cases takeX n l with
              | none => rfl
              | some l => exact put_fin _ _
      | false =>
        show kLd (cX x) (cD nt o.dst) fr H k = _
        unfold kLd
        rw [withX_eq]
        cases ev fr x with
        | none => rfl
        | some v =>
          cases v <;> try rfl
          rename_i b off
          simp only [Option.bind_some]
          show cellsK H b _ = _
          rw [cellsK_eq]
          simp only [load, hg, hs, read_one]
          cases H.get.cellsOf b with
          | none => rfl
          | some cs =>
            simp only [Option.bind_some]
            rw [nth_eq]
            cases cs[off]? with
            | none => rfl
            | some v => exact put_fin _ _
theorem fa_eq (o : Oper) (t : TypeId) (x : Operand) (f : Nat) (ho : o.op = .fieldAddr t x f) : opK P ok call (cField P o t x f) (cD nt o.dst) fr H k = (runOp P ok call fr H o).bind (fin nt o.dst fr k) := by
  unfold cField
  cases hf : foff P t f with
  | none => exact gen_eq o
  | some n =>
    simp only [forceN_eq]
    rw [keep_run (x := (ev fr x).bind (fieldAddr P t · f)) (by rw [ho]; simp) (by unfold plainOp; rw [ho])]
    show kFa n (cX x) (cD nt o.dst) fr H k = _
    unfold kFa
    rw [withX_eq]
    cases ev fr x with
    | none => rfl
    | some v =>
      unfold foff at hf
      split at hf <;> try cases hf
      rename_i fs hu
      split at hf <;> try cases hf
      rename_i fl hfl
      split at hf <;> try cases hf
      rename_i sz hsz
      cases v <;> simp only [Option.bind_some, fieldAddr, hu, Option.map_none, Option.bind_none] <;> try rfl
      rename_i b off
      simp only [hfl, hsz]
      have h1 : forceN (fun n => putK (cD nt o.dst) (.ptr b n) fr H k) (Nat.add off fl.offset) = _ := forceN_eq _ _
      have h2 := put_fin (nt := nt) (fr := fr) (H := H) (k := k) o.dst (.ptr b (off + fl.offset))
      exact h1.trans h2
theorem pick_eq (o : Oper) (c a b : Operand) (ho : o.op = .pick c a b) : kPick (cX c) (cX a) (cX b) (cD nt o.dst) fr H k = (runOp P ok call fr H o).bind (fin nt o.dst fr k) := by
  rw [keep_run (x := (ev fr c).bind fun v => match v with | .bool true => ev fr a | .bool false => ev fr b | _ => none) (by rw [ho]; simp) (by
    unfold plainOp
    rw [ho]
    simp only
    cases ev fr c with
    | none => rfl
    | some v =>
      cases v <;> try rfl
      rename_i t; cases t <;> rfl)]
  unfold kPick
  rw [withX_eq]
  cases ev fr c with
  | none => rfl
  | some v =>
    simp only [Option.bind_some]
    rw [boolK_eq]
    cases v <;> try rfl
    rename_i t
    cases t
    · exact mv_eq b o.dst
    · exact mv_eq a o.dst
theorem move_eq (o : Oper) (x : Operand) (ho : o.op = .move x ∨ o.op = .assign x) : kMv (cX x) (cD nt o.dst) fr H k = (runOp P ok call fr H o).bind (fin nt o.dst fr k) := by
  rw [mv_eq, keep_run (x := ev fr x) (by rcases ho with ho | ho <;> rw [ho] <;> simp) (by unfold plainOp; rcases ho with ho | ho <;> rw [ho])]
theorem call_eq (o : Oper) (c : Call) (f : Operand) (ho : o.op = .call c) (hf : c.callee = .value f) : kCall call (cX f) (cXs c.args.toList) (cD nt o.dst) fr H k = (runOp P ok call fr H o).bind (fin nt o.dst fr k) := by
  obtain ⟨callee, args, ats⟩ := c
  simp only at hf
  subst hf
  unfold kCall runOp
  rw [withX_eq, ho]
  simp only
  cases ev fr f with
  | none => rfl
  | some fv =>
    simp only [Option.bind_some]
    rw [evXs_eq]
    cases evs fr args.toList with
    | none => cases fv <;> rfl
    | some vs =>
      show outK _ _ _ _ = _
      rw [outK_eq]
      cases fv <;> rfl
theorem beq_true {a b : Nat} (h : a = b) : Nat.beq a b = true := by subst h; exact Nat.beq_refl a
theorem beq_false {a b : Nat} (h : ¬ a = b) : Nat.beq a b = false := by
  cases hb : Nat.beq a b with
  | false => rfl
  | true => exact absurd (Nat.eq_of_beq_eq_true hb) h
theorem iaK_eq (es : Nat) (dst : Option Tmp) (i b o len es' : Nat) : iaK es (cD nt dst) fr H k i b o len es' = if es = es' ∧ i < len then fin nt dst fr k (.ptr b (o + i * es'), H) else none := by
  unfold iaK
  by_cases h : es = es'
  · rw [beq_true h]
    by_cases h2 : i < len
    · rw [ble_true h2, if_pos ⟨h, h2⟩]
      have h1 : forceN (fun n => putK (cD nt dst) (.ptr b n) fr H k) (Nat.add o (Nat.mul i es')) = _ := forceN_eq _ _
      exact h1.trans (put_fin (nt := nt) (fr := fr) (H := H) (k := k) dst (.ptr b (o + i * es')))
    · rw [ble_false h2, if_neg fun h => h2 h.2]
  · rw [beq_false h, if_neg fun h' => h h'.1]
theorem ia_eq (o : Oper) (t : TypeId) (x i : Operand) (ho : o.op = .indexAddr t x i) : opK P ok call (cIndex P o t x i) (cD nt o.dst) fr H k = (runOp P ok call fr H o).bind (fin nt o.dst fr k) := by
  unfold cIndex
  cases hf : (telem P t).bind (tsize P) with
  | none => exact gen_eq o
  | some n =>
    simp only [forceN_eq]
    rw [keep_run (x := (ev fr x).bind fun v => (ev fr i).bind fun j => indexAddr P t v j) (by rw [ho]; simp) (by
      unfold plainOp; rw [ho]; simp only
      cases ev fr x with
      | none => rfl
      | some v => cases ev fr i <;> rfl)]
    show kIa n (cX x) (cX i) (cD nt o.dst) fr H k = _
    unfold kIa
    rw [withX_eq]
    cases ev fr x with
    | none => rfl
    | some v =>
      cases v <;> try (simp only [Option.bind_some]; cases ev fr i <;> rfl)
      rename_i b off len cap es
      simp only [Option.bind_some]
      show withX (cX i) fr _ = _
      rw [withX_eq]
      cases ev fr i with
      | none => rfl
      | some j =>
        simp only [Option.bind_some]
        cases j <;> try rfl
        rename_i kk m
        cases m with
        | ofNat m =>
          show iaK n (cD nt o.dst) fr H k m b off len es = _
          rw [iaK_eq]
          simp only [Option.bind_eq_some_iff] at hf
          obtain ⟨e, he, hs⟩ := hf
          simp only [indexAddr, he, hs]
          by_cases hc : n = es ∧ m < len
          · rw [if_pos hc, if_pos (by simp [hc.1]; exact hc.2)]; rfl
          · rw [if_neg hc, if_neg (by
              simp only [Bool.and_eq_true, decide_eq_true_eq, Option.some.injEq]
              rintro ⟨⟨h1, _⟩, h2⟩
              exact hc ⟨h1, by simpa using h2⟩)]
            rfl
        | negSucc m =>
          show none = _
          unfold indexAddr
          simp only
          cases telem P t with
          | none => rfl
          | some e =>
            simp only
            rw [if_neg (by
              simp only [Bool.and_eq_true, decide_eq_true_eq]
              rintro ⟨⟨_, h1⟩, _⟩
              exact absurd h1 (by omega))]
            rfl
theorem putOpt_eq (dst : Option Tmp) (v : Option AV) : putOpt v (cD nt dst) fr H k = (v.map (·, H)).bind (fin nt dst fr k) := by
  cases v with
  | none => rfl
  | some v => exact put_fin _ _
theorem putB_eq (dst : Option Tmp) (b : Bool) : putB b (cD nt dst) fr H k = fin nt dst fr k (.bool b, H) := by
  cases b <;> exact put_fin _ _
theorem kix_inj {j j' : IntKind} (h : kix j = kix j') : j = j' := by
  cases j <;> cases j' <;> first | rfl | exact absurd h (by decide)
theorem twoN_eq (f : IntKind → Nat → Nat → R1) (z : R1) (a b : AV) (h : ∀ j m n, a = .int j (.ofNat m) → b = .int j (.ofNat n) → f j m n = z) : twoN f z a b = z := by
  cases a <;> try rfl
  rename_i j x
  cases x <;> try rfl
  rename_i m
  cases b <;> try rfl
  rename_i j' y
  cases y <;> try rfl
  rename_i n
  show Bool.rec (motive := fun _ => R1) z (f j m n) (Nat.beq (kix j) (kix j')) = z
  by_cases hk : kix j = kix j'
  · rw [beq_true hk]
    have := kix_inj hk
    subst this
    exact h j m n rfl rfl
  · rw [beq_false hk]
theorem bin_run (o : Oper) (op : BinOp) (t ty : TypeId) (x y : Operand) (ho : o.op = .binOp op t x y ty) (hn : ∀ a b, ev fr x = some a → ev fr y = some b → (a.isNilIface && !isConst x && !isConst y) = false ∨ binOp P ok op t a b = none) :
    runOp P ok call fr H o = ((ev fr x).bind fun a => (ev fr y).bind fun b => binOp P ok op t a b).map (·, H) := by
  refine keep_run (by rw [ho]; simp) ?_
  unfold plainOp
  rw [ho]
  simp only
  cases hx : ev fr x with
  | none => rfl
  | some a =>
    cases hy : ev fr y with
    | none => rfl
    | some b =>
      simp only [Option.bind_some]
      rcases hn a b hx hy with h | h
      · rw [h]; rfl
      · rw [h]
        split <;> rfl
theorem lss_eq (o : Oper) (t ty : TypeId) (x y : Operand) (ho : o.op = .binOp .lss t x y ty) : kLss P ok t (cX x) (cX y) (cD nt o.dst) fr H k = (runOp P ok call fr H o).bind (fin nt o.dst fr k) := by
  rw [bin_run o .lss t ty x y ho (fun a b _ _ => by
    by_cases h : a.isNilIface = true
    · right; cases a <;> simp [AV.isNilIface] at h; cases b <;> rfl
    · left; simp [h])]
  unfold kLss
  rw [withX_eq]
  cases ev fr x with
  | none => rfl
  | some a =>
    simp only [Option.bind_some]
    rw [withX_eq]
    cases ev fr y with
    | none => rfl
    | some b =>
      simp only [Option.bind_some]
      rw [twoN_eq, putOpt_eq]
      rintro j m n rfl rfl
      rw [putB_eq, putOpt_eq]
      simp only [binOp, cmpInt, ne_eq, not_true_eq_false, if_false, Option.map_some, Option.bind_some]
      congr 2
      by_cases h : m < n
      · rw [ble_true h]; simp; exact h
      · rw [ble_false h]; simp; omega
theorem add_eq (o : Oper) (t ty : TypeId) (x y : Operand) (ho : o.op = .binOp .add t x y ty) : kAdd P ok t (cX x) (cX y) (cD nt o.dst) fr H k = (runOp P ok call fr H o).bind (fin nt o.dst fr k) := by
  rw [bin_run o .add t ty x y ho (fun a b _ _ => by
    by_cases h : a.isNilIface = true
    · right; cases a <;> simp [AV.isNilIface] at h; cases b <;> rfl
    · left; simp [h])]
  unfold kAdd
  rw [withX_eq]
  cases ev fr x with
  | none => rfl
  | some a =>
    simp only [Option.bind_some]
    rw [withX_eq]
    cases ev fr y with
    | none => rfl
    | some b =>
      simp only [Option.bind_some]
      rw [twoN_eq, putOpt_eq]
      rintro j m n rfl rfl
      by_cases hk : kix j = 3
      · rw [beq_true hk]
        have hj : j = .i64 := kix_inj hk
        subst hj
        show add64 _ m n _ _ _ _ = _
        unfold add64
        cases hb : Nat.ble (Nat.add m n) 9223372036854775807 with
        | false => rfl
        | true =>
          have h1 : forceN (fun n => putK (cD nt o.dst) (.int .i64 (.ofNat n)) fr H k) (Nat.add m n) = _ := forceN_eq _ _
          refine h1.trans ?_
          rw [put_fin, putOpt_eq]
          have hle : m + n ≤ 9223372036854775807 := Nat.le_of_ble_eq_true hb
          have hw : IntKind.i64.wrap (Int.ofNat m + Int.ofNat n) = Int.ofNat (m + n) := by
            have hm : (Int.ofNat m + Int.ofNat n) % (18446744073709551616 : Int) = Int.ofNat (m + n) := by
              simp only [Int.ofNat_eq_natCast]; omega
            unfold IntKind.wrap
            show (if (true && decide ((Int.ofNat m + Int.ofNat n) % (18446744073709551616 : Int) ≥ (9223372036854775808 : Int))) = true then _ else (Int.ofNat m + Int.ofNat n) % (18446744073709551616 : Int)) = _
            rw [hm, if_neg]
            simp only [Int.ofNat_eq_natCast, Bool.true_and, decide_eq_true_eq]
            omega
          simp only [binOp, arith, ne_eq, not_true_eq_false, if_false, Option.map_some, Option.bind_some, hw]
          rfl
      · rw [beq_false hk]
theorem bitsOf_eq (b : UInt8) : bitsOf b = b.toNat := rfl
theorem eqB_eq : ∀ (xs ys : List UInt8), eqB xs ys = (xs == ys)
  | [], [] => rfl
  | [], _ :: _ => rfl
  | _ :: _, [] => rfl
  | x :: xs, y :: ys => by
    show Bool.rec (motive := fun _ => Bool) false (eqB xs ys) (Nat.beq (bitsOf x) (bitsOf y)) = _
    rw [eqB_eq xs ys, bitsOf_eq, bitsOf_eq]
    by_cases h : x = y
    · subst h
      rw [beq_true rfl]
      simp
    · rw [beq_false fun e => h (UInt8.toNat_inj.1 e)]
      simp [h]
theorem eql_eq (o : Oper) (t ty : TypeId) (x y : Operand) (ho : o.op = .binOp .eql t x y ty) (hc : (!isConst x && !isConst y) = false) : kEql P ok t (cX x) (cX y) (cD nt o.dst) fr H k = (runOp P ok call fr H o).bind (fin nt o.dst fr k) := by
  rw [bin_run o .eql t ty x y ho (fun a b _ _ => by
    left
    rw [Bool.and_assoc, hc]; simp)]
  unfold kEql
  rw [withX_eq]
  cases ev fr x with
  | none => rfl
  | some a =>
    simp only [Option.bind_some]
    rw [withX_eq]
    cases ev fr y with
    | none => rfl
    | some b =>
      simp only [Option.bind_some]
      have num : twoN (fun _ m n => putB (Nat.beq m n) (cD nt o.dst) fr H k) (putOpt (binOp P ok .eql t a b) (cD nt o.dst) fr H k) a b = ((binOp P ok .eql t a b).map (·, H)).bind (fin nt o.dst fr k) := by
        rw [twoN_eq, putOpt_eq]
        rintro j m n rfl rfl
        rw [putB_eq, putOpt_eq]
        simp only [binOp, cmpInt, ne_eq, not_true_eq_false, if_false, Option.map_some, Option.bind_some]
        congr 2
        by_cases h : m = n
        · rw [beq_true h]; simp [h]
        · rw [beq_false h]; simp; omega
      cases a <;> try exact num
      rename_i s
      have other : ∀ b', (∀ u, b' ≠ .str u) → eqIn P ok eqFuel t (.str s) b' = none := by
        intro b' hb'
        cases b' <;> first
          | exact absurd rfl (hb' _)
          | (unfold eqFuel eqIn; rcases P.underlying t with _ | d <;> (try cases d) <;> rfl)
      cases b <;> try (simp only [binOp]; rw [other _ (by intro u h; cases h)]; rfl)
      rename_i u
      show putB (eqB s u) (cD nt o.dst) fr H k = _
      rw [putB_eq, eqB_eq]
      rfl
theorem len_eq (o : Oper) (c : Call) (ho : o.op = .call c) (hb : c.callee = .builtin .len) : opK P ok call (cLen P o c.argTypes[0]? c.args.toList) (cD nt o.dst) fr H k = (runOp P ok call fr H o).bind (fin nt o.dst fr k) := by
  unfold cLen
  split
  · rename_i x e hxs ht
    obtain ⟨callee, args, ats⟩ := c
    simp only at hb hxs ht
    subst hb
    cases ha : ats[0]? with
    | none => rw [ha] at ht; cases ht
    | some t =>
      rw [ha] at ht
      simp only [Option.bind_some] at ht
      have hrun : runOp P ok call fr H o = ((ev fr x).bind fun v => (lenOf P H.get t v).map fun n => AV.int .i64 (Int.ofNat n)).map (·, H) := by
        unfold runOp
        rw [ho]
        simp only [plainOp, ho, hxs, evs]
        cases ev fr x with
        | none => rfl
        | some v =>
          simp only [builtin, ha, Option.bind_some]
          cases lenOf P H.get t v <;> rfl
      rw [hrun]
      show kLen (cX x) (cD nt o.dst) fr H k = _
      unfold kLen
      rw [withX_eq]
      cases ev fr x with
      | none => rfl
      | some v =>
        simp only [Option.bind_some]
        cases v <;> simp only [lenV, lenOf, ht] <;> first | rfl | exact put_fin _ _
  · exact gen_eq o
theorem opK_eq (o : Oper) : opK P ok call (cOp P o) (cD nt o.dst) fr H k = (runOp P ok call fr H o).bind (fin nt o.dst fr k) := by
  unfold cOp
  split
  · rename_i x h; exact move_eq o x (.inl h)
  · rename_i x h; exact move_eq o x (.inr h)
  · rename_i c a b h; exact pick_eq o c a b h
  · rename_i t x h; exact ld_eq o t x h
  · rename_i t x f h; exact fa_eq o t x f h
  · rename_i t x i h; exact ia_eq o t x i h
  · rename_i op t x y ty h
    unfold cBin
    split
    · exact lss_eq o t ty x y h
    · split
      · exact gen_eq o
      · rename_i hc
        exact eql_eq o t ty x y h (by simpa using hc)
    · exact add_eq o t ty x y h
    · exact gen_eq o
  · rename_i c h
    unfold cCall
    split
    · rename_i f hf; exact call_eq o c f h hf
    · rename_i hb; exact len_eq o c h hb
    · exact gen_eq o
  · exact gen_eq o
theorem gK_eq (ops : Array Oper) (o : Oper) (t e : R1) : gK (cG ops o) fr t e = if wanted ops fr o then t else e := by
  unfold cG wanted
  cases o.guard with
  | none => rfl
  | some jw =>
    obtain ⟨j, w⟩ := jw
    rcases hd : (ops[j]?).bind (·.dst) with _ | d
    · simp only [hd]; rfl
    · simp only [hd]
      show gP (path d) w fr t e = _
      unfold gP Fr.at
      rw [get_eq, path_eq]
      cases Tr.get fr (Am.path d) with
      | none => rfl
      | some v =>
        show gV w t e v = _
        simp only [Option.getD_some]
        cases v <;> try rfl
        rename_i b
        cases b <;> cases w <;> rfl
theorem stepK_eq (ops : Array Oper) (o : Oper) : stepK P ok call (cS P nt ops o) k fr H = (stepOp P ok call nt ops fr H o).bind fun r => k r.1 r.2 := by
  show gK (cG ops o) fr (opK P ok call (cOp P o) (cD nt o.dst) fr H k) (putK (cD nt o.dst) .undef fr H k) = _
  rw [gK_eq]
  unfold stepOp
  by_cases hw : wanted ops fr o = true
  · rw [if_pos hw, if_pos hw, opK_eq]
    cases runOp P ok call fr H o with
    | none => rfl
    | some r =>
      obtain ⟨v, H'⟩ := r
      simp only [Option.bind_some, fin]
      cases putAt nt fr o.dst v <;> rfl
  · rw [if_neg hw, if_neg hw, put_fin]
    unfold fin
    cases putAt nt fr o.dst .undef <;> rfl
theorem stepsK_eq (ops : Array Oper) : ∀ (os : List Oper) (fr : Fr) (H : Heap), stepsK P ok call (cSs P nt ops os) fr H = runOps P ok call nt ops os fr H
  | [], fr, H => rfl
  | o :: os, fr, H => by
    show stepK P ok call (cS P nt ops o) (stepsK P ok call (cSs P nt ops os)) fr H = _
    rw [stepK_eq]
    simp only [runOps]
    cases stepOp P ok call nt ops fr H o with
    | none => rfl
    | some r => exact stepsK_eq ops os r.1 r.2
theorem args_eq (nt : Nat) : ∀ (xs : List AV) (i : Nat) (fr : Fr), argsK nt xs i fr = Am.args nt i xs fr
  | [], i, fr => rfl
  | v :: vs, i, fr => by
    show Bool.rec (motive := fun _ => Option Fr) none (argsK nt vs (Nat.succ i) (set (some v) (path i) fr)) (Nat.ble (Nat.succ i) nt) = _
    simp only [Am.args]
    by_cases h : i < nt
    · rw [if_pos h, ble_true h, args_eq nt vs, set_eq, path_eq]
    · rw [if_neg h, ble_false h]
theorem hgetf : hget H = H.get := funext fun b => hget_eq H b
theorem res_eq : ∀ (rs : List ResultVar), resK P H fr rs = Am.results P H fr rs
  | [] => rfl
  | r :: rs => by
    show bindO (consO (resK P H fr rs)) (resOne P H fr r) = _
    rw [res_eq rs]
    cases r with
    | tmp t =>
      simp only [Am.results, resOne, evT_eq]
      cases Am.results P H fr rs <;> rfl
    | cell a t =>
      simp only [Am.results, resOne, evT_eq]
      show bindO _ (load P (hget H) t (fr.at a)) = _
      rw [hgetf]
      cases load P H.get t (fr.at a) <;> cases Am.results P H fr rs <;> rfl
variable {fs : Nat → Option Func} {prims : Prims}
theorem seqK_eq (f : Fr → Heap → Res) (r : Res) : seqK f r = match r with | .done .normal fr H => f fr H | r => r := by
  cases r with
  | fail => rfl
  | done e fr H => cases e <;> rfl
theorem blockK_eq (id : Nat) (r : Res) : blockK id r = match r with | .done (.exit id') fr' H' => if id' = id then .done .normal fr' H' else .done (.exit id') fr' H' | r => r := by
  cases r with
  | fail => rfl
  | done e fr H =>
    cases e with
    | normal => rfl
    | ret => rfl
    | exit id' =>
      show Bool.rec (motive := fun _ => Res) (.done (.exit id') fr H) (.done .normal fr H) (Nat.beq id' id) = _
      by_cases h : id' = id
      · rw [beq_true h]; simp only; rw [if_pos h]
      · rw [beq_false h]; simp only; rw [if_neg h]
theorem condK_eq (a b : Res) (v : AV) : condK a b v = match v with | .bool true => a | .bool false => b | _ => .fail := by
  cases v <;> try rfl
  rename_i t; cases t <;> rfl
theorem callAt_eq (hfs : ∀ f, fs f = P.funcs[f]?) (hn : ∀ (f : Nat) (fn : Func), P.funcs[f]? = some fn → (fn.name == "runtime.NumGoroutine") = false) {ex : X} {ex' : Nat → Code → Fr → Heap → Res} (he : ∀ nt c fr H, ex none nt (comp P nt c) fr H = ex' nt c fr H) :
    callAt P fs prims ex = Am.callAt P prims ex' := by
  funext f xs H
  unfold callAt Am.callAt
  cases prims f with
  | some g => rfl
  | none =>
    show bindO (enterF P ex xs H) (fs f) = enter P ex' f xs H
    rw [hfs]
    unfold enter
    cases hf : P.funcs[f]? with
    | none => rfl
    | some fn =>
      show bindO (enterB P ex fn xs H) fn.body = _
      simp only
      cases fn.body with
      | none => rfl
      | some c =>
        simp only [hn f fn hf, Bool.false_eq_true, if_false]
        show bindO _ (argsK fn.ntmps xs 0 .nil) = _
        rw [args_eq]
        cases Am.args fn.ntmps 0 xs .nil with
        | none => rfl
        | some fr =>
          show leave P fn.results.toList (ex none fn.ntmps (comp P fn.ntmps c) fr H) = _
          rw [he]
          simp only
          cases ex' fn.ntmps c fr H with
          | fail => rfl
          | done e fr' H' =>
            cases e with
            | exit id => rfl
            | normal =>
              show bindO (one H') (resK P H' fr' fn.results.toList) = _
              rw [res_eq]
              simp only
              rcases Am.results P H' fr' fn.results.toList with _ | vs
              · rfl
              · rcases vs with _ | ⟨v, _ | ⟨u, vs⟩⟩ <;> rfl
            | ret =>
              show bindO (one H') (resK P H' fr' fn.results.toList) = _
              rw [res_eq]
              simp only
              rcases Am.results P H' fr' fn.results.toList with _ | vs
              · rfl
              · rcases vs with _ | ⟨v, _ | ⟨u, vs⟩⟩ <;> rfl
theorem exec_eq (hfs : ∀ f, fs f = P.funcs[f]?) (hn : ∀ (f : Nat) (fn : Func), P.funcs[f]? = some fn → (fn.name == "runtime.NumGoroutine") = false) :
    ∀ (n : Nat) (ro : Option Nat) (nt : Nat) (c : Code) (fr : Fr) (H : Heap), exec P ok fs prims n ro nt (comp P nt c) fr H = Am.exec P ok prims n ro nt c fr H
  | 0, ro, nt, c, fr, H => by rw [Am.exec]; rfl
  | n + 1, ro, nt, c, fr, H => by
    have ih := exec_eq hfs hn n
    have hcall : callAt P fs prims (exec P ok fs prims n) = Am.callAt P prims (Am.exec P ok prims n none) := callAt_eq hfs hn (ih none)
    have hcode : asCode P (exec P ok fs prims n) = Am.exec P ok prims n := by
      funext ro nt c fr H; exact ih ro nt c fr H
    show code P ok fs prims (comp P nt c) (exec P ok fs prims n) ro nt fr H = _
    cases c with
    | skip => simp only [Am.exec]; rfl
    | label l => simp only [Am.exec]; rfl
    | exit id => simp only [Am.exec]; rfl
    | ret => simp only [Am.exec]; rfl
    | scope c => simp only [Am.exec]; rfl
    | goto l => simp only [Am.exec]; rfl
    | refuse w => simp only [Am.exec]; rfl
    | region id ops draw =>
      simp only [Am.exec]
      cases draw with
      | true =>
        show Am.region P ok ⟨callAt P fs prims (exec P ok fs prims n), Am.round (asCode P (exec P ok fs prims n))⟩ nt ops true fr H = _
        rw [hcall, hcode]
      | false =>
        show regRes (stepsK P ok ⟨callAt P fs prims (exec P ok fs prims n), Am.round (asCode P (exec P ok fs prims n))⟩ (cSs P nt ops ops.toList) fr H) = _
        rw [hcall, hcode, stepsK_eq]
        unfold Am.region
        simp only [Bool.false_eq_true, if_false]
        cases runOps P ok ⟨Am.callAt P prims (Am.exec P ok prims n none), Am.round (Am.exec P ok prims n)⟩ nt ops ops.toList fr H <;> rfl
    | rangeFunc g ps a b =>
      simp only [Am.exec]
      show overFunc (callAt P fs prims (exec P ok fs prims n)) ro nt g ps a b fr H = _
      rw [hcall]
    | seq a b =>
      simp only [Am.exec]
      show seqK (exec P ok fs prims n ro nt (comp P nt b)) (exec P ok fs prims n ro nt (comp P nt a) fr H) = _
      rw [seqK_eq, ih]
      cases Am.exec P ok prims n ro nt a fr H with
      | fail => rfl
      | done e fr' H' =>
        cases e with
        | normal => exact ih ro nt b fr' H'
        | exit id => rfl
        | ret => rfl
    | cond x a b =>
      simp only [Am.exec]
      show orFail (condK (exec P ok fs prims n ro nt (comp P nt a) fr H) (exec P ok fs prims n ro nt (comp P nt b) fr H)) (evX (cX x) fr) = _
      rw [ih, ih, evX_eq]
      cases ev fr x with
      | none => rfl
      | some v =>
        show condK _ _ v = _
        rw [condK_eq]
        cases v <;> try rfl
        rename_i t; cases t <;> rfl
    | block id c =>
      simp only [Am.exec]
      show blockK id (exec P ok fs prims n ro nt (comp P nt c) fr H) = _
      rw [blockK_eq, ih]
      rcases Am.exec P ok prims n ro nt c fr H with _ | ⟨_ | _ | _, _, _⟩ <;> rfl
    | loop c =>
      simp only [Am.exec]
      show seqK (exec P ok fs prims n ro nt (comp P nt (.loop c))) (exec P ok fs prims n ro nt (comp P nt c) fr H) = _
      rw [seqK_eq, ih]
      cases Am.exec P ok prims n ro nt c fr H with
      | fail => rfl
      | done e fr' H' =>
        cases e with
        | normal => exact ih ro nt (.loop c) fr' H'
        | exit id => rfl
        | ret => rfl
theorem call_eq_am (hfs : ∀ f, fs f = P.funcs[f]?) (hn : ∀ (f : Nat) (fn : Func), P.funcs[f]? = some fn → (fn.name == "runtime.NumGoroutine") = false) (n : Nat) : K.call P ok fs prims n = Am.call P ok prims n :=
  callAt_eq hfs hn (exec_eq hfs hn n none)
end
end Go.Am.K
end
section
namespace Go.Am
def Enters (P : Program) (f : FuncId) : Prop := ∃ fn c, P.funcs[f]? = some fn ∧ fn.body = some c ∧ (fn.name == "runtime.NumGoroutine") = false
def CallOk (P : Program) (cf : CallF) : Prop :=
  ∀ f xs H av H', cf f xs H = some (av, H') → Enters P f ∧ AStep H H' ∧ ∀ (φ : Emb) (w : World) (vs : List Value), MRel φ H.get w → VRels φ xs vs → Fresh φ H.next H'.next →
    Calls P f vs.toArray w fun e w' => ∃ v φ', e = .returned v ∧ VRel φ' av v ∧ Step φ φ' H H' w w'
def fence (ro : Option Nat) : Fence := { Fence.wide with round := ro }
def RoundOk (P : Program) (rf : Nat → List AV → Heap → OutH) : Prop :=
  ∀ l xs H av H', rf l xs H = some (av, H') → AStep H H' ∧ ∀ (φ : Emb) (w : World) (vs : List Value) (e : Spot), MRel φ H.get w → VRels φ xs vs → φ l = some e → Fresh φ H.next H'.next →
    ∃ fn tmps assign body, (Instr.yield e.blk vs.toArray).run P w = .ok (.round e.blk fn tmps assign body) w ∧
      RoundIn Fence.wide 0 P e.blk fn tmps assign body w fun e w' => ∃ v φ', e = .returned v ∧ VRel φ' av v ∧ Step φ φ' H H' w w'
structure DoorsOk (P : Program) (d : Doors) : Prop where
  call : CallOk P d.call
  round : RoundOk P d.round
section
variable {P : Program} {ok : TypeId → Bool} {cf : Doors}
theorem plain_calm {fr : Fr} {g : Get} {nx : Nat} {o : Oper} {r : AV × Eff} (h : plainOp P ok fr g nx o = some r) : ∀ c, o.op ≠ .defer c := by
  intro c hc
  unfold plainOp at h
  rw [hc] at h
  cases h
theorem run_callFunc {f : FuncId} (h : Enters P f) (args : Array Value) (w : World) : (callFunc f args).run P w = .ok (.enter f args) w := by
  obtain ⟨fn, c, h1, h2, h3⟩ := h
  simp only [callFunc, Sem.run_bind, run_program, Result.andThen_ok, h1]
  simp [h2, h3]
theorem runOp_ok (hok : OkTypes P ok) (hc : DoorsOk P cf) {fr : Fr} {H H' : Heap} {o : Oper} {av : AV} (h : runOp P ok cf fr H o = some (av, H')) :
    AStep H H' ∧ ∀ (ro : Option Nat) (φ : Emb) (a : Act) (w : World) (K : Act → World → Prop) (Q : Exit → Act → World → Prop), MRel φ H.get w → Sees φ fr a o.op.operands.toList → Fresh φ H.next H'.next →
      (∀ v w' φ', VRel φ' av v → Step φ φ' H H' w w' → K (a.put o.dst v) w') → o.wpIn (fence ro) 0 P a w K Q := by
  have plain : (match plainOp P ok fr H.get H.next o with | some (v, e) => (H.app e).map (v, ·) | none => none) = some (av, H') →
      AStep H H' ∧ ∀ (ro : Option Nat) (φ : Emb) (a : Act) (w : World) (K : Act → World → Prop) (Q : Exit → Act → World → Prop), MRel φ H.get w → Sees φ fr a o.op.operands.toList → Fresh φ H.next H'.next →
      (∀ v w' φ', VRel φ' av v → Step φ φ' H H' w w' → K (a.put o.dst v) w') → o.wpIn (fence ro) 0 P a w K Q := by
    intro h
    split at h
    · rename_i v e hp
      simp only [Option.map_eq_some_iff, Prod.mk.injEq] at h
      obtain ⟨H1, ha, rfl, rfl⟩ := h
      refine ⟨(app_step ha).2.2.1, fun ro φ a w K Q hM hF hf hK => ?_⟩
      obtain ⟨r, u, w', φ', h1, h2, h3, h4⟩ := plain_step hok hM hF hp ha hf
      refine ⟨fun _ _ => trivial, ?_⟩
      rw [Oper.semAt_eq _ _ _ (plain_calm hp), h1]
      rcases h2 with rfl | ⟨rfl, rfl⟩
      · exact hK _ _ _ h3 h4
      · exact hK _ _ _ h3 h4
    · cases h
  unfold runOp at h
  split at h
  · rename_i f args ats hop
    split at h
    · rename_i g first caps vs h1 h2
      obtain ⟨he, ha, hcall⟩ := hc.call _ _ _ _ _ h
      refine ⟨ha, fun ro φ a w K Q hM hF hf hK => ?_⟩
      have hfv := hF f (by simp [hop, Op.operands, Call.operands]) _ h1
      generalize hcv : a.eval f = fv at hfv
      cases hfv with
      | func hfirst hcaps =>
        rename_i first' caps'
        have hvs := evs_rel (fun y hy => hF y (by simp only [hop, Op.operands, Call.operands]; simp at hy ⊢; exact .inr hy)) h2
        have hargs := (hfirst.append hvs).append hcaps
        have hrun : (execOp a.eval o).run P w = .ok (.enter g (first' ++ args.toList.map a.eval ++ caps').toArray) w := by
          simp only [execOp, hop, resolve, hcv, Deferred.ofValue, Sem.run_bind, Sem.run_pure, Result.andThen_ok, invoke, run_callFunc he]
          congr 2
          apply Array.ext'
          simp
        refine ⟨fun _ _ => trivial, ?_⟩
        rw [Oper.semAt_eq _ _ _ (fun c h => by rw [hop] at h; cases h), hrun, Oper.uponIn_enter]
        refine ⟨fun h => (by cases h), ?_⟩
        have hin : CallsIn (fence ro) 0 P g _ w _ := (callsIn_wide (n := 0)).2 (hcall φ w _ hM hargs hf)
        refine hin.mono ?_
        rintro e w' ⟨v, φ', rfl, hv, hs⟩
        exact hK v w' φ' hv hs
    · rename_i l vs h1 h2
      obtain ⟨ha, hround⟩ := hc.round _ _ _ _ _ h
      refine ⟨ha, fun ro φ a w K Q hM hF hf hK => ?_⟩
      have hfv := hF f (by simp [hop, Op.operands, Call.operands]) _ h1
      generalize hcv : a.eval f = fv at hfv
      cases hfv with
      | yieldv he =>
        rename_i sp
        have hvs := evs_rel (fun y hy => hF y (by simp only [hop, Op.operands, Call.operands]; simp at hy ⊢; exact .inr hy)) h2
        obtain ⟨fn, tmps, assign, body, hy, hin⟩ := hround φ w _ _ hM hvs he hf
        have hrun : (execOp a.eval o).run P w = .ok (.round sp.blk fn tmps assign body) w := by
          simp only [execOp, hop, resolve, hcv, Deferred.ofValue, Sem.run_bind, Sem.run_pure, Result.andThen_ok, invoke]
          rw [show (#[] ++ args.map a.eval) = (args.toList.map a.eval).toArray by apply Array.ext'; simp]
          exact hy
        refine ⟨fun _ _ => trivial, ?_⟩
        rw [Oper.semAt_eq _ _ _ (fun c h => by rw [hop] at h; cases h), hrun, Oper.uponIn_round]
        refine ⟨fun h => (by cases h), ?_⟩
        have hin : RoundIn (fence ro) 0 P sp.blk fn tmps assign body w _ := hin
        refine hin.mono ?_
        rintro e w' ⟨v, φ', rfl, hv, hs⟩
        exact hK v w' φ' hv hs
    · cases h
  · exact plain h
theorem wanted_eq {φ : Emb} {fr : Fr} {a : Act} (hF : FRel φ fr a.tmps) (ops : Array Oper) (o : Oper) : Region.wanted o (yielded ops a.tmps) = wanted ops fr o := by
  unfold Region.wanted wanted
  cases o.guard with
  | none => rfl
  | some jw =>
    obtain ⟨j, want⟩ := jw
    simp only [yielded]
    cases hd : (ops[j]?).bind (·.dst) with
    | none => simp
    | some d =>
      simp only [Option.bind_some]
      have := hF d
      cases ht : a.tmps[d]? with
      | none =>
        have hg : a.tmps.getD d undef = undef := by simp [Array.getD_eq_getD_getElem?, ht]
        rw [hg] at this
        generalize fr.at d = x at this
        generalize hu : undef = u at this
        cases this <;> simp [undef] at hu ⊢
      | some v =>
        have hg : a.tmps.getD d undef = v := by simp [Array.getD_eq_getD_getElem?, ht]
        rw [hg] at this
        generalize fr.at d = x at this
        cases this <;> first | (simp; done) | (rename_i hv hb; cases v <;> first | (exact absurd rfl (hb _)) | simp)
theorem at_set (fr : Fr) (d t : Nat) (v : AV) : Fr.at (Tr.set fr (path d) (some v)) t = if t = d then v else fr.at t := by
  unfold Fr.at
  rw [Tr.get_set]
  by_cases h : t = d
  · subst h; simp
  · rw [if_neg fun e => h (path_inj e).symm, if_neg h]
theorem put_frel {φ : Emb} {fr fr' : Fr} {a : Act} {nt : Nat} {dst : Option Tmp} {av : AV} {v : Value} (hF : FRel φ fr a.tmps) (hn : nt ≤ a.tmps.size) (h : putAt nt fr dst av = some fr') (hv : VRel φ av v) :
    FRel φ fr' (a.put dst v).tmps ∧ nt ≤ (a.put dst v).tmps.size ∧ (a.put dst v).defers = a.defers := by
  cases dst with
  | none =>
    simp only [putAt, Option.some.injEq] at h
    subst h
    exact ⟨hF, hn, rfl⟩
  | some d =>
    simp only [putAt] at h
    split at h
    · rename_i hd
      simp only [Option.some.injEq] at h
      subst h
      refine ⟨?_, by simpa [Act.put] using hn, rfl⟩
      intro t
      rw [at_set]
      simp only [Act.put, Array.getD_eq_getD_getElem?, Array.getElem?_setIfInBounds]
      by_cases ht : t = d
      · subst ht
        rw [if_pos rfl, if_pos rfl, if_pos (Nat.lt_of_lt_of_le hd hn)]
        exact hv
      · rw [if_neg ht, if_neg fun e => ht e.symm]
        have := hF t
        rwa [Array.getD_eq_getD_getElem?] at this
    · cases h
theorem stepOp_ok (hok : OkTypes P ok) (hc : DoorsOk P cf) {nt : Nat} {ops : Array Oper} {fr fr' : Fr} {H H' : Heap} {o : Oper} (h : stepOp P ok cf nt ops fr H o = some (fr', H')) :
    AStep H H' ∧ ∀ (ro : Option Nat) (φ : Emb) (a : Act) (w : World) (K : Act → World → Prop) (Q : Exit → Act → World → Prop), MRel φ H.get w → FRel φ fr a.tmps → nt ≤ a.tmps.size → Fresh φ H.next H'.next →
      (∀ a' w' φ', FRel φ' fr' a'.tmps → nt ≤ a'.tmps.size → a'.defers = a.defers → Step φ φ' H H' w w' → K a' w') →
      (if Region.wanted o (yielded ops a.tmps) then o.wpIn (fence ro) 0 P a w K Q else (∀ f, o.about P w a.eval = some f → (fence ro).fn f) ∧ K (a.put o.dst undef) w) := by
  unfold stepOp at h
  by_cases hw : wanted ops fr o = true
  · rw [if_pos hw] at h
    split at h
    · rename_i v H1 hr
      simp only [Option.map_eq_some_iff, Prod.mk.injEq] at h
      obtain ⟨fr1, hp, rfl, rfl⟩ := h
      obtain ⟨ha, hrun⟩ := runOp_ok hok hc hr
      refine ⟨ha, fun ro φ a w K Q hM hF hn hf hK => ?_⟩
      rw [wanted_eq hF, hw, if_pos rfl]
      refine (hrun ro φ a w K Q hM (hF.sees _) hf fun u w' φ' hv hs => ?_)
      obtain ⟨k1, k2, k3⟩ := put_frel (hF.mono hs.mv.ext) hn hp hv
      exact hK _ _ _ k1 k2 k3 hs
    · cases h
  · rw [if_neg hw] at h
    simp only [Option.map_eq_some_iff, Prod.mk.injEq] at h
    obtain ⟨fr1, hp, rfl, rfl⟩ := h
    refine ⟨.refl _, fun ro φ a w K Q hM hF hn _ hK => ?_⟩
    rw [wanted_eq hF, if_neg hw]
    obtain ⟨k1, k2, k3⟩ := put_frel hF hn hp .undef
    exact ⟨fun _ _ => trivial, hK _ _ _ k1 k2 k3 (.refl hM)⟩
theorem runOps_ok (hok : OkTypes P ok) (hc : DoorsOk P cf) {nt : Nat} {ops : Array Oper} : ∀ (os : List Oper) {fr fr' : Fr} {H H' : Heap}, runOps P ok cf nt ops os fr H = some (fr', H') →
    AStep H H' ∧ ∀ (ro : Option Nat) (φ : Emb) (a : Act) (w : World) (Q : Exit → Act → World → Prop) (k : Nat), ops.toList.drop k = os → MRel φ H.get w → FRel φ fr a.tmps → nt ≤ a.tmps.size → Fresh φ H.next H'.next →
      (∀ a' w' φ', FRel φ' fr' a'.tmps → nt ≤ a'.tmps.size → a'.defers = a.defers → Step φ φ' H H' w w' → Q .normal a' w') →
      wpOpsIn (fence ro) 0 P ops Q (List.range' k os.length) a w
  | [], fr, fr', H, H', h => by
    simp only [runOps, Option.some.injEq, Prod.mk.injEq] at h
    obtain ⟨rfl, rfl⟩ := h
    refine ⟨.refl _, fun ro φ a w Q k _ hM hF hn _ hQ => ?_⟩
    exact hQ a w φ hF hn rfl (.refl hM)
  | o :: os, fr, fr', H, H', h => by
    simp only [runOps] at h
    split at h
    · rename_i fr1 H1 h1
      obtain ⟨a1, s1⟩ := stepOp_ok hok hc h1
      obtain ⟨a2, s2⟩ := runOps_ok hok hc os h
      refine ⟨a1.trans a2, fun ro φ a w Q k hk hM hF hn hf hQ => ?_⟩
      have hlt : k < ops.toList.length := by
        rcases Nat.lt_or_ge k ops.toList.length with h | h
        · exact h
        · rw [List.drop_eq_nil_of_le h] at hk; cases hk
      rw [List.drop_eq_getElem_cons hlt] at hk
      simp only [List.cons.injEq] at hk
      obtain ⟨hk1, hk2⟩ := hk
      have ho : ops[k]? = some o := by
        rw [← Array.getElem?_toList, List.getElem?_eq_getElem hlt, hk1]
      rw [List.length_cons, List.range'_succ]
      simp only [wpOpsIn, ho]
      exact s1 ro φ a w _ Q hM hF hn (hf.sub (Nat.le_refl _) a2.next) fun a' w' φ' f1 n1 d1 st1 => by
        refine s2 ro φ' a' w' Q (k + 1) hk2 st1.rel f1 n1 (st1.fresh a1 hf) fun a2' w2 φ2 f2 n2 d2 st2 => ?_
        exact hQ a2' w2 φ2 f2 n2 (d2.trans d1) (st1.trans st2 a1 a2 (hf.sub (Nat.le_refl _) a2.next))
    · cases h
end
end Go.Am
end
section
namespace Go.Am
section
variable {P : Program} {ok : TypeId → Bool} {g g' : Get} {nx : Nat}
theorem read_agree {b : Nat} (h : g' b = g b) (o n : Nat) : g'.read b o n = g.read b o n := by simp only [Get.read, Get.cellsOf, h]
theorem write_agree {b : Nat} (h : g' b = g b) (o : Nat) (vs : List AV) : g'.write b o vs = g.write b o vs := by simp only [Get.write, Get.cellsOf, h]
theorem load_agree {v : AV} (h : ∀ b ∈ blockOf v, g' b = g b) (t : TypeId) : load P g' t v = load P g t v := by
  cases v with
  | ptr b o => simp only [load, read_agree (h b (by simp [blockOf]))]
  | _ => rfl
theorem store_agree {v : AV} (h : ∀ b ∈ blockOf v, g' b = g b) (t : TypeId) (x : AV) : store P g' t v x = store P g t v x := by
  cases v with
  | ptr b o => cases ht : tsize P t <;> simp only [store, ht, write_agree (h b (by simp [blockOf]))]
  | _ => rfl
theorem entries_agree {v : AV} (h : ∀ b ∈ blockOf v, g' b = g b) : entries g' v = entries g v := by
  cases v with
  | map b => simp only [entries, h b (by simp [blockOf])]
  | _ => rfl
theorem lookup_agree {v : AV} (h : ∀ b ∈ blockOf v, g' b = g b) (t : TypeId) (k : AV) (c : Bool) : lookup P g' t v k c = lookup P g t v k c := by
  simp only [lookup, entries_agree h]
theorem update_agree {m : AV} (h : ∀ b ∈ blockOf m, g' b = g b) (t : TypeId) (k v : AV) : mapUpdate P g' t m k v = mapUpdate P g t m k v := by
  cases m with
  | map b => rcases ht : P.underlying t with _ | d <;> (try cases d) <;> simp only [mapUpdate, ht, h b (by simp [blockOf])]
  | _ => rcases ht : P.underlying t with _ | d <;> (try cases d) <;> simp only [mapUpdate, ht]
theorem lenOf_agree {v : AV} (h : ∀ b ∈ blockOf v, g' b = g b) (t : TypeId) : lenOf P g' t v = lenOf P g t v := by
  cases v with
  | map b => rcases ht : P.underlying t with _ | d <;> (try cases d) <;> simp only [lenOf, ht, h b (by simp [blockOf])]
  | _ => rcases ht : P.underlying t with _ | d <;> (try cases d) <;> simp only [lenOf, ht]
theorem first_agree {v : AV} (h : ∀ b ∈ blockOf v, g' b = g b) (es n : Nat) : firstCells g' es n v = firstCells g es n v := by
  cases v with
  | slice b o len cap es' => simp only [firstCells, read_agree (h b (by simp [blockOf]))]
  | _ => rfl
theorem append_agree {s x : AV} (hs : ∀ b ∈ blockOf s, g' b = g b) (hx : ∀ b ∈ blockOf x, g' b = g b) (t : TypeId) (t1 : Option TypeId) : append P g' nx t t1 s x = append P g nx t t1 s x := by
  cases s with
  | slice b o len cap es => simp only [append, first_agree hx, read_agree (hs b (by simp [blockOf])), write_agree (hs b (by simp [blockOf]))]
  | _ => simp only [append, first_agree hx]
theorem copy_agree {s x : AV} (hs : ∀ b ∈ blockOf s, g' b = g b) (hx : ∀ b ∈ blockOf x, g' b = g b) (t : TypeId) : copyOp P g' t s x = copyOp P g t s x := by
  rcases ht : telem P t with _ | e
  · simp only [copyOp, ht]
  rcases hn : lenVal x with _ | ns
  · simp only [copyOp, ht, hn]
  rcases hz : tsize P e with _ | n
  · simp only [copyOp, ht, hn, hz]
  cases s with
  | slice b o len cap es => simp only [copyOp, ht, hn, hz, first_agree hx, write_agree (hs b (by simp [blockOf]))]
  | _ => simp only [copyOp, ht, hn, hz]
theorem builtin_agree {b : Builtin} {ts : Array TypeId} {xs : List AV} (h : ∀ c ∈ xs.flatMap blockOf, g' c = g c) : builtin P g' nx b ts xs = builtin P g nx b ts xs := by
  have hm : ∀ x ∈ xs, ∀ c ∈ blockOf x, g' c = g c := fun x hx c hc => h c (List.mem_flatMap.2 ⟨x, hx, hc⟩)
  unfold builtin
  split
  · rename_i x
    split
    · rw [lenOf_agree (hm x (by simp))]
    · rfl
  · rename_i s x
    split
    · rw [append_agree (hm s (by simp)) (hm x (by simp))]
    · rfl
  · rename_i d s
    split
    · rw [copy_agree (hm d (by simp)) (hm s (by simp))]
    · rfl
  · rfl
  · rfl
  · rfl
theorem plain_agree {fr : Fr} {o : Oper} {l : List Nat} (hr : readsOf fr o = some l) (h : ∀ b ∈ l, g' b = g b) : plainOp P ok fr g' nx o = plainOp P ok fr g nx o := by
  obtain ⟨dst, op, type, pos, after, guard⟩ := o
  have one : ∀ {x : Operand} {v : AV}, (ev fr x).map blockOf = some l → ev fr x = some v → ∀ b ∈ blockOf v, g' b = g b := by
    intro x v h1 h2 b hb
    rw [h2] at h1
    simp only [Option.map_some, Option.some.injEq] at h1
    exact h b (h1 ▸ hb)
  unfold readsOf at hr
  unfold plainOp
  cases op <;> (try rfl) <;> simp only [pureOp, Bool.false_eq_true, if_false] at hr <;> (try (simp only [reduceCtorEq] at hr; done))
  case load t x =>
    simp only
    split
    · rename_i v hv; rw [load_agree (one hr hv)]
    · rfl
  case store t x y =>
    simp only
    split
    · rename_i v u hv hu; rw [store_agree (one hr hv)]
    · rfl
  case lookup t m k c =>
    simp only
    split
    · rename_i v u hv hu; rw [lookup_agree (one hr hv)]
    · rfl
  case mapUpdate t m k u =>
    simp only
    split
    · rename_i v u z hv hu hz; rw [update_agree (one hr hv)]
    · rfl
  case insert t m k u =>
    simp only
    split
    · rename_i v u z hv hu hz; rw [update_agree (one hr hv)]
    · rfl
  case makeFunc fn first caps => cases fn <;> rfl
  case makeMap t r => cases r <;> rfl
  case slice t x lo hi mx => cases mx <;> rfl
  case call c =>
    obtain ⟨callee, args, argTypes⟩ := c
    cases callee with
    | builtin b =>
      simp only at hr ⊢
      cases hv : evs fr args.toList with
      | none => rfl
      | some vs =>
        simp only
        apply builtin_agree
        intro c hc
        refine h c ?_
        cases b <;> simp only [hv, Option.map_some, Option.some.injEq, reduceCtorEq] at hr <;> exact hr ▸ hc
    | _ => rfl
def View (fr : Fr) (o : Oper) (H : Heap) (g : Get) : Prop :=
  (∀ b, g b ≠ none → g b = H.get b) ∧ (g = H.get ∨ ∃ l, readsOf fr o = some l ∧ ∀ b ∈ l, g b = H.get b)
def Touch (H R : Heap) (b : Nat) : Prop := b ∈ R.log ∨ (H.next ≤ b ∧ b < R.next)
open Classical in
noncomputable def aft (g : Get) (H R : Heap) : Get := fun b => if Touch H R b then R.get b else g b
theorem get_ge {H : Heap} {b : Nat} (h : H.next ≤ b) : H.get b = none := by
  cases hb : H.get b with
  | none => rfl
  | some o => exact absurd (get_lt (H := H) (b := b) (by simp [hb])) (by omega)
theorem noted_mem_iff {H : Heap} {b : Nat} (hb : b < H.floor) (hl : H.log = []) (c : Nat) : c ∈ noted H b ↔ c = b := by
  simp [noted, hl, hb]
theorem app_touch {H R : Heap} {e : Eff} (h : H.app e = some R) (hfl : H.floor = H.next) (hlog : H.log = []) {g : Get} (hg : ∀ b, g b ≠ none → g b = H.get b) : e.get g H.next = aft g H R := by
  obtain ⟨h1, h2, _, _⟩ := app_step h
  have hn : ∀ b, H.next ≤ b → g b = none := fun b hb => by
    cases hgb : g b with
    | none => rfl
    | some o =>
      have := hg b (by simp [hgb])
      rw [get_ge hb, hgb] at this
      cases this
  funext b
  unfold aft Touch
  rw [h1, h2]
  cases e with
  | keep =>
    simp only [Heap.app, Option.some.injEq] at h
    subst h
    rw [if_neg]
    · rfl
    · simp only [hlog, Eff.top]; rintro (h | h)
      · cases h
      · omega
  | new o =>
    simp only [Heap.app, Option.some.injEq] at h
    subst h
    simp only [Eff.get, Eff.top, upd, hlog]
    by_cases hb : b = H.next
    · subst hb; simp
    · rw [if_neg hb, if_neg]
      rintro (h | h)
      · cases h
      · omega
  | put c o =>
    simp only [Heap.app] at h
    split at h
    · rename_i hl
      simp only [Option.some.injEq] at h
      subst h
      have hc : c < H.next := get_lt (H := H) (b := c) (by intro hn; rw [hn] at hl; simp at hl)
      simp only [Eff.get, Eff.top, upd]
      by_cases hb : b = c
      · subst hb
        have hm := (noted_mem_iff (hfl ▸ hc) hlog b).2 rfl
        simp [hm]
      · have hm : ¬ b ∈ noted H c := fun h => hb ((noted_mem_iff (hfl ▸ hc) hlog _).1 h)
        have hx : ¬ (H.next ≤ b ∧ b < H.next) := by omega
        simp [hm, hx, hb]
    · cases h
  | swap c o =>
    simp only [Heap.app] at h
    split at h
    · rename_i hl
      simp only [Option.some.injEq] at h
      subst h
      have hc : c < H.next := get_lt (H := H) (b := c) (by intro hn; rw [hn] at hl; simp at hl)
      simp only [Eff.get, Eff.top, upd]
      by_cases hb : b = H.next
      · subst hb; simp
      · rw [if_neg hb]
        by_cases hb2 : b = c
        · subst hb2
          have hm := (noted_mem_iff (hfl ▸ hc) hlog b).2 rfl
          simp [hm, hb]
        · have hm : ¬ b ∈ noted H c := fun h => hb2 ((noted_mem_iff (hfl ▸ hc) hlog _).1 h)
          have hx : ¬ (H.next ≤ b ∧ b < H.next + 1) := by omega
          simp [hm, hx, hb2]
    · cases h
theorem aft_full {H R : Heap} (ha : AStep H R) (hfl : H.floor = H.next) : aft H.get H R = R.get := by
  funext b
  unfold aft
  split
  · rfl
  · rename_i h
    rcases Nat.lt_or_ge b H.next with hb | hb
    · exact (ha.keep b hb fun hw => hw.elim (fun h1 => h (.inl h1)) (fun h1 => by omega)).symm
    · rw [get_ge hb, get_ge]
      rcases Nat.lt_or_ge b R.next with h1 | h1
      · exact absurd (.inr ⟨hb, h1⟩) h
      · exact h1
theorem runOp_view (hok : OkTypes P ok) {cf : Doors} (hc : DoorsOk P cf) {fr : Fr} {H R : Heap} (hfl : H.floor = H.next) (hlog : H.log = []) {o : Oper} {av : AV} (h : runOp P ok cf fr H o = some (av, R)) :
    AStep H R ∧ ∀ (ro : Option Nat) (g : Get) (φ : Emb) (a : Act) (w : World) (K : Act → World → Prop) (Q : Exit → Act → World → Prop), View fr o H g → MRel φ g w → Sees φ fr a o.op.operands.toList → Fresh φ H.next R.next →
      (∀ v w' φ', VRel φ' av v → MRel φ' (aft g H R) w' → Moves φ φ' g H.next R.next (Wr H R) w w' → K (a.put o.dst v) w') → o.wpIn (fence ro) 0 P a w K Q := by
  obtain ⟨ha, hrun⟩ := runOp_ok hok hc h
  refine ⟨ha, fun ro g φ a w K Q hv hM hF hf hK => ?_⟩
  obtain ⟨hsub, rfl | ⟨l, hr, hl⟩⟩ := hv
  · exact hrun ro φ a w K Q hM hF hf fun v w' φ' k1 k2 => hK v w' φ' k1 (by rw [aft_full ha hfl]; exact k2.rel) k2.mv
  · have hplain : ∃ e, plainOp P ok fr H.get H.next o = some (av, e) ∧ H.app e = some R := by
      unfold runOp at h
      split at h
      · rename_i f args ats hop
        simp [readsOf, hop, pureOp] at hr
      · split at h
        · rename_i v e hp
          simp only [Option.map_eq_some_iff, Prod.mk.injEq] at h
          obtain ⟨H1, h1, rfl, rfl⟩ := h
          exact ⟨e, hp, h1⟩
        · cases h
    obtain ⟨e, hp, happ⟩ := hplain
    rw [← plain_agree hr hl] at hp
    obtain ⟨_, h2, _, h4⟩ := app_step happ
    have hfree : Free φ H.next e := by
      rcases Nat.lt_or_ge H.next R.next with h5 | h5
      · exact .inr (hf _ (Nat.le_refl _) h5)
      · refine .inl ?_
        rw [← h2]
        have : H.next ≤ e.top H.next := by cases e <;> simp [Eff.top]
        omega
    obtain ⟨r, v, w', φ', k1, k2, k3, k4, k5⟩ := plain_ok hok hM hF hfree hp
    have hK' := hK v w' φ' k3 (by rw [← app_touch happ hfl hlog hsub]; exact k4) (k5.weaken (Nat.le_refl _) (by rw [h2]; exact Nat.le_refl _) fun b hb => h4 b hb)
    refine ⟨fun _ _ => trivial, ?_⟩
    rw [Oper.semAt_eq _ _ _ (plain_calm hp), k1]
    rcases k2 with rfl | ⟨rfl, rfl⟩
    · exact hK'
    · exact hK'
end
end Go.Am
end
section
namespace Go.Am
section
variable {α : Type}
open Classical in
noncomputable def lay (v : Nat → α) (T S : Nat → Prop) : Nat → α
  | 0 => v 0
  | n + 1 => if S n ∧ T n then v (n + 1) else lay v T S n
theorem lay_eq {v : Nat → α} {T S : Nat → Prop} : ∀ (j : Nat), (∀ i, i < j → ¬ T i → v (i + 1) = v i) → (∀ i, i < j → T i → S i) → lay v T S j = v j
  | 0, _, _ => rfl
  | j + 1, hv, h => by
    simp only [lay]
    split
    · rfl
    · rename_i hn
      have ht : ¬ T j := fun ht => hn ⟨h j (by omega) ht, ht⟩
      rw [lay_eq j (fun i hi => hv i (by omega)) (fun i hi => h i (by omega)), hv j (by omega) ht]
theorem lay_skip {v : Nat → α} {T S : Nat → Prop} {j : Nat} : ∀ (n : Nat), j ≤ n → (∀ i, j ≤ i → i < n → T i → ¬ S i) → lay v T S n = lay v T S j
  | 0, h, _ => by have : j = 0 := by omega
                  subst this; rfl
  | n + 1, h, hs => by
    by_cases hj : j = n + 1
    · subst hj; rfl
    · simp only [lay]
      rw [if_neg fun ⟨h1, h2⟩ => hs n (by omega) (by omega) h2 h1]
      exact lay_skip n (by omega) fun i h1 h2 => hs i h1 (by omega)
theorem lay_add {v : Nat → α} {T S : Nat → Prop} {j : Nat} : ∀ (n : Nat), (∀ i, j < i → i < n → T i → T j → ¬ S i) → (j < n → lay v T (fun i => S i ∨ i = j) n = open Classical in if T j then v (j + 1) else lay v T S n) ∧ (n ≤ j → lay v T (fun i => S i ∨ i = j) n = lay v T S n)
  | 0, _ => ⟨fun h => by omega, fun _ => rfl⟩
  | n + 1, hs => by
    obtain ⟨h1, h2⟩ := lay_add (v := v) n fun i a b => hs i a (by omega)
    refine ⟨fun h => ?_, fun h => ?_⟩
    · simp only [lay]
      by_cases hj : j = n
      · subst hj
        rw [h2 (Nat.le_refl _)]
        by_cases ht : T j
        · simp [ht]
        · simp [ht]
      · have hne : ¬ n = j := fun e => hj e.symm
        rw [h1 (by omega)]
        by_cases hst : S n ∧ T n
        · rw [if_pos ⟨.inl hst.1, hst.2⟩, if_pos hst]
          rw [if_neg fun ht => hs n (by omega) (by omega) hst.2 ht hst.1]
        · rw [if_neg fun h => hst ⟨h.1.resolve_right hne, h.2⟩, if_neg hst]
    · simp only [lay]
      have hne : ¬ n = j := by omega
      rw [h2 (by omega)]
      by_cases hst : S n ∧ T n
      · rw [if_pos ⟨.inl hst.1, hst.2⟩, if_pos hst]
      · rw [if_neg fun h => hst ⟨h.1.resolve_right hne, h.2⟩, if_neg hst]
theorem lay_all {v : Nat → α} {T S : Nat → Prop} {n : Nat} (hv : ∀ i, i < n → ¬ T i → v (i + 1) = v i) (h : ∀ i, i < n → S i) : lay v T S n = v n :=
  lay_eq n hv fun i hi _ => h i hi
end
def guardTmp (ops : Array Oper) (o : Oper) : Option Tmp :=
  match o.guard with
  | some (g, _) => (ops[g]?).bind (·.dst)
  | none => none
section
variable {P : Program} {ok : TypeId → Bool} {cf : Doors}
theorem wanted_at {φ : Emb} {fr : Fr} {a : Act} {ops : Array Oper} {o : Oper} (hF : ∀ d, guardTmp ops o = some d → VRel φ (fr.at d) (a.tmps.getD d undef)) : Region.wanted o (yielded ops a.tmps) = wanted ops fr o := by
  unfold guardTmp at hF
  unfold Region.wanted wanted
  cases hg : o.guard with
  | none => rfl
  | some jw =>
    obtain ⟨j, want⟩ := jw
    simp only [hg] at hF
    simp only [yielded]
    cases hd : (ops[j]?).bind (·.dst) with
    | none => simp
    | some d =>
      simp only [Option.bind_some]
      have := hF d hd
      cases ht : a.tmps[d]? with
      | none =>
        have hg : a.tmps.getD d undef = undef := by simp [Array.getD_eq_getD_getElem?, ht]
        rw [hg] at this
        generalize fr.at d = x at this
        generalize hu : undef = u at this
        cases this <;> simp [undef] at hu ⊢
      | some v =>
        have hg : a.tmps.getD d undef = v := by simp [Array.getD_eq_getD_getElem?, ht]
        rw [hg] at this
        generalize fr.at d = x at this
        cases this <;> first | (simp; done) | (rename_i hv hb; cases v <;> first | (exact absurd rfl (hb _)) | simp)
def low (H : Heap) : Heap := { H with floor := H.next, log := [] }
def lift (H R : Heap) : Heap := { R with floor := H.floor, log := outerLog H R.log }
def ViewF (reads : Option (List Nat)) (H : Heap) (g : Get) : Prop :=
  (∀ b, g b ≠ none → g b = H.get b) ∧ (match reads with | none => g = H.get | some l => ∀ b ∈ l, g b = H.get b)
def readsAt (ops : Array Oper) (fr : Fr) (o : Oper) : Option (List Nat) := if wanted ops fr o then readsOf fr o else some []
theorem aft_same {H : Heap} (hlog : H.log = []) (g : Get) : aft g H H = g := by
  funext b
  unfold aft
  rw [if_neg]
  rintro (h | h)
  · rw [hlog] at h; cases h
  · omega
theorem stepOp_view (hok : OkTypes P ok) (hc : DoorsOk P cf) {nt : Nat} {ops : Array Oper} {fr fr' : Fr} {H R : Heap} (hfl : H.floor = H.next) (hlog : H.log = []) {o : Oper} (h : stepOp P ok cf nt ops fr H o = some (fr', R)) :
    AStep H R ∧ ∃ av, putAt nt fr o.dst av = some fr' ∧ ∀ (ro : Option Nat) (g : Get) (φ : Emb) (a : Act) (w : World) (K : Act → World → Prop) (Q : Exit → Act → World → Prop), ViewF (readsAt ops fr o) H g → MRel φ g w →
      Sees φ fr a o.op.operands.toList → (∀ d, guardTmp ops o = some d → VRel φ (fr.at d) (a.tmps.getD d undef)) → Fresh φ H.next R.next →
      (∀ v w' φ', VRel φ' av v → MRel φ' (aft g H R) w' → Moves φ φ' g H.next R.next (Wr H R) w w' → K (a.put o.dst v) w') →
      (if Region.wanted o (yielded ops a.tmps) then o.wpIn (fence ro) 0 P a w K Q else (∀ f, o.about P w a.eval = some f → (fence ro).fn f) ∧ K (a.put o.dst undef) w) := by
  unfold stepOp at h
  by_cases hw : wanted ops fr o = true
  · rw [if_pos hw] at h
    split at h
    · rename_i v H1 hr
      simp only [Option.map_eq_some_iff, Prod.mk.injEq] at h
      obtain ⟨fr1, hp, rfl, rfl⟩ := h
      obtain ⟨ha, hrun⟩ := runOp_view hok hc hfl hlog hr
      refine ⟨ha, v, hp, fun ro g φ a w K Q hv hM hS hG hf hK => ?_⟩
      rw [wanted_at hG, hw, if_pos rfl]
      refine hrun ro g φ a w K Q ⟨hv.1, ?_⟩ hM hS hf hK
      have hv2 := hv.2
      simp only [readsAt, hw, if_true] at hv2
      cases hr : readsOf fr o with
      | none => rw [hr] at hv2; exact .inl hv2
      | some l => rw [hr] at hv2; exact .inr ⟨l, rfl, hv2⟩
    · cases h
  · rw [if_neg hw] at h
    simp only [Option.map_eq_some_iff, Prod.mk.injEq] at h
    obtain ⟨fr1, hp, rfl, rfl⟩ := h
    refine ⟨.refl _, .undef, hp, fun ro g φ a w K Q hv hM hS hG hf hK => ?_⟩
    rw [wanted_at hG, if_neg hw]
    exact ⟨fun _ _ => trivial, hK _ _ _ .undef (by rw [aft_same hlog]; exact hM) (.refl _ _ _ _ _ _)⟩
def readsB (t : Option Tmp) (ops : Array Oper) (fr : Fr) (o : Oper) : Option (List Nat) := if (bagIns t o).isSome then some [] else readsAt ops fr o
theorem trace {nt : Nat} {ops : Array Oper} {t : Option Tmp} : ∀ {os : List Oper} {fr fr' : Fr} {H H' : Heap} {cs : List (Foot × Option (AV × AV))}, runOpsT P ok cf nt ops t os fr H = some (fr', H', cs) →
    ∃ (frs : Nat → Fr) (hs rs : Nat → Heap), frs 0 = fr ∧ hs 0 = H ∧ frs os.length = fr' ∧ hs os.length = H' ∧ cs.length = os.length ∧
      ∀ i o, os[i]? = some o → ∃ pr, stepB P ok cf nt ops t (frs i) (low (hs i)) o = some (frs (i + 1), rs i, pr) ∧ hs (i + 1) = lift (hs i) (rs i) ∧
        cs[i]? = some (⟨readsB t ops (frs i) o, (rs i).log, (hs i).next, (rs i).next⟩, pr)
  | [], fr, fr', H, H', cs, h => by
    simp only [runOpsT, Option.some.injEq, Prod.mk.injEq] at h
    obtain ⟨rfl, rfl, rfl⟩ := h
    exact ⟨fun _ => fr, fun _ => H, fun _ => H, rfl, rfl, rfl, rfl, rfl, fun i o h => by simp at h⟩
  | o :: os, fr, fr', H, H', cs, h => by
    simp only [runOpsT] at h
    split at h
    · rename_i fr1 R pr h1
      split at h
      · rename_i fr2 H2 cs2 h2
        simp only [Option.some.injEq, Prod.mk.injEq] at h
        obtain ⟨rfl, rfl, rfl⟩ := h
        obtain ⟨frs, hs, rs, k1, k2, k3, k4, k5, k6⟩ := trace h2
        refine ⟨fun | 0 => fr | i + 1 => frs i, fun | 0 => H | i + 1 => hs i, fun | 0 => R | i + 1 => rs i, rfl, rfl, k3, k4, by simp [k5], ?_⟩
        intro i p hp
        cases i with
        | zero =>
          simp only [List.getElem?_cons_zero, Option.some.injEq] at hp
          subst hp
          refine ⟨pr, ?_, ?_, ?_⟩
          · show stepB P ok cf nt ops t fr (low H) o = some (frs 0, R, pr)
            rw [k1]; exact h1
          · show hs 0 = lift H R
            rw [k2]; rfl
          · rfl
        | succ i =>
          simp only [List.getElem?_cons_succ] at hp
          simpa using k6 i p hp
      · cases h
    · cases h
theorem kill_get {H : Heap} {b c : Nat} : (H.kill b).get c = if c = b then none else H.get c := by
  unfold Heap.get Heap.kill
  simp only
  by_cases h : c = b
  · subst h; simp [Tr.get_set]
  · rw [if_neg h, Tr.get_set, if_neg (fun e : path b = path c => h (path_inj e).symm)]
theorem wake_get {H : Heap} {b c : Nat} {o : AObj} (hb : b < H.next) : (H.wake b o).get c = if c = b then some o else H.get c := by
  unfold Heap.get Heap.wake
  simp only
  by_cases h : c = b
  · subst h; simp [Tr.get_set, hb]
  · rw [if_neg h, Tr.get_set, if_neg (fun e : path b = path c => h (path_inj e).symm)]
theorem stepB_cases {nt : Nat} {ops : Array Oper} {t : Option Tmp} {fr fr' : Fr} {H R : Heap} {o : Oper} {pr : Option (AV × AV)} (h : stepB P ok cf nt ops t fr H o = some (fr', R, pr)) :
    (∃ t' ty k v kv vv, t = some t' ∧ bagIns t o = some (ty, k, v) ∧ ev fr k = some kv ∧ ev fr v = some vv ∧ bagKey P ty kv = true ∧ fr' = fr ∧ R = H ∧ pr = some (kv, vv)) ∨
    (bagIns t o = none ∧ pr = none ∧ ∃ Rm, stepOp P ok cf nt ops fr H o = some (fr', Rm) ∧ R.log = Rm.log ∧ R.next = Rm.next ∧ R.floor = Rm.floor ∧
      ((R = Rm ∧ (∀ t', t = some t' → o.dst ≠ some t')) ∨ (∃ t' c, t = some t' ∧ o.dst = some t' ∧ R = Rm.kill H.next ∧ fr'.at t' = .map H.next ∧ Rm.get H.next = some (.map [] c) ∧ Rm.log = []))) := by
  unfold stepB at h
  split at h
  · rename_i ty k v hb
    split at h
    · rename_i kv vv h1 h2
      split at h
      · rename_i hk
        simp only [Option.some.injEq, Prod.mk.injEq] at h
        obtain ⟨rfl, rfl, rfl⟩ := h
        cases t with
        | none => simp [bagIns] at hb
        | some t' => exact .inl ⟨t', ty, k, v, kv, vv, rfl, hb, h1, h2, hk, rfl, rfl, rfl⟩
      · cases h
    · cases h
  · rename_i hb
    refine .inr ⟨hb, ?_⟩
    split at h
    · rename_i fr1 Rm hs
      split at h
      · simp only [Option.some.injEq, Prod.mk.injEq] at h
        obtain ⟨rfl, rfl, rfl⟩ := h
        exact ⟨rfl, _, hs, rfl, rfl, rfl, .inl ⟨rfl, fun _ e => by cases e⟩⟩
      · rename_i t'
        split at h
        · rename_i hd
          split at h
          · rename_i b c h1 h2 h3
            split at h
            · rename_i hbn
              simp only [Option.some.injEq, Prod.mk.injEq] at h
              obtain ⟨rfl, rfl, rfl⟩ := h
              subst hbn
              exact ⟨rfl, _, hs, rfl, rfl, rfl, .inr ⟨t', c, rfl, hd, rfl, h1, h2, h3⟩⟩
            · cases h
          · cases h
        · rename_i hd
          simp only [Option.some.injEq, Prod.mk.injEq] at h
          obtain ⟨rfl, rfl, rfl⟩ := h
          exact ⟨rfl, _, hs, rfl, rfl, rfl, .inl ⟨rfl, fun _ e => by cases e; exact hd⟩⟩
    · cases h
theorem stepB_astep (hok : OkTypes P ok) (hc : DoorsOk P cf) {nt : Nat} {ops : Array Oper} {t : Option Tmp} {fr fr' : Fr} {H R : Heap} (hfl : H.floor = H.next) (hlog : H.log = []) {o : Oper} {pr : Option (AV × AV)}
    (h : stepB P ok cf nt ops t fr H o = some (fr', R, pr)) : AStep H R ∧ ∃ av, putAt nt fr o.dst av = some fr' := by
  rcases stepB_cases h with ⟨t', ty, k, v, kv, vv, rfl, hb, _, _, _, rfl, rfl, _⟩ | ⟨_, _, Rm, hs, h1, h2, h3, h4⟩
  · refine ⟨.refl _, .undef, ?_⟩
    unfold bagIns at hb
    split at hb
    · split at hb
      · rename_i hc
        simp only [Bool.and_eq_true, Option.isNone_iff_eq_none] at hc
        rw [hc.2.1]; rfl
      · cases hb
    · cases hb
  · obtain ⟨ha, av, hp, _⟩ := stepOp_view hok hc hfl hlog hs
    refine ⟨?_, av, hp⟩
    rcases h4 with ⟨rfl, _⟩ | ⟨t', c, rfl, hd, rfl, _, _, _⟩
    · exact ha
    · refine ⟨ha.next, ha.floor, ha.log, fun b hb hw => ?_, fun b hb hl => ?_⟩
      · rw [kill_get, if_neg (by omega)]
        exact ha.keep b hb hw
      · rw [kill_get, if_neg (by omega)] at hl
        exact ha.live b hb hl
def Closed (ops : Array Oper) (S : Nat → Prop) : Prop := ∀ j o, ops[j]? = some o → S j → ∀ e ∈ o.after, Region.binds .any e = true → S e.on
theorem anc_in {ops : Array Oper} {S : Nat → Prop} (hS : Closed ops S) : ∀ (n j i : Nat), anc ops.toList n j i = true → (∀ o, ops[j]? = some o → ∀ e ∈ o.after, Region.binds .any e = true → S e.on) → S i
  | 0, j, i, h, _ => by simp [anc] at h
  | n + 1, j, i, h, hp => by
    simp only [anc] at h
    split at h
    · cases h
    · rename_i o ho
      have ho' : ops[j]? = some o := by rw [← Array.getElem?_toList]; exact ho
      simp only [Bool.or_eq_true, List.any_eq_true, Bool.and_eq_true, beq_iff_eq] at h
      rcases h with ⟨e, he, hb, rfl⟩ | ⟨e, he, hb, ha⟩
      · exact hp o ho' e (by simpa using he) hb
      · have hs := hp o ho' e (by simpa using he) hb
        exact anc_in hS n e.on i ha fun o' ho2 => hS _ o' ho2 hs
theorem before {ops : Array Oper} {S : Nat → Prop} (hS : Closed ops S) {i j : Nat} (hlt : i < j) (h : apart ops.toList i j = true ∨ apart ops.toList j i = true) (hj : ∀ o, ops[j]? = some o → ∀ e ∈ o.after, Region.binds .any e = true → S e.on) : S i := by
  have : anc ops.toList ops.toList.length j i = true := by
    rcases h with h | h
    · rwa [apart, if_pos hlt] at h
    · rwa [apart, if_neg (by omega)] at h
  exact anc_in hS _ j i this hj
theorem behind {ops : Array Oper} {S : Nat → Prop} (hS : Closed ops S) {i j : Nat} (hlt : j < i) (h : apart ops.toList i j = true ∨ apart ops.toList j i = true) (hj : ¬ S j) : ¬ S i := fun hi =>
  hj (before hS hlt (h.symm) fun o ho => hS i o ho hi)
theorem orderedOne_spec {ops : List Oper} {i : Nat} {w : Foot} : ∀ (k : Nat) (fs : List Foot), orderedOne ops i w k fs = true → ∀ j f, fs[j]? = some f → i ≠ k + j → w.clash f = true → apart ops i (k + j) = true
  | k, [], _, j, f, h, _, _ => by simp at h
  | k, g :: rest, h, j, f, hf, hne, hc => by
    simp only [orderedOne, Bool.and_eq_true, Bool.or_eq_true, beq_iff_eq, Bool.not_eq_true'] at h
    obtain ⟨h1, h2⟩ := h
    cases j with
    | zero =>
      simp only [List.getElem?_cons_zero, Option.some.injEq] at hf
      subst hf
      rcases h1 with (h1 | h1) | h1
      · exact absurd h1 hne
      · rw [hc] at h1; cases h1
      · exact h1
    | succ j =>
      simp only [List.getElem?_cons_succ] at hf
      have := orderedOne_spec (k + 1) rest h2 j f hf (by omega) hc
      rwa [show k + 1 + j = k + (j + 1) by omega] at this
theorem orderedAll_spec {ops : List Oper} {fs : List Foot} : ∀ (k : Nat) (ws : List Foot), orderedAll ops fs k ws = true → ∀ i j w f, ws[i]? = some w → fs[j]? = some f → k + i ≠ j → w.clash f = true → apart ops (k + i) j = true
  | k, [], _, i, j, w, f, h, _, _, _ => by simp at h
  | k, g :: rest, h, i, j, w, f, hw, hf, hne, hc => by
    simp only [orderedAll, Bool.and_eq_true, Bool.or_eq_true] at h
    obtain ⟨h1, h2⟩ := h
    cases i with
    | zero =>
      simp only [List.getElem?_cons_zero, Option.some.injEq] at hw
      subst hw
      rcases h1 with h1 | h1
      · simp [Foot.clash, h1] at hc
      · have := orderedOne_spec 0 fs h1 j f hf (by omega) hc
        simpa using this
    | succ i =>
      simp only [List.getElem?_cons_succ] at hw
      have := orderedAll_spec (k + 1) rest h2 i j w f hw hf (by omega) hc
      rwa [show k + 1 + i = k + (i + 1) by omega] at this
theorem tmpsFrom_spec {ops : Array Oper} {j d : Nat} : ∀ (k : Nat) (os : List Oper), tmpsFrom ops j d k os = true → ∀ i o, os[i]? = some o → k + i ≠ j → d ∈ namesOf ops o → apart ops.toList (k + i) j = true
  | k, [], _, i, o, h, _, _ => by simp at h
  | k, p :: rest, h, i, o, ho, hne, hd => by
    simp only [tmpsFrom, Bool.and_eq_true, Bool.or_eq_true, beq_iff_eq, Bool.not_eq_true'] at h
    obtain ⟨h1, h2⟩ := h
    cases i with
    | zero =>
      simp only [List.getElem?_cons_zero, Option.some.injEq] at ho
      subst ho
      rcases h1 with (h1 | h1) | h1
      · exact absurd h1 hne
      · have : (namesOf ops p).contains d = true := by simpa using hd
        rw [this] at h1; cases h1
      · exact h1
    | succ i =>
      simp only [List.getElem?_cons_succ] at ho
      have := tmpsFrom_spec (k + 1) rest h2 i o ho (by omega) hd
      rwa [show k + 1 + i = k + (i + 1) by omega] at this
theorem tmpsAll_spec {ops : Array Oper} : ∀ (k : Nat) (os : List Oper), tmpsAll ops k os = true → ∀ j oj d i o, os[j]? = some oj → oj.dst = some d → ops[i]? = some o → i ≠ k + j → d ∈ namesOf ops o → apart ops.toList i (k + j) = true
  | k, [], _, j, oj, d, i, o, h, _, _, _, _ => by simp at h
  | k, p :: rest, h, j, oj, d, i, o, hj, hd, ho, hne, hm => by
    simp only [tmpsAll, Bool.and_eq_true] at h
    obtain ⟨h1, h2⟩ := h
    cases j with
    | zero =>
      simp only [List.getElem?_cons_zero, Option.some.injEq] at hj
      subst hj
      simp only [hd] at h1
      have := tmpsFrom_spec 0 ops.toList h1 i o (by rw [Array.getElem?_toList]; exact ho) (by omega) hm
      simpa using this
    | succ j =>
      simp only [List.getElem?_cons_succ] at hj
      have := tmpsAll_spec (k + 1) rest h2 j oj d i o hj hd ho (by omega) hm
      rwa [show k + 1 + j = k + (j + 1) by omega] at this
end
end Go.Am
end
section
set_option linter.unusedSectionVars false
namespace Go.Am
theorem merge {φ φ' : Emb} {k g G k' : Get} {H R : Heap} {w w' : World} (hfl : H.floor = H.next) (ha : AStep H R) (hG : G = R.get) (hk : MRel φ k w) (hg : ∀ b, g b ≠ none → g b = H.get b)
    (agree : ∀ b o e, g b = some o → φ b = some e → k b = some o)
    (alog : ∀ b e, b ∈ R.log → φ b = some e → H.get b ≠ none → k b ≠ none)
    (hf : Fresh φ H.next R.next) (h' : MRel φ' (aft g H R) w') (mv : Moves φ φ' g H.next R.next (Wr H R) w w')
    (hk' : ∀ b, (Touch H R b → k' b = G b) ∧ (¬ Touch H R b → k' b = k b)) : MRel φ' k' w' := by
  subst hG
  have live : ∀ b, g b ≠ none → b < H.next := fun b hb => get_lt (H := H) (by rw [← hg b hb]; exact hb)
  have mine : ∀ b o e, k b = some o → φ b = some e → Mine φ g (Wr H R) w e.blk → Touch H R b := by
    intro b o e hb he hm
    rcases hm with hm | ⟨b0, e0, p1, p2, p3, p4⟩
    · have := hk.lt hb he; omega
    · obtain ⟨o0, ho0⟩ := Option.ne_none_iff_exists'.1 p3
      have := hk.inj b0 b o0 o e0 e (agree b0 o0 e0 ho0 p1) hb p1 he p2
      subst this
      rcases p4 with p4 | p4
      · exact .inl p4
      · have := live b0 p3; omega
  have old : ∀ b e, ¬ Touch H R b → φ' b = some e → φ b = some e := fun b e ht he => by
    rcases mv.dom b e he with h | ⟨h1, h2, _⟩
    · exact h
    · exact absurd (.inr ⟨h1, h2⟩) ht
  have mixed : ∀ b b' o o' e e', Touch H R b → ¬ Touch H R b' → k' b = some o → k' b' = some o' → φ' b = some e → φ' b' = some e' → e.blk = e'.blk → False := by
    intro b b' o o' e e' ht ht' hb hb' he he' hblk
    rw [(hk' b).1 ht] at hb
    rw [(hk' b').2 ht'] at hb'
    have hφ' := old b' e' ht' he'
    rcases mv.dom b e he with h | ⟨h1, h2, h3⟩
    · have hlt : b < H.next := by
        rcases Nat.lt_or_ge b H.next with h1 | h1
        · exact h1
        · have h2 : b < R.next := get_lt (H := R) (by rw [hb]; simp)
          rw [hf b h1 h2] at h; cases h
      have hl : b ∈ R.log := by
        rcases ht with ht | ht
        · exact ht
        · omega
      obtain ⟨o0, ho0⟩ := Option.ne_none_iff_exists'.1 (alog b e hl h (ha.live b hlt (by rw [hb]; simp)))
      have := hk.inj b b' o0 o' e e' ho0 hb' h hφ' hblk
      subst this
      exact ht' ht
    · exact ht' (mine b' o' e' hb' hφ' (hblk ▸ h3))
  refine ⟨?_, ?_⟩
  · intro b o e hb he
    by_cases ht : Touch H R b
    · rw [(hk' b).1 ht] at hb
      exact h'.obj b o e (by unfold aft; rw [if_pos ht]; exact hb) he
    · rw [(hk' b).2 ht] at hb
      have h1 := old b e ht he
      rw [mv.frame e.blk fun hm => ht (mine b o e hb h1 hm)]
      exact (hk.obj b o e hb h1).mono mv.ext
  · intro b b' o o' e e' hb hb' he he' hblk
    by_cases ht : Touch H R b
    · by_cases ht' : Touch H R b'
      · rw [(hk' b).1 ht] at hb
        rw [(hk' b').1 ht'] at hb'
        exact h'.inj b b' o o' e e' (by unfold aft; rw [if_pos ht]; exact hb) (by unfold aft; rw [if_pos ht']; exact hb') he he' hblk
      · exact (mixed b b' o o' e e' ht ht' hb hb' he he' hblk).elim
    · by_cases ht' : Touch H R b'
      · exact (mixed b' b o' o e' e ht' ht hb' hb he' he hblk.symm).elim
      · rw [(hk' b).2 ht] at hb
        rw [(hk' b').2 ht'] at hb'
        exact hk.inj b b' o o' e e' hb hb' (old b e ht he) (old b' e' ht' he') hblk
theorem edgesBack_spec : ∀ (k : Nat) (os : List Oper), edgesBack k os = true → ∀ i o, os[i]? = some o → ∀ e ∈ o.after, Region.binds .any e = true → e.on < k + i
  | k, [], _, i, o, h, _, _, _ => by simp at h
  | k, p :: rest, h, i, o, ho, e, he, hb => by
    simp only [edgesBack, Bool.and_eq_true, List.all_eq_true] at h
    cases i with
    | zero =>
      simp only [List.getElem?_cons_zero, Option.some.injEq] at ho
      subst ho
      have := h.1 e (by simpa using he)
      simp [hb] at this
      omega
    | succ i =>
      simp only [List.getElem?_cons_succ] at ho
      have := edgesBack_spec (k + 1) rest h.2 i o ho e he hb
      omega
structure Known (P : Program) (ok : TypeId → Bool) (cf : Doors) (nt : Nat) (ops : Array Oper) (bt : Option Tmp) (frs : Nat → Fr) (hs rs : Nat → Heap) (prs : Nat → Option (AV × AV)) (cs : List Foot) : Prop where
  len : cs.length = ops.size
  step : ∀ i o, ops[i]? = some o → stepB P ok cf nt ops bt (frs i) (low (hs i)) o = some (frs (i + 1), rs i, prs i)
  next : ∀ i o, ops[i]? = some o → hs (i + 1) = lift (hs i) (rs i)
  foot : ∀ i o, ops[i]? = some o → cs[i]? = some (Foot.mk (readsB bt ops (frs i) o) (rs i).log (hs i).next (rs i).next)
  back : edgesBack 0 ops.toList = true
  tmps : tmpsAll ops 0 ops.toList = true
  order : orderedAll ops.toList cs 0 cs = true
  made : ∀ t, bt = some t → madeFirst t ops.toList = true
section
variable {P : Program} {ok : TypeId → Bool} {cf : Doors} {nt : Nat} {ops : Array Oper} {bt : Option Tmp} {frs : Nat → Fr} {hs rs : Nat → Heap} {prs : Nat → Option (AV × AV)} {cs : List Foot}
def touch (hs rs : Nat → Heap) (i b : Nat) : Prop := Touch (low (hs i)) (rs i) b
def dstAt (ops : Array Oper) (i : Nat) (t : Tmp) : Prop := ∃ o, ops[i]? = some o ∧ o.dst = some t
theorem at_lt {i : Nat} (h : i < ops.size) : ∃ o, ops[i]? = some o := ⟨ops[i], Array.getElem?_eq_getElem h⟩
theorem lt_at {i : Nat} {o : Oper} (h : ops[i]? = some o) : i < ops.size := (Array.getElem?_eq_some_iff.1 h).1
theorem Known.astep (hok : OkTypes P ok) (hc : DoorsOk P cf) (kn : Known P ok cf nt ops bt frs hs rs prs cs) {i : Nat} (h : i < ops.size) : AStep (low (hs i)) (rs i) := by
  obtain ⟨o, ho⟩ := at_lt h
  exact (stepB_astep hok hc (H := low (hs i)) rfl rfl (kn.step i o ho)).1
theorem Known.next_eq (hok : OkTypes P ok) (hc : DoorsOk P cf) (kn : Known P ok cf nt ops bt frs hs rs prs cs) {i : Nat} (h : i < ops.size) : (hs (i + 1)).next = (rs i).next ∧ (hs (i + 1)).get = (rs i).get := by
  obtain ⟨o, ho⟩ := at_lt h
  rw [kn.next i o ho]
  exact ⟨rfl, rfl⟩
theorem Known.up (hok : OkTypes P ok) (hc : DoorsOk P cf) (kn : Known P ok cf nt ops bt frs hs rs prs cs) {i : Nat} (h : i < ops.size) : AStep (hs i) (hs (i + 1)) := by
  have ha := kn.astep hok hc h
  obtain ⟨h1, h2⟩ := kn.next_eq hok hc h
  obtain ⟨o, ho⟩ := at_lt h
  have hn := kn.next i o ho
  refine ⟨by rw [h1]; exact ha.next, by rw [hn]; rfl, ?_, ?_, ?_⟩
  · intro b hb
    rw [hn]
    exact List.mem_append_right _ hb
  · intro b hb hw
    rw [h2]
    refine ha.keep b hb fun hx => hw ?_
    rcases hx with hx | hx
    · by_cases hfl : (hs i).floor ≤ b
      · exact .inr hfl
      · refine .inl ?_
        rw [hn]
        show b ∈ outerLog (hs i) (rs i).log
        unfold outerLog
        by_cases hl : b ∈ (hs i).log
        · exact List.mem_append_right _ hl
        · refine List.mem_append_left _ (List.mem_filter.2 ⟨hx, ?_⟩)
          simp [hl]; omega
    · have : (hs i).next ≤ b := hx
      omega
  · intro b hb hl
    rw [h2] at hl
    exact ha.live b hb hl
theorem Known.ups (hok : OkTypes P ok) (hc : DoorsOk P cf) (kn : Known P ok cf nt ops bt frs hs rs prs cs) {i : Nat} : ∀ (j : Nat), i ≤ j → j ≤ ops.size → AStep (hs i) (hs j)
  | 0, h, _ => by have : i = 0 := by omega
                  subst this; exact .refl _
  | j + 1, h, hj => by
    by_cases he : i = j + 1
    · subst he; exact .refl _
    · exact (Known.ups hok hc kn j (by omega) (by omega)).trans (kn.up hok hc (by omega))
theorem Known.still (hok : OkTypes P ok) (hc : DoorsOk P cf) (kn : Known P ok cf nt ops bt frs hs rs prs cs) {i : Nat} (h : i < ops.size) {b : Nat} (ht : ¬ touch hs rs i b) : (hs (i + 1)).get b = (hs i).get b := by
  have := aft_full (kn.astep hok hc h) rfl
  rw [(kn.next_eq hok hc h).2, ← this]
  unfold aft
  rw [if_neg (show ¬ Touch (low (hs i)) (rs i) b from ht)]
  rfl
theorem Known.clash (hok : OkTypes P ok) (hc : DoorsOk P cf) (kn : Known P ok cf nt ops bt frs hs rs prs cs) {i j : Nat} {oi oj : Oper} (hi : ops[i]? = some oi) (hj : ops[j]? = some oj) (hne : i ≠ j)
    (h : (⟨readsB bt ops (frs i) oi, (rs i).log, (hs i).next, (rs i).next⟩ : Foot).clash ⟨readsB bt ops (frs j) oj, (rs j).log, (hs j).next, (rs j).next⟩ = true) : apart ops.toList i j = true := by
  have := orderedAll_spec 0 cs kn.order i j _ _ (kn.foot i oi hi) (kn.foot j oj hj) (by omega) h
  simpa using this
theorem Known.writer (hok : OkTypes P ok) (hc : DoorsOk P cf) (kn : Known P ok cf nt ops bt frs hs rs prs cs) {i j b : Nat} {oi oj : Oper} (hi : ops[i]? = some oi) (hj : ops[j]? = some oj) (hne : i ≠ j) (hb : b ∈ (rs i).log)
    (h : (∀ l, readsB bt ops (frs j) oj = some l → b ∈ l) ∨ touch hs rs j b) : apart ops.toList i j = true := by
  refine kn.clash hok hc hi hj hne ?_
  unfold Foot.clash
  have hne2 : (rs i).log.isEmpty = false := by cases hl : (rs i).log with
    | nil => rw [hl] at hb; cases hb
    | cons _ _ => rfl
  simp only [hne2, Bool.not_false, Bool.true_and]
  cases hr : readsB bt ops (frs j) oj with
  | none => rfl
  | some l =>
    simp only [List.any_eq_true, Bool.or_eq_true, Bool.and_eq_true, decide_eq_true_eq]
    refine ⟨b, hb, ?_⟩
    rcases h with h | h | h
    · exact .inl (.inl (by simpa using h l hr))
    · exact .inl (.inr (by simpa using h))
    · exact .inr h
theorem Known.named (hok : OkTypes P ok) (hc : DoorsOk P cf) (kn : Known P ok cf nt ops bt frs hs rs prs cs) {i j : Nat} {oi oj : Oper} {t : Tmp} (hi : ops[i]? = some oi) (hd : oi.dst = some t) (hj : ops[j]? = some oj) (hne : i ≠ j) (h : t ∈ namesOf ops oj) : apart ops.toList j i = true := by
  have := tmpsAll_spec 0 ops.toList kn.tmps i oi t j oj (by rw [Array.getElem?_toList]; exact hi) hd hj (by omega) h
  simpa using this
end
end Go.Am
end
section
set_option linter.unusedSectionVars false
namespace Go.Am
open Classical in
noncomputable def pairsIn (prs : Nat → Option (AV × AV)) (S : Nat → Prop) : Nat → List (AV × AV)
  | 0 => []
  | n + 1 => pairsIn prs S n ++ (if S n then (prs n).toList else [])
theorem pairsIn_add {prs : Nat → Option (AV × AV)} {S : Nat → Prop} {j : Nat} (hj : ¬ S j) : ∀ n, (j < n → (pairsIn prs (fun i => S i ∨ i = j) n).Perm ((prs j).toList ++ pairsIn prs S n)) ∧ (n ≤ j → pairsIn prs (fun i => S i ∨ i = j) n = pairsIn prs S n)
  | 0 => ⟨fun h => by omega, fun _ => rfl⟩
  | n + 1 => by
    obtain ⟨h1, h2⟩ := pairsIn_add hj n
    refine ⟨fun h => ?_, fun h => ?_⟩
    · simp only [pairsIn]
      by_cases hn : j = n
      · subst hn
        rw [h2 (Nat.le_refl _), if_pos (.inr rfl), if_neg hj, List.append_nil]
        exact List.perm_append_comm
      · have hne : ¬ n = j := fun e => hn e.symm
        have := h1 (by omega)
        by_cases hs : S n
        · rw [if_pos (.inl hs), if_pos hs, ← List.append_assoc]
          exact this.append_right _
        · rw [if_neg (fun h => h.elim hs hne), if_neg hs, List.append_nil, List.append_nil]
          exact this
    · simp only [pairsIn]
      have hne : ¬ n = j := by omega
      rw [h2 (by omega)]
      by_cases hs : S n
      · rw [if_pos (.inl hs), if_pos hs]
      · rw [if_neg (fun h => h.elim hs hne), if_neg hs]
theorem pairsIn_same {prs : Nat → Option (AV × AV)} {S : Nat → Prop} {j : Nat} (h : prs j = none) : ∀ n, pairsIn prs (fun i => S i ∨ i = j) n = pairsIn prs S n
  | 0 => rfl
  | n + 1 => by
    simp only [pairsIn]
    rw [pairsIn_same h n]
    by_cases hn : n = j
    · subst hn; simp [h]
    · by_cases hs : S n
      · rw [if_pos (.inl hs), if_pos hs]
      · rw [if_neg (fun h => h.elim hs hn), if_neg hs]
theorem pairsIn_sub {prs : Nat → Option (AV × AV)} {S T : Nat → Prop} (h : ∀ i, S i → T i) : ∀ n, (pairsIn prs S n).Sublist (pairsIn prs T n)
  | 0 => .refl _
  | n + 1 => by
    simp only [pairsIn]
    refine (pairsIn_sub h n).append ?_
    by_cases hs : S n
    · rw [if_pos hs, if_pos (h n hs)]; exact .refl _
    · rw [if_neg hs]; exact List.nil_sublist _
theorem pairsIn_nil {prs : Nat → Option (AV × AV)} {S : Nat → Prop} : ∀ n, (∀ i, i < n → S i → prs i = none) → pairsIn prs S n = []
  | 0, _ => rfl
  | n + 1, h => by
    simp only [pairsIn]
    rw [pairsIn_nil n fun i hi => h i (by omega)]
    by_cases hs : S n
    · rw [if_pos hs, h n (by omega) hs]; rfl
    · rw [if_neg hs]; rfl
theorem pairsIn_all {prs : Nat → Option (AV × AV)} {S : Nat → Prop} {α : Type} : ∀ (cs : List (α × Option (AV × AV))) (n : Nat), n ≤ cs.length → (∀ i c, cs[i]? = some c → c.2 = prs i) → (∀ i, i < n → S i) → pairsIn prs S n = (cs.take n).filterMap (·.2)
  | cs, 0, _, _, _ => by simp [pairsIn]
  | cs, n + 1, hn, h, hs => by
    simp only [pairsIn]
    rw [pairsIn_all cs n (by omega) h fun i hi => hs i (by omega), if_pos (hs n (by omega))]
    have hlt : n < cs.length := by omega
    have hg : cs[n]? = some cs[n] := List.getElem?_eq_getElem hlt
    rw [List.take_add_one, hg, List.filterMap_append, ← h n _ hg]
    cases hp : cs[n].2 <;> simp [hp]
theorem apart_pairwise : ∀ {l : List (AV × AV)}, keysApart l = true → l.Pairwise fun a b => keyNe a.1 b.1 = true
  | [], _ => .nil
  | p :: l, h => by
    simp only [keysApart, Bool.and_eq_true, apartFrom, List.all_eq_true] at h
    exact .cons (fun x hx => h.1 x hx) (apart_pairwise h.2)
theorem pair_new {prs : Nat → Option (AV × AV)} {S : Nat → Prop} {n j : Nat} {p : AV × AV} (h : keysApart (pairsIn prs (fun _ => True) n) = true) (hj : ¬ S j) (hn : j < n) (hp : prs j = some p) :
    ∀ q ∈ pairsIn prs S n, keyNe p.1 q.1 = true := by
  have h1 := (apart_pairwise h).sublist (pairsIn_sub (S := fun i => S i ∨ i = j) (fun _ _ => trivial) n)
  have h2 := (List.Perm.pairwise_iff (R := fun a b : AV × AV => keyNe a.1 b.1 = true) (fun h => keyNe_comm h) ((pairsIn_add hj n).1 hn)).1 h1
  rw [hp] at h2
  cases h2 with
  | cons h3 _ => exact h3
theorem keyNe_same {d : TypeDesc} {k a : AV} (hk : keyOk d k = true) (h : keyNe k a = true) : sameKey d k a = some false := by
  cases k <;> cases a <;> simp only [keyNe] at h <;> try (cases h; done)
  all_goals simp only [sameKey]
  all_goals cases d <;> simp only [keyOk] at hk <;> try (cases hk; done)
  · simp at h ⊢; exact h
  · simp at h ⊢
    exact h
  · simp at h ⊢; exact h
theorem madeFirst_spec {t : Tmp} : ∀ {os : List Oper}, madeFirst t os = true → ∃ (im : Nat) (o : Oper), os[im]? = some o ∧ o.dst = some t ∧ (∀ (i : Nat) (o' : Oper), os[i]? = some o' → o'.dst = some t → i = im) ∧ ∀ (i : Nat) (o' : Oper), os[i]? = some o' → i < im → bagIns (some t) o' = none
  | [], h => by cases h
  | o :: os, h => by
    simp only [madeFirst] at h
    split at h
    · rename_i hd
      refine ⟨0, o, rfl, hd, fun i o' ho hd' => ?_, fun i _ _ hi => by omega⟩
      cases i with
      | zero => rfl
      | succ i =>
        exfalso
        simp only [List.getElem?_cons_succ] at ho
        simp only [List.all_eq_true, decide_eq_true_eq] at h
        exact h o' (List.mem_of_getElem? ho) hd'
    · rename_i hd
      simp only [Bool.and_eq_true, Option.isNone_iff_eq_none] at h
      obtain ⟨im, p, h1, h2, h3, h4⟩ := madeFirst_spec h.2
      refine ⟨im + 1, p, by simpa using h1, h2, fun i o' ho hd' => ?_, fun i o' ho hi => ?_⟩
      · cases i with
        | zero =>
          simp only [List.getElem?_cons_zero, Option.some.injEq] at ho
          subst ho
          exact absurd hd' hd
        | succ i => rw [h3 i o' (by simpa using ho) hd']
      · cases i with
        | zero =>
          simp only [List.getElem?_cons_zero, Option.some.injEq] at ho
          subst ho
          exact h.1
        | succ i => exact h4 i o' (by simpa using ho) (by omega)
theorem bagIns_some {t : Tmp} {o : Oper} {ty : TypeId} {k v : Operand} (h : bagIns (some t) o = some (ty, k, v)) : o.op = .insert ty (.tmp t) k v ∧ o.dst = none ∧ o.guard = none := by
  unfold bagIns at h
  split at h
  · rename_i t' ty' m k' v' h1 h2
    split at h
    · rename_i hc
      simp only [Bool.and_eq_true, Option.isNone_iff_eq_none, decide_eq_true_eq] at hc
      simp only [Option.some.injEq, Prod.mk.injEq] at h
      obtain ⟨rfl, rfl, rfl⟩ := h
      cases h1
      obtain ⟨rfl, h3, h4⟩ := hc
      exact ⟨h2, h3, h4⟩
    · cases h
  · cases h
section
variable {P : Program} {ok : TypeId → Bool} {cf : Doors}
def lone (b : Nat) (o : AObj) : Heap := { tr := Tr.nil.set (path b) (some o), next := b + 1, floor := b + 1, log := [] }
theorem lone_get {b c : Nat} {o : AObj} : (lone b o).get c = if c = b then some o else none := by
  unfold Heap.get lone
  simp only [Tr.get_set, Tr.get_nil]
  by_cases h : c = b
  · subst h; simp
  · rw [if_neg h, if_neg (fun e : path b = path c => h (path_inj e).symm)]; simp
theorem insert_lone {nt : Nat} {ops : Array Oper} {t b : Nat} {fr : Fr} {o : Oper} {ty : TypeId} {k v : Operand} {kv vv : AV} {es : List (AV × AV × Nat)} {clock : Nat}
    (h : bagIns (some t) o = some (ty, k, v)) (hb : fr.at t = .map b) (h1 : ev fr k = some kv) (h2 : ev fr v = some vv) (hk : bagKey P ty kv = true) (hn : ∀ e ∈ es, keyNe kv e.1 = true) :
    ∃ R, stepOp P ok cf nt ops fr (lone b (.map es clock)) o = some (fr, R) ∧ R.next = b + 1 ∧ R.log = [b] ∧ R.floor = b + 1 ∧ R.get b = some (.map (es ++ [(kv, vv, clock)]) (clock + 1)) := by
  obtain ⟨hop, hd, hg⟩ := bagIns_some h
  unfold bagKey at hk
  split at hk
  · rename_i kt et hu
    split at hk
    · rename_i d hu2
      have hf : findKey d kv es 0 = some none := findKey_all 0 fun e he => keyNe_same hk (hn e he)
      have hm : mapUpdate P (lone b (.map es clock)).get ty (.map b) kv vv = some (.put b (.map (es ++ [(kv, vv, clock)]) (clock + 1))) := by
        simp only [mapUpdate, hu, hu2, lone_get, if_true, hk, hf, Bool.not_true, Bool.false_eq_true, if_false]
      have hp : plainOp P ok fr (lone b (.map es clock)).get (b + 1) o = some (.undef, .put b (.map (es ++ [(kv, vv, clock)]) (clock + 1))) := by
        unfold plainOp
        rw [hop]
        have hm0 : ev fr (.tmp t) = some (.map b) := by simp only [ev, hb]
        simp only [hm0, h1, h2, hm, Option.map_some]
      have happ : (lone b (.map es clock)).app (.put b (.map (es ++ [(kv, vv, clock)]) (clock + 1))) = some { tr := (lone b (.map es clock)).tr.set (path b) (some (.map (es ++ [(kv, vv, clock)]) (clock + 1))), next := b + 1, floor := b + 1, log := [b] } := by
        simp only [Heap.app, lone_get, if_true, Option.isSome_some]
        simp [lone, noted]
      refine ⟨{ tr := (lone b (.map es clock)).tr.set (path b) (some (.map (es ++ [(kv, vv, clock)]) (clock + 1))), next := b + 1, floor := b + 1, log := [b] }, ?_, rfl, rfl, rfl, ?_⟩
      · unfold stepOp
        have hw : wanted ops fr o = true := by unfold wanted; rw [hg]
        rw [if_pos hw]
        unfold runOp
        rw [hop]
        simp only
        rw [show (lone b (.map es clock)).next = b + 1 from rfl, hp]
        simp only [happ, Option.map_some, hd, putAt]
      · unfold Heap.get
        simp [Tr.get_set]
    · cases hk
  · cases hk
end
end Go.Am
end
section
set_option linter.unusedSectionVars false
namespace Go.Am
section
variable {P : Program} {ok : TypeId → Bool} {cf : Doors} {nt : Nat} {ops : Array Oper} {bt : Option Tmp} {frs : Nat → Fr} {hs rs : Nat → Heap} {prs : Nat → Option (AV × AV)} {cs : List Foot}
def In (listed : Array Bool) (i : Nat) : Prop := listed.getD i false = true
noncomputable def memAt (ops : Array Oper) (hs rs : Nat → Heap) (S : Nat → Prop) : Get := fun b => lay (fun i => (hs i).get b) (fun i => touch hs rs i b) S ops.size
noncomputable def tmpAt (ops : Array Oper) (frs : Nat → Fr) (S : Nat → Prop) : Tmp → AV := fun t => lay (fun i => (frs i).at t) (fun i => dstAt ops i t) S ops.size
structure Inv (nt : Nat) (ops : Array Oper) (frs : Nat → Fr) (hs rs : Nat → Heap) (φ₀ : Emb) (a₀ : Act) (w₀ : World) (listed : Array Bool) (φ : Emb) (a : Act) (w : World) : Prop where
  size : listed.size = ops.size
  closed : Closed ops (In listed)
  mem : MRel φ (memAt ops hs rs (In listed)) w
  tmp : ∀ t, VRel φ (tmpAt ops frs (In listed) t) (a.tmps.getD t undef)
  nt : nt ≤ a.tmps.size
  defers : a.defers = a₀.defers
  ext : φ₀.Ext φ
  dom : ∀ b e, φ b = some e → φ₀ b = some e ∨ ((∃ i, i < ops.size ∧ In listed i ∧ (hs i).next ≤ b ∧ b < (hs (i + 1)).next) ∧ Mine φ₀ (hs 0).get (Wr (hs 0) (hs ops.size)) w₀ e.blk)
  frame : ∀ k, ¬ Mine φ₀ (hs 0).get (Wr (hs 0) (hs ops.size)) w₀ k → w.heap[k]? = w₀.heap[k]?
  grow : w₀.heap.size ≤ w.heap.size
  os : w.os = w₀.os
  tape : w.tape = w₀.tape
  output : w.output = w₀.output
theorem in_set {listed : Array Bool} {j : Nat} (hj : j < listed.size) (i : Nat) : In (listed.setIfInBounds j true) i ↔ In listed i ∨ i = j := by
  unfold In
  by_cases h : j = i
  · subst h
    simp [hj]
  · have h' : ¬ i = j := fun e => h e.symm
    simp [Array.getElem?_setIfInBounds_ne h, h']
theorem in_set_eq {listed : Array Bool} {j : Nat} (hj : j < listed.size) : In (listed.setIfInBounds j true) = fun i => In listed i ∨ i = j := by
  funext i; exact propext (in_set hj i)
theorem Inv.sees (hok : OkTypes P ok) (hc : DoorsOk P cf) (kn : Known P ok cf nt ops bt frs hs rs prs cs) {φ₀ φ : Emb} {a₀ a : Act} {w₀ w : World} {listed : Array Bool} (inv : Inv nt ops frs hs rs φ₀ a₀ w₀ listed φ a w) (hf : Fresh φ₀ (hs 0).next (hs ops.size).next)
    {j : Nat} {oj : Oper} (hj : ops[j]? = some oj) (hun : ¬ In listed j) (hready : ∀ e ∈ oj.after, Region.binds .any e = true → In listed e.on)
    {b : Nat} {e : Spot} (he : φ b = some e) (hb : b < (hs j).next) (dep : (∀ l, readsB bt ops (frs j) oj = some l → b ∈ l) ∨ touch hs rs j b) :
    memAt ops hs rs (In listed) b = (hs j).get b := by
  have hjn := lt_at hj
  have hrd : ∀ o, ops[j]? = some o → ∀ e ∈ o.after, Region.binds .any e = true → In listed e.on := fun o ho => by rw [hj] at ho; cases ho; exact hready
  unfold memAt
  rw [lay_skip (j := j) _ (Nat.le_of_lt hjn), lay_eq j]
  · intro i hi ht
    exact kn.still hok hc (by omega) ht
  · intro i hi ht
    rcases ht with ht | ⟨h1, h2⟩
    · obtain ⟨oi, hoi⟩ := at_lt (show i < ops.size by omega)
      exact before inv.closed hi (.inl (kn.writer hok hc hoi hj (by omega) ht dep)) hrd
    · rcases inv.dom b e he with h3 | ⟨⟨i', h3, h4, h5, h6⟩, _⟩
      · have h1' : (hs i).next ≤ b := h1
        have := (kn.ups hok hc (i := 0) i (by omega) (by omega)).next
        have h7 := (kn.next_eq hok hc (show i < ops.size by omega)).1
        have := (kn.ups hok hc (i := i + 1) ops.size (by omega) (Nat.le_refl _)).next
        rw [hf b (by omega) (by omega)] at h3
        cases h3
      · have h1' : (hs i).next ≤ b := h1
        have h7 := (kn.next_eq hok hc (show i < ops.size by omega)).1
        have : i = i' := by
          rcases Nat.lt_trichotomy i i' with h | h | h
          · have := (kn.ups hok hc (i := i + 1) i' (by omega) (by omega)).next; omega
          · exact h
          · have := (kn.ups hok hc (i := i' + 1) i (by omega) (by omega)).next; omega
        subst this
        exact h4
  · intro i h1 h2 ht
    by_cases hij : i = j
    · subst hij; exact hun
    · rcases ht with ht | ⟨h3, _⟩
      · obtain ⟨oi, hoi⟩ := at_lt h2
        exact behind inv.closed (show j < i by omega) (.inl (kn.writer hok hc hoi hj hij ht dep)) hun
      · have h3' : (hs i).next ≤ b := h3
        have := (kn.ups hok hc (i := j) i (by omega) (by omega)).next
        omega
theorem Inv.tmps (hok : OkTypes P ok) (hc : DoorsOk P cf) (kn : Known P ok cf nt ops bt frs hs rs prs cs) {φ₀ φ : Emb} {a₀ a : Act} {w₀ w : World} {listed : Array Bool} (inv : Inv nt ops frs hs rs φ₀ a₀ w₀ listed φ a w)
    {j : Nat} {oj : Oper} (hj : ops[j]? = some oj) (hun : ¬ In listed j) (hready : ∀ e ∈ oj.after, Region.binds .any e = true → In listed e.on)
    {t : Tmp} (ht : t ∈ namesOf ops oj) (hput : ∀ i, i < ops.size → ¬ dstAt ops i t → (frs (i + 1)).at t = (frs i).at t) : tmpAt ops frs (In listed) t = (frs j).at t := by
  have hjn := lt_at hj
  have hrd : ∀ o, ops[j]? = some o → ∀ e ∈ o.after, Region.binds .any e = true → In listed e.on := fun o ho => by rw [hj] at ho; cases ho; exact hready
  unfold tmpAt
  rw [lay_skip (j := j) _ (Nat.le_of_lt hjn), lay_eq j]
  · intro i hi hd
    exact hput i (by omega) hd
  · rintro i hi ⟨oi, hoi, hd⟩
    exact before inv.closed hi (.inr (kn.named hok hc hoi hd hj (by omega) ht)) hrd
  · rintro i h1 h2 ⟨oi, hoi, hd⟩
    by_cases hij : i = j
    · subst hij; exact hun
    · exact behind inv.closed (show j < i by omega) (.inr (kn.named hok hc hoi hd hj hij ht)) hun
theorem Known.put (hok : OkTypes P ok) (hc : DoorsOk P cf) (kn : Known P ok cf nt ops bt frs hs rs prs cs) {i : Nat} {o : Oper} (ho : ops[i]? = some o) : ∃ av, putAt nt (frs i) o.dst av = some (frs (i + 1)) := by
  exact (stepB_astep hok hc (H := low (hs i)) rfl rfl (kn.step i o ho)).2
theorem Known.at_same (hok : OkTypes P ok) (hc : DoorsOk P cf) (kn : Known P ok cf nt ops bt frs hs rs prs cs) {i : Nat} (h : i < ops.size) {t : Tmp} (hd : ¬ dstAt ops i t) : (frs (i + 1)).at t = (frs i).at t := by
  obtain ⟨o, ho⟩ := at_lt h
  obtain ⟨av, hp⟩ := kn.put hok hc ho
  cases hdst : o.dst with
  | none => rw [hdst] at hp; simp only [putAt, Option.some.injEq] at hp; rw [← hp]
  | some d =>
    rw [hdst] at hp
    simp only [putAt] at hp
    split at hp
    · simp only [Option.some.injEq] at hp
      rw [← hp, at_set, if_neg]
      intro e
      subst e
      exact hd ⟨o, ho, hdst⟩
    · cases hp
structure After (hs rs : Nat → Heap) (j : Nat) (Rm : Heap) (av : AV) (mem mem' : Get) (φ φ' : Emb) (w w' : World) : Prop where
  ext : φ.Ext φ'
  size : w.heap.size ≤ w'.heap.size
  still : ∀ k, k < w.heap.size → (∀ b o e, mem b = some o → φ b = some e → e.blk ≠ k) → w'.heap[k]? = w.heap[k]? ∧ ∀ b o e, mem' b = some o → φ' b = some e → e.blk ≠ k
  full : ∃ g, MRel φ' (aft g (low (hs j)) Rm) w'
  fresh : Rm.log = [] → ∀ b e, φ' b = some e → (hs j).next ≤ b → b < Rm.next → w.heap.size ≤ e.blk
  old : Rm.log = [] → ∀ b o e, mem' b = some o → φ' b = some e → e.blk < w.heap.size ∨ ((hs j).next ≤ b ∧ b < Rm.next ∧ (rs j).get b = some o)
  value : ∃ v, VRel φ' av v
theorem Inv.step (hok : OkTypes P ok) (hc : DoorsOk P cf) (kn : Known P ok cf nt ops bt frs hs rs prs cs) {φ₀ φ : Emb} {a₀ a : Act} {w₀ w : World} {listed : Array Bool} (inv : Inv nt ops frs hs rs φ₀ a₀ w₀ listed φ a w) (hf : Fresh φ₀ (hs 0).next (hs ops.size).next)
    {j : Nat} {oj : Oper} (hj : ops[j]? = some oj) (hun : ¬ In listed j) (hready : ∀ e ∈ oj.after, Region.binds .any e = true → In listed e.on)
    (hnb : bagIns bt oj = none) {Rm : Heap} (hstep : stepOp P ok cf nt ops (frs j) (low (hs j)) oj = some (frs (j + 1), Rm)) (hlogs : (rs j).log = Rm.log) (hnexts : (rs j).next = Rm.next)
    (hsub : ∀ b, (rs j).get b ≠ none → (rs j).get b = Rm.get b)
    (ro : Option Nat) (K : Act → World → Prop) (Q : Exit → Act → World → Prop) (hK : ∀ a' w' φ' av, putAt nt (frs j) oj.dst av = some (frs (j + 1)) → Inv nt ops frs hs rs φ₀ a₀ w₀ (listed.setIfInBounds j true) φ' a' w' →
      After hs rs j Rm av (memAt ops hs rs (In listed)) (memAt ops hs rs (In (listed.setIfInBounds j true))) φ φ' w w' → K a' w') : wpOpIn (fence ro) 0 P ops Q j K a w := by
  have hjn := lt_at hj
  have ha := kn.astep hok hc hjn
  obtain ⟨_, av, hput, hrun⟩ := stepOp_view hok hc (H := low (hs j)) rfl rfl hstep
  have hreads : readsB bt ops (frs j) oj = readsAt ops (frs j) oj := by unfold readsB; rw [hnb]; rfl
  have htouch : ∀ b, Touch (low (hs j)) (rs j) b ↔ Touch (low (hs j)) Rm b := fun b => by unfold Touch; rw [hlogs, hnexts]
  have hwr : Wr (low (hs j)) Rm = Wr (low (hs j)) (rs j) := by funext b; unfold Wr; rw [hlogs]
  unfold wpOpIn
  simp only [hj]
  obtain ⟨g, hg⟩ : ∃ g, ViewF (readsAt ops (frs j) oj) (low (hs j)) g ∧ ∀ b, g b ≠ none → ∀ l, readsAt ops (frs j) oj = some l → b ∈ l := by
    cases hr : readsAt ops (frs j) oj with
    | none => exact ⟨(hs j).get, ⟨fun _ _ => rfl, rfl⟩, fun _ _ l hl => by cases hl⟩
    | some l =>
      refine ⟨fun b => if b ∈ l then (hs j).get b else none, ⟨fun b hb => ?_, fun b hb => if_pos hb⟩, fun b hb l' hl' => ?_⟩
      · by_cases hm : b ∈ l
        · exact if_pos hm
        · exact absurd (if_neg hm) hb
      · cases hl'
        by_cases hm : b ∈ l
        · exact hm
        · exact absurd (if_neg hm) hb
  obtain ⟨hv, hdep⟩ := hg
  have hgs : ∀ b, g b ≠ none → g b = (hs j).get b := hv.1
  have glow : ∀ b, g b ≠ none → b < (hs j).next := fun b hb => get_lt (H := hs j) (by rw [← hgs b hb]; exact hb)
  have agree : ∀ b o e, g b = some o → φ b = some e → memAt ops hs rs (In listed) b = some o := by
    intro b o e hb he
    have hne : g b ≠ none := by simp [hb]
    rw [inv.sees hok hc kn hf hj hun hready he (glow b hne) (.inl (by rw [hreads]; exact hdep b hne)), ← hgs b hne, hb]
  have gM : MRel φ g w := by
    refine ⟨fun b o e hb he => inv.mem.obj b o e (agree b o e hb he) he, fun b b' o o' e e' hb hb' he he' hk => ?_⟩
    exact inv.mem.inj b b' o o' e e' (agree b o e hb he) (agree b' o' e' hb' he') he he' hk
  have same := fun {t : Tmp} (ht : t ∈ namesOf ops oj) => inv.tmps hok hc kn hj hun hready ht fun i hi hd => kn.at_same hok hc hi hd
  have hnames : ∀ t, t ∈ namesOf ops oj → VRel φ ((frs j).at t) (a.tmps.getD t undef) := fun t ht => by rw [← same ht]; exact inv.tmp t
  have hsees : Sees φ (frs j) a oj.op.operands.toList := by
    intro x hx v hxv
    cases x with
    | tmp t =>
      simp only [ev, Option.some.injEq] at hxv
      subst hxv
      exact hnames t (List.mem_append_left _ (List.mem_append_right _ (List.mem_filterMap.2 ⟨.tmp t, hx, rfl⟩)))
    | const c => exact ofVal_rel hxv
    | global _ => simp [ev] at hxv
    | func f => simp only [ev, Option.some.injEq] at hxv; subst hxv; exact .func .nil .nil
  have hguard : ∀ d, guardTmp ops oj = some d → VRel φ ((frs j).at d) (a.tmps.getD d undef) := by
    intro d hd
    refine hnames d (List.mem_append_right _ ?_)
    unfold guardTmp at hd
    split at hd
    · rename_i gi want hgd
      simp only [hgd]
      simp [hd]
    · cases hd
  have hfj : Fresh φ (low (hs j)).next Rm.next := by
    rw [← hnexts]
    intro b h1 h2
    cases hb : φ b with
    | none => rfl
    | some e =>
      exfalso
      have h1' : (hs j).next ≤ b := h1
      have hn := (kn.next_eq hok hc hjn).1
      have u1 := (kn.ups hok hc (i := 0) j (by omega) (by omega)).next
      have u2 := (kn.ups hok hc (i := j + 1) ops.size (by omega) (Nat.le_refl _)).next
      rcases inv.dom b e hb with h3 | ⟨⟨i', h3, h4, h5, h6⟩, _⟩
      · rw [hf b (by omega) (by omega)] at h3; cases h3
      · have : j = i' := by
          rcases Nat.lt_trichotomy j i' with h | h | h
          · have := (kn.ups hok hc (i := j + 1) i' (by omega) (by omega)).next; omega
          · exact h
          · have := (kn.ups hok hc (i := i' + 1) j (by omega) (by omega)).next; omega
        subst this
        exact hun h4
  refine hrun ro g φ a w K Q hv gM hsees hguard hfj fun v w' φ' hv1 hMm mvm => ?_
  rw [← hnexts] at hfj
  have hM1 : MRel φ' (aft g (low (hs j)) (rs j)) w' := by
    have sub : ∀ b o, aft g (low (hs j)) (rs j) b = some o → aft g (low (hs j)) Rm b = some o := by
      intro b o hb
      unfold aft at hb ⊢
      by_cases ht : Touch (low (hs j)) (rs j) b
      · rw [if_pos ht] at hb
        rw [if_pos ((htouch b).1 ht), ← hsub b (by rw [hb]; simp)]; exact hb
      · rw [if_neg ht] at hb
        rw [if_neg (fun h => ht ((htouch b).2 h))]; exact hb
    exact ⟨fun b o e hb he => hMm.obj b o e (sub b o hb) he, fun b b' o o' e e' hb hb' he he' => hMm.inj b b' o o' e e' (sub b o hb) (sub b' o' hb') he he'⟩
  have mv1 : Moves φ φ' g (low (hs j)).next (rs j).next (Wr (low (hs j)) (rs j)) w w' := by rw [hnexts, ← hwr]; exact mvm
  have hjl : j < listed.size := inv.size ▸ hjn
  have hset := in_set_eq hjl
  have hn := kn.next_eq hok hc hjn
  have mine : ∀ k, Mine φ g (Wr (low (hs j)) (rs j)) w k → Mine φ₀ (hs 0).get (Wr (hs 0) (hs ops.size)) w₀ k := by
    intro k hk
    rcases hk with hk | ⟨b, e, p1, p2, p3, p4⟩
    · exact .inl (Nat.le_trans inv.grow hk)
    · rcases inv.dom b e p1 with h3 | ⟨_, h3⟩
      · have hlt := glow b p3
        have hlt0 : b < (hs 0).next := by
          rcases Nat.lt_or_ge b (hs 0).next with h | h
          · exact h
          · have u2 := (kn.ups hok hc (i := j) ops.size (by omega) (Nat.le_refl _)).next
            rw [hf b h (by omega)] at h3; cases h3
        have up := kn.ups hok hc (i := 0) j (by omega) (by omega)
        refine .inr ⟨b, e, h3, p2, up.live b hlt0 (by rw [← hgs b p3]; exact p3), ?_⟩
        rcases p4 with p4 | p4
        · by_cases hfl : (hs 0).floor ≤ b
          · exact .inr hfl
          · refine .inl ((kn.ups hok hc (i := j + 1) ops.size (by omega) (Nat.le_refl _)).log b ?_)
            rw [kn.next j oj hj]
            show b ∈ outerLog (hs j) (rs j).log
            unfold outerLog
            by_cases hl : b ∈ (hs j).log
            · exact List.mem_append_right _ hl
            · refine List.mem_append_left _ (List.mem_filter.2 ⟨p4, ?_⟩)
              have := up.floor
              simp [hl]; omega
        · have : (hs j).next ≤ b := p4
          omega
      · rw [← p2]; exact h3
  have notMine : ∀ k, k < w.heap.size → (∀ b o e, memAt ops hs rs (In listed) b = some o → φ b = some e → e.blk ≠ k) → ¬ Mine φ g (Wr (low (hs j)) (rs j)) w k := by
    intro k hk hno hm
    rcases hm with hm | ⟨b, e, p1, p2, p3, _⟩
    · omega
    · obtain ⟨o, ho⟩ := Option.ne_none_iff_exists'.1 p3
      exact hno b o e (agree b o e ho p1) p1 p2
  have keyMem : ∀ b, memAt ops hs rs (In (listed.setIfInBounds j true)) b = open Classical in if touch hs rs j b then (hs (j + 1)).get b else memAt ops hs rs (In listed) b := by
    intro b
    unfold memAt
    rw [hset]
    refine (lay_add (v := fun i => (hs i).get b) (T := fun i => touch hs rs i b) (S := In listed) (j := j) ops.size fun i h1 h2 hti htj => ?_).1 hjn
    obtain ⟨oi, hoi⟩ := at_lt h2
    rcases htj with hlj | htj
    · exact behind inv.closed h1 (.inr (kn.writer hok hc hj hoi (by omega) hlj (.inr hti))) hun
    · rcases hti with hli | hti
      · exact behind inv.closed h1 (.inl (kn.writer hok hc hoi hj (by omega) hli (.inr (.inr htj)))) hun
      · have h5 : (hs i).next ≤ b := hti.1
        have h6 := htj.2
        have := (kn.ups hok hc (i := j + 1) i (by omega) (by omega)).next
        omega
  have noNew : ∀ k, k < w.heap.size → (∀ b o e, memAt ops hs rs (In listed) b = some o → φ b = some e → e.blk ≠ k) → ∀ b o e, memAt ops hs rs (In (listed.setIfInBounds j true)) b = some o → φ' b = some e → e.blk ≠ k := by
    intro k hk hno b o e hb he hblk
    rcases mv1.dom b e he with h | ⟨h1, h2, h3⟩
    · rw [keyMem] at hb
      by_cases ht : touch hs rs j b
      · rw [if_pos ht, hn.2] at hb
        rcases Nat.lt_or_ge b (hs j).next with hlt | hge
        · have hl := ha.live b hlt (by rw [hb]; simp)
          obtain ⟨o1, ho1⟩ := Option.ne_none_iff_exists'.1 hl
          have hs1 := inv.sees hok hc kn hf hj hun hready h hlt (.inr ht)
          exact hno b o1 e (by rw [hs1]; exact ho1) h hblk
        · have : b < (rs j).next := get_lt (H := rs j) (by rw [hb]; simp)
          rw [hfj b hge this] at h
          cases h
      · rw [if_neg ht] at hb
        exact hno b o e hb h hblk
    · exact notMine k hk hno (hblk ▸ h3)
  have hvalue : ∃ v, VRel φ' av v := ⟨v, hv1⟩
  have freshMine : (rs j).log = [] → ∀ k, Mine φ g (Wr (low (hs j)) (rs j)) w k → w.heap.size ≤ k := by
    intro hl k hm
    rcases hm with hm | ⟨b, e, p1, p2, p3, p4⟩
    · exact hm
    · exfalso
      rcases p4 with p4 | p4
      · rw [hl] at p4; cases p4
      · have h5 := glow b p3
        have : (hs j).next ≤ b := p4
        omega
  refine hK _ w' φ' av hput ?_ ⟨mv1.ext, mv1.size, fun k hk hno => ⟨mv1.frame k (notMine k hk hno), noNew k hk hno⟩, ⟨g, hMm⟩, fun hl b e he h1 h2 => ?_, fun hl b o e hb he => ?_, hvalue⟩
  rotate_left
  · rcases mv1.dom b e he with h | ⟨_, _, h3⟩
    · rw [hfj b h1 (by rw [hnexts]; exact h2)] at h; cases h
    · exact freshMine (by rw [hlogs]; exact hl) _ h3
  · rcases mv1.dom b e he with h | ⟨h1, h2, h3⟩
    · rw [keyMem] at hb
      by_cases ht : touch hs rs j b
      · rcases ht with ht | ht
        · rw [hlogs, hl] at ht; cases ht
        · rw [hfj b ht.1 ht.2] at h; cases h
      · rw [if_neg ht] at hb
        exact .inl (inv.mem.lt hb h)
    · refine .inr ⟨h1, by rw [← hnexts]; exact h2, ?_⟩
      rw [keyMem, if_pos (show touch hs rs j b from .inr ⟨h1, h2⟩), hn.2] at hb
      exact hb
  refine ⟨by simpa using inv.size, ?_, ?_, ?_, ?_, ?_, inv.ext.trans mv1.ext, ?_, ?_, Nat.le_trans inv.grow mv1.size, mv1.os.trans inv.os, mv1.tape.trans inv.tape, mv1.output.trans inv.output⟩
  · intro k o ho hk e he hb
    rw [in_set hjl] at hk ⊢
    rcases hk with hk | rfl
    · exact .inl (inv.closed k o ho hk e he hb)
    · rw [hj] at ho; cases ho
      exact .inl (hready e he hb)
  ·
    have later : ∀ b i, j < i → i < ops.size → touch hs rs i b → touch hs rs j b → ¬ In listed i := by
      intro b i h1 h2 hti htj
      obtain ⟨oi, hoi⟩ := at_lt h2
      rcases htj with hlj | htj
      · exact behind inv.closed h1 (.inr (kn.writer hok hc hj hoi (by omega) hlj (.inr hti))) hun
      · rcases hti with hli | hti
        · exact behind inv.closed h1 (.inl (kn.writer hok hc hoi hj (by omega) hli (.inr (.inr htj)))) hun
        · have h5 : (hs i).next ≤ b := hti.1
          have h6 := htj.2
          have := (kn.ups hok hc (i := j + 1) i (by omega) (by omega)).next
          omega
    refine merge (H := low (hs j)) (R := rs j) (G := (rs j).get) rfl ha rfl inv.mem hgs agree ?_ hfj hM1 mv1 ?_
    · intro b e hl he hlive
      have hb : b < (hs j).next := get_lt (H := hs j) hlive
      rw [inv.sees hok hc kn hf hj hun hready he hb (.inr (.inl hl))]
      exact hlive
    · intro b
      have key := (lay_add (v := fun i => (hs i).get b) (T := fun i => touch hs rs i b) (S := In listed) (j := j) ops.size fun i h1 h2 h3 h4 => later b i h1 h2 h3 h4).1 hjn
      unfold memAt
      rw [hset, key]
      refine ⟨fun ht => ?_, fun ht => ?_⟩
      · rw [if_pos (show touch hs rs j b from ht)]
        exact congrFun hn.2 b
      · exact if_neg ht
  ·
    intro t
    have key := (lay_add (v := fun i => (frs i).at t) (T := fun i => dstAt ops i t) (S := In listed) (j := j) ops.size (by
      rintro i h1 h2 ⟨oi, hoi, hdi⟩ ⟨oj', hoj', hdj⟩
      rw [hj] at hoj'; cases hoj'
      exact behind inv.closed h1 (.inr (kn.named hok hc hoi hdi hj (by omega) (List.mem_append_left _ (List.mem_append_left _ (by simp [hdj]))))) hun)).1 hjn
    unfold tmpAt
    rw [hset, key]
    have hold := (inv.tmp t).mono mv1.ext
    have hnt := inv.nt
    by_cases hd : dstAt ops j t
    · rw [if_pos hd]
      obtain ⟨oj', hoj', hdj⟩ := hd
      rw [hj] at hoj'; cases hoj'
      rw [hdj] at hput ⊢
      simp only [putAt] at hput
      split at hput
      · rename_i hlt
        simp only [Option.some.injEq] at hput
        rw [← hput, at_set, if_pos rfl]
        simp only [Act.put, Array.getD_eq_getD_getElem?, Array.getElem?_setIfInBounds]
        rw [if_pos trivial, if_pos (Nat.lt_of_lt_of_le hlt hnt)]
        exact hv1
      · cases hput
    · rw [if_neg hd]
      cases hdj : oj.dst with
      | none => exact hold
      | some d =>
        have hne : d ≠ t := fun e => hd ⟨oj, hj, e ▸ hdj⟩
        simp only [Act.put, Array.getD_eq_getD_getElem?, Array.getElem?_setIfInBounds]
        rw [if_neg hne]
        have hold' := hold
        rw [Array.getD_eq_getD_getElem?] at hold'
        exact hold'
  · cases oj.dst with
    | none => exact inv.nt
    | some d => simpa [Act.put] using inv.nt
  · cases oj.dst with
    | none => exact inv.defers
    | some d => exact inv.defers
  · intro b e he
    rcases mv1.dom b e he with h | ⟨h1, h2, h3⟩
    · rcases inv.dom b e h with h | ⟨⟨i, h4, h5, h6⟩, h7⟩
      · exact .inl h
      · exact .inr ⟨⟨i, h4, (in_set hjl i).2 (.inl h5), h6⟩, h7⟩
    · exact .inr ⟨⟨j, hjn, (in_set hjl j).2 (.inr rfl), h1, by rw [hn.1]; exact h2⟩, mine _ h3⟩
  · intro k hk
    rw [mv1.frame k fun h => hk (mine k h), inv.frame k hk]
end
end Go.Am
end
section
set_option linter.unusedSectionVars false
namespace Go.Am
section
variable {P : Program} {ok : TypeId → Bool} {cf : Doors} {nt : Nat} {ops : Array Oper} {bt : Option Tmp} {frs : Nat → Fr} {hs rs : Nat → Heap} {prs : Nat → Option (AV × AV)} {cs : List Foot}
def Priv (ops : Array Oper) (bt : Option Tmp) (hs rs : Nat → Heap) (prs : Nat → Option (AV × AV)) (w₀ : World) (listed : Array Bool) (φ : Emb) (w : World) : Prop :=
  ∀ t im o, bt = some t → ops[im]? = some o → o.dst = some t → In listed im → ∃ e ms clock es', φ (hs im).next = some e ∧ w₀.heap.size ≤ e.blk ∧ w.heap[e.blk]? = some (.map ms clock) ∧ ERels φ es' ms.toList ∧
    (pairsOf es').Perm (pairsIn prs (In listed) ops.size) ∧ ∀ b o e', memAt ops hs rs (In listed) b = some o → φ b = some e' → e'.blk ≠ e.blk
theorem some_lt {w : World} {k : Nat} {x : Obj} (h : w.heap[k]? = some x) : k < w.heap.size := (Array.getElem?_eq_some_iff.1 h).1
theorem Known.make (hok : OkTypes P ok) (hc : DoorsOk P cf) (kn : Known P ok cf nt ops bt frs hs rs prs cs) {t : Tmp} (ht : bt = some t) : ∃ (im : Nat) (om : Oper), ops[im]? = some om ∧ om.dst = some t ∧ (∀ (i : Nat) (o : Oper), ops[i]? = some o → o.dst = some t → i = im) ∧ ∀ (i : Nat) (o : Oper), ops[i]? = some o → i ≤ im → bagIns bt o = none := by
  obtain ⟨im, om, h1, h2, h3, h4⟩ := madeFirst_spec (kn.made t ht)
  refine ⟨im, om, by rw [← Array.getElem?_toList]; exact h1, h2, fun i o ho hd => h3 i o (by rw [Array.getElem?_toList]; exact ho) hd, fun i o ho hi => ?_⟩
  by_cases he : i = im
  · subst he
    rw [Array.getElem?_toList, ho] at h1
    cases h1
    cases hb : bagIns bt om with
    | none => rfl
    | some x =>
      obtain ⟨ty, k, v⟩ := x
      rw [ht] at hb
      rw [(bagIns_some hb).2.1] at h2
      cases h2
  · rw [ht]
    exact h4 i o (by rw [Array.getElem?_toList]; exact ho) (by omega)
theorem Known.made_at (hok : OkTypes P ok) (hc : DoorsOk P cf) (kn : Known P ok cf nt ops bt frs hs rs prs cs) {t : Tmp} (ht : bt = some t) {im : Nat} {om : Oper} (hm : ops[im]? = some om) (hd : om.dst = some t) :
    ∃ Rm c, stepOp P ok cf nt ops (frs im) (low (hs im)) om = some (frs (im + 1), Rm) ∧ bagIns bt om = none ∧ prs im = none ∧ rs im = Rm.kill (hs im).next ∧ (frs (im + 1)).at t = .map (hs im).next ∧ Rm.get (hs im).next = some (.map [] c) ∧ Rm.log = [] := by
  rcases stepB_cases (kn.step im om hm) with ⟨t', ty, k, v, kv, vv, rfl, hb, _⟩ | ⟨h0, hp, Rm, h1, h2, h3, h4, h5⟩
  · rw [(bagIns_some hb).2.1] at hd; cases hd
  · rcases h5 with ⟨_, h5⟩ | ⟨t', c, h6, h7, h8, h9, h10, h11⟩
    · exact absurd hd (h5 t ht)
    · rw [ht] at h6; cases h6
      exact ⟨Rm, c, h1, h0, hp, h8, h9, h10, h11⟩
theorem Known.upd_at (hok : OkTypes P ok) (hc : DoorsOk P cf) (kn : Known P ok cf nt ops bt frs hs rs prs cs) {t : Tmp} {i j : Nat} (hij : i ≤ j) (hj : j ≤ ops.size) (h : ∀ k, i ≤ k → k < j → ¬ dstAt ops k t) : (frs j).at t = (frs i).at t := by
  induction j with
  | zero => have : i = 0 := by omega
            subst this; rfl
  | succ j ih =>
    by_cases he : i = j + 1
    · subst he; rfl
    · rw [kn.at_same hok hc (by omega) (h j (by omega) (by omega))]
      exact ih (by omega) (by omega) fun k h1 h2 => h k h1 (by omega)
theorem Inv.step_other (hok : OkTypes P ok) (hc : DoorsOk P cf) (kn : Known P ok cf nt ops bt frs hs rs prs cs) {φ₀ φ : Emb} {a₀ a : Act} {w₀ w : World} {listed : Array Bool} (inv : Inv nt ops frs hs rs φ₀ a₀ w₀ listed φ a w) (pv : Priv ops bt hs rs prs w₀ listed φ w) (hf : Fresh φ₀ (hs 0).next (hs ops.size).next)
    {j : Nat} {oj : Oper} (hj : ops[j]? = some oj) (hun : ¬ In listed j) (hready : ∀ e ∈ oj.after, Region.binds .any e = true → In listed e.on)
    (hnb : bagIns bt oj = none)
    (ro : Option Nat) (K : Act → World → Prop) (Q : Exit → Act → World → Prop) (hK : ∀ a' w' φ', Inv nt ops frs hs rs φ₀ a₀ w₀ (listed.setIfInBounds j true) φ' a' w' → Priv ops bt hs rs prs w₀ (listed.setIfInBounds j true) φ' w' → K a' w') : wpOpIn (fence ro) 0 P ops Q j K a w := by
  have hjn := lt_at hj
  have hjl : j < listed.size := inv.size ▸ hjn
  have hset := in_set_eq hjl
  rcases stepB_cases (kn.step j oj hj) with ⟨t', ty, k, v, kv, vv, rfl, hb, _⟩ | ⟨_, hp, Rm, hstep, hlogs, hnexts, _, hcase⟩
  · rw [hnb] at hb; cases hb
  have hsub : ∀ b, (rs j).get b ≠ none → (rs j).get b = Rm.get b := by
    intro b hb
    rcases hcase with ⟨h1, _⟩ | ⟨_, _, _, _, h1, _⟩
    · rw [h1]
    · rw [h1, kill_get] at hb ⊢
      split
      · rename_i h; rw [if_pos h] at hb; exact absurd rfl hb
      · rfl
  refine inv.step hok hc kn hf hj hun hready hnb hstep hlogs hnexts hsub ro K Q fun a' w' φ' av hput inv' aft => hK a' w' φ' inv' ?_
  intro t im o ht him hd hin
  by_cases hij : im = j
  · subst hij
    rw [hj] at him; cases him
    rcases hcase with ⟨_, h1⟩ | ⟨t', c, h1, h2, h3, h4, h5, h6⟩
    · exact absurd hd (h1 t ht)
    · rw [ht] at h1; cases h1
      have hav : av = .map (hs im).next := by
        rw [hd] at hput
        simp only [putAt] at hput
        split at hput
        · simp only [Option.some.injEq] at hput
          rw [← hput, at_set, if_pos rfl] at h4
          exact h4
        · cases hput
      obtain ⟨v, hv⟩ := aft.value
      rw [hav] at hv
      cases hv with
      | map he =>
        rename_i e
        obtain ⟨g, hg⟩ := aft.full
        have hlt : (hs im).next < Rm.next := get_lt (H := Rm) (by show Rm.get (hs im).next ≠ none; rw [show (hs im).next = (low (hs im)).next from rfl, h5]; simp)
        have htc : Touch (low (hs im)) Rm (hs im).next := .inr ⟨Nat.le_refl _, hlt⟩
        have hlive : Am.aft g (low (hs im)) Rm (hs im).next = some (.map [] c) := by
          unfold Am.aft
          rw [if_pos htc]
          exact h5
        obtain ⟨ms, hm1, hm2⟩ := hg.obj _ _ e hlive he
        have hfr := aft.fresh h6 _ e he (Nat.le_refl _) hlt
        refine ⟨e, ms, c, [], he, Nat.le_trans inv.grow hfr, hm1, hm2, ?_, ?_⟩
        · rw [hset, pairsIn_same hp, pairsIn_nil]
          · exact .refl _
          · intro i hi hin'
            cases hpi : prs i with
            | none => rfl
            | some p =>
              exfalso
              obtain ⟨oi, hoi⟩ := at_lt hi
              rcases stepB_cases (kn.step i oi hoi) with ⟨t', ty, k, v, kv, vv, h7, hb, _⟩ | ⟨_, h7, _⟩
              · rw [ht] at h7; cases h7
                have hop := (bagIns_some (by rw [← ht]; exact hb)).1
                have hne : i ≠ im := fun e => by subst e; rw [hj] at hoi; cases hoi; rw [hnb] at hb; cases hb
                have hap := kn.named hok hc hj hd hoi (Ne.symm hne) (by
                  unfold namesOf
                  rw [hop]
                  refine List.mem_append_left _ (List.mem_append_right _ (List.mem_filterMap.2 ⟨.tmp t, ?_, rfl⟩))
                  simp [Op.operands])
                have hlt2 : im < i := by
                  rcases Nat.lt_trichotomy im i with h | h | h
                  · exact h
                  · exact absurd h.symm hne
                  · exfalso
                    obtain ⟨im', om', g1, g2, g3, g4⟩ := kn.make hok hc ht
                    have := g3 im oj hj hd
                    subst this
                    rw [g4 i oi hoi (by omega)] at hb; cases hb
                exact behind inv.closed hlt2 (.inl hap) hun hin'
              · rw [hpi] at h7; cases h7
        · intro b o e' hb he' hblk
          rcases aft.old h6 b o e' hb he' with h7 | ⟨h7, h8, h9⟩
          · omega
          · have hne : b ≠ (hs im).next := fun e => by
              subst e
              rw [h3, show (low (hs im)).next = (hs im).next from rfl, kill_get, if_pos rfl] at h9; cases h9
            refine hne (hg.inj b (hs im).next o _ e' e ?_ hlive he' he hblk)
            unfold Am.aft
            rw [if_pos (.inr ⟨h7, h8⟩), ← hsub b (by rw [h9]; simp)]
            exact h9
  · have hin0 : In listed im := by
      rw [in_set hjl] at hin
      exact hin.resolve_right hij
    obtain ⟨e, ms, clock, es', h1, h2, h3, h4, h5, h6⟩ := pv t im o ht him hd hin0
    obtain ⟨k1, k2⟩ := aft.still e.blk (some_lt h3) h6
    refine ⟨e, ms, clock, es', aft.ext _ _ h1, h2, by rw [k1]; exact h3, h4.mono aft.ext, ?_, k2⟩
    rw [hset, pairsIn_same hp]
    exact h5
theorem Inv.step_fill (hok : OkTypes P ok) (hc : DoorsOk P cf) (kn : Known P ok cf nt ops bt frs hs rs prs cs) (hap : keysApart (pairsIn prs (fun _ => True) ops.size) = true) {φ₀ φ : Emb} {a₀ a : Act} {w₀ w : World} {listed : Array Bool} (inv : Inv nt ops frs hs rs φ₀ a₀ w₀ listed φ a w) (pv : Priv ops bt hs rs prs w₀ listed φ w)
    {j : Nat} {oj : Oper} (hj : ops[j]? = some oj) (hun : ¬ In listed j) (hready : ∀ e ∈ oj.after, Region.binds .any e = true → In listed e.on)
    {x : TypeId × Operand × Operand} (hnb : bagIns bt oj = some x)
    (ro : Option Nat) (K : Act → World → Prop) (Q : Exit → Act → World → Prop) (hK : ∀ a' w' φ', Inv nt ops frs hs rs φ₀ a₀ w₀ (listed.setIfInBounds j true) φ' a' w' → Priv ops bt hs rs prs w₀ (listed.setIfInBounds j true) φ' w' → K a' w') : wpOpIn (fence ro) 0 P ops Q j K a w := by
  have hjn := lt_at hj
  have hjl : j < listed.size := inv.size ▸ hjn
  have hset := in_set_eq hjl
  rcases stepB_cases (kn.step j oj hj) with ⟨t, ty, k, v, kv, vv, ht, hb, hk1, hv1, hkey, hfr, hR, hpr⟩ | ⟨h0, _⟩
  rotate_left
  · rw [hnb] at h0; cases h0
  obtain ⟨im, om, hm, hd, honly, hfirst⟩ := kn.make hok hc ht
  obtain ⟨Rm, c, hms, hmb, hmp, hmr, hmt, hmg, hml⟩ := kn.made_at hok hc ht hm hd
  have hij : im < j := by
    rcases Nat.lt_or_ge im j with h | h
    · exact h
    · rw [hfirst j oj hj h] at hb; cases hb
  have hb' := hb
  rw [ht] at hb'
  obtain ⟨hop, hdst, hguard⟩ := bagIns_some hb'
  have htn : t ∈ namesOf ops oj := by
    unfold namesOf
    rw [hop]
    refine List.mem_append_left _ (List.mem_append_right _ (List.mem_filterMap.2 ⟨.tmp t, ?_, rfl⟩))
    simp [Op.operands]
  have hin : In listed im := before inv.closed hij (.inr (kn.named hok hc hm hd hj (by omega) htn)) fun o ho => by rw [hj] at ho; cases ho; exact hready
  obtain ⟨e, ms, clock, es', h1, h2, h3, h4, h5, h6⟩ := pv t im om ht hm hd hin
  have hat : (frs j).at t = .map (hs im).next := by
    rw [← hmt]
    refine kn.upd_at hok hc (i := im + 1) (by omega) (by omega) ?_
    rintro k' g1 g2 ⟨o', g3, g4⟩
    have := honly k' o' g3 g4
    omega
  have hne : ∀ q ∈ es', keyNe kv q.1 = true := by
    intro q hq
    exact pair_new hap hun hjn hpr (q.1, q.2.1) (h5.mem_iff.1 (List.mem_map.2 ⟨q, hq, rfl⟩))
  obtain ⟨Rf, hstep, hnext, hlog, hfloor, hget⟩ := insert_lone (P := P) (ok := ok) (cf := cf) (nt := nt) (ops := ops) (clock := clock) hb' hat hk1 hv1 hkey hne
  obtain ⟨_, av, hput, hrun⟩ := stepOp_view hok hc (H := lone (hs im).next (.map es' clock)) rfl rfl hstep
  unfold wpOpIn
  simp only [hj]
  have same := fun {t : Tmp} (ht : t ∈ namesOf ops oj) => inv.tmps hok hc kn hj hun hready ht fun i hi hd => kn.at_same hok hc hi hd
  have hnames : ∀ t, t ∈ namesOf ops oj → VRel φ ((frs j).at t) (a.tmps.getD t undef) := fun t ht => by rw [← same ht]; exact inv.tmp t
  have hsees : Sees φ (frs j) a oj.op.operands.toList := by
    intro x hx v hxv
    cases x with
    | tmp t =>
      simp only [ev, Option.some.injEq] at hxv
      subst hxv
      exact hnames t (List.mem_append_left _ (List.mem_append_right _ (List.mem_filterMap.2 ⟨.tmp t, hx, rfl⟩)))
    | const c => exact ofVal_rel hxv
    | global _ => simp [ev] at hxv
    | func f => simp only [ev, Option.some.injEq] at hxv; subst hxv; exact .func .nil .nil
  have hg0 : ∀ d, guardTmp ops oj = some d → VRel φ ((frs j).at d) (a.tmps.getD d undef) := by
    intro d hd
    unfold guardTmp at hd
    rw [hguard] at hd
    cases hd
  have lone_some : ∀ b o, (lone (hs im).next (.map es' clock)).get b = some o → b = (hs im).next ∧ o = .map es' clock := by
    intro b o hb
    rw [lone_get] at hb
    split at hb
    · rename_i he; exact ⟨he, by simpa using hb.symm⟩
    · cases hb
  have gM : MRel φ (lone (hs im).next (.map es' clock)).get w := by
    refine ⟨fun b o e1 hb he => ?_, fun b b' o o' e e' hb hb' _ _ _ => ?_⟩
    · obtain ⟨rfl, rfl⟩ := lone_some b o hb
      rw [h1] at he; cases he
      exact ⟨ms, h3, h4⟩
    · rw [(lone_some b o hb).1, (lone_some b' o' hb').1]
  refine hrun ro _ φ a w K Q ⟨fun _ _ => rfl, ?_⟩ gM hsees hg0 (fun b g1 g2 => ?_) fun v w' φ' _ hM1 mv1 => ?_
  · cases readsAt ops (frs j) oj with
    | none => rfl
    | some l => exact fun _ _ => rfl
  · exfalso
    rw [hnext] at g2
    have : (hs im).next + 1 ≤ b := g1
    omega
  have hφ : φ' = φ := by
    funext b
    cases hb : φ' b with
    | none => cases hb2 : φ b with
      | none => rfl
      | some e => rw [mv1.ext b e hb2] at hb; cases hb
    | some e =>
      rcases mv1.dom b e hb with h | ⟨g1, g2, _⟩
      · exact h.symm
      · rw [hnext] at g2
        have : (hs im).next + 1 ≤ b := g1
        omega
  subst hφ
  have hstill : ∀ k, k < w.heap.size → k ≠ e.blk → w'.heap[k]? = w.heap[k]? := by
    intro k g1 g2
    refine mv1.frame k fun hm => ?_
    rcases hm with hm | ⟨b, e1, p1, p2, p3, _⟩
    · omega
    · obtain ⟨o, ho⟩ := Option.ne_none_iff_exists'.1 p3
      have := (lone_some b o ho).1
      subst this
      rw [h1] at p1; cases p1
      exact g2 p2.symm
  have hputa : a.put oj.dst v = a := by rw [hdst]; rfl
  rw [hputa]
  have hnt : ∀ b, ¬ touch hs rs j b := by
    intro b hb
    unfold touch at hb
    rw [hR] at hb
    rcases hb with hb | hb
    · cases hb
    · omega
  have hmem : memAt ops hs rs (In (listed.setIfInBounds j true)) = memAt ops hs rs (In listed) := by
    funext b
    unfold memAt
    rw [hset, (lay_add (v := fun i => (hs i).get b) (T := fun i => touch hs rs i b) (S := In listed) (j := j) ops.size fun i _ _ _ htj => absurd htj (hnt b)).1 hjn, if_neg (hnt b)]
  have hnd : ∀ t, ¬ dstAt ops j t := by
    rintro t ⟨o, g1, g2⟩
    rw [hj] at g1; cases g1
    rw [hdst] at g2; cases g2
  have htmp : ∀ t, tmpAt ops frs (In (listed.setIfInBounds j true)) t = tmpAt ops frs (In listed) t := by
    intro t
    unfold tmpAt
    rw [hset, (lay_add (v := fun i => (frs i).at t) (T := fun i => dstAt ops i t) (S := In listed) (j := j) ops.size fun i _ _ _ htj => absurd htj (hnd t)).1 hjn, if_neg (hnd t)]
  have htouch : Touch (lone (hs im).next (.map es' clock)) Rf (hs im).next := .inl (by rw [hlog]; simp)
  obtain ⟨ms', hm1, hm2⟩ := hM1.obj (hs im).next (.map (es' ++ [(kv, vv, clock)]) (clock + 1)) e (by unfold aft; rw [if_pos htouch]; exact hget) h1
  refine hK a w' φ' ?_ ?_
  · refine ⟨by simpa using inv.size, ?_, ?_, ?_, inv.nt, inv.defers, inv.ext, ?_, ?_, Nat.le_trans inv.grow mv1.size, mv1.os.trans inv.os, mv1.tape.trans inv.tape, mv1.output.trans inv.output⟩
    · intro k o ho hk e he hb
      rw [in_set hjl] at hk ⊢
      rcases hk with hk | rfl
      · exact .inl (inv.closed k o ho hk e he hb)
      · rw [hj] at ho; cases ho
        exact .inl (hready e he hb)
    · rw [hmem]
      refine ⟨fun b o e1 hb he => ?_, inv.mem.inj⟩
      rw [hstill e1.blk (inv.mem.lt hb he) (h6 b o e1 hb he)]
      exact inv.mem.obj b o e1 hb he
    · intro t
      rw [htmp]; exact inv.tmp t
    · intro b e he
      rcases inv.dom b e he with h | ⟨⟨i, g1, g2, g3⟩, g4⟩
      · exact .inl h
      · exact .inr ⟨⟨i, g1, (in_set hjl i).2 (.inl g2), g3⟩, g4⟩
    · intro k hk
      have hlt : k < w₀.heap.size := by
        rcases Nat.lt_or_ge k w₀.heap.size with h | h
        · exact h
        · exact absurd (.inl h) hk
      rw [hstill k (Nat.lt_of_lt_of_le hlt inv.grow) (by omega), inv.frame k hk]
  · intro t' im' o' ht' him' hd' hin'
    rw [ht] at ht'; cases ht'
    have := honly im' o' him' hd'
    subst this
    refine ⟨e, ms', _, _, h1, h2, hm1, hm2, ?_, ?_⟩
    · rw [hset]
      refine List.Perm.trans ?_ ((pairsIn_add hun ops.size).1 hjn).symm
      rw [hpr]
      have : pairsOf (es' ++ [(kv, vv, clock)]) = pairsOf es' ++ [(kv, vv)] := by simp [pairsOf]
      rw [this]
      exact (h5.append_right _).trans List.perm_append_comm
    · rw [hmem]; exact h6
end
end Go.Am
end
section
set_option linter.unusedSectionVars false
namespace Go.Am
section
variable {P : Program} {ok : TypeId → Bool} {cf : Doors} {nt : Nat} {ops : Array Oper} {bt : Option Tmp}
theorem in_iff {listed : Array Bool} {j : Nat} (h : j < listed.size) : In listed j ↔ listed[j]? = some true := by
  unfold In
  rw [Array.getElem?_eq_getElem h]
  simp [h]
theorem any_ok (hok : OkTypes P ok) (hc : DoorsOk P cf) {frs : Nat → Fr} {hs rs : Nat → Heap} {prs : Nat → Option (AV × AV)} {cs : List Foot} (kn : Known P ok cf nt ops bt frs hs rs prs cs) (hap : bt ≠ none → keysApart (pairsIn prs (fun _ => True) ops.size) = true) {φ₀ : Emb} {a₀ : Act} {w₀ : World} (hf : Fresh φ₀ (hs 0).next (hs ops.size).next)
    (ro : Option Nat) {Q : Exit → Act → World → Prop} (hQ : ∀ a w φ listed, Inv nt ops frs hs rs φ₀ a₀ w₀ listed φ a w → Priv ops bt hs rs prs w₀ listed φ w → (∀ i, i < ops.size → In listed i) → Q .normal a w) :
    ∀ (fuel : Nat) (listed : Array Bool) (φ : Emb) (a : Act) (w : World), listed.toList.count false ≤ fuel → Inv nt ops frs hs rs φ₀ a₀ w₀ listed φ a w → Priv ops bt hs rs prs w₀ listed φ w → wpAnyIn (fence ro) 0 P .any ops Q fuel listed a w := by
  have unlisted : ∀ {listed : Array Bool} {φ : Emb} {a : Act} {w : World}, Inv nt ops frs hs rs φ₀ a₀ w₀ listed φ a w → Region.ready .any ops listed = [] → ∀ n i, i < n → i < ops.size → In listed i := by
    intro listed φ a w inv hr n
    induction n with
    | zero => intro i h; omega
    | succ n ih =>
      intro i h hi
      cases hl : listed.getD i false with
      | true => exact hl
      | false =>
        exfalso
        obtain ⟨o, ho⟩ := at_lt hi
        have : i ∈ Region.ready .any ops listed := by
          refine mem_ready.2 ⟨?_, o, ho, fun e he hb => ?_⟩
          · have hlt : i < listed.size := inv.size ▸ hi
            simp [hlt] at hl ⊢
            exact hl
          · have hlt := edgesBack_spec 0 ops.toList kn.back i o (by rw [Array.getElem?_toList]; exact ho) e he hb
            exact ih e.on (by omega) (by omega)
        rw [hr] at this
        cases this
  intro fuel
  induction fuel with
  | zero =>
    intro listed φ a w hcount inv pv
    have hnone : ∀ i, i < ops.size → In listed i := by
      intro i hi
      have hlt : i < listed.size := inv.size ▸ hi
      rw [in_iff hlt]
      have h0 : listed.toList.count false = 0 := by omega
      rw [List.count_eq_zero] at h0
      rw [Array.getElem?_eq_getElem hlt]
      cases hb : listed[i] with
      | true => rfl
      | false => exact absurd (by rw [← hb]; exact Array.getElem_mem_toList hlt) h0
    refine ⟨?_, hQ a w φ listed inv pv hnone⟩
    cases hr : Region.ready .any ops listed with
    | nil => rfl
    | cons j rest =>
      have hj : j ∈ Region.ready .any ops listed := by rw [hr]; simp
      obtain ⟨h0, o, ho, _⟩ := mem_ready.1 hj
      have := hnone j (lt_at ho)
      have hlt : j < listed.size := inv.size ▸ lt_at ho
      unfold In at this
      simp [hlt] at h0 this
      rw [this] at h0
      cases h0
  | succ fuel ih =>
    intro listed φ a w hcount inv pv
    refine ⟨fun hr => hQ a w φ listed inv pv fun i hi => unlisted inv hr (i + 1) i (by omega) hi, fun j hj => ?_⟩
    obtain ⟨h0, o, ho, hready⟩ := mem_ready.1 hj
    have hlt : j < listed.size := inv.size ▸ lt_at ho
    have hfalse : listed[j] = false := by simpa [hlt] using h0
    have hun : ¬ In listed j := by
      rw [in_iff hlt, Array.getElem?_eq_getElem hlt, hfalse]; simp
    have hnext : ∀ a' w' φ', Inv nt ops frs hs rs φ₀ a₀ w₀ (listed.setIfInBounds j true) φ' a' w' → Priv ops bt hs rs prs w₀ (listed.setIfInBounds j true) φ' w' → wpAnyIn (fence ro) 0 P .any ops Q fuel (listed.setIfInBounds j true) a' w' := by
      intro a' w' φ' inv' pv'
      refine ih _ φ' a' w' ?_ inv' pv'
      have hjl : j < listed.toList.length := by simpa using hlt
      rw [Array.toList_setIfInBounds, List.count_set hjl]
      have : listed.toList[j] = false := by simpa using hfalse
      have hpos : 0 < listed.toList.count false := List.count_pos_iff.2 (by rw [← this]; exact List.getElem_mem hjl)
      simp only [this, beq_self_eq_true, if_true, show (true == false) = false from rfl, Bool.false_eq_true, if_false]
      omega
    cases hb : bagIns bt o with
    | none => exact inv.step_other hok hc kn pv hf ho hun hready hb ro _ Q hnext
    | some x =>
      have hne : bt ≠ none := by
        intro e
        rw [e] at hb
        simp [bagIns] at hb
      exact inv.step_fill hok hc kn (hap hne) pv ho hun hready hb ro _ Q hnext
def wakeAll (bt : Option Tmp) (fr : Fr) (cs : List (Foot × Option (AV × AV))) (H H' : Heap) : Prop :=
  match bt with
  | none => H' = H
  | some t => keysApart (cs.filterMap (·.2)) = true ∧ ∃ b, fr.at t = .map b ∧ H' = H.wake b (.bag (cs.filterMap (·.2)))
theorem region_any_ok (hok : OkTypes P ok) (hc : DoorsOk P cf) {fr fr' : Fr} {H H1 H' : Heap} {cs : List (Foot × Option (AV × AV))} (h : runOpsT P ok cf nt ops bt ops.toList fr H = some (fr', H1, cs))
    (hb : edgesBack 0 ops.toList = true) (ht : tmpsAll ops 0 ops.toList = true) (hord : orderedAll ops.toList (cs.map (·.1)) 0 (cs.map (·.1)) = true) (hmade : ∀ t, bt = some t → madeFirst t ops.toList = true) (hwake : wakeAll bt fr' cs H1 H') :
    AStep H H' ∧ ∀ (ro : Option Nat) (φ : Emb) (a : Act) (w : World) (Q : Exit → Act → World → Prop), MRel φ H.get w → FRel φ fr a.tmps → nt ≤ a.tmps.size → Fresh φ H.next H'.next →
      (∀ a' w' φ', FRel φ' fr' a'.tmps → nt ≤ a'.tmps.size → a'.defers = a.defers → Step φ φ' H H' w w' → Q .normal a' w') →
      wpAnyIn (fence ro) 0 P .any ops Q ops.size (Array.replicate ops.size false) a w := by
  obtain ⟨frs, hs, rs, k1, k2, k3, k4, k5, k6⟩ := trace h
  have k5 : cs.length = ops.size := by simpa using k5
  have k6 : ∀ (i : Nat) (o : Oper), ops[i]? = some o → _ := fun i o ho => k6 i o (by rw [Array.getElem?_toList]; exact ho)
  have kp : ∀ (i : Nat) (o : Oper) (pr : Option (AV × AV)), ops[i]? = some o → stepB P ok cf nt ops bt (frs i) (low (hs i)) o = some (frs (i + 1), rs i, pr) → (cs[i]?).bind (·.2) = pr := by
    intro i o pr ho h1
    obtain ⟨pr', h2, _, h3⟩ := k6 i o ho
    rw [h1] at h2
    simp only [Option.some.injEq, Prod.mk.injEq, true_and] at h2
    rw [h3, h2]; rfl
  have kn : Known P ok cf nt ops bt frs hs rs (fun i => (cs[i]?).bind (·.2)) (cs.map (·.1)) := by
    refine ⟨by simpa using k5, fun i o ho => ?_, fun i o ho => ?_, fun i o ho => ?_, hb, ht, hord, hmade⟩
    · obtain ⟨pr, h1, _⟩ := k6 i o ho
      rw [kp i o pr ho h1]; exact h1
    · obtain ⟨pr, _, h2, _⟩ := k6 i o ho
      exact h2
    · obtain ⟨pr, _, _, h3⟩ := k6 i o ho
      rw [List.getElem?_map, h3]; rfl
  have k3' : frs ops.size = fr' := by simpa using k3
  have k4' : hs ops.size = H1 := by simpa using k4
  have up := kn.ups hok hc (i := 0) ops.size (by omega) (Nat.le_refl _)
  rw [k2, k4'] at up
  have hall : ∀ S : Nat → Prop, (∀ i, i < ops.size → S i) → pairsIn (fun i => (cs[i]?).bind (·.2)) S ops.size = cs.filterMap (·.2) := by
    intro S hS
    rw [pairsIn_all cs ops.size (by omega) (fun i c hc => by rw [hc]; rfl) hS, ← k5, List.take_length]
  have hap : bt ≠ none → keysApart (pairsIn (fun i => (cs[i]?).bind (·.2)) (fun _ => True) ops.size) = true := by
    intro hne
    rw [hall _ fun _ _ => trivial]
    unfold wakeAll at hwake
    cases hbt : bt with
    | none => exact absurd hbt hne
    | some t => rw [hbt] at hwake; exact hwake.1
  have behind' : H' = H1 ∨ ∃ t im om, bt = some t ∧ ops[im]? = some om ∧ om.dst = some t ∧ H' = H1.wake (hs im).next (.bag (cs.filterMap (·.2))) ∧ H.next ≤ (hs im).next ∧ (hs im).next < H1.next := by
    unfold wakeAll at hwake
    cases hbt : bt with
    | none => rw [hbt] at hwake; exact .inl hwake
    | some t =>
      rw [hbt] at hwake
      obtain ⟨_, b, h1, h2⟩ := hwake
      obtain ⟨im, om, hm, hd, honly, _⟩ := kn.make hok hc hbt
      obtain ⟨Rm, c, hms, hmb, hmp, hmr, hmt, hmg, hml⟩ := kn.made_at hok hc hbt hm hd
      have himn := lt_at hm
      have hat : fr'.at t = .map (hs im).next := by
        rw [← hmt, ← k3']
        refine kn.upd_at hok hc (i := im + 1) (by omega) (Nat.le_refl _) ?_
        rintro k' g1 g2 ⟨o', g3, g4⟩
        have := honly k' o' g3 g4
        omega
      rw [hat] at h1
      cases h1
      refine .inr ⟨t, im, om, rfl, hm, hd, h2, ?_, ?_⟩
      · have := (kn.ups hok hc (i := 0) im (by omega) (by omega)).next
        rw [k2] at this; exact this
      · have h3 := (kn.ups hok hc (i := im + 1) ops.size (by omega) (Nat.le_refl _)).next
        have h4 := (kn.next_eq hok hc himn).1
        rw [k4'] at h3
        have h5 : (rs im).next = Rm.next := by rw [hmr]; rfl
        have h6 : (hs im).next < Rm.next := get_lt (H := Rm) (by rw [hmg]; simp)
        omega
  have hnx : H'.next = H1.next := by
    rcases behind' with h | ⟨t, im, om, _, _, _, h, _⟩ <;> rw [h]
    rfl
  have hlg : H'.log = H1.log := by
    rcases behind' with h | ⟨t, im, om, _, _, _, h, _⟩ <;> rw [h]
    rfl
  have hgt : ∀ b, b < H.next → H'.get b = H1.get b := by
    intro b hb
    rcases behind' with h | ⟨t, im, om, _, _, _, h, h7, h8⟩
    · rw [h]
    · rw [h, wake_get h8, if_neg (by omega)]
  have hwr : Wr H H' = Wr H H1 := by funext b; unfold Wr; rw [hlg]
  have up' : AStep H H' := by
    refine ⟨by rw [hnx]; exact up.next, ?_, by rw [hlg]; exact up.log, fun b hb hw => ?_, fun b hb hl => ?_⟩
    · rcases behind' with h | ⟨t, im, om, _, _, _, h, _⟩
      · rw [h]; exact up.floor
      · rw [h]; exact up.floor
    · rw [hgt b hb]; exact up.keep b hb (by rw [← hwr]; exact hw)
    · rw [hgt b hb] at hl; exact up.live b hb hl
  refine ⟨up', fun ro φ a w Q hM hF hn hf hQ => ?_⟩
  rw [hnx] at hf
  have hin : ∀ i, ¬ In (Array.replicate ops.size false) i := by
    intro i hi
    unfold In at hi
    rw [Array.getD_eq_getD_getElem?, Array.getElem?_replicate] at hi
    split at hi <;> simp at hi
  have inv0 : Inv nt ops frs hs rs φ a w (Array.replicate ops.size false) φ a w := by
    refine ⟨by simp, fun j o ho hj => absurd hj (hin j), ?_, ?_, hn, rfl, .refl φ, fun _ _ he => .inl he, fun _ _ => rfl, Nat.le_refl _, rfl, rfl, rfl⟩
    · have : memAt ops hs rs (In (Array.replicate ops.size false)) = H.get := by
        funext b
        unfold memAt
        rw [lay_skip (j := 0) _ (Nat.zero_le _) fun i _ _ _ => hin i]
        show (hs 0).get b = _
        rw [k2]
      rw [this]; exact hM
    · intro t
      unfold tmpAt
      rw [lay_skip (j := 0) _ (Nat.zero_le _) fun i _ _ _ => hin i]
      show VRel φ ((frs 0).at t) _
      rw [k1]
      exact hF t
  have pv0 : Priv ops bt hs rs (fun i => (cs[i]?).bind (·.2)) w (Array.replicate ops.size false) φ w := fun t im o _ _ _ h => absurd h (hin im)
  refine any_ok hok hc kn hap (by rw [k2, k4']; exact hf) ro (fun a' w' φ' listed inv pv hall' => ?_) ops.size _ φ a w (by simp) inv0 pv0
  have hmem : memAt ops hs rs (In listed) = H1.get := by
    funext b
    unfold memAt
    rw [lay_all (fun i hi ht => kn.still hok hc hi ht) hall', k4']
  have hM1 : MRel φ' H1.get w' := by rw [← hmem]; exact inv.mem
  have hM' : MRel φ' H'.get w' := by
    rcases behind' with h | ⟨t, im, om, ht, hm, hd, h, h7, h8⟩
    · rw [h]; exact hM1
    · obtain ⟨e, ms, clock, es', p1, p2, p3, p4, p5, p6⟩ := pv t im om ht hm hd (hall' im (lt_at hm))
      rw [hall _ hall'] at p5
      rw [hmem] at p6
      have hk : keysApart (cs.filterMap (·.2)) = true := by
        have := hap (by rw [ht]; simp)
        rw [hall _ fun _ _ => trivial] at this; exact this
      rw [h]
      refine ⟨fun b o e1 hb he => ?_, fun b b' o o' e1 e1' hb hb' he he' hblk => ?_⟩
      · rw [wake_get h8] at hb
        split at hb
        · rename_i hbe
          subst hbe
          rw [p1] at he; cases he
          simp only [Option.some.injEq] at hb
          subst hb
          exact ⟨ms, clock, es', p3, p4, p5, hk⟩
        · exact hM1.obj b o e1 hb he
      · rw [wake_get h8] at hb hb'
        split at hb
        · rename_i hbe
          split at hb'
          · rename_i hbe'
            rw [hbe, hbe']
          · rw [hbe, p1] at he; cases he
            exact absurd hblk.symm (p6 b' o' e1' hb' he')
        · split at hb'
          · rename_i hbe'
            rw [hbe', p1] at he'; cases he'
            exact absurd hblk (p6 b o e1 hb he)
          · exact hM1.inj b b' o o' e1 e1' hb hb' he he' hblk
  refine hQ a' w' φ' (fun t => ?_) inv.nt inv.defers ⟨hM', ?_⟩
  · have := inv.tmp t
    unfold tmpAt at this
    rw [lay_all (fun i hi hd => kn.at_same hok hc hi hd) hall', k3'] at this
    exact this
  · rw [hnx, hwr]
    refine ⟨inv.ext, fun b e he => ?_, fun k hk => ?_, inv.grow, inv.os, inv.tape, inv.output⟩
    · rcases inv.dom b e he with h | ⟨⟨i, h1, h2, h3, h4⟩, h5⟩
      · exact .inl h
      · refine .inr ⟨?_, ?_, ?_⟩
        · have := (kn.ups hok hc (i := 0) i (by omega) (by omega)).next
          rw [k2] at this
          omega
        · have := (kn.ups hok hc (i := i + 1) ops.size (by omega) (Nat.le_refl _)).next
          rw [k4'] at this
          omega
        · rw [k2, k4'] at h5; exact h5
    · exact inv.frame k (by rw [k2, k4']; exact hk)
end
end Go.Am
end
section
set_option linter.unusedSectionVars false
namespace Go.Am
def Ex.of : Ex → Exit
  | .normal => .normal
  | .exit id => .exit id
  | .ret => .ret
def PrimsOk (P : Program) (prims : Prims) : Prop := ∀ f g, prims f = some g → CallOk P (fun f' xs H => if f' = f then g xs H else none)
def markOf (D : Nat) : Deferred := { target := .collected D, args := #[] }
def MarksAt (φ : Emb) (g : Get) (B : Nat) (w : World) (ds : List Nat) : Prop :=
  ds.Nodup ∧ ∀ D ∈ ds, B ≤ D ∧ w.heap[D]? = some (.deferred (some [])) ∧ ∀ b e, φ b = some e → g b ≠ none → e.blk ≠ D
structure Post (φ φ' : Emb) (H H' : Heap) (w w' : World) (a a' : Act) (fr' : Fr) (nt : Nat) : Prop where
  step : Step φ φ' H H' w w'
  frel : FRel φ' fr' a'.tmps
  nt : nt ≤ a'.tmps.size
  marks : ∃ ds : List Nat, a'.defers = ds.map markOf ++ a.defers ∧ MarksAt φ' H'.get w.heap.size w' ds
def RoOk (φ : Emb) (ro rc : Option Nat) : Prop :=
  match ro with
  | none => rc = none
  | some l => ∃ e, φ l = some e ∧ rc = some e.blk
theorem RoOk.mono {φ φ' : Emb} (hx : φ.Ext φ') {ro rc : Option Nat} (h : RoOk φ ro rc) : RoOk φ' ro rc := by
  cases ro with
  | none => exact h
  | some l => obtain ⟨e, h1, h2⟩ := h; exact ⟨e, hx _ _ h1, h2⟩
theorem MarksAt.keep {φ φ' : Emb} {H H' : Heap} {w w' : World} {B : Nat} {ds : List Nat} (h : MarksAt φ H.get B w ds) (s : Step φ φ' H H' w w') (ha : AStep H H') (hf : Fresh φ H.next H'.next) : MarksAt φ' H'.get B w' ds := by
  refine ⟨h.1, fun D hD => ?_⟩
  obtain ⟨h1, h2, h3⟩ := h.2 D hD
  have hlt : D < w.heap.size := (Array.getElem?_eq_some_iff.1 h2).1
  have hnot : ¬ Mine φ H.get (Wr H H') w D := by
    rintro (h | ⟨b, e, hb, hk, hl, _⟩)
    · omega
    · exact h3 b e hb hl hk
  refine ⟨h1, (s.mv.frame D hnot).trans h2, fun b e hb hl => ?_⟩
  rcases s.mv.dom b e hb with h | ⟨_, _, h⟩
  · have hbn : b < H.next := by
      rcases Nat.lt_or_ge b H.next with h1 | h1
      · exact h1
      · rw [hf b h1 (get_lt hl)] at h; cases h
    exact h3 b e h (ha.live b hbn hl)
  · intro he; subst he; exact hnot h
theorem MarksAt.append {φ : Emb} {g : Get} {w : World} {B B' : Nat} {ds ds' : List Nat} (h : MarksAt φ g B w ds) (h' : MarksAt φ g B' w ds') (hB : B ≤ B') (hlt : ∀ D ∈ ds, D < B') : MarksAt φ g B w (ds' ++ ds) := by
  refine ⟨List.nodup_append.2 ⟨h'.1, h.1, fun x hx y hy e => ?_⟩, fun D hD => ?_⟩
  · subst e
    have := (h'.2 x hx).1
    have := hlt x hy
    omega
  · rcases List.mem_append.1 hD with hD | hD
    · obtain ⟨h1, h2⟩ := h'.2 D hD
      exact ⟨by omega, h2⟩
    · exact h.2 D hD
theorem MarksAt.nil (φ : Emb) (g : Get) (B : Nat) (w : World) : MarksAt φ g B w [] := ⟨by simp, fun D hD => by simp at hD⟩
theorem Post.trans {φ φ1 φ2 : Emb} {H H1 H2 : Heap} {w w1 w2 : World} {a a1 a2 : Act} {fr1 fr2 : Fr} {nt : Nat} (s1 : Post φ φ1 H H1 w w1 a a1 fr1 nt) (s2 : Post φ1 φ2 H1 H2 w1 w2 a1 a2 fr2 nt)
    (h1 : AStep H H1) (h2 : AStep H1 H2) (hf : Fresh φ H.next H2.next) : Post φ φ2 H H2 w w2 a a2 fr2 nt := by
  refine ⟨s1.step.trans s2.step h1 h2 (hf.sub (Nat.le_refl _) h2.next), s2.frel, s2.nt, ?_⟩
  obtain ⟨ds1, d1, m1⟩ := s1.marks
  obtain ⟨ds2, d2, m2⟩ := s2.marks
  refine ⟨ds2 ++ ds1, by rw [d2, d1]; simp, (m1.keep s2.step h2 (s1.step.fresh h1 hf)).append m2 s1.step.mv.size fun D hD => ?_⟩
  exact (Array.getElem?_eq_some_iff.1 (m1.2 D hD).2.1).1
def CodeOk (P : Program) (ro : Option Nat) (nt : Nat) (c : Code) (fr : Fr) (H : Heap) (x : Ex) (fr' : Fr) (H' : Heap) : Prop :=
  AStep H H' ∧ ∀ (rc : Option Nat) (φ : Emb) (a : Act) (w : World) (Q : Exit → Act → World → Prop), RoOk φ ro rc → MRel φ H.get w → FRel φ fr a.tmps → nt ≤ a.tmps.size → Fresh φ H.next H'.next →
      (∀ a' w' φ', Post φ φ' H H' w w' a a' fr' nt → Q x.of a' w') → c.wpIn (fence rc) 0 P Q a w
section
variable {P : Program} {ok : TypeId → Bool}
theorem region_ok (hm : P.follows .mixedOrders = true) (hok : OkTypes P ok) {cf : Doors} (hc : DoorsOk P cf) {ro : Option Nat} {nt id : Nat} {ops : Array Oper} {draw : Bool} {fr fr' : Fr} {H H' : Heap} {x : Ex} (h : region P ok cf nt ops draw fr H = .done x fr' H') :
    CodeOk P ro nt (.region id ops draw) fr H x fr' H' := by
  unfold region at h
  cases draw with
  | false =>
    simp only [Bool.false_eq_true, if_false] at h
    split at h
    · rename_i fr1 H1 hr
      simp only [Res.done.injEq] at h
      obtain ⟨rfl, rfl, rfl⟩ := h
      obtain ⟨h1, h2⟩ := runOps_ok hok hc _ hr
      refine ⟨h1, fun rc φ a w Q _ hM hF hn hf hQ => ?_⟩
      have := h2 rc φ a w Q 0 (by simp) hM hF hn hf fun a' w' φ' k1 k2 k3 k4 => hQ a' w' φ' ⟨k4, k1, k2, [], by simpa using k3, .nil _ _ _ _⟩
      exact wpIn_region (by rw [List.range_eq_range']; simpa using this)
    · cases h
  | true =>
    simp only [if_true] at h
    split at h
    · rename_i fr1 H1 cs hr
      split at h
      · rename_i hb
        simp only [Bool.and_eq_true] at hb
        obtain ⟨hmade, hwake, rfl, rfl⟩ : (∀ t, bagOf ops.toList = some t → madeFirst t ops.toList = true) ∧ wakeAll (bagOf ops.toList) fr1 cs H1 H' ∧ x = .normal ∧ fr1 = fr' := by
          split at h
          · rename_i hbt
            simp only [Res.done.injEq] at h
            obtain ⟨rfl, rfl, rfl⟩ := h
            rw [hbt]
            exact ⟨fun t e => (by cases e), rfl, rfl, rfl⟩
          · rename_i t hbt
            split at h
            · rename_i hk
              simp only [Bool.and_eq_true] at hk
              split at h
              · rename_i b hat
                simp only [Res.done.injEq] at h
                obtain ⟨rfl, rfl, rfl⟩ := h
                rw [hbt]
                exact ⟨fun t1 e => (by cases e; exact hk.1), ⟨hk.2, b, hat, rfl⟩, rfl, rfl⟩
              · cases h
            · cases h
        obtain ⟨h1, h2⟩ := region_any_ok hok hc hr hb.1 hb.2.1 hb.2.2 hmade hwake
        refine ⟨h1, fun rc φ a w Q _ hM hF hn hf hQ => ?_⟩
        refine wpIn_region_any hm (h2 rc φ a { w with drawn := w.drawn + 1 } Q ⟨hM.obj, hM.inj⟩ hF hn hf fun a' w' φ' k1 k2 k3 k4 => hQ a' w' φ' ⟨⟨k4.rel, ?_⟩, k1, k2, [], by simpa using k3, .nil _ _ _ _⟩)
        exact ⟨k4.mv.ext, k4.mv.dom, k4.mv.frame, k4.mv.size, k4.mv.os, k4.mv.tape, k4.mv.output⟩
      · cases h
    · cases h
theorem args_frel {φ : Emb} {nt : Nat} : ∀ {xs : List AV} {vs : List Value} {k : Nat} {fr fr' : Fr} {t : Array Value}, VRels φ xs vs → args nt k xs fr = some fr' → k = t.size → FRel φ fr t → FRel φ fr' (t ++ vs.toArray) ∧ (xs ≠ [] → k + xs.length ≤ nt)
  | _, _, k, fr, fr', t, .nil, h, _, hF => by
    simp only [args, Option.some.injEq] at h
    subst h
    exact ⟨by simpa using hF, fun h => absurd rfl h⟩
  | _, _, k, fr, fr', t, .cons (a := x) (v := v) (as := as) (vs := vs) hv hr, h, hk, hF => by
    simp only [args] at h
    split at h
    · rename_i hlt
      have hF' : FRel φ (Tr.set fr (path k) (some x)) (t.push v) := fun s => by
        rw [at_set]
        by_cases hs : s = k
        · rw [if_pos hs]
          subst hs
          rw [hk]
          simpa using hv
        · rw [if_neg hs]
          have := hF s
          rw [Array.getD_eq_getD_getElem?] at this ⊢
          rw [Array.getElem?_push, if_neg (by omega)]
          exact this
      obtain ⟨h1, h2⟩ := args_frel hr h (by simp [hk]) hF'
      refine ⟨?_, fun _ => ?_⟩
      · have he : t.push v ++ vs.toArray = t ++ (v :: vs).toArray := by
          apply Array.ext'; simp
        rw [he] at h1; exact h1
      · cases as with
        | nil => simp; omega
        | cons _ _ => have := h2 (by simp); simp at this ⊢; omega
    · cases h
theorem undefs_frel {φ : Emb} {fr : Fr} {t : Array Value} (h : FRel φ fr t) (n : Nat) : FRel φ fr (t ++ Array.replicate n undef) := fun s => by
  have := h s
  rw [Array.getD_eq_getD_getElem?] at this ⊢
  rw [Array.getElem?_append]
  split
  · exact this
  · rename_i hlt
    rw [Array.getElem?_eq_none (by omega)] at this
    rw [Array.getElem?_replicate]
    split
    · exact this
    · exact this
theorem results_mapM {φ : Emb} {H : Heap} {fr : Fr} {tmps : Array Value} {w : World} (hM : MRel φ H.get w) (hF : FRel φ fr tmps) : ∀ (rs : List ResultVar) {vs : List AV}, results P H fr rs = some vs →
    ∃ us, (List.mapM (fun (x : ResultVar) => (match x with
      | .tmp t => pure (tmps.getD t undef)
      | .cell a t => do loadVar t (← asAddr (tmps.getD a undef)) : Sem Value)) rs).run P w = .ok us w ∧ VRels φ vs us
  | [], vs, h => by
    simp only [results, Option.some.injEq] at h
    subst h
    exact ⟨[], by simp, .nil⟩
  | .tmp t :: rs, vs, h => by
    simp only [results, Option.map_eq_some_iff] at h
    obtain ⟨vs', h1, rfl⟩ := h
    obtain ⟨us, k1, k2⟩ := results_mapM hM hF rs h1
    refine ⟨_, ?_, .cons (hF t) k2⟩
    rw [List.mapM_cons]
    simp only [Sem.run_bind, Sem.run_pure, Result.andThen_ok, k1]
  | .cell a t :: rs, vs, h => by
    simp only [results] at h
    split at h
    · rename_i v vs' h1 h2
      simp only [Option.some.injEq] at h
      subst h
      obtain ⟨us, k1, k2⟩ := results_mapM hM hF rs h2
      obtain ⟨u, k3, k4⟩ := load_ok hM h1 (hF a)
      refine ⟨u :: us, ?_, .cons k4 k2⟩
      have k5 : (do loadVar t (← asAddr (tmps.getD a undef)) : Sem Value).run P w = .ok u w := by
        have hp := hF a
        generalize tmps.getD a undef = y at hp k3
        generalize fr.at a = z at hp h1
        cases hp <;> simp only [load] at h1 <;> try cases h1
        simpa [Instr.loadAt, Instr.sureAddr, asAddr] using k3
      rw [List.mapM_cons]
      simp only [Sem.run_bind] at k5 ⊢
      simp only [k5, k1, Result.andThen_ok, Sem.run_pure]
    · cases h
def one (vs : List AV) : AV :=
  match vs with
  | [v] => v
  | vs => .tuple vs
theorem results_ok {φ : Emb} {H : Heap} {fr : Fr} {tmps : Array Value} {w : World} (hM : MRel φ H.get w) (hF : FRel φ fr tmps) {fn : Func} {vs : List AV} (h : results P H fr fn.results.toList = some vs) :
    ∃ v, (Go.results fn tmps).run P w = .ok v w ∧ VRel φ (one vs) v := by
  obtain ⟨us, h1, h2⟩ := results_mapM hM hF _ h
  have hl := h2.length
  unfold Go.results
  rw [Array.mapM_eq_mapM_toList]
  simp only [Sem.run_bind, Sem.run_map]
  refine ⟨if h : us.toArray.size = 1 then us.toArray[0] else .tuple us.toArray, (congrArg (fun r => (Result.andThen r _).andThen _) h1).trans rfl, ?_⟩
  cases h2 with
  | nil => exact .tuple .nil
  | cons k1 k2 =>
    cases k2 with
    | nil => exact k1
    | cons k2 k3 => exact .tuple (.cons k1 (.cons k2 k3))
theorem turn_step {φ φ' : Emb} {H H' : Heap} {w w' : World} {D : Nat} {o : Obj} (s : Step φ φ' H H' w w') (hD : w.heap.size ≤ D) (hn : ∀ b e, φ' b = some e → H'.get b ≠ none → e.blk ≠ D) : Step φ φ' H H' w (w'.putObj D o) := by
  have other : ∀ k, k ≠ D → (w'.putObj D o).heap[k]? = w'.heap[k]? := fun k hk => World.putObj_heap_other hk
  refine ⟨⟨fun b o' e hb he => ?_, s.rel.inj⟩, ⟨s.mv.ext, s.mv.dom, fun k hk => ?_, by rw [World.putObj_size]; exact s.mv.size, s.mv.os, s.mv.tape, s.mv.output⟩⟩
  · rw [other _ (hn b e he (by rw [hb]; simp))]; exact s.rel.obj b o' e hb he
  · rw [other k fun e => hk (.inl (e ▸ hD))]; exact s.mv.frame k hk
theorem leaves {φ φ' : Emb} {H H' : Heap} {w : World} {fr : Fr} {tmps : Array Value} {rc : Option Nat} {fn : Func} {vs : List AV} (hF : FRel φ' fr tmps) (hr : results P H' fr fn.results.toList = some vs) {R : Ending → World → Prop}
    (hR : ∀ v w', VRel φ' (one vs) v → Step φ φ' H H' w w' → R (.returned v) w') : ∀ (ds : List Nat) (w' : World), Step φ φ' H H' w w' → MarksAt φ' H'.get w.heap.size w' ds →
    LeavesInM (fence rc) 0 P fn tmps R (ds.map markOf) .returning w'
  | [], w', s, _ => by
    obtain ⟨v, h1, h2⟩ := results_ok s.rel hF hr
    exact ⟨v, h1, hR v w' h2 s⟩
  | D :: ds, w', s, m => by
    obtain ⟨h1, h2, h3⟩ := m.2 D (by simp)
    refine ⟨by simp, .inl ⟨D, _, rfl, run_takeDeferred h2, ?_⟩⟩
    refine leaves hF hr hR ds _ (turn_step s h1 h3) ⟨(List.nodup_cons.1 m.1).2, fun D' hD' => ?_⟩
    obtain ⟨k1, k2, k3⟩ := m.2 D' (by simp [hD'])
    refine ⟨k1, ?_, k3⟩
    rw [World.putObj_heap_other fun e => (List.nodup_cons.1 m.1).1 (by rw [← e]; exact hD')]
    exact k2
theorem enter_ok {exec : Nat → Code → Fr → Heap → Res} (hex : ∀ nt c fr H x fr' H', exec nt c fr H = .done x fr' H' → CodeOk P none nt c fr H x fr' H') : CallOk P (enter P exec) := by
  intro f xs H av H' h
  unfold enter at h
  split at h
  · rename_i fn hfn
    split at h
    · rename_i c hc
      split at h
      · cases h
      · rename_i hname
        split at h
        · rename_i fr hargs
          have key : ∀ x fr' H1 (vs : List AV), (x = .normal ∨ x = .ret) → exec fn.ntmps c fr H = .done x fr' H1 → results P H1 fr' fn.results.toList = some vs →
              AStep H H1 ∧ ∀ (φ : Emb) (w : World) (us : List Value), MRel φ H.get w → VRels φ xs us → Fresh φ H.next H1.next →
                Calls P f us.toArray w fun e w' => ∃ v φ', e = .returned v ∧ VRel φ' (one vs) v ∧ Step φ φ' H H1 w w' := by
            intro x fr' H1 vs hx he hr
            obtain ⟨h1, h2⟩ := hex _ _ _ _ _ _ _ he
            refine ⟨h1, fun φ w us hM hxs hf => ?_⟩
            obtain ⟨h3, h4⟩ := args_frel (t := #[]) hxs hargs rfl (fun t => by simp only [Fr.at, Tr.get_nil]; exact VRel.undef)
            simp only [Array.empty_append] at h3
            refine (callsIn_wide (n := 0)).1 (callsIn_of_wp_marks hfn hc trivial (h2 none φ _ w _ rfl hM (undefs_frel h3 _) ?_ hf fun a' w' φ' p => ?_))
            · simp; omega
            · obtain ⟨ds, d1, m1⟩ := p.marks
              simp only [List.append_nil] at d1
              have := leaves (P := P) (rc := none) p.frel hr (R := fun e w' => ∃ v φ', e = .returned v ∧ VRel φ' (one vs) v ∧ Step φ φ' H H1 w w') (fun v w'' k1 k2 => ⟨v, φ', rfl, k1, k2⟩) ds w' p.step m1
              rw [← d1] at this
              rcases hx with rfl | rfl
              · exact this
              · exact this
          have hent : Enters P f := ⟨fn, c, hfn, hc, by simpa using hname⟩
          have fin : ∀ x fr' H1, (x = .normal ∨ x = .ret) → exec fn.ntmps c fr H = .done x fr' H1 →
              (match results P H1 fr' fn.results.toList with | some [v] => some (v, H1) | some vs => some (.tuple vs, H1) | none => none) = some (av, H') →
              Enters P f ∧ AStep H H' ∧ ∀ (φ : Emb) (w : World) (us : List Value), MRel φ H.get w → VRels φ xs us → Fresh φ H.next H'.next →
                Calls P f us.toArray w fun e w' => ∃ v φ', e = .returned v ∧ VRel φ' av v ∧ Step φ φ' H H' w w' := by
            intro x fr' H1 hx he hm
            cases hr : results P H1 fr' fn.results.toList with
            | none => rw [hr] at hm; cases hm
            | some vs =>
              rw [hr] at hm
              have hk := key x fr' H1 vs hx he hr
              have : one vs = av ∧ H1 = H' := by
                match vs, hm with
                | [], hm => simpa [one] using hm
                | [v], hm => simpa [one] using hm
                | _ :: _ :: _, hm => simpa [one] using hm
              obtain ⟨rfl, rfl⟩ := this
              exact ⟨hent, hk⟩
          split at h
          · rename_i fr' H1 he; exact fin .normal fr' H1 (.inl rfl) he h
          · rename_i fr' H1 he; exact fin .ret fr' H1 (.inr rfl) he h
          · cases h
        · cases h
    · cases h
  · cases h
theorem callAt_ok {prims : Prims} (hp : PrimsOk P prims) {exec : Nat → Code → Fr → Heap → Res} (hex : ∀ nt c fr H x fr' H', exec nt c fr H = .done x fr' H' → CodeOk P none nt c fr H x fr' H') : CallOk P (callAt P prims exec) := by
  intro f xs H av H' h
  unfold callAt at h
  split at h
  · rename_i g hg
    exact hp f g hg f xs H av H' ((if_pos rfl).trans h)
  · exact enter_ok hex f xs H av H' h
theorem loop_at {φ : Emb} {H : Heap} {w : World} (hM : MRel φ H.get w) {l : Nat} {st : LoopState} {pend : Option Code} {nt : Nat} {fr : Fr} {ps : List Tmp} {assign body : Code} {e : Spot}
    (hl : H.get l = some (.loop st pend nt fr ps assign body)) (he : φ l = some e) :
    ∃ fn tmps df, w.heap[e.blk]? = some (.loop { state := st, pending := pend, fn, tmps, params := ps.toArray, assign, body, defers := df }) ∧ nt ≤ tmps.size ∧ FRel φ fr tmps :=
  hM.obj l _ e hl he
theorem loop_put {φ : Emb} {H H' : Heap} {w : World} (hM : MRel φ H.get w) {l : Nat} {st st' : LoopState} {pend pend' : Option Code} {nt : Nat} {fr : Fr} {ps : List Tmp} {assign body : Code} {e : Spot}
    (hl : H.get l = some (.loop st pend nt fr ps assign body)) (he : φ l = some e) (ha : H.app (.put l (.loop st' pend' nt fr ps assign body)) = some H') :
    ∃ r : Loop, w.heap[e.blk]? = some (.loop r) ∧ r.state = st ∧ r.pending = pend ∧ Step φ φ H H' w (w.putObj e.blk (.loop { r with state := st', pending := pend' })) := by
  obtain ⟨fn, tmps, df, h1, h2, h3⟩ := loop_at hM hl he
  refine ⟨_, h1, rfl, rfl, ?_⟩
  obtain ⟨k1, k2, _, k4⟩ := app_step ha
  obtain ⟨m1, m2⟩ := put_rel (w' := w.putObj e.blk (.loop { state := st', pending := pend', fn, tmps, params := ps.toArray, assign, body, defers := df })) hM hl he rfl ⟨rfl, rfl, rfl⟩ H.next H'.next (o' := .loop st' pend' nt fr ps assign body) ⟨fn, tmps, df, rfl, h2, h3⟩
  refine ⟨by rw [k1]; exact m1, m2.weaken (Nat.le_refl _) (Nat.le_refl _) fun b hb => k4 b hb⟩
theorem setAll_frel {φ : Emb} {nt : Nat} : ∀ {ps : List Tmp} {xs : List AV} {vs : List Value} {fr fr' : Fr} {t : Array Value}, VRels φ xs vs → setAll nt ps xs fr = some fr' → nt ≤ t.size → FRel φ fr t →
    FRel φ fr' ((ps.zip vs).foldl (fun t (p, v) => t.setIfInBounds p v) t) ∧ nt ≤ ((ps.zip vs).foldl (fun t (p, v) => t.setIfInBounds p v) t).size ∧ ps.length = vs.length
  | [], _, _, fr, fr', t, .nil, h, hn, hF => by
    simp only [setAll, Option.some.injEq] at h
    subst h
    exact ⟨hF, hn, rfl⟩
  | [], _, _, fr, fr', t, .cons _ _, h, _, _ => by simp [setAll] at h
  | _ :: _, _, _, fr, fr', t, .nil, h, _, _ => by simp [setAll] at h
  | p :: ps, _, _, fr, fr', t, .cons (a := x) (v := v) (as := as) (vs := vs) hv hr, h, hn, hF => by
    simp only [setAll] at h
    split at h
    · rename_i hlt
      have hF' : FRel φ (Tr.set fr (path p) (some x)) (t.setIfInBounds p v) := fun s => by
        rw [at_set]
        simp only [Array.getD_eq_getD_getElem?, Array.getElem?_setIfInBounds]
        by_cases hs : s = p
        · subst hs
          rw [if_pos rfl, if_pos rfl, if_pos (Nat.lt_of_lt_of_le hlt hn)]
          exact hv
        · rw [if_neg hs, if_neg fun e => hs e.symm]
          have := hF s
          rwa [Array.getD_eq_getD_getElem?] at this
      obtain ⟨h1, h2, h3⟩ := setAll_frel hr h (by simpa using hn) hF'
      exact ⟨h1, h2, by simp [h3]⟩
    · cases h
theorem round_ok {exec : Option Nat → Nat → Code → Fr → Heap → Res} (hex : ∀ ro nt c fr H x fr' H', exec ro nt c fr H = .done x fr' H' → CodeOk P ro nt c fr H x fr' H') : RoundOk P (round exec) := by
  intro l xs H av H' h
  unfold round at h
  split at h <;> try cases h
  rename_i st0 pend0 nt fr ps assign body hl0
  split at h <;> try cases h
  rename_i fr1 hset
  split at h <;> try cases h
  rename_i fr2 H1 hassign
  split at h <;> try cases h
  rename_i pend nt1 fr1' ps1 as1 bo1 hl1
  split at h <;> try cases h
  rename_i H2 happ2
  split at h <;> try cases h
  rename_i x fr3 H3 hbody
  split at h <;> try cases h
  rename_i st2 pend2 nt2 fr2' ps2 as2 bo2 hl3
  simp only [Option.map_eq_some_iff, Prod.mk.injEq] at h
  obtain ⟨H4, happ4, rfl, rfl⟩ := h
  obtain ⟨a1, s1⟩ := hex _ _ _ _ _ _ _ _ hassign
  have a2 := (app_step happ2).2.2.1
  obtain ⟨a3, s3⟩ := hex _ _ _ _ _ _ _ _ hbody
  have a4 := (app_step happ4).2.2.1
  have a12 := a1.trans a2
  have a123 := a12.trans a3
  refine ⟨a123.trans a4, fun φ w vs e hM hxs he hf => ?_⟩
  obtain ⟨fn, tmps, df, h1, h2, h3⟩ := loop_at hM hl0 he
  obtain ⟨f1, f2, f3⟩ := setAll_frel hxs hset h2 h3
  have hyield := run_yield (P := P) (args := vs.toArray) h1 (by simp [f3])
  refine ⟨_, _, _, _, hyield, roundIn_of_wpIn trivial ?_⟩
  have hfold : ((ps.toArray.zip vs.toArray).foldl (fun tmps (t, a) => tmps.setIfInBounds t a) tmps) = (ps.zip vs).foldl (fun t (p, v) => t.setIfInBounds p v) tmps := by simp
  refine s1 (some e.blk) φ _ w _ ⟨e, he, rfl⟩ hM (by simp only [hfold]; exact f1) (by simp only [hfold]; exact f2) (hf.sub (Nat.le_refl _) (Nat.le_trans a2.next (Nat.le_trans a3.next a4.next))) fun b1 w1 φ1 p1 => ?_
  have he1 := p1.step.mv.ext _ _ he
  obtain ⟨r1, g1, g2, g3, st12⟩ := loop_put p1.step.rel hl1 he1 happ2
  have hf1 : Fresh φ H.next H1.next := hf.sub (Nat.le_refl _) (Nat.le_trans a2.next (Nat.le_trans a3.next a4.next))
  have hf2 : Fresh φ H.next H2.next := hf.sub (Nat.le_refl _) (Nat.le_trans a3.next a4.next)
  have hf3 : Fresh φ H.next H3.next := hf.sub (Nat.le_refl _) a4.next
  have t2 := p1.step.trans st12 a1 a2 hf1
  refine ⟨_, run_beginRound g1 g2, ?_⟩
  have hw2 : ({ r1 with state := .busy, pending := pend } : Loop) = { r1 with state := .busy } := by rw [← g3]
  rw [hw2] at st12 t2
  refine s3 (some e.blk) φ1 b1 _ _ ⟨e, he1, rfl⟩ st12.rel p1.frel p1.nt (t2.fresh a12 hf3) fun b2 w3 φ3 p3 => ?_
  have he3 := p3.step.mv.ext _ _ he1
  have t3 := t2.trans p3.step a12 a3 hf2
  obtain ⟨r3, k1, k2, k3, st4⟩ := loop_put p3.step.rel hl3 he3 happ4
  have t4 := t3.trans st4 a123 a4 hf3
  have fin : ∃ v w', (Instr.endRound e.blk x.jump).run P w3 = .ok v w' ∧ ∃ v' φ', Ending.returned v = .returned v' ∧ VRel φ' (.bool x.jump.isNone) v' ∧ Step φ φ' H H4 w w' :=
    ⟨_, _, run_endRound x.jump k1, _, φ3, rfl, .bool _, t4⟩
  cases x with
  | normal => exact fin
  | exit id => exact fin
  | ret => exact fin
theorem alloc_step {φ : Emb} {H : Heap} {w : World} (hM : MRel φ H.get w) (o : Obj) : Step φ φ H H w (w.alloc o) := by
  have old : ∀ k, k < w.heap.size → (w.alloc o).heap[k]? = w.heap[k]? := fun k hk => by
    show (w.heap.push o)[k]? = _
    rw [Array.getElem?_push, if_neg (by omega)]
  refine ⟨⟨fun b o' e hb he => ?_, hM.inj⟩, ⟨.refl φ, fun _ _ h => .inl h, fun k hk => old k (Nat.lt_of_not_le fun h => hk (.inl h)), by show _ ≤ (w.heap.push o).size; simp, rfl, rfl, rfl⟩⟩
  rw [old _ (hM.lt hb he)]
  exact hM.obj b o' e hb he
theorem enter_loop {φ : Emb} {H H1 : Heap} {w : World} {a : Act} {ro rc : Option Nat} {nt : Nat} {fr : Fr} {ps : Array Tmp} {assign body : Code} (hM : MRel φ H.get w) (hF : FRel φ fr a.tmps) (hn : nt ≤ a.tmps.size) (hro : RoOk φ ro rc)
    (hl : roGood ro H = true) (ha : H.app (.new (.loop .ready none nt fr ps.toList assign body)) = some H1) (hf : φ H.next = none) (fn : FuncId) :
    ∃ (e : Spot) (ds : List Nat) (w1 : World) (φ1 : Emb), (Instr.enterLoop fn a.tmps ps assign body (fence rc).round).run P w = .ok (e.blk, ds.map markOf) w1 ∧ φ1 H.next = some e ∧ Step φ φ1 H H1 w w1 ∧ MarksAt φ1 H1.get w.heap.size w1 ds := by
  obtain ⟨k1, k2, _, k4⟩ := app_step ha
  have fin : ∀ (v : World) (df : Nat), MRel φ H.get v → Step φ φ H H w v → ∃ (φ1 : Emb), φ1 H.next = some ⟨v.heap.size, 0, 0⟩ ∧
      Step φ φ1 H H1 w (v.alloc (.loop { state := .ready, pending := none, fn, tmps := a.tmps, params := ps, assign, body, defers := df })) ∧ ∀ b e, φ1 b = some e → φ b = some e ∨ e.blk = v.heap.size := by
    intro v df hMv sv
    obtain ⟨m1, m2, m3⟩ := new_rel (w' := v.alloc (.loop { state := .ready, pending := none, fn, tmps := a.tmps, params := ps, assign, body, defers := df })) hMv hf (o := .loop .ready none nt fr ps.toList assign body)
      (x := .loop { state := .ready, pending := none, fn, tmps := a.tmps, params := ps, assign, body, defers := df }) (base := 0) (size := 0) rfl ⟨rfl, rfl, rfl⟩ (fun _ => False)
      ⟨fn, a.tmps, df, rfl, hn, fun t => (hF t).mono (by
        intro b e hb
        have : b ≠ H.next := fun e => by subst e; rw [hf] at hb; cases hb
        rw [upd_ne _ _ this]; exact hb)⟩
    refine ⟨_, upd_same _ _ _, sv.trans (H1 := H) ⟨by rw [k1]; exact m2, ?_⟩ (.refl _) (app_step ha).2.2.1 (fun b h1 h2 => by omega), fun b e hb => ?_⟩
    · exact m3.weaken (Nat.le_refl _) (by rw [k2]; exact Nat.le_refl _) fun b hb => hb.elim
    · by_cases hbn : b = H.next
      · subst hbn; rw [upd_same] at hb; cases hb; exact .inr rfl
      · rw [upd_ne _ _ hbn] at hb; exact .inl hb
  cases ro with
  | none =>
    have hrc : rc = none := hro
    subst hrc
    have s0 := alloc_step hM (.deferred (some []))
    obtain ⟨φ1, h1, h2, h3⟩ := fin (w.alloc (.deferred (some []))) w.heap.size s0.rel s0
    have hsz : (w.alloc (.deferred (some []))).heap.size = w.heap.size + 1 := by simp
    refine ⟨_, [w.heap.size], _, φ1, ?_, h1, h2, by simp, fun D hD => ?_⟩
    · have := run_enterLoop_outer (P := P) (w := w) fn a.tmps ps assign body
      simp only [hsz]
      exact this
    · simp only [List.mem_singleton] at hD
      subst hD
      refine ⟨Nat.le_refl _, ?_, fun b e hb hlive heq => ?_⟩
      · show (((w.heap.push _).push _)[w.heap.size]? : Option Obj) = _
        simp [Array.getElem?_push]
      · rcases h3 b e hb with h | h
        · have hbn : b ≠ H.next := fun e => by subst e; rw [hf] at h; cases h
          rw [k1] at hlive
          simp only [Eff.get, upd_ne _ _ hbn] at hlive
          obtain ⟨o, ho⟩ := Option.ne_none_iff_exists'.1 hlive
          have := hM.lt ho h
          omega
        · rw [h, hsz] at heq; omega
  | some l =>
    obtain ⟨e, he, hrc⟩ := hro
    subst hrc
    simp only [roGood] at hl
    cases hg : H.get l with
    | none => rw [hg] at hl; cases hl
    | some o =>
      cases o with
      | loop st pend nt' fr' ps' as' bo' =>
        obtain ⟨fn', tmps', df, h1, _, _⟩ := loop_at hM hg he
        obtain ⟨φ1, h2, h3, _⟩ := fin w df hM (.refl hM)
        refine ⟨_, [], _, φ1, ?_, h2, h3, .nil _ _ _ _⟩
        exact run_enterLoop_inner (P := P) h1 fn a.tmps ps assign body
      | _ => rw [hg] at hl; cases hl
theorem over_ok {cf : CallF} (hc : CallOk P cf) {ro : Option Nat} {nt : Nat} {g : Operand} {ps : Array Tmp} {assign body : Code} {fr fr' : Fr} {H H' : Heap} {x : Ex} (h : overFunc cf ro nt g ps assign body fr H = .done x fr' H') :
    CodeOk P ro nt (.rangeFunc g ps assign body) fr H x fr' H' := by
  unfold overFunc at h
  split at h <;> try cases h
  rename_i hl
  split at h <;> try cases h
  rename_i f first caps hg
  split at h <;> try cases h
  rename_i H1 happ1
  split at h <;> try cases h
  rename_i v H2 hcall
  split at h <;> try cases h
  rename_i st pend nt' fr1 ps' as' bo' hl2
  split at h <;> try cases h
  rename_i hst
  split at h <;> try cases h
  rename_i hback happ3
  obtain ⟨hent, a2, hrun⟩ := hc _ _ _ _ _ hcall
  have a1 := (app_step happ1).2.2.1
  have a3 := (app_step happ3).2.2.1
  have a12 := a1.trans a2
  refine ⟨a12.trans a3, fun rc φ a w Q hro hM hF hn hf hQ => ?_⟩
  have hn1 : H1.next = H.next + 1 := (app_step happ1).2.1
  have hfree : φ H.next = none := hf _ (Nat.le_refl _) (by have := a2.next; have := a3.next; omega)
  refine wpIn_rangeFunc fun fn _ => ?_
  obtain ⟨e, ds, w1, φ1, e1, e2, s1, m1⟩ := enter_loop (P := P) (ps := ps) (assign := assign) (body := body) hM hF hn hro hl happ1 hfree fn
  have hgv := ev_rel hF hg
  generalize hcv : a.eval g = gv at hgv
  cases hgv with
  | func hfirst hcaps =>
    rename_i first' caps'
    have hargs := ((hfirst.mono s1.mv.ext).append (.cons (.yieldv e2) .nil)).append (hcaps.mono s1.mv.ext)
    have hf1 : Fresh φ H.next H1.next := hf.sub (Nat.le_refl _) (Nat.le_trans a2.next a3.next)
    have hf2 : Fresh φ H.next H2.next := hf.sub (Nat.le_refl _) a3.next
    have hf12 : Fresh φ1 H1.next H2.next := s1.fresh a1 hf2
    refine ⟨e.blk, ds.map markOf, w1, { target := .fn (.func f) caps'.toArray, args := (first' ++ [Value.func (.yield e.blk) #[] #[]]).toArray }, w1, f, (first' ++ [Value.func (.yield e.blk) #[] #[]] ++ caps').toArray, w1, e1, ?_, fun _ _ => trivial, ?_, fun h => (by cases h), ?_⟩
    · have hy : (#[.const (.func (.yield e.blk) #[] #[])] : Array Operand).map a.eval = #[Value.func (.yield e.blk) #[] #[]] := by simp [Act.eval]
      simp only [resolve, rangeCall, hcv, Deferred.ofValue, hy, Sem.run_pure]
      congr 2
      apply Array.ext'
      simp
    · simp only [invoke]
      rw [run_callFunc hent]
      congr 2
      apply Array.ext'
      simp
    · have hin : CallsIn (fence rc) 0 P f _ w1 _ := (callsIn_wide (n := 0)).2 (hrun φ1 w1 _ s1.rel hargs hf12)
      refine hin.mono ?_
      rintro en w3 ⟨v', φ2, rfl, hv, s2⟩
      have he2 := s2.mv.ext _ _ e2
      obtain ⟨r, g1, g2, g3, s3⟩ := loop_put s2.rel hl2 he2 happ3
      have hend := run_endLoop (P := P) g1 (by rw [g2]; intro hb; subst hb; exact hst (by decide))
      have hr3 : ({ r with state := .exhausted, pending := pend } : Loop) = { r with state := .exhausted } := by rw [← g3]
      rw [hr3] at s3
      have t12 := s1.trans s2 a1 a2 hf1
      have t123 := t12.trans s3 a12 a3 hf2
      have m3 := (m1.keep s2 a2 hf12).keep s3 a3 (t12.fresh a12 hf)
      refine ⟨_, _, hend, ?_⟩
      have post : Post φ φ2 H H' w (w3.putObj e.blk (.loop { r with state := .exhausted })) a { a with defers := ds.map markOf ++ a.defers } fr nt := ⟨t123, hF.mono t123.mv.ext, hn, ds, rfl, m3⟩
      have fin := hQ _ _ _ post
      rw [g3] at fin ⊢
      cases pend with
      | none =>
        simp only [back, Option.some.injEq] at hback
        subst hback
        exact fin
      | some c =>
        cases c with
        | ret =>
          simp only [back, Option.some.injEq] at hback
          subst hback
          exact wpIn_ret fin
        | exit id =>
          simp only [back, Option.some.injEq] at hback
          subst hback
          exact wpIn_exit fin
        | _ => simp [back] at hback
theorem exec_ok (hm : P.follows .mixedOrders = true) (hok : OkTypes P ok) {prims : Prims} (hp : PrimsOk P prims) :
    ∀ (n : Nat) (ro : Option Nat) (nt : Nat) (c : Code) (fr : Fr) (H : Heap) (x : Ex) (fr' : Fr) (H' : Heap), exec P ok prims n ro nt c fr H = .done x fr' H' → CodeOk P ro nt c fr H x fr' H' := by
  intro n
  induction n using Nat.strongRecOn with
  | _ n ih =>
  intro ro nt c fr H x fr' H' h
  cases n with
  | zero => simp [exec] at h
  | succ n =>
  have ihn := ih n (by omega)
  have calls : CallOk P (callAt P prims (exec P ok prims n none)) := callAt_ok hp (ihn none)
  cases c with
  | skip =>
    simp only [exec, Res.done.injEq] at h
    obtain ⟨rfl, rfl, rfl⟩ := h
    exact ⟨.refl _, fun rc φ a w Q _ hM hF hn hf hQ => wpIn_skip (hQ a w φ ⟨.refl hM, hF, hn, [], by simp, .nil _ _ _ _⟩)⟩
  | label l =>
    simp only [exec, Res.done.injEq] at h
    obtain ⟨rfl, rfl, rfl⟩ := h
    exact ⟨.refl _, fun rc φ a w Q _ hM hF hn hf hQ => wpIn_label (hQ a w φ ⟨.refl hM, hF, hn, [], by simp, .nil _ _ _ _⟩)⟩
  | exit id =>
    simp only [exec, Res.done.injEq] at h
    obtain ⟨rfl, rfl, rfl⟩ := h
    exact ⟨.refl _, fun rc φ a w Q _ hM hF hn hf hQ => wpIn_exit (hQ a w φ ⟨.refl hM, hF, hn, [], by simp, .nil _ _ _ _⟩)⟩
  | ret =>
    simp only [exec, Res.done.injEq] at h
    obtain ⟨rfl, rfl, rfl⟩ := h
    exact ⟨.refl _, fun rc φ a w Q _ hM hF hn hf hQ => wpIn_ret (hQ a w φ ⟨.refl hM, hF, hn, [], by simp, .nil _ _ _ _⟩)⟩
  | region id ops draw =>
    simp only [exec] at h
    exact region_ok (id := id) hm hok ⟨calls, round_ok ihn⟩ h
  | rangeFunc g ps assign body =>
    simp only [exec] at h
    exact over_ok calls h
  | seq c d =>
    simp only [exec] at h
    split at h
    · rename_i fr1 H1 h1
      obtain ⟨a1, s1⟩ := ihn _ _ _ _ _ _ _ _ h1
      obtain ⟨a2, s2⟩ := ihn _ _ _ _ _ _ _ _ h
      refine ⟨a1.trans a2, fun rc φ a w Q hro hM hF hn hf hQ => wpIn_seq (s1 rc φ a w _ hro hM hF hn (hf.sub (Nat.le_refl _) a2.next) fun a' w' φ' p1 => ?_)⟩
      exact s2 rc φ' a' w' Q (hro.mono p1.step.mv.ext) p1.step.rel p1.frel p1.nt (p1.step.fresh a1 hf) fun a2' w2 φ2 p2 => hQ a2' w2 φ2 (p1.trans p2 a1 a2 hf)
    · rename_i r hr
      obtain ⟨a1, s1⟩ := ihn _ _ _ _ _ _ _ _ h
      have hx : x ≠ .normal := fun e => by subst e; exact hr _ _ h
      refine ⟨a1, fun rc φ a w Q hro hM hF hn hf hQ => wpIn_seq (s1 rc φ a w _ hro hM hF hn hf fun a' w' φ' p1 => ?_)⟩
      have := hQ a' w' φ' p1
      cases x with
      | normal => exact absurd rfl hx
      | exit id => exact this
      | ret => exact this
  | cond c d e =>
    simp only [exec] at h
    split at h
    · rename_i hc
      obtain ⟨a1, s1⟩ := ihn _ _ _ _ _ _ _ _ h
      refine ⟨a1, fun rc φ a w Q hro hM hF hn hf hQ => wpIn_cond_true ?_ (s1 rc φ a w Q hro hM hF hn hf hQ)⟩
      have := ev_rel hF hc
      generalize a.eval c = y at this ⊢
      cases this; rfl
    · rename_i hc
      obtain ⟨a1, s1⟩ := ihn _ _ _ _ _ _ _ _ h
      refine ⟨a1, fun rc φ a w Q hro hM hF hn hf hQ => wpIn_cond_false ?_ (s1 rc φ a w Q hro hM hF hn hf hQ)⟩
      have := ev_rel hF hc
      generalize a.eval c = y at this ⊢
      cases this; rfl
    · cases h
  | block id c =>
    simp only [exec] at h
    split at h
    · rename_i id' fr1 H1 h1
      obtain ⟨a1, s1⟩ := ihn _ _ _ _ _ _ _ _ h1
      split at h
      · rename_i hid
        simp only [Res.done.injEq] at h
        obtain ⟨rfl, rfl, rfl⟩ := h
        refine ⟨a1, fun rc φ a w Q hro hM hF hn hf hQ => wpIn_block (s1 rc φ a w _ hro hM hF hn hf fun a' w' φ' p1 => ?_)⟩
        show (if id' = id then Q .normal a' w' else Q (.exit id') a' w')
        rw [if_pos hid]
        exact hQ a' w' φ' p1
      · rename_i hid
        simp only [Res.done.injEq] at h
        obtain ⟨rfl, rfl, rfl⟩ := h
        refine ⟨a1, fun rc φ a w Q hro hM hF hn hf hQ => wpIn_block (s1 rc φ a w _ hro hM hF hn hf fun a' w' φ' p1 => ?_)⟩
        show (if id' = id then Q .normal a' w' else Q (.exit id') a' w')
        rw [if_neg hid]
        exact hQ a' w' φ' p1
    · rename_i r hr
      obtain ⟨a1, s1⟩ := ihn _ _ _ _ _ _ _ _ h
      refine ⟨a1, fun rc φ a w Q hro hM hF hn hf hQ => wpIn_block (s1 rc φ a w _ hro hM hF hn hf fun a' w' φ' p1 => ?_)⟩
      have := hQ a' w' φ' p1
      cases x with
      | normal => exact this
      | exit id' => exact absurd h (hr _ _ _)
      | ret => exact this
  | loop c =>
    have key : ∀ (m : Nat), m ≤ n + 1 → ∀ (fr : Fr) (H : Heap), exec P ok prims m ro nt (.loop c) fr H = .done x fr' H' →
        AStep H H' ∧ ∀ (rc : Option Nat) (φ : Emb) (a : Act) (w : World) (Q : Exit → Act → World → Prop), RoOk φ ro rc → MRel φ H.get w → FRel φ fr a.tmps → nt ≤ a.tmps.size → Fresh φ H.next H'.next →
          (∀ a' w' φ', Post φ φ' H H' w w' a a' fr' nt → Q x.of a' w') → Code.roundsIn (fence rc) 0 P c Q m a w := by
      intro m
      induction m with
      | zero => intro _ fr H h; simp [exec] at h
      | succ m ihm =>
        intro hle fr H h
        have ihc := ih m (by omega)
        simp only [exec] at h
        split at h
        · rename_i fr1 H1 h1
          obtain ⟨a1, s1⟩ := ihc _ _ _ _ _ _ _ _ h1
          obtain ⟨a2, s2⟩ := ihm (by omega) _ _ h
          refine ⟨a1.trans a2, fun rc φ a w Q hro hM hF hn hf hQ => s1 rc φ a w _ hro hM hF hn (hf.sub (Nat.le_refl _) a2.next) fun a' w' φ' p1 => ?_⟩
          exact s2 rc φ' a' w' Q (hro.mono p1.step.mv.ext) p1.step.rel p1.frel p1.nt (p1.step.fresh a1 hf) fun a2' w2 φ2 p2 => hQ a2' w2 φ2 (p1.trans p2 a1 a2 hf)
        · rename_i r hr
          obtain ⟨a1, s1⟩ := ihc _ _ _ _ _ _ _ _ h
          have hx : x ≠ .normal := fun e => by subst e; exact hr _ _ h
          refine ⟨a1, fun rc φ a w Q hro hM hF hn hf hQ => s1 rc φ a w _ hro hM hF hn hf fun a' w' φ' p1 => ?_⟩
          have := hQ a' w' φ' p1
          cases x with
          | normal => exact absurd rfl hx
          | exit id => exact this
          | ret => exact this
    obtain ⟨k1, k2⟩ := key (n + 1) (Nat.le_refl _) fr H h
    exact ⟨k1, fun rc φ a w Q hro hM hF hn hf hQ => wpIn_loop_rounds (n + 1) (k2 rc φ a w Q hro hM hF hn hf hQ)⟩
  | _ => simp [exec] at h
theorem call_ok (hm : P.follows .mixedOrders = true) (hok : OkTypes P ok) {prims : Prims} (hp : PrimsOk P prims) (n : Nat) : CallOk P (call P ok prims n) :=
  callAt_ok hp (exec_ok hm hok hp n none)
end
end Go.Am
end
