/- The same relation: leaves with loops and maps. -/
import Derived.Below
import Derived.Test.YtdnclnacneakbaaGreatDoorA1
import Derived.Test.YtdnclnacneakbaaGreatDoorA2
set_option linter.unusedVariables false
set_option linter.unusedSimpArgs false
set_option linter.unusedSectionVars false
section
set_option linter.unusedSectionVars false
namespace Go.Am
abbrev Out1 := Ex × Fr × Heap
def mapO {α β : Type} (f : α → Option β) : List α → Option (List β)
  | [] => some []
  | a :: as => match f a, mapO f as with
    | some b, some bs => some (b :: bs)
    | _, _ => none
theorem mapO_mem {α β : Type} {f : α → Option β} : ∀ {l : List α} {bs : List β}, mapO f l = some bs → (∀ a ∈ l, ∃ b ∈ bs, f a = some b) ∧ (∀ b ∈ bs, ∃ a ∈ l, f a = some b) ∧ bs.length = l.length
  | [], bs, h => by simp only [mapO, Option.some.injEq] at h; subst h; simp
  | a :: as, bs, h => by
    simp only [mapO] at h
    split at h
    · rename_i b bs' h1 h2
      simp only [Option.some.injEq] at h
      subst h
      obtain ⟨k1, k2, k3⟩ := mapO_mem h2
      refine ⟨fun x hx => ?_, fun x hx => ?_, by simp [k3]⟩
      · rcases List.mem_cons.1 hx with rfl | hx
        · exact ⟨b, by simp, h1⟩
        · obtain ⟨y, hy, hy'⟩ := k1 x hx
          exact ⟨y, by simp [hy], hy'⟩
      · rcases List.mem_cons.1 hx with rfl | hx
        · exact ⟨a, by simp, h1⟩
        · obtain ⟨y, hy, hy'⟩ := k2 x hx
          exact ⟨y, by simp [hy], hy'⟩
    · cases h
def bindL (f : Fr → Heap → Option (List Out1)) : List Out1 → Option (List Out1)
  | [] => some []
  | (.normal, fr, H) :: os => match f fr H, bindL f os with
    | some (x :: l), some ls => some (x :: l ++ ls)
    | _, _ => none
  | (.exit id, fr, H) :: os => (bindL f os).map ((.exit id, fr, H) :: ·)
  | (.ret, fr, H) :: os => (bindL f os).map ((.ret, fr, H) :: ·)
theorem bindL_mem {f : Fr → Heap → Option (List Out1)} : ∀ {os L : List Out1}, bindL f os = some L →
    (∀ x fr H, (x, fr, H) ∈ os → (x ≠ .normal → (x, fr, H) ∈ L) ∧ (x = .normal → ∃ l, f fr H = some l ∧ l ≠ [] ∧ ∀ y ∈ l, y ∈ L)) ∧
    (∀ y ∈ L, (y ∈ os ∧ y.1 ≠ .normal) ∨ ∃ fr H l, (Ex.normal, fr, H) ∈ os ∧ f fr H = some l ∧ y ∈ l)
  | [], L, h => by simp only [bindL, Option.some.injEq] at h; subst h; simp
  | (.normal, fr, H) :: os, L, h => by
    simp only [bindL] at h
    split at h
    · rename_i x l ls h1 h2
      simp only [Option.some.injEq] at h
      subst h
      obtain ⟨k1, k2⟩ := bindL_mem h2
      refine ⟨fun x' fr' H' hm => ?_, fun y hy => ?_⟩
      · rcases List.mem_cons.1 hm with he | hm
        · simp only [Prod.mk.injEq] at he
          obtain ⟨rfl, rfl, rfl⟩ := he
          exact ⟨fun h => absurd rfl h, fun _ => ⟨_, h1, by simp, fun y hy => List.mem_append_left _ hy⟩⟩
        · obtain ⟨g1, g2⟩ := k1 x' fr' H' hm
          refine ⟨fun h => List.mem_append_right _ (g1 h), fun h => ?_⟩
          obtain ⟨l', q1, q2, q3⟩ := g2 h
          exact ⟨l', q1, q2, fun y hy => List.mem_append_right _ (q3 y hy)⟩
      · rcases List.mem_append.1 hy with hy | hy
        · exact .inr ⟨fr, H, _, by simp, h1, hy⟩
        · rcases k2 y hy with ⟨g1, g2⟩ | ⟨fr', H', l', g1, g2, g3⟩
          · exact .inl ⟨by simp [g1], g2⟩
          · exact .inr ⟨fr', H', l', by simp [g1], g2, g3⟩
    · cases h
  | (.exit id, fr, H) :: os, L, h => by
    simp only [bindL, Option.map_eq_some_iff] at h
    obtain ⟨L', h2, rfl⟩ := h
    obtain ⟨k1, k2⟩ := bindL_mem h2
    refine ⟨fun x' fr' H' hm => ?_, fun y hy => ?_⟩
    · rcases List.mem_cons.1 hm with he | hm
      · simp only [Prod.mk.injEq] at he
        obtain ⟨rfl, rfl, rfl⟩ := he
        exact ⟨fun _ => by simp, fun h => by cases h⟩
      · obtain ⟨g1, g2⟩ := k1 x' fr' H' hm
        refine ⟨fun h => List.mem_cons_of_mem _ (g1 h), fun h => ?_⟩
        obtain ⟨l', q1, q2, q3⟩ := g2 h
        exact ⟨l', q1, q2, fun y hy => List.mem_cons_of_mem _ (q3 y hy)⟩
    · rcases List.mem_cons.1 hy with rfl | hy
      · exact .inl ⟨by simp, by simp⟩
      · rcases k2 y hy with ⟨g1, g2⟩ | ⟨fr', H', l', g1, g2, g3⟩
        · exact .inl ⟨by simp [g1], g2⟩
        · exact .inr ⟨fr', H', l', by simp [g1], g2, g3⟩
  | (.ret, fr, H) :: os, L, h => by
    simp only [bindL, Option.map_eq_some_iff] at h
    obtain ⟨L', h2, rfl⟩ := h
    obtain ⟨k1, k2⟩ := bindL_mem h2
    refine ⟨fun x' fr' H' hm => ?_, fun y hy => ?_⟩
    · rcases List.mem_cons.1 hm with he | hm
      · simp only [Prod.mk.injEq] at he
        obtain ⟨rfl, rfl, rfl⟩ := he
        exact ⟨fun _ => by simp, fun h => by cases h⟩
      · obtain ⟨g1, g2⟩ := k1 x' fr' H' hm
        refine ⟨fun h => List.mem_cons_of_mem _ (g1 h), fun h => ?_⟩
        obtain ⟨l', q1, q2, q3⟩ := g2 h
        exact ⟨l', q1, q2, fun y hy => List.mem_cons_of_mem _ (q3 y hy)⟩
    · rcases List.mem_cons.1 hy with rfl | hy
      · exact .inl ⟨by simp, by simp⟩
      · rcases k2 y hy with ⟨g1, g2⟩ | ⟨fr', H', l', g1, g2, g3⟩
        · exact .inl ⟨by simp [g1], g2⟩
        · exact .inr ⟨fr', H', l', by simp [g1], g2, g3⟩
def loopL (body : Fr → Heap → Option (List Out1)) : Nat → Fr → Heap → Option (List Out1)
  | 0, _, _ => none
  | n + 1, fr, H => match body fr H with
    | some l => bindL (loopL body n) l
    | none => none
def unseen (g : Get) (r : Nat) : Option (Nat × Nat × List Nat × List (AV × AV × Nat)) :=
  match g r with
  | some (.iter (some m) since seen last) => match g m with
    | some (.map es clock) => if clock == since && (last == clock && es.all (fun e => e.2.2 < since)) then some (m, clock, seen, es) else none
    | _ => none
  | _ => none
def nextOf (o : Oper) : Option (Operand × Tmp) :=
  match o.op, o.dst, o.guard with
  | .next it false, some t, none => some (it, t)
  | _, _, _ => none
def CodeOkL (P : Program) (nt : Nat) (c : Code) (fr : Fr) (H : Heap) (L : List Out1) : Prop :=
  L ≠ [] ∧ (∀ o ∈ L, AStep H o.2.2) ∧ ∀ (φ : Emb) (a : Act) (w : World) (Q : Exit → Act → World → Prop), MRel φ H.get w → FRel φ fr a.tmps → nt ≤ a.tmps.size → (∀ o ∈ L, Fresh φ H.next o.2.2.next) →
      (∀ o ∈ L, ∀ a' w' φ', Post φ φ' H o.2.2 w w' a a' o.2.1 nt → Q o.1.of a' w') → c.wpIn (fence none) 0 P Q a w
theorem CodeOk.toL {P : Program} {nt : Nat} {c : Code} {fr fr' : Fr} {H H' : Heap} {x : Ex} (h : CodeOk P none nt c fr H x fr' H') : CodeOkL P nt c fr H [(x, fr', H')] := by
  obtain ⟨h1, h2⟩ := h
  refine ⟨by simp, by simpa using h1, fun φ a w Q hM hF hn hf hQ => h2 none φ a w Q rfl hM hF hn (hf (x, fr', H') (by simp)) fun a' w' φ' p => hQ (x, fr', H') (by simp) a' w' φ' p⟩
section
variable {P : Program} {ok : TypeId → Bool} {nt : Nat}
theorem CodeOkL.seq {c d : Code} {fr : Fr} {H : Heap} {L1 L : List Out1} {f : Fr → Heap → Option (List Out1)} (h1 : CodeOkL P nt c fr H L1) (h2 : ∀ fr1 H1 l, f fr1 H1 = some l → CodeOkL P nt d fr1 H1 l) (hb : bindL f L1 = some L) :
    L ≠ [] ∧ (∀ o ∈ L, AStep H o.2.2) ∧ ∀ (φ : Emb) (a : Act) (w : World) (Q : Exit → Act → World → Prop), MRel φ H.get w → FRel φ fr a.tmps → nt ≤ a.tmps.size → (∀ o ∈ L, Fresh φ H.next o.2.2.next) →
      (∀ o ∈ L, ∀ a' w' φ', Post φ φ' H o.2.2 w w' a a' o.2.1 nt → Q o.1.of a' w') → c.wpIn (fence none) 0 P (Exit.then (d.wpIn (fence none) 0 P Q) Q) a w := by
  obtain ⟨n1, a1, s1⟩ := h1
  obtain ⟨k1, k2⟩ := bindL_mem hb
  have step : ∀ o ∈ L, AStep H o.2.2 := by
    intro o ho
    rcases k2 o ho with ⟨g1, _⟩ | ⟨fr1, H1, l, g1, g2, g3⟩
    · exact a1 o g1
    · exact (a1 _ g1).trans ((h2 _ _ _ g2).2.1 o g3)
  refine ⟨?_, step, fun φ a w Q hM hF hn hf hQ => ?_⟩
  · obtain ⟨⟨x, fr1, H1⟩, ho⟩ := List.exists_mem_of_ne_nil _ n1
    obtain ⟨g1, g2⟩ := k1 x fr1 H1 ho
    by_cases hx : x = .normal
    · obtain ⟨l, q1, q2, q3⟩ := g2 hx
      obtain ⟨y, hy⟩ := List.exists_mem_of_ne_nil _ q2
      exact List.ne_nil_of_mem (q3 y hy)
    · exact List.ne_nil_of_mem (g1 hx)
  · have fresh1 : ∀ o ∈ L1, Fresh φ H.next o.2.2.next := by
      rintro ⟨x, fr1, H1⟩ ho
      obtain ⟨g1, g2⟩ := k1 x fr1 H1 ho
      by_cases hx : x = .normal
      · obtain ⟨l, q1, q2, q3⟩ := g2 hx
        obtain ⟨y, hy⟩ := List.exists_mem_of_ne_nil _ q2
        have := ((h2 _ _ _ q1).2.1 y hy).next
        exact (hf y (q3 y hy)).sub (Nat.le_refl _) this
      · exact hf _ (g1 hx)
    refine s1 φ a w _ hM hF hn fresh1 ?_
    rintro ⟨x, fr1, H1⟩ ho a' w' φ' p1
    obtain ⟨g1, g2⟩ := k1 x fr1 H1 ho
    by_cases hx : x = .normal
    · subst hx
      obtain ⟨l, q1, q2, q3⟩ := g2 rfl
      have h3 := h2 _ _ _ q1
      show Code.wpIn (fence none) 0 P d Q a' w'
      refine h3.2.2 φ' a' w' Q p1.step.rel p1.frel p1.nt (fun y hy => p1.step.fresh (a1 _ ho) (hf y (q3 y hy))) fun y hy a2 w2 φ2 p2 => ?_
      exact hQ y (q3 y hy) a2 w2 φ2 (p1.trans p2 (a1 _ ho) (h3.2.1 y hy) (hf y (q3 y hy)))
    · have := hQ (x, fr1, H1) (g1 hx) a' w' φ' p1
      cases x with
      | normal => exact absurd rfl hx
      | exit id => exact this
      | ret => exact this
theorem CodeOkL.loop {c : Code} {body : Fr → Heap → Option (List Out1)} (hb : ∀ fr H l, body fr H = some l → CodeOkL P nt c fr H l) :
    ∀ (n : Nat) (fr : Fr) (H : Heap) (L : List Out1), loopL body n fr H = some L → L ≠ [] ∧ (∀ o ∈ L, AStep H o.2.2) ∧ ∀ (φ : Emb) (a : Act) (w : World) (Q : Exit → Act → World → Prop), MRel φ H.get w → FRel φ fr a.tmps → nt ≤ a.tmps.size → (∀ o ∈ L, Fresh φ H.next o.2.2.next) →
      (∀ o ∈ L, ∀ a' w' φ', Post φ φ' H o.2.2 w w' a a' o.2.1 nt → Q o.1.of a' w') → Code.roundsIn (fence none) 0 P c Q n a w := by
  intro n
  induction n with
  | zero => intro fr H L h; simp [loopL] at h
  | succ n ih =>
    intro fr H L h
    simp only [loopL] at h
    split at h
    · rename_i L1 h1
      obtain ⟨n1, a1, s1⟩ := hb _ _ _ h1
      obtain ⟨k1, k2⟩ := bindL_mem h
      have step : ∀ o ∈ L, AStep H o.2.2 := by
        intro o ho
        rcases k2 o ho with ⟨g1, _⟩ | ⟨fr1, H1, l, g1, g2, g3⟩
        · exact a1 o g1
        · exact (a1 _ g1).trans ((ih _ _ _ g2).2.1 o g3)
      refine ⟨?_, step, fun φ a w Q hM hF hn hf hQ => ?_⟩
      · obtain ⟨⟨x, fr1, H1⟩, ho⟩ := List.exists_mem_of_ne_nil _ n1
        obtain ⟨g1, g2⟩ := k1 x fr1 H1 ho
        by_cases hx : x = .normal
        · obtain ⟨l, q1, q2, q3⟩ := g2 hx
          obtain ⟨y, hy⟩ := List.exists_mem_of_ne_nil _ q2
          exact List.ne_nil_of_mem (q3 y hy)
        · exact List.ne_nil_of_mem (g1 hx)
      · have fresh1 : ∀ o ∈ L1, Fresh φ H.next o.2.2.next := by
          rintro ⟨x, fr1, H1⟩ ho
          obtain ⟨g1, g2⟩ := k1 x fr1 H1 ho
          by_cases hx : x = .normal
          · obtain ⟨l, q1, q2, q3⟩ := g2 hx
            obtain ⟨y, hy⟩ := List.exists_mem_of_ne_nil _ q2
            have := ((ih _ _ _ q1).2.1 y hy).next
            exact (hf y (q3 y hy)).sub (Nat.le_refl _) this
          · exact hf _ (g1 hx)
        refine s1 φ a w _ hM hF hn fresh1 ?_
        rintro ⟨x, fr1, H1⟩ ho a' w' φ' p1
        obtain ⟨g1, g2⟩ := k1 x fr1 H1 ho
        by_cases hx : x = .normal
        · subst hx
          obtain ⟨l, q1, q2, q3⟩ := g2 rfl
          have h3 := ih _ _ _ q1
          show Code.roundsIn (fence none) 0 P c Q n a' w'
          refine h3.2.2 φ' a' w' Q p1.step.rel p1.frel p1.nt (fun y hy => p1.step.fresh (a1 _ ho) (hf y (q3 y hy))) fun y hy a2 w2 φ2 p2 => ?_
          exact hQ y (q3 y hy) a2 w2 φ2 (p1.trans p2 (a1 _ ho) (h3.2.1 y hy) (hf y (q3 y hy)))
        · have := hQ (x, fr1, H1) (g1 hx) a' w' φ' p1
          cases x with
          | normal => exact absurd rfl hx
          | exit id => exact this
          | ret => exact this
    · cases h
def unblock (id : Nat) (o : Out1) : Out1 :=
  match o with
  | (.exit id', fr, H) => if id' = id then (.normal, fr, H) else (.exit id', fr, H)
  | o => o
theorem CodeOkL.block {c : Code} {id : Nat} {fr : Fr} {H : Heap} {L : List Out1} (h : CodeOkL P nt c fr H L) : CodeOkL P nt (.block id c) fr H (L.map (unblock id)) := by
  obtain ⟨n1, a1, s1⟩ := h
  have same : ∀ o : Out1, (unblock id o).2 = o.2 := by
    rintro ⟨x, fr, H⟩
    cases x <;> simp only [unblock]
    split <;> rfl
  refine ⟨by simpa using n1, fun o ho => ?_, fun φ a w Q hM hF hn hf hQ => wpIn_block (s1 φ a w _ hM hF hn (fun o ho => ?_) fun o ho a' w' φ' p => ?_)⟩
  · obtain ⟨o', ho', rfl⟩ := List.mem_map.1 ho
    rw [same]; exact a1 o' ho'
  · have := hf (unblock id o) (List.mem_map_of_mem ho)
    rw [same] at this; exact this
  · have h2 := hQ (unblock id o) (List.mem_map_of_mem ho) a' w' φ' (by rw [same]; exact p)
    obtain ⟨x, fr1, H1⟩ := o
    cases x with
    | normal => exact h2
    | ret => exact h2
    | exit id' =>
      show (if id' = id then Q .normal a' w' else Q (.exit id') a' w')
      simp only [unblock] at h2
      by_cases hid : id' = id
      · rw [if_pos hid]; rw [if_pos hid] at h2; exact h2
      · rw [if_neg hid]; rw [if_neg hid] at h2; exact h2
end
end Go.Am
end
section
set_option linter.unusedSectionVars false
namespace Go.Am
section
variable (P : Program) (ok : TypeId → Bool)
def pickE (d : Doors) (nt : Nat) (ops : Array Oper) (t : Tmp) (os : List Oper) (fr : Fr) (H : Heap) (r m clock : Nat) (seen : List Nat) (e : AV × AV × Nat) : Option Out1 :=
  match putAt nt fr (some t) (.tuple [.bool true, e.1, e.2.1]), H.app (.put r (.iter (some m) clock (seen ++ [e.2.2]) clock)) with
  | some fr1, some H1 => match runOps P ok d nt ops os fr1 H1 with
    | some (fr', H') => some (.normal, fr', H')
    | none => none
  | _, _ => none
def nextAny (d : Doors) (nt : Nat) (ops : Array Oper) (draw : Bool) (fr : Fr) (H : Heap) : Option (List Out1) :=
  if draw then none else
  match ops.toList with
  | o :: os => match nextOf o with
    | some (it, t) => match ev fr it with
      | some (.ptr r 0) => match unseen H.get r with
        | some (m, clock, seen, es) => if (left seen es).length < 2 then none else mapO (pickE P ok d nt ops t os fr H r m clock seen) (left seen es)
        | none => none
      | _ => none
    | none => none
  | [] => none
end
theorem unseen_some {g : Get} {r m clock : Nat} {seen : List Nat} {es : List (AV × AV × Nat)} (h : unseen g r = some (m, clock, seen, es)) :
    g r = some (.iter (some m) clock seen clock) ∧ g m = some (.map es clock) ∧ es.all (fun e => e.2.2 < clock) = true := by
  unfold unseen at h
  split at h
  · rename_i m' since seen' last hr
    split at h
    · rename_i es' clock' hm
      split at h
      · rename_i hc
        simp only [Bool.and_eq_true, beq_iff_eq] at hc
        obtain ⟨rfl, rfl, h3⟩ := hc
        simp only [Option.some.injEq, Prod.mk.injEq] at h
        obtain ⟨rfl, rfl, rfl, rfl⟩ := h
        exact ⟨hr, hm, h3⟩
      · cases h
    · cases h
  · cases h
theorem nextOf_some {o : Oper} {it : Operand} {t : Tmp} (h : nextOf o = some (it, t)) : o.op = .next it false ∧ o.dst = some t ∧ o.guard = none := by
  unfold nextOf at h
  split at h
  · rename_i it' t' h1 h2 h3
    simp only [Option.some.injEq, Prod.mk.injEq] at h
    obtain ⟨rfl, rfl⟩ := h
    exact ⟨h1, h2, h3⟩
  · cases h
section
variable {P : Program} {ok : TypeId → Bool} {nt : Nat}
theorem wp_next {o : Oper} {it : Operand} {t : Tmp} (ho : nextOf o = some (it, t)) {a : Act} {w w1 : World} {v : Value} {K : Act → World → Prop} {Q : Exit → Act → World → Prop} {ys : Nat → Option Bool}
    (hrun : (Instr.next (a.eval it) false o.type).run P w = .ok v w1) (hK : K (a.put o.dst v) w1) :
    (if Region.wanted o ys then o.wpIn (fence none) 0 P a w K Q else (∀ f, o.about P w a.eval = some f → (fence none).fn f) ∧ K (a.put o.dst undef) w) := by
  obtain ⟨hop, hd, hg⟩ := nextOf_some ho
  have hw : Region.wanted o ys = true := by unfold Region.wanted; rw [hg]
  rw [if_pos hw]
  refine ⟨fun _ _ => trivial, ?_⟩
  have he : (execOp a.eval o).run P w = .ok (.value v) w1 := by
    unfold execOp
    rw [hop]
    simp [hrun]
  rw [Oper.semAt_eq _ _ _ (fun c h => by rw [hop] at h; cases h), he]
  exact hK
theorem nextAny_ok (hok : OkTypes P ok) {d : Doors} (hd : DoorsOk P d) {id : Nat} {ops : Array Oper} {draw : Bool} {fr : Fr} {H : Heap} {L : List Out1} (h : nextAny P ok d nt ops draw fr H = some L) :
    CodeOkL P nt (.region id ops draw) fr H L := by
  unfold nextAny at h
  split at h
  · cases h
  · rename_i hdr
    have hdr : draw = false := by simpa using hdr
    subst hdr
    split at h
    · rename_i o os hops
      split at h
      · rename_i it t hno
        split at h
        · rename_i r hev
          split at h
          · rename_i m clock seen es hun
            split at h
            · cases h
            · rename_i hlen
              obtain ⟨hr, hmm, hall⟩ := unseen_some hun
              obtain ⟨k1, k2, k3⟩ := mapO_mem h
              have hne : left seen es ≠ [] := by
                intro he; rw [he] at hlen; simp at hlen
              have each : ∀ e y, pickE P ok d nt ops t os fr H r m clock seen e = some y → ∃ fr1 H1 fr' H', putAt nt fr (some t) (.tuple [.bool true, e.1, e.2.1]) = some fr1 ∧ H.app (.put r (.iter (some m) clock (seen ++ [e.2.2]) clock)) = some H1 ∧
                  runOps P ok d nt ops os fr1 H1 = some (fr', H') ∧ y = (.normal, fr', H') := by
                intro e y hp
                unfold pickE at hp
                split at hp
                · rename_i fr1 H1 p1 p2
                  split at hp
                  · rename_i fr' H' p3
                    simp only [Option.some.injEq] at hp
                    exact ⟨fr1, H1, fr', H', p1, p2, p3, hp.symm⟩
                  · cases hp
                · cases hp
              refine ⟨?_, ?_, ?_⟩
              · intro hL
                subst hL
                simp only [List.length_nil] at k3
                omega
              · intro y hy
                obtain ⟨e, he, hp⟩ := k2 y hy
                obtain ⟨fr1, H1, fr', H', p1, p2, p3, rfl⟩ := each e y hp
                exact (app_step p2).2.2.1.trans (runOps_ok hok hd os p3).1
              · intro φ a w Q hM hF hn hf hQ
                have hrel := ev_rel hF hev
                generalize hcv : a.eval it = iv at hrel
                cases hrel with
                | ptr _ her =>
                  rename_i er
                  obtain ⟨hb0, m', ho1, em, hem, rfl⟩ := hM.obj r _ er hr her
                  obtain ⟨ms, hm1, hm2⟩ := hM.obj m _ em hmm hem
                  obtain ⟨e, he, y, w1, hy, hrun, hheap, hlike⟩ := (next_raw (P := P) ho1 hm1 hm2 hall o.type).2 hne
                  obtain ⟨out, hout, hp⟩ := k1 e he
                  obtain ⟨fr1, H1, fr', H', p1, p2, p3, rfl⟩ := each e out hp
                  obtain ⟨a2, s2⟩ := runOps_ok hok hd os p3
                  obtain ⟨g1, g2, a1, g4⟩ := app_step p2
                  obtain ⟨q1, q2⟩ := put_rel (w' := w1) (o' := .iter (some m) clock (seen ++ [e.2.2]) clock) hM hr her hheap hlike H.next H1.next ⟨hb0, some em.blk, rfl, em, hem, rfl⟩
                  have st1 : Step φ φ H H1 w w1 := ⟨by rw [g1]; exact q1, q2.weaken (Nat.le_refl _) (Nat.le_refl _) fun b hb => g4 b hb⟩
                  have hv : VRel φ (.tuple [.bool true, e.1, e.2.1]) (.tuple #[.bool true, y.key, y.val]) := .tuple (.cons (.bool true) (.cons hy.1 (.cons hy.2.1 .nil)))
                  obtain ⟨_, hdst, _⟩ := nextOf_some hno
                  have hput := put_frel (a := a) hF hn p1 hv
                  have hsz : ops.size = os.length + 1 := by rw [← Array.length_toList, hops]; rfl
                  refine wpIn_region ?_
                  rw [List.range_eq_range', hsz, List.range'_succ]
                  have ho0 : ops[0]? = some o := by rw [← Array.getElem?_toList, hops]; rfl
                  simp only [wpOpsIn, ho0]
                  refine wp_next hno (v := .tuple #[.bool true, y.key, y.val]) (w1 := w1) ?_ ?_
                  · rw [hcv, hb0]; exact hrun
                  · rw [hdst]
                    refine s2 none φ _ w1 Q 1 (by rw [hops]; rfl) st1.rel hput.1 hput.2.1 (st1.fresh a1 (hf _ hout)) fun a' w' φ' f1 n1 d1 st2 => ?_
                    exact hQ _ hout a' w' φ' ⟨st1.trans st2 a1 a2 ((hf _ hout).sub (Nat.le_refl _) a2.next), f1, n1, [], by rw [d1]; simpa using hput.2.2, .nil _ _ _ _⟩
          · cases h
        · cases h
      · cases h
    · cases h
end
end Go.Am
end
section
set_option linter.unusedSectionVars false
namespace Go.Am
def okJ (a b : Option AV) : Bool :=
  match a.getD .undef with
  | .any => (match b.getD .undef with | .bool _ | .agg _ => false | _ => true)
  | x => x.same (b.getD .undef)
def allR : Tr AV → Bool
  | .nil => true
  | .node l v r => okJ none v && (allR l && allR r)
def allL : Tr AV → Bool
  | .nil => true
  | .node l v r => okJ v none && (allL l && allL r)
def frLe : Tr AV → Tr AV → Bool
  | .nil, t => allR t
  | .node l v r, .nil => okJ v none && (allL l && allL r)
  | .node l v r, .node l' v' r' => okJ v v' && (frLe l l' && frLe r r')
theorem allR_get : ∀ {t : Tr AV}, allR t = true → ∀ p, okJ none (t.get p) = true
  | .nil, _, p => by rw [Tr.get_nil]; rfl
  | .node l v r, h, p => by
    simp only [allR, Bool.and_eq_true] at h
    cases p with
    | z => exact h.1
    | o p => exact allR_get h.2.1 p
    | i p => exact allR_get h.2.2 p
theorem allL_get : ∀ {t : Tr AV}, allL t = true → ∀ p, okJ (t.get p) none = true
  | .nil, _, p => by rw [Tr.get_nil]; rfl
  | .node l v r, h, p => by
    simp only [allL, Bool.and_eq_true] at h
    cases p with
    | z => exact h.1
    | o p => exact allL_get h.2.1 p
    | i p => exact allL_get h.2.2 p
theorem frLe_get : ∀ {s t : Tr AV}, frLe s t = true → ∀ p, okJ (s.get p) (t.get p) = true
  | .nil, t, h, p => by rw [Tr.get_nil]; exact allR_get h p
  | .node l v r, .nil, h, p => by
    rw [Tr.get_nil]
    exact allL_get (t := .node l v r) h p
  | .node l v r, .node l' v' r', h, p => by
    simp only [frLe, Bool.and_eq_true] at h
    cases p with
    | z => exact h.1
    | o p => exact frLe_get h.2.1 p
    | i p => exact frLe_get h.2.2 p
theorem okJ_rel {φ : Emb} {a b : Option AV} {v : Value} (h : okJ a b = true) (hv : VRel φ (b.getD .undef) v) : VRel φ (a.getD .undef) v := by
  unfold okJ at h
  split at h
  · rename_i ha
    rw [ha]
    generalize b.getD .undef = x at h hv
    cases hv <;> simp only at h <;> first | (cases h; done) | (exact .any _ rfl (fun _ e => by cases e)) | (rename_i h1 h2; exact .any _ h1 h2)
  · rw [AV.same_eq _ _ h]; exact hv
theorem FRel.junk {φ : Emb} {s t : Fr} {tmps : Array Value} (h : frLe s t = true) (hF : FRel φ t tmps) : FRel φ s tmps := fun x => okJ_rel (frLe_get h (path x)) (hF x)
def junk : List Tmp → Fr → Fr
  | [], fr => fr
  | t :: ts, fr => junk ts (match fr.at t with | .bool _ | .undef => fr | _ => Tr.set fr (path t) (some .any))
def dstsOf : Code → List Tmp
  | .region _ ops _ => ops.toList.filterMap (·.dst)
  | .seq a b => dstsOf a ++ dstsOf b
  | .cond _ a b => dstsOf a ++ dstsOf b
  | .block _ c => dstsOf c
  | .loop c => dstsOf c
  | _ => []
def others (es : List (AV × AV × Nat)) (e : AV × AV × Nat) : List Nat := es.flatMap fun x => if x.2.2 == e.2.2 then [] else blockOf x.2.1
def kills (l : List Nat) (tr : Tr AObj) : Tr AObj := l.foldr (fun b tr => tr.set (path b) none) tr
def viewOf (H : Heap) (r m clock : Nat) (es : List (AV × AV × Nat)) (e : AV × AV × Nat) : Heap :=
  { tr := (kills (others es e) H.tr).set (path r) (some (.at m e.2.2 clock)), next := H.next, floor := H.next, log := [] }
abbrev ExL := Code → Fr → Heap → Option (List Out1)
def isNormal : Ex → Bool
  | .normal => true
  | _ => false
def two (nt : Nat) (d1 d2 : Tmp) (fr : Fr) (x y : AV) : Option Fr :=
  match putAt nt fr (some d1) x with
  | some f => putAt nt f (some d2) y
  | none => none
def roundOf (ex : ExL) (nt : Nat) (d1 d2 : Tmp) (rest : Code) (fr : Fr) (H : Heap) (r m clock : Nat) (es : List (AV × AV × Nat)) (e : AV × AV × Nat) : Option (Fr × Heap) :=
  match two nt d1 d2 fr (.tuple [.bool true, e.1, e.2.1]) (.bool true) with
  | some f => match ex rest f (viewOf H r m clock es e) with
    | some [(.normal, f', R)] => if R.next == H.next && R.log.all (fun b => (blockOf e.2.1).contains b && (!(others es e).contains b && (!(b == r) && !(b == m)))) then some (f', R) else none
    | _ => none
  | none => none
def sameO : Option AObj → Option AObj → Bool
  | none, none => true
  | some a, some b => a.same b
  | _, _ => false
theorem sameO_eq {a b : Option AObj} (h : sameO a b = true) : a = b := by
  cases a <;> cases b <;> simp only [sameO] at h <;> first | rfl | (cases h; done) | rw [AObj.same_eq _ _ h]
def both (ex : ExL) (nt : Nat) (d1 d2 : Tmp) (rest : Code) (fr frI : Fr) (H : Heap) (r m clock : Nat) (es : List (AV × AV × Nat)) (e : AV × AV × Nat) : Option ((AV × AV × Nat) × Heap) :=
  match roundOf ex nt d1 d2 rest fr H r m clock es e, roundOf ex nt d1 d2 rest frI H r m clock es e with
  | some (f1, R1), some (f2, R2) => if frLe frI f1 && (frLe frI f2 && (decide (R2.log = R1.log) && R1.log.all (fun b => sameO (R2.get b) (R1.get b)))) then some (e, R1) else none
  | _, _ => none
abbrev Rounds := List ((AV × AV × Nat) × Heap)
def writes (qs : Rounds) : List (Nat × Option AObj) := qs.flatMap fun q => q.2.log.map fun b => (b, q.2.get b)
def setAllT (l : List (Nat × Option AObj)) (tr : Tr AObj) : Tr AObj := l.foldr (fun x tr => tr.set (path x.1) x.2) tr
def mixed (H : Heap) (r : Nat) (qs : Rounds) : Heap :=
  { tr := (setAllT (writes qs) H.tr).set (path r) none, next := H.next, floor := H.floor, log := outerLog H (r :: (writes qs).map (·.1)) }
def extOf (o : Oper) : Option (Tmp × Tmp) :=
  match o.op, o.dst, o.guard with
  | .extract (.tmp d1) 0, some d2, none => some (d1, d2)
  | _, _, _ => none
def shapeOf (c : Code) : Option (Oper × Oper × Code) :=
  match c with
  | .seq (.region _ ops false) rest => match ops.toList with
    | [o1, o2] => some (o1, o2, rest)
    | _ => none
  | _ => none
def anyRounds (ex : ExL) (nt : Nat) (it : Operand) (d1 d2 : Tmp) (rest : Code) (fr : Fr) (H : Heap) (r m clock : Nat) (es : List (AV × AV × Nat)) (frI : Fr) : Option Out1 :=
  match ev frI it with
  | some (.ptr r' 0) => if r' == r then
      match mapO (both ex nt d1 d2 rest fr frI H r m clock es) es with
      | some qs => match two nt d1 d2 frI (.tuple [.bool false]) (.bool false) with
        | some f => match ex rest f (mixed H r qs) with
          | some [(x, fr', H')] => if isNormal x then none else some (x, fr', H')
          | _ => none
        | none => none
      | none => none
    else none
  | _ => none
def anyLoop (ex : ExL) (nt : Nat) (c : Code) (fr : Fr) (H : Heap) : Option Out1 :=
  match shapeOf c with
  | some (o1, o2, rest) => match nextOf o1, extOf o2 with
    | some (it, d1), some (d1', d2) => if d1' == d1 then
        match ev fr it with
        | some (.ptr r 0) => match unseen H.get r with
          | some (m, clock, [], e0 :: e1 :: es) => if decide (((e0 :: e1 :: es).map (·.2.2)).Nodup) then
              match roundOf ex nt d1 d2 rest fr H r m clock (e0 :: e1 :: es) e0 with
              | some (f0, _) => anyRounds ex nt it d1 d2 rest fr H r m clock (e0 :: e1 :: es) (junk (d1 :: dstsOf rest) f0)
              | none => none
            else none
          | _ => none
        | _ => none
      else none
    | _, _ => none
  | none => none
theorem kills_get (l : List Nat) (tr : Tr AObj) (b : Nat) : (kills l tr).get (path b) = if b ∈ l then none else tr.get (path b) := by
  induction l with
  | nil => simp [kills]
  | cons c l ih =>
    show (Tr.set (kills l tr) (path c) none).get (path b) = _
    rw [Tr.get_set]
    by_cases h : b = c
    · subst h; simp
    · rw [if_neg (fun e : path c = path b => h (path_inj e).symm), ih]
      simp [h]
theorem setAllT_get (l : List (Nat × Option AObj)) (tr : Tr AObj) (b : Nat) : (setAllT l tr).get (path b) = match l.find? (fun x => x.1 == b) with | some x => x.2 | none => tr.get (path b) := by
  induction l with
  | nil => simp [setAllT]
  | cons c l ih =>
    show (Tr.set (setAllT l tr) (path c.1) c.2).get (path b) = _
    rw [Tr.get_set, List.find?_cons]
    by_cases h : c.1 = b
    · subst h; simp
    · rw [if_neg (fun e : path c.1 = path b => h (path_inj e)), ih]
      have : (c.1 == b) = false := by simpa using h
      rw [this]
theorem view_get {H : Heap} {r m clock : Nat} {es : List (AV × AV × Nat)} {e : AV × AV × Nat} {b : Nat} : (viewOf H r m clock es e).get b = if b < H.next then (if b = r then some (.at m e.2.2 clock) else if b ∈ others es e then none else H.get b) else none := by
  unfold Heap.get viewOf
  simp only
  by_cases hb : b < H.next
  · rw [if_pos hb, if_pos hb, Tr.get_set]
    by_cases h : b = r
    · subst h; simp
    · rw [if_neg (fun e : path r = path b => h (path_inj e).symm), kills_get, if_neg h]
      simp [hb]
  · rw [if_neg hb, if_neg hb]
def mixOf (H : Heap) (r : Nat) (qs : Rounds) : Get := fun b => if b = r then none else match (writes qs).find? (fun x => x.1 == b) with | some x => x.2 | none => H.get b
theorem mix_in {H : Heap} {r : Nat} {T : Rounds} {b : Nat} (hb : b ≠ r) {q : (AV × AV × Nat) × Heap} (hq : q ∈ T) (hl : b ∈ q.2.log) (huniq : ∀ q' ∈ T, b ∈ q'.2.log → q' = q) : mixOf H r T b = q.2.get b := by
  unfold mixOf
  rw [if_neg hb]
  have hin : (b, q.2.get b) ∈ writes T := List.mem_flatMap.2 ⟨q, hq, List.mem_map.2 ⟨b, hl, rfl⟩⟩
  cases hf : (writes T).find? (fun x => x.1 == b) with
  | none =>
    have := List.find?_eq_none.1 hf _ hin
    simp at this
  | some x =>
    have hx := List.mem_of_find?_eq_some hf
    have hx1 := List.find?_some hf
    simp only [beq_iff_eq] at hx1
    obtain ⟨q', hq', hx'⟩ := List.mem_flatMap.1 hx
    obtain ⟨c, hc, rfl⟩ := List.mem_map.1 hx'
    simp only at hx1
    subst hx1
    rw [huniq q' hq' hc]
theorem mix_out {H : Heap} {r : Nat} {T : Rounds} {b : Nat} (hb : b ≠ r) (h : ∀ q ∈ T, b ∉ q.2.log) : mixOf H r T b = H.get b := by
  unfold mixOf
  rw [if_neg hb]
  have : (writes T).find? (fun x => x.1 == b) = none := by
    rw [List.find?_eq_none]
    intro x hx
    obtain ⟨q, hq, hx'⟩ := List.mem_flatMap.1 hx
    obtain ⟨c, hc, rfl⟩ := List.mem_map.1 hx'
    simp only [beq_iff_eq]
    intro e
    subst e
    exact h q hq hc
  rw [this]
theorem mixed_get {H : Heap} {r : Nat} {qs : Rounds} (hn : ∀ q ∈ qs, q.2.next = H.next) : (mixed H r qs).get = mixOf H r qs := by
  funext b
  unfold Heap.get mixed mixOf
  simp only
  by_cases h : b = r
  · subst h
    simp [Tr.get_set]
  · rw [Tr.get_set, if_neg (fun e : path r = path b => h (path_inj e).symm), if_neg h, setAllT_get]
    by_cases hb : b < H.next
    · rw [if_pos hb]
      cases (writes qs).find? (fun x => x.1 == b) with
      | none => simp [Heap.get, hb]
      | some x => rfl
    · rw [if_neg hb]
      cases hf : (writes qs).find? (fun x => x.1 == b) with
      | none => simp [Heap.get, hb]
      | some x =>
        have hx := List.mem_of_find?_eq_some hf
        have hx1 := List.find?_some hf
        simp only [beq_iff_eq] at hx1
        obtain ⟨q, hq, hx'⟩ := List.mem_flatMap.1 hx
        obtain ⟨c, hc, rfl⟩ := List.mem_map.1 hx'
        simp only at hx1 ⊢
        subst hx1
        rw [get_ge]
        rw [hn q hq]; omega
end Go.Am
end
section
set_option linter.unusedSectionVars false
namespace Go.Am
structure LoopKnown (P : Program) (nt : Nat) (d1 d2 : Tmp) (rest : Code) (fr frI : Fr) (H : Heap) (r m clock : Nat) (es : List (AV × AV × Nat)) (qs : Rounds) : Prop where
  iter : H.get r = some (.iter (some m) clock [] clock)
  map : H.get m = some (.map es clock)
  born : es.all (fun e => e.2.2 < clock) = true
  nodup : (es.map (·.2.2)).Nodup
  all : ∀ e ∈ es, ∃ R, (e, R) ∈ qs
  only : ∀ q ∈ qs, q.1 ∈ es
  uniq : ∀ q ∈ qs, ∀ q' ∈ qs, q.1 = q'.1 → q = q'
  run : ∀ q ∈ qs, ∀ f, f = fr ∨ f = frI → ∃ f2 f3 R', two nt d1 d2 f (.tuple [.bool true, q.1.1, q.1.2.1]) (.bool true) = some f2 ∧ CodeOkL P nt rest f2 (viewOf H r m clock es q.1) [(.normal, f3, R')] ∧
    R'.next = H.next ∧ R'.log = q.2.log ∧ (∀ b ∈ q.2.log, R'.get b = q.2.get b) ∧ frLe frI f3 = true
  log : ∀ q ∈ qs, ∀ b ∈ q.2.log, b ∈ blockOf q.1.2.1 ∧ b ∉ others es q.1 ∧ b ≠ r ∧ b ≠ m
  next : ∀ q ∈ qs, q.2.next = H.next
  live : ∀ q ∈ qs, ∀ b ∈ q.2.log, q.2.get b ≠ none → H.get b ≠ none
def met (seen : List Nat) (qs : Rounds) : Rounds := qs.filter fun q => seen.contains q.1.2.2
theorem mem_met {seen : List Nat} {qs : Rounds} {q : (AV × AV × Nat) × Heap} : q ∈ met seen qs ↔ q ∈ qs ∧ q.1.2.2 ∈ seen := by
  simp [met]
section
variable {P : Program} {nt : Nat} {d1 d2 : Tmp} {rest : Code} {fr frI : Fr} {H : Heap} {r m clock : Nat} {es : List (AV × AV × Nat)} {qs : Rounds}
theorem nodup_eq {es : List (AV × AV × Nat)} (h : (es.map (·.2.2)).Nodup) {x y : AV × AV × Nat} (hx : x ∈ es) (hy : y ∈ es) (he : x.2.2 = y.2.2) : x = y := by
  induction es with
  | nil => cases hx
  | cons z es ih =>
    simp only [List.map_cons, List.nodup_cons, List.mem_map, not_exists, not_and] at h
    rcases List.mem_cons.1 hx with rfl | hx' <;> rcases List.mem_cons.1 hy with rfl | hy'
    · rfl
    · exact absurd he.symm (h.1 y hy')
    · exact absurd he (h.1 x hx')
    · exact ih h.2 hx' hy'
theorem LoopKnown.apart (kn : LoopKnown P nt d1 d2 rest fr frI H r m clock es qs) {q q' : (AV × AV × Nat) × Heap} (hq : q ∈ qs) (hq' : q' ∈ qs) {b : Nat} (h : b ∈ q.2.log) (h' : b ∈ q'.2.log) : q' = q := by
  by_cases he : q'.1.2.2 = q.1.2.2
  · exact kn.uniq q' hq' q hq (nodup_eq kn.nodup (kn.only q' hq') (kn.only q hq) he)
  · exfalso
    refine (kn.log q hq b h).2.1 (List.mem_flatMap.2 ⟨q'.1, kn.only q' hq', ?_⟩)
    have : (q'.1.2.2 == q.1.2.2) = false := by simpa using he
    rw [this]
    exact (kn.log q' hq' b h').1
theorem LoopKnown.mixIn (kn : LoopKnown P nt d1 d2 rest fr frI H r m clock es qs) {seen : List Nat} {q : (AV × AV × Nat) × Heap} (hq : q ∈ qs) (hs : q.1.2.2 ∈ seen) {b : Nat} (h : b ∈ q.2.log) : mixOf H r (met seen qs) b = q.2.get b :=
  mix_in (kn.log q hq b h).2.2.1 (mem_met.2 ⟨hq, hs⟩) h fun q' hq' h' => kn.apart hq (mem_met.1 hq').1 h h'
theorem LoopKnown.mixLive (kn : LoopKnown P nt d1 d2 rest fr frI H r m clock es qs) {seen : List Nat} {b : Nat} (h : mixOf H r (met seen qs) b ≠ none) : b ≠ r ∧ H.get b ≠ none := by
  have hb : b ≠ r := fun e => by subst e; exact h (by simp [mixOf])
  refine ⟨hb, ?_⟩
  by_cases hex : ∃ q ∈ met seen qs, b ∈ q.2.log
  · obtain ⟨q, hq, hl⟩ := hex
    obtain ⟨hq, hs⟩ := mem_met.1 hq
    rw [kn.mixIn hq hs hl] at h
    exact kn.live q hq b hl h
  · rw [mix_out hb fun q hq hl => hex ⟨q, hq, hl⟩] at h
    exact h
theorem LoopKnown.mixAdd (kn : LoopKnown P nt d1 d2 rest fr frI H r m clock es qs) {seen : List Nat} {q : (AV × AV × Nat) × Heap} (hq : q ∈ qs) (b : Nat) : mixOf H r (met (seen ++ [q.1.2.2]) qs) b = open Classical in if b ∈ q.2.log then q.2.get b else mixOf H r (met seen qs) b := by
  by_cases hl : b ∈ q.2.log
  · rw [if_pos hl]
    exact kn.mixIn hq (by simp) hl
  · rw [if_neg hl]
    by_cases hb : b = r
    · subst hb; simp [mixOf]
    by_cases hex : ∃ q' ∈ met seen qs, b ∈ q'.2.log
    · obtain ⟨q', hq', hl'⟩ := hex
      obtain ⟨hq', hs'⟩ := mem_met.1 hq'
      rw [kn.mixIn hq' hs' hl', kn.mixIn hq' (by simp [hs']) hl']
    · rw [mix_out hb fun q' hq' hl' => hex ⟨q', hq', hl'⟩]
      refine mix_out hb fun q' hq' hl' => ?_
      obtain ⟨h1, h2⟩ := mem_met.1 hq'
      rcases List.mem_append.1 h2 with h2 | h2
      · exact hex ⟨q', mem_met.2 ⟨h1, h2⟩, hl'⟩
      · simp only [List.mem_singleton] at h2
        have := kn.uniq q' h1 q hq (nodup_eq kn.nodup (kn.only q' h1) (kn.only q hq) h2)
        subst this
        exact hl hl'
theorem LoopKnown.viewMix (kn : LoopKnown P nt d1 d2 rest fr frI H r m clock es qs) {seen : List Nat} {q : (AV × AV × Nat) × Heap} (_hq : q ∈ qs) (hs : q.1.2.2 ∉ seen) {b : Nat} {o : AObj} (hb : b ≠ r) (h : (viewOf H r m clock es q.1).get b = some o) : mixOf H r (met seen qs) b = some o := by
  rw [view_get] at h
  split at h
  · skip
    split at h
    · cases h
    · rename_i hno
      rw [mix_out hb, h]
      intro q' hq' hl'
      obtain ⟨h1, h2⟩ := mem_met.1 hq'
      refine hno (List.mem_flatMap.2 ⟨q'.1, kn.only q' h1, ?_⟩)
      have : (q'.1.2.2 == q.1.2.2) = false := by
        simp only [beq_eq_false_iff_ne]
        intro e
        exact hs (e ▸ h2)
      rw [this]
      exact (kn.log q' h1 b hl').1
  · cases h
end
structure LoopInv (nt : Nat) (fr frI : Fr) (H : Heap) (r m clock : Nat) (qs : Rounds) (er em : Spot) (φ : Emb) (a₀ : Act) (w₀ : World) (seen : List Nat) (a : Act) (w : World) : Prop where
  iter : w.heap[er.blk]? = some (.mapIter (some em.blk) clock seen.toArray clock)
  mem : MRel φ (mixOf H r (met seen qs)) w
  lone : ∀ b o e, mixOf H r (met seen qs) b = some o → φ b = some e → e.blk ≠ er.blk
  frel : FRel φ (if seen = [] then fr else frI) a.tmps
  nt : nt ≤ a.tmps.size
  marks : ∃ ds : List Nat, a.defers = ds.map markOf ++ a₀.defers ∧ MarksAt φ (mixOf H r (met seen qs)) w₀.heap.size w ds
  frame : ∀ k, k < w₀.heap.size → (∀ b e, φ b = some e → e.blk = k → H.get b ≠ none → b ≠ r ∧ ∀ q ∈ qs, b ∉ q.2.log) → w.heap[k]? = w₀.heap[k]?
  size : w₀.heap.size ≤ w.heap.size
  os : w.os = w₀.os
  tape : w.tape = w₀.tape
  output : w.output = w₀.output
theorem two_frel {φ : Emb} {nt : Nat} {d1 d2 : Tmp} {f f2 : Fr} {x y : AV} {vx vy : Value} {a : Act} (h : two nt d1 d2 f x y = some f2) (hF : FRel φ f a.tmps) (hn : nt ≤ a.tmps.size) (hx : VRel φ x vx) (hy : VRel φ y vy) :
    FRel φ f2 ((a.put (some d1) vx).put (some d2) vy).tmps ∧ nt ≤ ((a.put (some d1) vx).put (some d2) vy).tmps.size ∧ ((a.put (some d1) vx).put (some d2) vy).defers = a.defers ∧ (a.put (some d1) vx).eval (.tmp d1) = vx := by
  unfold two at h
  split at h
  · rename_i f1 h1
    obtain ⟨p1, p2, p3⟩ := put_frel hF hn h1 hx
    obtain ⟨q1, q2, q3⟩ := put_frel (a := a.put (some d1) vx) p1 p2 h hy
    refine ⟨q1, q2, q3.trans p3, ?_⟩
    simp only [putAt] at h1
    split at h1
    · rename_i hd
      have hlt : d1 < a.tmps.size := Nat.lt_of_lt_of_le hd hn
      simp [Act.eval, Act.put, hlt]
    · cases h1
  · cases h
theorem extOf_some {o : Oper} {d1 d2 : Tmp} (h : extOf o = some (d1, d2)) : o.op = .extract (.tmp d1) 0 ∧ o.dst = some d2 ∧ o.guard = none := by
  unfold extOf at h
  split at h
  · rename_i e1 e2 h1 h2 h3
    simp only [Option.some.injEq, Prod.mk.injEq] at h
    obtain ⟨rfl, rfl⟩ := h
    exact ⟨h1, h2, h3⟩
  · cases h
theorem wp_extract {P : Program} {o : Oper} {d1 d2 : Tmp} (ho : extOf o = some (d1, d2)) {a : Act} {w : World} {vs : Array Value} {v : Value} {K : Act → World → Prop} {Q : Exit → Act → World → Prop} {ys : Nat → Option Bool}
    (hv : a.eval (.tmp d1) = .tuple vs) (h0 : vs[0]? = some v) (hK : K (a.put o.dst v) w) :
    (if Region.wanted o ys then o.wpIn (fence none) 0 P a w K Q else (∀ f, o.about P w a.eval = some f → (fence none).fn f) ∧ K (a.put o.dst undef) w) := by
  obtain ⟨hop, hd, hg⟩ := extOf_some ho
  have hw : Region.wanted o ys = true := by unfold Region.wanted; rw [hg]
  rw [if_pos hw]
  refine ⟨fun _ _ => trivial, ?_⟩
  have he : (execOp a.eval o).run P w = .ok (.value v) w := by
    unfold execOp
    rw [hop]
    simp [Instr.extract, hv, h0]
  rw [Oper.semAt_eq _ _ _ (fun c h => by rw [hop] at h; cases h), he]
  exact hK
theorem left_add {seen : List Nat} {es : List (AV × AV × Nat)} {e : AV × AV × Nat} (he : e ∈ left seen es) : (left (seen ++ [e.2.2]) es).length < (left seen es).length := by
  have h1 : left (seen ++ [e.2.2]) es = (left seen es).filter fun x => !(x.2.2 == e.2.2) := by
    simp only [left, List.filter_filter]
    apply List.filter_congr
    intro x _
    simp only [List.contains_append, List.contains_cons, List.contains_nil, Bool.or_false, Bool.not_or]
    exact Bool.and_comm _ _
  rw [h1]
  refine List.length_filter_lt_length_iff_exists.2 ⟨e, he, by simp⟩
end Go.Am
end
section
set_option linter.unusedSectionVars false
namespace Go.Am
section
variable {P : Program} {ok : TypeId → Bool} {nt : Nat} {d1 d2 : Tmp} {rest : Code} {fr frI : Fr} {H : Heap} {r m clock : Nat} {es : List (AV × AV × Nat)} {qs : Rounds}
theorem LoopKnown.round (kn : LoopKnown P nt d1 d2 rest fr frI H r m clock es qs) {er em : Spot} {φ : Emb} {a₀ a a1 : Act} {w₀ w w1 : World} {seen : List Nat} (her : φ r = some er) (hem : φ m = some em) (hb0 : er.base = 0)
    (J : LoopInv nt fr frI H r m clock qs er em φ a₀ w₀ seen a w) {e : AV × AV × Nat} (he : e ∈ left seen es) {vx : Value} (hvx : VRel φ (.tuple [.bool true, e.1, e.2.1]) vx)
    (hheap : w1.heap = w.heap.setIfInBounds er.blk (.mapIter (some em.blk) clock (seen ++ [e.2.2]).toArray clock)) (hlike : Like w w1)
    (ha1 : a1 = (a.put (some d1) vx).put (some d2) (.bool true)) {Q : Exit → Act → World → Prop} (hQ : ∀ a' w', LoopInv nt fr frI H r m clock qs er em φ a₀ w₀ (seen ++ [e.2.2]) a' w' → Q .normal a' w') :
    rest.wpIn (fence none) 0 P Q a1 w1 := by
  have hees : e ∈ es := (List.mem_filter.1 he).1
  have hun : e.2.2 ∉ seen := by
    have := (List.mem_filter.1 he).2
    simpa using this
  obtain ⟨R, hq⟩ := kn.all e hees
  obtain ⟨f2, f3, R', htwo, hcode, hnext, hlog, hget, hle⟩ := kn.run _ hq (if seen = [] then fr else frI) (by split <;> simp)
  simp only at hlog hget
  obtain ⟨p1, p2, p3, _⟩ := two_frel htwo J.frel J.nt hvx (.bool true)
  rw [← ha1] at p1 p2 p3
  have hlt : er.blk < w.heap.size := some_lt J.iter
  have hself : w1.heap[er.blk]? = some (.mapIter (some em.blk) clock (seen ++ [e.2.2]).toArray clock) := by rw [hheap, Array.getElem?_setIfInBounds_self_of_lt hlt]
  have hothers : ∀ k, k ≠ er.blk → w1.heap[k]? = w.heap[k]? := fun k hk => by rw [hheap, Array.getElem?_setIfInBounds_ne (Ne.symm hk)]
  have hsize : w1.heap.size = w.heap.size := by rw [hheap]; simp
  have hsee : ∀ {b o}, b ≠ r → (viewOf H r m clock es e).get b = some o → mixOf H r (met seen qs) b = some o := fun hb h => kn.viewMix hq hun hb h
  have hV : MRel φ (viewOf H r m clock es e).get w1 := by
    refine ⟨fun b o e1 hb he1 => ?_, fun b b' o o' e1 e1' hb hb' he1 he1' hk => ?_⟩
    · by_cases hbr : b = r
      · subst hbr
        rw [her] at he1; cases he1
        rw [view_get] at hb
        split at hb
        · simp only [if_true, Option.some.injEq] at hb
          subst hb
          exact ⟨hb0, em, clock, _, hem, hself, by simp⟩
        · cases hb
      · have h2 := hsee hbr hb
        rw [hothers e1.blk (J.lone b o e1 h2 he1)]
        exact J.mem.obj b o e1 h2 he1
    · by_cases hbr : b = r
      · by_cases hbr' : b' = r
        · rw [hbr, hbr']
        · subst hbr
          rw [her] at he1; cases he1
          exact absurd hk.symm (J.lone b' o' e1' (hsee hbr' hb') he1')
      · by_cases hbr' : b' = r
        · subst hbr'
          rw [her] at he1'; cases he1'
          exact absurd hk (J.lone b o e1 (hsee hbr hb) he1)
        · exact J.mem.inj b b' o o' e1 e1' (hsee hbr hb) (hsee hbr' hb') he1 he1' hk
  refine hcode.2.2 φ a1 w1 Q hV p1 p2 (fun o ho => ?_) fun o ho a' w' φ' post => ?_
  · simp only [List.mem_singleton] at ho
    subst ho
    intro b g1 g2
    simp only [hnext] at g2
    have : H.next ≤ b := g1
    omega
  simp only [List.mem_singleton] at ho
  subst ho
  simp only at post
  have hφ : φ' = φ := by
    funext b
    cases hb : φ' b with
    | none => cases hb2 : φ b with
      | none => rfl
      | some e => rw [post.step.mv.ext b e hb2] at hb; cases hb
    | some e1 =>
      rcases post.step.mv.dom b e1 hb with h | ⟨g1, g2, _⟩
      · exact h.symm
      · have g1' : H.next ≤ b := g1
        have g2' : b < R'.next := g2
        omega
  subst hφ
  have hastep := hcode.2.1 _ (List.mem_singleton.2 rfl)
  simp only at hastep
  have hlive : ∀ {b o}, mixOf H r (met (seen ++ [e.2.2]) qs) b = some o → ∃ o', mixOf H r (met seen qs) b = some o' := by
    intro b o hb
    have hadd := kn.mixAdd (seen := seen) hq b
    simp only at hadd
    rw [hadd] at hb
    by_cases hl : b ∈ R.log
    · rw [if_pos hl] at hb
      have hbr := (kn.log _ hq b hl).2.2.1
      have hR : R'.get b ≠ none := by rw [hget b hl, hb]; simp
      have hbn : b < (viewOf H r m clock es e).next := by
        have := get_lt (H := R') hR
        rw [hnext] at this; exact this
      obtain ⟨o', ho'⟩ := Option.ne_none_iff_exists'.1 (hastep.live b hbn hR)
      exact ⟨o', hsee hbr ho'⟩
    · rw [if_neg hl] at hb
      exact ⟨o, hb⟩
  have hfr : ∀ k, k < w.heap.size → (∀ b o e1, b ∈ R.log → mixOf H r (met seen qs) b = some o → φ' b = some e1 → e1.blk ≠ k) → w'.heap[k]? = w1.heap[k]? := by
    intro k hk hno
    refine post.step.mv.frame k fun hm => ?_
    rcases hm with hm | ⟨b, e1, g1, g2, g3, g4⟩
    · rw [hsize] at hm; omega
    · obtain ⟨o, ho⟩ := Option.ne_none_iff_exists'.1 g3
      rcases g4 with g4 | g4
      · rw [hlog] at g4
        exact hno b o e1 g4 (hsee (kn.log _ hq b g4).2.2.1 ho) g1 g2
      · have : b < H.next := get_lt (H := viewOf H r m clock es e) g3
        have : H.next ≤ b := g4
        omega
  refine hQ a' w' ?_
  obtain ⟨ds, hds, hmk⟩ := J.marks
  obtain ⟨ds', hds', hmk'⟩ := post.marks
  refine ⟨?_, ⟨fun b o e1 hb he1 => ?_, fun b b' o o' e1 e1' hb hb' he1 he1' hk => ?_⟩, fun b o e1 hb he1 => ?_, ?_, post.nt, ⟨ds' ++ ds, by rw [hds', p3, hds]; simp, ?_⟩, fun k hk hno => ?_, ?_, ?_, ?_, ?_⟩
  · rw [hfr er.blk hlt fun b o e1 _ h2 h3 => J.lone b o e1 h2 h3]; exact hself
  · have hadd := kn.mixAdd (seen := seen) hq b
    simp only at hadd
    have hb0' := hb
    rw [hadd] at hb
    by_cases hl : b ∈ R.log
    · rw [if_pos hl] at hb
      exact post.step.rel.obj b o e1 (by rw [hget b hl]; exact hb) he1
    · rw [if_neg hl] at hb
      have hblk := J.lone b o e1 hb he1
      rw [hfr e1.blk (J.mem.lt hb he1) fun b2 o2 e2 hl2 h2 h3 hk => hl (J.mem.inj b2 b o2 o e2 e1 h2 hb h3 he1 hk ▸ hl2), hothers e1.blk hblk]
      exact J.mem.obj b o e1 hb he1
  · obtain ⟨o2, h2⟩ := hlive hb
    obtain ⟨o2', h2'⟩ := hlive hb'
    exact J.mem.inj b b' o2 o2' e1 e1' h2 h2' he1 he1' hk
  · obtain ⟨o2, h2⟩ := hlive hb
    exact J.lone b o2 e1 h2 he1
  · rw [if_neg (by simp)]
    exact post.frel.junk hle
  · refine MarksAt.append (B' := w.heap.size) ⟨hmk.1, fun D hD => ?_⟩ ⟨hmk'.1, fun D hD => ?_⟩ J.size fun D hD => some_lt (hmk.2 D hD).2.1
    · obtain ⟨g1, g2, g3⟩ := hmk.2 D hD
      have hDlt := some_lt g2
      have hDer : D ≠ er.blk := fun e => by rw [e, J.iter] at g2; cases g2
      refine ⟨g1, ?_, fun b e1 hbe hl => ?_⟩
      · rw [hfr D hDlt fun b o e1 _ h2 h3 => g3 b e1 h3 (by rw [h2]; simp), hothers D hDer]; exact g2
      · obtain ⟨o, ho⟩ := Option.ne_none_iff_exists'.1 hl
        obtain ⟨o2, h2⟩ := hlive ho
        exact g3 b e1 hbe (by rw [h2]; simp)
    · obtain ⟨g1, g2, g3⟩ := hmk'.2 D hD
      rw [hsize] at g1
      refine ⟨g1, g2, fun b e1 hbe hl hk => ?_⟩
      obtain ⟨o, ho⟩ := Option.ne_none_iff_exists'.1 hl
      obtain ⟨o2, h2⟩ := hlive ho
      have := J.mem.lt h2 hbe
      omega
  · have hker : k ≠ er.blk := fun hke => (hno r er her hke.symm (by rw [kn.iter]; simp)).1 rfl
    rw [hfr k (Nat.lt_of_lt_of_le hk J.size) (fun b o e1 hl h2 h3 hkk => ?_), hothers k hker, J.frame k hk hno]
    exact (hno b e1 h3 hkk (kn.mixLive (by rw [h2]; simp)).2).2 _ hq hl
  · have := post.step.mv.size
    rw [hsize] at this
    exact Nat.le_trans J.size this
  · rw [post.step.mv.os, hlike.os, J.os]
  · rw [post.step.mv.tape, hlike.tape, J.tape]
  · rw [post.step.mv.output, hlike.output, J.output]
theorem LoopKnown.loop (kn : LoopKnown P nt d1 d2 rest fr frI H r m clock es qs) {o1 o2 : Oper} {it : Operand} {id : Nat} {ops : Array Oper} (hops : ops.toList = [o1, o2]) (hn1 : nextOf o1 = some (it, d1)) (he2 : extOf o2 = some (d1, d2))
    (hev : ev fr it = some (.ptr r 0)) (hevI : ev frI it = some (.ptr r 0)) {f : Fr} (htwo : two nt d1 d2 frI (.tuple [.bool false]) (.bool false) = some f) {x : Ex} {fr' : Fr} {H' : Heap} (hx : x ≠ .normal)
    (hend : CodeOkL P nt rest f (mixed H r qs) [(x, fr', H')]) (hne : es ≠ []) : CodeOkL P nt (.loop (.seq (.region id ops false) rest)) fr H [(x, fr', H')] := by
  have hnexts : ∀ q ∈ qs, q.2.next = H.next := kn.next
  have hmget := mixed_get (r := r) hnexts
  have aend := hend.2.1 _ (List.mem_singleton.2 rfl)
  simp only at aend
  have hlogm : ∀ b, b < H.floor → (b = r ∨ ∃ q ∈ qs, b ∈ q.2.log) → b ∈ (mixed H r qs).log := by
    intro b hb h
    show b ∈ outerLog H (r :: (writes qs).map (·.1))
    unfold outerLog
    by_cases hl : b ∈ H.log
    · exact List.mem_append_right _ hl
    · refine List.mem_append_left _ (List.mem_filter.2 ⟨?_, by simp [hl, hb]⟩)
      rcases h with h | ⟨q, hq, hl⟩
      · simp [h]
      · exact List.mem_cons_of_mem _ (List.mem_map.2 ⟨(b, q.2.get b), List.mem_flatMap.2 ⟨q, hq, List.mem_map.2 ⟨b, hl, rfl⟩⟩, rfl⟩)
  have hallmet : ∀ b, mixOf H r qs b = mixOf H r (met (es.map (·.2.2)) qs) b := by
    intro b
    have : met (es.map (·.2.2)) qs = qs := by
      unfold met
      rw [List.filter_eq_self]
      intro q hq
      simp only [List.contains_iff_mem]
      exact List.mem_map.2 ⟨q.1, kn.only q hq, rfl⟩
    rw [this]
  have am : AStep H (mixed H r qs) := by
    refine ⟨Nat.le_refl _, rfl, fun b hb => List.mem_append_right _ hb, fun b hb hw => ?_, fun b hb hl => ?_⟩
    · rw [hmget]
      have h1 : b ∉ (mixed H r qs).log := fun h => hw (.inl h)
      have h2 : b < H.floor := by
        rcases Nat.lt_or_ge b H.floor with h | h
        · exact h
        · exact absurd (.inr h) hw
      exact mix_out (fun e => h1 (hlogm b h2 (.inl e))) fun q hq hl => h1 (hlogm b h2 (.inr ⟨q, hq, hl⟩))
    · rw [hmget, hallmet] at hl
      exact (kn.mixLive hl).2
  refine ⟨by simp, fun o ho => ?_, fun φ a₀ w₀ Q hM hF hn hf hQ => ?_⟩
  · simp only [List.mem_singleton] at ho
    subst ho
    exact am.trans aend
  have hrel := ev_rel hF hev
  obtain ⟨er, her⟩ : ∃ er, φ r = some er := by
    generalize a₀.eval it = iv at hrel
    cases hrel with
    | ptr _ h => exact ⟨_, h⟩
  obtain ⟨hb0, m', ho1, em, hem, rfl⟩ := hM.obj r _ er kn.iter her
  obtain ⟨ms0, hm1, hm2⟩ := hM.obj m _ em kn.map hem
  have hmix0 : ∀ {b o}, mixOf H r (met [] qs) b = some o → b ≠ r ∧ H.get b = some o := by
    intro b o hb
    have hbr : b ≠ r := fun e => by subst e; simp [mixOf] at hb
    rw [mix_out hbr (by intro q hq; simp [met] at hq)] at hb
    exact ⟨hbr, hb⟩
  have J0 : LoopInv nt fr frI H r m clock qs er em φ a₀ w₀ [] a₀ w₀ := by
    refine ⟨ho1, ⟨fun b o e hb he => hM.obj b o e (hmix0 hb).2 he, fun b b' o o' e e' hb hb' he he' hk => hM.inj b b' o o' e e' (hmix0 hb).2 (hmix0 hb').2 he he' hk⟩, fun b o e hb he hk => ?_, by rw [if_pos rfl]; exact hF, hn,
      ⟨[], by simp, .nil _ _ _ _⟩, fun _ _ _ => rfl, Nat.le_refl _, rfl, rfl, rfl⟩
    exact (hmix0 hb).1 (hM.inj b r o _ e er (hmix0 hb).2 kn.iter he her hk)
  have hsz : ops.size = 2 := by rw [← Array.length_toList, hops]; rfl
  have hop0 : ops[0]? = some o1 := by rw [← Array.getElem?_toList, hops]; rfl
  have hop1 : ops[1]? = some o2 := by rw [← Array.getElem?_toList, hops]; rfl
  obtain ⟨_, hdst1, _⟩ := nextOf_some hn1
  obtain ⟨_, hdst2, _⟩ := extOf_some he2
  have hfin := hf _ (List.mem_singleton.2 rfl)
  simp only at hfin
  have rounds : ∀ (n : Nat) (seen : List Nat) (a : Act) (w : World), (left seen es).length < n → LoopInv nt fr frI H r m clock qs er em φ a₀ w₀ seen a w → Code.roundsIn (fence none) 0 P (.seq (.region id ops false) rest) Q n a w := by
    intro n
    induction n with
    | zero => intro seen a w h; omega
    | succ n ih =>
      intro seen a w hlt J
      have hmm : mixOf H r (met seen qs) m = some (.map es clock) := by
        have hmr : m ≠ r := fun e => by
          have := kn.iter
          rw [← e, kn.map] at this
          cases this
        rw [mix_out hmr fun q hq hl => (kn.log q (mem_met.1 hq).1 m hl).2.2.2 rfl]
        exact kn.map
      obtain ⟨ms, hms1, hms2⟩ := J.mem.obj m _ em hmm hem
      have hnr := next_raw (P := P) J.iter hms1 hms2 kn.born o1.type
      have heva : a.eval it = .pointer (some ⟨er.blk, 0, none⟩) := by
        have : ev (if seen = [] then fr else frI) it = some (.ptr r 0) := by split; exact hev; exact hevI
        have := ev_rel J.frel this
        generalize a.eval it = iv at this
        cases this with
        | ptr _ h => rw [her] at h; cases h; rw [hb0]
      refine wpIn_seq (wpIn_region ?_)
      rw [hsz]
      show wpOpsIn (fence none) 0 P ops _ [0, 1] a w
      simp only [wpOpsIn, hop0]
      by_cases hl : left seen es = []
      · have hrun := hnr.1 hl
        have hsne : seen ≠ [] := by
          intro e
          subst e
          apply hne
          have : left [] es = es := by simp [left]
          rw [← this, hl]
        have hfrel := J.frel
        rw [if_neg hsne] at hfrel
        obtain ⟨p1, p2, p3, p4⟩ := two_frel (vx := .tuple #[.bool false]) (vy := .bool false) htwo hfrel J.nt (.tuple (.cons (.bool false) .nil)) (.bool false)
        refine wp_next hn1 (v := .tuple #[.bool false]) (w1 := w) (by rw [heva]; exact hrun) ?_
        rw [hdst1]
        simp only [hop1]
        refine wp_extract he2 (vs := #[.bool false]) (v := .bool false) p4 rfl ?_
        rw [hdst2]
        have hsame : ∀ b, mixOf H r (met seen qs) b = (mixed H r qs).get b := by
          intro b
          rw [hmget]
          have : met seen qs = qs := by
            unfold met
            rw [List.filter_eq_self]
            intro q hq
            have := List.filter_eq_nil_iff.1 hl q.1 (kn.only q hq)
            simpa using this
          rw [this]
        have hMm : MRel φ (mixed H r qs).get w := by
          have : (mixed H r qs).get = mixOf H r (met seen qs) := by funext b; exact (hsame b).symm
          rw [this]; exact J.mem
        obtain ⟨ds, hds, hmk⟩ := J.marks
        have post1 : Post φ φ H (mixed H r qs) w₀ w a₀ ((a.put (some d1) (.tuple #[.bool false])).put (some d2) (.bool false)) f nt := by
          refine ⟨⟨hMm, ⟨.refl φ, fun _ _ h => .inl h, fun k hk => ?_, J.size, J.os, J.tape, J.output⟩⟩, p1, p2, ds, by rw [p3, hds], ?_⟩
          · have hk0 : k < w₀.heap.size := by
              rcases Nat.lt_or_ge k w₀.heap.size with h | h
              · exact h
              · exact absurd (.inl h) hk
            refine J.frame k hk0 fun b e hb hblk hlv => ?_
            have hnw : ¬ Wr H (mixed H r qs) b := fun hw => hk (.inr ⟨b, e, hb, hblk, hlv, hw⟩)
            have h1 : b ∉ (mixed H r qs).log := fun h => hnw (.inl h)
            have h2 : b < H.floor := by
              rcases Nat.lt_or_ge b H.floor with h | h
              · exact h
              · exact absurd (.inr h) hnw
            exact ⟨fun e => h1 (hlogm b h2 (.inl e)), fun q hq hl => h1 (hlogm b h2 (.inr ⟨q, hq, hl⟩))⟩
          · have : (mixed H r qs).get = mixOf H r (met seen qs) := by funext b; exact (hsame b).symm
            rw [this]; exact hmk
        refine hend.2.2 φ _ w _ hMm p1 p2 (fun o ho => ?_) fun o ho a' w' φ' post => ?_
        · simp only [List.mem_singleton] at ho
          subst ho
          exact hfin
        · simp only [List.mem_singleton] at ho
          subst ho
          have := hQ (x, fr', H') (by simp) a' w' φ' (post1.trans post am aend hfin)
          cases x with
          | normal => exact absurd rfl hx
          | exit id => exact this
          | ret => exact this
      · obtain ⟨e, he, y, w1, hy, hrun, hheap, hlike⟩ := hnr.2 hl
        have hv : VRel φ (.tuple [.bool true, e.1, e.2.1]) (.tuple #[.bool true, y.key, y.val]) := .tuple (.cons (.bool true) (.cons hy.1 (.cons hy.2.1 .nil)))
        have hees : e ∈ es := (List.mem_filter.1 he).1
        obtain ⟨R, hq⟩ := kn.all e hees
        obtain ⟨f2, _, _, ht2, _⟩ := kn.run _ hq (if seen = [] then fr else frI) (by split <;> simp)
        obtain ⟨_, _, _, p4⟩ := two_frel ht2 J.frel J.nt hv (.bool true)
        refine wp_next hn1 (v := .tuple #[.bool true, y.key, y.val]) (w1 := w1) (by rw [heva]; exact hrun) ?_
        rw [hdst1]
        simp only [hop1]
        refine wp_extract he2 (vs := #[.bool true, y.key, y.val]) (v := .bool true) p4 rfl ?_
        rw [hdst2]
        exact kn.round her hem hb0 J he hv hheap hlike rfl fun a' w' J' => ih _ a' w' (by have := left_add he; omega) J'
  have hll : (left [] es).length < es.length + 1 := by
    have : left [] es = es := by simp [left]
    rw [this]; omega
  exact wpIn_loop_rounds (es.length + 1) (rounds _ [] a₀ w₀ hll J0)
end
end Go.Am
end
section
set_option linter.unusedSectionVars false
namespace Go.Am
section
variable (P : Program) (ok : TypeId → Bool)
def execL (d : Doors) : Nat → Nat → Code → Fr → Heap → Option (List Out1)
  | 0, _, _, _, _ => none
  | n + 1, nt, c, fr, H =>
    match c with
    | .skip => some [(.normal, fr, H)]
    | .label _ => some [(.normal, fr, H)]
    | .exit id => some [(.exit id, fr, H)]
    | .ret => some [(.ret, fr, H)]
    | .region _ ops draw => match nextAny P ok d nt ops draw fr H with
      | some L => some L
      | none => match region P ok d nt ops draw fr H with
        | .done x fr' H' => some [(x, fr', H')]
        | .fail => none
    | .seq a b => match execL d n nt a fr H with
      | some l => bindL (execL d n nt b) l
      | none => none
    | .cond c a b => match ev fr c with
      | some (.bool true) => execL d n nt a fr H
      | some (.bool false) => execL d n nt b fr H
      | _ => none
    | .block id c => (execL d n nt c fr H).map fun l => l.map (unblock id)
    | .loop c => match anyLoop (fun c fr H => execL d n nt c fr H) nt c fr H with
      | some o => some [o]
      | none => loopL (execL d n nt c) n fr H
    | _ => none
end
section
variable {P : Program} {ok : TypeId → Bool} {nt : Nat}
theorem anyLoop_ok {ex : ExL} (hex : ∀ c fr H L, ex c fr H = some L → CodeOkL P nt c fr H L) {c : Code} {fr : Fr} {H : Heap} {o : Out1} (h : anyLoop ex nt c fr H = some o) : CodeOkL P nt (.loop c) fr H [o] := by
  unfold anyLoop at h
  split at h
  rotate_left
  · cases h
  rename_i o1 o2 rest hshape
  have hc : ∃ id ops, c = .seq (.region id ops false) rest ∧ ops.toList = [o1, o2] := by
    unfold shapeOf at hshape
    split at hshape
    · rename_i id ops rest'
      split at hshape
      · rename_i p1 p2 hops
        simp only [Option.some.injEq, Prod.mk.injEq] at hshape
        obtain ⟨rfl, rfl, rfl⟩ := hshape
        exact ⟨id, ops, rfl, hops⟩
      · cases hshape
    · cases hshape
  obtain ⟨id, ops, rfl, hops⟩ := hc
  split at h
  rotate_left
  · cases h
  rename_i it d1 d1' d2 hn1 he2
  split at h
  rotate_left
  · cases h
  rename_i hd
  simp only [beq_iff_eq] at hd
  subst hd
  split at h
  rotate_left
  · cases h
  rename_i r hev
  split at h
  rotate_left
  · cases h
  rename_i m clock e0 e1 es' hun
  generalize hes : (e0 :: e1 :: es') = es at h hun
  have hne : es ≠ [] := by rw [← hes]; simp
  split at h
  rotate_left
  · cases h
  rename_i hnd
  simp only [decide_eq_true_eq] at hnd
  split at h
  rotate_left
  · cases h
  rename_i f0 _ _
  generalize junk (d1' :: dstsOf rest) f0 = frI at h
  unfold anyRounds at h
  split at h
  rotate_left
  · cases h
  rename_i r' hevI
  split at h
  rotate_left
  · cases h
  rename_i hr
  simp only [beq_iff_eq] at hr
  subst hr
  split at h
  rotate_left
  · cases h
  rename_i qs hqs
  split at h
  rotate_left
  · cases h
  rename_i f htwo
  split at h
  rotate_left
  · cases h
  rename_i x fr' H' hend
  split at h
  · cases h
  rename_i hx
  simp only [Option.some.injEq] at h
  subst h
  obtain ⟨hr1, hr2, hr3⟩ := unseen_some hun
  obtain ⟨k1, k2, _⟩ := mapO_mem hqs
  have hround : ∀ g e f' R, roundOf ex nt d1' d2 rest g H r' m clock es e = some (f', R) → ∃ f2, two nt d1' d2 g (.tuple [.bool true, e.1, e.2.1]) (.bool true) = some f2 ∧ ex rest f2 (viewOf H r' m clock es e) = some [(.normal, f', R)] ∧ R.next = H.next ∧
      ∀ b ∈ R.log, b ∈ blockOf e.2.1 ∧ b ∉ others es e ∧ b ≠ r' ∧ b ≠ m := by
    intro g e f' R hg
    unfold roundOf at hg
    split at hg
    · rename_i f2 hf2
      split at hg
      · rename_i f3 R3 hex3
        split at hg
        · rename_i hcond
          simp only [Option.some.injEq, Prod.mk.injEq] at hg
          obtain ⟨rfl, rfl⟩ := hg
          simp only [Bool.and_eq_true, beq_iff_eq, List.all_eq_true, List.contains_iff_mem, Bool.not_eq_true', beq_eq_false_iff_ne] at hcond
          refine ⟨f2, hf2, hex3, hcond.1, fun b hb => ?_⟩
          obtain ⟨h1, h2, h3, h4⟩ := hcond.2 b hb
          exact ⟨h1, by simpa using h2, h3, h4⟩
        · cases hg
      · cases hg
    · cases hg
  have hboth : ∀ e q, both ex nt d1' d2 rest fr frI H r' m clock es e = some q → q.1 = e ∧ ∃ f1 f2 R2, roundOf ex nt d1' d2 rest fr H r' m clock es e = some (f1, q.2) ∧ roundOf ex nt d1' d2 rest frI H r' m clock es e = some (f2, R2) ∧
      frLe frI f1 = true ∧ frLe frI f2 = true ∧ R2.log = q.2.log ∧ ∀ b ∈ q.2.log, R2.get b = q.2.get b := by
    intro e q hq
    unfold both at hq
    split at hq
    · rename_i f1 R1 f2 R2 h1 h2
      split at hq
      · rename_i hcond
        simp only [Option.some.injEq] at hq
        subst hq
        simp only [Bool.and_eq_true, decide_eq_true_eq, List.all_eq_true] at hcond
        exact ⟨rfl, f1, f2, R2, h1, h2, hcond.1, hcond.2.1, hcond.2.2.1, fun b hb => sameO_eq (hcond.2.2.2 b hb)⟩
      · cases hq
    · cases hq
  have kn : LoopKnown P nt d1' d2 rest fr frI H r' m clock es qs := by
    refine ⟨hr1, hr2, hr3, hnd, fun e he => ?_, fun q hq => ?_, fun q hq q' hq' he => ?_, fun q hq g hg => ?_, fun q hq b hb => ?_, fun q hq => ?_, fun q hq b hb hl => ?_⟩
    · obtain ⟨q, hq, hb⟩ := k1 e he
      obtain ⟨rfl, _⟩ := hboth e q hb
      exact ⟨q.2, hq⟩
    · obtain ⟨e, he, hb⟩ := k2 q hq
      rw [(hboth e q hb).1]; exact he
    · obtain ⟨e, _, hb⟩ := k2 q hq
      obtain ⟨e', _, hb'⟩ := k2 q' hq'
      have h1 := (hboth e q hb).1
      have h2 := (hboth e' q' hb').1
      rw [h1, h2] at he
      subst he
      rw [hb] at hb'
      exact Option.some.inj hb'
    · obtain ⟨e, _, hb⟩ := k2 q hq
      obtain ⟨rfl, f1, f2, R2, g1, g2, g3, g4, g5, g6⟩ := hboth e q hb
      rcases hg with rfl | rfl
      · obtain ⟨f3, p1, p2, p3, p4⟩ := hround _ _ _ _ g1
        exact ⟨f3, f1, q.2, p1, hex _ _ _ _ p2, p3, rfl, fun _ _ => rfl, g3⟩
      · obtain ⟨f3, p1, p2, p3, p4⟩ := hround _ _ _ _ g2
        exact ⟨f3, f2, R2, p1, hex _ _ _ _ p2, p3, g5, g6, g4⟩
    · obtain ⟨e, _, hb'⟩ := k2 q hq
      obtain ⟨rfl, f1, f2, R2, g1, _⟩ := hboth e q hb'
      obtain ⟨f3, p1, p2, p3, p4⟩ := hround _ _ _ _ g1
      exact p4 b hb
    · obtain ⟨e, _, hb'⟩ := k2 q hq
      obtain ⟨rfl, f1, f2, R2, g1, _⟩ := hboth e q hb'
      obtain ⟨f3, p1, p2, p3, p4⟩ := hround _ _ _ _ g1
      exact p3
    · obtain ⟨e, _, hb'⟩ := k2 q hq
      obtain ⟨rfl, f1, f2, R2, g1, _⟩ := hboth e q hb'
      obtain ⟨f3, p1, p2, p3, p4⟩ := hround _ _ _ _ g1
      have ha := (hex _ _ _ _ p2).2.1 _ (List.mem_singleton.2 rfl)
      have hbn : b < H.next := by
        have := get_lt (H := q.2) hl
        rw [p3] at this; exact this
      have := ha.live b hbn hl
      rw [view_get, if_pos hbn, if_neg (p4 b hb).2.2.1] at this
      split at this
      · exact absurd rfl this
      · exact this
  refine kn.loop hops hn1 he2 hev hevI htwo (fun e => ?_) (hex _ _ _ _ hend) hne
  subst e
  exact hx rfl
theorem execL_ok (hm : P.follows .mixedOrders = true) (hok : OkTypes P ok) {d : Doors} (hd : DoorsOk P d) :
    ∀ (n nt : Nat) (c : Code) (fr : Fr) (H : Heap) (L : List Out1), execL P ok d n nt c fr H = some L → CodeOkL P nt c fr H L := by
  intro n
  induction n with
  | zero => intro nt c fr H L h; simp [execL] at h
  | succ n ih =>
    intro nt c fr H L h
    cases c with
    | skip =>
      simp only [execL, Option.some.injEq] at h
      subst h
      exact CodeOk.toL ⟨.refl _, fun rc φ a w Q _ hM hF hn hf hQ => wpIn_skip (hQ a w φ ⟨.refl hM, hF, hn, [], by simp, .nil _ _ _ _⟩)⟩
    | label l =>
      simp only [execL, Option.some.injEq] at h
      subst h
      exact CodeOk.toL ⟨.refl _, fun rc φ a w Q _ hM hF hn hf hQ => wpIn_label (hQ a w φ ⟨.refl hM, hF, hn, [], by simp, .nil _ _ _ _⟩)⟩
    | exit id =>
      simp only [execL, Option.some.injEq] at h
      subst h
      exact CodeOk.toL ⟨.refl _, fun rc φ a w Q _ hM hF hn hf hQ => wpIn_exit (hQ a w φ ⟨.refl hM, hF, hn, [], by simp, .nil _ _ _ _⟩)⟩
    | ret =>
      simp only [execL, Option.some.injEq] at h
      subst h
      exact CodeOk.toL ⟨.refl _, fun rc φ a w Q _ hM hF hn hf hQ => wpIn_ret (hQ a w φ ⟨.refl hM, hF, hn, [], by simp, .nil _ _ _ _⟩)⟩
    | region id ops draw =>
      simp only [execL] at h
      split at h
      · rename_i L' hL
        simp only [Option.some.injEq] at h
        subst h
        exact nextAny_ok hok hd hL
      · split at h
        · rename_i x fr' H' hr
          simp only [Option.some.injEq] at h
          subst h
          exact (region_ok (id := id) (ro := none) hm hok hd hr).toL
        · cases h
    | seq a b =>
      simp only [execL] at h
      split at h
      · rename_i l hl
        obtain ⟨h1, h2, h3⟩ := (ih nt a fr H l hl).seq (fun fr1 H1 l1 => ih nt b fr1 H1 l1) h
        exact ⟨h1, h2, fun φ a w Q hM hF hn hf hQ => wpIn_seq (h3 φ a w Q hM hF hn hf hQ)⟩
      · cases h
    | cond c a b =>
      simp only [execL] at h
      split at h
      · rename_i hc
        obtain ⟨h1, h2, h3⟩ := ih nt a fr H L h
        refine ⟨h1, h2, fun φ a w Q hM hF hn hf hQ => wpIn_cond_true ?_ (h3 φ a w Q hM hF hn hf hQ)⟩
        have := ev_rel hF hc
        generalize a.eval c = y at this ⊢
        cases this; rfl
      · rename_i hc
        obtain ⟨h1, h2, h3⟩ := ih nt b fr H L h
        refine ⟨h1, h2, fun φ a w Q hM hF hn hf hQ => wpIn_cond_false ?_ (h3 φ a w Q hM hF hn hf hQ)⟩
        have := ev_rel hF hc
        generalize a.eval c = y at this ⊢
        cases this; rfl
      · cases h
    | block id c =>
      simp only [execL, Option.map_eq_some_iff] at h
      obtain ⟨l, hl, rfl⟩ := h
      exact (ih nt c fr H l hl).block
    | loop c =>
      simp only [execL] at h
      split at h
      · rename_i o ho
        simp only [Option.some.injEq] at h
        subst h
        exact anyLoop_ok (fun c fr H L => ih nt c fr H L) ho
      · obtain ⟨h1, h2, h3⟩ := CodeOkL.loop (fun fr H l => ih nt c fr H l) n fr H L h
        exact ⟨h1, h2, fun φ a w Q hM hF hn hf hQ => wpIn_loop_rounds n (h3 φ a w Q hM hF hn hf hQ)⟩
    | _ => simp [execL] at h
end
def meetL (H : Heap) (v : AV) (H1 : Heap) (os : List (AV × Heap)) : Option (AV × Heap) :=
  if os.all (fun o => v.same o.1 && o.2.next == H1.next) then
    some (v, { tr := kills ((List.range' H.next (H1.next - H.next) ++ (H1.log ++ os.flatMap (·.2.log))).filter fun b => !os.all fun o => sameO (o.2.get b) (H1.get b)) H1.tr, next := H1.next, floor := H.floor, log := outerLog H (H1.log ++ os.flatMap (·.2.log)) })
  else none
section
variable (P : Program) (ok : TypeId → Bool)
def outVal (fn : Func) (o : Out1) : Option (AV × Heap) :=
  match o.1 with
  | .exit _ => none
  | _ => (results P o.2.2 o.2.1 fn.results.toList).map fun vs => (one vs, o.2.2)
def enterL (d : Doors) (fuel : Nat) (f : FuncId) (xs : List AV) (H : Heap) : OutH :=
  match P.funcs[f]? with
  | some fn => match fn.body with
    | some c => if fn.name == "runtime.NumGoroutine" then none else
      match args fn.ntmps 0 xs .nil with
      | some fr => match execL P ok d fuel fn.ntmps c fr (low H) with
        | some L => match mapO (outVal P fn) L with
          | some ((v, H1) :: os) => meetL H v H1 os
          | _ => none
        | none => none
      | none => none
    | none => none
  | none => none
end
section
variable {P : Program} {ok : TypeId → Bool}
theorem lift_step {φ φ' : Emb} {H R H' : Heap} {w w' : World} {l : List Nat} (s : Step φ φ' (low H) R w w') (hl : ∀ b ∈ R.log, b ∈ l) (hlog : H'.log = outerLog H l) (hn : H'.next = R.next) (hsub : ∀ b o, H'.get b = some o → R.get b = some o) : Step φ φ' H H' w w' := by
  have mine : ∀ k, Mine φ H.get (Wr (low H) R) w k → Mine φ H.get (Wr H H') w k := by
    intro k hk
    rcases hk with hk | ⟨b, e, p1, p2, p3, p4⟩
    · exact .inl hk
    · refine .inr ⟨b, e, p1, p2, p3, ?_⟩
      rcases p4 with p4 | p4
      · by_cases hfl : H.floor ≤ b
        · exact .inr hfl
        · refine .inl ?_
          rw [hlog]
          unfold outerLog
          by_cases hm : b ∈ H.log
          · exact List.mem_append_right _ hm
          · refine List.mem_append_left _ (List.mem_filter.2 ⟨hl b p4, ?_⟩)
            simp [hm]; omega
      · have : H.next ≤ b := p4
        have := get_lt (H := H) p3
        omega
  refine ⟨⟨fun b o e hb he => s.rel.obj b o e (hsub b o hb) he, fun b b' o o' e e' hb hb' he he' hk => s.rel.inj b b' o o' e e' (hsub b o hb) (hsub b' o' hb') he he' hk⟩, ?_⟩
  refine ⟨s.mv.ext, fun b e he => ?_, fun k hk => s.mv.frame k fun h => hk (mine k h), s.mv.size, s.mv.os, s.mv.tape, s.mv.output⟩
  rcases s.mv.dom b e he with h | ⟨h1, h2, h3⟩
  · exact .inl h
  · exact .inr ⟨h1, by rw [hn]; exact h2, mine _ h3⟩
theorem meetL_ok {H : Heap} {v : AV} {H1 : Heap} {os : List (AV × Heap)} {v' : AV} {H' : Heap} (h : meetL H v H1 os = some (v', H')) (ha1 : AStep (low H) H1) (ha : ∀ o ∈ os, AStep (low H) o.2) :
    v' = v ∧ AStep H H' ∧ ∀ o, o = (v, H1) ∨ o ∈ os → o.1 = v ∧ o.2.next = H'.next ∧ ∀ (φ φ' : Emb) (w w' : World), Step φ φ' (low H) o.2 w w' → Step φ φ' H H' w w' := by
  unfold meetL at h
  split at h
  rotate_left
  · cases h
  rename_i hall
  simp only [Option.some.injEq, Prod.mk.injEq] at h
  obtain ⟨rfl, hH⟩ := h
  simp only [List.all_eq_true, Bool.and_eq_true, beq_iff_eq] at hall
  have hn : H'.next = H1.next := by rw [← hH]
  have hl : H'.log = outerLog H (H1.log ++ os.flatMap (·.2.log)) := by rw [← hH]
  have hfl : H'.floor = H.floor := by rw [← hH]
  have hg : ∀ b, H'.get b = if b < H1.next then (if b ∈ ((List.range' H.next (H1.next - H.next) ++ (H1.log ++ os.flatMap (·.2.log))).filter fun b => !os.all fun o => sameO (o.2.get b) (H1.get b)) then none else H1.get b) else none := by
    intro b
    rw [← hH]
    unfold Heap.get
    simp only
    by_cases hb : b < H1.next
    · rw [if_pos hb, if_pos hb, kills_get]
      simp [hb, Heap.get]
    · rw [if_neg hb, if_neg hb]
  have hsub1 : ∀ b o, H'.get b = some o → H1.get b = some o := by
    intro b o hb
    rw [hg] at hb
    split at hb
    · split at hb
      · cases hb
      · exact hb
    · cases hb
  have hsub : ∀ q ∈ os, ∀ b o, H'.get b = some o → q.2.get b = some o := by
    intro q hq b o hb
    have hb1 := hsub1 b o hb
    have hbn : b < H1.next := get_lt (H := H1) (by rw [hb1]; simp)
    rw [hg, if_pos hbn] at hb
    split at hb
    · cases hb
    · rename_i hnot
      by_cases hin : b ∈ List.range' H.next (H1.next - H.next) ++ (H1.log ++ os.flatMap (·.2.log))
      · have : (!os.all fun o => sameO (o.2.get b) (H1.get b)) ≠ true := fun h => hnot (List.mem_filter.2 ⟨hin, h⟩)
        simp only [Bool.not_eq_true', ne_eq, Bool.not_eq_false, List.all_eq_true] at this
        rw [sameO_eq (this q hq)]; exact hb
      · simp only [List.mem_append, not_or, List.mem_range'_1, not_and, Nat.not_lt, List.mem_flatMap, not_exists] at hin
        obtain ⟨h1, h2, h3⟩ := hin
        have hlt : b < H.next := by
          rcases Nat.lt_or_ge b H.next with h | h
          · exact h
          · have := h1 h; omega
        have hk1 := ha1.keep b hlt (fun hw => hw.elim h2 fun h => by have : H.next ≤ b := h; omega)
        have hkq := (ha q hq).keep b hlt (fun hw => hw.elim (h3 q hq) fun h => by have : H.next ≤ b := h; omega)
        rw [hkq, ← hk1]; exact hb
  refine ⟨rfl, ⟨by rw [hn]; exact ha1.next, hfl, fun b hb => by rw [hl]; exact List.mem_append_right _ hb, fun b hb hw => ?_, fun b hb hlv => ?_⟩, fun o ho => ?_⟩
  · have h1 : b ∉ H'.log := fun h => hw (.inl h)
    have h2 : b < H.floor := by
      rcases Nat.lt_or_ge b H.floor with h | h
      · exact h
      · exact absurd (.inr h) hw
    have h3 : b ∉ H1.log ++ os.flatMap (·.2.log) := by
      intro h
      apply h1
      rw [hl]
      unfold outerLog
      by_cases hm : b ∈ H.log
      · exact List.mem_append_right _ hm
      · exact List.mem_append_left _ (List.mem_filter.2 ⟨h, by simp [hm, h2]⟩)
    have hbn : b < H1.next := Nat.lt_of_lt_of_le hb ha1.next
    rw [hg, if_pos hbn, if_neg]
    · exact ha1.keep b hb fun hw => hw.elim (fun h => h3 (List.mem_append_left _ h)) fun h => by have : H.next ≤ b := h; omega
    · intro hm
      have := (List.mem_filter.1 hm).1
      rcases List.mem_append.1 this with h | h
      · have := List.mem_range'_1.1 h; omega
      · exact h3 h
  · obtain ⟨o, ho⟩ := Option.ne_none_iff_exists'.1 hlv
    exact ha1.live b hb (by rw [hsub1 b o ho]; simp)
  · rcases ho with rfl | ho
    · exact ⟨rfl, hn.symm, fun φ φ' w w' s => lift_step s (fun b hb => List.mem_append_left _ hb) hl hn hsub1⟩
    · obtain ⟨h1, h2⟩ := hall o ho
      exact ⟨(AV.same_eq _ _ h1).symm, h2.trans hn.symm, fun φ φ' w w' s => lift_step s (fun b hb => List.mem_append_right _ (List.mem_flatMap.2 ⟨o, ho, hb⟩)) hl (hn.trans h2.symm) (hsub o ho)⟩
theorem enterL_ok (hm : P.follows .mixedOrders = true) (hok : OkTypes P ok) {d : Doors} (hd : DoorsOk P d) (fuel : Nat) : CallOk P (enterL P ok d fuel) := by
  intro f xs H av H' h
  unfold enterL at h
  split at h
  rotate_left
  · cases h
  rename_i fn hfn
  split at h
  rotate_left
  · cases h
  rename_i c hc
  split at h
  · cases h
  rename_i hname
  split at h
  rotate_left
  · cases h
  rename_i fr hargs
  split at h
  rotate_left
  · cases h
  rename_i L hL
  split at h
  rotate_left
  · cases h
  rename_i v H1 os hvs
  have hcode := execL_ok hm hok hd _ _ _ _ _ _ hL
  obtain ⟨k1, k2, _⟩ := mapO_mem hvs
  have houts : ∀ y, y ∈ (v, H1) :: os → ∃ o ∈ L, o.2.2 = y.2 := by
    intro y hy
    obtain ⟨o, ho, hov⟩ := k2 y hy
    refine ⟨o, ho, ?_⟩
    unfold outVal at hov
    split at hov
    · cases hov
    · simp only [Option.map_eq_some_iff] at hov
      obtain ⟨vs, _, rfl⟩ := hov
      rfl
  have hast : ∀ y, y ∈ (v, H1) :: os → AStep (low H) y.2 := by
    intro y hy
    obtain ⟨o, ho, he⟩ := houts y hy
    rw [← he]; exact hcode.2.1 o ho
  obtain ⟨rfl, hA, hall⟩ := meetL_ok h (hast (v, H1) (by simp)) fun o ho => hast o (by simp [ho])
  refine ⟨⟨fn, c, hfn, hc, by simpa using hname⟩, hA, fun φ w us hM hxs hf => ?_⟩
  obtain ⟨h3, h4⟩ := args_frel (t := #[]) hxs hargs rfl (fun t => by simp only [Fr.at, Tr.get_nil]; exact VRel.undef)
  simp only [Array.empty_append] at h3
  refine (callsIn_wide (n := 0)).1 (callsIn_of_wp_marks hfn hc trivial (hcode.2.2 φ _ w _ hM (undefs_frel h3 _) ?_ (fun o ho => ?_) fun o ho a' w' φ' p => ?_))
  · simp; omega
  · obtain ⟨y, hy, hov⟩ := k1 o ho
    have hye : o.2.2 = y.2 := by
      unfold outVal at hov
      split at hov
      · cases hov
      · simp only [Option.map_eq_some_iff] at hov
        obtain ⟨vs, _, rfl⟩ := hov
        rfl
    rw [hye, (hall y (by simpa using hy)).2.1]
    exact hf
  · obtain ⟨y, hy, hov⟩ := k1 o ho
    obtain ⟨g1, g2, g3⟩ := hall y (by simpa using hy)
    unfold outVal at hov
    split at hov
    · cases hov
    · rename_i hnx
      simp only [Option.map_eq_some_iff] at hov
      obtain ⟨vs, hr, rfl⟩ := hov
      simp only at g1 g2 g3
      obtain ⟨ds, d1, m1⟩ := p.marks
      simp only [List.append_nil] at d1
      have := leaves (P := P) (rc := none) p.frel hr (R := fun e w' => ∃ u φ', e = .returned u ∧ VRel φ' av u ∧ Step φ φ' H H' w w') (fun u w'' k1 k2 => ⟨u, φ', rfl, by rw [← g1]; exact k1, g3 _ _ _ _ k2⟩) ds w' p.step m1
      rw [← d1] at this
      obtain ⟨x, fr', H2⟩ := o
      cases x with
      | normal => exact this
      | ret => exact this
      | exit id => exact absurd rfl (hnx id)
end
end Go.Am
end
section
set_option linter.unusedSectionVars false
namespace Go.Am
structure Piece where
  args : List AV
  next : Nat
  ins : List (Nat × AObj)
  val : AV
  next' : Nat
  logs : List Nat
  outs : List (Nat × AObj)
def setAllO (l : List (Nat × AObj)) (tr : Tr AObj) : Tr AObj := l.foldr (fun x tr => tr.set (path x.1) (some x.2)) tr
def pieceHeap (p : Piece) : Heap := { tr := setAllO p.ins .nil, next := p.next, floor := p.next, log := [] }
def pieceRun (call : CallF) (f : FuncId) (p : Piece) : Bool :=
  match call f p.args (pieceHeap p) with
  | some (v, R) => v.same p.val && (R.next == p.next' && (R.log.all (fun b => p.logs.contains b) && p.outs.all (fun x => (decide (p.next ≤ x.1) || R.log.contains x.1) && sameO (R.get x.1) (some x.2))))
  | none => false
def piecePrim (p : Piece) (xs : List AV) (H : Heap) : Option (AV × Heap) :=
  if H.next == p.next && (sameL xs p.args && (p.ins.all (fun x => sameO (H.get x.1) (some x.2)) && (List.range' p.next (p.next' - p.next)).all (fun b => (H.tr.get (path b)).isNone))) then
    some (p.val, { tr := setAllO p.outs (kills p.logs H.tr), next := p.next', floor := H.floor, log := outerLog H p.logs })
  else none
theorem setAllO_get (l : List (Nat × AObj)) (tr : Tr AObj) (b : Nat) : (setAllO l tr).get (path b) = match l.find? (fun x => x.1 == b) with | some x => some x.2 | none => tr.get (path b) := by
  induction l with
  | nil => simp [setAllO]
  | cons c l ih =>
    show (Tr.set (setAllO l tr) (path c.1) (some c.2)).get (path b) = _
    rw [Tr.get_set, List.find?_cons]
    by_cases h : c.1 = b
    · subst h; simp
    · rw [if_neg (fun e : path c.1 = path b => h (path_inj e)), ih]
      have : (c.1 == b) = false := by simpa using h
      rw [this]
theorem piecePrim_ok {P : Program} {call : CallF} (hc : CallOk P call) {f : FuncId} {p : Piece} (hr : pieceRun call f p = true) : CallOk P (fun f' xs H => if f' = f then piecePrim p xs H else none) := by
  intro f' xs H av H' h
  simp only at h
  split at h
  rotate_left
  · cases h
  rename_i hf
  subst hf
  unfold piecePrim at h
  split at h
  rotate_left
  · cases h
  rename_i hcond
  simp only [Bool.and_eq_true, beq_iff_eq, List.all_eq_true] at hcond
  obtain ⟨hnx, hxs, hins, hclean⟩ := hcond
  have hxs := sameL_eq _ _ hxs
  simp only [Option.some.injEq, Prod.mk.injEq] at h
  obtain ⟨rfl, hH'⟩ := h
  unfold pieceRun at hr
  split at hr
  rotate_left
  · cases hr
  rename_i v R hcall
  simp only [Bool.and_eq_true, beq_iff_eq, List.all_eq_true, List.contains_iff_mem, Bool.or_eq_true, decide_eq_true_eq] at hr
  obtain ⟨hv, hRn, hRl, hRo⟩ := hr
  have hv := AV.same_eq _ _ hv
  subst hv
  rw [← hxs] at hcall
  obtain ⟨hent, hast, hrun⟩ := hc _ _ _ _ _ hcall
  have hsub : ∀ b, (pieceHeap p).get b ≠ none → (pieceHeap p).get b = H.get b := by
    intro b hb
    unfold Heap.get pieceHeap at hb ⊢
    simp only at hb ⊢
    by_cases hlt : b < p.next
    · rw [if_pos hlt] at hb ⊢
      rw [setAllO_get] at hb ⊢
      cases hfd : p.ins.find? (fun x => x.1 == b) with
      | none => rw [hfd] at hb; simp only [Tr.get_nil] at hb; exact absurd rfl hb
      | some x =>
        have h1 := List.find?_some hfd
        simp only [beq_iff_eq] at h1
        have h2 := sameO_eq (hins x (List.mem_of_find?_eq_some hfd))
        rw [h1] at h2
        simp only
        rw [← h2]
        rfl
    · rw [if_neg hlt] at hb
      exact absurd rfl hb
  have hlog : ∀ b ∈ R.log, b ∈ p.logs := hRl
  have hfl : (pieceHeap p).floor = (pieceHeap p).next := rfl
  have hnx0 : (pieceHeap p).next = H.next := hnx.symm
  have hget : ∀ b o, H'.get b = some o → (Touch (pieceHeap p) R b ∧ R.get b = some o) ∨ (¬ Touch (pieceHeap p) R b ∧ H.get b = some o ∧ b ∉ p.logs) := by
    intro b o hb
    rw [← hH'] at hb
    unfold Heap.get at hb
    simp only at hb
    split at hb
    · rename_i hlt
      rw [setAllO_get] at hb
      cases hfd : p.outs.find? (fun x => x.1 == b) with
      | none =>
        rw [hfd] at hb
        simp only at hb
        rw [kills_get] at hb
        split at hb
        · cases hb
        · rename_i hnl
          have hHb : H.get b = some o := by
            unfold Heap.get
            by_cases hbn : b < H.next
            · rw [if_pos hbn]; exact hb
            · exfalso
              have := hclean b (List.mem_range'_1.2 ⟨by omega, by omega⟩)
              rw [hb] at this
              cases this
          exact .inr ⟨fun ht => ht.elim (fun h => hnl (hlog b h)) fun h => by have := get_lt (H := H) (by rw [hHb]; simp : H.get b ≠ none); omega, hHb, hnl⟩
      | some x =>
        rw [hfd] at hb
        simp only [Option.some.injEq] at hb
        have h1 := List.find?_some hfd
        simp only [beq_iff_eq] at h1
        obtain ⟨h2, h3⟩ := hRo x (List.mem_of_find?_eq_some hfd)
        have h3 := sameO_eq h3
        rw [h1] at h2 h3
        subst hb
        refine .inl ⟨?_, h3⟩
        rcases h2 with h2 | h2
        · exact .inr ⟨h2, get_lt (H := R) (by rw [h3]; simp)⟩
        · exact .inl h2
    · cases hb
  have hH'n : H'.next = R.next := by rw [← hH', hRn]
  have hH'f : H'.floor = H.floor := by rw [← hH']
  have hH'l : H'.log = outerLog H p.logs := by rw [← hH']
  have hwr : ∀ b, b < H.next → b ∈ R.log → Wr H H' b := by
    intro b _ hb
    by_cases hfl : H.floor ≤ b
    · exact .inr hfl
    · refine .inl ?_
      rw [hH'l]
      unfold outerLog
      by_cases hm : b ∈ H.log
      · exact List.mem_append_right _ hm
      · exact List.mem_append_left _ (List.mem_filter.2 ⟨hlog b hb, by simp [hm]; omega⟩)
  refine ⟨hent, ⟨?_, hH'f, fun b hb => by rw [hH'l]; exact List.mem_append_right _ hb, fun b hb hw => ?_, fun b hb hl => ?_⟩, fun φ w vs hM hvs hf => ?_⟩
  · rw [hH'n]
    have := hast.next
    rw [hnx0] at this; exact this
  · have h1 : b ∉ p.logs := by
      intro h
      apply hw
      by_cases hfl : H.floor ≤ b
      · exact .inr hfl
      · refine .inl ?_
        rw [hH'l]
        unfold outerLog
        by_cases hm : b ∈ H.log
        · exact List.mem_append_right _ hm
        · exact List.mem_append_left _ (List.mem_filter.2 ⟨h, by simp [hm]; omega⟩)
    rw [← hH']
    unfold Heap.get
    simp only
    have hlt : b < p.next' := by
      have := hast.next
      rw [hnx0, hRn] at this
      omega
    rw [if_pos hlt, if_pos hb, setAllO_get]
    have hno : p.outs.find? (fun x => x.1 == b) = none := by
      rw [List.find?_eq_none]
      intro x hx
      simp only [beq_iff_eq]
      intro e
      rcases (hRo x hx).1 with h2 | h2
      · omega
      · rw [e] at h2; exact h1 (hlog b h2)
    rw [hno]
    simp only
    rw [kills_get, if_neg h1]
  · obtain ⟨o, ho⟩ := Option.ne_none_iff_exists'.1 hl
    rcases hget b o ho with ⟨h1, h2⟩ | ⟨_, h2, _⟩
    · have h3 := hast.live b (by rw [hnx0]; exact hb) (by rw [h2]; simp)
      rw [← hsub b h3]; exact h3
    · rw [h2]; simp
  · have hMin : MRel φ (pieceHeap p).get w := by
      have sub : ∀ b o, (pieceHeap p).get b = some o → H.get b = some o := fun b o hb => by rw [← hsub b (by rw [hb]; simp)]; exact hb
      exact ⟨fun b o e hb he => hM.obj b o e (sub b o hb) he, fun b b' o o' e e' hb hb' he he' hk => hM.inj b b' o o' e e' (sub b o hb) (sub b' o' hb') he he' hk⟩
    have hf' : Fresh φ (pieceHeap p).next R.next := by rw [hnx0, ← hH'n]; exact hf
    refine (hrun φ w vs hMin hvs hf').mono ?_
    rintro e w' ⟨v, φ', rfl, hv, s⟩
    refine ⟨v, φ', rfl, hv, ?_⟩
    have mine : ∀ k, Mine φ (pieceHeap p).get (Wr (pieceHeap p) R) w k → Mine φ H.get (Wr H H') w k := by
      intro k hk
      rcases hk with hk | ⟨b, e, p1, p2, p3, p4⟩
      · exact .inl hk
      · have hlt := get_lt (H := pieceHeap p) p3
        refine .inr ⟨b, e, p1, p2, by rw [← hsub b p3]; exact p3, ?_⟩
        rcases p4 with p4 | p4
        · exact hwr b (by rw [← hnx0]; exact hlt) p4
        · rw [hfl] at p4; omega
    let k' : Get := fun b => open Classical in if Touch (pieceHeap p) R b then R.get b else H.get b
    have hm : MRel φ' k' w' := by
      refine merge (H := pieceHeap p) (R := R) (G := R.get) (g := (pieceHeap p).get) (k := H.get) hfl hast rfl hM (fun b _ => rfl) (fun b o e hb he => ?_) (fun b e hb he hl => ?_) hf' (by rw [aft_full hast hfl]; exact s.rel) s.mv fun b => ⟨fun ht => if_pos ht, fun ht => if_neg ht⟩
      · rw [← hsub b (by rw [hb]; simp)]; exact hb
      · rw [← hsub b hl]; exact hl
    have sub : ∀ b o, H'.get b = some o → k' b = some o := by
      intro b o hb
      rcases hget b o hb with ⟨h1, h2⟩ | ⟨h1, h2, _⟩
      · exact (if_pos h1).trans h2
      · exact (if_neg h1).trans h2
    refine ⟨⟨fun b o e hb he => hm.obj b o e (sub b o hb) he, fun b b' o o' e e' hb hb' he he' hk => hm.inj b b' o o' e e' (sub b o hb) (sub b' o' hb') he he' hk⟩, ?_⟩
    refine ⟨s.mv.ext, fun b e he => ?_, fun k hk => s.mv.frame k fun h => hk (mine k h), s.mv.size, s.mv.os, s.mv.tape, s.mv.output⟩
    rcases s.mv.dom b e he with h | ⟨h1, h2, h3⟩
    · exact .inl h
    · exact .inr ⟨by rw [← hnx0]; exact h1, by rw [hH'n]; exact h2, mine _ h3⟩
def firstOf (fb : CallF) (ps : List (FuncId × Piece)) (f : FuncId) (xs : List AV) (H : Heap) : Option (AV × Heap) :=
  match ps with
  | [] => fb f xs H
  | (g, p) :: ps => if g == f then
      match piecePrim p xs H with
      | some r => some r
      | none => firstOf fb ps f xs H
    else firstOf fb ps f xs H
def withPieces (base : Prims) (fb : CallF) (ps : List (FuncId × Piece)) : Prims := fun f => if ps.any (fun x => x.1 == f) then some (firstOf fb ps f) else base f
theorem firstOf_ok {P : Program} {fb : CallF} (hfb : CallOk P fb) : ∀ {ps : List (FuncId × Piece)}, (∀ x ∈ ps, CallOk P (fun f' xs H => if f' = x.1 then piecePrim x.2 xs H else none)) → ∀ f, CallOk P (fun f' xs H => if f' = f then firstOf fb ps f xs H else none)
  | [], _, f => by
    intro f' xs H av H' h
    simp only [firstOf] at h
    split at h
    · rename_i hf
      subst hf
      exact hfb _ _ _ _ _ h
    · cases h
  | (g, p) :: ps, hp, f => by
    have ih := firstOf_ok hfb (ps := ps) (fun x hx => hp x (by simp [hx])) f
    intro f' xs H av H' h
    simp only at h
    split at h
    rotate_left
    · cases h
    rename_i hf
    subst hf
    simp only [firstOf] at h
    split at h
    · rename_i hg
      simp only [beq_iff_eq] at hg
      subst hg
      split at h
      · rename_i r hr
        simp only [Option.some.injEq] at h
        subst h
        exact hp (g, p) (by simp) g xs H av H' ((if_pos rfl).trans hr)
      · exact ih g xs H av H' ((if_pos rfl).trans h)
    · exact ih f' xs H av H' ((if_pos rfl).trans h)
theorem withPieces_ok {P : Program} {base : Prims} (hb : PrimsOk P base) {fb : CallF} (hfb : CallOk P fb) {ps : List (FuncId × Piece)} (hp : ∀ x ∈ ps, CallOk P (fun f' xs H => if f' = x.1 then piecePrim x.2 xs H else none)) : PrimsOk P (withPieces base fb ps) := by
  intro f g hg
  unfold withPieces at hg
  split at hg
  · simp only [Option.some.injEq] at hg
    subst hg
    exact firstOf_ok hfb hp f
  · exact hb f g hg
theorem below_step {φ : Emb} {H : Heap} {w w' : World} (hM : MRel φ H.get w) (h : RowKit.Below w.heap.size w w') : Step φ φ H H w w' := by
  refine ⟨⟨fun b o e hb he => ?_, hM.inj⟩, ⟨.refl φ, fun _ _ h => .inl h, fun k hk => ?_, h.size, h.os, h.tape, h.output⟩⟩
  · rw [h.block _ (hM.lt hb he)]; exact hM.obj b o e hb he
  · exact h.block k (by
      rcases Nat.lt_or_ge k w.heap.size with h1 | h1
      · exact h1
      · exact absurd (.inl h1) hk)
end Go.Am
end
