/-
  A region that draws its order, whose last operations store into cells that its first operations read: a load may be taken first where what comes ahead of the stores keeps its cell. No condition.
-/
import Derived.Deep.RegionHeld3
namespace Go.Proofs.YtajpeeccomgnnaaGreatDoor
set_option linter.all false
open Go
section
variable {P : Program} {ops : Array Oper} {Q : Exit → Act → World → Prop} {md : Region.Mode} {S : World → Prop} {T : Nat → Bool}

/-- Whatever order is picked, and S holds behind every operation that T does not name. -/
def anyT (P : Program) (md : Region.Mode) (ops : Array Oper) (Q : Exit → Act → World → Prop) (S : World → Prop) (T : Nat → Bool) : Nat → Array Bool → Act → World → Prop
  | 0, L, a, w => Region.ready md ops L = [] ∧ Q .normal a w
  | m + 1, L, a, w => (Region.ready md ops L = [] → Q .normal a w) ∧
    ∀ i ∈ Region.ready md ops L, wpOp P ops Q i (fun b v => (T i = false → S v) ∧ anyT P md ops Q S T m (L.setIfInBounds i true) b v) a w

theorem any_of_T : ∀ (m : Nat) (L : Array Bool) (a : Act) (w : World), anyT P md ops Q S T m L a w → wpAny P md ops Q m L a w
  | 0, _, _, _, h => h
  | m + 1, _, _, _, h => ⟨h.1, fun i hi => wpOp_mono (fun b v k => any_of_T m _ b v k.2) (h.2 i hi)⟩

/-- Does number k wait for number i? -/
def waitsT (md : Region.Mode) (ops : Array Oper) (k i : Nat) : Bool :=
  match ops[k]? with
  | some o => o.after.any fun e => Region.binds md e && e.on == i
  | none => false
/-- Do all that T names wait for number i, or for one that waits for it? -/
def waitT (md : Region.Mode) (ops : Array Oper) (T : Nat → Bool) (i : Nat) : Bool :=
  !T i && (List.range ops.size).all fun j => !T j || match ops[j]? with
    | some o => o.after.any fun e => Region.binds md e && (e.on == i || waitsT md ops e.on i)
    | none => true
/-- Nothing that waits for number i has come up. -/
def midT (md : Region.Mode) (ops : Array Oper) (L : Array Bool) (i : Nat) : Bool :=
  (List.range ops.size).all fun k => !waitsT md ops k i || !L.getD k true
theorem waitsT_size {k i : Nat} (h : waitsT md ops k i = true) : k < ops.size := by
  rcases Nat.lt_or_ge k ops.size with q | q
  · exact q
  · unfold waitsT at h; rw [Array.getElem?_eq_none q] at h; cases h
theorem midT_spec {L : Array Bool} {k i : Nat} (h : midT md ops L i = true) (hk : waitsT md ops k i = true) : L.getD k true = false := by
  unfold midT at h
  rw [List.all_eq_true] at h
  have h2 := h k (List.mem_range.2 (waitsT_size hk))
  rw [hk] at h2
  simpa using h2
theorem midT_set {L : Array Bool} {j i : Nat} (h : midT md ops L i = true) (hj : waitsT md ops j i = false) : midT md ops (L.setIfInBounds j true) i = true := by
  unfold midT
  rw [List.all_eq_true]
  intro k hk
  rcases hw : waitsT md ops k i with _ | _
  · rfl
  · have e : j ≠ k := fun e => by subst e; rw [hw] at hj; cases hj
    rw [getD_set_ne true e, midT_spec h hw]; rfl
theorem waitT_spec {L : Array Bool} {i j : Nat} {o : Oper} (h : waitT md ops T i = true) (hM : midT md ops L i = true) (hj : ops[j]? = some o) (hno : ∀ e ∈ o.after, Region.binds md e = true → e.on ≠ i)
    (hall : ∀ e ∈ o.after, Region.binds md e = true → L.getD e.on true = true) : T j = false := by
  unfold waitT at h
  rw [Bool.and_eq_true, List.all_eq_true] at h
  have hlt : j < ops.size := by
    rcases Nat.lt_or_ge j ops.size with k | k
    · exact k
    · rw [Array.getElem?_eq_none k] at hj; cases hj
  have h2 := h.2 j (List.mem_range.2 hlt)
  rw [hj] at h2
  rcases hT : T j with _ | _
  · rfl
  · rw [hT] at h2
    simp only [Bool.not_true, Bool.false_or] at h2
    rw [Array.any_eq_true'] at h2
    obtain ⟨e, he, hb⟩ := h2
    rw [Bool.and_eq_true, Bool.or_eq_true] at hb
    rcases hb.2 with q | q
    · exact absurd (by simpa using q) (hno e he hb.1)
    · have k1 := midT_spec hM q
      rw [hall e he hb.1] at k1; cases k1
theorem waitsT_no {j i : Nat} {o : Oper} (hj : ops[j]? = some o) (hno : ∀ e ∈ o.after, Region.binds md e = true → e.on ≠ i) : waitsT md ops j i = false := by
  unfold waitsT
  rw [hj]
  rcases hq : (o.after.any fun e => Region.binds md e && e.on == i) with _ | _
  · exact hq
  · rw [Array.any_eq_true'] at hq
    obtain ⟨e, he, hb⟩ := hq
    rw [Bool.and_eq_true] at hb
    exact absurd (by simpa using hb.2) (hno e he hb.1)

theorem anyT_first {i : Nat} {oi : Oper} {v : Value} (hi : ops[i]? = some oi) (hsel : ∀ (j : Nat) (o : Oper) cs b, ops[j]? = some o → o.op ≠ .select cs b)
    (hQ : ∀ c a w, Q (.panic c) (a.put oi.dst v) w → Q (.panic c) a w) (hw : waitT md ops T i = true) :
    ∀ (m : Nat) (L : Array Bool) (a : Act) (w : World),
      (∀ j oj, ops[j]? = some oj → j ≠ i → L.getD j true = false → (∀ e ∈ oj.after, Region.binds md e = true → e.on ≠ i) → oi.apart ops oj = true) →
      midT md ops L i = true → i ∈ Region.ready md ops L → YieldsIf P ops S oi v a → S w →
      anyT P md ops Q S T m (L.setIfInBounds i true) (a.put oi.dst v) w → anyT P md ops Q S T (m + 1) L a w := by
  intro m
  induction m with
  | zero =>
    intro L a w _ _ hr hy hS H
    refine ⟨fun h => (by rw [h] at hr; cases hr), fun j hj => ?_⟩
    by_cases e : j = i
    · subst e; exact hy.wpOp hi hS ⟨fun _ => hS, H⟩
    · have := ready_mono hj e
      rw [H.1] at this
      cases this
  | succ m ih =>
    intro L a w hfree hM hr hy hS H
    refine ⟨fun h => (by rw [h] at hr; cases hr), fun j hj => ?_⟩
    by_cases e : j = i
    · subst e; exact hy.wpOp hi hS ⟨fun _ => hS, H⟩
    · have h1 := H.2 j (ready_mono hj e)
      obtain ⟨hjun, oj, hoj, hall⟩ := mem_ready.1 hj
      have hnot : ∀ d ∈ oj.after, Region.binds md d = true → d.on ≠ i := fun d hd hb heq => by
        have k1 := hall d hd hb
        have k0 := (mem_ready.1 hr).1
        rw [heq] at k1
        rcases Nat.lt_or_ge i L.size with h' | h'
        · simp [h'] at k0 k1; rw [k0] at k1; cases k1
        · simp [Array.getElem?_eq_none h'] at k1
      have hT := waitT_spec hw hM hoj hnot (fun e he hb => (by have := hall e he hb; rcases hq : L[e.on]? with _ | q <;> simp [hq] at this ⊢; exact this))
      have h2 := wpOp_putIf hoj (hfree j oj hoj e hjun hnot) (fun cs b => hsel i oi cs b hi) (fun cs b => hsel j oj cs b hoj) hQ hy h1
      have hfree' : ∀ k ok, ops[k]? = some ok → k ≠ i → (L.setIfInBounds j true).getD k true = false →
          (∀ d ∈ ok.after, Region.binds md d = true → d.on ≠ i) → oi.apart ops ok = true := fun k ok hk hki hun hno => by
        refine hfree k ok hk hki ?_ hno
        by_cases hjk : j = k
        · subst hjk; exact hjun
        · rw [getD_set_ne true hjk] at hun; exact hun
      refine wpOp_mono (fun b x h3 => ⟨h3.2.1, ih (L.setIfInBounds j true) b x hfree' (midT_set hM (waitsT_no hoj hnot)) (ready_mono hr (Ne.symm e)) h3.1 (h3.2.1 hT) ?_⟩) h2
      rw [Array.setIfInBounds_comm _ _ e]
      exact h3.2.2

theorem anyT_take {i : Nat} {oi : Oper} {v : Value} {m : Nat} {L : Array Bool} {a : Act} {w : World} (hi : ops[i]? = some oi)
    (hs : Region.noSelect ops = true) (hf : Region.free md ops L i = true) (hr : (Region.ready md ops L).contains i = true) (hw : waitT md ops T i = true) (hM : midT md ops L i = true)
    (hQ : ∀ c a w, Q (.panic c) (a.put oi.dst v) w → Q (.panic c) a w) (hy : YieldsIf P ops S oi v a) (hS : S w)
    (h : anyT P md ops Q S T m (L.setIfInBounds i true) (a.put oi.dst v) w) : anyT P md ops Q S T (m + 1) L a w :=
  anyT_first hi (Region.noSelect_spec hs) hQ hw m L a w (Region.free_spec hi hf) hM (by simpa using hr) hy hS h

theorem anyT_one {i : Nat} {o : Oper} {m : Nat} {L : Array Bool} {a : Act} {w : World} (hr : Region.ready md ops L = [i]) (ho : ops[i]? = some o)
    (h : ∀ K : Act → World → Prop, Shut (∀ b v, (T i = false → S v) → anyT P md ops Q S T m (L.setIfInBounds i true) b v → K b v) → if Region.wanted o (yielded ops a.tmps) = true then Oper.wp P o a w K Q else K (a.put o.dst undef) w) :
    anyT P md ops Q S T (m + 1) L a w :=
  ⟨fun h0 => (by rw [hr] at h0; cases h0), fun j hj => by
    rw [hr] at hj
    obtain rfl : j = i := by simpa using hj
    exact wpOp_step ho (fun K hK => h K (fun b v hS hA => hK b v ⟨hS, hA⟩))⟩

theorem anyT_done {L : Array Bool} {a : Act} {w : World} (hr : Region.ready md ops L = []) (h : Q .normal a w) : ∀ m, anyT P md ops Q S T m L a w
  | 0 => ⟨hr, h⟩
  | _ + 1 => ⟨fun _ => h, by rw [hr]; simp⟩

theorem region_T {id : Nat} {a : Act} {w : World} (hm : P.follows .mixedOrders = true)
    (h : anyT P .any ops Q S T ops.size (Array.replicate ops.size false) a w.drew) : (Code.region id ops true).wp P Q a w :=
  wp_region_any hm (any_of_T _ _ _ _ h)
end
end Go.Proofs.YtajpeeccomgnnaaGreatDoor
