/-
  A word hangs on its own bytes alone: read again elsewhere, before a stop, it is the same word. Plain.
-/
import Derived.Test.YtajpeeccomgnnaaGreatDoorLxToks
import Derived.Test.YtajpeeccomgnnaaGreatDoorPfZ
import Derived.Test.YtajpeeccomgnnaaGreatDoorLxOpen
import Derived.MakeChecks
import Derived.LaidLaws
namespace Go.Proofs.YtajpeeccomgnnaaGreatDoor
set_option linter.all false
open Go Go.RowKit

/-- A byte that ends every word. -/
def Stop (c : Nat) : Prop := c = 0 ∨ c = 10 ∨ c = 32
/-- So many bytes are alike, up to a stop. -/
def Ah (s s' : ByteArray) : Nat → Nat → Nat → Prop
  | 0, _, _ => True
  | m + 1, i, i' => Stop (bt s' i') ∨ (bt s' i' = bt s i ∧ Ah s s' m (i + 1) (i' + 1))
theorem Ah.all {s s' : ByteArray} : ∀ (m : Nat) {i i' : Nat}, (∀ j, bt s' (i' + j) = bt s (i + j)) → Ah s s' m i i'
  | 0, _, _, _ => trivial
  | m + 1, i, i', h => .inr ⟨h 0, Ah.all m fun j => by have := h (j + 1); rwa [show i' + 1 + j = i' + (j + 1) by omega, show i + 1 + j = i + (j + 1) by omega]⟩
/-- A word's bytes stand elsewhere too, and what follows is alike up to a stop. -/
structure Loc (s s' : ByteArray) (i i' n : Nat) : Prop where
  a : ∀ j, j < n → bt s' (i' + j) = bt s (i + j)
  e : Ah s s' 3 (i + n) (i' + n)
  l : i + n ≤ s.size
  l' : i' + n ≤ s'.size
theorem runE_byte {p : Nat → Bool} {s : ByteArray} (h0 : p 0 = false) : ∀ (m k : Nat), (∀ j, j < m → p (bt s (k + j)) = true) → p (bt s (k + m)) = false → runE p s k = k + m
  | 0, k, _, h => runE_stop (fun x => by rw [Nat.add_zero] at h; rw [h] at x; cases x.2)
  | m + 1, k, ha, h => by
    have hp := ha 0 (by omega)
    rw [Nat.add_zero] at hp
    have hl : k < s.size := by
      rcases Nat.lt_or_ge k s.size with c | c
      · exact c
      · rw [bt_out c, h0] at hp; cases hp
    rw [runE_step hl hp, runE_byte h0 m (k + 1) (fun j hj => by have := ha (j + 1) (by omega); rwa [show k + 1 + j = k + (j + 1) by omega]) (by rwa [show k + 1 + m = k + (m + 1) by omega])]
    omega
theorem runE_spec {p : Nat → Bool} {s : ByteArray} (h0 : p 0 = false) : ∀ (f k : Nat), f = s.size - k → ∃ m, runE p s k = k + m ∧ (∀ j, j < m → p (bt s (k + j)) = true) ∧ p (bt s (k + m)) = false
  | 0, k, hf => ⟨0, by rw [runE_stop (by omega)]; rfl, fun j hj => by omega, by rw [bt_out (by omega)]; exact h0⟩
  | f + 1, k, hf => by
    cases hp : p (bt s k) with
    | false => exact ⟨0, by rw [runE_stop (by simp [hp])]; rfl, fun j hj => by omega, hp⟩
    | true =>
      have hl : k < s.size := by omega
      obtain ⟨m, e, ha, hz⟩ := runE_spec (s := s) h0 f (k + 1) (by omega)
      have e2 : runE p s k = k + (m + 1) := by rw [runE_step hl hp, e]; omega
      have hz2 : p (bt s (k + (m + 1))) = false := by rw [show k + (m + 1) = k + 1 + m by omega]; exact hz
      refine ⟨m + 1, e2, fun j hj => ?_, hz2⟩
      rcases j with _ | j
      · exact hp
      · rw [show k + (j + 1) = k + 1 + j by omega]; exact ha j (by omega)
/-- Where a row of bytes ends, elsewhere. -/
theorem Loc.run {s s' : ByteArray} {i i' n : Nat} (h : Loc s s' i i' n) {p : Nat → Bool} (h0 : p 0 = false) (h10 : p 10 = false) (h32 : p 32 = false) {j r : Nat} (e : runE p s (i + j) = i + r) (hr : r ≤ n) : runE p s' (i' + j) = i' + r := by
  obtain ⟨m, e1, ha, hz⟩ := runE_spec (p := p) (s := s) h0 _ (i + j) rfl
  have hm : j + m = r := by omega
  subst hm
  have main : runE p s' (i' + j) = i' + j + m := by
   refine runE_byte h0 m (i' + j) (fun k hk => ?_) ?_
   · rw [Nat.add_assoc, h.a _ (by omega), ← Nat.add_assoc]; exact ha k hk
   · rw [Nat.add_assoc]
     rcases Nat.lt_or_ge (j + m) n with c | c
     · rw [h.a _ c, ← Nat.add_assoc]; exact hz
     · rcases h.e with q | q
       · rw [show j + m = n by omega]
         rcases q with q | q | q <;> rw [q] <;> assumption
       · rw [show j + m = n by omega, q.1, show i + n = i + j + m by omega]; exact hz
  rw [main, Nat.add_assoc]
theorem sub_get {s : ByteArray} {i k : Nat} (hk : k ≤ s.size) : ∀ j, (sub s i k)[j]? = if j < k - i then s.data.toList[i + j]? else none := by
  intro j
  unfold sub
  rw [ByteArray.data_extract]
  simp only [Array.toList_extract, List.extract_eq_take_drop, List.getElem?_take, List.getElem?_drop]
theorem sub_ln {s : ByteArray} {i k : Nat} (hk : k ≤ s.size) : (sub s i k).length = k - i := by
  unfold sub
  rw [← Lib.size_eq]
  rw [ByteArray.size_extract]; omega
theorem sub_eq {s s' : ByteArray} {i i' k k' : Nat} (h1 : k ≤ s.size) (h2 : k' ≤ s'.size) (hn : k - i = k' - i') (ha : ∀ j, j < k - i → bt s' (i' + j) = bt s (i + j)) : sub s' i' k' = sub s i k := by
  apply List.ext_getElem?
  intro j
  rw [sub_get h1, sub_get h2, ← hn]
  split
  · rename_i hj
    have := ha j hj
    unfold bt at this
    have g1 : i + j < s.data.toList.length := by rw [← Lib.size_eq]; omega
    have g2 : i' + j < s'.data.toList.length := by rw [← Lib.size_eq]; omega
    rw [List.getElem?_eq_getElem g1, List.getElem?_eq_getElem g2] at this ⊢
    simp only [Option.getD_some] at this
    exact congrArg some (UInt8.toNat_inj.mp this)
  · rfl
theorem Loc.subj {s s' : ByteArray} {i i' n : Nat} (h : Loc s s' i i' n) {j r : Nat} (hr : r ≤ n) : sub s' (i' + j) (i' + r) = sub s (i + j) (i + r) :=
  sub_eq (by have := h.l; omega) (by have := h.l'; omega) (by omega) fun k hk => by rw [Nat.add_assoc, h.a _ (by omega), Nat.add_assoc]
theorem Loc.sub0 {s s' : ByteArray} {i i' n : Nat} (h : Loc s s' i i' n) {r : Nat} (hr : r ≤ n) : sub s' i' (i' + r) = sub s i (i + r) := h.subj (j := 0) hr
theorem Loc.short {s s' : ByteArray} {i i' n : Nat} (h : Loc s s' i i' n) {kind : Nat} {t : Tok} (hk : shortS s i (i + n) kind = .ok (t, i + n)) : shortS s' i' (i' + n) kind = .ok ({ t with pos := i' }, i' + n) := by
  unfold shortS at hk ⊢
  by_cases c : 64 < n
  · rw [if_pos (by omega)] at hk; cases hk
  · rw [if_neg (by omega)] at hk
    rw [if_neg (by omega), h.sub0 (Nat.le_refl _)]
    simp only [Except.ok.injEq, Prod.mk.injEq] at hk
    obtain ⟨rfl, _⟩ := hk
    rfl
theorem nam0 : isNam 0 = false := by decide
theorem nam10 : isNam 10 = false := by decide
theorem nam32 : isNam 32 = false := by decide
theorem dig0 : isDig 0 = false := by decide
theorem dig10 : isDig 10 = false := by decide
theorem dig32 : isDig 32 = false := by decide
theorem sym0 : isSym 0 = false := by decide +kernel
theorem sym10 : isSym 10 = false := by decide +kernel
theorem sym32 : isSym 32 = false := by decide +kernel
theorem let_stop {c : Nat} (h : Stop c) : isLet c = false := by rcases h with rfl | rfl | rfl <;> decide
theorem dig_stop {c : Nat} (h : Stop c) : isDig c = false := by rcases h with rfl | rfl | rfl <;> decide
theorem stop_ne {c d : Nat} (h : Stop c) (hd : d ≠ 0 ∧ d ≠ 10 ∧ d ≠ 32) : c ≠ d := by rcases h with rfl | rfl | rfl <;> omega
theorem Loc.long {s s' : ByteArray} {i i' n : Nat} (h : Loc s s' i i' n) {t : Tok} : ∀ (m m' j : Nat), j ≤ n → n ≤ j + m' → s.size ≤ i + j + m → longS s m i (i + j) = .ok (t, i + n) → longS s' m' i' (i' + j) = .ok ({ t with pos := i' }, i' + n) := by
  have hl := h.l
  intro m
  induction m with
  | zero =>
    intro m' j hj hm hsz hk
    have hk : shortS s i (i + j) 1 = .ok (t, i + n) := hk
    have e := short_ok hk
    have e : j = n := by omega
    subst e
    have hs := h.short hk
    cases m' with
    | zero => exact hs
    | succ m' =>
      unfold longS
      rw [if_neg (fun x => by
        rcases h.e with q | q
        · exact stop_ne q (by omega) x.1
        · have := q.1; rw [bt_out (s := s) (by omega)] at this; omega)]
      exact hs
  | succ m ih =>
    intro m' j hj hm hsz hk
    unfold longS at hk
    by_cases hc : bt s (i + j) = 46 ∧ isLet (bt s (i + j + 1)) = true
    · rw [if_pos hc] at hk
      have h1 := let_in hc.2
      have h2 := runE_lt h1 (let_nam hc.2)
      have h3 := runE_size (p := isNam) (s := s) (i := i + j + 1) (by omega)
      split at hk
      · cases hk
      rename_i hr
      have h4 := long_ok s i _ _ _ _ hk h3
      obtain ⟨r, hR⟩ : ∃ r, runE isNam s (i + j + 1) = i + r := ⟨runE isNam s (i + j + 1) - i, by omega⟩
      rw [hR] at hk hr h2 h4
      have hrun := h.run nam0 nam10 nam32 (j := j + 1) (r := r) hR (by omega)
      rcases m' with _ | m'
      · omega
      unfold longS
      rw [← Nat.add_assoc] at hrun
      have hb1 : bt s' (i' + j) = 46 := by rw [h.a j (by omega)]; exact hc.1
      have hb2 : isLet (bt s' (i' + j + 1)) = true := by rw [Nat.add_assoc, h.a (j + 1) (by omega), ← Nat.add_assoc]; exact hc.2
      rw [if_pos ⟨hb1, hb2⟩, hrun]
      have hsub := h.subj (j := j + 1) (r := r) (by omega)
      rw [← Nat.add_assoc, ← Nat.add_assoc] at hsub
      rw [hsub, if_neg hr]
      exact ih m' r (by omega) (by omega) (by omega) hk
    · rw [if_neg hc] at hk
      have e := short_ok hk
      have e : j = n := by omega
      subst e
      have hs := h.short hk
      cases m' with
      | zero => exact hs
      | succ m' =>
        unfold longS
        rw [if_neg (fun x => by
          rcases h.e with q | q
          · exact stop_ne q (by omega) x.1
          · rcases q.2 with r | r
            · have := x.2; rw [let_stop r] at this; cases this
            · exact hc ⟨by rw [← q.1]; exact x.1, by rw [← r.1]; exact x.2⟩)]
        exact hs
theorem Loc.name {s s' : ByteArray} {i i' n : Nat} (h : Loc s s' i i' n) {t : Tok} (hi : i < s.size) (hlet : isLet (bt s i) = true) (hk : nameS s i = .ok (t, i + n)) : nameS s' i' = .ok ({ t with pos := i' }, i' + n) := by
  have hl := h.l
  have hl' := h.l'
  have h2 := runE_lt hi (let_nam hlet)
  have h3 := runE_size (p := isNam) (s := s) (i := i) (by omega)
  obtain ⟨r, hR⟩ : ∃ r, runE isNam s i = i + r := ⟨runE isNam s i - i, by omega⟩
  have hle : r ≤ n := by
    unfold nameS at hk
    split at hk
    · simp only [Except.ok.injEq, Prod.mk.injEq] at hk; omega
    · have := long_ok s i _ _ _ _ hk h3; omega
  have hrun := h.run nam0 nam10 nam32 (j := 0) (r := r) hR hle
  rw [Nat.add_zero] at hrun
  unfold nameS at hk ⊢
  rw [hR] at hk
  rw [hrun, h.sub0 hle]
  split at hk
  · rename_i hr
    rw [if_pos hr]
    simp only [Except.ok.injEq, Prod.mk.injEq] at hk
    obtain ⟨rfl, e⟩ := hk
    have : r = n := by omega
    subst this
    rfl
  · rename_i hr
    rw [if_neg hr]
    exact h.long _ _ r hle (by omega) (by omega) hk
theorem numW_at (s : ByteArray) (i : Nat) : ∃ j, j ≤ 1 ∧ numW s i = runE isDig s (i + j) ∧ (if bt s i = 126 then i + 1 else i) = i + j := by
  unfold numW
  by_cases c : bt s i = 126
  · exact ⟨1, by omega, by rw [if_pos c], by rw [if_pos c]⟩
  · exact ⟨0, by omega, by rw [if_neg c]; rfl, by rw [if_neg c]; rfl⟩
theorem Loc.number {s s' : ByteArray} {i i' n : Nat} (h : Loc s s' i i' n) {F : List UInt8 → Nat} {t : Tok} (hd : isDig (bt s i) = true ∨ bt s i = 126 ∧ isDig (bt s (i + 1)) = true) (hk : numberS F s i = .ok (t, i + n)) : numberS F s' i' = .ok ({ t with pos := i' }, i' + n) := by
  have hl := h.l
  have hl' := h.l'
  have hW : i < numW s i ∧ numW s i ≤ s.size := by
    unfold numW
    rcases hd with hd | hd
    · have := dig_range hd
      rw [if_neg (by omega)]
      exact ⟨runE_lt (dig_in hd) hd, runE_size (by have := dig_in hd; omega)⟩
    · rw [if_pos hd.1]
      have h1 := dig_in hd.2
      have := runE_lt h1 hd.2
      exact ⟨by omega, runE_size (by omega)⟩
  have hF := numF_le hW.2
  have hE := numE_le hF.2
  have hn : numE s (numF s (numW s i)) = i + n := by
    unfold numberS at hk
    simp only at hk
    split at hk
    · split at hk
      · cases hk
      · simp only [Except.ok.injEq, Prod.mk.injEq] at hk; omega
    · split at hk
      · cases hk
      · simp only [Except.ok.injEq, Prod.mk.injEq] at hk; omega
  have hn0 : 0 < n := by omega
  have hi0 : bt s' i' = bt s i := h.a 0 hn0
  -- the whole part
  obtain ⟨a, ha⟩ : ∃ a, numW s i = i + a := ⟨numW s i - i, by omega⟩
  have ha' : numW s' i' = i' + a := by
    obtain ⟨j, hj, e1, e2⟩ := numW_at s i
    have := h.run dig0 dig10 dig32 (j := j) (r := a) (by omega) (by omega)
    unfold numW
    rw [hi0]
    have e3 : (if bt s i = 126 then i' + 1 else i') = i' + j := by split at e2 <;> rename_i c <;> simp only [c, if_true, if_false] <;> omega
    rw [e3, this]
  rw [ha] at hF hn hE
  -- the part behind the point
  obtain ⟨b, hb⟩ : ∃ b, numF s (i + a) = i + b := ⟨numF s (i + a) - i, by omega⟩
  rw [hb] at hF hn hE
  have hb' : numF s' (i' + a) = i' + b := by
    unfold numF at hb ⊢
    by_cases c : bt s (i + a) = 46 ∧ isDig (bt s (i + a + 1)) = true
    · rw [if_pos c] at hb
      have h1 := runE_lt (dig_in c.2) c.2
      have e1 : bt s' (i' + a) = 46 := by rw [h.a _ (by omega)]; exact c.1
      have e2 : isDig (bt s' (i' + a + 1)) = true := by rw [Nat.add_assoc, h.a _ (by omega), ← Nat.add_assoc]; exact c.2
      rw [if_pos ⟨e1, e2⟩, Nat.add_assoc]
      exact h.run dig0 dig10 dig32 (j := a + 1) (by rw [← Nat.add_assoc]; exact hb) (by omega)
    · rw [if_neg c] at hb
      have e : a = b := by omega
      subst e
      rw [if_neg]
      intro x
      rcases Nat.lt_or_ge a n with q | q
      · have x1 := x.1
        rw [h.a _ q] at x1
        unfold numE at hn
        rw [if_neg (by omega)] at hn
        omega
      · have e : a = n := by omega
        subst e
        rcases h.e with q | q
        · exact stop_ne q (by omega) x.1
        · rcases q.2 with r | r
          · have := x.2; rw [dig_stop r] at this; cases this
          · exact c ⟨by rw [← q.1]; exact x.1, by rw [← r.1]; exact x.2⟩
  have hn' : numE s' (i' + b) = i' + n := by
    unfold numE at hn ⊢
    by_cases c : bt s (i + b) = 101
    · rw [if_pos c] at hn
      by_cases d : isDig (bt s (numX s (i + b))) = true
      · rw [if_pos d] at hn
        have h1 := runE_lt (dig_in d) d
        obtain ⟨x, hx⟩ : ∃ x, numX s (i + b) = i + x := ⟨numX s (i + b) - i, by unfold numX; split <;> omega⟩
        have hx2 : b + 1 ≤ x := by unfold numX at hx; split at hx <;> omega
        rw [hx] at d h1 hn
        have e1 : bt s' (i' + b) = 101 := by rw [h.a _ (by omega)]; exact c
        have e2 : numX s' (i' + b) = i' + x := by
          unfold numX at hx ⊢
          rw [Nat.add_assoc i' b 1, h.a (b + 1) (by omega), ← Nat.add_assoc]
          split at hx <;> rename_i q <;> simp only [q, if_true, if_false] <;> omega
        rw [if_pos e1, e2, h.a x (by omega), if_pos d]
        exact h.run dig0 dig10 dig32 hn (Nat.le_refl _)
      · rw [if_neg d] at hn
        have e : b = n := by omega
        subst e
        rcases h.e with q | q
        · rw [if_neg (stop_ne q (by omega))]
        · rw [q.1, if_pos c, if_neg]
          unfold numX at d ⊢
          rcases q.2 with r | r
          · rw [if_neg (stop_ne r (by omega)), dig_stop r]; decide
          · rw [r.1]
            by_cases u : bt s (i + b + 1) = 126
            · rw [if_pos u] at d ⊢
              rcases r.2 with v | v
              · have e2 : i' + b + 2 = i' + b + 1 + 1 := rfl
                rw [e2, dig_stop v]; decide
              · have e2 : i' + b + 2 = i' + b + 1 + 1 := rfl
                rw [e2, v.1]; exact d
            · rw [if_neg u] at d ⊢
              rw [r.1]; exact d
    · rw [if_neg c] at hn
      have e : b = n := by omega
      subst e
      rcases h.e with q | q
      · rw [if_neg (stop_ne q (by omega))]
      · rw [q.1, if_neg c]
  unfold numberS at hk ⊢
  simp only [ha, hb, ha', hb'] at hk ⊢
  rw [hn] at hk
  rw [hn']
  have es : sub s' i' (i' + n) = sub s i (i + n) := h.sub0 (Nat.le_refl _)
  by_cases c : n = a
  · subst c
    rw [if_pos rfl] at hk ⊢
    by_cases g : 2000 < n
    · rw [if_pos (by omega)] at hk; cases hk
    · rw [if_neg (by omega)] at hk ⊢
      simp only [Except.ok.injEq, Prod.mk.injEq] at hk
      obtain ⟨rfl, _⟩ := hk
      have ev : numV s' i' (i' + n) = numV s i (i + n) := by
        unfold numV
        rw [hi0, es, h.subj (j := 1) (Nat.le_refl _)]
      rw [es, ev]
  · rw [if_neg (by omega)] at hk ⊢
    by_cases g : 100 < n
    · rw [if_pos (by omega)] at hk; cases hk
    · rw [if_neg (by omega)] at hk ⊢
      simp only [Except.ok.injEq, Prod.mk.injEq] at hk
      obtain ⟨rfl, _⟩ := hk
      rw [es]
theorem run3 {s : ByteArray} {k : Nat} : k + 3 ≤ runE isDig s k ↔ isDig (bt s k) = true ∧ isDig (bt s (k + 1)) = true ∧ isDig (bt s (k + 2)) = true := by
  obtain ⟨m, e, ha, hz⟩ := runE_spec (p := isDig) (s := s) dig0 _ k rfl
  rw [e]
  constructor
  · intro h
    exact ⟨ha 0 (by omega), ha 1 (by omega), ha 2 (by omega)⟩
  · rintro ⟨h0, h1, h2⟩
    rcases m with _ | _ | _ | m
    · rw [Nat.add_zero, h0] at hz; cases hz
    · rw [h1] at hz; cases hz
    · rw [h2] at hz; cases hz
    · omega
theorem Loc.esc {s s' : ByteArray} {i i' n : Nat} (h : Loc s s' i i' n) {j : Nat} (h0 : (escS s (i + j)).2 ≠ 0) (hn : j + (escS s (i + j)).2 ≤ n) : escS s' (i' + j) = escS s (i + j) := by
  have hj : j < n := by omega
  have e0 := h.a j hj
  unfold escS at h0 hn ⊢
  rw [e0]
  by_cases c1 : bt s (i + j) = 110
  · rw [if_pos c1, if_pos c1]
  rw [if_neg c1] at h0 hn ⊢
  rw [if_neg c1]
  by_cases c2 : bt s (i + j) = 116
  · rw [if_pos c2, if_pos c2]
  rw [if_neg c2] at h0 hn ⊢
  rw [if_neg c2]
  by_cases c3 : bt s (i + j) = 92 ∨ bt s (i + j) = 34
  · rw [if_pos c3, if_pos c3]
  rw [if_neg c3] at h0 hn ⊢
  rw [if_neg c3]
  by_cases c4 : i + j + 3 ≤ runE isDig s (i + j)
  · rw [if_pos c4] at h0 hn ⊢
    simp only at h0 hn
    split at hn
    · rename_i hv
      simp only at hn
      have d := run3.mp c4
      have e1 : bt s' (i' + j + 1) = bt s (i + j + 1) := by rw [Nat.add_assoc, h.a _ (by omega), Nat.add_assoc]
      have e2 : bt s' (i' + j + 2) = bt s (i + j + 2) := by rw [Nat.add_assoc, h.a _ (by omega), Nat.add_assoc]
      rw [if_pos (run3.mpr ⟨by rw [e0]; exact d.1, by rw [e1]; exact d.2.1, by rw [e2]; exact d.2.2⟩)]
      simp only [e1, e2]
    · rename_i hv
      rw [if_neg hv] at h0
      exact absurd rfl h0
  · rw [if_neg c4] at h0
    exact absurd rfl h0
theorem quoS_lt (s : ByteArray) : ∀ m k out x r, quoS s m k out = .ok (x, r) → k < r ∧ r ≤ s.size
  | 0, k, out, x, r, h => by cases h
  | m + 1, k, out, x, r, h => by
    unfold quoS at h
    split at h
    · cases h
    split at h
    · simp only [Except.ok.injEq, Prod.mk.injEq] at h; omega
    split at h
    · cases h
    split at h
    · have := quoS_lt s m _ _ _ _ h; omega
    split at h
    · cases h
    · have := quoS_lt s m _ _ _ _ h; omega
theorem Loc.quo {s s' : ByteArray} {i i' n : Nat} (h : Loc s s' i i' n) {x : List UInt8} : ∀ (m m' j : Nat) (out : List UInt8), n ≤ j + m' → quoS s m (i + j) out = .ok (x, i + n) → quoS s' m' (i' + j) out = .ok (x, i' + n)
  | 0, m', j, out, hm, hk => by cases hk
  | m + 1, m', j, out, hm, hk => by
    have hl := h.l
    have hl' := h.l'
    have hlt := quoS_lt s _ _ _ _ _ hk
    have hj : j < n := by omega
    rcases m' with _ | m'
    · omega
    have e0 := h.a j hj
    unfold quoS at hk ⊢
    rw [if_neg (by omega)] at hk ⊢
    rw [e0]
    split at hk
    · rename_i c
      rw [if_pos c]
      simp only [Except.ok.injEq, Prod.mk.injEq] at hk
      obtain ⟨rfl, e⟩ := hk
      rw [show n = j + 1 by omega]; rfl
    rename_i c
    rw [if_neg c]
    split at hk
    · cases hk
    rename_i c
    rw [if_neg c]
    split at hk
    · rename_i c
      rw [if_pos c]
      exact h.quo m m' (j + 1) _ (by omega) hk
    rename_i c
    rw [if_neg c]
    split at hk
    · cases hk
    rename_i c
    have hlt2 := quoS_lt s _ _ _ _ _ hk
    have ee : escS s' (i' + (j + 1)) = escS s (i + (j + 1)) := h.esc (by rw [← Nat.add_assoc]; exact c) (by rw [← Nat.add_assoc]; omega)
    rw [← Nat.add_assoc, ← Nat.add_assoc] at ee
    rw [ee, if_neg c]
    rw [show i + j + 1 + (escS s (i + j + 1)).2 = i + (j + 1 + (escS s (i + j + 1)).2) by omega] at hk
    rw [show i' + j + 1 + (escS s (i + j + 1)).2 = i' + (j + 1 + (escS s (i + j + 1)).2) by omega]
    exact h.quo m m' _ _ (by omega) hk
/-- A word is the same elsewhere. -/
theorem Loc.word {s s' : ByteArray} {i i' n : Nat} (h : Loc s s' i i' n) {F : List UInt8 → Nat} {t : Tok} (hi : i < s.size) (hk : wordS F s i = .ok (t, i + n)) : wordS F s' i' = .ok ({ t with pos := i' }, i' + n) := by
  have hl := h.l
  have hl' := h.l'
  have hw := word_ok hk hi
  have hn : 0 < n := by omega
  have e0 : bt s' i' = bt s i := h.a 0 hn
  have e1 : ∀ {p : Nat → Bool}, (∀ c, Stop c → p c = false) → p (bt s (i + 1)) = p (bt s' (i' + 1)) ∨ p (bt s' (i' + 1)) = false := by
    intro p hp
    rcases Nat.lt_or_ge 1 n with c | c
    · exact .inl (by rw [h.a 1 c])
    · have e := h.e
      rw [show n = 1 by omega] at e
      rcases e with q | q
      · exact .inr (hp _ q)
      · exact .inl (by rw [q.1])
  unfold wordS at hk ⊢
  simp only at hk ⊢
  rw [e0]
  by_cases c1 : isLet (bt s i) = true
  · rw [if_pos c1] at hk ⊢
    exact h.name hi c1 hk
  rw [if_neg c1] at hk ⊢
  by_cases c2 : isDig (bt s i) = true ∨ bt s i = 126 ∧ isDig (bt s (i + 1)) = true
  · rw [if_pos c2] at hk
    rw [if_pos]
    · exact h.number c2 hk
    · rcases c2 with c2 | c2
      · exact .inl c2
      · refine .inr ⟨c2.1, ?_⟩
        have hW : i + 1 < i + n := by
          have := runE_lt (dig_in c2.2) c2.2
          have hk2 := hk
          have hWs : numW s i = runE isDig s (i + 1) := by unfold numW; rw [if_pos c2.1]
          have hWl : numW s i ≤ s.size := by rw [hWs]; exact runE_size (by have := dig_in c2.2; omega)
          have hF := numF_le hWl
          have hE := numE_le hF.2
          unfold numberS at hk2
          simp only at hk2
          split at hk2
          · split at hk2
            · cases hk2
            · simp only [Except.ok.injEq, Prod.mk.injEq] at hk2; omega
          · split at hk2
            · cases hk2
            · simp only [Except.ok.injEq, Prod.mk.injEq] at hk2; omega
        rw [h.a 1 (by omega)]; exact c2.2
  rw [if_neg c2] at hk
  have c2' : ¬ (isDig (bt s i) = true ∨ bt s i = 126 ∧ isDig (bt s' (i' + 1)) = true) := by
    rintro (x | x)
    · exact c2 (.inl x)
    · rcases e1 (p := isDig) (fun c hc => dig_stop hc) with q | q
      · exact c2 (.inr ⟨x.1, by rw [q]; exact x.2⟩)
      · rw [q] at x; cases x.2
  rw [if_neg c2']
  by_cases c3 : bt s i = 34
  · rw [if_pos c3] at hk ⊢
    rcases hq : quotedS s i with e | ⟨x, r⟩
    · rw [hq] at hk; cases hk
    · rw [hq] at hk
      simp only [Except.ok.injEq, Prod.mk.injEq] at hk
      obtain ⟨rfl, rfl⟩ := hk
      have := h.quo _ (s'.size + 1 - (i' + 1)) 1 [] (by omega) hq
      have hq' : quotedS s' i' = .ok (x, i' + n) := this
      rw [hq']
  rw [if_neg c3] at hk ⊢
  by_cases c4 : bt s i = 35 ∧ bt s (i + 1) = 34
  · rw [if_pos c4] at hk
    rcases hq : quotedS s (i + 1) with e | ⟨x, r⟩
    · rw [hq] at hk; cases hk
    · rw [hq] at hk
      simp only at hk
      split at hk
      · cases hk
      rename_i hx
      simp only [Except.ok.injEq, Prod.mk.injEq] at hk
      obtain ⟨rfl, rfl⟩ := hk
      have hlt := quoS_lt s _ _ _ _ _ hq
      have := h.quo _ (s'.size + 1 - (i' + 1 + 1)) 2 [] (by omega) hq
      have hq' : quotedS s' (i' + 1) = .ok (x, i' + n) := this
      rw [if_pos ⟨c4.1, by rw [h.a 1 (by omega)]; exact c4.2⟩, hq']
      simp only
      rw [if_neg hx]
  rw [if_neg c4] at hk
  have c4' : ¬ (bt s i = 35 ∧ bt s' (i' + 1) = 34) := by
    rintro ⟨x, y⟩
    rcases e1 (p := fun c => decide (c = 34)) (fun c hc => by simpa using stop_ne hc (by omega)) with q | q
    · refine c4 ⟨x, ?_⟩
      simpa [y] using q
    · simp [y] at q
  rw [if_neg c4']
  by_cases c5 : bt s i = 39
  · rw [if_pos c5] at hk ⊢
    -- where the letter stands
    by_cases d : isLet (bt s (if bt s (i + 1) = 39 then i + 2 else i + 1)) = true
    · rw [if_pos d] at hk
      obtain ⟨j, hj, hj1⟩ : ∃ j, (if bt s (i + 1) = 39 then i + 2 else i + 1) = i + j ∧ 1 ≤ j := by
        split
        · exact ⟨2, rfl, by omega⟩
        · exact ⟨1, rfl, by omega⟩
      rw [hj] at hk d
      have h1 := let_in d
      have h2 := runE_lt h1 (let_nam d)
      have h3 := short_ok hk
      have hj' : (if bt s' (i' + 1) = 39 then i' + 2 else i' + 1) = i' + j := by
        rw [h.a 1 (by omega)]
        split at hj <;> rename_i q <;> simp only [q, if_true, if_false] <;> omega
      have hlet : isLet (bt s' (i' + j)) = true := by rw [h.a j (by omega)]; exact d
      rw [hj', if_pos hlet, h.run nam0 nam10 nam32 (r := n) h3.symm (Nat.le_refl _)]
      rw [← h3] at hk
      exact h.short hk
    · rw [if_neg d] at hk; cases hk
  rw [if_neg c5] at hk ⊢
  by_cases c6 : isOne (bt s i) = true
  · rw [if_pos c6] at hk ⊢
    simp only [Except.ok.injEq, Prod.mk.injEq] at hk
    obtain ⟨rfl, e⟩ := hk
    have e : n = 1 := by omega
    subst e
    rw [h.sub0 (Nat.le_refl _)]
  rw [if_neg c6] at hk ⊢
  by_cases c7 : isSym (bt s i) = true
  · rw [if_pos c7] at hk ⊢
    have h3 := short_ok hk
    have hr : runE isSym s' i' = i' + n := h.run sym0 sym10 sym32 (j := 0) (r := n) h3.symm (Nat.le_refl _)
    rw [hr]
    rw [← h3] at hk
    rw [h.sub0 (Nat.le_refl _)]
    exact h.short hk
  · rw [if_neg c7] at hk; cases hk
end Go.Proofs.YtajpeeccomgnnaaGreatDoor
/-! Two texts joined, words spread: what the lexer makes of them. Plain. -/
namespace Go.Proofs.YtajpeeccomgnnaaGreatDoor
set_option linter.all false
open Go Go.RowKit

/-- A text's words from a place on. -/
def Words (F : List UInt8 → Nat) (s : ByteArray) : List Tok → Nat → Prop
  | [], i => ∃ k, blankE s 0 i = some k ∧ s.size ≤ k
  | t :: ts, i => ∃ k n, blankE s 0 i = some k ∧ k < s.size ∧ wordS F s k = .ok (t, n) ∧ Words F s ts n
theorem words_of {F : List UInt8 → Nat} {s : ByteArray} : ∀ (f i : Nat) (acc z : List Tok), f = s.size - i → i ≤ s.size → toksE F s i acc = .ok z → ∃ ts, z = acc ++ ts ∧ Words F s ts i := by
  intro f
  induction f using Nat.strongRecOn with
  | ind f ih =>
    intro i acc z hf hi h
    rw [toksE_unfold hi] at h
    rcases hb : blankE s 0 i with _ | k
    · rw [hb] at h; cases h
    · rw [hb] at h
      have hk := blankE_ok hb hi
      unfold afterB at h
      simp only at h
      by_cases hs : s.size ≤ k
      · rw [if_pos hs] at h
        simp only [Except.ok.injEq] at h
        exact ⟨[], by rw [h, List.append_nil], k, hb, hs⟩
      · rw [if_neg hs] at h
        rcases hw : wordS F s k with e | ⟨t, n⟩
        · rw [hw] at h; cases h
        · rw [hw] at h
          simp only at h
          have hn := word_ok hw (by omega)
          obtain ⟨ts, e, hW⟩ := ih (s.size - n) (by omega) n _ z rfl hn.2 h
          exact ⟨t :: ts, by rw [e, List.append_assoc]; rfl, k, n, hb, by omega, hw, hW⟩
theorem toks_words {F : List UInt8 → Nat} {s : ByteArray} : ∀ (ts : List Tok) (i : Nat) (acc : List Tok), i ≤ s.size → Words F s ts i → toksE F s i acc = .ok (acc ++ ts)
  | [], i, acc, hi, h => by
    obtain ⟨k, hb, hs⟩ := h
    rw [toksE_unfold hi, hb]
    unfold afterB
    simp only
    rw [if_pos hs, List.append_nil]
  | t :: ts, i, acc, hi, h => by
    obtain ⟨k, n, hb, hk, hw, hW⟩ := h
    have hn := word_ok hw hk
    rw [toksE_unfold hi, hb]
    unfold afterB
    simp only
    rw [if_neg (by omega), hw]
    simp only
    rw [toks_words ts n _ hn.2 hW, List.append_assoc]
    rfl
theorem lex_words {F : List UInt8 → Nat} {s : ByteArray} {ts : List Tok} (h : lexS F s = .ok ts) : s.size ≤ 65536 ∧ Words F s ts 0 := by
  unfold lexS at h
  split at h
  · cases h
  · have h : toksE F s 0 [] = .ok ts := h
    obtain ⟨l, e, hW⟩ := words_of _ 0 [] ts rfl (Nat.zero_le _) h
    exact ⟨by omega, by rw [List.nil_append] at e; rw [e]; exact hW⟩
theorem words_lex {F : List UInt8 → Nat} {s : ByteArray} {ts : List Tok} (hs : s.size ≤ 65536) (h : Words F s ts 0) : lexS F s = .ok ts := by
  unfold lexS
  rw [if_neg (by omega)]
  exact toks_words ts 0 [] (Nat.zero_le _) h
theorem lex_long {F : List UInt8 → Nat} {s : ByteArray} (hs : 65536 < s.size) : lexS F s = .error (2, 0) := by
  unfold lexS
  rw [if_pos hs]

/-- What a word is made of. -/
structure Made (s : ByteArray) (t : Tok) (k n : Nat) : Prop where
  pos : t.pos = k
  text : t.kind = 6 ∨ t.kind = 7 ∨ t.text = sub s k n
  kind : 1 ≤ t.kind ∧ t.kind ≤ 8
  one : bt s k = 40 → n = k + 1
  nb : bt s k ≠ 32 ∧ bt s k ≠ 9 ∧ bt s k ≠ 10 ∧ bt s k ≠ 13
theorem shortM {s : ByteArray} {i k n kind : Nat} {t : Tok} (h : shortS s i k kind = .ok (t, n)) : t.pos = i ∧ t.kind = kind ∧ t.text = sub s i n := by
  unfold shortS at h
  split at h
  · cases h
  · simp only [Except.ok.injEq, Prod.mk.injEq] at h
    obtain ⟨rfl, rfl⟩ := h
    exact ⟨rfl, rfl, rfl⟩
theorem longM {s : ByteArray} {i : Nat} : ∀ (m k : Nat) {n : Nat} {t : Tok}, longS s m i k = .ok (t, n) → t.pos = i ∧ t.kind = 1 ∧ t.text = sub s i n
  | 0, k, n, t, h => shortM (show shortS s i k 1 = _ from h)
  | m + 1, k, n, t, h => by
    unfold longS at h
    split at h
    · split at h
      · cases h
      · exact longM m _ h
    · exact shortM h
theorem word_made {F : List UInt8 → Nat} {s : ByteArray} {k n : Nat} {t : Tok} (h : wordS F s k = .ok (t, n)) (hk : k < s.size) : Made s t k n := by
  unfold wordS at h
  simp only at h
  by_cases c1 : isLet (bt s k) = true
  · rw [if_pos c1] at h
    have hr : 65 ≤ bt s k := by have := of_decide_eq_true c1; omega
    unfold nameS at h
    split at h
    · simp only [Except.ok.injEq, Prod.mk.injEq] at h
      obtain ⟨rfl, rfl⟩ := h
      exact ⟨rfl, .inr (.inr rfl), by simp, by omega, by omega⟩
    · obtain ⟨a, b, c⟩ := longM _ _ h
      exact ⟨a, .inr (.inr c), by omega, by omega, by omega⟩
  rw [if_neg c1] at h
  by_cases c2 : isDig (bt s k) = true ∨ bt s k = 126 ∧ isDig (bt s (k + 1)) = true
  · rw [if_pos c2] at h
    have hr : 48 ≤ bt s k := by
      rcases c2 with c | c
      · exact (dig_range c).1
      · omega
    unfold numberS at h
    simp only at h
    split at h
    · split at h
      · cases h
      · simp only [Except.ok.injEq, Prod.mk.injEq] at h
        obtain ⟨rfl, rfl⟩ := h
        exact ⟨rfl, .inr (.inr rfl), by simp, by omega, by omega⟩
    · split at h
      · cases h
      · simp only [Except.ok.injEq, Prod.mk.injEq] at h
        obtain ⟨rfl, rfl⟩ := h
        exact ⟨rfl, .inr (.inr rfl), by simp, by omega, by omega⟩
  rw [if_neg c2] at h
  by_cases c3 : bt s k = 34
  · rw [if_pos c3] at h
    rcases hq : quotedS s k with e | ⟨x, r⟩
    · rw [hq] at h; cases h
    · rw [hq] at h
      simp only [Except.ok.injEq, Prod.mk.injEq] at h
      obtain ⟨rfl, rfl⟩ := h
      exact ⟨rfl, .inr (.inl rfl), by simp, by omega, by omega⟩
  rw [if_neg c3] at h
  by_cases c4 : bt s k = 35 ∧ bt s (k + 1) = 34
  · rw [if_pos c4] at h
    rcases hq : quotedS s (k + 1) with e | ⟨x, r⟩
    · rw [hq] at h; cases h
    · rw [hq] at h
      simp only at h
      split at h
      · cases h
      simp only [Except.ok.injEq, Prod.mk.injEq] at h
      obtain ⟨rfl, rfl⟩ := h
      exact ⟨rfl, .inl rfl, by simp, by omega, by omega⟩
  rw [if_neg c4] at h
  by_cases c5 : bt s k = 39
  · rw [if_pos c5] at h
    by_cases d : isLet (bt s (if bt s (k + 1) = 39 then k + 2 else k + 1)) = true
    · rw [if_pos d] at h
      obtain ⟨a, b, c⟩ := shortM h
      exact ⟨a, .inr (.inr c), by omega, by omega, by omega⟩
    · rw [if_neg d] at h; cases h
  rw [if_neg c5] at h
  by_cases c6 : isOne (bt s k) = true
  · rw [if_pos c6] at h
    simp only [Except.ok.injEq, Prod.mk.injEq] at h
    obtain ⟨rfl, rfl⟩ := h
    refine ⟨rfl, .inr (.inr rfl), by simp, fun _ => rfl, ?_⟩
    refine ⟨?_, ?_, ?_, ?_⟩ <;> intro e <;> rw [e] at c6 <;> exact absurd c6 (by decide +kernel)
  rw [if_neg c6] at h
  by_cases c7 : isSym (bt s k) = true
  · rw [if_pos c7] at h
    obtain ⟨a, b, c⟩ := shortM h
    refine ⟨a, .inr (.inr c), by split at b <;> omega, ?_, ?_⟩
    · intro e; rw [e] at c6; exact absurd (by decide +kernel) c6
    · refine ⟨?_, ?_, ?_, ?_⟩ <;> intro e <;> rw [e] at c7 <;> exact absurd c7 (by decide +kernel)
  · rw [if_neg c7] at h; cases h

/-! ### Joined -/
def mv (o : Nat) (t : Tok) : Tok := { t with pos := t.pos + o }
/-- Two texts with a line's end between. -/
structure Join (a b s : ByteArray) : Prop where
  size : s.size = a.size + 1 + b.size
  lo : ∀ j, j < a.size → bt s j = bt a j
  mid : bt s a.size = 10
  hi : ∀ j, bt s (a.size + 1 + j) = bt b j
theorem Join.blank2 {a b s : ByteArray} (h : Join a b s) : ∀ (m d i : Nat), blankS s m d (a.size + 1 + i) = (blankS b m d i).map (a.size + 1 + ·)
  | 0, d, i => rfl
  | m + 1, d, i => by
    have e0 := h.hi i
    have e1 : bt s (a.size + 1 + i + 1) = bt b (i + 1) := h.hi (i + 1)
    have hs := h.size
    unfold blankS
    rw [e0, e1]
    by_cases c1 : bt b i = 40 ∧ bt b (i + 1) = 42
    · rw [if_pos c1, if_pos c1]; exact h.blank2 m (d + 1) (i + 2)
    rw [if_neg c1, if_neg c1]
    by_cases c2 : 0 < d ∧ bt b i = 42 ∧ bt b (i + 1) = 41
    · rw [if_pos c2, if_pos c2]; exact h.blank2 m (d - 1) (i + 2)
    rw [if_neg c2, if_neg c2]
    by_cases c3 : 0 < d ∧ b.size ≤ i
    · rw [if_pos c3, if_pos ⟨c3.1, by omega⟩]; rfl
    rw [if_neg c3, if_neg (fun x => c3 ⟨x.1, by omega⟩)]
    by_cases c4 : 0 < d ∨ i < b.size ∧ (bt b i = 32 ∨ bt b i = 9 ∨ bt b i = 10 ∨ bt b i = 13)
    · rw [if_pos c4, if_pos (by rcases c4 with x | x
                                · exact .inl x
                                · exact .inr ⟨by omega, x.2⟩)]
      exact h.blank2 m d (i + 1)
    · rw [if_neg c4, if_neg (fun x => c4 (by rcases x with x | x
                                             · exact .inl x
                                             · exact .inr ⟨by omega, x.2⟩))]
      rfl
theorem Join.words2 {a b s : ByteArray} (h : Join a b s) {F : List UInt8 → Nat} : ∀ (y : List Tok) (i : Nat), i ≤ b.size → Words F b y i → Words F s (y.map (mv (a.size + 1))) (a.size + 1 + i)
  | [], i, hi, hw => by
    obtain ⟨k, hb, hk⟩ := hw
    have hs := h.size
    refine ⟨a.size + 1 + k, ?_, by omega⟩
    unfold blankE at hb ⊢
    rw [show s.size + 2 - (a.size + 1 + i) = b.size + 2 - i by omega, h.blank2, hb]
    rfl
  | t :: y, i, hi, hw => by
    obtain ⟨k, n, hb, hk, hwd, hW⟩ := hw
    have hs := h.size
    have hn := word_ok hwd hk
    obtain ⟨m, rfl⟩ : ∃ m, n = k + m := ⟨n - k, by omega⟩
    refine ⟨a.size + 1 + k, a.size + 1 + (k + m), ?_, by omega, ?_, h.words2 y (k + m) hn.2 hW⟩
    · unfold blankE at hb ⊢
      rw [show s.size + 2 - (a.size + 1 + i) = b.size + 2 - i by omega, h.blank2, hb]
      rfl
    · have L : Loc b s k (a.size + 1 + k) m := ⟨fun j _ => by rw [Nat.add_assoc (a.size + 1)]; exact h.hi (k + j), Ah.all 3 (fun j => by rw [Nat.add_assoc (a.size + 1), Nat.add_assoc (a.size + 1), Nat.add_assoc k]; exact h.hi (k + (m + j))), hn.2, by omega⟩
      have hp := (word_made hwd hk).pos
      rw [show a.size + 1 + (k + m) = a.size + 1 + k + m by omega, L.word hk hwd]
      unfold mv
      rw [hp, Nat.add_comm k]
theorem Join.ahead {a b s : ByteArray} (h : Join a b s) : ∀ (m p : Nat), p ≤ a.size → Ah a s m p p
  | 0, p, hp => trivial
  | m + 1, p, hp => by
    rcases Nat.lt_or_ge p a.size with c | c
    · exact .inr ⟨h.lo p c, h.ahead m (p + 1) (by omega)⟩
    · rw [show p = a.size by omega]
      exact .inl (.inr (.inl h.mid))
theorem Join.next {a b s : ByteArray} (h : Join a b s) {i : Nat} (hi : i < a.size) : bt s (i + 1) = bt a (i + 1) ∨ (bt s (i + 1) = 10 ∧ bt a (i + 1) = 0) := by
  rcases Nat.lt_or_ge (i + 1) a.size with c | c
  · exact .inl (h.lo _ c)
  · rw [show i + 1 = a.size by omega]
    exact .inr ⟨h.mid, bt_out (Nat.le_refl _)⟩
theorem Join.blank1 {a b s : ByteArray} (h : Join a b s) : ∀ (f d i k : Nat), f = a.size - i → i ≤ a.size → blankE a d i = some k → blankE s d i = if k < a.size then some k else blankE s 0 (a.size + 1) := by
  intro f
  induction f using Nat.strongRecOn with
  | ind f ih =>
    intro d i k hf hi hb
    have hs := h.size
    rw [blankE_unfold hi] at hb
    rw [blankE_unfold (s := s) (by omega)]
    rcases Nat.lt_or_ge i a.size with c | c
    · have e0 := h.lo i c
      have e1 := h.next c
      rw [e0]
      by_cases c1 : bt a i = 40 ∧ bt a (i + 1) = 42
      · have h2 := bt_in2 c1.2 (by omega)
        rw [if_pos c1] at hb
        rw [if_pos ⟨c1.1, by omega⟩]
        exact ih _ (by omega) _ _ _ rfl (by omega) hb
      rw [if_neg c1] at hb
      rw [if_neg (fun x => c1 ⟨x.1, by omega⟩)]
      by_cases c2 : 0 < d ∧ bt a i = 42 ∧ bt a (i + 1) = 41
      · have h2 := bt_in2 c2.2.2 (by omega)
        rw [if_pos c2] at hb
        rw [if_pos ⟨c2.1, c2.2.1, by omega⟩]
        exact ih _ (by omega) _ _ _ rfl (by omega) hb
      rw [if_neg c2] at hb
      rw [if_neg (fun x => c2 ⟨x.1, x.2.1, by omega⟩)]
      rw [if_neg (by omega)] at hb
      rw [if_neg (by omega)]
      by_cases c4 : 0 < d ∨ i < a.size ∧ (bt a i = 32 ∨ bt a i = 9 ∨ bt a i = 10 ∨ bt a i = 13)
      · rw [if_pos c4] at hb
        rw [if_pos (by rcases c4 with x | x
                       · exact .inl x
                       · exact .inr ⟨by omega, x.2⟩)]
        exact ih _ (by omega) _ _ _ rfl (by omega) hb
      · rw [if_neg c4] at hb
        rw [if_neg (fun x => c4 (by rcases x with x | x
                                    · exact .inl x
                                    · exact .inr ⟨c, x.2⟩))]
        simp only [Option.some.injEq] at hb
        subst hb
        rw [if_pos c]
    · have e : i = a.size := by omega
      subst e
      have h0 : bt a a.size = 0 := bt_out (Nat.le_refl _)
      rw [h0, if_neg (by omega), if_neg (by omega)] at hb
      by_cases hd : 0 < d
      · rw [if_pos ⟨hd, Nat.le_refl _⟩] at hb; cases hb
      · rw [if_neg (by omega), if_neg (by omega)] at hb
        simp only [Option.some.injEq] at hb
        subst hb
        rw [h.mid, if_neg (by omega), if_neg (by omega), if_neg (by omega), if_pos (.inr ⟨by omega, by omega⟩), if_neg (by omega), show d = 0 by omega]
theorem Join.words1 {a b s : ByteArray} (h : Join a b s) {F : List UInt8 → Nat} {y : List Tok} (hy : Words F s y (a.size + 1)) : ∀ (x : List Tok) (i : Nat), i ≤ a.size → Words F a x i → Words F s (x ++ y) i
  | [], i, hi, hw => by
    obtain ⟨k, hb, hk⟩ := hw
    have e := h.blank1 _ 0 i k rfl hi hb
    rw [if_neg (by omega)] at e
    rw [List.nil_append]
    cases y with
    | nil => unfold Words at hy ⊢; rw [e]; exact hy
    | cons t y => unfold Words at hy ⊢; rw [e]; exact hy
  | t :: x, i, hi, hw => by
    obtain ⟨k, n, hb, hk, hwd, hW⟩ := hw
    have hs := h.size
    have hn := word_ok hwd hk
    have e := h.blank1 _ 0 i k rfl hi hb
    rw [if_pos hk] at e
    obtain ⟨m, rfl⟩ : ∃ m, n = k + m := ⟨n - k, by omega⟩
    refine ⟨k, k + m, e, by omega, ?_, h.words1 hy x (k + m) hn.2 hW⟩
    have L : Loc a s k k m := ⟨fun j hj => h.lo _ (by omega), h.ahead 3 _ hn.2, hn.2, by omega⟩
    rw [L.word hk hwd]
    have hp := (word_made hwd hk).pos
    rw [← hp]
theorem Join.lex {a b s : ByteArray} (h : Join a b s) {F : List UInt8 → Nat} {x y : List Tok} (hx : lexS F a = .ok x) (hy : lexS F b = .ok y) (hs : s.size ≤ 65536) : lexS F s = .ok (x ++ y.map (mv (a.size + 1))) := by
  have h1 := (lex_words hx).2
  have h2 := (lex_words hy).2
  exact words_lex hs (h.words1 (h.words2 y 0 (Nat.zero_le _) h2) x 0 (Nat.zero_le _) h1)
theorem bt_list (l : List UInt8) (j : Nat) : bt ⟨l.toArray⟩ j = (l[j]?.getD 0).toNat := rfl
theorem size_list (l : List UInt8) : (⟨l.toArray⟩ : ByteArray).size = l.length := by simp [ByteArray.size]
theorem join_list (a b : List UInt8) : Join ⟨a.toArray⟩ ⟨b.toArray⟩ ⟨(a ++ 10 :: b).toArray⟩ := by
  refine ⟨?_, fun j hj => ?_, ?_, fun j => ?_⟩
  · rw [size_list, size_list, size_list]; simp; omega
  · rw [size_list] at hj
    rw [bt_list, bt_list, List.getElem?_append_left hj]
  · rw [size_list, bt_list, List.getElem?_append_right (Nat.le_refl _)]; simp
  · rw [size_list, bt_list, bt_list, List.getElem?_append_right (by omega), show a.length + 1 + j - a.length = j + 1 by omega]; rfl

/-! ### Spread -/
/-- Words with a blank ahead of each. -/
def flat : List Tok → List UInt8
  | [] => []
  | t :: ts => 32 :: (t.text ++ flat ts)
/-- Words with a blank between each two. -/
def spr : List Tok → List UInt8
  | [] => []
  | t :: ts => t.text ++ flat ts
theorem flat_snoc (t : Tok) : ∀ ts : List Tok, flat (ts ++ [t]) = flat ts ++ 32 :: t.text
  | [] => by simp [flat]
  | u :: ts => by
    show 32 :: (u.text ++ flat (ts ++ [t])) = 32 :: (u.text ++ flat ts) ++ 32 :: t.text
    rw [flat_snoc t ts]
    simp
theorem spr_snoc (t : Tok) (ts : List Tok) : spr (ts ++ [t]) = if ts = [] then t.text else spr ts ++ 32 :: t.text := by
  cases ts with
  | nil => simp [spr, flat]
  | cons u ts =>
    rw [if_neg (by simp)]
    show u.text ++ flat (ts ++ [t]) = (u.text ++ flat ts) ++ 32 :: t.text
    rw [flat_snoc, List.append_assoc]
/-- A word that some text gave, neither a text nor a character. -/
def Good (F : List UInt8 → Nat) (t : Tok) : Prop := ∃ s k n, wordS F s k = .ok (t, k + n) ∧ k < s.size ∧ t.text = sub s k (k + n)
theorem words_good {F : List UInt8 → Nat} {s : ByteArray} : ∀ (ts : List Tok) (i : Nat), Words F s ts i → (∀ t ∈ ts, t.kind ≠ 6 ∧ t.kind ≠ 7) → ∀ t ∈ ts, Good F t
  | [], i, h, hk, t, ht => by cases ht
  | u :: ts, i, h, hk, t, ht => by
    obtain ⟨k, n, hb, hks, hw, hW⟩ := h
    rcases List.mem_cons.mp ht with rfl | ht
    · have hm := word_made hw hks
      have hn := word_ok hw hks
      have h2 := hk t (List.mem_cons_self ..)
      obtain ⟨m, rfl⟩ : ∃ m, n = k + m := ⟨n - k, by omega⟩
      refine ⟨s, k, m, hw, hks, ?_⟩
      rcases hm.text with c | c | c
      · exact absurd c h2.1
      · exact absurd c h2.2
      · exact c
    · exact words_good ts n hW (fun t ht => hk t (List.mem_cons_of_mem _ ht)) t ht
def Rest (l : List UInt8) : Prop := l = [] ∨ ∃ r, l = 32 :: r
theorem flat_rest : ∀ ts : List Tok, Rest (flat ts)
  | [] => .inl rfl
  | t :: ts => .inr ⟨_, rfl⟩
theorem good_word {F : List UInt8 → Nat} {t : Tok} (hg : Good F t) (pre rest : List UInt8) (hr : Rest rest) :
    0 < t.text.length ∧ blankE ⟨(pre ++ t.text ++ rest).toArray⟩ 0 pre.length = some pre.length ∧ wordS F ⟨(pre ++ t.text ++ rest).toArray⟩ pre.length = .ok ({ t with pos := pre.length }, pre.length + t.text.length) := by
  obtain ⟨s, k, n, hw, hk, ht⟩ := hg
  have hn := word_ok hw hk
  have hm := word_made hw hk
  have hl : t.text.length = n := by rw [ht, sub_ln hn.2]; omega
  have hn0 : 0 < n := by omega
  obtain ⟨z, hz⟩ : ∃ z : ByteArray, z = ⟨(pre ++ t.text ++ rest).toArray⟩ := ⟨_, rfl⟩
  have hzs : z.size = pre.length + n + rest.length := by rw [hz, size_list]; simp; omega
  have hbz : ∀ j, bt z j = ((pre ++ t.text ++ rest)[j]?.getD 0).toNat := fun j => by rw [hz]; rfl
  have ha : ∀ j, j < n → bt z (pre.length + j) = bt s (k + j) := fun j hj => by
    rw [hbz, List.append_assoc, List.getElem?_append_right (by omega), show pre.length + j - pre.length = j by omega, List.getElem?_append_left (by omega), ht, sub_get hn.2, if_pos (by omega)]
    rfl
  have he : Stop (bt z (pre.length + n)) := by
    rw [hbz, List.getElem?_append_right (by simp; omega), show pre.length + n - (pre ++ t.text).length = 0 by simp; omega]
    rcases hr with rfl | ⟨r, rfl⟩
    · exact .inl rfl
    · exact .inr (.inr rfl)
  rw [← hz]
  clear hz hbz
  have L : Loc s z k pre.length n := ⟨ha, .inl he, hn.2, by omega⟩
  refine ⟨by omega, ?_, ?_⟩
  · have h0 := ha 0 hn0
    rw [Nat.add_zero, Nat.add_zero] at h0
    have hb := hm.nb
    rw [blankE_unfold (by omega), if_neg, if_neg (by omega), if_neg (by omega), if_neg (by omega)]
    rintro ⟨x, y⟩
    have := hm.one (by omega)
    have e1 : n = 1 := by omega
    rw [e1] at he
    exact stop_ne he (by omega) y
  · rw [hl]
    exact L.word hk hw
theorem skip32 {s : ByteArray} {p : Nat} (hp : p < s.size) (h : bt s p = 32) : blankE s 0 p = blankE s 0 (p + 1) := by
  rw [blankE_unfold (by omega), if_neg (by omega), if_neg (by omega), if_neg (by omega), if_pos (.inr ⟨hp, .inl h⟩)]
theorem blank_end (s : ByteArray) : blankE s 0 s.size = some s.size := by
  have h0 : bt s s.size = 0 := bt_out (Nat.le_refl _)
  rw [blankE_unfold (Nat.le_refl _), if_neg (by omega), if_neg (by omega), if_neg (by omega), if_neg (by omega)]
/-- The same words elsewhere. -/
def Alike (ts us : List Tok) : Prop := us.length = ts.length ∧ ∀ (i : Nat) (t : Tok), ts[i]? = some t → ∃ p : Nat, us[i]? = some { t with pos := p }
theorem Alike.cons {ts us : List Tok} (h : Alike ts us) (t : Tok) (p : Nat) : Alike (t :: ts) ({ t with pos := p } :: us) := by
  refine ⟨by simp [h.1], fun i u hu => ?_⟩
  rcases i with _ | i
  · simp only [List.getElem?_cons_zero, Option.some.injEq] at hu
    subst hu
    exact ⟨p, rfl⟩
  · rw [List.getElem?_cons_succ] at hu ⊢
    exact h.2 i u hu
theorem flat_words {F : List UInt8 → Nat} : ∀ (ts : List Tok) (pre : List UInt8), (∀ t ∈ ts, Good F t) → ∃ us, Alike ts us ∧ Words F ⟨(pre ++ flat ts).toArray⟩ us pre.length
  | [], pre, h => by
    refine ⟨[], ⟨rfl, fun i t ht => by simp at ht⟩, ?_⟩
    show ∃ k, blankE _ 0 pre.length = some k ∧ _ ≤ k
    refine ⟨pre.length, ?_, ?_⟩
    · have e := blank_end ⟨(pre ++ flat []).toArray⟩
      rw [size_list] at e
      simpa [flat] using e
    · rw [size_list]; simp [flat]
  | t :: ts, pre, h => by
    have hg := good_word (h t (List.mem_cons_self ..)) (pre ++ [32]) (flat ts) (flat_rest ts)
    obtain ⟨us, hA, hW⟩ := flat_words ts (pre ++ [32] ++ t.text) (fun u hu => h u (List.mem_cons_of_mem _ hu))
    have e : pre ++ flat (t :: ts) = pre ++ [32] ++ t.text ++ flat ts := by simp [flat]
    rw [e]
    obtain ⟨h0, hb, hw⟩ := hg
    have hlen : (pre ++ [32]).length = pre.length + 1 := by simp
    rw [hlen] at hb hw
    refine ⟨{ t with pos := pre.length + 1 } :: us, hA.cons t _, pre.length + 1, pre.length + 1 + t.text.length, ?_, ?_, hw, ?_⟩
    · rw [skip32 (by simp only [size_list, List.length_append, List.length_cons, List.length_nil]; omega) ?_]
      · exact hb
      · rw [bt_list, List.append_assoc, List.append_assoc, List.getElem?_append_right (Nat.le_refl _)]
        simp
    · simp only [size_list, List.length_append, List.length_cons, List.length_nil]; omega
    · have e2 : (pre ++ [32] ++ t.text).length = pre.length + 1 + t.text.length := by simp only [List.length_append, List.length_cons, List.length_nil]
      rw [e2] at hW
      exact hW
theorem spr_words {F : List UInt8 → Nat} (ts : List Tok) (h : ∀ t ∈ ts, Good F t) : ∃ us, Alike ts us ∧ Words F ⟨(spr ts).toArray⟩ us 0 := by
  cases ts with
  | nil => exact ⟨[], ⟨rfl, fun i t ht => by simp at ht⟩, 0, blank_end ⟨([] : List UInt8).toArray⟩, Nat.le_refl _⟩
  | cons t ts =>
    have hg := good_word (h t (List.mem_cons_self ..)) [] (flat ts) (flat_rest ts)
    obtain ⟨us, hA, hW⟩ := flat_words ts ([] ++ t.text) (fun u hu => h u (List.mem_cons_of_mem _ hu))
    obtain ⟨h0, hb, hw⟩ := hg
    have e : spr (t :: ts) = [] ++ t.text ++ flat ts := by simp [spr]
    rw [e]
    refine ⟨{ t with pos := 0 } :: us, hA.cons t 0, 0, 0 + t.text.length, hb, ?_, hw, ?_⟩
    · simp only [size_list, List.length_append, List.length_cons, List.length_nil]; omega
    · have e2 : ([] ++ t.text).length = 0 + t.text.length := by simp
      rw [e2] at hW
      exact hW
/-- Words spread are the same words. -/
theorem spread {F : List UInt8 → Nat} {s : ByteArray} {ts : List Tok} (h : lexS F s = .ok ts) (hk : ∀ t ∈ ts, t.kind ≠ 6 ∧ t.kind ≠ 7) (hl : (spr ts).length ≤ 65536) : ∃ us, Alike ts us ∧ lexS F ⟨(spr ts).toArray⟩ = .ok us := by
  have h1 := (lex_words h).2
  obtain ⟨us, hA, hW⟩ := spr_words ts (words_good ts 0 h1 hk)
  exact ⟨us, hA, words_lex (by rw [size_list]; exact hl) hW⟩
end Go.Proofs.YtajpeeccomgnnaaGreatDoor
/-! The library's tables of reals, as the rows hand them over. Condition: what the rows list. -/
namespace Go.Proofs.YtajpeeccomgnnaaGreatDoor
set_option linter.all false
open Go Go.RowKit
set_option maxRecDepth 1000000

noncomputable abbrev rdT (w : World) (fuel : Nat) (t : TypeId) (cs : List Value) : Option (DataW Unit × List MemPlace) := DataW.trod (fun _ => ()) Tryz.prog w 0 (fun _ => true) false fuel t cs
/-- A listed variable, by its place on the list. -/
theorem laid_get {W : World} : ∀ {l : List (String × DataW Unit)} {ps : List MemPlace}, DataW.LaidVars Tryz.prog W l ps → ∀ (i : Nat) (n : String) (d : DataW Unit), l[i]? = some (n, d) →
    ∃ g t cs fuel p, Tryz.prog.globalNamed n = some g ∧ (Tryz.prog.globals[g]?).map (·.type) = some t ∧ W.var? Tryz.prog n = some cs ∧ rdT W fuel t cs.toList = some (d, p)
  | [], ps, h, i, n, d, hi => by simp at hi
  | (n0, d0) :: l, ps, h, i, n, d, hi => by
    obtain ⟨g, t, cs, fuel, p, q, h1, h2, h3, h4, h5, h6⟩ := h
    rcases i with _ | i
    · simp only [List.getElem?_cons_zero, Option.some.injEq, Prod.mk.injEq] at hi
      obtain ⟨rfl, rfl⟩ := hi
      exact ⟨g, t, cs, fuel, p, h1, h2, h3, h4⟩
    · rw [List.getElem?_cons_succ] at hi
      exact laid_get h5 i n d hi
/-- .. its cells, by its number and type. -/
theorem laid_cells {W : World} {l : List (String × DataW Unit)} (h : laidMet Tryz.prog l W) (i : Nat) {n : String} {d : DataW Unit} (hi : l[i]? = some (n, d)) {g t : Nat} (hg : Tryz.prog.globalNamed n = some g) (ht : (Tryz.prog.globals[g]?).map (·.type) = some t) :
    ∃ cs fuel p, (∀ j, W.cell? ⟨g, j, none⟩ = cs[j]?) ∧ rdT W fuel t cs = some (d, p) := by
  obtain ⟨ps, hl, _⟩ := h
  obtain ⟨g', t', cs, fuel, p, h1, h2, h3, h4⟩ := laid_get hl i n d hi
  obtain rfl := Option.some.inj (hg.symm.trans h1)
  obtain rfl := Option.some.inj (ht.symm.trans h2)
  exact ⟨cs.toList, fuel, p, fun j => by rw [World.var?_cell hg h3]; simp, h4⟩
theorem rd_int {w : World} {fuel : Nat} {t : TypeId} {k k' : IntKind} {cs : List Value} {n : Int} {p : List MemPlace} (ht : Tryz.prog.underlying t = some (.int k)) (h : rdT w fuel t cs = some (.lit (.int k' n), p)) : cs = [.int k' n] := by
  obtain ⟨m, rfl, e, _⟩ := DataW.trod_int ht h
  simp only [Prod.mk.injEq, DataW.lit.injEq, Lit.int.injEq] at e
  obtain ⟨⟨rfl, rfl⟩, _⟩ := e
  rfl
theorem rd_str {w : World} {fuel : Nat} {t : TypeId} {cs : List Value} {l : List UInt8} {p : List MemPlace} (ht : Tryz.prog.underlying t = some .string) (h : rdT w fuel t cs = some (.lit (.string l), p)) : cs = [.string ⟨l.toArray⟩] := by
  obtain ⟨s, rfl, e, _⟩ := DataW.trod_string ht h
  simp only [Prod.mk.injEq, DataW.lit.injEq, Lit.string.injEq] at e
  rw [e.1]
theorem rd_bool {w : World} {fuel : Nat} {t : TypeId} {cs : List Value} {b : Bool} {p : List MemPlace} (ht : Tryz.prog.underlying t = some .bool) (h : rdT w fuel t cs = some (.lit (.bool b), p)) : cs = [.bool b] := by
  obtain ⟨s, rfl, e⟩ := DataW.trod_bool ht h
  simp only [Prod.mk.injEq, DataW.lit.injEq, Lit.bool.injEq] at e
  rw [e.1]
theorem rd_float {w : World} {fuel : Nat} {t : TypeId} {k : FloatKind} {cs : List Value} {b : Nat} {p : List MemPlace} (ht : Tryz.prog.underlying t = some (.float k)) (h : rdT w fuel t cs = some (.lit (.float k b), p)) : cs = [.float k b] := by
  cases fuel with
  | zero => simp [rdT, DataW.trod] at h
  | succ n =>
    unfold rdT DataW.trod at h
    rw [ht] at h
    split at h <;> simp_all
theorem rd_iface {w : World} {fuel : Nat} {t : TypeId} {ms : Array (String × TypeId)} {nm : String} {cs : List Value} {d : DataW Unit} {p : List MemPlace} (ht : Tryz.prog.underlying t = some (.interface ms)) (h : rdT w fuel t cs = some (.iface nm d, p)) : ∃ u v, cs = [.iface u v] := by
  cases fuel with
  | zero => simp [rdT, DataW.trod] at h
  | succ n =>
    unfold rdT DataW.trod at h
    rw [ht] at h
    split at h <;> simp_all
/-- The fields of a struct, each one cell. -/
noncomputable def fieldsB (t : TypeId) (ts : List TypeId) : Bool :=
  match Tryz.prog.underlying t with
  | some (.struct fs) => fs.toList.map (fun f => (f.type, f.offset)) == ts.zip (List.range ts.length) && ts.all (fun u => Tryz.prog.cellsOf u == 1) && Tryz.prog.cellsOf t == ts.length
  | _ => false
theorem rd_struct {w : World} {fuel : Nat} {t : TypeId} {ts : List TypeId} {cs : List Value} {ds : List (DataW Unit)} {p : List MemPlace} (hb : fieldsB t ts = true) (h : rdT w fuel t cs = some (.agg ds, p)) :
    cs.length = ts.length ∧ ds.length = ts.length ∧ ∀ (i : Nat) (u : TypeId) (d : DataW Unit), ts[i]? = some u → ds[i]? = some d → ∃ v m q, cs[i]? = some v ∧ rdT w m u [v] = some (d, q) := by
  unfold fieldsB at hb
  split at hb
  · rename_i fs hfs
    simp only [Bool.and_eq_true, beq_iff_eq, List.all_eq_true] at hb
    obtain ⟨⟨hb, hc1⟩, hct⟩ := hb
    obtain ⟨xs, m, _, hx, hl, hxl, hat⟩ := DataW.trod_struct hfs h
    simp only [Prod.mk.injEq, DataW.agg.injEq] at hx
    have hsz : fs.size = ts.length := by
      have := congrArg List.length hb
      simpa using this
    refine ⟨by rw [hl, hct], by rw [hx.1]; simp [hxl, hsz], fun i u d hu hd => ?_⟩
    have hi : i < ts.length := (List.getElem?_eq_some_iff.mp hu).1
    have hfi : ∃ f, fs[i]? = some f ∧ f.type = u ∧ f.offset = i := by
      have h2 := congrArg (·[i]?) hb
      simp only [List.getElem?_map] at h2
      have hz : (ts.zip (List.range ts.length))[i]? = some (u, i) := List.getElem?_zip_eq_some.mpr ⟨hu, List.getElem?_range hi⟩
      rw [hz] at h2
      simp only [Array.getElem?_toList, Option.map_eq_some_iff, Prod.mk.injEq] at h2
      exact h2
    obtain ⟨f, hf, rfl, ho⟩ := hfi
    have h3 := hat i f hf
    rw [hx.1] at hd
    simp only [List.getElem?_map, Option.map_eq_some_iff] at hd
    obtain ⟨y, hy, rfl⟩ := hd
    have hc : Tryz.prog.cellsOf f.type = 1 := hc1 _ (List.mem_of_getElem? hu)
    rw [hy, ho, hc] at h3
    have hi2 : i < cs.length := by rw [hl, hct]; exact hi
    refine ⟨cs[i], m, y.2, List.getElem?_eq_getElem hi2, ?_⟩
    have e : (cs.drop i).take 1 = [cs[i]] := by
      rw [List.drop_eq_getElem_cons hi2]
      rfl
    rw [e] at h3
    exact h3
  · cases hb
theorem cells1 {w : World} {a : Addr} {cs : List Value} (h : w.cells? 0 a 1 = some cs) : ∃ v, cs = [v] ∧ w.cell? a = some v := by
  unfold World.cells? at h
  rw [if_pos (Nat.zero_le _)] at h
  have e0 : a.add 0 = a := rfl
  simp only [List.range_succ, List.range_zero, List.nil_append, List.mapM_cons, List.mapM_nil, e0] at h
  cases hc : w.cell? a with
  | none => simp [hc] at h
  | some c => simp [hc] at h; exact ⟨c, h.symm, rfl⟩
theorem cells2 {w : World} {a : Addr} {cs : List Value} (h : w.cells? 0 a 2 = some cs) : ∃ v u, cs = [v, u] ∧ w.cell? a = some v ∧ w.cell? (a.add 1) = some u := by
  unfold World.cells? at h
  rw [if_pos (Nat.zero_le _)] at h
  have e0 : a.add 0 = a := rfl
  simp only [List.range_succ, List.range_zero, List.nil_append, List.cons_append, List.mapM_cons, List.mapM_nil, e0] at h
  cases hc : w.cell? a with
  | none => simp [hc] at h
  | some c =>
    cases hd : w.cell? (a.add 1) with
    | none => simp [hc, hd] at h
    | some d => simp [hc, hd] at h; exact ⟨c, d, h.symm, rfl, rfl⟩
theorem cell_spot {w : World} {a : Addr} {v : Value} (h : w.cell? a = some v) : a = ⟨a.block, a.off, none⟩ := by
  unfold World.cell? at h
  obtain ⟨b, o, sp⟩ := a
  cases sp with
  | none => rfl
  | some x => split at h <;> simp_all
theorem rd_slice {w : World} {fuel : Nat} {t e : TypeId} {n : Nat} {cs : List Value} {ds : List (DataW Unit)} {p : List MemPlace} (ht : Tryz.prog.underlying t = some (.slice e)) (hc : Tryz.prog.cellsOf e = n) (h : rdT w fuel t cs = some (.slice ds [], p)) :
    ∃ a, cs = [.slice (some a) ds.length ds.length] ∧ ∀ (i : Nat) (d : DataW Unit), ds[i]? = some d → ∃ c m q, w.cells? 0 (a.add (i * n)) n = some c ∧ rdT w m e c = some (d, q) := by
  rcases DataW.trod_slice ht h with ⟨_, hx⟩ | ⟨a, len, cap, elems, rest, m, _, hcs, hx, _, hl, _, hlen, hel, hsp, _⟩
  · simp at hx
  · simp only [Prod.mk.injEq, DataW.slice.injEq] at hx
    obtain ⟨⟨rfl, hr⟩, _⟩ := hx
    have hr0 : rest = [] := by simpa using hr.symm
    have hcap := (hsp rfl).1
    rw [hr0] at hcap
    have ec : cap = len := by simp at hcap; omega
    have el : (elems.map (·.1)).length = len := by simpa using hlen
    refine ⟨a, by rw [el, hcs, ec], fun i d hd => ?_⟩
    have hi : i < len := by rw [← el]; exact (List.getElem?_eq_some_iff.1 hd).1
    have hE := hel i hi
    rw [hc] at hE
    rw [List.getElem?_map] at hd
    simp only [Option.map_eq_some_iff] at hd
    obtain ⟨y, hy, rfl⟩ := hd
    rw [hy] at hE
    simp only [Option.bind_eq_some_iff] at hE
    obtain ⟨c1, hc1, hy1⟩ := hE
    exact ⟨c1, m, y.2, hc1, hy1⟩
theorem rd_array {w : World} {fuel : Nat} {t e : TypeId} {n k : Nat} {cs : List Value} {ds : List (DataW Unit)} {p : List MemPlace} (ht : Tryz.prog.underlying t = some (.array n e)) (hc : Tryz.prog.cellsOf e = k) (h : rdT w fuel t cs = some (.agg ds, p)) :
    ds.length = n ∧ ∀ (i : Nat) (d : DataW Unit), ds[i]? = some d → ∃ m q, rdT w m e ((cs.drop (i * k)).take k) = some (d, q) := by
  cases fuel with
  | zero => simp [rdT, DataW.trod] at h
  | succ m =>
    simp only [rdT, DataW.trod, ht, hc] at h
    split at h
    · obtain ⟨xs, hm, hx⟩ := Option.map_eq_some_iff.1 h
      simp only [Prod.mk.injEq, DataW.agg.injEq] at hx
      have hl : xs.length = n := by simpa using mapM_some_length hm
      refine ⟨by rw [← hx.1]; simpa using hl, fun i d hd => ?_⟩
      rw [← hx.1] at hd
      simp only [List.getElem?_map, Option.map_eq_some_iff] at hd
      obtain ⟨y, hy, rfl⟩ := hd
      have hi : i < n := by rw [← hl]; exact (List.getElem?_eq_some_iff.1 hy).1
      have := mapM_some_get hm i i (by simp [hi])
      rw [hy] at this
      exact ⟨m, y.2, this⟩
    · cases h

/-! ### The tables themselves -/
def cdT (k : Nat) : Nat := (Pinned.cheatRows.getD k (0, [])).1
def csT (k : Nat) : ByteArray := ⟨(Pinned.cheatRows.getD k (0, [])).2.toArray⟩
def phT (k : Nat) : Nat := (Pinned.pow10Rows.getD k (0, 0)).1
def plT (k : Nat) : Nat := (Pinned.pow10Rows.getD k (0, 0)).2
def flit : DataW Unit → Nat
  | .lit (.float _ b) => b
  | _ => 0
def slits : DataW Unit → List (DataW Unit)
  | .slice l _ => l
  | _ => []
def pfT (i : Nat) : Nat := flit ((slits Rows.laid_internal_strconv_float64pow10).getD i .nil)
def NZb (x : Nat) : Bool := match Ieee.double.read x with
  | .number _ n _ => n != 0
  | _ => false
theorem NZ_of {x : Nat} (h : NZb x = true) : NZ x := by
  unfold NZb at h
  split at h
  · rename_i s n j e
    exact ⟨s, n, j, e, by simpa using h⟩
  · cases h
theorem pfT_NZ : ∀ i, i < 23 → NZ (pfT i) := fun i hi => NZ_of ((show ∀ i, i < 23 → NZb (pfT i) = true by decide +kernel) i hi)
def cheatB (k dl L : Nat) (C : Nat → Nat) : Bool :=
  (List.range L).all (fun i => decide (48 ≤ C i ∧ C i ≤ 57)) && decide (dval C L = 5 ^ k) && decide (C (L - 1) ≠ 48) && decide (dl + L = k + 1) && decide (0 < L) && decide (10 ^ (L - 1) < 5 ^ k) && decide (5 ^ k < 10 ^ L)
theorem cheat_of {k dl L : Nat} {C : Nat → Nat} (h : cheatB k dl L C = true) : Cheat k dl L C := by
  unfold cheatB at h
  simp only [Bool.and_eq_true, decide_eq_true_eq, List.all_eq_true, List.mem_range] at h
  obtain ⟨⟨⟨⟨⟨⟨h1, h2⟩, h3⟩, h4⟩, h5⟩, h6⟩, h7⟩ := h
  exact ⟨fun i hi => h1 i hi, h2, fun _ => h3, h4, h5, h6, h7⟩
theorem cheatsT : Cheats cdT csT := fun k h1 h60 => cheat_of ((show ∀ k, k < 61 → 1 ≤ k → cheatB k (cdT k) (csT k).size (bt (csT k)) = true by decide +kernel) k (by omega) h1)
theorem pow_lt : ∀ x ∈ Pinned.pow10Rows, x.1 < 18446744073709551616 ∧ x.2 < 18446744073709551616 := by decide +kernel
theorem getD_lt (k : Nat) : (Pinned.pow10Rows.getD k (0, 0)).1 < 18446744073709551616 ∧ (Pinned.pow10Rows.getD k (0, 0)).2 < 18446744073709551616 := by
  rw [List.getD_eq_getElem?_getD]
  rcases h : Pinned.pow10Rows[k]? with _ | x
  · simp
  · exact pow_lt x (List.mem_of_getElem? h)
theorem phT_lt (k : Nat) : phT k < 18446744073709551616 := (getD_lt k).1
theorem plT_lt (k : Nat) : plT k < 18446744073709551616 := (getD_lt k).2
theorem map_at {α β : Type} {f : α → β} {l : List α} {z : α} {i : Nat} (hi : i < l.length) : (l.map f)[i]? = some (f (l.getD i z)) := by
  rw [List.getElem?_map, List.getElem?_eq_getElem hi, List.getD_eq_getElem?_getD, List.getElem?_eq_getElem hi]
  rfl
theorem cheat_len : Pinned.cheatRows.length = 61 := by decide +kernel
theorem pow_len : Pinned.pow10Rows.length = 696 := by decide +kernel
theorem add_at {a : Addr} (x o n : Nat) (h : a = ⟨x, o, none⟩) : a.add n = ⟨x, o + n, none⟩ := by
  subst h
  unfold Addr.add
  split
  · rename_i h; subst h; rfl
  · rfl
/-- What a row lists, as a walk reads it. -/
structure TL (x off y off2 z off3 B : Nat) (w : World) : Prop where
  tt : TT cdT csT x off y off2 pfT z off3 phT plT B w
  e2 : ∃ te pe, w.cell? ⟨2, 0, none⟩ = some (.iface te pe)
  e3 : ∃ te pe, w.cell? ⟨3, 0, none⟩ = some (.iface te pe)
theorem TL.keep {x off y off2 z off3 B : Nat} {w w' : World} (h : TL x off y off2 z off3 B w) (k : Below B w w') : TL x off y off2 z off3 B w' := by
  have hlo := h.tt.tf.tb.lo
  obtain ⟨t2, p2, h2⟩ := h.e2
  obtain ⟨t3, p3, h3⟩ := h.e3
  exact ⟨h.tt.keep k, ⟨t2, p2, by rw [k.cell (by simp; omega)]; exact h2⟩, ⟨t3, p3, by rw [k.cell (by simp; omega)]; exact h3⟩⟩
theorem TL.mono {x off y off2 z off3 B B2 : Nat} {w : World} (h : TL x off y off2 z off3 B w) (k : B ≤ B2) : TL x off y off2 z off3 B2 w := ⟨h.tt.mono k, h.e2, h.e3⟩
theorem cheats_laid {W : World} (h : laidMet Tryz.prog Rows.lexTokensUptoRow.laid W) : ∃ x off, W.cell? ⟨13, 0, none⟩ = some (.slice (some ⟨x, off, none⟩) 61 61) ∧ (∀ k, k ≤ 60 → W.cell? ⟨x, off + k * 2, none⟩ = some (.int .i64 (cdT k : Nat))) ∧ ∀ k, k ≤ 60 → W.cell? ⟨x, off + k * 2 + 1, none⟩ = some (.string (csT k)) := by
  obtain ⟨cs, fuel, p, hc, hr⟩ := laid_cells h 12 (n := "internal/strconv.leftcheats") (d := Pinned.leftcheats) rfl (g := 13) (t := 208) (by kernel_rfl) (by kernel_rfl)
  obtain ⟨a, rfl, hat⟩ := rd_slice (e := 207) (n := 2) (by kernel_rfl) (by kernel_rfl) (show rdT W fuel 208 cs = some (.slice (Pinned.cheatRows.map fun x => .agg [.lit (.int .i64 x.1), .lit (.string x.2)]) [], p) from hr)
  rw [List.length_map, cheat_len] at hc
  have key : ∀ k, k ≤ 60 → W.cell? (a.add (k * 2)) = some (.int .i64 (cdT k : Nat)) ∧ W.cell? ((a.add (k * 2)).add 1) = some (.string (csT k)) := fun k hk => by
    obtain ⟨c, m, q, hcc, hrr⟩ := hat k _ (map_at (z := (0, [])) (by rw [cheat_len]; omega))
    obtain ⟨v, u, rfl, hv, hu⟩ := cells2 hcc
    obtain ⟨_, _, hs⟩ := rd_struct (ts := [3, 9]) (by kernel_rfl) hrr
    obtain ⟨v', m1, q1, e1, r1⟩ := hs 0 3 _ rfl rfl
    obtain ⟨u', m2, q2, e2, r2⟩ := hs 1 9 _ rfl rfl
    simp only [List.getElem?_cons_zero, List.getElem?_cons_succ, Option.some.injEq] at e1 e2
    subst e1 e2
    have i1 := rd_int (k := .i64) (by kernel_rfl) r1
    have i2 := rd_str (by kernel_rfl) r2
    simp only [List.cons.injEq, and_true] at i1 i2
    rw [hv, hu, i1, i2]
    exact ⟨rfl, rfl⟩
  have ha := cell_spot (key 0 (by omega)).1
  have ha : a = ⟨a.block, a.off, none⟩ := by simpa [Addr.add] using ha
  refine ⟨a.block, a.off, ?_, fun k hk => ?_, fun k hk => ?_⟩
  · rw [hc 0, ← ha]; rfl
  · have := (key k hk).1
    rwa [add_at a.block a.off _ ha] at this
  · have := (key k hk).2
    rwa [add_at a.block a.off _ ha, add_at a.block (a.off + k * 2) 1 rfl] at this
theorem powtab_laid {W : World} (h : laidMet Tryz.prog Rows.lexTokensUptoRow.laid W) : ∃ x off, W.cell? ⟨10, 0, none⟩ = some (.slice (some ⟨x, off, none⟩) 9 9) ∧ ∀ k, k < 9 → W.cell? ⟨x, off + k, none⟩ = some (.int .i64 (powt k : Nat)) := by
  obtain ⟨cs, fuel, p, hc, hr⟩ := laid_cells h 5 (n := "internal/strconv.powtab") (d := Rows.laid_internal_strconv_powtab) rfl (g := 10) (t := 191) (by kernel_rfl) (by kernel_rfl)
  obtain ⟨a, rfl, hat⟩ := rd_slice (e := 3) (n := 1) (by kernel_rfl) (by kernel_rfl) (show rdT W fuel 191 cs = some (.slice (([1, 3, 6, 9, 13, 16, 19, 23, 26] : List Int).map fun x => .lit (.int .i64 x)) [], p) from hr)
  have key : ∀ k, k < 9 → W.cell? (a.add k) = some (.int .i64 (powt k : Nat)) := fun k hk => by
    obtain ⟨c, m, q, hcc, hrr⟩ := hat k _ (map_at (z := 0) (by simpa using hk))
    obtain ⟨v, rfl, hv⟩ := cells1 hcc
    have i1 := rd_int (k := .i64) (by kernel_rfl) hrr
    simp only [List.cons.injEq, and_true] at i1
    rw [Nat.mul_one] at hv
    rw [hv, i1]
    have : ∀ k, k < 9 → (([1, 3, 6, 9, 13, 16, 19, 23, 26] : List Int).getD k 0) = (powt k : Nat) := by decide +kernel
    rw [this k hk]
  have ha := cell_spot (key 0 (by omega))
  have ha : a = ⟨a.block, a.off, none⟩ := by simpa [Addr.add] using ha
  refine ⟨a.block, a.off, ?_, fun k hk => ?_⟩
  · rw [hc 0, ← ha]; rfl
  · have := key k hk
    rwa [add_at a.block a.off _ ha] at this
def pfL : List Nat := (slits Rows.laid_internal_strconv_float64pow10).map flit
theorem pf_form : (Rows.laid_internal_strconv_float64pow10 : DataW Unit) = .slice (pfL.map fun b => .lit (.float .f64 b)) [] := rfl
theorem pow64_laid {W : World} (h : laidMet Tryz.prog Rows.lexTokensUptoRow.laid W) : ∃ x off, W.cell? ⟨11, 0, none⟩ = some (.slice (some ⟨x, off, none⟩) 23 23) ∧ ∀ k, k < 23 → W.cell? ⟨x, off + k, none⟩ = some (.float .f64 (pfT k)) := by
  obtain ⟨cs, fuel, p, hc, hr⟩ := laid_cells h 6 (n := "internal/strconv.float64pow10") (d := Rows.laid_internal_strconv_float64pow10) rfl (g := 11) (t := 192) (by kernel_rfl) (by kernel_rfl)
  rw [pf_form] at hr
  obtain ⟨a, rfl, hat⟩ := rd_slice (e := 76) (n := 1) (by kernel_rfl) (by kernel_rfl) hr
  have hl : pfL.length = 23 := by decide +kernel
  rw [List.length_map, hl] at hc
  have key : ∀ k, k < 23 → W.cell? (a.add k) = some (.float .f64 (pfT k)) := fun k hk => by
    obtain ⟨c, m, q, hcc, hrr⟩ := hat k _ (map_at (z := 0) (by rw [hl]; exact hk))
    obtain ⟨v, rfl, hv⟩ := cells1 hcc
    have i1 := rd_float (by kernel_rfl) hrr
    simp only [List.cons.injEq, and_true] at i1
    rw [Nat.mul_one] at hv
    rw [hv, i1]
    have : ∀ k, k < 23 → pfL.getD k 0 = pfT k := by decide +kernel
    rw [this k hk]
  have ha := cell_spot (key 0 (by omega))
  have ha : a = ⟨a.block, a.off, none⟩ := by simpa [Addr.add] using ha
  refine ⟨a.block, a.off, ?_, fun k hk => ?_⟩
  · rw [hc 0, ← ha]; rfl
  · have := key k hk
    rwa [add_at a.block a.off _ ha] at this
theorem info_laid {W : World} (h : laidMet Tryz.prog Rows.lexTokensUptoRow.laid W) : W.cell? ⟨8, 0, none⟩ = some (.int .u64 52) ∧ W.cell? ⟨8, 1, none⟩ = some (.int .u64 11) ∧ W.cell? ⟨8, 2, none⟩ = some (.int .i64 (-1023)) := by
  obtain ⟨cs, fuel, p, hc, hr⟩ := laid_cells h 3 (n := "internal/strconv.float64info") (d := Rows.laid_internal_strconv_float64info) rfl (g := 8) (t := 150) (by kernel_rfl) (by kernel_rfl)
  obtain ⟨_, _, hs⟩ := rd_struct (ts := [106, 106, 3]) (by kernel_rfl) (show rdT W fuel 150 cs = some (.agg [.lit (.int .u64 52), .lit (.int .u64 11), .lit (.int .i64 (-1023))], p) from hr)
  obtain ⟨v0, m0, q0, e0, r0⟩ := hs 0 106 _ rfl rfl
  obtain ⟨v1, m1, q1, e1, r1⟩ := hs 1 106 _ rfl rfl
  obtain ⟨v2, m2, q2, e2, r2⟩ := hs 2 3 _ rfl rfl
  have i0 := rd_int (k := .u64) (by kernel_rfl) r0
  have i1 := rd_int (k := .u64) (by kernel_rfl) r1
  have i2 := rd_int (k := .i64) (by kernel_rfl) r2
  simp only [List.cons.injEq, and_true] at i0 i1 i2
  exact ⟨by rw [hc, e0, i0], by rw [hc, e1, i1], by rw [hc, e2, i2]⟩
theorem opt_laid {W : World} (h : laidMet Tryz.prog Rows.lexTokensUptoRow.laid W) : W.cell? ⟨7, 0, none⟩ = some (.bool true) := by
  obtain ⟨cs, fuel, p, hc, hr⟩ := laid_cells h 4 (n := "internal/strconv.optimize") (d := Rows.laid_internal_strconv_optimize) rfl (g := 7) (t := 4) (by kernel_rfl) (by kernel_rfl)
  have := rd_bool (by kernel_rfl) (show rdT W fuel 4 cs = some (.lit (.bool true), p) from hr)
  rw [hc, this]; rfl
theorem err_laid {W : World} (h : laidMet Tryz.prog Rows.lexTokensUptoRow.laid W) : (∃ te pe, W.cell? ⟨2, 0, none⟩ = some (.iface te pe)) ∧ ∃ te pe, W.cell? ⟨3, 0, none⟩ = some (.iface te pe) := by
  obtain ⟨cs, fuel, p, hc, hr⟩ := laid_cells h 11 (n := "strconv.ErrSyntax") (d := Rows.laid_strconv_ErrSyntax) rfl (g := 2) (t := 78) (by kernel_rfl) (by kernel_rfl)
  obtain ⟨cs', fuel', p', hc', hr'⟩ := laid_cells h 10 (n := "strconv.ErrRange") (d := Rows.laid_strconv_ErrRange) rfl (g := 3) (t := 78) (by kernel_rfl) (by kernel_rfl)
  obtain ⟨ms, hms⟩ : ∃ ms, Tryz.prog.underlying 78 = some (.interface ms) := by
    have : (match Tryz.prog.underlying 78 with | some (.interface _) => true | _ => false) = true := by kernel_rfl
    split at this
    · rename_i ms e; exact ⟨ms, e⟩
    · cases this
  obtain ⟨u, v, rfl⟩ := rd_iface hms (show rdT W fuel 78 cs = some (.iface _ _, p) from hr)
  obtain ⟨u', v', rfl⟩ := rd_iface hms (show rdT W fuel' 78 cs' = some (.iface _ _, p') from hr')
  exact ⟨⟨u, v, by rw [hc]; rfl⟩, ⟨u', v', by rw [hc']; rfl⟩⟩
theorem take_at {cs : List Value} {i j n : Nat} {v : Value} (hj : j < n) (h : ((cs.drop i).take n)[j]? = some v) : cs[i + j]? = some v := by
  rw [List.getElem?_take, if_pos hj, List.getElem?_drop] at h
  exact h
theorem pow10_laid {W : World} (h : laidMet Tryz.prog Rows.lexTokensUptoRow.laid W) : Tp phT plT W := by
  obtain ⟨cs, fuel, p, hc, hr⟩ := laid_cells h 13 (n := "internal/strconv.pow10Tab") (d := Pinned.pow10Tab) rfl (g := 12) (t := 197) (by kernel_rfl) (by kernel_rfl)
  obtain ⟨_, hat⟩ := rd_array (e := 196) (n := 696) (k := 2) (by kernel_rfl) (by kernel_rfl) (show rdT W fuel 197 cs = some (.agg (Pinned.pow10Rows.map fun x => .agg [.lit (.int .u64 x.1), .lit (.int .u64 x.2)]), p) from hr)
  have key : ∀ k, k < 696 → cs[k * 2]? = some (.int .u64 (phT k : Nat)) ∧ cs[k * 2 + 1]? = some (.int .u64 (plT k : Nat)) := fun k hk => by
    obtain ⟨m, q, hrr⟩ := hat k _ (map_at (z := (0, 0)) (by rw [pow_len]; exact hk))
    obtain ⟨hl, _, hs⟩ := rd_struct (ts := [36, 36]) (by kernel_rfl) hrr
    obtain ⟨v', m1, q1, e1, r1⟩ := hs 0 36 _ rfl rfl
    obtain ⟨u', m2, q2, e2, r2⟩ := hs 1 36 _ rfl rfl
    have i1 := rd_int (k := .u64) (by kernel_rfl) r1
    have i2 := rd_int (k := .u64) (by kernel_rfl) r2
    simp only [List.cons.injEq, and_true] at i1 i2
    rw [i1] at e1
    rw [i2] at e2
    exact ⟨take_at (i := k * 2) (j := 0) (n := 2) (by omega) e1, take_at (i := k * 2) (j := 1) (n := 2) (by omega) e2⟩
  exact ⟨phT_lt, plT_lt, fun k hk => by rw [hc]; exact (key k hk).1, fun k hk => by rw [hc]; exact (key k hk).2⟩
/-- The tables that a row hands over. -/
theorem TL_of_laid {W : World} (h : laidMetH Tryz.prog Rows.lexTokensUptoRow.laid W) : ∃ x off y off2 z off3, TL x off y off2 z off3 W.heap.size W := by
  rw [MakeChecks.laidMetH_plain _ _ _ (by kernel_rfl)] at h
  obtain ⟨x, off, a1, a2, a3⟩ := cheats_laid h
  obtain ⟨y, off2, b1, b2⟩ := powtab_laid h
  obtain ⟨z, off3, c1, c2⟩ := pow64_laid h
  obtain ⟨d0, d1, d2⟩ := info_laid h
  have o := opt_laid h
  have e := err_laid h
  have t := pow10_laid h
  have l13 := World.block_lt_of_cell? W _ a1
  have lx := World.block_lt_of_cell? W _ (a2 0 (by omega))
  have ly := World.block_lt_of_cell? W _ (b2 0 (by omega))
  have lz := World.block_lt_of_cell? W _ (c2 0 (by omega))
  exact ⟨x, off, y, off2, z, off3, ⟨⟨⟨l13, lx, a1, a2, a3⟩, ly, d0, d1, d2, b1, b2⟩, ⟨d0, c1, c2⟩, lz, t, o⟩, e.1, e.2⟩
end Go.Proofs.YtajpeeccomgnnaaGreatDoor
/-! strconv.ParseFloat, walked: a real's bits hang on its text alone. -/
namespace Go.Proofs.YtajpeeccomgnnaaGreatDoor
set_option linter.all false
open Go Go.RowKit
set_option maxRecDepth 100000
set_option maxHeartbeats 4000000

theorem atof64_laid (x off y off2 z off3 : Nat) (s : ByteArray) (hC : RC s) (hs : s.size ≤ 200) :
    ∃ f n er, (er = .nilIface ∨ er = .iface 112 (.int .i64 1) ∨ er = .iface 112 (.int .i64 2)) ∧ ∀ w, TL x off y off2 z off3 w.heap.size w →
      Calls Tryz.prog 109 #[.string s] w fun e w' => e = .returned (.tuple #[.float .f64 f, .int .i64 n, er]) ∧ Below w.heap.size w w' := by
  obtain ⟨f, n, er, h1, h2⟩ := atof64_ex cdT csT x off y off2 pfT z off3 phT plT s hC hs cheatsT pfT_NZ phT_lt plT_lt
  exact ⟨f, n, er, h1, fun w h => h2 w h.tt⟩
theorem prefix_laid (x off y off2 z off3 : Nat) (s : ByteArray) (hC : RC s) (hs : s.size ≤ 200) :
    ∃ f n er, (er = .nilIface ∨ er = .iface 112 (.int .i64 1) ∨ er = .iface 112 (.int .i64 2)) ∧ ∀ w, TL x off y off2 z off3 w.heap.size w →
      Calls Tryz.prog 91 #[.string s, .int .i64 64] w fun e w' => e = .returned (.tuple #[.float .f64 f, .int .i64 n, er]) ∧ Below w.heap.size w w' := by
  obtain ⟨f, n, er, h1, h2⟩ := atof64_laid x off y off2 z off3 s hC hs
  have H2 := hid h2
  have H1 := hid h1
  clear h1 h2
  refine ⟨f, n, er, H1.out, fun w h => ?_⟩
  have Ht := hid h
  clear h
  go_enter Tryz.func91, Tryz.ntmps91
  go_wp2_with (go_at_call 109; refine (H2.out _ Ht.out).mono ?_; rintro e w1 ⟨rfl, hb⟩)
  go_ret3
  exact ⟨rfl, hb⟩
theorem inner_laid (x off y off2 z off3 : Nat) (s : ByteArray) (hC : RC s) (hs : s.size ≤ 200) :
    ∃ f er, (er = .nilIface ∨ er = .iface 112 (.int .i64 1) ∨ er = .iface 112 (.int .i64 2)) ∧ ∀ w, TL x off y off2 z off3 w.heap.size w →
      Calls Tryz.prog 76 #[.string s, .int .i64 64] w fun e w' => e = .returned (.tuple #[.float .f64 f, er]) ∧ Below w.heap.size w w' := by
  obtain ⟨f, n, er, h1, h2⟩ := prefix_laid x off y off2 z off3 s hC hs
  have H2 := hid h2
  have H1 := hid h1
  clear h1 h2
  by_cases hn : n = (s.size : Int)
  · have hq : (n != (s.size : Int)) = false := by simp [hn]
    have Hn := hid hn
    clear hn
    refine ⟨f, er, H1.out, fun w h => ?_⟩
    have Ht := hid h
    clear h
    go_enter Tryz.func76, Tryz.ntmps76
    go_wp2_with (go_at_call 91; refine (H2.out _ Ht.out).mono ?_; rintro e w1 ⟨rfl, hb⟩)
    go_ret2
    exact ⟨rfl, hb⟩
  · have hq : (n != (s.size : Int)) = true := by simp [hn]
    have Hn := hid hn
    clear hn
    refine ⟨0, .iface 112 (.int .i64 2), .inr (.inr rfl), fun w h => ?_⟩
    have Ht := hid h
    clear h
    go_enter Tryz.func76, Tryz.ntmps76
    go_wp2_with (go_at_call 91; refine (H2.out _ Ht.out).mono ?_; rintro e w1 ⟨rfl, hb⟩)
    go_ret2
    exact ⟨rfl, hb⟩
theorem float_laid (x off y off2 z off3 : Nat) (s : ByteArray) (hC : RC s) (hs : s.size ≤ 200) :
    ∃ f, ∀ w, TL x off y off2 z off3 w.heap.size w →
      Calls Tryz.prog 55 #[.string s, .int .i64 64] w fun e w' => ∃ er, e = .returned (.tuple #[.float .f64 f, er]) ∧ Below w.heap.size w w' := by
  obtain ⟨f, er, h1, h2⟩ := inner_laid x off y off2 z off3 s hC hs
  have H2 := hid h2
  have HSZ := hid hs
  clear h2 hs
  refine ⟨f, fun w h => ?_⟩
  have Ht := hid h
  clear h
  rcases h1 with rfl | rfl | rfl
  · go_enter Tryz.func55, Tryz.ntmps55
    go_wp2_with (go_at_call 76; refine (H2.out _ Ht.out).mono ?_; rintro e w1 ⟨rfl, hb⟩)
    go_ret2
    exact ⟨_, rfl, hb⟩
  · go_enter Tryz.func55, Tryz.ntmps55
    go_wp2_with (first | (go_at_call 76; refine (H2.out _ Ht.out).mono ?_; rintro e w1 ⟨rfl, hb⟩; obtain ⟨te, pe, hv⟩ := (Ht.out.keep hb).e3) | (go_at_call 77; refine (Tryz.strconv_toError_range _ s 0 64 _ w1 (by have := HSZ.out; omega) hv (.inr ⟨te, pe, rfl⟩)).mono ?_; rintro e w2 ⟨N, rfl, _, _, hb2⟩; have hb3 := hb.trans (hb2.mono hb.size)))
    go_ret2
    exact ⟨_, rfl, hb3⟩
  · go_enter Tryz.func55, Tryz.ntmps55
    go_wp2_with (first | (go_at_call 76; refine (H2.out _ Ht.out).mono ?_; rintro e w1 ⟨rfl, hb⟩; obtain ⟨te, pe, hv⟩ := (Ht.out.keep hb).e2) | (go_at_call 77; refine (Tryz.strconv_toError_syntax _ s 0 64 _ w1 (by have := HSZ.out; omega) hv (.inr ⟨te, pe, rfl⟩)).mono ?_; rintro e w2 ⟨N, rfl, _, _, hb2⟩; have hb3 := hb.trans (hb2.mono hb.size)))
    go_ret2
    exact ⟨_, rfl, hb3⟩
open Classical in
/-- A real's bits. -/
noncomputable def FR (x off y off2 z off3 : Nat) (l : List UInt8) : Nat :=
  if h : RC ⟨l.toArray⟩ ∧ (⟨l.toArray⟩ : ByteArray).size ≤ 200 then Classical.choose (float_laid x off y off2 z off3 ⟨l.toArray⟩ h.1 h.2) else 0
theorem pf_laid {x off y off2 z off3 B : Nat} {w : World} (hBw : B ≤ w.heap.size) (ht : TL x off y off2 z off3 B w) {l : List UInt8} (hC : RC ⟨l.toArray⟩) (hs : l.length ≤ 200) : PF (FR x off y off2 z off3) B w l := by
  intro wx hx
  have hs' : (⟨l.toArray⟩ : ByteArray).size ≤ 200 := by rw [show (⟨l.toArray⟩ : ByteArray).size = l.length by simp [ByteArray.size]]; exact hs
  have h := Classical.choose_spec (float_laid x off y off2 z off3 ⟨l.toArray⟩ hC hs')
  unfold FR
  rw [dif_pos ⟨hC, hs'⟩]
  have hB : B ≤ wx.heap.size := Nat.le_trans hBw hx.size
  exact h wx ((ht.keep hx).mono hB)
/-- What a number is written with. -/
def NumC (c : Nat) : Prop := c = 126 ∨ c = 46 ∨ c = 101 ∨ (48 ≤ c ∧ c ≤ 57)
theorem dig_num {c : Nat} (h : isDig c = true) : NumC c := .inr (.inr (.inr (dig_range h)))
theorem run_num (s : ByteArray) (k j : Nat) (h1 : k ≤ j) (h2 : j < runE isDig s k) : NumC (bt s j) := by
  obtain ⟨m, e, ha, _⟩ := runE_spec (p := isDig) (s := s) dig0 _ k rfl
  have := ha (j - k) (by omega)
  rw [show k + (j - k) = j by omega] at this
  exact dig_num this
theorem num_chars (s : ByteArray) (i : Nat) (j : Nat) (h1 : i ≤ j) (h2 : j < numE s (numF s (numW s i))) : NumC (bt s j) := by
  rcases Nat.lt_or_ge j (numW s i) with c | c
  · unfold numW at c
    by_cases q : bt s i = 126
    · rw [if_pos q] at c
      rcases Nat.eq_or_lt_of_le h1 with e | e
      · rw [← e]; exact .inl q
      · exact run_num s (i + 1) j e c
    · rw [if_neg q] at c
      exact run_num s i j h1 c
  generalize numW s i = a at *
  rcases Nat.lt_or_ge j (numF s a) with d | d
  · unfold numF at d
    split at d
    · rename_i q
      rcases Nat.eq_or_lt_of_le c with e | e
      · rw [← e]; exact .inr (.inl q.1)
      · exact run_num s (a + 1) j e d
    · omega
  generalize numF s a = b at *
  unfold numE at h2
  split at h2
  · rename_i q
    split at h2
    · rename_i g
      rcases Nat.eq_or_lt_of_le d with e | e
      · rw [← e]; exact .inr (.inr (.inl q))
      · unfold numX at h2
        split at h2
        · rename_i u
          rcases Nat.eq_or_lt_of_le e with v | v
          · rw [← v]; exact .inl u
          · exact run_num s (b + 2) j v h2
        · exact run_num s (b + 1) j e h2
    · omega
  · omega
theorem real_RC (s : ByteArray) (i : Nat) (hk : numE s (numF s (numW s i)) ≤ s.size) : RC ⟨(realT (sub s i (numE s (numF s (numW s i))))).toArray⟩ := by
  intro j hj
  have hl : j < numE s (numF s (numW s i)) - i := by
    have : (⟨(realT (sub s i (numE s (numF s (numW s i))))).toArray⟩ : ByteArray).size = numE s (numF s (numW s i)) - i := by
      show (realT _).toArray.size = _
      rw [List.size_toArray, realT_len, sub_ln hk]
    omega
  have hc := num_chars s i (i + j) (by omega) (by omega)
  have e : bt ⟨(realT (sub s i (numE s (numF s (numW s i))))).toArray⟩ j = if bt s (i + j) = 126 then 45 else bt s (i + j) := by
    unfold bt realT
    show (((sub s i (numE s (numF s (numW s i)))).map fun c => if c = 126 then 45 else c)[j]?.getD 0).toNat = _
    rw [List.getElem?_map, sub_get hk, if_pos hl]
    have hi : i + j < s.data.toList.length := by rw [← Lib.size_eq]; omega
    rw [List.getElem?_eq_getElem hi]
    simp only [Option.map_some, Option.getD_some]
    generalize s.data.toList[i + j] = c
    by_cases q : c = 126
    · subst q; rfl
    · have q' : ¬ c.toNat = 126 := fun h => q (UInt8.toNat_inj.mp h)
      rw [if_neg q, if_neg q']
  rw [e]
  rcases hc with c | c | c | c
  · rw [if_pos c]; exact .inl rfl
  · rw [if_neg (by omega)]; exact .inr (.inl c)
  · rw [if_neg (by omega)]; exact .inr (.inr (.inl c))
  · rw [if_neg (by omega)]; exact .inr (.inr (.inr c))
theorem pfs_laid {x off y off2 z off3 B : Nat} {w : World} (hBw : B ≤ w.heap.size) (ht : TL x off y off2 z off3 B w) (s : ByteArray) : PFs (FR x off y off2 z off3) B w s := by
  intro i hd hne hl
  have hi : i < s.size := by
    rcases hd with h | h
    · exact dig_in h
    · have := dig_in h.2; omega
  have hW : numW s i ≤ s.size := by
    unfold numW
    split
    · rename_i q
      rcases hd with h | h
      · have := dig_range h; omega
      · exact runE_size (by have := dig_in h.2; omega)
    · exact runE_size (by omega)
  have hk := (numE_le (numF_le hW).2).2
  refine pf_laid hBw ht (real_RC s i hk) ?_
  rw [realT_len, sub_ln hk]
  omega
end Go.Proofs.YtajpeeccomgnnaaGreatDoor
