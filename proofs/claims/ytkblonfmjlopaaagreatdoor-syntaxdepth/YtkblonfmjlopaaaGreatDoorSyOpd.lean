/-
  find, walked.
-/
import Derived.Test.YtkblonfmjlopaaaGreatDoorRegTIn
import Derived.Test.YtkblonfmjlopaaaGreatDoorLxTok
import Derived.Test.YtkblonfmjlopaaaGreatDoorSyE
set_option linter.all false
set_option maxRecDepth 1000000
set_option maxHeartbeats 16000000
namespace Go.Proofs.YtkblonfmjlopaaaGreatDoor
section
open Go Go.RowKit Go.Shelf
attribute [local go_sem] Oper.semAt_some
def FRet (k : Nat) (sc : List Fx) (nm : List UInt8) {m : Nat} (pre : List (Ix m)) (W : World) : Prop :=
  ∃ ini last f, pre = ini ++ [last] ∧ (∀ x ∈ ini, nmAt sc x.1 ≠ nm) ∧ sc[last.1]? = some f ∧ f.name = nm ∧ W.cell? ⟨k, 0, none⟩ = some (.int .i64 f.level) ∧ W.cell? ⟨k, 1, none⟩ = some (.bool f.right) ∧ W.cell? ⟨k + 1, 0, none⟩ = some (.bool (decide (0 ≤ f.level)))
theorem find_some (b o B : Nat) (na : Option Addr) (nc : Nat) (fa : Option Addr) (fc : Nat) (sc : List Fx) (nm : List UInt8) (m : Nat) (w : World) (hl : sc.length = m + 1) (hm : m ≤ 1099511627776) (hs : Scp w B na nc fa fc sc)
    (c3 : w.cell? ⟨b, o, none⟩ = some (.slice na (m + 1) nc)) (c4 : w.cell? ⟨b, o + 1, none⟩ = some (.slice fa (m + 1) fc)) :
    Calls Tryz.prog 134 #[.pointer (some ⟨b, o, none⟩), .string ⟨nm.toArray⟩] w fun e w' => e = .returned (.tuple #[.agg #[.int .i64 (fxV sc nm).1, .bool (fxV sc nm).2.1], .bool (fxV sc nm).2.2]) ∧ Below w.heap.size w w' := by
  obtain ⟨hn, hf, An, Af, _, _, hv⟩ := hs; obtain ⟨xb, xo, rfl, hx⟩ := An.addr (by have := An.le; omega); obtain ⟨yb, yo, rfl, hy⟩ := Af.addr (by have := Af.le; omega)
  have hxc : ∀ j, j < m + 1 → w.cell? ⟨xb, xo + j, none⟩ = some (.string ⟨(nmAt sc j).toArray⟩) := fun j hj => by
    have h1 := (hv j _ (List.getElem?_eq_getElem (by omega))).1; rw [hx j (by have := An.le; omega), h1]; unfold nmAt; rw [List.getElem?_eq_getElem (by omega)]; rfl
  have hyc : ∀ j (hj : j < m + 1), w.cell? ⟨yb, yo + j * 2, none⟩ = some (.int .i64 (sc[j]'(by omega)).level) ∧ w.cell? ⟨yb, yo + j * 2 + 1, none⟩ = some (.bool (sc[j]'(by omega)).right) := fun j hj => by
    have h1 := hv j _ (List.getElem?_eq_getElem (by omega)); have h2 := Af.le; refine ⟨?_, ?_⟩
    · rw [Nat.mul_comm j 2, hy (2 * j) (by omega), h1.2.1]
    · rw [Nat.mul_comm j 2, Nat.add_assoc, hy (2 * j + 1) (by omega), h1.2.2]
  have hbw : b < w.heap.size := World.block_lt_of_cell? w _ c3; have hxw : xb < w.heap.size := World.block_lt_of_cell? w _ (hxc 0 (by omega)); have hyw : yb < w.heap.size := World.block_lt_of_cell? w _ (hyc 0 (by omega)).1; have hB4 : Below w.heap.size w ((((w.alloc (.cells #[.pointer (some ⟨b, o, none⟩)] 126)).alloc (.cells #[.string ⟨nm.toArray⟩] 9)).alloc (.cells #[.int .i64 0, .bool false] 66)).alloc (.cells #[.bool false] 4)) := (((below_alloc w _).alloc (by simp) _).alloc (by simp; omega) _).alloc (by simp; omega) _; have d3 := (hB4.cell (p := ⟨b, o, none⟩) hbw).trans c3; have HXC := hid hxc; have HYC := hid hyc; clear hx hy hv An Af hxc hyc; refine (callsIn_wide (n := 4)).1 ?_; refine callsIn_of_wp_marks Tryz.func134 rfl trivial ?_ rfl; simp only [Tryz.ntmps134, List.size_toArray, List.length_cons, List.length_nil, Nat.reduceAdd, Nat.reduceSub, Array.replicate_succ, Array.replicate_zero, List.push_toArray, List.append_toArray, List.nil_append, List.cons_append]
  gi_wp2_with (refine ⟨trivial, ?_⟩; gi_at_call 168; refine (back_in Fence.wide 3 trivial rfl _ _ _ _).mono ?_; rintro e w' ⟨rfl, rfl⟩)
  have hB5 : Below w.heap.size w (((((w.alloc (.cells #[.pointer (some ⟨b, o, none⟩)] 126)).alloc (.cells #[.string ⟨nm.toArray⟩] 9)).alloc (.cells #[.int .i64 0, .bool false] 66)).alloc (.cells #[.bool false] 4)).alloc (.cells #[.slice (some ⟨xb, xo, none⟩) (m + 1) nc] 33)) := hB4.alloc hB4.size _
  have hI0 : ((((((w.alloc (.cells #[.pointer (some ⟨b, o, none⟩)] 126)).alloc (.cells #[.string ⟨nm.toArray⟩] 9)).alloc (.cells #[.int .i64 0, .bool false] 66)).alloc (.cells #[.bool false] 4)).alloc (.cells #[.slice (some ⟨xb, xo, none⟩) (m + 1) nc] 33)).cell? ⟨w.heap.size, 0, none⟩ = some (.pointer (some ⟨b, o, none⟩)) ∧ (((((w.alloc (.cells #[.pointer (some ⟨b, o, none⟩)] 126)).alloc (.cells #[.string ⟨nm.toArray⟩] 9)).alloc (.cells #[.int .i64 0, .bool false] 66)).alloc (.cells #[.bool false] 4)).alloc (.cells #[.slice (some ⟨xb, xo, none⟩) (m + 1) nc] 33)).cell? ⟨w.heap.size + 1, 0, none⟩ = some (.string ⟨nm.toArray⟩) ∧ (((((w.alloc (.cells #[.pointer (some ⟨b, o, none⟩)] 126)).alloc (.cells #[.string ⟨nm.toArray⟩] 9)).alloc (.cells #[.int .i64 0, .bool false] 66)).alloc (.cells #[.bool false] 4)).alloc (.cells #[.slice (some ⟨xb, xo, none⟩) (m + 1) nc] 33)).cell? ⟨w.heap.size + 1 + 1, 0, none⟩ = some (.int .i64 0) ∧ (((((w.alloc (.cells #[.pointer (some ⟨b, o, none⟩)] 126)).alloc (.cells #[.string ⟨nm.toArray⟩] 9)).alloc (.cells #[.int .i64 0, .bool false] 66)).alloc (.cells #[.bool false] 4)).alloc (.cells #[.slice (some ⟨xb, xo, none⟩) (m + 1) nc] 33)).cell? ⟨w.heap.size + 1 + 1, 1, none⟩ = some (.bool false) ∧ (((((w.alloc (.cells #[.pointer (some ⟨b, o, none⟩)] 126)).alloc (.cells #[.string ⟨nm.toArray⟩] 9)).alloc (.cells #[.int .i64 0, .bool false] 66)).alloc (.cells #[.bool false] 4)).alloc (.cells #[.slice (some ⟨xb, xo, none⟩) (m + 1) nc] 33)).cell? ⟨w.heap.size + 1 + 1 + 1, 0, none⟩ = some (.bool false) ∧ (((((w.alloc (.cells #[.pointer (some ⟨b, o, none⟩)] 126)).alloc (.cells #[.string ⟨nm.toArray⟩] 9)).alloc (.cells #[.int .i64 0, .bool false] 66)).alloc (.cells #[.bool false] 4)).alloc (.cells #[.slice (some ⟨xb, xo, none⟩) (m + 1) nc] 33)).frozen? ⟨w.heap.size + 1 + 1, 0, none⟩ = false ∧ (((((w.alloc (.cells #[.pointer (some ⟨b, o, none⟩)] 126)).alloc (.cells #[.string ⟨nm.toArray⟩] 9)).alloc (.cells #[.int .i64 0, .bool false] 66)).alloc (.cells #[.bool false] 4)).alloc (.cells #[.slice (some ⟨xb, xo, none⟩) (m + 1) nc] 33)).frozen? ⟨w.heap.size + 1 + 1, 1, none⟩ = false ∧ (((((w.alloc (.cells #[.pointer (some ⟨b, o, none⟩)] 126)).alloc (.cells #[.string ⟨nm.toArray⟩] 9)).alloc (.cells #[.int .i64 0, .bool false] 66)).alloc (.cells #[.bool false] 4)).alloc (.cells #[.slice (some ⟨xb, xo, none⟩) (m + 1) nc] 33)).frozen? ⟨w.heap.size + 1 + 1 + 1, 0, none⟩ = false) := by
    simp [go_sem]
  have hbs : (((((w.alloc (.cells #[.pointer (some ⟨b, o, none⟩)] 126)).alloc (.cells #[.string ⟨nm.toArray⟩] 9)).alloc (.cells #[.int .i64 0, .bool false] 66)).alloc (.cells #[.bool false] 4)).alloc (.cells #[.slice (some ⟨xb, xo, none⟩) (m + 1) nc] 33)).cell? ⟨w.heap.size + 1 + 1 + 1 + 1, 0, none⟩ = some (.slice (some ⟨xb, xo, none⟩) (m + 1) nc) := by simp [go_sem]
  have hsz : (((((w.alloc (.cells #[.pointer (some ⟨b, o, none⟩)] 126)).alloc (.cells #[.string ⟨nm.toArray⟩] 9)).alloc (.cells #[.int .i64 0, .bool false] 66)).alloc (.cells #[.bool false] 4)).alloc (.cells #[.slice (some ⟨xb, xo, none⟩) (m + 1) nc] 33)).heap.size = w.heap.size + 5 := by simp
  obtain ⟨W0, hW0⟩ : ∃ W0, ((((w.alloc (.cells #[.pointer (some ⟨b, o, none⟩)] 126)).alloc (.cells #[.string ⟨nm.toArray⟩] 9)).alloc (.cells #[.int .i64 0, .bool false] 66)).alloc (.cells #[.bool false] 4)).alloc (.cells #[.slice (some ⟨xb, xo, none⟩) (m + 1) nc] 33) = W0 := ⟨_, rfl⟩; rw [hW0] at hB5 hI0 hbs hsz ⊢; clear hW0 hB4 d3
  refine wpIn_rangeFunc_ownG (α := Ix m) rfl (by omega) (gf := 190) (lb := #[.pointer (some ⟨w.heap.size + 1 + 1 + 1 + 1, 0, none⟩)]) rfl trivial (enters_of Tryz.func190 (by kernel_rfl) rfl)
    (back_stops Fence.wide 3 trivial rfl (by omega) (w.heap.size + 1 + 1 + 1 + 1) (w.heap.size + 5) xb xo m nc (fun j => ⟨(nmAt sc j).toArray⟩) hm W0 (by omega) (by omega) (by omega) ?hbn hbs (fun j hj => (hB5.cell (p := ⟨xb, xo + j, none⟩) hxw).trans (HXC.out j hj))) belowK_t (belowK_b (by omega)) (Below.refl _ _) (fun _ => rfl)
    (fun pre W => ((∀ x ∈ pre, nmAt sc x.1 ≠ nm) ∧ W.cell? ⟨w.heap.size, 0, none⟩ = some (.pointer (some ⟨b, o, none⟩)) ∧ W.cell? ⟨w.heap.size + 1, 0, none⟩ = some (.string ⟨nm.toArray⟩) ∧ W.cell? ⟨w.heap.size + 1 + 1, 0, none⟩ = some (.int .i64 0) ∧ W.cell? ⟨w.heap.size + 1 + 1, 1, none⟩ = some (.bool false) ∧ W.cell? ⟨w.heap.size + 1 + 1 + 1, 0, none⟩ = some (.bool false) ∧ W.frozen? ⟨w.heap.size + 1 + 1, 0, none⟩ = false ∧ W.frozen? ⟨w.heap.size + 1 + 1, 1, none⟩ = false ∧ W.frozen? ⟨w.heap.size + 1 + 1 + 1, 0, none⟩ = false) ∧ Below w.heap.size w W)
    (fun c pre W => (c = .ret ∧ FRet (w.heap.size + 1 + 1) sc nm pre W) ∧ Below w.heap.size w W)
    (OwnFrom.and (Own.from (fun s A B row hs hg hr => ?hI) _) (ownFrom_below (Nat.le_refl _) (by omega)))
    (fun c => OwnFrom.and (Own.from (fun s A B row hs hg hr => by obtain ⟨hc, ini, last, f, e1, e2, e3, e4, e5, e6, e7⟩ := hs; exact ⟨hc, ini, last, f, e1, e2, e3, e4, cell_kept e5 hg hr, cell_kept e6 hg hr, cell_kept e7 hg hr⟩) _) (ownFrom_below (Nat.le_refl _) (by omega)))
    ⟨⟨by simp, hI0⟩, hB5⟩
    (fun x => { tmps := #[.pointer (some ⟨b, o, none⟩), .string ⟨nm.toArray⟩, .pointer (some ⟨w.heap.size, 0, none⟩), .pointer (some ⟨w.heap.size + 1, 0, none⟩), .pointer (some ⟨w.heap.size + 1 + 1, 0, none⟩), .pointer (some ⟨w.heap.size + 1 + 1 + 1, 0, none⟩), .int .i64 (x.1 : Int), .string ⟨(nmAt sc x.1).toArray⟩, .pointer (some ⟨b, o, none⟩), .pointer (some ⟨b, o, none⟩), .pointer (some ⟨b, o, none⟩), .slice (some ⟨xb, xo, none⟩) (m + 1) nc, .func (.func 190) #[] #[.pointer (some ⟨w.heap.size + 1 + 1 + 1 + 1, 0, none⟩)], .int .i64 (x.1 : Int), .string ⟨(nmAt sc x.1).toArray⟩, undef, undef, undef, undef, undef, undef, undef, undef, undef, undef, undef, undef, undef, undef, undef, undef, undef, undef, undef, undef], defers := [] }) ?assign ?body ?done ?stop
  case hbn => omega
  case hI =>
    obtain ⟨h0, h1, h2, h3, h4, h5, h6, h7, h8⟩ := hs; exact ⟨h0, cell_kept h1 hg hr, cell_kept h2 hg hr, cell_kept h3 hg hr, cell_kept h4 hg hr, cell_kept h5 hg hr, (frozen_kept h3 hg hr).trans h6, (frozen_kept h4 hg hr).trans h7, (frozen_kept h5 hg hr).trans h8⟩
  case assign =>
    intro l x W K hK
    gi_wp2
    exact hK
  case body =>
    rintro l pre x W ⟨⟨hp, h1, h2, h3, h4, h5, h6, h7, h8⟩, hB⟩ _; obtain ⟨j, hj⟩ := x; have hy := HYC.out j hj; have hyb : ∀ o, W.cell? ⟨yb, o, none⟩ = w.cell? ⟨yb, o, none⟩ := fun o => hB.cell (p := ⟨yb, o, none⟩) hyw; have d4 := (hB.cell (p := ⟨b, o + 1, none⟩) hbw).trans c4; have y0 := (hyb _).trans hy.1; have y1 := (hyb _).trans hy.2; clear hyb hy
    by_cases hx : nmAt sc j = nm
    · have HX := hid hx; have HP := hid hp; have hq : (nmAt sc j == nm) = true := by simpa using hx
      have hjl : (j : Int) < (m : Int) + 1 := by omega
      have hj0 : (0 : Int) ≤ (j : Int) := by omega
      clear hx hp
      gi_wp2
      refine region_I (S := fun wx => wx.cell? ⟨w.heap.size, 0, none⟩ = some (.pointer (some ⟨b, o, none⟩)) ∧ wx.cell? ⟨b, o + 1, none⟩ = some (.slice (some ⟨yb, yo, none⟩) (m + 1) fc) ∧ wx.cell? ⟨yb, yo + j * 2, none⟩ = some (.int .i64 (sc[j]'(by omega)).level) ∧ wx.cell? ⟨yb, yo + j * 2 + 1, none⟩ = some (.bool (sc[j]'(by omega)).right)) (T := fun _j => false) (by kernel_rfl) ?_; have hS0 := And.intro (h1) (And.intro (d4) (And.intro (y0) (y1))); refine anyI_take (fun _ => trivial) (by kernel_rfl) (i := 0) (v := ?_) rfl (by kernel_rfl) (by kernel_rfl) (by kernel_rfl) (by kernel_rfl) (by kernel_rfl) (fun _ _ _ h => h) (Or.inl ⟨by rfl, ?_⟩) (by simpa using hS0) ?_; rotate_left 1
      · intro wz hz; obtain ⟨_, _, _, _⟩ := hz; go_simp; try with_reducible rfl
      simp only [Act.put, List.getElem_toArray, List.getElem_cons_zero, List.getElem_cons_succ, List.setIfInBounds_toArray, List.set_cons_zero, List.set_cons_succ]; refine anyI_take (fun _ => trivial) (by kernel_rfl) (i := 1) (v := ?_) rfl (by kernel_rfl) (by kernel_rfl) (by kernel_rfl) (by kernel_rfl) (by kernel_rfl) (fun _ _ _ h => h) (Or.inl ⟨by rfl, ?_⟩) (by simpa using hS0) ?_; rotate_left 1
      · intro wz hz; obtain ⟨_, _, _, _⟩ := hz; go_simp; try with_reducible rfl
      try simp only [Act.put, List.getElem_toArray, List.getElem_cons_zero, List.getElem_cons_succ, List.setIfInBounds_toArray, List.set_cons_zero, List.set_cons_succ]
      refine anyI_take (fun _ => trivial) (by kernel_rfl) (i := 2) (v := ?_) rfl (by kernel_rfl) (by kernel_rfl) (by kernel_rfl) (by kernel_rfl) (by kernel_rfl) (fun _ _ _ h => h) (Or.inl ⟨by rfl, ?_⟩) (by simpa using hS0) ?_; rotate_left 1
      · intro wz hz; obtain ⟨_, _, _, _⟩ := hz; go_simp; try with_reducible rfl
      try simp only [Act.put, List.getElem_toArray, List.getElem_cons_zero, List.getElem_cons_succ, List.setIfInBounds_toArray, List.set_cons_zero, List.set_cons_succ]
      refine anyI_take (fun _ => trivial) (by kernel_rfl) (i := 3) (v := ?_) rfl (by kernel_rfl) (by kernel_rfl) (by kernel_rfl) (by kernel_rfl) (by kernel_rfl) (fun _ _ _ h => h) (Or.inl ⟨by rfl, ?_⟩) (by simpa using hS0) ?_; rotate_left 1
      · intro wz hz; obtain ⟨_, _, _, _⟩ := hz; go_simp; try with_reducible rfl
      try simp only [Act.put, List.getElem_toArray, List.getElem_cons_zero, List.getElem_cons_succ, List.setIfInBounds_toArray, List.set_cons_zero, List.set_cons_succ]
      refine anyI_take (fun _ => trivial) (by kernel_rfl) (i := 4) (v := ?_) rfl (by kernel_rfl) (by kernel_rfl) (by kernel_rfl) (by kernel_rfl) (by kernel_rfl) (fun _ _ _ h => h) (Or.inl ⟨by rfl, ?_⟩) (by simpa using hS0) ?_; rotate_left 1
      · intro wz hz; obtain ⟨_, _, _, _⟩ := hz; go_simp; try with_reducible rfl
      try simp only [Act.put, List.getElem_toArray, List.getElem_cons_zero, List.getElem_cons_succ, List.setIfInBounds_toArray, List.set_cons_zero, List.set_cons_succ]
      refine anyI_take (fun _ => trivial) (by kernel_rfl) (i := 5) (v := ?_) rfl (by kernel_rfl) (by kernel_rfl) (by kernel_rfl) (by kernel_rfl) (by kernel_rfl) (fun _ _ _ h => h) (Or.inl ⟨by rfl, ?_⟩) (by simpa using hS0) ?_; rotate_left 1
      · intro wz hz; obtain ⟨_, _, _, _⟩ := hz; go_simp; try with_reducible rfl
      try simp only [Act.put, List.getElem_toArray, List.getElem_cons_zero, List.getElem_cons_succ, List.setIfInBounds_toArray, List.set_cons_zero, List.set_cons_succ]
      refine anyI_take (fun _ => trivial) (by kernel_rfl) (i := 6) (v := ?_) rfl (by kernel_rfl) (by kernel_rfl) (by kernel_rfl) (by kernel_rfl) (by kernel_rfl) (fun _ _ _ h => h) (Or.inl ⟨by rfl, ?_⟩) (by simpa using hS0) ?_; rotate_left 1
      · intro wz hz; obtain ⟨_, _, _, _⟩ := hz; go_simp; try with_reducible rfl
      try simp only [Act.put, List.getElem_toArray, List.getElem_cons_zero, List.getElem_cons_succ, List.setIfInBounds_toArray, List.set_cons_zero, List.set_cons_succ]
      refine anyI_take (fun _ => trivial) (by kernel_rfl) (i := 7) (v := ?_) rfl (by kernel_rfl) (by kernel_rfl) (by kernel_rfl) (by kernel_rfl) (by kernel_rfl) (fun _ _ _ h => h) (Or.inl ⟨by rfl, ?_⟩) (by simpa using hS0) ?_; rotate_left 1
      · intro wz hz; obtain ⟨_, _, _, _⟩ := hz; go_simp; try with_reducible rfl
      try simp only [Act.put, List.getElem_toArray, List.getElem_cons_zero, List.getElem_cons_succ, List.setIfInBounds_toArray, List.set_cons_zero, List.set_cons_succ]
      refine anyI_take (fun _ => trivial) (by kernel_rfl) (i := 8) (v := ?_) rfl (by kernel_rfl) (by kernel_rfl) (by kernel_rfl) (by kernel_rfl) (by kernel_rfl) (fun _ _ _ h => h) (Or.inl ⟨by rfl, ?_⟩) (by simpa using hS0) ?_; rotate_left 1
      · intro wz hz; obtain ⟨_, _, _, _⟩ := hz; go_simp; try with_reducible rfl
      try simp only [Act.put, List.getElem_toArray, List.getElem_cons_zero, List.getElem_cons_succ, List.setIfInBounds_toArray, List.set_cons_zero, List.set_cons_succ]
      refine anyI_take (fun _ => trivial) (by kernel_rfl) (i := 9) (v := ?_) rfl (by kernel_rfl) (by kernel_rfl) (by kernel_rfl) (by kernel_rfl) (by kernel_rfl) (fun _ _ _ h => h) (Or.inl ⟨by rfl, ?_⟩) (by simpa using hS0) ?_; rotate_left 1
      · intro wz hz; obtain ⟨_, _, _, _⟩ := hz; go_simp; try with_reducible rfl
      try simp only [Act.put, List.getElem_toArray, List.getElem_cons_zero, List.getElem_cons_succ, List.setIfInBounds_toArray, List.set_cons_zero, List.set_cons_succ]
      refine anyI_take (fun _ => trivial) (by kernel_rfl) (i := 10) (v := ?_) rfl (by kernel_rfl) (by kernel_rfl) (by kernel_rfl) (by kernel_rfl) (by kernel_rfl) (fun _ _ _ h => h) (Or.inl ⟨by rfl, ?_⟩) (by simpa using hS0) ?_; rotate_left 1
      · intro wz hz; obtain ⟨_, _, _, _⟩ := hz; go_simp; try with_reducible rfl
      try simp only [Act.put, List.getElem_toArray, List.getElem_cons_zero, List.getElem_cons_succ, List.setIfInBounds_toArray, List.set_cons_zero, List.set_cons_succ]
      refine anyI_take (fun _ => trivial) (by kernel_rfl) (i := 11) (v := ?_) rfl (by kernel_rfl) (by kernel_rfl) (by kernel_rfl) (by kernel_rfl) (by kernel_rfl) (fun _ _ _ h => h) (Or.inl ⟨by rfl, ?_⟩) (by simpa using hS0) ?_; rotate_left 1
      · intro wz hz; obtain ⟨_, _, _, _⟩ := hz; go_simp; try with_reducible rfl
      try simp only [Act.put, List.getElem_toArray, List.getElem_cons_zero, List.getElem_cons_succ, List.setIfInBounds_toArray, List.set_cons_zero, List.set_cons_succ]
      refine anyI_take (fun _ => trivial) (by kernel_rfl) (i := 12) (v := ?_) rfl (by kernel_rfl) (by kernel_rfl) (by kernel_rfl) (by kernel_rfl) (by kernel_rfl) (fun _ _ _ h => h) (Or.inl ⟨by rfl, ?_⟩) (by simpa using hS0) ?_; rotate_left 1
      · intro wz hz; obtain ⟨_, _, _, _⟩ := hz; go_simp; try with_reducible rfl
      try simp only [Act.put, List.getElem_toArray, List.getElem_cons_zero, List.getElem_cons_succ, List.setIfInBounds_toArray, List.set_cons_zero, List.set_cons_succ]
      refine anyI_take (fun _ => trivial) (by kernel_rfl) (i := 13) (v := ?_) rfl (by kernel_rfl) (by kernel_rfl) (by kernel_rfl) (by kernel_rfl) (by kernel_rfl) (fun _ _ _ h => h) (Or.inl ⟨by rfl, ?_⟩) (by simpa using hS0) ?_; rotate_left 1
      · intro wz hz; obtain ⟨_, _, _, _⟩ := hz; go_simp; try with_reducible rfl
      try simp only [Act.put, List.getElem_toArray, List.getElem_cons_zero, List.getElem_cons_succ, List.setIfInBounds_toArray, List.set_cons_zero, List.set_cons_succ]
      refine anyI_take (fun _ => trivial) (by kernel_rfl) (i := 14) (v := ?_) rfl (by kernel_rfl) (by kernel_rfl) (by kernel_rfl) (by kernel_rfl) (by kernel_rfl) (fun _ _ _ h => h) (Or.inl ⟨by rfl, ?_⟩) (by simpa using hS0) ?_; rotate_left 1
      · intro wz hz; obtain ⟨_, _, _, _⟩ := hz; go_simp; try with_reducible rfl
      try simp only [Act.put, List.getElem_toArray, List.getElem_cons_zero, List.getElem_cons_succ, List.setIfInBounds_toArray, List.set_cons_zero, List.set_cons_succ]
      refine anyI_take (fun _ => trivial) (by kernel_rfl) (i := 15) (v := ?_) rfl (by kernel_rfl) (by kernel_rfl) (by kernel_rfl) (by kernel_rfl) (by kernel_rfl) (fun _ _ _ h => h) (Or.inl ⟨by rfl, ?_⟩) (by simpa using hS0) ?_; rotate_left 1
      · intro wz hz; obtain ⟨_, _, _, _⟩ := hz; go_simp; try with_reducible rfl
      try simp only [Act.put, List.getElem_toArray, List.getElem_cons_zero, List.getElem_cons_succ, List.setIfInBounds_toArray, List.set_cons_zero, List.set_cons_succ]
      refine anyI_one (i := 16) (by kernel_rfl) rfl (fun K hK => ?_); go_simp; have q1 : Below (w.heap.size + 2) W ((W.drew.setCell ⟨w.heap.size + 1 + 1, 0, none⟩ (.int .i64 (sc[j]'(by omega)).level)).setCell ⟨w.heap.size + 1 + 1, 1, none⟩ (.bool (sc[j]'(by omega)).right)) := ((Below.refl _ _).drew.setCell (p := ⟨w.heap.size + 1 + 1, 0, none⟩) (by simp only; omega) _).setCell (p := ⟨w.heap.size + 1 + 1, 1, none⟩) (by simp only; omega) _; have hS1 := And.intro ((q1.cell (p := ⟨w.heap.size, 0, none⟩) (by simp only; omega)).trans h1) (And.intro ((q1.cell (p := ⟨b, o + 1, none⟩) (by simp only; omega)).trans d4) (And.intro ((q1.cell (p := ⟨yb, yo + j * 2, none⟩) (by simp only; omega)).trans y0) ((q1.cell (p := ⟨yb, yo + j * 2 + 1, none⟩) (by simp only; omega)).trans y1))); refine hK.out _ _ (fun _ => hS1) ?_; clear hK K hS1 q1
      try simp only [Act.put]
      refine anyI_one (i := 17) (by kernel_rfl) rfl (fun K hK => ?_); go_simp; have q1 : Below (w.heap.size + 2) W (((W.setCell ⟨w.heap.size + 1 + 1, 0, none⟩ (.int .i64 (sc[j]'(by omega)).level)).setCell ⟨w.heap.size + 1 + 1, 1, none⟩ (.bool (sc[j]'(by omega)).right)).setCell ⟨w.heap.size + 1 + 1 + 1, 0, none⟩ (.bool (decide (0 ≤ (sc[j]'(by omega)).level)))).drew := ((((Below.refl _ _).setCell (p := ⟨w.heap.size + 1 + 1, 0, none⟩) (by simp only; omega) _).setCell (p := ⟨w.heap.size + 1 + 1, 1, none⟩) (by simp only; omega) _).setCell (p := ⟨w.heap.size + 1 + 1 + 1, 0, none⟩) (by simp only; omega) _).drew; have hS1 := And.intro ((q1.cell (p := ⟨w.heap.size, 0, none⟩) (by simp only; omega)).trans h1) (And.intro ((q1.cell (p := ⟨b, o + 1, none⟩) (by simp only; omega)).trans d4) (And.intro ((q1.cell (p := ⟨yb, yo + j * 2, none⟩) (by simp only; omega)).trans y0) ((q1.cell (p := ⟨yb, yo + j * 2 + 1, none⟩) (by simp only; omega)).trans y1))); refine hK.out _ _ (fun _ => hS1) ?_; clear hK K hS1
      try simp only [Act.put]
      refine anyI_done (by kernel_rfl) ?_ _
      gi_wp2
      have e3 : ((W.setCell ⟨w.heap.size + 1 + 1, 0, none⟩ (.int .i64 (sc[j]'(by omega)).level)).setCell ⟨w.heap.size + 1 + 1, 1, none⟩ (.bool (sc[j]'(by omega)).right)).cell? ⟨w.heap.size + 1 + 1 + 1, 0, none⟩ = some (.bool false) := by
        rw [World.cell?_setCell_other _ _ _ _ (by intro h; simp only [Addr.mk.injEq] at h; omega), World.cell?_setCell_other _ _ _ _ (by intro h; simp only [Addr.mk.injEq] at h; omega)]; exact h5
      have e1 : (W.setCell ⟨w.heap.size + 1 + 1, 0, none⟩ (.int .i64 (sc[j]'(by omega)).level)).cell? ⟨w.heap.size + 1 + 1, 1, none⟩ = some (.bool false) := by
        rw [World.cell?_setCell_other _ _ _ _ (by intro h; simp only [Addr.mk.injEq] at h; omega)]; exact h4
      refine ⟨?_, ⟨rfl, pre, ⟨j, hj⟩, _, rfl, HP.out, List.getElem?_eq_getElem (show j < sc.length by omega), ?_, ?_, ?_, ?_⟩, hB.trans (q1.mono (by omega))⟩
      · refine KeepsOthers.from ?_ _; exact (((KeepsOthers.setCell _ _ _).trans (KeepsOthers.setCell _ _ _)).trans (KeepsOthers.setCell _ _ _)).trans ⟨Nat.le_refl _, fun _ _ h _ => h⟩
      · have := HX.out; unfold nmAt at this; rw [List.getElem?_eq_getElem (by omega)] at this; exact this
      · show (((W.setCell _ _).setCell _ _).setCell _ _).cell? _ = _; rw [World.cell?_setCell_other _ _ _ _ (by intro h; simp only [Addr.mk.injEq] at h; omega), World.cell?_setCell_other _ _ _ _ (by intro h; simp only [Addr.mk.injEq] at h; omega)]; exact World.cell?_setCell_same _ _ _ h3
      · show (((W.setCell _ _).setCell _ _).setCell _ _).cell? _ = _; rw [World.cell?_setCell_other _ _ _ _ (by intro h; simp only [Addr.mk.injEq] at h; omega)]; exact World.cell?_setCell_same _ _ _ e1
      · show (((W.setCell _ _).setCell _ _).setCell _ _).cell? _ = _; exact World.cell?_setCell_same _ _ _ e3
    · have HP := hid hp; have HX := hid hx; have hq : (nmAt sc j == nm) = false := by simpa using hx
      clear hx hp
      gi_wp2
      exact ⟨KeepsFrom.refl _ _, Below.refl _ _, ⟨fun p hp' => (List.mem_append.1 hp').elim (HP.out p) (fun e => by simp at e; subst e; exact HX.out), h1, h2, h3, h4, h5, h6, h7, h8⟩, hB⟩
  case done =>
    rintro D ys W hD rfl ⟨⟨hne, h1, h2, h3, h4, h5, h6, h7, h8⟩, hB⟩ hK
    gi_wp2
    have x1 : (W.setCell ⟨w.heap.size + 1 + 1, 0, none⟩ (.int .i64 0)).cell? ⟨w.heap.size + 1 + 1, 1, none⟩ = some (.bool false) := by
      rw [World.cell?_setCell_other _ _ _ _ (by intro h; simp only [Addr.mk.injEq] at h; omega)]; exact h4
    have x2 : ((W.setCell ⟨w.heap.size + 1 + 1, 0, none⟩ (.int .i64 0)).setCell ⟨w.heap.size + 1 + 1, 1, none⟩ (.bool false)).cell? ⟨w.heap.size + 1 + 1 + 1, 0, none⟩ = some (.bool false) := by
      rw [World.cell?_setCell_other _ _ _ _ (by intro h; simp only [Addr.mk.injEq] at h; omega), World.cell?_setCell_other _ _ _ _ (by intro h; simp only [Addr.mk.injEq] at h; omega)]; exact h5
    have g0 : (((W.setCell ⟨w.heap.size + 1 + 1, 0, none⟩ (.int .i64 0)).setCell ⟨w.heap.size + 1 + 1, 1, none⟩ (.bool false)).setCell ⟨w.heap.size + 1 + 1 + 1, 0, none⟩ (.bool false)).cell? ⟨w.heap.size + 1 + 1, 0, none⟩ = some (.int .i64 0) := by
      rw [World.cell?_setCell_other _ _ _ _ (by intro h; simp only [Addr.mk.injEq] at h; omega), World.cell?_setCell_other _ _ _ _ (by intro h; simp only [Addr.mk.injEq] at h; omega)]; exact World.cell?_setCell_same _ _ _ h3
    have g1 : (((W.setCell ⟨w.heap.size + 1 + 1, 0, none⟩ (.int .i64 0)).setCell ⟨w.heap.size + 1 + 1, 1, none⟩ (.bool false)).setCell ⟨w.heap.size + 1 + 1 + 1, 0, none⟩ (.bool false)).cell? ⟨w.heap.size + 1 + 1, 1, none⟩ = some (.bool false) := by
      rw [World.cell?_setCell_other _ _ _ _ (by intro h; simp only [Addr.mk.injEq] at h; omega)]; exact World.cell?_setCell_same _ _ _ x1
    have g2 : (((W.setCell ⟨w.heap.size + 1 + 1, 0, none⟩ (.int .i64 0)).setCell ⟨w.heap.size + 1 + 1, 1, none⟩ (.bool false)).setCell ⟨w.heap.size + 1 + 1 + 1, 0, none⟩ (.bool false)).cell? ⟨w.heap.size + 1 + 1 + 1, 0, none⟩ = some (.bool false) := World.cell?_setCell_same _ _ _ x2; have kk : KeepsOthers W (((W.setCell ⟨w.heap.size + 1 + 1, 0, none⟩ (.int .i64 0)).setCell ⟨w.heap.size + 1 + 1, 1, none⟩ (.bool false)).setCell ⟨w.heap.size + 1 + 1 + 1, 0, none⟩ (.bool false)) := ((KeepsOthers.setCell _ _ _).trans (KeepsOthers.setCell _ _ _)).trans (KeepsOthers.setCell _ _ _); have hb3 : Below w.heap.size w (((W.setCell ⟨w.heap.size + 1 + 1, 0, none⟩ (.int .i64 0)).setCell ⟨w.heap.size + 1 + 1, 1, none⟩ (.bool false)).setCell ⟨w.heap.size + 1 + 1 + 1, 0, none⟩ (.bool false)) := ((hB.setCell (p := ⟨w.heap.size + 1 + 1, 0, none⟩) (by simp only; omega) _).setCell (p := ⟨w.heap.size + 1 + 1, 1, none⟩) (by simp only; omega) _).setCell (p := ⟨w.heap.size + 1 + 1 + 1, 0, none⟩) (by simp only; omega) _; generalize ((W.setCell ⟨w.heap.size + 1 + 1, 0, none⟩ (.int .i64 0)).setCell ⟨w.heap.size + 1 + 1, 1, none⟩ (.bool false)).setCell ⟨w.heap.size + 1 + 1 + 1, 0, none⟩ (.bool false) = W3 at g0 g1 g2 kk hb3 ⊢; have hK' := kk.same D _ hK rfl
    have hF0 : fxV sc nm = (0, false, false) := by
      unfold fxV
      rw [findS_miss sc nm (fun i hi => by
        have := hne ⟨i, by omega⟩ (by
          simp only [upto, List.mem_map, List.mem_range]
          exact ⟨m - i, by omega, by simp only [dn, Subtype.mk.injEq]; omega⟩)
        exact this)]
    refine ⟨by simp, .inl ⟨_, _, rfl, run_takeDeferred hK', ?_⟩⟩; have p0 := cell_kept g0 (grownBy_putObj' _ D (.deferred none)) (fun r e => by cases e; exact ⟨_, hK', rfl⟩); have p1 := cell_kept g1 (grownBy_putObj' _ D (.deferred none)) (fun r e => by cases e; exact ⟨_, hK', rfl⟩); have p2 := cell_kept g2 (grownBy_putObj' _ D (.deferred none)) (fun r e => by cases e; exact ⟨_, hK', rfl⟩); refine ⟨.tuple #[.agg #[.int .i64 0, .bool false], .bool false], ?_, by rw [hF0], hb3.trans (belowK_b (w := w) (Nat.le_refl _) _ D _ _ (by omega) hK' rfl rfl)⟩; simp [results, Tryz.f134, go_sem, p0, p1, p2]
  case stop =>
    rintro D c pre W hD ⟨k, hk, rfl⟩ ⟨⟨rfl, ini, last, f, e1, e2, e3, e4, e5, e6, e7⟩, hB⟩ hK
    gi_wp2
    obtain ⟨k', rfl⟩ : ∃ k', k = k' + 1 := by
      cases k with
      | zero => simp [upto] at e1
      | succ k' => exact ⟨k', rfl⟩
    rw [upto_succ] at e1; obtain ⟨rfl, e8⟩ := List.append_inj' e1 rfl; obtain rfl : dn m k' = last := by simpa using e8
    have hF0 : fxV sc nm = (f.level, f.right, decide (0 ≤ f.level)) := by
      unfold fxV
      rw [findS_hit sc nm k' f (by omega) (fun i h1 h2 => by
        have := e2 ⟨i, by omega⟩ (by
          simp only [upto, List.mem_map, List.mem_range]
          exact ⟨m - i, by omega, by simp only [dn, Subtype.mk.injEq]; omega⟩)
        exact this) (by
          have := e3; simp only [dn] at this
          rw [show sc.length - 1 - k' = m - k' by omega]; exact this) e4]
    refine ⟨by simp, .inl ⟨_, _, rfl, run_takeDeferred hK, ?_⟩⟩; have p0 := cell_kept e5 (grownBy_putObj' _ D (.deferred none)) (fun r e => by cases e; exact ⟨_, hK, rfl⟩); have p1 := cell_kept e6 (grownBy_putObj' _ D (.deferred none)) (fun r e => by cases e; exact ⟨_, hK, rfl⟩); have p2 := cell_kept e7 (grownBy_putObj' _ D (.deferred none)) (fun r e => by cases e; exact ⟨_, hK, rfl⟩); refine ⟨.tuple #[.agg #[.int .i64 f.level, .bool f.right], .bool (decide (0 ≤ f.level))], ?_, by rw [hF0], hB.trans (belowK_b (w := w) (Nat.le_refl _) _ D _ _ (by omega) hK rfl rfl)⟩; simp [results, Tryz.f134, go_sem, p0, p1, p2]
end
section
open Go
section
variable {P : Program} {ops : Array Oper} {Q : Exit → Act → World → Prop} {md : Region.Mode} {S : World → Prop} {T : Nat → Bool}
theorem anyT_two {i j : Nat} {oi oj : Oper} {m : Nat} {L : Array Bool} {a : Act} {w : World} (hr : Region.ready md ops L = [i, j]) (hi : ops[i]? = some oi) (hj : ops[j]? = some oj)
    (h1 : ∀ K : Act → World → Prop, Shut (∀ b v, (T i = false → S v) → anyT P md ops Q S T m (L.setIfInBounds i true) b v → K b v) → if Region.wanted oi (yielded ops a.tmps) = true then Oper.wp P oi a w K Q else K (a.put oi.dst undef) w)
    (h2 : ∀ K : Act → World → Prop, Shut (∀ b v, (T j = false → S v) → anyT P md ops Q S T m (L.setIfInBounds j true) b v → K b v) → if Region.wanted oj (yielded ops a.tmps) = true then Oper.wp P oj a w K Q else K (a.put oj.dst undef) w) :
    anyT P md ops Q S T (m + 1) L a w :=
  ⟨fun h0 => (by rw [hr] at h0; cases h0), fun k hk => by
    rw [hr] at hk; have hk : k = i ∨ k = j := by simpa using hk
    rcases hk with rfl | rfl
    · exact wpOp_step hi (fun K hK => h1 K (fun b v hS hA => hK b v ⟨hS, hA⟩))
    · exact wpOp_step hj (fun K hK => h2 K (fun b v hS hA => hK b v ⟨hS, hA⟩))⟩
end
end
open Go Go.RowKit
theorem opS_fx (sc : List Fx) (nm : List UInt8) : opS sc nm = (fxV sc nm).2.2 := by
  unfold opS fxV; cases findS sc nm <;> rfl
section
variable {G : Gh} {M : Nat → Prop} {na : Option Addr} {nc : Nat} {fa : Option Addr} {fc : Nat} {w : World} {s : PSt}
theorem find_ps (hG : GOk G) (h : PS G M na nc fa fc w s) (nm : List UInt8) :
    Calls Tryz.prog 134 #[.pointer (some ⟨G.bp, 3, none⟩), .string ⟨nm.toArray⟩] w fun e w' => e = .returned (.tuple #[.agg #[.int .i64 (fxV s.sc nm).1, .bool (fxV s.sc nm).2.1], .bool (fxV s.sc nm).2.2]) ∧ Below w.heap.size w w' := by
  have h1 := h.npos; have h2 := h.nsc; have h3 := h.il; have h4 := hG.few; obtain ⟨m, hm⟩ : ∃ m, s.sc.length = m + 1 := ⟨s.sc.length - 1, by omega⟩; have c3 := h.c3; have c4 := h.c4; rw [hm] at c3 c4; exact find_some G.bp 3 G.B na nc fa fc s.sc nm m w hm (by omega) h.sc c3 c4
theorem operand_any (hG : GOk G) (h : PS G M na nc fa fc w s) :
    Calls Tryz.prog 141 #[.pointer (some ⟨G.bp, 0, none⟩)] w fun e w' => e = .returned (.bool (operandS G.X s)) ∧ Below w.heap.size w w' := by
  go_enter Tryz.func141, Tryz.ntmps141
  go_wp2_with (go_at_call 63; refine (next_any hG h).mono ?_; rintro e w1 ⟨sg, am, nm, cm, rfl, hm, hb⟩; have HB := hid hb; clear hb hm)
  have P0 := ((h.new HB.out).alloc (.cells #[.int .i64 ((nextS G.X s).kind : Nat), .string ⟨(nextS G.X s).text.toArray⟩, .bool sg, .slice am nm cm, .int .u64 ((nextS G.X s).bits : Nat), .int .i64 ((nextS G.X s).n : Nat), .int .i64 ((nextS G.X s).pos : Nat)] 75)).drew; have B0 : Below w.heap.size w (w1.alloc (.cells #[.int .i64 ((nextS G.X s).kind : Nat), .string ⟨(nextS G.X s).text.toArray⟩, .bool sg, .slice am nm cm, .int .u64 ((nextS G.X s).bits : Nat), .int .i64 ((nextS G.X s).n : Nat), .int .i64 ((nextS G.X s).pos : Nat)] 75)).drew := (HB.out.alloc HB.out.size _).drew; have t0 : (w1.alloc (.cells #[.int .i64 ((nextS G.X s).kind : Nat), .string ⟨(nextS G.X s).text.toArray⟩, .bool sg, .slice am nm cm, .int .u64 ((nextS G.X s).bits : Nat), .int .i64 ((nextS G.X s).n : Nat), .int .i64 ((nextS G.X s).pos : Nat)] 75)).drew.cell? ⟨w1.heap.size, 0, none⟩ = some (.int .i64 ((nextS G.X s).kind : Nat)) := World.cell?_alloc_new _ _ _ 0; have t1 : (w1.alloc (.cells #[.int .i64 ((nextS G.X s).kind : Nat), .string ⟨(nextS G.X s).text.toArray⟩, .bool sg, .slice am nm cm, .int .u64 ((nextS G.X s).bits : Nat), .int .i64 ((nextS G.X s).n : Nat), .int .i64 ((nextS G.X s).pos : Nat)] 75)).drew.cell? ⟨w1.heap.size, 1, none⟩ = some (.string ⟨(nextS G.X s).text.toArray⟩) := World.cell?_alloc_new _ _ _ 1; have z0 : w1.heap.size < (w1.alloc (.cells #[.int .i64 ((nextS G.X s).kind : Nat), .string ⟨(nextS G.X s).text.toArray⟩, .bool sg, .slice am nm cm, .int .u64 ((nextS G.X s).bits : Nat), .int .i64 ((nextS G.X s).n : Nat), .int .i64 ((nextS G.X s).pos : Nat)] 75)).drew.heap.size := by simp
  refine region_T (S := fun wx => wx.cell? ⟨w1.heap.size, 0, none⟩ = some (.int .i64 ((nextS G.X s).kind : Nat)) ∧ wx.cell? ⟨w1.heap.size, 1, none⟩ = some (.string ⟨(nextS G.X s).text.toArray⟩)) (T := fun _ => false) (by kernel_rfl) ?_; generalize (w1.alloc (.cells #[.int .i64 ((nextS G.X s).kind : Nat), .string ⟨(nextS G.X s).text.toArray⟩, .bool sg, .slice am nm cm, .int .u64 ((nextS G.X s).bits : Nat), .int .i64 ((nextS G.X s).n : Nat), .int .i64 ((nextS G.X s).pos : Nat)] 75)).drew = v0 at P0 B0 t0 t1 z0 ⊢; have hS0 := And.intro t0 t1; refine tq 0 hS0 ?_; refine tq 1 hS0 ?_; refine tq 2 hS0 ?_; refine tq 3 hS0 ?_; refine tq 4 hS0 ?_; refine anyT_two (i := 5) (j := 9) (by kernel_rfl) rfl rfl (fun K hK => ?_) (fun K hK => ?_)
  · go_simp; refine (find_ps hG P0 (nextS G.X s).text).mono ?_; rintro e v1 ⟨rfl, hb⟩; have hS1 := And.intro ((hb.cell (p := ⟨w1.heap.size, 0, none⟩) z0).trans hS0.1) ((hb.cell (p := ⟨w1.heap.size, 1, none⟩) z0).trans hS0.2); have P1 := P0.new hb; have B1 := B0.trans (hb.mono B0.size); have z1 := Nat.lt_of_lt_of_le z0 hb.size; clear hb; refine nx hK hS1 ?_; clear hK K; refine tq 6 hS1 ?_; refine tq 7 hS1 ?_; refine tq 8 hS1 ?_; refine on1 9 fun K hK => ?_; go_simp; have ha := below_alloc v1 (.cells #[.int .i64 0, .bool false] 66); have hS2 := And.intro ((ha.cell (p := ⟨w1.heap.size, 0, none⟩) z1).trans hS1.1) ((ha.cell (p := ⟨w1.heap.size, 1, none⟩) z1).trans hS1.2); have P2 := P1.alloc (.cells #[.int .i64 0, .bool false] 66); have B2 := B1.trans (ha.mono B1.size); have z2 := Nat.lt_of_lt_of_le z1 ha.size; clear ha; refine nx hK hS2 ?_; clear hK K; refine on1 10 fun K hK => ?_; go_simp; have ha := below_alloc v1 (.cells #[.int .i64 (fxV s.sc (nextS G.X s).text).1, .bool (fxV s.sc (nextS G.X s).text).2.1] 66); have hS3 := And.intro ((ha.cell (p := ⟨w1.heap.size, 0, none⟩) z1).trans hS1.1) ((ha.cell (p := ⟨w1.heap.size, 1, none⟩) z1).trans hS1.2); have B3 := B1.trans (ha.mono B1.size); clear ha; refine nx hK hS3 ?_; clear hK K; refine tq 11 hS3 ?_; refine anyT_done (by kernel_rfl) ?_ _; obtain ⟨g0, g1⟩ := hS3
    by_cases h1 : (nextS G.X s).kind = 1
    · have e1 : (((nextS G.X s).kind : Int) == 1) = true := by rw [h1]; rfl
      have hr : Hid (operandS G.X s = !(fxV s.sc (nextS G.X s).text).2.2) := hid (by unfold operandS; rw [opS_fx, h1]; rfl); clear h1
      go_wp2_with fail
      go_ret; exact ⟨by rw [hr.out]; rfl, B3⟩
    · have e1 : (((nextS G.X s).kind : Int) == 1) = false := by simp; omega
      by_cases h2 : (nextS G.X s).kind = 2
      · have e2 : (((nextS G.X s).kind : Int) == 2) = true := by rw [h2]; rfl
        have hr : Hid (operandS G.X s = !(fxV s.sc (nextS G.X s).text).2.2) := hid (by unfold operandS; rw [opS_fx, h2]; rfl); clear h1 h2
        go_wp2_with fail
        go_ret; exact ⟨by rw [hr.out]; rfl, B3⟩
      · have e2 : (((nextS G.X s).kind : Int) == 2) = false := by simp; omega
        have a1 : ((nextS G.X s).kind == 1) = false := by simpa using h1
        have a2 : ((nextS G.X s).kind == 2) = false := by simpa using h2
        have hr : Hid (operandS G.X s = false) := hid (by unfold operandS; rw [a1, a2]; rfl); clear h1 h2 a1 a2
        go_wp2_with fail
        go_ret; exact ⟨by rw [hr.out]; rfl, B3⟩
  · go_simp; have ha := below_alloc v0 (.cells #[.int .i64 0, .bool false] 66); have hS4 := And.intro ((ha.cell (p := ⟨w1.heap.size, 0, none⟩) z0).trans hS0.1) ((ha.cell (p := ⟨w1.heap.size, 1, none⟩) z0).trans hS0.2); have P1 := P0.alloc (.cells #[.int .i64 0, .bool false] 66); have B1 := B0.trans (ha.mono B0.size); have z1 := Nat.lt_of_lt_of_le z0 ha.size; clear ha; have x0 : (v0.alloc (.cells #[.int .i64 0, .bool false] 66)).cell? ⟨v0.heap.size, 0, none⟩ = some (.int .i64 0) := World.cell?_alloc_new _ _ _ 0; have x1 : (v0.alloc (.cells #[.int .i64 0, .bool false] 66)).cell? ⟨v0.heap.size, 1, none⟩ = some (.bool false) := World.cell?_alloc_new _ _ _ 1; have xf : ∀ o, (v0.alloc (.cells #[.int .i64 0, .bool false] 66)).frozen? ⟨v0.heap.size, o, none⟩ = false := fun o => World.frozen?_alloc_new _ _ _ _; refine nx hK hS4 ?_; clear hK K; refine on1 5 fun K hK => ?_; go_simp; refine (find_ps hG P1 (nextS G.X s).text).mono ?_; rintro e v2 ⟨rfl, hb⟩; have hS5 := And.intro ((hb.cell (p := ⟨w1.heap.size, 0, none⟩) z1).trans hS4.1) ((hb.cell (p := ⟨w1.heap.size, 1, none⟩) z1).trans hS4.2); have P2 := P1.new hb; have B2 := B1.trans (hb.mono B1.size); have z2 := Nat.lt_of_lt_of_le z1 hb.size; have y0 := (hb.cell (p := ⟨v0.heap.size, 0, none⟩) (by simp)).trans x0; have y1 := (hb.cell (p := ⟨v0.heap.size, 1, none⟩) (by simp)).trans x1; have yf := fun o => (hb.frozen (p := ⟨v0.heap.size, o, none⟩) (by simp)).trans (xf o); clear x0 x1 xf; clear hb; refine nx hK hS5 ?_; clear hK K; refine tq 6 hS5 ?_; refine tq 7 hS5 ?_; refine tq 8 hS5 ?_; refine on1 10 fun K hK => ?_; go_simp; have ha : Below v0.heap.size v2 ((v2.setCell ⟨v0.heap.size, 0, none⟩ (.int .i64 (fxV s.sc (nextS G.X s).text).1)).setCell ⟨v0.heap.size, 1, none⟩ (.bool (fxV s.sc (nextS G.X s).text).2.1)) := bl_set (bl_set (Below.refl _ _) (Nat.le_refl _)) (Nat.le_refl _); have hS6 := And.intro ((ha.cell (p := ⟨w1.heap.size, 0, none⟩) z0).trans hS5.1) ((ha.cell (p := ⟨w1.heap.size, 1, none⟩) z0).trans hS5.2); have B3 := B2.trans (ha.mono B0.size); clear ha; refine nx hK hS6 ?_; clear hK K; refine tq 11 hS6 ?_; refine anyT_done (by kernel_rfl) ?_ _; obtain ⟨g0, g1⟩ := hS6
    by_cases h1 : (nextS G.X s).kind = 1
    · have e1 : (((nextS G.X s).kind : Int) == 1) = true := by rw [h1]; rfl
      have hr : Hid (operandS G.X s = !(fxV s.sc (nextS G.X s).text).2.2) := hid (by unfold operandS; rw [opS_fx, h1]; rfl); clear h1
      go_wp2_with fail
      go_ret; exact ⟨by rw [hr.out]; rfl, B3⟩
    · have e1 : (((nextS G.X s).kind : Int) == 1) = false := by simp; omega
      by_cases h2 : (nextS G.X s).kind = 2
      · have e2 : (((nextS G.X s).kind : Int) == 2) = true := by rw [h2]; rfl
        have hr : Hid (operandS G.X s = !(fxV s.sc (nextS G.X s).text).2.2) := hid (by unfold operandS; rw [opS_fx, h2]; rfl); clear h1 h2
        go_wp2_with fail
        go_ret; exact ⟨by rw [hr.out]; rfl, B3⟩
      · have e2 : (((nextS G.X s).kind : Int) == 2) = false := by simp; omega
        have a1 : ((nextS G.X s).kind == 1) = false := by simpa using h1
        have a2 : ((nextS G.X s).kind == 2) = false := by simpa using h2
        have hr : Hid (operandS G.X s = false) := hid (by unfold operandS; rw [a1, a2]; rfl); clear h1 h2 a1 a2
        go_wp2_with fail
        go_ret; exact ⟨by rw [hr.out]; rfl, B3⟩
end
end Go.Proofs.YtkblonfmjlopaaaGreatDoor
