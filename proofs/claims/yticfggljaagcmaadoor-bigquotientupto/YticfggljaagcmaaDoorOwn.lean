/-
  big.own, slices.Clone at []uint32, big.natOf, walked.
-/
import Derived.Test.YticfggljaagcmaaDoorBare
import Derived.Test.YticfggljaagcmaaDoorApp
namespace Go.Proofs.YticfggljaagcmaaDoor
set_option linter.all false
open Go.RowKit

theorem Tryd.info58 : (Tryd.prog.info? 58).map (fun i => (i.zero, i.size, i.bytes)) = some (some (.int .u32 0), 1, 4) := by kernel_rfl

set_option maxHeartbeats 400000 in
theorem own_cap (a : Option Addr) (n c : Nat) (h : Nat → Nat) (w : World) (hn : n ≤ 4398046511104) (hnc : n ≤ c) (hu : Us w a n n h) :
    Calls Tryd.prog 66 #[.slice a n c] w fun e w' => ∃ a' n' c' f, e = .returned (.slice a' n' c') ∧ Us w' a' n' c' f ∧ New w' w.heap.size a' c' ∧ Below w.heap.size w w' ∧ Nm f n' ∧ val f n' = val h n ∧ n' ≤ n := by
  have hle := nrm_le h n
  have hu1 := hu.alloc (.cells #[] 58)
  have hu2 := hu1.cut (Nat.le_refl (nrm h n)) hle
  go_enter Tryd.func66, Tryd.ntmps66
  go_wp2_with (first | (go_at_call 64; refine (bare_cap _ _ _ _ _ (by omega) hnc hu1).mono ?_; rintro e w' ⟨rfl, rfl⟩) | (at_builtin; refine wpList_append_u32 _ rfl _ _ 22 22 rfl 58 Tryd.underlying22 Tryd.underlying22 Tryd.info58 w.heap.size (by simp) _ _ _ _ _ _ _ _ rfl rfl ((Arr.empty _ _ (fun _ => .int .u32 ((0 : Nat) : Int))).us (fun _ hi => by omega)) (New.nil _ _ _) hu2 (by omega) ?_))
  intro a' c' f w1 h1 h3 h4 h5
  have H3 := hid h3
  clear h3
  go_wp2
  go_ret
  exact ⟨a', _, c', f, rfl, h1, h4, (below_alloc w _).trans h5, (nrm_nm h n).congr H3.out, (val_congr H3.out).trans (val_nrm h n), hle⟩

theorem own_any (a : Option Addr) (n c : Nat) (h : Nat → Nat) (w : World) (hn : n ≤ 4398046511104) (hu : Us w a n c h) :
    Calls Tryd.prog 66 #[.slice a n c] w fun e w' => ∃ a' n' c' f, e = .returned (.slice a' n' c') ∧ Us w' a' n' c' f ∧ New w' w.heap.size a' c' ∧ Below w.heap.size w w' ∧ Nm f n' ∧ val f n' = val h n ∧ n' ≤ n :=
  own_cap a n c h w hn hu.le (hu.cut (Nat.le_refl n) hu.le)

theorem Us.mono {w : World} {a : Option Addr} {n n' c : Nat} {h : Nat → Nat} (k : Us w a n c h) (hn : n' ≤ n) : Us w a n' c h := ⟨Nat.le_trans hn k.le, k.mx, k.lm, k.cell⟩

set_option maxHeartbeats 400000 in
/-- slices.Clone: nil stays nil; else new memory. -/
theorem clone_any (a : Option Addr) (n c : Nat) (h : Nat → Nat) (w : World) (hn : n ≤ 4398046511104) (hu : Us w a n c h) (hz : a = none → n = 0 ∧ c = 0) :
    Calls Tryd.prog 74 #[.slice a n c] w fun e w' => ∃ a' c' f, e = .returned (.slice a' n c') ∧ Us w' a' n c' f ∧ New w' w.heap.size a' c' ∧ Below w.heap.size w w' ∧ (∀ i, i < n → f i = h i) := by
  have hu1 := hu.alloc (.cells #[] 58)
  cases a with
  | none =>
    obtain ⟨rfl, rfl⟩ := hz rfl
    have he := fun w => Lib.run_eql_slice_nil (P := Tryd.prog) w 22 58 none 0 0 0 0 Tryd.underlying22
    go_enter Tryd.func74, Tryd.ntmps74
    go_wp2
    go_ret
    exact ⟨none, 0, ⟨rfl, ⟨h, hu⟩, New.nil _ _ _, Below.refl _ _⟩⟩
  | some ad =>
    have he := fun w => Lib.run_eql_slice_nil (P := Tryd.prog) w 22 58 (some ad) n c 0 0 Tryd.underlying22
    go_enter Tryd.func74, Tryd.ntmps74
    go_wp2_with (at_builtin; refine wpList_append_u32 _ rfl _ _ 22 22 rfl 58 Tryd.underlying22 Tryd.underlying22 Tryd.info58 w.heap.size (by simp) _ _ _ _ _ _ _ _ rfl rfl ((Arr.empty _ _ (fun _ => .int .u32 ((0 : Nat) : Int))).us (fun _ hi => by omega)) (New.nil _ _ _) hu1 (by omega) ?_)
    intro a' c' f w1 h1 h3 h4 h5
    have H3 := hid h3
    clear h3
    go_wp2
    go_ret
    exact ⟨a', c', f, rfl, h1, h4, (below_alloc w _).trans h5, H3.out⟩

/-- natOf: a number's two limbs, bare. -/
def lo2 (x : Nat) : Nat → Nat := fun i => if i = 0 then x % 4294967296 else x / 4294967296

theorem lo2_lm (x : Nat) (hx : x ≤ 18446744073709551615) : Lm (lo2 x) 2 := by
  intro i hi
  unfold lo2
  split <;> omega
theorem lo2_val (x : Nat) : val (lo2 x) 2 = x := by
  simp only [val, pw, lo2]
  simp
  omega
theorem lo2_us (x : Nat) (w : World) (hx : x ≤ 18446744073709551615) : Us (w.alloc (Obj.cells #[Value.int IntKind.u32 ((x : Int) % 4294967296), Value.int IntKind.u32 ((x : Int) / 4294967296)] 58)) (some ⟨w.heap.size, 0, none⟩) 2 2 (lo2 x) := by
  refine ⟨Nat.le_refl _, by decide, lo2_lm x hx, fun i hi => ⟨_, _, rfl, ?_⟩⟩
  rw [Nat.zero_add, World.cell?_alloc_new]
  rcases (show i = 0 ∨ i = 1 by omega) with rfl | rfl <;> simp [lo2]

set_option maxHeartbeats 400000 in
theorem natOf_any (x : Nat) (w : World) (hx : x ≤ 18446744073709551615) :
    Calls Tryd.prog 59 #[.int .u64 x] w fun e w' => ∃ a' n' c' f, e = .returned (.slice a' n' c') ∧ Us w' a' n' c' f ∧ New w' w.heap.size a' c' ∧ Below w.heap.size w w' ∧ Nm f n' ∧ val f n' = x ∧ n' ≤ 2 := by
  have hu := lo2_us x w hx
  go_enter Tryd.func59, Tryd.ntmps59
  go_wp2_with (go_at_call 66; refine (own_any _ _ _ _ _ (by omega) (by assumption)).mono ?_; rintro e w' ⟨a', n', c', f, rfl, h1, h2, h3, h4, h5, h6⟩)
  go_ret
  exact ⟨a', _, c', f, rfl, h1, h2.mono (by simp), (below_alloc w _).trans (h3.mono (by simp)), h4, h5.trans (lo2_val x), h6⟩
end Go.Proofs.YticfggljaagcmaaDoor
