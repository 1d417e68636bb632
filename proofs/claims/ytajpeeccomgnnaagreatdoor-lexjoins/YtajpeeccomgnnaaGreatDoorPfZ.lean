/-
  The library's special reals: none here.
-/
import Derived.Test.YtajpeeccomgnnaaGreatDoorPdG
import Derived.BigQuiet
import Derived.Test.YtajpeeccomgnnaaGreatDoorPdF
import Derived.Test.YtajpeeccomgnnaaGreatDoorPfE
import Derived.Test.YtajpeeccomgnnaaGreatDoorPfK
import Derived.Test.YtajpeeccomgnnaaGreatDoorPfR
namespace Go.Proofs.YtajpeeccomgnnaaGreatDoor
set_option linter.all false
open Go Go.RowKit
set_option maxRecDepth 100000
set_option maxHeartbeats 2000000

theorem prefix0 (s p : ByteArray) (hs : s.size ≤ 200) (hp : 0 < p.size ∧ p.size ≤ 100) (h105 : bt p 0 = 105) (hC : 0 < s.size → bt s 0 = 45 ∨ bt s 0 = 46 ∨ bt s 0 = 101 ∨ (48 ≤ bt s 0 ∧ bt s 0 ≤ 57)) (w : World) :
    Calls Tryz.prog 138 #[.string s, .string p] w fun e w' => e = .returned (.int .i64 0) ∧ w' = w := by
  have hix2 : ∀ w, (Instr.index 9 (.string p) (.int .i64 0)).run Tryz.prog w = .ok (.int .u8 105) w := fun w => by
    have := run_bt (w := w) (k := .i64) (z := 0) Tryz.underlying9 hp.1 rfl
    rw [h105] at this
    exact this
  obtain ⟨m, hm⟩ : ∃ m : Int, min (p.size : Int) (s.size : Int) = m := ⟨_, rfl⟩
  by_cases h0 : s.size = 0
  · have hm0 : m = 0 := by omega
    subst hm0
    have Hm := hid hm
    have H0 := hid h0
    clear hm h0 hC hix2
    go_enter Tryz.func138, Tryz.ntmps138
    go_upto_block 0 with fail
    rw [show min (p.size : Int) (s.size : Int) = 0 from Hm.out]
    go_wp2_with fail
    go_loopg [6] 1 (fun k iv wr => iv = .int .i64 0 ∧ wr = w)
    case atStart => exact ⟨rfl, rfl⟩
    case round =>
      obtain ⟨rfl, rfl⟩ := hrel
      go_wp2_with fail
      go_ret
      exact ⟨rfl, rfl⟩
  · have hm0 : 0 < m := by omega
    have hC := hC (by omega)
    have hix : ∀ w, (Instr.index 9 (.string s) (.int .i64 0)).run Tryz.prog w = .ok (.int .u8 (bt s 0 : Nat)) w := fun w => run_bt Tryz.underlying9 (by omega) rfl
    obtain ⟨c, hc⟩ : ∃ c, bt s 0 = c := ⟨_, rfl⟩
    rw [hc] at hix hC
    have n105 : ((c : Int) == 105) = false := by simp; omega
    have n105b : ((c : Int) != 105) = true := by simp; omega
    have Hm := hid hm
    clear hm h0 hc
    by_cases h65 : c < 65
    · have l1 : ¬ (65 : Int) ≤ (c : Int) := by omega
      clear hC
      go_enter Tryz.func138, Tryz.ntmps138
      go_upto_block 0 with fail
      rw [show min (p.size : Int) (s.size : Int) = m from Hm.out]
      go_wp2_with fail
      go_loopg [6] 1 (fun k iv wr => iv = .int .i64 0 ∧ wr = w)
      case atStart => exact ⟨rfl, rfl⟩
      case round =>
        obtain ⟨rfl, rfl⟩ := hrel
        go_wp2_with fail
        go_ret
        exact ⟨rfl, rfl⟩
    · have l1 : (65 : Int) ≤ (c : Int) := by omega
      have l2 : ¬ (c : Int) ≤ 90 := by omega
      clear hC
      go_enter Tryz.func138, Tryz.ntmps138
      go_upto_block 0 with fail
      rw [show min (p.size : Int) (s.size : Int) = m from Hm.out]
      go_wp2_with fail
      go_loopg [6] 1 (fun k iv wr => iv = .int .i64 0 ∧ wr = w)
      case atStart => exact ⟨rfl, rfl⟩
      case round =>
        obtain ⟨rfl, rfl⟩ := hrel
        go_wp2_with fail
        go_ret
        exact ⟨rfl, rfl⟩
theorem bt_ext1 {s : ByteArray} (h : 1 < s.size) : bt (s.extract 1 s.size) 0 = bt s 1 := by
  have h2 : 0 < (s.extract 1 s.size).size := by rw [ByteArray.size_extract]; omega
  rw [← bt_get h2, ← bt_get h]
  congr 1
  exact ByteArray.getElem_extract ..
theorem special_any (s : ByteArray) (hC : RC s) (hs : s.size ≤ 200) (w : World) :
    Calls Tryz.prog 120 #[.string s] w fun e w' => e = .returned (.tuple #[.float .f64 0, .int .i64 0, .bool false]) ∧ w' = w := by
  by_cases h0 : s.size = 0
  · have e0 : ((s.size : Int) == 0) = true := by simp [h0]
    have H0 := hid h0
    clear h0
    go_enter Tryz.func120, Tryz.ntmps120
    go_wp2_with fail
    go_ret3
    exact ⟨rfl, rfl⟩
  · have e0 : ((s.size : Int) == 0) = false := beq_eq_false_iff_ne.mpr (by omega)
    have h1 : 0 < s.size := by omega
    have hix : ∀ w, (Instr.index 9 (.string s) (.int .i64 0)).run Tryz.prog w = .ok (.int .u8 (bt s 0 : Nat)) w := fun w => run_bt Tryz.underlying9 h1 rfl
    have hcc := hC 0 h1
    obtain ⟨c, hc⟩ : ∃ c, bt s 0 = c := ⟨_, rfl⟩
    rw [hc] at hix hcc
    have HC := hid hC
    have Hc := hid hc
    clear hC hc
    by_cases h45 : c = 45
    · subst h45
      go_enter Tryz.func120, Tryz.ntmps120
      go_wp2_with fail
      refine (prefix0 (s.extract 1 s.size) _ (by rw [ByteArray.size_extract]; omega) (by decide) (by decide) (fun h => ?_) w).mono ?_
      · rw [ByteArray.size_extract] at h
        have e : bt (s.extract 1 s.size) 0 = bt s 1 := bt_ext1 (by omega)
        rw [e]
        exact HC.out 1 (by omega)
      · rintro e w' ⟨rfl, rfl⟩
        go_wp2_with fail
        go_ret3
        exact ⟨rfl, rfl⟩
    · 
      have n43 : ((c : Int) == 43) = false := by simp; omega
      have n45 : ((c : Int) == 45) = false := by simp; omega
      have n105 : ((c : Int) == 105) = false := by simp; omega
      have n73 : ((c : Int) == 73) = false := by simp; omega
      have n110 : ((c : Int) == 110) = false := by simp; omega
      have n78 : ((c : Int) == 78) = false := by simp; omega
      clear h45 hcc
      go_enter Tryz.func120, Tryz.ntmps120
      go_wp2_with fail
      go_ret3
      exact ⟨rfl, rfl⟩
end Go.Proofs.YtajpeeccomgnnaaGreatDoor
/-! The library's reading of a real, put together: bounds, tables. -/
namespace Go.Proofs.YtajpeeccomgnnaaGreatDoor
set_option linter.all false
open Go Go.RowKit
set_option maxRecDepth 100000
set_option maxHeartbeats 4000000

theorem rdM_inv (s : ByteArray) : ∀ (k : Nat) (r : Rs), r.m < 10 ^ r.nm → r.nm ≤ 19 → (rdM s k r).m < 10 ^ 19 ∧ (rdM s k r).i ≤ r.i + k
  | 0, r, h1, h2 => by
    have : (10 : Nat) ^ r.nm ≤ 10 ^ 19 := Nat.pow_le_pow_right (by omega) h2
    rw [rdM]
    exact ⟨by omega, by omega⟩
  | k + 1, r, h1, h2 => by
    have hp : (10 : Nat) ^ r.nm ≤ 10 ^ 19 := Nat.pow_le_pow_right (by omega) h2
    rw [rdM]
    split
    · split
      · exact ⟨by omega, by omega⟩
      · have := rdM_inv s k { r with i := r.i + 1, dp := (r.nd : Nat), dot := true } h1 h2
        refine ⟨this.1, Nat.le_trans this.2 ?_⟩
        show r.i + 1 + k ≤ _
        omega
    · split
      · rename_i hd
        split
        · have := rdM_inv s k { r with i := r.i + 1, dp := r.dp - 1, dig := true } h1 h2
          refine ⟨this.1, Nat.le_trans this.2 ?_⟩
          show r.i + 1 + k ≤ _
          omega
        · split
          · rename_i h19
            have := rdM_inv s k { r with i := r.i + 1, nd := r.nd + 1, nm := r.nm + 1, m := r.m * 10 + (bt s r.i - 48), dig := true } (by show r.m * 10 + (bt s r.i - 48) < 10 ^ (r.nm + 1); rw [Nat.pow_succ]; omega) h19
            refine ⟨this.1, Nat.le_trans this.2 ?_⟩
            show r.i + 1 + k ≤ _
            omega
          · have := rdM_inv s k { r with i := r.i + 1, nd := r.nd + 1, tr := if bt s r.i = 48 then r.tr else true, dig := true } h1 h2
            refine ⟨this.1, Nat.le_trans this.2 ?_⟩
            show r.i + 1 + k ≤ _
            omega
      · exact ⟨by omega, by omega⟩
theorem expE_le (s : ByteArray) : ∀ (k i e : Nat), (expE s k i e).1 ≤ i + k
  | 0, i, e => by rw [expE]; exact Nat.le_refl _
  | k + 1, i, e => by
    rw [expE]
    split
    · have := expE_le s k (i + 1) (if e < 10000 then e * 10 + (bt s i - 48) else e)
      omega
    · show i ≤ _; omega
theorem rdE_inv (s : ByteArray) (r : Rs) (p : Int) (h : r.i ≤ s.size) : (rdE s r p).m = r.m ∧ (rdE s r p).i ≤ s.size + 1 ∧ ((rdE s r p).ok = true → (rdE s r p).i ≤ s.size) := by
  unfold rdE
  have hj2 : (if bt s (r.i + 1) = 45 then r.i + 2 else r.i + 1) ≤ r.i + 2 := by split <;> omega
  generalize (if bt s (r.i + 1) = 45 then r.i + 2 else r.i + 1) = j at *
  generalize (if bt s (r.i + 1) = 45 then (-1 : Int) else 1) = sn at *
  by_cases h1 : r.i < s.size ∧ bt s r.i = 101
  · rw [if_pos h1]
    by_cases h2 : s.size ≤ r.i + 1
    · rw [if_pos h2]
      exact ⟨rfl, by show r.i + 1 ≤ _; omega, fun hx => by cases hx⟩
    · rw [if_neg h2]
      by_cases h3 : s.size ≤ j ∨ ¬ (48 ≤ bt s j ∧ bt s j ≤ 57)
      · rw [if_pos h3]
        exact ⟨rfl, by show j ≤ _; omega, fun hx => by cases hx⟩
      · rw [if_neg h3]
        have := expE_le s (s.size - j) j 0
        unfold rdX
        refine ⟨rfl, ?_, fun _ => ?_⟩
        · show (expE s (s.size - j) j 0).1 ≤ _; omega
        · show (expE s (s.size - j) j 0).1 ≤ _; omega
  · rw [if_neg h1]
    exact ⟨rfl, by show r.i ≤ _; omega, fun _ => h⟩
theorem rdR_inv (s : ByteArray) : (rdR s).m < 10 ^ 19 ∧ ((rdR s).ok = true → (rdR s).i ≤ s.size) := by
  unfold rdR
  split
  · exact ⟨by show 0 < _; decide, fun h => by cases h⟩
  · rename_i h0
    have h := rdM_inv s (s.size - (if bt s 0 = 45 then 1 else 0)) ⟨if bt s 0 = 45 then 1 else 0, false, false, 0, 0, 0, 0, false⟩ (by show (0 : Nat) < 10 ^ 0; decide) (Nat.zero_le _)
    generalize rdM s (s.size - (if bt s 0 = 45 then 1 else 0)) ⟨if bt s 0 = 45 then 1 else 0, false, false, 0, 0, 0, 0, false⟩ = r at *
    have h2 : r.i ≤ s.size := by
      have := h.2
      dsimp only at this
      split at this <;> omega
    dsimp only
    split
    · exact ⟨h.1, fun hx => by cases hx⟩
    · have := rdE_inv s r (if r.dot = true then r.dp else (r.nd : Nat)) h2
      exact ⟨by rw [this.1]; exact h.1, this.2.2⟩
theorem fb_zero (cd : Nat → Nat) (cs : Nat → ByteArray) (x off y off2 b : Nat) (D : Nat → Nat) (ng : Bool) (dp : Int) (tr : Bool) (w : World) (ht : Tf cd cs x off y off2 b w) (h : Dc w b D 0 dp ng tr) :
    Calls Tryz.prog 128 #[.pointer (some ⟨b, 0, none⟩), .pointer (some ⟨8, 0, none⟩)] w fun e w' => e = .returned (.tuple #[.int .u64 (outB 0 0 ng), .bool false]) ∧ Below b w w' := by
  have c0 : w.cell? ⟨b, 800, none⟩ = some (.int .i64 0) := h.n
  have cg := h.g
  have f0 := ht.f0
  have f1 := ht.f1
  have f2 := ht.f2
  unfold outB
  clear ht h
  go_enter Tryz.func128, Tryz.ntmps128
  go_wp2_with fail
  apply wp_scope_once 1 0 (by decide) rfl rfl
  go_wp2_with fail
  go_step3
  go_wp2_with fail
  refine Exit.to_else (by decide) (Exit.to_same ?_)
  go_wp2_with fail
  go_quiet (fail)
  cases ng
  · go_wp2_with fail
    (try rw [Exit.to_ret]); (try rw [Exit.noGoto_ret])
    go_ret2
    first | exact ⟨rfl, below_drewN (Below.refl _ _) _⟩ | exact ⟨rfl, below_drewN (below_drewN (Below.refl _ _) _) _⟩ | exact ⟨rfl, below_drewN (below_drewN (below_drewN (Below.refl _ _) _) _) _⟩
  · go_wp2_with fail
    go_quiet (fail)
    go_wp2_with fail
    (try rw [Exit.to_ret]); (try rw [Exit.noGoto_ret])
    go_ret2
    first | exact ⟨rfl, below_drewN (Below.refl _ _) _⟩ | exact ⟨rfl, below_drewN (below_drewN (Below.refl _ _) _) _⟩ | exact ⟨rfl, below_drewN (below_drewN (below_drewN (Below.refl _ _) _) _) _⟩
theorem Tb.mono {cd : Nat → Nat} {cs : Nat → ByteArray} {x off b b2 : Nat} {w : World} (h : Tb cd cs x off b w) (k : b ≤ b2) : Tb cd cs x off b2 w := ⟨by have := h.lo; omega, by have := h.lx; omega, h.g0, h.g1, h.g2⟩
theorem Tf.mono {cd : Nat → Nat} {cs : Nat → ByteArray} {x off y off2 b b2 : Nat} {w : World} (h : Tf cd cs x off y off2 b w) (k : b ≤ b2) : Tf cd cs x off y off2 b2 w := ⟨h.tb.mono k, by have := h.ly; omega, h.f0, h.f1, h.f2, h.p0, h.pp⟩
/-- All tables of the library's reals. -/
structure TT (cd : Nat → Nat) (cs : Nat → ByteArray) (x off y off2 : Nat) (pf : Nat → Nat) (z off3 : Nat) (ph pl : Nat → Nat) (B : Nat) (w : World) : Prop where
  tf : Tf cd cs x off y off2 B w
  te : Te pf z off3 w
  lz : z < B
  tp : Tp ph pl w
  op : w.cell? ⟨7, 0, none⟩ = some (.bool true)
theorem TT.keep {cd : Nat → Nat} {cs : Nat → ByteArray} {x off y off2 : Nat} {pf : Nat → Nat} {z off3 : Nat} {ph pl : Nat → Nat} {B : Nat} {w w' : World} (h : TT cd cs x off y off2 pf z off3 ph pl B w) (k : Below B w w') : TT cd cs x off y off2 pf z off3 ph pl B w' := by
  have hlo := h.tf.tb.lo
  exact ⟨h.tf.keep k, h.te.keep k (by omega) h.lz, h.lz, h.tp.keep k (by omega), by rw [k.cell (by simp; omega)]; exact h.op⟩
theorem TT.mono {cd : Nat → Nat} {cs : Nat → ByteArray} {x off y off2 : Nat} {pf : Nat → Nat} {z off3 : Nat} {ph pl : Nat → Nat} {B B2 : Nat} {w : World} (h : TT cd cs x off y off2 pf z off3 ph pl B w) (k : B ≤ B2) : TT cd cs x off y off2 pf z off3 ph pl B2 w := ⟨h.tf.mono k, h.te, by have := h.lz; omega, h.tp, h.op⟩
end Go.Proofs.YtajpeeccomgnnaaGreatDoor
/-! The library's reading of a real, walked: its answer depends on the text and the tables alone. -/
namespace Go.Proofs.YtajpeeccomgnnaaGreatDoor
set_option linter.all false
open Go Go.RowKit
set_option maxRecDepth 100000
set_option maxHeartbeats 8000000

theorem RC.take {s : ByteArray} (h : RC s) (n : Nat) : RC (s.extract 0 n) := by
  intro i hi
  have h2 : i < s.size := by rw [ByteArray.size_extract] at hi; omega
  have e : bt (s.extract 0 n) i = bt s i := by
    rw [← bt_get hi, ← bt_get h2]
    congr 1
    rw [ByteArray.getElem_extract]
    simp
  rw [e]; exact h i h2
theorem setM_ok (s : ByteArray) : ∀ (k : Nat) (m : Ms), Digs m.D m.nd → (0 < m.nd → m.D 0 ≠ 48) →
    Digs (setM s k m).D (setM s k m).nd ∧ (0 < (setM s k m).nd → (setM s k m).D 0 ≠ 48) ∧ (setM s k m).nd ≤ m.nd + k
  | 0, m, h1, h2 => ⟨h1, h2, Nat.le_refl _⟩
  | k + 1, m, h1, h2 => by
    unfold setM
    split
    · split
      · exact ⟨h1, h2, by show m.nd ≤ _; omega⟩
      · have := setM_ok s k { m with i := m.i + 1, dp := (m.nd : Nat), dot := true } h1 h2
        exact ⟨this.1, this.2.1, Nat.le_trans this.2.2 (by show m.nd + k ≤ _; omega)⟩
    · split
      · rename_i hd
        split
        · have := setM_ok s k { m with i := m.i + 1, dp := wrap64 (m.dp - 1), dig := true } h1 h2
          exact ⟨this.1, this.2.1, Nat.le_trans this.2.2 (by show m.nd + k ≤ _; omega)⟩
        · rename_i hz
          have := setM_ok s k { m with i := m.i + 1, D := upd m.D m.nd (bt s m.i), nd := m.nd + 1, dig := true } (fun i hi => by
            show 48 ≤ upd m.D m.nd (bt s m.i) i ∧ upd m.D m.nd (bt s m.i) i ≤ 57
            unfold upd
            split
            · exact hd
            · exact h1 i (by have hi : i < m.nd + 1 := hi; omega)) (fun _ => by
            show upd m.D m.nd (bt s m.i) 0 ≠ 48
            unfold upd
            split
            · intro e; exact hz ⟨e, by omega⟩
            · exact h2 (by omega))
          exact ⟨this.1, this.2.1, Nat.le_trans this.2.2 (by show m.nd + 1 + k ≤ _; omega)⟩
      · exact ⟨h1, h2, by show m.nd ≤ _; omega⟩
theorem setR_ok (s : ByteArray) (hs : s.size ≤ 200) : Sd0 (setR s).2 := by
  unfold setR
  split
  · exact ⟨by show 0 ≤ 800; omega, fun i hi => absurd hi (Nat.not_lt_zero _), fun h => absurd h (Nat.lt_irrefl _)⟩
  · have h := setM_ok s (s.size - (if bt s 0 = 45 then 1 else 0)) ⟨false, if bt s 0 = 45 then 1 else 0, fun _ => 0, 0, 0, false, false⟩ (fun i hi => absurd hi (Nat.not_lt_zero _)) (fun h => absurd h (Nat.lt_irrefl _))
    generalize setM s (s.size - (if bt s 0 = 45 then 1 else 0)) ⟨false, if bt s 0 = 45 then 1 else 0, fun _ => 0, 0, 0, false, false⟩ = m at h
    obtain ⟨h1, h2, h3⟩ := h
    have h3 : m.nd ≤ 800 := by
      have : m.nd ≤ 0 + (s.size - (if bt s 0 = 45 then 1 else 0)) := h3
      omega
    dsimp only
    split
    · exact ⟨h3, h1, h2⟩
    · unfold setE setX
      repeat' split
      all_goals exact ⟨h3, h1, h2⟩
def zeroB (z : Array Value) : Bool := (List.range 800).all fun i => match z[i]? with | some (.int .u8 0) => true | _ => false
theorem zero_at {z : Array Value} (h : zeroB z = true) {i : Nat} (hi : i < 800) : z[i]? = some (.int .u8 0) := by
  unfold zeroB at h
  rw [List.all_eq_true] at h
  have := h i (List.mem_range.mpr hi)
  split at this
  · assumption
  · cases this
theorem dc_made (w : World) : Dc (w.alloc (.cells Tryz.zeroCells159 159)) w.heap.size (fun _ => 0) 0 0 false false := by
  refine ⟨by simp, fun i hi => ?_, ?_, ?_, ?_, ?_, fun o => by simp [World.frozen?_alloc_new]⟩
  · rw [World.cell?_alloc_new]; exact zero_at (by kernel_rfl) hi
  · rw [World.cell?_alloc_new]; kernel_rfl
  · rw [World.cell?_alloc_new]; kernel_rfl
  · rw [World.cell?_alloc_new]; kernel_rfl
  · rw [World.cell?_alloc_new]; kernel_rfl
theorem atof64_ex (cd : Nat → Nat) (cs : Nat → ByteArray) (x off y off2 : Nat) (pf : Nat → Nat) (z off3 : Nat) (ph pl : Nat → Nat) (s : ByteArray) (hC : RC s) (hs : s.size ≤ 200) (hc : Cheats cd cs) (hz : ∀ i, i < 23 → NZ (pf i)) (hph : ∀ k, ph k < 18446744073709551616) (hpl : ∀ k, pl k < 18446744073709551616) :
    ∃ f n er, (er = .nilIface ∨ er = .iface 112 (.int .i64 1) ∨ er = .iface 112 (.int .i64 2)) ∧ ∀ w, TT cd cs x off y off2 pf z off3 ph pl w.heap.size w →
      Calls Tryz.prog 109 #[.string s] w fun e w' => e = .returned (.tuple #[.float .f64 f, .int .i64 n, er]) ∧ Below w.heap.size w w' := by
  have hinv := rdR_inv s
  have RD := fun w => read_any s hC hs w
  have SP := fun w => special_any s hC hs w
  generalize rdR s = R at *
  obtain ⟨d, p, tr, n, ok⟩ := R
  generalize decide (bt s 0 = 45) = ng at RD
  dsimp only at RD hinv
  obtain ⟨b1, hb1⟩ : ∃ t : Int, (if ng = true then (1 : Int) else 0) = t := ⟨_, rfl⟩
  have B1 : ∀ w, Calls Tryz.prog 129 #[.bool ng] w fun e w' => e = .returned (.int .u64 b1) ∧ w' = w := fun w => by
    have := b2u_any ng w
    rwa [hb1] at this
  have HR := hid RD
  have HS := hid SP
  have HB := hid B1
  have HC := hid hC
  have Hc := hid hc
  have Hz := hid hz
  clear RD SP B1 hC hc hz hb1
  cases ok
  · clear hinv hph hpl
    apply Exists.intro
    refine ⟨n, _, .inr (.inr rfl), fun w ht => ?_⟩
    clear ht
    go_enter Tryz.func109, Tryz.ntmps109
    go_wp2_with (first | (go_at_call 120; refine (HS.out _).mono ?_; rintro e w1 ⟨rfl, rfl⟩) | (go_at_call 121; refine (HR.out _).mono ?_; rintro e w1 ⟨rfl, rfl⟩))
    go_ret3
    exact ⟨rfl, Below.refl _ _⟩
  have hn := hinv.2 rfl
  have hd := hinv.1
  clear hinv
  by_cases hd0 : d = 0
  · have e0 : ((d : Int) == 0) = true := by simp [hd0]
    have Hd := hid hd0
    clear hph hpl hd0 hd
    apply Exists.intro
    refine ⟨n, _, .inl rfl, fun w ht => ?_⟩
    have op := ht.op
    clear ht
    go_enter Tryz.func109, Tryz.ntmps109
    go_wp2_with (first | (go_at_call 120; refine (HS.out _).mono ?_; rintro e w1 ⟨rfl, rfl⟩) | (go_at_call 121; refine (HR.out _).mono ?_; rintro e w1 ⟨rfl, rfl⟩) | (go_at_call 129; refine (HB.out _).mono ?_; rintro e w1 ⟨rfl, rfl⟩) | rw [frombits])
    go_ret3
    exact ⟨rfl, Below.refl _ _⟩
  have e0 : ((d : Int) == 0) = false := beq_eq_false_iff_ne.mpr (by omega)
  by_cases hp1 : 310 < p
  · have Hd := hid hd0
    clear hph hpl hd0 hd
    apply Exists.intro
    refine ⟨n, _, .inr (.inl rfl), fun w ht => ?_⟩
    have op := ht.op
    clear ht
    go_enter Tryz.func109, Tryz.ntmps109
    go_wp2_with (first | (go_at_call 120; refine (HS.out _).mono ?_; rintro e w1 ⟨rfl, rfl⟩) | (go_at_call 121; refine (HR.out _).mono ?_; rintro e w1 ⟨rfl, rfl⟩) | (go_at_call 129; refine (HB.out _).mono ?_; rintro e w1 ⟨rfl, rfl⟩) | rw [frombits])
    go_ret3
    exact ⟨rfl, Below.refl _ _⟩
  have Hp1 := hid (show p ≤ 310 by omega)
  by_cases hp2 : p < -345
  · have Hd := hid hd0
    have Hp2 := hid hp2
    clear hph hpl hd0 hd hp1 hp2
    refine ⟨(bits BinOp.or IntKind.u64 (IntKind.u64.wrap (b1 * 9223372036854775808)) 0).toNat, n, .nilIface, .inl rfl, fun w ht => ?_⟩
    have op := ht.op
    clear ht
    go_enter Tryz.func109, Tryz.ntmps109
    go_upto_region 14 with (first | (go_at_call 120; refine (HS.out _).mono ?_; rintro e w1 ⟨rfl, rfl⟩) | (go_at_call 121; refine (HR.out _).mono ?_; rintro e w1 ⟨rfl, rfl⟩) | (go_at_call 129; refine (HB.out _).mono ?_; rintro e w1 ⟨rfl, rfl⟩))
    have hp1 := Hp1.out
    have hp2 := Hp2.out
    go_upto_if 16 with fail
    rw [frombits]
    go_wp2_with fail
    go_ret3
    exact ⟨rfl, Below.refl _ _⟩
  have Hp2 := hid (show -345 ≤ p by omega)
  obtain ⟨k, hk0⟩ : ∃ k : Nat, p = (k : Int) - 348 := ⟨(p + 348).toNat, by omega⟩
  have hk : 3 ≤ k ∧ k ≤ 658 := by omega
  obtain ⟨f0, ok0, hx0⟩ := exact_ex pf z off3 Hz.out d p ng
  obtain ⟨f1, er1, her1, hp1'⟩ := parse64_ex ph pl d k (IntKind.u64.wrap (b1 * 9223372036854775808)) ⟨by omega, by omega⟩ hk hph hpl
  rw [← hk0] at hp1'
  have HX0 := hid hx0
  have HP1 := hid hp1'
  have Hd := hid (And.intro hd0 (And.intro hd (And.intro hk0 hk)))
  clear hx0 hp1' hd0 hd hp1 hp2 hk0 hk
  cases tr
  · clear hph hpl
    cases ok0
    · have her : er1 = .nilIface ∨ er1 = .iface 112 (.int .i64 1) ∨ er1 = .iface 112 (.int .i64 2) := by rcases her1 with h | h <;> simp [h]
      have Her := hid her
      clear her her1
      refine ⟨f1, n, er1, Her.out, fun w ht => ?_⟩
      have op := ht.op
      have Te0 := hid ht.te
      have Tp0 := hid ht.tp
      have hlt := hid (show 12 < w.heap.size by have := ht.tf.tb.lo; omega)
      clear ht
      go_enter Tryz.func109, Tryz.ntmps109
      go_upto_region 14 with (first | (go_at_call 120; refine (HS.out _).mono ?_; rintro e w1 ⟨rfl, rfl⟩) | (go_at_call 121; refine (HR.out _).mono ?_; rintro e w1 ⟨rfl, rfl⟩) | (go_at_call 129; refine (HB.out _).mono ?_; rintro e w1 ⟨rfl, rfl⟩))
      have hp1 := Hp1.out
      have hp2 := Hp2.out
      go_upto_if 16 with fail
      go_wp2_with (first | (go_at_call 131; refine (HX0.out _ Te0.out).mono ?_; rintro e w1 ⟨rfl, rfl⟩) | (go_at_call 132; refine (HP1.out _ hlt.out Tp0.out).mono ?_; rintro e w2 ⟨rfl, hb2⟩))
      go_ret3
      exact ⟨rfl, hb2⟩
    · have Her := hid her1
      clear her1
      refine ⟨f0, n, .nilIface, .inl rfl, fun w ht => ?_⟩
      have op := ht.op
      have Te0 := hid ht.te
      clear ht
      go_enter Tryz.func109, Tryz.ntmps109
      go_upto_region 14 with (first | (go_at_call 120; refine (HS.out _).mono ?_; rintro e w1 ⟨rfl, rfl⟩) | (go_at_call 121; refine (HR.out _).mono ?_; rintro e w1 ⟨rfl, rfl⟩) | (go_at_call 129; refine (HB.out _).mono ?_; rintro e w1 ⟨rfl, rfl⟩))
      have hp1 := Hp1.out
      have hp2 := Hp2.out
      go_upto_if 16 with fail
      go_wp2_with (go_at_call 131; refine (HX0.out _ Te0.out).mono ?_; rintro e w1 ⟨rfl, rfl⟩)
      go_ret3
      exact ⟨rfl, Below.refl _ _⟩
  have hd1 : d + 1 < 18446744073709551616 := by have := Hd.out.2.1; omega
  obtain ⟨f2, er2, her2, hp3⟩ := parse64_ex ph pl (d + 1) k (IntKind.u64.wrap (b1 * 9223372036854775808)) ⟨by omega, hd1⟩ Hd.out.2.2.2 hph hpl
  have ew : IntKind.u64.wrap ((d : Int) + 1) = ((d + 1 : Nat) : Int) := by rw [IntWalk.u64_in _ (by omega)]; omega
  rw [← Hd.out.2.2.1, ← ew] at hp3
  have HP2 := hid hp3
  clear hp3 her2 hd1 ew hph hpl
  have her : er1 = .nilIface ∨ er1 = .iface 112 (.int .i64 1) ∨ er1 = .iface 112 (.int .i64 2) := by rcases her1 with h | h <;> simp [h]
  have Her := hid her
  clear her her1
  by_cases hq : (FloatKind.f64.format.order f1 f2 == some Ordering.eq) = true
  · refine ⟨f1, n, er1, Her.out, fun w ht => ?_⟩
    have op := ht.op
    have Tp0 := hid ht.tp
    have hlt := hid (show 12 < w.heap.size by have := ht.tf.tb.lo; omega)
    clear ht
    go_enter Tryz.func109, Tryz.ntmps109
    go_upto_region 14 with (first | (go_at_call 120; refine (HS.out _).mono ?_; rintro e w1 ⟨rfl, rfl⟩) | (go_at_call 121; refine (HR.out _).mono ?_; rintro e w1 ⟨rfl, rfl⟩) | (go_at_call 129; refine (HB.out _).mono ?_; rintro e w1 ⟨rfl, rfl⟩))
    have hp1 := Hp1.out
    have hp2 := Hp2.out
    go_upto_if 16 with fail
    go_upto_region 25 with (go_at_call 132; refine (HP1.out _ hlt.out Tp0.out).mono ?_; rintro e w2 ⟨rfl, hb2⟩)
    have hbs2 := hb2.size
    have HB2 := hid hb2
    have hlt2 := hid (show 12 < w2.heap.size by have := hlt.out; omega)
    have Tp2 := hid (Tp0.out.keep hb2 hlt.out)
    clear hb2 hbs2
    go_upto_region 26 with (go_at_call 132; refine (HP2.out _ hlt2.out Tp2.out).mono ?_; rintro e w3 ⟨rfl, hb3⟩)
    have hb3w := HB2.out.trans (hb3.mono HB2.out.size)
    have HB3 := hid hb3w
    clear hb3 hb3w
    go_wp2_with fail
    go_ret3
    exact ⟨rfl, HB3.out⟩
  have hq : (FloatKind.f64.format.order f1 f2 == some Ordering.eq) = false := by simpa using hq
  have SET := fun w b h => set_any (s.extract 0 n) (HC.out.take n) (by rw [ByteArray.size_extract]; omega) b false false w h
  generalize decide (bt (s.extract 0 n) 0 = 45) = ng2 at SET
  have hS := setR_ok (s.extract 0 n) (by rw [ByteArray.size_extract]; omega)
  generalize setR (s.extract 0 n) = SR at SET hS
  obtain ⟨g, S⟩ := SR
  dsimp only at SET hS
  have SET2 : ∀ w b, Dc w b (fun _ => 0) 0 0 false false → Calls Tryz.prog 127 #[.pointer (some ⟨b, 0, none⟩), .string (s.extract 0 n)] w fun e w' => e = .returned (.bool g) ∧ Below b w w' ∧ (g = true → DwS w b w' S ng2) := fun w b h => (SET w b h).mono fun e w' hh => ⟨hh.1, hh.2.2.1, hh.2.2.2⟩
  have HSET := hid SET2
  clear SET SET2
  cases g
  · refine ⟨0, n, .iface 112 (.int .i64 2), .inr (.inr rfl), fun w ht => ?_⟩
    have HT := hid ht.tf
    have op := ht.op
    have Tp0 := hid ht.tp
    have hlt := hid (show 12 < w.heap.size by have := ht.tf.tb.lo; omega)
    clear ht
    go_enter Tryz.func109, Tryz.ntmps109
    go_upto_region 14 with (first | (go_at_call 120; refine (HS.out _).mono ?_; rintro e w1 ⟨rfl, rfl⟩) | (go_at_call 121; refine (HR.out _).mono ?_; rintro e w1 ⟨rfl, rfl⟩) | (go_at_call 129; refine (HB.out _).mono ?_; rintro e w1 ⟨rfl, rfl⟩))
    have hp1 := Hp1.out
    have hp2 := Hp2.out
    go_upto_if 16 with fail
    go_upto_region 25 with (go_at_call 132; refine (HP1.out _ hlt.out Tp0.out).mono ?_; rintro e w2 ⟨rfl, hb2⟩)
    have hbs2 := hb2.size
    have HB2 := hid hb2
    have hlt2 := hid (show 12 < w2.heap.size by have := hlt.out; omega)
    have Tp2 := hid (Tp0.out.keep hb2 hlt.out)
    clear hb2 hbs2
    go_upto_region 26 with (go_at_call 132; refine (HP2.out _ hlt2.out Tp2.out).mono ?_; rintro e w3 ⟨rfl, hb3⟩)
    have hb3w := HB2.out.trans (hb3.mono HB2.out.size)
    have HB3 := hid hb3w
    clear hb3 hb3w
    go_wp2_with (go_at_call 127; refine (HSET.out _ _ (dc_made w3)).mono ?_; rintro e w4 ⟨rfl, hb4, hd4⟩; have HB5 := hid (HB3.out.trans (((below_alloc w3 (.cells Tryz.zeroCells159 159)).trans hb4).mono HB3.out.size)); have HT5 := hid (((HT.out.keep HB3.out).mono HB3.out.size).keep ((below_alloc w3 (.cells Tryz.zeroCells159 159)).trans hb4)); have HD5 := hid hd4; clear hb4 hd4)
    go_ret3
    exact ⟨rfl, HB5.out⟩
  have DG : Hid (∀ w b w', (true = true → DwS w b w' S ng2) → DcS w' b S ng2) := hid fun w b w' h => (h rfl).dc
  by_cases hn0 : S.nd = 0
  · refine ⟨(outB 0 0 ng2).toNat, n, .nilIface, .inl rfl, fun w ht => ?_⟩
    have HT := hid ht.tf
    have Hn0 := hid hn0
    clear hn0
    have op := ht.op
    have Tp0 := hid ht.tp
    have hlt := hid (show 12 < w.heap.size by have := ht.tf.tb.lo; omega)
    clear ht
    go_enter Tryz.func109, Tryz.ntmps109
    go_upto_region 14 with (first | (go_at_call 120; refine (HS.out _).mono ?_; rintro e w1 ⟨rfl, rfl⟩) | (go_at_call 121; refine (HR.out _).mono ?_; rintro e w1 ⟨rfl, rfl⟩) | (go_at_call 129; refine (HB.out _).mono ?_; rintro e w1 ⟨rfl, rfl⟩))
    have hp1 := Hp1.out
    have hp2 := Hp2.out
    go_upto_if 16 with fail
    go_upto_region 25 with (go_at_call 132; refine (HP1.out _ hlt.out Tp0.out).mono ?_; rintro e w2 ⟨rfl, hb2⟩)
    have hbs2 := hb2.size
    have HB2 := hid hb2
    have hlt2 := hid (show 12 < w2.heap.size by have := hlt.out; omega)
    have Tp2 := hid (Tp0.out.keep hb2 hlt.out)
    clear hb2 hbs2
    go_upto_region 26 with (go_at_call 132; refine (HP2.out _ hlt2.out Tp2.out).mono ?_; rintro e w3 ⟨rfl, hb3⟩)
    have hb3w := HB2.out.trans (hb3.mono HB2.out.size)
    have HB3 := hid hb3w
    clear hb3 hb3w
    go_wp2_with (first | (go_at_call 127; refine (HSET.out _ _ (dc_made w3)).mono ?_; rintro e w4 ⟨rfl, hb4, hd4⟩; have HB5 := hid (HB3.out.trans (((below_alloc w3 (.cells Tryz.zeroCells159 159)).trans hb4).mono HB3.out.size)); have HT5 := hid (((HT.out.keep HB3.out).mono HB3.out.size).keep ((below_alloc w3 (.cells Tryz.zeroCells159 159)).trans hb4)); have HD5 := hid hd4; clear hb4 hd4) | (go_at_call 128; refine (fb_zero cd cs x off y off2 _ S.D ng2 S.dp S.tr _ HT5.out (by have := DG.out _ _ _ HD5.out; unfold DcS at this; rw [Hn0.out] at this; exact this)).mono ?_; rintro e w5 ⟨rfl, hb5⟩; have HB6 := hid (HB5.out.trans (hb5.mono HB3.out.size)); clear hb5) | rw [frombits])
    go_ret3
    exact ⟨rfl, HB6.out⟩
  have hok : SdOk S := ⟨by omega, hS.le, hS.dg, hS.top (by omega)⟩
  have FB := fun w b h1 h2 => fb_any cd cs x off y off2 b S ng2 w Hc.out h1 hok h2
  generalize fbits cd cs S ng2 = FR at FB
  obtain ⟨fr, fo⟩ := FR
  dsimp only at FB
  have HFB := hid FB
  clear FB
  cases fo
  · refine ⟨fr.toNat, n, .nilIface, .inl rfl, fun w ht => ?_⟩
    have HT := hid ht.tf
    have op := ht.op
    have Tp0 := hid ht.tp
    have hlt := hid (show 12 < w.heap.size by have := ht.tf.tb.lo; omega)
    clear ht
    go_enter Tryz.func109, Tryz.ntmps109
    go_upto_region 14 with (first | (go_at_call 120; refine (HS.out _).mono ?_; rintro e w1 ⟨rfl, rfl⟩) | (go_at_call 121; refine (HR.out _).mono ?_; rintro e w1 ⟨rfl, rfl⟩) | (go_at_call 129; refine (HB.out _).mono ?_; rintro e w1 ⟨rfl, rfl⟩))
    have hp1 := Hp1.out
    have hp2 := Hp2.out
    go_upto_if 16 with fail
    go_upto_region 25 with (go_at_call 132; refine (HP1.out _ hlt.out Tp0.out).mono ?_; rintro e w2 ⟨rfl, hb2⟩)
    have hbs2 := hb2.size
    have HB2 := hid hb2
    have hlt2 := hid (show 12 < w2.heap.size by have := hlt.out; omega)
    have Tp2 := hid (Tp0.out.keep hb2 hlt.out)
    clear hb2 hbs2
    go_upto_region 26 with (go_at_call 132; refine (HP2.out _ hlt2.out Tp2.out).mono ?_; rintro e w3 ⟨rfl, hb3⟩)
    have hb3w := HB2.out.trans (hb3.mono HB2.out.size)
    have HB3 := hid hb3w
    clear hb3 hb3w
    go_wp2_with (first | (go_at_call 127; refine (HSET.out _ _ (dc_made w3)).mono ?_; rintro e w4 ⟨rfl, hb4, hd4⟩; have HB5 := hid (HB3.out.trans (((below_alloc w3 (.cells Tryz.zeroCells159 159)).trans hb4).mono HB3.out.size)); have HT5 := hid (((HT.out.keep HB3.out).mono HB3.out.size).keep ((below_alloc w3 (.cells Tryz.zeroCells159 159)).trans hb4)); have HD5 := hid hd4; clear hb4 hd4) | (go_at_call 128; refine (HFB.out _ _ HT5.out (DG.out _ _ _ HD5.out)).mono ?_; rintro e w5 ⟨rfl, hb5⟩; have HB6 := hid (HB5.out.trans (hb5.mono HB3.out.size)); clear hb5) | rw [frombits])
    go_ret3
    exact ⟨rfl, HB6.out⟩
  · refine ⟨fr.toNat, n, .iface 112 (.int .i64 1), .inr (.inl rfl), fun w ht => ?_⟩
    have HT := hid ht.tf
    have op := ht.op
    have Tp0 := hid ht.tp
    have hlt := hid (show 12 < w.heap.size by have := ht.tf.tb.lo; omega)
    clear ht
    go_enter Tryz.func109, Tryz.ntmps109
    go_upto_region 14 with (first | (go_at_call 120; refine (HS.out _).mono ?_; rintro e w1 ⟨rfl, rfl⟩) | (go_at_call 121; refine (HR.out _).mono ?_; rintro e w1 ⟨rfl, rfl⟩) | (go_at_call 129; refine (HB.out _).mono ?_; rintro e w1 ⟨rfl, rfl⟩))
    have hp1 := Hp1.out
    have hp2 := Hp2.out
    go_upto_if 16 with fail
    go_upto_region 25 with (go_at_call 132; refine (HP1.out _ hlt.out Tp0.out).mono ?_; rintro e w2 ⟨rfl, hb2⟩)
    have hbs2 := hb2.size
    have HB2 := hid hb2
    have hlt2 := hid (show 12 < w2.heap.size by have := hlt.out; omega)
    have Tp2 := hid (Tp0.out.keep hb2 hlt.out)
    clear hb2 hbs2
    go_upto_region 26 with (go_at_call 132; refine (HP2.out _ hlt2.out Tp2.out).mono ?_; rintro e w3 ⟨rfl, hb3⟩)
    have hb3w := HB2.out.trans (hb3.mono HB2.out.size)
    have HB3 := hid hb3w
    clear hb3 hb3w
    go_wp2_with (first | (go_at_call 127; refine (HSET.out _ _ (dc_made w3)).mono ?_; rintro e w4 ⟨rfl, hb4, hd4⟩; have HB5 := hid (HB3.out.trans (((below_alloc w3 (.cells Tryz.zeroCells159 159)).trans hb4).mono HB3.out.size)); have HT5 := hid (((HT.out.keep HB3.out).mono HB3.out.size).keep ((below_alloc w3 (.cells Tryz.zeroCells159 159)).trans hb4)); have HD5 := hid hd4; clear hb4 hd4) | (go_at_call 128; refine (HFB.out _ _ HT5.out (DG.out _ _ _ HD5.out)).mono ?_; rintro e w5 ⟨rfl, hb5⟩; have HB6 := hid (HB5.out.trans (hb5.mono HB3.out.size)); clear hb5) | rw [frombits])
    go_ret3
    exact ⟨rfl, HB6.out⟩
end Go.Proofs.YtajpeeccomgnnaaGreatDoor
