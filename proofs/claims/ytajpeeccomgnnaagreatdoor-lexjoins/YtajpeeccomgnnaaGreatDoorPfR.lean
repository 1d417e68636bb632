/-
  The library's reading of a real's text, walked.
-/
import Derived.Test.YtajpeeccomgnnaaGreatDoorPdG
import Derived.BigQuiet
import Derived.WalkMore
namespace Go.Proofs.YtajpeeccomgnnaaGreatDoor
set_option linter.all false
open Go Go.RowKit

theorem results_tmp7 {fn : Func} {a b c d e f g : Tmp} (h : fn.results = #[.tmp a, .tmp b, .tmp c, .tmp d, .tmp e, .tmp f, .tmp g]) (tmps : Array Value) (P : Program) (w : World) :
    (results fn tmps).run P w = .ok (.tuple #[tmps.getD a undef, tmps.getD b undef, tmps.getD c undef, tmps.getD d undef, tmps.getD e undef, tmps.getD f undef, tmps.getD g undef]) w := by
  simp [results, h]
/-- A real's text half read. -/
structure Rs where
  i : Nat
  dot : Bool
  dig : Bool
  nd : Nat
  nm : Nat
  dp : Int
  m : Nat
  tr : Bool
def rdM (s : ByteArray) : Nat → Rs → Rs
  | 0, r => r
  | k + 1, r =>
    if bt s r.i = 46 then (if r.dot then r else rdM s k { r with i := r.i + 1, dp := (r.nd : Nat), dot := true })
    else if 48 ≤ bt s r.i ∧ bt s r.i ≤ 57 then
      (if bt s r.i = 48 ∧ r.nd = 0 then rdM s k { r with i := r.i + 1, dp := r.dp - 1, dig := true }
      else if r.nm < 19 then rdM s k { r with i := r.i + 1, nd := r.nd + 1, nm := r.nm + 1, m := r.m * 10 + (bt s r.i - 48), dig := true }
      else rdM s k { r with i := r.i + 1, nd := r.nd + 1, tr := if bt s r.i = 48 then r.tr else true, dig := true })
    else r
/-- What is answered: mantissa, exponent, sign, was something cut off, how far, well formed? -/
structure Rr where
  m : Nat
  e : Int
  tr : Bool
  i : Nat
  ok : Bool
def rdX (s : ByteArray) (r : Rs) (j : Nat) (sn : Int) (p : Int) : Rr :=
  ⟨r.m, if r.m = 0 then 0 else wrap64 (wrap64 (p + wrap64 (((expE s (s.size - j) j 0).2 : Nat) * sn)) - (r.nm : Nat)), r.tr, (expE s (s.size - j) j 0).1, true⟩
def rdE (s : ByteArray) (r : Rs) (p : Int) : Rr :=
  if r.i < s.size ∧ bt s r.i = 101 then
    if s.size ≤ r.i + 1 then ⟨r.m, 0, r.tr, r.i + 1, false⟩ else
    if s.size ≤ (if bt s (r.i + 1) = 45 then r.i + 2 else r.i + 1) ∨ ¬ (48 ≤ bt s (if bt s (r.i + 1) = 45 then r.i + 2 else r.i + 1) ∧ bt s (if bt s (r.i + 1) = 45 then r.i + 2 else r.i + 1) ≤ 57) then ⟨r.m, 0, r.tr, if bt s (r.i + 1) = 45 then r.i + 2 else r.i + 1, false⟩
    else rdX s r (if bt s (r.i + 1) = 45 then r.i + 2 else r.i + 1) (if bt s (r.i + 1) = 45 then -1 else 1) p
  else ⟨r.m, if r.m = 0 then 0 else p - (r.nm : Nat), r.tr, r.i, true⟩
def rdR (s : ByteArray) : Rr :=
  if s.size = 0 then ⟨0, 0, false, 0, false⟩ else
  let r := rdM s (s.size - (if bt s 0 = 45 then 1 else 0)) ⟨if bt s 0 = 45 then 1 else 0, false, false, 0, 0, 0, 0, false⟩
  if r.dig = false then ⟨r.m, 0, r.tr, r.i, false⟩ else rdE s r (if r.dot then r.dp else (r.nd : Nat))
set_option maxRecDepth 100000 in
set_option maxHeartbeats 8000000 in
theorem read_any (s : ByteArray) (hC : RC s) (hs : s.size ≤ 200) (w : World) :
    Calls Tryz.prog 121 #[.string s] w fun e w' => e = .returned (.tuple #[.int .u64 ((rdR s).m : Nat), .int .i64 (rdR s).e, .bool (decide (bt s 0 = 45)), .bool (rdR s).tr, .bool false, .int .i64 ((rdR s).i : Nat), .bool (rdR s).ok]) ∧ w' = w := by
  obtain ⟨R, hR⟩ : ∃ R, rdR s = R := ⟨_, rfl⟩
  rw [hR]
  obtain ⟨R1, R2, R3, R4, R5⟩ := R
  dsimp only
  have HC := hid hC
  unfold rdR at hR
  clear hC
  by_cases h0 : s.size = 0
  · rw [if_pos h0] at hR
    injection hR with a1 a2 a3 a4 a5
    subst a1 a2 a3 a4 a5
    have hse : s = ByteArray.empty := by
      rcases s with ⟨⟨l⟩⟩
      cases l with
      | nil => rfl
      | cons a l => simp [ByteArray.size] at h0
    subst hse
    have hb0 : (decide (bt ByteArray.empty 0 = 45)) = false := by decide
    rw [hb0]
    clear h0 hb0
    go_enter Tryz.func121, Tryz.ntmps121
    go_wp2_with fail
    go_step3
    go_wp2_with fail
    (try rw [Exit.noGoto_ret])
    refine bodyPost_ret (results_tmp7 rfl _ _ _) rfl ?_
    exact ⟨rfl, rfl⟩
  rw [if_neg h0] at hR
  have h1 : 0 < s.size := by omega
  clear h0
  obtain ⟨sg, hsg⟩ : ∃ sg : Nat, (if bt s 0 = 45 then 1 else 0) = sg := ⟨_, rfl⟩
  rw [hsg] at hR
  have hsg1 : sg ≤ 1 := by rw [← hsg]; split <;> omega
  obtain ⟨M, hM⟩ : ∃ M, rdM s (s.size - sg) ⟨sg, false, false, 0, 0, 0, 0, false⟩ = M := ⟨_, rfl⟩
  rw [hM] at hR
  dsimp only at hR
  have HM := hid hM
  have HR := hid hR
  have Hsg := hid hsg
  obtain ⟨ng2, hng2⟩ : ∃ x, decide (bt s 0 = 45) = x := ⟨_, rfl⟩
  rw [hng2]
  have Hng := hid hng2
  clear hM hR hsg hng2
  have hix : ∀ w, (Instr.index 9 (.string s) (.int .i64 0)).run Tryz.prog w = .ok (.int .u8 (bt s 0 : Nat)) w := fun w => run_bt Tryz.underlying9 h1 rfl
  obtain ⟨z, hz⟩ : ∃ z, bt s 0 = z := ⟨_, rfl⟩
  have hzc := HC.out 0 h1
  rw [hz] at hix hzc
  have HZ := hid hz
  clear hz
  have hse : ¬ s = ByteArray.empty := by intro e; subst e; exact absurd h1 (by decide)
  go_enter Tryz.func121, Tryz.ntmps121
  go_wp2_with fail
  go_step3
  go_upto_block 0 with fail
  go_cut [7, 4] from 28 to 35 (fun iv nv wx => iv = .int .i64 (sg : Nat) ∧ nv = .bool ng2 ∧ wx = w)
  case first =>
    by_cases h45 : z = 45
    · subst h45
      have e1 : sg = 1 := by have := Hsg.out; rw [if_pos HZ.out] at this; exact this.symm
      have e2 : ng2 = true := by rw [← Hng.out, show bt s 0 = 45 from HZ.out]; rfl
      subst e1 e2
      go_wp2_with fail
      go_meet
      exact ⟨rfl, rfl, rfl⟩
    · have e1 : sg = 0 := by have := Hsg.out; rw [if_neg (by rw [HZ.out]; exact h45)] at this; exact this.symm
      have e2 : ng2 = false := by rw [← Hng.out, show bt s 0 = z from HZ.out]; simpa using h45
      subst e1 e2
      have n43 : ((z : Int) == 43) = false := by simp; omega
      have n45 : ((z : Int) == 45) = false := by simp; omega
      go_wp2_with fail
      go_meet
      exact ⟨rfl, rfl, rfl⟩
  case rest =>
  obtain ⟨rfl, rfl, rfl⟩ := hcut
  clear hix hzc
  go_upto_region 12 with fail
  go_cut [54] from 36 to 54 (fun v wx => v = .bool false ∧ wx = wc)
  case first =>
    by_cases h2 : sg + 2 < s.size
    · have h2i : (sg : Int) + 2 < s.size := by omega
      have hix : ∀ w, (Instr.index 9 (.string s) (.int .i64 (sg : Int))).run Tryz.prog w = .ok (.int .u8 (bt s sg : Nat)) w := fun w => run_bt Tryz.underlying9 (by omega) rfl
      have hix2 : ∀ w, (Instr.index 9 (.string s) (.int .i64 ((sg : Int) + 1))).run Tryz.prog w = .ok (.int .u8 (bt s (sg + 1) : Nat)) w := fun w => run_bt Tryz.underlying9 (by omega) (by omega)
      have hc2 := HC.out (sg + 1) (by omega)
      obtain ⟨c1, hc1⟩ : ∃ c, bt s sg = c := ⟨_, rfl⟩
      obtain ⟨c2, hc2'⟩ : ∃ c, bt s (sg + 1) = c := ⟨_, rfl⟩
      rw [hc1] at hix
      rw [hc2'] at hix2 hc2
      have n120 : ((c2 : Int) == 120) = false := by simp; omega
      have Hc2 := hid hc2
      clear hc1 hc2 hc2'
      by_cases h48 : c1 = 48
      · subst h48
        go_wp2_with (refine (lower_any Hc2.out _).mono ?_; rintro e w' ⟨rfl, rfl⟩)
        go_meet
        exact ⟨rfl, rfl⟩
      · have n48 : ((c1 : Int) == 48) = false := by simp; omega
        have H48 := hid h48
        clear h48
        go_wp2_with fail
        go_meet
        exact ⟨rfl, rfl⟩
    · have h2i : ¬ (sg : Int) + 2 < s.size := by omega
      go_wp2_with fail
      go_meet
      exact ⟨rfl, rfl⟩
  case rest =>
  obtain ⟨rfl, rfl⟩ := hcut
  go_upto_block 1 with fail
  go_step3
  go_upto_block 1 with fail
  go_cut [2, 5, 7, 9, 13, 14, 15, 16, 17, 18] from 57 to 138 (fun mv tv iv uv dv gv nv kv pv _ wx => mv = .int .u64 (M.m : Nat) ∧ tv = .bool M.tr ∧ iv = .int .i64 (M.i : Nat) ∧ dv = .bool M.dot ∧ gv = .bool M.dig ∧ nv = .int .i64 (M.nd : Nat) ∧ kv = .int .i64 (M.nm : Nat) ∧ pv = .int .i64 M.dp ∧ M.i ≤ s.size ∧ M.nd ≤ 200 ∧ M.nm ≤ 19 ∧ (-200 ≤ M.dp ∧ M.dp ≤ 200) ∧ uv = .bool false ∧ wx = wc)
  case first =>
    go_wp2_with fail
    go_loopg [2, 5, 7, 9, 13, 14, 15, 16, 17, 18] (s.size - sg) (fun g mv tv iv uv dv gv nv kv pv _ wr => ∃ i dot dig nd nm dp m tr, mv = .int .u64 ((m : Nat) : Int) ∧ tv = .bool tr ∧ iv = .int .i64 ((i : Nat) : Int) ∧ dv = .bool dot ∧ gv = .bool dig ∧ nv = .int .i64 ((nd : Nat) : Int) ∧ kv = .int .i64 ((nm : Nat) : Int) ∧ pv = .int .i64 dp ∧ g + i = s.size ∧ nd ≤ i ∧ nm ≤ 19 ∧ (-(i : Int) ≤ dp ∧ dp ≤ i) ∧ Hid (m < 10 ^ nm) ∧ Hid (rdM s g ⟨i, dot, dig, nd, nm, dp, m, tr⟩ = M) ∧ uv = .bool false ∧ wr = wc)
    case atStart => exact ⟨sg, false, false, 0, 0, 0, 0, false, rfl, rfl, rfl, rfl, rfl, rfl, rfl, rfl, by omega, by omega, by omega, by omega, hid (by decide), HM, rfl, rfl⟩
    case round =>
      obtain ⟨i, dot, dig, nd, nm, dp, m, tr, rfl, rfl, rfl, rfl, rfl, rfl, rfl, rfl, hgi, hni, hnm, hdp, hm10, hm, rfl, rfl⟩ := hrel
      have hb1 : nd ≤ 200 := by omega
      have hb2 : nm ≤ 19 := hnm
      have hb3 : -200 ≤ dp ∧ dp ≤ 200 := by omega
      rcases gk with _ | g
      · obtain rfl : i = s.size := by omega
        have hm2 := hm.out
        rw [rdM] at hm2
        subst hm2
        go_wp2_with fail
        go_meet
        exact ⟨rfl, rfl, rfl, rfl, rfl, rfl, rfl, rfl, Nat.le_refl _, hb1, hb2, hb3, rfl, rfl⟩
      · have hlt : i < s.size := by omega
        have hix : ∀ w, (Instr.index 9 (.string s) (.int .i64 (i : Int))).run Tryz.prog w = .ok (.int .u8 (bt s i : Nat)) w := fun w => run_bt Tryz.underlying9 hlt rfl
        have hm2 := hm.out
        rw [rdM] at hm2
        dsimp only at hm2
        have hcc := HC.out i hlt
        obtain ⟨c, hc⟩ : ∃ c, bt s i = c := ⟨_, rfl⟩
        rw [hc] at hix hm2 hcc
        have HCc := hid hc
        clear hc hm
        by_cases h46 : c = 46
        · subst h46
          rw [if_pos rfl] at hm2
          cases dot
          · rw [if_neg (by simp)] at hm2
            have hm := hid hm2
            clear hm2 hcc
            go_wp2_with fail
            go_roundg g
            case measure => omega
            case rel => exact ⟨i + 1, true, dig, nd, nm, (nd : Nat), m, tr, rfl, rfl, congrArg (Value.int .i64) (by omega), rfl, rfl, rfl, rfl, rfl, by omega, by omega, by omega, by omega, hm10, hm, rfl, rfl⟩
          · rw [if_pos rfl] at hm2
            subst hm2
            clear hcc
            go_wp2_with fail
            go_meet
            exact ⟨rfl, rfl, rfl, rfl, rfl, rfl, rfl, rfl, by show i ≤ s.size; omega, hb1, hb2, hb3, rfl, rfl⟩
        · rw [if_neg h46] at hm2
          by_cases hd : 48 ≤ c ∧ c ≤ 57
          · rw [if_pos hd] at hm2
            have n95 : ((c : Int) == 95) = false := by simp; omega
            have n46 : ((c : Int) == 46) = false := by simp; omega
            have l1 : (48 : Int) ≤ c := by omega
            have l2 : (c : Int) ≤ 57 := by omega
            by_cases hz : c = 48 ∧ nd = 0
            · rw [if_pos hz] at hm2
              obtain ⟨rfl, rfl⟩ := hz
              have hm := hid hm2
              clear hm2 hcc hd h46
              go_wp2_with fail
              go_roundg g
              case measure => omega
              case rel => exact ⟨i + 1, dot, true, 0, nm, dp - 1, m, tr, rfl, rfl, congrArg (Value.int .i64) (by omega), rfl, rfl, rfl, rfl, rfl, by omega, by omega, by omega, by omega, hm10, hm, rfl, rfl⟩
            · rw [if_neg hz] at hm2
              by_cases h19 : nm < 19
              · rw [if_pos h19] at hm2
                have hm := hid hm2
                have h19i : (nm : Int) < 19 := by omega
                have hmb := hm10.out
                have hp10 : 10 ^ nm ≤ 10 ^ 18 := Nat.pow_le_pow_right (by omega) (by omega)
                have hm11 : m * 10 + (c - 48) < 10 ^ (nm + 1) := by rw [Nat.pow_succ]; omega
                have Hm11 := hid hm11
                have hmb2 : m < 1000000000000000000 := by omega
                have e1 : ((c : Int) - 48) % 256 = (c : Int) - 48 := by omega
                have e1b : IntKind.u64.wrap ((c : Int) - 48) = (c : Int) - 48 := IntWalk.u64_in _ (by omega)
                have e2 : IntKind.u64.wrap ((m : Int) * 10) = (m : Int) * 10 := IntWalk.u64_in _ (by omega)
                have e3 : IntKind.u64.wrap ((m : Int) * 10 + ((c : Int) - 48)) = ((m * 10 + (c - 48) : Nat) : Int) := by rw [IntWalk.u64_in _ (by omega)]; omega
                have HMB := hid hmb
                have HP := hid hp10
                clear hmb hp10 hm11 hm2 hcc hd h46
                by_cases h48 : c = 48
                · have hn0 : ((nd : Int) == 0) = false := by simp; omega
                  have n48 : ((c : Int) == 48) = true := by simp [h48]
                  have H48 := hid h48
                  clear h48 hz
                  go_wp2_with fail
                  go_roundg g
                  case measure => omega
                  case rel => exact ⟨i + 1, dot, true, nd + 1, nm + 1, dp, m * 10 + (c - 48), tr, by first | rfl | exact congrArg (Value.int .u64) (by omega), rfl, congrArg (Value.int .i64) (by omega), rfl, rfl, congrArg (Value.int .i64) (by omega), congrArg (Value.int .i64) (by omega), rfl, by omega, by omega, by omega, by omega, Hm11, hm, rfl, rfl⟩
                · have n48 : ((c : Int) == 48) = false := by simp; omega
                  clear h48 hz
                  go_wp2_with fail
                  go_roundg g
                  case measure => omega
                  case rel => exact ⟨i + 1, dot, true, nd + 1, nm + 1, dp, m * 10 + (c - 48), tr, by first | rfl | exact congrArg (Value.int .u64) (by omega), rfl, congrArg (Value.int .i64) (by omega), rfl, rfl, congrArg (Value.int .i64) (by omega), congrArg (Value.int .i64) (by omega), rfl, by omega, by omega, by omega, by omega, Hm11, hm, rfl, rfl⟩
              · rw [if_neg h19] at hm2
                have h19i : ¬ (nm : Int) < 19 := by omega
                clear hcc hd h46
                by_cases h48 : c = 48
                · have hn0 : ((nd : Int) == 0) = false := by simp; omega
                  have n48 : ((c : Int) == 48) = true := by simp [h48]
                  have n48b : ((c : Int) != 48) = false := by simp [h48]
                  rw [if_pos h48] at hm2
                  have hm := hid hm2
                  have H48 := hid h48
                  clear h48 hz hm2
                  go_wp2_with fail
                  go_roundg g
                  case measure => omega
                  case rel => exact ⟨i + 1, dot, true, nd + 1, nm, dp, m, tr, rfl, rfl, congrArg (Value.int .i64) (by omega), rfl, rfl, congrArg (Value.int .i64) (by omega), rfl, rfl, by omega, by omega, by omega, by omega, hm10, hm, rfl, rfl⟩
                · have n48 : ((c : Int) == 48) = false := by simp; omega
                  have n48b : ((c : Int) != 48) = true := by simp; omega
                  rw [if_neg h48] at hm2
                  have hm := hid hm2
                  clear h48 hz hm2
                  go_wp2_with fail
                  go_roundg g
                  case measure => omega
                  case rel => exact ⟨i + 1, dot, true, nd + 1, nm, dp, m, true, rfl, rfl, congrArg (Value.int .i64) (by omega), rfl, rfl, congrArg (Value.int .i64) (by omega), rfl, rfl, by omega, by omega, by omega, by omega, hm10, hm, rfl, rfl⟩
          · rw [if_neg hd] at hm2
            subst hm2
            have n95 : ((c : Int) == 95) = false := by simp; omega
            have n46 : ((c : Int) == 46) = false := by simp; omega
            by_cases hl : 48 ≤ c
            · have l1 : (48 : Int) ≤ c := by omega
              have l2 : ¬ (c : Int) ≤ 57 := by omega
              clear hcc hd h46
              go_wp2_with fail
              go_meet
              exact ⟨rfl, rfl, rfl, rfl, rfl, rfl, rfl, rfl, by show i ≤ s.size; omega, hb1, hb2, hb3, rfl, rfl⟩
            · have l1 : ¬ (48 : Int) ≤ c := by omega
              clear hcc hd h46
              go_wp2_with fail
              go_meet
              exact ⟨rfl, rfl, rfl, rfl, rfl, rfl, rfl, rfl, by show i ≤ s.size; omega, hb1, hb2, hb3, rfl, rfl⟩
  case rest =>
  obtain ⟨rfl, rfl, rfl, rfl, rfl, rfl, rfl, rfl, hMi, hMn, hMk, hMp, rfl, rfl⟩ := hcut
  obtain ⟨i, dot, dig, nd, nm, dp, m, tr⟩ := M
  dsimp only at hMi hMn hMk hMp HR ⊢
  have hr := HR.out
  cases dig
  · rw [if_pos rfl] at hr
    injection hr with a1 a2 a3 a4 a5
    subst a1 a2 a3 a4 a5
    go_wp2_with fail
    (try rw [Exit.noGoto_ret])
    refine bodyPost_ret (results_tmp7 rfl _ _ _) rfl ?_
    exact ⟨rfl, rfl⟩
  rw [if_neg (by simp)] at hr
  obtain ⟨q, hq⟩ : ∃ q : Int, (if dot = true then dp else (nd : Nat)) = q := ⟨_, rfl⟩
  rw [hq] at hr
  have hq200 : -200 ≤ q ∧ q ≤ 200 := by rw [← hq]; split <;> omega
  have HR := hid hr
  have Hq := hid hq
  clear hr hq
  go_upto_if 142 with fail
  go_cut [17] from 142 to 143 (fun pv wx => pv = .int .i64 q ∧ wx = wc)
  case first =>
    cases dot
    · have hq : ((nd : Nat) : Int) = q := by have h5 := Hq.out; rw [if_neg (by simp)] at h5; exact h5
      have Hq := hid hq
      clear hq
      go_wp2_with fail
      go_meet
      exact ⟨by rw [Hq.out], rfl⟩
    · have hq : dp = q := by have h5 := Hq.out; rw [if_pos rfl] at h5; exact h5
      subst hq
      go_wp2_with fail
      go_meet
      exact ⟨rfl, rfl⟩
  case rest =>
  obtain ⟨rfl, rfl⟩ := hcut
  have hi62 : i ≤ 200 := by omega
  have hr := HR.out
  unfold rdE at hr
  dsimp only at hr
  by_cases hE : i < s.size ∧ bt s i = 101
  · rw [if_pos hE] at hr
    obtain ⟨hE1, hE2⟩ := hE
    have hix : ∀ w, (Instr.index 9 (.string s) (.int .i64 (i : Int))).run Tryz.prog w = .ok (.int .u8 (bt s i : Nat)) w := fun w => run_bt Tryz.underlying9 hE1 rfl
    rw [hE2] at hix
    have HE2 := hid hE2
    clear hE2
    by_cases hj1 : s.size ≤ i + 1
    · rw [if_pos hj1] at hr
      injection hr with a1 a2 a3 a4 a5
      subst a1 a2 a3 a4 a5
      have hj2 : (s.size : Int) ≤ (i : Int) + 1 := by omega
      go_wp2_with (refine (lower_any (c := 101) (by omega) _).mono ?_; rintro e w' ⟨rfl, rfl⟩)
      (try rw [Exit.noGoto_ret])
      refine bodyPost_ret (results_tmp7 rfl _ _ _) rfl ?_
      exact ⟨rfl, rfl⟩
    rw [if_neg hj1] at hr
    have hlt1 : i + 1 < s.size := by omega
    have hj2 : ¬ (s.size : Int) ≤ (i : Int) + 1 := by omega
    have hix1 : ∀ w, (Instr.index 9 (.string s) (.int .i64 ((i : Int) + 1))).run Tryz.prog w = .ok (.int .u8 (bt s (i + 1) : Nat)) w := fun w => run_bt Tryz.underlying9 hlt1 (by omega)
    obtain ⟨c1, hc1⟩ : ∃ c1, bt s (i + 1) = c1 := ⟨_, rfl⟩
    have hcc1 := HC.out (i + 1) hlt1
    rw [hc1] at hix1 hcc1 hr
    have HC1 := hid hc1
    obtain ⟨j, hj⟩ : ∃ j, (if c1 = 45 then i + 2 else i + 1) = j := ⟨_, rfl⟩
    obtain ⟨sn, hsn⟩ : ∃ sn : Int, (if c1 = 45 then -1 else 1) = sn := ⟨_, rfl⟩
    rw [hj, hsn] at hr
    have Hj := hid hj
    have Hsn := hid hsn
    have hjb : i + 1 ≤ j ∧ j ≤ i + 2 := by rw [← hj]; split <;> omega
    have HR := hid hr
    clear hc1 hj hsn hr
    go_upto_block 4 with (refine (lower_any (c := 101) (by omega) _).mono ?_; rintro e w' ⟨rfl, rfl⟩)
    go_cut [7, 19] from 171 to 178 (fun iv sv wx => iv = .int .i64 (j : Nat) ∧ sv = .int .i64 sn ∧ wx = w')
    case first =>
      by_cases h45 : c1 = 45
      · subst h45
        have e1 : i + 2 = j := Hj.out
        have e2 : (-1 : Int) = sn := Hsn.out
        subst e1 e2
        go_wp2_with fail
        go_meet
        exact ⟨congrArg (Value.int .i64) (by omega), rfl, rfl⟩
      · have e1 : i + 1 = j := by have := Hj.out; rwa [if_neg h45] at this
        have e2 : (1 : Int) = sn := by have := Hsn.out; rwa [if_neg h45] at this
        subst e1 e2
        have n43 : ((c1 : Int) == 43) = false := by simp; omega
        have n45 : ((c1 : Int) == 45) = false := by simp; omega
        have H45 := hid h45
        clear h45 hcc1
        go_wp2_with fail
        go_meet
        exact ⟨congrArg (Value.int .i64) (by omega), rfl, rfl⟩
    case rest =>
    obtain ⟨rfl, rfl, rfl⟩ := hcut
    clear hix hix1 hcc1 hj2
    have hr := HR.out
    by_cases hjs : s.size ≤ j
    · rw [if_pos (.inl hjs)] at hr
      injection hr with a1 a2 a3 a4 a5
      subst a1 a2 a3 a4 a5
      have hj2 : (s.size : Int) ≤ (j : Int) := by omega
      go_wp2_with fail
      (try rw [Exit.noGoto_ret])
      refine bodyPost_ret (results_tmp7 rfl _ _ _) rfl ?_
      exact ⟨rfl, rfl⟩
    have hjl : j < s.size := by omega
    have hj2 : ¬ (s.size : Int) ≤ (j : Int) := by omega
    have hix : ∀ w, (Instr.index 9 (.string s) (.int .i64 (j : Int))).run Tryz.prog w = .ok (.int .u8 (bt s j : Nat)) w := fun w => run_bt Tryz.underlying9 hjl rfl
    obtain ⟨c, hc⟩ : ∃ c, bt s j = c := ⟨_, rfl⟩
    rw [hc] at hix hr
    have HCc := hid hc
    clear hc
    by_cases hdg : 48 ≤ c ∧ c ≤ 57
    · rw [if_neg (by omega)] at hr
      rw [rdX] at hr
      dsimp only at hr
      obtain ⟨i2, x2, he⟩ : ∃ i2 x2, expE s (s.size - j) j 0 = (i2, x2) := ⟨_, _, rfl⟩
      rw [he] at hr
      dsimp only at hr
      have HE := hid he
      have HR := hid hr
      have l1 : (48 : Int) ≤ c := by omega
      have l2 : (c : Int) ≤ 57 := by omega
      have l1' : ¬ (c : Int) < 48 := by omega
      have l2' : ¬ (57 : Int) < c := by omega
      clear he hdg hr
      go_upto_block 5 with fail
      clear l1 l2 l1' l2' hix hj2
      go_cut [7, 9, 20] from 195 to 232 (fun iv uv ev wx => iv = .int .i64 (i2 : Nat) ∧ uv = .bool false ∧ ev = .int .i64 (x2 : Nat) ∧ x2 ≤ 100009 ∧ i2 ≤ s.size ∧ wx = wc)
      case first =>
        go_wp2_with fail
        go_loopg [7, 9, 20] (s.size - j) (fun g iv uv ev wr => ∃ i e : Nat, iv = .int .i64 (i : Nat) ∧ uv = .bool false ∧ ev = .int .i64 (e : Nat) ∧ g + i = s.size ∧ e ≤ 100009 ∧ Hid (expE s g i e = (i2, x2)) ∧ wr = wc)
        case atStart => exact ⟨j, 0, rfl, rfl, rfl, by omega, by omega, HE, rfl⟩
        case round =>
          obtain ⟨i, e, rfl, rfl, rfl, hgi, he, hx, rfl⟩ := hrel
          rcases gk with _ | g
          · obtain rfl : i = s.size := by omega
            have hx2 := hx.out
            rw [expE] at hx2
            obtain ⟨rfl, rfl⟩ := Prod.mk.inj hx2
            clear hx2
            go_wp2_with fail
            go_meet
            exact ⟨rfl, rfl, rfl, he, Nat.le_refl _, rfl⟩
          · have hlt : i < s.size := by omega
            have hix : ∀ w, (Instr.index 9 (.string s) (.int .i64 (i : Int))).run Tryz.prog w = .ok (.int .u8 (bt s i : Nat)) w := fun w => run_bt Tryz.underlying9 hlt rfl
            have hx2 := hx.out
            rw [expE] at hx2
            have hcc := HC.out i hlt
            obtain ⟨c, hc⟩ : ∃ c, bt s i = c := ⟨_, rfl⟩
            rw [hc] at hix hx2 hcc
            have HCc := hid hc
            clear hc hx
            by_cases hd : 48 ≤ c ∧ c ≤ 57
            · rw [if_pos hd] at hx2
              have l1 : (48 : Int) ≤ c := by omega
              have l2 : (c : Int) ≤ 57 := by omega
              have n95 : ((c : Int) == 95) = false := by simp; omega
              by_cases h4 : e < 10000
              · rw [if_pos h4] at hx2
                have hx := hid hx2
                have h4i : (e : Int) < 10000 := by omega
                clear hx2 hcc
                go_wp2_with fail
                go_roundg g
                case measure => omega
                case rel => exact ⟨i + 1, e * 10 + (c - 48), congrArg (Value.int .i64) (by omega), rfl, congrArg (Value.int .i64) (by omega), by omega, by omega, hx, rfl⟩
              · rw [if_neg h4] at hx2
                have hx := hid hx2
                have h4i : ¬ (e : Int) < 10000 := by omega
                clear hx2 hcc
                go_wp2_with fail
                go_roundg g
                case measure => omega
                case rel => exact ⟨i + 1, e, congrArg (Value.int .i64) (by omega), rfl, rfl, by omega, he, hx, rfl⟩
            · rw [if_neg hd] at hx2
              obtain ⟨rfl, rfl⟩ := Prod.mk.inj hx2
              clear hx2
              have n95 : ((c : Int) == 95) = false := by simp; omega
              by_cases hl : 48 ≤ c
              · have l1 : (48 : Int) ≤ c := by omega
                have l2 : ¬ (c : Int) ≤ 57 := by omega
                clear hcc hd
                go_wp2_with fail
                go_meet
                exact ⟨rfl, rfl, rfl, he, by omega, rfl⟩
              · have l1 : ¬ (48 : Int) ≤ c := by omega
                clear hcc hd
                go_wp2_with fail
                go_meet
                exact ⟨rfl, rfl, rfl, he, by omega, rfl⟩
      case rest =>
      obtain ⟨rfl, rfl, rfl, hx100, hi2, rfl⟩ := hcut
      have hr := HR.out
      injection hr with a1 a2 a3 a4 a5
      by_cases hm0 : m = 0
      · subst hm0
        rw [if_pos rfl] at a2
        subst a1 a2 a3 a4 a5
        go_wp2_with (fail)
        (try rw [Exit.noGoto_ret])
        refine bodyPost_ret (results_tmp7 rfl _ _ _) rfl ?_
        exact ⟨rfl, rfl⟩
      · have hm1 : ((m : Int) != 0) = true := by simp; omega
        rw [if_neg hm0] at a2
        subst a1 a2 a3 a4 a5
        have HM0 := hid hm0
        clear hm0
        go_wp2_with (fail)
        (try rw [Exit.noGoto_ret])
        refine bodyPost_ret (results_tmp7 rfl _ _ _) rfl ?_
        exact ⟨rfl, rfl⟩
    · rw [if_pos (.inr hdg)] at hr
      injection hr with a1 a2 a3 a4 a5
      subst a1 a2 a3 a4 a5
      by_cases hl : 48 ≤ c
      · have l1 : ¬ (c : Int) < 48 := by omega
        have l2 : (57 : Int) < (c : Int) := by omega
        clear hdg
        go_wp2_with fail
        (try rw [Exit.noGoto_ret])
        refine bodyPost_ret (results_tmp7 rfl _ _ _) rfl ?_
        exact ⟨rfl, rfl⟩
      · have l1 : (c : Int) < 48 := by omega
        clear hdg
        go_wp2_with fail
        (try rw [Exit.noGoto_ret])
        refine bodyPost_ret (results_tmp7 rfl _ _ _) rfl ?_
        exact ⟨rfl, rfl⟩
  · rw [if_neg hE] at hr
    injection hr with a1 a2 a3 a4 a5
    by_cases hlt : i < s.size
    · have hcc := HC.out i hlt
      have hix : ∀ w, (Instr.index 9 (.string s) (.int .i64 (i : Int))).run Tryz.prog w = .ok (.int .u8 (bt s i : Nat)) w := fun w => run_bt Tryz.underlying9 hlt rfl
      obtain ⟨c, hc⟩ : ∃ c, bt s i = c := ⟨_, rfl⟩
      rw [hc] at hix hcc hE
      have n101 : ((c : Int) == 101) = false := by simp; omega
      have HCc := hid hc
      have Hcc := hid hcc
      have HE := hid hE
      clear hcc hc hE
      by_cases hm0 : m = 0
      · subst hm0
        rw [if_pos rfl] at a2
        subst a1 a2 a3 a4 a5
        go_wp2_with (refine (lower_any Hcc.out _).mono ?_; rintro e w' ⟨rfl, rfl⟩)
        (try rw [Exit.noGoto_ret])
        refine bodyPost_ret (results_tmp7 rfl _ _ _) rfl ?_
        exact ⟨rfl, rfl⟩
      · have hm1 : ((m : Int) != 0) = true := by simp; omega
        rw [if_neg hm0] at a2
        subst a1 a2 a3 a4 a5
        have HM0 := hid hm0
        clear hm0
        go_wp2_with (refine (lower_any Hcc.out _).mono ?_; rintro e w' ⟨rfl, rfl⟩)
        (try rw [Exit.noGoto_ret])
        refine bodyPost_ret (results_tmp7 rfl _ _ _) rfl ?_
        exact ⟨rfl, rfl⟩
    · have HE := hid hE
      have hi : i = s.size := by omega
      have HI := hid hi
      clear hE hi
      by_cases hm0 : m = 0
      · subst hm0
        rw [if_pos rfl] at a2
        subst a1 a2 a3 a4 a5
        go_wp2_with (fail)
        (try rw [Exit.noGoto_ret])
        refine bodyPost_ret (results_tmp7 rfl _ _ _) rfl ?_
        exact ⟨rfl, rfl⟩
      · have hm1 : ((m : Int) != 0) = true := by simp; omega
        rw [if_neg hm0] at a2
        subst a1 a2 a3 a4 a5
        have HM0 := hid hm0
        clear hm0
        go_wp2_with (fail)
        (try rw [Exit.noGoto_ret])
        refine bodyPost_ret (results_tmp7 rfl _ _ _) rfl ?_
        exact ⟨rfl, rfl⟩
end Go.Proofs.YtajpeeccomgnnaaGreatDoor
