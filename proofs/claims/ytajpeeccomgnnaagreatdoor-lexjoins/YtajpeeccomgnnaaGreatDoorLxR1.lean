/-
  The reference's at, Letter, digit, named, symbolic, alone, digits, names, bad, walked.
-/
import Derived.Test.YtajpeeccomgnnaaGreatDoorLxBlP
namespace Go.Proofs.YtajpeeccomgnnaaGreatDoor
set_option linter.all false
open Go Go.RowKit

set_option maxRecDepth 100000 in
set_option maxHeartbeats 1000000 in
theorem rat_any (s : ByteArray) (k : Nat) (w : World) (hs : s.size ≤ 1099511627776) (hk : k ≤ 1099511627776) :
    Calls Tryz.prog 36 #[.string s, .int .i64 (k : Nat)] w fun e w' => e = .returned (.int .u8 (bt s k : Nat)) ∧ w' = w := by
  have h0 : (0 : Int) ≤ (k : Int) := by omega
  by_cases hc : k < s.size
  · have hci : (k : Int) < (s.size : Int) := by omega
    have hix : ∀ w, (Instr.index 9 (.string s) (.int .i64 (k : Int))).run Tryz.prog w = .ok (.int .u8 (bt s k : Nat)) w := fun w => run_bt Tryz.underlying9 hc rfl
    go_enter Tryz.func36, Tryz.ntmps36
    go_wp2
    go_ret
    exact ⟨rfl, rfl⟩
  · have hci : ¬ (k : Int) < (s.size : Int) := by omega
    have hz := hid (bt_out (s := s) (i := k) (by omega))
    go_enter Tryz.func36, Tryz.ntmps36
    go_wp2
    go_ret
    rw [hz.out]
    exact ⟨rfl, rfl⟩
set_option maxRecDepth 100000 in
set_option maxHeartbeats 2000000 in
theorem rletter_any (c : Nat) (w : World) (hc : c < 256) :
    Calls Tryz.prog 37 #[.int .u8 (c : Nat)] w fun e w' => e = .returned (.bool (isLet c)) ∧ w' = w := by
  by_cases h1 : 97 ≤ c
  · by_cases h2 : c ≤ 122
    · have i97c : (97 : Int) ≤ c := by omega
      have d97c : decide ((97 : Int) ≤ c) = true := by simp; omega
      have ic122 : (c : Int) ≤ 122 := by omega
      have dc122 : decide ((c : Int) ≤ 122) = true := by simp; omega
      have hv : Hid (isLet c = true) := hid (by unfold isLet; rw [decide_eq_true_eq]; omega)
      go_enter Tryz.func37, Tryz.ntmps37
      go_wp2
      go_ret
      rw [hv.out]
      exact ⟨rfl, rfl⟩
    · have i97c : (97 : Int) ≤ c := by omega
      have d97c : decide ((97 : Int) ≤ c) = true := by simp; omega
      have ic122 : ¬ (c : Int) ≤ 122 := by omega
      have dc122 : decide ((c : Int) ≤ 122) = false := by simp; omega
      have i65c : (65 : Int) ≤ c := by omega
      have d65c : decide ((65 : Int) ≤ c) = true := by simp; omega
      have ic90 : ¬ (c : Int) ≤ 90 := by omega
      have dc90 : decide ((c : Int) ≤ 90) = false := by simp; omega
      have hv : Hid (isLet c = false) := hid (by unfold isLet; rw [decide_eq_false_iff_not]; omega)
      go_enter Tryz.func37, Tryz.ntmps37
      go_wp2
      go_ret
      rw [hv.out]
      exact ⟨rfl, rfl⟩
  · by_cases h2 : 65 ≤ c
    · by_cases h3 : c ≤ 90
      · have i97c : ¬ (97 : Int) ≤ c := by omega
        have d97c : decide ((97 : Int) ≤ c) = false := by simp; omega
        have i65c : (65 : Int) ≤ c := by omega
        have d65c : decide ((65 : Int) ≤ c) = true := by simp; omega
        have ic90 : (c : Int) ≤ 90 := by omega
        have dc90 : decide ((c : Int) ≤ 90) = true := by simp; omega
        have hv : Hid (isLet c = true) := hid (by unfold isLet; rw [decide_eq_true_eq]; omega)
        go_enter Tryz.func37, Tryz.ntmps37
        go_wp2
        go_ret
        rw [hv.out]
        exact ⟨rfl, rfl⟩
      · have i97c : ¬ (97 : Int) ≤ c := by omega
        have d97c : decide ((97 : Int) ≤ c) = false := by simp; omega
        have i65c : (65 : Int) ≤ c := by omega
        have d65c : decide ((65 : Int) ≤ c) = true := by simp; omega
        have ic90 : ¬ (c : Int) ≤ 90 := by omega
        have dc90 : decide ((c : Int) ≤ 90) = false := by simp; omega
        have hv : Hid (isLet c = false) := hid (by unfold isLet; rw [decide_eq_false_iff_not]; omega)
        go_enter Tryz.func37, Tryz.ntmps37
        go_wp2
        go_ret
        rw [hv.out]
        exact ⟨rfl, rfl⟩
    · have i97c : ¬ (97 : Int) ≤ c := by omega
      have d97c : decide ((97 : Int) ≤ c) = false := by simp; omega
      have i65c : ¬ (65 : Int) ≤ c := by omega
      have d65c : decide ((65 : Int) ≤ c) = false := by simp; omega
      have hv : Hid (isLet c = false) := hid (by unfold isLet; rw [decide_eq_false_iff_not]; omega)
      go_enter Tryz.func37, Tryz.ntmps37
      go_wp2
      go_ret
      rw [hv.out]
      exact ⟨rfl, rfl⟩
set_option maxRecDepth 100000 in
set_option maxHeartbeats 1000000 in
theorem rdigit_any (c : Nat) (w : World) (hc : c < 256) :
    Calls Tryz.prog 39 #[.int .u8 (c : Nat)] w fun e w' => e = .returned (.bool (isDig c)) ∧ w' = w := by
  go_enter Tryz.func39, Tryz.ntmps39
  go_wp2
  · have h : (48 : Int) ≤ c := by assumption
    go_ret
    refine ⟨?_, rfl⟩
    have e : isDig c = decide ((c : Int) ≤ 57) := by unfold isDig; rw [decide_eq_decide]; omega
    rw [e]; rfl
  · have h : (c : Int) < 48 := by assumption
    go_ret
    refine ⟨?_, rfl⟩
    have e : isDig c = false := by unfold isDig; rw [decide_eq_false_iff_not]; omega
    rw [e]; rfl
set_option maxRecDepth 100000 in
set_option maxHeartbeats 2000000 in
theorem rnamed_any (c : Nat) (w : World) (hc : c < 256) :
    Calls Tryz.prog 65 #[.int .u8 (c : Nat)] w fun e w' => e = .returned (.bool (isNam c)) ∧ w' = w := by
  rcases hl : isLet c with _ | _
  · rcases hd : isDig c with _ | _
    · go_enter Tryz.func65, Tryz.ntmps65
      go_wp2_with (first | (go_at_call 37; refine (rletter_any _ _ hc).mono ?_; rintro e w' ⟨rfl, rfl⟩; rw [hl]) | (go_at_call 39; refine (rdigit_any _ _ hc).mono ?_; rintro e w' ⟨rfl, rfl⟩; rw [hd]))
      · have h : (c : Int) = 95 := by assumption
        go_ret
        have h2 : c = 95 := by omega
        subst h2
        exact ⟨rfl, rfl⟩
      · have h : ¬ (c : Int) = 95 := by assumption
        go_ret
        refine ⟨?_, rfl⟩
        have e : isNam c = ((c : Int) == 95 || (c : Int) == 39) := by
          unfold isNam; rw [hl, hd]
          by_cases h3 : c = 39
          · subst h3; rfl
          · have h4 : ¬ c = 95 := by omega
            simp [h3, h4]; omega
        rw [e]; rfl
    · go_enter Tryz.func65, Tryz.ntmps65
      go_wp2_with (first | (go_at_call 37; refine (rletter_any _ _ hc).mono ?_; rintro e w' ⟨rfl, rfl⟩; rw [hl]) | (go_at_call 39; refine (rdigit_any _ _ hc).mono ?_; rintro e w' ⟨rfl, rfl⟩; rw [hd]))
      go_ret
      exact ⟨by unfold isNam; rw [hl, hd]; rfl, rfl⟩
  · go_enter Tryz.func65, Tryz.ntmps65
    go_wp2_with (go_at_call 37; refine (rletter_any _ _ hc).mono ?_; rintro e w' ⟨rfl, rfl⟩; rw [hl])
    go_ret
    exact ⟨by unfold isNam; rw [hl]; rfl, rfl⟩
set_option maxRecDepth 100000 in
set_option maxHeartbeats 4000000 in
theorem rsym_any (c : Nat) (w : World) (hc : c < 256) :
    Calls Tryz.prog 45 #[.int .u8 (c : Nat)] w fun e w' => e = .returned (.bool (isSym c)) ∧ w' = w := by
  by_cases hm : c = 33 ∨ c = 37 ∨ c = 38 ∨ c = 36 ∨ c = 35 ∨ c = 43 ∨ c = 45 ∨ c = 47 ∨ c = 58 ∨ c = 60 ∨ c = 61 ∨ c = 62 ∨ c = 63 ∨ c = 64 ∨ c = 92 ∨ c = 126 ∨ c = 96 ∨ c = 94 ∨ c = 124 ∨ c = 42
  · rcases hm with rfl | rfl | rfl | rfl | rfl | rfl | rfl | rfl | rfl | rfl | rfl | rfl | rfl | rfl | rfl | rfl | rfl | rfl | rfl | rfl
    all_goals
      go_enter Tryz.func45, Tryz.ntmps45
      go_wp2
      go_ret
      exact ⟨rfl, rfl⟩
  · have hv : Hid (isSym c = false) := hid (by
      unfold isSym
      rw [decide_eq_false_iff_not, idx_mem]
      intro h
      apply hm
      simp only [symL, List.mem_cons, List.not_mem_nil, or_false] at h
      have hcc : (c.toUInt8).toNat = c := by simp; omega
      rcases h with h | h | h | h | h | h | h | h | h | h | h | h | h | h | h | h | h | h | h | h <;> (have h2 := congrArg UInt8.toNat h; rw [hcc] at h2; simp at h2; omega))
    have n33 : ¬ (c : Int) = 33 := by omega
    have b33 : ((c : Int) == 33) = false := by simp; omega
    have n37 : ¬ (c : Int) = 37 := by omega
    have b37 : ((c : Int) == 37) = false := by simp; omega
    have n38 : ¬ (c : Int) = 38 := by omega
    have b38 : ((c : Int) == 38) = false := by simp; omega
    have n36 : ¬ (c : Int) = 36 := by omega
    have b36 : ((c : Int) == 36) = false := by simp; omega
    have n35 : ¬ (c : Int) = 35 := by omega
    have b35 : ((c : Int) == 35) = false := by simp; omega
    have n43 : ¬ (c : Int) = 43 := by omega
    have b43 : ((c : Int) == 43) = false := by simp; omega
    have n45 : ¬ (c : Int) = 45 := by omega
    have b45 : ((c : Int) == 45) = false := by simp; omega
    have n47 : ¬ (c : Int) = 47 := by omega
    have b47 : ((c : Int) == 47) = false := by simp; omega
    have n58 : ¬ (c : Int) = 58 := by omega
    have b58 : ((c : Int) == 58) = false := by simp; omega
    have n60 : ¬ (c : Int) = 60 := by omega
    have b60 : ((c : Int) == 60) = false := by simp; omega
    have n61 : ¬ (c : Int) = 61 := by omega
    have b61 : ((c : Int) == 61) = false := by simp; omega
    have n62 : ¬ (c : Int) = 62 := by omega
    have b62 : ((c : Int) == 62) = false := by simp; omega
    have n63 : ¬ (c : Int) = 63 := by omega
    have b63 : ((c : Int) == 63) = false := by simp; omega
    have n64 : ¬ (c : Int) = 64 := by omega
    have b64 : ((c : Int) == 64) = false := by simp; omega
    have n92 : ¬ (c : Int) = 92 := by omega
    have b92 : ((c : Int) == 92) = false := by simp; omega
    have n126 : ¬ (c : Int) = 126 := by omega
    have b126 : ((c : Int) == 126) = false := by simp; omega
    have n96 : ¬ (c : Int) = 96 := by omega
    have b96 : ((c : Int) == 96) = false := by simp; omega
    have n94 : ¬ (c : Int) = 94 := by omega
    have b94 : ((c : Int) == 94) = false := by simp; omega
    have n124 : ¬ (c : Int) = 124 := by omega
    have b124 : ((c : Int) == 124) = false := by simp; omega
    have n42 : ¬ (c : Int) = 42 := by omega
    have b42 : ((c : Int) == 42) = false := by simp; omega
    clear hm
    go_enter Tryz.func45, Tryz.ntmps45
    go_wp2
    go_ret
    rw [hv.out]
    exact ⟨rfl, rfl⟩
set_option maxRecDepth 100000 in
set_option maxHeartbeats 4000000 in
theorem rone_any (c : Nat) (w : World) (hc : c < 256) :
    Calls Tryz.prog 44 #[.int .u8 (c : Nat)] w fun e w' => e = .returned (.bool (isOne c)) ∧ w' = w := by
  by_cases hm : c = 40 ∨ c = 41 ∨ c = 91 ∨ c = 93 ∨ c = 123 ∨ c = 125 ∨ c = 44 ∨ c = 59 ∨ c = 95
  · rcases hm with rfl | rfl | rfl | rfl | rfl | rfl | rfl | rfl | rfl
    all_goals
      go_enter Tryz.func44, Tryz.ntmps44
      go_wp2
      go_ret
      exact ⟨rfl, rfl⟩
  · have hv : Hid (isOne c = false) := hid (by
      unfold isOne
      rw [decide_eq_false_iff_not, idx_mem]
      intro h
      apply hm
      simp only [oneL, List.mem_cons, List.not_mem_nil, or_false] at h
      have hcc : (c.toUInt8).toNat = c := by simp; omega
      rcases h with h | h | h | h | h | h | h | h | h <;> (have h2 := congrArg UInt8.toNat h; rw [hcc] at h2; simp at h2; omega))
    have n40 : ¬ (c : Int) = 40 := by omega
    have b40 : ((c : Int) == 40) = false := by simp; omega
    have n41 : ¬ (c : Int) = 41 := by omega
    have b41 : ((c : Int) == 41) = false := by simp; omega
    have n91 : ¬ (c : Int) = 91 := by omega
    have b91 : ((c : Int) == 91) = false := by simp; omega
    have n93 : ¬ (c : Int) = 93 := by omega
    have b93 : ((c : Int) == 93) = false := by simp; omega
    have n123 : ¬ (c : Int) = 123 := by omega
    have b123 : ((c : Int) == 123) = false := by simp; omega
    have n125 : ¬ (c : Int) = 125 := by omega
    have b125 : ((c : Int) == 125) = false := by simp; omega
    have n44 : ¬ (c : Int) = 44 := by omega
    have b44 : ((c : Int) == 44) = false := by simp; omega
    have n59 : ¬ (c : Int) = 59 := by omega
    have b59 : ((c : Int) == 59) = false := by simp; omega
    have n95 : ¬ (c : Int) = 95 := by omega
    have b95 : ((c : Int) == 95) = false := by simp; omega
    clear hm
    go_enter Tryz.func44, Tryz.ntmps44
    go_wp2
    go_ret
    rw [hv.out]
    exact ⟨rfl, rfl⟩
set_option maxRecDepth 100000 in
set_option maxHeartbeats 4000000 in
theorem rdigits_any (s : ByteArray) (p : Nat) (w : World) (hs : s.size ≤ 1099511627776) (hp : p ≤ s.size) :
    Calls Tryz.prog 60 #[.string s, .int .i64 (p : Nat)] w fun e w' => e = .returned (.int .i64 (runE isDig s p : Nat)) ∧ w' = w := by
  go_enter Tryz.func60, Tryz.ntmps60
  go_wp2
  go_loopw [1] (fun kv wr => wr = w ∧ ∃ k : Nat, p ≤ k ∧ k ≤ s.size ∧ kv = .int .i64 (k : Nat) ∧ Hid (runE isDig s p = runE isDig s k)) (fun kv _ => s.size - (intOf kv).toNat)
  case atStart => exact ⟨rfl, p, Nat.le_refl _, hp, rfl, hid rfl⟩
  case round =>
    obtain ⟨hw, k, hk, hkp, rfl, HR⟩ := hrel
    obtain rfl := hw.symm
    by_cases hc : k < s.size
    · have hci : (k : Int) < (s.size : Int) := by omega
      have hix : ∀ w, (Instr.index 9 (.string s) (.int .i64 (k : Int))).run Tryz.prog w = .ok (.int .u8 (bt s k : Nat)) w := fun w => run_bt Tryz.underlying9 hc rfl
      rcases hp2 : isDig (bt s k) with _ | _
      · have HP := hid hp2
        clear hp2
        go_wp2_with (go_at_call 39; refine (rdigit_any _ _ (bt_lt _ _)).mono ?_; rintro e w' ⟨rfl, rfl⟩; rw [HP.out])
        go_ret
        refine ⟨?_, rfl⟩
        have e : runE isDig s p = k := by rw [HR.out, runE_stop (by rw [HP.out]; simp)]
        rw [e]
        rfl
      · have HP := hid hp2
        clear hp2
        go_wp2_with (go_at_call 39; refine (rdigit_any _ _ (bt_lt _ _)).mono ?_; rintro e w' ⟨rfl, rfl⟩; rw [HP.out])
        exact ⟨⟨trivial, k + 1, by omega, by omega, rfl, hid (by rw [HR.out, runE_step hc HP.out])⟩, by simp [intOf]; omega⟩
    · have hci : (s.size : Int) ≤ (k : Int) := by omega
      have hcn : ¬ (k : Int) < (s.size : Int) := by omega
      go_wp2_with fail
      go_ret
      refine ⟨?_, rfl⟩
      have e : runE isDig s p = k := by rw [HR.out, runE_stop (fun h => hc h.1)]
      rw [e]
      rfl
set_option maxRecDepth 100000 in
set_option maxHeartbeats 4000000 in
theorem rnames_any (s : ByteArray) (p : Nat) (w : World) (hs : s.size ≤ 1099511627776) (hp : p ≤ s.size) :
    Calls Tryz.prog 43 #[.string s, .int .i64 (p : Nat)] w fun e w' => e = .returned (.int .i64 (runE isNam s p : Nat)) ∧ w' = w := by
  go_enter Tryz.func43, Tryz.ntmps43
  go_wp2
  go_loopw [1] (fun kv wr => wr = w ∧ ∃ k : Nat, p ≤ k ∧ k ≤ s.size ∧ kv = .int .i64 (k : Nat) ∧ Hid (runE isNam s p = runE isNam s k)) (fun kv _ => s.size - (intOf kv).toNat)
  case atStart => exact ⟨rfl, p, Nat.le_refl _, hp, rfl, hid rfl⟩
  case round =>
    obtain ⟨hw, k, hk, hkp, rfl, HR⟩ := hrel
    obtain rfl := hw.symm
    by_cases hc : k < s.size
    · have hci : (k : Int) < (s.size : Int) := by omega
      have hix : ∀ w, (Instr.index 9 (.string s) (.int .i64 (k : Int))).run Tryz.prog w = .ok (.int .u8 (bt s k : Nat)) w := fun w => run_bt Tryz.underlying9 hc rfl
      rcases hp2 : isNam (bt s k) with _ | _
      · have HP := hid hp2
        clear hp2
        go_wp2_with (go_at_call 65; refine (rnamed_any _ _ (bt_lt _ _)).mono ?_; rintro e w' ⟨rfl, rfl⟩; rw [HP.out])
        go_ret
        refine ⟨?_, rfl⟩
        have e : runE isNam s p = k := by rw [HR.out, runE_stop (by rw [HP.out]; simp)]
        rw [e]
        rfl
      · have HP := hid hp2
        clear hp2
        go_wp2_with (go_at_call 65; refine (rnamed_any _ _ (bt_lt _ _)).mono ?_; rintro e w' ⟨rfl, rfl⟩; rw [HP.out])
        exact ⟨⟨trivial, k + 1, by omega, by omega, rfl, hid (by rw [HR.out, runE_step hc HP.out])⟩, by simp [intOf]; omega⟩
    · have hci : (s.size : Int) ≤ (k : Int) := by omega
      have hcn : ¬ (k : Int) < (s.size : Int) := by omega
      go_wp2_with fail
      go_ret
      refine ⟨?_, rfl⟩
      have e : runE isNam s p = k := by rw [HR.out, runE_stop (fun h => hc h.1)]
      rw [e]
      rfl
set_option maxRecDepth 100000 in
set_option maxHeartbeats 1000000 in
theorem bad_any (c q : Nat) (w : World) :
    Calls Tryz.prog 16 #[.int .i64 (c : Nat), .int .i64 (q : Nat)] w fun e w' => e = .returned (.agg #[.int .i64 (c : Nat), .int .i64 (q : Nat)]) ∧ Below w.heap.size w w' := by
  go_enter Tryz.func16, Tryz.ntmps16
  go_wp2
  refine bodyPost_ret (v := .agg #[.int .i64 (c : Nat), .int .i64 (q : Nat)]) (by simp [results, Tryz.results16, go_sem, World.cell?_alloc_new]) rfl ⟨rfl, below_alloc w _⟩
end Go.Proofs.YtajpeeccomgnnaaGreatDoor
