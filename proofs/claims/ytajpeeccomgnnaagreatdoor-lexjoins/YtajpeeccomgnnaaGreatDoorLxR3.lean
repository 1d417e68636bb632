/-
  The reference's escape, quoted, walked.
-/
import Derived.Test.YtajpeeccomgnnaaGreatDoorLxR2
import Derived.Test.YtajpeeccomgnnaaGreatDoorLxQuo
namespace Go.Proofs.YtajpeeccomgnnaaGreatDoor
set_option linter.all false
open Go Go.RowKit

set_option maxRecDepth 100000 in
set_option maxHeartbeats 4000000 in
theorem rescape_any (s : ByteArray) (k : Nat) (w : World) (hs : s.size ≤ 65536) (hp : k ≤ s.size) :
    Calls Tryz.prog 64 #[.string s, .int .i64 (k : Nat)] w fun e w' => ResEsc w w' (escS s k).1 (escS s k).2 e := by
  obtain ⟨c, hc⟩ : ∃ c, bt s k = c := ⟨_, rfl⟩
  have hc6 : c < 256 := hc ▸ bt_lt s _
  have HC := hid hc
  obtain ⟨r, hr⟩ : ∃ r, escS s k = r := ⟨_, rfl⟩
  rw [hr]
  obtain ⟨x, n⟩ := r
  have HR := hid hr
  by_cases h110 : c = 110
  · subst h110
    have HV : Hid ((x, n) = (10, 1)) := hid (by rw [← hr]; unfold escS; rw [if_pos hc])
    clear hr hc
    go_enter Tryz.func64, Tryz.ntmps64
    go_wp2_with (go_at_call 36; refine (rat_any s k _ (by omega) (by omega)).mono ?_; rintro e w1 ⟨rfl, rfl⟩; rw [HC.out])
    go_ret2
    injection HV.out with e1 e2
    subst e1 e2
    exact ⟨rfl, Below.refl _ _⟩
  by_cases h116 : c = 116
  · subst h116
    have HV : Hid ((x, n) = (9, 1)) := hid (by rw [← hr]; unfold escS; rw [if_neg (by omega), if_pos hc])
    clear hr hc
    go_enter Tryz.func64, Tryz.ntmps64
    go_wp2_with (go_at_call 36; refine (rat_any s k _ (by omega) (by omega)).mono ?_; rintro e w1 ⟨rfl, rfl⟩; rw [HC.out])
    go_ret2
    injection HV.out with e1 e2
    subst e1 e2
    exact ⟨rfl, Below.refl _ _⟩
  by_cases h92 : c = 92
  · subst h92
    have HV : Hid ((x, n) = (92, 1)) := hid (by rw [← hr]; unfold escS; rw [if_neg (by omega), if_neg (by omega), if_pos (Or.inl hc), hc])
    clear hr hc
    go_enter Tryz.func64, Tryz.ntmps64
    go_wp2_with (go_at_call 36; refine (rat_any s k _ (by omega) (by omega)).mono ?_; rintro e w1 ⟨rfl, rfl⟩; rw [HC.out])
    go_ret2
    injection HV.out with e1 e2
    subst e1 e2
    exact ⟨rfl, Below.refl _ _⟩
  by_cases h34 : c = 34
  · subst h34
    have HV : Hid ((x, n) = (34, 1)) := hid (by rw [← hr]; unfold escS; rw [if_neg (by omega), if_neg (by omega), if_pos (Or.inr hc), hc])
    clear hr hc
    go_enter Tryz.func64, Tryz.ntmps64
    go_wp2_with (go_at_call 36; refine (rat_any s k _ (by omega) (by omega)).mono ?_; rintro e w1 ⟨rfl, rfl⟩; rw [HC.out])
    go_ret2
    injection HV.out with e1 e2
    subst e1 e2
    exact ⟨rfl, Below.refl _ _⟩
  have i110 : ¬ (c : Int) = 110 := by omega
  have b110 : ((c : Int) == 110) = false := by simp; omega
  have i116 : ¬ (c : Int) = 116 := by omega
  have b116 : ((c : Int) == 116) = false := by simp; omega
  have i92 : ¬ (c : Int) = 92 := by omega
  have b92 : ((c : Int) == 92) = false := by simp; omega
  have i34 : ¬ (c : Int) = 34 := by omega
  have b34 : ((c : Int) == 34) = false := by simp; omega
  have HS := esc_three (s := s) (k := k) (by omega) (by omega) (by omega) (by omega)
  obtain ⟨j, hj⟩ : ∃ j, runE isDig s k = j := ⟨_, rfl⟩
  rw [hr, hj] at HS
  have HK := hid hj
  have hj1 : k ≤ j := hj ▸ runE_le isDig s k
  have hj2 : j ≤ s.size := hj ▸ runE_size hp
  by_cases h3 : k + 3 ≤ j
  · have hd : ∀ i, i < 3 → isDig (bt s (k + i)) = true := fun i hi => runE_all (p := isDig) (s := s) (i := k) (by omega) (by rw [hj]; omega)
    have r0 := dig_range (hd 0 (by omega))
    have r1 := dig_range (hd 1 (by omega))
    have r2 := dig_range (hd 2 (by omega))
    simp only [Nat.add_zero] at r0
    rw [if_pos h3] at HS
    have x0 : ∀ w, (Instr.index 9 (.string s) (.int .i64 (k : Int))).run Tryz.prog w = .ok (.int .u8 (bt s k : Nat)) w := fun w => run_bt Tryz.underlying9 (by omega) rfl
    have x1 : ∀ w, (Instr.index 9 (.string s) (.int .i64 ((k : Int) + 1))).run Tryz.prog w = .ok (.int .u8 (bt s (k + 1) : Nat)) w := fun w => run_bt Tryz.underlying9 (by omega) rfl
    have x2 : ∀ w, (Instr.index 9 (.string s) (.int .i64 ((k : Int) + 2))).run Tryz.prog w = .ok (.int .u8 (bt s (k + 2) : Nat)) w := fun w => run_bt Tryz.underlying9 (by omega) rfl
    obtain ⟨c1, hc1⟩ : ∃ c1, bt s (k + 1) = c1 := ⟨_, rfl⟩
    obtain ⟨c2, hc2⟩ : ∃ c2, bt s (k + 2) = c2 := ⟨_, rfl⟩
    rw [hc] at r0 x0 HS
    rw [hc1] at r1 x1 HS
    rw [hc2] at r2 x2 HS
    have hw1 : IntKind.i64.wrap ((k : Int) + 1) = (k : Int) + 1 := IntWalk.i64_in _ (by omega)
    have hw2 : IntKind.i64.wrap ((k : Int) + 2) = (k : Int) + 2 := IntWalk.i64_in _ (by omega)
    have v0 : IntKind.u8.wrap ((c : Int) - 48) = (c : Int) - 48 := IntWalk.u8_in _ (by omega)
    have v1 : IntKind.u8.wrap ((c1 : Int) - 48) = (c1 : Int) - 48 := IntWalk.u8_in _ (by omega)
    have v2 : IntKind.u8.wrap ((c2 : Int) - 48) = (c2 : Int) - 48 := IntWalk.u8_in _ (by omega)
    obtain ⟨m, hm⟩ : ∃ m, (c - 48) * 100 + (c1 - 48) * 10 + (c2 - 48) = m := ⟨_, rfl⟩
    rw [hm] at HS
    have hmx : m ≤ 999 := by omega
    clear hr hc hj hd hc1 hc2
    by_cases hm6 : m < 256
    · rw [if_pos hm6] at HS
      have HV := hid HS
      have HM := hid hm
      clear HS
      go_enter Tryz.func64, Tryz.ntmps64
      go_wp2_with (first | (go_at_call 36; refine (rat_any s k _ (by omega) (by omega)).mono ?_; rintro e w1 ⟨rfl, rfl⟩; rw [HC.out]) | (go_at_call 60; refine (rdigits_any s k _ (by omega) (by omega)).mono ?_; rintro e w1 ⟨rfl, rfl⟩; rw [HK.out]))
      go_quiet (fail)
      clear x0 x1 x2 hw1 hw2 v0 v1 v2
      have hmi : ((c : Int) - 48) * 100 + ((c1 : Int) - 48) * 10 + ((c2 : Int) - 48) < 256 := by have := HM.out; omega
      go_wp2
      go_ret2
      injection HV.out with e1 e2
      subst e1 e2
      refine ⟨?_, drewN_below _ _⟩
      have e : ((c : Int) - 48) * 100 + ((c1 : Int) - 48) * 10 + ((c2 : Int) - 48) = (x : Int) := by have := HM.out; omega
      rw [← e]
      first | rfl | (congr 3; rw [IntWalk.u8_in _ (by omega)])
    · rw [if_neg hm6] at HS
      have HV := hid HS
      have HM := hid hm
      clear HS
      go_enter Tryz.func64, Tryz.ntmps64
      go_wp2_with (first | (go_at_call 36; refine (rat_any s k _ (by omega) (by omega)).mono ?_; rintro e w1 ⟨rfl, rfl⟩; rw [HC.out]) | (go_at_call 60; refine (rdigits_any s k _ (by omega) (by omega)).mono ?_; rintro e w1 ⟨rfl, rfl⟩; rw [HK.out]))
      go_quiet (fail)
      clear x0 x1 x2 hw1 hw2 v0 v1 v2
      have hmi : ¬ ((c : Int) - 48) * 100 + ((c1 : Int) - 48) * 10 + ((c2 : Int) - 48) < 256 := by have := HM.out; omega
      go_wp2
      go_ret2
      injection HV.out with e1 e2
      subst e1 e2
      exact ⟨rfl, drewN_below _ _⟩
  · rw [if_neg h3] at HS
    have HV := hid HS
    clear hr hc hj HS
    go_enter Tryz.func64, Tryz.ntmps64
    go_wp2_with (first | (go_at_call 36; refine (rat_any s k _ (by omega) (by omega)).mono ?_; rintro e w1 ⟨rfl, rfl⟩; rw [HC.out]) | (go_at_call 60; refine (rdigits_any s k _ (by omega) (by omega)).mono ?_; rintro e w1 ⟨rfl, rfl⟩; rw [HK.out]))
    go_ret2
    injection HV.out with e1 e2
    subst e1 e2
    exact ⟨rfl, Below.refl _ _⟩
/-- What the reference's quoted answers. -/
def OutRQ (w w' : World) (e : Ending) (r : Except (Nat × Nat) (List UInt8 × Nat)) : Prop :=
  Below w.heap.size w w' ∧
  match r with
  | .ok (x, k) => e = .returned (.tuple #[.string ⟨x.toArray⟩, .int .i64 (k : Nat), .agg #[.int .i64 0, .int .i64 0]])
  | .error (c, q) => e = .returned (.tuple #[.string ⟨#[]⟩, .int .i64 0, .agg #[.int .i64 (c : Nat), .int .i64 (q : Nat)]])
set_option maxRecDepth 100000 in
set_option maxHeartbeats 16000000 in
theorem rquoted_any (s : ByteArray) (p : Nat) (w : World) (hs : s.size ≤ 65536) (hp : p < s.size) :
    Calls Tryz.prog 41 #[.string s, .int .i64 (p : Nat)] w fun e w' => OutRQ w w' e (quotedS s p) := by
  obtain ⟨R, HE⟩ : ∃ R, Hid (quoE s (p + 1) [] = R) := ⟨_, hid rfl⟩
  rw [show quotedS s p = R from HE.out]
  have B0 := Bx.made w (.int .i64 0) (.int .i64 0) 26
  have hal := below_alloc w (.cells #[.int .i64 0, .int .i64 0] 26)
  go_enter Tryz.func41, Tryz.ntmps41
  go_wp2_with fail
  generalize w.alloc (.cells #[.int .i64 0, .int .i64 0] 26) = W1 at B0 hal ⊢
  have hlW := B0.lt
  go_loopw [7, 8] (fun bv kv wr => ∃ a m c out, ∃ k : Nat, bv = .slice a m c ∧ kv = .int .i64 (k : Nat) ∧ p < k ∧ k ≤ s.size ∧ m ≤ k ∧ Bs wr W1.heap.size a m c out ∧ Below W1.heap.size W1 wr ∧ Hid (quoE s k out = R)) (fun _ kv _ => s.size - (intOf kv).toNat)
  case atStart => exact ⟨none, 0, 0, [], p + 1, rfl, rfl, by omega, by omega, by omega, Bs.nil _ _, Below.refl _ _, HE⟩
  case round =>
    obtain ⟨a, m, cp, out, k, rfl, rfl, hnk, hk, hmk, hB, hbl, HN⟩ := hrel
    have hsz := hbl.size
    have E := B0.keep hbl
    have e0 := E.c0
    have e1 := E.c1
    have ef := E.fr
    have hw : Below w.heap.size w wr := hal.trans (hbl.mono hal.size)
    have HU := quoE_unfold (s := s) (out := out) hk
    rw [HN.out] at HU
    by_cases hge : s.size ≤ k
    · have hk2 : k = s.size := by omega
      rw [if_pos hge] at HU
      subst HU
      have hgi : ¬ (k : Int) < (s.size : Int) := by omega
      go_wp2_with (go_at_call 16; refine (bad_any 31 (s.size) _).mono ?_; rintro e w2 ⟨rfl, hb⟩; have F := E.keep hb; have f0 := F.c0; have f1 := F.c1; have ff := F.fr)
      refine bodyPost_ret (v := .tuple #[.string ⟨#[]⟩, .int .i64 0, .agg #[.int .i64 31, .int .i64 (s.size : Nat)]]) (by simp [results, Tryz.results41, go_sem, f0, f1]) rfl ?_
      exact ⟨((hw.trans (hb.mono (Nat.le_trans hal.size hsz))).setCell (Nat.le_refl _) _).setCell (Nat.le_refl _) _, rfl⟩
    rw [if_neg hge] at HU
    have hlt : k < s.size := by omega
    have hgi : (k : Int) < (s.size : Int) := by omega
    have hix : ∀ w, (Instr.index 9 (.string s) (.int .i64 (k : Int))).run Tryz.prog w = .ok (.int .u8 (bt s k : Nat)) w := fun w => run_bt Tryz.underlying9 hlt rfl
    obtain ⟨c, hc⟩ : ∃ c, bt s k = c := ⟨_, rfl⟩
    have hc6 : c < 256 := hc ▸ bt_lt s _
    rw [hc] at HU hix
    clear hc
    by_cases h34 : c = 34
    · rw [if_pos h34] at HU
      subst HU
      subst h34
      have hcv := run_bs hB
      go_wp2_with fail
      refine bodyPost_ret (v := .tuple #[.string ⟨out.toArray⟩, .int .i64 ((k : Nat) + 1 : Int), .agg #[.int .i64 0, .int .i64 0]]) (by simp [results, Tryz.results41, go_sem, e0, e1]) rfl ?_
      exact ⟨(hw.setCell (Nat.le_refl _) _).setCell (Nat.le_refl _) _, rfl⟩
    rw [if_neg h34] at HU
    have c34n : ¬ (c : Int) = 34 := by omega
    have c34b : ((c : Int) == 34) = false := by simp; omega
    by_cases hbad : c < 32 ∨ 126 < c
    · rw [if_pos hbad] at HU
      subst HU
      by_cases h32 : c < 32
      · have h32i : (c : Int) < 32 := by omega
        go_wp2_with (go_at_call 16; refine (bad_any 32 (k) _).mono ?_; rintro e w2 ⟨rfl, hb⟩; have F := E.keep hb; have f0 := F.c0; have f1 := F.c1; have ff := F.fr)
        refine bodyPost_ret (v := .tuple #[.string ⟨#[]⟩, .int .i64 0, .agg #[.int .i64 32, .int .i64 (k : Nat)]]) (by simp [results, Tryz.results41, go_sem, f0, f1]) rfl ?_
        exact ⟨((hw.trans (hb.mono (Nat.le_trans hal.size hsz))).setCell (Nat.le_refl _) _).setCell (Nat.le_refl _) _, rfl⟩
      · have h32i : ¬ (c : Int) < 32 := by omega
        have h126i : (126 : Int) < (c : Int) := by omega
        go_wp2_with (go_at_call 16; refine (bad_any 32 (k) _).mono ?_; rintro e w2 ⟨rfl, hb⟩; have F := E.keep hb; have f0 := F.c0; have f1 := F.c1; have ff := F.fr)
        refine bodyPost_ret (v := .tuple #[.string ⟨#[]⟩, .int .i64 0, .agg #[.int .i64 32, .int .i64 (k : Nat)]]) (by simp [results, Tryz.results41, go_sem, f0, f1]) rfl ?_
        exact ⟨((hw.trans (hb.mono (Nat.le_trans hal.size hsz))).setCell (Nat.le_refl _) _).setCell (Nat.le_refl _) _, rfl⟩
    rw [if_neg hbad] at HU
    have h32i : ¬ (c : Int) < 32 := by omega
    have h126i : ¬ (126 : Int) < (c : Int) := by omega
    by_cases h92 : c ≠ 92
    · rw [if_pos h92] at HU
      have HN2 := hid HU.symm
      have c92n : ¬ (c : Int) = 92 := by omega
      have c92b : ((c : Int) == 92) = false := by simp; omega
      clear HU
      go_wp2_with (at_builtin; refine wpList_append_u8 _ rfl _ _ rfl W1.heap.size (by simp; omega) _ _ _ wr.heap.size c out hc6 rfl rfl (hB.below (below_alloc _ _)) ((World.cell?_alloc_new wr #[.int .u8 (c : Nat)] 5 0).trans rfl) (by omega) ?_; intro a' c' w1 k5 k6)
      exact ⟨⟨a', m + 1, c', _, k + 1, rfl, rfl, by omega, by omega, by omega, k5, hbl.trans ((((below_alloc wr _).mono hsz)).trans k6), HN2⟩, by simp [intOf]; omega⟩
    rw [if_neg h92] at HU
    obtain rfl : c = 92 := by omega
    obtain ⟨r, hr⟩ : ∃ r, escS s (k + 1) = r := ⟨_, rfl⟩
    obtain ⟨d, j⟩ := r
    rw [hr] at HU
    simp only at HU
    have HR := hid hr
    have hei := @esc_in s (k + 1)
    rw [hr] at hei
    simp only at hei
    clear hr
    by_cases hj0 : j = 0
    · rw [if_pos hj0] at HU
      subst HU
      subst hj0
      go_wp2_with (first | (go_at_call 64; refine (rescape_any s (k + 1) _ hs (by omega)).mono ?_; intro e w1 kk; obtain ⟨he, k7⟩ := kk; rw [HR.out] at he; subst he; have hs7 := k7.size) | (go_at_call 16; refine (bad_any 32 (k) _).mono ?_; rintro e w2 ⟨rfl, hb⟩; have F := (E.keep k7).keep hb; have f0 := F.c0; have f1 := F.c1; have ff := F.fr))
      refine bodyPost_ret (v := .tuple #[.string ⟨#[]⟩, .int .i64 0, .agg #[.int .i64 32, .int .i64 (k : Nat)]]) (by simp [results, Tryz.results41, go_sem, f0, f1]) rfl ?_
      exact ⟨((((hw.trans (k7.mono (Nat.le_trans hal.size hsz)))).trans (hb.mono (Nat.le_trans hal.size (Nat.le_trans hsz hs7)))).setCell (Nat.le_refl _) _).setCell (Nat.le_refl _) _, rfl⟩
    · rw [if_neg hj0] at HU
      have HN2 := hid HU.symm
      have hjj := hei hj0
      have jn : ¬ (j : Int) = 0 := by omega
      clear HU hei
      go_wp2_with (first | (go_at_call 64; refine (rescape_any s (k + 1) _ hs (by omega)).mono ?_; intro e w1 kk; obtain ⟨he, k7⟩ := kk; rw [HR.out] at he; subst he; have hs7 := k7.size) | (at_builtin; refine wpList_append_u8 _ rfl _ _ rfl W1.heap.size (by simp; omega) _ _ _ _ d out (by omega) rfl rfl (hB.below (k7.trans ((below_alloc _ _).mono k7.size))) ((World.cell?_alloc_new w1 #[.int .u8 (d : Nat)] 5 0).trans rfl) (by omega) ?_; intro a' c' w2 k5 k6))
      refine ⟨⟨a', m + 1, c', _, k + (1 + j), rfl, rfl, by omega, by omega, by omega, k5, (hbl.trans (k7.mono hsz)).trans (((below_alloc _ _).mono (Nat.le_trans hsz hs7)).trans k6), ?_⟩, by simp [intOf]; omega⟩
      rw [show k + (1 + j) = k + 1 + j by omega]
      exact HN2
end Go.Proofs.YtajpeeccomgnnaaGreatDoor
