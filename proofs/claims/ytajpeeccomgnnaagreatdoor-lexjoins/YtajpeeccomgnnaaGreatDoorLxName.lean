/-
  name, walked.
-/
import Derived.Test.YtajpeeccomgnnaaGreatDoorLxSpec
import Derived.Test.YtajpeeccomgnnaaGreatDoorLxRsv
namespace Go.Proofs.YtajpeeccomgnnaaGreatDoor
set_option linter.all false
open Go Go.RowKit

theorem ext_sub (s : ByteArray) (i k : Nat) : s.extract i k = ⟨(sub s i k).toArray⟩ := by unfold sub; rw [Array.toArray_toList]
theorem sub_len {s : ByteArray} {i k : Nat} (h1 : i ≤ k) (h2 : k ≤ s.size) : (sub s i k).length = k - i := by
  unfold sub
  rw [← Lib.size_eq]
  exact sub_size h1 h2
theorem bt_in {s : ByteArray} {i : Nat} (h : bt s i ≠ 0) : i < s.size := by
  rcases Nat.lt_or_ge i s.size with c | c
  · exact c
  · exact absurd (bt_out c) h
theorem let_in {s : ByteArray} {i : Nat} (h : isLet (bt s i) = true) : i < s.size := bt_in (by intro e; rw [e] at h; simp [isLet] at h)
theorem dig_in {s : ByteArray} {i : Nat} (h : isDig (bt s i) = true) : i < s.size := bt_in (by intro e; rw [e] at h; simp [isDig] at h)
theorem let_nam {c : Nat} (h : isLet c = true) : isNam c = true := by unfold isNam; rw [h]; rfl
theorem runE_lt {p : Nat → Bool} {s : ByteArray} {i : Nat} (h : i < s.size) (hp : p (bt s i) = true) : i < runE p s i := by
  rw [runE_step h hp]; exact runE_le p s (i + 1)
theorem long_no {s : ByteArray} {k : Nat} (h : s.size ≤ k) : ¬ (bt s k = 46 ∧ isLet (bt s (k + 1)) = true) := fun c => by
  have := bt_out h; omega
theorem longS_fuel (s : ByteArray) (i : Nat) : ∀ m m' k, s.size - k ≤ m → s.size - k ≤ m' → longS s m i k = longS s m' i k := by
  intro m
  induction m with
  | zero =>
    intro m' k h h'
    cases m' with
    | zero => rfl
    | succ m' => unfold longS; rw [if_neg (long_no (by omega))]
  | succ m ih =>
    intro m' k h h'
    cases m' with
    | zero => unfold longS; rw [if_neg (long_no (by omega))]
    | succ m' =>
      unfold longS
      by_cases hc : bt s k = 46 ∧ isLet (bt s (k + 1)) = true
      · have h2 : k + 1 < s.size := let_in hc.2
        have h3 := runE_lt h2 (let_nam hc.2)
        rw [if_pos hc, if_pos hc, ih m' (runE isNam s (k + 1)) (by omega) (by omega)]
      · rw [if_neg hc, if_neg hc]
def long (s : ByteArray) (i k : Nat) : Ans := longS s (s.size - k) i k
theorem long_stop {s : ByteArray} {i k : Nat} (h : ¬ (bt s k = 46 ∧ isLet (bt s (k + 1)) = true)) : long s i k = shortS s i k 1 := by
  unfold long
  cases s.size - k with
  | zero => rfl
  | succ m => rw [longS, if_neg h]
theorem long_step {s : ByteArray} {i k : Nat} (h : bt s k = 46 ∧ isLet (bt s (k + 1)) = true) :
    long s i k = if rsv (sub s (k + 1) (runE isNam s (k + 1))) = true then .error (32, k + 1) else long s i (runE isNam s (k + 1)) := by
  have h2 : k + 1 < s.size := let_in h.2
  have h3 := runE_lt h2 (let_nam h.2)
  unfold long
  obtain ⟨m, hm⟩ : ∃ m, s.size - k = m + 1 := ⟨s.size - k - 1, by omega⟩
  rw [hm, longS, if_pos h, longS_fuel s i m (s.size - runE isNam s (k + 1)) _ (by omega) (Nat.le_refl _)]
theorem while_nam (b : Nat) (s : ByteArray) (p n : Nat) (la : Option Addr) (ln lc : Nat) (code mat : Int) (w : World) (hs : s.size ≤ 1099511627776) (hp : p + n ≤ s.size) (h : Sc w b s p la ln lc code mat) :
    Calls Tryz.prog 31 #[.pointer (some ⟨b, 0, none⟩), .int .i64 (n : Nat), .func (.func 32) #[] #[]] w fun e w' => e = .returned (.string ⟨(sub s (p + n) (runE isNam s (p + n))).toArray⟩) ∧ ∃ q, w' = w.drewN q := by
  rw [← ext_sub]; exact while_name b s p n la ln lc code mat w hs hp h
theorem while_dig (b : Nat) (s : ByteArray) (p n : Nat) (la : Option Addr) (ln lc : Nat) (code mat : Int) (w : World) (hs : s.size ≤ 1099511627776) (hp : p + n ≤ s.size) (h : Sc w b s p la ln lc code mat) :
    Calls Tryz.prog 31 #[.pointer (some ⟨b, 0, none⟩), .int .i64 (n : Nat), .func (.func 27) #[] #[]] w fun e w' => e = .returned (.string ⟨(sub s (p + n) (runE isDig s (p + n))).toArray⟩) ∧ ∃ q, w' = w.drewN q := by
  rw [← ext_sub]; exact while_digit b s p n la ln lc code mat w hs hp h
theorem while_sy (b : Nat) (s : ByteArray) (p n : Nat) (la : Option Addr) (ln lc : Nat) (code mat : Int) (w : World) (hs : s.size ≤ 1099511627776) (hp : p + n ≤ s.size) (h : Sc w b s p la ln lc code mat) :
    Calls Tryz.prog 31 #[.pointer (some ⟨b, 0, none⟩), .int .i64 (n : Nat), .func (.func 35) #[] #[]] w fun e w' => e = .returned (.string ⟨(sub s (p + n) (runE isSym s (p + n))).toArray⟩) ∧ ∃ q, w' = w.drewN q := by
  rw [← ext_sub]; exact while_sym b s p n la ln lc code mat w hs hp h
theorem St.drewN {w : World} {b : Nat} {s : ByteArray} {p : Nat} {ts : List Tok} {base : Nat} (h : St w b s p ts base) (q : Nat) : St (w.drewN q) b s p ts base := h.below (drewN_below w q)
theorem Sc.drewN {w : World} {b : Nat} {s : ByteArray} {p : Nat} {la : Option Addr} {ln lc : Nat} {code mat : Int} (h : Sc w b s p la ln lc code mat) (q : Nat) : Sc (w.drewN q) b s p la ln lc code mat := h.below (drewN_below w q)
theorem Out.before {w0 w w' : World} {b : Nat} {s : ByteArray} {ts : List Tok} {base : Nat} {e : Ending} {r : Ans} (h : Out w w' b s ts base e r) (k : Below base w0 w) (u : UsK w0 w) : Out w0 w' b s ts base e r := ⟨h.1, k.trans h.2.1, u.trans h.2.2.1, h.2.2.2⟩
theorem Out.drewN {w w' : World} {b : Nat} {s : ByteArray} {ts : List Tok} {base : Nat} {e : Ending} {r : Ans} {q : Nat} (h : Out (w.drewN q) w' b s ts base e r) : Out w w' b s ts base e r :=
  h.before ⟨rfl, rfl, rfl, Nat.le_refl _, fun _ _ => rfl⟩ (UsK.below (drewN_below w q))

theorem below_drewB {B : Nat} (w : World) (q : Nat) : Below B w (w.drewN q) := ⟨rfl, rfl, rfl, Nat.le_refl _, fun _ _ => rfl⟩
theorem tell_st (b : Nat) (s : ByteArray) (p n kind bits N : Nat) (tx : ByteArray) (sg : Bool) (am : Option Addr) (nm cm : Nat) (z : Int) (at0 : Int) (ts : List Tok) (base : Nat) (w : World)
    (hs : s.size ≤ 65536) (hn : 0 < n) (hp : p + n ≤ s.size) (h : St w b s p ts base) (hm : Mg w sg am nm cm z) :
    Calls Tryz.prog 34 #[.pointer (some ⟨b, 0, none⟩), .agg #[.int .i64 (kind : Nat), .string tx, .bool sg, .slice am nm cm, .int .u64 (bits : Nat), .int .i64 (N : Nat), .int .i64 at0], .int .i64 (n : Nat)] w fun e w' =>
      Out w w' b s ts base e (.ok (⟨kind, sub s p (p + n), z, bits, N, p⟩, p + n)) := by
  obtain ⟨la, lc, h1, h2, h3, h4, h5, h6⟩ := h
  refine (tell_any b s p n la ts.length lc 0 0 kind bits N tx sg am nm cm z at0 ts base w (by omega) hp h1 h2 h3 h4 h5 hm (by omega)).mono ?_
  rintro e w1 ⟨la', lc', rfl, k1, k2, k3, k4, k5, k6⟩
  refine ⟨rfl, k5, k6, la', lc', ?_, ?_, k3, h4, k4, by simp; omega⟩
  · simpa using k1
  · simpa [sub] using k2
theorem mx_drew {w : World} {p : Addr} {v : Option Value} (h : w.cell? p = v) (q : Nat) : (w.drewN q).cell? p = v := by simpa using h

set_option maxHeartbeats 8000000 in
theorem name_any (b : Nat) (s : ByteArray) (p : Nat) (ts : List Tok) (base : Nat) (m : Int) (w : World) (hs : s.size ≤ 65536) (hl : isLet (bt s p) = true) (h : St w b s p ts base) (hbw : base ≤ w.heap.size) (hb1 : 1 < base) (hm : w.cell? ⟨1, 0, none⟩ = some (.int .i64 m)) :
    Calls Tryz.prog 26 #[.pointer (some ⟨b, 0, none⟩)] w fun e w' => Out w w' b s ts base e (nameS s p) := by
  have hp := let_in hl
  have hk := runE_lt hp (let_nam hl)
  have hks := runE_size (p := isNam) (i := p) (s := s) (by omega)
  have hlen := sub_len (s := s) (i := p) (k := runE isNam s p) (by omega) hks
  have h0 := h
  obtain ⟨la, lc, h1, h2, h3, h4, h5, h6⟩ := h
  unfold nameS
  rcases hr : rsv (sub s p (runE isNam s p)) with _ | _
  · rw [if_neg (by simp)]
    obtain ⟨k, hkk⟩ : ∃ k, runE isNam s p = k := ⟨_, rfl⟩
    rw [hkk] at hr hk hks hlen ⊢
    rw [show longS s (s.size - k) p k = long s p k from rfl]
    have HR := hid hr
    have HK := hid hkk
    have HL := hid hl
    clear hl hr hkk
    obtain ⟨R, HE⟩ : ∃ R, Hid (long s p k = R) := ⟨_, hid rfl⟩
    rw [HE.out]
    go_enter Tryz.func26, Tryz.ntmps26
    have tk1 : True := trivial
    have tk2 : True := trivial
    go_wp2_with (first | (have _t := tk1; go_at_call 31; refine (while_nam b s p 0 la ts.length lc 0 0 _ (by omega) (by omega) h1).mono ?_; rintro e w1 ⟨rfl, q1, rfl⟩; rw [show runE isNam s (p + 0) = k from HK.out]; clear tk1) | (have _t := tk2; go_at_call 11; refine (reserved_any (sub s p k) m _ (mx_drew hm _) (by omega)).mono ?_; rintro e w1 ⟨rfl, rfl⟩; rw [HR.out]; clear tk2))
    go_loopw [2, 3] (fun sv nv wr => (∃ q, wr = w.drewN q) ∧ ∃ n : Nat, nv = .int .i64 (n : Nat) ∧ 0 < n ∧ p + n ≤ s.size ∧ Hid (long s p (p + n) = R)) (fun _ nv _ => s.size - (intOf nv).toNat)
    case atStart => exact ⟨⟨_, rfl⟩, k - p, by first | rfl | rw [hlen], by omega, by omega, by rw [show p + (k - p) = k by omega]; exact HE⟩
    case round =>
      obtain ⟨⟨q, rfl⟩, n, rfl, hn, hpn, HN⟩ := hrel
      have tk1 : True := trivial
      have tk2 : True := trivial
      have tk3 : True := trivial
      have tk4 : True := trivial
      obtain ⟨c, hc⟩ : ∃ c, bt s (p + n) = c := ⟨_, rfl⟩
      have hc6 : c < 256 := hc ▸ bt_lt s _
      have HC := hid hc
      by_cases hcp : c = 46
      · subst hcp
        rcases hd : isLet (bt s (p + (n + 1))) with _ | _
        · have HD := hid hd
          have HS := hid (long_stop (s := s) (i := p) (k := p + n) (fun x => by rw [show p + n + 1 = p + (n + 1) by omega, hd] at x; exact absurd x.2 (by simp)))
          clear hd hc
          go_wp2_with (first | (have _t := tk1; go_at_call 23; refine (peek_any b s p (n) la ts.length lc 0 0 _ (by omega) (by omega) (by omega) (h1.drewN _)).mono ?_; rintro e w1 ⟨rfl, _, rfl⟩; rw [HC.out]; clear tk1) | (have _t := tk2; go_at_call 23; refine (peek_any b s p (n + 1) la ts.length lc 0 0 _ (by omega) (by omega) (by omega) (h1.drewN _)).mono ?_; rintro e w1 ⟨rfl, _, rfl⟩; clear tk2) | (go_at_call 25; refine (letter_any _ _ (bt_lt _ _)).mono ?_; rintro e w1 ⟨rfl, rfl⟩; rw [HD.out]) | (go_at_call 30; refine (short_any b s p n 1 ts base _ hs hn hpn (h0.drewN _) (by simpa using hbw)).mono ?_; rintro e w1 hO; obtain rfl := hO.1; have HO := hid (Out.drewN hO); clear hO))
          go_end0
          rw [← HN.out, HS.out]
          exact HO.out
        · have HD := hid hd
          have hlt := let_in hd
          have hcond : bt s (p + n) = 46 ∧ isLet (bt s (p + n + 1)) = true := ⟨HC.out, by rw [show p + n + 1 = p + (n + 1) by omega]; exact hd⟩
          have HS := hid (long_step (s := s) (i := p) (k := p + n) hcond)
          obtain ⟨k2, hk2⟩ : ∃ k2, runE isNam s (p + n + 1) = k2 := ⟨_, rfl⟩
          have hk3 : p + n + 1 < k2 := hk2 ▸ runE_lt (by omega) (let_nam hcond.2)
          have hk4 : k2 ≤ s.size := hk2 ▸ runE_size (by omega)
          have hlen2 := sub_len (s := s) (i := p + n + 1) (k := k2) (by omega) hk4
          rw [hk2] at HS
          have HK2 := hid hk2
          rcases hr2 : rsv (sub s (p + n + 1) k2) with _ | _
          · have HR2 := hid hr2
            clear hd hc hcond hk2 hr2 hlt
            go_wp2_with (first | (have _t := tk1; go_at_call 23; refine (peek_any b s p (n) la ts.length lc 0 0 _ (by omega) (by omega) (by omega) (h1.drewN _)).mono ?_; rintro e w1 ⟨rfl, _, rfl⟩; rw [HC.out]; clear tk1) | (have _t := tk2; go_at_call 23; refine (peek_any b s p (n + 1) la ts.length lc 0 0 _ (by omega) (by omega) (by omega) (h1.drewN _)).mono ?_; rintro e w1 ⟨rfl, _, rfl⟩; clear tk2) | (go_at_call 25; refine (letter_any _ _ (bt_lt _ _)).mono ?_; rintro e w1 ⟨rfl, rfl⟩; rw [HD.out]) | (go_at_call 31; refine (while_nam b s p (n + 1) la ts.length lc 0 0 _ (by omega) (by omega) (h1.drewN _)).mono ?_; rintro e w1 ⟨rfl, _, rfl⟩; rw [show p + (n + 1) = p + n + 1 by omega, HK2.out]) | (go_at_call 11; refine (reserved_any (sub s (p + n + 1) k2) m _ (mx_drew hm _) (by omega)).mono ?_; rintro e w1 ⟨rfl, rfl⟩; rw [HR2.out]))
            refine ⟨⟨⟨_, rfl⟩, n + (1 + (k2 - (p + n + 1))), ?_, by omega, by omega, ?_⟩, ?_⟩
            · exact congrArg (Value.int .i64) (by omega)
            · exact hid (by rw [show p + (n + (1 + (k2 - (p + n + 1)))) = k2 by omega, ← HN.out, HS.out, HR2.out]; rfl)
            · simp [intOf]; omega
          · have HR2 := hid hr2
            clear hd hc hcond hk2 hr2 hlt
            have cc1 := h1.c1
            go_wp2_with (first | (have _t := tk1; go_at_call 23; refine (peek_any b s p (n) la ts.length lc 0 0 _ (by omega) (by omega) (by omega) (h1.drewN _)).mono ?_; rintro e w1 ⟨rfl, _, rfl⟩; rw [HC.out]; clear tk1) | (have _t := tk2; go_at_call 23; refine (peek_any b s p (n + 1) la ts.length lc 0 0 _ (by omega) (by omega) (by omega) (h1.drewN _)).mono ?_; rintro e w1 ⟨rfl, _, rfl⟩; clear tk2) | (go_at_call 25; refine (letter_any _ _ (bt_lt _ _)).mono ?_; rintro e w1 ⟨rfl, rfl⟩; rw [HD.out]) | (go_at_call 31; refine (while_nam b s p (n + 1) la ts.length lc 0 0 _ (by omega) (by omega) (h1.drewN _)).mono ?_; rintro e w1 ⟨rfl, _, rfl⟩; rw [show p + (n + 1) = p + n + 1 by omega, HK2.out]) | (go_at_call 11; refine (reserved_any (sub s (p + n + 1) k2) m _ (mx_drew hm _) (by omega)).mono ?_; rintro e w1 ⟨rfl, rfl⟩; rw [HR2.out]) | (go_at_call 24; refine (fail_any b s p la ts.length lc 0 0 _ _ _ base h4 (h1.drewN _)).mono ?_; rintro e w1 ⟨rfl, f1, f2, f3⟩))
            refine bodyPost_ret (results_none rfl _ _ _) rfl ?_
            rw [← HN.out, HS.out, HR2.out, if_pos rfl]
            exact ⟨rfl, (below_drewB w _).trans f2, (UsK.below (drewN_below w _)).trans f3, p, la, _, lc, by rw [show ((p + n + 1 : Nat) : Int) = (p : Int) + (n : Int) + 1 by omega]; exact f1⟩
      · have hcb : ((c : Int) == 46) = false := by simp; omega
        have hci : ¬ (c : Int) = 46 := by omega
        have HS := hid (long_stop (s := s) (i := p) (k := p + n) (fun x => hcp (hc ▸ x.1)))
        clear hc
        go_wp2_with (first | (have _t := tk1; go_at_call 23; refine (peek_any b s p (n) la ts.length lc 0 0 _ (by omega) (by omega) (by omega) (h1.drewN _)).mono ?_; rintro e w1 ⟨rfl, _, rfl⟩; rw [HC.out]; clear tk1) | (go_at_call 30; refine (short_any b s p n 1 ts base _ hs hn hpn (h0.drewN _) (by simpa using hbw)).mono ?_; rintro e w1 hO; obtain rfl := hO.1; have HO := hid (Out.drewN hO); clear hO))
        go_end0
        rw [← HN.out, HS.out]
        exact HO.out
  · rw [if_pos rfl]
    obtain ⟨k, hkk⟩ : ∃ k, runE isNam s p = k := ⟨_, rfl⟩
    rw [hkk] at hr hk hks hlen ⊢
    have HR := hid hr
    have HK := hid hkk
    clear hl hr hkk
    go_enter Tryz.func26, Tryz.ntmps26
    have tk1 : True := trivial
    have tk2 : True := trivial
    go_wp2_with (first | (have _t := tk1; go_at_call 31; refine (while_nam b s p 0 la ts.length lc 0 0 _ (by omega) (by omega) h1).mono ?_; rintro e w1 ⟨rfl, q1, rfl⟩; rw [show runE isNam s (p + 0) = k from HK.out]; clear tk1) | (have _t := tk2; go_at_call 11; refine (reserved_any (sub s p k) m _ (mx_drew hm _) (by omega)).mono ?_; rintro e w1 ⟨rfl, rfl⟩; rw [HR.out]; clear tk2) | (go_at_call 34; refine (tell_st b s p (k - p) 8 0 0 _ _ _ _ _ 0 _ ts base _ hs (by omega) (by omega) (h0.drewN _) (Mg.zero _)).mono ?_; rintro e w1 hO; obtain rfl := hO.1; have HO := hid (Out.drewN hO); clear hO))
    refine bodyPost_ret (results_none rfl _ _ _) rfl ?_
    have h := HO.out
    rw [show p + (k - p) = k by omega] at h
    exact h
end Go.Proofs.YtajpeeccomgnnaaGreatDoor
