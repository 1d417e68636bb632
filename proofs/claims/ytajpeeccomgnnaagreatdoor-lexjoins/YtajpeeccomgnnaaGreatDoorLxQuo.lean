/-
  quoted, walked.
-/
import Derived.Test.YtajpeeccomgnnaaGreatDoorLxEsc
import Derived.Test.YtajpeeccomgnnaaGreatDoorLxBlP
import Derived.Laws.BytesArg
import Derived.Laws.IdiomStrings
namespace Go.Proofs.YtajpeeccomgnnaaGreatDoor
set_option linter.all false
open Go Go.RowKit

/-- A row of bytes of one's own. -/
def Bs (w : World) (base : Nat) (a : Option Addr) (n c : Nat) (l : List UInt8) : Prop :=
  ∃ h, Arr w a n c h ∧ n = l.length ∧ (∀ i x, l[i]? = some x → h i = .int .u8 (x.toNat : Nat)) ∧ New w base a c ∧ (l = [] → a = none)
theorem Bs.nil (w : World) (base : Nat) : Bs w base none 0 0 [] := ⟨fun _ => .bool false, Arr.empty _ _ _, rfl, fun i x e => by simp at e, New.nil _ _ _, fun _ => rfl⟩
theorem Bs.below {w w' : World} {base : Nat} {a : Option Addr} {n c : Nat} {l : List UInt8} (k : Bs w base a n c l) (hb : Below w.heap.size w w') : Bs w' base a n c l := by
  obtain ⟨h, A, e, hx, N, h0⟩ := k
  refine ⟨h, A.below hb (Nat.le_refl _), e, hx, fun i hi => ?_, h0⟩
  obtain ⟨b, off, e1, g1, g2⟩ := N i hi
  obtain ⟨b', off', e2, hc⟩ := A.cell i hi
  rw [e1] at e2
  simp only [Option.some.injEq, Addr.mk.injEq, and_true] at e2
  obtain ⟨rfl, rfl⟩ := e2
  exact ⟨b, off, e1, g1, (hb.frozen (p := ⟨b, off + i, none⟩) (World.block_lt_of_cell? w _ hc)).trans g2⟩
theorem Tryz.info5 : (Tryz.prog.info? 5).map (fun i => (i.zero, i.size, i.bytes)) = some (some (.int .u8 0), 1, 1) := by kernel_rfl
theorem one_cell {w : World} {xb : Nat} {v : Value} (h : w.cell? ⟨xb, 0, none⟩ = some v) : ∀ i, i < 1 → ∃ b off, (some ⟨xb, 0, none⟩ : Option Addr) = some ⟨b, off, none⟩ ∧ w.cell? ⟨b, off + i, none⟩ = some v := fun i hi => by
  have : i = 0 := by omega
  subst this
  exact ⟨xb, 0, rfl, h⟩
theorem wpList_append_u8 {ops : Array Oper} {rest : List Oper} {o : Oper} {act : Act} {Q : Exit → Act → World → Prop} (w : World) (hgd : o.guard = none) (s x : Operand)
    (ho : o.op = .call { callee := .builtin .append, args := #[s, x], argTypes := #[83, 83] }) (base : Nat) (hbase : base ≤ w.heap.size)
    (a : Option Addr) (n c xb y : Nat) (l : List UInt8) (hy : y < 256) (hs : act.eval s = .slice a n c) (hx : act.eval x = .slice (some ⟨xb, 0, none⟩) 1 1) (A : Bs w base a n c l) (hxc : w.cell? ⟨xb, 0, none⟩ = some (.int .u8 (y : Nat)))
    (hlen : n ≤ 70368744177664)
    (hK : ∀ a' c' w', Bs w' base a' (n + 1) c' (l ++ [UInt8.ofNat y]) → Below base w w' → wpList Tryz.prog ops Q rest (act.put o.dst (.slice a' (n + 1) c')) w') :
    wpList Tryz.prog ops Q (o :: rest) act w := by
  obtain ⟨h, A1, e, hv, N, h0⟩ := A
  refine wpList_append_arr w hgd s x 83 83 ho 5 5 (.int .u8 0) 1 Tryz.underlying83 Tryz.underlying83 Tryz.info5 rfl base hbase a (some ⟨xb, 0, none⟩) n c 1 1 h (fun _ => .int .u8 (y : Nat)) hs hx A1 N
    ⟨Nat.le_refl _, by decide, one_cell hxc⟩ (fun _ _ => rfl) (by omega) (by omega) ?_
  intro a' c' r w' _ A2 N2 hb
  refine hK a' c' w' ⟨_, A2, by simp [e], fun i z hz => ?_, N2, fun h => by simp at h⟩ hb
  unfold cat
  by_cases hi : i < n
  · rw [if_pos hi]
    rw [List.getElem?_append_left (by omega)] at hz
    exact hv i z hz
  · rw [if_neg hi]
    rw [List.getElem?_append_right (by omega)] at hz
    have hi2 : i - l.length = 0 := by
      have := (List.getElem?_eq_some_iff.1 hz).1
      simp at this; omega
    rw [hi2] at hz
    have hz2 := Option.some.inj (show some (UInt8.ofNat y) = some z from hz)
    subst hz2
    rw [if_pos (by omega), ofNat_toNat hy]
theorem run_bs {w : World} {base : Nat} {a : Option Addr} {n c : Nat} {l : List UInt8} (k : Bs w base a n c l) : (convert 83 9 (.slice a n c)).run Tryz.prog w = .ok (.string ⟨l.toArray⟩) w := by
  obtain ⟨h, A, rfl, hx, N, h0⟩ := k
  cases l with
  | nil =>
    rw [h0 rfl]
    exact run_convert_bytes_nil (P := Tryz.prog) (w := w) 83 5 Tryz.underlying83 Tryz.underlying5 _ _ 9 Tryz.underlying9
  | cons y l =>
    have hle := A.le
    obtain ⟨b, off, rfl, hc⟩ := A.addr (by simp at hle; omega)
    refine run_convert_bytes_back w 83 9 5 ⟨b, off, none⟩ c (y :: l) Tryz.underlying83 Tryz.underlying5 Tryz.underlying9 (fun j hj => ?_)
    rw [Addr.add_lit, hc j (by omega), hx j _ (List.getElem?_eq_getElem hj)]
theorem esc_in {s : ByteArray} {k : Nat} (h : (escS s k).2 ≠ 0) : k + (escS s k).2 ≤ s.size ∧ (escS s k).1 < 256 := by
  unfold escS at h ⊢
  by_cases h1 : bt s k = 110
  · rw [if_pos h1]; have := bt_in2 h1 (by omega); simp; omega
  · rw [if_neg h1] at h ⊢
    by_cases h2 : bt s k = 116
    · rw [if_pos h2]; have := bt_in2 h2 (by omega); simp; omega
    · rw [if_neg h2] at h ⊢
      by_cases h3 : bt s k = 92 ∨ bt s k = 34
      · rw [if_pos h3]; have := bt_in (s := s) (i := k) (by omega); have := bt_lt s k; simp; omega
      · rw [if_neg h3] at h ⊢
        by_cases h4 : k + 3 ≤ runE isDig s k
        · rw [if_pos h4] at h ⊢
          have hk : k < s.size := (runN_all isDig s (s.size - k) k k (Nat.le_refl _) (by have : runN isDig s (s.size - k) k = runE isDig s k := rfl; omega)).1
          have := runE_size (p := isDig) (s := s) (i := k) (by omega)
          simp only at h ⊢
          by_cases h5 : (bt s k - 48) * 100 + (bt s (k + 1) - 48) * 10 + (bt s (k + 2) - 48) < 256
          · rw [if_pos h5]; simp only; omega
          · rw [if_neg h5] at h; simp at h
        · rw [if_neg h4] at h; simp at h
theorem quoS_fuel (s : ByteArray) : ∀ m m' k out, k ≤ s.size → s.size + 1 ≤ m + k → s.size + 1 ≤ m' + k → quoS s m k out = quoS s m' k out := by
  intro m
  induction m with
  | zero => intro m' k out hi h h'; omega
  | succ m ih =>
    intro m' k out hi h h'
    obtain ⟨m', rfl⟩ : ∃ j, m' = j + 1 := ⟨m' - 1, by omega⟩
    unfold quoS
    by_cases h0 : s.size ≤ k
    · rw [if_pos h0, if_pos h0]
    · rw [if_neg h0, if_neg h0]
      by_cases h1 : bt s k = 34
      · rw [if_pos h1, if_pos h1]
      · rw [if_neg h1, if_neg h1]
        by_cases h2 : bt s k < 32 ∨ 126 < bt s k
        · rw [if_pos h2, if_pos h2]
        · rw [if_neg h2, if_neg h2]
          by_cases h3 : bt s k ≠ 92
          · rw [if_pos h3, if_pos h3, ih m' _ _ (by omega) (by omega) (by omega)]
          · rw [if_neg h3, if_neg h3]
            by_cases h4 : (escS s (k + 1)).2 = 0
            · rw [if_pos h4, if_pos h4]
            · have := esc_in h4
              rw [if_neg h4, if_neg h4, ih m' _ _ (by omega) (by omega) (by omega)]
def quoE (s : ByteArray) (k : Nat) (out : List UInt8) : Except (Nat × Nat) (List UInt8 × Nat) := quoS s (s.size + 1 - k) k out
theorem quoE_unfold {s : ByteArray} {k : Nat} {out : List UInt8} (hi : k ≤ s.size) : quoE s k out =
    if s.size ≤ k then .error (31, s.size)
    else if bt s k = 34 then .ok (out, k + 1)
    else if bt s k < 32 ∨ 126 < bt s k then .error (32, k)
    else if bt s k ≠ 92 then quoE s (k + 1) (out ++ [UInt8.ofNat (bt s k)])
    else if (escS s (k + 1)).2 = 0 then .error (32, k)
    else quoE s (k + 1 + (escS s (k + 1)).2) (out ++ [UInt8.ofNat (escS s (k + 1)).1]) := by
  unfold quoE
  obtain ⟨m, hm⟩ : ∃ m, s.size + 1 - k = m + 1 := ⟨s.size - k, by omega⟩
  rw [hm]
  conv => lhs; unfold quoS
  by_cases h0 : s.size ≤ k
  · rw [if_pos h0, if_pos h0]
  · rw [if_neg h0, if_neg h0]
    by_cases h1 : bt s k = 34
    · rw [if_pos h1, if_pos h1]
    · rw [if_neg h1, if_neg h1]
      by_cases h2 : bt s k < 32 ∨ 126 < bt s k
      · rw [if_pos h2, if_pos h2]
      · rw [if_neg h2, if_neg h2]
        by_cases h3 : bt s k ≠ 92
        · rw [if_pos h3, if_pos h3, quoS_fuel s m (s.size + 1 - (k + 1)) _ _ (by omega) (by omega) (by omega)]
        · rw [if_neg h3, if_neg h3]
          by_cases h4 : (escS s (k + 1)).2 = 0
          · rw [if_pos h4, if_pos h4]
          · have := esc_in h4
            rw [if_neg h4, if_neg h4, quoS_fuel s m (s.size + 1 - (k + 1 + (escS s (k + 1)).2)) _ _ (by omega) (by omega) (by omega)]
/-- What is behind quoted. -/
def OutQ (w w' : World) (b : Nat) (s : ByteArray) (p n : Nat) (ts : List Tok) (base : Nat) (e : Ending) (r : Except (Nat × Nat) (List UInt8 × Nat)) : Prop :=
  Below base w w' ∧ UsK w w' ∧
  match r with
  | .ok (x, k) => e = .returned (.tuple #[.string ⟨x.toArray⟩, .int .i64 ((k - p - n : Nat) : Int)]) ∧ St w' b s p ts base
  | .error (c, q) => e = .returned (.tuple #[.string ⟨#[]⟩, .int .i64 0]) ∧ ∃ la ln lc, Sc w' b s p la ln lc (c : Nat) (q : Nat)

set_option maxRecDepth 100000 in
set_option maxHeartbeats 16000000 in
theorem quoted_any (b : Nat) (s : ByteArray) (p n : Nat) (ts : List Tok) (base : Nat) (w : World) (hs : s.size ≤ 65536) (hp : p + n < s.size) (h : St w b s p ts base) (hbw : base ≤ w.heap.size) :
    Calls Tryz.prog 29 #[.pointer (some ⟨b, 0, none⟩), .int .i64 (n : Nat)] w fun e w' => OutQ w w' b s p n ts base e (quotedS s (p + n)) := by
  obtain ⟨R, HE⟩ : ∃ R, Hid (quoE s (p + (n + 1)) [] = R) := ⟨_, hid rfl⟩
  rw [show quotedS s (p + n) = R from HE.out]
  have hb := h.base
  have h0 := h
  obtain ⟨la, lc, h1, h2, h3, h4, h5, h6⟩ := h
  have blt := h1.lt
  have s0 := h1.c0
  have s1 := h1.c1
  clear h2 h3 h5 h6
  go_enter Tryz.func29, Tryz.ntmps29
  go_wp2
  go_loopw [6, 7] (fun bv kv wr => ∃ a m c out, ∃ k : Nat, bv = .slice a m c ∧ kv = .int .i64 (k : Nat) ∧ n < k ∧ p + k ≤ s.size ∧ m ≤ k ∧ Bs wr w.heap.size a m c out ∧ Below w.heap.size w wr ∧ Hid (quoE s (p + k) out = R)) (fun _ kv _ => s.size - (intOf kv).toNat)
  case atStart => exact ⟨none, 0, 0, [], n + 1, rfl, rfl, by omega, by omega, by omega, Bs.nil _ _, Below.refl _ _, HE⟩
  case round =>
    obtain ⟨a, m, cp, out, k, rfl, rfl, hnk, hk, hmk, hB, hbl, HN⟩ := hrel
    have hst := h0.below hbl
    have g1 := h1.below hbl
    have hsz := hbl.size
    have k0 : wr.cell? ⟨b, 0, none⟩ = some (.string s) := g1.c0
    have k1 : wr.cell? ⟨b, 1, none⟩ = some (.int .i64 (p : Nat)) := g1.c1
    obtain ⟨c, hc⟩ : ∃ c, bt s (p + k) = c := ⟨_, rfl⟩
    have hc6 : c < 256 := hc ▸ bt_lt s _
    have hin : c ≠ 0 → p + k < s.size := fun x => bt_in2 hc x
    have HU := quoE_unfold (s := s) (out := out) hk
    rw [hc, HN.out] at HU
    have HC := hid hc
    have tk : True := trivial
    have hwr : IntKind.i64.wrap ((p : Int) + (k : Int)) = (p : Int) + (k : Int) := IntWalk.i64_in _ (by omega)
    by_cases hge : s.size ≤ p + k
    · obtain hk2 : p + k = s.size := by omega
      rw [if_pos hge] at HU
      subst HU
      clear hc HC hin hc6
      have hgi : (s.size : Int) ≤ (p : Int) + (k : Int) := by omega
      have hdg : decide ((s.size : Int) ≤ (p : Int) + (k : Int)) = true := by rw [decide_eq_true_eq]; omega
      go_wp2_with (have _t := tk; go_at_call 23; refine (peek_any b s p k la ts.length lc 0 0 _ (by omega) (by omega) (by omega) g1).mono ?_; rintro e w1 ⟨rfl, q1, rfl⟩; clear tk)
      go_quiet (fail)
      go_wp2_with (go_at_call 24; refine (fail_any b s p la ts.length lc 0 0 _ _ _ base h4 (g1.drewN _)).mono ?_; rintro e w1 ⟨rfl, f1, f2, f3⟩)
      go_ret2
      exact ⟨((hbl.mono hbw).trans (below_drewB _ _)).trans f2, ((UsK.below hbl).trans (UsK.below (drewN_below _ _))).trans f3, rfl, la, _, lc, f1⟩
    rw [if_neg hge] at HU
    have hlt : p + k < s.size := by omega
    have hgi : (p : Int) + (k : Int) < (s.size : Int) := by omega
    have hdg : decide ((s.size : Int) ≤ (p : Int) + (k : Int)) = false := by rw [decide_eq_false_iff_not]; omega
    by_cases h34 : c = 34
    · rw [if_pos h34] at HU
      subst HU
      subst h34
      have hcv := fun q => run_bs (hB.below (drewN_below wr q))
      clear hc hin
      go_wp2_with (have _t := tk; go_at_call 23; refine (peek_any b s p k la ts.length lc 0 0 _ (by omega) (by omega) (by omega) g1).mono ?_; rintro e w1 ⟨rfl, q1, rfl⟩; rw [HC.out]; clear tk)
      go_quiet (fail)
      go_wp2
      go_ret2
      refine ⟨((hbl.mono hbw).trans (below_drewB _ _)), ((UsK.below hbl).trans (UsK.below (drewN_below _ _))), ?_, hst.drewN _⟩
      have e : ((p + k + 1 - p - n : Nat) : Int) = (k : Int) + 1 - (n : Int) := by clear hwr; omega
      rw [e]
      rfl
    rw [if_neg h34] at HU
    have c34n : ¬ (c : Int) = 34 := by omega
    have c34b : ((c : Int) == 34) = false := by simp; omega
    by_cases hbad : c < 32 ∨ 126 < c
    · rw [if_pos hbad] at HU
      subst HU
      clear hc hin
      by_cases h32 : c < 32
      · have h32i : (c : Int) < 32 := by omega
        have h32d : decide ((c : Int) < 32) = true := by rw [decide_eq_true_eq]; omega
        go_wp2_with (have _t := tk; go_at_call 23; refine (peek_any b s p k la ts.length lc 0 0 _ (by omega) (by omega) (by omega) g1).mono ?_; rintro e w1 ⟨rfl, q1, rfl⟩; rw [HC.out]; clear tk)
        go_quiet (fail)
        go_wp2_with (go_at_call 24; refine (fail_any b s p la ts.length lc 0 0 _ _ _ base h4 (g1.drewN _)).mono ?_; rintro e w1 ⟨rfl, f1, f2, f3⟩)
        go_ret2
        exact ⟨((hbl.mono hbw).trans (below_drewB _ _)).trans f2, ((UsK.below hbl).trans (UsK.below (drewN_below _ _))).trans f3, rfl, la, _, lc, f1⟩
      · have h32i : ¬ (c : Int) < 32 := by omega
        have h32d : decide ((c : Int) < 32) = false := by rw [decide_eq_false_iff_not]; omega
        have h126i : (126 : Int) < (c : Int) := by omega
        have h126d : decide ((126 : Int) < (c : Int)) = true := by rw [decide_eq_true_eq]; omega
        go_wp2_with (have _t := tk; go_at_call 23; refine (peek_any b s p k la ts.length lc 0 0 _ (by omega) (by omega) (by omega) g1).mono ?_; rintro e w1 ⟨rfl, q1, rfl⟩; rw [HC.out]; clear tk)
        go_quiet (fail)
        go_wp2_with (go_at_call 24; refine (fail_any b s p la ts.length lc 0 0 _ _ _ base h4 (g1.drewN _)).mono ?_; rintro e w1 ⟨rfl, f1, f2, f3⟩)
        go_ret2
        exact ⟨((hbl.mono hbw).trans (below_drewB _ _)).trans f2, ((UsK.below hbl).trans (UsK.below (drewN_below _ _))).trans f3, rfl, la, _, lc, f1⟩
    rw [if_neg hbad] at HU
    have h32i : ¬ (c : Int) < 32 := by omega
    have h32d : decide ((c : Int) < 32) = false := by rw [decide_eq_false_iff_not]; omega
    have h126i : ¬ (126 : Int) < (c : Int) := by omega
    have h126d : decide ((126 : Int) < (c : Int)) = false := by rw [decide_eq_false_iff_not]; omega
    by_cases h92 : c ≠ 92
    · rw [if_pos h92] at HU
      have HN2 := hid HU.symm
      have c92n : ¬ (c : Int) = 92 := by omega
      have c92b : ((c : Int) == 92) = false := by simp; omega
      clear hc hin HU
      go_wp2_with (have _t := tk; go_at_call 23; refine (peek_any b s p k la ts.length lc 0 0 _ (by omega) (by omega) (by omega) g1).mono ?_; rintro e w1 ⟨rfl, q1, rfl⟩; rw [HC.out]; clear tk)
      go_quiet (fail)
      go_wp2_with (at_builtin; refine wpList_append_u8 _ rfl _ _ rfl w.heap.size (by simp; omega) _ _ _ wr.heap.size c out hc6 rfl rfl (hB.below ((drewN_below wr _).trans ((below_alloc _ _).mono (Nat.le_refl _)))) ((World.cell?_alloc_new (wr.drewN _) #[.int .u8 (c : Nat)] 5 0).trans rfl) (by omega) ?_; intro a' c' w1 k5 k6)
      refine ⟨⟨a', m + 1, c', _, k + 1, rfl, rfl, by omega, by omega, by omega, k5, (hbl.trans (below_drewB _ _)).trans ((((below_alloc (wr.drewN _) _).mono hsz)).trans k6), HN2⟩, by simp [intOf]; omega⟩
    rw [if_neg h92] at HU
    obtain rfl : c = 92 := by omega
    obtain ⟨r, hr⟩ : ∃ r, escS s (p + (k + 1)) = r := ⟨_, rfl⟩
    obtain ⟨d, j⟩ := r
    rw [show escS s (p + k + 1) = (d, j) from hr] at HU
    simp only at HU
    have HR := hid hr
    have hei := @esc_in s (p + (k + 1))
    rw [hr] at hei
    simp only at hei
    clear hc hin hr
    by_cases hj0 : j = 0
    · rw [if_pos hj0] at HU
      subst HU
      subst hj0
      go_wp2_with (have _t := tk; go_at_call 23; refine (peek_any b s p k la ts.length lc 0 0 _ (by omega) (by omega) (by omega) g1).mono ?_; rintro e w1 ⟨rfl, q1, rfl⟩; rw [HC.out]; clear tk)
      go_quiet (fail)
      go_wp2_with (first | (go_at_call 58; refine (escape_any b s p (k + 1) la ts.length lc 0 0 _ hs (by omega) (g1.drewN _)).mono ?_; intro e w1 kk; obtain ⟨he, k7⟩ := kk; rw [HR.out] at he; subst he; have y1 := ((g1.drewN _).below k7).c1; have hs7 := k7.size) | (go_at_call 24; refine (fail_any b s p la ts.length lc 0 0 _ _ _ base h4 ((g1.drewN _).below k7)).mono ?_; rintro e w1 ⟨rfl, f1, f2, f3⟩))
      go_ret2
      exact ⟨(((hbl.mono hbw).trans (below_drewB _ _)).trans (k7.mono (Nat.le_trans hbw hsz))).trans f2, (((UsK.below hbl).trans (UsK.below (drewN_below _ _))).trans (UsK.below k7)).trans f3, rfl, la, _, lc, f1⟩
    · rw [if_neg hj0] at HU
      have HN2 := hid HU.symm
      have hjj := hei hj0
      have jn : ¬ (j : Int) = 0 := by omega
      clear HU hei
      go_wp2_with (have _t := tk; go_at_call 23; refine (peek_any b s p k la ts.length lc 0 0 _ (by omega) (by omega) (by omega) g1).mono ?_; rintro e w1 ⟨rfl, q1, rfl⟩; rw [HC.out]; clear tk)
      go_quiet (fail)
      go_wp2_with (first | (go_at_call 58; refine (escape_any b s p (k + 1) la ts.length lc 0 0 _ hs (by omega) (g1.drewN _)).mono ?_; intro e w1 kk; obtain ⟨he, k7⟩ := kk; rw [HR.out] at he; subst he; have y1 := ((g1.drewN _).below k7).c1; have hs7 := k7.size) | (at_builtin; refine wpList_append_u8 _ rfl _ _ rfl w.heap.size (by have := k7.size; simp at this; simp; omega) _ _ _ _ d out (by omega) rfl rfl ((hB.below (drewN_below wr _)).below (k7.trans ((below_alloc _ _).mono k7.size))) ((World.cell?_alloc_new w1 #[.int .u8 (d : Nat)] 5 0).trans rfl) (by omega) ?_; intro a' c' w2 k5 k6))
      refine ⟨⟨a', m + 1, c', _, k + (1 + j), rfl, rfl, by omega, by omega, by omega, k5, ((hbl.trans (below_drewB _ _)).trans (k7.mono hsz)).trans (((below_alloc _ _).mono (Nat.le_trans hsz hs7)).trans k6), ?_⟩, by simp [intOf]; omega⟩
      rw [show p + (k + (1 + j)) = p + k + 1 + j by omega]
      exact HN2
end Go.Proofs.YtajpeeccomgnnaaGreatDoor
