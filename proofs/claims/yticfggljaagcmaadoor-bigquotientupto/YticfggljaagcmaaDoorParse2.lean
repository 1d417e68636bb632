/-
  big.natParse at a number's text, walked.
-/
import Derived.Test.YticfggljaagcmaaDoorParse
import Derived.Test.YticfggljaagcmaaDoorRTimes
import Derived.Lib.ConvBytes
namespace Go.Proofs.YticfggljaagcmaaDoor
set_option linter.all false
open Go.RowKit Go.Shelf

def strL : Value → Nat | .string s => s.size | _ => 0
theorem isNum_parts {c : UInt8} {l : List UInt8} (h : isNum (c :: l) = true) : (l = [] ∨ c ≠ 48) ∧ (c :: l).all (tenD.contains ·) = true ∧ ∀ x ∈ c :: l, 48 ≤ x.toNat ∧ x.toNat ≤ 57 := by
  unfold isNum at h
  rw [Bool.and_eq_true, Bool.and_eq_true] at h
  obtain ⟨⟨_, h1⟩, h2⟩ := h
  refine ⟨?_, ?_, ?_⟩
  · rcases l with _ | ⟨d, l⟩
    · exact .inl rfl
    · right
      intro e
      subst e
      simp at h1
  · rw [← h2]; congr 1; funext x; exact ten_iff x
  · intro x hx
    rw [List.all_eq_true] at h2
    simpa using h2 x hx

theorem extr (L : List UInt8) (a b : Nat) : (⟨L.toArray⟩ : ByteArray).extract a b = ⟨((L.drop a).take (b - a)).toArray⟩ := by
  apply ByteArray.ext
  rw [ByteArray.data_extract]
  simp
theorem bytes_below (w : World) (e : TypeId) (s : ByteArray) : Below w.heap.size w (Lib.bytesWorld w e s) :=
  ⟨rfl, rfl, rfl, by rw [Lib.bytesWorld_size]; omega, fun j hj => Lib.bytesWorld_at_old w e s j hj⟩
theorem rdr_take {D : List UInt8} {j : Nat} (h : j < D.length) : rdr 0 (D.take (j + 1)) = 10 * rdr 0 (D.take j) + ((D[j]?.getD 0).toNat - 48) := by
  rw [List.take_add_one, rdr_append, List.getElem?_eq_getElem h]
  simp only [Option.toList_some, Option.getD_some]
  rw [rdr_cons, rdr_nil]; rfl
theorem nine_step {vh cc hi q c2 d v D0 p : Nat} (h : vh + cc * p = v * 1000000000 + D0) (e : cc + hi * 1000000000 = d + c2 * 4294967296) : vh + d * p + c2 * (4294967296 * p) = (v + hi * p) * 1000000000 + D0 := by
  have e2 : (cc + hi * 1000000000) * p = (d + c2 * 4294967296) * p := by rw [e]
  rw [Nat.add_mul, Nat.add_mul] at e2
  have e3 : hi * 1000000000 * p = hi * p * 1000000000 := Nat.mul_right_comm _ _ _
  have e4 : c2 * 4294967296 * p = c2 * (4294967296 * p) := Nat.mul_assoc _ _ _
  rw [Nat.add_mul v]
  omega

theorem nine_val {v D0 y N : Nat} {done D : List UInt8} (hV : v = rdr 0 done) (hD : rdr 0 D = D0) (hl : D.length = N % 9 + 1) (hM : done = [] ∨ (N + 1) % 9 = 0) (h : y = v * 1000000000 + D0) : y = rdr 0 (done ++ D) := by
  rw [rdr_append, rdr_pow, ← hV, hD, h, hl]
  rcases hM with hM | hM
  · have : v = 0 := by rw [hV, hM, rdr_nil]
    rw [this, Nat.zero_mul, Nat.zero_mul]
  · rw [show N % 9 + 1 = 9 by omega]
theorem drop_str (x : UInt8) (t : List UInt8) (k : Nat) : Value.string ((⟨(x :: t).toArray⟩ : ByteArray).extract k (t.length + 1)) = .string ⟨((x :: t).drop k).toArray⟩ := by
  rw [extr, List.take_of_length_le (by simp)]

set_option maxHeartbeats 4000000 in
theorem natParse_good (l : List UInt8) (w : World) (hl : l.length ≤ 274877906944) (hb : isNum l = true) :
    Calls Tryd.prog 50 #[.string ⟨l.toArray⟩] w fun e w' => ∃ a n c h, e = .returned (.tuple #[.slice a n c, .int .i64 0]) ∧ Us w' a n c h ∧ New w' w.heap.size a c ∧ Below w.heap.size w w' ∧ Hid (val h n = rdr 0 l) ∧ n ≤ l.length := by
  rcases l with _ | ⟨c, l⟩
  · cases hb
  obtain ⟨h1, h2, h3⟩ := isNum_parts hb
  clear hb
  have HQ := hid (trimS_nil h2)
  have HD := hid h3
  have hx : (({ data := (c :: l).toArray } : ByteArray)[0]'(by simp [ByteArray.size])).toNat = c.toNat := rfl
  have hll : l.length + 1 ≤ 274877906944 := hl
  clear h2 h3
  have hg : (1 < (l.length : Int) + 1 ∧ ¬ (c.toNat : Int) = 48) ∨ ¬ (1 < (l.length : Int) + 1) := by
    rcases h1 with h | h
    · subst h; right; simp
    · by_cases q : 1 < (l.length : Int) + 1
      · left
        exact ⟨q, fun e => h (UInt8.toNat_inj.1 (by rw [show (48 : UInt8).toNat = 48 from rfl]; omega))⟩
      · exact .inr q
  clear h1
  have hg' : ((1 < (l.length : Int) + 1 ∧ ¬ (c.toNat : Int) = 48) ∧ ((c.toNat : Int) == 48) = false) ∨ ¬ (1 < (l.length : Int) + 1) := by
    rcases hg with ⟨g1, g2⟩ | g1
    · exact .inl ⟨⟨g1, g2⟩, by simpa using g2⟩
    · exact .inr g1
  clear hg
  go_enter Tryd.func50, Tryd.ntmps50
  rcases hg' with ⟨⟨hg1, hg2⟩, hg3⟩ | hg1
  all_goals
    go_wp2_with (go_at_call 73; refine (trim_all _ _ (by simp; omega)).mono ?_; rintro e w1 ⟨rfl, k1⟩; rw [HQ.out])
    go_loopw [0, 4, 5, 6, 8, 9, 10] (fun sv av nv dv cv iv xv wr => ∃ (t done : List UInt8) (m d : Nat) (r : Option Addr) (h : Nat → Nat), sv = .string ⟨t.toArray⟩ ∧ Hid (done ++ t = c :: l) ∧ av = .slice r m d ∧ Us wr r m d h ∧ New wr w.heap.size r d ∧ Hid (val h m = rdr 0 done) ∧ Hid (done = [] ∨ t.length % 9 = 0) ∧ m ≤ done.length ∧ done.length + t.length ≤ 274877906944 ∧ Below w.heap.size w wr) (fun sv _ _ _ _ _ _ _ => strL sv)
    case atStart => exact ⟨c :: l, [], 0, 0, _, fun _ => 0, rfl, hid rfl, rfl, ⟨Nat.le_refl _, Nat.zero_le _, fun _ hi => by omega, fun _ hi => by omega⟩, New.nil _ _ _, hid rfl, hid (.inl rfl), Nat.zero_le _, by simp; omega, by first | exact k1 | exact k1.alloc k1.size _⟩
    case round =>
      obtain ⟨t, done, m, d, r, h, rfl, HT, rfl, hU, hN, hV, hM, hm, hlen, hB⟩ := hrel
      rcases t with _ | ⟨x, t⟩
      · go_wp2
        go_ret2
        have hT := HT.out
        rw [List.append_nil] at hT
        exact ⟨_, _, _, _, rfl, hU, hN, hB, hid (by rw [hV.out, hT]), by have := congrArg List.length hT; rw [List.length_cons] at this; omega⟩
      · have hcv := fun w s => Lib.run_convert_string_bytes (P := Tryd.prog) w 9 72 5 s Tryd.underlying9 Tryd.underlying72 Tryd.underlying5
        have hT : t.length + 1 ≤ 274877906944 := by simp at hlen; omega
        have hmin : min (t.length % 9) t.length = t.length % 9 := Nat.min_eq_left (Nat.mod_le _ _)
        have hbs := hB.size
        go_wp2
        have hN9 : t.length % 9 + 1 ≤ t.length + 1 := by have := Nat.mod_le t.length 9; omega
        have hZ : Hid (∃ D : List UInt8, D = (x :: t).take (t.length % 9 + 1) ∧ D.length = t.length % 9 + 1) := hid ⟨_, rfl, by simp; omega⟩
        obtain ⟨D, hD1, hD2⟩ := hZ.out
        clear hZ
        have hC : ∀ j, j < t.length % 9 + 1 → (Lib.bytesWorld wr 5 (({ data := (x :: t).toArray } : ByteArray).extract 0 (t.length % 9 + 1))).cell? ⟨wr.heap.size, j, none⟩ = some (.int .u8 ((D[j]?.getD 0).toNat : Nat)) := by
          intro j hj
          have := Lib.bytesWorld_cell wr 5 (({ data := (x :: t).toArray } : ByteArray).extract 0 (t.length % 9 + 1)) j (by rw [extr]; show _ < ((List.take (t.length % 9 + 1 - 0) (List.drop 0 (x :: t))).length); simp; omega)
          rw [this, extr]
          simp [hD1]
        have hW := bytes_below wr 5 (({ data := (x :: t).toArray } : ByteArray).extract 0 (t.length % 9 + 1))
        have HD1 := hid hD1
        have hD3 : Hid (∀ z ∈ D, 48 ≤ z.toNat ∧ z.toNat ≤ 57) := hid (fun z hz => by
          rw [hD1] at hz
          refine HD.out z ?_
          rw [← HT.out]
          exact List.mem_append_right _ (List.mem_of_mem_take hz))
        generalize Lib.bytesWorld wr 5 (({ data := (x :: t).toArray } : ByteArray).extract 0 (t.length % 9 + 1)) = wz at hC hW ⊢
        clear hD1 hx
        have HD2 := hid hD2
        clear hD2
        go_loopw [6, 8, 42] (fun dv cv iv wx => wx = wz ∧ ∃ j : Nat, j ≤ t.length % 9 + 1 ∧ iv = .int .i64 j ∧ dv = .int .u64 (rdr 0 (D.take j) : Nat)) (fun _ _ iv _ => (t.length % 9 + 1) - (intOf iv).toNat)
        case atStart => exact ⟨rfl, 0, Nat.zero_le _, rfl, by simp [rdr_nil]⟩
        case round =>
          obtain ⟨hwx, j, hj, rfl, rfl⟩ := hrel
          obtain rfl := hwx.symm
          by_cases hjl : j < t.length % 9 + 1
          · have hcell := hC j hjl
            have hjD : j < D.length := by rw [HD2.out]; exact hjl
            obtain ⟨g1, g2⟩ : 48 ≤ (D[j]?.getD 0).toNat ∧ (D[j]?.getD 0).toNat ≤ 57 := by
              rw [List.getElem?_eq_getElem hjD]
              exact hD3.out _ (List.getElem_mem hjD)
            have hlt := rdr_lt (D.take j) (fun z hz => (hD3.out z (List.mem_of_mem_take hz)).2)
            rw [List.length_take] at hlt
            have hst := hid (rdr_take (D := D) (j := j) hjD)
            generalize (D[j]?.getD 0).toNat = y at hcell g1 g2 hst
            generalize rdr 0 (D.take j) = R at hlt hst ⊢
            have hR : R < 100000000 := by
              have h1 : 10 ^ min j D.length ≤ 10 ^ 8 := Nat.pow_le_pow_right (by decide) (by omega)
              have h2 : (10 : Nat) ^ 8 = 100000000 := by decide
              omega
            clear hlt hjD hC
            go_wp2
            refine ⟨⟨trivial, j + 1, by omega, rfl, ?_⟩, by simp [intOf]; omega⟩
            rw [hst.out]
            congr 1
            omega
          · obtain rfl : j = t.length % 9 + 1 := by omega
            have hD0 := rdr_lt D (fun z hz => (hD3.out z hz).2)
            rw [HD2.out] at hD0
            have hD0' : rdr 0 D < 1000000000 := by
              have h1 : 10 ^ (t.length % 9 + 1) ≤ 10 ^ 9 := Nat.pow_le_pow_right (by decide) (by omega)
              have h2 : (10 : Nat) ^ 9 = 1000000000 := by decide
              omega
            clear hD0
            rw [List.take_of_length_le (by rw [HD2.out]; exact Nat.le_refl _)]
            have hU1 := hU.below hW (Nat.le_refl _)
            have hN1 := New.below hN hU hW (Nat.le_refl _)
            have hBz := hB.trans (hW.mono hbs)
            have lh := hU.lm
            have hml := hU.le
            have HDV := hid (show rdr 0 D = rdr 0 D from rfl)
            generalize hDD : rdr 0 D = D0 at hD0' ⊢
            have HDD := hid hDD
            clear hDD HDV
            go_wp2
            go_loopw [6, 9, 10, 55] (fun dv i9 x10 iv wx => ∃ (i cc : Nat) (hh : Nat → Nat), i ≤ m ∧ cc < 1000000000 ∧ iv = .int .i64 i ∧ dv = .int .u64 cc ∧ Us wx r m d hh ∧ New wx w.heap.size r d ∧ Hid (∀ j, i ≤ j → hh j = h j) ∧ Hid (val hh i + cc * pw i = val h i * 1000000000 + D0) ∧ Below w.heap.size w wx) (fun _ _ _ iv _ => m - (intOf iv).toNat)
            case atStart => exact ⟨0, D0, h, Nat.zero_le _, hD0', rfl, rfl, hU1, hN1, hid (fun _ _ => rfl), by show _ = _; simp [val, pw], hBz⟩
            case round =>
              obtain ⟨i, cc, hh, hi, hcc, rfl, rfl, hUx, hNx, hE, hS, hBx⟩ := hrel
              have hsx := hBx.size
              by_cases him : i < m
              · obtain ⟨bl, ol, rfl, hcl⟩ := hUx.cell i (by have := hUx.le; omega)
                obtain ⟨b', o', e', hwb, hfr⟩ := hNx i (by have := hUx.le; omega)
                simp only [Option.some.injEq, Addr.mk.injEq, and_true] at e'
                obtain ⟨rfl, rfl⟩ := e'
                have lk := hUx.lm i (by have := hUx.le; omega)
                have hhi := hid (hE.out i (Nat.le_refl _))
                generalize hhe : hh i = hx at hcl lk hhi
                have HHE := hid hhe
                clear hhe
                go_wp2
                go_roundw
                case rel =>
                  go_light
                  have q1 : (cc + hx * 1000000000) / 4294967296 < 1000000000 := by omega
                  refine ⟨i + 1, (cc + hx * 1000000000) / 4294967296, upd hh i ((cc + hx * 1000000000) % 4294967296), by omega, q1, by congr 1, by congr 1, ?_, fun j hj => ?_, ?_, ?_, hBx.setCell (by simpa using hwb) _⟩
                  · have hc5 := hUx.cs.set (j := i) (by have := hUx.le; omega) ((cc + hx * 1000000000) % 4294967296)
                    have e5 : ((cc : Int) + (hx : Int) * 1000000000) % 4294967296 = (((cc + hx * 1000000000) % 4294967296 : Nat) : Int) := by omega
                    rw [e5]
                    exact hc5.us hUx.le hUx.mx (hUx.lm.upd (by omega))
                  · obtain ⟨b5, o5, e5, h5, h6⟩ := hNx j hj
                    exact ⟨b5, o5, e5, h5, by rw [World.frozen?_setCell]; exact h6⟩
                  · exact hid (fun j hj => by rw [upd_other _ _ _ _ (by omega)]; exact hE.out j (by omega))
                  · refine hid ?_
                    rw [val_upd_at, val_succ, pw_succ]
                    rw [← hhi.out]
                    exact nine_step (q := 0) hS.out (by omega)
                case measure => simp [intOf]; omega
              · obtain rfl : i = m := by omega
                by_cases hc0 : cc = 0
                · subst hc0
                  go_wp2
                  have hS' := hS.out
                  rw [Nat.zero_mul, Nat.add_zero] at hS'
                  refine ⟨⟨(x :: t).drop (t.length % 9 + 1), done ++ D, i, d, r, hh, drop_str x t _, hid (by rw [List.append_assoc, HD1.out, List.take_append_drop]; exact HT.out), rfl, hUx, hNx, hid (nine_val hV.out HDD.out HD2.out (by have := hM.out; rwa [List.length_cons] at this) hS'), hid (.inr (by simp; omega)), by rw [List.length_append, HD2.out]; omega, by rw [List.length_append, HD2.out, List.length_drop, List.length_cons]; rw [List.length_cons] at hlen; omega, hBx⟩, ?_⟩
                  rw [drop_str]
                  show ((x :: t).drop (t.length % 9 + 1)).length < (x :: t).length
                  rw [List.length_drop, List.length_cons]; omega
                · go_wp2_with (at_builtin; refine wpList_append_u32 _ rfl _ _ 22 22 rfl 58 Tryd.underlying22 Tryd.underlying22 Tryd.info58 w.heap.size (by simp; omega) _ _ _ _ 1 1 _ (fun _ => cc) rfl rfl (hUx.alloc _) (hNx.below hUx (below_alloc _ _) (Nat.le_refl _)) (one_us _ (by omega) (by omega)) (by omega) ?_; intro a' c' f' w1 k1 k2 k3 k4 k5; have k6 := hid (push_val k2 k3); clear k2 k3)
                  have hS' := hS.out
                  refine ⟨⟨(x :: t).drop (t.length % 9 + 1), done ++ D, i + 1, c', a', f', drop_str x t _, hid (by rw [List.append_assoc, HD1.out, List.take_append_drop]; exact HT.out), rfl, k1, k4, hid (nine_val hV.out HDD.out HD2.out (by have := hM.out; rwa [List.length_cons] at this) (by rw [k6.out]; exact hS')), hid (.inr (by simp; omega)), by rw [List.length_append, HD2.out]; omega, by rw [List.length_append, HD2.out, List.length_drop, List.length_cons]; rw [List.length_cons] at hlen; omega, hBx.trans (((below_alloc _ _).mono hsx).trans k5)⟩, ?_⟩
                  rw [drop_str]
                  show ((x :: t).drop (t.length % 9 + 1)).length < (x :: t).length
                  rw [List.length_drop, List.length_cons]; omega
end Go.Proofs.YticfggljaagcmaaDoor
