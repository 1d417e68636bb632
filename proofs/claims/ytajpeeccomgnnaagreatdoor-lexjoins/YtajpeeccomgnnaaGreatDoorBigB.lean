/-
  Big integers, the part that the lexer reaches: what stands in the claims of chapter 01, turned to this seat by program.
-/
import Derived.Test.YtajpeeccomgnnaaGreatDoorBigA
namespace Go.Proofs.YtajpeeccomgnnaaGreatDoor
set_option linter.all false
open Go Go.RowKit
/-! RTimes -/
theorem one_us (w : World) {x : Nat} {v : Int} (hv : v = (x : Int)) (hx : x ≤ 4294967295) : Us (w.alloc (Obj.cells #[Value.int IntKind.u32 v] 88)) (some ⟨w.heap.size, 0, none⟩) 1 1 (fun _ => x) := by
  subst hv
  refine ⟨Nat.le_refl _, by decide, fun _ _ => hx, fun i hi => ⟨_, _, rfl, ?_⟩⟩
  obtain rfl : i = 0 := by omega
  simp [World.cell?_alloc_new]
theorem push_val {h f : Nat → Nat} {k x : Nat} (h1 : ∀ i, i < k → f i = h i) (h2 : ∀ i, i < 1 → f (k + i) = x) : val f (k + 1) = val h k + x * pw k := by
  rw [val_succ, val_congr h1, show f k = x from h2 0 (by omega)]
set_option maxHeartbeats 1000000 in
theorem times_any (a : Option Addr) (n c m t : Nat) (f : Nat → Nat) (w : World) (hn : n ≤ 2199023255552) (hm : m ≤ 4294967295) (ht : t ≤ 4294967295) (hu : Us w a n c f) :
    Calls Tryz.prog 101 #[.slice a n c, .int .u32 m, .int .u32 t] w fun e w' => ResM w w' (val f n * m + t) (n + 1) e := by
  have lf := hu.lm
  have l1 := hu.le
  go_enter Tryz.func101, Tryz.ntmps101
  go_wp2
  go_loopw [7, 8, 9] (fun ov cv iv wr => ∃ (k cc d : Nat) (r : Option Addr) (h : Nat → Nat), k ≤ n ∧ cc ≤ 4294967295 ∧ iv = .int .i64 k ∧ cv = .int .u64 cc ∧ ov = .slice r k d ∧ Us wr r k d h ∧ New wr w.heap.size r d ∧ Hid (val h k + cc * pw k = val f k * m + t) ∧ Below w.heap.size w wr) (fun _ _ iv _ => n - (intOf iv).toNat)
  case atStart => exact ⟨0, t, 0, none, f, Nat.zero_le _, ht, rfl, rfl, rfl, Us.nil _ _, New.nil _ _ _, by show _ = _; simp [val, pw], Below.refl _ _⟩
  case round =>
    obtain ⟨k, cc, d, r, h, hk, hcc, rfl, rfl, rfl, hU, hN, hV, hB⟩ := hrel
    have hs := hB.size
    by_cases h0 : k < n
    · have HU := hu.below hB (Nat.le_refl _)
      obtain ⟨b, off, rfl, hcell⟩ := HU.cell k (by omega)
      have lk := lf k (by omega)
      have hp : f k * m ≤ 4294967295 * 4294967295 := Nat.mul_le_mul lk hm
      have hlt : f k * m + cc ≤ 18446744073709551615 := by omega
      go_wp2_with (at_builtin; refine wpList_append_u32 _ rfl _ _ 33 33 rfl 88 Tryz.underlying33 Tryz.underlying33 Tryz.info88 w.heap.size (by simp; omega) _ _ _ _ 1 1 _ (fun _ => (f k * m + cc) % 4294967296) rfl rfl (hU.alloc _) (hN.below hU (below_alloc _ _) (Nat.le_refl _)) (one_us wr (by simp) (by omega)) (by omega) ?_; intro a' c' f' w1 k1 k2 k3 k4 k5; have k6 := hid (push_val k2 k3); clear k2 k3)
      go_roundw
      case rel =>
        go_light
        have hcn : (f k * m + cc) / 4294967296 ≤ 4294967295 := by omega
        refine ⟨k + 1, (f k * m + cc) / 4294967296, _, _, _, by omega, hcn, by congr 1, by simp, rfl, k1, k4, ?_, hB.trans (((below_alloc wr _).mono hs).trans k5)⟩
        show _ = _
        rw [k6.out, val_succ, Nat.add_mul]
        have hV' := hV.out
        have e2 : (f k * m + cc) / 4294967296 * pw (k + 1) = (f k * m + cc) / 4294967296 * 4294967296 * pw k := by rw [pw_succ, Nat.mul_assoc]
        have e3 : (f k * m + cc) % 4294967296 * pw k + (f k * m + cc) / 4294967296 * 4294967296 * pw k = f k * pw k * m + cc * pw k := by
          rw [← Nat.add_mul, Nat.mod_add_div', Nat.add_mul, Nat.mul_right_comm]
        omega
      case measure => simp [intOf]; omega
    · obtain rfl : k = n := by omega
      clear h0
      go_wp2_with (first | (at_builtin; refine wpList_append_u32 _ rfl _ _ 33 33 rfl 88 Tryz.underlying33 Tryz.underlying33 Tryz.info88 w.heap.size (by simp; omega) _ _ _ _ 1 1 _ (fun _ => cc) rfl rfl (hU.alloc _) (hN.below hU (below_alloc _ _) (Nat.le_refl _)) (one_us wr (by omega) (by omega)) (by omega) ?_; intro a' c' f' w1 k1 k2 k3 k4 k5; have k6 := hid (push_val k2 k3); clear k2 k3) | (go_at_call 67; refine (rtrim_any _ _ _ _ _ (by omega) k1).mono ?_; rintro e w' ⟨ar, nr, cr, fr, rfl, h1, h2, h3, h4, h5, h6⟩))
      go_ret
      have b1 : Below w.heap.size w w1 := hB.trans (((below_alloc wr _).mono hs).trans k5)
      refine ⟨_, _, _, _, rfl, h1, h2.mono b1.size, b1.trans (h3.mono b1.size), h4, hid ?_, by omega⟩
      rw [h5.out, k6.out]; exact hV.out
/-! Parse2 -/
def strL : Value → Nat | .string s => s.size | _ => 0
theorem isNum_parts {c : UInt8} {l : List UInt8} (h : isNum (c :: l) = true) : (l = [] ∨ c ≠ 48) ∧ (c :: l).all (tenD.contains ·) = true ∧ ∀ x ∈ c :: l, 48 ≤ x.toNat ∧ x.toNat ≤ 57 := by
  unfold isNum at h
  rw [Bool.and_eq_true, Bool.and_eq_true] at h
  obtain ⟨⟨_, h1⟩, h2⟩ := h
  refine ⟨?_, ?_, ?_⟩
  · rcases l with _ | ⟨d, l⟩
    · exact .inl rfl
    · right
      intro e
      subst e
      simp at h1
  · rw [← h2]; congr 1; funext x; exact ten_iff x
  · intro x hx
    rw [List.all_eq_true] at h2
    simpa using h2 x hx
theorem extr (L : List UInt8) (a b : Nat) : (⟨L.toArray⟩ : ByteArray).extract a b = ⟨((L.drop a).take (b - a)).toArray⟩ := by
  apply ByteArray.ext
  rw [ByteArray.data_extract]
  simp
theorem bytes_below (w : World) (e : TypeId) (s : ByteArray) : Below w.heap.size w (Lib.bytesWorld w e s) :=
  ⟨rfl, rfl, rfl, by rw [Lib.bytesWorld_size]; omega, fun j hj => Lib.bytesWorld_at_old w e s j hj⟩
theorem rdr_take {D : List UInt8} {j : Nat} (h : j < D.length) : rdr 0 (D.take (j + 1)) = 10 * rdr 0 (D.take j) + ((D[j]?.getD 0).toNat - 48) := by
  rw [List.take_add_one, rdr_append, List.getElem?_eq_getElem h]
  simp only [Option.toList_some, Option.getD_some]
  rw [rdr_cons, rdr_nil]; rfl
theorem nine_step {vh cc hi q c2 d v D0 p : Nat} (h : vh + cc * p = v * 1000000000 + D0) (e : cc + hi * 1000000000 = d + c2 * 4294967296) : vh + d * p + c2 * (4294967296 * p) = (v + hi * p) * 1000000000 + D0 := by
  have e2 : (cc + hi * 1000000000) * p = (d + c2 * 4294967296) * p := by rw [e]
  rw [Nat.add_mul, Nat.add_mul] at e2
  have e3 : hi * 1000000000 * p = hi * p * 1000000000 := Nat.mul_right_comm _ _ _
  have e4 : c2 * 4294967296 * p = c2 * (4294967296 * p) := Nat.mul_assoc _ _ _
  rw [Nat.add_mul v]
  omega
theorem nine_val {v D0 y N : Nat} {done D : List UInt8} (hV : v = rdr 0 done) (hD : rdr 0 D = D0) (hl : D.length = N % 9 + 1) (hM : done = [] ∨ (N + 1) % 9 = 0) (h : y = v * 1000000000 + D0) : y = rdr 0 (done ++ D) := by
  rw [rdr_append, rdr_pow, ← hV, hD, h, hl]
  rcases hM with hM | hM
  · have : v = 0 := by rw [hV, hM, rdr_nil]
    rw [this, Nat.zero_mul, Nat.zero_mul]
  · rw [show N % 9 + 1 = 9 by omega]
theorem drop_str (x : UInt8) (t : List UInt8) (k : Nat) : Value.string ((⟨(x :: t).toArray⟩ : ByteArray).extract k (t.length + 1)) = .string ⟨((x :: t).drop k).toArray⟩ := by
  rw [extr, List.take_of_length_le (by simp)]
set_option maxHeartbeats 4000000 in
theorem natParse_good (l : List UInt8) (w : World) (hl : l.length ≤ 274877906944) (hb : isNum l = true) :
    Calls Tryz.prog 73 #[.string ⟨l.toArray⟩] w fun e w' => ∃ a n c h, e = .returned (.tuple #[.slice a n c, .int .i64 0]) ∧ Us w' a n c h ∧ New w' w.heap.size a c ∧ Below w.heap.size w w' ∧ Hid (val h n = rdr 0 l) ∧ n ≤ l.length := by
  rcases l with _ | ⟨c, l⟩
  · cases hb
  obtain ⟨h1, h2, h3⟩ := isNum_parts hb
  clear hb
  have HQ := hid (trimS_nil h2)
  have HD := hid h3
  have hx : (({ data := (c :: l).toArray } : ByteArray)[0]'(by simp [ByteArray.size])).toNat = c.toNat := rfl
  have hll : l.length + 1 ≤ 274877906944 := hl
  clear h2 h3
  have hg : (1 < (l.length : Int) + 1 ∧ ¬ (c.toNat : Int) = 48) ∨ ¬ (1 < (l.length : Int) + 1) := by
    rcases h1 with h | h
    · subst h; right; simp
    · by_cases q : 1 < (l.length : Int) + 1
      · left
        exact ⟨q, fun e => h (UInt8.toNat_inj.1 (by rw [show (48 : UInt8).toNat = 48 from rfl]; omega))⟩
      · exact .inr q
  clear h1
  have hg' : ((1 < (l.length : Int) + 1 ∧ ¬ (c.toNat : Int) = 48) ∧ ((c.toNat : Int) == 48) = false) ∨ ¬ (1 < (l.length : Int) + 1) := by
    rcases hg with ⟨g1, g2⟩ | g1
    · exact .inl ⟨⟨g1, g2⟩, by simpa using g2⟩
    · exact .inr g1
  clear hg
  go_enter Tryz.func73, Tryz.ntmps73
  rcases hg' with ⟨⟨hg1, hg2⟩, hg3⟩ | hg1
  all_goals
    go_wp2_with (go_at_call 89; refine (trim_all _ _ (by simp; omega)).mono ?_; rintro e w1 ⟨rfl, k1⟩; rw [HQ.out])
    go_loopw [0, 4, 5, 6, 8, 9, 10] (fun sv av nv dv cv iv xv wr => ∃ (t done : List UInt8) (m d : Nat) (r : Option Addr) (h : Nat → Nat), sv = .string ⟨t.toArray⟩ ∧ Hid (done ++ t = c :: l) ∧ av = .slice r m d ∧ Us wr r m d h ∧ New wr w.heap.size r d ∧ Hid (val h m = rdr 0 done) ∧ Hid (done = [] ∨ t.length % 9 = 0) ∧ m ≤ done.length ∧ done.length + t.length ≤ 274877906944 ∧ Below w.heap.size w wr) (fun sv _ _ _ _ _ _ _ => strL sv)
    case atStart => exact ⟨c :: l, [], 0, 0, _, fun _ => 0, rfl, hid rfl, rfl, ⟨Nat.le_refl _, Nat.zero_le _, fun _ hi => by omega, fun _ hi => by omega⟩, New.nil _ _ _, hid rfl, hid (.inl rfl), Nat.zero_le _, by simp; omega, by first | exact k1 | exact k1.alloc k1.size _⟩
    case round =>
      obtain ⟨t, done, m, d, r, h, rfl, HT, rfl, hU, hN, hV, hM, hm, hlen, hB⟩ := hrel
      rcases t with _ | ⟨x, t⟩
      · go_wp2
        go_ret2
        have hT := HT.out
        rw [List.append_nil] at hT
        exact ⟨_, _, _, _, rfl, hU, hN, hB, hid (by rw [hV.out, hT]), by have := congrArg List.length hT; rw [List.length_cons] at this; omega⟩
      · have hcv := fun w s => Lib.run_convert_string_bytes (P := Tryz.prog) w 9 83 5 s Tryz.underlying9 Tryz.underlying83 Tryz.underlying5
        have hT : t.length + 1 ≤ 274877906944 := by simp at hlen; omega
        have hmin : min (t.length % 9) t.length = t.length % 9 := Nat.min_eq_left (Nat.mod_le _ _)
        have hbs := hB.size
        go_wp2
        have hN9 : t.length % 9 + 1 ≤ t.length + 1 := by have := Nat.mod_le t.length 9; omega
        have hZ : Hid (∃ D : List UInt8, D = (x :: t).take (t.length % 9 + 1) ∧ D.length = t.length % 9 + 1) := hid ⟨_, rfl, by simp; omega⟩
        obtain ⟨D, hD1, hD2⟩ := hZ.out
        clear hZ
        have hC : ∀ j, j < t.length % 9 + 1 → (Lib.bytesWorld wr 5 (({ data := (x :: t).toArray } : ByteArray).extract 0 (t.length % 9 + 1))).cell? ⟨wr.heap.size, j, none⟩ = some (.int .u8 ((D[j]?.getD 0).toNat : Nat)) := by
          intro j hj
          have := Lib.bytesWorld_cell wr 5 (({ data := (x :: t).toArray } : ByteArray).extract 0 (t.length % 9 + 1)) j (by rw [extr]; show _ < ((List.take (t.length % 9 + 1 - 0) (List.drop 0 (x :: t))).length); simp; omega)
          rw [this, extr]
          simp [hD1]
        have hW := bytes_below wr 5 (({ data := (x :: t).toArray } : ByteArray).extract 0 (t.length % 9 + 1))
        have HD1 := hid hD1
        have hD3 : Hid (∀ z ∈ D, 48 ≤ z.toNat ∧ z.toNat ≤ 57) := hid (fun z hz => by
          rw [hD1] at hz
          refine HD.out z ?_
          rw [← HT.out]
          exact List.mem_append_right _ (List.mem_of_mem_take hz))
        generalize Lib.bytesWorld wr 5 (({ data := (x :: t).toArray } : ByteArray).extract 0 (t.length % 9 + 1)) = wz at hC hW ⊢
        clear hD1 hx
        have HD2 := hid hD2
        clear hD2
        go_loopw [6, 8, 42] (fun dv cv iv wx => wx = wz ∧ ∃ j : Nat, j ≤ t.length % 9 + 1 ∧ iv = .int .i64 j ∧ dv = .int .u64 (rdr 0 (D.take j) : Nat)) (fun _ _ iv _ => (t.length % 9 + 1) - (intOf iv).toNat)
        case atStart => exact ⟨rfl, 0, Nat.zero_le _, rfl, by simp [rdr_nil]⟩
        case round =>
          obtain ⟨hwx, j, hj, rfl, rfl⟩ := hrel
          obtain rfl := hwx.symm
          by_cases hjl : j < t.length % 9 + 1
          · have hcell := hC j hjl
            have hjD : j < D.length := by rw [HD2.out]; exact hjl
            obtain ⟨g1, g2⟩ : 48 ≤ (D[j]?.getD 0).toNat ∧ (D[j]?.getD 0).toNat ≤ 57 := by
              rw [List.getElem?_eq_getElem hjD]
              exact hD3.out _ (List.getElem_mem hjD)
            have hlt := rdr_lt (D.take j) (fun z hz => (hD3.out z (List.mem_of_mem_take hz)).2)
            rw [List.length_take] at hlt
            have hst := hid (rdr_take (D := D) (j := j) hjD)
            generalize (D[j]?.getD 0).toNat = y at hcell g1 g2 hst
            generalize rdr 0 (D.take j) = R at hlt hst ⊢
            have hR : R < 100000000 := by
              have h1 : 10 ^ min j D.length ≤ 10 ^ 8 := Nat.pow_le_pow_right (by decide) (by omega)
              have h2 : (10 : Nat) ^ 8 = 100000000 := by decide
              omega
            clear hlt hjD hC
            go_wp2
            refine ⟨⟨trivial, j + 1, by omega, rfl, ?_⟩, by simp [intOf]; omega⟩
            rw [hst.out]
            congr 1
            omega
          · obtain rfl : j = t.length % 9 + 1 := by omega
            have hD0 := rdr_lt D (fun z hz => (hD3.out z hz).2)
            rw [HD2.out] at hD0
            have hD0' : rdr 0 D < 1000000000 := by
              have h1 : 10 ^ (t.length % 9 + 1) ≤ 10 ^ 9 := Nat.pow_le_pow_right (by decide) (by omega)
              have h2 : (10 : Nat) ^ 9 = 1000000000 := by decide
              omega
            clear hD0
            rw [List.take_of_length_le (by rw [HD2.out]; exact Nat.le_refl _)]
            have hU1 := hU.below hW (Nat.le_refl _)
            have hN1 := New.below hN hU hW (Nat.le_refl _)
            have hBz := hB.trans (hW.mono hbs)
            have lh := hU.lm
            have hml := hU.le
            have HDV := hid (show rdr 0 D = rdr 0 D from rfl)
            generalize hDD : rdr 0 D = D0 at hD0' ⊢
            have HDD := hid hDD
            clear hDD HDV
            go_wp2
            go_loopw [6, 9, 10, 55] (fun dv i9 x10 iv wx => ∃ (i cc : Nat) (hh : Nat → Nat), i ≤ m ∧ cc < 1000000000 ∧ iv = .int .i64 i ∧ dv = .int .u64 cc ∧ Us wx r m d hh ∧ New wx w.heap.size r d ∧ Hid (∀ j, i ≤ j → hh j = h j) ∧ Hid (val hh i + cc * pw i = val h i * 1000000000 + D0) ∧ Below w.heap.size w wx) (fun _ _ _ iv _ => m - (intOf iv).toNat)
            case atStart => exact ⟨0, D0, h, Nat.zero_le _, hD0', rfl, rfl, hU1, hN1, hid (fun _ _ => rfl), by show _ = _; simp [val, pw], hBz⟩
            case round =>
              obtain ⟨i, cc, hh, hi, hcc, rfl, rfl, hUx, hNx, hE, hS, hBx⟩ := hrel
              have hsx := hBx.size
              by_cases him : i < m
              · obtain ⟨bl, ol, rfl, hcl⟩ := hUx.cell i (by have := hUx.le; omega)
                obtain ⟨b', o', e', hwb, hfr⟩ := hNx i (by have := hUx.le; omega)
                simp only [Option.some.injEq, Addr.mk.injEq, and_true] at e'
                obtain ⟨rfl, rfl⟩ := e'
                have lk := hUx.lm i (by have := hUx.le; omega)
                have hhi := hid (hE.out i (Nat.le_refl _))
                generalize hhe : hh i = hx at hcl lk hhi
                have HHE := hid hhe
                clear hhe
                go_wp2
                go_roundw
                case rel =>
                  go_light
                  have q1 : (cc + hx * 1000000000) / 4294967296 < 1000000000 := by omega
                  refine ⟨i + 1, (cc + hx * 1000000000) / 4294967296, upd hh i ((cc + hx * 1000000000) % 4294967296), by omega, q1, by congr 1, by congr 1, ?_, fun j hj => ?_, ?_, ?_, hBx.setCell (by simpa using hwb) _⟩
                  · have hc5 := hUx.cs.set (j := i) (by have := hUx.le; omega) ((cc + hx * 1000000000) % 4294967296)
                    have e5 : ((cc : Int) + (hx : Int) * 1000000000) % 4294967296 = (((cc + hx * 1000000000) % 4294967296 : Nat) : Int) := by omega
                    rw [e5]
                    exact hc5.us hUx.le hUx.mx (hUx.lm.upd (by omega))
                  · obtain ⟨b5, o5, e5, h5, h6⟩ := hNx j hj
                    exact ⟨b5, o5, e5, h5, by rw [World.frozen?_setCell]; exact h6⟩
                  · exact hid (fun j hj => by rw [upd_other _ _ _ _ (by omega)]; exact hE.out j (by omega))
                  · refine hid ?_
                    rw [val_upd_at, val_succ, pw_succ]
                    rw [← hhi.out]
                    exact nine_step (q := 0) hS.out (by omega)
                case measure => simp [intOf]; omega
              · obtain rfl : i = m := by omega
                by_cases hc0 : cc = 0
                · subst hc0
                  go_wp2
                  have hS' := hS.out
                  rw [Nat.zero_mul, Nat.add_zero] at hS'
                  refine ⟨⟨(x :: t).drop (t.length % 9 + 1), done ++ D, i, d, r, hh, drop_str x t _, hid (by rw [List.append_assoc, HD1.out, List.take_append_drop]; exact HT.out), rfl, hUx, hNx, hid (nine_val hV.out HDD.out HD2.out (by have := hM.out; rwa [List.length_cons] at this) hS'), hid (.inr (by simp; omega)), by rw [List.length_append, HD2.out]; omega, by rw [List.length_append, HD2.out, List.length_drop, List.length_cons]; rw [List.length_cons] at hlen; omega, hBx⟩, ?_⟩
                  rw [drop_str]
                  show ((x :: t).drop (t.length % 9 + 1)).length < (x :: t).length
                  rw [List.length_drop, List.length_cons]; omega
                · go_wp2_with (at_builtin; refine wpList_append_u32 _ rfl _ _ 33 33 rfl 88 Tryz.underlying33 Tryz.underlying33 Tryz.info88 w.heap.size (by simp; omega) _ _ _ _ 1 1 _ (fun _ => cc) rfl rfl (hUx.alloc _) (hNx.below hUx (below_alloc _ _) (Nat.le_refl _)) (one_us _ (by omega) (by omega)) (by omega) ?_; intro a' c' f' w1 k1 k2 k3 k4 k5; have k6 := hid (push_val k2 k3); clear k2 k3)
                  have hS' := hS.out
                  refine ⟨⟨(x :: t).drop (t.length % 9 + 1), done ++ D, i + 1, c', a', f', drop_str x t _, hid (by rw [List.append_assoc, HD1.out, List.take_append_drop]; exact HT.out), rfl, k1, k4, hid (nine_val hV.out HDD.out HD2.out (by have := hM.out; rwa [List.length_cons] at this) (by rw [k6.out]; exact hS')), hid (.inr (by simp; omega)), by rw [List.length_append, HD2.out]; omega, by rw [List.length_append, HD2.out, List.length_drop, List.length_cons]; rw [List.length_cons] at hlen; omega, hBx.trans (((below_alloc _ _).mono hsx).trans k5)⟩, ?_⟩
                  rw [drop_str]
                  show ((x :: t).drop (t.length % 9 + 1)).length < (x :: t).length
                  rw [List.length_drop, List.length_cons]; omega
/-! Ints -/
/-- A slice's length, for a measure. -/
def lenV : Value → Nat | .slice _ n _ => n | _ => 0
/-- What a sign and a magnitude are worth. -/
def ival (neg : Bool) (x : Nat) : Int := if neg then -(x : Int) else x
/-- An integer is answered: in new memory, as it should stand, worth z, of at most L limbs. -/
def ResI (w w' : World) (z : Int) (L : Nat) (e : Ending) : Prop :=
  ∃ sg a n c f, e = .returned (.agg #[.bool sg, .slice a n c]) ∧ Us w' a n c f ∧ New w' w.heap.size a c ∧ Below w.heap.size w w' ∧ Nm f n ∧ (n = 0 → sg = false) ∧ ival sg (val f n) = z ∧ n ≤ L
theorem Us.none {w : World} {n c : Nat} {f : Nat → Nat} (k : Us w none n c f) : n = 0 ∧ c = 0 := by
  have h : c = 0 := by
    rcases Nat.eq_zero_or_pos c with h | h
    · exact h
    · obtain ⟨b, o, e, _⟩ := k.cell 0 h; cases e
  have := k.le
  exact ⟨by omega, h⟩
set_option maxHeartbeats 1000000 in
theorem trim_any (a : Option Addr) (n c : Nat) (f : Nat → Nat) (w : World) (hn : n ≤ 4398046511104) (hu : Us w a n c f) :
    Calls Tryz.prog 74 #[.slice a n c] w fun e w' => ∃ a' n' c' h, e = .returned (.slice a' n' c') ∧ Us w' a' n' c' h ∧ New w' w.heap.size a' c' ∧ Below w.heap.size w w' ∧ Nm h n' ∧ val h n' = val f n ∧ n' ≤ n := by
  have hle := hu.le
  go_enter Tryz.func74, Tryz.ntmps74
  go_wp2
  go_loop [0] (fun v => ∃ k : Nat, k ≤ n ∧ nrm f k = nrm f n ∧ v = .slice a k c) (fun v => lenV v)
  case atStart => exact ⟨n, Nat.le_refl _, rfl, rfl⟩
  case round =>
    obtain ⟨k, hk, hkn, rfl⟩ := hrel
    have HK := hid hkn
    clear hkn
    have HU := hu.mono hk
    have hz : ∀ a0, a = a0 → a0 = none → k = 0 ∧ c = 0 := by rintro _ rfl rfl; exact HU.none
    by_cases h0 : 0 < k ∧ f (k - 1) = 0
    · obtain ⟨hk0, hf0⟩ := h0
      obtain ⟨j, rfl⟩ : ∃ j, k = j + 1 := ⟨k - 1, by omega⟩
      simp at hf0
      obtain ⟨b, off, rfl, hcell⟩ := hu.cell j (by omega)
      rw [hf0] at hcell
      have hjc : j + 1 ≤ c := by omega
      have hc0 : ¬ c = 0 := by omega
      have HF := hid hf0
      clear hf0 hz
      go_wp2
      refine ⟨⟨j, by omega, ?_, rfl⟩, by simp [lenV]⟩
      rw [← HK.out]
      conv => rhs; unfold nrm
      rw [if_pos HF.out]
    · have hnm : nrm f n = k := by
        rw [← HK.out]
        cases k with
        | zero => rfl
        | succ j => unfold nrm; rw [if_neg (by simpa using h0)]
      have HN := hid hnm
      clear hnm
      rcases hk1 : k with _ | j
      · subst hk1
        clear h0
        go_wp2_with (go_at_call 90; refine (clone_any _ _ _ _ _ (by omega) HU (by intro h; exact hz _ rfl h)).mono ?_; rintro e w' ⟨a', c', h, rfl, h1, h2, h3, h4⟩)
        go_ret
        refine ⟨_, _, _, _, rfl, h1, h2, h3, .inl rfl, ?_, by omega⟩
        rw [← val_nrm f n, HN.out]; rfl
      · subst hk1
        have hfj : ¬ f j = 0 := by simpa using h0
        have hfi : ¬ (f j : Int) = 0 := by omega
        obtain ⟨b, off, rfl, hcell⟩ := hu.cell j (by omega)
        clear h0
        go_wp2_with (go_at_call 90; refine (clone_any _ _ _ _ _ (by omega) HU (by intro h; cases h)).mono ?_; rintro e w' ⟨a', c', h, rfl, h1, h2, h3, h4⟩)
        go_ret
        refine ⟨_, _, _, _, rfl, h1, h2, h3, Nm.congr (f := f) (.inr (by simpa using hfj)) h4, ?_, by omega⟩
        rw [val_congr h4, ← HN.out, val_nrm]
theorem Us.apart {w : World} {a : Option Addr} {n c base : Nat} {h : Nat → Nat} (k : Us w a n c h) (u : New w base a c) {p : Addr} (hp : p.block < base) (x : Value) : Us (w.setCell p x) a n c h :=
  ⟨k.le, k.mx, k.lm, fun i hi => by
    obtain ⟨b, off, e, h1, _⟩ := u i hi
    subst e
    exact ⟨b, off, rfl, by rw [World.cell?_setCell_other _ _ _ _ (by intro h; subst h; simp at hp; omega)]; exact k.cs i hi⟩⟩
theorem new2 {w w1 : World} {v0 v1 : Value} {T : TypeId} (hb : Below (w.alloc (.cells #[v0, v1] T)).heap.size (w.alloc (.cells #[v0, v1] T)) w1) :
    w1.cell? ⟨w.heap.size, 0, none⟩ = some v0 ∧ w1.cell? ⟨w.heap.size, 1, none⟩ = some v1 ∧ w1.frozen? ⟨w.heap.size, 0, none⟩ = false ∧ w1.frozen? ⟨w.heap.size, 1, none⟩ = false ∧ w.heap.size < w1.heap.size := by
  have hlt : w.heap.size < (w.alloc (.cells #[v0, v1] T)).heap.size := by simp
  refine ⟨?_, ?_, ?_, ?_, Nat.lt_of_lt_of_le hlt hb.size⟩
  · rw [hb.cell (p := ⟨w.heap.size, 0, none⟩) hlt, World.cell?_alloc_new]; rfl
  · rw [hb.cell (p := ⟨w.heap.size, 1, none⟩) hlt, World.cell?_alloc_new]; rfl
  · rw [hb.frozen (p := ⟨w.heap.size, 0, none⟩) hlt, World.frozen?_alloc_new]
  · rw [hb.frozen (p := ⟨w.heap.size, 1, none⟩) hlt, World.frozen?_alloc_new]
set_option maxHeartbeats 1000000 in
theorem made_any (neg : Bool) (a : Option Addr) (n c : Nat) (f : Nat → Nat) (w : World) (hn : n ≤ 4398046511104) (hu : Us w a n c f) :
    Calls Tryz.prog 75 #[.bool neg, .slice a n c] w fun e w' => ResI w w' (ival neg (val f n)) n e := by
  cases neg
  all_goals
    go_enter Tryz.func75, Tryz.ntmps75
    go_wp2_with (go_at_call 74; refine (trim_any _ _ _ _ _ (by omega) (hu.alloc _)).mono ?_; rintro e w1 ⟨a', n', c', h, rfl, k1, k2, k3, k4, k5, k6⟩; obtain ⟨r0, r1, r2, r3, r4⟩ := new2 k3; have K5 := hid k5; clear k5)
    have k2' : New w1 (w.heap.size + 1) a' c' := k2.mono (by simp)
    have k3' : Below w.heap.size w w1 := (below_alloc w _).trans (k3.mono (by simp))
    refine bodyPost_ret (by simp [results, Tryz.results75, go_sem, r0, r1]; rfl) rfl ⟨_, a', n', c', h, rfl, (k1.apart k2' (by simp) _).apart (k2'.set _ _) (by simp) _, ((k2'.set _ _).set _ _).mono (by omega), (k3'.setCell (by simp) _).setCell (by simp) _, k4, ?_, ?_, k6⟩
  · intro _; rfl
  · rw [K5.out]
  · intro e; subst e; rfl
  · rw [← K5.out]
    by_cases e : 0 < n'
    · simp [e]
    · have : n' = 0 := by omega
      subst this
      simp [ival, val]
/-! Ints2 -/
theorem bcell {W w1 : World} (hb : Below W.heap.size W w1) : (∀ b o, b < W.heap.size → w1.cell? ⟨b, o, none⟩ = W.cell? ⟨b, o, none⟩) ∧ (∀ b o, b < W.heap.size → w1.frozen? ⟨b, o, none⟩ = W.frozen? ⟨b, o, none⟩) :=
  ⟨fun b o h => hb.cell (p := ⟨b, o, none⟩) h, fun b o h => hb.frozen (p := ⟨b, o, none⟩) h⟩
/-- An answer of an inner call, laid into a result's cells. -/
theorem ResI.out {w w2 w3 : World} {z z' : Int} {L L' q n c : Nat} {sg : Bool} {a : Option Addr} {f : Nat → Nat} (k1 : Us w3 a n c f) (k2 : New w3 w2.heap.size a c) (k3 : Below w2.heap.size w2 w3) (k4 : Nm f n) (k5 : n = 0 → sg = false) (k6 : ival sg (val f n) = z') (k7 : n ≤ L')
    (hB : Below w.heap.size w w2) (h1 : w.heap.size ≤ q) (h2 : q < w2.heap.size) (hz : z' = z) (hl : L' ≤ L) (x y : Value) : ResI w ((w3.setCell ⟨q, 0, none⟩ x).setCell ⟨q, 1, none⟩ y) z L (.returned (.agg #[.bool sg, .slice a n c])) :=
  ⟨sg, a, n, c, f, rfl, (k1.apart k2 h2 _).apart (k2.set _ _) h2 _, ((k2.set _ _).set _ _).mono (by omega), ((hB.trans (k3.mono (by omega))).setCell h1 _).setCell h1 _, k4, k5, k6.trans hz, by omega⟩
theorem below_alloc2 (w : World) (o o' : Obj) : Below w.heap.size w ((w.alloc o).alloc o') := ((Below.refl _ _).alloc (Nat.le_refl _) _).alloc (by simp) _
theorem below_alloc3 (w : World) (o o' o'' : Obj) : Below w.heap.size w (((w.alloc o).alloc o').alloc o'') := (((Below.refl _ _).alloc (Nat.le_refl _) _).alloc (by simp) _).alloc (by simp; omega) _
theorem ival_not (b : Bool) (x : Nat) : ival (!b) x = -ival b x := by cases b <;> simp [ival]
set_option maxHeartbeats 1000000 in
theorem neg_any (neg : Bool) (a : Option Addr) (n c : Nat) (f : Nat → Nat) (w : World) (hn : n ≤ 4398046511104) (hu : Us w a n c f) :
    Calls Tryz.prog 54 #[.agg #[.bool neg, .slice a n c]] w fun e w' => ResI w w' (-ival neg (val f n)) n e := by
  go_enter Tryz.func54, Tryz.ntmps54
  go_wp2_with (go_at_call 75; refine (made_any _ _ _ _ _ _ (by omega) ((hu.alloc _).alloc _)).mono ?_; rintro e w1 ⟨sgx, ax, nx, cx, fx, rfl, kx1, kx2, kx3, kx4, kx5, kx6, kx7⟩; obtain ⟨hcx, hfx⟩ := bcell kx3; have hzx0 : w.heap.size < w1.heap.size := Nat.lt_of_lt_of_le (by first | (simp; done) | (simp; omega) | omega) kx3.size; have hzx1 : w.heap.size + 1 < w1.heap.size := Nat.lt_of_lt_of_le (by first | (simp; done) | (simp; omega) | omega) kx3.size; have Kx6 := hid kx6; have Kx5 := hid kx5; clear kx6 kx5)
  exact bodyPost_ret (by simp [results, Tryz.results54, go_sem, hcx]) rfl (ResI.out kx1 kx2 kx3 kx4 Kx5.out Kx6.out kx7 (below_alloc2 w _ _) (by simp) (by simp) (ival_not _ _) (Nat.le_refl _) _ _)
/-! Ints3 -/
theorem Us.drew {w : World} {a : Option Addr} {n c : Nat} {h : Nat → Nat} (k : Us w a n c h) : Us w.drew a n c h := ⟨k.le, k.mx, k.lm, k.cell⟩
/-- Three boxes, the first blocks that a call makes. -/
structure Box3 (w wx : World) (x0 x1 y0 y1 z0 z1 : Value) : Prop where
  below : Below w.heap.size w wx
  size : w.heap.size + 1 + 1 < wx.heap.size
  c00 : wx.cell? ⟨w.heap.size, 0, none⟩ = some x0
  c01 : wx.cell? ⟨w.heap.size, 1, none⟩ = some x1
  c10 : wx.cell? ⟨w.heap.size + 1, 0, none⟩ = some y0
  c11 : wx.cell? ⟨w.heap.size + 1, 1, none⟩ = some y1
  c20 : wx.cell? ⟨w.heap.size + 1 + 1, 0, none⟩ = some z0
  c21 : wx.cell? ⟨w.heap.size + 1 + 1, 1, none⟩ = some z1
  f0 : ∀ o, wx.frozen? ⟨w.heap.size, o, none⟩ = false
  f1 : ∀ o, wx.frozen? ⟨w.heap.size + 1, o, none⟩ = false
  f2 : ∀ o, wx.frozen? ⟨w.heap.size + 1 + 1, o, none⟩ = false
theorem Box3.made (w : World) (x0 x1 y0 y1 z0 z1 : Value) (T : TypeId) : Box3 w (((w.alloc (.cells #[x0, x1] T)).alloc (.cells #[y0, y1] T)).alloc (.cells #[z0, z1] T)) x0 x1 y0 y1 z0 z1 :=
  ⟨below_alloc3 w _ _ _, by simp, by simp [go_sem], by simp [go_sem], by simp [go_sem], by simp [go_sem], by simp [go_sem], by simp [go_sem], fun o => by simp [go_sem], fun o => by simp [go_sem], fun o => by simp [go_sem]⟩
theorem Box3.keep {w wx wy : World} {x0 x1 y0 y1 z0 z1 : Value} (k : Box3 w wx x0 x1 y0 y1 z0 z1) (hb : Below wx.heap.size wx wy) : Box3 w wy x0 x1 y0 y1 z0 z1 :=
  have s := k.size
  ⟨k.below.trans (hb.mono k.below.size), Nat.lt_of_lt_of_le s hb.size,
   (hb.cell (p := ⟨w.heap.size, 0, none⟩) (by simp; omega)).trans k.c00, (hb.cell (p := ⟨w.heap.size, 1, none⟩) (by simp; omega)).trans k.c01,
   (hb.cell (p := ⟨w.heap.size + 1, 0, none⟩) (by simp; omega)).trans k.c10, (hb.cell (p := ⟨w.heap.size + 1, 1, none⟩) (by simp; omega)).trans k.c11,
   (hb.cell (p := ⟨w.heap.size + 1 + 1, 0, none⟩) (by simp; omega)).trans k.c20, (hb.cell (p := ⟨w.heap.size + 1 + 1, 1, none⟩) (by simp; omega)).trans k.c21,
   fun o => (hb.frozen (p := ⟨w.heap.size, o, none⟩) (by simp; omega)).trans (k.f0 o), fun o => (hb.frozen (p := ⟨w.heap.size + 1, o, none⟩) (by simp; omega)).trans (k.f1 o), fun o => (hb.frozen (p := ⟨w.heap.size + 1 + 1, o, none⟩) (by simp; omega)).trans (k.f2 o)⟩
theorem Box3.drew {w wx : World} {x0 x1 y0 y1 z0 z1 : Value} (k : Box3 w wx x0 x1 y0 y1 z0 z1) : Box3 w wx.drew x0 x1 y0 y1 z0 z1 :=
  ⟨k.below.drew, k.size, k.c00, k.c01, k.c10, k.c11, k.c20, k.c21, k.f0, k.f1, k.f2⟩
/-! Ints4 -/
/-- The sign of an integer. -/
def sgn (z : Int) : Int := if z < 0 then -1 else if 0 < z then 1 else 0
/-- How two integers stand. -/
def cmpI (x y : Int) : Int := if x < y then -1 else if y < x then 1 else 0
/-- A number is answered; the world is below as it was. -/
def ResN (w w' : World) (k : IntKind) (z : Int) (e : Ending) : Prop := e = .returned (.int k z) ∧ Below w.heap.size w w'
/-- Does it stand as it should? -/
def stB (neg : Bool) (f : Nat → Nat) (n : Nat) : Bool := if n = 0 then !neg else ((f (n - 1) : Int) != 0)
theorem stB_iff {neg : Bool} {f : Nat → Nat} {n : Nat} : stB neg f n = true ↔ Nm f n ∧ (n = 0 → neg = false) := by
  unfold stB Nm
  by_cases h : n = 0
  · simp [h]
  · simp [h]
/-! Ints5 -/
theorem sgn_neg {z : Int} (h : z < 0) : sgn z = -1 := by simp [sgn, h]
theorem sgn_zero : sgn 0 = 0 := rfl
theorem sgn_pos {z : Int} (h : 0 < z) : sgn z = 1 := by unfold sgn; rw [if_neg (by omega), if_pos h]
theorem cmpI_lt {x y : Int} (h : x < y) : cmpI x y = -1 := by simp [cmpI, h]
theorem cmpI_gt {x y : Int} (h : y < x) : cmpI x y = 1 := by unfold cmpI; rw [if_neg (by omega), if_pos h]
theorem cmpI_eq {x y : Int} (h : x = y) : cmpI x y = 0 := by unfold cmpI; rw [if_neg (by omega), if_neg (by omega)]
theorem cmpN_up {b : Bool} {x y : Nat} (hb : b = false) : cmpN x y = cmpI (ival b x) (ival b y) := by
  subst hb; unfold cmpN cmpI ival; simp
theorem cmpN_down {b : Bool} {x y : Nat} (hb : b = true) : cmpN y x = cmpI (ival b x) (ival b y) := by
  subst hb; unfold cmpN cmpI ival; simp
theorem Us.alloc2 {w : World} {a : Option Addr} {n c : Nat} {h : Nat → Nat} (k : Us w a n c h) (o o' : Obj) : Us ((w.alloc o).alloc o') a n c h := (k.alloc _).alloc _
/-! Texts -/
/-- The number of a text, if it is one. -/
def prs (l : List UInt8) : Option Int :=
  if l.head? = some 126 then (if isNum l.tail = true ∧ rdr 0 l.tail ≠ 0 then some (-(rdr 0 l.tail : Int)) else none)
  else if isNum l = true then some (rdr 0 l : Int) else none
theorem pre_cons (d : List UInt8) : Lib.trimPrefix (126 :: d) [126] = d ∧ Lib.hasPrefix (126 :: d) [126] = true := by
  have h : Lib.hasPrefix (126 :: d) [126] = true := by simp [Lib.hasPrefix, List.isPrefixOf]
  refine ⟨?_, h⟩
  unfold Lib.trimPrefix; rw [if_pos h]; rfl
theorem pre_else (l : List UInt8) (hl : l.head? ≠ some 126) : Lib.trimPrefix l [126] = l ∧ Lib.hasPrefix l [126] = false := by
  have h : Lib.hasPrefix l [126] = false := by
    rcases l with _ | ⟨c, l⟩
    · rfl
    · simp at hl
      simp [Lib.hasPrefix, List.isPrefixOf]
      exact fun e => hl e.symm
  refine ⟨?_, h⟩
  unfold Lib.trimPrefix; rw [if_neg (by rw [h]; decide)]
/-- A number and no error are answered. -/
def ResP (w w' : World) (z : Int) (L : Nat) (e : Ending) : Prop :=
  ∃ sg a n c f, e = .returned (.tuple #[.agg #[.bool sg, .slice a n c], .int .i64 0]) ∧ Us w' a n c f ∧ New w' w.heap.size a c ∧ Below w.heap.size w w' ∧ Nm f n ∧ (n = 0 → sg = false) ∧ ival sg (val f n) = z ∧ n ≤ L
theorem ResP.out {w w2 w3 : World} {z z' : Int} {L L' q n c : Nat} {sg : Bool} {a : Option Addr} {f : Nat → Nat} (k1 : Us w3 a n c f) (k2 : New w3 w2.heap.size a c) (k3 : Below w2.heap.size w2 w3) (k4 : Nm f n) (k5 : n = 0 → sg = false) (k6 : ival sg (val f n) = z') (k7 : n ≤ L')
    (hB : Below w.heap.size w w2) (h1 : w.heap.size ≤ q) (h2 : q < w2.heap.size) (hz : z' = z) (hl : L' ≤ L) (x y : Value) : ResP w ((w3.setCell ⟨q, 0, none⟩ x).setCell ⟨q, 1, none⟩ y) z L (.returned (.tuple #[.agg #[.bool sg, .slice a n c], .int .i64 0])) :=
  ⟨sg, a, n, c, f, rfl, (k1.apart k2 h2 _).apart (k2.set _ _) h2 _, ((k2.set _ _).set _ _).mono (by omega), ((hB.trans (k3.mono (by omega))).setCell h1 _).setCell h1 _, k4, k5, k6.trans hz, by omega⟩
set_option maxHeartbeats 2000000 in
theorem parse_num (pre : Bool) (l d : List UInt8) (w : World) (hl : l.length ≤ 274877906944) (hl2 : d.length ≤ l.length) (h1 : Lib.trimPrefix l [126] = d) (h2 : Lib.hasPrefix l [126] = pre) (hd : isNum d = true) (h0 : pre = true → rdr 0 d ≠ 0) :
    Calls Tryz.prog 53 #[.string ⟨l.toArray⟩] w fun e w' => ResP w w' (ival pre (rdr 0 d)) l.length e := by
  have H1 := hid h1
  have H2 := hid h2
  have H0 := hid h0
  clear h1 h2 h0
  cases pre
  · go_enter Tryz.func53, Tryz.ntmps53
    go_wp2_with (first | (go_at_call 51; refine (Tryz.strings_CutPrefix ⟨l.toArray⟩ ⟨#[126]⟩ _).mono ?_; rintro e w' ⟨rfl, rfl⟩; rw [show (⟨l.toArray⟩ : ByteArray).data.toList = l from rfl, show (⟨#[126]⟩ : ByteArray).data.toList = [126] from rfl, H1.out, H2.out]) | (go_at_call 73; refine (natParse_good _ _ (by omega) hd).mono ?_; rintro e w1 ⟨ap, np, cp, hp, rfl, k1, k2, k3, k4, k5⟩; obtain ⟨r0, r1, r2, r3, r4⟩ := new2 k3) | (go_at_call 75; refine (made_any _ _ _ _ _ _ (by omega) k1).mono ?_; rintro e w2 ⟨sgx, ax, nx, cx, fx, rfl, x1, x2, x3, x4, x5, x6, x7⟩; obtain ⟨hcx, hfx⟩ := bcell x3; have X6 := hid x6; have X5 := hid x5; clear x6 x5))
    have hB : Below w.heap.size w w1 := (below_alloc w _).trans (k3.mono (by simp))
    exact bodyPost_ret (by simp [results, Tryz.results53, go_sem, hcx, r0, r1, r4]) rfl (ResP.out x1 x2 x3 x4 X5.out X6.out x7 hB (Nat.le_refl _) r4 (by rw [k4.out]) (by omega) _ _)
  · have H00 := hid (H0.out rfl)
    clear H0
    go_enter Tryz.func53, Tryz.ntmps53
    go_wp2_with (first | (go_at_call 51; refine (Tryz.strings_CutPrefix ⟨l.toArray⟩ ⟨#[126]⟩ _).mono ?_; rintro e w' ⟨rfl, rfl⟩; rw [show (⟨l.toArray⟩ : ByteArray).data.toList = l from rfl, show (⟨#[126]⟩ : ByteArray).data.toList = [126] from rfl, H1.out, H2.out]) | (go_at_call 73; refine (natParse_good _ _ (by omega) hd).mono ?_; rintro e w1 ⟨ap, np, cp, hp, rfl, k1, k2, k3, k4, k5⟩; obtain ⟨r0, r1, r2, r3, r4⟩ := new2 k3) | (go_at_call 74; refine (trim_any _ _ _ _ _ (by omega) k1).mono ?_; rintro e w2 ⟨at', nt, ct, ft, rfl, t1, t2, t3, t4, t5, t6⟩; have T5 := hid t5; clear t5; obtain ⟨hct, hft⟩ := bcell t3; have hz2 : w.heap.size < w2.heap.size := Nat.lt_of_lt_of_le r4 t3.size; have hne : ¬ (nt : Int) = 0 := (by intro e0; have e1 : nt = 0 := (by omega); have e2 := T5.out; rw [t4.zero.2 e1, k4.out] at e2; exact H00.out e2.symm)) | (go_at_call 75; refine (made_any _ _ _ _ _ _ (by omega) (k1.below t3 (Nat.le_refl _))).mono ?_; rintro e w3 ⟨sgx, ax, nx, cx, fx, rfl, x1, x2, x3, x4, x5, x6, x7⟩; obtain ⟨hcx, hfx⟩ := bcell x3; have X6 := hid x6; have X5 := hid x5; clear x6 x5))
    have hB : Below w.heap.size w w1 := (below_alloc w _).trans (k3.mono (by simp))
    have hB2 : Below w.heap.size w w2 := hB.trans (t3.mono hB.size)
    exact bodyPost_ret (by simp [results, Tryz.results53, go_sem, hcx, hct, r0, r1, r4, hz2]) rfl (ResP.out x1 x2 x3 x4 X5.out X6.out x7 hB2 (Nat.le_refl _) hz2 (by rw [k4.out]) (by omega) _ _)
theorem parse_good (l : List UInt8) (w : World) (z : Int) (hl : l.length ≤ 274877906944) (h : prs l = some z) :
    Calls Tryz.prog 53 #[.string ⟨l.toArray⟩] w fun e w' => ResP w w' z l.length e := by
  unfold prs at h
  split at h
  · rename_i hh
    split at h
    · rename_i hq
      rcases l with _ | ⟨c, d⟩
      · cases hh
      · simp only [List.head?_cons, Option.some.injEq] at hh
        subst hh
        simp only [List.tail_cons] at hq h
        obtain ⟨p1, p2⟩ := pre_cons d
        have := parse_num true (126 :: d) d w hl (by simp) p1 p2 hq.1 (fun _ => hq.2)
        simp only [Option.some.injEq] at h
        rw [← h]
        exact this
    · cases h
  · rename_i hh
    split at h
    · rename_i hq
      obtain ⟨p1, p2⟩ := pre_else l hh
      have := parse_num false l l w hl (Nat.le_refl _) p1 p2 hq (fun e => by cases e)
      simp only [Option.some.injEq] at h
      rw [← h]
      exact this
    · cases h
/-! TextsB -/
/-- No number is answered. -/
def ResE (w w' : World) (e : Ending) : Prop := e = .returned (.tuple #[.agg #[.bool false, .slice none 0 0], .int .i64 11]) ∧ Below w.heap.size w w'
set_option maxHeartbeats 2000000 in
theorem parse_no (pre : Bool) (l d : List UInt8) (w : World) (hl : l.length ≤ 274877906944) (hl2 : d.length ≤ l.length) (h1 : Lib.trimPrefix l [126] = d) (h2 : Lib.hasPrefix l [126] = pre) (hd : isNum d = false) :
    Calls Tryz.prog 53 #[.string ⟨l.toArray⟩] w fun e w' => ResE w w' e := by
  have H1 := hid h1
  have H2 := hid h2
  clear h1 h2
  cases pre
  all_goals
    go_enter Tryz.func53, Tryz.ntmps53
    go_wp2_with (first | (go_at_call 51; refine (Tryz.strings_CutPrefix ⟨l.toArray⟩ ⟨#[126]⟩ _).mono ?_; rintro e w' ⟨rfl, rfl⟩; rw [show (⟨l.toArray⟩ : ByteArray).data.toList = l from rfl, show (⟨#[126]⟩ : ByteArray).data.toList = [126] from rfl, H1.out, H2.out]) | (go_at_call 73; refine (natParse_bad _ _ (by omega) hd).mono ?_; rintro e w1 ⟨rfl, k3⟩; obtain ⟨r0, r1, r2, r3, r4⟩ := new2 k3))
    have hB : Below w.heap.size w w1 := (below_alloc w _).trans (k3.mono (by simp))
    exact bodyPost_ret (by simp [results, Tryz.results53, go_sem, r0, r1, r4]) rfl ⟨rfl, (hB.setCell (by simp) _).setCell (by simp) _⟩
set_option maxHeartbeats 2000000 in
theorem parse_nought (l d : List UInt8) (w : World) (hl : l.length ≤ 274877906944) (hl2 : d.length ≤ l.length) (h1 : Lib.trimPrefix l [126] = d) (h2 : Lib.hasPrefix l [126] = true) (hd : isNum d = true) (h0 : rdr 0 d = 0) :
    Calls Tryz.prog 53 #[.string ⟨l.toArray⟩] w fun e w' => ResE w w' e := by
  have H1 := hid h1
  have H2 := hid h2
  have H0 := hid h0
  clear h1 h2 h0
  go_enter Tryz.func53, Tryz.ntmps53
  go_wp2_with (first | (go_at_call 51; refine (Tryz.strings_CutPrefix ⟨l.toArray⟩ ⟨#[126]⟩ _).mono ?_; rintro e w' ⟨rfl, rfl⟩; rw [show (⟨l.toArray⟩ : ByteArray).data.toList = l from rfl, show (⟨#[126]⟩ : ByteArray).data.toList = [126] from rfl, H1.out, H2.out]) | (go_at_call 73; refine (natParse_good _ _ (by omega) hd).mono ?_; rintro e w1 ⟨ap, np, cp, hp, rfl, k1, k2, k3, k4, k5⟩; obtain ⟨r0, r1, r2, r3, r4⟩ := new2 k3) | (go_at_call 74; refine (trim_any _ _ _ _ _ (by omega) k1).mono ?_; rintro e w2 ⟨at', nt, ct, ft, rfl, t1, t2, t3, t4, t5, t6⟩; have T5 := hid t5; clear t5; obtain ⟨hct, hft⟩ := bcell t3; have hz2 : w.heap.size < w2.heap.size := Nat.lt_of_lt_of_le r4 t3.size; have hne : nt = 0 := (t4.zero.1 (by rw [T5.out, k4.out]; exact H0.out)); subst hne))
  have hB : Below w.heap.size w w1 := (below_alloc w _).trans (k3.mono (by simp))
  have hB2 : Below w.heap.size w w2 := hB.trans (t3.mono hB.size)
  exact bodyPost_ret (by simp [results, Tryz.results53, go_sem, hct, r0, r1, r4, hz2]) rfl ⟨rfl, (hB2.setCell (by simp) _).setCell (by simp) _⟩
theorem parse_bad (l : List UInt8) (w : World) (hl : l.length ≤ 274877906944) (h : prs l = none) :
    Calls Tryz.prog 53 #[.string ⟨l.toArray⟩] w fun e w' => ResE w w' e := by
  unfold prs at h
  split at h
  · rename_i hh
    rcases l with _ | ⟨c, d⟩
    · cases hh
    · simp only [List.head?_cons, Option.some.injEq] at hh
      subst hh
      change (if isNum d = true ∧ rdr 0 d ≠ 0 then some (-(rdr 0 d : Int)) else none) = none at h
      obtain ⟨p1, p2⟩ := pre_cons d
      by_cases hq : isNum d = true ∧ rdr 0 d ≠ 0
      · rw [if_pos hq] at h; cases h
      · rcases hn : isNum d with _ | _
        · exact parse_no true (126 :: d) d w hl (by simp) p1 p2 hn
        · have h0 : rdr 0 d = 0 := by
            rcases Nat.eq_zero_or_pos (rdr 0 d) with q | q
            · exact q
            · exact absurd ⟨hn, by omega⟩ hq
          exact parse_nought (126 :: d) d w hl (by simp) p1 p2 hn h0
  · rename_i hh
    split at h
    · cases h
    · rename_i hq
      obtain ⟨p1, p2⟩ := pre_else l hh
      exact parse_no false l l w hl (Nat.le_refl _) p1 p2 (by simpa using hq)
end Go.Proofs.YtajpeeccomgnnaaGreatDoor
