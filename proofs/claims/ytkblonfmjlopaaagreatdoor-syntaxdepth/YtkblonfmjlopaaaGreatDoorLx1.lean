/-
  Big integers, the part that the lexer reaches: what stands in the claims of chapter 01, turned to this seat by program.
-/
import Derived.Test.YtkblonfmjlopaaaGreatDoorBigA
set_option linter.all false
set_option maxRecDepth 1000000
set_option maxHeartbeats 16000000
namespace Go.Proofs.YtkblonfmjlopaaaGreatDoor
open Go Go.RowKit
/-! RTimes -/
theorem one_us (w : World) {x : Nat} {v : Int} (hv : v = (x : Int)) (hx : x ≤ 4294967295) : Us (w.alloc (Obj.cells #[Value.int IntKind.u32 v] 171)) (some ⟨w.heap.size, 0, none⟩) 1 1 (fun _ => x) := by
  subst hv; refine ⟨Nat.le_refl _, by decide, fun _ _ => hx, fun i hi => ⟨_, _, rfl, ?_⟩⟩; obtain rfl : i = 0 := by omega
  simp [World.cell?_alloc_new]
theorem push_val {h f : Nat → Nat} {k x : Nat} (h1 : ∀ i, i < k → f i = h i) (h2 : ∀ i, i < 1 → f (k + i) = x) : val f (k + 1) = val h k + x * pw k := by
  rw [val_succ, val_congr h1, show f k = x from h2 0 (by omega)]
/-! Parse2 -/
def strL : Value → Nat | .string s => s.size | _ => 0
theorem isNum_parts {c : UInt8} {l : List UInt8} (h : isNum (c :: l) = true) : (l = [] ∨ c ≠ 48) ∧ (c :: l).all (tenD.contains ·) = true ∧ ∀ x ∈ c :: l, 48 ≤ x.toNat ∧ x.toNat ≤ 57 := by
  unfold isNum at h; rw [Bool.and_eq_true, Bool.and_eq_true] at h; obtain ⟨⟨_, h1⟩, h2⟩ := h; refine ⟨?_, ?_, ?_⟩
  · rcases l with _ | ⟨d, l⟩
    · exact .inl rfl
    · right
      intro e; subst e; simp at h1
  · rw [← h2]; congr 1; funext x; exact ten_iff x
  · intro x hx; rw [List.all_eq_true] at h2
    simpa using h2 x hx
theorem extr (L : List UInt8) (a b : Nat) : (⟨L.toArray⟩ : ByteArray).extract a b = ⟨((L.drop a).take (b - a)).toArray⟩ := by
  apply ByteArray.ext; rw [ByteArray.data_extract]; simp
theorem bytes_below (w : World) (e : TypeId) (s : ByteArray) : Below w.heap.size w (Lib.bytesWorld w e s) :=
  ⟨rfl, rfl, rfl, by rw [Lib.bytesWorld_size]; omega, fun j hj => Lib.bytesWorld_at_old w e s j hj⟩
theorem rdr_take {D : List UInt8} {j : Nat} (h : j < D.length) : rdr 0 (D.take (j + 1)) = 10 * rdr 0 (D.take j) + ((D[j]?.getD 0).toNat - 48) := by
  rw [List.take_add_one, rdr_append, List.getElem?_eq_getElem h]; simp only [Option.toList_some, Option.getD_some]; rw [rdr_cons, rdr_nil]; rfl
theorem nine_step {vh cc hi q c2 d v D0 p : Nat} (h : vh + cc * p = v * 1000000000 + D0) (e : cc + hi * 1000000000 = d + c2 * 4294967296) : vh + d * p + c2 * (4294967296 * p) = (v + hi * p) * 1000000000 + D0 := by
  have e2 : (cc + hi * 1000000000) * p = (d + c2 * 4294967296) * p := by rw [e]
  rw [Nat.add_mul, Nat.add_mul] at e2; have e3 : hi * 1000000000 * p = hi * p * 1000000000 := Nat.mul_right_comm _ _ _; have e4 : c2 * 4294967296 * p = c2 * (4294967296 * p) := Nat.mul_assoc _ _ _; rw [Nat.add_mul v]; omega
theorem nine_val {v D0 y N : Nat} {done D : List UInt8} (hV : v = rdr 0 done) (hD : rdr 0 D = D0) (hl : D.length = N % 9 + 1) (hM : done = [] ∨ (N + 1) % 9 = 0) (h : y = v * 1000000000 + D0) : y = rdr 0 (done ++ D) := by
  rw [rdr_append, rdr_pow, ← hV, hD, h, hl]
  rcases hM with hM | hM
  · have : v = 0 := by rw [hV, hM, rdr_nil]
    rw [this, Nat.zero_mul, Nat.zero_mul]
  · rw [show N % 9 + 1 = 9 by omega]
theorem drop_str (x : UInt8) (t : List UInt8) (k : Nat) : Value.string ((⟨(x :: t).toArray⟩ : ByteArray).extract k (t.length + 1)) = .string ⟨((x :: t).drop k).toArray⟩ := by
  rw [extr, List.take_of_length_le (by simp)]
theorem natParse_good (l : List UInt8) (w : World) (hl : l.length ≤ 274877906944) (hb : isNum l = true) :
    Calls Tryz.prog 122 #[.string ⟨l.toArray⟩] w fun e w' => ∃ a n c h, e = .returned (.tuple #[.slice a n c, .int .i64 0]) ∧ Us w' a n c h ∧ New w' w.heap.size a c ∧ Below w.heap.size w w' ∧ Hid (val h n = rdr 0 l) ∧ n ≤ l.length := by
  rcases l with _ | ⟨c, l⟩
  · cases hb
  obtain ⟨h1, h2, h3⟩ := isNum_parts hb; clear hb; have HQ := hid (trimS_nil h2); have HD := hid h3; have hx : (({ data := (c :: l).toArray } : ByteArray)[0]'(by simp [ByteArray.size])).toNat = c.toNat := rfl; have hll : l.length + 1 ≤ 274877906944 := hl; clear h2 h3
  have hg : (1 < (l.length : Int) + 1 ∧ ¬ (c.toNat : Int) = 48) ∨ ¬ (1 < (l.length : Int) + 1) := by
    rcases h1 with h | h
    · subst h; right; simp
    · by_cases q : 1 < (l.length : Int) + 1
      · left
        exact ⟨q, fun e => h (UInt8.toNat_inj.1 (by rw [show (48 : UInt8).toNat = 48 from rfl]; omega))⟩
      · exact .inr q
  clear h1
  have hg' : ((1 < (l.length : Int) + 1 ∧ ¬ (c.toNat : Int) = 48) ∧ ((c.toNat : Int) == 48) = false) ∨ ¬ (1 < (l.length : Int) + 1) := by
    rcases hg with ⟨g1, g2⟩ | g1
    · exact .inl ⟨⟨g1, g2⟩, by simpa using g2⟩
    · exact .inr g1
  clear hg; go_enter Tryz.func122, Tryz.ntmps122
  rcases hg' with ⟨⟨hg1, hg2⟩, hg3⟩ | hg1
  all_goals
    go_wp2_with (go_at_call 155; refine (trim_all _ _ (by simp; omega)).mono ?_; rintro e w1 ⟨rfl, k1⟩; rw [HQ.out])
    go_loopw [0, 4, 5, 6, 8, 9, 10] (fun sv av nv dv cv iv xv wr => ∃ (t done : List UInt8) (m d : Nat) (r : Option Addr) (h : Nat → Nat), sv = .string ⟨t.toArray⟩ ∧ Hid (done ++ t = c :: l) ∧ av = .slice r m d ∧ Us wr r m d h ∧ New wr w.heap.size r d ∧ Hid (val h m = rdr 0 done) ∧ Hid (done = [] ∨ t.length % 9 = 0) ∧ m ≤ done.length ∧ done.length + t.length ≤ 274877906944 ∧ Below w.heap.size w wr) (fun sv _ _ _ _ _ _ _ => strL sv)
    case atStart => exact ⟨c :: l, [], 0, 0, _, fun _ => 0, rfl, hid rfl, rfl, ⟨Nat.le_refl _, Nat.zero_le _, fun _ hi => by omega, fun _ hi => by omega⟩, New.nil _ _ _, hid rfl, hid (.inl rfl), Nat.zero_le _, by simp; omega, by first | exact k1 | exact k1.alloc k1.size _⟩
    case round =>
      obtain ⟨t, done, m, d, r, h, rfl, HT, rfl, hU, hN, hV, hM, hm, hlen, hB⟩ := hrel
      rcases t with _ | ⟨x, t⟩
      · go_wp2
        go_ret2
        have hT := HT.out; rw [List.append_nil] at hT; exact ⟨_, _, _, _, rfl, hU, hN, hB, hid (by rw [hV.out, hT]), by have := congrArg List.length hT; rw [List.length_cons] at this; omega⟩
      · have hcv := fun w s => Lib.run_convert_string_bytes (P := Tryz.prog) w 9 165 5 s Tryz.underlying9 Tryz.underlying165 Tryz.underlying5; have hT : t.length + 1 ≤ 274877906944 := by simp at hlen; omega
        have hmin : min (t.length % 9) t.length = t.length % 9 := Nat.min_eq_left (Nat.mod_le _ _); have hbs := hB.size
        go_wp2
        have hN9 : t.length % 9 + 1 ≤ t.length + 1 := by have := Nat.mod_le t.length 9; omega
        have hZ : Hid (∃ D : List UInt8, D = (x :: t).take (t.length % 9 + 1) ∧ D.length = t.length % 9 + 1) := hid ⟨_, rfl, by simp; omega⟩; obtain ⟨D, hD1, hD2⟩ := hZ.out; clear hZ
        have hC : ∀ j, j < t.length % 9 + 1 → (Lib.bytesWorld wr 5 (({ data := (x :: t).toArray } : ByteArray).extract 0 (t.length % 9 + 1))).cell? ⟨wr.heap.size, j, none⟩ = some (.int .u8 ((D[j]?.getD 0).toNat : Nat)) := by
          intro j hj; have := Lib.bytesWorld_cell wr 5 (({ data := (x :: t).toArray } : ByteArray).extract 0 (t.length % 9 + 1)) j (by rw [extr]; show _ < ((List.take (t.length % 9 + 1 - 0) (List.drop 0 (x :: t))).length); simp; omega); rw [this, extr]; simp [hD1]
        have hW := bytes_below wr 5 (({ data := (x :: t).toArray } : ByteArray).extract 0 (t.length % 9 + 1)); have HD1 := hid hD1
        have hD3 : Hid (∀ z ∈ D, 48 ≤ z.toNat ∧ z.toNat ≤ 57) := hid (fun z hz => by
          rw [hD1] at hz; refine HD.out z ?_; rw [← HT.out]
          exact List.mem_append_right _ (List.mem_of_mem_take hz))
        generalize Lib.bytesWorld wr 5 (({ data := (x :: t).toArray } : ByteArray).extract 0 (t.length % 9 + 1)) = wz at hC hW ⊢; clear hD1 hx; have HD2 := hid hD2; clear hD2
        go_loopw [6, 8, 42] (fun dv cv iv wx => wx = wz ∧ ∃ j : Nat, j ≤ t.length % 9 + 1 ∧ iv = .int .i64 j ∧ dv = .int .u64 (rdr 0 (D.take j) : Nat)) (fun _ _ iv _ => (t.length % 9 + 1) - (intOf iv).toNat)
        case atStart => exact ⟨rfl, 0, Nat.zero_le _, rfl, by simp [rdr_nil]⟩
        case round =>
          obtain ⟨hwx, j, hj, rfl, rfl⟩ := hrel; obtain rfl := hwx.symm
          by_cases hjl : j < t.length % 9 + 1
          · have hcell := hC j hjl; have hjD : j < D.length := by rw [HD2.out]; exact hjl
            obtain ⟨g1, g2⟩ : 48 ≤ (D[j]?.getD 0).toNat ∧ (D[j]?.getD 0).toNat ≤ 57 := by
              rw [List.getElem?_eq_getElem hjD]; exact hD3.out _ (List.getElem_mem hjD)
            have hlt := rdr_lt (D.take j) (fun z hz => (hD3.out z (List.mem_of_mem_take hz)).2); rw [List.length_take] at hlt; have hst := hid (rdr_take (D := D) (j := j) hjD); generalize (D[j]?.getD 0).toNat = y at hcell g1 g2 hst; generalize rdr 0 (D.take j) = R at hlt hst ⊢
            have hR : R < 100000000 := by
              have h1 : 10 ^ min j D.length ≤ 10 ^ 8 := Nat.pow_le_pow_right (by decide) (by omega); have h2 : (10 : Nat) ^ 8 = 100000000 := by decide
              omega
            clear hlt hjD hC
            go_wp2
            refine ⟨⟨trivial, j + 1, by omega, rfl, ?_⟩, by simp [intOf]; omega⟩; rw [hst.out]
            congr 1
            omega
          · obtain rfl : j = t.length % 9 + 1 := by omega
            have hD0 := rdr_lt D (fun z hz => (hD3.out z hz).2); rw [HD2.out] at hD0
            have hD0' : rdr 0 D < 1000000000 := by
              have h1 : 10 ^ (t.length % 9 + 1) ≤ 10 ^ 9 := Nat.pow_le_pow_right (by decide) (by omega); have h2 : (10 : Nat) ^ 9 = 1000000000 := by decide
              omega
            clear hD0; rw [List.take_of_length_le (by rw [HD2.out]; exact Nat.le_refl _)]; have hU1 := hU.below hW (Nat.le_refl _); have hN1 := New.below hN hU hW (Nat.le_refl _); have hBz := hB.trans (hW.mono hbs); have lh := hU.lm; have hml := hU.le; have HDV := hid (show rdr 0 D = rdr 0 D from rfl); generalize hDD : rdr 0 D = D0 at hD0' ⊢; have HDD := hid hDD; clear hDD HDV
            go_wp2
            go_loopw [6, 9, 10, 55] (fun dv i9 x10 iv wx => ∃ (i cc : Nat) (hh : Nat → Nat), i ≤ m ∧ cc < 1000000000 ∧ iv = .int .i64 i ∧ dv = .int .u64 cc ∧ Us wx r m d hh ∧ New wx w.heap.size r d ∧ Hid (∀ j, i ≤ j → hh j = h j) ∧ Hid (val hh i + cc * pw i = val h i * 1000000000 + D0) ∧ Below w.heap.size w wx) (fun _ _ _ iv _ => m - (intOf iv).toNat)
            case atStart => exact ⟨0, D0, h, Nat.zero_le _, hD0', rfl, rfl, hU1, hN1, hid (fun _ _ => rfl), by show _ = _; simp [val, pw], hBz⟩
            case round =>
              obtain ⟨i, cc, hh, hi, hcc, rfl, rfl, hUx, hNx, hE, hS, hBx⟩ := hrel; have hsx := hBx.size
              by_cases him : i < m
              · obtain ⟨bl, ol, rfl, hcl⟩ := hUx.cell i (by have := hUx.le; omega); obtain ⟨b', o', e', hwb, hfr⟩ := hNx i (by have := hUx.le; omega); simp only [Option.some.injEq, Addr.mk.injEq, and_true] at e'; obtain ⟨rfl, rfl⟩ := e'; have lk := hUx.lm i (by have := hUx.le; omega); have hhi := hid (hE.out i (Nat.le_refl _)); generalize hhe : hh i = hx at hcl lk hhi; have HHE := hid hhe; clear hhe
                go_wp2
                go_roundw
                case rel =>
                  go_light
                  have q1 : (cc + hx * 1000000000) / 4294967296 < 1000000000 := by omega
                  refine ⟨i + 1, (cc + hx * 1000000000) / 4294967296, upd hh i ((cc + hx * 1000000000) % 4294967296), by omega, q1, by congr 1, by congr 1, ?_, fun j hj => ?_, ?_, ?_, hBx.setCell (by simpa using hwb) _⟩
                  · have hc5 := hUx.cs.set (j := i) (by have := hUx.le; omega) ((cc + hx * 1000000000) % 4294967296); have e5 : ((cc : Int) + (hx : Int) * 1000000000) % 4294967296 = (((cc + hx * 1000000000) % 4294967296 : Nat) : Int) := by omega
                    rw [e5]; exact hc5.us hUx.le hUx.mx (hUx.lm.upd (by omega))
                  · obtain ⟨b5, o5, e5, h5, h6⟩ := hNx j hj; exact ⟨b5, o5, e5, h5, by rw [World.frozen?_setCell]; exact h6⟩
                  · exact hid (fun j hj => by rw [upd_other _ _ _ _ (by omega)]; exact hE.out j (by omega))
                  · refine hid ?_; rw [val_upd_at, val_succ, pw_succ]; rw [← hhi.out]; exact nine_step (q := 0) hS.out (by omega)
                case measure => simp [intOf]; omega
              · obtain rfl : i = m := by omega
                by_cases hc0 : cc = 0
                · subst hc0
                  go_wp2
                  have hS' := hS.out; rw [Nat.zero_mul, Nat.add_zero] at hS'; refine ⟨⟨(x :: t).drop (t.length % 9 + 1), done ++ D, i, d, r, hh, drop_str x t _, hid (by rw [List.append_assoc, HD1.out, List.take_append_drop]; exact HT.out), rfl, hUx, hNx, hid (nine_val hV.out HDD.out HD2.out (by have := hM.out; rwa [List.length_cons] at this) hS'), hid (.inr (by simp; omega)), by rw [List.length_append, HD2.out]; omega, by rw [List.length_append, HD2.out, List.length_drop, List.length_cons]; rw [List.length_cons] at hlen; omega, hBx⟩, ?_⟩; rw [drop_str]; show ((x :: t).drop (t.length % 9 + 1)).length < (x :: t).length; rw [List.length_drop, List.length_cons]; omega
                · go_wp2_with (at_builtin; refine wpList_append_u32 _ rfl _ _ 70 70 rfl 171 Tryz.underlying70 Tryz.underlying70 Tryz.info171 w.heap.size (by simp; omega) _ _ _ _ 1 1 _ (fun _ => cc) rfl rfl (hUx.alloc _) (hNx.below hUx (below_alloc _ _) (Nat.le_refl _)) (one_us _ (by omega) (by omega)) (by omega) ?_; intro a' c' f' w1 k1 k2 k3 k4 k5; have k6 := hid (push_val k2 k3); clear k2 k3)
                  have hS' := hS.out; refine ⟨⟨(x :: t).drop (t.length % 9 + 1), done ++ D, i + 1, c', a', f', drop_str x t _, hid (by rw [List.append_assoc, HD1.out, List.take_append_drop]; exact HT.out), rfl, k1, k4, hid (nine_val hV.out HDD.out HD2.out (by have := hM.out; rwa [List.length_cons] at this) (by rw [k6.out]; exact hS')), hid (.inr (by simp; omega)), by rw [List.length_append, HD2.out]; omega, by rw [List.length_append, HD2.out, List.length_drop, List.length_cons]; rw [List.length_cons] at hlen; omega, hBx.trans (((below_alloc _ _).mono hsx).trans k5)⟩, ?_⟩; rw [drop_str]; show ((x :: t).drop (t.length % 9 + 1)).length < (x :: t).length; rw [List.length_drop, List.length_cons]; omega
/-! Ints -/
def lenV : Value → Nat | .slice _ n _ => n | _ => 0
def ival (neg : Bool) (x : Nat) : Int := if neg then -(x : Int) else x
def ResI (w w' : World) (z : Int) (L : Nat) (e : Ending) : Prop :=
  ∃ sg a n c f, e = .returned (.agg #[.bool sg, .slice a n c]) ∧ Us w' a n c f ∧ New w' w.heap.size a c ∧ Below w.heap.size w w' ∧ Nm f n ∧ (n = 0 → sg = false) ∧ ival sg (val f n) = z ∧ n ≤ L
theorem Us.none {w : World} {n c : Nat} {f : Nat → Nat} (k : Us w none n c f) : n = 0 ∧ c = 0 := by
  have h : c = 0 := by
    rcases Nat.eq_zero_or_pos c with h | h
    · exact h
    · obtain ⟨b, o, e, _⟩ := k.cell 0 h; cases e
  have := k.le; exact ⟨by omega, h⟩
theorem trim_any (a : Option Addr) (n c : Nat) (f : Nat → Nat) (w : World) (hn : n ≤ 4398046511104) (hu : Us w a n c f) :
    Calls Tryz.prog 123 #[.slice a n c] w fun e w' => ∃ a' n' c' h, e = .returned (.slice a' n' c') ∧ Us w' a' n' c' h ∧ New w' w.heap.size a' c' ∧ Below w.heap.size w w' ∧ Nm h n' ∧ val h n' = val f n ∧ n' ≤ n := by
  have hle := hu.le; go_enter Tryz.func123, Tryz.ntmps123
  go_wp2
  go_loop [0] (fun v => ∃ k : Nat, k ≤ n ∧ nrm f k = nrm f n ∧ v = .slice a k c) (fun v => lenV v)
  case atStart => exact ⟨n, Nat.le_refl _, rfl, rfl⟩
  case round =>
    obtain ⟨k, hk, hkn, rfl⟩ := hrel; have HK := hid hkn; clear hkn; have HU := hu.mono hk; have hz : ∀ a0, a = a0 → a0 = none → k = 0 ∧ c = 0 := by rintro _ rfl rfl; exact HU.none
    by_cases h0 : 0 < k ∧ f (k - 1) = 0
    · obtain ⟨hk0, hf0⟩ := h0; obtain ⟨j, rfl⟩ : ∃ j, k = j + 1 := ⟨k - 1, by omega⟩; simp at hf0; obtain ⟨b, off, rfl, hcell⟩ := hu.cell j (by omega); rw [hf0] at hcell; have hjc : j + 1 ≤ c := by omega
      have hc0 : ¬ c = 0 := by omega
      have HF := hid hf0; clear hf0 hz
      go_wp2
      refine ⟨⟨j, by omega, ?_, rfl⟩, by simp [lenV]⟩; rw [← HK.out]
      conv => rhs; unfold nrm
      rw [if_pos HF.out]
    · have hnm : nrm f n = k := by
        rw [← HK.out]; cases k with
        | zero => rfl
        | succ j => unfold nrm; rw [if_neg (by simpa using h0)]
      have HN := hid hnm; clear hnm
      rcases hk1 : k with _ | j
      · subst hk1; clear h0
        go_wp2_with (go_at_call 156; refine (clone_any _ _ _ _ _ (by omega) HU (by intro h; exact hz _ rfl h)).mono ?_; rintro e w' ⟨a', c', h, rfl, h1, h2, h3, h4⟩)
        go_ret; refine ⟨_, _, _, _, rfl, h1, h2, h3, .inl rfl, ?_, by omega⟩; rw [← val_nrm f n, HN.out]; rfl
      · subst hk1; have hfj : ¬ f j = 0 := by simpa using h0
        have hfi : ¬ (f j : Int) = 0 := by omega
        obtain ⟨b, off, rfl, hcell⟩ := hu.cell j (by omega); clear h0
        go_wp2_with (go_at_call 156; refine (clone_any _ _ _ _ _ (by omega) HU (by intro h; cases h)).mono ?_; rintro e w' ⟨a', c', h, rfl, h1, h2, h3, h4⟩)
        go_ret; refine ⟨_, _, _, _, rfl, h1, h2, h3, Nm.congr (f := f) (.inr (by simpa using hfj)) h4, ?_, by omega⟩; rw [val_congr h4, ← HN.out, val_nrm]
theorem Us.apart {w : World} {a : Option Addr} {n c base : Nat} {h : Nat → Nat} (k : Us w a n c h) (u : New w base a c) {p : Addr} (hp : p.block < base) (x : Value) : Us (w.setCell p x) a n c h :=
  ⟨k.le, k.mx, k.lm, fun i hi => by
    obtain ⟨b, off, e, h1, _⟩ := u i hi; subst e
    exact ⟨b, off, rfl, by rw [World.cell?_setCell_other _ _ _ _ (by intro h; subst h; simp at hp; omega)]; exact k.cs i hi⟩⟩
theorem new2 {w w1 : World} {v0 v1 : Value} {T : TypeId} (hb : Below (w.alloc (.cells #[v0, v1] T)).heap.size (w.alloc (.cells #[v0, v1] T)) w1) :
    w1.cell? ⟨w.heap.size, 0, none⟩ = some v0 ∧ w1.cell? ⟨w.heap.size, 1, none⟩ = some v1 ∧ w1.frozen? ⟨w.heap.size, 0, none⟩ = false ∧ w1.frozen? ⟨w.heap.size, 1, none⟩ = false ∧ w.heap.size < w1.heap.size := by
  have hlt : w.heap.size < (w.alloc (.cells #[v0, v1] T)).heap.size := by simp
  refine ⟨?_, ?_, ?_, ?_, Nat.lt_of_lt_of_le hlt hb.size⟩
  · rw [hb.cell (p := ⟨w.heap.size, 0, none⟩) hlt, World.cell?_alloc_new]; rfl
  · rw [hb.cell (p := ⟨w.heap.size, 1, none⟩) hlt, World.cell?_alloc_new]; rfl
  · rw [hb.frozen (p := ⟨w.heap.size, 0, none⟩) hlt, World.frozen?_alloc_new]
  · rw [hb.frozen (p := ⟨w.heap.size, 1, none⟩) hlt, World.frozen?_alloc_new]
theorem made_any (neg : Bool) (a : Option Addr) (n c : Nat) (f : Nat → Nat) (w : World) (hn : n ≤ 4398046511104) (hu : Us w a n c f) :
    Calls Tryz.prog 124 #[.bool neg, .slice a n c] w fun e w' => ResI w w' (ival neg (val f n)) n e := by
  cases neg
  all_goals
    go_enter Tryz.func124, Tryz.ntmps124
    go_wp2_with (go_at_call 123; refine (trim_any _ _ _ _ _ (by omega) (hu.alloc _)).mono ?_; rintro e w1 ⟨a', n', c', h, rfl, k1, k2, k3, k4, k5, k6⟩; obtain ⟨r0, r1, r2, r3, r4⟩ := new2 k3; have K5 := hid k5; clear k5)
    have k2' : New w1 (w.heap.size + 1) a' c' := k2.mono (by simp); have k3' : Below w.heap.size w w1 := (below_alloc w _).trans (k3.mono (by simp)); refine bodyPost_ret (by simp [results, Tryz.results124, go_sem, r0, r1]; rfl) rfl ⟨_, a', n', c', h, rfl, (k1.apart k2' (by simp) _).apart (k2'.set _ _) (by simp) _, ((k2'.set _ _).set _ _).mono (by omega), (k3'.setCell (by simp) _).setCell (by simp) _, k4, ?_, ?_, k6⟩
  · intro _; rfl
  · rw [K5.out]
  · intro e; subst e; rfl
  · rw [← K5.out]
    by_cases e : 0 < n'
    · simp [e]
    · have : n' = 0 := by omega
      subst this; simp [ival, val]
/-! Ints2 -/
theorem bcell {W w1 : World} (hb : Below W.heap.size W w1) : (∀ b o, b < W.heap.size → w1.cell? ⟨b, o, none⟩ = W.cell? ⟨b, o, none⟩) ∧ (∀ b o, b < W.heap.size → w1.frozen? ⟨b, o, none⟩ = W.frozen? ⟨b, o, none⟩) :=
  ⟨fun b o h => hb.cell (p := ⟨b, o, none⟩) h, fun b o h => hb.frozen (p := ⟨b, o, none⟩) h⟩
theorem ResI.out {w w2 w3 : World} {z z' : Int} {L L' q n c : Nat} {sg : Bool} {a : Option Addr} {f : Nat → Nat} (k1 : Us w3 a n c f) (k2 : New w3 w2.heap.size a c) (k3 : Below w2.heap.size w2 w3) (k4 : Nm f n) (k5 : n = 0 → sg = false) (k6 : ival sg (val f n) = z') (k7 : n ≤ L')
    (hB : Below w.heap.size w w2) (h1 : w.heap.size ≤ q) (h2 : q < w2.heap.size) (hz : z' = z) (hl : L' ≤ L) (x y : Value) : ResI w ((w3.setCell ⟨q, 0, none⟩ x).setCell ⟨q, 1, none⟩ y) z L (.returned (.agg #[.bool sg, .slice a n c])) :=
  ⟨sg, a, n, c, f, rfl, (k1.apart k2 h2 _).apart (k2.set _ _) h2 _, ((k2.set _ _).set _ _).mono (by omega), ((hB.trans (k3.mono (by omega))).setCell h1 _).setCell h1 _, k4, k5, k6.trans hz, by omega⟩
theorem below_alloc2 (w : World) (o o' : Obj) : Below w.heap.size w ((w.alloc o).alloc o') := ((Below.refl _ _).alloc (Nat.le_refl _) _).alloc (by simp) _
theorem ival_not (b : Bool) (x : Nat) : ival (!b) x = -ival b x := by cases b <;> simp [ival]
theorem neg_any (neg : Bool) (a : Option Addr) (n c : Nat) (f : Nat → Nat) (w : World) (hn : n ≤ 4398046511104) (hu : Us w a n c f) :
    Calls Tryz.prog 88 #[.agg #[.bool neg, .slice a n c]] w fun e w' => ResI w w' (-ival neg (val f n)) n e := by
  go_enter Tryz.func88, Tryz.ntmps88
  go_wp2_with (go_at_call 124; refine (made_any _ _ _ _ _ _ (by omega) ((hu.alloc _).alloc _)).mono ?_; rintro e w1 ⟨sgx, ax, nx, cx, fx, rfl, kx1, kx2, kx3, kx4, kx5, kx6, kx7⟩; obtain ⟨hcx, hfx⟩ := bcell kx3; have hzx0 : w.heap.size < w1.heap.size := Nat.lt_of_lt_of_le (by first | (simp; done) | (simp; omega) | omega) kx3.size; have hzx1 : w.heap.size + 1 < w1.heap.size := Nat.lt_of_lt_of_le (by first | (simp; done) | (simp; omega) | omega) kx3.size; have Kx6 := hid kx6; have Kx5 := hid kx5; clear kx6 kx5)
  exact bodyPost_ret (by simp [results, Tryz.results88, go_sem, hcx]) rfl (ResI.out kx1 kx2 kx3 kx4 Kx5.out Kx6.out kx7 (below_alloc2 w _ _) (by simp) (by simp) (ival_not _ _) (Nat.le_refl _) _ _)
/-! Ints3 -/
/-! Ints4 -/
/-! Ints5 -/
/-! Texts -/
def prs (l : List UInt8) : Option Int :=
  if l.head? = some 126 then (if isNum l.tail = true ∧ rdr 0 l.tail ≠ 0 then some (-(rdr 0 l.tail : Int)) else none)
  else if isNum l = true then some (rdr 0 l : Int) else none
theorem pre_cons (d : List UInt8) : Lib.trimPrefix (126 :: d) [126] = d ∧ Lib.hasPrefix (126 :: d) [126] = true := by
  have h : Lib.hasPrefix (126 :: d) [126] = true := by simp [Lib.hasPrefix, List.isPrefixOf]
  refine ⟨?_, h⟩; unfold Lib.trimPrefix; rw [if_pos h]; rfl
theorem pre_else (l : List UInt8) (hl : l.head? ≠ some 126) : Lib.trimPrefix l [126] = l ∧ Lib.hasPrefix l [126] = false := by
  have h : Lib.hasPrefix l [126] = false := by
    rcases l with _ | ⟨c, l⟩
    · rfl
    · simp at hl; simp [Lib.hasPrefix, List.isPrefixOf]; exact fun e => hl e.symm
  refine ⟨?_, h⟩; unfold Lib.trimPrefix; rw [if_neg (by rw [h]; decide)]
def ResP (w w' : World) (z : Int) (L : Nat) (e : Ending) : Prop :=
  ∃ sg a n c f, e = .returned (.tuple #[.agg #[.bool sg, .slice a n c], .int .i64 0]) ∧ Us w' a n c f ∧ New w' w.heap.size a c ∧ Below w.heap.size w w' ∧ Nm f n ∧ (n = 0 → sg = false) ∧ ival sg (val f n) = z ∧ n ≤ L
theorem ResP.out {w w2 w3 : World} {z z' : Int} {L L' q n c : Nat} {sg : Bool} {a : Option Addr} {f : Nat → Nat} (k1 : Us w3 a n c f) (k2 : New w3 w2.heap.size a c) (k3 : Below w2.heap.size w2 w3) (k4 : Nm f n) (k5 : n = 0 → sg = false) (k6 : ival sg (val f n) = z') (k7 : n ≤ L')
    (hB : Below w.heap.size w w2) (h1 : w.heap.size ≤ q) (h2 : q < w2.heap.size) (hz : z' = z) (hl : L' ≤ L) (x y : Value) : ResP w ((w3.setCell ⟨q, 0, none⟩ x).setCell ⟨q, 1, none⟩ y) z L (.returned (.tuple #[.agg #[.bool sg, .slice a n c], .int .i64 0])) :=
  ⟨sg, a, n, c, f, rfl, (k1.apart k2 h2 _).apart (k2.set _ _) h2 _, ((k2.set _ _).set _ _).mono (by omega), ((hB.trans (k3.mono (by omega))).setCell h1 _).setCell h1 _, k4, k5, k6.trans hz, by omega⟩
theorem parse_num (pre : Bool) (l d : List UInt8) (w : World) (hl : l.length ≤ 274877906944) (hl2 : d.length ≤ l.length) (h1 : Lib.trimPrefix l [126] = d) (h2 : Lib.hasPrefix l [126] = pre) (hd : isNum d = true) (h0 : pre = true → rdr 0 d ≠ 0) :
    Calls Tryz.prog 87 #[.string ⟨l.toArray⟩] w fun e w' => ResP w w' (ival pre (rdr 0 d)) l.length e := by
  have H1 := hid h1; have H2 := hid h2; have H0 := hid h0; clear h1 h2 h0; cases pre
  · go_enter Tryz.func87, Tryz.ntmps87
    go_wp2_with (first | (go_at_call 85; refine (Tryz.strings_CutPrefix ⟨l.toArray⟩ ⟨#[126]⟩ _).mono ?_; rintro e w' ⟨rfl, rfl⟩; rw [show (⟨l.toArray⟩ : ByteArray).data.toList = l from rfl, show (⟨#[126]⟩ : ByteArray).data.toList = [126] from rfl, H1.out, H2.out]) | (go_at_call 122; refine (natParse_good _ _ (by omega) hd).mono ?_; rintro e w1 ⟨ap, np, cp, hp, rfl, k1, k2, k3, k4, k5⟩; obtain ⟨r0, r1, r2, r3, r4⟩ := new2 k3) | (go_at_call 124; refine (made_any _ _ _ _ _ _ (by omega) k1).mono ?_; rintro e w2 ⟨sgx, ax, nx, cx, fx, rfl, x1, x2, x3, x4, x5, x6, x7⟩; obtain ⟨hcx, hfx⟩ := bcell x3; have X6 := hid x6; have X5 := hid x5; clear x6 x5))
    have hB : Below w.heap.size w w1 := (below_alloc w _).trans (k3.mono (by simp)); exact bodyPost_ret (by simp [results, Tryz.results87, go_sem, hcx, r0, r1, r4]) rfl (ResP.out x1 x2 x3 x4 X5.out X6.out x7 hB (Nat.le_refl _) r4 (by rw [k4.out]) (by omega) _ _)
  · have H00 := hid (H0.out rfl); clear H0; go_enter Tryz.func87, Tryz.ntmps87
    go_wp2_with (first | (go_at_call 85; refine (Tryz.strings_CutPrefix ⟨l.toArray⟩ ⟨#[126]⟩ _).mono ?_; rintro e w' ⟨rfl, rfl⟩; rw [show (⟨l.toArray⟩ : ByteArray).data.toList = l from rfl, show (⟨#[126]⟩ : ByteArray).data.toList = [126] from rfl, H1.out, H2.out]) | (go_at_call 122; refine (natParse_good _ _ (by omega) hd).mono ?_; rintro e w1 ⟨ap, np, cp, hp, rfl, k1, k2, k3, k4, k5⟩; obtain ⟨r0, r1, r2, r3, r4⟩ := new2 k3) | (go_at_call 123; refine (trim_any _ _ _ _ _ (by omega) k1).mono ?_; rintro e w2 ⟨at', nt, ct, ft, rfl, t1, t2, t3, t4, t5, t6⟩; have T5 := hid t5; clear t5; obtain ⟨hct, hft⟩ := bcell t3; have hz2 : w.heap.size < w2.heap.size := Nat.lt_of_lt_of_le r4 t3.size; have hne : ¬ (nt : Int) = 0 := (by intro e0; have e1 : nt = 0 := (by omega); have e2 := T5.out; rw [t4.zero.2 e1, k4.out] at e2; exact H00.out e2.symm)) | (go_at_call 124; refine (made_any _ _ _ _ _ _ (by omega) (k1.below t3 (Nat.le_refl _))).mono ?_; rintro e w3 ⟨sgx, ax, nx, cx, fx, rfl, x1, x2, x3, x4, x5, x6, x7⟩; obtain ⟨hcx, hfx⟩ := bcell x3; have X6 := hid x6; have X5 := hid x5; clear x6 x5))
    have hB : Below w.heap.size w w1 := (below_alloc w _).trans (k3.mono (by simp)); have hB2 : Below w.heap.size w w2 := hB.trans (t3.mono hB.size); exact bodyPost_ret (by simp [results, Tryz.results87, go_sem, hcx, hct, r0, r1, r4, hz2]) rfl (ResP.out x1 x2 x3 x4 X5.out X6.out x7 hB2 (Nat.le_refl _) hz2 (by rw [k4.out]) (by omega) _ _)
theorem parse_good (l : List UInt8) (w : World) (z : Int) (hl : l.length ≤ 274877906944) (h : prs l = some z) :
    Calls Tryz.prog 87 #[.string ⟨l.toArray⟩] w fun e w' => ResP w w' z l.length e := by
  unfold prs at h
  split at h
  · rename_i hh
    split at h
    · rename_i hq
      rcases l with _ | ⟨c, d⟩
      · cases hh
      · simp only [List.head?_cons, Option.some.injEq] at hh; subst hh; simp only [List.tail_cons] at hq h; obtain ⟨p1, p2⟩ := pre_cons d; have := parse_num true (126 :: d) d w hl (by simp) p1 p2 hq.1 (fun _ => hq.2); simp only [Option.some.injEq] at h; rw [← h]; exact this
    · cases h
  · rename_i hh
    split at h
    · rename_i hq; obtain ⟨p1, p2⟩ := pre_else l hh; have := parse_num false l l w hl (Nat.le_refl _) p1 p2 hq (fun e => by cases e); simp only [Option.some.injEq] at h; rw [← h]; exact this
    · cases h
/-! TextsB -/
/-! DivMod -/
structure Bx (wx : World) (b : Nat) (x0 x1 : Value) : Prop where
  lt : b < wx.heap.size
  c0 : wx.cell? ⟨b, 0, none⟩ = some x0
  c1 : wx.cell? ⟨b, 1, none⟩ = some x1
  fr : ∀ o, wx.frozen? ⟨b, o, none⟩ = false
theorem Bx.keep {wx wy : World} {b : Nat} {x0 x1 : Value} (k : Bx wx b x0 x1) (hb : Below wx.heap.size wx wy) : Bx wy b x0 x1 :=
  ⟨Nat.lt_of_lt_of_le k.lt hb.size, (hb.cell (p := ⟨b, 0, none⟩) k.lt).trans k.c0, (hb.cell (p := ⟨b, 1, none⟩) k.lt).trans k.c1, fun o => (hb.frozen (p := ⟨b, o, none⟩) k.lt).trans (k.fr o)⟩
theorem Bx.made (w : World) (x0 x1 : Value) (T : TypeId) : Bx (w.alloc (.cells #[x0, x1] T)) w.heap.size x0 x1 :=
  ⟨by simp, by simp [go_sem], by simp [go_sem], fun o => by simp [go_sem]⟩
theorem New.drew {w : World} {base : Nat} {a : Option Addr} {c : Nat} (k : New w base a c) : New w.drew base a c := k
/-! RCmp -/
/-! RDiv -/
/-! RInts1 -/
/-! RInts3 -/
/-! RParse -/
/-! RTexts -/
/-! LTexts -/
/-! RMod -/
theorem us_kind {w : World} {a : Option Addr} {n c : Nat} {h : Nat → Nat} (k : Us w a n c h) {p : Addr} {v : Value} (hp : w.cell? p = some v) (hv : ∀ x, v ≠ .int .u32 x) (y : Value) : Us (w.setCell p y) a n c h :=
  ⟨k.le, k.mx, k.lm, fun i hi => by
    obtain ⟨b, off, e, hc⟩ := k.cell i hi
    exact ⟨b, off, e, by rw [World.cell?_setCell_other _ _ _ _ (by intro h; subst h; rw [hc] at hp; exact hv _ (Option.some.inj hp).symm)]; exact hc⟩⟩
/-! Lent -/
/-! Lent2 -/
theorem bx_below {wx wy : World} {b B : Nat} {x0 x1 : Value} (k : Bx wx b x0 x1) (hb : Below B wx wy) (h : b < B) : Bx wy b x0 x1 :=
  ⟨Nat.lt_of_lt_of_le k.lt hb.size, (hb.cell (p := ⟨b, 0, none⟩) h).trans k.c0, (hb.cell (p := ⟨b, 1, none⟩) h).trans k.c1, fun o => (hb.frozen (p := ⟨b, o, none⟩) h).trans (k.fr o)⟩
/-! Draw -/
structure ArrS (w : World) (a : Option Addr) (n c s : Nat) (h : Nat → Value) : Prop where
  le : n ≤ c
  mx : c ≤ maxLen
  cell : ∀ j, j < c * s → ∃ b off, a = some ⟨b, off, none⟩ ∧ w.cell? ⟨b, off + j, none⟩ = some (h j)
structure Kp (w w' : World) (a : Option Addr) (lo hi : Nat) : Prop where
  size : w.heap.size ≤ w'.heap.size
  cell : ∀ p : Addr, p.block < w.heap.size → (∀ b off, a = some ⟨b, off, none⟩ → ¬ (p.block = b ∧ p.spot = none ∧ off + lo ≤ p.off ∧ p.off < off + hi)) → w'.cell? p = w.cell? p
  frozen : ∀ p : Addr, p.block < w.heap.size → w'.frozen? p = w.frozen? p
theorem ArrS.addr {w : World} {a : Option Addr} {n c s : Nat} {h : Nat → Value} (k : ArrS w a n c s h) (hc : 0 < c * s) : ∃ b off, a = some ⟨b, off, none⟩ ∧ ∀ j, j < c * s → w.cell? ⟨b, off + j, none⟩ = some (h j) := by
  obtain ⟨b, off, e, _⟩ := k.cell 0 hc; refine ⟨b, off, e, fun j hj => ?_⟩; obtain ⟨b', off', e', h'⟩ := k.cell j hj; rw [e] at e'; simp only [Option.some.injEq, Addr.mk.injEq, and_true] at e'; obtain ⟨rfl, rfl⟩ := e'; exact h'
def catS (h : Nat → Value) (m s : Nat) (g r : Nat → Value) : Nat → Value := fun j => if j < m then h j else if j < m + s then g (j - m) else r j
def zcS (z : Value) : Nat → Value := fun j => z.cells[j % z.cells.size]!
section
variable {P : Program}
theorem firstS {w : World} {a : Option Addr} {n c s : Nat} {h : Nat → Value} (k : ArrS w a n c s h) : (Builtin.firstCells s n (.slice a n c)).run P w = .ok ((List.range (n * s)).map h).toArray w := by
  by_cases hn : n * s = 0
  · rw [hn]; cases a with
    | none => rw [run_firstCells_none]; rfl
    | some ad => exact run_firstCells_some w s n ad n c _ (by simp [hn]) (fun j v e => by simp at e)
  · have := k.le; have hle : n * s ≤ c * s := Nat.mul_le_mul_right _ k.le; obtain ⟨b, off, rfl, hc⟩ := k.addr (by omega); refine run_firstCells_some w s n _ n c _ (by simp) (fun j v e => ?_); obtain ⟨hj, rfl⟩ := lst_get _ _ _ _ e; rw [Addr.add_lit]; exact hc j (by omega)
theorem run_append_one (w : World) (t tx ty e e' : TypeId) (z : Value) (s bytes : Nat) (ht : P.underlying t = some (.slice e)) (htx : P.underlying tx = some (.slice e'))
    (hi : (P.info? e).map (fun i => (i.zero, i.size, i.bytes)) = some (some z, s, bytes)) (hz : z.cells.size = s) (hs0 : 0 < s) (base : Nat) (hbase : base ≤ w.heap.size)
    (a : Option Addr) (n c : Nat) (h g : Nat → Value) (xb xo d : Nat) (A : ArrS w a n c s h) (N : New w base a (c * s)) (hg : ∀ j, j < s → w.cell? ⟨xb, xo + j, none⟩ = some (g j)) (one : ∀ j, j < s → (g j).oneCell' = true)
    (hlen : (n + 1) * (2 * bytes) ≤ 281474976710656) (h63 : n + 1 ≤ 140737488355328) :
    ∃ a' c' r w', (Builtin.append_ #[t, tx] ty #[.slice a n c, .slice (some ⟨xb, xo, none⟩) 1 d]).run P w = .ok (.slice a' (n + 1) c') w' ∧ (r = h ∧ a' = a ∧ c' = c ∨ r = zcS z ∧ a' = some ⟨w.heap.size, 0, none⟩ ∧ w.heap.size < w'.heap.size ∧ ∀ p : Addr, p.block < w.heap.size → w'.cell? p = w.cell? p) ∧
      ArrS w' a' (n + 1) c' s (catS h (n * s) s g r) ∧ New w' base a' (c' * s) ∧ Below base w w' ∧ Kp w w' a (n * s) ((n + 1) * s) := by
  obtain ⟨i, hi0, hiz, his, hib⟩ := info_parts hi; have hxb : xb < w.heap.size := World.block_lt_of_cell? w _ (hg 0 hs0)
  have src : Src P i.size tx (.slice (some ⟨xb, xo, none⟩) 1 d) 1 ((List.range s).map g) w := by
    rw [his]; refine ⟨.inl ⟨e', htx⟩, fun _ => rfl, ?_, ?_, by simp, fun u hu => ?_⟩
    · refine run_firstCells_some w s 1 _ 1 d _ (by simp) (fun j v e => ?_); obtain ⟨hj, rfl⟩ := lst_get _ _ _ _ e; rw [Addr.add_lit]; exact hg j hj
    · refine run_firstCells_some w.drew s 1 _ 1 d _ (by simp) (fun j v e => ?_); obtain ⟨hj, rfl⟩ := lst_get _ _ _ _ e; rw [Addr.add_lit]; exact hg j hj
    · obtain ⟨j, hj, rfl⟩ := List.mem_map.1 hu; exact one j (by simpa using hj)
  by_cases hroom : n + 1 ≤ c
  · have hms : (n + 1) * s ≤ c * s := Nat.mul_le_mul_right _ hroom; have hn1 : (n + 1) * s = n * s + s := Nat.succ_mul n s; obtain ⟨b, off, rfl, hc⟩ := A.addr (by omega)
    have hrun := run_append_room_src (P := P) w t tx ty e i ht hi0 b off n c (.slice (some ⟨xb, xo, none⟩) 1 d) 1 ((List.range s).map g) src hroom
      (fun j hj => by rw [his, Nat.add_assoc, hc (n * s + j) (by simp at hj; omega)]; rfl)
      (fun j hj => by
        obtain ⟨b', off', e', _, hf⟩ := N (n * s + j) (by simp at hj; omega); simp only [Option.some.injEq, Addr.mk.injEq, and_true] at e'; obtain ⟨rfl, rfl⟩ := e'
        rw [his, Nat.add_assoc]; exact hf)
    rw [his] at hrun; obtain ⟨b', off', e', hb, _⟩ := N 0 (by omega); simp only [Option.some.injEq, Addr.mk.injEq, and_true] at e'; obtain ⟨rfl, rfl⟩ := e'; refine ⟨_, _, h, _, hrun, .inl ⟨rfl, rfl, rfl⟩, ⟨hroom, A.mx, fun j hj => ⟨b, off, rfl, ?_⟩⟩, fun j hj => ?_, setCells_below b hb _ _ _, ⟨?_, fun p hp hn => ?_, fun p hp => World.frozen?_setCells ..⟩⟩
    · unfold catS
      split
      · rw [World.cell?_setCells_out _ _ _ _ _ (fun _ _ => .inl (by simp; omega))]; exact hc j hj
      · split
        · have := World.cell?_setCells_in b ((List.range s).map g) (off + n * s) w (fun k hk => by rw [Nat.add_assoc, hc (n * s + k) (by simp at hk; omega)]; rfl) (j - n * s) (by simp; omega); rw [show off + n * s + (j - n * s) = off + j by omega] at this; rw [this]; simp
        · rw [World.cell?_setCells_out _ _ _ _ _ (fun _ _ => .inr (by simp; omega))]; exact hc j hj
    · obtain ⟨b', off', e', h1, h2⟩ := N j hj; exact ⟨b', off', e', h1, by rw [World.frozen?_setCells]; exact h2⟩
    · exact (setCells_below b (Nat.le_refl b) _ _ _).size
    · refine World.cell?_setCells_out _ _ _ _ _ (fun h1 h2 => ?_); have h3 := hn b off rfl; simp only [List.length_map, List.length_range]
      by_cases q : p.off < off + n * s
      · exact .inl q
      · exact .inr (by
          by_cases q2 : p.off < off + (n + 1) * s
          · exact absurd ⟨h1, h2, by omega, q2⟩ h3
          · omega)
  · have hn1 : (n + 1) * s = n * s + s := Nat.succ_mul n s
    have hrun := run_append_grow_src (P := P) w t tx ty e i z ht hi0 hiz a n c ((List.range (n * s)).map h) (by rw [his]; exact firstS (w := w.drew) ⟨A.le, A.mx, fun i hi => by simpa using A.cell i hi⟩) (.slice (some ⟨xb, xo, none⟩) 1 d) 1 ((List.range s).map g) src (by omega)
      (by omega) (by
        have h1 := nextslicecap_le (show c < n + 1 by omega); have h2 : Builtin.nextslicecap (n + 1) c * i.bytes ≤ 2 * (n + 1) * i.bytes := Nat.mul_le_mul_right _ h1; have h3 : 2 * (n + 1) * i.bytes = (n + 1) * (2 * bytes) := by rw [hib, Nat.mul_comm 2, Nat.mul_assoc]
        omega)
    have hge := grownCap_ge w (n + 1) c e; have hle := grownCap_le_maxLen w (n + 1) c e (by unfold maxLen; omega)
    have hcell : ∀ j, j < grownCap w (n + 1) c e * s → (((List.range (n * s)).map h ++ (List.range s).map g).toArray ++ Builtin.zeroCells z.cells (grownCap w (n + 1) c e - (n + 1)))[j]? = some (catS h (n * s) s g (zcS z) j) := by
      intro j hj; unfold catS; rw [Array.getElem?_append]
      split
      · rename_i h1; simp at h1; simp only [List.getElem?_toArray, List.getElem?_append, List.length_map, List.length_range]
        split
        · simp [*]
        · rename_i h2; simp [show j - n * s < s by omega]
      · rename_i h1; simp at h1; rw [if_neg (by omega), if_neg (by omega)]; have hsub : (grownCap w (n + 1) c e - (n + 1)) * s = grownCap w (n + 1) c e * s - (n + 1) * s := Nat.sub_mul ..; unfold Builtin.zeroCells zcS; have hlt : j - (n * s + s) < (grownCap w (n + 1) c e - (n + 1)) * z.cells.size := by rw [hz, hsub]; omega
        simp only [List.length_append, List.length_map, List.length_range, List.size_toArray]; rw [Array.getElem?_map, Array.getElem?_range]; rw [if_pos hlt]; simp only [Option.map_some]
        congr 1
        rw [hz]
        have : (j - (n * s + s)) % s = j % s := by
          have e1 : j = (j - (n * s + s)) + s * (n + 1) := by rw [Nat.mul_comm s, hn1]; omega
          conv => rhs; rw [e1]
          rw [Nat.add_mul_mod_self_left]
        rw [this]
    refine ⟨_, _, zcS z, _, hrun, .inr ⟨rfl, rfl, by simp, fun p hp => (((Below.refl w.heap.size w).drew).alloc (Nat.le_refl _) _).cell hp⟩, ⟨hge, hle, fun j hj => ⟨w.heap.size, 0, rfl, ?_⟩⟩, fun j hj => ⟨w.heap.size, 0, rfl, hbase, ?_⟩, ((Below.refl _ _).drew).alloc hbase _, ⟨by simp, fun p hp _ => ?_, fun p hp => ?_⟩⟩
    · rw [Nat.zero_add]; have := World.cell?_alloc_new w.drew (((List.range (n * s)).map h ++ (List.range s).map g).toArray ++ Builtin.zeroCells z.cells (grownCap w (n + 1) c e - (n + 1))) e j; exact this.trans (hcell j hj)
    · exact World.frozen?_alloc_new w.drew _ _ _
    · exact (((Below.refl w.heap.size w).drew).alloc (Nat.le_refl _) _).cell hp
    · exact (((Below.refl w.heap.size w).drew).alloc (Nat.le_refl _) _).frozen hp
theorem oper_append_one {o : Oper} {K : Act → World → Prop} {act : Act} {Q : Exit → Act → World → Prop} (w : World) (D : Option Tmp) (hD : o.dst = D) (sl x : Operand) (t tx : TypeId)
    (ho : o.op = .call { callee := .builtin .append, args := #[sl, x], argTypes := #[t, tx] })
    (e e' : TypeId) (z : Value) (s bytes : Nat) (ht : P.underlying t = some (.slice e)) (htx : P.underlying tx = some (.slice e'))
    (hi : (P.info? e).map (fun i => (i.zero, i.size, i.bytes)) = some (some z, s, bytes)) (hz : z.cells.size = s) (hs0 : 0 < s) (base : Nat) (hbase : base ≤ w.heap.size)
    (a : Option Addr) (n c : Nat) (h g : Nat → Value) (xb xo d : Nat) (hs : act.eval sl = .slice a n c) (hx : act.eval x = .slice (some ⟨xb, xo, none⟩) 1 d) (A : ArrS w a n c s h) (N : New w base a (c * s)) (hg : ∀ j, j < s → w.cell? ⟨xb, xo + j, none⟩ = some (g j)) (one : ∀ j, j < s → (g j).oneCell' = true)
    (hlen : (n + 1) * (2 * bytes) ≤ 281474976710656) (h63 : n + 1 ≤ 140737488355328)
    (hK : ∀ a' c' r w', (r = h ∧ a' = a ∧ c' = c ∨ r = zcS z ∧ a' = some ⟨w.heap.size, 0, none⟩ ∧ w.heap.size < w'.heap.size ∧ ∀ p : Addr, p.block < w.heap.size → w'.cell? p = w.cell? p) → ArrS w' a' (n + 1) c' s (catS h (n * s) s g r) → New w' base a' (c' * s) → Below base w w' → Kp w w' a (n * s) ((n + 1) * s) → K (act.put D (.slice a' (n + 1) c')) w') :
    Oper.wp P o act w K Q := by
  subst hD; obtain ⟨a', c', r, w', hrun, h1, h2, h3, h4, h5⟩ := run_append_one (P := P) w t tx o.type e e' z s bytes ht htx hi hz hs0 base hbase a n c h g xb xo d A N hg one hlen h63; unfold Oper.wp; simp [execOp, ho, resolve, invoke, builtin, hs, hx, hrun, Result.andThen]; exact hK a' c' r w' h1 h2 h3 h4 h5
end
def bt (s : ByteArray) (i : Nat) : Nat := (s.data.toList[i]?.getD 0).toNat
theorem bt_get {s : ByteArray} {i : Nat} (h : i < s.size) : s[i].toNat = bt s i := by
  have h2 : i < s.data.toList.length := by rw [← Lib.size_eq]; exact h
  unfold bt; rw [List.getElem?_eq_getElem h2]
  rfl
theorem bt_out {s : ByteArray} {i : Nat} (h : s.size ≤ i) : bt s i = 0 := by
  have h2 : s.data.toList.length ≤ i := by rw [← Lib.size_eq]; exact h
  unfold bt; rw [List.getElem?_eq_none h2]
  rfl
theorem bt_lt (s : ByteArray) (i : Nat) : bt s i < 256 := UInt8.toNat_lt _
theorem run_bt {t : TypeId} {w : World} {s : ByteArray} {k : IntKind} {z : Int} {i : Nat} (ht : Tryz.prog.underlying t = some .string) (h : i < s.size) (hz : z = (i : Int)) :
    (Instr.index t (.string s) (.int k z)).run Tryz.prog w = .ok (.int .u8 (bt s i : Nat)) w := by
  subst hz; rw [run_index_string w t s k _ ht, dif_pos ⟨by omega, by omega⟩]; have e : ((i : Int)).toNat = i := by simp
  simp only [e, bt_get h]
structure Sc (wx : World) (b : Nat) (s : ByteArray) (p : Nat) (la : Option Addr) (ln lc : Nat) (code mat : Int) : Prop where
  lt : b < wx.heap.size
  c0 : wx.cell? ⟨b, 0, none⟩ = some (.string s)
  c1 : wx.cell? ⟨b, 1, none⟩ = some (.int .i64 (p : Nat))
  c2 : wx.cell? ⟨b, 2, none⟩ = some (.slice la ln lc)
  c3 : wx.cell? ⟨b, 3, none⟩ = some (.int .i64 code)
  c4 : wx.cell? ⟨b, 4, none⟩ = some (.int .i64 mat)
  fr : ∀ o, wx.frozen? ⟨b, o, none⟩ = false
theorem peek_any (b : Nat) (s : ByteArray) (p n : Nat) (la : Option Addr) (ln lc : Nat) (code mat : Int) (w : World) (hp : p ≤ 1099511627776) (hn : n ≤ 1099511627776) (hs : s.size ≤ 1099511627776) (h : Sc w b s p la ln lc code mat) :
    Calls Tryz.prog 47 #[.pointer (some ⟨b, 0, none⟩), .int .i64 (n : Nat)] w fun e w' => e = .returned (.int .u8 (bt s (p + n) : Nat)) ∧ ∃ q, w' = w.drewN q := by
  obtain ⟨_, c0, c1, _, _, _, _⟩ := h; go_enter Tryz.func47, Tryz.ntmps47
  go_wp2
  by_cases hc : p + n < s.size
  · go_region
    go_wp2
    have hwr : IntKind.i64.wrap ((p : Int) + (n : Int)) = (p : Int) + (n : Int) := IntWalk.i64_in _ (by omega); have hix : ∀ w, (Instr.index 9 (.string s) (.int .i64 ((p : Int) + (n : Int)))).run Tryz.prog w = .ok (.int .u8 (bt s (p + n) : Nat)) w := fun w => run_bt Tryz.underlying9 hc rfl
    go_region
    go_wp2
    go_ret; exact ⟨rfl, 2, rfl⟩
  · go_region
    go_wp2
    go_ret; refine ⟨?_, 1, rfl⟩; rw [bt_out (by omega)]
    rfl
end Go.Proofs.YtkblonfmjlopaaaGreatDoor
