/-
  The reference's Reserved, walked.
-/
import Derived.Test.YtajpeeccomgnnaaGreatDoorLxRes
namespace Go.Proofs.YtajpeeccomgnnaaGreatDoor
set_option linter.all false
open Go Go.RowKit

set_option maxHeartbeats 8000000 in
set_option maxRecDepth 100000 in
theorem rreserved_any (l : List UInt8) (w : World) :
    Calls Tryz.prog 12 #[.string ⟨l.toArray⟩] w fun e w' => e = .returned (.bool (rsv l)) ∧ w' = w := by
  rcases h0 : (l == [97, 110, 100]) with _ | _
  rotate_left 1
  · have HV : Hid (rsv l = true) := hid (by rw [beq_iff_eq] at h0; subst h0; decide)
    go_enter Tryz.func12, Tryz.ntmps12
    go_wp2
    go_ret
    exact ⟨by rw [HV.out]; rfl, rfl⟩
  rcases h1 : (l == [97, 110, 100, 97, 108, 115, 111]) with _ | _
  rotate_left 1
  · have HV : Hid (rsv l = true) := hid (by rw [beq_iff_eq] at h1; subst h1; decide)
    go_enter Tryz.func12, Tryz.ntmps12
    go_wp2
    go_ret
    exact ⟨by rw [HV.out]; rfl, rfl⟩
  rcases h2 : (l == [97, 115]) with _ | _
  rotate_left 1
  · have HV : Hid (rsv l = true) := hid (by rw [beq_iff_eq] at h2; subst h2; decide)
    go_enter Tryz.func12, Tryz.ntmps12
    go_wp2
    go_ret
    exact ⟨by rw [HV.out]; rfl, rfl⟩
  rcases h3 : (l == [99, 97, 115, 101]) with _ | _
  rotate_left 1
  · have HV : Hid (rsv l = true) := hid (by rw [beq_iff_eq] at h3; subst h3; decide)
    go_enter Tryz.func12, Tryz.ntmps12
    go_wp2
    go_ret
    exact ⟨by rw [HV.out]; rfl, rfl⟩
  rcases h4 : (l == [100, 97, 116, 97, 116, 121, 112, 101]) with _ | _
  rotate_left 1
  · have HV : Hid (rsv l = true) := hid (by rw [beq_iff_eq] at h4; subst h4; decide)
    go_enter Tryz.func12, Tryz.ntmps12
    go_wp2
    go_ret
    exact ⟨by rw [HV.out]; rfl, rfl⟩
  rcases h5 : (l == [100, 111]) with _ | _
  rotate_left 1
  · have HV : Hid (rsv l = true) := hid (by rw [beq_iff_eq] at h5; subst h5; decide)
    go_enter Tryz.func12, Tryz.ntmps12
    go_wp2
    go_ret
    exact ⟨by rw [HV.out]; rfl, rfl⟩
  rcases h6 : (l == [101, 108, 115, 101]) with _ | _
  rotate_left 1
  · have HV : Hid (rsv l = true) := hid (by rw [beq_iff_eq] at h6; subst h6; decide)
    go_enter Tryz.func12, Tryz.ntmps12
    go_wp2
    go_ret
    exact ⟨by rw [HV.out]; rfl, rfl⟩
  rcases h7 : (l == [101, 110, 100]) with _ | _
  rotate_left 1
  · have HV : Hid (rsv l = true) := hid (by rw [beq_iff_eq] at h7; subst h7; decide)
    go_enter Tryz.func12, Tryz.ntmps12
    go_wp2
    go_ret
    exact ⟨by rw [HV.out]; rfl, rfl⟩
  rcases h8 : (l == [101, 120, 99, 101, 112, 116, 105, 111, 110]) with _ | _
  rotate_left 1
  · have HV : Hid (rsv l = true) := hid (by rw [beq_iff_eq] at h8; subst h8; decide)
    go_enter Tryz.func12, Tryz.ntmps12
    go_wp2
    go_ret
    exact ⟨by rw [HV.out]; rfl, rfl⟩
  rcases h9 : (l == [102, 110]) with _ | _
  rotate_left 1
  · have HV : Hid (rsv l = true) := hid (by rw [beq_iff_eq] at h9; subst h9; decide)
    go_enter Tryz.func12, Tryz.ntmps12
    go_wp2
    go_ret
    exact ⟨by rw [HV.out]; rfl, rfl⟩
  rcases h10 : (l == [102, 117, 110]) with _ | _
  rotate_left 1
  · have HV : Hid (rsv l = true) := hid (by rw [beq_iff_eq] at h10; subst h10; decide)
    go_enter Tryz.func12, Tryz.ntmps12
    go_wp2
    go_ret
    exact ⟨by rw [HV.out]; rfl, rfl⟩
  rcases h11 : (l == [104, 97, 110, 100, 108, 101]) with _ | _
  rotate_left 1
  · have HV : Hid (rsv l = true) := hid (by rw [beq_iff_eq] at h11; subst h11; decide)
    go_enter Tryz.func12, Tryz.ntmps12
    go_wp2
    go_ret
    exact ⟨by rw [HV.out]; rfl, rfl⟩
  rcases h12 : (l == [105, 102]) with _ | _
  rotate_left 1
  · have HV : Hid (rsv l = true) := hid (by rw [beq_iff_eq] at h12; subst h12; decide)
    go_enter Tryz.func12, Tryz.ntmps12
    go_wp2
    go_ret
    exact ⟨by rw [HV.out]; rfl, rfl⟩
  rcases h13 : (l == [105, 110]) with _ | _
  rotate_left 1
  · have HV : Hid (rsv l = true) := hid (by rw [beq_iff_eq] at h13; subst h13; decide)
    go_enter Tryz.func12, Tryz.ntmps12
    go_wp2
    go_ret
    exact ⟨by rw [HV.out]; rfl, rfl⟩
  rcases h14 : (l == [105, 110, 102, 105, 120]) with _ | _
  rotate_left 1
  · have HV : Hid (rsv l = true) := hid (by rw [beq_iff_eq] at h14; subst h14; decide)
    go_enter Tryz.func12, Tryz.ntmps12
    go_wp2
    go_ret
    exact ⟨by rw [HV.out]; rfl, rfl⟩
  rcases h15 : (l == [105, 110, 102, 105, 120, 114]) with _ | _
  rotate_left 1
  · have HV : Hid (rsv l = true) := hid (by rw [beq_iff_eq] at h15; subst h15; decide)
    go_enter Tryz.func12, Tryz.ntmps12
    go_wp2
    go_ret
    exact ⟨by rw [HV.out]; rfl, rfl⟩
  rcases h16 : (l == [108, 101, 116]) with _ | _
  rotate_left 1
  · have HV : Hid (rsv l = true) := hid (by rw [beq_iff_eq] at h16; subst h16; decide)
    go_enter Tryz.func12, Tryz.ntmps12
    go_wp2
    go_ret
    exact ⟨by rw [HV.out]; rfl, rfl⟩
  rcases h17 : (l == [110, 111, 110, 102, 105, 120]) with _ | _
  rotate_left 1
  · have HV : Hid (rsv l = true) := hid (by rw [beq_iff_eq] at h17; subst h17; decide)
    go_enter Tryz.func12, Tryz.ntmps12
    go_wp2
    go_ret
    exact ⟨by rw [HV.out]; rfl, rfl⟩
  rcases h18 : (l == [111, 102]) with _ | _
  rotate_left 1
  · have HV : Hid (rsv l = true) := hid (by rw [beq_iff_eq] at h18; subst h18; decide)
    go_enter Tryz.func12, Tryz.ntmps12
    go_wp2
    go_ret
    exact ⟨by rw [HV.out]; rfl, rfl⟩
  rcases h19 : (l == [111, 112]) with _ | _
  rotate_left 1
  · have HV : Hid (rsv l = true) := hid (by rw [beq_iff_eq] at h19; subst h19; decide)
    go_enter Tryz.func12, Tryz.ntmps12
    go_wp2
    go_ret
    exact ⟨by rw [HV.out]; rfl, rfl⟩
  rcases h20 : (l == [111, 114, 101, 108, 115, 101]) with _ | _
  rotate_left 1
  · have HV : Hid (rsv l = true) := hid (by rw [beq_iff_eq] at h20; subst h20; decide)
    go_enter Tryz.func12, Tryz.ntmps12
    go_wp2
    go_ret
    exact ⟨by rw [HV.out]; rfl, rfl⟩
  rcases h21 : (l == [114, 97, 105, 115, 101]) with _ | _
  rotate_left 1
  · have HV : Hid (rsv l = true) := hid (by rw [beq_iff_eq] at h21; subst h21; decide)
    go_enter Tryz.func12, Tryz.ntmps12
    go_wp2
    go_ret
    exact ⟨by rw [HV.out]; rfl, rfl⟩
  rcases h22 : (l == [115, 105, 103]) with _ | _
  rotate_left 1
  · have HV : Hid (rsv l = true) := hid (by rw [beq_iff_eq] at h22; subst h22; decide)
    go_enter Tryz.func12, Tryz.ntmps12
    go_wp2
    go_ret
    exact ⟨by rw [HV.out]; rfl, rfl⟩
  rcases h23 : (l == [115, 105, 103, 110, 97, 116, 117, 114, 101]) with _ | _
  rotate_left 1
  · have HV : Hid (rsv l = true) := hid (by rw [beq_iff_eq] at h23; subst h23; decide)
    go_enter Tryz.func12, Tryz.ntmps12
    go_wp2
    go_ret
    exact ⟨by rw [HV.out]; rfl, rfl⟩
  rcases h24 : (l == [115, 116, 114, 117, 99, 116]) with _ | _
  rotate_left 1
  · have HV : Hid (rsv l = true) := hid (by rw [beq_iff_eq] at h24; subst h24; decide)
    go_enter Tryz.func12, Tryz.ntmps12
    go_wp2
    go_ret
    exact ⟨by rw [HV.out]; rfl, rfl⟩
  rcases h25 : (l == [115, 116, 114, 117, 99, 116, 117, 114, 101]) with _ | _
  rotate_left 1
  · have HV : Hid (rsv l = true) := hid (by rw [beq_iff_eq] at h25; subst h25; decide)
    go_enter Tryz.func12, Tryz.ntmps12
    go_wp2
    go_ret
    exact ⟨by rw [HV.out]; rfl, rfl⟩
  rcases h26 : (l == [116, 104, 101, 110]) with _ | _
  rotate_left 1
  · have HV : Hid (rsv l = true) := hid (by rw [beq_iff_eq] at h26; subst h26; decide)
    go_enter Tryz.func12, Tryz.ntmps12
    go_wp2
    go_ret
    exact ⟨by rw [HV.out]; rfl, rfl⟩
  rcases h27 : (l == [116, 121, 112, 101]) with _ | _
  rotate_left 1
  · have HV : Hid (rsv l = true) := hid (by rw [beq_iff_eq] at h27; subst h27; decide)
    go_enter Tryz.func12, Tryz.ntmps12
    go_wp2
    go_ret
    exact ⟨by rw [HV.out]; rfl, rfl⟩
  rcases h28 : (l == [118, 97, 108]) with _ | _
  rotate_left 1
  · have HV : Hid (rsv l = true) := hid (by rw [beq_iff_eq] at h28; subst h28; decide)
    go_enter Tryz.func12, Tryz.ntmps12
    go_wp2
    go_ret
    exact ⟨by rw [HV.out]; rfl, rfl⟩
  rcases h29 : (l == [119, 104, 105, 108, 101]) with _ | _
  rotate_left 1
  · have HV : Hid (rsv l = true) := hid (by rw [beq_iff_eq] at h29; subst h29; decide)
    go_enter Tryz.func12, Tryz.ntmps12
    go_wp2
    go_ret
    exact ⟨by rw [HV.out]; rfl, rfl⟩
  rcases h30 : (l == [45, 62]) with _ | _
  rotate_left 1
  · have HV : Hid (rsv l = true) := hid (by rw [beq_iff_eq] at h30; subst h30; decide)
    go_enter Tryz.func12, Tryz.ntmps12
    go_wp2
    go_ret
    exact ⟨by rw [HV.out]; rfl, rfl⟩
  rcases h31 : (l == [61, 62]) with _ | _
  rotate_left 1
  · have HV : Hid (rsv l = true) := hid (by rw [beq_iff_eq] at h31; subst h31; decide)
    go_enter Tryz.func12, Tryz.ntmps12
    go_wp2
    go_ret
    exact ⟨by rw [HV.out]; rfl, rfl⟩
  rcases h32 : (l == [58]) with _ | _
  rotate_left 1
  · have HV : Hid (rsv l = true) := hid (by rw [beq_iff_eq] at h32; subst h32; decide)
    go_enter Tryz.func12, Tryz.ntmps12
    go_wp2
    go_ret
    exact ⟨by rw [HV.out]; rfl, rfl⟩
  rcases h33 : (l == [58, 62]) with _ | _
  rotate_left 1
  · have HV : Hid (rsv l = true) := hid (by rw [beq_iff_eq] at h33; subst h33; decide)
    go_enter Tryz.func12, Tryz.ntmps12
    go_wp2
    go_ret
    exact ⟨by rw [HV.out]; rfl, rfl⟩
  rcases h34 : (l == [61]) with _ | _
  rotate_left 1
  · have HV : Hid (rsv l = true) := hid (by rw [beq_iff_eq] at h34; subst h34; decide)
    go_enter Tryz.func12, Tryz.ntmps12
    go_wp2
    go_ret
    exact ⟨by rw [HV.out]; rfl, rfl⟩
  rcases h35 : (l == [124]) with _ | _
  rotate_left 1
  · have HV : Hid (rsv l = true) := hid (by rw [beq_iff_eq] at h35; subst h35; decide)
    go_enter Tryz.func12, Tryz.ntmps12
    go_wp2
    go_ret
    exact ⟨by rw [HV.out]; rfl, rfl⟩
  rcases h36 : (l == [35]) with _ | _
  rotate_left 1
  · have HV : Hid (rsv l = true) := hid (by rw [beq_iff_eq] at h36; subst h36; decide)
    go_enter Tryz.func12, Tryz.ntmps12
    go_wp2
    go_ret
    exact ⟨by rw [HV.out]; rfl, rfl⟩
  rcases h37 : (l == [40]) with _ | _
  rotate_left 1
  · have HV : Hid (rsv l = true) := hid (by rw [beq_iff_eq] at h37; subst h37; decide)
    go_enter Tryz.func12, Tryz.ntmps12
    go_wp2
    go_ret
    exact ⟨by rw [HV.out]; rfl, rfl⟩
  rcases h38 : (l == [41]) with _ | _
  rotate_left 1
  · have HV : Hid (rsv l = true) := hid (by rw [beq_iff_eq] at h38; subst h38; decide)
    go_enter Tryz.func12, Tryz.ntmps12
    go_wp2
    go_ret
    exact ⟨by rw [HV.out]; rfl, rfl⟩
  rcases h39 : (l == [91]) with _ | _
  rotate_left 1
  · have HV : Hid (rsv l = true) := hid (by rw [beq_iff_eq] at h39; subst h39; decide)
    go_enter Tryz.func12, Tryz.ntmps12
    go_wp2
    go_ret
    exact ⟨by rw [HV.out]; rfl, rfl⟩
  rcases h40 : (l == [93]) with _ | _
  rotate_left 1
  · have HV : Hid (rsv l = true) := hid (by rw [beq_iff_eq] at h40; subst h40; decide)
    go_enter Tryz.func12, Tryz.ntmps12
    go_wp2
    go_ret
    exact ⟨by rw [HV.out]; rfl, rfl⟩
  rcases h41 : (l == [123]) with _ | _
  rotate_left 1
  · have HV : Hid (rsv l = true) := hid (by rw [beq_iff_eq] at h41; subst h41; decide)
    go_enter Tryz.func12, Tryz.ntmps12
    go_wp2
    go_ret
    exact ⟨by rw [HV.out]; rfl, rfl⟩
  rcases h42 : (l == [125]) with _ | _
  rotate_left 1
  · have HV : Hid (rsv l = true) := hid (by rw [beq_iff_eq] at h42; subst h42; decide)
    go_enter Tryz.func12, Tryz.ntmps12
    go_wp2
    go_ret
    exact ⟨by rw [HV.out]; rfl, rfl⟩
  rcases h43 : (l == [44]) with _ | _
  rotate_left 1
  · have HV : Hid (rsv l = true) := hid (by rw [beq_iff_eq] at h43; subst h43; decide)
    go_enter Tryz.func12, Tryz.ntmps12
    go_wp2
    go_ret
    exact ⟨by rw [HV.out]; rfl, rfl⟩
  rcases h44 : (l == [59]) with _ | _
  rotate_left 1
  · have HV : Hid (rsv l = true) := hid (by rw [beq_iff_eq] at h44; subst h44; decide)
    go_enter Tryz.func12, Tryz.ntmps12
    go_wp2
    go_ret
    exact ⟨by rw [HV.out]; rfl, rfl⟩
  rcases h45 : (l == [95]) with _ | _
  rotate_left 1
  · have HV : Hid (rsv l = true) := hid (by rw [beq_iff_eq] at h45; subst h45; decide)
    go_enter Tryz.func12, Tryz.ntmps12
    go_wp2
    go_ret
    exact ⟨by rw [HV.out]; rfl, rfl⟩
  have HV : Hid (rsv l = false) := hid (by unfold rsv resL; simp only [List.contains_cons, h0, h1, h2, h3, h4, h5, h6, h7, h8, h9, h10, h11, h12, h13, h14, h15, h16, h17, h18, h19, h20, h21, h22, h23, h24, h25, h26, h27, h28, h29, h30, h31, h32, h33, h34, h35, h36, h37, h38, h39, h40, h41, h42, h43, h44, h45, Bool.or_self, List.contains_nil])
  go_enter Tryz.func12, Tryz.ntmps12
  go_wp2
  go_ret
  exact ⟨by rw [HV.out]; rfl, rfl⟩
end Go.Proofs.YtajpeeccomgnnaaGreatDoor
