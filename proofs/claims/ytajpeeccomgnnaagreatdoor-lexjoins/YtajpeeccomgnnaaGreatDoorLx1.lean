/-
  The lexer's scanner in memory; peek.
-/
import Derived.Test.YtajpeeccomgnnaaGreatDoorBigD
namespace Go.Proofs.YtajpeeccomgnnaaGreatDoor
set_option linter.all false
open Go Go.RowKit

/-- A text's byte; nought behind the end. -/
def bt (s : ByteArray) (i : Nat) : Nat := (s.data.toList[i]?.getD 0).toNat
theorem bt_get {s : ByteArray} {i : Nat} (h : i < s.size) : s[i].toNat = bt s i := by
  have h2 : i < s.data.toList.length := by rw [← Lib.size_eq]; exact h
  unfold bt
  rw [List.getElem?_eq_getElem h2]
  rfl
theorem bt_out {s : ByteArray} {i : Nat} (h : s.size ≤ i) : bt s i = 0 := by
  have h2 : s.data.toList.length ≤ i := by rw [← Lib.size_eq]; exact h
  unfold bt
  rw [List.getElem?_eq_none h2]
  rfl
theorem bt_lt (s : ByteArray) (i : Nat) : bt s i < 256 := UInt8.toNat_lt _
theorem run_bt {t : TypeId} {w : World} {s : ByteArray} {k : IntKind} {z : Int} {i : Nat} (ht : Tryz.prog.underlying t = some .string) (h : i < s.size) (hz : z = (i : Int)) :
    (Instr.index t (.string s) (.int k z)).run Tryz.prog w = .ok (.int .u8 (bt s i : Nat)) w := by
  subst hz
  rw [run_index_string w t s k _ ht, dif_pos ⟨by omega, by omega⟩]
  have e : ((i : Int)).toNat = i := by simp
  simp only [e, bt_get h]
/-- A scanner's cells. -/
structure Sc (wx : World) (b : Nat) (s : ByteArray) (p : Nat) (la : Option Addr) (ln lc : Nat) (code mat : Int) : Prop where
  lt : b < wx.heap.size
  c0 : wx.cell? ⟨b, 0, none⟩ = some (.string s)
  c1 : wx.cell? ⟨b, 1, none⟩ = some (.int .i64 (p : Nat))
  c2 : wx.cell? ⟨b, 2, none⟩ = some (.slice la ln lc)
  c3 : wx.cell? ⟨b, 3, none⟩ = some (.int .i64 code)
  c4 : wx.cell? ⟨b, 4, none⟩ = some (.int .i64 mat)
  fr : ∀ o, wx.frozen? ⟨b, o, none⟩ = false

set_option maxHeartbeats 1000000 in
theorem peek_any (b : Nat) (s : ByteArray) (p n : Nat) (la : Option Addr) (ln lc : Nat) (code mat : Int) (w : World) (hp : p ≤ 1099511627776) (hn : n ≤ 1099511627776) (hs : s.size ≤ 1099511627776) (h : Sc w b s p la ln lc code mat) :
    Calls Tryz.prog 23 #[.pointer (some ⟨b, 0, none⟩), .int .i64 (n : Nat)] w fun e w' => e = .returned (.int .u8 (bt s (p + n) : Nat)) ∧ ∃ q, w' = w.drewN q := by
  obtain ⟨_, c0, c1, _, _, _, _⟩ := h
  go_enter Tryz.func23, Tryz.ntmps23
  go_wp2
  by_cases hc : p + n < s.size
  · go_region
    go_wp2
    have hwr : IntKind.i64.wrap ((p : Int) + (n : Int)) = (p : Int) + (n : Int) := IntWalk.i64_in _ (by omega)
    have hix : ∀ w, (Instr.index 9 (.string s) (.int .i64 ((p : Int) + (n : Int)))).run Tryz.prog w = .ok (.int .u8 (bt s (p + n) : Nat)) w := fun w => run_bt Tryz.underlying9 hc rfl
    go_region
    go_wp2
    go_ret
    exact ⟨rfl, 2, rfl⟩
  · go_region
    go_wp2
    go_ret
    refine ⟨?_, 1, rfl⟩
    rw [bt_out (by omega)]
    rfl
end Go.Proofs.YtajpeeccomgnnaaGreatDoor
