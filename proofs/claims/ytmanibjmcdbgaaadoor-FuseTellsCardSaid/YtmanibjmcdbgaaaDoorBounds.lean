/- What a panic for an index out of range tells: its text is bounded. -/
import Derived.Test.YtmanibjmcdbgaaaDoorTold
namespace Go.Proofs.YtmanibjmcdbgaaaDoor
set_option linter.unusedVariables false
set_option linter.unusedSimpArgs false
section
open String.Slice.Pattern String.Slice.Pattern.Model
theorem replace_steps (s : String.Slice) (pat r : String) (pos : s.Pos) (l : List (SearchStep s)) (h : IsValidSearchFrom pat pos l) (hp : pat ≠ "") : ∀ acc : String,
   (l.foldl (fun sofar st => match st with
      | SearchStep.matched startPos endPos => sofar ++ String.ToSlice.toSlice r
      | SearchStep.rejected start stop => sofar ++ s.slice! start stop) acc).utf8ByteSize ≤ acc.utf8ByteSize + (s.utf8ByteSize - pos.offset.byteIdx) * (1 + r.utf8ByteSize) := by
  have hr : (String.ToSlice.toSlice r : String.Slice).utf8ByteSize = r.utf8ByteSize := by simp [String.ToSlice.toSlice]
  have key : ∀ a b : s.Pos, a < b → (s.utf8ByteSize - a.offset.byteIdx) * (1 + r.utf8ByteSize) ≥ (s.utf8ByteSize - b.offset.byteIdx) * (1 + r.utf8ByteSize) + (b.offset.byteIdx - a.offset.byteIdx) * (1 + r.utf8ByteSize) ∧ a.offset.byteIdx < b.offset.byteIdx := by
    intro a b hab
    have h1 : a.offset.byteIdx < b.offset.byteIdx := String.Slice.Pos.lt_iff.1 hab
    have h2 : b.offset.byteIdx ≤ s.utf8ByteSize := by simp
    refine ⟨?_, h1⟩
    rw [← Nat.add_mul]
    exact Nat.mul_le_mul_right _ (by omega)
  have hstrict : StrictPatternModel pat := ForwardStringSearcher.strictPatternModel hp
  induction h with
  | endPos => intro acc; simp
  | matched h1 h2 ih => 
    intro acc
    have h3 := ih (acc ++ String.ToSlice.toSlice r)
    simp only [List.foldl_cons]
    obtain ⟨k1, k2⟩ := key _ _ h1.lt
    have ha : (acc ++ String.ToSlice.toSlice r).utf8ByteSize = acc.utf8ByteSize + r.utf8ByteSize := by simp [hr]
    rw [ha] at h3
    have := Nat.mul_le_mul_right (1 + r.utf8ByteSize) (show 1 ≤ _ from Nat.sub_pos_of_lt k2)
    omega
  | mismatched h1 h2 h3 ih =>
    rename_i l a b
    intro acc
    have h4 := ih (acc ++ s.slice! a b)
    simp only [List.foldl_cons]
    obtain ⟨k1, k2⟩ := key _ _ h1
    have h5 : (s.slice! a b).utf8ByteSize = b.offset.byteIdx - a.offset.byteIdx := by
      unfold String.Slice.slice!
      rw [dif_pos (Std.le_of_lt h1)]
      simp [String.Pos.Raw.byteDistance]
    have := Nat.le_mul_of_pos_right (b.offset.byteIdx - a.offset.byteIdx) (show 0 < 1 + r.utf8ByteSize by omega)
    have ha : (acc ++ s.slice! a b).utf8ByteSize = acc.utf8ByteSize + (b.offset.byteIdx - a.offset.byteIdx) := by simp [h5]
    rw [ha] at h4
    omega

theorem replace_size (s pat r : String) (hp : pat ≠ "") : (s.replace pat r).utf8ByteSize ≤ s.utf8ByteSize * (1 + r.utf8ByteSize) := by
  have hl := (ForwardStringSearcher.lawfulToForwardSearcherModel hp).isValidSearchFrom_toList s.toSlice
  have h := replace_steps s.toSlice pat r _ _ hl hp ""
  unfold String.replace String.Slice.replace
  rw [← Std.Iter.foldl_toList]
  have e1 : ("" : String).utf8ByteSize = 0 := by decide
  have e2 : s.toSlice.utf8ByteSize = s.utf8ByteSize := by simp
  have e3 : s.toSlice.startPos.offset.byteIdx = 0 := by simp
  rw [e1, e2, e3, Nat.zero_add, Nat.sub_zero] at h
  refine Nat.le_trans (Nat.le_of_eq ?_) h
  congr 2
  funext x y
  cases y <;> rfl
def bText : String := "runtime error: " ++ (("index out of range [%x] with length %y".replace "%x" (toString (0 : Int))).replace "%y" (toString (0 : Int)))
theorem bText_small : bText.utf8ByteSize ≤ 1000 := by
  unfold bText
  have h1 := replace_size ("index out of range [%x] with length %y".replace "%x" (toString (0 : Int))) "%y" (toString (0 : Int)) (by decide)
  have h2 := replace_size "index out of range [%x] with length %y" "%x" (toString (0 : Int)) (by decide)
  have e1 : (toString (0 : Int)).utf8ByteSize = 1 := by decide
  have e2 : "index out of range [%x] with length %y".utf8ByteSize = 38 := by decide
  have e3 : "runtime error: ".utf8ByteSize = 15 := by decide
  rw [e1, e2] at h2
  rw [e1] at h1
  rw [String.utf8ByteSize_append, e3]
  omega
end
open Go.RowKit
def bVal (b : Bool) : Value := .agg #[.int .i64 0, .int .i64 0, .bool b, .int .u8 0]
theorem meth_b (b : Bool) (w : World) : (method 180 8 (bVal b) "Error").run Tryd.prog w = .ok (53, bVal b) w := by kernel_rfl
theorem call_b (b : Bool) (w : World) : (callFunc 53 #[bVal b]).run Tryd.prog w = .ok (.value (strVal bText)) w := by cases b <;> kernel_rfl
def bTold : ByteArray := ⟨#[101, 114, 114, 111, 114, 32]⟩ ++ bText.toUTF8
theorem tells_bounds (b : Bool) : Tells (.iface 8 (bVal b)) bTold := by
  intro w
  have h1 := ta_b1 (bVal b)
  have h2 := ta_b2 (bVal b)
  have h3 := meth_b b
  have h4 := call_b b
  have hs : bText.toUTF8.size ≤ 1000 := bText_small
  unfold strVal at h4
  unfold bTold
  generalize bText.toUTF8 = T at h4 hs ⊢
  go_enter Tryd.func24, Tryd.ntmps24
  go_wp2
  go_ret
  exact ⟨rfl, Below.refl _ _⟩
end Go.Proofs.YtmanibjmcdbgaaaDoor
