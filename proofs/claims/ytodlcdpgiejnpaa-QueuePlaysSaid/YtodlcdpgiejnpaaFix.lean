/- The chapter's examples hold. -/
import Derived.Test.YtodlcdpgiejnpaaPlay
import Derived.Test.YtodlcdpgiejnpaaAbsS
namespace Go.Proofs.Ytodlcdpgiejnpaa
set_option linter.unusedVariables false
set_option linter.unusedSimpArgs false
open Go.RowKit Hp QS

def fl : List (It ByteArray) := [⟨3, 1, 2, 4, ⟨#[100]⟩⟩, ⟨3, 1, 2, 5, ⟨#[101]⟩⟩, ⟨3, 1, 7, 3, ⟨#[99]⟩⟩, ⟨3, 9, 0, 2, ⟨#[98]⟩⟩, ⟨5, 0, 0, 1, ⟨#[97]⟩⟩]
def pf : Nat → ByteArray
  | 0 => ⟨#[]⟩
  | 1 => ⟨#[100]⟩
  | 2 => ⟨#[100, 101]⟩
  | 3 => ⟨#[100, 101, 99]⟩
  | 4 => ⟨#[100, 101, 99, 98]⟩
  | _ => ⟨#[100, 101, 99, 98, 97]⟩
theorem fl_is : ins ⟨3, 1, 2, 5, ⟨#[101]⟩⟩ (ins ⟨3, 1, 2, 4, ⟨#[100]⟩⟩ (ins ⟨3, 1, 7, 3, ⟨#[99]⟩⟩ (ins ⟨3, 9, 0, 2, ⟨#[98]⟩⟩ (ins ⟨5, 0, 0, 1, ⟨#[97]⟩⟩ ([] : List (It ByteArray)))))) = fl := by
  simp [ins, fore, fl]

theorem push_in {w0 w : World} {g : Nat} {bo : Option Nat} {most num : Int} {S : List (It ByteArray)} (h : QAt w g bo most num S) (hg : w0.heap.size ≤ g) (hb : ∀ k, bo = some k → w0.heap.size ≤ k) (hB : Below w0.heap.size w0 w) (t r n : Int) (x : ByteArray)
    (hf : (S.length : Int) < most) (hn : num < 9223372036854775807) :
    Calls Try.prog 22 #[.pointer (some ⟨g, 0, none⟩), .int .i64 t, .int .i64 r, .int .i64 n, .string x] w fun e w' => e = .returned (.int .i64 0) ∧
      ∃ bo', QAt w' g bo' most (num + 1) (ins ⟨t, r, n, num + 1, x⟩ S) ∧ (∀ k, bo' = some k → w0.heap.size ≤ k) ∧ Below w0.heap.size w0 w' := by
  refine (push_at h t r n x hf hn).mono ?_
  rintro e w' ⟨rfl, bo', hq, hF⟩
  exact ⟨rfl, bo', hq, hF.row hb hB.size, hB.trans (hF.below hg hb hB.size)⟩

set_option maxRecDepth 100000 in
set_option maxHeartbeats 6400000 in
theorem fixed_calls (w : World) : Calls Try.prog 8 #[] w fun e w' => e = .returned (.bool true) ∧ Below w.heap.size w w' := by
  go_enter Try.func8, Try.ntmps8
  go_wp2_with fail
  refine (new_at 5 _).mono ?_
  rintro e w1 ⟨rfl, hQ1, hB1⟩
  obtain ⟨g, hg⟩ : ∃ g, g = w.heap.size := ⟨_, rfl⟩
  rw [← hg] at hQ1 ⊢
  have hgl : w.heap.size ≤ g := by omega
  have HQ1 := Lib.hid hQ1
  have HB1 := Lib.hid hB1
  clear hQ1 hB1 hg
  go_wp2_with fail
  refine (push_in HQ1.out hgl (by simp) HB1.out 5 0 0 ⟨#[97]⟩ (by decide) (by decide)).mono ?_
  rintro e w2 ⟨rfl, b2, hQ2, hb2, hB2⟩
  have HQ2 := Lib.hid hQ2
  have Hb2 := Lib.hid hb2
  have HB2 := Lib.hid hB2
  clear hQ2 hb2 hB2 HQ1 HB1
  go_wp2_with fail
  refine (push_in HQ2.out hgl Hb2.out HB2.out 3 9 0 ⟨#[98]⟩ (by simp only [ins_length, List.length_nil]; decide) (by decide)).mono ?_
  rintro e w3 ⟨rfl, b3, hQ3, hb3, hB3⟩
  have HQ3 := Lib.hid hQ3
  have Hb3 := Lib.hid hb3
  have HB3 := Lib.hid hB3
  clear hQ3 hb3 hB3 HQ2 Hb2 HB2
  go_wp2_with fail
  refine (push_in HQ3.out hgl Hb3.out HB3.out 3 1 7 ⟨#[99]⟩ (by simp only [ins_length, List.length_nil]; decide) (by decide)).mono ?_
  rintro e w4 ⟨rfl, b4, hQ4, hb4, hB4⟩
  have HQ4 := Lib.hid hQ4
  have Hb4 := Lib.hid hb4
  have HB4 := Lib.hid hB4
  clear hQ4 hb4 hB4 HQ3 Hb3 HB3
  go_wp2_with fail
  refine (push_in HQ4.out hgl Hb4.out HB4.out 3 1 2 ⟨#[100]⟩ (by simp only [ins_length, List.length_nil]; decide) (by decide)).mono ?_
  rintro e w5 ⟨rfl, b5, hQ5, hb5, hB5⟩
  have HQ5 := Lib.hid hQ5
  have Hb5 := Lib.hid hb5
  have HB5 := Lib.hid hB5
  clear hQ5 hb5 hB5 HQ4 Hb4 HB4
  go_wp2_with fail
  refine (push_in HQ5.out hgl Hb5.out HB5.out 3 1 2 ⟨#[101]⟩ (by simp only [ins_length, List.length_nil]; decide) (by decide)).mono ?_
  rintro e w6 ⟨rfl, b6, hQ6, hb6, hB6⟩
  have hQ6' : QAt w6 g b6 5 5 fl := by rw [← fl_is]; exact hQ6
  have HQ6 := Lib.hid hQ6'
  have Hb6 := Lib.hid hb6
  have HB6 := Lib.hid hB6
  clear hQ6 hQ6' hb6 hB6 HQ5 Hb5 HB5
  go_wp2_with fail
  refine (push_full_at HQ6.out 0 0 0 ⟨#[102]⟩ (by decide)).mono ?_
  rintro e w7 ⟨rfl, hB7⟩
  have HQ7 := Lib.hid (HQ6.out.below hB7)
  have HB7 := Lib.hid (HB6.out.trans (hB7.mono HB6.out.size))
  clear hB7 HQ6 HB6
  go_wp2_with fail
  refine (len_at HQ7.out).mono ?_
  rintro e w8 ⟨rfl, rfl⟩
  have hlen : fl.length = 5 := rfl
  go_wp2_with fail
  refine (peek_at HQ7.out).mono ?_
  rintro e w8 ⟨rfl, hB8⟩
  have HQ8 := Lib.hid (HQ7.out.below hB8)
  have HB8 := Lib.hid (HB7.out.trans (hB8.mono HB7.out.size))
  clear hB8 HQ7 HB7
  go_wp2_with fail
  go_loopw [5, 57] (fun v i wr => ∃ (k : Nat), k ≤ 5 ∧ i = .int .i64 k ∧ v = .string (pf k) ∧ QAt wr g b6 5 5 (fl.drop k) ∧ Below w.heap.size w wr) (fun _ i _ => 5 - (intOf i).toNat)
  case atStart => exact ⟨0, by omega, rfl, rfl, HQ8.out, HB8.out⟩
  case round =>
    obtain ⟨k, hk, rfl, rfl, hq, hb⟩ := hrel
    clear HQ8 HB8
    by_cases h5 : k = 5
    · subst h5
      have hq5 : QAt wr g b6 5 5 [] := hq
      have HQ := Lib.hid hq5
      have HB := Lib.hid hb
      clear hq hb hq5
      go_wp2_with fail
      refine (pop_none_at HQ.out).mono ?_
      rintro e w9 ⟨rfl, rfl⟩
      have hA : OpsAt (w9.alloc (.cells #[.int .i64 1, .int .i64 4, .int .i64 0, .int .i64 0, .int .i64 9, .int .i64 3, .int .i64 0, .int .i64 0, .int .i64 0, .int .i64 0] 28)) (some ⟨w9.heap.size, 0, none⟩) [⟨1, 4, 0, 0, 9⟩, ⟨3, 0, 0, 0, 0⟩] := by
        have hn := heap_alloc_new w9 (.cells #[.int .i64 1, .int .i64 4, .int .i64 0, .int .i64 0, .int .i64 9, .int .i64 3, .int .i64 0, .int .i64 0, .int .i64 0, .int .i64 0] 28)
        intro k o ho
        have hk : k < 2 := (List.getElem?_eq_some_iff.1 ho).1
        have hc := blk_cell hn
        refine ⟨w9.heap.size, 0, rfl, by simp, ?_⟩
        obtain rfl | rfl : k = 0 ∨ k = 1 := by omega
        · obtain rfl : (⟨1, 4, 0, 0, 9⟩ : Opp) = o := by simpa using ho
          exact ⟨hc 0, hc 1, hc 2, hc 3, hc 4⟩
        · obtain rfl : (⟨3, 0, 0, 0, 0⟩ : Opp) = o := by simpa using ho
          exact ⟨hc 5, hc 6, hc 7, hc 8, hc 9⟩
      have hP := play_walk 3 _ 2 _ _ hA (by decide) (by simp)
      have HP := Lib.hid hP
      clear hA hP
      go_wp2_with fail
      refine HP.out.mono ?_
      rintro e w10 ⟨v, rfl, hown, hB10⟩
      obtain ⟨gg, cap, rfl, hgb, hgl2⟩ := hown.form (by decide)
      have hcs := hown.cells (g := gg) rfl
      have x0 : w10.cell? ⟨gg, 4, none⟩ = some (.int .i64 9) := hcs 4 (.int .i64 9) rfl
      have x1 : w10.cell? ⟨gg, 5, none⟩ = some (.int .i64 4) := hcs 5 (.int .i64 4) rfl
      have hpf : pf 5 = ⟨#[100, 101, 99, 98, 97]⟩ := rfl
      have HE := Lib.hid (HB.out.trans ((show Below w9.heap.size w9 w10 from ((Below.refl w9.heap.size w9).alloc (Nat.le_refl _) _).trans (hB10.mono (by simp))).mono HB.out.size))
      clear hcs hown hB10
      go_wp2
      go_ret
      exact ⟨rfl, HE.out⟩
    · obtain ⟨y, hy, hp⟩ : ∃ y, fl.drop k = y :: fl.drop (k + 1) ∧ pf k ++ y.x = pf (k + 1) := by
        obtain rfl | rfl | rfl | rfl | rfl : k = 0 ∨ k = 1 ∨ k = 2 ∨ k = 3 ∨ k = 4 := by omega
        all_goals exact ⟨_, rfl, by decide⟩
      have hsz : (pf k).size + y.x.size ≤ 100 := by
        obtain rfl | rfl | rfl | rfl | rfl : k = 0 ∨ k = 1 ∨ k = 2 ∨ k = 3 ∨ k = 4 := by omega
        all_goals (injection hy with hy _; rw [← hy]; decide)
      rw [hy] at hq
      have HQ := Lib.hid hq
      have HB := Lib.hid hb
      have HP := Lib.hid hp
      have hlt : (k : Int) < 5 := by omega
      clear hq hb hy hp
      go_wp2_with fail
      refine (pop_at HQ.out).mono ?_
      rintro e w9 ⟨rfl, hq9, hF9⟩
      have HQ9 := Lib.hid hq9
      have HB9 := Lib.hid (HB.out.trans (hF9.below hgl Hb6.out HB.out.size))
      clear hq9 hF9
      go_wp2
      exact ⟨⟨k + 1, by omega, by go_num, by rw [HP.out], HQ9.out, HB9.out⟩, by simp [intOf]; omega⟩
end Go.Proofs.Ytodlcdpgiejnpaa
