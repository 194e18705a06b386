/- The document's Keep and Most. -/
import Derived.Test.YtodlcdpgiejnpaaPutW
namespace Go.Proofs.Ytodlcdpgiejnpaa
set_option linter.unusedVariables false
set_option linter.unusedSimpArgs false
open Go.RowKit Hp

def pk (th : Int) (a : Tp) : Bool := decide (th ≤ a.2.2.2)
theorem take_keep {T : List Tp} {k : Nat} {y : Tp} (p : Tp → Bool) (hy : T[k]? = some y) : (T.take (k + 1)).filter p = if p y then (T.take k).filter p ++ [y] else (T.take k).filter p := by
  obtain ⟨h1, h2⟩ := List.getElem?_eq_some_iff.1 hy
  rw [List.take_succ_eq_append_getElem h1, h2, List.filter_append]
  by_cases h : p y = true
  · simp [h]
  · simp [h]
set_option maxRecDepth 100000 in
set_option maxHeartbeats 3200000 in
theorem keep_calls (base : Nat) (v : Value) (T : List Tp) (th : Int) (w : World) (hv : LAt w base v T) (hlen : T.length ≤ 65536) (hb : base ≤ w.heap.size) :
    Calls Try.prog 12 #[v, .int .i64 th] w fun e w' => ∃ v', e = .returned v' ∧ LAt w' w.heap.size v' (T.filter (pk th)) ∧ Below w.heap.size w w' := by
  obtain ⟨Ao, cap, rfl⟩ := hv.form
  obtain ⟨n, hn⟩ : ∃ n, n = T.length := ⟨_, rfl⟩
  rw [← hn] at hv hlen ⊢
  have HN := Lib.hid hn
  have HV := Lib.hid hv
  clear hv hn
  go_enter Try.func12, Try.ntmps12
  go_wp2_with fail
  go_loopw [5, 6] (fun vr vi wr => ∃ (k : Nat), k ≤ n ∧ vi = .int .i64 k ∧ LAt wr w.heap.size vr ((T.take k).filter (pk th)) ∧ Below w.heap.size w wr) (fun _ vi _ => n - (intOf vi).toNat)
  case atStart => exact ⟨0, Nat.zero_le _, rfl, .inl ⟨rfl, rfl⟩, Below.refl _ _⟩
  case round =>
    rename World => wo
    obtain ⟨k, hk, rfl, hL, hB⟩ := hrel
    by_cases hlt : k < n
    · obtain ⟨b, o, rfl, hbb, hrow⟩ := (HV.out.kept fun q hq => hB.block q (HV.out.lt q hq).2 : LAt wo base _ T).row (by have := HN.out; omega)
      obtain ⟨y, hy⟩ : ∃ y, T[k]? = some y := ⟨_, List.getElem?_eq_getElem (by have := HN.out; omega)⟩
      have hyr := hrow.cell k y hy
      have HT := Lib.hid (take_keep (pk th) hy)
      have i1 : (0 : Int) ≤ (k : Int) := by omega
      have i2 : (k : Int) < (n : Int) := by omega
      have HL := Lib.hid hL
      have HB := Lib.hid hB
      have hwo := hB.size
      have hll : ((T.take k).filter (pk th)).length ≤ 65536 := by have := List.length_filter_le (pk th) (T.take k); have := List.length_take_le k T; omega
      have HLL := Lib.hid hll
      have hrl := hrow.lt
      obtain ⟨yt, yr, yn, yx⟩ := y
      simp only at hyr
      clear hL hB hy hrow hll
      by_cases hth : th ≤ yx
      · have q1 : decide (th ≤ yx) = true := decide_eq_true hth
        have HT2 := Lib.hid (show (T.take (k + 1)).filter (pk th) = (T.take k).filter (pk th) ++ [(yt, yr, yn, yx)] by rw [HT.out, if_pos (show pk th (yt, yr, yn, yx) = true from q1)])
        clear hth HT
        go_wp2_with (at_builtin; refine wpList_lat rfl _ _ rfl w.heap.size u5 ((T.take k).filter (pk th)) (by rfl) (HL.out.kept fun q hq => heap_alloc_old wo _ (HL.out.lt q hq).2) (by simp; omega) (by have := HLL.out; omega) _ rfl (yt, yr, yn, yx) ⟨wo.heap.size, 0, none⟩ 1 (by rfl) (World.news_of_block (cs := (tc4 (yt, yr, yn, yx)).toArray) (t := 34) (fr := (0, 0)) (heap_alloc_new wo _)) ?_; intro b4 o4 cap4 w4 hb4 hrow4 hgrow4 hat4)
        have hg := hgrow4.size
        simp at hg
        have HB4 := Lib.hid (show Below w.heap.size w w4 from
          ⟨hgrow4.os.trans HB.out.os, hgrow4.tape.trans HB.out.tape, hgrow4.output.trans HB.out.output, by omega, fun q hq => ((hgrow4.block q (by simp; omega) (fun e => by have := (HL.out.lt q e.symm).1; omega)).trans (heap_alloc_old wo _ (by omega))).trans (HB.out.block q hq)⟩)
        have hlen4 : ((T.take (k + 1)).filter (pk th)).length = ((T.take k).filter (pk th)).length + 1 := by rw [HT2.out]; simp
        refine ⟨⟨k + 1, by omega, by go_num, .inr ⟨b4, o4, cap4, by rw [hlen4], hb4, by rw [HT2.out]; exact hrow4⟩, HB4.out⟩, by simp [intOf]; omega⟩
      · have q1 : decide (th ≤ yx) = false := decide_eq_false hth
        have HT2 := Lib.hid (show (T.take (k + 1)).filter (pk th) = (T.take k).filter (pk th) by rw [HT.out, if_neg (show ¬ pk th (yt, yr, yn, yx) = true by unfold pk; intro h; rw [q1] at h; cases h)])
        clear hth HT
        go_wp2
        exact ⟨⟨k + 1, by omega, by go_num, by rw [HT2.out]; exact HL.out, HB.out⟩, by simp [intOf]; omega⟩
    · obtain rfl : k = n := by omega
      have HL := Lib.hid hL
      have HB := Lib.hid hB
      clear hL hB
      go_wp2
      go_ret
      exact ⟨_, rfl, by have h := HL.out; rw [HN.out, List.take_length] at h; exact h, HB.out⟩
theorem most_calls (n : Int) (w : World) : Calls Try.prog 10 #[.int .i64 n] w fun e w' => e = .returned (.int .i64 (min (max n 0) 65536)) ∧ w' = w := by
  by_cases h1 : n < 0
  · have hm : min (max n 0) 65536 = 0 := by omega
    rw [hm]
    clear hm
    go_enter Try.func10, Try.ntmps10
    go_wp2
    all_goals first | (exfalso; omega) | (go_ret; exact ⟨rfl, rfl⟩)
  · by_cases h2 : 65536 < n
    · have hm : min (max n 0) 65536 = 65536 := by omega
      rw [hm]
      clear hm
      go_enter Try.func10, Try.ntmps10
      go_wp2
      all_goals first | (exfalso; omega) | (go_ret; exact ⟨rfl, rfl⟩)
    · have hm : min (max n 0) 65536 = n := by omega
      rw [hm]
      clear hm
      go_enter Try.func10, Try.ntmps10
      go_wp2
      all_goals first | (exfalso; omega) | (go_ret; exact ⟨rfl, rfl⟩)
end Go.Proofs.Ytodlcdpgiejnpaa
