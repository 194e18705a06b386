/- Numbers written and read. -/
import Derived.Test.YtccicjiadahmnaaDoorSum
import Derived.Test.YtccicjiadahmnaaDoorTabs
import Derived.Lib.ItoaLen
import Derived.Lib.ParseIntBTie
namespace Go.Proofs.YtccicjiadahmnaaDoor.Hd
set_option linter.unusedVariables false
set_option linter.unusedSimpArgs false
open Go.RowKit Go.Proofs.YtccicjiadahmnaaDoorW.PrintWords

theorem below_grow (w : World) (k : Nat) (os : Array Obj) : Below w.heap.size w (Sort.grow (w.drewN k) os) := by
  refine ⟨rfl, rfl, rfl, ?_, fun i hi => ?_⟩
  · simp [Sort.grow]
  · simp [Sort.grow, World.drewN, Array.getElem?_append_left hi]
def text (n : Int) : ByteArray := ⟨(Lib.itoa n).toArray⟩
def tick_Print.f (a0 : Int) : Option ByteArray := if inR a0 then some (text a0) else none
theorem Print_calls (n : Int) (h : inR n) (w : World) (hT : Tabs w) : Calls Tryd.prog 25 #[.int .i64 n] w fun e w' => e = .returned (.string (text n)) ∧ Below w.heap.size w w' := by
  have H := Lib.hid (Tryd.strconv_FormatInt_10 n h.1 h.2 w hT.tab)
  have e : (⟨(Lib.itoa n).toArray⟩ : ByteArray) = text n := rfl
  rw [e] at H
  generalize text n = T at *
  clear e h hT
  go_enter Tryd.func25, Tryd.ntmps25
  go_wp2_with fail
  refine H.out.mono ?_
  rintro e w' ⟨rfl, k, os, rfl⟩
  go_wp2
  go_ret
  exact ⟨rfl, below_grow _ _ _⟩
theorem tick_Print.calls (a0 : Int) (r : ByteArray) (w : World) (h : tick_Print.f a0 = some r) (hT : Tabs w) : Calls Tryd.prog 25 #[.int .i64 a0] w fun e w' => e = .returned (.string r) ∧ Below w.heap.size w w' := by
  unfold tick_Print.f at h
  split at h
  · rename_i hr
    obtain rfl := Option.some.inj h
    exact Print_calls a0 hr w hT
  · cases h
/-- What a text is read as. -/
def readN (s : ByteArray) : Int × Int := match Lib.parseIntB 64 s.data.toList with
  | .ok v => if (text v).toList = s.toList then (v, 0) else (0, 2)
  | _ => (0, 2)
def tick_Parse.f (a0 : ByteArray) : Option (Int × Int) := if a0.size ≤ 140737488351232 then some (readN a0) else none
theorem below_bytes {w w' : World} (h : w' = w ∨ ∃ t, w' = Lib.bytesWorld w 5 t) : Below w.heap.size w w' := by
  rcases h with rfl | ⟨t, rfl⟩
  · exact Below.refl _ _
  · exact bytes_below (Below.refl _ _) (Nat.le_refl _) _ _
theorem Parse_ok (s : ByteArray) (hs : s.size ≤ 140737488351232) (v : Int) (hv : Lib.parseIntB 64 s.data.toList = .ok v) (w : World) (hT : Tabs w) :
    Calls Tryd.prog 26 #[.string s] w fun e w' => e = .returned (.tuple #[.int .i64 (if (text v).toList = s.toList then v else 0), .int .i64 (if (text v).toList = s.toList then 0 else 2)]) ∧ Below w.heap.size w w' := by
  have H := Lib.hid (Tryd.strconv_ParseInt_10_at64_ok s (by omega) v hv w)
  have hb := Lib.parseIntB_bounds hv
  have HP := Lib.hid (fun (W : World) (hW : Below w.heap.size w W) => Print_calls v (by unfold inR; simpa using (by omega : -9223372036854775808 ≤ v ∧ v ≤ 9223372036854775807)) W (hT.below hW))
  have hn : ∀ W : World, (binOp .neq 63 .nilIface .nilIface).run Tryd.prog W = .ok (.bool false) W := fun _ => by kernel_rfl
  generalize text v = T at *
  by_cases hts : T.toList = s.toList
  all_goals
    first | rw [if_pos hts, if_pos hts] | rw [if_neg hts, if_neg hts]
    first | (have hd : (T.toList == s.toList) = true := by simpa using hts) | (have hd : (T.toList == s.toList) = false := by simpa using hts)
    clear hb hv hT hts
    go_enter Tryd.func26, Tryd.ntmps26
    go_wp2_with fail
    refine H.out.mono ?_
    rintro e w1 ⟨rfl, hw1⟩
    have hB1 := Lib.hid (below_bytes hw1)
    clear hw1
    go_wp2_with fail
    refine (HP.out w1 hB1.out).mono ?_
    rintro e w2 ⟨rfl, hB2⟩
    have hB := Lib.hid (hB1.out.trans (hB2.mono hB1.out.size))
    clear hB2
    go_wp2
    go_ret2
    exact ⟨rfl, hB.out⟩
theorem Parse_no (s : ByteArray) (hs : s.size ≤ 140737488351232) (hv : ∀ v, Lib.parseIntB 64 s.data.toList ≠ .ok v) (w : World) (hT : Tabs w) :
    Calls Tryd.prog 26 #[.string s] w fun e w' => e = .returned (.tuple #[.int .i64 0, .int .i64 2]) ∧ Below w.heap.size w w' := by
  obtain ⟨_, ⟨t1, p1, s1⟩, ⟨t2, p2, s2⟩⟩ := hT
  have H : ∃ z, Calls Tryd.prog 48 #[.string s, .int .i64 10, .int .i64 64] w fun e w' => ∃ N, e = .returned (.tuple #[.int .i64 z, .iface 78 (.pointer (some ⟨N, 0, none⟩))]) ∧ Below w.heap.size w w' := by
    rcases h : Lib.parseIntB 64 s.data.toList with v | _ | _
    · exact absurd h (hv v)
    · exact ⟨_, (Any.strconv_ParseInt_10_at64_syntax_var Tryd.laysC174 s (by omega) h t1 p1 w s1).mono fun e w' ⟨N, he, _, _, hb⟩ => ⟨N, he, hb⟩⟩
    · exact ⟨_, (Tryd.strconv_ParseInt_10_at64_range_var s (by omega) h t2 p2 w s2).mono fun e w' ⟨N, he, _, _, hb⟩ => ⟨N, he, hb⟩⟩
  obtain ⟨z, hz⟩ := H
  have H := Lib.hid hz
  have hn : ∀ (N : Nat) (W : World), (binOp .neq 63 (.iface 78 (.pointer (some ⟨N, 0, none⟩))) .nilIface).run Tryd.prog W = .ok (.bool true) W := fun _ _ => by kernel_rfl
  clear hz hv s1 s2
  go_enter Tryd.func26, Tryd.ntmps26
  go_wp2_with fail
  refine H.out.mono ?_
  rintro e w1 ⟨N, rfl, hB⟩
  have HB := Lib.hid hB
  clear hB
  go_wp2
  go_ret2
  exact ⟨rfl, HB.out⟩
theorem tick_Parse.calls (a0 : ByteArray) (r1 r2 : Int) (w : World) (h : tick_Parse.f a0 = some (r1, r2)) (hT : Tabs w) : Calls Tryd.prog 26 #[.string a0] w fun e w' => e = .returned (.tuple #[.int .i64 r1, .int .i64 r2]) ∧ Below w.heap.size w w' := by
  unfold tick_Parse.f readN at h
  split at h
  · rename_i hs
    obtain h := Option.some.inj h
    rcases hv : Lib.parseIntB 64 a0.data.toList with v | _ | _
    · rw [hv] at h
      have hk := Parse_ok a0 hs v hv w hT
      simp only at h
      split at h
      · rename_i ht
        rw [if_pos ht, if_pos ht] at hk
        simp only [Prod.mk.injEq] at h
        obtain ⟨rfl, rfl⟩ := h
        exact hk
      · rename_i ht
        rw [if_neg ht, if_neg ht] at hk
        simp only [Prod.mk.injEq] at h
        obtain ⟨rfl, rfl⟩ := h
        exact hk
    all_goals
      rw [hv] at h
      simp only [Prod.mk.injEq] at h
      obtain ⟨rfl, rfl⟩ := h
      exact Parse_no a0 hs (fun v hv' => by rw [hv] at hv'; cases hv') w hT
  · cases h
end Go.Proofs.YtccicjiadahmnaaDoor.Hd
