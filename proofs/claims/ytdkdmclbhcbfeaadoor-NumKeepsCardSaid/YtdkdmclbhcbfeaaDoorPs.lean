/- num.Parse, walked. -/
import Derived.Test.YtdkdmclbhcbfeaaDoorPa
namespace Go.Proofs.YtdkdmclbhcbfeaaDoor.Nu
open Go.RowKit Go.Proofs.YtdkdmclbhcbfeaaDoor.Fl Go.Proofs.YtdkdmclbhcbfeaaDoorW.PrintWords Go.Proofs.YtdkdmclbhcbfeaaDoorW.PrintLast Go.Proofs.YtdkdmclbhcbfeaaDoorW.PrintMore
set_option linter.unusedVariables false
set_option linter.unusedSimpArgs false
/-- what num.Parse hands back: bits and error -/
def parseV (s : ByteArray) : Nat × Int := match pU s with
  | .num n => if hexS 16 (oneN n) = s then (n, 0) else (0, 2)
  | _ => (0, 2)
theorem str_same (a b : ByteArray) : (a.toList == b.toList) = decide (a = b) := by
  apply Bool.eq_iff_iff.2
  rw [beq_iff_eq, decide_eq_true_eq, ByteArray.toList_eq, ByteArray.toList_eq]
  exact ⟨fun h => ByteArray.ext (Array.toList_inj.1 h), fun h => by rw [h]⟩
set_option maxHeartbeats 1600000 in
set_option maxRecDepth 100000 in
theorem parse_calls (s : ByteArray) (hmax : s.size ≤ 281474976710656) (w : World) (hT : Tabs w) :
    Calls Tryd.prog 32 #[.string s] w fun e w' => e = .returned (.tuple #[.float .f64 (parseV s).1, .int .i64 (parseV s).2]) ∧ Below w.heap.size w w' := by
  have H := Lib.hid (spu_calls s hmax w hT)
  have HT := Lib.hid hT
  have HL := Lib.hid (fun n (h : pU s = .num n) => pU_lt h)
  have HF := Lib.hid (fun (n : Int) w => frombits n w)
  clear hT hmax
  unfold parseV
  generalize pU s = r at H HL ⊢
  cases r with
  | num n =>
    simp only [Told] at H ⊢
    have hn := HL.out n rfl
    have HP := Lib.hid (fun W hb => print_calls n hn W (HT.out.below hb).tz)
    have ef : ∀ w, (callFunc 38 #[.int .u64 (n : Int)]).run Tryd.prog w = .ok (.value (.float .f64 n)) w := fun w => by rw [HF.out (n : Int) w]; rfl
    clear hn
    generalize hexS 16 (oneN n) = p at HP ⊢
    by_cases hp : p = s
    · rw [if_pos hp]
      subst hp
      go_enter Tryd.func32, Tryd.ntmps32
      go_wp2_with fail
      refine H.out.mono ?_
      rintro e w1 ⟨rfl, hb⟩
      have HB := Lib.hid hb
      have HC := Lib.hid (HP.out w1 hb)
      clear hb
      have hpp : (p.toList == p.toList) = true := by simp
      go_wp2_with fail
      refine HC.out.mono ?_
      rintro e w2 ⟨rfl, hb2⟩
      have HB2 := Lib.hid (HB.out.trans (hb2.mono HB.out.size))
      clear hb2
      go_wp2
      go_ret2
      exact ⟨rfl, HB2.out⟩
    · rw [if_neg hp]
      go_enter Tryd.func32, Tryd.ntmps32
      go_wp2_with fail
      refine H.out.mono ?_
      rintro e w1 ⟨rfl, hb⟩
      have HB := Lib.hid hb
      have HC := Lib.hid (HP.out w1 hb)
      have hpp : (p.toList == s.toList) = false := by rw [str_same, decide_eq_false_iff_not]; exact hp
      clear hb hp
      go_wp2_with fail
      refine HC.out.mono ?_
      rintro e w2 ⟨rfl, hb2⟩
      have HB2 := Lib.hid (HB.out.trans (hb2.mono HB.out.size))
      clear hb2
      go_wp2
      go_ret2
      exact ⟨rfl, HB2.out⟩
  | bad =>
    simp only [Told] at H ⊢
    go_enter Tryd.func32, Tryd.ntmps32
    go_wp2_with fail
    refine H.out.mono ?_
    rintro e w1 ⟨⟨x, tp, p, h0, h1, rfl⟩, hb⟩
    have HB := Lib.hid hb
    have ef : ∀ w, (callFunc 38 #[.int .u64 x]).run Tryd.prog w = .ok (.value (.float .f64 x.toNat)) w := fun w => HF.out x w
    clear hb
    go_wp2
    go_ret2
    exact ⟨rfl, HB.out⟩
  | big =>
    simp only [Told] at H ⊢
    go_enter Tryd.func32, Tryd.ntmps32
    go_wp2_with fail
    refine H.out.mono ?_
    rintro e w1 ⟨⟨x, tp, p, h0, h1, rfl⟩, hb⟩
    have HB := Lib.hid hb
    have ef : ∀ w, (callFunc 38 #[.int .u64 x]).run Tryd.prog w = .ok (.value (.float .f64 x.toNat)) w := fun w => HF.out x w
    clear hb
    go_wp2
    go_ret2
    exact ⟨rfl, HB.out⟩
end Go.Proofs.YtdkdmclbhcbfeaaDoor.Nu
