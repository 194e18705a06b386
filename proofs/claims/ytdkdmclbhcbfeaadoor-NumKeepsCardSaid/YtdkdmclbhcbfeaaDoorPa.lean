/- strconv.ParseUint and num.Parse, walked. -/
import Derived.Test.YtdkdmclbhcbfeaaDoorPu
import Derived.Test.YtdkdmclbhcbfeaaDoorPr
import Derived.Test.YtdkdmclbhcbfeaaDoorShb
namespace Go.Proofs.YtdkdmclbhcbfeaaDoor.Nu
open Go.RowKit Go.Proofs.YtdkdmclbhcbfeaaDoor.Fl Go.Proofs.YtdkdmclbhcbfeaaDoorW.PrintWords Go.Proofs.YtdkdmclbhcbfeaaDoorW.PrintLast Go.Proofs.YtdkdmclbhcbfeaaDoorW.PrintMore
set_option linter.unusedVariables false
set_option linter.unusedSimpArgs false
def pU (t : ByteArray) : PR := if t.size = 0 then .bad else p16 0 t.data.toList
set_option maxRecDepth 100000 in
theorem ipe_calls (w : World) : Calls Tryd.prog 50 #[.string ⟨#[]⟩, .int .i64 16, .int .i64 64] w fun e w' => e = .returned (tup .bad) ∧ Below w.heap.size w w' := by
  go_enter Tryd.func50, Tryd.ntmps50
  go_wp2
  go_ret2
  exact ⟨rfl, Below.refl _ _⟩
theorem ipa_calls (t : ByteArray) (hmax : t.size ≤ 9223372036854775806) (w : World) :
    Calls Tryd.prog 50 #[.string t, .int .i64 16, .int .i64 64] w fun e w' => e = .returned (tup (pU t)) ∧ Below w.heap.size w w' := by
  by_cases h : t.size = 0
  · have ht : t = ⟨#[]⟩ := by
      apply ByteArray.ext
      exact Array.eq_empty_of_size_eq_zero h
    subst ht
    rw [show pU ⟨#[]⟩ = .bad from rfl]
    exact ipe_calls w
  · rw [show pU t = p16 0 t.data.toList from if_neg h]
    exact ipu_calls t h hmax w
theorem p16_lt : ∀ (bs : List UInt8) (acc n : Nat), acc < 18446744073709551616 → p16 acc bs = .num n → n < 18446744073709551616
  | [], acc, n, ha, h => by
    simp only [p16, PR.num.injEq] at h
    omega
  | c :: r, acc, n, ha, h => by
    unfold p16 at h
    split at h
    · cases h
    · rename_i d hd
      split at h
      · cases h
      · refine p16_lt r _ n ?_ h
        have : d ≤ 15 := by
          unfold hv at hd
          split at hd
          · cases hd; omega
          · split at hd
            · cases hd; omega
            · cases hd
        omega
theorem pU_lt {t : ByteArray} {n : Nat} (h : pU t = .num n) : n < 18446744073709551616 := by
  unfold pU at h
  split at h
  · cases h
  · exact p16_lt _ 0 n (by decide) h
/-- what strconv.ParseUint hands back -/
def Told (r : PR) (e : Ending) : Prop := match r with
  | .num n => e = .returned (.tuple #[.int .u64 n, .nilIface])
  | _ => ∃ x tp p, 0 ≤ x ∧ x < 18446744073709551616 ∧ e = .returned (.tuple #[.int .u64 x, .iface tp p])
set_option maxHeartbeats 1600000 in
set_option maxRecDepth 100000 in
theorem spu_calls (t : ByteArray) (hmax : t.size ≤ 281474976710656) (w : World) (hT : Tabs w) :
    Calls Tryd.prog 45 #[.string t, .int .i64 16, .int .i64 64] w fun e w' => Told (pU t) e ∧ Below w.heap.size w w' := by
  have H := Lib.hid (ipa_calls t (by omega) w)
  obtain ⟨ts, ps, hs⟩ := hT.syn
  obtain ⟨tr, pr, hr⟩ := hT.rng
  have H1 := Lib.hid (fun W (hb : Below w.heap.size w W) => Tryd.strconv_toError_syntax ⟨#[80, 97, 114, 115, 101, 85, 105, 110, 116]⟩ t 16 64 (.iface ts ps) W hmax (cell_kept hb hs) (.inr ⟨_, _, rfl⟩))
  have H2 := Lib.hid (fun W (hb : Below w.heap.size w W) => Tryd.strconv_toError_range ⟨#[80, 97, 114, 115, 101, 85, 105, 110, 116]⟩ t 16 64 (.iface tr pr) W hmax (cell_kept hb hr) (.inr ⟨_, _, rfl⟩))
  clear hT hs hr hmax
  generalize pU t = r at H ⊢
  cases r with
  | num n =>
    simp only [tup, Told] at H ⊢
    go_enter Tryd.func45, Tryd.ntmps45
    go_wp2_with fail
    refine H.out.mono ?_
    rintro e w1 ⟨rfl, hb⟩
    have HB := Lib.hid hb
    clear hb
    go_wp2
    go_ret2
    exact ⟨rfl, HB.out⟩
  | bad =>
    simp only [tup, Told] at H ⊢
    go_enter Tryd.func45, Tryd.ntmps45
    go_wp2_with fail
    refine H.out.mono ?_
    rintro e w1 ⟨rfl, hb⟩
    have HB := Lib.hid hb
    have HC := Lib.hid (H1.out w1 hb)
    clear hb H1 H2 H
    go_wp2_with fail
    refine HC.out.mono ?_
    rintro e w2 ⟨N, rfl, h1, h2, h3⟩
    have HB2 := Lib.hid (HB.out.trans (h3.mono HB.out.size))
    clear h1 h2 h3 HC
    go_wp2
    go_ret2
    exact ⟨⟨_, _, _, by decide, by decide, rfl⟩, HB2.out⟩
  | big =>
    simp only [tup, Told] at H ⊢
    go_enter Tryd.func45, Tryd.ntmps45
    go_wp2_with fail
    refine H.out.mono ?_
    rintro e w1 ⟨rfl, hb⟩
    have HB := Lib.hid hb
    have HC := Lib.hid (H2.out w1 hb)
    clear hb H1 H2 H
    go_wp2_with fail
    refine HC.out.mono ?_
    rintro e w2 ⟨N, rfl, h1, h2, h3⟩
    have HB2 := Lib.hid (HB.out.trans (h3.mono HB.out.size))
    clear h1 h2 h3 HC
    go_wp2
    go_ret2
    exact ⟨⟨_, _, _, by decide, by decide, rfl⟩, HB2.out⟩
end Go.Proofs.YtdkdmclbhcbfeaaDoor.Nu
