/- slices.DeleteFunc by math.IsNaN at a row in order. -/
import Derived.Test.YtdkdmclbhcbfeaaDoorIx
import Derived.Test.YtdkdmclbhcbfeaaDoorSc
import Derived.Lib.SliceRun
namespace Go.Proofs.YtdkdmclbhcbfeaaDoor.Nu
open Go.RowKit Go.Proofs.YtdkdmclbhcbfeaaDoor.Fl Go.Proofs.YtdkdmclbhcbfeaaDoorW.PrintWords Go.Proofs.YtdkdmclbhcbfeaaDoorW.PrintLast Go.Proofs.YtdkdmclbhcbfeaaDoorW.PrintMore
set_option linter.unusedVariables false
set_option linter.unusedSimpArgs false
theorem zero_F (w : World) : (zeroValue 22).run Tryd.prog w = .ok (.float .f64 0) w := by kernel_rfl
theorem R_C {w : World} {base : Nat} {v : Value} {L : List Nat} (h : Kd.R kF 22 w base (fun _ => True) v L) : ∃ A c, v = .slice A L.length c ∧ kF.C w A L.length L ∧ L.length ≤ c := by
  obtain ⟨A, c, rfl⟩ := Kd.V_slice (Kd.R_V (base' := 0) h)
  have hV := Kd.V_reads' (Kd.R_V (base' := 0) h)
  exact ⟨A, c, rfl, hV.2.2, hV.2.1⟩
/-- the first k of a row, what lies behind written -/
theorem R_cut {w : World} {base g k cap : Nat} {L : List Nat} (h : Kd.R kF 22 w base (fun _ => True) (.slice (some ⟨g, 0, none⟩) L.length cap) L) (hk : k ≤ L.length) (vs : List Value) (hv : k + vs.length ≤ cap) :
    Kd.R kF 22 (w.setCells g k vs) base (fun _ => True) (.slice (some ⟨g, 0, none⟩) k cap) (L.take k) := by
  have h' := Kd.R_take h hk
  obtain ⟨_, inner, ⟨hil, ho⟩, hr⟩ := h'
  have hl : (L.take k).length = k := by rw [List.length_take]; omega
  rcases ho with ⟨h0, _⟩ | ⟨g2, cap2, cur, h1, hg, hcur, hcap, hmax, hcs, htake⟩
  · cases h0
  · have h1' := h1
    simp only [Value.slice.injEq, Option.some.injEq, Addr.mk.injEq] at h1'
    obtain ⟨⟨rfl, _, _⟩, _, rfl⟩ := h1'
    rw [kF_sz] at hcs htake hil
    refine ⟨fun _ _ => trivial, inner, ⟨by rw [kF_sz]; exact hil, .inr ⟨g, cap, setM cur k vs, by rw [hl], hg, setCells_blk hcur k vs, hcap, hmax, by rw [setM_size, kF_sz]; exact hcs, ?_⟩⟩, ?_⟩
    · rw [kF_sz, ← htake]
      apply List.ext_getElem?
      intro i
      rw [List.getElem?_take, List.getElem?_take, hl]
      split
      · rw [Array.getElem?_toList, Array.getElem?_toList, setM_get _ _ _ _ (by omega), if_neg (by omega)]
      · rfl
    · exact hr
theorem take_filter {L : List Nat} {k : Nat} (h2 : ∀ (j : Nat) y, j < k → L[j]? = some y → nan y = false) (h3 : ∀ (j : Nat) y, k ≤ j → L[j]? = some y → nan y = true) : L.take k = L.filter (fun x => !nan x) := by
  conv => rhs; rw [← List.take_append_drop k L, List.filter_append]
  rw [List.filter_eq_self.2, List.filter_eq_nil_iff.2, List.append_nil]
  · intro y hy
    obtain ⟨j, hj⟩ := List.mem_iff_getElem?.1 hy
    rw [List.getElem?_drop] at hj
    rw [h3 _ y (by omega) hj]
    simp
  · intro y hy
    obtain ⟨j, hj⟩ := List.mem_iff_getElem?.1 hy
    rw [List.getElem?_take] at hj
    split at hj
    · rw [h2 j y (by assumption) hj]; rfl
    · cases hj
set_option maxHeartbeats 1600000 in
set_option maxRecDepth 100000 in
theorem dele_calls {base : Nat} {v : Value} {l : List Nat} {w : World} (hrow : Kd.R kF 22 w base (fun _ => True) v l) (hlen : l.length ≤ 9223372036854775807)
    (hP : ∀ (i j : Nat) y z, i ≤ j → l[i]? = some y → l[j]? = some z → nan y = true → nan z = true) :
    Calls Tryd.prog 48 #[v, .func (.func 37) #[] #[]] w fun e w' => ∃ v', e = .returned v' ∧ Kd.R kF 22 w' base (fun _ => True) v' (l.filter (fun x => !nan x)) ∧ w.grownBy w' v.ownBlock := by
  obtain ⟨A, c, rfl, hr, hcap⟩ := R_C hrow
  have HI := Lib.hid (index_calls A c l w hr hlen)
  obtain ⟨n, hn⟩ : ∃ n, n = l.length := ⟨_, rfl⟩
  have HRow := Lib.hid hrow
  have HR := Lib.hid hr
  have HN := Lib.hid hn
  have eg : ∀ args w, (callFunc 37 args).run Tryd.prog w = .ok (.enter 37 args) w := enters_of Tryd.func37 (by kernel_rfl) rfl
  have HP := Lib.hid hP
  rw [← hn] at hlen hcap HI HRow ⊢
  clear hr hn hP hrow
  go_enter Tryd.func48, Tryd.ntmps48
  go_wp2_with fail
  refine HI.out.mono ?_
  rintro e w' ⟨⟨i, rfl, hi⟩, rfl⟩
  rcases hi with ⟨rfl, h1⟩ | ⟨k, rfl, h1, h2, h3⟩
  · have H1 := Lib.hid h1
    clear h1
    go_wp2
    go_ret
    refine ⟨_, rfl, ?_, grown_of_below (Below.refl _ _) _⟩
    rw [List.filter_eq_self.2 (fun y hy => by rw [H1.out y hy]; rfl)]
    exact HRow.out
  · have K1 := Lib.hid h2
    have K2 := Lib.hid h3
    have e1 : ((k : Int) == -1) = false := by rw [beq_eq_false_iff_ne]; omega
    clear h2 h3
    obtain ⟨hU1, inner, ⟨hil, ho⟩, hri⟩ := HRow.out
    clear hU1
    rcases ho with ⟨h0, h0'⟩ | ⟨g, cap, cur, h0, hg, hcur, hcap', hmax, hcs, htake⟩
    · exact absurd h0' (by have := HN.out; omega)
    · have h1' := h0
      simp only [Value.slice.injEq] at h1'
      obtain ⟨rfl, hU2, rfl⟩ := h1'
      clear hU2
      rw [kF_sz] at hcs
      have HB := Lib.hid hcur
      have hcl := fun ty => Lib.run_clear_slice (P := Tryd.prog) w 30 22 ty (.float .f64 0) Tryd.underlying30 zero_F rfl rfl g k (n - k) (c - k) (by omega) (fun j hj => by rw [blk_cell hcur, Array.getElem?_eq_getElem (by omega)]; rfl) (fun j hj => blk_frozen hcur _)
      have hrw := R_cut (k := k) (by have := HRow.out; rwa [HN.out] at this) (by have := HN.out; omega) (List.replicate (n - k) (.float .f64 0)) (by simp; omega)
      have hgr := grown_setCells w g k (List.replicate (n - k) (.float .f64 0))
      generalize w.setCells g k (List.replicate (n - k) (.float .f64 0)) = W2 at hcl hrw hgr
      have HW := Lib.hid hrw
      have HG := Lib.hid hgr
      clear hrw hgr h0 hil hri hg hcur hcap' hmax hcs htake
      go_wp2
      go_loopg [5, 6, 7] n (fun gg s5 s6 _ wr => ∃ j : Nat, k < j ∧ j ≤ n ∧ n - j ≤ gg ∧ s6 = .int .i64 j ∧ s5 = .int .i64 k ∧ w = wr)
      case atStart => exact ⟨k + 1, by omega, by omega, by omega, by go_num, rfl, rfl⟩
      case round =>
        obtain ⟨j, hkj, hj, hg, rfl, rfl, rfl⟩ := hrel
        by_cases hlt : j < n
        · have hlt' : j < l.length := by have := HN.out; omega
          obtain ⟨y, hy⟩ : ∃ y, l[j]? = some y := ⟨_, List.getElem?_eq_getElem hlt'⟩
          obtain ⟨z, hz⟩ : ∃ z, l[k]? = some z := ⟨_, List.getElem?_eq_getElem (by have := HN.out; omega)⟩
          have hny := HP.out k j z y (by omega) hz hy (K2.out z hz)
          have hR := HR.out
          obtain ⟨ad, hA, hc⟩ := hR.2.2 (by omega)
          obtain ⟨cs, hcl', hK, hcell⟩ := hc j y hy
          obtain rfl := kF_open hK
          have z0 := hcell 0 _ rfl
          rw [kF_sz, Nat.add_zero, Nat.mul_one] at z0
          have HC := Lib.hid (fun w => isnan_calls y w)
          rw [hny] at HC
          (try clear hK)
          (try clear hcl')
          clear hc hcell hR hy hz hny hcl
          cases hA
          have z1 : w.cell? ⟨g, j, none⟩ = some (.float .f64 y) := by simpa [Addr.add, show ¬ j = 0 by omega] using z0
          clear z0
          go_wp2_with fail
          refine (HC.out _).mono ?_
          rintro e w' ⟨rfl, rfl⟩
          go_wp2
          go_roundg (n - (j + 1))
          case measure => omega
          case rel => exact ⟨j + 1, by omega, by omega, by omega, by go_num, rfl, rfl⟩
        · obtain rfl : j = n := by omega
          have i1 : (0 : Int) ≤ (k : Int) := by omega
          have i2 : (k : Int) ≤ (j : Int) := by omega
          have i3 : (j : Int) ≤ (c : Int) := by omega
          have i4 : k ≤ j := by omega
          have i5 : (k : Int) ≤ (c : Int) := by omega
          have i6 : ¬ (c = k) := by omega
          go_wp2
          go_ret
          refine ⟨_, rfl, ?_, HG.out⟩
          rw [← take_filter K1.out (fun q y hq hy => by
            obtain ⟨z, hz⟩ : ∃ z, l[k]? = some z := ⟨_, List.getElem?_eq_getElem (by have := HN.out; omega)⟩
            exact HP.out k q z y hq hz hy (K2.out z hz))]
          exact HW.out
end Go.Proofs.YtdkdmclbhcbfeaaDoor.Nu
