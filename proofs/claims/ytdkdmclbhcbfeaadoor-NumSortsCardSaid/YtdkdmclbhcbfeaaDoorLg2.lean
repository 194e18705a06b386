/- The law on order, walked. -/
import Derived.Test.YtdkdmclbhcbfeaaDoorLa
import Derived.Test.YtdkdmclbhcbfeaaDoorOf
import Derived.Test.YtdkdmclbhcbfeaaDoorRl
namespace Go.Proofs.YtdkdmclbhcbfeaaDoor.Nu
open Go.RowKit Go.Proofs.YtdkdmclbhcbfeaaDoor.Fl Go.Proofs.YtdkdmclbhcbfeaaDoorW.PrintWords Go.Proofs.YtdkdmclbhcbfeaaDoorW.PrintLast Go.Proofs.YtdkdmclbhcbfeaaDoorW.PrintMore
set_option linter.unusedVariables false
set_option linter.unusedSimpArgs false
theorem CF_cell {w : World} {A : Option Addr} {n : Nat} {L : List Nat} (h : kF.C w A n L) (hn : 0 < n) (i x : Nat) (hx : L[i]? = some x) : ∃ ad, A = some ad ∧ w.cell? (ad.add i) = some (.float .f64 x) := by
  obtain ⟨ad, hA, hc⟩ := h.2.2 hn
  refine ⟨ad, hA, ?_⟩
  obtain ⟨cs, hcl, hK, hcell⟩ := hc i x hx
  obtain rfl := kF_open hK
  have := hcell 0 _ rfl
  rwa [kF_sz, Nat.add_zero, Nat.mul_one] at this
theorem R_Cn {w : World} {base n : Nat} {v : Value} {L : List Nat} (h : Kd.R kF 22 w base (fun _ => True) v L) (hn : L.length = n) : ∃ A c, v = .slice A n c ∧ kF.C w A n L := by
  subst hn
  obtain ⟨A, c, h1, h2, _⟩ := R_C h
  exact ⟨A, c, h1, h2⟩
theorem R_CUn {w : World} {base n : Nat} {v : Value} {L : List Nat} (h : Kd.R kU 25 w base (fun _ => True) v L) (hn : L.length = n) : ∃ A c, v = .slice A n c ∧ kU.C w A n L := by
  subst hn
  obtain ⟨A, c, h1, h2, _⟩ := R_CU h
  exact ⟨A, c, h1, h2⟩
theorem CU_cell {w : World} {A : Option Addr} {n : Nat} {L : List Nat} (h : kU.C w A n L) (hn : 0 < n) (i x : Nat) (hx : L[i]? = some x) : ∃ ad, A = some ad ∧ w.cell? (ad.add i) = some (.int .u64 (x : Int)) := by
  obtain ⟨ad, hA, hc⟩ := h.2.2 hn
  subst hA
  exact ⟨ad, rfl, C_cell h hn i x hx⟩
/-- where a turn begins -/
theorem turn_at (turn : Int) (n : Nat) (h : 0 < n) (hn : n ≤ 9223372036854775807) : ∃ q : Nat, q < n ∧ Go.RowKit.wrap64 ((IntKind.u64.wrap turn).tmod (n : Int)) = (q : Int) := by
  have h1 : 0 ≤ IntKind.u64.wrap turn := by rw [IntKind.wrap_u64]; omega
  refine ⟨((IntKind.u64.wrap turn).tmod (n : Int)).toNat, ?_, ?_⟩
  · have := Int.tmod_lt_of_pos (IntKind.u64.wrap turn) (show (0 : Int) < n by omega)
    have := Int.tmod_nonneg (n : Int) h1
    omega
  · have := Int.tmod_lt_of_pos (IntKind.u64.wrap turn) (show (0 : Int) < n by omega)
    have := Int.tmod_nonneg (n : Int) h1
    generalize (IntKind.u64.wrap turn).tmod (n : Int) = q at *
    unfold Go.RowKit.wrap64
    omega
theorem turn_perm (l : List Nat) (q : Nat) : (l.drop q ++ l.take q).Perm l := by
  refine List.perm_append_comm.trans ?_
  rw [List.take_append_drop]
set_option maxHeartbeats 6400000 in
set_option maxRecDepth 100000 in
theorem sorts_walk (A : Option Addr) (len cap : Nat) (l : List Nat) (turn : Int) (w : World) (hr : RowF w A len l) (hs : len * 8 ≤ 140737488351232) (hcap : len ≤ cap ∧ cap ≤ 9223372036854775807) (wt : (Lit.int .i64 turn).wf = true) (hT : Tabs w) : Calls Tryd.prog 4 #[.slice A len cap, .int .i64 turn] w fun e w' => e = .returned (.bool true) ∧ Below w.heap.size w w' := by
  obtain rfl : l.length = len := hr.1
  have hC := hr.C (by omega)
  have hl := hr.2.2
  have H0 := Lib.hid (fixed_calls w hT)
  have HC := Lib.hid hC
  have HL := Lib.hid hl
  have H1 := Lib.hid (fun W (h : Below w.heap.size w W) => rsort_calls l.length A cap l W rfl (Kd.C_below hC h) hcap.1 hcap.2 hl hs)
  have H2 := Lib.hid (fun W (h : Below w.heap.size w W) => nsort_calls A cap l W (Kd.C_below hC h) hl (by omega))
  have H3 := Lib.hid (fun W (h : Below w.heap.size w W) => least_calls A cap l W (Kd.C_below hC h) hl (by omega))
  have H4 := Lib.hid (fun W (h : Below w.heap.size w W) => rleast_calls A cap l W (Kd.C_below hC h) hcap.1 hcap.2 hl hs)
  have H5 := Lib.hid (fun W (h : Below w.heap.size w W) => greatest_calls A cap l W (Kd.C_below hC h) hl (by omega))
  have H6 := Lib.hid (fun W (h : Below w.heap.size w W) => rgreat_calls A cap l W (Kd.C_below hC h) hcap.1 hcap.2 hl hs)
  have H7 := Lib.hid (fun w => bits_calls (leastV l) w)
  have H8 := Lib.hid (fun w => bits_calls (greatV l) w)
  have HSL := Lib.hid (sortV_length l)
  obtain ⟨n, hn⟩ : ∃ n, n = l.length := ⟨_, rfl⟩
  have HN := Lib.hid hn
  rw [← hn] at H1 H2 H3 H4 H5 H6 HSL hs hcap ⊢
  clear hr hl hC hT hn
  go_enter Tryd.func4, Tryd.ntmps4
  go_wp2_with fail
  refine H0.out.mono ?_
  rintro e w1 ⟨rfl, hb⟩
  have B1 := Lib.hid hb
  clear hb H0
  go_wp2_with fail
  refine (H1.out _ B1.out).mono ?_
  rintro e w2 ⟨v2, rfl, hR, hb⟩
  have B2 := Lib.hid (B1.out.trans (hb.mono B1.out.size))
  have R2 := Lib.hid (Kd.R_lower hR B1.out.size)
  clear hb hR H1
  by_cases h0 : n = 0
  · have hn00 : ¬ ((0 : Int) < (n : Int)) := by omega
    have B4 := Lib.hid B2.out
    have B24 := Lib.hid (Below.refl w2.heap.size w2)
    have hl0 : l = [] := List.length_eq_zero_iff.1 (by rw [← HN.out]; exact h0)
    have HM := Lib.hid (fun W (h : Below w2.heap.size w2 W) => (show Calls Tryd.prog 21 #[.slice none 0 0] W fun e w' => SomeF W (sortV l) e w' from by rw [hl0]; exact nsort_calls none 0 [] W (⟨rfl, by decide, fun h => absurd h (by decide)⟩) (fun x hx => by cases hx) (by decide)))
    clear hl0 h0
    go_wp2_with fail
    refine (H2.out _ B4.out).mono ?_
    rintro e w6 ⟨v6, rfl, hR, hb⟩
    have B6 := Lib.hid (B4.out.trans (hb.mono B4.out.size))
    have B46 := Lib.hid hb
    obtain ⟨A6, c6, rfl, hC6⟩ := R_Cn hR HSL.out
    have HC6 := Lib.hid hC6
    clear hb hR H2 hC6
    go_wp2_with fail
    refine (HM.out _ B46.out).mono ?_
    rintro e w7 ⟨v7, rfl, hR, hb⟩
    have B7 := Lib.hid (B6.out.trans (hb.mono B6.out.size))
    obtain ⟨A7, c7, rfl, hC7⟩ := R_Cn hR HSL.out
    obtain ⟨A2, c2, rfl, hC2⟩ := R_CUn R2.out HSL.out
    have hC2' := Kd.C_below hC2 (B24.out.trans ((B46.out.mono B24.out.size).trans (hb.mono (Nat.le_trans B24.out.size B46.out.size))))
    have hC6' := Kd.C_below HC6.out hb
    have B8 := Lib.hid (below_alloc B7.out (.cells #[.slice A6 n c6, .slice A7 n c7] 30))
    have hal := below_alloc (Below.refl w7.heap.size w7) (.cells #[.slice A6 n c6, .slice A7 n c7] 30)
    have K2 := Lib.hid (Kd.C_below hC2' hal)
    have K6 := Lib.hid (Kd.C_below hC6' hal)
    have K7 := Lib.hid (Kd.C_below hC7 hal)
    have hnew := blk_new w7 (.cells #[.slice A6 n c6, .slice A7 n c7] 30)
    have Z6 := Lib.hid (show (w7.alloc (.cells #[.slice A6 n c6, .slice A7 n c7] 30)).cell? ⟨w7.heap.size, 0, none⟩ = some (.slice A6 n c6) from by rw [blk_cell hnew]; rfl)
    have Z7 := Lib.hid (show (w7.alloc (.cells #[.slice A6 n c6, .slice A7 n c7] 30)).cell? ⟨w7.heap.size, 1, none⟩ = some (.slice A7 n c7) from by rw [blk_cell hnew]; rfl)
    clear hal hnew hC7 hC6' hC2' hC2 hR hb HC6 HM
    generalize sortV l = S at *
    go_wp2
    generalize w7.alloc (.cells #[.slice A6 n c6, .slice A7 n c7] 30) = W8 at K2 K6 K7 Z6 Z7 B8 ⊢
    generalize w7.heap.size = N at Z6 Z7 ⊢
    go_loopg [9, 10, 40] 2 (fun gg _ _ s40 W => ∃ (k : Nat) (wr : World), k ≤ 2 ∧ 2 - k ≤ gg ∧ s40 = .int .i64 k ∧ wr = W ∧ Aside (Below W8.heap.size W8 wr))
    case atStart => exact ⟨0, _, by omega, by omega, rfl, rfl, Below.refl _ _⟩
    case round =>
      obtain ⟨k, wr, hk, hg, rfl, rfl, BW⟩ := hrel
      obtain rfl | rfl | rfl : k = 0 ∨ k = 1 ∨ k = 2 := by omega
      · have zk : wr.cell? ⟨N, 0, none⟩ = some (.slice A6 n c6) := cell_kept BW.out Z6.out
        go_wp2
        go_loopg [10, 51] n (fun gg _ s51 W => ∃ (i : Nat) (wr : World), i ≤ n ∧ n - i ≤ gg ∧ s51 = .int .i64 i ∧ wr = W ∧ Aside (Below W8.heap.size W8 wr))
        case atStart => exact ⟨0, _, Nat.zero_le _, by omega, rfl, rfl, BW.out⟩
        case round =>
          obtain ⟨i, wi, hi, hgi, rfl, rfl, BI⟩ := hrel
          by_cases hin : i < n
          · obtain ⟨x, hx⟩ : ∃ x, S[i]? = some x := ⟨_, List.getElem?_eq_getElem (by have := HSL.out; omega)⟩
            obtain ⟨g, hg1, z1⟩ := CF_cell (Kd.C_below K6.out BI.out) (by omega) i x hx
            obtain ⟨g2, hg2, z2⟩ := CU_cell (Kd.C_below K2.out BI.out) (by omega) i x hx
            have i1 : (i : Int) < (n : Int) := by omega
            have HBX := Lib.hid (fun w => bits_calls x w)
            have BI2 := Lib.hid (BI.out.drew)
            clear hx
            cases hg1
            cases hg2
            go_wp2
            refine start_ (n := 10) (S := (fun W => W = wi.drew)) (ds := []) #[false, false, false, false, false, false, false, false, false, false] (by kernel_rfl) rfl rfl rfl (fun hHeld => ?_)
            refine pure_ (i := 0) (N := (some 54)) (v := ?_) (a' := ?_) #[true, false, false, false, false, false, false, false, false, false] rfl rfl (by kernel_rfl) (fun _ _ _ h => h) (Or.inl ⟨by rfl, ?_⟩) ?_ ?_
            rotate_left
            · intro w'
              go_simp
              with_reducible rfl
            rotate_left
            · simp only [Act.put, List.setIfInBounds_toArray, List.set_cons_zero, List.set_cons_succ, i64_w, i32_w]
              rfl
            refine pure_ (i := 1) (N := (some 55)) (v := ?_) (a' := ?_) #[true, true, false, false, false, false, false, false, false, false] rfl rfl (by kernel_rfl) (fun _ _ _ h => h) (Or.inl ⟨by rfl, ?_⟩) ?_ ?_
            rotate_left
            · intro w'
              go_simp
              with_reducible rfl
            rotate_left
            · simp only [Act.put, List.setIfInBounds_toArray, List.set_cons_zero, List.set_cons_succ, i64_w, i32_w]
              rfl
            refine pure_ (i := 2) (N := (some 56)) (v := ?_) (a' := ?_) #[true, true, true, false, false, false, false, false, false, false] rfl rfl (by kernel_rfl) (fun _ _ _ h => h) (Or.inl ⟨by rfl, ?_⟩) ?_ ?_
            rotate_left
            · intro w'
              go_simp
              with_reducible rfl
            rotate_left
            · simp only [Act.put, List.setIfInBounds_toArray, List.set_cons_zero, List.set_cons_succ, i64_w, i32_w]
              rfl
            refine take_ (i := 3) (N := (some 57)) (v := ?_) (a' := ?_) #[true, true, true, true, false, false, false, false, false, false] rfl rfl (by kernel_rfl) (fun _ _ _ h => h) (Or.inl ⟨by rfl, ?_⟩) hHeld ?_ ?_
            rotate_left
            · intro w' hS'
              obtain ⟨rfl⟩ := hS'
              go_simp
              with_reducible rfl
            rotate_left
            · simp only [Act.put, List.setIfInBounds_toArray, List.set_cons_zero, List.set_cons_succ, i64_w, i32_w]
              rfl
            refine pure_ (i := 5) (N := (some 59)) (v := ?_) (a' := ?_) #[true, true, true, true, false, true, false, false, false, false] rfl rfl (by kernel_rfl) (fun _ _ _ h => h) (Or.inl ⟨by rfl, ?_⟩) ?_ ?_
            rotate_left
            · intro w'
              go_simp
              with_reducible rfl
            rotate_left
            · simp only [Act.put, List.setIfInBounds_toArray, List.set_cons_zero, List.set_cons_succ, i64_w, i32_w]
              rfl
            refine pure_ (i := 6) (N := (some 60)) (v := ?_) (a' := ?_) #[true, true, true, true, false, true, true, false, false, false] rfl rfl (by kernel_rfl) (fun _ _ _ h => h) (Or.inl ⟨by rfl, ?_⟩) ?_ ?_
            rotate_left
            · intro w'
              go_simp
              with_reducible rfl
            rotate_left
            · simp only [Act.put, List.setIfInBounds_toArray, List.set_cons_zero, List.set_cons_succ, i64_w, i32_w]
              rfl
            refine pure_ (i := 7) (N := (some 61)) (v := ?_) (a' := ?_) #[true, true, true, true, false, true, true, true, false, false] rfl rfl (by kernel_rfl) (fun _ _ _ h => h) (Or.inl ⟨by rfl, ?_⟩) ?_ ?_
            rotate_left
            · intro w'
              go_simp
              with_reducible rfl
            rotate_left
            · simp only [Act.put, List.setIfInBounds_toArray, List.set_cons_zero, List.set_cons_succ, i64_w, i32_w]
              rfl
            refine take_ (i := 8) (N := (some 62)) (v := ?_) (a' := ?_) #[true, true, true, true, false, true, true, true, true, false] rfl rfl (by kernel_rfl) (fun _ _ _ h => h) (Or.inl ⟨by rfl, ?_⟩) hHeld ?_ ?_
            rotate_left
            · intro w' hS'
              obtain ⟨rfl⟩ := hS'
              go_simp
              with_reducible rfl
            rotate_left
            · simp only [Act.put, List.setIfInBounds_toArray, List.set_cons_zero, List.set_cons_succ, i64_w, i32_w]
              rfl
            refine one_ (i := 4) (N := (some 58)) #[true, true, true, true, true, true, true, true, true, false] rfl rfl (by kernel_rfl) (by decide) (fun K hK => ?_)
            refine goes_ Tryd.func15 (by kernel_rfl) rfl #[.float .f64 x] (by rfl) rfl rfl (by (try simp only [List.map_toArray, List.map_cons, List.map_nil]); first | done | rfl) ?_
            with_reducible refine (HBX.out _).mono ?_
            rintro e w' ⟨rfl, rfl⟩
            refine ⟨_, rfl, ?_⟩
            have hS2 := hHeld
            (try clear hHeld)
            refine hK.out _ _ hS2 (fun hHeld => ?_)
            clear hK K hS2
            refine norm_ (a' := ?_) ?_ ?_
            rotate_left
            · show Act.put _ (some 58) _ = _
              simp only [Act.put, List.setIfInBounds_toArray, List.set_cons_zero, List.set_cons_succ, i64_w, i32_w]
              rfl
            refine pure_ (i := 9) (N := (some 63)) (v := ?_) (a' := ?_) #[true, true, true, true, true, true, true, true, true, true] rfl rfl (by kernel_rfl) (fun _ _ _ h => h) (Or.inl ⟨by rfl, ?_⟩) ?_ ?_
            rotate_left
            · intro w'
              go_simp
              with_reducible rfl
            rotate_left
            · simp only [Act.put, List.setIfInBounds_toArray, List.set_cons_zero, List.set_cons_succ, i64_w, i32_w]
              rfl
            refine done_ (by kernel_rfl) ?_
            (try clear hHeld)
            generalize wi.drew = wd at BI2 ⊢
            clear z1 z2
            go_wp2
            go_roundg (n - (i + 1))
            case measure => omega
            case rel => exact ⟨i + 1, wd, by omega, by omega, (by first | rfl | go_num), rfl, BI2.out⟩
          · obtain rfl : i = n := by omega
            go_wp2
            have BJ := Lib.hid BI.out
            go_roundg 1
            case measure => omega
            case rel => exact ⟨1, _, by omega, by omega, (by first | rfl | go_num), rfl, BJ.out⟩
      · have zk : wr.cell? ⟨N, 1, none⟩ = some (.slice A7 n c7) := cell_kept BW.out Z7.out
        go_wp2
        go_loopg [10, 51] n (fun gg _ s51 W => ∃ (i : Nat) (wr : World), i ≤ n ∧ n - i ≤ gg ∧ s51 = .int .i64 i ∧ wr = W ∧ Aside (Below W8.heap.size W8 wr))
        case atStart => exact ⟨0, _, Nat.zero_le _, by omega, rfl, rfl, BW.out⟩
        case round =>
          obtain ⟨i, wi, hi, hgi, rfl, rfl, BI⟩ := hrel
          by_cases hin : i < n
          · obtain ⟨x, hx⟩ : ∃ x, S[i]? = some x := ⟨_, List.getElem?_eq_getElem (by have := HSL.out; omega)⟩
            obtain ⟨g, hg1, z1⟩ := CF_cell (Kd.C_below K7.out BI.out) (by omega) i x hx
            obtain ⟨g2, hg2, z2⟩ := CU_cell (Kd.C_below K2.out BI.out) (by omega) i x hx
            have i1 : (i : Int) < (n : Int) := by omega
            have HBX := Lib.hid (fun w => bits_calls x w)
            have BI2 := Lib.hid (BI.out.drew)
            clear hx
            cases hg1
            cases hg2
            go_wp2
            refine start_ (n := 10) (S := (fun W => W = wi.drew)) (ds := []) #[false, false, false, false, false, false, false, false, false, false] (by kernel_rfl) rfl rfl rfl (fun hHeld => ?_)
            refine pure_ (i := 0) (N := (some 54)) (v := ?_) (a' := ?_) #[true, false, false, false, false, false, false, false, false, false] rfl rfl (by kernel_rfl) (fun _ _ _ h => h) (Or.inl ⟨by rfl, ?_⟩) ?_ ?_
            rotate_left
            · intro w'
              go_simp
              with_reducible rfl
            rotate_left
            · simp only [Act.put, List.setIfInBounds_toArray, List.set_cons_zero, List.set_cons_succ, i64_w, i32_w]
              rfl
            refine pure_ (i := 1) (N := (some 55)) (v := ?_) (a' := ?_) #[true, true, false, false, false, false, false, false, false, false] rfl rfl (by kernel_rfl) (fun _ _ _ h => h) (Or.inl ⟨by rfl, ?_⟩) ?_ ?_
            rotate_left
            · intro w'
              go_simp
              with_reducible rfl
            rotate_left
            · simp only [Act.put, List.setIfInBounds_toArray, List.set_cons_zero, List.set_cons_succ, i64_w, i32_w]
              rfl
            refine pure_ (i := 2) (N := (some 56)) (v := ?_) (a' := ?_) #[true, true, true, false, false, false, false, false, false, false] rfl rfl (by kernel_rfl) (fun _ _ _ h => h) (Or.inl ⟨by rfl, ?_⟩) ?_ ?_
            rotate_left
            · intro w'
              go_simp
              with_reducible rfl
            rotate_left
            · simp only [Act.put, List.setIfInBounds_toArray, List.set_cons_zero, List.set_cons_succ, i64_w, i32_w]
              rfl
            refine take_ (i := 3) (N := (some 57)) (v := ?_) (a' := ?_) #[true, true, true, true, false, false, false, false, false, false] rfl rfl (by kernel_rfl) (fun _ _ _ h => h) (Or.inl ⟨by rfl, ?_⟩) hHeld ?_ ?_
            rotate_left
            · intro w' hS'
              obtain ⟨rfl⟩ := hS'
              go_simp
              with_reducible rfl
            rotate_left
            · simp only [Act.put, List.setIfInBounds_toArray, List.set_cons_zero, List.set_cons_succ, i64_w, i32_w]
              rfl
            refine pure_ (i := 5) (N := (some 59)) (v := ?_) (a' := ?_) #[true, true, true, true, false, true, false, false, false, false] rfl rfl (by kernel_rfl) (fun _ _ _ h => h) (Or.inl ⟨by rfl, ?_⟩) ?_ ?_
            rotate_left
            · intro w'
              go_simp
              with_reducible rfl
            rotate_left
            · simp only [Act.put, List.setIfInBounds_toArray, List.set_cons_zero, List.set_cons_succ, i64_w, i32_w]
              rfl
            refine pure_ (i := 6) (N := (some 60)) (v := ?_) (a' := ?_) #[true, true, true, true, false, true, true, false, false, false] rfl rfl (by kernel_rfl) (fun _ _ _ h => h) (Or.inl ⟨by rfl, ?_⟩) ?_ ?_
            rotate_left
            · intro w'
              go_simp
              with_reducible rfl
            rotate_left
            · simp only [Act.put, List.setIfInBounds_toArray, List.set_cons_zero, List.set_cons_succ, i64_w, i32_w]
              rfl
            refine pure_ (i := 7) (N := (some 61)) (v := ?_) (a' := ?_) #[true, true, true, true, false, true, true, true, false, false] rfl rfl (by kernel_rfl) (fun _ _ _ h => h) (Or.inl ⟨by rfl, ?_⟩) ?_ ?_
            rotate_left
            · intro w'
              go_simp
              with_reducible rfl
            rotate_left
            · simp only [Act.put, List.setIfInBounds_toArray, List.set_cons_zero, List.set_cons_succ, i64_w, i32_w]
              rfl
            refine take_ (i := 8) (N := (some 62)) (v := ?_) (a' := ?_) #[true, true, true, true, false, true, true, true, true, false] rfl rfl (by kernel_rfl) (fun _ _ _ h => h) (Or.inl ⟨by rfl, ?_⟩) hHeld ?_ ?_
            rotate_left
            · intro w' hS'
              obtain ⟨rfl⟩ := hS'
              go_simp
              with_reducible rfl
            rotate_left
            · simp only [Act.put, List.setIfInBounds_toArray, List.set_cons_zero, List.set_cons_succ, i64_w, i32_w]
              rfl
            refine one_ (i := 4) (N := (some 58)) #[true, true, true, true, true, true, true, true, true, false] rfl rfl (by kernel_rfl) (by decide) (fun K hK => ?_)
            refine goes_ Tryd.func15 (by kernel_rfl) rfl #[.float .f64 x] (by rfl) rfl rfl (by (try simp only [List.map_toArray, List.map_cons, List.map_nil]); first | done | rfl) ?_
            with_reducible refine (HBX.out _).mono ?_
            rintro e w' ⟨rfl, rfl⟩
            refine ⟨_, rfl, ?_⟩
            have hS2 := hHeld
            (try clear hHeld)
            refine hK.out _ _ hS2 (fun hHeld => ?_)
            clear hK K hS2
            refine norm_ (a' := ?_) ?_ ?_
            rotate_left
            · show Act.put _ (some 58) _ = _
              simp only [Act.put, List.setIfInBounds_toArray, List.set_cons_zero, List.set_cons_succ, i64_w, i32_w]
              rfl
            refine pure_ (i := 9) (N := (some 63)) (v := ?_) (a' := ?_) #[true, true, true, true, true, true, true, true, true, true] rfl rfl (by kernel_rfl) (fun _ _ _ h => h) (Or.inl ⟨by rfl, ?_⟩) ?_ ?_
            rotate_left
            · intro w'
              go_simp
              with_reducible rfl
            rotate_left
            · simp only [Act.put, List.setIfInBounds_toArray, List.set_cons_zero, List.set_cons_succ, i64_w, i32_w]
              rfl
            refine done_ (by kernel_rfl) ?_
            (try clear hHeld)
            generalize wi.drew = wd at BI2 ⊢
            clear z1 z2
            go_wp2
            go_roundg (n - (i + 1))
            case measure => omega
            case rel => exact ⟨i + 1, wd, by omega, by omega, (by first | rfl | go_num), rfl, BI2.out⟩
          · obtain rfl : i = n := by omega
            go_wp2
            have BJ := Lib.hid BI.out
            go_roundg 0
            case measure => omega
            case rel => exact ⟨2, _, by omega, by omega, (by first | rfl | go_num), rfl, BJ.out⟩
      · have BF := Lib.hid (B8.out.trans (BW.out.mono B8.out.size))
        go_wp2_with fail
        refine (H3.out _ BF.out).mono ?_
        rintro e y1 ⟨rfl, hb⟩
        have F1 := Lib.hid (BF.out.trans (hb.mono BF.out.size))
        clear hb
        go_wp2_with fail
        refine (H7.out _).mono ?_
        rintro e w' ⟨rfl, rfl⟩
        go_wp2_with fail
        refine (H4.out _ F1.out).mono ?_
        rintro e y2 ⟨rfl, hb⟩
        have F2 := Lib.hid (F1.out.trans (hb.mono F1.out.size))
        clear hb
        go_wp2_with fail
        refine (H5.out _ F2.out).mono ?_
        rintro e y3 ⟨rfl, hb⟩
        have F3 := Lib.hid (F2.out.trans (hb.mono F2.out.size))
        clear hb
        go_wp2_with fail
        refine (H8.out _).mono ?_
        rintro e w' ⟨rfl, rfl⟩
        go_wp2_with fail
        refine (H6.out _ F3.out).mono ?_
        rintro e y4 ⟨rfl, hb⟩
        have F4 := Lib.hid (F3.out.trans (hb.mono F3.out.size))
        clear hb
        go_wp2
        go_ret
        exact ⟨by simp, F4.out⟩
  · obtain ⟨q, hq, hqe⟩ := turn_at turn n (by omega) (by omega)
    have hn0 : (0 : Int) < (n : Int) := by omega
    have hA : ∃ ad, A = some ad := by obtain ⟨ad, hA, _⟩ := HC.out.2.2 (by have := HN.out; omega); exact ⟨ad, hA⟩
    obtain ⟨ad, rfl⟩ := hA
    have q1 : (0 : Int) ≤ (q : Int) := by omega
    have q2 : (q : Int) ≤ (n : Int) := by omega
    have q3 : (n : Int) ≤ (cap : Int) := by have := hcap.1; omega
    have q4 : (q : Int) ≤ (cap : Int) := by omega
    have q5 : ¬ cap = q := by have := hcap.1; omega
    have CT := Lib.hid (fun W (hb : Below w.heap.size w W) => (show kF.C W (some ad) q (l.take q) from by
      have z := Kd.C_take (m := q) (Kd.C_below HC.out hb) (by rw [← HN.out]; omega)
      rwa [show (l.take q).length = q by rw [List.length_take, ← HN.out]; omega] at z))
    have CD := Lib.hid (fun W (hb : Below w.heap.size w W) => (show kF.C W (some (ad.add q)) (n - q) (l.drop q) from by
      have z := Kd.C_drop (m := q) (c := cap) (Kd.C_below HC.out hb) (by rw [← HN.out]; omega) (by rw [← HN.out]; exact hcap.1)
      rw [if_neg q5, List.length_drop, ← HN.out, kF_sz, Nat.mul_one] at z
      exact z))
    have HLQ := Lib.hid (show (l.take q).length = q ∧ (l.drop q).length = n - q from ⟨by rw [List.length_take, ← HN.out]; omega, by rw [List.length_drop, ← HN.out]⟩)
    have R0 := Lib.hid (Kd.R_nil kF 22 w2.drew w2.heap.size (fun _ => True))
    go_wp2
    refine start_ (n := 10) (S := (fun _ => True)) (ds := []) #[false, false, false, false, false, false, false, false, false, false] (by kernel_rfl) rfl rfl trivial (fun hHeld => ?_)
    refine pure_ (i := 0) (N := (some 25)) (v := ?_) (a' := ?_) #[true, false, false, false, false, false, false, false, false, false] rfl rfl (by kernel_rfl) (fun _ _ _ h => h) (Or.inl ⟨by rfl, ?_⟩) ?_ ?_
    rotate_left
    · intro w'
      go_simp
      with_reducible rfl
    rotate_left
    · simp only [Act.put, List.setIfInBounds_toArray, List.set_cons_zero, List.set_cons_succ, i64_w, i32_w]
      rfl
    refine pure_ (i := 1) (N := (some 26)) (v := ?_) (a' := ?_) #[true, true, false, false, false, false, false, false, false, false] rfl rfl (by kernel_rfl) (fun _ _ _ h => h) (Or.inl ⟨by rfl, ?_⟩) ?_ ?_
    rotate_left
    · intro w'
      go_simp
      with_reducible rfl
    rotate_left
    · simp only [Act.put, List.setIfInBounds_toArray, List.set_cons_zero, List.set_cons_succ, i64_w, i32_w]
      rfl
    refine pure_ (i := 2) (N := (some 27)) (v := ?_) (a' := ?_) #[true, true, true, false, false, false, false, false, false, false] rfl rfl (by kernel_rfl) (fun _ _ _ h => h) (Or.inl ⟨by rfl, ?_⟩) ?_ ?_
    rotate_left
    · intro w'
      go_simp
      with_reducible rfl
    rotate_left
    · simp only [Act.put, List.setIfInBounds_toArray, List.set_cons_zero, List.set_cons_succ, i64_w, i32_w]
      rfl
    refine pure_ (i := 3) (N := (some 28)) (v := ?_) (a' := ?_) #[true, true, true, true, false, false, false, false, false, false] rfl rfl (by kernel_rfl) (fun _ _ _ h => h) (Or.inl ⟨by rfl, ?_⟩) ?_ ?_
    rotate_left
    · intro w'
      go_simp
      with_reducible rfl
    rotate_left
    · simp only [Act.put, List.setIfInBounds_toArray, List.set_cons_zero, List.set_cons_succ, i64_w, i32_w]
      rfl
    refine pure_ (i := 5) (N := (some 30)) (v := ?_) (a' := ?_) #[true, true, true, true, false, true, false, false, false, false] rfl rfl (by kernel_rfl) (fun _ _ _ h => h) (Or.inl ⟨by rfl, ?_⟩) ?_ ?_
    rotate_left
    · intro w'
      go_simp
      with_reducible rfl
    rotate_left
    · simp only [Act.put, List.setIfInBounds_toArray, List.set_cons_zero, List.set_cons_succ, i64_w, i32_w]
      rfl
    refine pure_ (i := 6) (N := (some 31)) (v := ?_) (a' := ?_) #[true, true, true, true, false, true, true, false, false, false] rfl rfl (by kernel_rfl) (fun _ _ _ h => h) (Or.inl ⟨by rfl, ?_⟩) ?_ ?_
    rotate_left
    · intro w'
      go_simp
      with_reducible rfl
    rotate_left
    · simp only [Act.put, List.setIfInBounds_toArray, List.set_cons_zero, List.set_cons_succ, i64_w, i32_w]
      rfl
    refine pure_ (i := 7) (N := (some 32)) (v := ?_) (a' := ?_) #[true, true, true, true, false, true, true, true, false, false] rfl rfl (by kernel_rfl) (fun _ _ _ h => h) (Or.inl ⟨by rfl, ?_⟩) ?_ ?_
    rotate_left
    · intro w'
      go_simp
      with_reducible rfl
    rotate_left
    · simp only [Act.put, List.setIfInBounds_toArray, List.set_cons_zero, List.set_cons_succ, i64_w, i32_w]
      rfl
    refine one_ (i := 4) (N := (some 29)) #[true, true, true, true, true, true, true, true, false, false] rfl rfl (by kernel_rfl) (by decide) (fun K hK => ?_)
    refine Kd.R_append_rows_step kF (Rr := fun x cs => cs = [.float .f64 x]) (w0 := w2) w2.heap.size (by rfl) (.tmp 25) (.tmp 28) 30 22 (.float .f64 0) 8 (by rfl) Tryd.underlying30 info_F rfl (by decide) (by decide) (.slice none 0 0) [] (l.drop q) (some (ad.add q)) (n - q) (cap - q) (fun _ => True) (fun _ => False) rfl rfl R0.out (CD.out _ B2.out.drew) (fun x cs h => h) (fun _ hk => hk.elim) (fun _ _ => trivial) (Below.drew (Below.refl _ _)) (Nat.le_refl _) (by simp only [List.length_nil]; omega) ?_
    intro v3 w3 hr1 hb1 hg1 hat1
    have B3 := Lib.hid hb1
    have R3 := Lib.hid hr1
    clear hr1 hb1 hg1 hat1
    have hS2 : True := trivial
    (try clear hHeld)
    refine hK.out _ _ hS2 (fun hHeld => ?_)
    clear hK K hS2
    refine norm_ (a' := ?_) ?_ ?_
    rotate_left
    · show Act.put _ (some 29) _ = _
      simp only [Act.put, List.setIfInBounds_toArray, List.set_cons_zero, List.set_cons_succ, i64_w, i32_w]
      rfl
    refine one_ (i := 8) (N := (some 33)) #[true, true, true, true, true, true, true, true, true, false] rfl rfl (by kernel_rfl) (by decide) (fun K hK => ?_)
    refine Kd.R_append_rows_step kF (Rr := fun x cs => cs = [.float .f64 x]) (w0 := w2) w2.heap.size (by rfl) (.tmp 29) (.tmp 32) 30 22 (.float .f64 0) 8 (by rfl) Tryd.underlying30 info_F rfl (by decide) (by decide) v3 ([] ++ l.drop q) (l.take q) (some ad) q cap (fun _ => True) (fun _ => False) rfl rfl R3.out (CT.out _ (B2.out.trans (B3.out.mono B2.out.size))) (fun x cs h => h) (fun _ hk => hk.elim) (fun _ _ => trivial) B3.out B3.out.size (by rw [List.nil_append, HLQ.out.2]; omega) ?_
    intro v4 w4 hr1 hb1 hg1 hat1
    have B4 := Lib.hid hb1
    have R4 := Lib.hid hr1
    clear hr1 hb1 hg1 hat1
    have hS2 : True := trivial
    (try clear hHeld)
    refine hK.out _ _ hS2 (fun hHeld => ?_)
    clear hK K hS2
    refine norm_ (a' := ?_) ?_ ?_
    rotate_left
    · show Act.put _ (some 33) _ = _
      simp only [Act.put, List.setIfInBounds_toArray, List.set_cons_zero, List.set_cons_succ, i64_w, i32_w]
      rfl
    refine pure_ (i := 9) (N := (some 6)) (v := ?_) (a' := ?_) #[true, true, true, true, true, true, true, true, true, true] rfl rfl (by kernel_rfl) (fun _ _ _ h => h) (Or.inl ⟨by rfl, ?_⟩) ?_ ?_
    rotate_left
    · intro w'
      go_simp
      with_reducible rfl
    rotate_left
    · simp only [Act.put, List.setIfInBounds_toArray, List.set_cons_zero, List.set_cons_succ, i64_w, i32_w]
      rfl
    refine done_ (by kernel_rfl) ?_
    (try clear hHeld)
    have B24 := Lib.hid B4.out
    clear B4
    have B4 := Lib.hid (B2.out.trans (B24.out.mono B2.out.size))
    have HP := Lib.hid (sortV_perms HL.out (turn_perm l q))
    have HPL := Lib.hid ((turn_perm l q).length_eq)
    obtain ⟨A4, c4, rfl, hC4, _⟩ := R_C R4.out
    rw [List.nil_append] at hC4 ⊢
    have HM := Lib.hid (fun W (h : Below w4.heap.size w4 W) => (show Calls Tryd.prog 21 #[.slice A4 (l.drop q ++ l.take q).length c4] W fun e w' => SomeF W (sortV l) e w' from by
      rw [← HP.out]
      exact nsort_calls A4 c4 (l.drop q ++ l.take q) W (Kd.C_below hC4 h) (fun x hx => HL.out x ((turn_perm l q).mem_iff.1 hx)) (by rw [HPL.out, ← HN.out]; omega)))
    clear hC4 R4 R3 R0 CT CD B3
    generalize (l.drop q ++ l.take q).length = M at HM ⊢
    go_wp2_with fail
    refine (H2.out _ B4.out).mono ?_
    rintro e w6 ⟨v6, rfl, hR, hb⟩
    have B6 := Lib.hid (B4.out.trans (hb.mono B4.out.size))
    have B46 := Lib.hid hb
    obtain ⟨A6, c6, rfl, hC6⟩ := R_Cn hR HSL.out
    have HC6 := Lib.hid hC6
    clear hb hR H2 hC6
    go_wp2_with fail
    refine (HM.out _ B46.out).mono ?_
    rintro e w7 ⟨v7, rfl, hR, hb⟩
    have B7 := Lib.hid (B6.out.trans (hb.mono B6.out.size))
    obtain ⟨A7, c7, rfl, hC7⟩ := R_Cn hR HSL.out
    obtain ⟨A2, c2, rfl, hC2⟩ := R_CUn R2.out HSL.out
    have hC2' := Kd.C_below hC2 (B24.out.trans ((B46.out.mono B24.out.size).trans (hb.mono (Nat.le_trans B24.out.size B46.out.size))))
    have hC6' := Kd.C_below HC6.out hb
    have B8 := Lib.hid (below_alloc B7.out (.cells #[.slice A6 n c6, .slice A7 n c7] 30))
    have hal := below_alloc (Below.refl w7.heap.size w7) (.cells #[.slice A6 n c6, .slice A7 n c7] 30)
    have K2 := Lib.hid (Kd.C_below hC2' hal)
    have K6 := Lib.hid (Kd.C_below hC6' hal)
    have K7 := Lib.hid (Kd.C_below hC7 hal)
    have hnew := blk_new w7 (.cells #[.slice A6 n c6, .slice A7 n c7] 30)
    have Z6 := Lib.hid (show (w7.alloc (.cells #[.slice A6 n c6, .slice A7 n c7] 30)).cell? ⟨w7.heap.size, 0, none⟩ = some (.slice A6 n c6) from by rw [blk_cell hnew]; rfl)
    have Z7 := Lib.hid (show (w7.alloc (.cells #[.slice A6 n c6, .slice A7 n c7] 30)).cell? ⟨w7.heap.size, 1, none⟩ = some (.slice A7 n c7) from by rw [blk_cell hnew]; rfl)
    clear hal hnew hC7 hC6' hC2' hC2 hR hb HC6 HM
    generalize sortV l = S at *
    go_wp2
    generalize w7.alloc (.cells #[.slice A6 n c6, .slice A7 n c7] 30) = W8 at K2 K6 K7 Z6 Z7 B8 ⊢
    generalize w7.heap.size = N at Z6 Z7 ⊢
    go_loopg [9, 10, 40] 2 (fun gg _ _ s40 W => ∃ (k : Nat) (wr : World), k ≤ 2 ∧ 2 - k ≤ gg ∧ s40 = .int .i64 k ∧ wr = W ∧ Aside (Below W8.heap.size W8 wr))
    case atStart => exact ⟨0, _, by omega, by omega, rfl, rfl, Below.refl _ _⟩
    case round =>
      obtain ⟨k, wr, hk, hg, rfl, rfl, BW⟩ := hrel
      obtain rfl | rfl | rfl : k = 0 ∨ k = 1 ∨ k = 2 := by omega
      · have zk : wr.cell? ⟨N, 0, none⟩ = some (.slice A6 n c6) := cell_kept BW.out Z6.out
        go_wp2
        go_loopg [10, 51] n (fun gg _ s51 W => ∃ (i : Nat) (wr : World), i ≤ n ∧ n - i ≤ gg ∧ s51 = .int .i64 i ∧ wr = W ∧ Aside (Below W8.heap.size W8 wr))
        case atStart => exact ⟨0, _, Nat.zero_le _, by omega, rfl, rfl, BW.out⟩
        case round =>
          obtain ⟨i, wi, hi, hgi, rfl, rfl, BI⟩ := hrel
          by_cases hin : i < n
          · obtain ⟨x, hx⟩ : ∃ x, S[i]? = some x := ⟨_, List.getElem?_eq_getElem (by have := HSL.out; omega)⟩
            obtain ⟨g, hg1, z1⟩ := CF_cell (Kd.C_below K6.out BI.out) (by omega) i x hx
            obtain ⟨g2, hg2, z2⟩ := CU_cell (Kd.C_below K2.out BI.out) (by omega) i x hx
            have i1 : (i : Int) < (n : Int) := by omega
            have HBX := Lib.hid (fun w => bits_calls x w)
            have BI2 := Lib.hid (BI.out.drew)
            clear hx
            cases hg1
            cases hg2
            go_wp2
            refine start_ (n := 10) (S := (fun W => W = wi.drew)) (ds := []) #[false, false, false, false, false, false, false, false, false, false] (by kernel_rfl) rfl rfl rfl (fun hHeld => ?_)
            refine pure_ (i := 0) (N := (some 54)) (v := ?_) (a' := ?_) #[true, false, false, false, false, false, false, false, false, false] rfl rfl (by kernel_rfl) (fun _ _ _ h => h) (Or.inl ⟨by rfl, ?_⟩) ?_ ?_
            rotate_left
            · intro w'
              go_simp
              with_reducible rfl
            rotate_left
            · simp only [Act.put, List.setIfInBounds_toArray, List.set_cons_zero, List.set_cons_succ, i64_w, i32_w]
              rfl
            refine pure_ (i := 1) (N := (some 55)) (v := ?_) (a' := ?_) #[true, true, false, false, false, false, false, false, false, false] rfl rfl (by kernel_rfl) (fun _ _ _ h => h) (Or.inl ⟨by rfl, ?_⟩) ?_ ?_
            rotate_left
            · intro w'
              go_simp
              with_reducible rfl
            rotate_left
            · simp only [Act.put, List.setIfInBounds_toArray, List.set_cons_zero, List.set_cons_succ, i64_w, i32_w]
              rfl
            refine pure_ (i := 2) (N := (some 56)) (v := ?_) (a' := ?_) #[true, true, true, false, false, false, false, false, false, false] rfl rfl (by kernel_rfl) (fun _ _ _ h => h) (Or.inl ⟨by rfl, ?_⟩) ?_ ?_
            rotate_left
            · intro w'
              go_simp
              with_reducible rfl
            rotate_left
            · simp only [Act.put, List.setIfInBounds_toArray, List.set_cons_zero, List.set_cons_succ, i64_w, i32_w]
              rfl
            refine take_ (i := 3) (N := (some 57)) (v := ?_) (a' := ?_) #[true, true, true, true, false, false, false, false, false, false] rfl rfl (by kernel_rfl) (fun _ _ _ h => h) (Or.inl ⟨by rfl, ?_⟩) hHeld ?_ ?_
            rotate_left
            · intro w' hS'
              obtain ⟨rfl⟩ := hS'
              go_simp
              with_reducible rfl
            rotate_left
            · simp only [Act.put, List.setIfInBounds_toArray, List.set_cons_zero, List.set_cons_succ, i64_w, i32_w]
              rfl
            refine pure_ (i := 5) (N := (some 59)) (v := ?_) (a' := ?_) #[true, true, true, true, false, true, false, false, false, false] rfl rfl (by kernel_rfl) (fun _ _ _ h => h) (Or.inl ⟨by rfl, ?_⟩) ?_ ?_
            rotate_left
            · intro w'
              go_simp
              with_reducible rfl
            rotate_left
            · simp only [Act.put, List.setIfInBounds_toArray, List.set_cons_zero, List.set_cons_succ, i64_w, i32_w]
              rfl
            refine pure_ (i := 6) (N := (some 60)) (v := ?_) (a' := ?_) #[true, true, true, true, false, true, true, false, false, false] rfl rfl (by kernel_rfl) (fun _ _ _ h => h) (Or.inl ⟨by rfl, ?_⟩) ?_ ?_
            rotate_left
            · intro w'
              go_simp
              with_reducible rfl
            rotate_left
            · simp only [Act.put, List.setIfInBounds_toArray, List.set_cons_zero, List.set_cons_succ, i64_w, i32_w]
              rfl
            refine pure_ (i := 7) (N := (some 61)) (v := ?_) (a' := ?_) #[true, true, true, true, false, true, true, true, false, false] rfl rfl (by kernel_rfl) (fun _ _ _ h => h) (Or.inl ⟨by rfl, ?_⟩) ?_ ?_
            rotate_left
            · intro w'
              go_simp
              with_reducible rfl
            rotate_left
            · simp only [Act.put, List.setIfInBounds_toArray, List.set_cons_zero, List.set_cons_succ, i64_w, i32_w]
              rfl
            refine take_ (i := 8) (N := (some 62)) (v := ?_) (a' := ?_) #[true, true, true, true, false, true, true, true, true, false] rfl rfl (by kernel_rfl) (fun _ _ _ h => h) (Or.inl ⟨by rfl, ?_⟩) hHeld ?_ ?_
            rotate_left
            · intro w' hS'
              obtain ⟨rfl⟩ := hS'
              go_simp
              with_reducible rfl
            rotate_left
            · simp only [Act.put, List.setIfInBounds_toArray, List.set_cons_zero, List.set_cons_succ, i64_w, i32_w]
              rfl
            refine one_ (i := 4) (N := (some 58)) #[true, true, true, true, true, true, true, true, true, false] rfl rfl (by kernel_rfl) (by decide) (fun K hK => ?_)
            refine goes_ Tryd.func15 (by kernel_rfl) rfl #[.float .f64 x] (by rfl) rfl rfl (by (try simp only [List.map_toArray, List.map_cons, List.map_nil]); first | done | rfl) ?_
            with_reducible refine (HBX.out _).mono ?_
            rintro e w' ⟨rfl, rfl⟩
            refine ⟨_, rfl, ?_⟩
            have hS2 := hHeld
            (try clear hHeld)
            refine hK.out _ _ hS2 (fun hHeld => ?_)
            clear hK K hS2
            refine norm_ (a' := ?_) ?_ ?_
            rotate_left
            · show Act.put _ (some 58) _ = _
              simp only [Act.put, List.setIfInBounds_toArray, List.set_cons_zero, List.set_cons_succ, i64_w, i32_w]
              rfl
            refine pure_ (i := 9) (N := (some 63)) (v := ?_) (a' := ?_) #[true, true, true, true, true, true, true, true, true, true] rfl rfl (by kernel_rfl) (fun _ _ _ h => h) (Or.inl ⟨by rfl, ?_⟩) ?_ ?_
            rotate_left
            · intro w'
              go_simp
              with_reducible rfl
            rotate_left
            · simp only [Act.put, List.setIfInBounds_toArray, List.set_cons_zero, List.set_cons_succ, i64_w, i32_w]
              rfl
            refine done_ (by kernel_rfl) ?_
            (try clear hHeld)
            generalize wi.drew = wd at BI2 ⊢
            clear z1 z2
            go_wp2
            go_roundg (n - (i + 1))
            case measure => omega
            case rel => exact ⟨i + 1, wd, by omega, by omega, (by first | rfl | go_num), rfl, BI2.out⟩
          · obtain rfl : i = n := by omega
            go_wp2
            have BJ := Lib.hid BI.out
            go_roundg 1
            case measure => omega
            case rel => exact ⟨1, _, by omega, by omega, (by first | rfl | go_num), rfl, BJ.out⟩
      · have zk : wr.cell? ⟨N, 1, none⟩ = some (.slice A7 n c7) := cell_kept BW.out Z7.out
        go_wp2
        go_loopg [10, 51] n (fun gg _ s51 W => ∃ (i : Nat) (wr : World), i ≤ n ∧ n - i ≤ gg ∧ s51 = .int .i64 i ∧ wr = W ∧ Aside (Below W8.heap.size W8 wr))
        case atStart => exact ⟨0, _, Nat.zero_le _, by omega, rfl, rfl, BW.out⟩
        case round =>
          obtain ⟨i, wi, hi, hgi, rfl, rfl, BI⟩ := hrel
          by_cases hin : i < n
          · obtain ⟨x, hx⟩ : ∃ x, S[i]? = some x := ⟨_, List.getElem?_eq_getElem (by have := HSL.out; omega)⟩
            obtain ⟨g, hg1, z1⟩ := CF_cell (Kd.C_below K7.out BI.out) (by omega) i x hx
            obtain ⟨g2, hg2, z2⟩ := CU_cell (Kd.C_below K2.out BI.out) (by omega) i x hx
            have i1 : (i : Int) < (n : Int) := by omega
            have HBX := Lib.hid (fun w => bits_calls x w)
            have BI2 := Lib.hid (BI.out.drew)
            clear hx
            cases hg1
            cases hg2
            go_wp2
            refine start_ (n := 10) (S := (fun W => W = wi.drew)) (ds := []) #[false, false, false, false, false, false, false, false, false, false] (by kernel_rfl) rfl rfl rfl (fun hHeld => ?_)
            refine pure_ (i := 0) (N := (some 54)) (v := ?_) (a' := ?_) #[true, false, false, false, false, false, false, false, false, false] rfl rfl (by kernel_rfl) (fun _ _ _ h => h) (Or.inl ⟨by rfl, ?_⟩) ?_ ?_
            rotate_left
            · intro w'
              go_simp
              with_reducible rfl
            rotate_left
            · simp only [Act.put, List.setIfInBounds_toArray, List.set_cons_zero, List.set_cons_succ, i64_w, i32_w]
              rfl
            refine pure_ (i := 1) (N := (some 55)) (v := ?_) (a' := ?_) #[true, true, false, false, false, false, false, false, false, false] rfl rfl (by kernel_rfl) (fun _ _ _ h => h) (Or.inl ⟨by rfl, ?_⟩) ?_ ?_
            rotate_left
            · intro w'
              go_simp
              with_reducible rfl
            rotate_left
            · simp only [Act.put, List.setIfInBounds_toArray, List.set_cons_zero, List.set_cons_succ, i64_w, i32_w]
              rfl
            refine pure_ (i := 2) (N := (some 56)) (v := ?_) (a' := ?_) #[true, true, true, false, false, false, false, false, false, false] rfl rfl (by kernel_rfl) (fun _ _ _ h => h) (Or.inl ⟨by rfl, ?_⟩) ?_ ?_
            rotate_left
            · intro w'
              go_simp
              with_reducible rfl
            rotate_left
            · simp only [Act.put, List.setIfInBounds_toArray, List.set_cons_zero, List.set_cons_succ, i64_w, i32_w]
              rfl
            refine take_ (i := 3) (N := (some 57)) (v := ?_) (a' := ?_) #[true, true, true, true, false, false, false, false, false, false] rfl rfl (by kernel_rfl) (fun _ _ _ h => h) (Or.inl ⟨by rfl, ?_⟩) hHeld ?_ ?_
            rotate_left
            · intro w' hS'
              obtain ⟨rfl⟩ := hS'
              go_simp
              with_reducible rfl
            rotate_left
            · simp only [Act.put, List.setIfInBounds_toArray, List.set_cons_zero, List.set_cons_succ, i64_w, i32_w]
              rfl
            refine pure_ (i := 5) (N := (some 59)) (v := ?_) (a' := ?_) #[true, true, true, true, false, true, false, false, false, false] rfl rfl (by kernel_rfl) (fun _ _ _ h => h) (Or.inl ⟨by rfl, ?_⟩) ?_ ?_
            rotate_left
            · intro w'
              go_simp
              with_reducible rfl
            rotate_left
            · simp only [Act.put, List.setIfInBounds_toArray, List.set_cons_zero, List.set_cons_succ, i64_w, i32_w]
              rfl
            refine pure_ (i := 6) (N := (some 60)) (v := ?_) (a' := ?_) #[true, true, true, true, false, true, true, false, false, false] rfl rfl (by kernel_rfl) (fun _ _ _ h => h) (Or.inl ⟨by rfl, ?_⟩) ?_ ?_
            rotate_left
            · intro w'
              go_simp
              with_reducible rfl
            rotate_left
            · simp only [Act.put, List.setIfInBounds_toArray, List.set_cons_zero, List.set_cons_succ, i64_w, i32_w]
              rfl
            refine pure_ (i := 7) (N := (some 61)) (v := ?_) (a' := ?_) #[true, true, true, true, false, true, true, true, false, false] rfl rfl (by kernel_rfl) (fun _ _ _ h => h) (Or.inl ⟨by rfl, ?_⟩) ?_ ?_
            rotate_left
            · intro w'
              go_simp
              with_reducible rfl
            rotate_left
            · simp only [Act.put, List.setIfInBounds_toArray, List.set_cons_zero, List.set_cons_succ, i64_w, i32_w]
              rfl
            refine take_ (i := 8) (N := (some 62)) (v := ?_) (a' := ?_) #[true, true, true, true, false, true, true, true, true, false] rfl rfl (by kernel_rfl) (fun _ _ _ h => h) (Or.inl ⟨by rfl, ?_⟩) hHeld ?_ ?_
            rotate_left
            · intro w' hS'
              obtain ⟨rfl⟩ := hS'
              go_simp
              with_reducible rfl
            rotate_left
            · simp only [Act.put, List.setIfInBounds_toArray, List.set_cons_zero, List.set_cons_succ, i64_w, i32_w]
              rfl
            refine one_ (i := 4) (N := (some 58)) #[true, true, true, true, true, true, true, true, true, false] rfl rfl (by kernel_rfl) (by decide) (fun K hK => ?_)
            refine goes_ Tryd.func15 (by kernel_rfl) rfl #[.float .f64 x] (by rfl) rfl rfl (by (try simp only [List.map_toArray, List.map_cons, List.map_nil]); first | done | rfl) ?_
            with_reducible refine (HBX.out _).mono ?_
            rintro e w' ⟨rfl, rfl⟩
            refine ⟨_, rfl, ?_⟩
            have hS2 := hHeld
            (try clear hHeld)
            refine hK.out _ _ hS2 (fun hHeld => ?_)
            clear hK K hS2
            refine norm_ (a' := ?_) ?_ ?_
            rotate_left
            · show Act.put _ (some 58) _ = _
              simp only [Act.put, List.setIfInBounds_toArray, List.set_cons_zero, List.set_cons_succ, i64_w, i32_w]
              rfl
            refine pure_ (i := 9) (N := (some 63)) (v := ?_) (a' := ?_) #[true, true, true, true, true, true, true, true, true, true] rfl rfl (by kernel_rfl) (fun _ _ _ h => h) (Or.inl ⟨by rfl, ?_⟩) ?_ ?_
            rotate_left
            · intro w'
              go_simp
              with_reducible rfl
            rotate_left
            · simp only [Act.put, List.setIfInBounds_toArray, List.set_cons_zero, List.set_cons_succ, i64_w, i32_w]
              rfl
            refine done_ (by kernel_rfl) ?_
            (try clear hHeld)
            generalize wi.drew = wd at BI2 ⊢
            clear z1 z2
            go_wp2
            go_roundg (n - (i + 1))
            case measure => omega
            case rel => exact ⟨i + 1, wd, by omega, by omega, (by first | rfl | go_num), rfl, BI2.out⟩
          · obtain rfl : i = n := by omega
            go_wp2
            have BJ := Lib.hid BI.out
            go_roundg 0
            case measure => omega
            case rel => exact ⟨2, _, by omega, by omega, (by first | rfl | go_num), rfl, BJ.out⟩
      · have BF := Lib.hid (B8.out.trans (BW.out.mono B8.out.size))
        go_wp2_with fail
        refine (H3.out _ BF.out).mono ?_
        rintro e y1 ⟨rfl, hb⟩
        have F1 := Lib.hid (BF.out.trans (hb.mono BF.out.size))
        clear hb
        go_wp2_with fail
        refine (H7.out _).mono ?_
        rintro e w' ⟨rfl, rfl⟩
        go_wp2_with fail
        refine (H4.out _ F1.out).mono ?_
        rintro e y2 ⟨rfl, hb⟩
        have F2 := Lib.hid (F1.out.trans (hb.mono F1.out.size))
        clear hb
        go_wp2_with fail
        refine (H5.out _ F2.out).mono ?_
        rintro e y3 ⟨rfl, hb⟩
        have F3 := Lib.hid (F2.out.trans (hb.mono F2.out.size))
        clear hb
        go_wp2_with fail
        refine (H8.out _).mono ?_
        rintro e w' ⟨rfl, rfl⟩
        go_wp2_with fail
        refine (H6.out _ F3.out).mono ?_
        rintro e y4 ⟨rfl, hb⟩
        have F4 := Lib.hid (F3.out.trans (hb.mono F3.out.size))
        clear hb
        go_wp2
        go_ret
        exact ⟨by simp, F4.out⟩
end Go.Proofs.YtdkdmclbhcbfeaaDoor.Nu
