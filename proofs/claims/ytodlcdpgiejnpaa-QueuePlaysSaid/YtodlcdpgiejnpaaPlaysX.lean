/- The law of the scripts: the walk. -/
import Derived.Test.YtodlcdpgiejnpaaPlaysW
namespace Go.Proofs.Ytodlcdpgiejnpaa
set_option linter.unusedVariables false
set_option linter.unusedSimpArgs false
open Go.RowKit Hp QI

theorem below_own2 {w1 wo w3 : World} {r : Option Nat} (h : Below w1.heap.size w1 wo) (hg : wo.grownBy w3 r) (hr : ∀ b, r = some b → w1.heap.size ≤ b) : Below w1.heap.size w1 w3 :=
  ⟨hg.os.trans h.os, hg.tape.trans h.tape, hg.output.trans h.output, Nat.le_trans h.size hg.size, fun k hk => (hg.block k (Nat.lt_of_lt_of_le hk h.size) (fun e => by have := hr k e.symm; omega)).trans (h.block k hk)⟩
theorem LAt.weaken {w : World} {base base' : Nat} {v : Value} {T : List Tp} (h : LAt w base v T) (hb : base' ≤ base) : LAt w base' v T := by
  rcases h with h | ⟨b, o, cap, h1, h2, h3⟩
  · exact .inl h
  · exact .inr ⟨b, o, cap, h1, by omega, h3⟩
abbrev W9 (wo : World) (o : Opp) (x : Int) : World := (wo.alloc (.cells (ocells o).toArray 28)).alloc (.cells #[.int .i64 0, .int .i64 0, .bool false, .int .i64 x] 30)
theorem sw4 {wo : World} {base : Nat} {Ao : Option Addr} {m cap : Nat} {S : List (It Int)} {o : Opp} {x : Int} (h : LAt wo base (.slice Ao m cap) (S.map strip)) (hm : m = S.length) : LAt (W9 wo o x) base (.slice Ao m cap) (S.map strip) :=
  h.kept fun q hq => by
    have := (h.lt q hq).2
    rw [heap_alloc_old _ _ (by simp; omega), heap_alloc_old _ _ this]
theorem sw9 (wo : World) (o : Opp) (x : Int) : (W9 wo o x).heap[wo.heap.size + 1]? = some (.cells (tcells ⟨0, 0, false, x⟩).toArray 30 (0, 0)) := by
  have := heap_alloc_new (wo.alloc (.cells (ocells o).toArray 28)) (.cells #[.int .i64 0, .int .i64 0, .bool false, .int .i64 x] 30)
  rw [show (wo.alloc (.cells (ocells o).toArray 28)).heap.size = wo.heap.size + 1 by simp] at this
  exact this
theorem sw2 {w1 wo : World} (h : Below w1.heap.size w1 wo) (o : Opp) (x : Int) : Below w1.heap.size w1 (W9 wo o x) := (h.alloc h.size _).alloc (by have := h.size; simp; omega) _
abbrev WT (wo : World) (o : Opp) (T : Tl) : World := (wo.alloc (.cells (ocells o).toArray 28)).alloc (.cells (tcells T).toArray 30)
theorem swT {w1 wo : World} {v : Value} {X : List Tp} (o : Opp) (T : Tl) (hL : LAt wo w1.heap.size v X) (hB : Below w1.heap.size w1 wo) :
    LAt (WT wo o T).drew w1.heap.size v X ∧ (WT wo o T).drew.heap[wo.heap.size + 1]? = some (.cells (tcells T).toArray 30 (0, 0)) ∧ Below w1.heap.size w1 (WT wo o T).drew ∧ wo.heap.size + 2 ≤ (WT wo o T).drew.heap.size := by
  refine ⟨hL.kept fun q hq => ?_, ?_, below_drewN ((hB.alloc hB.size _).alloc (by have := hB.size; simp; omega) _) 1, by simp⟩
  · have := (hL.lt q hq).2
    show ((wo.alloc _).alloc _).heap[q]? = _
    rw [heap_alloc_old _ _ (by simp; omega), heap_alloc_old _ _ this]
  · have := heap_alloc_new (wo.alloc (.cells (ocells o).toArray 28)) (.cells (tcells T).toArray 30)
    rw [show (wo.alloc (.cells (ocells o).toArray 28)).heap.size = wo.heap.size + 1 by simp] at this
    exact this
theorem lat_tail {w : World} {base b o m cap : Nat} {a : Tp} {T : List Tp} (h : Row4 w b o cap (a :: T)) (hb : base ≤ b) (hm : m = T.length) : LAt w base (.slice (some ⟨b, o + 4, none⟩) m (cap - 1)) T := by
  obtain ⟨cur, h0, hs, hl, hmx, hr⟩ := h
  simp at hl
  refine .inr ⟨b, o + 4, cap - 1, by rw [hm], hb, cur, h0, by omega, by omega, by omega, fun j x hx i v hv => ?_⟩
  have := hr (j + 1) x hx i v hv
  rw [show o + 4 + j * 4 + i = o + (j + 1) * 4 + i by omega]
  exact this
theorem lat_tail1 {w : World} {base b o m cap : Nat} {a : Tp} {T : List Tp} (h : Row4 w b o cap (a :: T)) (hb : base ≤ b) (hm : m = T.length) (hc : cap = 1) : LAt w base (.slice (some ⟨b, o, none⟩) m 0) T := by
  obtain ⟨cur, h0, hs, hl, hmx, hr⟩ := h
  simp at hl
  have hT : T = [] := List.eq_nil_of_length_eq_zero (by omega)
  subst hT
  exact .inr ⟨b, o, 0, by rw [hm], hb, cur, h0, by omega, by simp, by simp [maxLen], fun j x hx => by simp at hx⟩
/-- behind the switch -/
def SwDone (w1 wo : World) (most : Int) (st : Int × List (It Int)) (o : Opp) (k : Nat) (vl vi : Value) (wx : World) : Prop :=
  vi = .int .i64 k ∧ LAt wx w1.heap.size vl ((stepQ most st o).1.2.map strip) ∧ wx.heap[wo.heap.size + 1]? = some (.cells (tcells (stepQ most st o).2).toArray 30 (0, 0)) ∧ Below w1.heap.size w1 wx ∧ wo.heap.size + 2 ≤ wx.heap.size

set_option maxRecDepth 100000 in
set_option maxHeartbeats 6400000 in
theorem plays_main (m0 : Int) (A : Option Addr) (c : Nat) (ops : List Opp) (w : World) (hA : OpsAt w A ops) (hn : ops.length * 40 ≤ 140737488351232) :
    Calls Try.prog 3 #[.int .i64 m0, .slice A ops.length c] w fun e w' => e = .returned (.bool true) ∧ Below w.heap.size w w' := by
  obtain ⟨most, hmost⟩ : ∃ most, most = min (max m0 0) 65536 := ⟨_, rfl⟩
  have hm0 : 0 ≤ most := by omega
  have hm1 : most ≤ 65536 := by omega
  obtain ⟨n, hnl⟩ : ∃ n, n = ops.length := ⟨_, rfl⟩
  have HA := Lib.hid hA
  have HM := Lib.hid hmost
  have HN := Lib.hid hnl
  have HPL := Lib.hid (fun W (h : OpsAt W A ops) => play_walk m0 A c ops W h hn (fun _ => dropSpec))
  rw [← hmost, ← hnl] at HPL
  rw [← hnl] at hn ⊢
  clear hA hmost hnl
  go_enter Try.func3, Try.ntmps3
  go_wp2_with fail
  refine (fixed_calls _).mono ?_
  rintro e w0 ⟨rfl, hB0⟩
  have HP0 := Lib.hid (HPL.out w0 (HA.out.below hB0))
  have HB0 := Lib.hid hB0
  clear hB0
  go_wp2_with fail
  refine HP0.out.mono ?_
  rintro e w1 ⟨v, rfl, hown, hB1⟩
  obtain ⟨Ga, gcap, rfl, hgot⟩ := got_of hown (by rw [tells_len _ _ _ (by have := HN.out; omega)])
  have HG := Lib.hid hgot
  have hB01 := HB0.out.trans (hB1.mono HB0.out.size)
  have HB1 := Lib.hid hB01
  have HA1 := Lib.hid (HA.out.below hB01)
  have hw1 := hB01.size
  clear hown hB1 hgot hB01 HP0 HB0
  go_wp2_with fail
  go_loopw [6, 23] (fun vl vi wr => ∃ k : Nat, k ≤ n ∧ vi = .int .i64 k ∧ LAt wr w1.heap.size vl ((stQ most ops k).2.map strip) ∧ Below w1.heap.size w1 wr) (fun _ vi _ => n - (intOf vi).toNat)
  case atStart => exact ⟨0, Nat.zero_le _, rfl, .inl ⟨rfl, rfl⟩, Below.refl _ _⟩
  case round =>
    rename World => wo
    obtain ⟨k, hk, rfl, hL, hB⟩ := hrel
    by_cases hlt : k < n
    · obtain ⟨o, ho⟩ : ∃ o, ops[k]? = some o := ⟨_, List.getElem?_eq_getElem (by have := HN.out; omega)⟩
      obtain ⟨B, off, rfl, hBl, c0, c1, c2, c3, c4⟩ := (HA1.out.below hB) k o ho
      have HL := Lib.hid hL
      have HB := Lib.hid hB
      have HO := Lib.hid ho
      have hwo := hB.size
      have hinv := stQ_inv most hm0 ops k
      obtain ⟨st, hst⟩ : ∃ st, st = stQ most ops k := ⟨_, rfl⟩
      rw [← hst] at HL hinv
      have HST := Lib.hid hst
      have HINV := Lib.hid hinv
      clear hL hB ho hinv hst
      obtain ⟨m, hm⟩ : ∃ m, m = st.2.length := ⟨_, rfl⟩
      obtain ⟨Ao, lcap, hu⟩ := HL.out.form
      rw [List.length_map, ← hm] at hu
      subst hu
      have HMm := Lib.hid hm
      have hm6 : m ≤ 65536 := by have := HINV.out.2.2; omega
      have hL0 : LAt (W0 wo o) w1.heap.size (.slice Ao m lcap) (st.2.map strip) := HL.out.kept fun q hq => by
        have := (HL.out.lt q hq).2
        rw [heap_alloc_old _ _ (by simp; omega), heap_alloc_old _ _ this]
      have HL0 := Lib.hid hL0
      have HBW := Lib.hid (show Below w1.heap.size w1 (W0 wo o) from (HB.out.alloc hwo _).alloc (by simp; omega) _)
      have HT9 := Lib.hid (w0_9 wo o)
      clear hm hL0
      go_upto_block 2 with fail
      go_cut [6, 10, 23] from 23 to 93 (fun vl v10 vi wx => SwDone w1 wo most st o k vl vi wx)
      case first =>
        by_cases k1 : o.kd = 1
        · obtain ⟨kd, ot, orr, on, ox⟩ := o
          simp only at k1
          subst k1
          by_cases hf : (st.2.length : Int) < most
          · have HS := Lib.hid (show stepQ most st ⟨1, ot, orr, on, ox⟩ = ((st.1 + 1, ins ⟨ot, orr, on, st.1 + 1, ox⟩ st.2), ⟨0, 0, true, 0⟩) by unfold stepQ; rw [if_pos rfl, if_pos hf])
            have q1 : decide ((m : Int) < most) = true := decide_eq_true (by have := HMm.out; omega)
            have HSI := Lib.hid (strip_ins ⟨ot, orr, on, st.1 + 1, ox⟩ st.2 (fun y hy => by have := HINV.out.2.1 y hy; show y.k < st.1 + 1; omega))
            have HC := Lib.hid (put_calls w1.heap.size _ _ (ot, orr, on, ox) _ HL0.out (sort_strip HINV.out.1) (by rw [List.length_map, ← HMm.out]; exact hm6) (by simp; omega))
            have HMC := Lib.hid (fun W => most_calls m0 W)
            rw [← HM.out] at HMC
            clear hf
            go_wp2_with fail
            refine (HMC.out _).mono ?_
            rintro e w3 ⟨rfl, rfl⟩
            go_wp2_with fail
            refine HC.out.mono ?_
            rintro e w4 ⟨v', rfl, hL4, hg4, hat4⟩
            have hown : ∀ b, (Value.slice Ao m lcap).ownBlock = some b → w1.heap.size ≤ b ∧ b < wo.heap.size := HL.out.lt
            have hb9 := (hg4.block (wo.heap.size + 1) (by simp) (fun e => by have := (hown _ e.symm).2; omega)).trans HT9.out
            have x2 := blk_cell hb9 2
            have z2 := blk_frozen hb9 2
            have HB9 := Lib.hid hb9
            have HB4 := Lib.hid (below_own2 HBW.out hg4 (fun b hb => (hown b hb).1))
            have hs4 := hg4.size
            simp at hs4
            have HL4 := Lib.hid (show LAt (w4.setCell ⟨wo.heap.size + 1, 2, none⟩ (.bool true)) w1.heap.size v' (insT (ot, orr, on, ox) (st.2.map strip)) from hL4.kept fun b hb => Below.heap_setCell w4 _ _ b (by
              rcases hat4 with e | ⟨q, e, hq⟩
              · have := (hown b (e ▸ hb)).2; show b ≠ wo.heap.size + 1; omega
              · rw [e] at hb; injection hb with hb; simp at hq; show b ≠ wo.heap.size + 1; omega))
            clear hL4 hg4 hat4 hown hb9 HC
            go_wp2_with fail
            go_meet
            case rel => exact ⟨rfl, by rw [HS.out, HSI.out]; exact HL4.out, by rw [HS.out]; exact blk_set HB9.out 2 _, HB4.out.setCell (by show w1.heap.size ≤ wo.heap.size + 1; omega) _, by simp [World.setCell]; omega⟩
          · have HS := Lib.hid (show stepQ most st ⟨1, ot, orr, on, ox⟩ = (st, ⟨0, 0, false, 0⟩) by unfold stepQ; rw [if_pos rfl, if_neg hf])
            have q1 : decide ((m : Int) < most) = false := decide_eq_false (by have := HMm.out; omega)
            have HMC := Lib.hid (fun W => most_calls m0 W)
            rw [← HM.out] at HMC
            clear hf
            go_wp2_with fail
            refine (HMC.out _).mono ?_
            rintro e w3 ⟨rfl, rfl⟩
            go_wp2_with fail
            go_meet
            case rel => exact ⟨rfl, by rw [HS.out]; exact HL0.out, by rw [HS.out]; exact HT9.out, HBW.out, by simp⟩
        · have q1 : (o.kd == 1) = false := by simpa using k1
          by_cases k23 : o.kd = 2 ∨ o.kd = 3
          · rcases hS : st.2 with _ | ⟨y, S⟩
            · have hm0' : m = 0 := by rw [HMm.out, hS]; rfl
              have q6 : decide (0 < m) = false := by simp [hm0']
              have HS := Lib.hid (show stepQ most st o = (st, ⟨0, 0, false, 0⟩) by
                obtain ⟨nm, S0⟩ := st
                simp only at hS
                subst hS
                unfold stepQ
                rcases k23 with h | h
                · rw [if_neg k1, if_pos h]
                · rw [if_neg k1, if_neg (by omega), if_pos h])
              clear hm0' hS
              rcases k23 with k2 | k3
              · have q2 : (o.kd == 2) = true := by simpa using k2
                clear k1 k2
                go_wp2_with fail
                go_meet
                case rel => exact ⟨rfl, by rw [HS.out]; exact HL0.out, by rw [HS.out]; exact HT9.out, HBW.out, by simp⟩
              · have q2 : (o.kd == 2) = false := by simp; omega
                have q3 : (o.kd == 3) = true := by simpa using k3
                clear k1 k3
                go_wp2_with fail
                go_meet
                case rel => exact ⟨rfl, by rw [HS.out]; exact HL0.out, by rw [HS.out]; exact HT9.out, HBW.out, by simp⟩
            · have hmS : m = S.length + 1 := by rw [HMm.out, hS]; rfl
              have q6 : decide (0 < m) = true := by simp [hmS]
              have hL1 := HL.out
              rw [hS, List.map_cons] at hL1
              obtain ⟨b, o4, hAo, hbb, hrow⟩ := hL1.row (by simp)
              subst hAo
              have hbl : b < wo.heap.size := hrow.lt
              have hyr := hrow.cell 0 (strip y) rfl
              simp only [Nat.zero_mul, Nat.add_zero, strip] at hyr
              have HROW := Lib.hid hrow
              have i1 : (0 : Int) < (m : Int) := by omega
              have hcap : m ≤ lcap := by obtain ⟨_, _, _, h, _⟩ := hrow; simp at h; omega
              have i5 : (1 : Int) ≤ (m : Int) := by omega
              have i6 : (m : Int) ≤ (lcap : Int) := by omega
              have i7 : (1 : Int) ≤ (lcap : Int) := by omega
              rcases k23 with k2 | k3
              · obtain ⟨kd, ot, orr, on, ox⟩ := o
                simp only at k2
                subst k2
                have HS := Lib.hid (show stepQ most st ⟨2, ot, orr, on, ox⟩ = ((st.1, S), ⟨y.x, y.t, true, 0⟩) by
                  obtain ⟨nm, S0⟩ := st
                  simp only at hS
                  subst hS
                  rfl)
                have HMS := Lib.hid hmS
                clear k1 hmS hS hrow hL1
                go_wp2_with fail
                go_region
                go_wp2_with fail
                · have HSW := Lib.hid (swT ⟨2, ot, orr, on, ox⟩ ⟨y.x, y.t, true, 0⟩ (lat_tail1 (m := m - 1) HROW.out hbb (by have := HMS.out; rw [List.length_map]; omega) (by assumption)) HB.out)
                  go_meet
                  case rel => exact ⟨rfl, by rw [HS.out]; exact HSW.out.1, by rw [HS.out]; exact HSW.out.2.1, HSW.out.2.2.1, HSW.out.2.2.2⟩
                · have HSW := Lib.hid (swT ⟨2, ot, orr, on, ox⟩ ⟨y.x, y.t, true, 0⟩ (lat_tail (m := m - 1) HROW.out hbb (by have := HMS.out; rw [List.length_map]; omega)) HB.out)
                  go_meet
                  case rel => exact ⟨rfl, by rw [HS.out]; exact HSW.out.1, by rw [HS.out]; exact HSW.out.2.1, HSW.out.2.2.1, HSW.out.2.2.2⟩
              · obtain ⟨kd, ot, orr, on, ox⟩ := o
                simp only at k3
                subst k3
                have HS := Lib.hid (show stepQ most st ⟨3, ot, orr, on, ox⟩ = (st, ⟨y.x, y.t, true, 0⟩) by
                  obtain ⟨nm, S0⟩ := st
                  simp only at hS
                  subst hS
                  rfl)
                have HSW := Lib.hid (swT ⟨3, ot, orr, on, ox⟩ ⟨y.x, y.t, true, 0⟩ HL.out HB.out)
                clear k1 hmS hS hrow hL1
                go_wp2_with fail
                go_region
                go_wp2_with fail
                go_meet
                case rel => exact ⟨rfl, by rw [HS.out]; exact HSW.out.1, by rw [HS.out]; exact HSW.out.2.1, HSW.out.2.2.1, HSW.out.2.2.2⟩
          · have k2 : ¬ o.kd = 2 := fun h => k23 (.inl h)
            have k3 : ¬ o.kd = 3 := fun h => k23 (.inr h)
            have q2 : (o.kd == 2) = false := by simpa using k2
            have q3 : (o.kd == 3) = false := by simpa using k3
            by_cases k4 : o.kd = 4
            · obtain ⟨kd, ot, orr, on, ox⟩ := o
              simp only at k4
              subst k4
              have HS := Lib.hid (show stepQ most st ⟨4, ot, orr, on, ox⟩ = (st, ⟨0, 0, false, st.2.length⟩) from rfl)
              clear k1 k23 k2 k3
              go_wp2_with fail
              go_meet
              case rel => exact ⟨rfl, by rw [HS.out]; exact sw4 (o := ⟨4, ot, orr, on, ox⟩) (x := (m : Int)) HL.out HMm.out, by rw [HS.out, ← HMm.out]; exact sw9 wo ⟨4, ot, orr, on, ox⟩ (m : Int), sw2 HB.out ⟨4, ot, orr, on, ox⟩ (m : Int), by simp⟩
            · have q4 : (o.kd == 4) = false := by simpa using k4
              by_cases k5 : o.kd = 5
              · obtain ⟨kd, ot, orr, on, ox⟩ := o
                simp only at k5
                subst k5
                have HS := Lib.hid (show stepQ most st ⟨5, ot, orr, on, ox⟩ = ((st.1, st.2.filter fun y => decide (ox ≤ y.x)), ⟨0, 0, false, (st.2.length : Int) - ((st.2.filter fun y => decide (ox ≤ y.x)).length : Int)⟩) from rfl)
                have HC := Lib.hid (keep_calls w1.heap.size _ _ ox _ HL0.out (by rw [List.length_map, ← HMm.out]; exact hm6) (by simp; omega))
                have HFS := Lib.hid (filter_strip ox st.2)
                clear k1 k23 k2 k3
                go_wp2_with fail
                refine HC.out.mono ?_
                rintro e w4 ⟨v', rfl, hL4, hB4⟩
                obtain ⟨Ao4, cap4, rfl⟩ := hL4.form
                have hb9 := blk_below HT9.out hB4 (by simp)
                have x3 := blk_cell hb9 3
                have z3 := blk_frozen hb9 3
                obtain ⟨m4, hm4⟩ : ∃ m4, m4 = ((st.2.map strip).filter (pk ox)).length := ⟨_, rfl⟩
                rw [← hm4] at hL4 ⊢
                have hm44 : m4 ≤ m := by have := List.length_filter_le (pk ox) (st.2.map strip); rw [List.length_map] at this; have := HMm.out; omega
                have HMF := Lib.hid (show m4 = (st.2.filter fun y => decide (ox ≤ y.x)).length by
                  rw [hm4, show ((st.2.map strip).filter (pk ox)) = (st.2.filter fun y => decide (ox ≤ y.x)).map strip from HFS.out.symm, List.length_map])
                have HB9 := Lib.hid hb9
                have HB4 := Lib.hid (HBW.out.trans (hB4.mono (by simp; omega)))
                have hs4 := hB4.size
                simp at hs4
                have HL4 := Lib.hid (show LAt (w4.setCell ⟨wo.heap.size + 1, 3, none⟩ (.int .i64 ((m : Int) - (m4 : Int)))) w1.heap.size (.slice Ao4 m4 cap4) ((st.2.filter fun y => decide (ox ≤ y.x)).map strip) from by
                  rw [HFS.out]
                  refine LAt.weaken (LAt.kept hL4 fun b hb => Below.heap_setCell w4 _ _ b ?_) (by simp; omega)
                  have := (hL4.lt b hb).1
                  simp at this
                  show b ≠ wo.heap.size + 1
                  omega)
                clear hL4 hB4 hb9 hm4 HC
                go_wp2_with fail
                go_meet
                case rel => exact ⟨rfl, by rw [HS.out]; exact HL4.out, by rw [HS.out]; simp only [tcells]; rw [← HMm.out, ← HMF.out]; exact blk_set HB9.out 3 _, HB4.out.setCell (by show w1.heap.size ≤ wo.heap.size + 1; omega) _, by simp [World.setCell]; omega⟩
              · have q5 : (o.kd == 5) = false := by simpa using k5
                have HS := Lib.hid (show stepQ most st o = (st, ⟨0, 0, false, 0⟩) by unfold stepQ; rw [if_neg k1, if_neg k2, if_neg k3, if_neg k4, if_neg k5])
                clear k1 k23 k2 k3 k4 k5
                go_wp2_with fail
                go_meet
                case rel => exact ⟨rfl, by rw [HS.out]; exact HL0.out, by rw [HS.out]; exact HT9.out, HBW.out, by simp⟩
      case rest =>
        obtain ⟨rfl, hL2, ht2, hB2, hs2⟩ := hcut
        have x0 := blk_cell ht2 0
        have x1 := blk_cell ht2 1
        have x2 := blk_cell ht2 2
        have x3 := blk_cell ht2 3
        simp only [tcells] at x0 x1 x2 x3
        obtain ⟨g9, rfl, hg9, y0, y1, y2, y3⟩ := (HG.out.below hB2) k (stepQ most st o).2 (by rw [HST.out]; exact tells_get most ops o k HO.out n hlt (by have := HN.out; omega))
        have HL2 := Lib.hid (show LAt wc w1.heap.size u6 ((stQ most ops (k + 1)).2.map strip) by rw [stQ_succ most ops k o HO.out, ← HST.out]; exact hL2)
        have HB2 := Lib.hid hB2
        have i1 : (0 : Int) ≤ (k : Int) := by omega
        have i2 : (k : Int) < (n : Int) := by omega
        clear hL2 ht2 hB2 c0 c1 c2 c3 c4
        obtain ⟨T, hT⟩ : ∃ T, T = (stepQ most st o).2 := ⟨_, rfl⟩
        rw [← hT] at x0 x1 x2 x3 y0 y1 y2 y3
        clear hT
        obtain ⟨Tx, Tt, To, Tn⟩ := T
        simp only at x0 x1 x2 x3 y0 y1 y2 y3
        go_wp2_with fail
        go_quiet (fail)
        go_wp2
        have hdr : Below wc.heap.size wc (wc.drewN nq) := below_drewN (Below.refl _ _) _
        refine ⟨⟨k + 1, by omega, by go_num, HL2.out.kept fun b hb => hdr.block b (HL2.out.lt b hb).2, HB2.out.trans (hdr.mono HB2.out.size)⟩, by simp [intOf]; omega⟩
    · obtain rfl : k = n := by omega
      have HB := Lib.hid hB
      clear hL hB
      go_wp2
      go_ret
      exact ⟨rfl, HB1.out.trans (HB.out.mono hw1)⟩
theorem plays_walk {H : Type} {enc : TypeId × Value → H} {base : Nat} {dd : DataW H} {p : List MemPlace} {ts : List TypeId} {ds : List (DataW H)} (m0 : Int) (_ : (Lit.int .i64 m0).wf = true) (v : Value) {w : World}
    (hok : Value.okWide Try.prog w .any base 22 v) (hr : DataW.Trod enc Try.prog w 0 (fun _ => true) true 22 v dd p)
    (hsz : (DataW.weightsEach Try.prog ts ds).all (· ≤ reachBytes) = true) (htj : ts[1]? = some 22) (hdj : ds[1]? = some dd) (w' : World) (hw : w' = w) :
    Calls Try.prog 3 #[.int .i64 m0, v] w' fun e w1 => e = .returned (.bool true) ∧ Below w'.heap.size w' w1 := by
  subst hw
  obtain ⟨A, ops, c, rfl, hA, _, _, hn⟩ := script_open hok hr hsz htj hdj
  exact plays_main m0 A c ops _ hA hn
end Go.Proofs.Ytodlcdpgiejnpaa
