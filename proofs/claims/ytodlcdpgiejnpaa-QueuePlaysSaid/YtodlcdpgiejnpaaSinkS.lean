/- What brings a thing to its place (string). -/
import Derived.Test.YtodlcdpgiejnpaaAheadS
import Derived.Test.YtodlcdpgiejnpaaRow
namespace Go.Proofs.Ytodlcdpgiejnpaa.QS
set_option linter.unusedVariables false
set_option linter.unusedSimpArgs false
open Go.RowKit Hp

abbrev ro (w : World) (b : Nat) (L : List (It X)) (cap : Nat) : Prop := Row Value.string 72 w b L cap
def isQ (w : World) (g : Nat) (most num : Int) (v : Value) : Prop := w.heap[g]? = some (.cells #[.int .i64 most, .int .u64 num, v] 70 (0, 0))

set_option maxHeartbeats 1600000 in
theorem sink_calls (g b cap : Nat) (most num : Int) (L : List (It X)) (i : Nat) (w : World) (hq : isQ w g most num (.slice (some ⟨b, 0, none⟩) L.length cap)) (hr : ro w b L cap) (hne : b ≠ g)
    (hinv : DownInv L i) (hi : i < L.length ∨ i = 0) (hlen : L.length ≤ 65536) :
    Calls Try.prog 36 #[.pointer (some ⟨g, 0, none⟩), .int .i64 i] w fun e w' => e = .returned (.tuple #[]) ∧ ∃ L', L'.Perm L ∧ IsHeap L' ∧ ro w' b L' cap ∧ w.grownBy w' (some b) := by
  have hg := blk_lt hq
  have hb := hr.lt
  obtain ⟨n, hn⟩ : ∃ n, n = L.length := ⟨_, rfl⟩
  have HI := Lib.hid hinv
  have HR := Lib.hid hr
  have HN := Lib.hid hn
  rw [← hn] at hq hi hlen
  have HQ := Lib.hid hq
  clear hq hr hinv hn
  go_enter Try.func36, Try.ntmps36
  go_wp2
  go_loopw [1] (fun v wr => ∃ (k : Nat) (L' : List (It X)), (k < n ∨ k = 0) ∧ v = .int .i64 k ∧ L'.Perm L ∧ DownInv L' k ∧ ro wr b L' cap ∧ w.grownBy wr (some b)) (fun v _ => n - (intOf v).toNat)
  case atStart => exact ⟨i, L, hi, rfl, .refl _, HI.out, HR.out, ⟨rfl, rfl, rfl, Nat.le_refl _, fun _ _ _ => rfl⟩⟩
  case round =>
    rename World => wo
    obtain ⟨k, L', hk, rfl, hp, hd, hr, hgr⟩ := hrel
    have hl' := hp.length_eq
    have hq1 : isQ wo g most num (.slice (some ⟨b, 0, none⟩) n cap) := (hgr.block g hg (by simpa using fun e => hne e.symm)).trans HQ.out
    have hb1 := hr.lt
    have hg1 := blk_lt hq1
    have HQ1 := Lib.hid hq1
    have HR1 := Lib.hid hr
    have HP := Lib.hid hp
    have HD := Lib.hid hd
    have HG := Lib.hid hgr
    have HL := Lib.hid hl'
    clear hl' hq1 hr hp hd hgr
    go_wp2
    go_loopw [4, 5] (fun v u wr => ∃ (m e : Nat), v = .int .i64 m ∧ u = .int .i64 e ∧ 2 * k + 1 ≤ e ∧ e ≤ 2 * k + 3 ∧ Best L' k m e ∧ Below wo.heap.size wo wr) (fun _ u _ => 2 * k + 3 - (intOf u).toNat)
    case atStart => exact ⟨k, 2 * k + 1, rfl, by go_num, Nat.le_refl _, by omega, best_start L' k, Below.refl _ _⟩
    case round =>
      obtain ⟨m, e, rfl, rfl, he1, he2, hbest, hbel⟩ := hrel
      have hq2 : isQ wr g most num (.slice (some ⟨b, 0, none⟩) n cap) := blk_below HQ1.out hbel hg1
      have c2 := blk_cell hq2 2
      have HB := Lib.hid hbest
      have HQ2 := Lib.hid hq2
      have hg2 := blk_lt hq2
      clear hq2 hbest
      by_cases hx : e = 2 * k + 3 ∨ n ≤ e
      · have HX := Lib.hid hx
        have hcase : (decide ((e : Int) ≤ 2 * (k : Int) + 2) = false) ∨ (decide ((e : Int) ≤ 2 * (k : Int) + 2) = true ∧ decide (e < n) = false) := by
          by_cases h : (e : Int) ≤ 2 * (k : Int) + 2
          · exact .inr ⟨by simpa using h, by simp; omega⟩
          · exact .inl (by simpa using h)
        have hR2 : ro wr b L' cap := HR1.out.kept (hbel.block b hb1)
        have HR2 := Lib.hid hR2
        have HB' := Lib.hid hbel
        clear hR2 hx hbel
        by_cases hmk : m = k
        · subst hmk
          have HE := Lib.hid (best_stop L' m e HB.out HD.out (by have := HX.out; have := HL.out; have := HN.out; omega))
          rcases hcase with e0 | ⟨e0, e1⟩
          · go_wp2
            refine bodyPost_ret (results_none rfl _ _ _) rfl ?_
            exact ⟨rfl, L', HP.out, HE.out, HR2.out, grown_below HG.out HB'.out⟩
          · go_wp2
            refine bodyPost_ret (results_none rfl _ _ _) rfl ?_
            exact ⟨rfl, L', HP.out, HE.out, HR2.out, grown_below HG.out HB'.out⟩
        · obtain ⟨x, y, hX, hY, hkm, hmn, hDn⟩ := best_down L' k m e HB.out hmk HD.out (by have := HX.out; have := HL.out; have := HN.out; omega)
          have hmn' : m < n := by have := HL.out; have := HN.out; omega
          have hme : (m == k) = false := by simpa using hmk
          have hi1 : (m : Int) < (n : Int) := by omega
          have hi2 : (0 : Int) ≤ (m : Int) := by omega
          have hi3 : (k : Int) < (n : Int) := by omega
          have hi4 : (0 : Int) ≤ (k : Int) := by omega
          have hxr := range5 (HR2.out.range k x hX)
          have hyr := range5 (HR2.out.range m y hY)
          have hfr : ∀ i, wr.frozen? ⟨b, i, none⟩ = false := by obtain ⟨cur, h, _⟩ := HR2.out; exact fun i => blk_frozen h i
          have HX' := Lib.hid hX
          have HY' := Lib.hid hY
          have HDn := Lib.hid hDn
          clear hX hY hDn hmn
          have HE := Lib.hid (HR2.out.swapped k m x y HX'.out (by have := HL.out; have := HN.out; omega))
          rcases hcase with e0 | ⟨e0, e1⟩
          · go_wp2
            go_region
            go_wp2
            exact ⟨⟨m, swap L' k m x y, .inl hmn', rfl, (swap_perm L' k m x y HX'.out HY'.out).trans HP.out, HDn.out, HE.out.1, grown_trans (grown_below HG.out HB'.out) HE.out.2⟩, by simp [intOf]; omega⟩
          · go_wp2
            go_region
            go_wp2
            exact ⟨⟨m, swap L' k m x y, .inl hmn', rfl, (swap_perm L' k m x y HX'.out HY'.out).trans HP.out, HDn.out, HE.out.1, grown_trans (grown_below HG.out HB'.out) HE.out.2⟩, by simp [intOf]; omega⟩
      · have e0 : decide ((e : Int) ≤ 2 * (k : Int) + 2) = true := by simp; omega
        have e1 : decide ((e : Int) < (n : Int)) = true := by simp; omega
        have he3 : e ≤ 2 * k + 2 := by omega
        have hen : (e : Int) < (n : Int) := by omega
        have hen0 : (0 : Int) ≤ (e : Int) := by omega
        have hmn : (m : Int) < (n : Int) := by have := best_lt L' k m e HB.out (by have := HL.out; have := HN.out; omega); have := HL.out; have := HN.out; omega
        have hmn0 : (0 : Int) ≤ (m : Int) := by omega
        obtain ⟨x, hX⟩ : ∃ x, L'[e]? = some x := ⟨_, List.getElem?_eq_getElem (by have := HL.out; have := HN.out; omega)⟩
        obtain ⟨y, hY⟩ : ∃ y, L'[m]? = some y := ⟨_, List.getElem?_eq_getElem (by have := HL.out; have := HN.out; omega)⟩
        have hR2 : ro wr b L' cap := HR1.out.kept (hbel.block b hb1)
        have hxr := range5 (hR2.range e x hX)
        have hyr := range5 (hR2.range m y hY)
        have HX := Lib.hid hX
        have HY := Lib.hid hY
        clear hR2 hx hX hY
        go_wp2
        go_region_held3 (fun w' => w'.cell? ⟨g, 2, none⟩ = some (.slice (some ⟨b, 0, none⟩) n cap) ∧ (w'.cell? ⟨b, e * 5, none⟩ = some (.int .i64 x.t) ∧ w'.cell? ⟨b, e * 5 + 1, none⟩ = some (.int .i64 x.r) ∧ w'.cell? ⟨b, e * 5 + 2, none⟩ = some (.int .i64 x.n) ∧ w'.cell? ⟨b, e * 5 + 3, none⟩ = some (.int .u64 x.k) ∧ w'.cell? ⟨b, e * 5 + 4, none⟩ = some (Value.string x.x)) ∧
            (w'.cell? ⟨b, m * 5, none⟩ = some (.int .i64 y.t) ∧ w'.cell? ⟨b, m * 5 + 1, none⟩ = some (.int .i64 y.r) ∧ w'.cell? ⟨b, m * 5 + 2, none⟩ = some (.int .i64 y.n) ∧ w'.cell? ⟨b, m * 5 + 3, none⟩ = some (.int .u64 y.k) ∧ w'.cell? ⟨b, m * 5 + 4, none⟩ = some (Value.string y.x)))
          (first | go_keep | (go_split_ands; (repeat' constructor) <;> exact cellk (by assumption) (by assumption))) (first | (go_at_call 35; refine (ahead_calls x y _).mono ?_; rintro e' w' ⟨rfl, hB⟩))
        have hB' : Below wo.heap.size wo w' := hbel.trans ((undrew hB).mono hbel.size)
        have HB' := Lib.hid hB'
        clear hB hB' hbel c2 hxr hyr
        cases hF : fore x y
        · have HT := Lib.hid (best_keep L' k m e HB.out x y HX.out HY.out hF)
          clear hF
          go_wp2
          exact ⟨⟨m, e + 1, rfl, by go_num, by omega, by omega, HT.out, HB'.out⟩, by simp [intOf]; omega⟩
        · have HT := Lib.hid (best_take L' k m e HB.out x y he1 (by omega) HX.out HY.out hF)
          clear hF
          go_wp2
          exact ⟨⟨e, e + 1, rfl, by go_num, by omega, by omega, HT.out, HB'.out⟩, by simp [intOf]; omega⟩
end Go.Proofs.Ytodlcdpgiejnpaa.QS
