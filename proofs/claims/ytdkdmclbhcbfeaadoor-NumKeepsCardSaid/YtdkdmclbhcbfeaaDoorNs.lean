/- num.Sort, walked. -/
import Derived.Test.YtdkdmclbhcbfeaaDoorSrt
import Derived.Test.YtdkdmclbhcbfeaaDoorRm
namespace Go.Proofs.YtdkdmclbhcbfeaaDoor.Nu
open Go.RowKit Go.Proofs.YtdkdmclbhcbfeaaDoor.Fl Go.Proofs.YtdkdmclbhcbfeaaDoorW.PrintWords Go.Proofs.YtdkdmclbhcbfeaaDoorW.PrintLast Go.Proofs.YtdkdmclbhcbfeaaDoorW.PrintMore
set_option linter.unusedVariables false
set_option linter.unusedSimpArgs false
/-- what holds between the rounds: a row of one's own holds L -/
structure RS (w : World) (L : List Nat) (v : Value) (W : World) : Prop where
  b : Below w.heap.size w W
  r : Kd.R kF 22 W w.heap.size (fun _ => True) v L
theorem own_base_F {w : World} {base : Nat} {v : Value} {L : List Nat} (h : Kd.R kF 22 w base (fun _ => True) v L) {k : Nat} (hk : v.ownBlock = some k) : base ≤ k := by
  obtain ⟨_, inner, ho, _⟩ := h
  exact own_base ho k hk
theorem below_grow {w W W' : World} {r : Option Nat} (h : Below w.heap.size w W) (hg : W.grownBy W' r) (hr : ∀ k, r = some k → w.heap.size ≤ k) : Below w.heap.size w W' :=
  ⟨hg.os.trans h.os, hg.tape.trans h.tape, hg.output.trans h.output, Nat.le_trans h.size hg.size, fun k hk => (hg.block k (Nat.lt_of_lt_of_le hk h.size) (fun e => by have := hr k e.symm; omega)).trans (h.block k hk)⟩
theorem map_snoc {l : List Nat} {k y : Nat} (hy : l[k]? = some y) : (l.take (k + 1)).map oneN = (l.take k).map oneN ++ [oneN y] := by
  rw [List.take_add_one, hy, Option.toList_some, List.map_append]; rfl
def SomeF (w : World) (L : List Nat) (e : Ending) (w' : World) : Prop := ∃ v : Value, e = .returned v ∧ Kd.R kF 22 w' w.heap.size (fun _ => True) v L ∧ Below w.heap.size w w'
set_option maxHeartbeats 3200000 in
theorem nsort_calls (A : Option Addr) (c : Nat) (l : List Nat) (w : World) (hr : kF.C w A l.length l) (hl : ∀ x ∈ l, x < 18446744073709551616) (hlen : l.length * 8 ≤ 140737488355320) :
    Calls Tryd.prog 21 #[.slice A l.length c] w fun e w' => SomeF w (sortV l) e w' := by
  obtain ⟨n, hn⟩ : ∃ n, n = l.length := ⟨_, rfl⟩
  have HR := Lib.hid hr
  have HN := Lib.hid hn
  have HL := Lib.hid hl
  have hm := room_run n (by omega)
  have S0 := Lib.hid (show RS w ((l.take 0).map oneN) (.slice (some ⟨w.heap.size, 0, none⟩) 0 n) (w.alloc (.cells (madeCells #[.float .f64 0] n) 22)) from ⟨below_alloc (Below.refl _ _) _, room_R n (by omega) w _ (Nat.le_refl _)⟩)
  rw [← hn] at hlen ⊢
  clear hr hn hl
  go_enter Tryd.func21, Tryd.ntmps21
  go_wp2
  clear hm
  go_loopg [3, 5, 11] n (fun gg s3 _ s11 W => ∃ (k : Nat) (v : Value) (wr : World), k ≤ n ∧ n - k ≤ gg ∧ s11 = .int .i64 k ∧ v = s3 ∧ wr = W ∧ Aside (RS w ((l.take k).map oneN) v wr))
  case atStart => exact ⟨0, _, _, Nat.zero_le _, by omega, rfl, rfl, rfl, S0.out⟩
  case round =>
    obtain ⟨k, v, wr, hk, hg, rfl, rfl, rfl, BW⟩ := hrel
    by_cases hlt : k < n
    · have hlt' : k < l.length := by have := HN.out; omega
      obtain ⟨y, hy⟩ : ∃ y, l[k]? = some y := ⟨_, List.getElem?_eq_getElem hlt'⟩
      have HSN := Lib.hid (map_snoc hy)
      have HLE := Lib.hid (show ((l.take k).map oneN).length ≤ k by rw [List.length_map]; exact List.length_take_le _ _)
      have hR := Kd.C_below HR.out BW.out.b
      obtain ⟨ad, hA, hc⟩ := hR.2.2 (by omega)
      obtain ⟨cs, hcl, hK, hcell⟩ := hc k y hy
      obtain rfl := kF_open hK
      have z0 := hcell 0 _ rfl
      rw [kF_sz, Nat.add_zero, Nat.mul_one] at z0
      have H := Lib.hid (fun w => one_calls y w)
      (try clear hK)
      (try clear hcl)
      clear hc hcell hR hy
      subst hA
      generalize (l.take k).map oneN = L at BW HSN HLE
      generalize oneN y = y1 at H HSN
      go_wp2_with (first | (go_at_call 16; refine (H.out _).mono ?_; rintro e w' ⟨rfl, rfl⟩) | ((with_reducible refine gate_builtin (b := .append) (xs := #[.tmp 15, .tmp 18]) rfl ?_); at_builtin; refine Kd.R_append kF (w0 := w) w.heap.size rfl (.tmp 15) (.tmp 18) 30 22 (.float .f64 0) 8 rfl Tryd.underlying30 info_F rfl (by decide) (by omega) v L y1 [.float .f64 y1] (fun _ => True) (fun _ => False) rfl rfl ?aP (fun _ hk => hk.elim) (fun _ _ => trivial) BW.out.r BW.out.b BW.out.b.size ?aL ?_; (case aP => exact (show [Value.float .f64 y1] = [Value.float .f64 y1] from rfl)); (case aL => have := HLE.out; omega); intro v1 w4 hr4 hb4 hg4 hat4; have S4 := Lib.hid (RS.mk hb4 hr4); clear hr4 hb4 hg4 hat4))
      go_roundg (n - (k + 1))
      case measure => omega
      case rel => exact ⟨k + 1, v1, w4, by omega, by omega, by go_num, rfl, rfl, (show Aside _ from by rw [HSN.out]; exact S4.out)⟩
    · obtain rfl : k = n := by omega
      have HT := Lib.hid (show l.take k = l by rw [HN.out]; exact List.take_length ..)
      have BW1 := Lib.hid (show RS w (l.map oneN) v wr by have := BW.out; rwa [HT.out] at this)
      have HS := Lib.hid (sort_F BW1.out.r (fun x hx => by obtain ⟨z, hz, rfl⟩ := List.mem_map.1 hx; exact one_lt (HL.out z hz)) (by rw [List.length_map]; have := HN.out; omega))
      have HU := Lib.hid (fun (S : List Nat) hp hs => sortV_only (r := S) HL.out hp hs)
      clear BW HT
      go_wp2_with fail
      refine HS.out.mono ?_
      rintro e w' ⟨rfl, S, hp, hs, hR, hg2⟩
      obtain rfl := HU.out S hp hs
      have hb2 := below_grow BW1.out.b hg2 (fun k hk => own_base_F BW1.out.r hk)
      have HB := Lib.hid hb2
      have HRR := Lib.hid hR
      clear hp hs hR hg2 hb2 HS
      go_wp2
      go_ret
      exact ⟨_, rfl, HRR.out, HB.out⟩
end Go.Proofs.YtdkdmclbhcbfeaaDoor.Nu
