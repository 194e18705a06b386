/- The law on what stays, walked. -/
import Derived.Test.YtdkdmclbhcbfeaaDoorLa
import Derived.Test.YtdkdmclbhcbfeaaDoorOf
import Derived.Test.YtdkdmclbhcbfeaaDoorLg
import Derived.ArgAppend
import Derived.Laws.OwnMore
namespace Go.Proofs.YtdkdmclbhcbfeaaDoor.Nu
open Go.RowKit Go.Proofs.YtdkdmclbhcbfeaaDoor.Fl Go.Proofs.YtdkdmclbhcbfeaaDoorW.PrintWords Go.Proofs.YtdkdmclbhcbfeaaDoorW.PrintLast Go.Proofs.YtdkdmclbhcbfeaaDoorW.PrintMore
set_option linter.unusedVariables false
set_option linter.unusedSimpArgs false
section
open Go.ChangeShapes Go.WideShapes
variable {H : Type} {enc : TypeId × Value → H} {P : Program} {w : World} {base : Nat} {spare : Nat → Bool} {held : Bool}
theorem open_nums2 {t e : TypeId} {a : Option Addr} {len cap : Nat} {d : DataW H} {ps : List MemPlace} (ht : P.underlying t = some (.slice e)) (he : P.underlying e = some (.float .f64)) (hc : P.cellsOf e = 1)
    (h : DataW.Trod enc P w base spare held t (.slice a len cap) d ps) : ∃ zs, RowF w a len zs ∧ (a = none → cap = 0) := by
  obtain ⟨fuel, hf⟩ := h
  rcases DataW.trod_slice ht hf with ⟨h0, _⟩ | ⟨x, l, c, elems, rest, n, _, hcs, _, hb, hl, hm, hlen, hel, _, _⟩
  · simp [Value.cells] at h0
    obtain ⟨rfl, rfl, rfl⟩ := h0
    exact ⟨[], ⟨rfl, fun h => absurd h (by decide), fun n hn => by cases hn⟩, fun _ => rfl⟩
  · simp [Value.cells] at hcs
    obtain ⟨rfl, rfl, rfl⟩ := hcs
    obtain ⟨zs, hz, hp⟩ := take_lift (fun i y => w.cell? (x.add i) = some (.float .f64 y) ∧ (Lit.float .f64 y).wf = true) len (fun i hi => by
      have h1 := hel i hi
      have h2 : elems[i]? = some elems[i] := List.getElem?_eq_getElem (by omega)
      rw [h2, hc, Nat.mul_one, Option.bind_eq_some_iff] at h1
      obtain ⟨cs, h3, h4⟩ := h1
      obtain ⟨m, rfl, hw⟩ := trod_num he h4
      exact ⟨m, cell_of_cells?_one h3, hw⟩)
    refine ⟨zs, ⟨hz, fun _ => ⟨x, rfl, fun i y hy => (hp i y hy).1⟩, fun y hy => ?_⟩, fun h => by cases h⟩
    obtain ⟨i, hi⟩ := List.mem_iff_getElem?.1 hy
    exact of_decide_eq_true (hp i y hi).2
end
theorem made_room (w1 : World) (l : List Nat) (A : Option Addr) (c n : Nat) (hC : kF.C w1 A n l) (hnil : A = none → c = 0) (hn : n * 8 ≤ 140737488351232) :
    ∃ W2, (∀ ty, (Builtin.append_ #[30, 30] ty #[.slice (some ⟨w1.heap.size, 0, none⟩) 0 (n + 2), .slice A n c]).run Tryd.prog (w1.alloc (.cells (madeCells #[.float .f64 0] (n + 2)) 22)) = .ok (.slice (some ⟨w1.heap.size, 0, none⟩) n (n + 2)) W2) ∧
      Below w1.heap.size w1 W2 ∧ ∃ cur, W2.heap[w1.heap.size]? = some (.cells cur 22 (0, 0)) ∧ cur.size = n + 2 ∧ ∀ (i : Nat) x, l[i]? = some x → cur[i]? = some (.float .f64 x) := by
  obtain ⟨i0, hi, hzz⟩ := Option.map_eq_some_iff.1 info_F
  simp only [Prod.mk.injEq] at hzz
  obtain ⟨hz0, hz1, hz2⟩ := hzz
  have hln : l.length = n := hC.1
  have hnew := blk_new w1 (.cells (madeCells #[.float .f64 0] (n + 2)) 22)
  have hms : (madeCells #[Value.float .f64 0] (n + 2)).size = n + 2 := by simp [size_madeCells]
  rcases A with _ | ad
  · have h0 : n = 0 := by
      rcases Nat.eq_zero_or_pos n with h | h
      · exact h
      · obtain ⟨ad, h1, _⟩ := hC.2.2 h; cases h1
    subst h0
    obtain rfl := hnil rfl
    obtain ⟨_, inner, ho, _⟩ := room_R (0 + 2) (by decide) w1 w1.heap.size (Nat.le_refl _)
    refine ⟨_, fun ty => run_append_owned_none (P := Tryd.prog) _ w1.heap.size 30 ty 22 i0 1 Tryd.underlying30 hi _ 0 inner ho, below_alloc (Below.refl _ _) _, _, hnew, hms, fun i x hx => ?_⟩
    rw [List.length_eq_zero_iff.1 hln] at hx
    cases hx
  · obtain ⟨news, hnews⟩ : ∃ news, news = l.map (Value.float .f64) := ⟨_, rfl⟩
    have hnl : news.length = n := by rw [hnews, List.length_map, hln]
    have hcell : ∀ j u, news[j]? = some u → w1.cell? (ad.add j) = some u := by
      intro j u hu
      rw [hnews, List.getElem?_map] at hu
      obtain ⟨x, hx, rfl⟩ := Option.map_eq_some_iff.1 hu
      have hpos : 0 < n := by have := (List.getElem?_eq_some_iff.1 hx).1; omega
      obtain ⟨ad2, hA, hc⟩ := hC.2.2 hpos
      cases hA
      obtain ⟨cs, _, hK, hcell⟩ := hc j x hx
      obtain rfl := kF_open hK
      have := hcell 0 _ rfl
      rwa [kF_sz, Nat.add_zero, Nat.mul_one] at this
    have hr := run_append_room_cells (P := Tryd.prog) (w1.alloc (.cells (madeCells #[.float .f64 0] (n + 2)) 22)) 30 30 22 i0 Tryd.underlying30 hi w1.heap.size 0 0 (n + 2) ad n c news (by rw [hz1, hnl, Nat.mul_one]) (fun j u hu => cell_kept (below_alloc (Below.refl _ _) _) (hcell j u hu)) (by
        intro u hu
        rw [hnews] at hu
        obtain ⟨x, _, rfl⟩ := List.mem_map.1 hu
        rfl) (by omega) (fun j hj => by rw [blk_cell hnew, Array.getElem?_eq_getElem (by rw [hms]; omega)]; rfl) (fun j hj => blk_frozen hnew _)
    simp only [Nat.zero_mul, Nat.add_zero, Nat.zero_add] at hr
    refine ⟨_, fun ty => ?_, ?_, _, setCells_blk hnew 0 news, by rw [setM_size, hms], fun i x hx => ?_⟩
    · have hr' := run_append_room_cells (P := Tryd.prog) (w1.alloc (.cells (madeCells #[.float .f64 0] (n + 2)) 22)) 30 ty 22 i0 Tryd.underlying30 hi w1.heap.size 0 0 (n + 2) ad n c news (by rw [hz1, hnl, Nat.mul_one]) (fun j u hu => cell_kept (below_alloc (Below.refl _ _) _) (hcell j u hu)) (by
        intro u hu
        rw [hnews] at hu
        obtain ⟨x, _, rfl⟩ := List.mem_map.1 hu
        rfl) (by omega) (fun j hj => by rw [blk_cell hnew, Array.getElem?_eq_getElem (by rw [hms]; omega)]; rfl) (fun j hj => blk_frozen hnew _)
      simpa only [Nat.zero_mul, Nat.add_zero, Nat.zero_add] using hr'
    · have hg := grown_setCells (w1.alloc (.cells (madeCells #[.float .f64 0] (n + 2)) 22)) w1.heap.size 0 news
      exact (below_alloc (Below.refl _ _) _).grown hg (by simp) (fun k hk => by injection hk with hk; omega)
    · have hil := (List.getElem?_eq_some_iff.1 hx).1
      rw [setM_get _ _ _ _ (by rw [hms, hnl]; omega), if_pos (by omega), Nat.sub_zero, hnews, List.getElem?_map, hx]
      rfl
theorem RF_open {w : World} {base n c : Nat} {A : Option Addr} {L : List Nat} (h : Kd.R kF 22 w base (fun _ => True) (.slice A n c) L) (hn : 0 < n) : n = L.length ∧ ∃ g, A = some ⟨g, 0, none⟩ ∧ base ≤ g ∧ ∀ i, i < n → (∃ x, w.cell? ⟨g, i, none⟩ = some x) ∧ w.frozen? ⟨g, i, none⟩ = false := by
  obtain ⟨hU1, inner, ⟨hil, ho⟩, hri⟩ := h
  rcases ho with ⟨h0, h0'⟩ | ⟨g, cap, cur, h0, hg, hcur, hcap', hmax, hcs, htake⟩
  · simp only [Value.slice.injEq] at h0; omega
  · simp only [Value.slice.injEq] at h0
    obtain ⟨rfl, hU2, rfl⟩ := h0
    refine ⟨hU2, g, rfl, hg, fun i hi => ⟨⟨cur[i]'(by rw [kF_sz] at hcs; omega), ?_⟩, blk_frozen hcur _⟩⟩
    rw [blk_cell hcur, Array.getElem?_eq_getElem]
theorem CF_cell2 {w : World} {A : Option Addr} {n : Nat} {L : List Nat} (h : kF.C w A n L) (hn : 0 < n) (i x : Nat) (hx : L[i]? = some x) : ∃ ad, A = some ad ∧ w.cell? (ad.add i) = some (.float .f64 x) := by
  obtain ⟨ad, hA, hc⟩ := h.2.2 hn
  refine ⟨ad, hA, ?_⟩
  obtain ⟨cs, hcl, hK, hcell⟩ := hc i x hx
  obtain rfl := kF_open hK
  have := hcell 0 _ rfl
  rwa [kF_sz, Nat.add_zero, Nat.mul_one] at this
/-- the room that was filled: l's numbers, and 7 behind them -/
structure Room (g n : Nat) (l : List Nat) (W : World) : Prop where
  c : ∃ cur, W.heap[g]? = some (.cells cur 22 (0, 0)) ∧ cur.size = n + 2 ∧ (∀ (i : Nat) x, l[i]? = some x → cur[i]? = some (.float .f64 x)) ∧ cur[n]? = some (.float .f64 4619567317775286272)
theorem Room.kept {g n : Nat} {l : List Nat} {W W' : World} {B : Nat} (h : Room g n l W) (hb : Below B W W') (hg : g < B) : Room g n l W' := by
  obtain ⟨cur, h1, h2⟩ := h.c
  exact ⟨cur, (hb.block g hg).trans h1, h2⟩
theorem Room.C {g n : Nat} {l : List Nat} {W : World} (h : Room g n l W) (hl : l.length = n) (hn : n ≤ 9223372036854775807) : kF.C W (some ⟨g, 0, none⟩) n l := by
  obtain ⟨cur, h1, h2, h3, _⟩ := h.c
  refine ⟨hl, hn, fun _ => ⟨_, rfl, fun i x hx => ⟨[.float .f64 x], rfl, rfl, fun j u hu => ?_⟩⟩⟩
  have hj : j = 0 := by have := (List.getElem?_eq_some_iff.1 hu).1; simpa using this
  subst hj
  simp only [List.getElem?_cons_zero, Option.some.injEq] at hu
  subst hu
  rw [kF_sz, Nat.mul_one, Nat.add_zero, add_plain, blk_cell h1]
  exact h3 i x hx
theorem Room.last {g n : Nat} {l : List Nat} {W : World} (h : Room g n l W) : W.cell? ⟨g, n, none⟩ = some (.float .f64 4619567317775286272) := by
  obtain ⟨cur, h1, h2, h3, h4⟩ := h.c
  rw [blk_cell h1]
  exact h4
theorem Room.at {g n : Nat} {l : List Nat} {W : World} (h : Room g n l W) {i x : Nat} (hx : l[i]? = some x) : W.cell? ⟨g, i, none⟩ = some (.float .f64 x) := by
  obtain ⟨cur, h1, h2, h3, h4⟩ := h.c
  rw [blk_cell h1]
  exact h3 i x hx
set_option maxHeartbeats 6400000 in
set_option maxRecDepth 100000 in
theorem keeps_walk (A : Option Addr) (len cap : Nat) (l : List Nat) (w : World) (hr : RowF w A len l) (hs : len * 8 ≤ 140737488351232) (hnil : A = none → cap = 0) (hT : Tabs w) : Calls Tryd.prog 9 #[.slice A len cap] w fun e w' => e = .returned (.bool true) ∧ Below w.heap.size w w' := by
  obtain rfl : l.length = len := hr.1
  have hC := hr.C (by omega)
  have hl := hr.2.2
  have H0 := Lib.hid (fixed_calls w hT)
  have HC := Lib.hid hC
  have HL := Lib.hid hl
  have HNil := Lib.hid hnil
  obtain ⟨n, hn⟩ : ∃ n, n = l.length := ⟨_, rfl⟩
  have HN := Lib.hid hn
  rw [← hn] at HC hs ⊢
  clear hr hl hC hT hn hnil
  go_enter Tryd.func9, Tryd.ntmps9
  go_wp2_with fail
  refine H0.out.mono ?_
  rintro e w1 ⟨rfl, hb⟩
  have B1 := Lib.hid hb
  clear hb H0
  have hmk := room_run (n + 2) (by omega) w1
  rw [show (((n + 2 : Nat)) : Int) = (n : Int) + 2 by omega] at hmk
  obtain ⟨W2, hap, hb2, cur, h1, h2, h3⟩ := made_room w1 l A cap n (Kd.C_below HC.out B1.out) HNil.out hs
  have B2 := Lib.hid hb2
  have n1 : Go.RowKit.wrap64 ((n : Int) + 2) = (n : Int) + 2 := by unfold Go.RowKit.wrap64; omega
  have n2 : ¬ n + 2 = n := by omega
  have hc0 : ∃ x0, W2.cell? ⟨w1.heap.size, n, none⟩ = some x0 := ⟨cur[n]'(by omega), by rw [blk_cell h1, Array.getElem?_eq_getElem]⟩
  obtain ⟨x0, hc0⟩ := hc0
  have hf0 : W2.frozen? ⟨w1.heap.size, n, none⟩ = false := blk_frozen h1 _
  have RM := Lib.hid (show Room w1.heap.size n l (W2.setCell ⟨w1.heap.size, n, none⟩ (.float .f64 4619567317775286272)) from by
    refine ⟨_, blk_set h1 _ _, by simpa using h2, fun i x hx => ?_, ?_⟩
    · have := (List.getElem?_eq_some_iff.1 hx).1
      rw [Array.getElem?_setIfInBounds_ne (by have := HN.out; omega)]
      exact h3 i x hx
    · rw [Array.getElem?_setIfInBounds_self_of_lt (by omega)])
  have B3 := Lib.hid (show Below w1.heap.size w1 (W2.setCell ⟨w1.heap.size, n, none⟩ (.float .f64 4619567317775286272)) from hb2.setCell (Nat.le_refl _) _)
  have G3 := Lib.hid (show w1.heap.size < (W2.setCell ⟨w1.heap.size, n, none⟩ (.float .f64 4619567317775286272)).heap.size from blk_lt (blk_set h1 _ _))
  have hst : ∀ m, (store ⟨w1.heap.size, n, none⟩ (.float .f64 4619567317775286272) m).run Tryd.prog W2 = .ok () (W2.setCell ⟨w1.heap.size, n, none⟩ (.float .f64 4619567317775286272)) := fun m => by rw [run_store _ _ _ _ m rfl, hc0]; simp [hf0]
  generalize W2.setCell ⟨w1.heap.size, n, none⟩ (.float .f64 4619567317775286272) = W3 at hst RM B3 G3
  have B3' := Lib.hid (B1.out.trans (B3.out.mono B1.out.size))
  have HCR := Lib.hid (fun W (hb : Below W3.heap.size W3 W) => (RM.out.kept hb G3.out).C HN.out.symm (by omega))
  have C1 := Lib.hid (fun W (hb : Below W3.heap.size W3 W) => (show Calls Tryd.prog 21 #[.slice (some ⟨w1.heap.size, 0, none⟩) n (n + 2)] W fun e w' => SomeF W (sortV l) e w' from by
    have z := HCR.out W hb
    rw [HN.out] at z ⊢
    exact nsort_calls _ _ l W z HL.out (by rw [← HN.out]; omega)))
  have C2 := Lib.hid (fun W (hb : Below W3.heap.size W3 W) => (show Calls Tryd.prog 26 #[.slice (some ⟨w1.heap.size, 0, none⟩) n (n + 2)] W fun e w' => e = .returned (.float .f64 (sumV l 0)) ∧ Below W.heap.size W w' from by
    have z := HCR.out W hb
    rw [HN.out] at z ⊢
    exact sum_calls _ _ l W z (by rw [← HN.out]; omega)))
  have C3 := Lib.hid (fun W (hb : Below W3.heap.size W3 W) => (show Calls Tryd.prog 22 #[.slice (some ⟨w1.heap.size, 0, none⟩) n (n + 2)] W fun e w' => e = .returned (.float .f64 (leastV l)) ∧ Below W.heap.size W w' from by
    have z := HCR.out W hb
    rw [HN.out] at z ⊢
    exact least_calls _ _ l W z HL.out (by rw [← HN.out]; omega)))
  clear hb2 h1 h2 h3 hc0 hf0
  go_wp2_with ((with_reducible refine gate_builtin (b := .append) (xs := #[.tmp 13, .tmp 14]) rfl ?_); at_builtin; refine Kd.event_run (v := .slice (some ⟨w1.heap.size, 0, none⟩) n (n + 2)) (w1 := W2) rfl (by unfold execOp; simp [resolve, Deferred.ofValue, invoke, Act.eval, builtin, hap]) ?_)
  clear hap hst hmk n2
  go_wp2_with fail
  refine (C1.out _ (Below.refl _ _)).mono ?_
  rintro e w4 ⟨v4, rfl, hR, hb⟩
  have B4 := Lib.hid hb
  obtain ⟨A4, c4, rfl, hC4, hc4⟩ := R_C hR
  have R4 := Lib.hid hR
  have HSL := Lib.hid (sortV_length l)
  have K4 := Lib.hid hC4
  clear hb hR hC4
  go_wp2_with fail
  refine (C2.out _ B4.out).mono ?_
  rintro e w5 ⟨rfl, hb⟩
  have B5 := Lib.hid (B4.out.trans (hb.mono B4.out.size))
  have R5 := Lib.hid (Kd.R_below R4.out hb)
  clear hb R4
  go_wp2_with fail
  refine (C3.out _ B5.out).mono ?_
  rintro e w6 ⟨rfl, hb⟩
  have B6 := Lib.hid (B5.out.trans (hb.mono B5.out.size))
  have R6 := Lib.hid (Kd.R_below R5.out hb)
  clear hb R5 C1 C2 C3 K4
  have hSn : (sortV l).length = n := HSL.out.trans HN.out.symm
  rw [hSn] at hc4 R6 ⊢
  have HSn := Lib.hid hSn
  clear HSL hSn
  generalize sortV l = S at R6 HSn
  go_wp2
  go_loopg [6, 33] n (fun gg _ s33 W => ∃ (i : Nat) (L : List Nat) (wr : World), i ≤ n ∧ n - i ≤ gg ∧ s33 = .int .i64 i ∧ wr = W ∧ Aside (L.length = n ∧ Kd.R kF 22 wr W3.heap.size (fun _ => True) (.slice A4 n c4) L ∧ Below W3.heap.size W3 wr))
  case atStart => exact ⟨0, S, _, Nat.zero_le _, by omega, rfl, rfl, (show Aside _ from ⟨HSn.out, R6.out, B6.out⟩)⟩
  case round =>
    obtain ⟨i, L, wr, hi, hg, rfl, rfl, AW⟩ := hrel
    by_cases hin : i < n
    · obtain ⟨_, g, hA, hg3, hcf⟩ := RF_open AW.out.2.1 (by omega)
      subst hA
      obtain ⟨⟨x0, hc0⟩, hf0⟩ := hcf i hin
      have hput := Kd.R_putg (h1 := fun _ => rfl) (enc := Value.float .f64) AW.out.2.1 (i : Int) 13837309855095848960
      rw [Int.toNat_natCast] at hput
      have HP := Lib.hid hput.1
      have HB := Lib.hid (AW.out.2.2.setCell (p := ⟨g, i, none⟩) hg3 (.float .f64 13837309855095848960))
      have hst : ∀ m, (store ⟨g, i, none⟩ (.float .f64 13837309855095848960) m).run Tryd.prog wr = .ok () (wr.setCell ⟨g, i, none⟩ (.float .f64 13837309855095848960)) := fun m => by rw [run_store _ _ _ _ m rfl, hc0]; simp [hf0]
      have i1 : (i : Int) < (n : Int) := by omega
      have HLL := Lib.hid (show (L.set i 13837309855095848960).length = n by rw [List.length_set]; exact AW.out.1)
      generalize wr.setCell ⟨g, i, none⟩ (.float .f64 13837309855095848960) = wn at hst HP HB
      clear hput hc0 hf0 hcf hg3
      go_wp2
      go_roundg (n - (i + 1))
      case measure => omega
      case rel => exact ⟨i + 1, _, wn, by omega, by omega, (by first | rfl | go_num), rfl, (show Aside _ from ⟨HLL.out, HP.out, HB.out⟩)⟩
    · obtain rfl : i = n := by omega
      have S0 := Lib.hid AW.out
      clear R6 HSn AW
      go_wp2
      go_loopg [5, 40] 4 (fun gg s5 s40 W => ∃ (k : Nat) (L : List Nat) (v : Value) (wr : World), k ≤ 4 ∧ 4 - k ≤ gg ∧ s40 = .int .i64 k ∧ v = s5 ∧ wr = W ∧ Aside (L.length = i + k ∧ Kd.R kF 22 wr W3.heap.size (fun _ => True) v L ∧ Below W3.heap.size W3 wr))
      case atStart => exact ⟨0, L, _, _, by omega, by omega, rfl, rfl, rfl, S0.out⟩
      case round =>
        obtain ⟨k, L2, v, wq, hk, hgk, rfl, rfl, rfl, AW⟩ := hrel
        by_cases hk4 : k < 4
        · have HRR := Lib.hid AW.out.2.1
          have HBW := Lib.hid AW.out.2.2
          have HLB := Lib.hid (show (L2.length + 1) * 8 ≤ 140737488355328 by rw [AW.out.1]; omega)
          have HLK := Lib.hid AW.out.1
          have k1 : (k : Int) < 4 := by omega
          clear AW
          go_wp2_with ((with_reducible refine gate_builtin (b := .append) (xs := #[.tmp 42, .tmp 43]) rfl ?_); at_builtin; refine Kd.R_append kF (w0 := W3) W3.heap.size rfl (.tmp 42) (.tmp 43) 30 22 (.float .f64 0) 8 rfl Tryd.underlying30 info_F rfl (by decide) (by decide) v L2 4607182418800017408 [.float .f64 4607182418800017408] (fun _ => True) (fun _ => False) rfl rfl ?aP (fun _ hk => hk.elim) (fun _ _ => trivial) HRR.out HBW.out HBW.out.size ?aL ?_; (case aP => exact (show [Value.float .f64 4607182418800017408] = [Value.float .f64 4607182418800017408] from rfl)); (case aL => exact HLB.out); intro v7 w7 hr7 hb7 hg7 hat7; have S7 := Lib.hid (show (L2 ++ [4607182418800017408]).length = i + (k + 1) ∧ _ ∧ _ from ⟨by rw [List.length_append, HLK.out]; rfl, hr7, hb7⟩); clear hr7 hb7 hg7 hat7)
          go_roundg (4 - (k + 1))
          case measure => omega
          case rel => exact ⟨k + 1, _, v7, w7, by omega, by omega, (by first | rfl | go_num), rfl, rfl, S7.out⟩
        · obtain rfl : k = 4 := by omega
          have BQ := Lib.hid AW.out.2.2
          clear AW S0
          go_wp2
          go_loopg [7, 48] i (fun gg _ s48 W => ∃ (q : Nat) (wr : World), q ≤ i ∧ i - q ≤ gg ∧ s48 = .int .i64 q ∧ wr = W ∧ Aside (Below W3.heap.size W3 wr))
          case atStart => exact ⟨0, _, Nat.zero_le _, by omega, rfl, rfl, BQ.out⟩
          case round =>
            obtain ⟨q, wz, hq, hgq, rfl, rfl, BZ⟩ := hrel
            by_cases hqi : q < i
            · obtain ⟨x, hx⟩ : ∃ x, l[q]? = some x := ⟨_, List.getElem?_eq_getElem (by have := HN.out; omega)⟩
              have z1 := (RM.out.kept BZ.out G3.out).at hx
              obtain ⟨ad, hA, z2⟩ := CF_cell2 (Kd.C_below HC.out (B3'.out.trans (BZ.out.mono B3'.out.size))) (by omega) q x hx
              subst hA
              have HBX := Lib.hid (fun w => bits_calls x w)
              have BZ2 := Lib.hid BZ.out.drew
              have i1 : (q : Int) < (i : Int) := by omega
              clear hx
              go_wp2
              refine start_ (n := 11) (S := (fun W => W = wz.drew)) (ds := []) #[false, false, false, false, false, false, false, false, false, false, false] (by kernel_rfl) rfl rfl rfl (fun hHeld => ?_)
              refine pure_ (i := 0) (N := (some 51)) (v := ?_) (a' := ?_) #[true, false, false, false, false, false, false, false, false, false, false] rfl rfl (by kernel_rfl) (fun _ _ _ h => h) (Or.inl ⟨by rfl, ?_⟩) ?_ ?_
              rotate_left
              · intro w'
                go_simp
                with_reducible rfl
              rotate_left
              · simp only [Act.put, List.setIfInBounds_toArray, List.set_cons_zero, List.set_cons_succ, i64_w, i32_w]
                rfl
              refine pure_ (i := 1) (N := (some 52)) (v := ?_) (a' := ?_) #[true, true, false, false, false, false, false, false, false, false, false] rfl rfl (by kernel_rfl) (fun _ _ _ h => h) (Or.inl ⟨by rfl, ?_⟩) ?_ ?_
              rotate_left
              · intro w'
                go_simp
                with_reducible rfl
              rotate_left
              · simp only [Act.put, List.setIfInBounds_toArray, List.set_cons_zero, List.set_cons_succ, i64_w, i32_w]
                rfl
              refine pure_ (i := 2) (N := (some 53)) (v := ?_) (a' := ?_) #[true, true, true, false, false, false, false, false, false, false, false] rfl rfl (by kernel_rfl) (fun _ _ _ h => h) (Or.inl ⟨by rfl, ?_⟩) ?_ ?_
              rotate_left
              · intro w'
                go_simp
                with_reducible rfl
              rotate_left
              · simp only [Act.put, List.setIfInBounds_toArray, List.set_cons_zero, List.set_cons_succ, i64_w, i32_w]
                rfl
              refine take_ (i := 3) (N := (some 54)) (v := ?_) (a' := ?_) #[true, true, true, true, false, false, false, false, false, false, false] rfl rfl (by kernel_rfl) (fun _ _ _ h => h) (Or.inl ⟨by rfl, ?_⟩) hHeld ?_ ?_
              rotate_left
              · intro w' hS'
                obtain ⟨rfl⟩ := hS'
                go_simp
                with_reducible rfl
              rotate_left
              · simp only [Act.put, List.setIfInBounds_toArray, List.set_cons_zero, List.set_cons_succ, i64_w, i32_w]
                rfl
              refine pure_ (i := 5) (N := (some 56)) (v := ?_) (a' := ?_) #[true, true, true, true, false, true, false, false, false, false, false] rfl rfl (by kernel_rfl) (fun _ _ _ h => h) (Or.inl ⟨by rfl, ?_⟩) ?_ ?_
              rotate_left
              · intro w'
                go_simp
                with_reducible rfl
              rotate_left
              · simp only [Act.put, List.setIfInBounds_toArray, List.set_cons_zero, List.set_cons_succ, i64_w, i32_w]
                rfl
              refine pure_ (i := 6) (N := (some 57)) (v := ?_) (a' := ?_) #[true, true, true, true, false, true, true, false, false, false, false] rfl rfl (by kernel_rfl) (fun _ _ _ h => h) (Or.inl ⟨by rfl, ?_⟩) ?_ ?_
              rotate_left
              · intro w'
                go_simp
                with_reducible rfl
              rotate_left
              · simp only [Act.put, List.setIfInBounds_toArray, List.set_cons_zero, List.set_cons_succ, i64_w, i32_w]
                rfl
              refine pure_ (i := 7) (N := (some 58)) (v := ?_) (a' := ?_) #[true, true, true, true, false, true, true, true, false, false, false] rfl rfl (by kernel_rfl) (fun _ _ _ h => h) (Or.inl ⟨by rfl, ?_⟩) ?_ ?_
              rotate_left
              · intro w'
                go_simp
                with_reducible rfl
              rotate_left
              · simp only [Act.put, List.setIfInBounds_toArray, List.set_cons_zero, List.set_cons_succ, i64_w, i32_w]
                rfl
              refine take_ (i := 8) (N := (some 59)) (v := ?_) (a' := ?_) #[true, true, true, true, false, true, true, true, true, false, false] rfl rfl (by kernel_rfl) (fun _ _ _ h => h) (Or.inl ⟨by rfl, ?_⟩) hHeld ?_ ?_
              rotate_left
              · intro w' hS'
                obtain ⟨rfl⟩ := hS'
                go_simp
                with_reducible rfl
              rotate_left
              · simp only [Act.put, List.setIfInBounds_toArray, List.set_cons_zero, List.set_cons_succ, i64_w, i32_w]
                rfl
              refine one_ (i := 4) (N := (some 55)) #[true, true, true, true, true, true, true, true, true, false, false] rfl rfl (by kernel_rfl) (by decide) (fun K hK => ?_)
              refine goes_ Tryd.func15 (by kernel_rfl) rfl #[.float .f64 x] (by rfl) rfl rfl (by (try simp only [List.map_toArray, List.map_cons, List.map_nil]); first | done | rfl) ?_
              with_reducible refine (HBX.out _).mono ?_
              rintro e w' ⟨rfl, rfl⟩
              refine ⟨_, rfl, ?_⟩
              have hS2 := hHeld
              (try clear hHeld)
              refine hK.out _ _ hS2 (fun hHeld => ?_)
              clear hK K hS2
              refine norm_ (a' := ?_) ?_ ?_
              rotate_left
              · show Act.put _ (some 55) _ = _
                simp only [Act.put, List.setIfInBounds_toArray, List.set_cons_zero, List.set_cons_succ, i64_w, i32_w]
                rfl
              refine one_ (i := 9) (N := (some 60)) #[true, true, true, true, true, true, true, true, true, true, false] rfl rfl (by kernel_rfl) (by decide) (fun K hK => ?_)
              refine goes_ Tryd.func15 (by kernel_rfl) rfl #[.float .f64 x] (by rfl) rfl rfl (by (try simp only [List.map_toArray, List.map_cons, List.map_nil]); first | done | rfl) ?_
              with_reducible refine (HBX.out _).mono ?_
              rintro e w' ⟨rfl, rfl⟩
              refine ⟨_, rfl, ?_⟩
              have hS2 := hHeld
              (try clear hHeld)
              refine hK.out _ _ hS2 (fun hHeld => ?_)
              clear hK K hS2
              refine norm_ (a' := ?_) ?_ ?_
              rotate_left
              · show Act.put _ (some 60) _ = _
                simp only [Act.put, List.setIfInBounds_toArray, List.set_cons_zero, List.set_cons_succ, i64_w, i32_w]
                rfl
              refine pure_ (i := 10) (N := (some 61)) (v := ?_) (a' := ?_) #[true, true, true, true, true, true, true, true, true, true, true] rfl rfl (by kernel_rfl) (fun _ _ _ h => h) (Or.inl ⟨by rfl, ?_⟩) ?_ ?_
              rotate_left
              · intro w'
                go_simp
                with_reducible rfl
              rotate_left
              · simp only [Act.put, List.setIfInBounds_toArray, List.set_cons_zero, List.set_cons_succ, i64_w, i32_w]
                rfl
              refine done_ (by kernel_rfl) ?_
              (try clear hHeld)
              generalize wz.drew = wd at BZ2 ⊢
              clear z1 z2
              go_wp2
              go_roundg (i - (q + 1))
              case measure => omega
              case rel => exact ⟨q + 1, wd, by omega, by omega, (by first | rfl | go_num), rfl, BZ2.out⟩
            · obtain rfl : q = i := by omega
              have z1 := (RM.out.kept BZ.out G3.out).last
              have q7 : (FloatKind.f64.format.order 4619567317775286272 4619567317775286272 == some Ordering.eq) = true := by decide +kernel
              have i1 : (q : Int) < (q : Int) + 2 := by omega
              go_wp2
              go_ret
              exact ⟨rfl, B3'.out.trans (BZ.out.mono B3'.out.size)⟩
end Go.Proofs.YtdkdmclbhcbfeaaDoor.Nu
