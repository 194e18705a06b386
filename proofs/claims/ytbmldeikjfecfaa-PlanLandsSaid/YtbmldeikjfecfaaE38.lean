/- A part of the proof of the statement PlanLands: words, contracts of functions that it reaches, and what they compute. No condition. -/
import Derived.Test.YtbmldeikjfecfaaE22
import Derived.Test.YtbmldeikjfecfaaE37
import Derived.Test.YtbmldeikjfecfaaE09
set_option linter.unusedVariables false
set_option linter.unusedSimpArgs false
namespace Go.Proofs.Ytbmldeikjfecfaa.Hd
open Go.RowKit Go.Proofs.Ytbmldeikjfecfaa.T Go.Proofs.YtbmldeikjfecfaaW.PrintWords Go.Proofs.YtbmldeikjfecfaaW.PrintLast Go.Proofs.YtbmldeikjfecfaaW.PrintMore
section
variable {hosts cyc dly win prec : Int} {A5 : Option Addr} {c5 : Nat} {ds : List (List Int)} {A6 : Option Addr} {c6 : Nat} {es : List S40} {A7 : Option Addr} {c7 : Nat} {ls : List S63} {q : Int}
theorem cell71 : (Try.prog.info? 71).map (fun i => (i.zero, i.size, i.bytes)) = some (some (.agg #[.int .i64 0, .int .i64 0]), 2, 16) := by kernel_rfl
theorem res_snoc {k : Nat} {y : S40} (hy : es[k]? = some y) (host : Int) (down : Bool) : resV dly prec (es.take (k + 1)) host down = resV dly prec (es.take k) host down ++ (if onWire host down y = true then [stretchV dly prec down y] else []) := by
  unfold resV
  obtain ⟨hk, hy'⟩ := List.getElem?_eq_some_iff.1 hy
  rw [List.take_succ_eq_append_getElem hk, hy', List.filter_append, List.map_append]
  congr 1
  by_cases h : onWire host down y = true <;> simp [List.filter_cons, h]
theorem res_len (host : Int) (down : Bool) (k : Nat) : (resV dly prec (es.take k) host down).length ≤ k := by
  unfold resV
  rw [List.length_map]
  exact Nat.le_trans (List.length_filter_le _ _) (List.length_take_le _ _)
structure RL (w : World) (cv : Array Value) (L : List S71) (v : Value) (W : World) : Prop where
  b : Below w.heap.size w W
  c : W.heap[w.heap.size]? = some (.cells cv 26 (0, 0))
  r : Kd.R k71 71 W w.heap.size (fun _ => True) v L
theorem RL.below {w : World} {cv : Array Value} {L : List S71} {v : Value} {W W' : World} (h : RL w cv L v W) (hb : Below W.heap.size W W') : RL w cv L v W' := ⟨below_step h.b hb, blk_below h.c hb, Kd.R_below h.r hb⟩
theorem RL.cells {w : World} {L : List S71} {v : Value} {W : World} (h : RL w #[.int .i64 hosts, .int .i64 cyc, .int .i64 dly, .int .i64 win, .int .i64 prec, .slice A5 ds.length c5, .slice A6 es.length c6, .slice A7 ls.length c7, .int .i64 q] L v W) : W.cell? ⟨w.heap.size, 0, none⟩ = some (.int .i64 hosts) ∧ W.cell? ⟨w.heap.size, 1, none⟩ = some (.int .i64 cyc) ∧ W.cell? ⟨w.heap.size, 2, none⟩ = some (.int .i64 dly) ∧ W.cell? ⟨w.heap.size, 3, none⟩ = some (.int .i64 win) ∧ W.cell? ⟨w.heap.size, 4, none⟩ = some (.int .i64 prec) ∧
    W.cell? ⟨w.heap.size, 5, none⟩ = some (.slice A5 ds.length c5) ∧ W.cell? ⟨w.heap.size, 6, none⟩ = some (.slice A6 es.length c6) ∧ W.cell? ⟨w.heap.size, 7, none⟩ = some (.slice A7 ls.length c7) ∧ W.cell? ⟨w.heap.size, 8, none⟩ = some (.int .i64 q) :=
  ⟨(blk_cell h.c 0).trans rfl, (blk_cell h.c 1).trans rfl, (blk_cell h.c 2).trans rfl, (blk_cell h.c 3).trans rfl, (blk_cell h.c 4).trans rfl, (blk_cell h.c 5).trans rfl, (blk_cell h.c 6).trans rfl, (blk_cell h.c 7).trans rfl, (blk_cell h.c 8).trans rfl⟩
theorem own_base_of {w : World} {base : Nat} {v : Value} {L : List S71} (h : Kd.R k71 71 w base (fun _ => True) v L) {k : Nat} (hk : v.ownBlock = some k) : base ≤ k := by
  obtain ⟨_, inner, ho, _⟩ := h
  exact own_base ho k hk
theorem below_grow {w W W' : World} {r : Option Nat} (h : Below w.heap.size w W) (hg : W.grownBy W' r) (hr : ∀ k, r = some k → w.heap.size ≤ k) : Below w.heap.size w W' :=
  ⟨hg.os.trans h.os, hg.tape.trans h.tape, hg.output.trans h.output, Nat.le_trans h.size hg.size, fun k hk => (hg.block k (Nat.lt_of_lt_of_le hk h.size) (fun e => by have := hr k e.symm; omega)).trans (h.block k hk)⟩
theorem res_mem (K : Okc hosts cyc dly win prec ds es ls q) (host : Int) (down : Bool) (x : S71) (hx : x ∈ resV dly prec es host down) : -2305843009213693952 ≤ x.f0 ∧ x.f0 ≤ 2305843009213693952 := by
  unfold resV at hx
  obtain ⟨e, he, rfl⟩ := List.mem_map.1 hx
  have he' := (List.mem_filter.1 he).1
  have h1 := K.fwd he'
  have h2 := K.times he'
  have h3 := K.span
  have h4 := time_in e.f3
  unfold stretchV
  cases down <;> simp only [if_true, Bool.false_eq_true, if_false] <;> omega
def SomeR (w : World) (L : List S71) (e : Ending) (w' : World) : Prop := ∃ v0_ : Value, e = .returned v0_ ∧ Kd.R k71 71 w' w.heap.size (fun _ => True) v0_ L ∧ Below w.heap.size w w'
set_option maxRecDepth 100000 in
set_option maxHeartbeats 6400000 in
theorem reserved_down (w : World) (hr5 : Kd.C (Kd.slice 2 (Kd.int .i64)) w A5 ds.length ds) (hc5 : ds.length ≤ c5) (hr6 : Kd.C k40 w A6 es.length es) (hc6 : es.length ≤ c6) (hr7 : Kd.C k63 w A7 ls.length ls) (hc7 : ls.length ≤ c7) (host : Int) (ho : ∀ e ∈ es, okE e) (K : Okc hosts cyc dly win prec ds es ls q) :
    Calls Try.prog 35 #[.agg #[.int .i64 hosts, .int .i64 cyc, .int .i64 dly, .int .i64 win, .int .i64 prec, .slice A5 ds.length c5, .slice A6 es.length c6, .slice A7 ls.length c7, .int .i64 q], .int .i64 host, .bool true] w fun e w' => SomeR w ((resV dly prec es host true).mergeSort (fun x y => decide (x.f0 ≤ y.f0))) e w' := by
  have HR6 := Lib.hid hr6
  have HF := Lib.hid (fun (y : S40) (hy : y ∈ es) W (h : Below w.heap.size w W) => conf_Forward.calls hosts cyc dly win prec A5 c5 ds A6 c6 es A7 c7 ls q y.f0 y.f1 y.f2 y.f3 _ W (Kd.C_below hr5 h) hc5 (Kd.C_below hr6 h) hc6 (Kd.C_below hr7 h) hc7 (fwd_f y K.s (route_more K.h.2 (K.route hy)) (ho y hy).2.1 (by have := K.fwd hy; have := K.span; have := K.times hy; omega)))
  have HH := Lib.hid (fun (y : S40) (hy : y ∈ es) W => crew_Has.calls y.f1 host _ W (has_f y.f1 host (ho y hy).2.1))
  have HT := Lib.hid (fun (y : S40) W => frame_Time.calls y.f3 _ W (time_f y.f3))
  have HB := Lib.hid (fun (y : S40) (hy : y ∈ es) => And.intro (K.fwd hy) (K.times hy))
  have HS := Lib.hid K.span
  have HN := Lib.hid K.n
  have HM := Lib.hid (fun x hx => res_mem K host true x hx)
  have HU := Lib.hid (fun (S : List S71) hp hs => sorted_is (S := S) hp hs (res_apart K ho host true))
  have S0 := Lib.hid (show RL w #[.int .i64 hosts, .int .i64 cyc, .int .i64 dly, .int .i64 win, .int .i64 prec, .slice A5 ds.length c5, .slice A6 es.length c6, .slice A7 ls.length c7, .int .i64 q] (resV dly prec (es.take 0) host true) (.slice none 0 0) (w.alloc (.cells #[.int .i64 hosts, .int .i64 cyc, .int .i64 dly, .int .i64 win, .int .i64 prec, .slice A5 ds.length c5, .slice A6 es.length c6, .slice A7 ls.length c7, .int .i64 q] 26)) from ⟨below_alloc (Below.refl _ _) _, blk_new w _, Kd.R_nil _ _ _ _ _⟩)
  have h16 : es.length ≤ 16 := K.n
  have i16 : (es.length : Int) ≤ 16 := by omega
  clear hr5 hr6 hr7 ho K
  go_enter Try.func35, Try.ntmps35
  go_wp2
  go_loopg [7, 9, 10, 14] es.length (fun gg s7 _ _ s14 W => ∃ (k : Nat) (v : Value) (wr : World), k ≤ es.length ∧ es.length - k ≤ gg ∧ s14 = .int .i64 k ∧ v = s7 ∧ wr = W ∧ Aside (RL w #[.int .i64 hosts, .int .i64 cyc, .int .i64 dly, .int .i64 win, .int .i64 prec, .slice A5 ds.length c5, .slice A6 es.length c6, .slice A7 ls.length c7, .int .i64 q] (resV dly prec (es.take k) host true) v wr))
  case atStart => exact ⟨0, _, _, Nat.zero_le _, by omega, rfl, rfl, rfl, S0.out⟩
  case round =>
    obtain ⟨k, v, wr, hk, hg, rfl, rfl, rfl, BW⟩ := hrel
    by_cases hlt : k < es.length
    · obtain ⟨y, hy⟩ : ∃ y, es[k]? = some y := ⟨_, List.getElem?_eq_getElem hlt⟩
      have HY := Lib.hid hy
      have hm : y ∈ es := List.mem_iff_getElem?.2 ⟨k, hy⟩
      have hR := Kd.C_below HR6.out BW.out.b
      obtain ⟨ad, hA, hcc⟩ := hR.2.2 (by omega)
      obtain ⟨cs, hcl, hK, hcell⟩ := hcc k y hy
      obtain rfl := k40_open hK
      have z0 := hcell 0 _ rfl
      have z1 := hcell 1 _ rfl
      have z2 := hcell 2 _ rfl
      have z3 := hcell 3 _ rfl
      have hsz : k40.sz = 4 := rfl
      rw [hsz] at z0 z1 z2 z3
      rw [Nat.add_zero] at z0
      rw [add_field _ _ 1 (by omega)] at z1
      rw [add_field _ _ 2 (by omega)] at z2
      rw [add_field _ _ 3 (by omega)] at z3
      obtain ⟨q0, q1, q2, q3, q4, q5, q6, q7, q8⟩ := BW.out.cells
      have hwc := blk_lt BW.out.c
      have HF1 := Lib.hid (HF.out y hm)
      have HH1 := Lib.hid (HH.out y hm)
      have HT1 := Lib.hid (HT.out y)
      obtain ⟨⟨b1, b2, b3⟩, b4, b5, b6⟩ := HB.out y hm
      have t1 := time_in y.f3
      have hsp := HS.out
      have HSN := Lib.hid (res_snoc (dly := dly) (prec := prec) HY.out host true)
      have HLE := Lib.hid (res_len (dly := dly) (prec := prec) (es := es) host true k)
      unfold onWire stretchV at HSN
      simp only [if_true, Bool.false_eq_true, if_false] at HSN
      have i1 : (0 : Int) ≤ (k : Int) := by omega
      have i2 : (k : Int) < (es.length : Int) := by omega
      subst hA
      have c1 : fwdV dly prec y ≤ 1073741824 := by omega
      have c2 : 0 ≤ fwdV dly prec y := by omega
      have c3 : 0 ≤ y.f2 := b1
      have c4 : y.f2 ≤ 1073741824 := by omega
      clear hcell hcc hR hm hy hK hcl b1 b2 b3 b4 b5 b6 hsp
      generalize fwdV dly prec y = fw at HF1 HSN c1 c2
      generalize timeV y.f3 = tm at HT1 HSN t1
      generalize resV dly prec (es.take k) host true = L at BW HSN HLE
      obtain ⟨t1, t2⟩ := t1
      cases hh : hasV y.f1 host with
      | true =>
        rw [hh] at HH1
        rw [if_pos hh] at HSN
        clear hh
        obtain ⟨yf, yt, yp, ys⟩ := y
        simp only at HF1 HH1 HT1 HSN c3 c4 z0 z1 z2 z3
        go_wp2_with fail
        refine (HF1.out _ (below_alloc BW.out.b _)).mono ?_
        rintro e w1 ⟨rfl, hB⟩
        have hb1 := blk_below (blk_new wr (.cells #[.int .i64 yf, .int .u32 yt, .int .i64 yp, .int .i64 ys] 40)) hB
        have S1 := Lib.hid ((BW.out.below (below_alloc (Below.refl _ _) _)).below hB)
        clear hB
        have x1 : w1.cell? ⟨wr.heap.size, 1, none⟩ = some (.int .u32 yt) := (blk_cell hb1 1).trans rfl
        have x3 : w1.cell? ⟨wr.heap.size, 3, none⟩ = some (.int .i64 ys) := (blk_cell hb1 3).trans rfl
        have hx1 := blk_lt hb1
        have HX1 := Lib.hid hb1
        clear hb1
        go_wp2_with fail
        refine (HH1.out _).mono ?_
        rintro e w2 ⟨rfl, nq, rfl⟩
        have S2 := Lib.hid (S1.out.below (pw_below_drewN (Below.refl _ _) nq))
        go_wp2_with fail
        refine (HT1.out _).mono ?_
        rintro e w3 ⟨rfl, hB⟩
        have S3 := Lib.hid (S2.out.below hB)
        clear hB
        have b3 := S3.out.b
        go_wp2_with ((with_reducible refine gate_builtin (b := .append) (xs := #[.tmp 41, .tmp 49]) rfl ?_); at_builtin; refine Kd.R_append k71 (w0 := w) w.heap.size rfl (.tmp 41) (.tmp 49) 57 71 (.agg #[.int .i64 0, .int .i64 0]) 16 rfl Try.underlying57 cell71 rfl (by decide) (by omega) v L ⟨fw, fw + tm⟩ [.int .i64 fw, .int .i64 (fw + tm)] (fun _ => True) (fun _ => False) rfl rfl ?aP (fun _ hk => hk.elim) (fun _ _ => trivial) S3.out.r S3.out.b S3.out.b.size ?aL ?_; (case aP => exact k71_mkM _ _ _ ⟨fw, fw + tm⟩); (case aL => have := HLE.out; omega); intro v1 w4 hr4 hb4 hg4 hat4; have S4 := Lib.hid (RL.mk hb4 (blk_grown S3.out.c hg4 (Kd.R_ne S3.out.r S3.out.c (by decide))) hr4); clear hr4 hb4 hg4 hat4)
        go_roundg (es.length - (k + 1))
        case measure => omega
        case rel => exact ⟨k + 1, _, _, by omega, by omega, by go_num, rfl, rfl, by rw [HSN.out]; exact S4.out⟩
      | false =>
        rw [hh] at HH1
        rw [if_neg (by rw [hh]; decide), List.append_nil] at HSN
        clear hh
        obtain ⟨yf, yt, yp, ys⟩ := y
        simp only at HF1 HH1 HT1 HSN c3 c4 z0 z1 z2 z3
        go_wp2_with fail
        refine (HF1.out _ (below_alloc BW.out.b _)).mono ?_
        rintro e w1 ⟨rfl, hB⟩
        have hb1 := blk_below (blk_new wr (.cells #[.int .i64 yf, .int .u32 yt, .int .i64 yp, .int .i64 ys] 40)) hB
        have S1 := Lib.hid ((BW.out.below (below_alloc (Below.refl _ _) _)).below hB)
        clear hB
        have x1 : w1.cell? ⟨wr.heap.size, 1, none⟩ = some (.int .u32 yt) := (blk_cell hb1 1).trans rfl
        have hx1 := blk_lt hb1
        have HX1 := Lib.hid hb1
        clear hb1
        go_wp2_with fail
        refine (HH1.out _).mono ?_
        rintro e w2 ⟨rfl, nq, rfl⟩
        have S2 := Lib.hid (S1.out.below (pw_below_drewN (Below.refl _ _) nq))
        go_wp2
        go_roundg (es.length - (k + 1))
        case measure => omega
        case rel => exact ⟨k + 1, _, _, by omega, by omega, by go_num, rfl, rfl, by rw [HSN.out]; exact S2.out⟩
    · obtain rfl : k = es.length := by omega
      have hw := BW.out.r
      rw [List.take_length] at hw
      have HQ := Lib.hid (sort_R hw (fun x hx => HM.out x hx) (by have := res_len (dly := dly) (prec := prec) (es := es) host true es.length; rw [List.take_length] at this; omega))
      have HBB := Lib.hid BW.out.b
      have HVB := Lib.hid (fun k' (h : v.ownBlock = some k') => own_base_of hw h)
      clear hw BW
      go_wp2_with fail
      refine HQ.out.mono ?_
      rintro e w' ⟨rfl, S, hp, hs, hR, hG⟩
      have HR := Lib.hid hR
      have HSS := Lib.hid (HU.out S hp hs)
      have HG := Lib.hid hG
      clear hp hs hR hG
      go_wp2
      go_ret
      exact ⟨_, rfl, by rw [← HSS.out]; exact HR.out, below_grow HBB.out HG.out HVB.out⟩
set_option maxRecDepth 100000 in
set_option maxHeartbeats 6400000 in
theorem reserved_up (w : World) (hr5 : Kd.C (Kd.slice 2 (Kd.int .i64)) w A5 ds.length ds) (hc5 : ds.length ≤ c5) (hr6 : Kd.C k40 w A6 es.length es) (hc6 : es.length ≤ c6) (hr7 : Kd.C k63 w A7 ls.length ls) (hc7 : ls.length ≤ c7) (host : Int) (ho : ∀ e ∈ es, okE e) (K : Okc hosts cyc dly win prec ds es ls q) :
    Calls Try.prog 35 #[.agg #[.int .i64 hosts, .int .i64 cyc, .int .i64 dly, .int .i64 win, .int .i64 prec, .slice A5 ds.length c5, .slice A6 es.length c6, .slice A7 ls.length c7, .int .i64 q], .int .i64 host, .bool false] w fun e w' => SomeR w ((resV dly prec es host false).mergeSort (fun x y => decide (x.f0 ≤ y.f0))) e w' := by
  have HR6 := Lib.hid hr6
  have HF := Lib.hid (fun (y : S40) (hy : y ∈ es) W (h : Below w.heap.size w W) => conf_Forward.calls hosts cyc dly win prec A5 c5 ds A6 c6 es A7 c7 ls q y.f0 y.f1 y.f2 y.f3 _ W (Kd.C_below hr5 h) hc5 (Kd.C_below hr6 h) hc6 (Kd.C_below hr7 h) hc7 (fwd_f y K.s (route_more K.h.2 (K.route hy)) (ho y hy).2.1 (by have := K.fwd hy; have := K.span; have := K.times hy; omega)))
  have HH := Lib.hid (fun (y : S40) (hy : y ∈ es) W => crew_Has.calls y.f1 host _ W (has_f y.f1 host (ho y hy).2.1))
  have HT := Lib.hid (fun (y : S40) W => frame_Time.calls y.f3 _ W (time_f y.f3))
  have HB := Lib.hid (fun (y : S40) (hy : y ∈ es) => And.intro (K.fwd hy) (K.times hy))
  have HS := Lib.hid K.span
  have HN := Lib.hid K.n
  have HM := Lib.hid (fun x hx => res_mem K host false x hx)
  have HU := Lib.hid (fun (S : List S71) hp hs => sorted_is (S := S) hp hs (res_apart K ho host false))
  have S0 := Lib.hid (show RL w #[.int .i64 hosts, .int .i64 cyc, .int .i64 dly, .int .i64 win, .int .i64 prec, .slice A5 ds.length c5, .slice A6 es.length c6, .slice A7 ls.length c7, .int .i64 q] (resV dly prec (es.take 0) host false) (.slice none 0 0) (w.alloc (.cells #[.int .i64 hosts, .int .i64 cyc, .int .i64 dly, .int .i64 win, .int .i64 prec, .slice A5 ds.length c5, .slice A6 es.length c6, .slice A7 ls.length c7, .int .i64 q] 26)) from ⟨below_alloc (Below.refl _ _) _, blk_new w _, Kd.R_nil _ _ _ _ _⟩)
  have h16 : es.length ≤ 16 := K.n
  have i16 : (es.length : Int) ≤ 16 := by omega
  clear hr5 hr6 hr7 ho K
  go_enter Try.func35, Try.ntmps35
  go_wp2
  go_loopg [7, 9, 10, 14] es.length (fun gg s7 _ _ s14 W => ∃ (k : Nat) (v : Value) (wr : World), k ≤ es.length ∧ es.length - k ≤ gg ∧ s14 = .int .i64 k ∧ v = s7 ∧ wr = W ∧ Aside (RL w #[.int .i64 hosts, .int .i64 cyc, .int .i64 dly, .int .i64 win, .int .i64 prec, .slice A5 ds.length c5, .slice A6 es.length c6, .slice A7 ls.length c7, .int .i64 q] (resV dly prec (es.take k) host false) v wr))
  case atStart => exact ⟨0, _, _, Nat.zero_le _, by omega, rfl, rfl, rfl, S0.out⟩
  case round =>
    obtain ⟨k, v, wr, hk, hg, rfl, rfl, rfl, BW⟩ := hrel
    by_cases hlt : k < es.length
    · obtain ⟨y, hy⟩ : ∃ y, es[k]? = some y := ⟨_, List.getElem?_eq_getElem hlt⟩
      have HY := Lib.hid hy
      have hm : y ∈ es := List.mem_iff_getElem?.2 ⟨k, hy⟩
      have hR := Kd.C_below HR6.out BW.out.b
      obtain ⟨ad, hA, hcc⟩ := hR.2.2 (by omega)
      obtain ⟨cs, hcl, hK, hcell⟩ := hcc k y hy
      obtain rfl := k40_open hK
      have z0 := hcell 0 _ rfl
      have z1 := hcell 1 _ rfl
      have z2 := hcell 2 _ rfl
      have z3 := hcell 3 _ rfl
      have hsz : k40.sz = 4 := rfl
      rw [hsz] at z0 z1 z2 z3
      rw [Nat.add_zero] at z0
      rw [add_field _ _ 1 (by omega)] at z1
      rw [add_field _ _ 2 (by omega)] at z2
      rw [add_field _ _ 3 (by omega)] at z3
      obtain ⟨q0, q1, q2, q3, q4, q5, q6, q7, q8⟩ := BW.out.cells
      have hwc := blk_lt BW.out.c
      have HF1 := Lib.hid (HF.out y hm)
      have HH1 := Lib.hid (HH.out y hm)
      have HT1 := Lib.hid (HT.out y)
      obtain ⟨⟨b1, b2, b3⟩, b4, b5, b6⟩ := HB.out y hm
      have t1 := time_in y.f3
      have hsp := HS.out
      have HSN := Lib.hid (res_snoc (dly := dly) (prec := prec) HY.out host false)
      have HLE := Lib.hid (res_len (dly := dly) (prec := prec) (es := es) host false k)
      unfold onWire stretchV at HSN
      simp only [if_true, Bool.false_eq_true, if_false] at HSN
      have i1 : (0 : Int) ≤ (k : Int) := by omega
      have i2 : (k : Int) < (es.length : Int) := by omega
      subst hA
      have c1 : fwdV dly prec y ≤ 1073741824 := by omega
      have c2 : 0 ≤ fwdV dly prec y := by omega
      have c3 : 0 ≤ y.f2 := b1
      have c4 : y.f2 ≤ 1073741824 := by omega
      clear hcell hcc hR hm hy hK hcl b1 b2 b3 b4 b5 b6 hsp
      generalize fwdV dly prec y = fw at HF1 HSN c1 c2
      generalize timeV y.f3 = tm at HT1 HSN t1
      generalize resV dly prec (es.take k) host false = L at BW HSN HLE
      obtain ⟨t1, t2⟩ := t1
      by_cases hh : y.f0 = host
      · have hh1 : (y.f0 == host) = true := by simp [hh]
        rw [if_pos (decide_eq_true hh)] at HSN
        clear hh
        obtain ⟨yf, yt, yp, ys⟩ := y
        simp only at HF1 HH1 HT1 HSN c3 c4 z0 z1 z2 z3 hh1
        go_wp2_with fail
        refine (HT1.out _).mono ?_
        rintro e w3 ⟨rfl, hB⟩
        have S3 := Lib.hid ((BW.out.below (below_alloc (Below.refl _ _) _)).below hB)
        clear hB
        have b3 := S3.out.b
        go_wp2_with ((with_reducible refine gate_builtin (b := .append) (xs := #[.tmp 41, .tmp 49]) rfl ?_); at_builtin; refine Kd.R_append k71 (w0 := w) w.heap.size rfl (.tmp 41) (.tmp 49) 57 71 (.agg #[.int .i64 0, .int .i64 0]) 16 rfl Try.underlying57 cell71 rfl (by decide) (by omega) v L ⟨yp, yp + tm⟩ [.int .i64 yp, .int .i64 (yp + tm)] (fun _ => True) (fun _ => False) rfl rfl ?aP (fun _ hk => hk.elim) (fun _ _ => trivial) S3.out.r S3.out.b S3.out.b.size ?aL ?_; (case aP => exact k71_mkM _ _ _ ⟨yp, yp + tm⟩); (case aL => have := HLE.out; omega); intro v1 w4 hr4 hb4 hg4 hat4; have S4 := Lib.hid (RL.mk hb4 (blk_grown S3.out.c hg4 (Kd.R_ne S3.out.r S3.out.c (by decide))) hr4); clear hr4 hb4 hg4 hat4)
        go_roundg (es.length - (k + 1))
        case measure => omega
        case rel => exact ⟨k + 1, _, _, by omega, by omega, by go_num, rfl, rfl, by rw [HSN.out]; exact S4.out⟩
      · have hh1 : (y.f0 == host) = false := by simp [hh]
        rw [if_neg (by rw [decide_eq_false hh]; decide), List.append_nil] at HSN
        clear hh
        obtain ⟨yf, yt, yp, ys⟩ := y
        simp only at HF1 HH1 HT1 HSN c3 c4 z0 z1 z2 z3 hh1
        have S2 := Lib.hid (BW.out.below (below_alloc (Below.refl _ _) (.cells #[.int .i64 yf, .int .u32 yt, .int .i64 yp, .int .i64 ys] 40)))
        go_wp2
        go_roundg (es.length - (k + 1))
        case measure => omega
        case rel => exact ⟨k + 1, _, _, by omega, by omega, by go_num, rfl, rfl, by rw [HSN.out]; exact S2.out⟩
    · obtain rfl : k = es.length := by omega
      have hw := BW.out.r
      rw [List.take_length] at hw
      have HQ := Lib.hid (sort_R hw (fun x hx => HM.out x hx) (by have := res_len (dly := dly) (prec := prec) (es := es) host false es.length; rw [List.take_length] at this; omega))
      have HBB := Lib.hid BW.out.b
      have HVB := Lib.hid (fun k' (h : v.ownBlock = some k') => own_base_of hw h)
      clear hw BW
      go_wp2_with fail
      refine HQ.out.mono ?_
      rintro e w' ⟨rfl, S, hp, hs, hR, hG⟩
      have HR := Lib.hid hR
      have HSS := Lib.hid (HU.out S hp hs)
      have HG := Lib.hid hG
      clear hp hs hR hG
      go_wp2
      go_ret
      exact ⟨_, rfl, by rw [← HSS.out]; exact HR.out, below_grow HBB.out HG.out HVB.out⟩
end
end Go.Proofs.Ytbmldeikjfecfaa.Hd
