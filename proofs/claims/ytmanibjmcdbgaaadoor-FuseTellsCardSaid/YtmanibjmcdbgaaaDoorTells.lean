/- FuseTells. -/
import Derived.Test.YtmanibjmcdbgaaaDoorTellsA
import Derived.Test.YtmanibjmcdbgaaaDoorPref
import Derived.Test.YtmanibjmcdbgaaaDoorPlay
import Derived.OpenShut
namespace Go.Proofs.YtmanibjmcdbgaaaDoor
set_option linter.unusedVariables false
set_option linter.unusedSimpArgs false
open Go.RowKit Go.ChangeShapes

/-- What stands in memory between the steps. -/
structure St (w0 : World) (s : ByteArray) (n : Int) (g N0 : Nat) (c : Int) (l : ByteArray) (W : World) : Prop where
  b : Below w0.heap.size w0 W
  hs : W.heap[w0.heap.size]? = some (boxS s)
  hi : W.heap[w0.heap.size + 1]? = some (boxI n)
  hn : W.heap[N0]? = some boxNone
  hF : IsF W g 99 c l
  tab : Tab W
theorem St.chg {w0 : World} {s : ByteArray} {n : Int} {g N0 : Nat} {c c' : Int} {l l' : ByteArray} {W W' : World} (h : St w0 s n g N0 c l W) (hge : w0.heap.size ≤ g) (hC : Chg (fun k => k = g) W W') (hF : IsF W' g 99 c' l') : St w0 s n g N0 c' l' W' where
  b := h.b.trans (hC.toBelow h.b.size (fun k hk e => by omega))
  hs := hC.blk h.hs (blk_ne h.hs h.hF (by decide))
  hi := hC.blk h.hi (blk_ne h.hi h.hF (by decide))
  hn := hC.blk h.hn (blk_ne h.hn h.hF (by decide))
  hF := hF
  tab := tab_keeps h.tab h.hF (fun k hk hn => hC.block k hk hn)
theorem St.below {w0 : World} {s : ByteArray} {n : Int} {g N0 : Nat} {c : Int} {l : ByteArray} {W W' : World} (h : St w0 s n g N0 c l W) (hB : Below W.heap.size W W') : St w0 s n g N0 c l W' where
  b := h.b.trans (hB.mono h.b.size)
  hs := blk_below h.hs hB (blk_lt h.hs)
  hi := blk_below h.hi hB (blk_lt h.hi)
  hn := blk_below h.hn hB (blk_lt h.hn)
  hF := blk_below h.hF hB (blk_lt h.hF)
  tab := tab_below h.tab hB
theorem St.drewN {w0 : World} {s : ByteArray} {n : Int} {g N0 : Nat} {c : Int} {l : ByteArray} {W : World} (h : St w0 s n g N0 c l W) (k : Nat) : St w0 s n g N0 c l (W.drewN k) := ⟨⟨h.b.os, h.b.tape, h.b.output, h.b.size, h.b.block⟩, h.hs, h.hi, h.hn, h.hF, h.tab⟩
theorem St.drew {w0 : World} {s : ByteArray} {n : Int} {g N0 : Nat} {c : Int} {l : ByteArray} {W : World} (h : St w0 s n g N0 c l W) : St w0 s n g N0 c l W.drew := ⟨⟨h.b.os, h.b.tape, h.b.output, h.b.size, h.b.block⟩, h.hs, h.hi, h.hn, h.hF, h.tab⟩
theorem St.work {w0 : World} {s : ByteArray} {n : Int} {g N0 : Nat} {c : Int} {l : ByteArray} {W : World} (h : St w0 s n g N0 c l W) (k : Nat) : St w0 s n g N0 c l ((atWork W (some ⟨g, 0, none⟩)).drewN k) :=
  h.below ((atWork_chg W (some ⟨g, 0, none⟩) k (fun _ => False)).toBelow (Nat.le_refl _) (fun _ _ h => h))
theorem St.tells {w0 : World} {s : ByteArray} {n : Int} {g N0 : Nat} {c : Int} {l : ByteArray} {W : World} (h : St w0 s n g N0 c l W) (h0 : -9223372036854775808 ≤ n) (h1 : n ≤ 9223372036854775807) :
    TellsIn g W (.iface 28 (.int .i64 n)) (⟨#[101, 114, 114, 111, 114, 32]⟩ ++ numText n) := fun V hV => told_errno n h0 h1 V (tab_keeps h.tab h.hF hV)

section
variable {w0 : World} {s : ByteArray} {n : Int} {g N0 : Nat} {c : Int} {l : ByteArray} {W : World}
theorem do8 (h : St w0 s n g N0 c l W) (hge : w0.heap.size ≤ g) (c0 : 0 ≤ c) (c1 : c ≤ 90) :
    Calls Tryd.prog 7 #[.pointer (some ⟨g, 0, none⟩), .func (.func 8) #[] #[.pointer (some ⟨w0.heap.size, 0, none⟩)]] W fun e w' => e = .returned (.bool false) ∧ St w0 s n g N0 (c + 1) s w' :=
  (do_thr g 99 c l W h.hF (by omega) c0 (by omega) _ _ (known8 _) _ s (fun k => (work8 _ s _ (h.work k).hs).mono fun e w' ⟨he, hw⟩ => ⟨_, (tells_string s).at g w', he, k, hw⟩)).mono fun e w' ⟨he, hF, hC⟩ => ⟨he, h.chg hge hC hF⟩
theorem do9 (h : St w0 s n g N0 c l W) (hge : w0.heap.size ≤ g) (c0 : 0 ≤ c) (c1 : c ≤ 90) (h0 : -9223372036854775808 ≤ n) (h1 : n ≤ 9223372036854775807) :
    Calls Tryd.prog 7 #[.pointer (some ⟨g, 0, none⟩), .func (.func 9) #[] #[.pointer (some ⟨w0.heap.size + 1, 0, none⟩)]] W fun e w' => e = .returned (.bool false) ∧ St w0 s n g N0 (c + 1) (⟨#[101, 114, 114, 111, 114, 32]⟩ ++ numText n) w' :=
  (do_thr g 99 c l W h.hF (by omega) c0 (by omega) _ _ (known9 _) _ _ (fun k => (work9 _ n _ (h.work k).hi).mono fun e w' ⟨he, hw⟩ => ⟨_, by subst hw; exact (h.work k).tells h0 h1, he, k, hw⟩)).mono fun e w' ⟨he, hF, hC⟩ => ⟨he, h.chg hge hC hF⟩
theorem do11 (h : St w0 s n g N0 c l W) (hge : w0.heap.size ≤ g) (c0 : 0 ≤ c) (c1 : c ≤ 90) (hs : s.size ≤ 140737488351232) :
    Calls Tryd.prog 7 #[.pointer (some ⟨g, 0, none⟩), .func (.func 11) #[] #[.pointer (some ⟨N0, 0, none⟩), .pointer (some ⟨w0.heap.size, 0, none⟩)]] W fun e w' => e = .returned (.bool false) ∧ St w0 s n g N0 (c + 1) (bToldX s.size) w' :=
  (do_thr g 99 c l W h.hF (by omega) c0 (by omega) _ _ (known11 _ _) _ _ (fun k => (work11 _ _ s hs _ (h.work k).hn (h.work k).hs).mono fun e w' ⟨⟨pv, ht, he⟩, j, hw⟩ => ⟨pv, ht.at g w', he, k + j, by rw [← hw]; simp [World.drewN, Nat.add_assoc]⟩)).mono fun e w' ⟨he, hF, hC⟩ => ⟨he, h.chg hge hC hF⟩
theorem do13 (h : St w0 s n g N0 c l W) (hge : w0.heap.size ≤ g) (c0 : 0 ≤ c) (c1 : c ≤ 90) :
    Calls Tryd.prog 7 #[.pointer (some ⟨g, 0, none⟩), .func (.func 13) #[] #[.pointer (some ⟨w0.heap.size + 1, 0, none⟩)]] W fun e w' => e = .returned (.bool false) ∧ St w0 s n g N0 (c + 1) ⟨#[111, 116, 104, 101, 114]⟩ w' :=
  (do_thr g 99 c l W h.hF (by omega) c0 (by omega) _ _ (known13 _) _ _ (fun k => (work13 _ n _ (h.work k).hi).mono fun e w' ⟨he, hw⟩ => ⟨_, (tells_int n).at g w', he, k, hw⟩)).mono fun e w' ⟨he, hF, hC⟩ => ⟨he, h.chg hge hC hF⟩
theorem do17 (h : St w0 s n g N0 c l W) (hge : w0.heap.size ≤ g) (c0 : 0 ≤ c) (c1 : c ≤ 90) :
    Calls Tryd.prog 7 #[.pointer (some ⟨g, 0, none⟩), .func (.func 17) #[] #[]] W fun e w' => e = .returned (.bool true) ∧ St w0 s n g N0 c l w' := by
  have hg := blk_lt h.hF
  refine (do_returns g 99 c l W h.hF (by omega) _ _ (fun w' => ∃ k, (atWork W (some ⟨g, 0, none⟩)).drewN k = w') known17.ne known17.call (fun k => (work17 _).mono fun e w' ⟨he, hw⟩ => ⟨he, k, hw⟩) ?_).mono ?_
  · rintro w' ⟨k, rfl⟩
    exact atWork_q W _ k
  · rintro e w' ⟨rfl, w1, ⟨k, rfl⟩, rfl⟩
    have hC : Chg (fun _ => False) W (((atWork W (some ⟨g, 0, none⟩)).drewN k).setCell ⟨W.heap.size + 1, 0, none⟩ (.bool true)) := (atWork_chg W (some ⟨g, 0, none⟩) k (fun _ => False)).setCell (p := ⟨W.heap.size + 1, 0, none⟩) (.inr (by simp)) _
    exact ⟨rfl, h.below (hC.toBelow (Nat.le_refl _) (fun _ _ h => h))⟩
end
set_option maxRecDepth 100000 in
set_option maxHeartbeats 6400000 in
theorem tells_walk (s : ByteArray) (hs : s.size ≤ 140737488351232) (n : Int) (wn : (Lit.int .i64 n).wf = true) (w : World) (hT : Tab w) :
    Calls Tryd.prog 3 #[.string s, .int .i64 n] w fun e w' => e = .returned (.bool true) ∧ Below w.heap.size w w' := by
  obtain ⟨bn0, bn1⟩ := bounds_i64 wn
  have HT := Lib.hid hT
  have hmf := mkf
  clear wn hT
  go_enter Tryd.func3, Tryd.ntmps3
  go_wp2_with fail
  have hb0 : Below w.heap.size w ((w.alloc (boxS s)).alloc (boxI n)) := ((Below.refl w.heap.size w).alloc (Nat.le_refl _) _).alloc (by simp) _
  refine (fixed_calls _).mono ?_
  rintro e w1 ⟨rfl, hB⟩
  have hs1 := blk_below (blk_alloc (heap_alloc_new w (boxS s)) (boxI n)) hB (by simp; omega)
  have hi1 := blk_below (next_top w (boxS s) (boxI n)) hB (by simp)
  have hB1 := hb0.trans (hB.mono (by simp; omega))
  have H1 := Lib.hid (And.intro hs1 (And.intro hi1 hB1))
  clear hs1 hi1 hB1 hB hb0
  go_wp2_with fail
  refine (new_most 99 99 (by decide) _).mono ?_
  rintro e w2 ⟨g, rfl, hF, hg, hB2⟩
  have hge : w.heap.size ≤ g := by have := H1.out.2.2.size; omega
  have hB3 : Below w1.heap.size w1 (w2.alloc boxNone) := hB2.alloc hB2.size _
  have H2 := Lib.hid (show St w s n g w2.heap.size 0 ByteArray.empty (w2.alloc boxNone) from
    { b := H1.out.2.2.trans (hB3.mono H1.out.2.2.size), hs := blk_below H1.out.1 hB3 (blk_lt H1.out.1), hi := blk_below H1.out.2.1 hB3 (blk_lt H1.out.2.1), hn := heap_alloc_new w2 _, hF := blk_alloc hF _, tab := tab_below HT.out (by
        have := H1.out.2.2.trans (hB3.mono H1.out.2.2.size)
        exact this) })
  have HF2 := Lib.hid hF
  obtain ⟨N0, hN0⟩ : ∃ N0, N0 = w2.heap.size := ⟨_, rfl⟩
  clear hF hg hB2 hB3 H1 HT
  go_wp2_with fail
  have s2 := blk_cell H2.out.drew.hs 0
  go_region_with (first
    | (go_at_call 7; refine (do8 H2.out.drew hge (by decide) (by decide)).mono ?_; rintro e w4 ⟨rfl, hS⟩; have H3 := Lib.hid hS; have s4 := blk_cell hS.hs 0; clear hS)
    | (go_at_call 6; first | (refine (last_calls g 99 _ _ _ H3.out.hF).mono ?_; rintro e w5 ⟨rfl, rfl⟩) | (refine (last_calls g 99 _ _ _ H2.out.drew.hF).mono ?_; rintro e w5 ⟨rfl, rfl⟩)))
  all_goals
    clear s2 H2
    have i3 := blk_cell H3.out.drew.hi 0
    have hsz := numText_size n bn0 bn1
    go_wp2_with fail
    go_region_with (first
      | (go_at_call 7; refine (do9 H3.out.drew hge (by decide) (by decide) bn0 bn1).mono ?_; rintro e w5 ⟨rfl, hS⟩; have H4 := Lib.hid hS; have i4 := blk_cell hS.hi 0; clear hS)
      | (go_at_call 6; refine (last_calls g 99 _ _ _ H4.out.hF).mono ?_; rintro e w6 ⟨rfl, rfl⟩)
      | (go_at_call 10; refine (errno_calls n bn0 bn1 _ H4.out.tab).mono ?_; rintro e w6 ⟨rfl, hB⟩; have H5 := Lib.hid (H4.out.below hB); clear hB))
  all_goals
    clear i3 i4 H3 H4
    have hbx := told_prefix s.size (by omega) (by omega)
    have hbs : (bTextX s.size).toUTF8.size ≤ 100000 := (bTextX_small s.size (by omega) (by omega)).1
    have hd : decide (((bToldX (s.size : Int)).size : Int) ≤ 6) = false := by simp; omega
    go_wp2_with fail
    refine (do11 H5.out hge (by decide) (by decide) hs).mono ?_
    rintro e w7 ⟨rfl, hS⟩
    have H6 := Lib.hid hS
    clear hS H5
    go_wp2_with fail
    refine (last_calls g 99 _ _ _ H6.out.hF).mono ?_
    rintro e w8 ⟨rfl, rfl⟩
    go_wp2_with fail
    refine (hasPref_calls (bTextX (s.size : Int)).toUTF8 (by omega) _).mono ?_
    rintro e w8 ⟨rfl, rfl⟩
    go_wp2_with fail
    refine (last_calls g 99 _ _ _ H6.out.hF).mono ?_
    rintro e w8 ⟨rfl, rfl⟩
    go_wp2_with fail
    refine (do13 H6.out hge (by decide) (by decide)).mono ?_
    rintro e w9 ⟨rfl, hS⟩
    have H7 := Lib.hid hS
    clear hS H6 hd hbx hbs
    go_wp2_with fail
    refine (last_calls g 99 _ _ _ H7.out.hF).mono ?_
    rintro e w10 ⟨rfl, rfl⟩
    go_wp2_with fail
    refine (caught_calls g 99 _ _ _ H7.out.hF).mono ?_
    rintro e w10 ⟨rfl, rfl⟩
    go_wp2_with fail
    refine (mend_any g 99 _ _ _ H7.out.hF).mono ?_
    rintro e w10 ⟨rfl, hF2, hC2⟩
    have H8 := Lib.hid (H7.out.chg hge hC2 hF2)
    clear hF2 hC2 H7
    go_wp2_with fail
    refine (last_calls g 99 _ _ _ H8.out.hF).mono ?_
    rintro e w11 ⟨rfl, rfl⟩
    go_wp2_with fail
    refine (caught_calls g 99 _ _ _ H8.out.hF).mono ?_
    rintro e w11 ⟨rfl, rfl⟩
    go_wp2_with fail
    refine (blown_calls g 99 _ _ _ H8.out.hF false (by decide)).mono ?_
    rintro e w11 ⟨rfl, k, rfl⟩
    have H9 := Lib.hid (H8.out.drewN k)
    clear H8
    go_wp2_with fail
    refine (do17 H9.out hge (by decide) (by decide)).mono ?_
    rintro e w12 ⟨rfl, hS⟩
    have H10 := Lib.hid hS
    clear hS H9
    go_wp2_with fail
    refine (last_calls g 99 _ _ _ H10.out.hF).mono ?_
    rintro e w13 ⟨rfl, rfl⟩
    go_wp2
    go_ret
    exact ⟨rfl, H10.out.b⟩
end Go.Proofs.YtmanibjmcdbgaaaDoor
