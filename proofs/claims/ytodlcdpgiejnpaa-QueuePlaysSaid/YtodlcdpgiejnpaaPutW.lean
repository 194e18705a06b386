/- The document's Put: the walk. -/
import Derived.Test.YtodlcdpgiejnpaaPut
namespace Go.Proofs.Ytodlcdpgiejnpaa
set_option linter.unusedVariables false
set_option linter.unusedSimpArgs false
open Go.RowKit Hp

theorem wpList_lat {w : World} {ops : Array Oper} {rest : List Oper} {op : Oper} {a : Act} {Q : Exit → Act → World → Prop} (hgd : op.guard = none) (s x : Operand)
    (ho : op.op = .call { callee := .builtin .append, args := #[s, x], argTypes := #[26, 26] })
    (base : Nat) (v : Value) (T : List Tp) (hs : a.eval s = v) (hv : LAt w base v T) (hb : base ≤ w.heap.size) (hlen : T.length ≤ 70000) (n : Nat) (hn : n = T.length) (y : Tp) (ad : Addr) (c : Nat) (hx : a.eval x = .slice (some ad) 1 c)
    (hnews : ∀ j u, (tc4 y)[j]? = some u → w.cell? (ad.add j) = some u)
    (h : ∀ b o cap w', base ≤ b → Row4 w' b o cap (T ++ [y]) → w.grownBy w' v.ownBlock → (v.ownBlock = some b ∨ w.heap.size ≤ b) → wpList Try.prog ops Q rest (a.put op.dst (.slice (some ⟨b, o, none⟩) (n + 1) cap)) w') : wpList Try.prog ops Q (op :: rest) a w := by
  subst hn
  refine wpList_plain hgd fun K hK => ?_
  obtain ⟨b, o, cap, w', hr, h2, h3, h4, h5⟩ := append_run w base v T hv hb hlen y op.type ad c hnews
  unfold Oper.wp execOp
  simp only [ho, resolve, invoke, builtin, Sem.run_bind, Sem.run_pure, Result.andThen_ok, List.map_toArray, List.map_cons, List.map_nil, hs, hx, hr]
  exact hK _ _ (h b o cap w' h2 h3 h4 h5)
theorem LAt.form {w : World} {base : Nat} {v : Value} {T : List Tp} (h : LAt w base v T) : ∃ Ao cap, v = .slice Ao T.length cap := by
  rcases h with ⟨rfl, rfl⟩ | ⟨b, o, cap, rfl, _⟩
  · exact ⟨none, 0, rfl⟩
  · exact ⟨_, cap, rfl⟩
theorem LAt.row {w : World} {base : Nat} {Ao : Option Addr} {n cap : Nat} {T : List Tp} (h : LAt w base (.slice Ao n cap) T) (h0 : 0 < T.length) : ∃ b o, Ao = some ⟨b, o, none⟩ ∧ base ≤ b ∧ Row4 w b o cap T := by
  rcases h with ⟨_, rfl⟩ | ⟨b, o, cap', he, hb, hr⟩
  · simp at h0
  · injection he with h1 h2 h3
    subst h3
    exact ⟨b, o, h1, hb, hr⟩

set_option maxRecDepth 100000 in
set_option maxHeartbeats 3200000 in
theorem put_calls (base : Nat) (v : Value) (T : List Tp) (x : Tp) (w : World) (hv : LAt w base v T) (hs : SortT T) (hlen : T.length ≤ 65536) (hb : base ≤ w.heap.size) :
    Calls Try.prog 11 #[v, .agg (tc4 x).toArray] w fun e w' => ∃ v', e = .returned v' ∧ LAt w' base v' (insT x T) ∧ w.grownBy w' v.ownBlock ∧ (v'.ownBlock = v.ownBlock ∨ ∃ q, v'.ownBlock = some q ∧ w.heap.size ≤ q) := by
  obtain ⟨Ao, cap, rfl⟩ := hv.form
  obtain ⟨n, hn⟩ : ∃ n, n = T.length := ⟨_, rfl⟩
  have hbx := heap_alloc_new w (.cells (tc4 x).toArray 34)
  have hv1 : LAt (w.alloc (.cells (tc4 x).toArray 34)) base (.slice Ao T.length cap) T := hv.kept fun b hb' => heap_alloc_old w _ (hv.lt b hb').2
  have HVL := Lib.hid hv.lt
  rw [← hn] at hv hv1 hlen HVL ⊢
  have HN := Lib.hid hn
  have HBX := Lib.hid hbx
  have HV1 := Lib.hid hv1
  have HS := Lib.hid hs
  clear hv hbx hv1 hs hn
  obtain ⟨xt, xr, xn, xx⟩ := x
  simp only [tc4] at HBX HV1 ⊢
  go_enter Try.func11, Try.ntmps11
  go_wp2_with fail
  obtain ⟨w1, hw1⟩ : ∃ w1, w1 = w.alloc (.cells #[.int .i64 xt, .int .i64 xr, .int .i64 xn, .int .i64 xx] 34) := ⟨_, rfl⟩
  have hB1 : Below w.heap.size w w1 := by rw [hw1]; exact (Below.refl _ _).alloc (Nat.le_refl _) _
  have hs1 : w1.heap.size = w.heap.size + 1 := by rw [hw1]; simp
  rw [← hw1] at HBX HV1 ⊢
  have HB1 := Lib.hid hB1
  have HS1 := Lib.hid hs1
  clear hw1 hB1 hs1
  go_loopw [5, 6] (fun vl vh wr => ∃ (lo hi : Nat), vl = .int .i64 lo ∧ vh = .int .i64 hi ∧ Cut (xt, xr, xn, xx) T lo hi ∧ Below w1.heap.size w1 wr) (fun vl vh _ => (intOf vh).toNat - (intOf vl).toNat)
  case atStart => exact ⟨0, n, rfl, rfl, by rw [HN.out]; exact Cut.start _ _, Below.refl _ _⟩
  case round =>
    rename World => wo
    obtain ⟨lo, hi, rfl, rfl, hC, hB⟩ := hrel
    have hhi : hi ≤ n := by have := hC.2.1; have := HN.out; omega
    have hbx2 := (hB.block w.heap.size (by have := HS1.out; omega)).trans HBX.out
    have hv2 : LAt wo base (.slice Ao n cap) T := HV1.out.kept fun b hb' => hB.block b (HV1.out.lt b hb').2
    by_cases hlt : lo < hi
    · obtain ⟨m, hm⟩ : ∃ m, m = (lo + hi) / 2 := ⟨_, rfl⟩
      have hm1 : lo ≤ m := by omega
      have hm2 : m < hi := by omega
      obtain ⟨b, o, rfl, hbb, hrow⟩ := hv2.row (by have := HN.out; omega)
      obtain ⟨y, hy⟩ : ∃ y, T[m]? = some y := ⟨_, List.getElem?_eq_getElem (by have := HN.out; omega)⟩
      have hq1 : ((lo : Int) + (hi : Int)) / 2 = (m : Int) := by omega
      have hyr := hrow.cell m y hy
      have b0 := blk_cell hbx2 0
      have b1 := blk_cell hbx2 1
      have b2 := blk_cell hbx2 2
      have b3 := blk_cell hbx2 3
      have i1 : (0 : Int) ≤ (m : Int) := by omega
      have i2 : (m : Int) < (n : Int) := by omega
      have HY := Lib.hid hy
      have HCC := Lib.hid hC
      have HBB := Lib.hid hB
      obtain ⟨yt, yr, yn, yx⟩ := y
      simp only at hyr
      have HBC := Lib.hid (fun W => behind_calls (xt, xr, xn, xx) (yt, yr, yn, yx) W)
      simp only [tc4] at HBC
      clear hy hC hB hrow hv2 hbx2 hm
      go_wp2_with fail
      go_region_held3 (fun w' => (w'.cell? ⟨w.heap.size, 0, none⟩ = some (.int .i64 xt) ∧ w'.cell? ⟨w.heap.size, 1, none⟩ = some (.int .i64 xr) ∧ w'.cell? ⟨w.heap.size, 2, none⟩ = some (.int .i64 xn) ∧ w'.cell? ⟨w.heap.size, 3, none⟩ = some (.int .i64 xx)) ∧
            (w'.cell? ⟨b, o + m * 4, none⟩ = some (.int .i64 yt) ∧ w'.cell? ⟨b, o + m * 4 + 1, none⟩ = some (.int .i64 yr) ∧ w'.cell? ⟨b, o + m * 4 + 2, none⟩ = some (.int .i64 yn) ∧ w'.cell? ⟨b, o + m * 4 + 3, none⟩ = some (.int .i64 yx)))
          (first | (go_keep; done) | (go_split_ands; (repeat' constructor) <;> exact cellk (by assumption) (by assumption))) (first | (go_at_call 27; refine (HBC.out _).mono ?_; rintro e' w' ⟨rfl, hB⟩))
      have hB' := HBB.out.trans ((undrew hB).mono HBB.out.size)
      have HB' := Lib.hid hB'
      clear hB hB' b0 b1 b2 b3 hyr
      cases hF : lx (xt, xr, xn, xx) (yt, yr, yn, yx)
      · have HC2 := Lib.hid (HCC.out.up HS.out hm2 _ HY.out hF hm1)
        clear hF
        go_wp2
        exact ⟨⟨m + 1, hi, by go_num, rfl, HC2.out, HB'.out⟩, by simp [intOf]; omega⟩
      · have HC2 := Lib.hid (HCC.out.down HS.out hm2 _ HY.out hF hm1)
        clear hF
        go_wp2
        exact ⟨⟨lo, m, rfl, by go_num, HC2.out, HB'.out⟩, by simp [intOf]; omega⟩
    · obtain rfl : lo = hi := by have := hC.1; omega
      have HC := Lib.hid hC
      have HB := Lib.hid hB
      have HV2 := Lib.hid hv2
      have HBX2 := Lib.hid hbx2
      have b0 := blk_cell hbx2 0
      have b1 := blk_cell hbx2 1
      have b2 := blk_cell hbx2 2
      have b3 := blk_cell hbx2 3
      have hso := hB.size
      have hso1 := HS1.out
      clear hC hB hv2 hbx2
      go_wp2_with (at_builtin; refine wpList_lat rfl _ _ rfl base (.slice Ao n cap) T (by rfl) (HV2.out.kept fun q hq => heap_alloc_old wo _ (HV2.out.lt q hq).2) (by simp; omega) (by have := HN.out; omega) n HN.out (xt, xr, xn, xx) ⟨wo.heap.size, 0, none⟩ 1 (by rfl) (World.news_of_block (cs := (tc4 (xt, xr, xn, xx)).toArray) (t := 34) (fr := (0, 0)) (heap_alloc_new wo _)) ?_; intro b o cap' w4 hbb hrow hgrow hat)
      have hbt : w.heap.size ≠ b := by
        rcases hat with e | e
        · have := (HVL.out b e).2; omega
        · simp at e; omega
      have hg4 : wo.grownBy w4 (Value.slice Ao n cap).ownBlock := ⟨hgrow.os, hgrow.tape, hgrow.output, by have := hgrow.size; simp at this; omega, fun k hk hne => (hgrow.block k (by simp; omega) hne).trans (heap_alloc_old wo _ hk)⟩
      have hbx4 : w4.heap[w.heap.size]? = some (.cells #[.int .i64 xt, .int .i64 xr, .int .i64 xn, .int .i64 xx] 34 (0, 0)) := (hg4.block _ (by omega) (fun e => by have := (HVL.out _ e.symm).2; omega)).trans HBX2.out
      have hat2 : (Value.slice Ao n cap).ownBlock = some b ∨ wo.heap.size ≤ b := by
        rcases hat with e | e
        · exact .inl e
        · simp at e; exact .inr (by omega)
      have HROW := Lib.hid hrow
      have HG4 := Lib.hid hg4
      have HBX4 := Lib.hid hbx4
      have HAT := Lib.hid hat2
      have hlo : lo ≤ n := hhi
      clear hrow hgrow hat hg4 hbx4 hat2 b0 b1 b2 b3
      go_loopw [8] (fun vi wr => ∃ (i : Nat), lo ≤ i ∧ i ≤ n ∧ vi = .int .i64 i ∧ Row4 wr b o cap' (Sh (xt, xr, xn, xx) T i) ∧ w4.grownBy wr (some b)) (fun vi _ => (intOf vi).toNat)
      case atStart => exact ⟨n, hlo, Nat.le_refl _, by go_num, by rw [HN.out]; unfold Sh; rw [List.take_length, List.drop_length]; exact HROW.out, ⟨rfl, rfl, rfl, Nat.le_refl _, fun _ _ _ => rfl⟩⟩
      case round =>
        rename World => wp
        obtain ⟨i, hli, hin, rfl, hR, hG⟩ := hrel
        have hbx5 := (hG.block w.heap.size (blk_lt HBX4.out) (by simpa using hbt)).trans HBX4.out
        by_cases hlt2 : lo < i
        · obtain ⟨p, rfl⟩ : ∃ p, i = p + 1 := ⟨i - 1, by omega⟩
          obtain ⟨i, hi⟩ : ∃ i, i = p + 1 := ⟨_, rfl⟩
          have hip : (i : Int) - 1 = (p : Int) := by omega
          obtain ⟨y, hy⟩ : ∃ y, T[p]? = some y := ⟨_, List.getElem?_eq_getElem (by have := HN.out; omega)⟩
          have hRl := Sh.len (xt, xr, xn, xx) T (p + 1) (by have := HN.out; omega)
          have hy2 := (Sh.get (xt, xr, xn, xx) T p (by have := HN.out; omega)).trans hy
          have hyr := hR.cell p y hy2
          obtain ⟨z, hz⟩ : ∃ z, (Sh (xt, xr, xn, xx) T (p + 1))[i]? = some z := ⟨_, List.getElem?_eq_getElem (by have := HN.out; omega)⟩
          have hzr := hR.cell i z hz
          have hfr := hR.frozen
          have b0 := blk_cell hbx5 0
          have b1 := blk_cell hbx5 1
          have b2 := blk_cell hbx5 2
          have b3 := blk_cell hbx5 3
          have i1 : (0 : Int) ≤ (i : Int) := by omega
          have i2 : (i : Int) < (n : Int) + 1 := by omega
          have i3 : (0 : Int) ≤ (p : Int) := by omega
          have i4 : (p : Int) < (n : Int) + 1 := by omega
          have n1 : ¬ i = p := by omega
          have n2 : ¬ p = i := by omega
          have n3 : p < i := by omega
          have n4 : lo < i := by omega
          have HSET := Lib.hid (show Row4 ((wp.setCells b (o + i * 4) (tc4 y)).setCells b (o + p * 4) (tc4 (xt, xr, xn, xx))) b o cap' (Sh (xt, xr, xn, xx) T p) by
            have h1 := hR.set i y (by have := HN.out; omega)
            have h2 := h1.set p (xt, xr, xn, xx) (by simp; have := HN.out; omega)
            rw [hi, Sh.step _ T p y (by have := HN.out; omega) hy] at h2
            rw [hi]
            exact h2)
          have HGG := Lib.hid (grown_trans hG (grown_trans (grown_setCells wp b (o + i * 4) (tc4 y)) (grown_setCells _ b (o + p * 4) (tc4 (xt, xr, xn, xx)))))
          obtain ⟨yt, yr, yn, yx⟩ := y
          simp only at hyr hzr
          rw [← hi]
          clear hR hG hbx5 hy hy2 hz hRl hi
          go_wp2
          exact ⟨⟨p, by omega, by omega, rfl, HSET.out, HGG.out⟩, by simp [intOf]; omega⟩
        · obtain rfl : i = lo := by omega
          have HR := Lib.hid hR
          have HG := Lib.hid hG
          clear hR hG hbx5
          go_wp2
          go_ret
          have hins := insT_at (xt, xr, xn, xx) T i HC.out
          have hle : (insT (xt, xr, xn, xx) T).length = n + 1 := by rw [hins]; simp; have := HN.out; omega
          have hb2 : base ≤ b := hbb
          refine ⟨_, rfl, .inr ⟨b, o, cap', by rw [hle]; rfl, hb2, by rw [hins]; exact HR.out⟩, ?_, ?_⟩
          · have g1 : w.grownBy wo (Value.slice Ao n cap).ownBlock := by
              have hB2 := HB1.out.trans (HB.out.mono HB1.out.size)
              exact ⟨hB2.os, hB2.tape, hB2.output, hB2.size, fun k hk _ => hB2.block k hk⟩
            have g2 := grown_trans g1 HG4.out
            have hg2s := g2.size
            refine ⟨HG.out.os.trans g2.os, HG.out.tape.trans g2.tape, HG.out.output.trans g2.output, Nat.le_trans hg2s HG.out.size, fun k hk hne => (HG.out.block k (Nat.lt_of_lt_of_le hk hg2s) ?_).trans (g2.block k hk hne)⟩
            rcases HAT.out with e | e
            · rw [← e]; exact hne
            · intro e2; injection e2 with e2; omega
          · rcases HAT.out with e | e
            · exact .inl e.symm
            · exact .inr ⟨b, rfl, by omega⟩
end Go.Proofs.Ytodlcdpgiejnpaa
