/- The law of dropping: the walk. -/
import Derived.Test.YtodlcdpgiejnpaaStage
namespace Go.Proofs.Ytodlcdpgiejnpaa
set_option linter.unusedVariables false
set_option linter.unusedSimpArgs false
open Go.RowKit Hp QI

set_option maxRecDepth 100000 in
set_option maxHeartbeats 6400000 in
theorem drops_main (A : Option Addr) (c : Nat) (ops0 : List Opp) (th : Int) (w : World) (hA : OpsAt w A ops0) (hn : ops0.length * 40 ≤ 140737488351232) (hc : ops0.length ≤ c) :
    Calls Try.prog 5 #[.slice A ops0.length c, .int .i64 th] w fun e w' => e = .returned (.bool true) ∧ Below w.heap.size w w' := by
  obtain ⟨n0, hn0⟩ : ∃ n0, n0 = ops0.length := ⟨_, rfl⟩
  obtain ⟨n, hn1⟩ : ∃ n, n = min n0 1000 := ⟨_, rfl⟩
  obtain ⟨ops, hops⟩ : ∃ ops, ops = ops0.take n := ⟨_, rfl⟩
  have hnl : n = ops.length := by rw [hops, List.length_take]; omega
  have hA' : OpsAt w A ops := by rw [hops]; exact hA.take n
  rw [← hn0] at hn hc ⊢
  have HA := Lib.hid hA'
  have HN := Lib.hid hnl
  have hn4 : n ≤ 1000 := by omega
  have hnc : n ≤ c := by omega
  have HM := Lib.hid hn1
  have hb0 := heap_alloc_new w (.cells #[.int .i64 th] 3)
  have HTB := Lib.hid hb0
  have hBl : Below w.heap.size w (w.alloc (.cells #[.int .i64 th] 3)) := (Below.refl _ _).alloc (Nat.le_refl _) _
  have HBL := Lib.hid hBl
  clear hA hn0 hops hnl hA' hb0 hBl
  go_enter Try.func5, Try.ntmps5
  go_wp2_with fail
  refine (fixed_calls _).mono ?_
  rintro e w0 ⟨rfl, hB0⟩
  have HTB0 := Lib.hid (blk_below HTB.out hB0 (by simp))
  have HB0 := Lib.hid (HBL.out.trans (hB0.mono (by simp)))
  have hs0 : w.heap.size < w0.heap.size := by have := hB0.size; simp at this; omega
  clear hB0 HTB HBL
  go_upto_region 3 with fail
  go_cut [0] from 22 to 26 (fun v wx => v = .slice A n c ∧ wx = w0)
  case first =>
    go_wp2_with fail
    all_goals go_meet
    all_goals exact ⟨by have := HM.out; congr 1; omega, rfl⟩
  case rest =>
    obtain ⟨rfl, rfl⟩ := hcut
    clear hc hnc hn hn1
    go_wp2_with fail
    refine (new_at 65536 _).mono ?_
    rintro e w1 ⟨rfl, hQ1, hB1⟩
    obtain ⟨ga, hga⟩ : ∃ ga, ga = wc.heap.size := ⟨_, rfl⟩
    rw [← hga] at hQ1 ⊢
    have HQ1 := Lib.hid hQ1
    have HB1 := Lib.hid hB1
    have hs1 := hQ1.lt.1
    have HGA := Lib.hid hga
    clear hQ1 hB1 hga
    go_wp2_with fail
    refine (new_at 65536 _).mono ?_
    rintro e w2 ⟨rfl, hQ2, hB2⟩
    have hga := HGA.out
    obtain ⟨gb, hgb⟩ : ∃ gb, gb = w1.heap.size := ⟨_, rfl⟩
    rw [← hgb] at hQ2 ⊢
    have hs2 := hQ2.lt.1
    have HTW := Lib.hid (show Two w w2 w2.heap.size ga gb none none 0 0 [] [] from
      ⟨⟨HQ1.out.below hB2, by omega, by simp, (HB0.out.trans (HB1.out.mono HB0.out.size)).trans (hB2.mono (by have := HB0.out.size; have := HB1.out.size; omega))⟩, ⟨hQ2, by omega, by simp, (HB0.out.trans (HB1.out.mono HB0.out.size)).trans (hB2.mono (by have := HB0.out.size; have := HB1.out.size; omega))⟩, by simp, by simp, by simp, by omega, by have := hB2.size; omega, hs2⟩)
    have HTB2 := Lib.hid (blk_below (blk_below HTB0.out HB1.out hs0) hB2 (by have := HB1.out.size; omega))
    have hsw : w.heap.size < w2.heap.size := by have := HB1.out.size; have := hB2.size; omega
    have htbg : w.heap.size < ga := by omega
    have htbg2 : w.heap.size < gb := by omega
    obtain ⟨L1, hL1⟩ : ∃ L1, L1 = w2.heap.size := ⟨_, rfl⟩
    rw [← hL1] at HTW hsw
    have HL1 := Lib.hid hL1
    clear hQ2 hB2 HQ1 HB1 hgb hga hL1
    go_wp2_with fail
    go_loopw [7, 31] (fun vn i wr => ∃ (k : Nat) (ba bb : Option Nat) (kb : Nat) (Sb : List (It Int)), k ≤ n ∧ i = .int .i64 k ∧ vn = .int .i64 ((k : Int) - (kb : Int)) ∧ kb ≤ k ∧ (allQ ops k).length = k ∧ Sb.length = kb ∧ Beside (fun y => decide (th ≤ y.x)) (allQ ops k) Sb ∧
      Two w wr L1 ga gb ba bb k kb (allQ ops k) Sb ∧ wr.heap[w.heap.size]? = some (.cells #[.int .i64 th] 3 (0, 0)) ∧ L1 ≤ wr.heap.size) (fun _ i _ => n - (intOf i).toNat)
    case atStart => exact ⟨0, none, none, 0, [], Nat.zero_le _, rfl, rfl, Nat.le_refl _, rfl, rfl, rfl, HTW.out, HTB2.out, by have := HL1.out; omega⟩
    case round =>
      rename World => wo
      obtain ⟨k, ba, bb, kb, Sb, hk, rfl, rfl, hkb, hSl, hSb, hBs, hT, hTB, hLw⟩ := hrel
      clear HTW HTB2
      by_cases hlt : k < n
      · obtain ⟨o, ho⟩ : ∃ o, ops[k]? = some o := ⟨_, List.getElem?_eq_getElem (by have := HN.out; omega)⟩
        obtain ⟨B, off, rfl, hB, c0, c1, c2, c3, c4⟩ := (HA.out.below hT.a.bel) k o ho
        have HC := Lib.hid ((hT.alloc (.cells #[.int .i64 o.kd, .int .i64 o.t, .int .i64 o.r, .int .i64 o.n, .int .i64 o.x] 28)).pushA (by simp; omega) o.t o.r o.n o.x (by omega) (by omega))
        have HTO := Lib.hid hT
        have HO := Lib.hid ho
        have HSL := Lib.hid hSl
        have HSB := Lib.hid hSb
        have HBS := Lib.hid hBs
        have hb5 := heap_alloc_new wo (.cells #[.int .i64 o.kd, .int .i64 o.t, .int .i64 o.r, .int .i64 o.n, .int .i64 o.x] 28)
        have HB5 := Lib.hid hb5
        have HTB3 := Lib.hid (blk_alloc hTB (.cells #[.int .i64 o.kd, .int .i64 o.t, .int .i64 o.r, .int .i64 o.n, .int .i64 o.x] 28))
        have hag := hT.a.q.lt
        have hbg := hT.b.q.lt
        have hla := hT.la
        have hgaL := hT.ga_
        clear hT ho hSl hSb hBs hb5 hTB
        go_wp2_with fail
        refine HC.out.mono ?_
        rintro e w3 ⟨rfl, ba', hT3, hF3⟩
        have hb6 := (hF3.block wo.heap.size (by simp) (by omega) (fun e => by have := (hag.2 _ e.symm).1; omega)).trans HB5.out
        have htb6 := (hF3.block w.heap.size (by simp; omega) (by omega) (fun e => by have := hla _ e.symm; omega)).trans HTB3.out
        have x1 := blk_cell hb6 1
        have x2 := blk_cell hb6 2
        have x3 := blk_cell hb6 3
        have x4 := blk_cell hb6 4
        have t0 := blk_cell htb6 0
        have hs3 := hF3.size
        simp at hs3
        have HT3 := Lib.hid hT3
        have HTB6 := Lib.hid htb6
        clear hT3 hF3 hb6 htb6 HC c0 c1 c2 c3 c4 hag hbg hla
        by_cases hth : th ≤ o.x
        · have q1 : decide (th ≤ o.x) = true := decide_eq_true hth
          have HC2 := Lib.hid (HT3.out.pushB (by omega) o.t o.r o.n o.x (by have := HSB.out; omega) (by omega))
          have HTH := Lib.hid hth
          have hbg3 := HT3.out.b.q.lt
          have hlb := HT3.out.lb
          have hgbL := HT3.out.gb_
          have HBN := Lib.hid (HBS.out.both HTO.out.a.q.2.1 o.t o.r o.n o.x ((k : Int) + 1) ((kb : Int) + 1) (fun y hy => by have := HTO.out.a.q.2.2.2.2.1 y hy; omega) (fun y hy => by have := HTO.out.b.q.2.2.2.2.1 y hy; omega) hth)
          clear hth
          go_wp2_with fail
          refine HC2.out.mono ?_
          rintro e w4 ⟨rfl, bb', hT4, hF4⟩
          have HTB7 := Lib.hid ((hF4.block w.heap.size (by omega) (by omega) (fun e => by have := hlb _ e.symm; omega)).trans HTB6.out)
          have hs4 := hF4.size
          have HT4 := Lib.hid hT4
          clear hT4 hF4 HC2 x1 x2 x3 x4 t0 hbg3 hlb
          go_wp2
          refine ⟨⟨k + 1, ba', bb', kb + 1, ins ⟨o.t, o.r, o.n, (kb : Int) + 1, o.x⟩ Sb, by omega, by go_num, by simp; omega, by omega, ?_, ?_, ?_, ?_, HTB7.out, by omega⟩, by simp [intOf]; omega⟩
          · rw [allQ_succ HO.out, ins_length, HSL.out]
          · rw [ins_length, HSB.out]
          · rw [allQ_succ HO.out]; exact HBN.out
          · rw [allQ_succ HO.out]; exact HT4.out
        · have q1 : decide (th ≤ o.x) = false := decide_eq_false hth
          have HBN := Lib.hid (HBS.out.skip HTO.out.a.q.2.1 o.t o.r o.n o.x ((k : Int) + 1) (fun y hy => by have := HTO.out.a.q.2.2.2.2.1 y hy; omega) hth)
          clear hth
          go_wp2
          refine ⟨⟨k + 1, ba', bb, kb, Sb, by omega, by go_num, by simp; omega, by omega, ?_, HSB.out, ?_, ?_, HTB6.out, by omega⟩, by simp [intOf]; omega⟩
          · rw [allQ_succ HO.out, ins_length, HSL.out]
          · rw [allQ_succ HO.out]; exact HBN.out
          · rw [allQ_succ HO.out]; exact HT3.out
      · obtain rfl : k = n := by omega
        have HT1 := Lib.hid hT
        have HTB1 := Lib.hid hTB
        have HSL := Lib.hid hSl
        have HSB := Lib.hid hSb
        have HBS := Lib.hid hBs
        have hal := hT.a.q.lt
        have hbl := hT.b.q.lt
        have HAL := Lib.hid hal.2
        have HBL := Lib.hid hbl.2
        have hal1 := hal.1
        have hbl1 := hbl.1
        have hgaL := hT.ga_
        have hgbL := hT.gb_
        have hwo := hT.a.bel.size
        clear hT hTB hSl hSb hBs hal hbl
        go_wp2_with fail
        refine (new_at 65536 _).mono ?_
        rintro e w3 ⟨rfl, hQ3, hB3⟩
        obtain ⟨gc, hgc⟩ : ∃ gc, gc = wo.heap.size := ⟨_, rfl⟩
        rw [← hgc] at hQ3 ⊢
        have hs3 := hQ3.lt.1
        have HT3 := Lib.hid (HT1.out.next hB3)
        have HTB3 := Lib.hid (blk_below HTB1.out hB3 (by omega))
        have HQ3 := Lib.hid hQ3
        have HGC := Lib.hid hgc
        obtain ⟨tc, htc⟩ : ∃ tc, tc = w3.heap.size := ⟨_, rfl⟩
        have HTC := Lib.hid htc
        have HQ4 := Lib.hid (hQ3.below ((Below.refl w3.heap.size w3).alloc (Nat.le_refl _) (.cells #[.pointer (some ⟨gc, 0, none⟩)] 37)))
        have HT4 := Lib.hid (HT3.out.alloc (.cells #[.pointer (some ⟨gc, 0, none⟩)] 37))
        have HTB4 := Lib.hid (blk_alloc HTB3.out (.cells #[.pointer (some ⟨gc, 0, none⟩)] 37))
        have htc4 : (w3.alloc (.cells #[.pointer (some ⟨gc, 0, none⟩)] 37)).heap[tc]? = some (.cells #[.pointer (some ⟨gc, 0, none⟩)] 37 (0, 0)) := by rw [htc]; exact heap_alloc_new w3 _
        have HTC4 := Lib.hid htc4
        have hsg : w.heap.size ≤ gc := by omega
        have htcg : gc < tc := by omega
        clear hQ3 hB3 hgc htc4
        go_wp2_with fail
        rw [← htc]
        clear htc
        have hga3 : ga < gc := by have := HGC.out; omega
        have hgb3 : gb < gc := by have := HGC.out; omega
        have HRA := Lib.hid (show ∀ x, ba = some x → x < gc from fun x hx => by have := (HAL.out x hx).1; have := HGC.out; omega)
        have HRB := Lib.hid (show ∀ x, bb = some x → x < gc from fun x hx => by have := (HBL.out x hx).1; have := HGC.out; omega)
        have HQC := Lib.hid (show QIn w (w3.alloc (.cells #[.pointer (some ⟨gc, 0, none⟩)] 37)) gc none 65536 0 [] from ⟨HQ4.out, by omega, by simp, HT4.out.a.bel⟩)
        clear HT3 HTB3 HQ3 HQ4 HT1 HTB1
        go_loopw [65] (fun i wr => ∃ (j : Nat) (bc : Option Nat), j ≤ k ∧ i = .int .i64 j ∧ (allQ ops j).length = j ∧ QIn w wr gc bc 65536 j (allQ ops j) ∧ Two w wr L1 ga gb ba bb k kb (allQ ops k) Sb ∧ wr.heap[w.heap.size]? = some (.cells #[.int .i64 th] 3 (0, 0)) ∧
          wr.heap[tc]? = some (.cells #[.pointer (some ⟨gc, 0, none⟩)] 37 (0, 0)) ∧ (∀ x, bc = some x → tc < x)) (fun i _ => k - (intOf i).toNat)
        case atStart => exact ⟨0, none, Nat.zero_le _, rfl, rfl, HQC.out, HT4.out, HTB4.out, HTC4.out, by simp⟩
        case round =>
          rename World => wp
          obtain ⟨j, bc, hj, rfl, hSj, hQc, hT, hTB, hTC, hbc⟩ := hrel
          clear HQC HT4 HTB4 HTC4
          by_cases hlt2 : j < k
          · obtain ⟨o, ho⟩ : ∃ o, ops[j]? = some o := ⟨_, List.getElem?_eq_getElem (by have := HN.out; omega)⟩
            obtain ⟨B, off, rfl, hB, c0, c1, c2, c3, c4⟩ := (HA.out.below hT.a.bel) j o ho
            have HC := Lib.hid ((hQc.alloc (.cells #[.int .i64 o.kd, .int .i64 o.t, .int .i64 o.r, .int .i64 o.n, .int .i64 o.x] 28)).push o.t o.r o.n o.x (by omega) (by omega))
            have HT5 := Lib.hid (hT.alloc (.cells #[.int .i64 o.kd, .int .i64 o.t, .int .i64 o.r, .int .i64 o.n, .int .i64 o.x] 28))
            have HTB5 := Lib.hid (blk_alloc hTB (.cells #[.int .i64 o.kd, .int .i64 o.t, .int .i64 o.r, .int .i64 o.n, .int .i64 o.x] 28))
            have HTC5 := Lib.hid (blk_alloc hTC (.cells #[.int .i64 o.kd, .int .i64 o.t, .int .i64 o.r, .int .i64 o.n, .int .i64 o.x] 28))
            have q0 := blk_cell hTC 0
            have htl := blk_lt hTC
            have htbl := blk_lt hTB
            have HO := Lib.hid ho
            have HSJ := Lib.hid hSj
            have HBC := Lib.hid hbc
            clear hQc hT hTB hTC ho hSj hbc
            go_wp2_with fail
            refine HC.out.mono ?_
            rintro e w5 ⟨rfl, bc', hq5, hF5⟩
            have hT6 := HT5.out.apart hF5 hsg (fun x hx => by have := HBC.out x hx; omega) (by omega) (fun e => by have := HBC.out _ e.symm; omega) (by omega) (fun e => by have := HBC.out _ e.symm; omega)
              (fun x hx => ⟨by have := HRA.out x hx; omega, fun e => by have := HRA.out x hx; have := HBC.out _ e.symm; omega⟩) (fun x hx => ⟨by have := HRB.out x hx; omega, fun e => by have := HRB.out x hx; have := HBC.out _ e.symm; omega⟩)
            have hTB6 := (hF5.block w.heap.size (by simp; omega) (by omega) (fun e => by have := HBC.out _ e.symm; omega)).trans HTB5.out
            have hTC6 := (hF5.block tc (by simp; omega) (by omega) (fun e => by have := HBC.out _ e.symm; omega)).trans HTC5.out
            have hbc6 := hF5.row (B := tc + 1) (fun x hx => by have := HBC.out x hx; omega) (by simp; omega)
            have HQ6 := Lib.hid hq5
            have HT6 := Lib.hid hT6
            have HTB6 := Lib.hid hTB6
            have HTC6 := Lib.hid hTC6
            have HBC6 := Lib.hid hbc6
            clear hq5 hF5 hT6 hTB6 hTC6 hbc6 HC q0
            go_wp2
            refine ⟨⟨j + 1, bc', by omega, by go_num, ?_, ?_, HT6.out, HTB6.out, HTC6.out, fun x hx => by have := HBC6.out x hx; omega⟩, by simp [intOf]; omega⟩
            · rw [allQ_succ HO.out, ins_length, HSJ.out]
            · rw [allQ_succ HO.out]; exact HQ6.out
          · obtain rfl : j = k := by omega
            obtain ⟨tt, htt⟩ : ∃ tt, tt = wp.heap.size := ⟨_, rfl⟩
            have HTT := Lib.hid htt
            have HQC := Lib.hid hQc
            have HTW := Lib.hid hT
            have HTB := Lib.hid hTB
            have HTC := Lib.hid hTC
            have HSJ := Lib.hid hSj
            have HBC := Lib.hid hbc
            have htcl := blk_lt hTC
            clear hQc hT hTB hTC hSj hbc htt
            have HS1 := Lib.hid (stage1 HQC.out HTW.out HTB.out HTC.out HTT.out)
            have q0 := blk_cell HTC.out 0
            go_wp2_with fail
            refine (drop_nilf gc bc _ _ _ _ (HQC.out.alloc (.cells #[.bool true] 4)).q).mono ?_
            rintro e v ⟨rfl, hBv⟩
            have HS2 := Lib.hid (HS1.out v hBv)
            have HD := Lib.hid (drop_stage HS2.out.1 HS2.out.2.1 HS2.out.2.2.1 HS2.out.2.2.2.1 HS2.out.2.2.2.2.1 HSJ.out (by rw [HBS.out.len, HSB.out]) htbg htbg2 hga3 hgb3 htcg (by have := HTT.out; omega)
              (fun x hx => ⟨HBC.out x hx, by have := (HQC.out.q.lt.2 x hx).1; have := HTT.out; omega⟩) HRB.out (by have := HS2.out.2.2.2.2.2; have := HGC.out; omega))
            rw [← HTT.out]
            have w0 := blk_cell HS2.out.2.2.2.1 0
            clear hBv htcl q0
            go_wp2_with fail
            refine HD.out.mono ?_
            rintro e w6 ⟨rfl, ba', hQc6, hT6, hc6, ht6⟩
            have x0 := blk_cell hc6 0
            have x1 := blk_cell ht6 0
            have HQC6 := Lib.hid hQc6
            have HT6 := Lib.hid hT6
            have HBS2 := Lib.hid (show ((allQ ops j).filter fun y => decide (th ≤ y.x)).map strip = Sb.map strip from HBS.out)
            clear hQc6 hT6 hc6 ht6 HD w0
            go_wp2_with fail
            refine (len_at HQC6.out).mono ?_
            rintro e w7 ⟨rfl, rfl⟩
            go_wp2_with fail
            clear x0 x1
            go_loopw [] (fun wr => ∃ (R1 R2 : List (It Int)), R1.map strip = R2.map strip ∧ Two w wr L1 ga gb ba' bb j kb R1 R2) (fun wr => qlen wr gb)
            case atStart => exact ⟨_, _, HBS2.out, HT6.out⟩
            case round =>
              rename World => wq
              obtain ⟨R1, R2, hR, hT⟩ := hrel
              have HT := Lib.hid hT
              have HR := Lib.hid hR
              clear HT6 HBS2 HQC6 hT hR
              cases R2 with
              | nil =>
                have h1 : R1 = [] := by have := HR.out; simpa using this
                subst h1
                go_wp2_with fail
                refine (len_at HT.out.b.q).mono ?_
                rintro e w8 ⟨rfl, rfl⟩
                go_wp2_with fail
                refine (len_at HT.out.a.q).mono ?_
                rintro e w9 ⟨rfl, rfl⟩
                go_wp2
                go_ret
                exact ⟨rfl, HT.out.a.bel⟩
              | cons y2 R2 =>
                cases R1 with
                | nil => have := HR.out; simp at this
                | cons y1 R1 =>
                  have hR' : strip y1 = strip y2 ∧ R1.map strip = R2.map strip := by simpa using HR.out
                  have hx : y1.x = y2.x := congrArg (fun a => a.2.2.2) hR'.1
                  have ht : y1.t = y2.t := congrArg (fun a => a.1) hR'.1
                  have HR2 := Lib.hid hR'.2
                  have HCa := Lib.hid HT.out.popA
                  rw [hx, ht] at HCa
                  have hql := qlen_is HT.out.b.q
                  have HQL := Lib.hid hql
                  clear hR' hx ht hql
                  go_wp2_with fail
                  refine (len_at HT.out.b.q).mono ?_
                  rintro e w8 ⟨rfl, rfl⟩
                  go_wp2_with fail
                  refine HCa.out.mono ?_
                  rintro e w8 ⟨rfl, hT8⟩
                  have HT8 := Lib.hid hT8
                  clear hT8 HCa
                  go_wp2_with fail
                  refine HT8.out.popB.mono ?_
                  rintro e w9 ⟨rfl, hT9⟩
                  have HT9 := Lib.hid hT9
                  have HQ9 := Lib.hid (qlen_is hT9.b.q)
                  clear hT9
                  go_wp2
                  exact ⟨⟨R1, R2, HR2.out, HT9.out⟩, by rw [HQ9.out, HQL.out]; simp⟩

theorem drops_walk {H : Type} {enc : TypeId × Value → H} {base : Nat} {dd : DataW H} {p : List MemPlace} {ts : List TypeId} {ds : List (DataW H)} (v : Value) {w : World}
    (hok : Value.okWide Try.prog w .any base 22 v) (hr : DataW.Trod enc Try.prog w 0 (fun _ => true) true 22 v dd p)
    (hsz : (DataW.weightsEach Try.prog ts ds).all (· ≤ reachBytes) = true) (htj : ts[0]? = some 22) (hdj : ds[0]? = some dd) (th : Int) (_ : (Lit.int .i64 th).wf = true) (w' : World) (hw : w' = w) :
    Calls Try.prog 5 #[v, .int .i64 th] w' fun e w1 => e = .returned (.bool true) ∧ Below w'.heap.size w' w1 := by
  subst hw
  obtain ⟨A, ops, c, rfl, hA, _, hc, hn⟩ := script_open hok hr hsz htj hdj
  exact drops_main A c ops th _ hA hn hc
end Go.Proofs.Ytodlcdpgiejnpaa
