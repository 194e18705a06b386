/- The document's Print, walked. -/
import Derived.Test.YtdkdmclbhcbfeaaDoorPr
namespace Go.Proofs.YtdkdmclbhcbfeaaDoor.Nu
open Go.RowKit Go.Proofs.YtdkdmclbhcbfeaaDoor.Fl Go.Proofs.YtdkdmclbhcbfeaaDoorW.PrintWords Go.Proofs.YtdkdmclbhcbfeaaDoorW.PrintLast Go.Proofs.YtdkdmclbhcbfeaaDoorW.PrintMore
set_option linter.unusedVariables false
set_option linter.unusedSimpArgs false
def encB8 (b : UInt8) : Value := .int .u8 (b.toNat : Int)
/-- a byte lies in one cell -/
def kB : Kd UInt8 := Kd.scalar encB8 (fun _ => rfl)
theorem info_B : (Tryd.prog.info? 5).map (fun i => (i.zero, i.size, i.bytes)) = some (some (.int .u8 0), 1, 1) := by kernel_rfl
theorem inner_B {w : World} {base : Nat} {ok : Nat → Prop} {L : List UInt8} {inner : List Value} (hr : Reps (kB.M w base ok) kB.sz L inner) (j : Nat) (x : UInt8) (hx : L[j]? = some x) : inner[j]? = some (encB8 x) := by
  have h : (inner.drop (j * 1)).take 1 = [encB8 x] := hr.2 j x hx
  have e0 := congrArg (fun l => l[0]?) h
  simp only [List.getElem?_take, List.getElem?_drop] at e0
  simpa using e0
theorem text_B {w : World} {base : Nat} {v : Value} {L : List UInt8} (h : Kd.R kB 5 w base (fun _ => True) v L) (hL : L ≠ []) : (convert 62 9 v).run Tryd.prog w = .ok (.string ⟨L.toArray⟩) w := by
  obtain ⟨hU1, inner, ⟨hil, ho⟩, hri⟩ := h
  rcases ho with ⟨h0, h0'⟩ | ⟨g, cap, cur, rfl, hg, hcur, hcap', hmax, hcs, htake⟩
  · exact absurd (List.length_eq_zero_iff.1 h0') hL
  · have hsz : kB.sz = 1 := rfl
    rw [hsz] at hcs htake
    exact run_convert_bytes_back (P := Tryd.prog) w 62 9 5 ⟨g, 0, none⟩ cap L Tryd.underlying62 Tryd.underlying5 Tryd.underlying9 (fun j hj => by
      rw [add_plain, blk_cell hcur]
      have i0 := inner_B hri j _ (List.getElem?_eq_getElem hj)
      rw [← htake, List.getElem?_take, if_pos (by omega)] at i0
      simpa [encB8] using i0)
theorem hexT_size : hexT.size = 16 := by decide +kernel
theorem hexT_at : ∀ x : Fin 16, (hexT[x.val]?).getD 0 = hexD x.val := by decide +kernel
theorem hexT_get (x : Nat) (hx : x < 16) (h : x < hexT.size) : hexT[x]'h = hexD x := by
  have := hexT_at ⟨x, hx⟩
  rw [ByteArray.getElem?_lt' _ _ h, Option.getD_some] at this
  exact this
theorem idx_hexT (x : Nat) (hx : x < 16) (k : IntKind) (w : World) : (Instr.index 9 (.string hexT) (.int k (x : Int))).run Tryd.prog w = .ok (.int .u8 ((hexD x).toNat : Int)) w := by
  have h2 : ((x : Int)).toNat < hexT.size := by rw [hexT_size]; omega
  rw [run_index_string w _ hexT k _ Tryd.underlying9, dif_pos (by rw [hexT_size]; omega)]
  simp only [Int.toNat_natCast] at h2 ⊢
  rw [hexT_get x hx h2]
theorem hexL_take (d j u : Nat) (h : j < d) : (hexL d u).take (j + 1) = (hexL d u).take j ++ [hexD (u / 16 ^ (d - 1 - j) % 16)] := by
  induction d generalizing j with
  | zero => omega
  | succ d ih =>
    rcases j with _ | j
    · simp [hexL]
    · simp only [hexL, List.take_succ_cons, List.cons_append]
      rw [ih j (by omega), show d + 1 - 1 - (j + 1) = d - 1 - j by omega]
/-- what holds between the rounds -/
structure RB (w : World) (L : List UInt8) (v : Value) (W : World) : Prop where
  b : Below w.heap.size w W
  r : Kd.R kB 5 W w.heap.size (fun _ => True) v L
set_option maxHeartbeats 6400000 in
set_option maxRecDepth 100000 in
theorem rprint_calls (b : Nat) (hb : b < 18446744073709551616) (w : World) :
    Calls Tryd.prog 34 #[.float .f64 b] w fun e w' => e = .returned (.string (hexS 16 (oneN b))) ∧ Below w.heap.size w w' := by
  have H := Lib.hid (fun w => rone_calls b hb w)
  have HU := Lib.hid (one_lt hb)
  generalize oneN b = u at H HU ⊢
  have S0 := Lib.hid (show RB w ((hexL 16 u).take 0) (.slice none 0 0) w from ⟨Below.refl _ _, Kd.R_nil _ _ _ _ _⟩)
  clear hb
  go_enter Tryd.func34, Tryd.ntmps34
  go_wp2_with fail
  refine (H.out _).mono ?_
  rintro e w' ⟨rfl, rfl⟩
  go_wp2
  go_loopg [5, 6] 16 (fun gg s5 s6 W => ∃ (j : Nat) (v : Value) (wr : World), j ≤ 16 ∧ 16 - j ≤ gg ∧ s6 = .int .i64 (60 - 4 * (j : Int)) ∧ v = s5 ∧ wr = W ∧ Aside (RB w ((hexL 16 u).take j) v wr))
  case atStart => exact ⟨0, _, _, Nat.zero_le _, by omega, rfl, rfl, rfl, S0.out⟩
  case round =>
    obtain ⟨j, v, wr, hj, hg, rfl, rfl, rfl, BW⟩ := hrel
    by_cases hlt : j < 16
    · have HS := Lib.hid (hexL_take 16 j u hlt)
      have HL := Lib.hid (show ((hexL 16 u).take j).length ≤ j by exact List.length_take_le _ _)
      have hlt' : j < 16 := hlt
      generalize (hexL 16 u).take j = L at BW HS HL
      have HR : j = 0 ∨ j = 1 ∨ j = 2 ∨ j = 3 ∨ j = 4 ∨ j = 5 ∨ j = 6 ∨ j = 7 ∨ j = 8 ∨ j = 9 ∨ j = 10 ∨ j = 11 ∨ j = 12 ∨ j = 13 ∨ j = 14 ∨ j = 15 := by omega
      clear hj hlt hlt'
      rcases HR with rfl | rfl | rfl | rfl | rfl | rfl | rfl | rfl | rfl | rfl | rfl | rfl | rfl | rfl | rfl | rfl
      · have ha : Go.bits .and .u64 ((u : Int) / 1152921504606846976) 15 = ((u / 16 ^ (16 - 1 - 0) % 16 : Nat) : Int) := by
          have := u64_mask 4 (by decide) ((u : Int) / 1152921504606846976) (by have := HU.out; omega) (by have := HU.out; omega)
          simpa using this
        have hq : u / 16 ^ (16 - 1 - 0) % 16 < 16 := Nat.mod_lt _ (by decide)
        generalize u / 16 ^ (16 - 1 - 0) % 16 = q at ha HS hq
        have hX : ∀ h, (⟨#[48, 49, 50, 51, 52, 53, 54, 55, 56, 57, 97, 98, 99, 100, 101, 102]⟩ : ByteArray)[q]'h = hexD q := fun h => hexT_get q hq h
        have hZ : ∀ w, (Instr.index 9 (.string (⟨#[48, 49, 50, 51, 52, 53, 54, 55, 56, 57, 97, 98, 99, 100, 101, 102]⟩ : ByteArray)) (.int .u64 (q : Int))).run Tryd.prog w = .ok (.int .u8 ((hexD q).toNat : Int)) w := fun w => idx_hexT q hq .u64 w
        clear hX
        go_wp2_with ((with_reducible refine gate_builtin (b := .append) (xs := #[.tmp 13, .tmp 21]) rfl ?_); at_builtin; refine Kd.R_append kB (w0 := w) w.heap.size rfl (.tmp 13) (.tmp 21) 62 5 (.int .u8 0) 1 rfl Tryd.underlying62 info_B rfl (by decide) (by decide) v L (hexD q) [encB8 (hexD q)] (fun _ => True) (fun _ => False) rfl rfl ?aP (fun _ hk => hk.elim) (fun _ _ => trivial) BW.out.r BW.out.b BW.out.b.size ?aL ?_; (case aP => exact (show [encB8 (hexD q)] = [encB8 (hexD q)] from rfl)); (case aL => have := HL.out; omega); intro v1 w4 hr4 hb4 hg4 hat4; have S4 := Lib.hid (RB.mk hb4 hr4); clear hr4 hb4 hg4 hat4)
        go_roundg (16 - (0 + 1))
        case measure => omega
        case rel => exact ⟨0 + 1, v1, w4, by omega, by omega, by go_num, rfl, rfl, (show Aside _ from by rw [HS.out]; exact S4.out)⟩
      · have ha : Go.bits .and .u64 ((u : Int) / 72057594037927936) 15 = ((u / 16 ^ (16 - 1 - 1) % 16 : Nat) : Int) := by
          have := u64_mask 4 (by decide) ((u : Int) / 72057594037927936) (by have := HU.out; omega) (by have := HU.out; omega)
          simpa using this
        have hq : u / 16 ^ (16 - 1 - 1) % 16 < 16 := Nat.mod_lt _ (by decide)
        generalize u / 16 ^ (16 - 1 - 1) % 16 = q at ha HS hq
        have hX : ∀ h, (⟨#[48, 49, 50, 51, 52, 53, 54, 55, 56, 57, 97, 98, 99, 100, 101, 102]⟩ : ByteArray)[q]'h = hexD q := fun h => hexT_get q hq h
        have hZ : ∀ w, (Instr.index 9 (.string (⟨#[48, 49, 50, 51, 52, 53, 54, 55, 56, 57, 97, 98, 99, 100, 101, 102]⟩ : ByteArray)) (.int .u64 (q : Int))).run Tryd.prog w = .ok (.int .u8 ((hexD q).toNat : Int)) w := fun w => idx_hexT q hq .u64 w
        clear hX
        go_wp2_with ((with_reducible refine gate_builtin (b := .append) (xs := #[.tmp 13, .tmp 21]) rfl ?_); at_builtin; refine Kd.R_append kB (w0 := w) w.heap.size rfl (.tmp 13) (.tmp 21) 62 5 (.int .u8 0) 1 rfl Tryd.underlying62 info_B rfl (by decide) (by decide) v L (hexD q) [encB8 (hexD q)] (fun _ => True) (fun _ => False) rfl rfl ?aP (fun _ hk => hk.elim) (fun _ _ => trivial) BW.out.r BW.out.b BW.out.b.size ?aL ?_; (case aP => exact (show [encB8 (hexD q)] = [encB8 (hexD q)] from rfl)); (case aL => have := HL.out; omega); intro v1 w4 hr4 hb4 hg4 hat4; have S4 := Lib.hid (RB.mk hb4 hr4); clear hr4 hb4 hg4 hat4)
        go_roundg (16 - (1 + 1))
        case measure => omega
        case rel => exact ⟨1 + 1, v1, w4, by omega, by omega, by go_num, rfl, rfl, (show Aside _ from by rw [HS.out]; exact S4.out)⟩
      · have ha : Go.bits .and .u64 ((u : Int) / 4503599627370496) 15 = ((u / 16 ^ (16 - 1 - 2) % 16 : Nat) : Int) := by
          have := u64_mask 4 (by decide) ((u : Int) / 4503599627370496) (by have := HU.out; omega) (by have := HU.out; omega)
          simpa using this
        have hq : u / 16 ^ (16 - 1 - 2) % 16 < 16 := Nat.mod_lt _ (by decide)
        generalize u / 16 ^ (16 - 1 - 2) % 16 = q at ha HS hq
        have hX : ∀ h, (⟨#[48, 49, 50, 51, 52, 53, 54, 55, 56, 57, 97, 98, 99, 100, 101, 102]⟩ : ByteArray)[q]'h = hexD q := fun h => hexT_get q hq h
        have hZ : ∀ w, (Instr.index 9 (.string (⟨#[48, 49, 50, 51, 52, 53, 54, 55, 56, 57, 97, 98, 99, 100, 101, 102]⟩ : ByteArray)) (.int .u64 (q : Int))).run Tryd.prog w = .ok (.int .u8 ((hexD q).toNat : Int)) w := fun w => idx_hexT q hq .u64 w
        clear hX
        go_wp2_with ((with_reducible refine gate_builtin (b := .append) (xs := #[.tmp 13, .tmp 21]) rfl ?_); at_builtin; refine Kd.R_append kB (w0 := w) w.heap.size rfl (.tmp 13) (.tmp 21) 62 5 (.int .u8 0) 1 rfl Tryd.underlying62 info_B rfl (by decide) (by decide) v L (hexD q) [encB8 (hexD q)] (fun _ => True) (fun _ => False) rfl rfl ?aP (fun _ hk => hk.elim) (fun _ _ => trivial) BW.out.r BW.out.b BW.out.b.size ?aL ?_; (case aP => exact (show [encB8 (hexD q)] = [encB8 (hexD q)] from rfl)); (case aL => have := HL.out; omega); intro v1 w4 hr4 hb4 hg4 hat4; have S4 := Lib.hid (RB.mk hb4 hr4); clear hr4 hb4 hg4 hat4)
        go_roundg (16 - (2 + 1))
        case measure => omega
        case rel => exact ⟨2 + 1, v1, w4, by omega, by omega, by go_num, rfl, rfl, (show Aside _ from by rw [HS.out]; exact S4.out)⟩
      · have ha : Go.bits .and .u64 ((u : Int) / 281474976710656) 15 = ((u / 16 ^ (16 - 1 - 3) % 16 : Nat) : Int) := by
          have := u64_mask 4 (by decide) ((u : Int) / 281474976710656) (by have := HU.out; omega) (by have := HU.out; omega)
          simpa using this
        have hq : u / 16 ^ (16 - 1 - 3) % 16 < 16 := Nat.mod_lt _ (by decide)
        generalize u / 16 ^ (16 - 1 - 3) % 16 = q at ha HS hq
        have hX : ∀ h, (⟨#[48, 49, 50, 51, 52, 53, 54, 55, 56, 57, 97, 98, 99, 100, 101, 102]⟩ : ByteArray)[q]'h = hexD q := fun h => hexT_get q hq h
        have hZ : ∀ w, (Instr.index 9 (.string (⟨#[48, 49, 50, 51, 52, 53, 54, 55, 56, 57, 97, 98, 99, 100, 101, 102]⟩ : ByteArray)) (.int .u64 (q : Int))).run Tryd.prog w = .ok (.int .u8 ((hexD q).toNat : Int)) w := fun w => idx_hexT q hq .u64 w
        clear hX
        go_wp2_with ((with_reducible refine gate_builtin (b := .append) (xs := #[.tmp 13, .tmp 21]) rfl ?_); at_builtin; refine Kd.R_append kB (w0 := w) w.heap.size rfl (.tmp 13) (.tmp 21) 62 5 (.int .u8 0) 1 rfl Tryd.underlying62 info_B rfl (by decide) (by decide) v L (hexD q) [encB8 (hexD q)] (fun _ => True) (fun _ => False) rfl rfl ?aP (fun _ hk => hk.elim) (fun _ _ => trivial) BW.out.r BW.out.b BW.out.b.size ?aL ?_; (case aP => exact (show [encB8 (hexD q)] = [encB8 (hexD q)] from rfl)); (case aL => have := HL.out; omega); intro v1 w4 hr4 hb4 hg4 hat4; have S4 := Lib.hid (RB.mk hb4 hr4); clear hr4 hb4 hg4 hat4)
        go_roundg (16 - (3 + 1))
        case measure => omega
        case rel => exact ⟨3 + 1, v1, w4, by omega, by omega, by go_num, rfl, rfl, (show Aside _ from by rw [HS.out]; exact S4.out)⟩
      · have ha : Go.bits .and .u64 ((u : Int) / 17592186044416) 15 = ((u / 16 ^ (16 - 1 - 4) % 16 : Nat) : Int) := by
          have := u64_mask 4 (by decide) ((u : Int) / 17592186044416) (by have := HU.out; omega) (by have := HU.out; omega)
          simpa using this
        have hq : u / 16 ^ (16 - 1 - 4) % 16 < 16 := Nat.mod_lt _ (by decide)
        generalize u / 16 ^ (16 - 1 - 4) % 16 = q at ha HS hq
        have hX : ∀ h, (⟨#[48, 49, 50, 51, 52, 53, 54, 55, 56, 57, 97, 98, 99, 100, 101, 102]⟩ : ByteArray)[q]'h = hexD q := fun h => hexT_get q hq h
        have hZ : ∀ w, (Instr.index 9 (.string (⟨#[48, 49, 50, 51, 52, 53, 54, 55, 56, 57, 97, 98, 99, 100, 101, 102]⟩ : ByteArray)) (.int .u64 (q : Int))).run Tryd.prog w = .ok (.int .u8 ((hexD q).toNat : Int)) w := fun w => idx_hexT q hq .u64 w
        clear hX
        go_wp2_with ((with_reducible refine gate_builtin (b := .append) (xs := #[.tmp 13, .tmp 21]) rfl ?_); at_builtin; refine Kd.R_append kB (w0 := w) w.heap.size rfl (.tmp 13) (.tmp 21) 62 5 (.int .u8 0) 1 rfl Tryd.underlying62 info_B rfl (by decide) (by decide) v L (hexD q) [encB8 (hexD q)] (fun _ => True) (fun _ => False) rfl rfl ?aP (fun _ hk => hk.elim) (fun _ _ => trivial) BW.out.r BW.out.b BW.out.b.size ?aL ?_; (case aP => exact (show [encB8 (hexD q)] = [encB8 (hexD q)] from rfl)); (case aL => have := HL.out; omega); intro v1 w4 hr4 hb4 hg4 hat4; have S4 := Lib.hid (RB.mk hb4 hr4); clear hr4 hb4 hg4 hat4)
        go_roundg (16 - (4 + 1))
        case measure => omega
        case rel => exact ⟨4 + 1, v1, w4, by omega, by omega, by go_num, rfl, rfl, (show Aside _ from by rw [HS.out]; exact S4.out)⟩
      · have ha : Go.bits .and .u64 ((u : Int) / 1099511627776) 15 = ((u / 16 ^ (16 - 1 - 5) % 16 : Nat) : Int) := by
          have := u64_mask 4 (by decide) ((u : Int) / 1099511627776) (by have := HU.out; omega) (by have := HU.out; omega)
          simpa using this
        have hq : u / 16 ^ (16 - 1 - 5) % 16 < 16 := Nat.mod_lt _ (by decide)
        generalize u / 16 ^ (16 - 1 - 5) % 16 = q at ha HS hq
        have hX : ∀ h, (⟨#[48, 49, 50, 51, 52, 53, 54, 55, 56, 57, 97, 98, 99, 100, 101, 102]⟩ : ByteArray)[q]'h = hexD q := fun h => hexT_get q hq h
        have hZ : ∀ w, (Instr.index 9 (.string (⟨#[48, 49, 50, 51, 52, 53, 54, 55, 56, 57, 97, 98, 99, 100, 101, 102]⟩ : ByteArray)) (.int .u64 (q : Int))).run Tryd.prog w = .ok (.int .u8 ((hexD q).toNat : Int)) w := fun w => idx_hexT q hq .u64 w
        clear hX
        go_wp2_with ((with_reducible refine gate_builtin (b := .append) (xs := #[.tmp 13, .tmp 21]) rfl ?_); at_builtin; refine Kd.R_append kB (w0 := w) w.heap.size rfl (.tmp 13) (.tmp 21) 62 5 (.int .u8 0) 1 rfl Tryd.underlying62 info_B rfl (by decide) (by decide) v L (hexD q) [encB8 (hexD q)] (fun _ => True) (fun _ => False) rfl rfl ?aP (fun _ hk => hk.elim) (fun _ _ => trivial) BW.out.r BW.out.b BW.out.b.size ?aL ?_; (case aP => exact (show [encB8 (hexD q)] = [encB8 (hexD q)] from rfl)); (case aL => have := HL.out; omega); intro v1 w4 hr4 hb4 hg4 hat4; have S4 := Lib.hid (RB.mk hb4 hr4); clear hr4 hb4 hg4 hat4)
        go_roundg (16 - (5 + 1))
        case measure => omega
        case rel => exact ⟨5 + 1, v1, w4, by omega, by omega, by go_num, rfl, rfl, (show Aside _ from by rw [HS.out]; exact S4.out)⟩
      · have ha : Go.bits .and .u64 ((u : Int) / 68719476736) 15 = ((u / 16 ^ (16 - 1 - 6) % 16 : Nat) : Int) := by
          have := u64_mask 4 (by decide) ((u : Int) / 68719476736) (by have := HU.out; omega) (by have := HU.out; omega)
          simpa using this
        have hq : u / 16 ^ (16 - 1 - 6) % 16 < 16 := Nat.mod_lt _ (by decide)
        generalize u / 16 ^ (16 - 1 - 6) % 16 = q at ha HS hq
        have hX : ∀ h, (⟨#[48, 49, 50, 51, 52, 53, 54, 55, 56, 57, 97, 98, 99, 100, 101, 102]⟩ : ByteArray)[q]'h = hexD q := fun h => hexT_get q hq h
        have hZ : ∀ w, (Instr.index 9 (.string (⟨#[48, 49, 50, 51, 52, 53, 54, 55, 56, 57, 97, 98, 99, 100, 101, 102]⟩ : ByteArray)) (.int .u64 (q : Int))).run Tryd.prog w = .ok (.int .u8 ((hexD q).toNat : Int)) w := fun w => idx_hexT q hq .u64 w
        clear hX
        go_wp2_with ((with_reducible refine gate_builtin (b := .append) (xs := #[.tmp 13, .tmp 21]) rfl ?_); at_builtin; refine Kd.R_append kB (w0 := w) w.heap.size rfl (.tmp 13) (.tmp 21) 62 5 (.int .u8 0) 1 rfl Tryd.underlying62 info_B rfl (by decide) (by decide) v L (hexD q) [encB8 (hexD q)] (fun _ => True) (fun _ => False) rfl rfl ?aP (fun _ hk => hk.elim) (fun _ _ => trivial) BW.out.r BW.out.b BW.out.b.size ?aL ?_; (case aP => exact (show [encB8 (hexD q)] = [encB8 (hexD q)] from rfl)); (case aL => have := HL.out; omega); intro v1 w4 hr4 hb4 hg4 hat4; have S4 := Lib.hid (RB.mk hb4 hr4); clear hr4 hb4 hg4 hat4)
        go_roundg (16 - (6 + 1))
        case measure => omega
        case rel => exact ⟨6 + 1, v1, w4, by omega, by omega, by go_num, rfl, rfl, (show Aside _ from by rw [HS.out]; exact S4.out)⟩
      · have ha : Go.bits .and .u64 ((u : Int) / 4294967296) 15 = ((u / 16 ^ (16 - 1 - 7) % 16 : Nat) : Int) := by
          have := u64_mask 4 (by decide) ((u : Int) / 4294967296) (by have := HU.out; omega) (by have := HU.out; omega)
          simpa using this
        have hq : u / 16 ^ (16 - 1 - 7) % 16 < 16 := Nat.mod_lt _ (by decide)
        generalize u / 16 ^ (16 - 1 - 7) % 16 = q at ha HS hq
        have hX : ∀ h, (⟨#[48, 49, 50, 51, 52, 53, 54, 55, 56, 57, 97, 98, 99, 100, 101, 102]⟩ : ByteArray)[q]'h = hexD q := fun h => hexT_get q hq h
        have hZ : ∀ w, (Instr.index 9 (.string (⟨#[48, 49, 50, 51, 52, 53, 54, 55, 56, 57, 97, 98, 99, 100, 101, 102]⟩ : ByteArray)) (.int .u64 (q : Int))).run Tryd.prog w = .ok (.int .u8 ((hexD q).toNat : Int)) w := fun w => idx_hexT q hq .u64 w
        clear hX
        go_wp2_with ((with_reducible refine gate_builtin (b := .append) (xs := #[.tmp 13, .tmp 21]) rfl ?_); at_builtin; refine Kd.R_append kB (w0 := w) w.heap.size rfl (.tmp 13) (.tmp 21) 62 5 (.int .u8 0) 1 rfl Tryd.underlying62 info_B rfl (by decide) (by decide) v L (hexD q) [encB8 (hexD q)] (fun _ => True) (fun _ => False) rfl rfl ?aP (fun _ hk => hk.elim) (fun _ _ => trivial) BW.out.r BW.out.b BW.out.b.size ?aL ?_; (case aP => exact (show [encB8 (hexD q)] = [encB8 (hexD q)] from rfl)); (case aL => have := HL.out; omega); intro v1 w4 hr4 hb4 hg4 hat4; have S4 := Lib.hid (RB.mk hb4 hr4); clear hr4 hb4 hg4 hat4)
        go_roundg (16 - (7 + 1))
        case measure => omega
        case rel => exact ⟨7 + 1, v1, w4, by omega, by omega, by go_num, rfl, rfl, (show Aside _ from by rw [HS.out]; exact S4.out)⟩
      · have ha : Go.bits .and .u64 ((u : Int) / 268435456) 15 = ((u / 16 ^ (16 - 1 - 8) % 16 : Nat) : Int) := by
          have := u64_mask 4 (by decide) ((u : Int) / 268435456) (by have := HU.out; omega) (by have := HU.out; omega)
          simpa using this
        have hq : u / 16 ^ (16 - 1 - 8) % 16 < 16 := Nat.mod_lt _ (by decide)
        generalize u / 16 ^ (16 - 1 - 8) % 16 = q at ha HS hq
        have hX : ∀ h, (⟨#[48, 49, 50, 51, 52, 53, 54, 55, 56, 57, 97, 98, 99, 100, 101, 102]⟩ : ByteArray)[q]'h = hexD q := fun h => hexT_get q hq h
        have hZ : ∀ w, (Instr.index 9 (.string (⟨#[48, 49, 50, 51, 52, 53, 54, 55, 56, 57, 97, 98, 99, 100, 101, 102]⟩ : ByteArray)) (.int .u64 (q : Int))).run Tryd.prog w = .ok (.int .u8 ((hexD q).toNat : Int)) w := fun w => idx_hexT q hq .u64 w
        clear hX
        go_wp2_with ((with_reducible refine gate_builtin (b := .append) (xs := #[.tmp 13, .tmp 21]) rfl ?_); at_builtin; refine Kd.R_append kB (w0 := w) w.heap.size rfl (.tmp 13) (.tmp 21) 62 5 (.int .u8 0) 1 rfl Tryd.underlying62 info_B rfl (by decide) (by decide) v L (hexD q) [encB8 (hexD q)] (fun _ => True) (fun _ => False) rfl rfl ?aP (fun _ hk => hk.elim) (fun _ _ => trivial) BW.out.r BW.out.b BW.out.b.size ?aL ?_; (case aP => exact (show [encB8 (hexD q)] = [encB8 (hexD q)] from rfl)); (case aL => have := HL.out; omega); intro v1 w4 hr4 hb4 hg4 hat4; have S4 := Lib.hid (RB.mk hb4 hr4); clear hr4 hb4 hg4 hat4)
        go_roundg (16 - (8 + 1))
        case measure => omega
        case rel => exact ⟨8 + 1, v1, w4, by omega, by omega, by go_num, rfl, rfl, (show Aside _ from by rw [HS.out]; exact S4.out)⟩
      · have ha : Go.bits .and .u64 ((u : Int) / 16777216) 15 = ((u / 16 ^ (16 - 1 - 9) % 16 : Nat) : Int) := by
          have := u64_mask 4 (by decide) ((u : Int) / 16777216) (by have := HU.out; omega) (by have := HU.out; omega)
          simpa using this
        have hq : u / 16 ^ (16 - 1 - 9) % 16 < 16 := Nat.mod_lt _ (by decide)
        generalize u / 16 ^ (16 - 1 - 9) % 16 = q at ha HS hq
        have hX : ∀ h, (⟨#[48, 49, 50, 51, 52, 53, 54, 55, 56, 57, 97, 98, 99, 100, 101, 102]⟩ : ByteArray)[q]'h = hexD q := fun h => hexT_get q hq h
        have hZ : ∀ w, (Instr.index 9 (.string (⟨#[48, 49, 50, 51, 52, 53, 54, 55, 56, 57, 97, 98, 99, 100, 101, 102]⟩ : ByteArray)) (.int .u64 (q : Int))).run Tryd.prog w = .ok (.int .u8 ((hexD q).toNat : Int)) w := fun w => idx_hexT q hq .u64 w
        clear hX
        go_wp2_with ((with_reducible refine gate_builtin (b := .append) (xs := #[.tmp 13, .tmp 21]) rfl ?_); at_builtin; refine Kd.R_append kB (w0 := w) w.heap.size rfl (.tmp 13) (.tmp 21) 62 5 (.int .u8 0) 1 rfl Tryd.underlying62 info_B rfl (by decide) (by decide) v L (hexD q) [encB8 (hexD q)] (fun _ => True) (fun _ => False) rfl rfl ?aP (fun _ hk => hk.elim) (fun _ _ => trivial) BW.out.r BW.out.b BW.out.b.size ?aL ?_; (case aP => exact (show [encB8 (hexD q)] = [encB8 (hexD q)] from rfl)); (case aL => have := HL.out; omega); intro v1 w4 hr4 hb4 hg4 hat4; have S4 := Lib.hid (RB.mk hb4 hr4); clear hr4 hb4 hg4 hat4)
        go_roundg (16 - (9 + 1))
        case measure => omega
        case rel => exact ⟨9 + 1, v1, w4, by omega, by omega, by go_num, rfl, rfl, (show Aside _ from by rw [HS.out]; exact S4.out)⟩
      · have ha : Go.bits .and .u64 ((u : Int) / 1048576) 15 = ((u / 16 ^ (16 - 1 - 10) % 16 : Nat) : Int) := by
          have := u64_mask 4 (by decide) ((u : Int) / 1048576) (by have := HU.out; omega) (by have := HU.out; omega)
          simpa using this
        have hq : u / 16 ^ (16 - 1 - 10) % 16 < 16 := Nat.mod_lt _ (by decide)
        generalize u / 16 ^ (16 - 1 - 10) % 16 = q at ha HS hq
        have hX : ∀ h, (⟨#[48, 49, 50, 51, 52, 53, 54, 55, 56, 57, 97, 98, 99, 100, 101, 102]⟩ : ByteArray)[q]'h = hexD q := fun h => hexT_get q hq h
        have hZ : ∀ w, (Instr.index 9 (.string (⟨#[48, 49, 50, 51, 52, 53, 54, 55, 56, 57, 97, 98, 99, 100, 101, 102]⟩ : ByteArray)) (.int .u64 (q : Int))).run Tryd.prog w = .ok (.int .u8 ((hexD q).toNat : Int)) w := fun w => idx_hexT q hq .u64 w
        clear hX
        go_wp2_with ((with_reducible refine gate_builtin (b := .append) (xs := #[.tmp 13, .tmp 21]) rfl ?_); at_builtin; refine Kd.R_append kB (w0 := w) w.heap.size rfl (.tmp 13) (.tmp 21) 62 5 (.int .u8 0) 1 rfl Tryd.underlying62 info_B rfl (by decide) (by decide) v L (hexD q) [encB8 (hexD q)] (fun _ => True) (fun _ => False) rfl rfl ?aP (fun _ hk => hk.elim) (fun _ _ => trivial) BW.out.r BW.out.b BW.out.b.size ?aL ?_; (case aP => exact (show [encB8 (hexD q)] = [encB8 (hexD q)] from rfl)); (case aL => have := HL.out; omega); intro v1 w4 hr4 hb4 hg4 hat4; have S4 := Lib.hid (RB.mk hb4 hr4); clear hr4 hb4 hg4 hat4)
        go_roundg (16 - (10 + 1))
        case measure => omega
        case rel => exact ⟨10 + 1, v1, w4, by omega, by omega, by go_num, rfl, rfl, (show Aside _ from by rw [HS.out]; exact S4.out)⟩
      · have ha : Go.bits .and .u64 ((u : Int) / 65536) 15 = ((u / 16 ^ (16 - 1 - 11) % 16 : Nat) : Int) := by
          have := u64_mask 4 (by decide) ((u : Int) / 65536) (by have := HU.out; omega) (by have := HU.out; omega)
          simpa using this
        have hq : u / 16 ^ (16 - 1 - 11) % 16 < 16 := Nat.mod_lt _ (by decide)
        generalize u / 16 ^ (16 - 1 - 11) % 16 = q at ha HS hq
        have hX : ∀ h, (⟨#[48, 49, 50, 51, 52, 53, 54, 55, 56, 57, 97, 98, 99, 100, 101, 102]⟩ : ByteArray)[q]'h = hexD q := fun h => hexT_get q hq h
        have hZ : ∀ w, (Instr.index 9 (.string (⟨#[48, 49, 50, 51, 52, 53, 54, 55, 56, 57, 97, 98, 99, 100, 101, 102]⟩ : ByteArray)) (.int .u64 (q : Int))).run Tryd.prog w = .ok (.int .u8 ((hexD q).toNat : Int)) w := fun w => idx_hexT q hq .u64 w
        clear hX
        go_wp2_with ((with_reducible refine gate_builtin (b := .append) (xs := #[.tmp 13, .tmp 21]) rfl ?_); at_builtin; refine Kd.R_append kB (w0 := w) w.heap.size rfl (.tmp 13) (.tmp 21) 62 5 (.int .u8 0) 1 rfl Tryd.underlying62 info_B rfl (by decide) (by decide) v L (hexD q) [encB8 (hexD q)] (fun _ => True) (fun _ => False) rfl rfl ?aP (fun _ hk => hk.elim) (fun _ _ => trivial) BW.out.r BW.out.b BW.out.b.size ?aL ?_; (case aP => exact (show [encB8 (hexD q)] = [encB8 (hexD q)] from rfl)); (case aL => have := HL.out; omega); intro v1 w4 hr4 hb4 hg4 hat4; have S4 := Lib.hid (RB.mk hb4 hr4); clear hr4 hb4 hg4 hat4)
        go_roundg (16 - (11 + 1))
        case measure => omega
        case rel => exact ⟨11 + 1, v1, w4, by omega, by omega, by go_num, rfl, rfl, (show Aside _ from by rw [HS.out]; exact S4.out)⟩
      · have ha : Go.bits .and .u64 ((u : Int) / 4096) 15 = ((u / 16 ^ (16 - 1 - 12) % 16 : Nat) : Int) := by
          have := u64_mask 4 (by decide) ((u : Int) / 4096) (by have := HU.out; omega) (by have := HU.out; omega)
          simpa using this
        have hq : u / 16 ^ (16 - 1 - 12) % 16 < 16 := Nat.mod_lt _ (by decide)
        generalize u / 16 ^ (16 - 1 - 12) % 16 = q at ha HS hq
        have hX : ∀ h, (⟨#[48, 49, 50, 51, 52, 53, 54, 55, 56, 57, 97, 98, 99, 100, 101, 102]⟩ : ByteArray)[q]'h = hexD q := fun h => hexT_get q hq h
        have hZ : ∀ w, (Instr.index 9 (.string (⟨#[48, 49, 50, 51, 52, 53, 54, 55, 56, 57, 97, 98, 99, 100, 101, 102]⟩ : ByteArray)) (.int .u64 (q : Int))).run Tryd.prog w = .ok (.int .u8 ((hexD q).toNat : Int)) w := fun w => idx_hexT q hq .u64 w
        clear hX
        go_wp2_with ((with_reducible refine gate_builtin (b := .append) (xs := #[.tmp 13, .tmp 21]) rfl ?_); at_builtin; refine Kd.R_append kB (w0 := w) w.heap.size rfl (.tmp 13) (.tmp 21) 62 5 (.int .u8 0) 1 rfl Tryd.underlying62 info_B rfl (by decide) (by decide) v L (hexD q) [encB8 (hexD q)] (fun _ => True) (fun _ => False) rfl rfl ?aP (fun _ hk => hk.elim) (fun _ _ => trivial) BW.out.r BW.out.b BW.out.b.size ?aL ?_; (case aP => exact (show [encB8 (hexD q)] = [encB8 (hexD q)] from rfl)); (case aL => have := HL.out; omega); intro v1 w4 hr4 hb4 hg4 hat4; have S4 := Lib.hid (RB.mk hb4 hr4); clear hr4 hb4 hg4 hat4)
        go_roundg (16 - (12 + 1))
        case measure => omega
        case rel => exact ⟨12 + 1, v1, w4, by omega, by omega, by go_num, rfl, rfl, (show Aside _ from by rw [HS.out]; exact S4.out)⟩
      · have ha : Go.bits .and .u64 ((u : Int) / 256) 15 = ((u / 16 ^ (16 - 1 - 13) % 16 : Nat) : Int) := by
          have := u64_mask 4 (by decide) ((u : Int) / 256) (by have := HU.out; omega) (by have := HU.out; omega)
          simpa using this
        have hq : u / 16 ^ (16 - 1 - 13) % 16 < 16 := Nat.mod_lt _ (by decide)
        generalize u / 16 ^ (16 - 1 - 13) % 16 = q at ha HS hq
        have hX : ∀ h, (⟨#[48, 49, 50, 51, 52, 53, 54, 55, 56, 57, 97, 98, 99, 100, 101, 102]⟩ : ByteArray)[q]'h = hexD q := fun h => hexT_get q hq h
        have hZ : ∀ w, (Instr.index 9 (.string (⟨#[48, 49, 50, 51, 52, 53, 54, 55, 56, 57, 97, 98, 99, 100, 101, 102]⟩ : ByteArray)) (.int .u64 (q : Int))).run Tryd.prog w = .ok (.int .u8 ((hexD q).toNat : Int)) w := fun w => idx_hexT q hq .u64 w
        clear hX
        go_wp2_with ((with_reducible refine gate_builtin (b := .append) (xs := #[.tmp 13, .tmp 21]) rfl ?_); at_builtin; refine Kd.R_append kB (w0 := w) w.heap.size rfl (.tmp 13) (.tmp 21) 62 5 (.int .u8 0) 1 rfl Tryd.underlying62 info_B rfl (by decide) (by decide) v L (hexD q) [encB8 (hexD q)] (fun _ => True) (fun _ => False) rfl rfl ?aP (fun _ hk => hk.elim) (fun _ _ => trivial) BW.out.r BW.out.b BW.out.b.size ?aL ?_; (case aP => exact (show [encB8 (hexD q)] = [encB8 (hexD q)] from rfl)); (case aL => have := HL.out; omega); intro v1 w4 hr4 hb4 hg4 hat4; have S4 := Lib.hid (RB.mk hb4 hr4); clear hr4 hb4 hg4 hat4)
        go_roundg (16 - (13 + 1))
        case measure => omega
        case rel => exact ⟨13 + 1, v1, w4, by omega, by omega, by go_num, rfl, rfl, (show Aside _ from by rw [HS.out]; exact S4.out)⟩
      · have ha : Go.bits .and .u64 ((u : Int) / 16) 15 = ((u / 16 ^ (16 - 1 - 14) % 16 : Nat) : Int) := by
          have := u64_mask 4 (by decide) ((u : Int) / 16) (by have := HU.out; omega) (by have := HU.out; omega)
          simpa using this
        have hq : u / 16 ^ (16 - 1 - 14) % 16 < 16 := Nat.mod_lt _ (by decide)
        generalize u / 16 ^ (16 - 1 - 14) % 16 = q at ha HS hq
        have hX : ∀ h, (⟨#[48, 49, 50, 51, 52, 53, 54, 55, 56, 57, 97, 98, 99, 100, 101, 102]⟩ : ByteArray)[q]'h = hexD q := fun h => hexT_get q hq h
        have hZ : ∀ w, (Instr.index 9 (.string (⟨#[48, 49, 50, 51, 52, 53, 54, 55, 56, 57, 97, 98, 99, 100, 101, 102]⟩ : ByteArray)) (.int .u64 (q : Int))).run Tryd.prog w = .ok (.int .u8 ((hexD q).toNat : Int)) w := fun w => idx_hexT q hq .u64 w
        clear hX
        go_wp2_with ((with_reducible refine gate_builtin (b := .append) (xs := #[.tmp 13, .tmp 21]) rfl ?_); at_builtin; refine Kd.R_append kB (w0 := w) w.heap.size rfl (.tmp 13) (.tmp 21) 62 5 (.int .u8 0) 1 rfl Tryd.underlying62 info_B rfl (by decide) (by decide) v L (hexD q) [encB8 (hexD q)] (fun _ => True) (fun _ => False) rfl rfl ?aP (fun _ hk => hk.elim) (fun _ _ => trivial) BW.out.r BW.out.b BW.out.b.size ?aL ?_; (case aP => exact (show [encB8 (hexD q)] = [encB8 (hexD q)] from rfl)); (case aL => have := HL.out; omega); intro v1 w4 hr4 hb4 hg4 hat4; have S4 := Lib.hid (RB.mk hb4 hr4); clear hr4 hb4 hg4 hat4)
        go_roundg (16 - (14 + 1))
        case measure => omega
        case rel => exact ⟨14 + 1, v1, w4, by omega, by omega, by go_num, rfl, rfl, (show Aside _ from by rw [HS.out]; exact S4.out)⟩
      · have ha : Go.bits .and .u64 (u : Int) 15 = ((u / 16 ^ (16 - 1 - 15) % 16 : Nat) : Int) := by
          have := u64_mask 4 (by decide) (u : Int) (by have := HU.out; omega) (by have := HU.out; omega)
          simpa using this
        have hq : u / 16 ^ (16 - 1 - 15) % 16 < 16 := Nat.mod_lt _ (by decide)
        generalize u / 16 ^ (16 - 1 - 15) % 16 = q at ha HS hq
        have hX : ∀ h, (⟨#[48, 49, 50, 51, 52, 53, 54, 55, 56, 57, 97, 98, 99, 100, 101, 102]⟩ : ByteArray)[q]'h = hexD q := fun h => hexT_get q hq h
        have hZ : ∀ w, (Instr.index 9 (.string (⟨#[48, 49, 50, 51, 52, 53, 54, 55, 56, 57, 97, 98, 99, 100, 101, 102]⟩ : ByteArray)) (.int .u64 (q : Int))).run Tryd.prog w = .ok (.int .u8 ((hexD q).toNat : Int)) w := fun w => idx_hexT q hq .u64 w
        clear hX
        go_wp2_with ((with_reducible refine gate_builtin (b := .append) (xs := #[.tmp 13, .tmp 21]) rfl ?_); at_builtin; refine Kd.R_append kB (w0 := w) w.heap.size rfl (.tmp 13) (.tmp 21) 62 5 (.int .u8 0) 1 rfl Tryd.underlying62 info_B rfl (by decide) (by decide) v L (hexD q) [encB8 (hexD q)] (fun _ => True) (fun _ => False) rfl rfl ?aP (fun _ hk => hk.elim) (fun _ _ => trivial) BW.out.r BW.out.b BW.out.b.size ?aL ?_; (case aP => exact (show [encB8 (hexD q)] = [encB8 (hexD q)] from rfl)); (case aL => have := HL.out; omega); intro v1 w4 hr4 hb4 hg4 hat4; have S4 := Lib.hid (RB.mk hb4 hr4); clear hr4 hb4 hg4 hat4)
        go_roundg (16 - (15 + 1))
        case measure => omega
        case rel => exact ⟨15 + 1, v1, w4, by omega, by omega, by go_num, rfl, rfl, (show Aside _ from by rw [HS.out]; exact S4.out)⟩
    · obtain rfl : j = 16 := by omega
      have HT := Lib.hid (show (hexL 16 u).take 16 = hexL 16 u from List.take_of_length_le (Nat.le_of_eq (hexL_length 16 u)))
      have hcv := text_B BW.out.r (by rw [HT.out]; intro h; have := congrArg List.length h; rw [hexL_length] at this; cases this)
      rw [HT.out] at hcv
      go_wp2
      go_ret
      exact ⟨rfl, BW.out.b⟩
end Go.Proofs.YtdkdmclbhcbfeaaDoor.Nu
