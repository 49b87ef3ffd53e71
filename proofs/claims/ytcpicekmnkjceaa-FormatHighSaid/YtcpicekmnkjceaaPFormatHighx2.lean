-- PRINTED BY print.sh 35421559b90ae4d0a3588c463048766b98c2df88dd9212a6774a882060cdf62d: not written by this session
import Derived.Test.YtcpicekmnkjceaaPFormatHighx0
import Derived.Test.YtcpicekmnkjceaaPFormatHighx1
namespace Go.Proofs.Ytcpicekmnkjceaa.PFormatHigh
open Go.RowKit Go.Proofs.YtcpicekmnkjceaaW.PrintWords Go.Proofs.YtcpicekmnkjceaaW.PrintLast Go.Proofs.YtcpicekmnkjceaaW.PrintMore
attribute [local go_sem] max2_int min2_int max_two min_two max_three min_three max_four min_four   -- for this text's walks alone
set_option linter.unusedVariables false
set_option linter.unusedSimpArgs false

/-! ### anneallaw2_FormatHigh: function 10 -/
def anneallaw2_FormatHigh.j0 : Nat → Int → Int → Int → Option (Bool)
  | 0, _, _, _ => none
  | k + 1, x0, x1, x7 => (format_Unpack.f x7 x0).bind fun bt137 => ((format_Unpack.f x7 (Go.bits .or .u32 (Go.bits .and .u32 x0 65535) ((x1 * 65536) % 4294967296))).bind fun bt140 => ((format_Class.f k x7 x0).bind fun t143 => ((format_Class.f k x7 (Go.bits .or .u32 (Go.bits .and .u32 x0 65535) ((x1 * 65536) % 4294967296))).bind fun t144 => (if t143 = t144 then (if (bt137.1 == bt140.1) = true then (if bt137.2.1 = bt140.2.1 then (if bt137.2.2 = bt140.2.2 then ((format_Mask.f x7).bind fun t145 => (some (t145 == 65535))) else (some false)) else (some false)) else (some false)) else (some false)))))
def anneallaw2_FormatHigh.f (k : Nat) (a0 : Int) (a1 : Int) (a2 : Bool) : Option (Bool) := (anneallaw2_known.f k).bind fun t136 => (if t136 = true then (if a2 = true then (anneallaw2_FormatHigh.j0 k a0 a1 1) else (anneallaw2_FormatHigh.j0 k a0 a1 0)) else (some false))
theorem anneallaw2_FormatHigh.mono_l : ∀ k, (∀ y0 y1 y2, LeO (anneallaw2_FormatHigh.j0 k y0 y1 y2) (anneallaw2_FormatHigh.j0 (k + 1) y0 y1 y2))
  | 0 => fun _ _ _ r h => by simp [anneallaw2_FormatHigh.j0] at h
  | k + 1 => by
    have ih0 := anneallaw2_FormatHigh.mono_l k
    · intro y0 y1 y2
      unfold anneallaw2_FormatHigh.j0
      repeat' first
      | (with_reducible exact ih0 _ _ _)
      | (with_reducible exact anneallaw2_known.mono _)
      | (with_reducible exact format_Class.mono _ _ _)
      | (with_reducible exact LeO.refl _)
      | (with_reducible exact LeO.none _)
      | (with_reducible refine LeO.ite ?_ ?_)
      | (with_reducible refine LeO.bind ?_ (fun _ => ?_))
      | exact ih0 _ _ _
      | exact anneallaw2_known.mono _
      | exact format_Class.mono _ _ _
      | exact LeO.none _
      | refine LeO.ite ?_ ?_
      | refine LeO.bind ?_ (fun _ => ?_)
theorem anneallaw2_FormatHigh.mono : ∀ a0 a1 a2 k, LeO (anneallaw2_FormatHigh.f k a0 a1 a2) (anneallaw2_FormatHigh.f (k + 1) a0 a1 a2) := by
  intro a0 a1 a2 k
  have ih0 := anneallaw2_FormatHigh.mono_l k
  unfold anneallaw2_FormatHigh.f
  repeat' first
      | (with_reducible exact ih0 _ _ _)
      | (with_reducible exact anneallaw2_known.mono _)
      | (with_reducible exact format_Class.mono _ _ _)
      | (with_reducible exact LeO.refl _)
      | (with_reducible exact LeO.none _)
      | (with_reducible refine LeO.ite ?_ ?_)
      | (with_reducible refine LeO.bind ?_ (fun _ => ?_))
      | exact ih0 _ _ _
      | exact anneallaw2_known.mono _
      | exact format_Class.mono _ _ _
      | exact LeO.none _
      | refine LeO.ite ?_ ?_
      | refine LeO.bind ?_ (fun _ => ?_)
set_option maxHeartbeats 8000000 in
set_option maxRecDepth 100000 in
theorem anneallaw2_FormatHigh.calls (k : Nat) (a0 : Int) (a1 : Int) (a2 : Bool) (r : Bool) (w : World) (h : anneallaw2_FormatHigh.f k a0 a1 a2 = some r) :
    Calls Try.prog 10 #[.int .u32 a0, .int .u32 a1, .bool a2] w fun e w' => e = .returned (.bool r) ∧ Drawn0 w w' := by
  have H : ((anneallaw2_known.f k).bind fun t136 => (if t136 = true then (if a2 = true then (anneallaw2_FormatHigh.j0 k a0 a1 1) else (anneallaw2_FormatHigh.j0 k a0 a1 0)) else (some false))) = some r := h
  clear h
  replace H := Option.bind_eq_some_iff.mp H
  obtain ⟨t136, A40, H⟩ := H
  replace H : (if t136 = true then (if a2 = true then (anneallaw2_FormatHigh.j0 k a0 a1 1) else (anneallaw2_FormatHigh.j0 k a0 a1 0)) else (some false)) = some r := H
  have A4 := Aside0.mk A40
  clear A40
  by_cases c5 : t136 = true
  · subst c5
    have H1 : (if a2 = true then (anneallaw2_FormatHigh.j0 k a0 a1 1) else (anneallaw2_FormatHigh.j0 k a0 a1 0)) = some r := by rw [if_pos rfl] at H; exact H
    clear H
    have H := H1
    clear H1
    have HC6 := Aside0.mk H
    clear H
    go_enter Try.func10, Try.ntmps10
    go_upto_if 18 with (first | ((with_reducible refine gate_callee (f := 36) rfl ?_); refine goesL_ (some 16) rfl rfl Try.func36 (by kernel_rfl) rfl #[] rfl (by (try simp only [List.map_toArray, List.map_cons, List.map_nil]); first | done | rfl | (simp only [List.length_drop, List.length_take]; rfl)) ?_; (with_reducible refine (anneallaw2_known.calls k  true _ A4.out).mono ?_); rintro e w' ⟨rfl, ⟨nd, rfl⟩⟩; refine ⟨_, rfl, ?_⟩))
    (try simp only [Act.put, List.setIfInBounds_toArray, List.set_cons_zero, List.set_cons_succ])
    go_cut [7] (fun v7 wc => ∃ (kq : Nat) (x7_5 : Int), v7 = .int .i64 x7_5 ∧ Aside0 (anneallaw2_FormatHigh.j0 kq a0 a1 x7_5 = some r) ∧ Aside0 (kq ≤ k) ∧ Drawn0 w wc)
    case first =>
      have H := HC6.out
      clear HC6
      by_cases c7 : a2 = true
      · subst c7
        have H1 : (anneallaw2_FormatHigh.j0 k a0 a1 1) = some r := by rw [if_pos rfl] at H; exact H
        clear H
        have H := H1
        clear H1
        have H' := Aside0.mk H
        clear H
        go_wp2
        go_meet
        case rel => exact ⟨_, (1), (by first | rfl | (simp; done) | (simp [*]; done)), H', ⟨by first | omega | exact Nat.le_refl _⟩, by repeat (first | exact Drawn0.refl _ | apply Drawn0.step)⟩
      · replace c7 := Bool.eq_false_iff.mpr c7
        subst c7
        have H1 : (anneallaw2_FormatHigh.j0 k a0 a1 0) = some r := by rw [if_neg (show ¬ (false = true) by decide)] at H; exact H
        clear H
        have H := H1
        clear H1
        have H' := Aside0.mk H
        clear H
        go_wp2
        go_meet
        case rel => exact ⟨_, (0), (by first | rfl | (simp; done) | (simp [*]; done)), H', ⟨by first | omega | exact Nat.le_refl _⟩, by repeat (first | exact Drawn0.refl _ | apply Drawn0.step)⟩
    case rest =>
      clear HC6
      try clear c1
      try clear p2
      try clear c3
      try clear c5
      try clear c7
      obtain ⟨kq, x7_5, rfl, HA, HJ5, ⟨mc5, rfl⟩⟩ := hcut
      cases kq with
      | zero => exact absurd HA.out (by simp [anneallaw2_FormatHigh.j0])
      | succ kj5 =>
        have H := HA.out
        clear HA
        simp only [anneallaw2_FormatHigh.j0] at H
        replace H := Option.bind_eq_some_iff.mp H
        obtain ⟨⟨t137, t138, t139⟩, A80, H⟩ := H
        replace H : ((format_Unpack.f x7_5 (Go.bits .or .u32 (Go.bits .and .u32 a0 65535) ((a1 * 65536) % 4294967296))).bind fun bt140 => ((format_Class.f kj5 x7_5 a0).bind fun t143 => ((format_Class.f kj5 x7_5 (Go.bits .or .u32 (Go.bits .and .u32 a0 65535) ((a1 * 65536) % 4294967296))).bind fun t144 => (if t143 = t144 then (if (t137 == bt140.1) = true then (if t138 = bt140.2.1 then (if t139 = bt140.2.2 then ((format_Mask.f x7_5).bind fun t145 => (some (t145 == 65535))) else (some false)) else (some false)) else (some false)) else (some false))))) = some r := H
        have A8 := Aside0.mk A80
        clear A80
        replace H := Option.bind_eq_some_iff.mp H
        obtain ⟨⟨t140, t141, t142⟩, A90, H⟩ := H
        replace H : ((format_Class.f kj5 x7_5 a0).bind fun t143 => ((format_Class.f kj5 x7_5 (Go.bits .or .u32 (Go.bits .and .u32 a0 65535) ((a1 * 65536) % 4294967296))).bind fun t144 => (if t143 = t144 then (if (t137 == t140) = true then (if t138 = t141 then (if t139 = t142 then ((format_Mask.f x7_5).bind fun t145 => (some (t145 == 65535))) else (some false)) else (some false)) else (some false)) else (some false)))) = some r := H
        have A9 := Aside0.mk A90
        clear A90
        replace H := Option.bind_eq_some_iff.mp H
        obtain ⟨t143, A100, H⟩ := H
        replace H : ((format_Class.f kj5 x7_5 (Go.bits .or .u32 (Go.bits .and .u32 a0 65535) ((a1 * 65536) % 4294967296))).bind fun t144 => (if t143 = t144 then (if (t137 == t140) = true then (if t138 = t141 then (if t139 = t142 then ((format_Mask.f x7_5).bind fun t145 => (some (t145 == 65535))) else (some false)) else (some false)) else (some false)) else (some false))) = some r := H
        have A10 := Aside0.mk A100
        clear A100
        replace H := Option.bind_eq_some_iff.mp H
        obtain ⟨t144, A110, H⟩ := H
        replace H : (if t143 = t144 then (if (t137 == t140) = true then (if t138 = t141 then (if t139 = t142 then ((format_Mask.f x7_5).bind fun t145 => (some (t145 == 65535))) else (some false)) else (some false)) else (some false)) else (some false)) = some r := H
        have A11 := Aside0.mk A110
        clear A110
        by_cases c12 : t143 = t144
        · rw [if_pos c12] at H
          have c12b0 : (t143 == t144) = true := beq_iff_eq.mpr c12
          have c12b1 : (t143 != t144) = false := bne_eq_false_iff_eq.mpr c12
          clear c12
          by_cases c13 : (t137 == t140) = true
          · rw [if_pos c13] at H
            have c13b0 : (t137 == t140) = true := c13
            (try (have c13b1 : decide (t137 = t140) = true := by simpa using c13))
            (try (have c13b2 : (t137 == t140) = true := by simpa using c13))
            clear c13
            by_cases c14 : t138 = t141
            · rw [if_pos c14] at H
              have c14b0 : (t138 == t141) = true := beq_iff_eq.mpr c14
              have c14b1 : (t138 != t141) = false := bne_eq_false_iff_eq.mpr c14
              clear c14
              by_cases c15 : t139 = t142
              · rw [if_pos c15] at H
                have c15b0 : (t139 == t142) = true := beq_iff_eq.mpr c15
                have c15b1 : (t139 != t142) = false := bne_eq_false_iff_eq.mpr c15
                clear c15
                replace H := Option.bind_eq_some_iff.mp H
                obtain ⟨t145, A160, H⟩ := H
                replace H : (some (t145 == 65535)) = some r := H
                have A16 := Aside0.mk A160
                clear A160
                obtain rfl := Option.some.inj H
                go_wp2_with (first | ((with_reducible refine gate_callee (f := 37) rfl ?_); refine goesL_ (some 28) rfl rfl Try.func37 (by kernel_rfl) rfl #[.int .i64 x7_5, .int .u32 a0] rfl (by (try simp only [List.map_toArray, List.map_cons, List.map_nil]); first | done | rfl | (simp only [List.length_drop, List.length_take]; rfl)) ?_; (with_reducible refine (format_Unpack.calls x7_5 a0 t137 t138 t139 _ A8.out).mono ?_); rintro e w' ⟨rfl, ⟨nd, rfl⟩⟩; refine ⟨_, rfl, ?_⟩) | ((with_reducible refine gate_callee (f := 37) rfl ?_); refine goesL_ (some 35) rfl rfl Try.func37 (by kernel_rfl) rfl #[.int .i64 x7_5, .int .u32 (Go.bits .or .u32 (Go.bits .and .u32 a0 65535) ((a1 * 65536) % 4294967296))] rfl (by (try simp only [List.map_toArray, List.map_cons, List.map_nil]); first | done | rfl | (simp only [List.length_drop, List.length_take]; rfl)) ?_; (with_reducible refine (format_Unpack.calls x7_5 (Go.bits .or .u32 (Go.bits .and .u32 a0 65535) ((a1 * 65536) % 4294967296)) t140 t141 t142 _ A9.out).mono ?_); rintro e w' ⟨rfl, ⟨nd, rfl⟩⟩; refine ⟨_, rfl, ?_⟩) | ((with_reducible refine gate_callee (f := 38) rfl ?_); refine goesL_ (some 41) rfl rfl Try.func38 (by kernel_rfl) rfl #[.int .i64 x7_5, .int .u32 a0] rfl (by (try simp only [List.map_toArray, List.map_cons, List.map_nil]); first | done | rfl | (simp only [List.length_drop, List.length_take]; rfl)) ?_; (with_reducible refine (format_Class.calls kj5 x7_5 a0 t143 _ A10.out).mono ?_); rintro e w' ⟨rfl, ⟨nd, rfl⟩⟩; refine ⟨_, rfl, ?_⟩) | ((with_reducible refine gate_callee (f := 38) rfl ?_); refine goesL_ (some 44) rfl rfl Try.func38 (by kernel_rfl) rfl #[.int .i64 x7_5, .int .u32 (Go.bits .or .u32 (Go.bits .and .u32 a0 65535) ((a1 * 65536) % 4294967296))] rfl (by (try simp only [List.map_toArray, List.map_cons, List.map_nil]); first | done | rfl | (simp only [List.length_drop, List.length_take]; rfl)) ?_; (with_reducible refine (format_Class.calls kj5 x7_5 (Go.bits .or .u32 (Go.bits .and .u32 a0 65535) ((a1 * 65536) % 4294967296)) t144 _ A11.out).mono ?_); rintro e w' ⟨rfl, ⟨nd, rfl⟩⟩; refine ⟨_, rfl, ?_⟩) | (go_at_call 39; (with_reducible refine (format_Mask.calls x7_5 t145 _ A16.out).mono ?_); rintro e w' ⟨rfl, ⟨nd, rfl⟩⟩))
                go_ret
                exact ⟨by first | rfl | (simp; done) | (simp [*]; done), by repeat (first | exact Drawn0.refl _ | apply Drawn0.step)⟩
              · rw [if_neg c15] at H
                have c15b0 : (t139 == t142) = false := beq_eq_false_iff_ne.mpr c15
                have c15b1 : (t139 != t142) = true := bne_iff_ne.mpr c15
                obtain rfl := Option.some.inj H
                go_wp2_with (first | ((with_reducible refine gate_callee (f := 37) rfl ?_); refine goesL_ (some 28) rfl rfl Try.func37 (by kernel_rfl) rfl #[.int .i64 x7_5, .int .u32 a0] rfl (by (try simp only [List.map_toArray, List.map_cons, List.map_nil]); first | done | rfl | (simp only [List.length_drop, List.length_take]; rfl)) ?_; (with_reducible refine (format_Unpack.calls x7_5 a0 t137 t138 t139 _ A8.out).mono ?_); rintro e w' ⟨rfl, ⟨nd, rfl⟩⟩; refine ⟨_, rfl, ?_⟩) | ((with_reducible refine gate_callee (f := 37) rfl ?_); refine goesL_ (some 35) rfl rfl Try.func37 (by kernel_rfl) rfl #[.int .i64 x7_5, .int .u32 (Go.bits .or .u32 (Go.bits .and .u32 a0 65535) ((a1 * 65536) % 4294967296))] rfl (by (try simp only [List.map_toArray, List.map_cons, List.map_nil]); first | done | rfl | (simp only [List.length_drop, List.length_take]; rfl)) ?_; (with_reducible refine (format_Unpack.calls x7_5 (Go.bits .or .u32 (Go.bits .and .u32 a0 65535) ((a1 * 65536) % 4294967296)) t140 t141 t142 _ A9.out).mono ?_); rintro e w' ⟨rfl, ⟨nd, rfl⟩⟩; refine ⟨_, rfl, ?_⟩) | ((with_reducible refine gate_callee (f := 38) rfl ?_); refine goesL_ (some 41) rfl rfl Try.func38 (by kernel_rfl) rfl #[.int .i64 x7_5, .int .u32 a0] rfl (by (try simp only [List.map_toArray, List.map_cons, List.map_nil]); first | done | rfl | (simp only [List.length_drop, List.length_take]; rfl)) ?_; (with_reducible refine (format_Class.calls kj5 x7_5 a0 t143 _ A10.out).mono ?_); rintro e w' ⟨rfl, ⟨nd, rfl⟩⟩; refine ⟨_, rfl, ?_⟩) | ((with_reducible refine gate_callee (f := 38) rfl ?_); refine goesL_ (some 44) rfl rfl Try.func38 (by kernel_rfl) rfl #[.int .i64 x7_5, .int .u32 (Go.bits .or .u32 (Go.bits .and .u32 a0 65535) ((a1 * 65536) % 4294967296))] rfl (by (try simp only [List.map_toArray, List.map_cons, List.map_nil]); first | done | rfl | (simp only [List.length_drop, List.length_take]; rfl)) ?_; (with_reducible refine (format_Class.calls kj5 x7_5 (Go.bits .or .u32 (Go.bits .and .u32 a0 65535) ((a1 * 65536) % 4294967296)) t144 _ A11.out).mono ?_); rintro e w' ⟨rfl, ⟨nd, rfl⟩⟩; refine ⟨_, rfl, ?_⟩))
                go_ret
                exact ⟨by first | rfl | (simp; done) | (simp [*]; done), by repeat (first | exact Drawn0.refl _ | apply Drawn0.step)⟩
            · rw [if_neg c14] at H
              have c14b0 : (t138 == t141) = false := beq_eq_false_iff_ne.mpr c14
              have c14b1 : (t138 != t141) = true := bne_iff_ne.mpr c14
              obtain rfl := Option.some.inj H
              go_wp2_with (first | ((with_reducible refine gate_callee (f := 37) rfl ?_); refine goesL_ (some 28) rfl rfl Try.func37 (by kernel_rfl) rfl #[.int .i64 x7_5, .int .u32 a0] rfl (by (try simp only [List.map_toArray, List.map_cons, List.map_nil]); first | done | rfl | (simp only [List.length_drop, List.length_take]; rfl)) ?_; (with_reducible refine (format_Unpack.calls x7_5 a0 t137 t138 t139 _ A8.out).mono ?_); rintro e w' ⟨rfl, ⟨nd, rfl⟩⟩; refine ⟨_, rfl, ?_⟩) | ((with_reducible refine gate_callee (f := 37) rfl ?_); refine goesL_ (some 35) rfl rfl Try.func37 (by kernel_rfl) rfl #[.int .i64 x7_5, .int .u32 (Go.bits .or .u32 (Go.bits .and .u32 a0 65535) ((a1 * 65536) % 4294967296))] rfl (by (try simp only [List.map_toArray, List.map_cons, List.map_nil]); first | done | rfl | (simp only [List.length_drop, List.length_take]; rfl)) ?_; (with_reducible refine (format_Unpack.calls x7_5 (Go.bits .or .u32 (Go.bits .and .u32 a0 65535) ((a1 * 65536) % 4294967296)) t140 t141 t142 _ A9.out).mono ?_); rintro e w' ⟨rfl, ⟨nd, rfl⟩⟩; refine ⟨_, rfl, ?_⟩) | ((with_reducible refine gate_callee (f := 38) rfl ?_); refine goesL_ (some 41) rfl rfl Try.func38 (by kernel_rfl) rfl #[.int .i64 x7_5, .int .u32 a0] rfl (by (try simp only [List.map_toArray, List.map_cons, List.map_nil]); first | done | rfl | (simp only [List.length_drop, List.length_take]; rfl)) ?_; (with_reducible refine (format_Class.calls kj5 x7_5 a0 t143 _ A10.out).mono ?_); rintro e w' ⟨rfl, ⟨nd, rfl⟩⟩; refine ⟨_, rfl, ?_⟩) | ((with_reducible refine gate_callee (f := 38) rfl ?_); refine goesL_ (some 44) rfl rfl Try.func38 (by kernel_rfl) rfl #[.int .i64 x7_5, .int .u32 (Go.bits .or .u32 (Go.bits .and .u32 a0 65535) ((a1 * 65536) % 4294967296))] rfl (by (try simp only [List.map_toArray, List.map_cons, List.map_nil]); first | done | rfl | (simp only [List.length_drop, List.length_take]; rfl)) ?_; (with_reducible refine (format_Class.calls kj5 x7_5 (Go.bits .or .u32 (Go.bits .and .u32 a0 65535) ((a1 * 65536) % 4294967296)) t144 _ A11.out).mono ?_); rintro e w' ⟨rfl, ⟨nd, rfl⟩⟩; refine ⟨_, rfl, ?_⟩))
              go_ret
              exact ⟨by first | rfl | (simp; done) | (simp [*]; done), by repeat (first | exact Drawn0.refl _ | apply Drawn0.step)⟩
          · rw [if_neg c13] at H
            have c13b0 : (t137 == t140) = false := by simpa using c13
            (try (have c13b1 : decide (t137 = t140) = false := by simpa using c13))
            (try (have c13b2 : (t137 == t140) = false := by simpa using c13))
            (try (have c13b3 : ¬ (t137 = t140) := by simpa using c13))
            clear c13
            obtain rfl := Option.some.inj H
            go_wp2_with (first | ((with_reducible refine gate_callee (f := 37) rfl ?_); refine goesL_ (some 28) rfl rfl Try.func37 (by kernel_rfl) rfl #[.int .i64 x7_5, .int .u32 a0] rfl (by (try simp only [List.map_toArray, List.map_cons, List.map_nil]); first | done | rfl | (simp only [List.length_drop, List.length_take]; rfl)) ?_; (with_reducible refine (format_Unpack.calls x7_5 a0 t137 t138 t139 _ A8.out).mono ?_); rintro e w' ⟨rfl, ⟨nd, rfl⟩⟩; refine ⟨_, rfl, ?_⟩) | ((with_reducible refine gate_callee (f := 37) rfl ?_); refine goesL_ (some 35) rfl rfl Try.func37 (by kernel_rfl) rfl #[.int .i64 x7_5, .int .u32 (Go.bits .or .u32 (Go.bits .and .u32 a0 65535) ((a1 * 65536) % 4294967296))] rfl (by (try simp only [List.map_toArray, List.map_cons, List.map_nil]); first | done | rfl | (simp only [List.length_drop, List.length_take]; rfl)) ?_; (with_reducible refine (format_Unpack.calls x7_5 (Go.bits .or .u32 (Go.bits .and .u32 a0 65535) ((a1 * 65536) % 4294967296)) t140 t141 t142 _ A9.out).mono ?_); rintro e w' ⟨rfl, ⟨nd, rfl⟩⟩; refine ⟨_, rfl, ?_⟩) | ((with_reducible refine gate_callee (f := 38) rfl ?_); refine goesL_ (some 41) rfl rfl Try.func38 (by kernel_rfl) rfl #[.int .i64 x7_5, .int .u32 a0] rfl (by (try simp only [List.map_toArray, List.map_cons, List.map_nil]); first | done | rfl | (simp only [List.length_drop, List.length_take]; rfl)) ?_; (with_reducible refine (format_Class.calls kj5 x7_5 a0 t143 _ A10.out).mono ?_); rintro e w' ⟨rfl, ⟨nd, rfl⟩⟩; refine ⟨_, rfl, ?_⟩) | ((with_reducible refine gate_callee (f := 38) rfl ?_); refine goesL_ (some 44) rfl rfl Try.func38 (by kernel_rfl) rfl #[.int .i64 x7_5, .int .u32 (Go.bits .or .u32 (Go.bits .and .u32 a0 65535) ((a1 * 65536) % 4294967296))] rfl (by (try simp only [List.map_toArray, List.map_cons, List.map_nil]); first | done | rfl | (simp only [List.length_drop, List.length_take]; rfl)) ?_; (with_reducible refine (format_Class.calls kj5 x7_5 (Go.bits .or .u32 (Go.bits .and .u32 a0 65535) ((a1 * 65536) % 4294967296)) t144 _ A11.out).mono ?_); rintro e w' ⟨rfl, ⟨nd, rfl⟩⟩; refine ⟨_, rfl, ?_⟩))
            go_ret
            exact ⟨by first | rfl | (simp; done) | (simp [*]; done), by repeat (first | exact Drawn0.refl _ | apply Drawn0.step)⟩
        · rw [if_neg c12] at H
          have c12b0 : (t143 == t144) = false := beq_eq_false_iff_ne.mpr c12
          have c12b1 : (t143 != t144) = true := bne_iff_ne.mpr c12
          obtain rfl := Option.some.inj H
          go_wp2_with (first | ((with_reducible refine gate_callee (f := 37) rfl ?_); refine goesL_ (some 28) rfl rfl Try.func37 (by kernel_rfl) rfl #[.int .i64 x7_5, .int .u32 a0] rfl (by (try simp only [List.map_toArray, List.map_cons, List.map_nil]); first | done | rfl | (simp only [List.length_drop, List.length_take]; rfl)) ?_; (with_reducible refine (format_Unpack.calls x7_5 a0 t137 t138 t139 _ A8.out).mono ?_); rintro e w' ⟨rfl, ⟨nd, rfl⟩⟩; refine ⟨_, rfl, ?_⟩) | ((with_reducible refine gate_callee (f := 37) rfl ?_); refine goesL_ (some 35) rfl rfl Try.func37 (by kernel_rfl) rfl #[.int .i64 x7_5, .int .u32 (Go.bits .or .u32 (Go.bits .and .u32 a0 65535) ((a1 * 65536) % 4294967296))] rfl (by (try simp only [List.map_toArray, List.map_cons, List.map_nil]); first | done | rfl | (simp only [List.length_drop, List.length_take]; rfl)) ?_; (with_reducible refine (format_Unpack.calls x7_5 (Go.bits .or .u32 (Go.bits .and .u32 a0 65535) ((a1 * 65536) % 4294967296)) t140 t141 t142 _ A9.out).mono ?_); rintro e w' ⟨rfl, ⟨nd, rfl⟩⟩; refine ⟨_, rfl, ?_⟩) | ((with_reducible refine gate_callee (f := 38) rfl ?_); refine goesL_ (some 41) rfl rfl Try.func38 (by kernel_rfl) rfl #[.int .i64 x7_5, .int .u32 a0] rfl (by (try simp only [List.map_toArray, List.map_cons, List.map_nil]); first | done | rfl | (simp only [List.length_drop, List.length_take]; rfl)) ?_; (with_reducible refine (format_Class.calls kj5 x7_5 a0 t143 _ A10.out).mono ?_); rintro e w' ⟨rfl, ⟨nd, rfl⟩⟩; refine ⟨_, rfl, ?_⟩) | ((with_reducible refine gate_callee (f := 38) rfl ?_); refine goesL_ (some 44) rfl rfl Try.func38 (by kernel_rfl) rfl #[.int .i64 x7_5, .int .u32 (Go.bits .or .u32 (Go.bits .and .u32 a0 65535) ((a1 * 65536) % 4294967296))] rfl (by (try simp only [List.map_toArray, List.map_cons, List.map_nil]); first | done | rfl | (simp only [List.length_drop, List.length_take]; rfl)) ?_; (with_reducible refine (format_Class.calls kj5 x7_5 (Go.bits .or .u32 (Go.bits .and .u32 a0 65535) ((a1 * 65536) % 4294967296)) t144 _ A11.out).mono ?_); rintro e w' ⟨rfl, ⟨nd, rfl⟩⟩; refine ⟨_, rfl, ?_⟩))
          go_ret
          exact ⟨by first | rfl | (simp; done) | (simp [*]; done), by repeat (first | exact Drawn0.refl _ | apply Drawn0.step)⟩
  · replace c5 := Bool.eq_false_iff.mpr c5
    subst c5
    have H1 : (some false) = some r := by rw [if_neg (show ¬ (false = true) by decide)] at H; exact H
    clear H
    have H := H1
    clear H1
    obtain rfl := Option.some.inj H
    go_enter Try.func10, Try.ntmps10
    go_wp2_with (first | ((with_reducible refine gate_callee (f := 36) rfl ?_); refine goesL_ (some 16) rfl rfl Try.func36 (by kernel_rfl) rfl #[] rfl (by (try simp only [List.map_toArray, List.map_cons, List.map_nil]); first | done | rfl | (simp only [List.length_drop, List.length_take]; rfl)) ?_; (with_reducible refine (anneallaw2_known.calls k  false _ A4.out).mono ?_); rintro e w' ⟨rfl, ⟨nd, rfl⟩⟩; refine ⟨_, rfl, ?_⟩))
    go_ret
    exact ⟨by first | rfl | (simp; done) | (simp [*]; done), by repeat (first | exact Drawn0.refl _ | apply Drawn0.step)⟩

/-- THE ONE PURE STATEMENT of anneallaw2_FormatHigh: yours. -/
def anneallaw2_FormatHigh.Pure : Prop := ∀ (a0 : Int) (a1 : Int) (a2 : Bool), (Lit.int .u32 a0).wf = true → (Lit.int .u32 a1).wf = true → ∃ k, anneallaw2_FormatHigh.f k a0 a1 a2 = some true
theorem anneallaw2_FormatHigh.walk (P : anneallaw2_FormatHigh.Pure) (a0 : Int) (a1 : Int) (a2 : Bool) (w : World) (w0 : (Lit.int .u32 a0).wf = true) (w1 : (Lit.int .u32 a1).wf = true) :
    Calls Try.prog 10 #[.int .u32 a0, .int .u32 a1, .bool a2] w fun e w' => e = .returned (.bool true) ∧ Below w.heap.size w w' := by
  obtain ⟨k, h⟩ := P a0 a1 a2 w0 w1
  refine (anneallaw2_FormatHigh.calls k a0 a1 a2 true w h).mono ?_
  rintro e w' ⟨rfl, hd⟩
  exact ⟨rfl, hd.below⟩

end Go.Proofs.Ytcpicekmnkjceaa.PFormatHigh
