/- The functions that the law comes to, as plain functions, and for each a proof that the Go code comes to just these answers. Written by a program of this claim. Conditions: each theorem bears its own. -/
import Derived.Test.YtlalofmilhakjaaDoorELotsSayx0
import Derived.Test.YtlalofmilhakjaaDoorELotsSayx2
namespace Go.Proofs.YtlalofmilhakjaaDoor.ELotsSay
open Go.RowKit Go.Proofs.YtlalofmilhakjaaDoorW.PrintWords Go.Proofs.YtlalofmilhakjaaDoorW.PrintLast Go.Proofs.YtlalofmilhakjaaDoorW.PrintMore Go.Proofs.YtlalofmilhakjaaDoorW.PrintOpen
attribute [local go_sem] max2_int min2_int max_two min_two max_three min_three max_four min_four   -- for this text's walks alone
set_option linter.unusedVariables false
set_option linter.unusedSimpArgs false

/-! ### cmp_Compare_int64: function 60 -/
def cmp_Compare_int64.f (a0 : Int) (a1 : Int) : Option (Int) := (cmp_isNaN_int64.f a0).bind fun t124 => ((cmp_isNaN_int64.f a1).bind fun t125 => (if t124 = true then (if t125 = true then (some 0) else (some (-1))) else (if t125 = true then (some 1) else (if a0 < a1 then (some (-1)) else (if a0 > a1 then (some 1) else (some 0))))))
set_option maxHeartbeats 8000000 in
set_option maxRecDepth 100000 in
theorem cmp_Compare_int64.calls [Inhabited (Int → Addr)] (a0 : Int) (a1 : Int) (r : Int) (w : World) (h : cmp_Compare_int64.f a0 a1 = some r) :
    Calls Tryd.prog 60 #[.int .i64 a0, .int .i64 a1] w fun e w' => e = .returned (.int .i64 r) ∧ Drawn0 w w' := by
  have H : ((cmp_isNaN_int64.f a0).bind fun t124 => ((cmp_isNaN_int64.f a1).bind fun t125 => (if t124 = true then (if t125 = true then (some 0) else (some (-1))) else (if t125 = true then (some 1) else (if a0 < a1 then (some (-1)) else (if a0 > a1 then (some 1) else (some 0))))))) = some r := h; clear h; replace H := Option.bind_eq_some_iff.mp H; obtain ⟨t124, A30, H⟩ := H; replace H : ((cmp_isNaN_int64.f a1).bind fun t125 => (if t124 = true then (if t125 = true then (some 0) else (some (-1))) else (if t125 = true then (some 1) else (if a0 < a1 then (some (-1)) else (if a0 > a1 then (some 1) else (some 0)))))) = some r := H; have A3 := Aside0.mk A30; clear A30; replace H := Option.bind_eq_some_iff.mp H; obtain ⟨t125, A40, H⟩ := H; replace H : (if t124 = true then (if t125 = true then (some 0) else (some (-1))) else (if t125 = true then (some 1) else (if a0 < a1 then (some (-1)) else (if a0 > a1 then (some 1) else (some 0))))) = some r := H; have A4 := Aside0.mk A40; clear A40; by_cases c5 : t124 = true
  · subst c5
    have H1 : (if t125 = true then (some 0) else (some (-1))) = some r := by rw [if_pos rfl] at H; exact H
    clear H; have H := H1; clear H1; by_cases c6 : t125 = true
    · subst c6
      have H1 : (some 0) = some r := by rw [if_pos rfl] at H; exact H
      clear H; have H := H1; clear H1; obtain rfl := Option.some.inj H
      go_enter Tryd.func60, Tryd.ntmps60
      go_wp2_with (first | ((with_reducible refine gate_callee (f := 70) rfl ?_); refine goesL_ (some 8) rfl rfl Tryd.func70 (by kernel_rfl) rfl #[.int .i64 a0] rfl zM ?_; (with_reducible refine (cmp_isNaN_int64.calls a0 true _ A3.out).mono ?_); rintro e w' ⟨rfl, ⟨nd, rfl⟩⟩; refine ⟨_, rfl, ?_⟩) | ((with_reducible refine gate_callee (f := 70) rfl ?_); refine goesL_ (some 10) rfl rfl Tryd.func70 (by kernel_rfl) rfl #[.int .i64 a1] rfl zM ?_; (with_reducible refine (cmp_isNaN_int64.calls a1 true _ A4.out).mono ?_); rintro e w' ⟨rfl, ⟨nd, rfl⟩⟩; refine ⟨_, rfl, ?_⟩))
      go_ret
      exact ⟨zF, zD⟩
    · replace c6 := Bool.eq_false_iff.mpr c6
      subst c6; have H1 : (some (-1)) = some r := by rw [if_neg (show ¬ (false = true) by decide)] at H; exact H
      clear H; have H := H1; clear H1; obtain rfl := Option.some.inj H
      go_enter Tryd.func60, Tryd.ntmps60
      go_wp2_with (first | ((with_reducible refine gate_callee (f := 70) rfl ?_); refine goesL_ (some 8) rfl rfl Tryd.func70 (by kernel_rfl) rfl #[.int .i64 a0] rfl zM ?_; (with_reducible refine (cmp_isNaN_int64.calls a0 true _ A3.out).mono ?_); rintro e w' ⟨rfl, ⟨nd, rfl⟩⟩; refine ⟨_, rfl, ?_⟩) | ((with_reducible refine gate_callee (f := 70) rfl ?_); refine goesL_ (some 10) rfl rfl Tryd.func70 (by kernel_rfl) rfl #[.int .i64 a1] rfl zM ?_; (with_reducible refine (cmp_isNaN_int64.calls a1 false _ A4.out).mono ?_); rintro e w' ⟨rfl, ⟨nd, rfl⟩⟩; refine ⟨_, rfl, ?_⟩))
      go_ret
      exact ⟨zF, zD⟩
  · replace c5 := Bool.eq_false_iff.mpr c5
    subst c5; have H1 : (if t125 = true then (some 1) else (if a0 < a1 then (some (-1)) else (if a0 > a1 then (some 1) else (some 0)))) = some r := by rw [if_neg (show ¬ (false = true) by decide)] at H; exact H
    clear H; have H := H1; clear H1; by_cases c7 : t125 = true
    · subst c7
      have H1 : (some 1) = some r := by rw [if_pos rfl] at H; exact H
      clear H; have H := H1; clear H1; obtain rfl := Option.some.inj H
      go_enter Tryd.func60, Tryd.ntmps60
      go_wp2_with (first | ((with_reducible refine gate_callee (f := 70) rfl ?_); refine goesL_ (some 8) rfl rfl Tryd.func70 (by kernel_rfl) rfl #[.int .i64 a0] rfl zM ?_; (with_reducible refine (cmp_isNaN_int64.calls a0 false _ A3.out).mono ?_); rintro e w' ⟨rfl, ⟨nd, rfl⟩⟩; refine ⟨_, rfl, ?_⟩) | ((with_reducible refine gate_callee (f := 70) rfl ?_); refine goesL_ (some 10) rfl rfl Tryd.func70 (by kernel_rfl) rfl #[.int .i64 a1] rfl zM ?_; (with_reducible refine (cmp_isNaN_int64.calls a1 true _ A4.out).mono ?_); rintro e w' ⟨rfl, ⟨nd, rfl⟩⟩; refine ⟨_, rfl, ?_⟩))
      go_ret
      exact ⟨zF, zD⟩
    · replace c7 := Bool.eq_false_iff.mpr c7
      subst c7; have H1 : (if a0 < a1 then (some (-1)) else (if a0 > a1 then (some 1) else (some 0))) = some r := by rw [if_neg (show ¬ (false = true) by decide)] at H; exact H
      clear H; have H := H1; clear H1; by_cases c8 : a0 < a1
      · rw [if_pos c8] at H
        have c8b0 : decide (a0 < a1) = true := decide_eq_true c8; clear c8; obtain rfl := Option.some.inj H
        go_enter Tryd.func60, Tryd.ntmps60
        go_wp2_with (first | ((with_reducible refine gate_callee (f := 70) rfl ?_); refine goesL_ (some 8) rfl rfl Tryd.func70 (by kernel_rfl) rfl #[.int .i64 a0] rfl zM ?_; (with_reducible refine (cmp_isNaN_int64.calls a0 false _ A3.out).mono ?_); rintro e w' ⟨rfl, ⟨nd, rfl⟩⟩; refine ⟨_, rfl, ?_⟩) | ((with_reducible refine gate_callee (f := 70) rfl ?_); refine goesL_ (some 10) rfl rfl Tryd.func70 (by kernel_rfl) rfl #[.int .i64 a1] rfl zM ?_; (with_reducible refine (cmp_isNaN_int64.calls a1 false _ A4.out).mono ?_); rintro e w' ⟨rfl, ⟨nd, rfl⟩⟩; refine ⟨_, rfl, ?_⟩))
        go_ret
        exact ⟨zF, zD⟩
      · rw [if_neg c8] at H
        have c8b0 : decide (a0 < a1) = false := decide_eq_false c8; clear c8; by_cases c9 : a0 > a1
        · rw [if_pos c9] at H
          have c9b0 : decide (a1 < a0) = true := decide_eq_true c9; clear c9; obtain rfl := Option.some.inj H
          go_enter Tryd.func60, Tryd.ntmps60
          go_wp2_with (first | ((with_reducible refine gate_callee (f := 70) rfl ?_); refine goesL_ (some 8) rfl rfl Tryd.func70 (by kernel_rfl) rfl #[.int .i64 a0] rfl zM ?_; (with_reducible refine (cmp_isNaN_int64.calls a0 false _ A3.out).mono ?_); rintro e w' ⟨rfl, ⟨nd, rfl⟩⟩; refine ⟨_, rfl, ?_⟩) | ((with_reducible refine gate_callee (f := 70) rfl ?_); refine goesL_ (some 10) rfl rfl Tryd.func70 (by kernel_rfl) rfl #[.int .i64 a1] rfl zM ?_; (with_reducible refine (cmp_isNaN_int64.calls a1 false _ A4.out).mono ?_); rintro e w' ⟨rfl, ⟨nd, rfl⟩⟩; refine ⟨_, rfl, ?_⟩))
          go_ret
          exact ⟨zF, zD⟩
        · rw [if_neg c9] at H
          have c9b0 : decide (a1 < a0) = false := decide_eq_false c9; clear c9; obtain rfl := Option.some.inj H
          go_enter Tryd.func60, Tryd.ntmps60
          go_wp2_with (first | ((with_reducible refine gate_callee (f := 70) rfl ?_); refine goesL_ (some 8) rfl rfl Tryd.func70 (by kernel_rfl) rfl #[.int .i64 a0] rfl zM ?_; (with_reducible refine (cmp_isNaN_int64.calls a0 false _ A3.out).mono ?_); rintro e w' ⟨rfl, ⟨nd, rfl⟩⟩; refine ⟨_, rfl, ?_⟩) | ((with_reducible refine gate_callee (f := 70) rfl ?_); refine goesL_ (some 10) rfl rfl Tryd.func70 (by kernel_rfl) rfl #[.int .i64 a1] rfl zM ?_; (with_reducible refine (cmp_isNaN_int64.calls a1 false _ A4.out).mono ?_); rintro e w' ⟨rfl, ⟨nd, rfl⟩⟩; refine ⟨_, rfl, ?_⟩))
          go_ret
          exact ⟨zF, zD⟩

/-! ### cmp_isNaN_uint64: function 71 -/
def cmp_isNaN_uint64.f (a0 : Int) : Option (Bool) := some (a0 != a0)
set_option maxHeartbeats 8000000 in
set_option maxRecDepth 100000 in
theorem cmp_isNaN_uint64.calls [Inhabited (Int → Addr)] (a0 : Int) (r : Bool) (w : World) (h : cmp_isNaN_uint64.f a0 = some r) :
    Calls Tryd.prog 71 #[.int .u64 a0] w fun e w' => e = .returned (.bool r) ∧ Drawn0 w w' := by
  have H : (some (a0 != a0)) = some r := h; clear h; obtain rfl := Option.some.inj H
  go_enter Tryd.func71, Tryd.ntmps71
  go_wp2
  go_ret
  exact ⟨zF, zD⟩

/-! ### cmp_Compare_uint64: function 61 -/
def cmp_Compare_uint64.f (a0 : Int) (a1 : Int) : Option (Int) := (cmp_isNaN_uint64.f a0).bind fun t126 => ((cmp_isNaN_uint64.f a1).bind fun t127 => (if t126 = true then (if t127 = true then (some 0) else (some (-1))) else (if t127 = true then (some 1) else (if a0 < a1 then (some (-1)) else (if a0 > a1 then (some 1) else (some 0))))))
set_option maxHeartbeats 8000000 in
set_option maxRecDepth 100000 in
theorem cmp_Compare_uint64.calls [Inhabited (Int → Addr)] (a0 : Int) (a1 : Int) (r : Int) (w : World) (h : cmp_Compare_uint64.f a0 a1 = some r) :
    Calls Tryd.prog 61 #[.int .u64 a0, .int .u64 a1] w fun e w' => e = .returned (.int .i64 r) ∧ Drawn0 w w' := by
  have H : ((cmp_isNaN_uint64.f a0).bind fun t126 => ((cmp_isNaN_uint64.f a1).bind fun t127 => (if t126 = true then (if t127 = true then (some 0) else (some (-1))) else (if t127 = true then (some 1) else (if a0 < a1 then (some (-1)) else (if a0 > a1 then (some 1) else (some 0))))))) = some r := h; clear h; replace H := Option.bind_eq_some_iff.mp H; obtain ⟨t126, A30, H⟩ := H; replace H : ((cmp_isNaN_uint64.f a1).bind fun t127 => (if t126 = true then (if t127 = true then (some 0) else (some (-1))) else (if t127 = true then (some 1) else (if a0 < a1 then (some (-1)) else (if a0 > a1 then (some 1) else (some 0)))))) = some r := H; have A3 := Aside0.mk A30; clear A30; replace H := Option.bind_eq_some_iff.mp H; obtain ⟨t127, A40, H⟩ := H; replace H : (if t126 = true then (if t127 = true then (some 0) else (some (-1))) else (if t127 = true then (some 1) else (if a0 < a1 then (some (-1)) else (if a0 > a1 then (some 1) else (some 0))))) = some r := H; have A4 := Aside0.mk A40; clear A40; by_cases c5 : t126 = true
  · subst c5
    have H1 : (if t127 = true then (some 0) else (some (-1))) = some r := by rw [if_pos rfl] at H; exact H
    clear H; have H := H1; clear H1; by_cases c6 : t127 = true
    · subst c6
      have H1 : (some 0) = some r := by rw [if_pos rfl] at H; exact H
      clear H; have H := H1; clear H1; obtain rfl := Option.some.inj H
      go_enter Tryd.func61, Tryd.ntmps61
      go_wp2_with (first | ((with_reducible refine gate_callee (f := 71) rfl ?_); refine goesL_ (some 8) rfl rfl Tryd.func71 (by kernel_rfl) rfl #[.int .u64 a0] rfl zM ?_; (with_reducible refine (cmp_isNaN_uint64.calls a0 true _ A3.out).mono ?_); rintro e w' ⟨rfl, ⟨nd, rfl⟩⟩; refine ⟨_, rfl, ?_⟩) | ((with_reducible refine gate_callee (f := 71) rfl ?_); refine goesL_ (some 10) rfl rfl Tryd.func71 (by kernel_rfl) rfl #[.int .u64 a1] rfl zM ?_; (with_reducible refine (cmp_isNaN_uint64.calls a1 true _ A4.out).mono ?_); rintro e w' ⟨rfl, ⟨nd, rfl⟩⟩; refine ⟨_, rfl, ?_⟩))
      go_ret
      exact ⟨zF, zD⟩
    · replace c6 := Bool.eq_false_iff.mpr c6
      subst c6; have H1 : (some (-1)) = some r := by rw [if_neg (show ¬ (false = true) by decide)] at H; exact H
      clear H; have H := H1; clear H1; obtain rfl := Option.some.inj H
      go_enter Tryd.func61, Tryd.ntmps61
      go_wp2_with (first | ((with_reducible refine gate_callee (f := 71) rfl ?_); refine goesL_ (some 8) rfl rfl Tryd.func71 (by kernel_rfl) rfl #[.int .u64 a0] rfl zM ?_; (with_reducible refine (cmp_isNaN_uint64.calls a0 true _ A3.out).mono ?_); rintro e w' ⟨rfl, ⟨nd, rfl⟩⟩; refine ⟨_, rfl, ?_⟩) | ((with_reducible refine gate_callee (f := 71) rfl ?_); refine goesL_ (some 10) rfl rfl Tryd.func71 (by kernel_rfl) rfl #[.int .u64 a1] rfl zM ?_; (with_reducible refine (cmp_isNaN_uint64.calls a1 false _ A4.out).mono ?_); rintro e w' ⟨rfl, ⟨nd, rfl⟩⟩; refine ⟨_, rfl, ?_⟩))
      go_ret
      exact ⟨zF, zD⟩
  · replace c5 := Bool.eq_false_iff.mpr c5
    subst c5; have H1 : (if t127 = true then (some 1) else (if a0 < a1 then (some (-1)) else (if a0 > a1 then (some 1) else (some 0)))) = some r := by rw [if_neg (show ¬ (false = true) by decide)] at H; exact H
    clear H; have H := H1; clear H1; by_cases c7 : t127 = true
    · subst c7
      have H1 : (some 1) = some r := by rw [if_pos rfl] at H; exact H
      clear H; have H := H1; clear H1; obtain rfl := Option.some.inj H
      go_enter Tryd.func61, Tryd.ntmps61
      go_wp2_with (first | ((with_reducible refine gate_callee (f := 71) rfl ?_); refine goesL_ (some 8) rfl rfl Tryd.func71 (by kernel_rfl) rfl #[.int .u64 a0] rfl zM ?_; (with_reducible refine (cmp_isNaN_uint64.calls a0 false _ A3.out).mono ?_); rintro e w' ⟨rfl, ⟨nd, rfl⟩⟩; refine ⟨_, rfl, ?_⟩) | ((with_reducible refine gate_callee (f := 71) rfl ?_); refine goesL_ (some 10) rfl rfl Tryd.func71 (by kernel_rfl) rfl #[.int .u64 a1] rfl zM ?_; (with_reducible refine (cmp_isNaN_uint64.calls a1 true _ A4.out).mono ?_); rintro e w' ⟨rfl, ⟨nd, rfl⟩⟩; refine ⟨_, rfl, ?_⟩))
      go_ret
      exact ⟨zF, zD⟩
    · replace c7 := Bool.eq_false_iff.mpr c7
      subst c7; have H1 : (if a0 < a1 then (some (-1)) else (if a0 > a1 then (some 1) else (some 0))) = some r := by rw [if_neg (show ¬ (false = true) by decide)] at H; exact H
      clear H; have H := H1; clear H1; by_cases c8 : a0 < a1
      · rw [if_pos c8] at H
        have c8b0 : decide (a0 < a1) = true := decide_eq_true c8; clear c8; obtain rfl := Option.some.inj H
        go_enter Tryd.func61, Tryd.ntmps61
        go_wp2_with (first | ((with_reducible refine gate_callee (f := 71) rfl ?_); refine goesL_ (some 8) rfl rfl Tryd.func71 (by kernel_rfl) rfl #[.int .u64 a0] rfl zM ?_; (with_reducible refine (cmp_isNaN_uint64.calls a0 false _ A3.out).mono ?_); rintro e w' ⟨rfl, ⟨nd, rfl⟩⟩; refine ⟨_, rfl, ?_⟩) | ((with_reducible refine gate_callee (f := 71) rfl ?_); refine goesL_ (some 10) rfl rfl Tryd.func71 (by kernel_rfl) rfl #[.int .u64 a1] rfl zM ?_; (with_reducible refine (cmp_isNaN_uint64.calls a1 false _ A4.out).mono ?_); rintro e w' ⟨rfl, ⟨nd, rfl⟩⟩; refine ⟨_, rfl, ?_⟩))
        go_ret
        exact ⟨zF, zD⟩
      · rw [if_neg c8] at H
        have c8b0 : decide (a0 < a1) = false := decide_eq_false c8; clear c8; by_cases c9 : a0 > a1
        · rw [if_pos c9] at H
          have c9b0 : decide (a1 < a0) = true := decide_eq_true c9; clear c9; obtain rfl := Option.some.inj H
          go_enter Tryd.func61, Tryd.ntmps61
          go_wp2_with (first | ((with_reducible refine gate_callee (f := 71) rfl ?_); refine goesL_ (some 8) rfl rfl Tryd.func71 (by kernel_rfl) rfl #[.int .u64 a0] rfl zM ?_; (with_reducible refine (cmp_isNaN_uint64.calls a0 false _ A3.out).mono ?_); rintro e w' ⟨rfl, ⟨nd, rfl⟩⟩; refine ⟨_, rfl, ?_⟩) | ((with_reducible refine gate_callee (f := 71) rfl ?_); refine goesL_ (some 10) rfl rfl Tryd.func71 (by kernel_rfl) rfl #[.int .u64 a1] rfl zM ?_; (with_reducible refine (cmp_isNaN_uint64.calls a1 false _ A4.out).mono ?_); rintro e w' ⟨rfl, ⟨nd, rfl⟩⟩; refine ⟨_, rfl, ?_⟩))
          go_ret
          exact ⟨zF, zD⟩
        · rw [if_neg c9] at H
          have c9b0 : decide (a1 < a0) = false := decide_eq_false c9; clear c9; obtain rfl := Option.some.inj H
          go_enter Tryd.func61, Tryd.ntmps61
          go_wp2_with (first | ((with_reducible refine gate_callee (f := 71) rfl ?_); refine goesL_ (some 8) rfl rfl Tryd.func71 (by kernel_rfl) rfl #[.int .u64 a0] rfl zM ?_; (with_reducible refine (cmp_isNaN_uint64.calls a0 false _ A3.out).mono ?_); rintro e w' ⟨rfl, ⟨nd, rfl⟩⟩; refine ⟨_, rfl, ?_⟩) | ((with_reducible refine gate_callee (f := 71) rfl ?_); refine goesL_ (some 10) rfl rfl Tryd.func71 (by kernel_rfl) rfl #[.int .u64 a1] rfl zM ?_; (with_reducible refine (cmp_isNaN_uint64.calls a1 false _ A4.out).mono ?_); rintro e w' ⟨rfl, ⟨nd, rfl⟩⟩; refine ⟨_, rfl, ?_⟩))
          go_ret
          exact ⟨zF, zD⟩

/-! ### fix_Cmp: function 51 -/
def fix_Cmp.f (k : Nat) (a0 : Int) (a1 : Int) (a2 : Int) (a3 : Int) : Option (Int) := (fix_product.f a0 a1).bind fun bt128 => ((fix_product.f a2 a3).bind fun bt130 => ((cmp_Compare_int64.f bt128.1 bt130.1).bind fun t134 => ((cmp_Compare_uint64.f bt128.2 bt130.2).bind fun t135 => ((cmp_Or_int.f k (([t134, t135] : List Int))).bind fun t139 => (some t139)))))
theorem fix_Cmp.mono : ∀ a0 a1 a2 a3 k, LeO (fix_Cmp.f k a0 a1 a2 a3) (fix_Cmp.f (k + 1) a0 a1 a2 a3) := by
 intro a0 a1 a2 a3 k; unfold fix_Cmp.f
 repeat' first
   | (with_reducible exact cmp_Or_int.mono _ _)
   | (with_reducible exact LeO.refl _)
   | (with_reducible exact LeO.none _)
   | (with_reducible refine LeO.ite ?_ ?_)
   | (with_reducible refine LeO.bind ?_ (fun _ => ?_))
   | exact cmp_Or_int.mono _ _
   | exact LeO.none _
   | refine LeO.ite ?_ ?_
   | refine LeO.bind ?_ (fun _ => ?_)
def fix_Cmp.T2 : Bool × List (List Nat × List Nat) := (true, [([], []), ([0], [0]), ([], []), ([2], [2]), ([1, 3], [1, 3]), ([], []), ([5], [5]), ([], []), ([7], [7]), ([6, 8, 4], [6, 8]), ([4, 9], [4, 9]), ([10, 9], [10]), ([11, 11, 0, 1, 2, 3, 4, 5, 6, 7, 8, 9, 10, 11], [11])])
def fix_Cmp.B2 : List Nat := [0, 1, 0, 4, 15, 0, 32, 0, 128, 511, 1023, 2047, 4095]
theorem fix_Cmp.tab2 : rtab .any (opsOf Tryd.f51 2) = fix_Cmp.T2 := by kernel_rfl
theorem fix_Cmp.bits2 : waitsOk fix_Cmp.T2.2 fix_Cmp.B2 = true := by kernel_rfl
abbrev z1b86_m0 : Array Bool := (fun o i : Bool => #[o,o,o,o,o,o,o,o,o,o,o,o,o]) false true
abbrev z1b86_m1 : Array Bool := (fun o i : Bool => #[i,o,o,o,o,o,o,o,o,o,o,o,o]) false true
abbrev z1b86_m2 : Array Bool := (fun o i : Bool => #[i,o,i,o,o,o,o,o,o,o,o,o,o]) false true
abbrev z1b86_m3 : Array Bool := (fun o i : Bool => #[i,o,i,o,o,i,o,o,o,o,o,o,o]) false true
abbrev z1b86_m4 : Array Bool := (fun o i : Bool => #[i,o,i,o,o,i,o,i,o,o,o,o,o]) false true
abbrev z1b86_m5 : Array Bool := (fun o i : Bool => #[i,i,i,o,o,i,o,i,o,o,o,o,o]) false true
abbrev z1b86_m6 : Array Bool := (fun o i : Bool => #[i,i,i,i,o,i,o,i,o,o,o,o,o]) false true
abbrev z1b86_m7 : Array Bool := (fun o i : Bool => #[i,i,i,i,o,i,i,i,o,o,o,o,o]) false true
abbrev z1b86_m8 : Array Bool := (fun o i : Bool => #[i,i,i,i,o,i,i,i,i,o,o,o,o]) false true
abbrev z1b86_m9 : Array Bool := (fun o i : Bool => #[i,i,i,i,i,i,i,i,i,o,o,o,o]) false true
abbrev z1b86_m10 : Array Bool := (fun o i : Bool => #[i,i,i,i,i,i,i,i,i,i,o,o,o]) false true
abbrev z1b86_m11 : Array Bool := (fun o i : Bool => #[i,i,i,i,i,i,i,i,i,i,i,o,o]) false true
abbrev z1b86_m12 : Array Bool := (fun o i : Bool => #[i,i,i,i,i,i,i,i,i,i,i,i,o]) false true
abbrev z1b86_m13 : Array Bool := (fun o i : Bool => #[i,i,i,i,i,i,i,i,i,i,i,i,i]) false true
set_option maxHeartbeats 8000000 in
set_option maxRecDepth 100000 in
theorem fix_Cmp.calls [Inhabited (Int → Addr)] (k : Nat) (a0 : Int) (a1 : Int) (a2 : Int) (a3 : Int) (r : Int) (w : World) (h : fix_Cmp.f k a0 a1 a2 a3 = some r) :
  Calls Tryd.prog 51 #[.int .i64 a0, .int .i64 a1, .int .i64 a2, .int .i64 a3] w fun e w' => e = .returned (.int .i64 r) ∧ Below w.heap.size w w' := by
 have hu88 := Tryd.underlying88; have HB := Aside0.mk (Below.refl w.heap.size w); have H : ((fix_product.f a0 a1).bind fun bt128 => ((fix_product.f a2 a3).bind fun bt130 => ((cmp_Compare_int64.f bt128.1 bt130.1).bind fun t134 => ((cmp_Compare_uint64.f bt128.2 bt130.2).bind fun t135 => ((cmp_Or_int.f k (([t134, t135] : List Int))).bind fun t139 => (some t139)))))) = some r := h; clear h; replace H := Option.bind_eq_some_iff.mp H; obtain ⟨⟨t128, t129⟩, A50, H⟩ := H; replace H : ((fix_product.f a2 a3).bind fun bt130 => ((cmp_Compare_int64.f t128 bt130.1).bind fun t134 => ((cmp_Compare_uint64.f t129 bt130.2).bind fun t135 => ((cmp_Or_int.f k (([t134, t135] : List Int))).bind fun t139 => (some t139))))) = some r := H; have A5 := Aside0.mk A50; clear A50; replace H := Option.bind_eq_some_iff.mp H; obtain ⟨⟨t130, t131⟩, A60, H⟩ := H; replace H : ((cmp_Compare_int64.f t128 t130).bind fun t134 => ((cmp_Compare_uint64.f t129 t131).bind fun t135 => ((cmp_Or_int.f k (([t134, t135] : List Int))).bind fun t139 => (some t139)))) = some r := H; have A6 := Aside0.mk A60; clear A60; replace H := Option.bind_eq_some_iff.mp H; obtain ⟨t134, A70, H⟩ := H; replace H : ((cmp_Compare_uint64.f t129 t131).bind fun t135 => ((cmp_Or_int.f k (([t134, t135] : List Int))).bind fun t139 => (some t139))) = some r := H; have A7 := Aside0.mk A70; clear A70; replace H := Option.bind_eq_some_iff.mp H; obtain ⟨t135, A80, H⟩ := H; replace H : ((cmp_Or_int.f k (([t134, t135] : List Int))).bind fun t139 => (some t139)) = some r := H; have A8 := Aside0.mk A80; clear A80; obtain ⟨y136, hy136⟩ : ∃ y_ : List Int, y_ = (([t134, t135] : List Int)) := ⟨_, rfl⟩; replace H : ((cmp_Or_int.f k y136).bind fun t139 => (some t139)) = some r := by first | (rw [hy136]; with_reducible exact H) | (have H2_ := (Option.bind_some _ _).symm.trans H; rw [hy136]; with_reducible exact H2_) | (have H2_ := (Option.bind_some _ _).symm.trans H; with_reducible exact H2_) | with_reducible exact H | (rw [hy136]; exact H) | exact H
 have Ny136 := Aside0.mk hy136; clear hy136; replace H := Option.bind_eq_some_iff.mp H; obtain ⟨t139, A90, H⟩ := H; replace H : (some t139) = some r := H; have A9 := Aside0.mk A90; clear A90; obtain rfl := Option.some.inj H
 go_enter Tryd.func51, Tryd.ntmps51
 try go_wp2_with (first | ((with_reducible refine gate_callee (f := 58) rfl ?_); refine goesL_ (some 13) rfl rfl Tryd.func58 (by kernel_rfl) rfl #[.int .i64 a0, .int .i64 a1] rfl zM ?_; (with_reducible refine (fix_product.calls a0 a1 t128 t129 _ A5.out).mono ?_); rintro e w10 ⟨rfl, hb⟩; refine ⟨_, rfl, ?_⟩; have n0_ := Aside0.mk (below_step (zH HB.out) hb); clear HB; have HB := n0_; clear n0_; (try clear hb); (try clear hb2); (try clear hk); (try clear hi)) | ((with_reducible refine gate_callee (f := 58) rfl ?_); refine goesL_ (some 16) rfl rfl Tryd.func58 (by kernel_rfl) rfl #[.int .i64 a2, .int .i64 a3] rfl zM ?_; (with_reducible refine (fix_product.calls a2 a3 t130 t131 _ A6.out).mono ?_); rintro e w11 ⟨rfl, hb⟩; refine ⟨_, rfl, ?_⟩; have n0_ := Aside0.mk (below_step (zH HB.out) hb); clear HB; have HB := n0_; clear n0_; (try clear hb); (try clear hb2); (try clear hk); (try clear hi)) | ((with_reducible refine gate_dst (N := 9) rfl ?_); refine box_event ?hg (N := 9) ?hd (cs := #[.int .i64 0, .int .u64 0]) (t := 88) ?hr ?_; (case hd => rfl); (case hg => rfl); (case hr => first | (go_simp; done) | (go_simp; rfl)); intro gb132 hg w12 hbox hb; have n0_ := Aside0.mk (below_step (zH HB.out) hb); have n1_ := Aside0.mk (hbox); have n2_ := Aside0.mk (zg hg (below_size (zH HB.out)) : w.heap.size ≤ gb132); have n3_ := Aside0.mk (zg hg (below_size (zH HB.out)) : w.heap.size ≤ gb132); clear HB; have HB := n0_; have BK132 := n1_; have GW132 := n2_; have GE132 := n3_; clear n0_ n1_ n2_ n3_; clear hb hbox hg) | ((with_reducible refine gate_dst (N := 10) rfl ?_); refine box_event ?hg (N := 10) ?hd (cs := #[.int .i64 0, .int .u64 0]) (t := 88) ?hr ?_; (case hd => rfl); (case hg => rfl); (case hr => first | (go_simp; done) | (go_simp; rfl)); intro gb133 hg w13 hbox hb; have n0_ := zBB BK132 hb; have n1_ := Aside0.mk (below_step (zH1 HB.out GE132.out) hb); have n2_ := Aside0.mk (hbox); have n3_ := Aside0.mk (zg hg (below_size (zH1 HB.out GE132.out)) : w.heap.size ≤ gb133); have n4_ := Aside0.mk (zg hg (below_size (zH1 HB.out GE132.out)) : w.heap.size ≤ gb133); have n5_ := Aside0.mk (zN hg BK132 : gb132 ≠ gb133); have n6_ := Aside0.mk (zO hg BK132 : gb133 ≠ gb132); clear BK132; clear HB; have BK132 := n0_; have HB := n1_; have BK133 := n2_; have GW133 := n3_; have GE133 := n4_; have NB132_133 := n5_; have NB133_132 := n6_; clear n0_ n1_ n2_ n3_ n4_ n5_ n6_; clear hb hbox hg; have hnb14 := NB132_133.out; have hnc14 := NB133_132.out; have hcz15_0 : w13.cell? ⟨gb132, 0, none⟩ = some (.int .i64 0) := (blk_cell BK132.out 0).trans rfl; have hcz15_1 : w13.cell? ⟨gb132, 1, none⟩ = some (.int .u64 0) := (blk_cell BK132.out 1).trans rfl; have hfz15_0 := blk_frozen BK132.out 0; have hfz15_1 := blk_frozen BK132.out 1; have hcz16_0 : w13.cell? ⟨gb133, 0, none⟩ = some (.int .i64 0) := (blk_cell BK133.out 0).trans rfl; have hcz16_1 : w13.cell? ⟨gb133, 1, none⟩ = some (.int .u64 0) := (blk_cell BK133.out 1).trans rfl; have hfz16_0 := blk_frozen BK133.out 0; have hfz16_1 := blk_frozen BK133.out 1))
 have n0_ : Aside0 (((((w13.setCell ⟨gb132, 0, none⟩ (.int .i64 t128)).setCell ⟨gb132, 1, none⟩ (.int .u64 t129)).setCell ⟨gb133, 0, none⟩ (.int .i64 t130)).setCell ⟨gb133, 1, none⟩ (.int .u64 t131)).heap[gb132]? = some (.cells #[.int .i64 t128, .int .u64 t129] 88 (0, 0))) := ⟨by (with_reducible repeat (first | refine blk_drewN ?_ _ | refine blk_drew ?_ | refine blk_alloc ?_ _ | refine blk_far ?_ NB132_133.out _)); refine blk_put (cs := #[.int .i64 t128, .int .u64 0]) ?_ 1 _ rfl; (with_reducible repeat (first | refine blk_drewN ?_ _ | refine blk_drew ?_ | refine blk_alloc ?_ _)); refine blk_put (cs := #[.int .i64 0, .int .u64 0]) ?_ 0 _ rfl; (with_reducible repeat (first | refine blk_drewN ?_ _ | refine blk_drew ?_ | refine blk_alloc ?_ _)); exact BK132.out⟩; have n1_ : Aside0 (((((w13.setCell ⟨gb132, 0, none⟩ (.int .i64 t128)).setCell ⟨gb132, 1, none⟩ (.int .u64 t129)).setCell ⟨gb133, 0, none⟩ (.int .i64 t130)).setCell ⟨gb133, 1, none⟩ (.int .u64 t131)).heap[gb133]? = some (.cells #[.int .i64 t130, .int .u64 t131] 88 (0, 0))) := ⟨by (with_reducible repeat (first | refine blk_drewN ?_ _ | refine blk_drew ?_ | refine blk_alloc ?_ _)); refine blk_put (cs := #[.int .i64 t130, .int .u64 0]) ?_ 1 _ rfl; (with_reducible repeat (first | refine blk_drewN ?_ _ | refine blk_drew ?_ | refine blk_alloc ?_ _)); refine blk_put (cs := #[.int .i64 0, .int .u64 0]) ?_ 0 _ rfl; (with_reducible repeat (first | refine blk_drewN ?_ _ | refine blk_drew ?_ | refine blk_alloc ?_ _ | refine blk_far ?_ NB133_132.out _)); exact BK133.out⟩; have n2_ : Aside0 (Below w.heap.size w ((((w13.setCell ⟨gb132, 0, none⟩ (.int .i64 t128)).setCell ⟨gb132, 1, none⟩ (.int .u64 t129)).setCell ⟨gb133, 0, none⟩ (.int .i64 t130)).setCell ⟨gb133, 1, none⟩ (.int .u64 t131))) := ⟨zH2 HB.out GE132.out GE133.out⟩; (try clear BK132); (try clear BK133); (try clear HB); generalize ((((w13.setCell ⟨gb132, 0, none⟩ (.int .i64 t128)).setCell ⟨gb132, 1, none⟩ (.int .u64 t129)).setCell ⟨gb133, 0, none⟩ (.int .i64 t130)).setCell ⟨gb133, 1, none⟩ (.int .u64 t131)) = w17 at n0_ n1_ n2_ ⊢; have BK132 := n0_; have BK133 := n1_; have HB := n2_; clear n0_ n1_ n2_; have n0_ := Aside0.mk (blk_drew BK132.out); have n1_ := Aside0.mk (blk_drew BK133.out); have n2_ := Aside0.mk (below_drew1 HB.out); clear BK132; clear BK133; clear HB; have BK132 := n0_; have BK133 := n1_; have HB := n2_; clear n0_ n1_ n2_; refine start_ (n := 13) (S := fun w' => w'.cell? ⟨gb132, 0, none⟩ = some (.int .i64 t128) ∧ w'.cell? ⟨gb132, 1, none⟩ = some (.int .u64 t129) ∧ w'.cell? ⟨gb133, 0, none⟩ = some (.int .i64 t130) ∧ w'.cell? ⟨gb133, 1, none⟩ = some (.int .u64 t131)) (ds := []) z1b86_m0 (by kernel_rfl) rfl rfl ⟨(blk_cell BK132.out 0).trans rfl, (blk_cell BK132.out 1).trans rfl, (blk_cell BK133.out 0).trans rfl, (blk_cell BK133.out 1).trans rfl⟩ (fun hHeld => ?_); refine with_tabW fix_Cmp.tab2 fix_Cmp.bits2 (fun HT_ HW_ => ?_); generalize w17.drew = w18 at BK132 BK133 HB hHeld ⊢; refine zU 0 17 z1b86_m1 HT_ ?_; refine zU 2 19 z1b86_m2 HT_ ?_; refine zU 5 22 z1b86_m3 HT_ ?_; refine zU 7 24 z1b86_m4 HT_ ?_; refine take_ (i := 1) (N := some 18) (v := ?_) (a' := ?_) z1b86_m5 rfl rfl (take_ofW HT_.out HW_.out (by kernel_rfl)) (fun _ _ _ h => h) (Or.inl ⟨by rfl, ?_⟩) hHeld ?_ ?_; rotate_left
 ·
  rintro w' ⟨s0, s1, s2, s3⟩; go_simp
  with_reducible rfl
 rotate_left
 · simp only [Act.put, zq1, zq2, zq3, i64_w, i32_w]; rfl
 refine take_ (i := 3) (N := some 20) (v := ?_) (a' := ?_) z1b86_m6 rfl rfl (take_ofW HT_.out HW_.out (by kernel_rfl)) (fun _ _ _ h => h) (Or.inl ⟨by rfl, ?_⟩) hHeld ?_ ?_; rotate_left
 ·
  rintro w' ⟨s0, s1, s2, s3⟩; go_simp
  with_reducible rfl
 rotate_left
 · simp only [Act.put, zq1, zq2, zq3, i64_w, i32_w]; rfl
 refine take_ (i := 6) (N := some 23) (v := ?_) (a' := ?_) z1b86_m7 rfl rfl (take_ofW HT_.out HW_.out (by kernel_rfl)) (fun _ _ _ h => h) (Or.inl ⟨by rfl, ?_⟩) hHeld ?_ ?_; rotate_left
 ·
  rintro w' ⟨s0, s1, s2, s3⟩; go_simp
  with_reducible rfl
 rotate_left
 · simp only [Act.put, zq1, zq2, zq3, i64_w, i32_w]; rfl
 refine take_ (i := 8) (N := some 25) (v := ?_) (a' := ?_) z1b86_m8 rfl rfl (take_ofW HT_.out HW_.out (by kernel_rfl)) (fun _ _ _ h => h) (Or.inl ⟨by rfl, ?_⟩) hHeld ?_ ?_; rotate_left
 ·
  rintro w' ⟨s0, s1, s2, s3⟩; go_simp
  with_reducible rfl
 rotate_left
 · simp only [Act.put, zq1, zq2, zq3, i64_w, i32_w]; rfl
 refine one_ (i := 4) (N := some 21) z1b86_m9 rfl rfl (one_of HT_.out (by kernel_rfl)) (by decide) (fun K hK => ?_); refine goes_ Tryd.func60 (by kernel_rfl) rfl #[.int .i64 t128, .int .i64 t130] (by rfl) rfl rfl zM ?_
 with_reducible refine (cmp_Compare_int64.calls t128 t130 t134 _ A7.out).mono ?_
 rintro e w' ⟨rfl, ⟨nd, rfl⟩⟩; refine ⟨_, rfl, ?_⟩; refine hK.out _ _ ⟨(blk_cell BK132.out 0).trans rfl, (blk_cell BK132.out 1).trans rfl, (blk_cell BK133.out 0).trans rfl, (blk_cell BK133.out 1).trans rfl⟩ (fun hHeld => ?_); clear hK K; refine norm_ (a' := ?_) ?_ ?_; rotate_left
 ·
  show Act.put _ (some 21) _ = _
  simp only [Act.put, zq1, zq2, zq3, i64_w, i32_w]; rfl
 refine one_ (i := 9) (N := some 26) z1b86_m10 rfl rfl (one_of HT_.out (by kernel_rfl)) (by decide) (fun K hK => ?_); refine goes_ Tryd.func61 (by kernel_rfl) rfl #[.int .u64 t129, .int .u64 t131] (by rfl) rfl rfl zM ?_
 with_reducible refine (cmp_Compare_uint64.calls t129 t131 t135 _ A8.out).mono ?_
 rintro e w' ⟨rfl, ⟨nd, rfl⟩⟩; refine ⟨_, rfl, ?_⟩; refine hK.out _ _ ⟨(blk_cell BK132.out 0).trans rfl, (blk_cell BK132.out 1).trans rfl, (blk_cell BK133.out 0).trans rfl, (blk_cell BK133.out 1).trans rfl⟩ (fun hHeld => ?_); clear hK K; refine norm_ (a' := ?_) ?_ ?_; rotate_left
 ·
  show Act.put _ (some 26) _ = _
  simp only [Act.put, zq1, zq2, zq3, i64_w, i32_w]; rfl
 refine one_ (i := 10) (N := some 27) z1b86_m11 rfl rfl (one_of HT_.out (by kernel_rfl)) (by decide) (fun K hK => ?_); refine Kd.R_lit_step (Kd.int .i64) _ 3 ?hg (N := 27) ?hd (xs := ([t134, t135] : List Int)) (inner := [.int .i64 t134, .int .i64 t135]) (ok := fun _ => True) (okp := fun _ => True) ?hr ?hp (fun _ hk => hk) trivial (Below.refl _ _) (Nat.le_refl _) (by simp) ?_; (case hd => rfl); (case hg => rfl); (case hr => first | (go_simp; done) | (go_simp; rfl)); (case hp => exact (Reps.one (show Kd.M (Kd.int .i64) _ _ _ t134 [.int .i64 t134] from rfl) (Reps.one (show Kd.M (Kd.int .i64) _ _ _ t135 [.int .i64 t135] from rfl) (Reps.none _ _)))); intro v137 w19 ho20 hb hg_ hnew_; clear hg_ hnew_
 (first | rw [← Ny136.out] at ho20 | (simp only [Int.reduceToNat] at ho20; rw [← Ny136.out] at ho20))
 have n0_ := Aside0.mk (Kd.R_lower ho20 (below_size (zH2 HB.out GE132.out GE133.out))); have n1_ := zBB BK132 hb; have n2_ := zBB BK133 hb; have n3_ := Aside0.mk (below_step (zH2 HB.out GE132.out GE133.out) hb); clear BK132; clear BK133; clear HB; have HO138 := n0_; have BK132 := n1_; have BK133 := n2_; have HB := n3_; clear n0_ n1_ n2_ n3_; clear hb ho20; obtain ⟨Ao21, co21, eo21⟩ := Kd.R_slice HO138.out
 (first | subst eo21 | (injection eo21 with f1_ f2_ f3_; have f4_ := f1_.symm; have f5_ := f3_.symm; clear f1_ f2_ f3_; subst f4_; subst f5_))
 refine hK.out _ _ ⟨(blk_cell BK132.out 0).trans rfl, (blk_cell BK132.out 1).trans rfl, (blk_cell BK133.out 0).trans rfl, (blk_cell BK133.out 1).trans rfl⟩ (fun hHeld => ?_); clear hK K; refine norm_ (a' := ?_) ?_ ?_; rotate_left
 ·
  show Act.put _ (some 27) _ = _
  simp only [Act.put, zq1, zq2, zq3, i64_w, i32_w]; rfl
 refine one_ (i := 11) (N := some 28) z1b86_m12 rfl rfl (one_of HT_.out (by kernel_rfl)) (by decide) (fun K hK => ?_); refine goes_ Tryd.func59 (by kernel_rfl) rfl #[.slice Ao21 y136.length co21] (by rfl) rfl rfl zM ?_
 with_reducible refine (cmp_Or_int.calls k _ _ y136 t139 _ ?side1 ?side2 A9.out).mono ?_
 (case side1 => repeat (first | exact (Kd.R_reads' HO138.out).2.2 | (with_reducible refine Kd.C_alloc ?_ _) | (with_reducible refine Kd.C_drewN ?_ _) | (with_reducible refine Kd.C_drew ?_)))
 (case side2 => exact (Kd.R_reads' HO138.out).2.1)
 rintro e w' ⟨rfl, ⟨nd, rfl⟩⟩; refine ⟨_, rfl, ?_⟩; refine hK.out _ _ ⟨(blk_cell BK132.out 0).trans rfl, (blk_cell BK132.out 1).trans rfl, (blk_cell BK133.out 0).trans rfl, (blk_cell BK133.out 1).trans rfl⟩ (fun hHeld => ?_); clear hK K; refine norm_ (a' := ?_) ?_ ?_; rotate_left
 ·
  show Act.put _ (some 28) _ = _
  simp only [Act.put, zq1, zq2, zq3, i64_w, i32_w]; rfl
 refine zU 12 8 z1b86_m13 HT_ ?_; refine done_ (done_of HT_.out (by kernel_rfl)) ?_
 try go_wp2
 go_ret
 exact ⟨zE, zH2 HB.out GE132.out GE133.out⟩

/-! ### lots_Cheaper: function 44 -/
def lots_Cheaper.f (k : Nat) (a0_0 : Int) (a0_1 : Int) (a0_2 : Int) (a0_3 : Int) (a1_0 : Int) (a1_1 : Int) (a1_2 : Int) (a1_3 : Int) : Option (Bool) := if a0_1 = 0 then (some (decide (a0_1 > a1_1))) else (if a1_1 = 0 then (some (decide (a0_1 > a1_1))) else ((fix_Cmp.f k a0_2 a1_1 a1_2 a0_1).bind fun t142 => (some (decide (t142 < 0)))))
theorem lots_Cheaper.mono : ∀ a0 a1 a2 a3 a4 a5 a6 a7 k, LeO (lots_Cheaper.f k a0 a1 a2 a3 a4 a5 a6 a7) (lots_Cheaper.f (k + 1) a0 a1 a2 a3 a4 a5 a6 a7) := by
 intro a0 a1 a2 a3 a4 a5 a6 a7 k; unfold lots_Cheaper.f
 repeat' first
   | (with_reducible exact fix_Cmp.mono _ _ _ _ _)
   | (with_reducible exact LeO.refl _)
   | (with_reducible exact LeO.none _)
   | (with_reducible refine LeO.ite ?_ ?_)
   | (with_reducible refine LeO.bind ?_ (fun _ => ?_))
   | exact fix_Cmp.mono _ _ _ _ _
   | exact LeO.none _
   | refine LeO.ite ?_ ?_
   | refine LeO.bind ?_ (fun _ => ?_)
set_option maxHeartbeats 8000000 in
set_option maxRecDepth 100000 in
theorem lots_Cheaper.calls [Inhabited (Int → Addr)] (k : Nat) (a0_0 : Int) (a0_1 : Int) (a0_2 : Int) (a0_3 : Int) (a1_0 : Int) (a1_1 : Int) (a1_2 : Int) (a1_3 : Int) (r : Bool) (w : World) (h : lots_Cheaper.f k a0_0 a0_1 a0_2 a0_3 a1_0 a1_1 a1_2 a1_3 = some r) :
  Calls Tryd.prog 44 #[.agg #[.int .i64 a0_0, .int .i64 a0_1, .int .i64 a0_2, .int .i64 a0_3], .agg #[.int .i64 a1_0, .int .i64 a1_1, .int .i64 a1_2, .int .i64 a1_3]] w fun e w' => e = .returned (.bool r) ∧ Below w.heap.size w w' := by
 have hu25 := Tryd.underlying25; have HB := Aside0.mk (Below.refl w.heap.size w); have H : (if a0_1 = 0 then (some (decide (a0_1 > a1_1))) else (if a1_1 = 0 then (some (decide (a0_1 > a1_1))) else ((fix_Cmp.f k a0_2 a1_1 a1_2 a0_1).bind fun t142 => (some (decide (t142 < 0)))))) = some r := h; clear h; by_cases c3 : a0_1 = 0
 ·
  rw [if_pos c3] at H; have c3b0 : (a0_1 == 0) = true := beq_iff_eq.mpr c3; have c3b1 : (a0_1 != 0) = false := bne_eq_false_iff_eq.mpr c3; clear c3; obtain rfl := Option.some.inj H
  go_enter Tryd.func44, Tryd.ntmps44
  go_wp2_with (first | ((with_reducible refine gate_dst (N := 2) rfl ?_); refine box_event ?hg (N := 2) ?hd (cs := #[.int .i64 a0_0, .int .i64 a0_1, .int .i64 a0_2, .int .i64 a0_3]) (t := 25) ?hr ?_; (case hd => rfl); (case hg => rfl); (case hr => first | (go_simp; done) | (go_simp; rfl)); intro gb140 hg w4 hbox hb; have n0_ := Aside0.mk (below_step (zH HB.out) hb); have n1_ := Aside0.mk (hbox); have n2_ := Aside0.mk (zg hg (below_size (zH HB.out)) : w.heap.size ≤ gb140); have n3_ := Aside0.mk (zg hg (below_size (zH HB.out)) : w.heap.size ≤ gb140); clear HB; have HB := n0_; have BK140 := n1_; have GW140 := n2_; have GE140 := n3_; clear n0_ n1_ n2_ n3_; clear hb hbox hg) | ((with_reducible refine gate_dst (N := 3) rfl ?_); refine box_event ?hg (N := 3) ?hd (cs := #[.int .i64 a1_0, .int .i64 a1_1, .int .i64 a1_2, .int .i64 a1_3]) (t := 25) ?hr ?_; (case hd => rfl); (case hg => rfl); (case hr => first | (go_simp; done) | (go_simp; rfl)); intro gb141 hg w5 hbox hb; have n0_ := zBB BK140 hb; have n1_ := Aside0.mk (below_step (zH1 HB.out GE140.out) hb); have n2_ := Aside0.mk (hbox); have n3_ := Aside0.mk (zg hg (below_size (zH1 HB.out GE140.out)) : w.heap.size ≤ gb141); have n4_ := Aside0.mk (zg hg (below_size (zH1 HB.out GE140.out)) : w.heap.size ≤ gb141); have n5_ := Aside0.mk (zN hg BK140 : gb140 ≠ gb141); have n6_ := Aside0.mk (zO hg BK140 : gb141 ≠ gb140); clear BK140; clear HB; have BK140 := n0_; have HB := n1_; have BK141 := n2_; have GW141 := n3_; have GE141 := n4_; have NB140_141 := n5_; have NB141_140 := n6_; clear n0_ n1_ n2_ n3_ n4_ n5_ n6_; clear hb hbox hg; have hnb6 := NB140_141.out; have hnc6 := NB141_140.out; have hcz7_0 : w5.cell? ⟨gb140, 0, none⟩ = some (.int .i64 a0_0) := (blk_cell BK140.out 0).trans rfl; have hcz7_1 : w5.cell? ⟨gb140, 1, none⟩ = some (.int .i64 a0_1) := (blk_cell BK140.out 1).trans rfl; have hcz7_2 : w5.cell? ⟨gb140, 2, none⟩ = some (.int .i64 a0_2) := (blk_cell BK140.out 2).trans rfl; have hcz7_3 : w5.cell? ⟨gb140, 3, none⟩ = some (.int .i64 a0_3) := (blk_cell BK140.out 3).trans rfl; have hfz7_0 := blk_frozen BK140.out 0; have hfz7_1 := blk_frozen BK140.out 1; have hfz7_2 := blk_frozen BK140.out 2; have hfz7_3 := blk_frozen BK140.out 3; have hcz8_0 : w5.cell? ⟨gb141, 0, none⟩ = some (.int .i64 a1_0) := (blk_cell BK141.out 0).trans rfl; have hcz8_1 : w5.cell? ⟨gb141, 1, none⟩ = some (.int .i64 a1_1) := (blk_cell BK141.out 1).trans rfl; have hcz8_2 : w5.cell? ⟨gb141, 2, none⟩ = some (.int .i64 a1_2) := (blk_cell BK141.out 2).trans rfl; have hcz8_3 : w5.cell? ⟨gb141, 3, none⟩ = some (.int .i64 a1_3) := (blk_cell BK141.out 3).trans rfl; have hfz8_0 := blk_frozen BK141.out 0; have hfz8_1 := blk_frozen BK141.out 1; have hfz8_2 := blk_frozen BK141.out 2; have hfz8_3 := blk_frozen BK141.out 3))
  go_ret
  exact ⟨zE, zH2 HB.out GE140.out GE141.out⟩
 ·
  rw [if_neg c3] at H; have c3b0 : (a0_1 == 0) = false := beq_eq_false_iff_ne.mpr c3; have c3b1 : (a0_1 != 0) = true := bne_iff_ne.mpr c3; by_cases c9 : a1_1 = 0
  ·
   rw [if_pos c9] at H; have c9b0 : (a1_1 == 0) = true := beq_iff_eq.mpr c9; have c9b1 : (a1_1 != 0) = false := bne_eq_false_iff_eq.mpr c9; clear c9; obtain rfl := Option.some.inj H
   go_enter Tryd.func44, Tryd.ntmps44
   go_wp2_with (first | ((with_reducible refine gate_dst (N := 2) rfl ?_); refine box_event ?hg (N := 2) ?hd (cs := #[.int .i64 a0_0, .int .i64 a0_1, .int .i64 a0_2, .int .i64 a0_3]) (t := 25) ?hr ?_; (case hd => rfl); (case hg => rfl); (case hr => first | (go_simp; done) | (go_simp; rfl)); intro gb140 hg w10 hbox hb; have n0_ := Aside0.mk (below_step (zH HB.out) hb); have n1_ := Aside0.mk (hbox); have n2_ := Aside0.mk (zg hg (below_size (zH HB.out)) : w.heap.size ≤ gb140); have n3_ := Aside0.mk (zg hg (below_size (zH HB.out)) : w.heap.size ≤ gb140); clear HB; have HB := n0_; have BK140 := n1_; have GW140 := n2_; have GE140 := n3_; clear n0_ n1_ n2_ n3_; clear hb hbox hg) | ((with_reducible refine gate_dst (N := 3) rfl ?_); refine box_event ?hg (N := 3) ?hd (cs := #[.int .i64 a1_0, .int .i64 a1_1, .int .i64 a1_2, .int .i64 a1_3]) (t := 25) ?hr ?_; (case hd => rfl); (case hg => rfl); (case hr => first | (go_simp; done) | (go_simp; rfl)); intro gb141 hg w11 hbox hb; have n0_ := zBB BK140 hb; have n1_ := Aside0.mk (below_step (zH1 HB.out GE140.out) hb); have n2_ := Aside0.mk (hbox); have n3_ := Aside0.mk (zg hg (below_size (zH1 HB.out GE140.out)) : w.heap.size ≤ gb141); have n4_ := Aside0.mk (zg hg (below_size (zH1 HB.out GE140.out)) : w.heap.size ≤ gb141); have n5_ := Aside0.mk (zN hg BK140 : gb140 ≠ gb141); have n6_ := Aside0.mk (zO hg BK140 : gb141 ≠ gb140); clear BK140; clear HB; have BK140 := n0_; have HB := n1_; have BK141 := n2_; have GW141 := n3_; have GE141 := n4_; have NB140_141 := n5_; have NB141_140 := n6_; clear n0_ n1_ n2_ n3_ n4_ n5_ n6_; clear hb hbox hg; have hnb12 := NB140_141.out; have hnc12 := NB141_140.out; have hcz13_0 : w11.cell? ⟨gb140, 0, none⟩ = some (.int .i64 a0_0) := (blk_cell BK140.out 0).trans rfl; have hcz13_1 : w11.cell? ⟨gb140, 1, none⟩ = some (.int .i64 a0_1) := (blk_cell BK140.out 1).trans rfl; have hcz13_2 : w11.cell? ⟨gb140, 2, none⟩ = some (.int .i64 a0_2) := (blk_cell BK140.out 2).trans rfl; have hcz13_3 : w11.cell? ⟨gb140, 3, none⟩ = some (.int .i64 a0_3) := (blk_cell BK140.out 3).trans rfl; have hfz13_0 := blk_frozen BK140.out 0; have hfz13_1 := blk_frozen BK140.out 1; have hfz13_2 := blk_frozen BK140.out 2; have hfz13_3 := blk_frozen BK140.out 3; have hcz14_0 : w11.cell? ⟨gb141, 0, none⟩ = some (.int .i64 a1_0) := (blk_cell BK141.out 0).trans rfl; have hcz14_1 : w11.cell? ⟨gb141, 1, none⟩ = some (.int .i64 a1_1) := (blk_cell BK141.out 1).trans rfl; have hcz14_2 : w11.cell? ⟨gb141, 2, none⟩ = some (.int .i64 a1_2) := (blk_cell BK141.out 2).trans rfl; have hcz14_3 : w11.cell? ⟨gb141, 3, none⟩ = some (.int .i64 a1_3) := (blk_cell BK141.out 3).trans rfl; have hfz14_0 := blk_frozen BK141.out 0; have hfz14_1 := blk_frozen BK141.out 1; have hfz14_2 := blk_frozen BK141.out 2; have hfz14_3 := blk_frozen BK141.out 3))
   go_ret
   exact ⟨zE, zH2 HB.out GE140.out GE141.out⟩
  ·
   rw [if_neg c9] at H; have c9b0 : (a1_1 == 0) = false := beq_eq_false_iff_ne.mpr c9; have c9b1 : (a1_1 != 0) = true := bne_iff_ne.mpr c9; replace H := Option.bind_eq_some_iff.mp H; obtain ⟨t142, A150, H⟩ := H; replace H : (some (decide (t142 < 0))) = some r := H; have A15 := Aside0.mk A150; clear A150; obtain rfl := Option.some.inj H
   go_enter Tryd.func44, Tryd.ntmps44
   go_wp2_with (first | ((with_reducible refine gate_dst (N := 2) rfl ?_); refine box_event ?hg (N := 2) ?hd (cs := #[.int .i64 a0_0, .int .i64 a0_1, .int .i64 a0_2, .int .i64 a0_3]) (t := 25) ?hr ?_; (case hd => rfl); (case hg => rfl); (case hr => first | (go_simp; done) | (go_simp; rfl)); intro gb140 hg w16 hbox hb; have n0_ := Aside0.mk (below_step (zH HB.out) hb); have n1_ := Aside0.mk (hbox); have n2_ := Aside0.mk (zg hg (below_size (zH HB.out)) : w.heap.size ≤ gb140); have n3_ := Aside0.mk (zg hg (below_size (zH HB.out)) : w.heap.size ≤ gb140); clear HB; have HB := n0_; have BK140 := n1_; have GW140 := n2_; have GE140 := n3_; clear n0_ n1_ n2_ n3_; clear hb hbox hg) | ((with_reducible refine gate_dst (N := 3) rfl ?_); refine box_event ?hg (N := 3) ?hd (cs := #[.int .i64 a1_0, .int .i64 a1_1, .int .i64 a1_2, .int .i64 a1_3]) (t := 25) ?hr ?_; (case hd => rfl); (case hg => rfl); (case hr => first | (go_simp; done) | (go_simp; rfl)); intro gb141 hg w17 hbox hb; have n0_ := zBB BK140 hb; have n1_ := Aside0.mk (below_step (zH1 HB.out GE140.out) hb); have n2_ := Aside0.mk (hbox); have n3_ := Aside0.mk (zg hg (below_size (zH1 HB.out GE140.out)) : w.heap.size ≤ gb141); have n4_ := Aside0.mk (zg hg (below_size (zH1 HB.out GE140.out)) : w.heap.size ≤ gb141); have n5_ := Aside0.mk (zN hg BK140 : gb140 ≠ gb141); have n6_ := Aside0.mk (zO hg BK140 : gb141 ≠ gb140); clear BK140; clear HB; have BK140 := n0_; have HB := n1_; have BK141 := n2_; have GW141 := n3_; have GE141 := n4_; have NB140_141 := n5_; have NB141_140 := n6_; clear n0_ n1_ n2_ n3_ n4_ n5_ n6_; clear hb hbox hg; have hnb18 := NB140_141.out; have hnc18 := NB141_140.out; have hcz19_0 : w17.cell? ⟨gb140, 0, none⟩ = some (.int .i64 a0_0) := (blk_cell BK140.out 0).trans rfl; have hcz19_1 : w17.cell? ⟨gb140, 1, none⟩ = some (.int .i64 a0_1) := (blk_cell BK140.out 1).trans rfl; have hcz19_2 : w17.cell? ⟨gb140, 2, none⟩ = some (.int .i64 a0_2) := (blk_cell BK140.out 2).trans rfl; have hcz19_3 : w17.cell? ⟨gb140, 3, none⟩ = some (.int .i64 a0_3) := (blk_cell BK140.out 3).trans rfl; have hfz19_0 := blk_frozen BK140.out 0; have hfz19_1 := blk_frozen BK140.out 1; have hfz19_2 := blk_frozen BK140.out 2; have hfz19_3 := blk_frozen BK140.out 3; have hcz20_0 : w17.cell? ⟨gb141, 0, none⟩ = some (.int .i64 a1_0) := (blk_cell BK141.out 0).trans rfl; have hcz20_1 : w17.cell? ⟨gb141, 1, none⟩ = some (.int .i64 a1_1) := (blk_cell BK141.out 1).trans rfl; have hcz20_2 : w17.cell? ⟨gb141, 2, none⟩ = some (.int .i64 a1_2) := (blk_cell BK141.out 2).trans rfl; have hcz20_3 : w17.cell? ⟨gb141, 3, none⟩ = some (.int .i64 a1_3) := (blk_cell BK141.out 3).trans rfl; have hfz20_0 := blk_frozen BK141.out 0; have hfz20_1 := blk_frozen BK141.out 1; have hfz20_2 := blk_frozen BK141.out 2; have hfz20_3 := blk_frozen BK141.out 3) | ((with_reducible refine gate_callee (f := 51) rfl ?_); refine goesL_ (some 26) rfl rfl Tryd.func51 (by kernel_rfl) rfl #[.int .i64 a0_2, .int .i64 a1_1, .int .i64 a1_2, .int .i64 a0_1] rfl zM ?_; (with_reducible refine (fix_Cmp.calls k a0_2 a1_1 a1_2 a0_1 t142 _ A15.out).mono ?_); rintro e w21 ⟨rfl, hb⟩; refine ⟨_, rfl, ?_⟩; have n0_ := zBB BK140 hb; have n1_ := zBB BK141 hb; have n2_ := Aside0.mk (below_step (zH2 HB.out GE140.out GE141.out) hb); clear BK140; clear BK141; clear HB; have BK140 := n0_; have BK141 := n1_; have HB := n2_; clear n0_ n1_ n2_; (try clear hb); (try clear hb2); (try clear hk); (try clear hi)))
   go_ret
   exact ⟨zE, zH2 HB.out GE140.out GE141.out⟩

end Go.Proofs.YtlalofmilhakjaaDoor.ELotsSay
