/- The functions that the law comes to, as plain functions, and for each a proof that the Go code comes to just these answers. Written by a program of this claim. Conditions: each theorem bears its own. -/
import Derived.Test.YtcmdhgcaldpioaaDoorEFundCallsx0
import Derived.Test.YtcmdhgcaldpioaaDoorEFundCallsx5
import Derived.Test.YtcmdhgcaldpioaaDoorEFundCallsx6
namespace Go.Proofs.YtcmdhgcaldpioaaDoor.EFundCalls
open Go.RowKit Go.Proofs.YtcmdhgcaldpioaaDoorW.PrintWords Go.Proofs.YtcmdhgcaldpioaaDoorW.PrintLast Go.Proofs.YtcmdhgcaldpioaaDoorW.PrintMore Go.Proofs.YtcmdhgcaldpioaaDoorW.PrintOpen
attribute [local go_sem] max2_int min2_int max_two min_two max_three min_three max_four min_four   -- for this text's walks alone
set_option linter.unusedVariables false
set_option linter.unusedSimpArgs false

/-! ### fund_Calls: function 10 -/
theorem enters23 : ∀ (args : Array Value) (W : World), (callFunc 23 args).run Tryd.prog W = .ok (.enter 23 args) W := by
  intro args W
  have hf := Tryd.func23
  have h1 : (Tryd.f23).name ≠ "runtime.NumGoroutine" := by decide
  have h2 : (Tryd.f23).body.isSome = true := by rfl
  obtain ⟨c, hc⟩ := Option.isSome_iff_exists.1 h2
  simp [callFunc, hf, h1, hc, mark]
/-- A list's number at a place; none: nothing. -/
def atF (l : List Int) (i : Nat) : Int := if i < l.length then rd l (i : Int) else 0
set_option maxHeartbeats 4000000 in
set_option maxRecDepth 100000 in
theorem at_calls [Inhabited (Int → Addr)] (A0 : Option Addr) (c0 : Nat) (l : List Int) (i : Nat) (w : World) (hr : Kd.C (Kd.int .i64) w A0 l.length l) :
    Calls Tryd.prog 23 #[.slice A0 l.length c0, .int .i64 i] w fun e w' => e = .returned (.int .i64 (atF l i)) ∧ Below w.heap.size w w' := by
  unfold atF
  by_cases h : i < l.length
  · rw [if_pos h]
    have cb1 : decide ((i : Int) < (l.length : Int)) = true := decide_eq_true (by omega)
    have cb2 : ((i : Int) < (l.length : Int)) = True := eq_true (by omega)
    have cb3 : (i < l.length) = True := eq_true h
    have cb4 : decide (i < l.length) = true := decide_eq_true h
    obtain ⟨ad, eA, hx⟩ := Kd.at_int hr (i : Int) (by omega) (by omega)
    subst eA
    rw [Int.toNat_natCast] at hx
    clear hr h
    go_enter Tryd.func23, Tryd.ntmps23
    go_wp2
    go_ret
    exact ⟨rfl, Below.refl _ _⟩
  · rw [if_neg h]
    have cb1 : decide ((i : Int) < (l.length : Int)) = false := decide_eq_false (by omega)
    have cb2 : ((i : Int) < (l.length : Int)) = False := eq_false (by omega)
    have cb3 : (i < l.length) = False := eq_false h
    have cb4 : decide (i < l.length) = false := decide_eq_false h
    clear hr h
    go_enter Tryd.func23, Tryd.ntmps23
    go_wp2
    go_ret
    exact ⟨rfl, Below.refl _ _⟩
def calL (o n : List Int) : Nat → Nat → List Int → List Int
  | 0, _, x => x
  | d + 1, i, x => calL o n d (i + 1) (if atF n i > atF o i then x.set i (wrap64 (atF n i - atF o i)) else x)
/-- What new shares have above elder ones. -/
def fund_Calls.f (o n : List Int) : Option (List Int) := if o.length ≤ 1000 ∧ n.length ≤ 1000 then some (calL o n (if o.length < n.length then n.length else o.length) 0 (List.replicate (if o.length < n.length then n.length else o.length) 0)) else none
set_option maxHeartbeats 8000000 in
set_option maxRecDepth 1000000 in
theorem fund_Calls.calls [Inhabited (Int → Addr)] (A0 : Option Addr) (c0 : Nat) (o : List Int) (A1 : Option Addr) (c1 : Nat) (n : List Int) (r : List Int) (w : World) (hr0 : Kd.C (Kd.int .i64) w A0 o.length o) (hc0 : o.length ≤ c0) (hr1 : Kd.C (Kd.int .i64) w A1 n.length n) (hc1 : n.length ≤ c1) (h : fund_Calls.f o n = some r) :
    Calls Tryd.prog 10 #[.slice A0 o.length c0, .slice A1 n.length c1] w fun e w' => ∃ v0_ : Value, e = .returned (v0_) ∧ Kd.R (Kd.int .i64) 2 w' w.heap.size (fun _ => True) v0_ r ∧ Below w.heap.size w w' := by
  unfold fund_Calls.f at h
  by_cases hl : o.length ≤ 1000 ∧ n.length ≤ 1000
  rotate_left
  · rw [if_neg hl] at h; exact absurd h (by simp)
  rw [if_pos hl] at h
  obtain ⟨N, hN⟩ : ∃ N, N = if o.length < n.length then n.length else o.length := ⟨_, rfl⟩
  rw [← hN] at h
  have hN2 : N ≤ 1000 := by rw [hN]; split <;> omega
  have hmx : (if (o.length : Int) < (n.length : Int) then (n.length : Int) else (o.length : Int)) = (N : Int) := by rw [hN]; by_cases hx : o.length < n.length; (rw [if_pos hx, if_pos (by omega)]); (rw [if_neg hx, if_neg (by omega)])
  have hmx2 : (if o.length < n.length then (n.length : Int) else (o.length : Int)) = (N : Int) := by rw [hN]; by_cases hx : o.length < n.length; (rw [if_pos hx, if_pos hx]); (rw [if_neg hx, if_neg hx])
  have HR := Aside0.mk (Option.some.inj h)
  have HM0 := Aside0.mk hr0
  have HM1 := Aside0.mk hr1
  have HNN := Aside0.mk hN2
  have HB := Aside0.mk (Below.refl w.heap.size w)
  clear h hl hN hr0 hc0 hr1 hc1
  have eg := enters23
  go_enter Tryd.func10, Tryd.ntmps10
  by_cases hx : o.length < n.length
  · have cx1 : ((o.length : Int) < (n.length : Int)) = True := eq_true (by omega)
    have cx2 : (o.length < n.length) = True := eq_true hx
    have cx3 : decide ((o.length : Int) < (n.length : Int)) = true := decide_eq_true (by omega)
    have HCX := Aside0.mk (show n.length = N by rw [if_pos hx] at hmx2; omega)
    clear hmx hmx2 hx
    go_wp2_with ((with_reducible refine gate_dst (N := 15) rfl ?_); refine Kd.R_make (Kd.int .i64) _ 2 rfl (N := 15) rfl 29 _ _ rfl (n.length : Int) ?mx ?my Tryd.underlying29 (.int .i64 0) 8 (by kernel_rfl) rfl (by decide) (by omega) 0 (ok := fun _ => True) (okp := fun _ => True) rfl (fun _ hk => hk) trivial (by omega) (by have := HNN.out; have := HCX.out; omega) (Below.refl _ _) (Nat.le_refl _) ?_; (case mx => first | rfl | (go_simp; done) | (go_simp; rfl)); (case my => first | rfl | (go_simp; done) | (go_simp; rfl)); intro vo w_ ho12 hb hg_ hnew_; clear hg_ hnew_; rw [Int.toNat_natCast, HCX.out] at ho12; have HO := Aside0.mk (Kd.R_lower ho12 (below_size HB.out)); have n_ := Aside0.mk (below_step HB.out hb); clear HB; have HB := n_; clear n_; obtain ⟨Ao, co, rfl⟩ := Kd.R_slice ho12; rw [List.length_replicate] at HO; clear hb ho12; (try rw [List.length_replicate]))
    clear cx1 cx2 cx3
    go_loopg [18] N (fun gq v18 wr => ∃ (i : Nat) (x : List Int), v18 = .int .i64 i ∧ Aside0 (i ≤ N) ∧ Aside0 (N ≤ gq + i) ∧ Aside0 (x.length = N) ∧ Aside0 (calL o n (N - i) i x = r) ∧ Aside0 (Below w.heap.size w wr) ∧ Aside0 (Kd.R (Kd.int .i64) 2 wr w.heap.size (fun _ => True) (.slice Ao N co) x))
    case atStart => exact ⟨0, List.replicate N 0, rfl, ⟨by omega⟩, ⟨by omega⟩, ⟨List.length_replicate⟩, ⟨by rw [Nat.sub_zero]; exact HR.out⟩, HB, HO⟩
    case round =>
      clear HB HO HR HCX
      obtain ⟨i, x, rfl, HI, HKI, HXL, HRUN, HB, HO⟩ := hrel
      by_cases hlt : i < N
      · have cb1 : decide ((i : Int) < (N : Int)) = true := decide_eq_true (by omega)
        have cb2 : ((i : Int) < (N : Int)) = True := eq_true (by omega)
        have cb3 : (i < N) = True := eq_true hlt
        have cb4 : decide (i < N) = true := decide_eq_true hlt
        have HLI := Aside0.mk hlt
        have HW : Aside0 (wrap64 ((i : Int) + 1) = ((i + 1 : Nat) : Int)) := ⟨by have := HNN.out; unfold wrap64; omega⟩
        obtain ⟨d, hd⟩ : ∃ d, N - i = d + 1 := ⟨N - i - 1, by omega⟩
        have hrun := HRUN.out
        rw [hd] at hrun
        simp only [calL] at hrun
        have HD := Aside0.mk hd
        obtain ⟨a, ha⟩ : ∃ a, a = atF n i := ⟨_, rfl⟩
        obtain ⟨b, hb_⟩ : ∃ b, b = atF o i := ⟨_, rfl⟩
        rw [← ha, ← hb_] at hrun
        have HA1 := Aside0.mk ha
        have HA2 := Aside0.mk hb_
        obtain ⟨g, cap, hv, hgb, hgl, cells_, hcl⟩ := Kd.R_form HO.out (by have := HXL.out; omega)
        injection hv with hv1 hv2 hv3
        subst hv1
        subst hv3
        have HGB := Aside0.mk hgb
        clear hd hlt ha hb_ hgb hgl hcl hv2 HRUN
        by_cases hgt : a > b
        · rw [if_pos hgt] at hrun
          have HRUNB := Aside0.mk hrun
          have cb5 : decide (a > b) = true := decide_eq_true hgt
          have cb6 : (b < a) = True := eq_true hgt
          have cb7 : decide (b < a) = true := decide_eq_true hgt
          clear hrun hgt
          go_wp2_with (first
            | (go_at_fn 23; have hN := at_calls A1 c1 n i _ (Kd.C_below HM1.out HB.out); (with_reducible refine hN.mono ?_); clear hN; rintro e w_ ⟨rfl, hb⟩; rw [← HA1.out]; have n6_ := Aside0.mk (Kd.R_below HO.out hb); clear HO; have HO := n6_; clear n6_; have n_ := Aside0.mk (below_step HB.out hb); clear HB; have HB := n_; clear n_; clear hb)
            | (go_at_fn 23; have hN := at_calls A0 c0 o i _ (Kd.C_below HM0.out HB.out); (with_reducible refine hN.mono ?_); clear hN; rintro e w_ ⟨rfl, hb⟩; rw [← HA2.out]; have n6_ := Aside0.mk (Kd.R_below HO.out hb); clear HO; have HO := n6_; clear n6_; have n_ := Aside0.mk (below_step HB.out hb); clear HB; have HB := n_; clear n_; clear hb; have hxl_ := HXL.out; have h_ := HO.out; rw [← hxl_] at h_; have hcz := (Kd.R_cell (0 : Int) h_ (i : Int) (by omega) (by have := HLI.out; omega)).1; have hfz := (Kd.R_cell (0 : Int) h_ (i : Int) (by omega) (by have := HLI.out; omega)).2; rw [Int.toNat_natCast] at hcz hfz; clear h_ hxl_))
          have hput := HO.out
          rw [← HXL.out] at hput
          have hput := (Kd.R_put hput (i : Int) (wrap64 (a - b))).1
          rw [Int.toNat_natCast, HXL.out] at hput
          have HPUT := Aside0.mk hput
          have HB2 := Aside0.mk (HB.out.setCell (p := ⟨g, i, none⟩) HGB.out (.int .i64 (wrap64 (a - b))))
          clear hput
          go_roundg (N - (i + 1))
          case measure => have := HKI.out; have := HLI.out; omega
          case rel => exact ⟨i + 1, _, by rw [HW.out], ⟨by have := HLI.out; omega⟩, ⟨by have := HLI.out; omega⟩, ⟨by rw [List.length_set]; exact HXL.out⟩, ⟨by rw [show N - (i + 1) = d by have := HD.out; omega]; exact HRUNB.out⟩, HB2, HPUT⟩
        · rw [if_neg hgt] at hrun
          have HRUNB := Aside0.mk hrun
          have cb5 : decide (a > b) = false := decide_eq_false hgt
          have cb6 : (b < a) = False := eq_false hgt
          have cb7 : decide (b < a) = false := decide_eq_false hgt
          clear hrun hgt
          go_wp2_with (first
            | (go_at_fn 23; have hN := at_calls A1 c1 n i _ (Kd.C_below HM1.out HB.out); (with_reducible refine hN.mono ?_); clear hN; rintro e w_ ⟨rfl, hb⟩; rw [← HA1.out]; have n6_ := Aside0.mk (Kd.R_below HO.out hb); clear HO; have HO := n6_; clear n6_; have n_ := Aside0.mk (below_step HB.out hb); clear HB; have HB := n_; clear n_; clear hb)
            | (go_at_fn 23; have hN := at_calls A0 c0 o i _ (Kd.C_below HM0.out HB.out); (with_reducible refine hN.mono ?_); clear hN; rintro e w_ ⟨rfl, hb⟩; rw [← HA2.out]; have n6_ := Aside0.mk (Kd.R_below HO.out hb); clear HO; have HO := n6_; clear n6_; have n_ := Aside0.mk (below_step HB.out hb); clear HB; have HB := n_; clear n_; clear hb))
          go_roundg (N - (i + 1))
          case measure => have := HKI.out; have := HLI.out; omega
          case rel => exact ⟨i + 1, _, by rw [HW.out], ⟨by have := HLI.out; omega⟩, ⟨by have := HLI.out; omega⟩, HXL, ⟨by rw [show N - (i + 1) = d by have := HD.out; omega]; exact HRUNB.out⟩, HB, HO⟩
      · obtain rfl : N = i := by have := HI.out; omega
        have cb1 : decide ((N : Int) < (N : Int)) = false := decide_eq_false (by omega)
        have cb2 : ((N : Int) < (N : Int)) = False := eq_false (by omega)
        have cb3 : decide (N < N) = false := decide_eq_false (by omega)
        have hrun := HRUN.out
        rw [Nat.sub_self] at hrun
        have hrun2 : x = r := hrun
        subst hrun2
        clear hrun HRUN hlt
        go_wp2
        go_ret
        exact ⟨_, rfl, HO.out, HB.out⟩
  · have cx1 : ((o.length : Int) < (n.length : Int)) = False := eq_false (by omega)
    have cx2 : (o.length < n.length) = False := eq_false hx
    have cx3 : decide ((o.length : Int) < (n.length : Int)) = false := decide_eq_false (by omega)
    have HCX := Aside0.mk (show o.length = N by rw [if_neg hx] at hmx2; omega)
    clear hmx hmx2 hx
    go_wp2_with ((with_reducible refine gate_dst (N := 15) rfl ?_); refine Kd.R_make (Kd.int .i64) _ 2 rfl (N := 15) rfl 29 _ _ rfl (o.length : Int) ?mx ?my Tryd.underlying29 (.int .i64 0) 8 (by kernel_rfl) rfl (by decide) (by omega) 0 (ok := fun _ => True) (okp := fun _ => True) rfl (fun _ hk => hk) trivial (by omega) (by have := HNN.out; have := HCX.out; omega) (Below.refl _ _) (Nat.le_refl _) ?_; (case mx => first | rfl | (go_simp; done) | (go_simp; rfl)); (case my => first | rfl | (go_simp; done) | (go_simp; rfl)); intro vo w_ ho12 hb hg_ hnew_; clear hg_ hnew_; rw [Int.toNat_natCast, HCX.out] at ho12; have HO := Aside0.mk (Kd.R_lower ho12 (below_size HB.out)); have n_ := Aside0.mk (below_step HB.out hb); clear HB; have HB := n_; clear n_; obtain ⟨Ao, co, rfl⟩ := Kd.R_slice ho12; rw [List.length_replicate] at HO; clear hb ho12; (try rw [List.length_replicate]))
    clear cx1 cx2 cx3
    go_loopg [18] N (fun gq v18 wr => ∃ (i : Nat) (x : List Int), v18 = .int .i64 i ∧ Aside0 (i ≤ N) ∧ Aside0 (N ≤ gq + i) ∧ Aside0 (x.length = N) ∧ Aside0 (calL o n (N - i) i x = r) ∧ Aside0 (Below w.heap.size w wr) ∧ Aside0 (Kd.R (Kd.int .i64) 2 wr w.heap.size (fun _ => True) (.slice Ao N co) x))
    case atStart => exact ⟨0, List.replicate N 0, rfl, ⟨by omega⟩, ⟨by omega⟩, ⟨List.length_replicate⟩, ⟨by rw [Nat.sub_zero]; exact HR.out⟩, HB, HO⟩
    case round =>
      clear HB HO HR HCX
      obtain ⟨i, x, rfl, HI, HKI, HXL, HRUN, HB, HO⟩ := hrel
      by_cases hlt : i < N
      · have cb1 : decide ((i : Int) < (N : Int)) = true := decide_eq_true (by omega)
        have cb2 : ((i : Int) < (N : Int)) = True := eq_true (by omega)
        have cb3 : (i < N) = True := eq_true hlt
        have cb4 : decide (i < N) = true := decide_eq_true hlt
        have HLI := Aside0.mk hlt
        have HW : Aside0 (wrap64 ((i : Int) + 1) = ((i + 1 : Nat) : Int)) := ⟨by have := HNN.out; unfold wrap64; omega⟩
        obtain ⟨d, hd⟩ : ∃ d, N - i = d + 1 := ⟨N - i - 1, by omega⟩
        have hrun := HRUN.out
        rw [hd] at hrun
        simp only [calL] at hrun
        have HD := Aside0.mk hd
        obtain ⟨a, ha⟩ : ∃ a, a = atF n i := ⟨_, rfl⟩
        obtain ⟨b, hb_⟩ : ∃ b, b = atF o i := ⟨_, rfl⟩
        rw [← ha, ← hb_] at hrun
        have HA1 := Aside0.mk ha
        have HA2 := Aside0.mk hb_
        obtain ⟨g, cap, hv, hgb, hgl, cells_, hcl⟩ := Kd.R_form HO.out (by have := HXL.out; omega)
        injection hv with hv1 hv2 hv3
        subst hv1
        subst hv3
        have HGB := Aside0.mk hgb
        clear hd hlt ha hb_ hgb hgl hcl hv2 HRUN
        by_cases hgt : a > b
        · rw [if_pos hgt] at hrun
          have HRUNB := Aside0.mk hrun
          have cb5 : decide (a > b) = true := decide_eq_true hgt
          have cb6 : (b < a) = True := eq_true hgt
          have cb7 : decide (b < a) = true := decide_eq_true hgt
          clear hrun hgt
          go_wp2_with (first
            | (go_at_fn 23; have hN := at_calls A1 c1 n i _ (Kd.C_below HM1.out HB.out); (with_reducible refine hN.mono ?_); clear hN; rintro e w_ ⟨rfl, hb⟩; rw [← HA1.out]; have n6_ := Aside0.mk (Kd.R_below HO.out hb); clear HO; have HO := n6_; clear n6_; have n_ := Aside0.mk (below_step HB.out hb); clear HB; have HB := n_; clear n_; clear hb)
            | (go_at_fn 23; have hN := at_calls A0 c0 o i _ (Kd.C_below HM0.out HB.out); (with_reducible refine hN.mono ?_); clear hN; rintro e w_ ⟨rfl, hb⟩; rw [← HA2.out]; have n6_ := Aside0.mk (Kd.R_below HO.out hb); clear HO; have HO := n6_; clear n6_; have n_ := Aside0.mk (below_step HB.out hb); clear HB; have HB := n_; clear n_; clear hb; have hxl_ := HXL.out; have h_ := HO.out; rw [← hxl_] at h_; have hcz := (Kd.R_cell (0 : Int) h_ (i : Int) (by omega) (by have := HLI.out; omega)).1; have hfz := (Kd.R_cell (0 : Int) h_ (i : Int) (by omega) (by have := HLI.out; omega)).2; rw [Int.toNat_natCast] at hcz hfz; clear h_ hxl_))
          have hput := HO.out
          rw [← HXL.out] at hput
          have hput := (Kd.R_put hput (i : Int) (wrap64 (a - b))).1
          rw [Int.toNat_natCast, HXL.out] at hput
          have HPUT := Aside0.mk hput
          have HB2 := Aside0.mk (HB.out.setCell (p := ⟨g, i, none⟩) HGB.out (.int .i64 (wrap64 (a - b))))
          clear hput
          go_roundg (N - (i + 1))
          case measure => have := HKI.out; have := HLI.out; omega
          case rel => exact ⟨i + 1, _, by rw [HW.out], ⟨by have := HLI.out; omega⟩, ⟨by have := HLI.out; omega⟩, ⟨by rw [List.length_set]; exact HXL.out⟩, ⟨by rw [show N - (i + 1) = d by have := HD.out; omega]; exact HRUNB.out⟩, HB2, HPUT⟩
        · rw [if_neg hgt] at hrun
          have HRUNB := Aside0.mk hrun
          have cb5 : decide (a > b) = false := decide_eq_false hgt
          have cb6 : (b < a) = False := eq_false hgt
          have cb7 : decide (b < a) = false := decide_eq_false hgt
          clear hrun hgt
          go_wp2_with (first
            | (go_at_fn 23; have hN := at_calls A1 c1 n i _ (Kd.C_below HM1.out HB.out); (with_reducible refine hN.mono ?_); clear hN; rintro e w_ ⟨rfl, hb⟩; rw [← HA1.out]; have n6_ := Aside0.mk (Kd.R_below HO.out hb); clear HO; have HO := n6_; clear n6_; have n_ := Aside0.mk (below_step HB.out hb); clear HB; have HB := n_; clear n_; clear hb)
            | (go_at_fn 23; have hN := at_calls A0 c0 o i _ (Kd.C_below HM0.out HB.out); (with_reducible refine hN.mono ?_); clear hN; rintro e w_ ⟨rfl, hb⟩; rw [← HA2.out]; have n6_ := Aside0.mk (Kd.R_below HO.out hb); clear HO; have HO := n6_; clear n6_; have n_ := Aside0.mk (below_step HB.out hb); clear HB; have HB := n_; clear n_; clear hb))
          go_roundg (N - (i + 1))
          case measure => have := HKI.out; have := HLI.out; omega
          case rel => exact ⟨i + 1, _, by rw [HW.out], ⟨by have := HLI.out; omega⟩, ⟨by have := HLI.out; omega⟩, HXL, ⟨by rw [show N - (i + 1) = d by have := HD.out; omega]; exact HRUNB.out⟩, HB, HO⟩
      · obtain rfl : N = i := by have := HI.out; omega
        have cb1 : decide ((N : Int) < (N : Int)) = false := decide_eq_false (by omega)
        have cb2 : ((N : Int) < (N : Int)) = False := eq_false (by omega)
        have cb3 : decide (N < N) = false := decide_eq_false (by omega)
        have hrun := HRUN.out
        rw [Nat.sub_self] at hrun
        have hrun2 : x = r := hrun
        subst hrun2
        clear hrun HRUN hlt
        go_wp2
        go_ret
        exact ⟨_, rfl, HO.out, HB.out⟩

/-! ### pledgelaw24_FundCalls: function 4 -/
/-- What is called makes the greater of both. -/
def lawC (c l m : List Int) : Prop := ∀ i : Nat, i < c.length → 0 ≤ rd c (i : Int) ∧ wrap64 (atF l i + rd c (i : Int)) = mx (atF l i) (atF m i)
instance (c l m : List Int) : Decidable (lawC c l m) := by unfold lawC; infer_instance
theorem all_rd (l : List Int) (h : ∀ j : Nat, j < l.length → amtB (rd l (j : Int)) = true) : l.all amtB = true := by
  rw [List.all_eq_true]
  intro x hx
  obtain ⟨j, hj, rfl⟩ := List.getElem_of_mem hx
  have := h j hj
  unfold rd at this
  rw [Int.toNat_natCast, List.getD_eq_getElem?_getD, List.getElem?_eq_getElem hj] at this
  exact this
def pledgelaw24_FundCalls.f (l m : List Int) : Option Bool :=
  (pledgelaw24_first.f).bind fun t => if t = true then (if 20 < l.length then some true else if 20 < m.length then some true else
    if ((l.all amtB) && (m.all amtB)) = true then (fund_Calls.f l m).bind fun c => if lawC c l m ∧ c.length = (if l.length < m.length then m.length else l.length) ∧ (sizeF spF (fun _ _ => 0) 7 7 []).map (fun z => (z.1, z.2.2)) = some (7, []) then some true else none
    else some true) else some false
set_option maxHeartbeats 8000000 in
set_option maxRecDepth 1000000 in
theorem pledgelaw24_FundCalls.calls [Inhabited (Int → Addr)] (Al : Option Addr) (cl : Nat) (l : List Int) (Am : Option Addr) (cm : Nat) (m : List Int) (r : Bool) (w : World) (hG : GlobOK w) (hr0 : Kd.C (Kd.int .i64) w Al l.length l) (hc0 : l.length ≤ cl) (hr1 : Kd.C (Kd.int .i64) w Am m.length m) (hc1 : m.length ≤ cm) (h : pledgelaw24_FundCalls.f l m = some r) :
    Calls Tryd.prog 4 #[.slice Al l.length cl, .slice Am m.length cm] w fun e w' => e = .returned (.bool r) ∧ Below w.heap.size w w' := by
  have hu1 := Tryd.underlying35
  have hu2 := Tryd.underlying33
  have HG := Aside0.mk hG
  have HMl := Aside0.mk hr0
  have HCl := Aside0.mk hc0
  have HMm := Aside0.mk hr1
  have HCm := Aside0.mk hc1
  have HB := Aside0.mk (Below.refl w.heap.size w)
  clear hG hr0 hc0 hr1 hc1
  unfold pledgelaw24_FundCalls.f at h
  obtain ⟨t, h1, h⟩ := Option.bind_eq_some_iff.mp h
  have H1 := Aside0.mk h1
  clear h1
  cases t with
  | false =>
    rw [if_neg (by simp)] at h
    obtain rfl := Option.some.inj h
    clear h
    go_enter Tryd.func4, Tryd.ntmps4
    go_wp2_with (go_at_call 7; refine (pledgelaw24_first.calls false _ (HG.out.below HB.out) H1.out).mono ?_; rintro e w_ ⟨rfl, hb⟩; have n_ := Aside0.mk (below_step HB.out hb); clear HB; have HB := n_; clear n_; clear hb)
    go_ret
    exact ⟨rfl, HB.out⟩
  | true =>
    rw [if_pos rfl] at h
    by_cases h20 : 20 < l.length
    · rw [if_pos h20] at h
      obtain rfl := Option.some.inj h
      have cb0 : decide ((l.length : Int) > 20) = true := decide_eq_true (by omega)
      clear h h20
      go_enter Tryd.func4, Tryd.ntmps4
      go_wp2_with (go_at_call 7; refine (pledgelaw24_first.calls true _ (HG.out.below HB.out) H1.out).mono ?_; rintro e w_ ⟨rfl, hb⟩; have n_ := Aside0.mk (below_step HB.out hb); clear HB; have HB := n_; clear n_; clear hb)
      go_ret
      exact ⟨rfl, HB.out⟩
    rw [if_neg h20] at h
    have cb0 : decide ((l.length : Int) > 20) = false := decide_eq_false (by omega)
    by_cases h21 : 20 < m.length
    · rw [if_pos h21] at h
      obtain rfl := Option.some.inj h
      have cb1 : decide ((m.length : Int) > 20) = true := decide_eq_true (by omega)
      clear h h20 h21
      go_enter Tryd.func4, Tryd.ntmps4
      go_wp2_with (go_at_call 7; refine (pledgelaw24_first.calls true _ (HG.out.below HB.out) H1.out).mono ?_; rintro e w_ ⟨rfl, hb⟩; have n_ := Aside0.mk (below_step HB.out hb); clear HB; have HB := n_; clear n_; clear hb)
      go_ret
      exact ⟨rfl, HB.out⟩
    rw [if_neg h21] at h
    have cbm : decide ((m.length : Int) > 20) = false := decide_eq_false (by omega)
    have hr : r = true := by
      by_cases hab : ((l.all amtB) && (m.all amtB)) = true
      · rw [if_pos hab] at h
        obtain ⟨c, _, h⟩ := Option.bind_eq_some_iff.mp h
        by_cases hc : lawC c l m ∧ c.length = (if l.length < m.length then m.length else l.length) ∧ (sizeF spF (fun _ _ => 0) 7 7 []).map (fun z => (z.1, z.2.2)) = some (7, [])
        · rw [if_pos hc] at h
          exact (Option.some.inj h).symm
        · rw [if_neg hc] at h
          simp at h
      · rw [if_neg hab] at h
        exact (Option.some.inj h).symm
    subst hr
    have H20l := Aside0.mk (show l.length ≤ 20 by omega)
    have H20m := Aside0.mk (show m.length ≤ 20 by omega)
    have HH := Aside0.mk h
    clear h h20 h21
    go_enter Tryd.func4, Tryd.ntmps4
    go_wp2_with (go_at_call 7; refine (pledgelaw24_first.calls true _ (HG.out.below HB.out) H1.out).mono ?_; rintro e w_ ⟨rfl, hb⟩; have n_ := Aside0.mk (below_step HB.out hb); clear HB; have HB := n_; clear n_; clear hb)
    clear cb0 cbm
    go_loopg [6] l.length (fun gq vi wr => ∃ (i : Nat), vi = .int .i64 i ∧ Aside0 (i ≤ l.length) ∧ Aside0 (l.length ≤ gq + i) ∧ Aside0 (∀ j : Nat, j < i → amtB (rd l (j : Int)) = true) ∧ Aside0 (Below w.heap.size w wr))
    case atStart => exact ⟨0, rfl, ⟨by omega⟩, ⟨by omega⟩, ⟨fun j hj => absurd hj (Nat.not_lt_zero _)⟩, HB⟩
    case round =>
      clear HB
      obtain ⟨i, rfl, HI, HKI, HGOOD, HB⟩ := hrel
      by_cases hlt : i < l.length
      · have cb1 : decide ((i : Int) < (l.length : Int)) = true := decide_eq_true (by omega)
        have cb2 : ((i : Int) < (l.length : Int)) = True := eq_true (by omega)
        have cb3 : (i < l.length) = True := eq_true hlt
        have cb4 : decide (i < l.length) = true := decide_eq_true hlt
        have HLI := Aside0.mk hlt
        have HW : Aside0 (wrap64 ((i : Int) + 1) = ((i + 1 : Nat) : Int)) := ⟨by have := H20l.out; unfold wrap64; omega⟩
        obtain ⟨ad, eA, hx⟩ := Kd.at_int (Kd.C_below HMl.out HB.out) (i : Int) (by omega) (by omega)
        subst eA
        rw [Int.toNat_natCast] at hx
        clear hlt
        by_cases h0 : rd l (i : Int) < 0
        · have cb5 : decide (rd l (i : Int) < 0) = true := decide_eq_true h0
          clear h0
          go_wp2
          go_ret
          exact ⟨rfl, HB.out⟩
        · have cb5 : decide (rd l (i : Int) < 0) = false := decide_eq_false h0
          by_cases h1 : rd l (i : Int) > 1000000000000000
          · have cb6 : decide (rd l (i : Int) > 1000000000000000) = true := decide_eq_true h1
            clear h0 h1
            go_wp2
            go_ret
            exact ⟨rfl, HB.out⟩
          · have cb6 : decide (rd l (i : Int) > 1000000000000000) = false := decide_eq_false h1
            have HG1 := Aside0.mk (show amtB (rd l (i : Int)) = true by unfold amtB; exact decide_eq_true (by omega))
            clear h0 h1
            go_wp2
            go_roundg (l.length - (i + 1))
            case measure => have := HKI.out; have := HLI.out; omega
            case rel => exact ⟨i + 1, by rw [HW.out], ⟨by have := HLI.out; omega⟩, ⟨by have := HLI.out; omega⟩, ⟨fun j hj => by by_cases e : j = i; (subst e; exact HG1.out); (exact HGOOD.out j (by omega))⟩, HB⟩
      · obtain rfl : l.length = i := by have := HI.out; omega
        have cb1 : decide ((l.length : Int) < (l.length : Int)) = false := decide_eq_false (by omega)
        have cb2 : ((l.length : Int) < (l.length : Int)) = False := eq_false (by omega)
        have cb3 : decide (l.length < l.length) = false := decide_eq_false (by omega)
        have HALLl := HGOOD
        clear hlt HI HKI HGOOD
        go_wp2
        clear cb1 cb2 cb3
        go_loopg [7] m.length (fun gq vi wr => ∃ (i : Nat), vi = .int .i64 i ∧ Aside0 (i ≤ m.length) ∧ Aside0 (m.length ≤ gq + i) ∧ Aside0 (∀ j : Nat, j < i → amtB (rd m (j : Int)) = true) ∧ Aside0 (Below w.heap.size w wr))
        case atStart => exact ⟨0, rfl, ⟨by omega⟩, ⟨by omega⟩, ⟨fun j hj => absurd hj (Nat.not_lt_zero _)⟩, HB⟩
        case round =>
          clear HB
          obtain ⟨i, rfl, HI, HKI, HGOOD, HB⟩ := hrel
          by_cases hlt : i < m.length
          · have cb1 : decide ((i : Int) < (m.length : Int)) = true := decide_eq_true (by omega)
            have cb2 : ((i : Int) < (m.length : Int)) = True := eq_true (by omega)
            have cb3 : (i < m.length) = True := eq_true hlt
            have cb4 : decide (i < m.length) = true := decide_eq_true hlt
            have HLI := Aside0.mk hlt
            have HW : Aside0 (wrap64 ((i : Int) + 1) = ((i + 1 : Nat) : Int)) := ⟨by have := H20m.out; unfold wrap64; omega⟩
            obtain ⟨ad, eA, hx⟩ := Kd.at_int (Kd.C_below HMm.out HB.out) (i : Int) (by omega) (by omega)
            subst eA
            rw [Int.toNat_natCast] at hx
            clear hlt
            by_cases h0 : rd m (i : Int) < 0
            · have cb5 : decide (rd m (i : Int) < 0) = true := decide_eq_true h0
              clear h0
              go_wp2
              go_ret
              exact ⟨rfl, HB.out⟩
            · have cb5 : decide (rd m (i : Int) < 0) = false := decide_eq_false h0
              by_cases h1 : rd m (i : Int) > 1000000000000000
              · have cb6 : decide (rd m (i : Int) > 1000000000000000) = true := decide_eq_true h1
                clear h0 h1
                go_wp2
                go_ret
                exact ⟨rfl, HB.out⟩
              · have cb6 : decide (rd m (i : Int) > 1000000000000000) = false := decide_eq_false h1
                have HG1 := Aside0.mk (show amtB (rd m (i : Int)) = true by unfold amtB; exact decide_eq_true (by omega))
                clear h0 h1
                go_wp2
                go_roundg (m.length - (i + 1))
                case measure => have := HKI.out; have := HLI.out; omega
                case rel => exact ⟨i + 1, by rw [HW.out], ⟨by have := HLI.out; omega⟩, ⟨by have := HLI.out; omega⟩, ⟨fun j hj => by by_cases e : j = i; (subst e; exact HG1.out); (exact HGOOD.out j (by omega))⟩, HB⟩
          · obtain rfl : m.length = i := by have := HI.out; omega
            have cb1 : decide ((m.length : Int) < (m.length : Int)) = false := decide_eq_false (by omega)
            have cb2 : ((m.length : Int) < (m.length : Int)) = False := eq_false (by omega)
            have cb3 : decide (m.length < m.length) = false := decide_eq_false (by omega)
            have HALLm := HGOOD
            clear hlt HI HKI HGOOD
            have hgood : ((l.all amtB) && (m.all amtB)) = true := by
              rw [Bool.and_eq_true]
              exact ⟨all_rd l HALLl.out, all_rd m HALLm.out⟩
            have h := HH.out
            rw [if_pos hgood] at h
            obtain ⟨c, hcalls, h⟩ := Option.bind_eq_some_iff.mp h
            by_cases hok : lawC c l m ∧ c.length = (if l.length < m.length then m.length else l.length) ∧ (sizeF spF (fun _ _ => 0) 7 7 []).map (fun z => (z.1, z.2.2)) = some (7, [])
            rotate_left
            · rw [if_neg hok] at h; exact absurd h (by simp)
            obtain ⟨hl1, hl2, hl3⟩ := hok
            obtain ⟨⟨tg, sc, sh⟩, hz, hz2⟩ := Option.map_eq_some_iff.mp hl3
            obtain ⟨e1, e2⟩ := Prod.mk.inj hz2
            have e1' : tg = 7 := e1
            have e2' : sh = [] := e2
            subst e1'
            subst e2'
            have HSZ := Aside0.mk hz
            have HCALLS := Aside0.mk hcalls
            have HLAW := Aside0.mk hl1
            have HCLEN := Aside0.mk hl2
            clear hgood h hcalls hl1 hl2 hl3 hz hz2 e1 e2 HH HALLl HALLm cb1 cb2 cb3
            go_upto_region 17 with (go_at_call 10; have hN := fund_Calls.calls Al cl l Am cm m c _ (Kd.C_below HMl.out HB.out) HCl.out (Kd.C_below HMm.out HB.out) HCm.out HCALLS.out; (with_reducible refine hN.mono ?_); clear hN; rintro e w_ ⟨v_, rfl, ho, hb⟩; obtain ⟨A8, c8, rfl, hl_, hC_⟩ := Kd.R_reads ho; have n_ := Aside0.mk (below_step HB.out hb); clear HB; have HB := n_; clear n_; have HC := Aside0.mk hC_; clear ho hb hl_ hC_)
            go_wp2
            go_loopg [9] c.length (fun gq vi wr => ∃ (i : Nat), vi = .int .i64 i ∧ Aside0 (i ≤ c.length) ∧ Aside0 (c.length ≤ gq + i) ∧ Aside0 (Below w.heap.size w wr) ∧ Aside0 (Kd.C (Kd.int .i64) wr A8 c.length c))
            case atStart => exact ⟨0, rfl, ⟨by omega⟩, ⟨by omega⟩, HB, HC⟩
            case round =>
              clear HB HC
              obtain ⟨i, rfl, HI, HKI, HB, HC⟩ := hrel
              by_cases hlt : i < c.length
              · have cb1 : decide ((i : Int) < (c.length : Int)) = true := decide_eq_true (by omega)
                have cb2 : ((i : Int) < (c.length : Int)) = True := eq_true (by omega)
                have cb3 : (i < c.length) = True := eq_true hlt
                have cb4 : decide (i < c.length) = true := decide_eq_true hlt
                have HLI := Aside0.mk hlt
                have HW : Aside0 (wrap64 ((i : Int) + 1) = ((i + 1 : Nat) : Int)) := ⟨by have := H20l.out; have := H20m.out; have h_ := HCLEN.out; split at h_ <;> (unfold wrap64; omega)⟩
                obtain ⟨adc, eAc, hxc⟩ := Kd.at_int HC.out (i : Int) (by omega) (by omega)
                subst eAc
                rw [Int.toNat_natCast] at hxc
                clear hlt
                by_cases hil : i < l.length <;> by_cases him : i < m.length
                · by_cases hab : rd l (i : Int) < rd m (i : Int)
                  · skip
                    have d11 : decide ((i : Int) < (l.length : Int)) = true := decide_eq_true (by omega)
                    have d12 : ((i : Int) < (l.length : Int)) = True := eq_true (by omega)
                    have d13 : (i < l.length) = True := eq_true (by omega)
                    have d14 : decide (i < l.length) = true := decide_eq_true (by omega)
                    obtain ⟨ad1, eA1, hx1⟩ := Kd.at_int (Kd.C_below HMl.out HB.out) (i : Int) (by omega) (by omega)
                    subst eA1
                    rw [Int.toNat_natCast] at hx1
                    have d21 : decide ((i : Int) < (m.length : Int)) = true := decide_eq_true (by omega)
                    have d22 : ((i : Int) < (m.length : Int)) = True := eq_true (by omega)
                    have d23 : (i < m.length) = True := eq_true (by omega)
                    have d24 : decide (i < m.length) = true := decide_eq_true (by omega)
                    obtain ⟨ad2, eA2, hx2⟩ := Kd.at_int (Kd.C_below HMm.out HB.out) (i : Int) (by omega) (by omega)
                    subst eA2
                    rw [Int.toNat_natCast] at hx2
                    have hlaw := HLAW.out i HLI.out
                    rw [show atF l i = rd l (i : Int) by unfold atF; rw [if_pos (by omega)], show atF m i = rd m (i : Int) by unfold atF; rw [if_pos (by omega)]] at hlaw
                    have f1 : decide (rd c (i : Int) < 0) = false := decide_eq_false (by omega)
                    have f2 : (rd l (i : Int) < rd m (i : Int)) = True := eq_true hab
                    have f3 : wrap64 (rd l (i : Int) + rd c (i : Int)) = rd m (i : Int) := by rw [hlaw.2]; unfold mx; rw [if_pos hab]
                    clear hlaw hab hil him
                    go_wp2
                    go_roundg (c.length - (i + 1))
                    case measure => have := HKI.out; have := HLI.out; omega
                    case rel => exact ⟨i + 1, by rw [HW.out], ⟨by have := HLI.out; omega⟩, ⟨by have := HLI.out; omega⟩, HB, HC⟩
                  · skip
                    have d11 : decide ((i : Int) < (l.length : Int)) = true := decide_eq_true (by omega)
                    have d12 : ((i : Int) < (l.length : Int)) = True := eq_true (by omega)
                    have d13 : (i < l.length) = True := eq_true (by omega)
                    have d14 : decide (i < l.length) = true := decide_eq_true (by omega)
                    obtain ⟨ad1, eA1, hx1⟩ := Kd.at_int (Kd.C_below HMl.out HB.out) (i : Int) (by omega) (by omega)
                    subst eA1
                    rw [Int.toNat_natCast] at hx1
                    have d21 : decide ((i : Int) < (m.length : Int)) = true := decide_eq_true (by omega)
                    have d22 : ((i : Int) < (m.length : Int)) = True := eq_true (by omega)
                    have d23 : (i < m.length) = True := eq_true (by omega)
                    have d24 : decide (i < m.length) = true := decide_eq_true (by omega)
                    obtain ⟨ad2, eA2, hx2⟩ := Kd.at_int (Kd.C_below HMm.out HB.out) (i : Int) (by omega) (by omega)
                    subst eA2
                    rw [Int.toNat_natCast] at hx2
                    have hlaw := HLAW.out i HLI.out
                    rw [show atF l i = rd l (i : Int) by unfold atF; rw [if_pos (by omega)], show atF m i = rd m (i : Int) by unfold atF; rw [if_pos (by omega)]] at hlaw
                    have f1 : decide (rd c (i : Int) < 0) = false := decide_eq_false (by omega)
                    have f2 : (rd l (i : Int) < rd m (i : Int)) = False := eq_false hab
                    have f3 : wrap64 (rd l (i : Int) + rd c (i : Int)) = rd l (i : Int) := by rw [hlaw.2]; unfold mx; rw [if_neg hab]
                    clear hlaw hab hil him
                    go_wp2
                    go_roundg (c.length - (i + 1))
                    case measure => have := HKI.out; have := HLI.out; omega
                    case rel => exact ⟨i + 1, by rw [HW.out], ⟨by have := HLI.out; omega⟩, ⟨by have := HLI.out; omega⟩, HB, HC⟩
                · by_cases hab : rd l (i : Int) < (0 : Int)
                  · skip
                    have d11 : decide ((i : Int) < (l.length : Int)) = true := decide_eq_true (by omega)
                    have d12 : ((i : Int) < (l.length : Int)) = True := eq_true (by omega)
                    have d13 : (i < l.length) = True := eq_true (by omega)
                    have d14 : decide (i < l.length) = true := decide_eq_true (by omega)
                    obtain ⟨ad1, eA1, hx1⟩ := Kd.at_int (Kd.C_below HMl.out HB.out) (i : Int) (by omega) (by omega)
                    subst eA1
                    rw [Int.toNat_natCast] at hx1
                    have d21 : decide ((i : Int) < (m.length : Int)) = false := decide_eq_false (by omega)
                    have d22 : ((i : Int) < (m.length : Int)) = False := eq_false (by omega)
                    have d23 : (i < m.length) = False := eq_false (by omega)
                    have d24 : decide (i < m.length) = false := decide_eq_false (by omega)
                    have hlaw := HLAW.out i HLI.out
                    rw [show atF l i = rd l (i : Int) by unfold atF; rw [if_pos (by omega)], show atF m i = (0 : Int) by unfold atF; rw [if_neg (by omega)]] at hlaw
                    have f1 : decide (rd c (i : Int) < 0) = false := decide_eq_false (by omega)
                    have f2 : (rd l (i : Int) < (0 : Int)) = True := eq_true hab
                    have f3 : wrap64 (rd l (i : Int) + rd c (i : Int)) = (0 : Int) := by rw [hlaw.2]; unfold mx; rw [if_pos hab]
                    clear hlaw hab hil him
                    go_wp2
                    go_roundg (c.length - (i + 1))
                    case measure => have := HKI.out; have := HLI.out; omega
                    case rel => exact ⟨i + 1, by rw [HW.out], ⟨by have := HLI.out; omega⟩, ⟨by have := HLI.out; omega⟩, HB, HC⟩
                  · skip
                    have d11 : decide ((i : Int) < (l.length : Int)) = true := decide_eq_true (by omega)
                    have d12 : ((i : Int) < (l.length : Int)) = True := eq_true (by omega)
                    have d13 : (i < l.length) = True := eq_true (by omega)
                    have d14 : decide (i < l.length) = true := decide_eq_true (by omega)
                    obtain ⟨ad1, eA1, hx1⟩ := Kd.at_int (Kd.C_below HMl.out HB.out) (i : Int) (by omega) (by omega)
                    subst eA1
                    rw [Int.toNat_natCast] at hx1
                    have d21 : decide ((i : Int) < (m.length : Int)) = false := decide_eq_false (by omega)
                    have d22 : ((i : Int) < (m.length : Int)) = False := eq_false (by omega)
                    have d23 : (i < m.length) = False := eq_false (by omega)
                    have d24 : decide (i < m.length) = false := decide_eq_false (by omega)
                    have hlaw := HLAW.out i HLI.out
                    rw [show atF l i = rd l (i : Int) by unfold atF; rw [if_pos (by omega)], show atF m i = (0 : Int) by unfold atF; rw [if_neg (by omega)]] at hlaw
                    have f1 : decide (rd c (i : Int) < 0) = false := decide_eq_false (by omega)
                    have f2 : (rd l (i : Int) < (0 : Int)) = False := eq_false hab
                    have f3 : wrap64 (rd l (i : Int) + rd c (i : Int)) = rd l (i : Int) := by rw [hlaw.2]; unfold mx; rw [if_neg hab]
                    have f5 : ¬ (rd l (i : Int) < 0) := hab
                    clear hlaw hab hil him
                    go_wp2
                    go_roundg (c.length - (i + 1))
                    case measure => have := HKI.out; have := HLI.out; omega
                    case rel => exact ⟨i + 1, by rw [HW.out], ⟨by have := HLI.out; omega⟩, ⟨by have := HLI.out; omega⟩, HB, HC⟩
                · by_cases hab : (0 : Int) < rd m (i : Int)
                  · skip
                    have d11 : decide ((i : Int) < (l.length : Int)) = false := decide_eq_false (by omega)
                    have d12 : ((i : Int) < (l.length : Int)) = False := eq_false (by omega)
                    have d13 : (i < l.length) = False := eq_false (by omega)
                    have d14 : decide (i < l.length) = false := decide_eq_false (by omega)
                    have d21 : decide ((i : Int) < (m.length : Int)) = true := decide_eq_true (by omega)
                    have d22 : ((i : Int) < (m.length : Int)) = True := eq_true (by omega)
                    have d23 : (i < m.length) = True := eq_true (by omega)
                    have d24 : decide (i < m.length) = true := decide_eq_true (by omega)
                    obtain ⟨ad2, eA2, hx2⟩ := Kd.at_int (Kd.C_below HMm.out HB.out) (i : Int) (by omega) (by omega)
                    subst eA2
                    rw [Int.toNat_natCast] at hx2
                    have hlaw := HLAW.out i HLI.out
                    rw [show atF l i = (0 : Int) by unfold atF; rw [if_neg (by omega)], show atF m i = rd m (i : Int) by unfold atF; rw [if_pos (by omega)]] at hlaw
                    have f1 : decide (rd c (i : Int) < 0) = false := decide_eq_false (by omega)
                    have f2 : ((0 : Int) < rd m (i : Int)) = True := eq_true hab
                    have f3 : wrap64 ((0 : Int) + rd c (i : Int)) = rd m (i : Int) := by rw [hlaw.2]; unfold mx; rw [if_pos hab]
                    have f4 : wrap64 (rd c (i : Int)) = rd m (i : Int) := by rw [← f3]; congr 1; omega
                    clear hlaw hab hil him
                    go_wp2
                    go_roundg (c.length - (i + 1))
                    case measure => have := HKI.out; have := HLI.out; omega
                    case rel => exact ⟨i + 1, by rw [HW.out], ⟨by have := HLI.out; omega⟩, ⟨by have := HLI.out; omega⟩, HB, HC⟩
                  · skip
                    have d11 : decide ((i : Int) < (l.length : Int)) = false := decide_eq_false (by omega)
                    have d12 : ((i : Int) < (l.length : Int)) = False := eq_false (by omega)
                    have d13 : (i < l.length) = False := eq_false (by omega)
                    have d14 : decide (i < l.length) = false := decide_eq_false (by omega)
                    have d21 : decide ((i : Int) < (m.length : Int)) = true := decide_eq_true (by omega)
                    have d22 : ((i : Int) < (m.length : Int)) = True := eq_true (by omega)
                    have d23 : (i < m.length) = True := eq_true (by omega)
                    have d24 : decide (i < m.length) = true := decide_eq_true (by omega)
                    obtain ⟨ad2, eA2, hx2⟩ := Kd.at_int (Kd.C_below HMm.out HB.out) (i : Int) (by omega) (by omega)
                    subst eA2
                    rw [Int.toNat_natCast] at hx2
                    have hlaw := HLAW.out i HLI.out
                    rw [show atF l i = (0 : Int) by unfold atF; rw [if_neg (by omega)], show atF m i = rd m (i : Int) by unfold atF; rw [if_pos (by omega)]] at hlaw
                    have f1 : decide (rd c (i : Int) < 0) = false := decide_eq_false (by omega)
                    have f2 : ((0 : Int) < rd m (i : Int)) = False := eq_false hab
                    have f3 : wrap64 ((0 : Int) + rd c (i : Int)) = (0 : Int) := by rw [hlaw.2]; unfold mx; rw [if_neg hab]
                    have f4 : wrap64 (rd c (i : Int)) = (0 : Int) := by rw [← f3]; congr 1; omega
                    clear hlaw hab hil him
                    go_wp2
                    go_roundg (c.length - (i + 1))
                    case measure => have := HKI.out; have := HLI.out; omega
                    case rel => exact ⟨i + 1, by rw [HW.out], ⟨by have := HLI.out; omega⟩, ⟨by have := HLI.out; omega⟩, HB, HC⟩
                · by_cases hab : (0 : Int) < (0 : Int)
                  · skip
                    have d11 : decide ((i : Int) < (l.length : Int)) = false := decide_eq_false (by omega)
                    have d12 : ((i : Int) < (l.length : Int)) = False := eq_false (by omega)
                    have d13 : (i < l.length) = False := eq_false (by omega)
                    have d14 : decide (i < l.length) = false := decide_eq_false (by omega)
                    have d21 : decide ((i : Int) < (m.length : Int)) = false := decide_eq_false (by omega)
                    have d22 : ((i : Int) < (m.length : Int)) = False := eq_false (by omega)
                    have d23 : (i < m.length) = False := eq_false (by omega)
                    have d24 : decide (i < m.length) = false := decide_eq_false (by omega)
                    have hlaw := HLAW.out i HLI.out
                    rw [show atF l i = (0 : Int) by unfold atF; rw [if_neg (by omega)], show atF m i = (0 : Int) by unfold atF; rw [if_neg (by omega)]] at hlaw
                    have f1 : decide (rd c (i : Int) < 0) = false := decide_eq_false (by omega)
                    have f2 : ((0 : Int) < (0 : Int)) = True := eq_true hab
                    have f3 : wrap64 ((0 : Int) + rd c (i : Int)) = (0 : Int) := by rw [hlaw.2]; unfold mx; rw [if_pos hab]
                    have f4 : wrap64 (rd c (i : Int)) = (0 : Int) := by rw [← f3]; congr 1; omega
                    clear hlaw hab hil him
                    go_wp2
                    go_roundg (c.length - (i + 1))
                    case measure => have := HKI.out; have := HLI.out; omega
                    case rel => exact ⟨i + 1, by rw [HW.out], ⟨by have := HLI.out; omega⟩, ⟨by have := HLI.out; omega⟩, HB, HC⟩
                  · skip
                    have d11 : decide ((i : Int) < (l.length : Int)) = false := decide_eq_false (by omega)
                    have d12 : ((i : Int) < (l.length : Int)) = False := eq_false (by omega)
                    have d13 : (i < l.length) = False := eq_false (by omega)
                    have d14 : decide (i < l.length) = false := decide_eq_false (by omega)
                    have d21 : decide ((i : Int) < (m.length : Int)) = false := decide_eq_false (by omega)
                    have d22 : ((i : Int) < (m.length : Int)) = False := eq_false (by omega)
                    have d23 : (i < m.length) = False := eq_false (by omega)
                    have d24 : decide (i < m.length) = false := decide_eq_false (by omega)
                    have hlaw := HLAW.out i HLI.out
                    rw [show atF l i = (0 : Int) by unfold atF; rw [if_neg (by omega)], show atF m i = (0 : Int) by unfold atF; rw [if_neg (by omega)]] at hlaw
                    have f1 : decide (rd c (i : Int) < 0) = false := decide_eq_false (by omega)
                    have f2 : ((0 : Int) < (0 : Int)) = False := eq_false hab
                    have f3 : wrap64 ((0 : Int) + rd c (i : Int)) = (0 : Int) := by rw [hlaw.2]; unfold mx; rw [if_neg hab]
                    have f4 : wrap64 (rd c (i : Int)) = (0 : Int) := by rw [← f3]; congr 1; omega
                    clear hlaw hab hil him
                    go_wp2
                    go_roundg (c.length - (i + 1))
                    case measure => have := HKI.out; have := HLI.out; omega
                    case rel => exact ⟨i + 1, by rw [HW.out], ⟨by have := HLI.out; omega⟩, ⟨by have := HLI.out; omega⟩, HB, HC⟩
              · obtain rfl : c.length = i := by have := HI.out; omega
                have cb1 : decide ((c.length : Int) < (c.length : Int)) = false := decide_eq_false (by omega)
                have cb2 : ((c.length : Int) < (c.length : Int)) = False := eq_false (by omega)
                have cb3 : decide (c.length < c.length) = false := decide_eq_false (by omega)
                clear hlt HI HKI
                go_upto_region 30 with (first
                  | ((with_reducible refine gate_dst (N := 12) rfl ?_); refine box_event ?hg (N := 12) ?hd (cs := #[.map none]) (t := 33) ?hr ?_; (case hd => rfl); (case hg => rfl); (case hr => first | (go_simp; done) | (go_simp; rfl)); intro bt hg_ w_ hbox hb; have n_ := Aside0.mk (below_step HB.out hb); clear HB; have HB := n_; clear n_; have BTB := Aside0.mk hbox; clear hb hbox hg_)
                  | (go_at_call 11; have hN := Size.calls spF bt (fun _ _ => 0) 7 7 none 0 [] 7 sc [] _ (HG.out.below HB.out) (get_nil bt _ BTB.out) (Kd.C_nil _ _) (Nat.le_refl _) HSZ.out; simp only [List.length_nil] at hN; (with_reducible refine hN.mono ?_); clear hN; rintro e w_ ⟨AS, cS, rfl, ho, hb⟩; have n_ := Aside0.mk (below_step HB.out hb); clear HB; have HB := n_; clear n_; clear ho hb)
                  | ((with_reducible refine gate_dst (N := 13) rfl ?_); refine box_event ?hg (N := 13) ?hd (cs := #[.int .i64 0, .int .i64 0, .int .i64 0, .int .i64 0, .slice none 0 0]) (t := 35) ?hr ?_; (case hd => rfl); (case hg => rfl); (case hr => first | (go_simp; done) | (go_simp; rfl)); intro g2 hg_ w_ hbox hb; have HG2 := Aside0.mk (show w.heap.size ≤ g2 from Nat.le_trans (below_size HB.out) (Nat.le_of_eq hg_.symm)); have n_ := Aside0.mk (below_step HB.out hb); clear HB; have HB := n_; clear n_; have BK2 := Aside0.mk hbox; clear hb hbox hg_; have y0 : w_.cell? ⟨g2, 0, none⟩ = some (.int .i64 0) := (blk_cell BK2.out 0).trans rfl; have y1 : w_.cell? ⟨g2, 1, none⟩ = some (.int .i64 0) := (blk_cell BK2.out 1).trans rfl; have y2 : w_.cell? ⟨g2, 2, none⟩ = some (.int .i64 0) := (blk_cell BK2.out 2).trans rfl; have y3 : w_.cell? ⟨g2, 3, none⟩ = some (.int .i64 0) := (blk_cell BK2.out 3).trans rfl; have y4 : w_.cell? ⟨g2, 4, none⟩ = some (.slice none 0 0) := (blk_cell BK2.out 4).trans rfl; have yf0 := blk_frozen BK2.out 0; have yf1 := blk_frozen BK2.out 1; have yf2 := blk_frozen BK2.out 2; have yf3 := blk_frozen BK2.out 3; have yf4 := blk_frozen BK2.out 4))
                have n1_ := Aside0.mk (blk_put (blk_put (blk_put (blk_put (blk_put BK2.out 0 (.int .i64 7) rfl) 1 (.int .i64 7) rfl) 2 (.int .i64 7) rfl) 3 (.int .i64 sc) rfl) 4 (.slice AS 0 cS) rfl)
                have n3_ := Aside0.mk (((((HB.out.setCell (p := ⟨g2, 0, none⟩) HG2.out (.int .i64 7)).setCell (p := ⟨g2, 1, none⟩) HG2.out (.int .i64 7)).setCell (p := ⟨g2, 2, none⟩) HG2.out (.int .i64 7)).setCell (p := ⟨g2, 3, none⟩) HG2.out (.int .i64 sc)).setCell (p := ⟨g2, 4, none⟩) HG2.out (.slice AS 0 cS))
                clear BK2 HB y0 yf0 y1 yf1 y2 yf2 y3 yf3 y4 yf4
                generalize (((((w_.setCell ⟨g2, 0, none⟩ (.int .i64 7)).setCell ⟨g2, 1, none⟩ (.int .i64 7)).setCell ⟨g2, 2, none⟩ (.int .i64 7)).setCell ⟨g2, 3, none⟩ (.int .i64 sc)).setCell ⟨g2, 4, none⟩ (.slice AS 0 cS)) = w5 at n1_ n3_ ⊢
                have BK2 : Aside0 (w5.heap[g2]? = some (.cells #[.int .i64 7, .int .i64 7, .int .i64 7, .int .i64 sc, .slice AS 0 cS] 35 (0, 0))) := ⟨n1_.out.trans rfl⟩
                have HB := n3_
                clear n1_ n3_
                have y0 : w5.cell? ⟨g2, 0, none⟩ = some (.int .i64 7) := (blk_cell BK2.out 0).trans rfl
                have y1 : w5.cell? ⟨g2, 1, none⟩ = some (.int .i64 7) := (blk_cell BK2.out 1).trans rfl
                have y2 : w5.cell? ⟨g2, 2, none⟩ = some (.int .i64 7) := (blk_cell BK2.out 2).trans rfl
                have y3 : w5.cell? ⟨g2, 3, none⟩ = some (.int .i64 sc) := (blk_cell BK2.out 3).trans rfl
                have y4 : w5.cell? ⟨g2, 4, none⟩ = some (.slice AS 0 cS) := (blk_cell BK2.out 4).trans rfl
                have yf0 := blk_frozen BK2.out 0
                have yf1 := blk_frozen BK2.out 1
                have yf2 := blk_frozen BK2.out 2
                have yf3 := blk_frozen BK2.out 3
                have yf4 := blk_frozen BK2.out 4
                have hcl := HCLEN.out
                by_cases hlm : l.length < m.length
                · have k1 : (l.length < m.length) = True := eq_true hlm
                  have k2 : ((l.length : Int) < (m.length : Int)) = True := eq_true (by omega)
                  rw [if_pos hlm] at hcl
                  have k3 : ((c.length : Int) == (m.length : Int)) = true := beq_iff_eq.mpr (by omega)
                  have k4 : (c.length = m.length) = True := eq_true hcl
                  have k5 : (c.length == m.length) = true := beq_iff_eq.mpr hcl
                  clear hlm hcl
                  go_wp2
                  go_ret
                  exact ⟨by first | rfl | simp, HB.out⟩
                · have k1 : (l.length < m.length) = False := eq_false hlm
                  have k2 : ((l.length : Int) < (m.length : Int)) = False := eq_false (by omega)
                  rw [if_neg hlm] at hcl
                  have k3 : ((c.length : Int) == (l.length : Int)) = true := beq_iff_eq.mpr (by omega)
                  have k4 : (c.length = l.length) = True := eq_true hcl
                  have k5 : (c.length == l.length) = true := beq_iff_eq.mpr hcl
                  clear hlm hcl
                  go_wp2
                  go_ret
                  exact ⟨by first | rfl | simp, HB.out⟩

/-- The pure statement of pledgelaw24_FundCalls: numbers and lists alone. -/
def pledgelaw24_FundCalls.Pure : Prop := ∀ (l0 : List Int) (l1 : List Int), l0.length * 8 ≤ 140737488351232 → (l0.length ≤ maxLen ∧ ∀ x ∈ l0, Rng .i64 x) → l1.length * 8 ≤ 140737488351232 → (l1.length ≤ maxLen ∧ ∀ x ∈ l1, Rng .i64 x) → pledgelaw24_FundCalls.f l0 l1 = some true

end Go.Proofs.YtcmdhgcaldpioaaDoor.EFundCalls
