/- The functions that the law comes to, as plain functions, and for each a proof that the Go code comes to just these answers. Written by a program of this claim. Conditions: each theorem bears its own. -/
import Derived.Test.YtcmdhgcaldpioaaDoorEFundSizesx0
namespace Go.Proofs.YtcmdhgcaldpioaaDoor.EFundSizes
open Go.RowKit Go.Proofs.YtcmdhgcaldpioaaDoorW.PrintWords Go.Proofs.YtcmdhgcaldpioaaDoorW.PrintLast Go.Proofs.YtcmdhgcaldpioaaDoorW.PrintMore Go.Proofs.YtcmdhgcaldpioaaDoorW.PrintOpen
attribute [local go_sem] max2_int min2_int max_two min_two max_three min_three max_four min_four   -- for this text's walks alone
set_option linter.unusedVariables false
set_option linter.unusedSimpArgs false

/-! ### fund_Calls: function 10 -/
theorem enters23 : ∀ (args : Array Value) (W : World), (callFunc 23 args).run Tryd.prog W = .ok (.enter 23 args) W := by
  intro args W
  have hf := Tryd.func23
  have h1 : (Tryd.f23).name ≠ "runtime.NumGoroutine" := by decide
  have h2 : (Tryd.f23).body.isSome = true := by rfl
  obtain ⟨c, hc⟩ := Option.isSome_iff_exists.1 h2
  simp [callFunc, hf, h1, hc, mark]
/-- A list's number at a place; none: nothing. -/
def atF (l : List Int) (i : Nat) : Int := if i < l.length then rd l (i : Int) else 0
set_option maxHeartbeats 4000000 in
set_option maxRecDepth 100000 in
theorem at_calls [Inhabited (Int → Addr)] (A0 : Option Addr) (c0 : Nat) (l : List Int) (i : Nat) (w : World) (hr : Kd.C (Kd.int .i64) w A0 l.length l) :
    Calls Tryd.prog 23 #[.slice A0 l.length c0, .int .i64 i] w fun e w' => e = .returned (.int .i64 (atF l i)) ∧ Below w.heap.size w w' := by
  unfold atF
  by_cases h : i < l.length
  · rw [if_pos h]
    have cb1 : decide ((i : Int) < (l.length : Int)) = true := decide_eq_true (by omega)
    have cb2 : ((i : Int) < (l.length : Int)) = True := eq_true (by omega)
    have cb3 : (i < l.length) = True := eq_true h
    have cb4 : decide (i < l.length) = true := decide_eq_true h
    obtain ⟨ad, eA, hx⟩ := Kd.at_int hr (i : Int) (by omega) (by omega)
    subst eA
    rw [Int.toNat_natCast] at hx
    clear hr h
    go_enter Tryd.func23, Tryd.ntmps23
    go_wp2
    go_ret
    exact ⟨rfl, Below.refl _ _⟩
  · rw [if_neg h]
    have cb1 : decide ((i : Int) < (l.length : Int)) = false := decide_eq_false (by omega)
    have cb2 : ((i : Int) < (l.length : Int)) = False := eq_false (by omega)
    have cb3 : (i < l.length) = False := eq_false h
    have cb4 : decide (i < l.length) = false := decide_eq_false h
    clear hr h
    go_enter Tryd.func23, Tryd.ntmps23
    go_wp2
    go_ret
    exact ⟨rfl, Below.refl _ _⟩
def calL (o n : List Int) : Nat → Nat → List Int → List Int
  | 0, _, x => x
  | d + 1, i, x => calL o n d (i + 1) (if atF n i > atF o i then x.set i (wrap64 (atF n i - atF o i)) else x)
/-- What new shares have above elder ones. -/
def fund_Calls.f (o n : List Int) : Option (List Int) := if o.length ≤ 1000 ∧ n.length ≤ 1000 then some (calL o n (if o.length < n.length then n.length else o.length) 0 (List.replicate (if o.length < n.length then n.length else o.length) 0)) else none
set_option maxHeartbeats 8000000 in
set_option maxRecDepth 1000000 in
theorem fund_Calls.calls [Inhabited (Int → Addr)] (A0 : Option Addr) (c0 : Nat) (o : List Int) (A1 : Option Addr) (c1 : Nat) (n : List Int) (r : List Int) (w : World) (hr0 : Kd.C (Kd.int .i64) w A0 o.length o) (hc0 : o.length ≤ c0) (hr1 : Kd.C (Kd.int .i64) w A1 n.length n) (hc1 : n.length ≤ c1) (h : fund_Calls.f o n = some r) :
    Calls Tryd.prog 10 #[.slice A0 o.length c0, .slice A1 n.length c1] w fun e w' => ∃ v0_ : Value, e = .returned (v0_) ∧ Kd.R (Kd.int .i64) 2 w' w.heap.size (fun _ => True) v0_ r ∧ Below w.heap.size w w' := by
  unfold fund_Calls.f at h
  by_cases hl : o.length ≤ 1000 ∧ n.length ≤ 1000
  rotate_left
  · rw [if_neg hl] at h; exact absurd h (by simp)
  rw [if_pos hl] at h
  obtain ⟨N, hN⟩ : ∃ N, N = if o.length < n.length then n.length else o.length := ⟨_, rfl⟩
  rw [← hN] at h
  have hN2 : N ≤ 1000 := by rw [hN]; split <;> omega
  have hmx : (if (o.length : Int) < (n.length : Int) then (n.length : Int) else (o.length : Int)) = (N : Int) := by rw [hN]; by_cases hx : o.length < n.length; (rw [if_pos hx, if_pos (by omega)]); (rw [if_neg hx, if_neg (by omega)])
  have hmx2 : (if o.length < n.length then (n.length : Int) else (o.length : Int)) = (N : Int) := by rw [hN]; by_cases hx : o.length < n.length; (rw [if_pos hx, if_pos hx]); (rw [if_neg hx, if_neg hx])
  have HR := Aside0.mk (Option.some.inj h)
  have HM0 := Aside0.mk hr0
  have HM1 := Aside0.mk hr1
  have HNN := Aside0.mk hN2
  have HB := Aside0.mk (Below.refl w.heap.size w)
  clear h hl hN hr0 hc0 hr1 hc1
  have eg := enters23
  go_enter Tryd.func10, Tryd.ntmps10
  by_cases hx : o.length < n.length
  · have cx1 : ((o.length : Int) < (n.length : Int)) = True := eq_true (by omega)
    have cx2 : (o.length < n.length) = True := eq_true hx
    have cx3 : decide ((o.length : Int) < (n.length : Int)) = true := decide_eq_true (by omega)
    have HCX := Aside0.mk (show n.length = N by rw [if_pos hx] at hmx2; omega)
    clear hmx hmx2 hx
    go_wp2_with ((with_reducible refine gate_dst (N := 15) rfl ?_); refine Kd.R_make (Kd.int .i64) _ 2 rfl (N := 15) rfl 29 _ _ rfl (n.length : Int) ?mx ?my Tryd.underlying29 (.int .i64 0) 8 (by kernel_rfl) rfl (by decide) (by omega) 0 (ok := fun _ => True) (okp := fun _ => True) rfl (fun _ hk => hk) trivial (by omega) (by have := HNN.out; have := HCX.out; omega) (Below.refl _ _) (Nat.le_refl _) ?_; (case mx => first | rfl | (go_simp; done) | (go_simp; rfl)); (case my => first | rfl | (go_simp; done) | (go_simp; rfl)); intro vo w_ ho12 hb hg_ hnew_; clear hg_ hnew_; rw [Int.toNat_natCast, HCX.out] at ho12; have HO := Aside0.mk (Kd.R_lower ho12 (below_size HB.out)); have n_ := Aside0.mk (below_step HB.out hb); clear HB; have HB := n_; clear n_; obtain ⟨Ao, co, rfl⟩ := Kd.R_slice ho12; rw [List.length_replicate] at HO; clear hb ho12; (try rw [List.length_replicate]))
    clear cx1 cx2 cx3
    go_loopg [18] N (fun gq v18 wr => ∃ (i : Nat) (x : List Int), v18 = .int .i64 i ∧ Aside0 (i ≤ N) ∧ Aside0 (N ≤ gq + i) ∧ Aside0 (x.length = N) ∧ Aside0 (calL o n (N - i) i x = r) ∧ Aside0 (Below w.heap.size w wr) ∧ Aside0 (Kd.R (Kd.int .i64) 2 wr w.heap.size (fun _ => True) (.slice Ao N co) x))
    case atStart => exact ⟨0, List.replicate N 0, rfl, ⟨by omega⟩, ⟨by omega⟩, ⟨List.length_replicate⟩, ⟨by rw [Nat.sub_zero]; exact HR.out⟩, HB, HO⟩
    case round =>
      clear HB HO HR HCX
      obtain ⟨i, x, rfl, HI, HKI, HXL, HRUN, HB, HO⟩ := hrel
      by_cases hlt : i < N
      · have cb1 : decide ((i : Int) < (N : Int)) = true := decide_eq_true (by omega)
        have cb2 : ((i : Int) < (N : Int)) = True := eq_true (by omega)
        have cb3 : (i < N) = True := eq_true hlt
        have cb4 : decide (i < N) = true := decide_eq_true hlt
        have HLI := Aside0.mk hlt
        have HW : Aside0 (wrap64 ((i : Int) + 1) = ((i + 1 : Nat) : Int)) := ⟨by have := HNN.out; unfold wrap64; omega⟩
        obtain ⟨d, hd⟩ : ∃ d, N - i = d + 1 := ⟨N - i - 1, by omega⟩
        have hrun := HRUN.out
        rw [hd] at hrun
        simp only [calL] at hrun
        have HD := Aside0.mk hd
        obtain ⟨a, ha⟩ : ∃ a, a = atF n i := ⟨_, rfl⟩
        obtain ⟨b, hb_⟩ : ∃ b, b = atF o i := ⟨_, rfl⟩
        rw [← ha, ← hb_] at hrun
        have HA1 := Aside0.mk ha
        have HA2 := Aside0.mk hb_
        obtain ⟨g, cap, hv, hgb, hgl, cells_, hcl⟩ := Kd.R_form HO.out (by have := HXL.out; omega)
        injection hv with hv1 hv2 hv3
        subst hv1
        subst hv3
        have HGB := Aside0.mk hgb
        clear hd hlt ha hb_ hgb hgl hcl hv2 HRUN
        by_cases hgt : a > b
        · rw [if_pos hgt] at hrun
          have HRUNB := Aside0.mk hrun
          have cb5 : decide (a > b) = true := decide_eq_true hgt
          have cb6 : (b < a) = True := eq_true hgt
          have cb7 : decide (b < a) = true := decide_eq_true hgt
          clear hrun hgt
          go_wp2_with (first
            | (go_at_fn 23; have hN := at_calls A1 c1 n i _ (Kd.C_below HM1.out HB.out); (with_reducible refine hN.mono ?_); clear hN; rintro e w_ ⟨rfl, hb⟩; rw [← HA1.out]; have n6_ := Aside0.mk (Kd.R_below HO.out hb); clear HO; have HO := n6_; clear n6_; have n_ := Aside0.mk (below_step HB.out hb); clear HB; have HB := n_; clear n_; clear hb)
            | (go_at_fn 23; have hN := at_calls A0 c0 o i _ (Kd.C_below HM0.out HB.out); (with_reducible refine hN.mono ?_); clear hN; rintro e w_ ⟨rfl, hb⟩; rw [← HA2.out]; have n6_ := Aside0.mk (Kd.R_below HO.out hb); clear HO; have HO := n6_; clear n6_; have n_ := Aside0.mk (below_step HB.out hb); clear HB; have HB := n_; clear n_; clear hb; have hxl_ := HXL.out; have h_ := HO.out; rw [← hxl_] at h_; have hcz := (Kd.R_cell (0 : Int) h_ (i : Int) (by omega) (by have := HLI.out; omega)).1; have hfz := (Kd.R_cell (0 : Int) h_ (i : Int) (by omega) (by have := HLI.out; omega)).2; rw [Int.toNat_natCast] at hcz hfz; clear h_ hxl_))
          have hput := HO.out
          rw [← HXL.out] at hput
          have hput := (Kd.R_put hput (i : Int) (wrap64 (a - b))).1
          rw [Int.toNat_natCast, HXL.out] at hput
          have HPUT := Aside0.mk hput
          have HB2 := Aside0.mk (HB.out.setCell (p := ⟨g, i, none⟩) HGB.out (.int .i64 (wrap64 (a - b))))
          clear hput
          go_roundg (N - (i + 1))
          case measure => have := HKI.out; have := HLI.out; omega
          case rel => exact ⟨i + 1, _, by rw [HW.out], ⟨by have := HLI.out; omega⟩, ⟨by have := HLI.out; omega⟩, ⟨by rw [List.length_set]; exact HXL.out⟩, ⟨by rw [show N - (i + 1) = d by have := HD.out; omega]; exact HRUNB.out⟩, HB2, HPUT⟩
        · rw [if_neg hgt] at hrun
          have HRUNB := Aside0.mk hrun
          have cb5 : decide (a > b) = false := decide_eq_false hgt
          have cb6 : (b < a) = False := eq_false hgt
          have cb7 : decide (b < a) = false := decide_eq_false hgt
          clear hrun hgt
          go_wp2_with (first
            | (go_at_fn 23; have hN := at_calls A1 c1 n i _ (Kd.C_below HM1.out HB.out); (with_reducible refine hN.mono ?_); clear hN; rintro e w_ ⟨rfl, hb⟩; rw [← HA1.out]; have n6_ := Aside0.mk (Kd.R_below HO.out hb); clear HO; have HO := n6_; clear n6_; have n_ := Aside0.mk (below_step HB.out hb); clear HB; have HB := n_; clear n_; clear hb)
            | (go_at_fn 23; have hN := at_calls A0 c0 o i _ (Kd.C_below HM0.out HB.out); (with_reducible refine hN.mono ?_); clear hN; rintro e w_ ⟨rfl, hb⟩; rw [← HA2.out]; have n6_ := Aside0.mk (Kd.R_below HO.out hb); clear HO; have HO := n6_; clear n6_; have n_ := Aside0.mk (below_step HB.out hb); clear HB; have HB := n_; clear n_; clear hb))
          go_roundg (N - (i + 1))
          case measure => have := HKI.out; have := HLI.out; omega
          case rel => exact ⟨i + 1, _, by rw [HW.out], ⟨by have := HLI.out; omega⟩, ⟨by have := HLI.out; omega⟩, HXL, ⟨by rw [show N - (i + 1) = d by have := HD.out; omega]; exact HRUNB.out⟩, HB, HO⟩
      · obtain rfl : N = i := by have := HI.out; omega
        have cb1 : decide ((N : Int) < (N : Int)) = false := decide_eq_false (by omega)
        have cb2 : ((N : Int) < (N : Int)) = False := eq_false (by omega)
        have cb3 : decide (N < N) = false := decide_eq_false (by omega)
        have hrun := HRUN.out
        rw [Nat.sub_self] at hrun
        have hrun2 : x = r := hrun
        subst hrun2
        clear hrun HRUN hlt
        go_wp2
        go_ret
        exact ⟨_, rfl, HO.out, HB.out⟩
  · have cx1 : ((o.length : Int) < (n.length : Int)) = False := eq_false (by omega)
    have cx2 : (o.length < n.length) = False := eq_false hx
    have cx3 : decide ((o.length : Int) < (n.length : Int)) = false := decide_eq_false (by omega)
    have HCX := Aside0.mk (show o.length = N by rw [if_neg hx] at hmx2; omega)
    clear hmx hmx2 hx
    go_wp2_with ((with_reducible refine gate_dst (N := 15) rfl ?_); refine Kd.R_make (Kd.int .i64) _ 2 rfl (N := 15) rfl 29 _ _ rfl (o.length : Int) ?mx ?my Tryd.underlying29 (.int .i64 0) 8 (by kernel_rfl) rfl (by decide) (by omega) 0 (ok := fun _ => True) (okp := fun _ => True) rfl (fun _ hk => hk) trivial (by omega) (by have := HNN.out; have := HCX.out; omega) (Below.refl _ _) (Nat.le_refl _) ?_; (case mx => first | rfl | (go_simp; done) | (go_simp; rfl)); (case my => first | rfl | (go_simp; done) | (go_simp; rfl)); intro vo w_ ho12 hb hg_ hnew_; clear hg_ hnew_; rw [Int.toNat_natCast, HCX.out] at ho12; have HO := Aside0.mk (Kd.R_lower ho12 (below_size HB.out)); have n_ := Aside0.mk (below_step HB.out hb); clear HB; have HB := n_; clear n_; obtain ⟨Ao, co, rfl⟩ := Kd.R_slice ho12; rw [List.length_replicate] at HO; clear hb ho12; (try rw [List.length_replicate]))
    clear cx1 cx2 cx3
    go_loopg [18] N (fun gq v18 wr => ∃ (i : Nat) (x : List Int), v18 = .int .i64 i ∧ Aside0 (i ≤ N) ∧ Aside0 (N ≤ gq + i) ∧ Aside0 (x.length = N) ∧ Aside0 (calL o n (N - i) i x = r) ∧ Aside0 (Below w.heap.size w wr) ∧ Aside0 (Kd.R (Kd.int .i64) 2 wr w.heap.size (fun _ => True) (.slice Ao N co) x))
    case atStart => exact ⟨0, List.replicate N 0, rfl, ⟨by omega⟩, ⟨by omega⟩, ⟨List.length_replicate⟩, ⟨by rw [Nat.sub_zero]; exact HR.out⟩, HB, HO⟩
    case round =>
      clear HB HO HR HCX
      obtain ⟨i, x, rfl, HI, HKI, HXL, HRUN, HB, HO⟩ := hrel
      by_cases hlt : i < N
      · have cb1 : decide ((i : Int) < (N : Int)) = true := decide_eq_true (by omega)
        have cb2 : ((i : Int) < (N : Int)) = True := eq_true (by omega)
        have cb3 : (i < N) = True := eq_true hlt
        have cb4 : decide (i < N) = true := decide_eq_true hlt
        have HLI := Aside0.mk hlt
        have HW : Aside0 (wrap64 ((i : Int) + 1) = ((i + 1 : Nat) : Int)) := ⟨by have := HNN.out; unfold wrap64; omega⟩
        obtain ⟨d, hd⟩ : ∃ d, N - i = d + 1 := ⟨N - i - 1, by omega⟩
        have hrun := HRUN.out
        rw [hd] at hrun
        simp only [calL] at hrun
        have HD := Aside0.mk hd
        obtain ⟨a, ha⟩ : ∃ a, a = atF n i := ⟨_, rfl⟩
        obtain ⟨b, hb_⟩ : ∃ b, b = atF o i := ⟨_, rfl⟩
        rw [← ha, ← hb_] at hrun
        have HA1 := Aside0.mk ha
        have HA2 := Aside0.mk hb_
        obtain ⟨g, cap, hv, hgb, hgl, cells_, hcl⟩ := Kd.R_form HO.out (by have := HXL.out; omega)
        injection hv with hv1 hv2 hv3
        subst hv1
        subst hv3
        have HGB := Aside0.mk hgb
        clear hd hlt ha hb_ hgb hgl hcl hv2 HRUN
        by_cases hgt : a > b
        · rw [if_pos hgt] at hrun
          have HRUNB := Aside0.mk hrun
          have cb5 : decide (a > b) = true := decide_eq_true hgt
          have cb6 : (b < a) = True := eq_true hgt
          have cb7 : decide (b < a) = true := decide_eq_true hgt
          clear hrun hgt
          go_wp2_with (first
            | (go_at_fn 23; have hN := at_calls A1 c1 n i _ (Kd.C_below HM1.out HB.out); (with_reducible refine hN.mono ?_); clear hN; rintro e w_ ⟨rfl, hb⟩; rw [← HA1.out]; have n6_ := Aside0.mk (Kd.R_below HO.out hb); clear HO; have HO := n6_; clear n6_; have n_ := Aside0.mk (below_step HB.out hb); clear HB; have HB := n_; clear n_; clear hb)
            | (go_at_fn 23; have hN := at_calls A0 c0 o i _ (Kd.C_below HM0.out HB.out); (with_reducible refine hN.mono ?_); clear hN; rintro e w_ ⟨rfl, hb⟩; rw [← HA2.out]; have n6_ := Aside0.mk (Kd.R_below HO.out hb); clear HO; have HO := n6_; clear n6_; have n_ := Aside0.mk (below_step HB.out hb); clear HB; have HB := n_; clear n_; clear hb; have hxl_ := HXL.out; have h_ := HO.out; rw [← hxl_] at h_; have hcz := (Kd.R_cell (0 : Int) h_ (i : Int) (by omega) (by have := HLI.out; omega)).1; have hfz := (Kd.R_cell (0 : Int) h_ (i : Int) (by omega) (by have := HLI.out; omega)).2; rw [Int.toNat_natCast] at hcz hfz; clear h_ hxl_))
          have hput := HO.out
          rw [← HXL.out] at hput
          have hput := (Kd.R_put hput (i : Int) (wrap64 (a - b))).1
          rw [Int.toNat_natCast, HXL.out] at hput
          have HPUT := Aside0.mk hput
          have HB2 := Aside0.mk (HB.out.setCell (p := ⟨g, i, none⟩) HGB.out (.int .i64 (wrap64 (a - b))))
          clear hput
          go_roundg (N - (i + 1))
          case measure => have := HKI.out; have := HLI.out; omega
          case rel => exact ⟨i + 1, _, by rw [HW.out], ⟨by have := HLI.out; omega⟩, ⟨by have := HLI.out; omega⟩, ⟨by rw [List.length_set]; exact HXL.out⟩, ⟨by rw [show N - (i + 1) = d by have := HD.out; omega]; exact HRUNB.out⟩, HB2, HPUT⟩
        · rw [if_neg hgt] at hrun
          have HRUNB := Aside0.mk hrun
          have cb5 : decide (a > b) = false := decide_eq_false hgt
          have cb6 : (b < a) = False := eq_false hgt
          have cb7 : decide (b < a) = false := decide_eq_false hgt
          clear hrun hgt
          go_wp2_with (first
            | (go_at_fn 23; have hN := at_calls A1 c1 n i _ (Kd.C_below HM1.out HB.out); (with_reducible refine hN.mono ?_); clear hN; rintro e w_ ⟨rfl, hb⟩; rw [← HA1.out]; have n6_ := Aside0.mk (Kd.R_below HO.out hb); clear HO; have HO := n6_; clear n6_; have n_ := Aside0.mk (below_step HB.out hb); clear HB; have HB := n_; clear n_; clear hb)
            | (go_at_fn 23; have hN := at_calls A0 c0 o i _ (Kd.C_below HM0.out HB.out); (with_reducible refine hN.mono ?_); clear hN; rintro e w_ ⟨rfl, hb⟩; rw [← HA2.out]; have n6_ := Aside0.mk (Kd.R_below HO.out hb); clear HO; have HO := n6_; clear n6_; have n_ := Aside0.mk (below_step HB.out hb); clear HB; have HB := n_; clear n_; clear hb))
          go_roundg (N - (i + 1))
          case measure => have := HKI.out; have := HLI.out; omega
          case rel => exact ⟨i + 1, _, by rw [HW.out], ⟨by have := HLI.out; omega⟩, ⟨by have := HLI.out; omega⟩, HXL, ⟨by rw [show N - (i + 1) = d by have := HD.out; omega]; exact HRUNB.out⟩, HB, HO⟩
      · obtain rfl : N = i := by have := HI.out; omega
        have cb1 : decide ((N : Int) < (N : Int)) = false := decide_eq_false (by omega)
        have cb2 : ((N : Int) < (N : Int)) = False := eq_false (by omega)
        have cb3 : decide (N < N) = false := decide_eq_false (by omega)
        have hrun := HRUN.out
        rw [Nat.sub_self] at hrun
        have hrun2 : x = r := hrun
        subst hrun2
        clear hrun HRUN hlt
        go_wp2
        go_ret
        exact ⟨_, rfl, HO.out, HB.out⟩

/-! ### pledgeworld_Number: function 17 -/
def pledgeworld_Number.f (a0 : Int) (a1 : Int) : Option (Int) := if a1 = 0 then (none) else (if (Int.tmod a0 a1) < 0 then (some (wrap64 ((Int.tmod a0 a1) + a1))) else (some (Int.tmod a0 a1)))
set_option maxHeartbeats 8000000 in
set_option maxRecDepth 100000 in
theorem pledgeworld_Number.calls [Inhabited (Int → Addr)] (a0 : Int) (a1 : Int) (r : Int) (w : World) (h : pledgeworld_Number.f a0 a1 = some r) :
    Calls Tryd.prog 17 #[.int .i64 a0, .int .i64 a1] w fun e w' => e = .returned (.int .i64 r) ∧ Drawn0 w w' := by
  have H : (if a1 = 0 then (none) else (if (Int.tmod a0 a1) < 0 then (some (wrap64 ((Int.tmod a0 a1) + a1))) else (some (Int.tmod a0 a1)))) = some r := h
  clear h
  by_cases c3 : a1 = 0
  · rw [if_pos c3] at H
    exact absurd H (by simp)
  · rw [if_neg c3] at H
    have c3b0 : (a1 == 0) = false := beq_eq_false_iff_ne.mpr c3
    have c3b1 : (a1 != 0) = true := bne_iff_ne.mpr c3
    by_cases c4 : (Int.tmod a0 a1) < 0
    · rw [if_pos c4] at H
      have c4b0 : decide ((Int.tmod a0 a1) < 0) = true := decide_eq_true c4
      clear c4
      obtain rfl := Option.some.inj H
      go_enter Tryd.func17, Tryd.ntmps17
      go_wp2
      go_ret
      exact ⟨by first | rfl | (simp; done) | (simp [*]; done) | (simp [wrap64]; done) | (simp <;> rfl), by repeat (first | exact Drawn0.refl _ | apply Drawn0.step)⟩
    · rw [if_neg c4] at H
      have c4b0 : decide ((Int.tmod a0 a1) < 0) = false := decide_eq_false c4
      clear c4
      obtain rfl := Option.some.inj H
      go_enter Tryd.func17, Tryd.ntmps17
      go_wp2
      go_ret
      exact ⟨by first | rfl | (simp; done) | (simp [*]; done) | (simp [wrap64]; done) | (simp <;> rfl), by repeat (first | exact Drawn0.refl _ | apply Drawn0.step)⟩

end Go.Proofs.YtcmdhgcaldpioaaDoor.EFundSizes
