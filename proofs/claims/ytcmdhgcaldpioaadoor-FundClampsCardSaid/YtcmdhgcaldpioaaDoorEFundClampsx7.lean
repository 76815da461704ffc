/- The functions that the law comes to, as plain functions, and for each a proof that the Go code comes to just these answers. Written by a program of this claim. Conditions: each theorem bears its own. -/
import Derived.Test.YtcmdhgcaldpioaaDoorEFundClampsx0
import Derived.Test.YtcmdhgcaldpioaaDoorEFundClampsx1
import Derived.Test.YtcmdhgcaldpioaaDoorEFundClampsx6
namespace Go.Proofs.YtcmdhgcaldpioaaDoor.EFundClamps
open Go.RowKit Go.Proofs.YtcmdhgcaldpioaaDoorW.PrintWords Go.Proofs.YtcmdhgcaldpioaaDoorW.PrintLast Go.Proofs.YtcmdhgcaldpioaaDoorW.PrintMore Go.Proofs.YtcmdhgcaldpioaaDoorW.PrintOpen
attribute [local go_sem] max2_int min2_int max_two min_two max_three min_three max_four min_four   -- for this text's walks alone
set_option linter.unusedVariables false
set_option linter.unusedSimpArgs false

def errKd [Inhabited (Int → Addr)] : Kd (Option Int) := Kd.scalar errW (fun x => by cases x <;> rfl)
def sentL : List (Option Int) := [some 101, some 102, some 103, some 104, some 105, some 106, some 107, some 108, some 109, some 110, some 111, some 112, some 113, some 114, some 115, some 116, some 117, some 118, some 119, some 120, some 121]
set_option maxHeartbeats 4000000 in
set_option maxRecDepth 100000 in
theorem sentinels_calls [Inhabited (Int → Addr)] (w : World) (hG : GlobOK w) :
    Calls Tryd.prog 67 #[] w fun e w' => ∃ v, e = .returned v ∧ Kd.R errKd 24 w' w.heap.size (fun _ => True) v sentL ∧ Below w.heap.size w w' := by
  have hx0 := GlobOK.at hG 101 4 (by simp [globTab])
  have hx1 := GlobOK.at hG 102 5 (by simp [globTab])
  have hx2 := GlobOK.at hG 103 0 (by simp [globTab])
  have hx3 := GlobOK.at hG 104 2 (by simp [globTab])
  have hx4 := GlobOK.at hG 105 1 (by simp [globTab])
  have hx5 := GlobOK.at hG 106 3 (by simp [globTab])
  have hx6 := GlobOK.at hG 107 6 (by simp [globTab])
  have hx7 := GlobOK.at hG 108 7 (by simp [globTab])
  have hx8 := GlobOK.at hG 109 8 (by simp [globTab])
  have hx9 := GlobOK.at hG 110 9 (by simp [globTab])
  have hx10 := GlobOK.at hG 111 10 (by simp [globTab])
  have hx11 := GlobOK.at hG 112 11 (by simp [globTab])
  have hx12 := GlobOK.at hG 113 12 (by simp [globTab])
  have hx13 := GlobOK.at hG 114 13 (by simp [globTab])
  have hx14 := GlobOK.at hG 115 14 (by simp [globTab])
  have hx15 := GlobOK.at hG 116 15 (by simp [globTab])
  have hx16 := GlobOK.at hG 117 16 (by simp [globTab])
  have hx17 := GlobOK.at hG 118 17 (by simp [globTab])
  have hx18 := GlobOK.at hG 119 18 (by simp [globTab])
  have hx19 := GlobOK.at hG 120 19 (by simp [globTab])
  have hx20 := GlobOK.at hG 121 20 (by simp [globTab])
  clear hG
  go_enter Tryd.func67, Tryd.ntmps67
  go_wp2_with ((with_reducible refine gate_dst (N := 22) rfl ?_); refine Kd.R_lit errKd _ 24 ?hg (N := 22) ?hd (xs := sentL) (inner := [.iface 131 (.pointer (some (adr 101))), .iface 131 (.pointer (some (adr 102))), .iface 131 (.pointer (some (adr 103))), .iface 131 (.pointer (some (adr 104))), .iface 131 (.pointer (some (adr 105))), .iface 131 (.pointer (some (adr 106))), .iface 131 (.pointer (some (adr 107))), .iface 131 (.pointer (some (adr 108))), .iface 131 (.pointer (some (adr 109))), .iface 131 (.pointer (some (adr 110))), .iface 131 (.pointer (some (adr 111))), .iface 131 (.pointer (some (adr 112))), .iface 131 (.pointer (some (adr 113))), .iface 131 (.pointer (some (adr 114))), .iface 131 (.pointer (some (adr 115))), .iface 131 (.pointer (some (adr 116))), .iface 131 (.pointer (some (adr 117))), .iface 131 (.pointer (some (adr 118))), .iface 131 (.pointer (some (adr 119))), .iface 131 (.pointer (some (adr 120))), .iface 131 (.pointer (some (adr 121)))]) (ok := fun _ => True) (okp := fun _ => True) ?hr ?hp (fun _ hk => hk) trivial (Below.refl _ _) (Nat.le_refl _) (by decide) ?_; (case hd => rfl); (case hg => rfl); (case hr => first | (go_simp; done) | (go_simp; rfl)); (case hp => exact (Reps.one (show Kd.M errKd _ _ _ (some 101) [.iface 131 (.pointer (some (adr 101)))] from rfl) (Reps.one (show Kd.M errKd _ _ _ (some 102) [.iface 131 (.pointer (some (adr 102)))] from rfl) (Reps.one (show Kd.M errKd _ _ _ (some 103) [.iface 131 (.pointer (some (adr 103)))] from rfl) (Reps.one (show Kd.M errKd _ _ _ (some 104) [.iface 131 (.pointer (some (adr 104)))] from rfl) (Reps.one (show Kd.M errKd _ _ _ (some 105) [.iface 131 (.pointer (some (adr 105)))] from rfl) (Reps.one (show Kd.M errKd _ _ _ (some 106) [.iface 131 (.pointer (some (adr 106)))] from rfl) (Reps.one (show Kd.M errKd _ _ _ (some 107) [.iface 131 (.pointer (some (adr 107)))] from rfl) (Reps.one (show Kd.M errKd _ _ _ (some 108) [.iface 131 (.pointer (some (adr 108)))] from rfl) (Reps.one (show Kd.M errKd _ _ _ (some 109) [.iface 131 (.pointer (some (adr 109)))] from rfl) (Reps.one (show Kd.M errKd _ _ _ (some 110) [.iface 131 (.pointer (some (adr 110)))] from rfl) (Reps.one (show Kd.M errKd _ _ _ (some 111) [.iface 131 (.pointer (some (adr 111)))] from rfl) (Reps.one (show Kd.M errKd _ _ _ (some 112) [.iface 131 (.pointer (some (adr 112)))] from rfl) (Reps.one (show Kd.M errKd _ _ _ (some 113) [.iface 131 (.pointer (some (adr 113)))] from rfl) (Reps.one (show Kd.M errKd _ _ _ (some 114) [.iface 131 (.pointer (some (adr 114)))] from rfl) (Reps.one (show Kd.M errKd _ _ _ (some 115) [.iface 131 (.pointer (some (adr 115)))] from rfl) (Reps.one (show Kd.M errKd _ _ _ (some 116) [.iface 131 (.pointer (some (adr 116)))] from rfl) (Reps.one (show Kd.M errKd _ _ _ (some 117) [.iface 131 (.pointer (some (adr 117)))] from rfl) (Reps.one (show Kd.M errKd _ _ _ (some 118) [.iface 131 (.pointer (some (adr 118)))] from rfl) (Reps.one (show Kd.M errKd _ _ _ (some 119) [.iface 131 (.pointer (some (adr 119)))] from rfl) (Reps.one (show Kd.M errKd _ _ _ (some 120) [.iface 131 (.pointer (some (adr 120)))] from rfl) (Reps.one (show Kd.M errKd _ _ _ (some 121) [.iface 131 (.pointer (some (adr 121)))] from rfl) (Reps.none _ _))))))))))))))))))))))); intro v w2 ho3 hb hg_ hnew_; clear hg_ hnew_)
  go_ret
  exact ⟨_, rfl, ho3, hb⟩
theorem comp131 : (Tryd.prog.info? 131).map (·.comparable) = some true := by kernel_rfl
theorem size151 : (Tryd.prog.info? 151).map (·.size) = some 1 := by kernel_rfl
theorem eql_errs [Inhabited (Int → Addr)] {w : World} (hG : GlobOK w) {c d : Int} {g g' : Nat} (hc : (c, g) ∈ globTab) (hd : (d, g') ∈ globTab) :
    (binOp .eql 24 (.iface 131 (.pointer (some (adr c)))) (.iface 131 (.pointer (some (adr d))))).run Tryd.prog w = Result.ok (.bool (c == d)) w := by
  obtain ⟨i, hi, hcmp⟩ := Option.map_eq_some_iff.1 comp131
  obtain ⟨j, hj, hsz⟩ := Option.map_eq_some_iff.1 size151
  by_cases e : c = d
  · subst e
    have := run_eql_iface_ptr_same w (adr c) Tryd.underlying24 Tryd.underlying131 hi hcmp hj
    simpa using this
  · obtain ⟨_, c1, t1, h1⟩ := hG.1 _ hc
    obtain ⟨_, c2, t2, h2⟩ := hG.1 _ hd
    have := run_eql_iface_ptr_other w Tryd.underlying24 Tryd.underlying131 hi hcmp hj (by rw [hsz]; decide) (hG.2 _ hc _ hd e) h1 h2
    rw [this, show (c == d) = false from beq_eq_false_iff_ne.2 e]
set_option maxHeartbeats 4000000 in
theorem alike_calls [Inhabited (Int → Addr)] {c d : Int} {g g' : Nat} (w : World) (hG : GlobOK w) (hc : (c, g) ∈ globTab) (hd : (d, g') ∈ globTab) :
    Calls Tryd.prog 68 #[.iface 131 (.pointer (some (adr c))), .iface 131 (.pointer (some (adr d)))] w fun e w' => e = .returned (.bool (c == d)) ∧ w = w' := by
  have he := eql_errs hG hc hd
  have hu24 := Tryd.underlying24
  clear hG hc hd
  go_enter Tryd.func68, Tryd.ntmps68
  go_wp2
  go_ret
  exact ⟨rfl, rfl⟩
theorem globAll (k : Nat) (hk : k < 21) : ∃ g, (101 + (k : Int), g) ∈ globTab := by
  have h : ∀ j : Fin 21, (globTab.any fun p => p.1 == 101 + ((j : Nat) : Int)) = true := by decide
  obtain ⟨p, hp, he⟩ := List.any_eq_true.1 (h ⟨k, hk⟩)
  exact ⟨p.2, by rw [← (eq_of_beq he : p.1 = 101 + (k : Int))]; exact hp⟩
theorem sentL_at (k : Nat) (hk : k < 21) : sentL.getD k none = some (101 + (k : Int)) := by
  have h : ∀ j : Fin 21, sentL.getD (j : Nat) none = some (101 + ((j : Nat) : Int)) := by decide
  exact h ⟨k, hk⟩
theorem at_sent [Inhabited (Int → Addr)] {w : World} {A : Option Addr} {n : Nat} (h : Kd.C errKd w A n sentL) (k : Nat) (hk : k < 21) (hn : n = 21) :
    ∃ ad, A = some ad ∧ w.cell? (ad.add k) = some (.iface 131 (.pointer (some (adr (101 + (k : Int)))))) := by
  obtain ⟨ad, c, e, _, hK, hc⟩ := Kd.C_get h none (k : Int) (by omega) (by omega)
  refine ⟨ad, e, ?_⟩
  have hc' : ∀ j u, c[j]? = some u → w.cell? (ad.add (((k : Int)).toNat * 1 + j)) = some u := hc
  have hK' : c = [errW (sentL.getD ((k : Int)).toNat none)] := hK
  subst hK'
  have := hc' 0 _ rfl
  rw [Int.toNat_natCast, Nat.mul_one, Nat.add_zero, sentL_at k hk, errW_some] at this
  exact this
set_option maxHeartbeats 4000000 in
set_option maxRecDepth 100000 in
theorem sentinel_calls [Inhabited (Int → Addr)] (m : Nat) (hm : m < 21) (w : World) (hG : GlobOK w) :
    Calls Tryd.prog 53 #[.iface 131 (.pointer (some (adr (101 + (m : Int)))))] w fun e w' => e = .returned (.int .i64 (101 + (m : Int))) ∧ Below w.heap.size w w' := by
  have HG := Aside0.mk hG
  clear hG
  go_enter Tryd.func53, Tryd.ntmps53
  go_wp2_with (go_at_call 67; refine (sentinels_calls _ HG.out).mono ?_; rintro e w2 ⟨v, rfl, ho, hb⟩; obtain ⟨A, cc, ev⟩ := Kd.R_slice ho; replace ev : v = .slice A 21 cc := ev; subst ev; have HC := Aside0.mk (Kd.R_reads' ho).2.2; have HB := Aside0.mk hb; clear ho hb)
  have HG2 := Aside0.mk (GlobOK.below HG.out HB.out)
  go_loop [4] (fun i => ∃ k : Nat, k ≤ m ∧ i = .int .i64 k) (fun i => 21 - (intOf i).toNat)
  case atStart => exact ⟨0, Nat.zero_le _, rfl⟩
  case round =>
    obtain ⟨k, hk, rfl⟩ := hrel
    obtain ⟨ad, e, hx⟩ := at_sent HC.out k (by omega) rfl
    subst e
    obtain ⟨g1, hg1⟩ := globAll m hm
    obtain ⟨g2, hg2⟩ := globAll k (by omega)
    have H1 := Aside0.mk hg1
    have H2 := Aside0.mk hg2
    clear hg1 hg2
    have hlt : (k < 21) = True := eq_true (by omega)
    have hb0 : decide (k < 21) = true := decide_eq_true (by omega)
    have h0 : (0 ≤ (k : Int)) = True := eq_true (by omega)
    have hb1 : decide ((k : Int) < 21) = true := decide_eq_true (by omega)
    have hl1 : ((k : Int) < 21) = True := eq_true (by omega)
    by_cases hkm : k = m
    · subst hkm
      have hbb : ((101 + (k : Int)) == (101 + (k : Int))) = true := by simp
      go_wp2_with (go_at_call 68; refine (alike_calls _ HG2.out H1.out H2.out).mono ?_; rintro e w3 ⟨rfl, rfl⟩)
      go_ret
      exact ⟨rfl, HB.out⟩
    · have hbb : ((101 + (m : Int)) == (101 + (k : Int))) = false := by simp; omega
      go_wp2_with (go_at_call 68; refine (alike_calls _ HG2.out H1.out H2.out).mono ?_; rintro e w3 ⟨rfl, rfl⟩)
      go_round
      case rel => exact ⟨k + 1, by omega, by go_num⟩
      case measure => simp [intOf]; omega

/-! ### pledgesee_sentinel: function 53 -/
def pledgesee_sentinel.f (a0 : Option Int) : Option Int := if 101 ≤ a0.getD 0 ∧ a0.getD 0 ≤ 121 then a0 else none
theorem pledgesee_sentinel.calls [Inhabited (Int → Addr)] (a0 : Option Int) (r : Int) (w : World) (hG : GlobOK w) (h : pledgesee_sentinel.f a0 = some r) :
    Calls Tryd.prog 53 #[errW a0] w fun e w' => e = .returned (.int .i64 r) ∧ Below w.heap.size w w' := by
  rcases a0 with _ | c
  · simp [pledgesee_sentinel.f] at h
  · unfold pledgesee_sentinel.f at h
    by_cases hc : 101 ≤ (some c).getD 0 ∧ (some c).getD 0 ≤ 121
    · rw [if_pos hc] at h
      obtain rfl := Option.some.inj h
      simp only [Option.getD_some] at hc
      have := sentinel_calls (c - 101).toNat (by omega) w hG
      rw [show (101 : Int) + ((c - 101).toNat : Int) = c by omega] at this
      exact this
    · rw [if_neg hc] at h; cases h

/-! ### pledgeref_Placed: function 54 -/
def pledgeref_Placed.f (a0 : Int) (a1 : Int) : Option (Int × Bool × Int) := if a0 = 0 then ((pledgeref_None.f).bind fun bt168 => (some (bt168.1, bt168.2.1, bt168.2.2))) else (some (a0, true, a1))
set_option maxHeartbeats 8000000 in
set_option maxRecDepth 100000 in
theorem pledgeref_Placed.calls [Inhabited (Int → Addr)] (a0 : Int) (a1 : Int) (r1 : Int) (r2 : Bool) (r3 : Int) (w : World) (h : pledgeref_Placed.f a0 a1 = some (r1, r2, r3)) :
    Calls Tryd.prog 54 #[.int .i64 a0, .int .i64 a1] w fun e w' => e = .returned (.agg #[.int .i64 r1, .bool r2, .int .i64 r3]) ∧ Below w.heap.size w w' := by
  have hu66 := Tryd.underlying66
  have HB := Aside0.mk (Below.refl w.heap.size w)
  have H : (if a0 = 0 then ((pledgeref_None.f).bind fun bt168 => (some (bt168.1, bt168.2.1, bt168.2.2))) else (some (a0, true, a1))) = some (r1, r2, r3) := h
  clear h
  by_cases c3 : a0 = 0
  · rw [if_pos c3] at H
    have c3b0 : (a0 == 0) = true := beq_iff_eq.mpr c3
    have c3b1 : (a0 != 0) = false := bne_eq_false_iff_eq.mpr c3
    clear c3
    replace H := Option.bind_eq_some_iff.mp H
    obtain ⟨⟨t168, t169, t170⟩, A40, H⟩ := H
    replace H : (some (t168, t169, t170)) = some (r1, r2, r3) := H
    have A4 := Aside0.mk A40
    clear A40
    simp only [Option.some.injEq, Prod.mk.injEq] at H
    obtain ⟨rfl, rfl, rfl⟩ := H
    go_enter Tryd.func54, Tryd.ntmps54
    go_wp2_with (first | ((with_reducible refine gate_dst (N := 4) rfl ?_); refine box_event ?hg (N := 4) ?hd (cs := #[.int .i64 0, .bool false, .int .i64 0]) (t := 66) ?hr ?_; (case hd => rfl); (case hg => rfl); (case hr => first | (go_simp; done) | (go_simp; rfl)); intro gb167 hg w5 hbox hb; have n0_ := Aside0.mk (below_step (by repeat (first | (with_reducible first | exact HB.out | apply below_alloc | apply pw_below_drewN | apply below_drew1) | exact HB.out)) hb); have n1_ := Aside0.mk (hbox); have n2_ := Aside0.mk ((by rw [hg]; exact (below_size (by repeat (first | (with_reducible first | exact HB.out | apply below_alloc | apply pw_below_drewN | apply below_drew1) | exact HB.out))) : w.heap.size ≤ gb167)); have n3_ := Aside0.mk ((by rw [hg]; exact (below_size (by repeat (first | (with_reducible first | exact HB.out | apply below_alloc | apply pw_below_drewN | apply below_drew1) | exact HB.out))) : w.heap.size ≤ gb167)); clear HB; have HB := n0_; have BK167 := n1_; have GW167 := n2_; have GE167 := n3_; clear n0_ n1_ n2_ n3_; clear hb hbox hg) | ((with_reducible refine gate_callee (f := 52) rfl ?_); refine goesL_ (some 7) rfl rfl Tryd.func52 (by kernel_rfl) rfl #[] rfl (by (try simp only [List.map_toArray, List.map_cons, List.map_nil]); first | done | rfl | (simp only [List.length_drop, List.length_take]; rfl)) ?_; (with_reducible refine (pledgeref_None.calls  t168 t169 t170 _ A4.out).mono ?_); rintro e w6 ⟨rfl, hb⟩; refine ⟨_, rfl, ?_⟩; have n0_ := Aside0.mk (blk_below (g := gb167) (o := .cells #[.int .i64 0, .bool false, .int .i64 0] 66 (0, 0)) (by (with_reducible repeat (first | refine blk_drewN ?_ _ | refine blk_drew ?_ | refine blk_alloc ?_ _)); exact BK167.out) hb); have n1_ := Aside0.mk (below_step (by repeat (first | (with_reducible first | exact HB.out | apply below_alloc | apply pw_below_drewN | apply below_drew1 | refine below_set ?_ GE167.out) | exact HB.out)) hb); clear BK167; clear HB; have BK167 := n0_; have HB := n1_; clear n0_ n1_; (try clear hb); (try clear hb2); (try clear hk); (try clear hi); have hcz7_0 : w6.cell? ⟨gb167, 0, none⟩ = some (.int .i64 0) := (blk_cell BK167.out 0).trans rfl; have hcz7_1 : w6.cell? ⟨gb167, 1, none⟩ = some (.bool false) := (blk_cell BK167.out 1).trans rfl; have hcz7_2 : w6.cell? ⟨gb167, 2, none⟩ = some (.int .i64 0) := (blk_cell BK167.out 2).trans rfl; have hfz7_0 := blk_frozen BK167.out 0; have hfz7_1 := blk_frozen BK167.out 1; have hfz7_2 := blk_frozen BK167.out 2))
    refine bodyPost_ret (results_cell_row rfl _ _ gb167 66 #[.int .i64 t168, .bool t169, .int .i64 t170] (0, 0) _ rfl (by (with_reducible repeat (first | refine blk_drewN ?_ _ | refine blk_drew ?_ | refine blk_alloc ?_ _)); refine blk_put (cs := #[.int .i64 t168, .bool t169, .int .i64 0]) ?_ 2 _ rfl; (with_reducible repeat (first | refine blk_drewN ?_ _ | refine blk_drew ?_ | refine blk_alloc ?_ _)); refine blk_put (cs := #[.int .i64 t168, .bool false, .int .i64 0]) ?_ 1 _ rfl; (with_reducible repeat (first | refine blk_drewN ?_ _ | refine blk_drew ?_ | refine blk_alloc ?_ _)); refine blk_put (cs := #[.int .i64 0, .bool false, .int .i64 0]) ?_ 0 _ rfl; (with_reducible repeat (first | refine blk_drewN ?_ _ | refine blk_drew ?_ | refine blk_alloc ?_ _)); exact BK167.out) Tryd.underlying66 rfl (by kernel_rfl)) rfl ?_
    exact ⟨by first | rfl | (simp [errW_none, errW_some] <;> rfl) | (exfalso; simp_all; done) | (simp [*, errW_none, errW_some] <;> rfl), by repeat (first | (with_reducible first | exact HB.out | apply below_alloc | apply pw_below_drewN | apply below_drew1 | refine below_set ?_ GE167.out) | exact HB.out)⟩
  · rw [if_neg c3] at H
    have c3b0 : (a0 == 0) = false := beq_eq_false_iff_ne.mpr c3
    have c3b1 : (a0 != 0) = true := bne_iff_ne.mpr c3
    simp only [Option.some.injEq, Prod.mk.injEq] at H
    obtain ⟨rfl, rfl, rfl⟩ := H
    go_enter Tryd.func54, Tryd.ntmps54
    go_wp2_with (first | ((with_reducible refine gate_dst (N := 4) rfl ?_); refine box_event ?hg (N := 4) ?hd (cs := #[.int .i64 0, .bool false, .int .i64 0]) (t := 66) ?hr ?_; (case hd => rfl); (case hg => rfl); (case hr => first | (go_simp; done) | (go_simp; rfl)); intro gb167 hg w8 hbox hb; have n0_ := Aside0.mk (below_step (by repeat (first | (with_reducible first | exact HB.out | apply below_alloc | apply pw_below_drewN | apply below_drew1) | exact HB.out)) hb); have n1_ := Aside0.mk (hbox); have n2_ := Aside0.mk ((by rw [hg]; exact (below_size (by repeat (first | (with_reducible first | exact HB.out | apply below_alloc | apply pw_below_drewN | apply below_drew1) | exact HB.out))) : w.heap.size ≤ gb167)); have n3_ := Aside0.mk ((by rw [hg]; exact (below_size (by repeat (first | (with_reducible first | exact HB.out | apply below_alloc | apply pw_below_drewN | apply below_drew1) | exact HB.out))) : w.heap.size ≤ gb167)); clear HB; have HB := n0_; have BK167 := n1_; have GW167 := n2_; have GE167 := n3_; clear n0_ n1_ n2_ n3_; clear hb hbox hg; have hcz9_0 : w8.cell? ⟨gb167, 0, none⟩ = some (.int .i64 0) := (blk_cell BK167.out 0).trans rfl; have hcz9_1 : w8.cell? ⟨gb167, 1, none⟩ = some (.bool false) := (blk_cell BK167.out 1).trans rfl; have hcz9_2 : w8.cell? ⟨gb167, 2, none⟩ = some (.int .i64 0) := (blk_cell BK167.out 2).trans rfl; have hfz9_0 := blk_frozen BK167.out 0; have hfz9_1 := blk_frozen BK167.out 1; have hfz9_2 := blk_frozen BK167.out 2))
    refine bodyPost_ret (results_cell_row rfl _ _ gb167 66 #[.int .i64 a0, .bool true, .int .i64 a1] (0, 0) _ rfl (by (with_reducible repeat (first | refine blk_drewN ?_ _ | refine blk_drew ?_ | refine blk_alloc ?_ _)); refine blk_put (cs := #[.int .i64 a0, .bool true, .int .i64 0]) ?_ 2 _ rfl; (with_reducible repeat (first | refine blk_drewN ?_ _ | refine blk_drew ?_ | refine blk_alloc ?_ _)); refine blk_put (cs := #[.int .i64 a0, .bool false, .int .i64 0]) ?_ 1 _ rfl; (with_reducible repeat (first | refine blk_drewN ?_ _ | refine blk_drew ?_ | refine blk_alloc ?_ _)); refine blk_put (cs := #[.int .i64 0, .bool false, .int .i64 0]) ?_ 0 _ rfl; (with_reducible repeat (first | refine blk_drewN ?_ _ | refine blk_drew ?_ | refine blk_alloc ?_ _)); exact BK167.out) Tryd.underlying66 rfl (by kernel_rfl)) rfl ?_
    exact ⟨by first | rfl | (simp [errW_none, errW_some] <;> rfl) | (exfalso; simp_all; done) | (simp [*, errW_none, errW_some] <;> rfl), by repeat (first | (with_reducible first | exact HB.out | apply below_alloc | apply pw_below_drewN | apply below_drew1 | refine below_set ?_ GE167.out) | exact HB.out)⟩

/-! ### pledgesee_Fault: function 36 -/
def pledgesee_Fault.f (a0 : Option Int) : Option (Int × Bool × Int) := if a0.isNone = true then ((pledgeref_None.f).bind fun bt173 => (some (bt173.1, bt173.2.1, bt173.2.2))) else ((pledgesee_sentinel.f (some (a0.getD 0))).bind fun t176 => ((pledgeref_Bare.f t176).bind fun bt177 => (some (bt177.1, bt177.2.1, bt177.2.2))))
set_option maxHeartbeats 8000000 in
set_option maxRecDepth 100000 in
theorem pledgesee_Fault.calls [Inhabited (Int → Addr)] (a0 : Option Int) (r1 : Int) (r2 : Bool) (r3 : Int) (w : World) (hG : GlobOK w) (h : pledgesee_Fault.f a0 = some (r1, r2, r3)) :
    Calls Tryd.prog 36 #[errW a0] w fun e w' => e = .returned (.agg #[.int .i64 r1, .bool r2, .int .i64 r3]) ∧ Below w.heap.size w w' := by
  have hu66 := Tryd.underlying66
  have hu24 := Tryd.underlying24
  have hu131 := Tryd.underlying131
  have hta : ∀ (v : Value) (W : World), (Instr.typeAssert (.iface 131 v) 24 95 true).run Tryd.prog W = .ok (.tuple #[.pointer none, .bool false]) W := fun v W => by rfl
  have HG := Aside0.mk hG
  clear hG
  have HB := Aside0.mk (Below.refl w.heap.size w)
  have H : (if a0.isNone = true then ((pledgeref_None.f).bind fun bt173 => (some (bt173.1, bt173.2.1, bt173.2.2))) else ((pledgesee_sentinel.f (some (a0.getD 0))).bind fun t176 => ((pledgeref_Bare.f t176).bind fun bt177 => (some (bt177.1, bt177.2.1, bt177.2.2))))) = some (r1, r2, r3) := h
  clear h
  rcases a0 with _ | q172
  · have H1 : ((pledgeref_None.f).bind fun bt173 => (some (bt173.1, bt173.2.1, bt173.2.2))) = some (r1, r2, r3) := by rw [if_pos (show (none : Option Int).isNone = true by rfl)] at H; exact H
    clear H
    have H := H1
    clear H1
    simp only [errW_none, errW_some]
    replace H := Option.bind_eq_some_iff.mp H
    obtain ⟨⟨t173, t174, t175⟩, A20, H⟩ := H
    replace H : (some (t173, t174, t175)) = some (r1, r2, r3) := H
    have A2 := Aside0.mk A20
    clear A20
    simp only [Option.some.injEq, Prod.mk.injEq] at H
    obtain ⟨rfl, rfl, rfl⟩ := H
    go_enter Tryd.func36, Tryd.ntmps36
    go_wp2_with (first | ((with_reducible refine gate_dst (N := 2) rfl ?_); refine box_event ?hg (N := 2) ?hd (cs := #[.int .i64 0, .bool false, .int .i64 0]) (t := 66) ?hr ?_; (case hd => rfl); (case hg => rfl); (case hr => first | (go_simp; done) | (go_simp; rfl)); intro gb171 hg w3 hbox hb; have n0_ := Aside0.mk (below_step (by repeat (first | (with_reducible first | exact HB.out | apply below_alloc | apply pw_below_drewN | apply below_drew1) | exact HB.out)) hb); have n1_ := Aside0.mk (hbox); have n2_ := Aside0.mk ((by rw [hg]; exact (below_size (by repeat (first | (with_reducible first | exact HB.out | apply below_alloc | apply pw_below_drewN | apply below_drew1) | exact HB.out))) : w.heap.size ≤ gb171)); have n3_ := Aside0.mk ((by rw [hg]; exact (below_size (by repeat (first | (with_reducible first | exact HB.out | apply below_alloc | apply pw_below_drewN | apply below_drew1) | exact HB.out))) : w.heap.size ≤ gb171)); clear HB; have HB := n0_; have BK171 := n1_; have GW171 := n2_; have GE171 := n3_; clear n0_ n1_ n2_ n3_; clear hb hbox hg) | ((with_reducible refine gate_callee (f := 52) rfl ?_); refine goesL_ (some 7) rfl rfl Tryd.func52 (by kernel_rfl) rfl #[] rfl (by (try simp only [List.map_toArray, List.map_cons, List.map_nil]); first | done | rfl | (simp only [List.length_drop, List.length_take]; rfl)) ?_; (with_reducible refine (pledgeref_None.calls  t173 t174 t175 _ A2.out).mono ?_); rintro e w4 ⟨rfl, hb⟩; refine ⟨_, rfl, ?_⟩; have n0_ := Aside0.mk (blk_below (g := gb171) (o := .cells #[.int .i64 0, .bool false, .int .i64 0] 66 (0, 0)) (by (with_reducible repeat (first | refine blk_drewN ?_ _ | refine blk_drew ?_ | refine blk_alloc ?_ _)); exact BK171.out) hb); have n1_ := Aside0.mk (below_step (by repeat (first | (with_reducible first | exact HB.out | apply below_alloc | apply pw_below_drewN | apply below_drew1 | refine below_set ?_ GE171.out) | exact HB.out)) hb); clear BK171; clear HB; have BK171 := n0_; have HB := n1_; clear n0_ n1_; (try clear hb); (try clear hb2); (try clear hk); (try clear hi); have hcz5_0 : w4.cell? ⟨gb171, 0, none⟩ = some (.int .i64 0) := (blk_cell BK171.out 0).trans rfl; have hcz5_1 : w4.cell? ⟨gb171, 1, none⟩ = some (.bool false) := (blk_cell BK171.out 1).trans rfl; have hcz5_2 : w4.cell? ⟨gb171, 2, none⟩ = some (.int .i64 0) := (blk_cell BK171.out 2).trans rfl; have hfz5_0 := blk_frozen BK171.out 0; have hfz5_1 := blk_frozen BK171.out 1; have hfz5_2 := blk_frozen BK171.out 2))
    refine bodyPost_ret (results_cell_row rfl _ _ gb171 66 #[.int .i64 t173, .bool t174, .int .i64 t175] (0, 0) _ rfl (by (with_reducible repeat (first | refine blk_drewN ?_ _ | refine blk_drew ?_ | refine blk_alloc ?_ _)); refine blk_put (cs := #[.int .i64 t173, .bool t174, .int .i64 0]) ?_ 2 _ rfl; (with_reducible repeat (first | refine blk_drewN ?_ _ | refine blk_drew ?_ | refine blk_alloc ?_ _)); refine blk_put (cs := #[.int .i64 t173, .bool false, .int .i64 0]) ?_ 1 _ rfl; (with_reducible repeat (first | refine blk_drewN ?_ _ | refine blk_drew ?_ | refine blk_alloc ?_ _)); refine blk_put (cs := #[.int .i64 0, .bool false, .int .i64 0]) ?_ 0 _ rfl; (with_reducible repeat (first | refine blk_drewN ?_ _ | refine blk_drew ?_ | refine blk_alloc ?_ _)); exact BK171.out) Tryd.underlying66 rfl (by kernel_rfl)) rfl ?_
    exact ⟨by first | rfl | (simp [errW_none, errW_some] <;> rfl) | (exfalso; simp_all; done) | (simp [*, errW_none, errW_some] <;> rfl), by repeat (first | (with_reducible first | exact HB.out | apply below_alloc | apply pw_below_drewN | apply below_drew1 | refine below_set ?_ GE171.out) | exact HB.out)⟩
  · have H1 : ((pledgesee_sentinel.f (some q172)).bind fun t176 => ((pledgeref_Bare.f t176).bind fun bt177 => (some (bt177.1, bt177.2.1, bt177.2.2)))) = some (r1, r2, r3) := by rw [if_neg (show ¬ (some q172).isNone = true by simp)] at H; exact H
    clear H
    have H := H1
    clear H1
    simp only [errW_none, errW_some]
    replace H := Option.bind_eq_some_iff.mp H
    obtain ⟨t176, A60, H⟩ := H
    replace H : ((pledgeref_Bare.f t176).bind fun bt177 => (some (bt177.1, bt177.2.1, bt177.2.2))) = some (r1, r2, r3) := H
    have A6 := Aside0.mk A60
    clear A60
    replace H := Option.bind_eq_some_iff.mp H
    obtain ⟨⟨t177, t178, t179⟩, A70, H⟩ := H
    replace H : (some (t177, t178, t179)) = some (r1, r2, r3) := H
    have A7 := Aside0.mk A70
    clear A70
    simp only [Option.some.injEq, Prod.mk.injEq] at H
    obtain ⟨rfl, rfl, rfl⟩ := H
    go_enter Tryd.func36, Tryd.ntmps36
    go_wp2_with (first | ((with_reducible refine gate_dst (N := 2) rfl ?_); refine box_event ?hg (N := 2) ?hd (cs := #[.int .i64 0, .bool false, .int .i64 0]) (t := 66) ?hr ?_; (case hd => rfl); (case hg => rfl); (case hr => first | (go_simp; done) | (go_simp; rfl)); intro gb171 hg w8 hbox hb; have n0_ := Aside0.mk (below_step (by repeat (first | (with_reducible first | exact HB.out | apply below_alloc | apply pw_below_drewN | apply below_drew1) | exact HB.out)) hb); have n1_ := Aside0.mk (hbox); have n2_ := Aside0.mk ((by rw [hg]; exact (below_size (by repeat (first | (with_reducible first | exact HB.out | apply below_alloc | apply pw_below_drewN | apply below_drew1) | exact HB.out))) : w.heap.size ≤ gb171)); have n3_ := Aside0.mk ((by rw [hg]; exact (below_size (by repeat (first | (with_reducible first | exact HB.out | apply below_alloc | apply pw_below_drewN | apply below_drew1) | exact HB.out))) : w.heap.size ≤ gb171)); clear HB; have HB := n0_; have BK171 := n1_; have GW171 := n2_; have GE171 := n3_; clear n0_ n1_ n2_ n3_; clear hb hbox hg; have CA6 := fun W hG_ => pledgesee_sentinel.calls (some q172) t176 W hG_ A6.out; try simp only [errW_none, errW_some] at CA6) | (go_at_call 53; (with_reducible refine (CA6 _ ?side1).mono ?_); (case side1 => exact GlobOK.below HG.out (by repeat (first | (with_reducible first | exact HB.out | apply below_alloc | apply pw_below_drewN | apply below_drew1 | refine below_set ?_ GE171.out) | exact HB.out))); rintro e w9 ⟨rfl, hb⟩; have n0_ := Aside0.mk (blk_below (g := gb171) (o := .cells #[.int .i64 0, .bool false, .int .i64 0] 66 (0, 0)) (by (with_reducible repeat (first | refine blk_drewN ?_ _ | refine blk_drew ?_ | refine blk_alloc ?_ _)); exact BK171.out) hb); have n1_ := Aside0.mk (below_step (by repeat (first | (with_reducible first | exact HB.out | apply below_alloc | apply pw_below_drewN | apply below_drew1 | refine below_set ?_ GE171.out) | exact HB.out)) hb); clear BK171; clear HB; have BK171 := n0_; have HB := n1_; clear n0_ n1_; (try clear hb); (try clear hb2); (try clear hk); (try clear hi)) | ((with_reducible refine gate_callee (f := 22) rfl ?_); refine goesL_ (some 17) rfl rfl Tryd.func22 (by kernel_rfl) rfl #[.int .i64 t176] rfl (by (try simp only [List.map_toArray, List.map_cons, List.map_nil]); first | done | rfl | (simp only [List.length_drop, List.length_take]; rfl)) ?_; (with_reducible refine (pledgeref_Bare.calls t176 t177 t178 t179 _ A7.out).mono ?_); rintro e w10 ⟨rfl, hb⟩; refine ⟨_, rfl, ?_⟩; have n0_ := Aside0.mk (blk_below (g := gb171) (o := .cells #[.int .i64 0, .bool false, .int .i64 0] 66 (0, 0)) (by (with_reducible repeat (first | refine blk_drewN ?_ _ | refine blk_drew ?_ | refine blk_alloc ?_ _)); exact BK171.out) hb); have n1_ := Aside0.mk (below_step (by repeat (first | (with_reducible first | exact HB.out | apply below_alloc | apply pw_below_drewN | apply below_drew1 | refine below_set ?_ GE171.out) | exact HB.out)) hb); clear BK171; clear HB; have BK171 := n0_; have HB := n1_; clear n0_ n1_; (try clear hb); (try clear hb2); (try clear hk); (try clear hi); have hcz11_0 : w10.cell? ⟨gb171, 0, none⟩ = some (.int .i64 0) := (blk_cell BK171.out 0).trans rfl; have hcz11_1 : w10.cell? ⟨gb171, 1, none⟩ = some (.bool false) := (blk_cell BK171.out 1).trans rfl; have hcz11_2 : w10.cell? ⟨gb171, 2, none⟩ = some (.int .i64 0) := (blk_cell BK171.out 2).trans rfl; have hfz11_0 := blk_frozen BK171.out 0; have hfz11_1 := blk_frozen BK171.out 1; have hfz11_2 := blk_frozen BK171.out 2))
    refine bodyPost_ret (results_cell_row rfl _ _ gb171 66 #[.int .i64 t177, .bool t178, .int .i64 t179] (0, 0) _ rfl (by (with_reducible repeat (first | refine blk_drewN ?_ _ | refine blk_drew ?_ | refine blk_alloc ?_ _)); refine blk_put (cs := #[.int .i64 t177, .bool t178, .int .i64 0]) ?_ 2 _ rfl; (with_reducible repeat (first | refine blk_drewN ?_ _ | refine blk_drew ?_ | refine blk_alloc ?_ _)); refine blk_put (cs := #[.int .i64 t177, .bool false, .int .i64 0]) ?_ 1 _ rfl; (with_reducible repeat (first | refine blk_drewN ?_ _ | refine blk_drew ?_ | refine blk_alloc ?_ _)); refine blk_put (cs := #[.int .i64 0, .bool false, .int .i64 0]) ?_ 0 _ rfl; (with_reducible repeat (first | refine blk_drewN ?_ _ | refine blk_drew ?_ | refine blk_alloc ?_ _)); exact BK171.out) Tryd.underlying66 rfl (by kernel_rfl)) rfl ?_
    exact ⟨by first | rfl | (simp [errW_none, errW_some] <;> rfl) | (exfalso; simp_all; done) | (simp [*, errW_none, errW_some] <;> rfl), by repeat (first | (with_reducible first | exact HB.out | apply below_alloc | apply pw_below_drewN | apply below_drew1 | refine below_set ?_ GE171.out) | exact HB.out)⟩

/-! ### pledgesee_Same: function 21 -/
def pledgesee_Same.f (a0 : Option Int) (a1_0 : Int) (a1_1 : Bool) (a1_2 : Int) : Option (Bool) := (pledgesee_Fault.f a0).bind fun bt181 => ((pledgeref_SameFault.f bt181.1 bt181.2.1 bt181.2.2 a1_0 a1_1 a1_2).bind fun t184 => (some t184))
set_option maxHeartbeats 8000000 in
set_option maxRecDepth 100000 in
theorem pledgesee_Same.calls [Inhabited (Int → Addr)] (a0 : Option Int) (a1_0 : Int) (a1_1 : Bool) (a1_2 : Int) (r : Bool) (w : World) (hG : GlobOK w) (h : pledgesee_Same.f a0 a1_0 a1_1 a1_2 = some r) :
    Calls Tryd.prog 21 #[errW a0, .agg #[.int .i64 a1_0, .bool a1_1, .int .i64 a1_2]] w fun e w' => e = .returned (.bool r) ∧ Below w.heap.size w w' := by
  have hu66 := Tryd.underlying66
  have HG := Aside0.mk hG
  clear hG
  have HB := Aside0.mk (Below.refl w.heap.size w)
  have H : ((pledgesee_Fault.f a0).bind fun bt181 => ((pledgeref_SameFault.f bt181.1 bt181.2.1 bt181.2.2 a1_0 a1_1 a1_2).bind fun t184 => (some t184))) = some r := h
  clear h
  replace H := Option.bind_eq_some_iff.mp H
  obtain ⟨⟨t181, t182, t183⟩, A30, H⟩ := H
  replace H : ((pledgeref_SameFault.f t181 t182 t183 a1_0 a1_1 a1_2).bind fun t184 => (some t184)) = some r := H
  have A3 := Aside0.mk A30
  clear A30
  replace H := Option.bind_eq_some_iff.mp H
  obtain ⟨t184, A40, H⟩ := H
  replace H : (some t184) = some r := H
  have A4 := Aside0.mk A40
  clear A40
  obtain rfl := Option.some.inj H
  go_enter Tryd.func21, Tryd.ntmps21
  try go_wp2_with (first | ((with_reducible refine gate_dst (N := 3) rfl ?_); refine box_event ?hg (N := 3) ?hd (cs := #[.int .i64 a1_0, .bool a1_1, .int .i64 a1_2]) (t := 66) ?hr ?_; (case hd => rfl); (case hg => rfl); (case hr => first | (go_simp; done) | (go_simp; rfl)); intro gb180 hg w5 hbox hb; have n0_ := Aside0.mk (below_step (by repeat (first | (with_reducible first | exact HB.out | apply below_alloc | apply pw_below_drewN | apply below_drew1) | exact HB.out)) hb); have n1_ := Aside0.mk (hbox); have n2_ := Aside0.mk ((by rw [hg]; exact (below_size (by repeat (first | (with_reducible first | exact HB.out | apply below_alloc | apply pw_below_drewN | apply below_drew1) | exact HB.out))) : w.heap.size ≤ gb180)); have n3_ := Aside0.mk ((by rw [hg]; exact (below_size (by repeat (first | (with_reducible first | exact HB.out | apply below_alloc | apply pw_below_drewN | apply below_drew1) | exact HB.out))) : w.heap.size ≤ gb180)); clear HB; have HB := n0_; have BK180 := n1_; have GW180 := n2_; have GE180 := n3_; clear n0_ n1_ n2_ n3_; clear hb hbox hg))
  have n0_ := Aside0.mk (blk_drew BK180.out)
  have n1_ := Aside0.mk (below_drew1 HB.out)
  clear BK180
  clear HB
  have BK180 := n0_
  have HB := n1_
  clear n0_ n1_
  have CA3 := fun W hG_ => pledgesee_Fault.calls a0 t181 t182 t183 W hG_ A3.out
  try simp only [errW_none, errW_some] at CA3
  refine start_ (n := 5) (S := fun w' => w'.cell? ⟨gb180, 0, none⟩ = some (.int .i64 a1_0) ∧ w'.cell? ⟨gb180, 1, none⟩ = some (.bool a1_1) ∧ w'.cell? ⟨gb180, 2, none⟩ = some (.int .i64 a1_2)) (ds := []) #[false, false, false, false, false] (by kernel_rfl) rfl rfl ⟨(blk_cell BK180.out 0).trans rfl, (blk_cell BK180.out 1).trans rfl, (blk_cell BK180.out 2).trans rfl⟩ (fun hHeld => ?_)
  generalize w5.drew = w6 at BK180 HB hHeld ⊢
  refine pure_ (i := 0) (N := some 5) (v := ?_) (a' := ?_) #[true, false, false, false, false] rfl rfl (by kernel_rfl) (fun _ _ _ h => h) (Or.inl ⟨by rfl, ?_⟩) ?_ ?_
  rotate_left
  · intro w'
    go_simp
    with_reducible rfl
  rotate_left
  · simp only [Act.put, List.setIfInBounds_toArray, List.set_cons_zero, List.set_cons_succ, i64_w, i32_w]
    rfl
  refine take_ (i := 2) (N := some 7) (v := ?_) (a' := ?_) #[true, false, true, false, false] rfl rfl (by kernel_rfl) (fun _ _ _ h => h) (Or.inl ⟨by rfl, ?_⟩) hHeld ?_ ?_
  rotate_left
  · rintro w' ⟨s0, s1, s2⟩
    go_simp
    with_reducible rfl
  rotate_left
  · simp only [Act.put, List.setIfInBounds_toArray, List.set_cons_zero, List.set_cons_succ, i64_w, i32_w]
    rfl
  refine one_ (i := 1) (N := some 6) #[true, true, true, false, false] rfl rfl (by kernel_rfl) (by decide) (fun K hK => ?_)
  refine goes_ Tryd.func36 (by kernel_rfl) rfl #[errW a0] (by rfl) rfl rfl (by (try simp only [List.map_toArray, List.map_cons, List.map_nil]); first | done | rfl | (simp only [List.length_drop, List.length_take]; rfl)) ?_
  with_reducible refine (CA3 _ ?side1).mono ?_
  (case side1 => exact GlobOK.below HG.out (by repeat (first | (with_reducible first | exact HB.out | apply below_alloc | apply pw_below_drewN | apply below_drew1 | refine below_set ?_ GE180.out) | exact HB.out)))
  rintro e w7 ⟨rfl, hb⟩
  refine ⟨_, rfl, ?_⟩
  have n0_ := Aside0.mk (blk_below (g := gb180) (o := .cells #[.int .i64 a1_0, .bool a1_1, .int .i64 a1_2] 66 (0, 0)) (by (with_reducible repeat (first | refine blk_drewN ?_ _ | refine blk_drew ?_ | refine blk_alloc ?_ _)); exact BK180.out) hb)
  have n1_ := Aside0.mk (below_step (by repeat (first | (with_reducible first | exact HB.out | apply below_alloc | apply pw_below_drewN | apply below_drew1 | refine below_set ?_ GE180.out) | exact HB.out)) hb)
  clear BK180
  clear HB
  have BK180 := n0_
  have HB := n1_
  clear n0_ n1_
  (try clear hb)
  (try clear hb2)
  (try clear hk)
  (try clear hi)
  refine hK.out _ _ ⟨(blk_cell BK180.out 0).trans rfl, (blk_cell BK180.out 1).trans rfl, (blk_cell BK180.out 2).trans rfl⟩ (fun hHeld => ?_)
  clear hK K
  refine norm_ (a' := ?_) ?_ ?_
  rotate_left
  · show Act.put _ (some 6) _ = _
    simp only [Act.put, List.setIfInBounds_toArray, List.set_cons_zero, List.set_cons_succ, i64_w, i32_w]
    rfl
  refine one_ (i := 3) (N := some 8) #[true, true, true, true, false] rfl rfl (by kernel_rfl) (by decide) (fun K hK => ?_)
  refine goes_ Tryd.func35 (by kernel_rfl) rfl #[.agg #[.int .i64 t181, .bool t182, .int .i64 t183], .agg #[.int .i64 a1_0, .bool a1_1, .int .i64 a1_2]] (by rfl) rfl rfl (by (try simp only [List.map_toArray, List.map_cons, List.map_nil]); first | done | rfl | (simp only [List.length_drop, List.length_take]; rfl)) ?_
  with_reducible refine (pledgeref_SameFault.calls t181 t182 t183 a1_0 a1_1 a1_2 t184 _ A4.out).mono ?_
  rintro e w8 ⟨rfl, hb⟩
  refine ⟨_, rfl, ?_⟩
  have n0_ := Aside0.mk (blk_below (g := gb180) (o := .cells #[.int .i64 a1_0, .bool a1_1, .int .i64 a1_2] 66 (0, 0)) (by (with_reducible repeat (first | refine blk_drewN ?_ _ | refine blk_drew ?_ | refine blk_alloc ?_ _)); exact BK180.out) hb)
  have n1_ := Aside0.mk (below_step (by repeat (first | (with_reducible first | exact HB.out | apply below_alloc | apply pw_below_drewN | apply below_drew1 | refine below_set ?_ GE180.out) | exact HB.out)) hb)
  clear BK180
  clear HB
  have BK180 := n0_
  have HB := n1_
  clear n0_ n1_
  (try clear hb)
  (try clear hb2)
  (try clear hk)
  (try clear hi)
  refine hK.out _ _ ⟨(blk_cell BK180.out 0).trans rfl, (blk_cell BK180.out 1).trans rfl, (blk_cell BK180.out 2).trans rfl⟩ (fun hHeld => ?_)
  clear hK K
  refine norm_ (a' := ?_) ?_ ?_
  rotate_left
  · show Act.put _ (some 8) _ = _
    simp only [Act.put, List.setIfInBounds_toArray, List.set_cons_zero, List.set_cons_succ, i64_w, i32_w]
    rfl
  refine pure_ (i := 4) (N := some 4) (v := ?_) (a' := ?_) #[true, true, true, true, true] rfl rfl (by kernel_rfl) (fun _ _ _ h => h) (Or.inl ⟨by rfl, ?_⟩) ?_ ?_
  rotate_left
  · intro w'
    go_simp
    with_reducible rfl
  rotate_left
  · simp only [Act.put, List.setIfInBounds_toArray, List.set_cons_zero, List.set_cons_succ, i64_w, i32_w]
    rfl
  refine done_ (by kernel_rfl) ?_
  try go_wp2
  go_ret
  exact ⟨by first | rfl | (simp [errW_none, errW_some] <;> rfl) | (exfalso; simp_all; done) | (simp [*, errW_none, errW_some] <;> rfl), by repeat (first | (with_reducible first | exact HB.out | apply below_alloc | apply pw_below_drewN | apply below_drew1 | refine below_set ?_ GE180.out) | exact HB.out)⟩

/-! ### pledgesee_Is: function 9 -/
def pledgesee_Is.f (a0 : Option Int) (a1 : Int) : Option (Bool) := (pledgeref_Bare.f a1).bind fun bt185 => ((pledgesee_Same.f a0 bt185.1 bt185.2.1 bt185.2.2).bind fun t188 => (some t188))
set_option maxHeartbeats 8000000 in
set_option maxRecDepth 100000 in
theorem pledgesee_Is.calls [Inhabited (Int → Addr)] (a0 : Option Int) (a1 : Int) (r : Bool) (w : World) (hG : GlobOK w) (h : pledgesee_Is.f a0 a1 = some r) :
    Calls Tryd.prog 9 #[errW a0, .int .i64 a1] w fun e w' => e = .returned (.bool r) ∧ Below w.heap.size w w' := by
  have HG := Aside0.mk hG
  clear hG
  have HB := Aside0.mk (Below.refl w.heap.size w)
  have H : ((pledgeref_Bare.f a1).bind fun bt185 => ((pledgesee_Same.f a0 bt185.1 bt185.2.1 bt185.2.2).bind fun t188 => (some t188))) = some r := h
  clear h
  replace H := Option.bind_eq_some_iff.mp H
  obtain ⟨⟨t185, t186, t187⟩, A30, H⟩ := H
  replace H : ((pledgesee_Same.f a0 t185 t186 t187).bind fun t188 => (some t188)) = some r := H
  have A3 := Aside0.mk A30
  clear A30
  replace H := Option.bind_eq_some_iff.mp H
  obtain ⟨t188, A40, H⟩ := H
  replace H : (some t188) = some r := H
  have A4 := Aside0.mk A40
  clear A40
  obtain rfl := Option.some.inj H
  go_enter Tryd.func9, Tryd.ntmps9
  go_wp2_with (first | ((with_reducible refine gate_callee (f := 22) rfl ?_); refine goesL_ (some 7) rfl rfl Tryd.func22 (by kernel_rfl) rfl #[.int .i64 a1] rfl (by (try simp only [List.map_toArray, List.map_cons, List.map_nil]); first | done | rfl | (simp only [List.length_drop, List.length_take]; rfl)) ?_; (with_reducible refine (pledgeref_Bare.calls a1 t185 t186 t187 _ A3.out).mono ?_); rintro e w5 ⟨rfl, hb⟩; refine ⟨_, rfl, ?_⟩; have n0_ := Aside0.mk (below_step (by repeat (first | (with_reducible first | exact HB.out | apply below_alloc | apply pw_below_drewN | apply below_drew1) | exact HB.out)) hb); clear HB; have HB := n0_; clear n0_; (try clear hb); (try clear hb2); (try clear hk); (try clear hi); have CA4 := fun W hG_ => pledgesee_Same.calls a0 t185 t186 t187 t188 W hG_ A4.out; try simp only [errW_none, errW_some] at CA4) | (go_at_call 21; (with_reducible refine (CA4 _ ?side1).mono ?_); (case side1 => exact GlobOK.below HG.out (by repeat (first | (with_reducible first | exact HB.out | apply below_alloc | apply pw_below_drewN | apply below_drew1) | exact HB.out))); rintro e w6 ⟨rfl, hb⟩; have n0_ := Aside0.mk (below_step (by repeat (first | (with_reducible first | exact HB.out | apply below_alloc | apply pw_below_drewN | apply below_drew1) | exact HB.out)) hb); clear HB; have HB := n0_; clear n0_; (try clear hb); (try clear hb2); (try clear hk); (try clear hi)))
  go_ret
  exact ⟨by first | rfl | (simp [errW_none, errW_some] <;> rfl) | (exfalso; simp_all; done) | (simp [*, errW_none, errW_some] <;> rfl), by repeat (first | (with_reducible first | exact HB.out | apply below_alloc | apply pw_below_drewN | apply below_drew1) | exact HB.out)⟩

/-! ### pledgelaw24_FundClamps: function 3 -/
def pledgelaw24_FundClamps.f (a0 : Int) (a1 : Int) (a2 : Int) : Option (Bool) := (pledgelaw24_first.f).bind fun t189 => (if t189 = true then ((fund_Clamp.f a0 a1 a2).bind fun bt190 => (if a0 ≥ 0 then (if a0 ≤ 1000000000000000 then (if a1 ≥ 0 then (if a1 ≤ a2 then (if a2 ≤ 1000000000000000 then (if bt190.2.isNone = true then (if bt190.1 ≥ a1 then (if bt190.1 ≤ a2 then (if a0 < a1 then (some true) else (if a0 > a2 then (some true) else (some (bt190.1 == a0)))) else (some false)) else (some false)) else (some false)) else (if bt190.1 = 0 then ((pledgesee_Is.f bt190.2 103).bind fun t193 => (some t193)) else (some false))) else (if bt190.1 = 0 then ((pledgesee_Is.f bt190.2 103).bind fun t194 => (some t194)) else (some false))) else (if bt190.1 = 0 then ((pledgesee_Is.f bt190.2 103).bind fun t195 => (some t195)) else (some false))) else (if bt190.1 = 0 then ((pledgesee_Is.f bt190.2 103).bind fun t196 => (some t196)) else (some false))) else (if bt190.1 = 0 then ((pledgesee_Is.f bt190.2 103).bind fun t197 => (some t197)) else (some false)))) else (some false))
set_option maxHeartbeats 8000000 in
set_option maxRecDepth 100000 in
theorem pledgelaw24_FundClamps.calls [Inhabited (Int → Addr)] (a0 : Int) (a1 : Int) (a2 : Int) (r : Bool) (w : World) (hG : GlobOK w) (h : pledgelaw24_FundClamps.f a0 a1 a2 = some r) :
    Calls Tryd.prog 3 #[.int .i64 a0, .int .i64 a1, .int .i64 a2] w fun e w' => e = .returned (.bool r) ∧ Below w.heap.size w w' := by
  have hu24 := Tryd.underlying24
  have hu131 := Tryd.underlying131
  have HG := Aside0.mk hG
  clear hG
  have HB := Aside0.mk (Below.refl w.heap.size w)
  have H : ((pledgelaw24_first.f).bind fun t189 => (if t189 = true then ((fund_Clamp.f a0 a1 a2).bind fun bt190 => (if a0 ≥ 0 then (if a0 ≤ 1000000000000000 then (if a1 ≥ 0 then (if a1 ≤ a2 then (if a2 ≤ 1000000000000000 then (if bt190.2.isNone = true then (if bt190.1 ≥ a1 then (if bt190.1 ≤ a2 then (if a0 < a1 then (some true) else (if a0 > a2 then (some true) else (some (bt190.1 == a0)))) else (some false)) else (some false)) else (some false)) else (if bt190.1 = 0 then ((pledgesee_Is.f bt190.2 103).bind fun t193 => (some t193)) else (some false))) else (if bt190.1 = 0 then ((pledgesee_Is.f bt190.2 103).bind fun t194 => (some t194)) else (some false))) else (if bt190.1 = 0 then ((pledgesee_Is.f bt190.2 103).bind fun t195 => (some t195)) else (some false))) else (if bt190.1 = 0 then ((pledgesee_Is.f bt190.2 103).bind fun t196 => (some t196)) else (some false))) else (if bt190.1 = 0 then ((pledgesee_Is.f bt190.2 103).bind fun t197 => (some t197)) else (some false)))) else (some false))) = some r := h
  clear h
  replace H := Option.bind_eq_some_iff.mp H
  obtain ⟨t189, A40, H⟩ := H
  replace H : (if t189 = true then ((fund_Clamp.f a0 a1 a2).bind fun bt190 => (if a0 ≥ 0 then (if a0 ≤ 1000000000000000 then (if a1 ≥ 0 then (if a1 ≤ a2 then (if a2 ≤ 1000000000000000 then (if bt190.2.isNone = true then (if bt190.1 ≥ a1 then (if bt190.1 ≤ a2 then (if a0 < a1 then (some true) else (if a0 > a2 then (some true) else (some (bt190.1 == a0)))) else (some false)) else (some false)) else (some false)) else (if bt190.1 = 0 then ((pledgesee_Is.f bt190.2 103).bind fun t193 => (some t193)) else (some false))) else (if bt190.1 = 0 then ((pledgesee_Is.f bt190.2 103).bind fun t194 => (some t194)) else (some false))) else (if bt190.1 = 0 then ((pledgesee_Is.f bt190.2 103).bind fun t195 => (some t195)) else (some false))) else (if bt190.1 = 0 then ((pledgesee_Is.f bt190.2 103).bind fun t196 => (some t196)) else (some false))) else (if bt190.1 = 0 then ((pledgesee_Is.f bt190.2 103).bind fun t197 => (some t197)) else (some false)))) else (some false)) = some r := H
  have A4 := Aside0.mk A40
  clear A40
  by_cases c5 : t189 = true
  · subst c5
    have H1 : ((fund_Clamp.f a0 a1 a2).bind fun bt190 => (if a0 ≥ 0 then (if a0 ≤ 1000000000000000 then (if a1 ≥ 0 then (if a1 ≤ a2 then (if a2 ≤ 1000000000000000 then (if bt190.2.isNone = true then (if bt190.1 ≥ a1 then (if bt190.1 ≤ a2 then (if a0 < a1 then (some true) else (if a0 > a2 then (some true) else (some (bt190.1 == a0)))) else (some false)) else (some false)) else (some false)) else (if bt190.1 = 0 then ((pledgesee_Is.f bt190.2 103).bind fun t193 => (some t193)) else (some false))) else (if bt190.1 = 0 then ((pledgesee_Is.f bt190.2 103).bind fun t194 => (some t194)) else (some false))) else (if bt190.1 = 0 then ((pledgesee_Is.f bt190.2 103).bind fun t195 => (some t195)) else (some false))) else (if bt190.1 = 0 then ((pledgesee_Is.f bt190.2 103).bind fun t196 => (some t196)) else (some false))) else (if bt190.1 = 0 then ((pledgesee_Is.f bt190.2 103).bind fun t197 => (some t197)) else (some false)))) = some r := by rw [if_pos rfl] at H; exact H
    clear H
    have H := H1
    clear H1
    replace H := Option.bind_eq_some_iff.mp H
    obtain ⟨⟨t190, t191⟩, A60, H⟩ := H
    replace H : (if a0 ≥ 0 then (if a0 ≤ 1000000000000000 then (if a1 ≥ 0 then (if a1 ≤ a2 then (if a2 ≤ 1000000000000000 then (if t191.isNone = true then (if t190 ≥ a1 then (if t190 ≤ a2 then (if a0 < a1 then (some true) else (if a0 > a2 then (some true) else (some (t190 == a0)))) else (some false)) else (some false)) else (some false)) else (if t190 = 0 then ((pledgesee_Is.f t191 103).bind fun t193 => (some t193)) else (some false))) else (if t190 = 0 then ((pledgesee_Is.f t191 103).bind fun t194 => (some t194)) else (some false))) else (if t190 = 0 then ((pledgesee_Is.f t191 103).bind fun t195 => (some t195)) else (some false))) else (if t190 = 0 then ((pledgesee_Is.f t191 103).bind fun t196 => (some t196)) else (some false))) else (if t190 = 0 then ((pledgesee_Is.f t191 103).bind fun t197 => (some t197)) else (some false))) = some r := H
    have A6 := Aside0.mk A60
    clear A60
    by_cases c7 : a0 ≥ 0
    · rw [if_pos c7] at H
      have c7b0 : decide (0 ≤ a0) = true := decide_eq_true c7
      clear c7
      by_cases c8 : a0 ≤ 1000000000000000
      · rw [if_pos c8] at H
        have c8b0 : decide (a0 ≤ 1000000000000000) = true := decide_eq_true c8
        clear c8
        by_cases c9 : a1 ≥ 0
        · rw [if_pos c9] at H
          have c9b0 : decide (0 ≤ a1) = true := decide_eq_true c9
          clear c9
          by_cases c10 : a1 ≤ a2
          · rw [if_pos c10] at H
            have c10b0 : decide (a1 ≤ a2) = true := decide_eq_true c10
            clear c10
            by_cases c11 : a2 ≤ 1000000000000000
            · rw [if_pos c11] at H
              have c11b0 : decide (a2 ≤ 1000000000000000) = true := decide_eq_true c11
              clear c11
              rcases t191 with _ | q192
              · have H1 : (if t190 ≥ a1 then (if t190 ≤ a2 then (if a0 < a1 then (some true) else (if a0 > a2 then (some true) else (some (t190 == a0)))) else (some false)) else (some false)) = some r := by rw [if_pos (show (none : Option Int).isNone = true by rfl)] at H; exact H
                clear H
                have H := H1
                clear H1
                try simp only [errW_none, errW_some]
                by_cases c12 : t190 ≥ a1
                · rw [if_pos c12] at H
                  have c12b0 : decide (a1 ≤ t190) = true := decide_eq_true c12
                  clear c12
                  by_cases c13 : t190 ≤ a2
                  · rw [if_pos c13] at H
                    have c13b0 : decide (t190 ≤ a2) = true := decide_eq_true c13
                    clear c13
                    by_cases c14 : a0 < a1
                    · rw [if_pos c14] at H
                      have c14b0 : decide (a0 < a1) = true := decide_eq_true c14
                      clear c14
                      obtain rfl := Option.some.inj H
                      go_enter Tryd.func3, Tryd.ntmps3
                      go_wp2_with (first | ((with_reducible refine gate_callee (f := 7) rfl ?_); refine goesL_ (some 11) rfl rfl Tryd.func7 (by kernel_rfl) rfl #[] rfl (by (try simp only [List.map_toArray, List.map_cons, List.map_nil]); first | done | rfl | (simp only [List.length_drop, List.length_take]; rfl)) ?_; (with_reducible refine (pledgelaw24_first.calls  true _ ?side1 A4.out).mono ?_); (case side1 => exact GlobOK.below HG.out (by repeat (first | (with_reducible first | exact HB.out | apply below_alloc | apply pw_below_drewN | apply below_drew1) | exact HB.out))); rintro e w15 ⟨rfl, hb⟩; refine ⟨_, rfl, ?_⟩; have n0_ := Aside0.mk (below_step (by repeat (first | (with_reducible first | exact HB.out | apply below_alloc | apply pw_below_drewN | apply below_drew1) | exact HB.out)) hb); clear HB; have HB := n0_; clear n0_; (try clear hb); (try clear hb2); (try clear hk); (try clear hi)) | ((with_reducible refine gate_callee (f := 8) rfl ?_); refine goesL_ (some 18) rfl rfl Tryd.func8 (by kernel_rfl) rfl #[.int .i64 a0, .int .i64 a1, .int .i64 a2] rfl (by (try simp only [List.map_toArray, List.map_cons, List.map_nil]); first | done | rfl | (simp only [List.length_drop, List.length_take]; rfl)) ?_; (with_reducible refine (fund_Clamp.calls a0 a1 a2 t190 none _ ?side1 A6.out).mono ?_); (case side1 => exact GlobOK.below HG.out (by repeat (first | (with_reducible first | exact HB.out | apply below_alloc | apply pw_below_drewN | apply below_drew1) | exact HB.out))); rintro e w16 ⟨rfl, hb⟩; refine ⟨_, rfl, ?_⟩; have n0_ := Aside0.mk (below_step (by repeat (first | (with_reducible first | exact HB.out | apply below_alloc | apply pw_below_drewN | apply below_drew1) | exact HB.out)) hb); clear HB; have HB := n0_; clear n0_; (try clear hb); (try clear hb2); (try clear hk); (try clear hi); (try simp only [errW_none, errW_some])))
                      go_ret
                      exact ⟨by first | rfl | (simp [errW_none, errW_some] <;> rfl) | (exfalso; simp_all; done) | (simp [*, errW_none, errW_some] <;> rfl), by repeat (first | (with_reducible first | exact HB.out | apply below_alloc | apply pw_below_drewN | apply below_drew1) | exact HB.out)⟩
                    · rw [if_neg c14] at H
                      have c14b0 : decide (a0 < a1) = false := decide_eq_false c14
                      clear c14
                      by_cases c17 : a0 > a2
                      · rw [if_pos c17] at H
                        have c17b0 : decide (a2 < a0) = true := decide_eq_true c17
                        clear c17
                        obtain rfl := Option.some.inj H
                        go_enter Tryd.func3, Tryd.ntmps3
                        go_wp2_with (first | ((with_reducible refine gate_callee (f := 7) rfl ?_); refine goesL_ (some 11) rfl rfl Tryd.func7 (by kernel_rfl) rfl #[] rfl (by (try simp only [List.map_toArray, List.map_cons, List.map_nil]); first | done | rfl | (simp only [List.length_drop, List.length_take]; rfl)) ?_; (with_reducible refine (pledgelaw24_first.calls  true _ ?side1 A4.out).mono ?_); (case side1 => exact GlobOK.below HG.out (by repeat (first | (with_reducible first | exact HB.out | apply below_alloc | apply pw_below_drewN | apply below_drew1) | exact HB.out))); rintro e w18 ⟨rfl, hb⟩; refine ⟨_, rfl, ?_⟩; have n0_ := Aside0.mk (below_step (by repeat (first | (with_reducible first | exact HB.out | apply below_alloc | apply pw_below_drewN | apply below_drew1) | exact HB.out)) hb); clear HB; have HB := n0_; clear n0_; (try clear hb); (try clear hb2); (try clear hk); (try clear hi)) | ((with_reducible refine gate_callee (f := 8) rfl ?_); refine goesL_ (some 18) rfl rfl Tryd.func8 (by kernel_rfl) rfl #[.int .i64 a0, .int .i64 a1, .int .i64 a2] rfl (by (try simp only [List.map_toArray, List.map_cons, List.map_nil]); first | done | rfl | (simp only [List.length_drop, List.length_take]; rfl)) ?_; (with_reducible refine (fund_Clamp.calls a0 a1 a2 t190 none _ ?side1 A6.out).mono ?_); (case side1 => exact GlobOK.below HG.out (by repeat (first | (with_reducible first | exact HB.out | apply below_alloc | apply pw_below_drewN | apply below_drew1) | exact HB.out))); rintro e w19 ⟨rfl, hb⟩; refine ⟨_, rfl, ?_⟩; have n0_ := Aside0.mk (below_step (by repeat (first | (with_reducible first | exact HB.out | apply below_alloc | apply pw_below_drewN | apply below_drew1) | exact HB.out)) hb); clear HB; have HB := n0_; clear n0_; (try clear hb); (try clear hb2); (try clear hk); (try clear hi); (try simp only [errW_none, errW_some])))
                        go_ret
                        exact ⟨by first | rfl | (simp [errW_none, errW_some] <;> rfl) | (exfalso; simp_all; done) | (simp [*, errW_none, errW_some] <;> rfl), by repeat (first | (with_reducible first | exact HB.out | apply below_alloc | apply pw_below_drewN | apply below_drew1) | exact HB.out)⟩
                      · rw [if_neg c17] at H
                        have c17b0 : decide (a2 < a0) = false := decide_eq_false c17
                        clear c17
                        obtain rfl := Option.some.inj H
                        go_enter Tryd.func3, Tryd.ntmps3
                        go_wp2_with (first | ((with_reducible refine gate_callee (f := 7) rfl ?_); refine goesL_ (some 11) rfl rfl Tryd.func7 (by kernel_rfl) rfl #[] rfl (by (try simp only [List.map_toArray, List.map_cons, List.map_nil]); first | done | rfl | (simp only [List.length_drop, List.length_take]; rfl)) ?_; (with_reducible refine (pledgelaw24_first.calls  true _ ?side1 A4.out).mono ?_); (case side1 => exact GlobOK.below HG.out (by repeat (first | (with_reducible first | exact HB.out | apply below_alloc | apply pw_below_drewN | apply below_drew1) | exact HB.out))); rintro e w20 ⟨rfl, hb⟩; refine ⟨_, rfl, ?_⟩; have n0_ := Aside0.mk (below_step (by repeat (first | (with_reducible first | exact HB.out | apply below_alloc | apply pw_below_drewN | apply below_drew1) | exact HB.out)) hb); clear HB; have HB := n0_; clear n0_; (try clear hb); (try clear hb2); (try clear hk); (try clear hi)) | ((with_reducible refine gate_callee (f := 8) rfl ?_); refine goesL_ (some 18) rfl rfl Tryd.func8 (by kernel_rfl) rfl #[.int .i64 a0, .int .i64 a1, .int .i64 a2] rfl (by (try simp only [List.map_toArray, List.map_cons, List.map_nil]); first | done | rfl | (simp only [List.length_drop, List.length_take]; rfl)) ?_; (with_reducible refine (fund_Clamp.calls a0 a1 a2 t190 none _ ?side1 A6.out).mono ?_); (case side1 => exact GlobOK.below HG.out (by repeat (first | (with_reducible first | exact HB.out | apply below_alloc | apply pw_below_drewN | apply below_drew1) | exact HB.out))); rintro e w21 ⟨rfl, hb⟩; refine ⟨_, rfl, ?_⟩; have n0_ := Aside0.mk (below_step (by repeat (first | (with_reducible first | exact HB.out | apply below_alloc | apply pw_below_drewN | apply below_drew1) | exact HB.out)) hb); clear HB; have HB := n0_; clear n0_; (try clear hb); (try clear hb2); (try clear hk); (try clear hi); (try simp only [errW_none, errW_some])))
                        go_ret
                        exact ⟨by first | rfl | (simp [errW_none, errW_some] <;> rfl) | (exfalso; simp_all; done) | (simp [*, errW_none, errW_some] <;> rfl), by repeat (first | (with_reducible first | exact HB.out | apply below_alloc | apply pw_below_drewN | apply below_drew1) | exact HB.out)⟩
                  · rw [if_neg c13] at H
                    have c13b0 : decide (t190 ≤ a2) = false := decide_eq_false c13
                    clear c13
                    obtain rfl := Option.some.inj H
                    go_enter Tryd.func3, Tryd.ntmps3
                    go_wp2_with (first | ((with_reducible refine gate_callee (f := 7) rfl ?_); refine goesL_ (some 11) rfl rfl Tryd.func7 (by kernel_rfl) rfl #[] rfl (by (try simp only [List.map_toArray, List.map_cons, List.map_nil]); first | done | rfl | (simp only [List.length_drop, List.length_take]; rfl)) ?_; (with_reducible refine (pledgelaw24_first.calls  true _ ?side1 A4.out).mono ?_); (case side1 => exact GlobOK.below HG.out (by repeat (first | (with_reducible first | exact HB.out | apply below_alloc | apply pw_below_drewN | apply below_drew1) | exact HB.out))); rintro e w22 ⟨rfl, hb⟩; refine ⟨_, rfl, ?_⟩; have n0_ := Aside0.mk (below_step (by repeat (first | (with_reducible first | exact HB.out | apply below_alloc | apply pw_below_drewN | apply below_drew1) | exact HB.out)) hb); clear HB; have HB := n0_; clear n0_; (try clear hb); (try clear hb2); (try clear hk); (try clear hi)) | ((with_reducible refine gate_callee (f := 8) rfl ?_); refine goesL_ (some 18) rfl rfl Tryd.func8 (by kernel_rfl) rfl #[.int .i64 a0, .int .i64 a1, .int .i64 a2] rfl (by (try simp only [List.map_toArray, List.map_cons, List.map_nil]); first | done | rfl | (simp only [List.length_drop, List.length_take]; rfl)) ?_; (with_reducible refine (fund_Clamp.calls a0 a1 a2 t190 none _ ?side1 A6.out).mono ?_); (case side1 => exact GlobOK.below HG.out (by repeat (first | (with_reducible first | exact HB.out | apply below_alloc | apply pw_below_drewN | apply below_drew1) | exact HB.out))); rintro e w23 ⟨rfl, hb⟩; refine ⟨_, rfl, ?_⟩; have n0_ := Aside0.mk (below_step (by repeat (first | (with_reducible first | exact HB.out | apply below_alloc | apply pw_below_drewN | apply below_drew1) | exact HB.out)) hb); clear HB; have HB := n0_; clear n0_; (try clear hb); (try clear hb2); (try clear hk); (try clear hi); (try simp only [errW_none, errW_some])))
                    go_ret
                    exact ⟨by first | rfl | (simp [errW_none, errW_some] <;> rfl) | (exfalso; simp_all; done) | (simp [*, errW_none, errW_some] <;> rfl), by repeat (first | (with_reducible first | exact HB.out | apply below_alloc | apply pw_below_drewN | apply below_drew1) | exact HB.out)⟩
                · rw [if_neg c12] at H
                  have c12b0 : decide (a1 ≤ t190) = false := decide_eq_false c12
                  clear c12
                  obtain rfl := Option.some.inj H
                  go_enter Tryd.func3, Tryd.ntmps3
                  go_wp2_with (first | ((with_reducible refine gate_callee (f := 7) rfl ?_); refine goesL_ (some 11) rfl rfl Tryd.func7 (by kernel_rfl) rfl #[] rfl (by (try simp only [List.map_toArray, List.map_cons, List.map_nil]); first | done | rfl | (simp only [List.length_drop, List.length_take]; rfl)) ?_; (with_reducible refine (pledgelaw24_first.calls  true _ ?side1 A4.out).mono ?_); (case side1 => exact GlobOK.below HG.out (by repeat (first | (with_reducible first | exact HB.out | apply below_alloc | apply pw_below_drewN | apply below_drew1) | exact HB.out))); rintro e w24 ⟨rfl, hb⟩; refine ⟨_, rfl, ?_⟩; have n0_ := Aside0.mk (below_step (by repeat (first | (with_reducible first | exact HB.out | apply below_alloc | apply pw_below_drewN | apply below_drew1) | exact HB.out)) hb); clear HB; have HB := n0_; clear n0_; (try clear hb); (try clear hb2); (try clear hk); (try clear hi)) | ((with_reducible refine gate_callee (f := 8) rfl ?_); refine goesL_ (some 18) rfl rfl Tryd.func8 (by kernel_rfl) rfl #[.int .i64 a0, .int .i64 a1, .int .i64 a2] rfl (by (try simp only [List.map_toArray, List.map_cons, List.map_nil]); first | done | rfl | (simp only [List.length_drop, List.length_take]; rfl)) ?_; (with_reducible refine (fund_Clamp.calls a0 a1 a2 t190 none _ ?side1 A6.out).mono ?_); (case side1 => exact GlobOK.below HG.out (by repeat (first | (with_reducible first | exact HB.out | apply below_alloc | apply pw_below_drewN | apply below_drew1) | exact HB.out))); rintro e w25 ⟨rfl, hb⟩; refine ⟨_, rfl, ?_⟩; have n0_ := Aside0.mk (below_step (by repeat (first | (with_reducible first | exact HB.out | apply below_alloc | apply pw_below_drewN | apply below_drew1) | exact HB.out)) hb); clear HB; have HB := n0_; clear n0_; (try clear hb); (try clear hb2); (try clear hk); (try clear hi); (try simp only [errW_none, errW_some])))
                  go_ret
                  exact ⟨by first | rfl | (simp [errW_none, errW_some] <;> rfl) | (exfalso; simp_all; done) | (simp [*, errW_none, errW_some] <;> rfl), by repeat (first | (with_reducible first | exact HB.out | apply below_alloc | apply pw_below_drewN | apply below_drew1) | exact HB.out)⟩
              · have H1 : (some false) = some r := by rw [if_neg (show ¬ (some q192).isNone = true by simp)] at H; exact H
                clear H
                have H := H1
                clear H1
                try simp only [errW_none, errW_some]
                obtain rfl := Option.some.inj H
                go_enter Tryd.func3, Tryd.ntmps3
                go_wp2_with (first | ((with_reducible refine gate_callee (f := 7) rfl ?_); refine goesL_ (some 11) rfl rfl Tryd.func7 (by kernel_rfl) rfl #[] rfl (by (try simp only [List.map_toArray, List.map_cons, List.map_nil]); first | done | rfl | (simp only [List.length_drop, List.length_take]; rfl)) ?_; (with_reducible refine (pledgelaw24_first.calls  true _ ?side1 A4.out).mono ?_); (case side1 => exact GlobOK.below HG.out (by repeat (first | (with_reducible first | exact HB.out | apply below_alloc | apply pw_below_drewN | apply below_drew1) | exact HB.out))); rintro e w26 ⟨rfl, hb⟩; refine ⟨_, rfl, ?_⟩; have n0_ := Aside0.mk (below_step (by repeat (first | (with_reducible first | exact HB.out | apply below_alloc | apply pw_below_drewN | apply below_drew1) | exact HB.out)) hb); clear HB; have HB := n0_; clear n0_; (try clear hb); (try clear hb2); (try clear hk); (try clear hi)) | ((with_reducible refine gate_callee (f := 8) rfl ?_); refine goesL_ (some 18) rfl rfl Tryd.func8 (by kernel_rfl) rfl #[.int .i64 a0, .int .i64 a1, .int .i64 a2] rfl (by (try simp only [List.map_toArray, List.map_cons, List.map_nil]); first | done | rfl | (simp only [List.length_drop, List.length_take]; rfl)) ?_; (with_reducible refine (fund_Clamp.calls a0 a1 a2 t190 (some q192) _ ?side1 A6.out).mono ?_); (case side1 => exact GlobOK.below HG.out (by repeat (first | (with_reducible first | exact HB.out | apply below_alloc | apply pw_below_drewN | apply below_drew1) | exact HB.out))); rintro e w27 ⟨rfl, hb⟩; refine ⟨_, rfl, ?_⟩; have n0_ := Aside0.mk (below_step (by repeat (first | (with_reducible first | exact HB.out | apply below_alloc | apply pw_below_drewN | apply below_drew1) | exact HB.out)) hb); clear HB; have HB := n0_; clear n0_; (try clear hb); (try clear hb2); (try clear hk); (try clear hi); (try simp only [errW_none, errW_some])))
                go_ret
                exact ⟨by first | rfl | (simp [errW_none, errW_some] <;> rfl) | (exfalso; simp_all; done) | (simp [*, errW_none, errW_some] <;> rfl), by repeat (first | (with_reducible first | exact HB.out | apply below_alloc | apply pw_below_drewN | apply below_drew1) | exact HB.out)⟩
            · rw [if_neg c11] at H
              have c11b0 : decide (a2 ≤ 1000000000000000) = false := decide_eq_false c11
              clear c11
              by_cases c28 : t190 = 0
              · rw [if_pos c28] at H
                have c28b0 : (t190 == 0) = true := beq_iff_eq.mpr c28
                have c28b1 : (t190 != 0) = false := bne_eq_false_iff_eq.mpr c28
                clear c28
                replace H := Option.bind_eq_some_iff.mp H
                obtain ⟨t193, A290, H⟩ := H
                replace H : (some t193) = some r := H
                have A29 := Aside0.mk A290
                clear A290
                obtain rfl := Option.some.inj H
                go_enter Tryd.func3, Tryd.ntmps3
                go_wp2_with (first | ((with_reducible refine gate_callee (f := 7) rfl ?_); refine goesL_ (some 11) rfl rfl Tryd.func7 (by kernel_rfl) rfl #[] rfl (by (try simp only [List.map_toArray, List.map_cons, List.map_nil]); first | done | rfl | (simp only [List.length_drop, List.length_take]; rfl)) ?_; (with_reducible refine (pledgelaw24_first.calls  true _ ?side1 A4.out).mono ?_); (case side1 => exact GlobOK.below HG.out (by repeat (first | (with_reducible first | exact HB.out | apply below_alloc | apply pw_below_drewN | apply below_drew1) | exact HB.out))); rintro e w30 ⟨rfl, hb⟩; refine ⟨_, rfl, ?_⟩; have n0_ := Aside0.mk (below_step (by repeat (first | (with_reducible first | exact HB.out | apply below_alloc | apply pw_below_drewN | apply below_drew1) | exact HB.out)) hb); clear HB; have HB := n0_; clear n0_; (try clear hb); (try clear hb2); (try clear hk); (try clear hi)) | ((with_reducible refine gate_callee (f := 8) rfl ?_); refine goesL_ (some 18) rfl rfl Tryd.func8 (by kernel_rfl) rfl #[.int .i64 a0, .int .i64 a1, .int .i64 a2] rfl (by (try simp only [List.map_toArray, List.map_cons, List.map_nil]); first | done | rfl | (simp only [List.length_drop, List.length_take]; rfl)) ?_; (with_reducible refine (fund_Clamp.calls a0 a1 a2 t190 t191 _ ?side1 A6.out).mono ?_); (case side1 => exact GlobOK.below HG.out (by repeat (first | (with_reducible first | exact HB.out | apply below_alloc | apply pw_below_drewN | apply below_drew1) | exact HB.out))); rintro e w31 ⟨rfl, hb⟩; refine ⟨_, rfl, ?_⟩; have n0_ := Aside0.mk (below_step (by repeat (first | (with_reducible first | exact HB.out | apply below_alloc | apply pw_below_drewN | apply below_drew1) | exact HB.out)) hb); clear HB; have HB := n0_; clear n0_; (try clear hb); (try clear hb2); (try clear hk); (try clear hi); (try simp only [errW_none, errW_some]); have CA29 := fun W hG_ => pledgesee_Is.calls t191 103 t193 W hG_ A29.out; try simp only [errW_none, errW_some] at CA29) | (go_at_call 9; (with_reducible refine (CA29 _ ?side1).mono ?_); (case side1 => exact GlobOK.below HG.out (by repeat (first | (with_reducible first | exact HB.out | apply below_alloc | apply pw_below_drewN | apply below_drew1) | exact HB.out))); rintro e w32 ⟨rfl, hb⟩; have n0_ := Aside0.mk (below_step (by repeat (first | (with_reducible first | exact HB.out | apply below_alloc | apply pw_below_drewN | apply below_drew1) | exact HB.out)) hb); clear HB; have HB := n0_; clear n0_; (try clear hb); (try clear hb2); (try clear hk); (try clear hi)))
                go_ret
                exact ⟨by first | rfl | (simp [errW_none, errW_some] <;> rfl) | (exfalso; simp_all; done) | (simp [*, errW_none, errW_some] <;> rfl), by repeat (first | (with_reducible first | exact HB.out | apply below_alloc | apply pw_below_drewN | apply below_drew1) | exact HB.out)⟩
              · rw [if_neg c28] at H
                have c28b0 : (t190 == 0) = false := beq_eq_false_iff_ne.mpr c28
                have c28b1 : (t190 != 0) = true := bne_iff_ne.mpr c28
                obtain rfl := Option.some.inj H
                go_enter Tryd.func3, Tryd.ntmps3
                go_wp2_with (first | ((with_reducible refine gate_callee (f := 7) rfl ?_); refine goesL_ (some 11) rfl rfl Tryd.func7 (by kernel_rfl) rfl #[] rfl (by (try simp only [List.map_toArray, List.map_cons, List.map_nil]); first | done | rfl | (simp only [List.length_drop, List.length_take]; rfl)) ?_; (with_reducible refine (pledgelaw24_first.calls  true _ ?side1 A4.out).mono ?_); (case side1 => exact GlobOK.below HG.out (by repeat (first | (with_reducible first | exact HB.out | apply below_alloc | apply pw_below_drewN | apply below_drew1) | exact HB.out))); rintro e w33 ⟨rfl, hb⟩; refine ⟨_, rfl, ?_⟩; have n0_ := Aside0.mk (below_step (by repeat (first | (with_reducible first | exact HB.out | apply below_alloc | apply pw_below_drewN | apply below_drew1) | exact HB.out)) hb); clear HB; have HB := n0_; clear n0_; (try clear hb); (try clear hb2); (try clear hk); (try clear hi)) | ((with_reducible refine gate_callee (f := 8) rfl ?_); refine goesL_ (some 18) rfl rfl Tryd.func8 (by kernel_rfl) rfl #[.int .i64 a0, .int .i64 a1, .int .i64 a2] rfl (by (try simp only [List.map_toArray, List.map_cons, List.map_nil]); first | done | rfl | (simp only [List.length_drop, List.length_take]; rfl)) ?_; (with_reducible refine (fund_Clamp.calls a0 a1 a2 t190 t191 _ ?side1 A6.out).mono ?_); (case side1 => exact GlobOK.below HG.out (by repeat (first | (with_reducible first | exact HB.out | apply below_alloc | apply pw_below_drewN | apply below_drew1) | exact HB.out))); rintro e w34 ⟨rfl, hb⟩; refine ⟨_, rfl, ?_⟩; have n0_ := Aside0.mk (below_step (by repeat (first | (with_reducible first | exact HB.out | apply below_alloc | apply pw_below_drewN | apply below_drew1) | exact HB.out)) hb); clear HB; have HB := n0_; clear n0_; (try clear hb); (try clear hb2); (try clear hk); (try clear hi); (try simp only [errW_none, errW_some])))
                go_ret
                exact ⟨by first | rfl | (simp [errW_none, errW_some] <;> rfl) | (exfalso; simp_all; done) | (simp [*, errW_none, errW_some] <;> rfl), by repeat (first | (with_reducible first | exact HB.out | apply below_alloc | apply pw_below_drewN | apply below_drew1) | exact HB.out)⟩
          · rw [if_neg c10] at H
            have c10b0 : decide (a1 ≤ a2) = false := decide_eq_false c10
            clear c10
            by_cases c35 : t190 = 0
            · rw [if_pos c35] at H
              have c35b0 : (t190 == 0) = true := beq_iff_eq.mpr c35
              have c35b1 : (t190 != 0) = false := bne_eq_false_iff_eq.mpr c35
              clear c35
              replace H := Option.bind_eq_some_iff.mp H
              obtain ⟨t194, A360, H⟩ := H
              replace H : (some t194) = some r := H
              have A36 := Aside0.mk A360
              clear A360
              obtain rfl := Option.some.inj H
              go_enter Tryd.func3, Tryd.ntmps3
              go_wp2_with (first | ((with_reducible refine gate_callee (f := 7) rfl ?_); refine goesL_ (some 11) rfl rfl Tryd.func7 (by kernel_rfl) rfl #[] rfl (by (try simp only [List.map_toArray, List.map_cons, List.map_nil]); first | done | rfl | (simp only [List.length_drop, List.length_take]; rfl)) ?_; (with_reducible refine (pledgelaw24_first.calls  true _ ?side1 A4.out).mono ?_); (case side1 => exact GlobOK.below HG.out (by repeat (first | (with_reducible first | exact HB.out | apply below_alloc | apply pw_below_drewN | apply below_drew1) | exact HB.out))); rintro e w37 ⟨rfl, hb⟩; refine ⟨_, rfl, ?_⟩; have n0_ := Aside0.mk (below_step (by repeat (first | (with_reducible first | exact HB.out | apply below_alloc | apply pw_below_drewN | apply below_drew1) | exact HB.out)) hb); clear HB; have HB := n0_; clear n0_; (try clear hb); (try clear hb2); (try clear hk); (try clear hi)) | ((with_reducible refine gate_callee (f := 8) rfl ?_); refine goesL_ (some 18) rfl rfl Tryd.func8 (by kernel_rfl) rfl #[.int .i64 a0, .int .i64 a1, .int .i64 a2] rfl (by (try simp only [List.map_toArray, List.map_cons, List.map_nil]); first | done | rfl | (simp only [List.length_drop, List.length_take]; rfl)) ?_; (with_reducible refine (fund_Clamp.calls a0 a1 a2 t190 t191 _ ?side1 A6.out).mono ?_); (case side1 => exact GlobOK.below HG.out (by repeat (first | (with_reducible first | exact HB.out | apply below_alloc | apply pw_below_drewN | apply below_drew1) | exact HB.out))); rintro e w38 ⟨rfl, hb⟩; refine ⟨_, rfl, ?_⟩; have n0_ := Aside0.mk (below_step (by repeat (first | (with_reducible first | exact HB.out | apply below_alloc | apply pw_below_drewN | apply below_drew1) | exact HB.out)) hb); clear HB; have HB := n0_; clear n0_; (try clear hb); (try clear hb2); (try clear hk); (try clear hi); (try simp only [errW_none, errW_some]); have CA36 := fun W hG_ => pledgesee_Is.calls t191 103 t194 W hG_ A36.out; try simp only [errW_none, errW_some] at CA36) | (go_at_call 9; (with_reducible refine (CA36 _ ?side1).mono ?_); (case side1 => exact GlobOK.below HG.out (by repeat (first | (with_reducible first | exact HB.out | apply below_alloc | apply pw_below_drewN | apply below_drew1) | exact HB.out))); rintro e w39 ⟨rfl, hb⟩; have n0_ := Aside0.mk (below_step (by repeat (first | (with_reducible first | exact HB.out | apply below_alloc | apply pw_below_drewN | apply below_drew1) | exact HB.out)) hb); clear HB; have HB := n0_; clear n0_; (try clear hb); (try clear hb2); (try clear hk); (try clear hi)))
              go_ret
              exact ⟨by first | rfl | (simp [errW_none, errW_some] <;> rfl) | (exfalso; simp_all; done) | (simp [*, errW_none, errW_some] <;> rfl), by repeat (first | (with_reducible first | exact HB.out | apply below_alloc | apply pw_below_drewN | apply below_drew1) | exact HB.out)⟩
            · rw [if_neg c35] at H
              have c35b0 : (t190 == 0) = false := beq_eq_false_iff_ne.mpr c35
              have c35b1 : (t190 != 0) = true := bne_iff_ne.mpr c35
              obtain rfl := Option.some.inj H
              go_enter Tryd.func3, Tryd.ntmps3
              go_wp2_with (first | ((with_reducible refine gate_callee (f := 7) rfl ?_); refine goesL_ (some 11) rfl rfl Tryd.func7 (by kernel_rfl) rfl #[] rfl (by (try simp only [List.map_toArray, List.map_cons, List.map_nil]); first | done | rfl | (simp only [List.length_drop, List.length_take]; rfl)) ?_; (with_reducible refine (pledgelaw24_first.calls  true _ ?side1 A4.out).mono ?_); (case side1 => exact GlobOK.below HG.out (by repeat (first | (with_reducible first | exact HB.out | apply below_alloc | apply pw_below_drewN | apply below_drew1) | exact HB.out))); rintro e w40 ⟨rfl, hb⟩; refine ⟨_, rfl, ?_⟩; have n0_ := Aside0.mk (below_step (by repeat (first | (with_reducible first | exact HB.out | apply below_alloc | apply pw_below_drewN | apply below_drew1) | exact HB.out)) hb); clear HB; have HB := n0_; clear n0_; (try clear hb); (try clear hb2); (try clear hk); (try clear hi)) | ((with_reducible refine gate_callee (f := 8) rfl ?_); refine goesL_ (some 18) rfl rfl Tryd.func8 (by kernel_rfl) rfl #[.int .i64 a0, .int .i64 a1, .int .i64 a2] rfl (by (try simp only [List.map_toArray, List.map_cons, List.map_nil]); first | done | rfl | (simp only [List.length_drop, List.length_take]; rfl)) ?_; (with_reducible refine (fund_Clamp.calls a0 a1 a2 t190 t191 _ ?side1 A6.out).mono ?_); (case side1 => exact GlobOK.below HG.out (by repeat (first | (with_reducible first | exact HB.out | apply below_alloc | apply pw_below_drewN | apply below_drew1) | exact HB.out))); rintro e w41 ⟨rfl, hb⟩; refine ⟨_, rfl, ?_⟩; have n0_ := Aside0.mk (below_step (by repeat (first | (with_reducible first | exact HB.out | apply below_alloc | apply pw_below_drewN | apply below_drew1) | exact HB.out)) hb); clear HB; have HB := n0_; clear n0_; (try clear hb); (try clear hb2); (try clear hk); (try clear hi); (try simp only [errW_none, errW_some])))
              go_ret
              exact ⟨by first | rfl | (simp [errW_none, errW_some] <;> rfl) | (exfalso; simp_all; done) | (simp [*, errW_none, errW_some] <;> rfl), by repeat (first | (with_reducible first | exact HB.out | apply below_alloc | apply pw_below_drewN | apply below_drew1) | exact HB.out)⟩
        · rw [if_neg c9] at H
          have c9b0 : decide (0 ≤ a1) = false := decide_eq_false c9
          clear c9
          by_cases c42 : t190 = 0
          · rw [if_pos c42] at H
            have c42b0 : (t190 == 0) = true := beq_iff_eq.mpr c42
            have c42b1 : (t190 != 0) = false := bne_eq_false_iff_eq.mpr c42
            clear c42
            replace H := Option.bind_eq_some_iff.mp H
            obtain ⟨t195, A430, H⟩ := H
            replace H : (some t195) = some r := H
            have A43 := Aside0.mk A430
            clear A430
            obtain rfl := Option.some.inj H
            go_enter Tryd.func3, Tryd.ntmps3
            go_wp2_with (first | ((with_reducible refine gate_callee (f := 7) rfl ?_); refine goesL_ (some 11) rfl rfl Tryd.func7 (by kernel_rfl) rfl #[] rfl (by (try simp only [List.map_toArray, List.map_cons, List.map_nil]); first | done | rfl | (simp only [List.length_drop, List.length_take]; rfl)) ?_; (with_reducible refine (pledgelaw24_first.calls  true _ ?side1 A4.out).mono ?_); (case side1 => exact GlobOK.below HG.out (by repeat (first | (with_reducible first | exact HB.out | apply below_alloc | apply pw_below_drewN | apply below_drew1) | exact HB.out))); rintro e w44 ⟨rfl, hb⟩; refine ⟨_, rfl, ?_⟩; have n0_ := Aside0.mk (below_step (by repeat (first | (with_reducible first | exact HB.out | apply below_alloc | apply pw_below_drewN | apply below_drew1) | exact HB.out)) hb); clear HB; have HB := n0_; clear n0_; (try clear hb); (try clear hb2); (try clear hk); (try clear hi)) | ((with_reducible refine gate_callee (f := 8) rfl ?_); refine goesL_ (some 18) rfl rfl Tryd.func8 (by kernel_rfl) rfl #[.int .i64 a0, .int .i64 a1, .int .i64 a2] rfl (by (try simp only [List.map_toArray, List.map_cons, List.map_nil]); first | done | rfl | (simp only [List.length_drop, List.length_take]; rfl)) ?_; (with_reducible refine (fund_Clamp.calls a0 a1 a2 t190 t191 _ ?side1 A6.out).mono ?_); (case side1 => exact GlobOK.below HG.out (by repeat (first | (with_reducible first | exact HB.out | apply below_alloc | apply pw_below_drewN | apply below_drew1) | exact HB.out))); rintro e w45 ⟨rfl, hb⟩; refine ⟨_, rfl, ?_⟩; have n0_ := Aside0.mk (below_step (by repeat (first | (with_reducible first | exact HB.out | apply below_alloc | apply pw_below_drewN | apply below_drew1) | exact HB.out)) hb); clear HB; have HB := n0_; clear n0_; (try clear hb); (try clear hb2); (try clear hk); (try clear hi); (try simp only [errW_none, errW_some]); have CA43 := fun W hG_ => pledgesee_Is.calls t191 103 t195 W hG_ A43.out; try simp only [errW_none, errW_some] at CA43) | (go_at_call 9; (with_reducible refine (CA43 _ ?side1).mono ?_); (case side1 => exact GlobOK.below HG.out (by repeat (first | (with_reducible first | exact HB.out | apply below_alloc | apply pw_below_drewN | apply below_drew1) | exact HB.out))); rintro e w46 ⟨rfl, hb⟩; have n0_ := Aside0.mk (below_step (by repeat (first | (with_reducible first | exact HB.out | apply below_alloc | apply pw_below_drewN | apply below_drew1) | exact HB.out)) hb); clear HB; have HB := n0_; clear n0_; (try clear hb); (try clear hb2); (try clear hk); (try clear hi)))
            go_ret
            exact ⟨by first | rfl | (simp [errW_none, errW_some] <;> rfl) | (exfalso; simp_all; done) | (simp [*, errW_none, errW_some] <;> rfl), by repeat (first | (with_reducible first | exact HB.out | apply below_alloc | apply pw_below_drewN | apply below_drew1) | exact HB.out)⟩
          · rw [if_neg c42] at H
            have c42b0 : (t190 == 0) = false := beq_eq_false_iff_ne.mpr c42
            have c42b1 : (t190 != 0) = true := bne_iff_ne.mpr c42
            obtain rfl := Option.some.inj H
            go_enter Tryd.func3, Tryd.ntmps3
            go_wp2_with (first | ((with_reducible refine gate_callee (f := 7) rfl ?_); refine goesL_ (some 11) rfl rfl Tryd.func7 (by kernel_rfl) rfl #[] rfl (by (try simp only [List.map_toArray, List.map_cons, List.map_nil]); first | done | rfl | (simp only [List.length_drop, List.length_take]; rfl)) ?_; (with_reducible refine (pledgelaw24_first.calls  true _ ?side1 A4.out).mono ?_); (case side1 => exact GlobOK.below HG.out (by repeat (first | (with_reducible first | exact HB.out | apply below_alloc | apply pw_below_drewN | apply below_drew1) | exact HB.out))); rintro e w47 ⟨rfl, hb⟩; refine ⟨_, rfl, ?_⟩; have n0_ := Aside0.mk (below_step (by repeat (first | (with_reducible first | exact HB.out | apply below_alloc | apply pw_below_drewN | apply below_drew1) | exact HB.out)) hb); clear HB; have HB := n0_; clear n0_; (try clear hb); (try clear hb2); (try clear hk); (try clear hi)) | ((with_reducible refine gate_callee (f := 8) rfl ?_); refine goesL_ (some 18) rfl rfl Tryd.func8 (by kernel_rfl) rfl #[.int .i64 a0, .int .i64 a1, .int .i64 a2] rfl (by (try simp only [List.map_toArray, List.map_cons, List.map_nil]); first | done | rfl | (simp only [List.length_drop, List.length_take]; rfl)) ?_; (with_reducible refine (fund_Clamp.calls a0 a1 a2 t190 t191 _ ?side1 A6.out).mono ?_); (case side1 => exact GlobOK.below HG.out (by repeat (first | (with_reducible first | exact HB.out | apply below_alloc | apply pw_below_drewN | apply below_drew1) | exact HB.out))); rintro e w48 ⟨rfl, hb⟩; refine ⟨_, rfl, ?_⟩; have n0_ := Aside0.mk (below_step (by repeat (first | (with_reducible first | exact HB.out | apply below_alloc | apply pw_below_drewN | apply below_drew1) | exact HB.out)) hb); clear HB; have HB := n0_; clear n0_; (try clear hb); (try clear hb2); (try clear hk); (try clear hi); (try simp only [errW_none, errW_some])))
            go_ret
            exact ⟨by first | rfl | (simp [errW_none, errW_some] <;> rfl) | (exfalso; simp_all; done) | (simp [*, errW_none, errW_some] <;> rfl), by repeat (first | (with_reducible first | exact HB.out | apply below_alloc | apply pw_below_drewN | apply below_drew1) | exact HB.out)⟩
      · rw [if_neg c8] at H
        have c8b0 : decide (a0 ≤ 1000000000000000) = false := decide_eq_false c8
        clear c8
        by_cases c49 : t190 = 0
        · rw [if_pos c49] at H
          have c49b0 : (t190 == 0) = true := beq_iff_eq.mpr c49
          have c49b1 : (t190 != 0) = false := bne_eq_false_iff_eq.mpr c49
          clear c49
          replace H := Option.bind_eq_some_iff.mp H
          obtain ⟨t196, A500, H⟩ := H
          replace H : (some t196) = some r := H
          have A50 := Aside0.mk A500
          clear A500
          obtain rfl := Option.some.inj H
          go_enter Tryd.func3, Tryd.ntmps3
          go_wp2_with (first | ((with_reducible refine gate_callee (f := 7) rfl ?_); refine goesL_ (some 11) rfl rfl Tryd.func7 (by kernel_rfl) rfl #[] rfl (by (try simp only [List.map_toArray, List.map_cons, List.map_nil]); first | done | rfl | (simp only [List.length_drop, List.length_take]; rfl)) ?_; (with_reducible refine (pledgelaw24_first.calls  true _ ?side1 A4.out).mono ?_); (case side1 => exact GlobOK.below HG.out (by repeat (first | (with_reducible first | exact HB.out | apply below_alloc | apply pw_below_drewN | apply below_drew1) | exact HB.out))); rintro e w51 ⟨rfl, hb⟩; refine ⟨_, rfl, ?_⟩; have n0_ := Aside0.mk (below_step (by repeat (first | (with_reducible first | exact HB.out | apply below_alloc | apply pw_below_drewN | apply below_drew1) | exact HB.out)) hb); clear HB; have HB := n0_; clear n0_; (try clear hb); (try clear hb2); (try clear hk); (try clear hi)) | ((with_reducible refine gate_callee (f := 8) rfl ?_); refine goesL_ (some 18) rfl rfl Tryd.func8 (by kernel_rfl) rfl #[.int .i64 a0, .int .i64 a1, .int .i64 a2] rfl (by (try simp only [List.map_toArray, List.map_cons, List.map_nil]); first | done | rfl | (simp only [List.length_drop, List.length_take]; rfl)) ?_; (with_reducible refine (fund_Clamp.calls a0 a1 a2 t190 t191 _ ?side1 A6.out).mono ?_); (case side1 => exact GlobOK.below HG.out (by repeat (first | (with_reducible first | exact HB.out | apply below_alloc | apply pw_below_drewN | apply below_drew1) | exact HB.out))); rintro e w52 ⟨rfl, hb⟩; refine ⟨_, rfl, ?_⟩; have n0_ := Aside0.mk (below_step (by repeat (first | (with_reducible first | exact HB.out | apply below_alloc | apply pw_below_drewN | apply below_drew1) | exact HB.out)) hb); clear HB; have HB := n0_; clear n0_; (try clear hb); (try clear hb2); (try clear hk); (try clear hi); (try simp only [errW_none, errW_some]); have CA50 := fun W hG_ => pledgesee_Is.calls t191 103 t196 W hG_ A50.out; try simp only [errW_none, errW_some] at CA50) | (go_at_call 9; (with_reducible refine (CA50 _ ?side1).mono ?_); (case side1 => exact GlobOK.below HG.out (by repeat (first | (with_reducible first | exact HB.out | apply below_alloc | apply pw_below_drewN | apply below_drew1) | exact HB.out))); rintro e w53 ⟨rfl, hb⟩; have n0_ := Aside0.mk (below_step (by repeat (first | (with_reducible first | exact HB.out | apply below_alloc | apply pw_below_drewN | apply below_drew1) | exact HB.out)) hb); clear HB; have HB := n0_; clear n0_; (try clear hb); (try clear hb2); (try clear hk); (try clear hi)))
          go_ret
          exact ⟨by first | rfl | (simp [errW_none, errW_some] <;> rfl) | (exfalso; simp_all; done) | (simp [*, errW_none, errW_some] <;> rfl), by repeat (first | (with_reducible first | exact HB.out | apply below_alloc | apply pw_below_drewN | apply below_drew1) | exact HB.out)⟩
        · rw [if_neg c49] at H
          have c49b0 : (t190 == 0) = false := beq_eq_false_iff_ne.mpr c49
          have c49b1 : (t190 != 0) = true := bne_iff_ne.mpr c49
          obtain rfl := Option.some.inj H
          go_enter Tryd.func3, Tryd.ntmps3
          go_wp2_with (first | ((with_reducible refine gate_callee (f := 7) rfl ?_); refine goesL_ (some 11) rfl rfl Tryd.func7 (by kernel_rfl) rfl #[] rfl (by (try simp only [List.map_toArray, List.map_cons, List.map_nil]); first | done | rfl | (simp only [List.length_drop, List.length_take]; rfl)) ?_; (with_reducible refine (pledgelaw24_first.calls  true _ ?side1 A4.out).mono ?_); (case side1 => exact GlobOK.below HG.out (by repeat (first | (with_reducible first | exact HB.out | apply below_alloc | apply pw_below_drewN | apply below_drew1) | exact HB.out))); rintro e w54 ⟨rfl, hb⟩; refine ⟨_, rfl, ?_⟩; have n0_ := Aside0.mk (below_step (by repeat (first | (with_reducible first | exact HB.out | apply below_alloc | apply pw_below_drewN | apply below_drew1) | exact HB.out)) hb); clear HB; have HB := n0_; clear n0_; (try clear hb); (try clear hb2); (try clear hk); (try clear hi)) | ((with_reducible refine gate_callee (f := 8) rfl ?_); refine goesL_ (some 18) rfl rfl Tryd.func8 (by kernel_rfl) rfl #[.int .i64 a0, .int .i64 a1, .int .i64 a2] rfl (by (try simp only [List.map_toArray, List.map_cons, List.map_nil]); first | done | rfl | (simp only [List.length_drop, List.length_take]; rfl)) ?_; (with_reducible refine (fund_Clamp.calls a0 a1 a2 t190 t191 _ ?side1 A6.out).mono ?_); (case side1 => exact GlobOK.below HG.out (by repeat (first | (with_reducible first | exact HB.out | apply below_alloc | apply pw_below_drewN | apply below_drew1) | exact HB.out))); rintro e w55 ⟨rfl, hb⟩; refine ⟨_, rfl, ?_⟩; have n0_ := Aside0.mk (below_step (by repeat (first | (with_reducible first | exact HB.out | apply below_alloc | apply pw_below_drewN | apply below_drew1) | exact HB.out)) hb); clear HB; have HB := n0_; clear n0_; (try clear hb); (try clear hb2); (try clear hk); (try clear hi); (try simp only [errW_none, errW_some])))
          go_ret
          exact ⟨by first | rfl | (simp [errW_none, errW_some] <;> rfl) | (exfalso; simp_all; done) | (simp [*, errW_none, errW_some] <;> rfl), by repeat (first | (with_reducible first | exact HB.out | apply below_alloc | apply pw_below_drewN | apply below_drew1) | exact HB.out)⟩
    · rw [if_neg c7] at H
      have c7b0 : decide (0 ≤ a0) = false := decide_eq_false c7
      clear c7
      by_cases c56 : t190 = 0
      · rw [if_pos c56] at H
        have c56b0 : (t190 == 0) = true := beq_iff_eq.mpr c56
        have c56b1 : (t190 != 0) = false := bne_eq_false_iff_eq.mpr c56
        clear c56
        replace H := Option.bind_eq_some_iff.mp H
        obtain ⟨t197, A570, H⟩ := H
        replace H : (some t197) = some r := H
        have A57 := Aside0.mk A570
        clear A570
        obtain rfl := Option.some.inj H
        go_enter Tryd.func3, Tryd.ntmps3
        go_wp2_with (first | ((with_reducible refine gate_callee (f := 7) rfl ?_); refine goesL_ (some 11) rfl rfl Tryd.func7 (by kernel_rfl) rfl #[] rfl (by (try simp only [List.map_toArray, List.map_cons, List.map_nil]); first | done | rfl | (simp only [List.length_drop, List.length_take]; rfl)) ?_; (with_reducible refine (pledgelaw24_first.calls  true _ ?side1 A4.out).mono ?_); (case side1 => exact GlobOK.below HG.out (by repeat (first | (with_reducible first | exact HB.out | apply below_alloc | apply pw_below_drewN | apply below_drew1) | exact HB.out))); rintro e w58 ⟨rfl, hb⟩; refine ⟨_, rfl, ?_⟩; have n0_ := Aside0.mk (below_step (by repeat (first | (with_reducible first | exact HB.out | apply below_alloc | apply pw_below_drewN | apply below_drew1) | exact HB.out)) hb); clear HB; have HB := n0_; clear n0_; (try clear hb); (try clear hb2); (try clear hk); (try clear hi)) | ((with_reducible refine gate_callee (f := 8) rfl ?_); refine goesL_ (some 18) rfl rfl Tryd.func8 (by kernel_rfl) rfl #[.int .i64 a0, .int .i64 a1, .int .i64 a2] rfl (by (try simp only [List.map_toArray, List.map_cons, List.map_nil]); first | done | rfl | (simp only [List.length_drop, List.length_take]; rfl)) ?_; (with_reducible refine (fund_Clamp.calls a0 a1 a2 t190 t191 _ ?side1 A6.out).mono ?_); (case side1 => exact GlobOK.below HG.out (by repeat (first | (with_reducible first | exact HB.out | apply below_alloc | apply pw_below_drewN | apply below_drew1) | exact HB.out))); rintro e w59 ⟨rfl, hb⟩; refine ⟨_, rfl, ?_⟩; have n0_ := Aside0.mk (below_step (by repeat (first | (with_reducible first | exact HB.out | apply below_alloc | apply pw_below_drewN | apply below_drew1) | exact HB.out)) hb); clear HB; have HB := n0_; clear n0_; (try clear hb); (try clear hb2); (try clear hk); (try clear hi); (try simp only [errW_none, errW_some]); have CA57 := fun W hG_ => pledgesee_Is.calls t191 103 t197 W hG_ A57.out; try simp only [errW_none, errW_some] at CA57) | (go_at_call 9; (with_reducible refine (CA57 _ ?side1).mono ?_); (case side1 => exact GlobOK.below HG.out (by repeat (first | (with_reducible first | exact HB.out | apply below_alloc | apply pw_below_drewN | apply below_drew1) | exact HB.out))); rintro e w60 ⟨rfl, hb⟩; have n0_ := Aside0.mk (below_step (by repeat (first | (with_reducible first | exact HB.out | apply below_alloc | apply pw_below_drewN | apply below_drew1) | exact HB.out)) hb); clear HB; have HB := n0_; clear n0_; (try clear hb); (try clear hb2); (try clear hk); (try clear hi)))
        go_ret
        exact ⟨by first | rfl | (simp [errW_none, errW_some] <;> rfl) | (exfalso; simp_all; done) | (simp [*, errW_none, errW_some] <;> rfl), by repeat (first | (with_reducible first | exact HB.out | apply below_alloc | apply pw_below_drewN | apply below_drew1) | exact HB.out)⟩
      · rw [if_neg c56] at H
        have c56b0 : (t190 == 0) = false := beq_eq_false_iff_ne.mpr c56
        have c56b1 : (t190 != 0) = true := bne_iff_ne.mpr c56
        obtain rfl := Option.some.inj H
        go_enter Tryd.func3, Tryd.ntmps3
        go_wp2_with (first | ((with_reducible refine gate_callee (f := 7) rfl ?_); refine goesL_ (some 11) rfl rfl Tryd.func7 (by kernel_rfl) rfl #[] rfl (by (try simp only [List.map_toArray, List.map_cons, List.map_nil]); first | done | rfl | (simp only [List.length_drop, List.length_take]; rfl)) ?_; (with_reducible refine (pledgelaw24_first.calls  true _ ?side1 A4.out).mono ?_); (case side1 => exact GlobOK.below HG.out (by repeat (first | (with_reducible first | exact HB.out | apply below_alloc | apply pw_below_drewN | apply below_drew1) | exact HB.out))); rintro e w61 ⟨rfl, hb⟩; refine ⟨_, rfl, ?_⟩; have n0_ := Aside0.mk (below_step (by repeat (first | (with_reducible first | exact HB.out | apply below_alloc | apply pw_below_drewN | apply below_drew1) | exact HB.out)) hb); clear HB; have HB := n0_; clear n0_; (try clear hb); (try clear hb2); (try clear hk); (try clear hi)) | ((with_reducible refine gate_callee (f := 8) rfl ?_); refine goesL_ (some 18) rfl rfl Tryd.func8 (by kernel_rfl) rfl #[.int .i64 a0, .int .i64 a1, .int .i64 a2] rfl (by (try simp only [List.map_toArray, List.map_cons, List.map_nil]); first | done | rfl | (simp only [List.length_drop, List.length_take]; rfl)) ?_; (with_reducible refine (fund_Clamp.calls a0 a1 a2 t190 t191 _ ?side1 A6.out).mono ?_); (case side1 => exact GlobOK.below HG.out (by repeat (first | (with_reducible first | exact HB.out | apply below_alloc | apply pw_below_drewN | apply below_drew1) | exact HB.out))); rintro e w62 ⟨rfl, hb⟩; refine ⟨_, rfl, ?_⟩; have n0_ := Aside0.mk (below_step (by repeat (first | (with_reducible first | exact HB.out | apply below_alloc | apply pw_below_drewN | apply below_drew1) | exact HB.out)) hb); clear HB; have HB := n0_; clear n0_; (try clear hb); (try clear hb2); (try clear hk); (try clear hi); (try simp only [errW_none, errW_some])))
        go_ret
        exact ⟨by first | rfl | (simp [errW_none, errW_some] <;> rfl) | (exfalso; simp_all; done) | (simp [*, errW_none, errW_some] <;> rfl), by repeat (first | (with_reducible first | exact HB.out | apply below_alloc | apply pw_below_drewN | apply below_drew1) | exact HB.out)⟩
  · replace c5 := Bool.eq_false_iff.mpr c5
    subst c5
    have H1 : (some false) = some r := by rw [if_neg (show ¬ (false = true) by decide)] at H; exact H
    clear H
    have H := H1
    clear H1
    obtain rfl := Option.some.inj H
    go_enter Tryd.func3, Tryd.ntmps3
    go_wp2_with (first | ((with_reducible refine gate_callee (f := 7) rfl ?_); refine goesL_ (some 11) rfl rfl Tryd.func7 (by kernel_rfl) rfl #[] rfl (by (try simp only [List.map_toArray, List.map_cons, List.map_nil]); first | done | rfl | (simp only [List.length_drop, List.length_take]; rfl)) ?_; (with_reducible refine (pledgelaw24_first.calls  false _ ?side1 A4.out).mono ?_); (case side1 => exact GlobOK.below HG.out (by repeat (first | (with_reducible first | exact HB.out | apply below_alloc | apply pw_below_drewN | apply below_drew1) | exact HB.out))); rintro e w63 ⟨rfl, hb⟩; refine ⟨_, rfl, ?_⟩; have n0_ := Aside0.mk (below_step (by repeat (first | (with_reducible first | exact HB.out | apply below_alloc | apply pw_below_drewN | apply below_drew1) | exact HB.out)) hb); clear HB; have HB := n0_; clear n0_; (try clear hb); (try clear hb2); (try clear hk); (try clear hi)))
    go_ret
    exact ⟨by first | rfl | (simp [errW_none, errW_some] <;> rfl) | (exfalso; simp_all; done) | (simp [*, errW_none, errW_some] <;> rfl), by repeat (first | (with_reducible first | exact HB.out | apply below_alloc | apply pw_below_drewN | apply below_drew1) | exact HB.out)⟩

/-- The pure statement of pledgelaw24_FundClamps: numbers and lists alone. -/
def pledgelaw24_FundClamps.Pure : Prop := ∀ (a0 : Int) (a1 : Int) (a2 : Int), Rng .i64 a0 → Rng .i64 a1 → Rng .i64 a2 → pledgelaw24_FundClamps.f a0 a1 a2 = some true

end Go.Proofs.YtcmdhgcaldpioaaDoor.EFundClamps
