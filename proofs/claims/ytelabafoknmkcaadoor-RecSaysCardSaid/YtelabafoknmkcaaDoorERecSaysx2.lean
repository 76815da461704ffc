/- The functions that the law comes to, as plain functions, and for each a proof that the Go code comes to just these answers. Written by a program of this claim. Conditions: each theorem bears its own. -/
import Derived.Test.YtelabafoknmkcaaDoorERecSaysx0
import Derived.Test.YtelabafoknmkcaaDoorERecSaysx1
namespace Go.Proofs.YtelabafoknmkcaaDoor.ERecSays
open Go.RowKit Go.Proofs.YtelabafoknmkcaaDoorW.PrintWords Go.Proofs.YtelabafoknmkcaaDoorW.PrintLast Go.Proofs.YtelabafoknmkcaaDoorW.PrintMore Go.Proofs.YtelabafoknmkcaaDoorW.PrintOpen
attribute [local go_sem] max2_int min2_int max_two min_two max_three min_three max_four min_four   -- for this text's walks alone
set_option linter.unusedVariables false
set_option linter.unusedSimpArgs false

def errKd [Inhabited (Int → Addr)] : Kd (Option Int) := Kd.scalar errW (fun x => by cases x <;> rfl)
def sentL : List (Option Int) := [some 101, some 102, some 103, some 104, some 105, some 106, some 107, some 108, some 109, some 110, some 111, some 112, some 113, some 114, some 115, some 116, some 117, some 118, some 119, some 120, some 121]
set_option maxHeartbeats 4000000 in
set_option maxRecDepth 100000 in
theorem sentinels_calls [Inhabited (Int → Addr)] (w : World) (hG : GlobOK w) :
    Calls Tryd.prog 47 #[] w fun e w' => ∃ v, e = .returned v ∧ Kd.R errKd 25 w' w.heap.size (fun _ => True) v sentL ∧ Below w.heap.size w w' := by
  have hx0 := GlobOK.at hG 101 1 (by simp [globTab])
  have hx1 := GlobOK.at hG 102 2 (by simp [globTab])
  have hx2 := GlobOK.at hG 103 0 (by simp [globTab])
  have hx3 := GlobOK.at hG 104 4 (by simp [globTab])
  have hx4 := GlobOK.at hG 105 3 (by simp [globTab])
  have hx5 := GlobOK.at hG 106 5 (by simp [globTab])
  have hx6 := GlobOK.at hG 107 6 (by simp [globTab])
  have hx7 := GlobOK.at hG 108 7 (by simp [globTab])
  have hx8 := GlobOK.at hG 109 8 (by simp [globTab])
  have hx9 := GlobOK.at hG 110 9 (by simp [globTab])
  have hx10 := GlobOK.at hG 111 10 (by simp [globTab])
  have hx11 := GlobOK.at hG 112 11 (by simp [globTab])
  have hx12 := GlobOK.at hG 113 12 (by simp [globTab])
  have hx13 := GlobOK.at hG 114 13 (by simp [globTab])
  have hx14 := GlobOK.at hG 115 14 (by simp [globTab])
  have hx15 := GlobOK.at hG 116 15 (by simp [globTab])
  have hx16 := GlobOK.at hG 117 16 (by simp [globTab])
  have hx17 := GlobOK.at hG 118 17 (by simp [globTab])
  have hx18 := GlobOK.at hG 119 18 (by simp [globTab])
  have hx19 := GlobOK.at hG 120 19 (by simp [globTab])
  have hx20 := GlobOK.at hG 121 20 (by simp [globTab])
  clear hG
  go_enter Tryd.func47, Tryd.ntmps47
  go_wp2_with ((with_reducible refine gate_dst (N := 22) rfl ?_); refine Kd.R_lit errKd _ 25 ?hg (N := 22) ?hd (xs := sentL) (inner := [.iface 88 (.pointer (some (adr 101))), .iface 88 (.pointer (some (adr 102))), .iface 88 (.pointer (some (adr 103))), .iface 88 (.pointer (some (adr 104))), .iface 88 (.pointer (some (adr 105))), .iface 88 (.pointer (some (adr 106))), .iface 88 (.pointer (some (adr 107))), .iface 88 (.pointer (some (adr 108))), .iface 88 (.pointer (some (adr 109))), .iface 88 (.pointer (some (adr 110))), .iface 88 (.pointer (some (adr 111))), .iface 88 (.pointer (some (adr 112))), .iface 88 (.pointer (some (adr 113))), .iface 88 (.pointer (some (adr 114))), .iface 88 (.pointer (some (adr 115))), .iface 88 (.pointer (some (adr 116))), .iface 88 (.pointer (some (adr 117))), .iface 88 (.pointer (some (adr 118))), .iface 88 (.pointer (some (adr 119))), .iface 88 (.pointer (some (adr 120))), .iface 88 (.pointer (some (adr 121)))]) (ok := fun _ => True) (okp := fun _ => True) ?hr ?hp (fun _ hk => hk) trivial (Below.refl _ _) (Nat.le_refl _) (by decide) ?_; (case hd => rfl); (case hg => rfl); (case hr => first | (go_simp; done) | (go_simp; rfl)); (case hp => exact (Reps.one (show Kd.M errKd _ _ _ (some 101) [.iface 88 (.pointer (some (adr 101)))] from rfl) (Reps.one (show Kd.M errKd _ _ _ (some 102) [.iface 88 (.pointer (some (adr 102)))] from rfl) (Reps.one (show Kd.M errKd _ _ _ (some 103) [.iface 88 (.pointer (some (adr 103)))] from rfl) (Reps.one (show Kd.M errKd _ _ _ (some 104) [.iface 88 (.pointer (some (adr 104)))] from rfl) (Reps.one (show Kd.M errKd _ _ _ (some 105) [.iface 88 (.pointer (some (adr 105)))] from rfl) (Reps.one (show Kd.M errKd _ _ _ (some 106) [.iface 88 (.pointer (some (adr 106)))] from rfl) (Reps.one (show Kd.M errKd _ _ _ (some 107) [.iface 88 (.pointer (some (adr 107)))] from rfl) (Reps.one (show Kd.M errKd _ _ _ (some 108) [.iface 88 (.pointer (some (adr 108)))] from rfl) (Reps.one (show Kd.M errKd _ _ _ (some 109) [.iface 88 (.pointer (some (adr 109)))] from rfl) (Reps.one (show Kd.M errKd _ _ _ (some 110) [.iface 88 (.pointer (some (adr 110)))] from rfl) (Reps.one (show Kd.M errKd _ _ _ (some 111) [.iface 88 (.pointer (some (adr 111)))] from rfl) (Reps.one (show Kd.M errKd _ _ _ (some 112) [.iface 88 (.pointer (some (adr 112)))] from rfl) (Reps.one (show Kd.M errKd _ _ _ (some 113) [.iface 88 (.pointer (some (adr 113)))] from rfl) (Reps.one (show Kd.M errKd _ _ _ (some 114) [.iface 88 (.pointer (some (adr 114)))] from rfl) (Reps.one (show Kd.M errKd _ _ _ (some 115) [.iface 88 (.pointer (some (adr 115)))] from rfl) (Reps.one (show Kd.M errKd _ _ _ (some 116) [.iface 88 (.pointer (some (adr 116)))] from rfl) (Reps.one (show Kd.M errKd _ _ _ (some 117) [.iface 88 (.pointer (some (adr 117)))] from rfl) (Reps.one (show Kd.M errKd _ _ _ (some 118) [.iface 88 (.pointer (some (adr 118)))] from rfl) (Reps.one (show Kd.M errKd _ _ _ (some 119) [.iface 88 (.pointer (some (adr 119)))] from rfl) (Reps.one (show Kd.M errKd _ _ _ (some 120) [.iface 88 (.pointer (some (adr 120)))] from rfl) (Reps.one (show Kd.M errKd _ _ _ (some 121) [.iface 88 (.pointer (some (adr 121)))] from rfl) (Reps.none _ _))))))))))))))))))))))); intro v w2 ho3 hb hg_ hnew_; clear hg_ hnew_)
  go_ret
  exact ⟨_, rfl, ho3, hb⟩
theorem comp88 : (Tryd.prog.info? 88).map (·.comparable) = some true := by kernel_rfl
theorem size105 : (Tryd.prog.info? 105).map (·.size) = some 1 := by kernel_rfl
theorem eql_errs [Inhabited (Int → Addr)] {w : World} (hG : GlobOK w) {c d : Int} {g g' : Nat} (hc : (c, g) ∈ globTab) (hd : (d, g') ∈ globTab) :
    (binOp .eql 25 (.iface 88 (.pointer (some (adr c)))) (.iface 88 (.pointer (some (adr d))))).run Tryd.prog w = Result.ok (.bool (c == d)) w := by
  obtain ⟨i, hi, hcmp⟩ := Option.map_eq_some_iff.1 comp88
  obtain ⟨j, hj, hsz⟩ := Option.map_eq_some_iff.1 size105
  by_cases e : c = d
  · subst e
    have := run_eql_iface_ptr_same w (adr c) Tryd.underlying25 Tryd.underlying88 hi hcmp hj
    simpa using this
  · obtain ⟨_, c1, t1, h1⟩ := hG.1 _ hc
    obtain ⟨_, c2, t2, h2⟩ := hG.1 _ hd
    have := run_eql_iface_ptr_other w Tryd.underlying25 Tryd.underlying88 hi hcmp hj (by rw [hsz]; decide) (hG.2 _ hc _ hd e) h1 h2
    rw [this, show (c == d) = false from beq_eq_false_iff_ne.2 e]
set_option maxHeartbeats 4000000 in
theorem alike_calls [Inhabited (Int → Addr)] {c d : Int} {g g' : Nat} (w : World) (hG : GlobOK w) (hc : (c, g) ∈ globTab) (hd : (d, g') ∈ globTab) :
    Calls Tryd.prog 48 #[.iface 88 (.pointer (some (adr c))), .iface 88 (.pointer (some (adr d)))] w fun e w' => e = .returned (.bool (c == d)) ∧ w = w' := by
  have he := eql_errs hG hc hd
  have hu25 := Tryd.underlying25
  clear hG hc hd
  go_enter Tryd.func48, Tryd.ntmps48
  go_wp2
  go_ret
  exact ⟨rfl, rfl⟩
theorem globAll (k : Nat) (hk : k < 21) : ∃ g, (101 + (k : Int), g) ∈ globTab := by
  have h : ∀ j : Fin 21, (globTab.any fun p => p.1 == 101 + ((j : Nat) : Int)) = true := by decide
  obtain ⟨p, hp, he⟩ := List.any_eq_true.1 (h ⟨k, hk⟩)
  exact ⟨p.2, by rw [← (eq_of_beq he : p.1 = 101 + (k : Int))]; exact hp⟩
theorem sentL_at (k : Nat) (hk : k < 21) : sentL.getD k none = some (101 + (k : Int)) := by
  have h : ∀ j : Fin 21, sentL.getD (j : Nat) none = some (101 + ((j : Nat) : Int)) := by decide
  exact h ⟨k, hk⟩
theorem at_sent [Inhabited (Int → Addr)] {w : World} {A : Option Addr} {n : Nat} (h : Kd.C errKd w A n sentL) (k : Nat) (hk : k < 21) (hn : n = 21) :
    ∃ ad, A = some ad ∧ w.cell? (ad.add k) = some (.iface 88 (.pointer (some (adr (101 + (k : Int)))))) := by
  obtain ⟨ad, c, e, _, hK, hc⟩ := Kd.C_get h none (k : Int) (by omega) (by omega)
  refine ⟨ad, e, ?_⟩
  have hc' : ∀ j u, c[j]? = some u → w.cell? (ad.add (((k : Int)).toNat * 1 + j)) = some u := hc
  have hK' : c = [errW (sentL.getD ((k : Int)).toNat none)] := hK
  subst hK'
  have := hc' 0 _ rfl
  rw [Int.toNat_natCast, Nat.mul_one, Nat.add_zero, sentL_at k hk, errW_some] at this
  exact this
set_option maxHeartbeats 4000000 in
set_option maxRecDepth 100000 in
theorem sentinel_calls [Inhabited (Int → Addr)] (m : Nat) (hm : m < 21) (w : World) (hG : GlobOK w) :
    Calls Tryd.prog 46 #[.iface 88 (.pointer (some (adr (101 + (m : Int)))))] w fun e w' => e = .returned (.int .i64 (101 + (m : Int))) ∧ Below w.heap.size w w' := by
  have HG := Aside0.mk hG
  clear hG
  go_enter Tryd.func46, Tryd.ntmps46
  go_wp2_with (go_at_call 47; refine (sentinels_calls _ HG.out).mono ?_; rintro e w2 ⟨v, rfl, ho, hb⟩; obtain ⟨A, cc, ev⟩ := Kd.R_slice ho; replace ev : v = .slice A 21 cc := ev; subst ev; have HC := Aside0.mk (Kd.R_reads' ho).2.2; have HB := Aside0.mk hb; clear ho hb)
  have HG2 := Aside0.mk (GlobOK.below HG.out HB.out)
  go_loop [4] (fun i => ∃ k : Nat, k ≤ m ∧ i = .int .i64 k) (fun i => 21 - (intOf i).toNat)
  case atStart => exact ⟨0, Nat.zero_le _, rfl⟩
  case round =>
    obtain ⟨k, hk, rfl⟩ := hrel
    obtain ⟨ad, e, hx⟩ := at_sent HC.out k (by omega) rfl
    subst e
    obtain ⟨g1, hg1⟩ := globAll m hm
    obtain ⟨g2, hg2⟩ := globAll k (by omega)
    have H1 := Aside0.mk hg1
    have H2 := Aside0.mk hg2
    clear hg1 hg2
    have hlt : (k < 21) = True := eq_true (by omega)
    have hb0 : decide (k < 21) = true := decide_eq_true (by omega)
    have h0 : (0 ≤ (k : Int)) = True := eq_true (by omega)
    have hb1 : decide ((k : Int) < 21) = true := decide_eq_true (by omega)
    have hl1 : ((k : Int) < 21) = True := eq_true (by omega)
    by_cases hkm : k = m
    · subst hkm
      have hbb : ((101 + (k : Int)) == (101 + (k : Int))) = true := by simp
      go_wp2_with (go_at_call 48; refine (alike_calls _ HG2.out H1.out H2.out).mono ?_; rintro e w3 ⟨rfl, rfl⟩)
      go_ret
      exact ⟨rfl, HB.out⟩
    · have hbb : ((101 + (m : Int)) == (101 + (k : Int))) = false := by simp; omega
      go_wp2_with (go_at_call 48; refine (alike_calls _ HG2.out H1.out H2.out).mono ?_; rintro e w3 ⟨rfl, rfl⟩)
      go_round
      case rel => exact ⟨k + 1, by omega, by go_num⟩
      case measure => simp [intOf]; omega

/-! ### pledgesee_sentinel: function 46 -/
def pledgesee_sentinel.f (a0 : Option Int) : Option Int := if 101 ≤ a0.getD 0 ∧ a0.getD 0 ≤ 121 then a0 else none
theorem pledgesee_sentinel.calls [Inhabited (Int → Addr)] (a0 : Option Int) (r : Int) (w : World) (hG : GlobOK w) (h : pledgesee_sentinel.f a0 = some r) :
    Calls Tryd.prog 46 #[errW a0] w fun e w' => e = .returned (.int .i64 r) ∧ Below w.heap.size w w' := by
  rcases a0 with _ | c
  · simp [pledgesee_sentinel.f] at h
  · unfold pledgesee_sentinel.f at h
    by_cases hc : 101 ≤ (some c).getD 0 ∧ (some c).getD 0 ≤ 121
    · rw [if_pos hc] at h
      obtain rfl := Option.some.inj h
      simp only [Option.getD_some] at hc
      have := sentinel_calls (c - 101).toNat (by omega) w hG
      rw [show (101 : Int) + ((c - 101).toNat : Int) = c by omega] at this
      exact this
    · rw [if_neg hc] at h; cases h

/-! ### pledgesee_Fault: function 39 -/
def pledgesee_Fault.f (a0 : Option Int) : Option (Int × Bool × Int) := if a0.isNone = true then ((pledgeref_None.f).bind fun bt135 => (some (bt135.1, bt135.2.1, bt135.2.2))) else ((pledgesee_sentinel.f (some (a0.getD 0))).bind fun t138 => ((pledgeref_Bare.f t138).bind fun bt139 => (some (bt139.1, bt139.2.1, bt139.2.2))))
set_option maxHeartbeats 8000000 in
set_option maxRecDepth 100000 in
theorem pledgesee_Fault.calls [Inhabited (Int → Addr)] (a0 : Option Int) (r1 : Int) (r2 : Bool) (r3 : Int) (w : World) (hG : GlobOK w) (h : pledgesee_Fault.f a0 = some (r1, r2, r3)) :
    Calls Tryd.prog 39 #[errW a0] w fun e w' => e = .returned (.agg #[.int .i64 r1, .bool r2, .int .i64 r3]) ∧ Below w.heap.size w w' := by
  have hu44 := Tryd.underlying44
  have hu25 := Tryd.underlying25
  have hu88 := Tryd.underlying88
  have hta : ∀ (v : Value) (W : World), (Instr.typeAssert (.iface 88 v) 25 68 true).run Tryd.prog W = .ok (.tuple #[.pointer none, .bool false]) W := fun v W => by rfl
  have HG := Aside0.mk hG
  clear hG
  have HB := Aside0.mk (Below.refl w.heap.size w)
  have H : (if a0.isNone = true then ((pledgeref_None.f).bind fun bt135 => (some (bt135.1, bt135.2.1, bt135.2.2))) else ((pledgesee_sentinel.f (some (a0.getD 0))).bind fun t138 => ((pledgeref_Bare.f t138).bind fun bt139 => (some (bt139.1, bt139.2.1, bt139.2.2))))) = some (r1, r2, r3) := h
  clear h
  rcases a0 with _ | q134
  · have H1 : ((pledgeref_None.f).bind fun bt135 => (some (bt135.1, bt135.2.1, bt135.2.2))) = some (r1, r2, r3) := by rw [if_pos (show (none : Option Int).isNone = true by rfl)] at H; exact H
    clear H
    have H := H1
    clear H1
    simp only [errW_none, errW_some]
    replace H := Option.bind_eq_some_iff.mp H
    obtain ⟨⟨t135, t136, t137⟩, A20, H⟩ := H
    replace H : (some (t135, t136, t137)) = some (r1, r2, r3) := H
    have A2 := Aside0.mk A20
    clear A20
    simp only [Option.some.injEq, Prod.mk.injEq] at H
    obtain ⟨rfl, rfl, rfl⟩ := H
    go_enter Tryd.func39, Tryd.ntmps39
    go_wp2_with (first | ((with_reducible refine gate_dst (N := 2) rfl ?_); refine box_event ?hg (N := 2) ?hd (cs := #[.int .i64 0, .bool false, .int .i64 0]) (t := 44) ?hr ?_; (case hd => rfl); (case hg => rfl); (case hr => first | (go_simp; done) | (go_simp; rfl)); intro gb133 hg w3 hbox hb; have n0_ := Aside0.mk (below_step (by repeat (first | (with_reducible first | exact HB.out | apply below_alloc | apply pw_below_drewN | apply below_drew1) | exact HB.out)) hb); have n1_ := Aside0.mk (hbox); have n2_ := Aside0.mk ((by rw [hg]; exact (below_size (by repeat (first | (with_reducible first | exact HB.out | apply below_alloc | apply pw_below_drewN | apply below_drew1) | exact HB.out))) : w.heap.size ≤ gb133)); have n3_ := Aside0.mk ((by rw [hg]; exact (below_size (by repeat (first | (with_reducible first | exact HB.out | apply below_alloc | apply pw_below_drewN | apply below_drew1) | exact HB.out))) : w.heap.size ≤ gb133)); clear HB; have HB := n0_; have BK133 := n1_; have GW133 := n2_; have GE133 := n3_; clear n0_ n1_ n2_ n3_; clear hb hbox hg) | ((with_reducible refine gate_callee (f := 40) rfl ?_); refine goesL_ (some 7) rfl rfl Tryd.func40 (by kernel_rfl) rfl #[] rfl (by (try simp only [List.map_toArray, List.map_cons, List.map_nil]); first | done | rfl | (simp only [List.length_drop, List.length_take]; rfl)) ?_; (with_reducible refine (pledgeref_None.calls  t135 t136 t137 _ A2.out).mono ?_); rintro e w4 ⟨rfl, hb⟩; refine ⟨_, rfl, ?_⟩; have n0_ := Aside0.mk (blk_below (g := gb133) (o := .cells #[.int .i64 0, .bool false, .int .i64 0] 44 (0, 0)) (by (with_reducible repeat (first | refine blk_drewN ?_ _ | refine blk_drew ?_ | refine blk_alloc ?_ _)); exact BK133.out) hb); have n1_ := Aside0.mk (below_step (by repeat (first | (with_reducible first | exact HB.out | apply below_alloc | apply pw_below_drewN | apply below_drew1 | refine below_set ?_ GE133.out) | exact HB.out)) hb); clear BK133; clear HB; have BK133 := n0_; have HB := n1_; clear n0_ n1_; (try clear hb); (try clear hb2); (try clear hk); (try clear hi); have hcz5_0 : w4.cell? ⟨gb133, 0, none⟩ = some (.int .i64 0) := (blk_cell BK133.out 0).trans rfl; have hcz5_1 : w4.cell? ⟨gb133, 1, none⟩ = some (.bool false) := (blk_cell BK133.out 1).trans rfl; have hcz5_2 : w4.cell? ⟨gb133, 2, none⟩ = some (.int .i64 0) := (blk_cell BK133.out 2).trans rfl; have hfz5_0 := blk_frozen BK133.out 0; have hfz5_1 := blk_frozen BK133.out 1; have hfz5_2 := blk_frozen BK133.out 2))
    refine bodyPost_ret (results_cell_row rfl _ _ gb133 44 #[.int .i64 t135, .bool t136, .int .i64 t137] (0, 0) _ rfl (by (with_reducible repeat (first | refine blk_drewN ?_ _ | refine blk_drew ?_ | refine blk_alloc ?_ _)); refine blk_put (cs := #[.int .i64 t135, .bool t136, .int .i64 0]) ?_ 2 _ rfl; (with_reducible repeat (first | refine blk_drewN ?_ _ | refine blk_drew ?_ | refine blk_alloc ?_ _)); refine blk_put (cs := #[.int .i64 t135, .bool false, .int .i64 0]) ?_ 1 _ rfl; (with_reducible repeat (first | refine blk_drewN ?_ _ | refine blk_drew ?_ | refine blk_alloc ?_ _)); refine blk_put (cs := #[.int .i64 0, .bool false, .int .i64 0]) ?_ 0 _ rfl; (with_reducible repeat (first | refine blk_drewN ?_ _ | refine blk_drew ?_ | refine blk_alloc ?_ _)); exact BK133.out) Tryd.underlying44 rfl (by kernel_rfl)) rfl ?_
    exact ⟨by first | rfl | (simp [errW_none, errW_some] <;> rfl) | (exfalso; simp_all; done) | (simp [*, errW_none, errW_some] <;> rfl), by repeat (first | (with_reducible first | exact HB.out | apply below_alloc | apply pw_below_drewN | apply below_drew1 | refine below_set ?_ GE133.out) | exact HB.out)⟩
  · have H1 : ((pledgesee_sentinel.f (some q134)).bind fun t138 => ((pledgeref_Bare.f t138).bind fun bt139 => (some (bt139.1, bt139.2.1, bt139.2.2)))) = some (r1, r2, r3) := by rw [if_neg (show ¬ (some q134).isNone = true by simp)] at H; exact H
    clear H
    have H := H1
    clear H1
    simp only [errW_none, errW_some]
    replace H := Option.bind_eq_some_iff.mp H
    obtain ⟨t138, A60, H⟩ := H
    replace H : ((pledgeref_Bare.f t138).bind fun bt139 => (some (bt139.1, bt139.2.1, bt139.2.2))) = some (r1, r2, r3) := H
    have A6 := Aside0.mk A60
    clear A60
    replace H := Option.bind_eq_some_iff.mp H
    obtain ⟨⟨t139, t140, t141⟩, A70, H⟩ := H
    replace H : (some (t139, t140, t141)) = some (r1, r2, r3) := H
    have A7 := Aside0.mk A70
    clear A70
    simp only [Option.some.injEq, Prod.mk.injEq] at H
    obtain ⟨rfl, rfl, rfl⟩ := H
    go_enter Tryd.func39, Tryd.ntmps39
    go_wp2_with (first | ((with_reducible refine gate_dst (N := 2) rfl ?_); refine box_event ?hg (N := 2) ?hd (cs := #[.int .i64 0, .bool false, .int .i64 0]) (t := 44) ?hr ?_; (case hd => rfl); (case hg => rfl); (case hr => first | (go_simp; done) | (go_simp; rfl)); intro gb133 hg w8 hbox hb; have n0_ := Aside0.mk (below_step (by repeat (first | (with_reducible first | exact HB.out | apply below_alloc | apply pw_below_drewN | apply below_drew1) | exact HB.out)) hb); have n1_ := Aside0.mk (hbox); have n2_ := Aside0.mk ((by rw [hg]; exact (below_size (by repeat (first | (with_reducible first | exact HB.out | apply below_alloc | apply pw_below_drewN | apply below_drew1) | exact HB.out))) : w.heap.size ≤ gb133)); have n3_ := Aside0.mk ((by rw [hg]; exact (below_size (by repeat (first | (with_reducible first | exact HB.out | apply below_alloc | apply pw_below_drewN | apply below_drew1) | exact HB.out))) : w.heap.size ≤ gb133)); clear HB; have HB := n0_; have BK133 := n1_; have GW133 := n2_; have GE133 := n3_; clear n0_ n1_ n2_ n3_; clear hb hbox hg; have CA6 := fun W hG_ => pledgesee_sentinel.calls (some q134) t138 W hG_ A6.out; try simp only [errW_none, errW_some] at CA6) | (go_at_call 46; (with_reducible refine (CA6 _ ?side1).mono ?_); (case side1 => exact GlobOK.below HG.out (by repeat (first | (with_reducible first | exact HB.out | apply below_alloc | apply pw_below_drewN | apply below_drew1 | refine below_set ?_ GE133.out) | exact HB.out))); rintro e w9 ⟨rfl, hb⟩; have n0_ := Aside0.mk (blk_below (g := gb133) (o := .cells #[.int .i64 0, .bool false, .int .i64 0] 44 (0, 0)) (by (with_reducible repeat (first | refine blk_drewN ?_ _ | refine blk_drew ?_ | refine blk_alloc ?_ _)); exact BK133.out) hb); have n1_ := Aside0.mk (below_step (by repeat (first | (with_reducible first | exact HB.out | apply below_alloc | apply pw_below_drewN | apply below_drew1 | refine below_set ?_ GE133.out) | exact HB.out)) hb); clear BK133; clear HB; have BK133 := n0_; have HB := n1_; clear n0_ n1_; (try clear hb); (try clear hb2); (try clear hk); (try clear hi)) | ((with_reducible refine gate_callee (f := 28) rfl ?_); refine goesL_ (some 17) rfl rfl Tryd.func28 (by kernel_rfl) rfl #[.int .i64 t138] rfl (by (try simp only [List.map_toArray, List.map_cons, List.map_nil]); first | done | rfl | (simp only [List.length_drop, List.length_take]; rfl)) ?_; (with_reducible refine (pledgeref_Bare.calls t138 t139 t140 t141 _ A7.out).mono ?_); rintro e w10 ⟨rfl, hb⟩; refine ⟨_, rfl, ?_⟩; have n0_ := Aside0.mk (blk_below (g := gb133) (o := .cells #[.int .i64 0, .bool false, .int .i64 0] 44 (0, 0)) (by (with_reducible repeat (first | refine blk_drewN ?_ _ | refine blk_drew ?_ | refine blk_alloc ?_ _)); exact BK133.out) hb); have n1_ := Aside0.mk (below_step (by repeat (first | (with_reducible first | exact HB.out | apply below_alloc | apply pw_below_drewN | apply below_drew1 | refine below_set ?_ GE133.out) | exact HB.out)) hb); clear BK133; clear HB; have BK133 := n0_; have HB := n1_; clear n0_ n1_; (try clear hb); (try clear hb2); (try clear hk); (try clear hi); have hcz11_0 : w10.cell? ⟨gb133, 0, none⟩ = some (.int .i64 0) := (blk_cell BK133.out 0).trans rfl; have hcz11_1 : w10.cell? ⟨gb133, 1, none⟩ = some (.bool false) := (blk_cell BK133.out 1).trans rfl; have hcz11_2 : w10.cell? ⟨gb133, 2, none⟩ = some (.int .i64 0) := (blk_cell BK133.out 2).trans rfl; have hfz11_0 := blk_frozen BK133.out 0; have hfz11_1 := blk_frozen BK133.out 1; have hfz11_2 := blk_frozen BK133.out 2))
    refine bodyPost_ret (results_cell_row rfl _ _ gb133 44 #[.int .i64 t139, .bool t140, .int .i64 t141] (0, 0) _ rfl (by (with_reducible repeat (first | refine blk_drewN ?_ _ | refine blk_drew ?_ | refine blk_alloc ?_ _)); refine blk_put (cs := #[.int .i64 t139, .bool t140, .int .i64 0]) ?_ 2 _ rfl; (with_reducible repeat (first | refine blk_drewN ?_ _ | refine blk_drew ?_ | refine blk_alloc ?_ _)); refine blk_put (cs := #[.int .i64 t139, .bool false, .int .i64 0]) ?_ 1 _ rfl; (with_reducible repeat (first | refine blk_drewN ?_ _ | refine blk_drew ?_ | refine blk_alloc ?_ _)); refine blk_put (cs := #[.int .i64 0, .bool false, .int .i64 0]) ?_ 0 _ rfl; (with_reducible repeat (first | refine blk_drewN ?_ _ | refine blk_drew ?_ | refine blk_alloc ?_ _)); exact BK133.out) Tryd.underlying44 rfl (by kernel_rfl)) rfl ?_
    exact ⟨by first | rfl | (simp [errW_none, errW_some] <;> rfl) | (exfalso; simp_all; done) | (simp [*, errW_none, errW_some] <;> rfl), by repeat (first | (with_reducible first | exact HB.out | apply below_alloc | apply pw_below_drewN | apply below_drew1 | refine below_set ?_ GE133.out) | exact HB.out)⟩

/-! ### pledgesee_Same: function 17 -/
def pledgesee_Same.f (a0 : Option Int) (a1_0 : Int) (a1_1 : Bool) (a1_2 : Int) : Option (Bool) := (pledgesee_Fault.f a0).bind fun bt143 => ((pledgeref_SameFault.f bt143.1 bt143.2.1 bt143.2.2 a1_0 a1_1 a1_2).bind fun t146 => (some t146))
set_option maxHeartbeats 8000000 in
set_option maxRecDepth 100000 in
theorem pledgesee_Same.calls [Inhabited (Int → Addr)] (a0 : Option Int) (a1_0 : Int) (a1_1 : Bool) (a1_2 : Int) (r : Bool) (w : World) (hG : GlobOK w) (h : pledgesee_Same.f a0 a1_0 a1_1 a1_2 = some r) :
    Calls Tryd.prog 17 #[errW a0, .agg #[.int .i64 a1_0, .bool a1_1, .int .i64 a1_2]] w fun e w' => e = .returned (.bool r) ∧ Below w.heap.size w w' := by
  have hu44 := Tryd.underlying44
  have HG := Aside0.mk hG
  clear hG
  have HB := Aside0.mk (Below.refl w.heap.size w)
  have H : ((pledgesee_Fault.f a0).bind fun bt143 => ((pledgeref_SameFault.f bt143.1 bt143.2.1 bt143.2.2 a1_0 a1_1 a1_2).bind fun t146 => (some t146))) = some r := h
  clear h
  replace H := Option.bind_eq_some_iff.mp H
  obtain ⟨⟨t143, t144, t145⟩, A30, H⟩ := H
  replace H : ((pledgeref_SameFault.f t143 t144 t145 a1_0 a1_1 a1_2).bind fun t146 => (some t146)) = some r := H
  have A3 := Aside0.mk A30
  clear A30
  replace H := Option.bind_eq_some_iff.mp H
  obtain ⟨t146, A40, H⟩ := H
  replace H : (some t146) = some r := H
  have A4 := Aside0.mk A40
  clear A40
  obtain rfl := Option.some.inj H
  go_enter Tryd.func17, Tryd.ntmps17
  try go_wp2_with (first | ((with_reducible refine gate_dst (N := 3) rfl ?_); refine box_event ?hg (N := 3) ?hd (cs := #[.int .i64 a1_0, .bool a1_1, .int .i64 a1_2]) (t := 44) ?hr ?_; (case hd => rfl); (case hg => rfl); (case hr => first | (go_simp; done) | (go_simp; rfl)); intro gb142 hg w5 hbox hb; have n0_ := Aside0.mk (below_step (by repeat (first | (with_reducible first | exact HB.out | apply below_alloc | apply pw_below_drewN | apply below_drew1) | exact HB.out)) hb); have n1_ := Aside0.mk (hbox); have n2_ := Aside0.mk ((by rw [hg]; exact (below_size (by repeat (first | (with_reducible first | exact HB.out | apply below_alloc | apply pw_below_drewN | apply below_drew1) | exact HB.out))) : w.heap.size ≤ gb142)); have n3_ := Aside0.mk ((by rw [hg]; exact (below_size (by repeat (first | (with_reducible first | exact HB.out | apply below_alloc | apply pw_below_drewN | apply below_drew1) | exact HB.out))) : w.heap.size ≤ gb142)); clear HB; have HB := n0_; have BK142 := n1_; have GW142 := n2_; have GE142 := n3_; clear n0_ n1_ n2_ n3_; clear hb hbox hg))
  have n0_ := Aside0.mk (blk_drew BK142.out)
  have n1_ := Aside0.mk (below_drew1 HB.out)
  clear BK142
  clear HB
  have BK142 := n0_
  have HB := n1_
  clear n0_ n1_
  have CA3 := fun W hG_ => pledgesee_Fault.calls a0 t143 t144 t145 W hG_ A3.out
  try simp only [errW_none, errW_some] at CA3
  refine start_ (n := 5) (S := fun w' => w'.cell? ⟨gb142, 0, none⟩ = some (.int .i64 a1_0) ∧ w'.cell? ⟨gb142, 1, none⟩ = some (.bool a1_1) ∧ w'.cell? ⟨gb142, 2, none⟩ = some (.int .i64 a1_2)) (ds := []) #[false, false, false, false, false] (by kernel_rfl) rfl rfl ⟨(blk_cell BK142.out 0).trans rfl, (blk_cell BK142.out 1).trans rfl, (blk_cell BK142.out 2).trans rfl⟩ (fun hHeld => ?_)
  generalize w5.drew = w6 at BK142 HB hHeld ⊢
  refine pure_ (i := 0) (N := some 5) (v := ?_) (a' := ?_) #[true, false, false, false, false] rfl rfl (by kernel_rfl) (fun _ _ _ h => h) (Or.inl ⟨by rfl, ?_⟩) ?_ ?_
  rotate_left
  · intro w'
    go_simp
    with_reducible rfl
  rotate_left
  · simp only [Act.put, List.setIfInBounds_toArray, List.set_cons_zero, List.set_cons_succ, i64_w, i32_w]
    rfl
  refine take_ (i := 2) (N := some 7) (v := ?_) (a' := ?_) #[true, false, true, false, false] rfl rfl (by kernel_rfl) (fun _ _ _ h => h) (Or.inl ⟨by rfl, ?_⟩) hHeld ?_ ?_
  rotate_left
  · rintro w' ⟨s0, s1, s2⟩
    go_simp
    with_reducible rfl
  rotate_left
  · simp only [Act.put, List.setIfInBounds_toArray, List.set_cons_zero, List.set_cons_succ, i64_w, i32_w]
    rfl
  refine one_ (i := 1) (N := some 6) #[true, true, true, false, false] rfl rfl (by kernel_rfl) (by decide) (fun K hK => ?_)
  refine goes_ Tryd.func39 (by kernel_rfl) rfl #[errW a0] (by rfl) rfl rfl (by (try simp only [List.map_toArray, List.map_cons, List.map_nil]); first | done | rfl | (simp only [List.length_drop, List.length_take]; rfl)) ?_
  with_reducible refine (CA3 _ ?side1).mono ?_
  (case side1 => exact GlobOK.below HG.out (by repeat (first | (with_reducible first | exact HB.out | apply below_alloc | apply pw_below_drewN | apply below_drew1 | refine below_set ?_ GE142.out) | exact HB.out)))
  rintro e w7 ⟨rfl, hb⟩
  refine ⟨_, rfl, ?_⟩
  have n0_ := Aside0.mk (blk_below (g := gb142) (o := .cells #[.int .i64 a1_0, .bool a1_1, .int .i64 a1_2] 44 (0, 0)) (by (with_reducible repeat (first | refine blk_drewN ?_ _ | refine blk_drew ?_ | refine blk_alloc ?_ _)); exact BK142.out) hb)
  have n1_ := Aside0.mk (below_step (by repeat (first | (with_reducible first | exact HB.out | apply below_alloc | apply pw_below_drewN | apply below_drew1 | refine below_set ?_ GE142.out) | exact HB.out)) hb)
  clear BK142
  clear HB
  have BK142 := n0_
  have HB := n1_
  clear n0_ n1_
  (try clear hb)
  (try clear hb2)
  (try clear hk)
  (try clear hi)
  refine hK.out _ _ ⟨(blk_cell BK142.out 0).trans rfl, (blk_cell BK142.out 1).trans rfl, (blk_cell BK142.out 2).trans rfl⟩ (fun hHeld => ?_)
  clear hK K
  refine norm_ (a' := ?_) ?_ ?_
  rotate_left
  · show Act.put _ (some 6) _ = _
    simp only [Act.put, List.setIfInBounds_toArray, List.set_cons_zero, List.set_cons_succ, i64_w, i32_w]
    rfl
  refine one_ (i := 3) (N := some 8) #[true, true, true, true, false] rfl rfl (by kernel_rfl) (by decide) (fun K hK => ?_)
  refine goes_ Tryd.func38 (by kernel_rfl) rfl #[.agg #[.int .i64 t143, .bool t144, .int .i64 t145], .agg #[.int .i64 a1_0, .bool a1_1, .int .i64 a1_2]] (by rfl) rfl rfl (by (try simp only [List.map_toArray, List.map_cons, List.map_nil]); first | done | rfl | (simp only [List.length_drop, List.length_take]; rfl)) ?_
  with_reducible refine (pledgeref_SameFault.calls t143 t144 t145 a1_0 a1_1 a1_2 t146 _ A4.out).mono ?_
  rintro e w8 ⟨rfl, hb⟩
  refine ⟨_, rfl, ?_⟩
  have n0_ := Aside0.mk (blk_below (g := gb142) (o := .cells #[.int .i64 a1_0, .bool a1_1, .int .i64 a1_2] 44 (0, 0)) (by (with_reducible repeat (first | refine blk_drewN ?_ _ | refine blk_drew ?_ | refine blk_alloc ?_ _)); exact BK142.out) hb)
  have n1_ := Aside0.mk (below_step (by repeat (first | (with_reducible first | exact HB.out | apply below_alloc | apply pw_below_drewN | apply below_drew1 | refine below_set ?_ GE142.out) | exact HB.out)) hb)
  clear BK142
  clear HB
  have BK142 := n0_
  have HB := n1_
  clear n0_ n1_
  (try clear hb)
  (try clear hb2)
  (try clear hk)
  (try clear hi)
  refine hK.out _ _ ⟨(blk_cell BK142.out 0).trans rfl, (blk_cell BK142.out 1).trans rfl, (blk_cell BK142.out 2).trans rfl⟩ (fun hHeld => ?_)
  clear hK K
  refine norm_ (a' := ?_) ?_ ?_
  rotate_left
  · show Act.put _ (some 8) _ = _
    simp only [Act.put, List.setIfInBounds_toArray, List.set_cons_zero, List.set_cons_succ, i64_w, i32_w]
    rfl
  refine pure_ (i := 4) (N := some 4) (v := ?_) (a' := ?_) #[true, true, true, true, true] rfl rfl (by kernel_rfl) (fun _ _ _ h => h) (Or.inl ⟨by rfl, ?_⟩) ?_ ?_
  rotate_left
  · intro w'
    go_simp
    with_reducible rfl
  rotate_left
  · simp only [Act.put, List.setIfInBounds_toArray, List.set_cons_zero, List.set_cons_succ, i64_w, i32_w]
    rfl
  refine done_ (by kernel_rfl) ?_
  try go_wp2
  go_ret
  exact ⟨by first | rfl | (simp [errW_none, errW_some] <;> rfl) | (exfalso; simp_all; done) | (simp [*, errW_none, errW_some] <;> rfl), by repeat (first | (with_reducible first | exact HB.out | apply below_alloc | apply pw_below_drewN | apply below_drew1 | refine below_set ?_ GE142.out) | exact HB.out)⟩

/-! ### pledgesee_Is: function 9 -/
def pledgesee_Is.f (a0 : Option Int) (a1 : Int) : Option (Bool) := (pledgeref_Bare.f a1).bind fun bt147 => ((pledgesee_Same.f a0 bt147.1 bt147.2.1 bt147.2.2).bind fun t150 => (some t150))
set_option maxHeartbeats 8000000 in
set_option maxRecDepth 100000 in
theorem pledgesee_Is.calls [Inhabited (Int → Addr)] (a0 : Option Int) (a1 : Int) (r : Bool) (w : World) (hG : GlobOK w) (h : pledgesee_Is.f a0 a1 = some r) :
    Calls Tryd.prog 9 #[errW a0, .int .i64 a1] w fun e w' => e = .returned (.bool r) ∧ Below w.heap.size w w' := by
  have HG := Aside0.mk hG
  clear hG
  have HB := Aside0.mk (Below.refl w.heap.size w)
  have H : ((pledgeref_Bare.f a1).bind fun bt147 => ((pledgesee_Same.f a0 bt147.1 bt147.2.1 bt147.2.2).bind fun t150 => (some t150))) = some r := h
  clear h
  replace H := Option.bind_eq_some_iff.mp H
  obtain ⟨⟨t147, t148, t149⟩, A30, H⟩ := H
  replace H : ((pledgesee_Same.f a0 t147 t148 t149).bind fun t150 => (some t150)) = some r := H
  have A3 := Aside0.mk A30
  clear A30
  replace H := Option.bind_eq_some_iff.mp H
  obtain ⟨t150, A40, H⟩ := H
  replace H : (some t150) = some r := H
  have A4 := Aside0.mk A40
  clear A40
  obtain rfl := Option.some.inj H
  go_enter Tryd.func9, Tryd.ntmps9
  go_wp2_with (first | ((with_reducible refine gate_callee (f := 28) rfl ?_); refine goesL_ (some 7) rfl rfl Tryd.func28 (by kernel_rfl) rfl #[.int .i64 a1] rfl (by (try simp only [List.map_toArray, List.map_cons, List.map_nil]); first | done | rfl | (simp only [List.length_drop, List.length_take]; rfl)) ?_; (with_reducible refine (pledgeref_Bare.calls a1 t147 t148 t149 _ A3.out).mono ?_); rintro e w5 ⟨rfl, hb⟩; refine ⟨_, rfl, ?_⟩; have n0_ := Aside0.mk (below_step (by repeat (first | (with_reducible first | exact HB.out | apply below_alloc | apply pw_below_drewN | apply below_drew1) | exact HB.out)) hb); clear HB; have HB := n0_; clear n0_; (try clear hb); (try clear hb2); (try clear hk); (try clear hi); have CA4 := fun W hG_ => pledgesee_Same.calls a0 t147 t148 t149 t150 W hG_ A4.out; try simp only [errW_none, errW_some] at CA4) | (go_at_call 17; (with_reducible refine (CA4 _ ?side1).mono ?_); (case side1 => exact GlobOK.below HG.out (by repeat (first | (with_reducible first | exact HB.out | apply below_alloc | apply pw_below_drewN | apply below_drew1) | exact HB.out))); rintro e w6 ⟨rfl, hb⟩; have n0_ := Aside0.mk (below_step (by repeat (first | (with_reducible first | exact HB.out | apply below_alloc | apply pw_below_drewN | apply below_drew1) | exact HB.out)) hb); clear HB; have HB := n0_; clear n0_; (try clear hb); (try clear hb2); (try clear hk); (try clear hi)))
  go_ret
  exact ⟨by first | rfl | (simp [errW_none, errW_some] <;> rfl) | (exfalso; simp_all; done) | (simp [*, errW_none, errW_some] <;> rfl), by repeat (first | (with_reducible first | exact HB.out | apply below_alloc | apply pw_below_drewN | apply below_drew1) | exact HB.out)⟩

/-! ### rec_number: function 29 -/
def rec_number.l0 : Nat → Int → List Int → Int → Int → Option (Int)
  | 0, _, _, _, _ => none
  | k + 1, x3, x7, x8, x9 => if x9 < x8 then (if 0 ≤ x9 then (if x9 < (x7.length : Int) then (rec_number.l0 k (Go.bits .or .i64 (wrap64 (x3 * 256)) (wrap64 (rd x7 x9))) x7 x8 (wrap64 (x9 + 1))) else (none)) else (none)) else (some x3)
def rec_number.f (k : Nat) (l0 : List Int) : Option (Int) := if 5 ≤ (l0.length : Int) then (rec_number.l0 k 0 (l0.take 5) ((l0.take 5).length : Int) 0) else (none)
theorem rec_number.mono_l : ∀ k, (∀ y0 y1 y2 y3, LeO (rec_number.l0 k y0 y1 y2 y3) (rec_number.l0 (k + 1) y0 y1 y2 y3))
  | 0 => fun _ _ _ _ r h => by simp [rec_number.l0] at h
  | k + 1 => by
    have ih0 := rec_number.mono_l k
    · intro y0 y1 y2 y3
      unfold rec_number.l0
      repeat' first
      | (with_reducible exact ih0 _ _ _ _)
      | (with_reducible exact LeO.refl _)
      | (with_reducible exact LeO.none _)
      | (with_reducible refine LeO.ite ?_ ?_)
      | (with_reducible refine LeO.bind ?_ (fun _ => ?_))
      | exact ih0 _ _ _ _
      | exact LeO.none _
      | refine LeO.ite ?_ ?_
      | refine LeO.bind ?_ (fun _ => ?_)
theorem rec_number.mono : ∀ a0 k, LeO (rec_number.f k a0) (rec_number.f (k + 1) a0) := by
  intro a0 k
  have ih0 := rec_number.mono_l k
  unfold rec_number.f
  repeat' first
      | (with_reducible exact ih0 _ _ _ _)
      | (with_reducible exact LeO.refl _)
      | (with_reducible exact LeO.none _)
      | (with_reducible refine LeO.ite ?_ ?_)
      | (with_reducible refine LeO.bind ?_ (fun _ => ?_))
      | exact ih0 _ _ _ _
      | exact LeO.none _
      | refine LeO.ite ?_ ?_
      | refine LeO.bind ?_ (fun _ => ?_)
set_option maxHeartbeats 8000000 in
set_option maxRecDepth 100000 in
theorem rec_number.calls [Inhabited (Int → Addr)] (k : Nat) (A0 : Option Addr) (c0 : Nat) (l0 : List Int) (r : Int) (w : World) (hr0 : Kd.C (Kd.int .u8) w A0 l0.length l0) (hc0 : l0.length ≤ c0) (h : rec_number.f k l0 = some r) :
    Calls Tryd.prog 29 #[.slice A0 l0.length c0] w fun e w' => e = .returned (.int .i64 r) ∧ Drawn0 w w' := by
  have HR0 := Aside0.mk hr0
  have HC0 := Aside0.mk hc0
  clear hr0 hc0
  have H : (if 5 ≤ (l0.length : Int) then (rec_number.l0 k 0 (l0.take 5) ((l0.take 5).length : Int) 0) else (none)) = some r := h
  clear h
  by_cases c2 : 5 ≤ (l0.length : Int)
  · rw [if_pos c2] at H
    have c2b0 := eq_true c2
    have c2b1 : decide (5 ≤ (l0.length : Int)) = true := decide_eq_true c2
    clear c2
    have H' := Aside0.mk H
    clear H
    obtain ⟨i03, hi03, _, hsz3, _⟩ := info_parts info5
    obtain ⟨hcut3, hA3, hC3⟩ := print_take_of (P := Tryd.prog) (Value.int .u8) 0 22 5 .i64 Tryd.underlying22 hi03 hsz3 A0 c0 l0 5 (by omega) (of_decide_eq_true (by first | (with_reducible assumption) | assumption)) HC0.out
    have HR151 := Aside0.mk (Kd.C_of_reads (h1 := fun _ => rfl) (hA3 _ (Kd.reads_of_C HR0.out)))
    have HC151 := Aside0.mk hC3
    clear hA3 hC3 hi03 hsz3
    go_enter Tryd.func29, Tryd.ntmps29
    go_wp2
    go_loopg [3, 9] k (fun kq v3 v9 w' => ∃ (x3_1 : Int) (x9_1 : Int), v3 = .int .i64 x3_1 ∧ v9 = .int .i64 x9_1 ∧ Aside0 (rec_number.l0 kq x3_1 (l0.take 5) ((l0.take 5).length : Int) x9_1 = some r) ∧ Aside0 (kq ≤ k) ∧ Drawn0 w w')
    case atStart => exact ⟨(0), (0), (by first | rfl | (simp; done) | (simp [*]; done) | (simp [wrap64]; done) | (simp [wrap64]; omega)), (by first | rfl | (simp; done) | (simp [*]; done) | (simp [wrap64]; done) | (simp [wrap64]; omega)), H', ⟨Nat.le_refl _⟩, by repeat (first | exact Drawn0.refl _ | apply Drawn0.step)⟩
    case round =>
      clear H'
      try clear c2
      try clear c2b0
      try clear c2b1
      try clear p2
      obtain ⟨x3_1, x9_1, rfl, rfl, HA, HK1, ⟨m1, rfl⟩⟩ := hrel
      cases gk with
      | zero => exact absurd HA.out (by simp [rec_number.l0])
      | succ k1 =>
        have H := HA.out
        clear HA
        simp only [rec_number.l0] at H
        by_cases c4 : x9_1 < ((l0.take 5).length : Int)
        · rw [if_pos c4] at H
          have c4b0 : decide (x9_1 < ((l0.take 5).length : Int)) = true := decide_eq_true c4
          (try (have c4b1 : decide (x9_1 < ((min 5 l0.length : Nat) : Int)) = true := by have h_ := c4; simp only [List.length_take] at h_; exact decide_eq_true h_))
          clear c4
          by_cases c5 : 0 ≤ x9_1
          · rw [if_pos c5] at H
            have c5b0 : decide (0 ≤ x9_1) = true := decide_eq_true c5
            clear c5
            by_cases c6 : x9_1 < ((l0.take 5).length : Int)
            · rw [if_pos c6] at H
              have c6b0 : decide (x9_1 < ((l0.take 5).length : Int)) = true := decide_eq_true c6
              (try (have c6b1 : decide (x9_1 < ((min 5 l0.length : Nat) : Int)) = true := by have h_ := c6; simp only [List.length_take] at h_; exact decide_eq_true h_))
              clear c6
              have H' := Aside0.mk H
              clear H
              have p152 : 0 ≤ (x9_1 : Int) := of_decide_eq_true (by first | (with_reducible assumption) | assumption)
              have q152 : x9_1 < ((l0.take 5).length : Int) := of_decide_eq_true (by first | (with_reducible assumption) | assumption)
              (try have qt152 : (x9_1 < ((min 5 l0.length : Nat) : Int)) = True := eq_true (by have h_ := q152; simp only [List.length_take] at h_; exact h_))
              obtain ⟨ad152, e152, hx152_0⟩ := Kd.at_int HR151.out x9_1 p152 q152
              cases e152
              replace p152 := eq_true p152
              replace q152 := eq_true q152
              go_wp2
              go_roundg k1
              case measure => have := HK1.out; omega
              case rel => exact ⟨(Go.bits .or .i64 (wrap64 (x3_1 * 256)) (wrap64 (rd (l0.take 5) x9_1))), (wrap64 (x9_1 + 1)), (by first | rfl | (simp; done) | (simp [*]; done) | (simp [wrap64]; done) | (simp [wrap64]; omega)), (by first | rfl | (simp; done) | (simp [*]; done) | (simp [wrap64]; done) | (simp [wrap64]; omega)), H', ⟨by have := HK1.out; omega⟩, by repeat (first | exact Drawn0.refl _ | apply Drawn0.step)⟩
            · rw [if_neg c6] at H
              exact absurd H (by simp)
          · rw [if_neg c5] at H
            exact absurd H (by simp)
        · rw [if_neg c4] at H
          have c4b0 : decide (x9_1 < ((l0.take 5).length : Int)) = false := decide_eq_false c4
          (try (have c4b1 : decide (x9_1 < ((min 5 l0.length : Nat) : Int)) = false := by have h_ := c4; simp only [List.length_take] at h_; exact decide_eq_false h_))
          clear c4
          obtain rfl := Option.some.inj H
          go_wp2
          go_ret
          exact ⟨by first | rfl | (simp; done) | (simp [*]; done) | (simp [wrap64]; done) | (simp <;> rfl), by repeat (first | exact Drawn0.refl _ | apply Drawn0.step)⟩
  · rw [if_neg c2] at H
    exact absurd H (by simp)

/-! ### rec_Read: function 10 -/
def rec_Read.f (k : Nat) (l0 : List Int) : Option (Int × Int × Int × Option Int) := if (l0.length : Int) < 11 then (some (0, 0, 0, some 101)) else (if (l0.length : Int) > 11 then (some (0, 0, 0, some 102)) else (if 0 < (l0.length : Int) then (if 1 ≤ (l0.length : Int) then ((rec_number.f k (l0.drop 1)).bind fun t156 => (if 6 ≤ (l0.length : Int) then ((rec_number.f k (l0.drop 6)).bind fun t158 => (some (wrap64 (rd l0 0), t156, t158, none))) else (none))) else (none)) else (none)))
theorem rec_Read.mono : ∀ a0 k, LeO (rec_Read.f k a0) (rec_Read.f (k + 1) a0) := by
  intro a0 k
  unfold rec_Read.f
  repeat' first
      | (with_reducible exact rec_number.mono _ _)
      | (with_reducible exact LeO.refl _)
      | (with_reducible exact LeO.none _)
      | (with_reducible refine LeO.ite ?_ ?_)
      | (with_reducible refine LeO.bind ?_ (fun _ => ?_))
      | exact rec_number.mono _ _
      | exact LeO.none _
      | refine LeO.ite ?_ ?_
      | refine LeO.bind ?_ (fun _ => ?_)
def rec_Read.T5 : Bool × List (List Nat × List Nat) := (true, [([], []), ([0], [0]), ([1], [1]), ([2], [2]), ([], []), ([4], [4]), ([5], [5]), ([], []), ([7], [7]), ([8, 6], [8]), ([3, 6, 9], [3, 6, 9]), ([10, 9, 0, 1, 2, 3, 4, 5, 6, 7, 8, 9, 10], [10]), ([11, 0, 1, 2, 3, 4, 5, 6, 7, 8, 9, 10, 11], [])])
def rec_Read.B5 : List Nat := [0, 1, 3, 7, 0, 16, 48, 0, 128, 496, 1023, 2047, 4095]
theorem rec_Read.tab5 : rtab .any (opsOf Tryd.f10 5) = rec_Read.T5 := by kernel_rfl
theorem rec_Read.bits5 : waitsOk rec_Read.T5.2 rec_Read.B5 = true := by kernel_rfl
set_option maxHeartbeats 8000000 in
set_option maxRecDepth 100000 in
theorem rec_Read.calls [Inhabited (Int → Addr)] (k : Nat) (A0 : Option Addr) (c0 : Nat) (l0 : List Int) (r1 : Int) (r2 : Int) (r3 : Int) (r4 : Option Int) (w : World) (hG : GlobOK w) (hr0 : Kd.C (Kd.int .u8) w A0 l0.length l0) (hc0 : l0.length ≤ c0) (h : rec_Read.f k l0 = some (r1, r2, r3, r4)) :
    Calls Tryd.prog 10 #[.slice A0 l0.length c0] w fun e w' => e = .returned (.tuple #[.agg #[.int .i64 r1, .int .i64 r2, .int .i64 r3], errW r4]) ∧ Below w.heap.size w w' := by
  have hu29 := Tryd.underlying29
  have HG := Aside0.mk hG
  clear hG
  have HR0 := Aside0.mk hr0
  have HC0 := Aside0.mk hc0
  clear hr0 hc0
  have HB := Aside0.mk (Below.refl w.heap.size w)
  have H : (if (l0.length : Int) < 11 then (some (0, 0, 0, some 101)) else (if (l0.length : Int) > 11 then (some (0, 0, 0, some 102)) else (if 0 < (l0.length : Int) then (if 1 ≤ (l0.length : Int) then ((rec_number.f k (l0.drop 1)).bind fun t156 => (if 6 ≤ (l0.length : Int) then ((rec_number.f k (l0.drop 6)).bind fun t158 => (some (wrap64 (rd l0 0), t156, t158, none))) else (none))) else (none)) else (none)))) = some (r1, r2, r3, r4) := h
  clear h
  by_cases c2 : (l0.length : Int) < 11
  · rw [if_pos c2] at H
    have c2b0 : decide ((l0.length : Int) < 11) = true := decide_eq_true c2
    have c2b1 : decide (l0.length < 11) = true := decide_eq_true (by omega)
    clear c2
    simp only [Option.some.injEq, Prod.mk.injEq] at H
    obtain ⟨rfl, rfl, rfl, rfl⟩ := H
    go_enter Tryd.func10, Tryd.ntmps10
    try go_wp2_with (first | ((with_reducible refine gate_dst (N := 2) rfl ?_); refine box_event ?hg (N := 2) ?hd (cs := #[.int .i64 0, .int .i64 0, .int .i64 0]) (t := 29) ?hr ?_; (case hd => rfl); (case hg => rfl); (case hr => first | (go_simp; done) | (go_simp; rfl)); intro gb153 hg w3 hbox hb; have n0_ := Aside0.mk (below_step (by repeat (first | (with_reducible first | exact HB.out | apply below_alloc | apply pw_below_drewN | apply below_drew1) | exact HB.out)) hb); have n1_ := Aside0.mk (hbox); have n2_ := Aside0.mk ((by rw [hg]; exact (below_size (by repeat (first | (with_reducible first | exact HB.out | apply below_alloc | apply pw_below_drewN | apply below_drew1) | exact HB.out))) : w.heap.size ≤ gb153)); have n3_ := Aside0.mk ((by rw [hg]; exact (below_size (by repeat (first | (with_reducible first | exact HB.out | apply below_alloc | apply pw_below_drewN | apply below_drew1) | exact HB.out))) : w.heap.size ≤ gb153)); clear HB; have HB := n0_; have BK153 := n1_; have GW153 := n2_; have GE153 := n3_; clear n0_ n1_ n2_ n3_; clear hb hbox hg))
    have n0_ := Aside0.mk (blk_drew BK153.out)
    have n1_ := Aside0.mk (below_drew1 HB.out)
    clear BK153
    clear HB
    have BK153 := n0_
    have HB := n1_
    clear n0_ n1_
    have hwg5 := GlobOK.at HG.out 101 1 (by simp [globTab])
    have hxg5_0 := hwg5
    replace hxg5_0 := (HB.out.cell (World.block_lt_of_cell? w _ hxg5_0)).trans hxg5_0
    refine start_ (n := 4) (S := fun w' => w'.cell? ⟨1, 0, none⟩ = some (.iface 88 (.pointer (some (adr 101))))) (ds := []) #[false, false, false, false] (by kernel_rfl) rfl rfl (((HB.out.cell (World.block_lt_of_cell? w _ hwg5)).trans hwg5)) (fun hHeld => ?_)
    generalize w3.drew = w4 at BK153 HB hHeld ⊢
    refine pure_ (i := 0) (N := some 8) (v := ?_) (a' := ?_) #[true, false, false, false] rfl rfl (by kernel_rfl) (fun _ _ _ h => h) (Or.inl ⟨by rfl, ?_⟩) ?_ ?_
    rotate_left
    · intro w'
      go_simp
      with_reducible rfl
    rotate_left
    · simp only [Act.put, List.setIfInBounds_toArray, List.set_cons_zero, List.set_cons_succ, i64_w, i32_w]
      rfl
    refine take_ (i := 1) (N := some 9) (v := ?_) (a' := ?_) #[true, true, false, false] rfl rfl (by kernel_rfl) (fun _ _ _ h => h) (Or.inl ⟨by rfl, ?_⟩) hHeld ?_ ?_
    rotate_left
    · intro w' s0
      go_simp
      with_reducible rfl
    rotate_left
    · simp only [Act.put, List.setIfInBounds_toArray, List.set_cons_zero, List.set_cons_succ, i64_w, i32_w]
      rfl
    refine one_ (i := 2) (N := none) #[true, true, true, false] rfl rfl (by kernel_rfl) (by decide) (fun K hK => ?_)
    have hs6 : w4.cell? ⟨gb153, 0, none⟩ = some (.int .i64 0) := (blk_cell BK153.out 0).trans rfl
    have hfs6 := blk_frozen BK153.out 0
    have hs7 : w4.cell? ⟨gb153, 1, none⟩ = some (.int .i64 0) := (blk_cell BK153.out 1).trans rfl
    have hfs7 := blk_frozen BK153.out 1
    have hs8 : w4.cell? ⟨gb153, 2, none⟩ = some (.int .i64 0) := (blk_cell BK153.out 2).trans rfl
    have hfs8 := blk_frozen BK153.out 2
    refine skip_ (w1 := ?_) (by rfl) rfl ?_ ?_
    rotate_left
    · go_simp
      rfl
    refine hK.out _ _ (((cell_far (p := ⟨gb153, _, none⟩) (by first | exact Nat.ne_of_lt (Nat.lt_of_lt_of_le (World.block_lt_of_cell? w _ hwg5) GE153.out) | (rw [add_block]; exact Nat.ne_of_lt (Nat.lt_of_lt_of_le (World.block_lt_of_cell? w _ hwg5) GE153.out)) | (show (Addr.add _ _).block ≠ _; rw [add_block]; exact Nat.ne_of_lt (Nat.lt_of_lt_of_le (World.block_lt_of_cell? w _ hwg5) GE153.out)) | (dsimp only; exact Nat.ne_of_lt (Nat.lt_of_lt_of_le (World.block_lt_of_cell? w _ hwg5) GE153.out))) _).trans (((cell_far (p := ⟨gb153, _, none⟩) (by first | exact Nat.ne_of_lt (Nat.lt_of_lt_of_le (World.block_lt_of_cell? w _ hwg5) GE153.out) | (rw [add_block]; exact Nat.ne_of_lt (Nat.lt_of_lt_of_le (World.block_lt_of_cell? w _ hwg5) GE153.out)) | (show (Addr.add _ _).block ≠ _; rw [add_block]; exact Nat.ne_of_lt (Nat.lt_of_lt_of_le (World.block_lt_of_cell? w _ hwg5) GE153.out)) | (dsimp only; exact Nat.ne_of_lt (Nat.lt_of_lt_of_le (World.block_lt_of_cell? w _ hwg5) GE153.out))) _).trans (((cell_far (p := ⟨gb153, _, none⟩) (by first | exact Nat.ne_of_lt (Nat.lt_of_lt_of_le (World.block_lt_of_cell? w _ hwg5) GE153.out) | (rw [add_block]; exact Nat.ne_of_lt (Nat.lt_of_lt_of_le (World.block_lt_of_cell? w _ hwg5) GE153.out)) | (show (Addr.add _ _).block ≠ _; rw [add_block]; exact Nat.ne_of_lt (Nat.lt_of_lt_of_le (World.block_lt_of_cell? w _ hwg5) GE153.out)) | (dsimp only; exact Nat.ne_of_lt (Nat.lt_of_lt_of_le (World.block_lt_of_cell? w _ hwg5) GE153.out))) _).trans (hHeld))))))) (fun hHeld => ?_)
    clear hK K
    refine pure_ (i := 3) (N := some 3) (v := ?_) (a' := ?_) #[true, true, true, true] rfl rfl (by kernel_rfl) (fun _ _ _ h => h) (Or.inl ⟨by rfl, ?_⟩) ?_ ?_
    rotate_left
    · intro w'
      go_simp
      with_reducible rfl
    rotate_left
    · simp only [Act.put, List.setIfInBounds_toArray, List.set_cons_zero, List.set_cons_succ, i64_w, i32_w]
      rfl
    refine done_ (by kernel_rfl) ?_
    try go_wp2
    refine bodyPost_ret (results_ct rfl _ _ gb153 29 #[.int .i64 0, .int .i64 0, .int .i64 0] (0, 0) _ rfl (by (with_reducible repeat (first | refine blk_drewN ?_ _ | refine blk_drew ?_ | refine blk_alloc ?_ _)); refine blk_put (cs := #[.int .i64 0, .int .i64 0, .int .i64 0]) ?_ 2 _ rfl; (with_reducible repeat (first | refine blk_drewN ?_ _ | refine blk_drew ?_ | refine blk_alloc ?_ _)); refine blk_put (cs := #[.int .i64 0, .int .i64 0, .int .i64 0]) ?_ 1 _ rfl; (with_reducible repeat (first | refine blk_drewN ?_ _ | refine blk_drew ?_ | refine blk_alloc ?_ _)); refine blk_put (cs := #[.int .i64 0, .int .i64 0, .int .i64 0]) ?_ 0 _ rfl; (with_reducible repeat (first | refine blk_drewN ?_ _ | refine blk_drew ?_ | refine blk_alloc ?_ _)); exact BK153.out) Tryd.underlying29 rfl (by kernel_rfl)) rfl ?_
    exact ⟨by first | rfl | (simp [errW_none, errW_some] <;> rfl) | (exfalso; simp_all; done) | (simp [*, errW_none, errW_some] <;> rfl), by repeat (first | (with_reducible first | exact HB.out | apply below_alloc | apply pw_below_drewN | apply below_drew1 | refine below_set ?_ GE153.out) | exact HB.out)⟩
  · rw [if_neg c2] at H
    have c2b0 : decide ((l0.length : Int) < 11) = false := decide_eq_false c2
    have c2b1 : decide (l0.length < 11) = false := decide_eq_false (by omega)
    clear c2
    by_cases c9 : (l0.length : Int) > 11
    · rw [if_pos c9] at H
      have c9b0 : decide (11 < (l0.length : Int)) = true := decide_eq_true c9
      have c9b1 : decide (11 < l0.length) = true := decide_eq_true (by omega)
      clear c9
      simp only [Option.some.injEq, Prod.mk.injEq] at H
      obtain ⟨rfl, rfl, rfl, rfl⟩ := H
      go_enter Tryd.func10, Tryd.ntmps10
      try go_wp2_with (first | ((with_reducible refine gate_dst (N := 2) rfl ?_); refine box_event ?hg (N := 2) ?hd (cs := #[.int .i64 0, .int .i64 0, .int .i64 0]) (t := 29) ?hr ?_; (case hd => rfl); (case hg => rfl); (case hr => first | (go_simp; done) | (go_simp; rfl)); intro gb153 hg w10 hbox hb; have n0_ := Aside0.mk (below_step (by repeat (first | (with_reducible first | exact HB.out | apply below_alloc | apply pw_below_drewN | apply below_drew1) | exact HB.out)) hb); have n1_ := Aside0.mk (hbox); have n2_ := Aside0.mk ((by rw [hg]; exact (below_size (by repeat (first | (with_reducible first | exact HB.out | apply below_alloc | apply pw_below_drewN | apply below_drew1) | exact HB.out))) : w.heap.size ≤ gb153)); have n3_ := Aside0.mk ((by rw [hg]; exact (below_size (by repeat (first | (with_reducible first | exact HB.out | apply below_alloc | apply pw_below_drewN | apply below_drew1) | exact HB.out))) : w.heap.size ≤ gb153)); clear HB; have HB := n0_; have BK153 := n1_; have GW153 := n2_; have GE153 := n3_; clear n0_ n1_ n2_ n3_; clear hb hbox hg))
      have n0_ := Aside0.mk (blk_drew BK153.out)
      have n1_ := Aside0.mk (below_drew1 HB.out)
      clear BK153
      clear HB
      have BK153 := n0_
      have HB := n1_
      clear n0_ n1_
      have hwg12 := GlobOK.at HG.out 102 2 (by simp [globTab])
      have hxg12_0 := hwg12
      replace hxg12_0 := (HB.out.cell (World.block_lt_of_cell? w _ hxg12_0)).trans hxg12_0
      refine start_ (n := 4) (S := fun w' => w'.cell? ⟨2, 0, none⟩ = some (.iface 88 (.pointer (some (adr 102))))) (ds := []) #[false, false, false, false] (by kernel_rfl) rfl rfl (((HB.out.cell (World.block_lt_of_cell? w _ hwg12)).trans hwg12)) (fun hHeld => ?_)
      generalize w10.drew = w11 at BK153 HB hHeld ⊢
      refine pure_ (i := 0) (N := some 14) (v := ?_) (a' := ?_) #[true, false, false, false] rfl rfl (by kernel_rfl) (fun _ _ _ h => h) (Or.inl ⟨by rfl, ?_⟩) ?_ ?_
      rotate_left
      · intro w'
        go_simp
        with_reducible rfl
      rotate_left
      · simp only [Act.put, List.setIfInBounds_toArray, List.set_cons_zero, List.set_cons_succ, i64_w, i32_w]
        rfl
      refine take_ (i := 1) (N := some 15) (v := ?_) (a' := ?_) #[true, true, false, false] rfl rfl (by kernel_rfl) (fun _ _ _ h => h) (Or.inl ⟨by rfl, ?_⟩) hHeld ?_ ?_
      rotate_left
      · intro w' s0
        go_simp
        with_reducible rfl
      rotate_left
      · simp only [Act.put, List.setIfInBounds_toArray, List.set_cons_zero, List.set_cons_succ, i64_w, i32_w]
        rfl
      refine one_ (i := 2) (N := none) #[true, true, true, false] rfl rfl (by kernel_rfl) (by decide) (fun K hK => ?_)
      have hs13 : w11.cell? ⟨gb153, 0, none⟩ = some (.int .i64 0) := (blk_cell BK153.out 0).trans rfl
      have hfs13 := blk_frozen BK153.out 0
      have hs14 : w11.cell? ⟨gb153, 1, none⟩ = some (.int .i64 0) := (blk_cell BK153.out 1).trans rfl
      have hfs14 := blk_frozen BK153.out 1
      have hs15 : w11.cell? ⟨gb153, 2, none⟩ = some (.int .i64 0) := (blk_cell BK153.out 2).trans rfl
      have hfs15 := blk_frozen BK153.out 2
      refine skip_ (w1 := ?_) (by rfl) rfl ?_ ?_
      rotate_left
      · go_simp
        rfl
      refine hK.out _ _ (((cell_far (p := ⟨gb153, _, none⟩) (by first | exact Nat.ne_of_lt (Nat.lt_of_lt_of_le (World.block_lt_of_cell? w _ hwg12) GE153.out) | (rw [add_block]; exact Nat.ne_of_lt (Nat.lt_of_lt_of_le (World.block_lt_of_cell? w _ hwg12) GE153.out)) | (show (Addr.add _ _).block ≠ _; rw [add_block]; exact Nat.ne_of_lt (Nat.lt_of_lt_of_le (World.block_lt_of_cell? w _ hwg12) GE153.out)) | (dsimp only; exact Nat.ne_of_lt (Nat.lt_of_lt_of_le (World.block_lt_of_cell? w _ hwg12) GE153.out))) _).trans (((cell_far (p := ⟨gb153, _, none⟩) (by first | exact Nat.ne_of_lt (Nat.lt_of_lt_of_le (World.block_lt_of_cell? w _ hwg12) GE153.out) | (rw [add_block]; exact Nat.ne_of_lt (Nat.lt_of_lt_of_le (World.block_lt_of_cell? w _ hwg12) GE153.out)) | (show (Addr.add _ _).block ≠ _; rw [add_block]; exact Nat.ne_of_lt (Nat.lt_of_lt_of_le (World.block_lt_of_cell? w _ hwg12) GE153.out)) | (dsimp only; exact Nat.ne_of_lt (Nat.lt_of_lt_of_le (World.block_lt_of_cell? w _ hwg12) GE153.out))) _).trans (((cell_far (p := ⟨gb153, _, none⟩) (by first | exact Nat.ne_of_lt (Nat.lt_of_lt_of_le (World.block_lt_of_cell? w _ hwg12) GE153.out) | (rw [add_block]; exact Nat.ne_of_lt (Nat.lt_of_lt_of_le (World.block_lt_of_cell? w _ hwg12) GE153.out)) | (show (Addr.add _ _).block ≠ _; rw [add_block]; exact Nat.ne_of_lt (Nat.lt_of_lt_of_le (World.block_lt_of_cell? w _ hwg12) GE153.out)) | (dsimp only; exact Nat.ne_of_lt (Nat.lt_of_lt_of_le (World.block_lt_of_cell? w _ hwg12) GE153.out))) _).trans (hHeld))))))) (fun hHeld => ?_)
      clear hK K
      refine pure_ (i := 3) (N := some 3) (v := ?_) (a' := ?_) #[true, true, true, true] rfl rfl (by kernel_rfl) (fun _ _ _ h => h) (Or.inl ⟨by rfl, ?_⟩) ?_ ?_
      rotate_left
      · intro w'
        go_simp
        with_reducible rfl
      rotate_left
      · simp only [Act.put, List.setIfInBounds_toArray, List.set_cons_zero, List.set_cons_succ, i64_w, i32_w]
        rfl
      refine done_ (by kernel_rfl) ?_
      try go_wp2
      refine bodyPost_ret (results_ct rfl _ _ gb153 29 #[.int .i64 0, .int .i64 0, .int .i64 0] (0, 0) _ rfl (by (with_reducible repeat (first | refine blk_drewN ?_ _ | refine blk_drew ?_ | refine blk_alloc ?_ _)); refine blk_put (cs := #[.int .i64 0, .int .i64 0, .int .i64 0]) ?_ 2 _ rfl; (with_reducible repeat (first | refine blk_drewN ?_ _ | refine blk_drew ?_ | refine blk_alloc ?_ _)); refine blk_put (cs := #[.int .i64 0, .int .i64 0, .int .i64 0]) ?_ 1 _ rfl; (with_reducible repeat (first | refine blk_drewN ?_ _ | refine blk_drew ?_ | refine blk_alloc ?_ _)); refine blk_put (cs := #[.int .i64 0, .int .i64 0, .int .i64 0]) ?_ 0 _ rfl; (with_reducible repeat (first | refine blk_drewN ?_ _ | refine blk_drew ?_ | refine blk_alloc ?_ _)); exact BK153.out) Tryd.underlying29 rfl (by kernel_rfl)) rfl ?_
      exact ⟨by first | rfl | (simp [errW_none, errW_some] <;> rfl) | (exfalso; simp_all; done) | (simp [*, errW_none, errW_some] <;> rfl), by repeat (first | (with_reducible first | exact HB.out | apply below_alloc | apply pw_below_drewN | apply below_drew1 | refine below_set ?_ GE153.out) | exact HB.out)⟩
    · rw [if_neg c9] at H
      have c9b0 : decide (11 < (l0.length : Int)) = false := decide_eq_false c9
      have c9b1 : decide (11 < l0.length) = false := decide_eq_false (by omega)
      clear c9
      by_cases c16 : 0 < (l0.length : Int)
      · rw [if_pos c16] at H
        have c16b0 : decide (0 < (l0.length : Int)) = true := decide_eq_true c16
        have c16b1 : decide (0 < l0.length) = true := decide_eq_true (by omega)
        clear c16
        by_cases c17 : 1 ≤ (l0.length : Int)
        · rw [if_pos c17] at H
          have c17b0 := eq_true c17
          have c17b1 : decide (1 ≤ (l0.length : Int)) = true := decide_eq_true c17
          clear c17
          replace H := Option.bind_eq_some_iff.mp H
          obtain ⟨t156, A180, H⟩ := H
          replace H : (if 6 ≤ (l0.length : Int) then ((rec_number.f k (l0.drop 6)).bind fun t158 => (some (wrap64 (rd l0 0), t156, t158, none))) else (none)) = some (r1, r2, r3, r4) := H
          have A18 := Aside0.mk A180
          clear A180
          by_cases c19 : 6 ≤ (l0.length : Int)
          · rw [if_pos c19] at H
            have c19b0 := eq_true c19
            have c19b1 : decide (6 ≤ (l0.length : Int)) = true := decide_eq_true c19
            clear c19
            replace H := Option.bind_eq_some_iff.mp H
            obtain ⟨t158, A200, H⟩ := H
            replace H : (some (wrap64 (rd l0 0), t156, t158, none)) = some (r1, r2, r3, r4) := H
            have A20 := Aside0.mk A200
            clear A200
            simp only [Option.some.injEq, Prod.mk.injEq] at H
            obtain ⟨rfl, rfl, rfl, rfl⟩ := H
            go_enter Tryd.func10, Tryd.ntmps10
            try go_wp2_with (first | ((with_reducible refine gate_dst (N := 2) rfl ?_); refine box_event ?hg (N := 2) ?hd (cs := #[.int .i64 0, .int .i64 0, .int .i64 0]) (t := 29) ?hr ?_; (case hd => rfl); (case hg => rfl); (case hr => first | (go_simp; done) | (go_simp; rfl)); intro gb153 hg w21 hbox hb; have n0_ := Aside0.mk (below_step (by repeat (first | (with_reducible first | exact HB.out | apply below_alloc | apply pw_below_drewN | apply below_drew1) | exact HB.out)) hb); have n1_ := Aside0.mk (hbox); have n2_ := Aside0.mk ((by rw [hg]; exact (below_size (by repeat (first | (with_reducible first | exact HB.out | apply below_alloc | apply pw_below_drewN | apply below_drew1) | exact HB.out))) : w.heap.size ≤ gb153)); have n3_ := Aside0.mk ((by rw [hg]; exact (below_size (by repeat (first | (with_reducible first | exact HB.out | apply below_alloc | apply pw_below_drewN | apply below_drew1) | exact HB.out))) : w.heap.size ≤ gb153)); clear HB; have HB := n0_; have BK153 := n1_; have GW153 := n2_; have GE153 := n3_; clear n0_ n1_ n2_ n3_; clear hb hbox hg))
            have n0_ := Aside0.mk (blk_drew BK153.out)
            have n1_ := Aside0.mk (below_drew1 HB.out)
            clear BK153
            clear HB
            have BK153 := n0_
            have HB := n1_
            clear n0_ n1_
            have p154 : 0 ≤ (0 : Int) := (by omega)
            have q154 : 0 < (l0.length : Int) := of_decide_eq_true (by first | (with_reducible assumption) | assumption)
            obtain ⟨ad154, e154, hx154_0⟩ := Kd.at_int HR0.out 0 p154 q154
            have hw154_0 := hx154_0
            (try rw [show ((0 : Int)).toNat = 0 from rfl] at hw154_0)
            (try rw [show 0 * 1 = 0 from rfl] at hw154_0)
            (try rw [Addr.add_zero'] at hw154_0)
            cases e154
            have qi154 : (0 < l0.length) = True := eq_true (by omega)
            (try rw [show ((0 : Int)).toNat = 0 from rfl] at hx154_0)
            (try rw [Addr.add_zero'] at hx154_0)
            replace hx154_0 := (HB.out.cell (World.block_lt_of_cell? w _ hx154_0)).trans hx154_0
            replace p154 := eq_true p154
            replace q154 := eq_true q154
            obtain ⟨i023, hi023, _, hsz23, _⟩ := info_parts info5
            obtain ⟨A23, hcut23, hA23, hC23⟩ := print_drop_of (P := Tryd.prog) (Value.int .u8) 0 22 5 .i64 Tryd.underlying22 hi023 hsz23 (some ad154) c0 l0 1 (by omega) (of_decide_eq_true (by first | (with_reducible assumption) | assumption)) HC0.out
            have HR155 := Aside0.mk (Kd.C_of_reads (h1 := fun _ => rfl) (hA23 _ (Kd.reads_of_C HR0.out)))
            have HC155 := Aside0.mk hC23
            clear hA23 hC23 hi023 hsz23
            obtain ⟨i024, hi024, _, hsz24, _⟩ := info_parts info5
            obtain ⟨A24, hcut24, hA24, hC24⟩ := print_drop_of (P := Tryd.prog) (Value.int .u8) 0 22 5 .i64 Tryd.underlying22 hi024 hsz24 (some ad154) c0 l0 6 (by omega) (of_decide_eq_true (by first | (with_reducible assumption) | assumption)) HC0.out
            have HR157 := Aside0.mk (Kd.C_of_reads (h1 := fun _ => rfl) (hA24 _ (Kd.reads_of_C HR0.out)))
            have HC157 := Aside0.mk hC24
            clear hA24 hC24 hi024 hsz24
            refine start_ (n := 13) (S := fun w' => w'.cell? ad154 = some (.int .u8 (rd l0 0))) (ds := []) #[false, false, false, false, false, false, false, false, false, false, false, false, false] (by kernel_rfl) rfl rfl (((HB.out.cell (World.block_lt_of_cell? w _ hw154_0)).trans hw154_0)) (fun hHeld => ?_); refine with_tabW rec_Read.tab5 rec_Read.bits5 (fun HT_ HW_ => ?_)
            generalize w21.drew = w22 at BK153 HB HR155 HR157 hx154_0 hHeld ⊢
            refine pure_ (i := 0) (N := some 16) (v := ?_) (a' := ?_) #[true, false, false, false, false, false, false, false, false, false, false, false, false] rfl rfl (any_of HT_.out (by kernel_rfl)) (fun _ _ _ h => h) (Or.inl ⟨by rfl, ?_⟩) ?_ ?_
            rotate_left
            · intro w'
              go_simp
              with_reducible rfl
            rotate_left
            · simp only [Act.put, List.setIfInBounds_toArray, List.set_cons_zero, List.set_cons_succ, i64_w, i32_w]
              rfl
            refine pure_ (i := 1) (N := some 17) (v := ?_) (a' := ?_) #[true, true, false, false, false, false, false, false, false, false, false, false, false] rfl rfl (any_of HT_.out (by kernel_rfl)) (fun _ _ _ h => h) (Or.inl ⟨by rfl, ?_⟩) ?_ ?_
            rotate_left
            · intro w'
              go_simp
              with_reducible rfl
            rotate_left
            · simp only [Act.put, List.setIfInBounds_toArray, List.set_cons_zero, List.set_cons_succ, i64_w, i32_w]
              rfl
            refine pure_ (i := 4) (N := some 20) (v := ?_) (a' := ?_) #[true, true, false, false, true, false, false, false, false, false, false, false, false] rfl rfl (any_of HT_.out (by kernel_rfl)) (fun _ _ _ h => h) (Or.inl ⟨by rfl, ?_⟩) ?_ ?_
            rotate_left
            · intro w'
              go_simp
              with_reducible rfl
            rotate_left
            · simp only [Act.put, List.setIfInBounds_toArray, List.set_cons_zero, List.set_cons_succ, i64_w, i32_w]
              rfl
            refine pure_ (i := 5) (N := some 21) (v := ?_) (a' := ?_) #[true, true, false, false, true, true, false, false, false, false, false, false, false] rfl rfl (any_of HT_.out (by kernel_rfl)) (fun _ _ _ h => h) (Or.inl ⟨by rfl, ?_⟩) ?_ ?_
            rotate_left
            · intro w'
              go_simp
              with_reducible rfl
            rotate_left
            · simp only [Act.put, List.setIfInBounds_toArray, List.set_cons_zero, List.set_cons_succ, i64_w, i32_w]
              rfl
            refine pure_ (i := 7) (N := some 23) (v := ?_) (a' := ?_) #[true, true, false, false, true, true, false, true, false, false, false, false, false] rfl rfl (any_of HT_.out (by kernel_rfl)) (fun _ _ _ h => h) (Or.inl ⟨by rfl, ?_⟩) ?_ ?_
            rotate_left
            · intro w'
              go_simp
              with_reducible rfl
            rotate_left
            · simp only [Act.put, List.setIfInBounds_toArray, List.set_cons_zero, List.set_cons_succ, i64_w, i32_w]
              rfl
            refine pure_ (i := 8) (N := some 24) (v := ?_) (a' := ?_) #[true, true, false, false, true, true, false, true, true, false, false, false, false] rfl rfl (any_of HT_.out (by kernel_rfl)) (fun _ _ _ h => h) (Or.inl ⟨by rfl, ?_⟩) ?_ ?_
            rotate_left
            · intro w'
              go_simp
              with_reducible rfl
            rotate_left
            · simp only [Act.put, List.setIfInBounds_toArray, List.set_cons_zero, List.set_cons_succ, i64_w, i32_w]
              rfl
            refine take_ (i := 2) (N := some 18) (v := ?_) (a' := ?_) #[true, true, true, false, true, true, false, true, true, false, false, false, false] rfl rfl (take_ofW HT_.out HW_.out (by kernel_rfl)) (fun _ _ _ h => h) (Or.inl ⟨by rfl, ?_⟩) hHeld ?_ ?_
            rotate_left
            · intro w' s0
              go_simp
              with_reducible rfl
            rotate_left
            · simp only [Act.put, List.setIfInBounds_toArray, List.set_cons_zero, List.set_cons_succ, i64_w, i32_w]
              rfl
            refine pure_ (i := 3) (N := some 19) (v := ?_) (a' := ?_) #[true, true, true, true, true, true, false, true, true, false, false, false, false] rfl rfl (any_of HT_.out (by kernel_rfl)) (fun _ _ _ h => h) (Or.inl ⟨by rfl, ?_⟩) ?_ ?_
            rotate_left
            · intro w'
              go_simp
              with_reducible rfl
            rotate_left
            · simp only [Act.put, List.setIfInBounds_toArray, List.set_cons_zero, List.set_cons_succ, i64_w, i32_w]
              rfl
            refine one_ (i := 6) (N := some 22) #[true, true, true, true, true, true, true, true, true, false, false, false, false] rfl rfl (one_of HT_.out (by kernel_rfl)) (by decide) (fun K hK => ?_)
            refine goes_ Tryd.func29 (by kernel_rfl) rfl #[.slice A23 (l0.drop 1).length (c0 - 1)] (by rfl) rfl rfl (by (try simp only [List.map_toArray, List.map_cons, List.map_nil]); first | done | (rw [show (l0.drop 1).length = (l0.length - 1) from List.length_drop] <;> rfl) | rfl | (simp only [List.length_drop, List.length_take]; rfl)) ?_
            with_reducible refine (rec_number.calls k _ _ (l0.drop 1) t156 _ ?side1 ?side2 A18.out).mono ?_
            (case side1 => repeat (first | exact (Kd.C_below HR155.out HB.out) | (with_reducible refine Kd.C_alloc ?_ _) | (with_reducible refine Kd.C_drewN ?_ _) | (with_reducible refine Kd.C_drew ?_)))
            (case side2 => exact HC155.out)
            rintro e w' ⟨rfl, ⟨nd, rfl⟩⟩
            refine ⟨_, rfl, ?_⟩
            refine hK.out _ _ (((HB.out.cell (World.block_lt_of_cell? w _ hw154_0)).trans hw154_0)) (fun hHeld => ?_)
            clear hK K
            refine norm_ (a' := ?_) ?_ ?_
            rotate_left
            · show Act.put _ (some 22) _ = _
              simp only [Act.put, List.setIfInBounds_toArray, List.set_cons_zero, List.set_cons_succ, i64_w, i32_w]
              rfl
            refine one_ (i := 9) (N := some 25) #[true, true, true, true, true, true, true, true, true, true, false, false, false] rfl rfl (one_of HT_.out (by kernel_rfl)) (by decide) (fun K hK => ?_)
            refine goes_ Tryd.func29 (by kernel_rfl) rfl #[.slice A24 (l0.drop 6).length (c0 - 6)] (by rfl) rfl rfl (by (try simp only [List.map_toArray, List.map_cons, List.map_nil]); first | done | (rw [show (l0.drop 6).length = (l0.length - 6) from List.length_drop] <;> rfl) | rfl | (simp only [List.length_drop, List.length_take]; rfl)) ?_
            with_reducible refine (rec_number.calls k _ _ (l0.drop 6) t158 _ ?side1 ?side2 A20.out).mono ?_
            (case side1 => repeat (first | exact (Kd.C_below HR157.out (by repeat (first | (with_reducible first | exact HB.out | apply below_alloc | apply pw_below_drewN | apply below_drew1 | refine below_set ?_ GE153.out) | exact HB.out))) | (with_reducible refine Kd.C_alloc ?_ _) | (with_reducible refine Kd.C_drewN ?_ _) | (with_reducible refine Kd.C_drew ?_)))
            (case side2 => exact HC157.out)
            rintro e w' ⟨rfl, ⟨nd, rfl⟩⟩
            refine ⟨_, rfl, ?_⟩
            refine hK.out _ _ (((HB.out.cell (World.block_lt_of_cell? w _ hw154_0)).trans hw154_0)) (fun hHeld => ?_)
            clear hK K
            refine norm_ (a' := ?_) ?_ ?_
            rotate_left
            · show Act.put _ (some 25) _ = _
              simp only [Act.put, List.setIfInBounds_toArray, List.set_cons_zero, List.set_cons_succ, i64_w, i32_w]
              rfl
            refine pure_ (i := 10) (N := some 26) (v := ?_) (a' := ?_) #[true, true, true, true, true, true, true, true, true, true, true, false, false] rfl rfl (any_of HT_.out (by kernel_rfl)) (fun _ _ _ h => h) (Or.inl ⟨by rfl, ?_⟩) ?_ ?_
            rotate_left
            · intro w'
              go_simp
              with_reducible rfl
            rotate_left
            · simp only [Act.put, List.setIfInBounds_toArray, List.set_cons_zero, List.set_cons_succ, i64_w, i32_w]
              rfl
            refine one_ (i := 11) (N := none) #[true, true, true, true, true, true, true, true, true, true, true, true, false] rfl rfl (one_of HT_.out (by kernel_rfl)) (by decide) (fun K hK => ?_)
            have hs25 : w22.cell? ⟨gb153, 0, none⟩ = some (.int .i64 0) := (blk_cell BK153.out 0).trans rfl
            have hfs25 := blk_frozen BK153.out 0
            have hs26 : w22.cell? ⟨gb153, 1, none⟩ = some (.int .i64 0) := (blk_cell BK153.out 1).trans rfl
            have hfs26 := blk_frozen BK153.out 1
            have hs27 : w22.cell? ⟨gb153, 2, none⟩ = some (.int .i64 0) := (blk_cell BK153.out 2).trans rfl
            have hfs27 := blk_frozen BK153.out 2
            refine skip_ (w1 := ?_) (by rfl) rfl ?_ ?_
            rotate_left
            · go_simp
              rfl
            refine hK.out _ _ (((cell_far (p := ⟨gb153, _, none⟩) (by first | exact Nat.ne_of_lt (Nat.lt_of_lt_of_le (by have := World.block_lt_of_cell? _ _ hw154_0; first | rwa [add_block] at this | exact this) GW153.out) | (rw [add_block]; exact Nat.ne_of_lt (Nat.lt_of_lt_of_le (by have := World.block_lt_of_cell? _ _ hw154_0; first | rwa [add_block] at this | exact this) GW153.out)) | (show (Addr.add _ _).block ≠ _; rw [add_block]; exact Nat.ne_of_lt (Nat.lt_of_lt_of_le (by have := World.block_lt_of_cell? _ _ hw154_0; first | rwa [add_block] at this | exact this) GW153.out)) | (dsimp only; exact Nat.ne_of_lt (Nat.lt_of_lt_of_le (by have := World.block_lt_of_cell? _ _ hw154_0; first | rwa [add_block] at this | exact this) GW153.out))) _).trans (((cell_far (p := ⟨gb153, _, none⟩) (by first | exact Nat.ne_of_lt (Nat.lt_of_lt_of_le (by have := World.block_lt_of_cell? _ _ hw154_0; first | rwa [add_block] at this | exact this) GW153.out) | (rw [add_block]; exact Nat.ne_of_lt (Nat.lt_of_lt_of_le (by have := World.block_lt_of_cell? _ _ hw154_0; first | rwa [add_block] at this | exact this) GW153.out)) | (show (Addr.add _ _).block ≠ _; rw [add_block]; exact Nat.ne_of_lt (Nat.lt_of_lt_of_le (by have := World.block_lt_of_cell? _ _ hw154_0; first | rwa [add_block] at this | exact this) GW153.out)) | (dsimp only; exact Nat.ne_of_lt (Nat.lt_of_lt_of_le (by have := World.block_lt_of_cell? _ _ hw154_0; first | rwa [add_block] at this | exact this) GW153.out))) _).trans (((cell_far (p := ⟨gb153, _, none⟩) (by first | exact Nat.ne_of_lt (Nat.lt_of_lt_of_le (by have := World.block_lt_of_cell? _ _ hw154_0; first | rwa [add_block] at this | exact this) GW153.out) | (rw [add_block]; exact Nat.ne_of_lt (Nat.lt_of_lt_of_le (by have := World.block_lt_of_cell? _ _ hw154_0; first | rwa [add_block] at this | exact this) GW153.out)) | (show (Addr.add _ _).block ≠ _; rw [add_block]; exact Nat.ne_of_lt (Nat.lt_of_lt_of_le (by have := World.block_lt_of_cell? _ _ hw154_0; first | rwa [add_block] at this | exact this) GW153.out)) | (dsimp only; exact Nat.ne_of_lt (Nat.lt_of_lt_of_le (by have := World.block_lt_of_cell? _ _ hw154_0; first | rwa [add_block] at this | exact this) GW153.out))) _).trans (hHeld))))))) (fun hHeld => ?_)
            clear hK K
            refine pure_ (i := 12) (N := some 3) (v := ?_) (a' := ?_) #[true, true, true, true, true, true, true, true, true, true, true, true, true] rfl rfl (any_of HT_.out (by kernel_rfl)) (fun _ _ _ h => h) (Or.inl ⟨by rfl, ?_⟩) ?_ ?_
            rotate_left
            · intro w'
              go_simp
              with_reducible rfl
            rotate_left
            · simp only [Act.put, List.setIfInBounds_toArray, List.set_cons_zero, List.set_cons_succ, i64_w, i32_w]
              rfl
            refine done_ (done_of HT_.out (by kernel_rfl)) ?_
            try go_wp2
            refine bodyPost_ret (results_ct rfl _ _ gb153 29 #[.int .i64 (wrap64 (rd l0 0)), .int .i64 t156, .int .i64 t158] (0, 0) _ rfl (by (with_reducible repeat (first | refine blk_drewN ?_ _ | refine blk_drew ?_ | refine blk_alloc ?_ _)); refine blk_put (cs := #[.int .i64 (wrap64 (rd l0 0)), .int .i64 t156, .int .i64 0]) ?_ 2 _ rfl; (with_reducible repeat (first | refine blk_drewN ?_ _ | refine blk_drew ?_ | refine blk_alloc ?_ _)); refine blk_put (cs := #[.int .i64 (wrap64 (rd l0 0)), .int .i64 0, .int .i64 0]) ?_ 1 _ rfl; (with_reducible repeat (first | refine blk_drewN ?_ _ | refine blk_drew ?_ | refine blk_alloc ?_ _)); refine blk_put (cs := #[.int .i64 0, .int .i64 0, .int .i64 0]) ?_ 0 _ rfl; (with_reducible repeat (first | refine blk_drewN ?_ _ | refine blk_drew ?_ | refine blk_alloc ?_ _)); exact BK153.out) Tryd.underlying29 rfl (by kernel_rfl)) rfl ?_
            exact ⟨by first | rfl | (simp [errW_none, errW_some] <;> rfl) | (exfalso; simp_all; done) | (simp [*, errW_none, errW_some] <;> rfl), by repeat (first | (with_reducible first | exact HB.out | apply below_alloc | apply pw_below_drewN | apply below_drew1 | refine below_set ?_ GE153.out) | exact HB.out)⟩
          · rw [if_neg c19] at H
            exact absurd H (by simp)
        · rw [if_neg c17] at H
          exact absurd H (by simp)
      · rw [if_neg c16] at H
        exact absurd H (by simp)

end Go.Proofs.YtelabafoknmkcaaDoor.ERecSays
