/- The functions that the law comes to, as plain functions, and for each a proof that the Go code comes to just these answers. Written by a program of this claim. Conditions: each theorem bears its own. -/
import Derived.Test.YtlomknhkbhibfaaDoorESchedPlaysx0
import Derived.Test.YtlomknhkbhibfaaDoorESchedPlaysx1
import Derived.Test.YtlomknhkbhibfaaDoorESchedPlaysx2
import Derived.Test.YtlomknhkbhibfaaDoorESchedPlaysx3
import Derived.Test.YtlomknhkbhibfaaDoorESchedPlaysx4
namespace Go.Proofs.YtlomknhkbhibfaaDoor.ESchedPlays
open Go.RowKit Go.Proofs.YtlomknhkbhibfaaDoorW.PrintWords Go.Proofs.YtlomknhkbhibfaaDoorW.PrintLast Go.Proofs.YtlomknhkbhibfaaDoorW.PrintMore Go.Proofs.YtlomknhkbhibfaaDoorW.PrintOpen
attribute [local go_sem] max2_int min2_int max_two min_two max_three min_three max_four min_four   -- for this text's walks alone
set_option linter.unusedVariables false
set_option linter.unusedSimpArgs false

/-! ### pledgelaw11_SchedPlays: function 5 -/
/-! ### Entries in memory -/
def onF (cl td : Int) : List S31 → Bool → Bool
  | [], b => b
  | x :: l, b => onF cl td l (if x.f1 = cl ∧ x.f0 ≤ td then x.f2 else b)
def nextF (cl td : Int) (on : Bool) : List S31 → Int × Bool
  | [] => (0, false)
  | x :: l => if x.f1 = cl ∧ td < x.f0 ∧ x.f2 ≠ on then (x.f0, true) else nextF cl td on l
/-- A schedule behind a pointer. -/
structure SchV (gs B : Nat) (W : World) (v : Value) (es : List S31) : Prop where
  cell : W.heap[gs]? = some (.cells #[v] 26 (0, 0))
  row : Kd.R k31 31 W B (fun k => k ≠ gs) v es
  len : es.length ≤ 64
theorem SchV.below {gs B : Nat} {W W' : World} {v : Value} {es : List S31} (h : SchV gs B W v es) (hb : Below W.heap.size W W') : SchV gs B W' v es :=
  ⟨(hb.block gs (blk_lt h.cell)).trans h.cell, Kd.R_below h.row hb, h.len⟩
theorem drop_T (es : List S31) (i : Nat) (h : i < es.length) : es.drop i = rd_T31 es (i : Int) :: es.drop (i + 1) := by
  rw [List.drop_eq_getElem_cons h]
  unfold rd_T31
  rw [Int.toNat_natCast, List.getD_eq_getElem?_getD, List.getElem?_eq_getElem h]; rfl
set_option maxHeartbeats 4000000 in
set_option maxRecDepth 100000 in
theorem On.calls [Inhabited (Int → Addr)] (gs B : Nat) (es : List S31) (cl td : Int) (v : Value) (w : World) (h : SchV gs B w v es) :
    Calls Tryd.prog 10 #[.pointer (some ⟨gs, 0, none⟩), .int .i64 cl, .int .i64 td] w fun e w' => e = .returned (.bool (onF cl td es false)) ∧ Below w.heap.size w w' := by
  have hu1 := Tryd.underlying31
  have hu2 := Tryd.underlying26
  have HS := Aside0.mk h
  obtain ⟨A, c, rfl, hlc, hC⟩ := Kd.R_reads h.row
  have BS := Aside0.mk h.cell
  have HC := Aside0.mk hC
  have HLC := Aside0.mk hlc
  have HN := Aside0.mk h.len
  have HB := Aside0.mk (Below.refl w.heap.size w)
  have s0 : w.cell? ⟨gs, 0, none⟩ = some (.slice A es.length c) := (blk_cell BS.out 0).trans rfl
  clear h hlc hC
  go_enter Tryd.func10, Tryd.ntmps10
  go_wp2
  clear s0
  go_loopg [7, 15] es.length (fun gq v7 v15 wr => ∃ (i : Nat) (b : Bool), v7 = .bool b ∧ v15 = .int .i64 i ∧ Aside0 (i ≤ es.length) ∧ Aside0 (es.length ≤ gq + i) ∧ Aside0 (Below w.heap.size w wr) ∧ Aside0 (onF cl td (es.drop i) b = onF cl td es false))
  case atStart => exact ⟨0, false, rfl, rfl, ⟨by omega⟩, ⟨by omega⟩, HB, ⟨rfl⟩⟩
  case round =>
    clear HB
    obtain ⟨i, b, rfl, rfl, HI, HKI, HB, HF⟩ := hrel
    by_cases hlt : i < es.length
    · skip
      have cb1 : decide ((i : Int) < (es.length : Int)) = true := decide_eq_true (by omega)
      have cb2 : ((i : Int) < (es.length : Int)) = True := eq_true (by omega)
      have cb3 : (i < es.length) = True := eq_true hlt
      have cb4 : decide (i < es.length) = true := decide_eq_true hlt
      have HLI := Aside0.mk hlt
      have hW1 : wrap64 ((i : Int) + 1) = ((i + 1 : Nat) : Int) := by have := HN.out; rw [wrap64]; omega
      have HW := Aside0.mk hW1
      obtain ⟨ad, eA, hx0, hx1, hx2⟩ := at_T31 (Kd.C_below HC.out HB.out) (i : Int) (by omega) (by omega)
      subst eA
      have HD := Aside0.mk (drop_T es i hlt)
      rw [Int.toNat_natCast] at hx0 hx1 hx2
      generalize rd_T31 es (i : Int) = x at hx0 hx1 hx2 HD
      clear hlt
      go_upto_region 5 with ((with_reducible refine gate_dst (N := 9) rfl ?_); refine box_event ?hg (N := 9) ?hd (cs := #[.int .i64 0, .int .i64 0, .bool false]) (t := 31) ?hr ?_; (case hd => rfl); (case hg => rfl); (case hr => first | (go_simp; done) | (go_simp; rfl)); intro g9 hg_ w9 hbox hb; have HGg9 := Aside0.mk (show w.heap.size ≤ g9 from Nat.le_trans (below_size HB.out) (Nat.le_of_eq hg_.symm)); have n_ := Aside0.mk (below_step HB.out hb); clear HB; have HB := n_; clear n_; have BK9 := Aside0.mk hbox; clear hb hbox hg_; have y0 : w9.cell? ⟨g9, 0, none⟩ = some (.int .i64 0) := (blk_cell BK9.out 0).trans rfl; have y1 : w9.cell? ⟨g9, 1, none⟩ = some (.int .i64 0) := (blk_cell BK9.out 1).trans rfl; have y2 : w9.cell? ⟨g9, 2, none⟩ = some (.bool false) := (blk_cell BK9.out 2).trans rfl; have yf0 := blk_frozen BK9.out 0; have yf1 := blk_frozen BK9.out 1; have yf2 := blk_frozen BK9.out 2)
      have n1_ := Aside0.mk (blk_put (blk_put (blk_put BK9.out 0 (.int .i64 x.f0) rfl) 1 (.int .i64 x.f1) rfl) 2 (.bool x.f2) rfl)
      have n2_ := Aside0.mk (((HB.out.setCell (p := ⟨g9, 0, none⟩) HGg9.out (.int .i64 x.f0)).setCell (p := ⟨g9, 1, none⟩) HGg9.out (.int .i64 x.f1)).setCell (p := ⟨g9, 2, none⟩) HGg9.out (.bool x.f2))
      clear BK9 HB hx0 hx1 hx2 y0 y1 y2 yf0 yf1 yf2
      generalize (((w9.setCell ⟨g9, 0, none⟩ (.int .i64 x.f0)).setCell ⟨g9, 1, none⟩ (.int .i64 x.f1)).setCell ⟨g9, 2, none⟩ (.bool x.f2)) = w5 at n1_ n2_ ⊢
      have BK9 : Aside0 (w5.heap[g9]? = some (.cells #[.int .i64 x.f0, .int .i64 x.f1, .bool x.f2] 31 (0, 0))) := ⟨n1_.out.trans rfl⟩
      have HB := n2_
      clear n1_ n2_
      have y0 : w5.cell? ⟨g9, 0, none⟩ = some (.int .i64 x.f0) := (blk_cell BK9.out 0).trans rfl
      have y1 : w5.cell? ⟨g9, 1, none⟩ = some (.int .i64 x.f1) := (blk_cell BK9.out 1).trans rfl
      have y2 : w5.cell? ⟨g9, 2, none⟩ = some (.bool x.f2) := (blk_cell BK9.out 2).trans rfl
      by_cases q0 : x.f1 = cl
      · have c01 : (x.f1 == cl) = true := beq_iff_eq.mpr q0
        have c02 : (x.f1 = cl) = True := eq_true q0
        by_cases q1 : x.f0 ≤ td
        · have c11 : decide (x.f0 ≤ td) = true := decide_eq_true q1
          have c12 : (x.f0 ≤ td) = True := eq_true q1
          have HF2 : Aside0 (onF cl td (es.drop (i + 1)) x.f2 = onF cl td es false) := ⟨by rw [← HF.out, HD.out]; simp only [onF]; rw [if_pos ⟨q0, q1⟩]⟩
          clear q0 q1
          go_wp2
          go_roundg (es.length - (i + 1))
          case measure => have := HKI.out; have := HLI.out; omega
          case rel => exact ⟨i + 1, x.f2, rfl, by first | rw [HW.out] | rfl, ⟨by have := HLI.out; omega⟩, ⟨by have := HLI.out; omega⟩, HB, HF2⟩
        · have c11 : decide (x.f0 ≤ td) = false := decide_eq_false q1
          have c12 : (x.f0 ≤ td) = False := eq_false q1
          have HF2 : Aside0 (onF cl td (es.drop (i + 1)) b = onF cl td es false) := ⟨by rw [← HF.out, HD.out]; simp only [onF]; rw [if_neg (fun z => q1 z.2)]⟩
          clear q0 q1
          go_wp2
          go_roundg (es.length - (i + 1))
          case measure => have := HKI.out; have := HLI.out; omega
          case rel => exact ⟨i + 1, b, rfl, by first | rw [HW.out] | rfl, ⟨by have := HLI.out; omega⟩, ⟨by have := HLI.out; omega⟩, HB, HF2⟩
      · have c01 : (x.f1 == cl) = false := beq_eq_false_iff_ne.mpr q0
        have c02 : (x.f1 = cl) = False := eq_false q0
        have HF2 : Aside0 (onF cl td (es.drop (i + 1)) b = onF cl td es false) := ⟨by rw [← HF.out, HD.out]; simp only [onF]; rw [if_neg (fun z => q0 z.1)]⟩
        clear q0
        go_wp2
        go_roundg (es.length - (i + 1))
        case measure => have := HKI.out; have := HLI.out; omega
        case rel => exact ⟨i + 1, b, rfl, by first | rw [HW.out] | rfl, ⟨by have := HLI.out; omega⟩, ⟨by have := HLI.out; omega⟩, HB, HF2⟩
    · obtain rfl : es.length = i := by have := HI.out; omega
      have cb1 : decide ((es.length : Int) < (es.length : Int)) = false := decide_eq_false (by omega)
      have cb2 : ((es.length : Int) < (es.length : Int)) = False := eq_false (by omega)
      have cb3 : decide (es.length < es.length) = false := decide_eq_false (by omega)
      have HF2 := HF.out
      rw [List.drop_length] at HF2
      have HF3 : Aside0 (b = onF cl td es false) := ⟨HF2⟩
      clear hlt HF HF2
      go_wp2
      go_ret
      exact ⟨by rw [HF3.out]; rfl, HB.out⟩
set_option maxHeartbeats 4000000 in
set_option maxRecDepth 100000 in
theorem Next.calls [Inhabited (Int → Addr)] (gs B : Nat) (es : List S31) (cl td : Int) (v : Value) (w : World) (h : SchV gs B w v es) :
    Calls Tryd.prog 9 #[.pointer (some ⟨gs, 0, none⟩), .int .i64 cl, .int .i64 td] w fun e w' => e = .returned (.tuple #[.int .i64 (nextF cl td (onF cl td es false) es).1, .bool (nextF cl td (onF cl td es false) es).2]) ∧ Below w.heap.size w w' := by
  have hu1 := Tryd.underlying31
  have hu2 := Tryd.underlying26
  have HS := Aside0.mk h
  obtain ⟨A, c, rfl, hlc, hC⟩ := Kd.R_reads h.row
  have BS := Aside0.mk h.cell
  have HC := Aside0.mk hC
  have HLC := Aside0.mk hlc
  have HN := Aside0.mk h.len
  have HB := Aside0.mk (Below.refl w.heap.size w)
  have s0 : w.cell? ⟨gs, 0, none⟩ = some (.slice A es.length c) := (blk_cell BS.out 0).trans rfl
  clear h hlc hC
  generalize hon : onF cl td es false = on
  have HON := Aside0.mk hon
  clear hon
  go_enter Tryd.func9, Tryd.ntmps9
  go_wp2_with (go_at_call 10; have hN := On.calls gs B es cl td _ _ HS.out; rw [HON.out] at hN; (with_reducible refine hN.mono ?_); clear hN; rintro e w_ ⟨rfl, hb⟩; have n_ := Aside0.mk (below_step HB.out hb); clear HB; have HB := n_; clear n_; have n_ := Aside0.mk (blk_below BS.out hb); clear s0; have s0 : w_.cell? ⟨gs, 0, none⟩ = some (.slice A es.length c) := (blk_cell n_.out 0).trans rfl; clear n_ hb)
  clear s0
  go_loopg [20] es.length (fun gq v20 wr => ∃ (i : Nat), v20 = .int .i64 i ∧ Aside0 (i ≤ es.length) ∧ Aside0 (es.length ≤ gq + i) ∧ Aside0 (Below w.heap.size w wr) ∧ Aside0 (nextF cl td on (es.drop i) = nextF cl td on es))
  case atStart => exact ⟨0, rfl, ⟨by omega⟩, ⟨by omega⟩, HB, ⟨rfl⟩⟩
  case round =>
    clear HB
    obtain ⟨i, rfl, HI, HKI, HB, HF⟩ := hrel
    by_cases hlt : i < es.length
    · skip
      have cb1 : decide ((i : Int) < (es.length : Int)) = true := decide_eq_true (by omega)
      have cb2 : ((i : Int) < (es.length : Int)) = True := eq_true (by omega)
      have cb3 : (i < es.length) = True := eq_true hlt
      have cb4 : decide (i < es.length) = true := decide_eq_true hlt
      have HLI := Aside0.mk hlt
      have hW1 : wrap64 ((i : Int) + 1) = ((i + 1 : Nat) : Int) := by have := HN.out; rw [wrap64]; omega
      have HW := Aside0.mk hW1
      obtain ⟨ad, eA, hx0, hx1, hx2⟩ := at_T31 (Kd.C_below HC.out HB.out) (i : Int) (by omega) (by omega)
      subst eA
      have HD := Aside0.mk (drop_T es i hlt)
      rw [Int.toNat_natCast] at hx0 hx1 hx2
      generalize rd_T31 es (i : Int) = x at hx0 hx1 hx2 HD
      clear hlt
      go_upto_region 5 with ((with_reducible refine gate_dst (N := 10) rfl ?_); refine box_event ?hg (N := 10) ?hd (cs := #[.int .i64 0, .int .i64 0, .bool false]) (t := 31) ?hr ?_; (case hd => rfl); (case hg => rfl); (case hr => first | (go_simp; done) | (go_simp; rfl)); intro g10 hg_ w9 hbox hb; have HGg10 := Aside0.mk (show w.heap.size ≤ g10 from Nat.le_trans (below_size HB.out) (Nat.le_of_eq hg_.symm)); have n_ := Aside0.mk (below_step HB.out hb); clear HB; have HB := n_; clear n_; have BK10 := Aside0.mk hbox; clear hb hbox hg_; have y0 : w9.cell? ⟨g10, 0, none⟩ = some (.int .i64 0) := (blk_cell BK10.out 0).trans rfl; have y1 : w9.cell? ⟨g10, 1, none⟩ = some (.int .i64 0) := (blk_cell BK10.out 1).trans rfl; have y2 : w9.cell? ⟨g10, 2, none⟩ = some (.bool false) := (blk_cell BK10.out 2).trans rfl; have yf0 := blk_frozen BK10.out 0; have yf1 := blk_frozen BK10.out 1; have yf2 := blk_frozen BK10.out 2)
      have n1_ := Aside0.mk (blk_put (blk_put (blk_put BK10.out 0 (.int .i64 x.f0) rfl) 1 (.int .i64 x.f1) rfl) 2 (.bool x.f2) rfl)
      have n2_ := Aside0.mk (((HB.out.setCell (p := ⟨g10, 0, none⟩) HGg10.out (.int .i64 x.f0)).setCell (p := ⟨g10, 1, none⟩) HGg10.out (.int .i64 x.f1)).setCell (p := ⟨g10, 2, none⟩) HGg10.out (.bool x.f2))
      clear BK10 HB hx0 hx1 hx2 y0 y1 y2 yf0 yf1 yf2
      generalize (((w9.setCell ⟨g10, 0, none⟩ (.int .i64 x.f0)).setCell ⟨g10, 1, none⟩ (.int .i64 x.f1)).setCell ⟨g10, 2, none⟩ (.bool x.f2)) = w5 at n1_ n2_ ⊢
      have BK10 : Aside0 (w5.heap[g10]? = some (.cells #[.int .i64 x.f0, .int .i64 x.f1, .bool x.f2] 31 (0, 0))) := ⟨n1_.out.trans rfl⟩
      have HB := n2_
      clear n1_ n2_
      have y0 : w5.cell? ⟨g10, 0, none⟩ = some (.int .i64 x.f0) := (blk_cell BK10.out 0).trans rfl
      have y1 : w5.cell? ⟨g10, 1, none⟩ = some (.int .i64 x.f1) := (blk_cell BK10.out 1).trans rfl
      have y2 : w5.cell? ⟨g10, 2, none⟩ = some (.bool x.f2) := (blk_cell BK10.out 2).trans rfl
      by_cases q0 : x.f1 = cl
      · have c01 : (x.f1 == cl) = true := beq_iff_eq.mpr q0
        have c02 : (x.f1 = cl) = True := eq_true q0
        by_cases q1 : td < x.f0
        · have c11 : decide (td < x.f0) = true := decide_eq_true q1
          have c12 : (td < x.f0) = True := eq_true q1
          by_cases q2 : x.f2 ≠ on
          · have c21 : (x.f2 != on) = true := by rw [bne_iff_ne]; exact q2
            have c22 : (x.f2 = on) = False := eq_false q2
            have c23 : (x.f2 == on) = false := beq_eq_false_iff_ne.mpr q2
            have HF2 : Aside0 (nextF cl td on es = (x.f0, true)) := ⟨by rw [← HF.out, HD.out]; simp only [nextF]; rw [if_pos ⟨q0, q1, q2⟩]⟩
            clear q0 q1 q2
            go_wp2
            go_ret2
            exact ⟨by rw [HF2.out]; rfl, HB.out⟩
          · have c21 : (x.f2 != on) = false := by rw [bne_eq_false_iff_eq]; exact Decidable.not_not.1 q2
            have c22 : (x.f2 = on) = True := eq_true (Decidable.not_not.1 q2)
            have c23 : (x.f2 == on) = true := beq_iff_eq.mpr (Decidable.not_not.1 q2)
            have HF2 : Aside0 (nextF cl td on (es.drop (i + 1)) = nextF cl td on es) := ⟨by rw [← HF.out, HD.out]; simp only [nextF]; rw [if_neg (fun z => q2 z.2.2)]⟩
            clear q0 q1 q2
            go_wp2
            go_roundg (es.length - (i + 1))
            case measure => have := HKI.out; have := HLI.out; omega
            case rel => exact ⟨i + 1, by first | rw [HW.out] | rfl, ⟨by have := HLI.out; omega⟩, ⟨by have := HLI.out; omega⟩, HB, HF2⟩
        · have c11 : decide (td < x.f0) = false := decide_eq_false q1
          have c12 : (td < x.f0) = False := eq_false q1
          have HF2 : Aside0 (nextF cl td on (es.drop (i + 1)) = nextF cl td on es) := ⟨by rw [← HF.out, HD.out]; simp only [nextF]; rw [if_neg (fun z => q1 z.2.1)]⟩
          clear q0 q1
          go_wp2
          go_roundg (es.length - (i + 1))
          case measure => have := HKI.out; have := HLI.out; omega
          case rel => exact ⟨i + 1, by first | rw [HW.out] | rfl, ⟨by have := HLI.out; omega⟩, ⟨by have := HLI.out; omega⟩, HB, HF2⟩
      · have c01 : (x.f1 == cl) = false := beq_eq_false_iff_ne.mpr q0
        have c02 : (x.f1 = cl) = False := eq_false q0
        have HF2 : Aside0 (nextF cl td on (es.drop (i + 1)) = nextF cl td on es) := ⟨by rw [← HF.out, HD.out]; simp only [nextF]; rw [if_neg (fun z => q0 z.1)]⟩
        clear q0
        go_wp2
        go_roundg (es.length - (i + 1))
        case measure => have := HKI.out; have := HLI.out; omega
        case rel => exact ⟨i + 1, by first | rw [HW.out] | rfl, ⟨by have := HLI.out; omega⟩, ⟨by have := HLI.out; omega⟩, HB, HF2⟩
    · obtain rfl : es.length = i := by have := HI.out; omega
      have cb1 : decide ((es.length : Int) < (es.length : Int)) = false := decide_eq_false (by omega)
      have cb2 : ((es.length : Int) < (es.length : Int)) = False := eq_false (by omega)
      have cb3 : decide (es.length < es.length) = false := decide_eq_false (by omega)
      have HF2 := HF.out
      rw [List.drop_length] at HF2
      have HF3 : Aside0 (nextF cl td on es = (0, false)) := ⟨HF2.symm⟩
      clear hlt HF HF2
      go_wp2
      go_ret2
      exact ⟨by rw [HF3.out]; rfl, HB.out⟩
structure FarW (w : World) where
  W : World
  h : Below w.heap.size w W
instance (w : World) : Inhabited (FarW w) := ⟨⟨w, Below.refl _ _⟩⟩
theorem wp_region_far {P : Program} {id : Nat} {Q : Exit → Act → World → Prop} {a : Act} {w : World} {l : List Oper} (hm : P.follows .mixedOrders = true) (hB : Region.lexB .any l.toArray = true)
    (h : wpQuiet P l.toArray (fun w' => ∃ p : FarW w, w' = p.W) (fun a' => ∀ w', (∃ p : FarW w, w' = p.W) → Q .normal a' w') l a) : (Code.region id l.toArray true).wp P Q a w :=
  wp_region_quiet (C := fun w' => ∃ p : FarW w, w' = p.W) hm hB ⟨⟨w.drew, Below.drew (Below.refl _ _)⟩, rfl⟩ (by simpa using h)
theorem calls_far {P : Program} {f : FuncId} {args : Array Value} {w : World} {p : FarW w} {v : Value}
    (h : Calls P f args p.W fun e w' => e = .returned v ∧ Below p.W.heap.size p.W w') : Calls P f args p.W fun e w'' => e = .returned v ∧ ∃ q : FarW w, w'' = q.W :=
  h.mono fun _ _ ⟨he, hq⟩ => ⟨he, ⟨_, below_step p.h hq⟩, rfl⟩
theorem cell_far {w : World} {a : Addr} {v : Value} (h : w.cell? a = some v) (p : FarW w) : p.W.cell? a = some v := pw_cell_below p.h h
/-! ### The order of entries -/
def ordE (x t : S31) : Int := if x.f0 < t.f0 then -1 else if t.f0 < x.f0 then 1 else if x.f1 < t.f1 then -1 else if t.f1 < x.f1 then 1 else 0
theorem cmp_eq (a b : Int) : cmp_Compare_int.f a b = some (if a < b then -1 else if b < a then 1 else 0) := by
  unfold cmp_Compare_int.f cmp_isNaN_int.f
  simp only [Option.bind_some, bne_self_eq_false]
  rw [if_neg (by simp), if_neg (by simp)]
  by_cases h : a < b
  · rw [if_pos h, if_pos h]
  · rw [if_neg h, if_neg h]
    by_cases h2 : b < a
    · rw [if_pos h2, if_pos h2]
    · rw [if_neg h2, if_neg h2]
theorem or_eq (a b : Int) : cmp_Or_int.f 8 [a, b] = some (if a = 0 then b else a) := by
  have r0 : rd [a, b] 0 = a := rfl
  have r1 : rd [a, b] 1 = b := rfl
  have w0 : wrap64 (0 + 1) = 1 := by unfold wrap64; omega
  have w1 : wrap64 (1 + 1) = 2 := by unfold wrap64; omega
  have hl : (([a, b] : List Int).length : Int) = 2 := rfl
  unfold cmp_Or_int.f
  simp only [cmp_Or_int.l0, hl, r0, r1, w0, w1]
  by_cases h : a = 0
  · subst h
    by_cases h2 : b = 0
    · subst h2; rfl
    · simp [h2]
  · simp [h]
theorem order_f (x t : S31) : sched_order.f 8 x.f0 x.f1 x.f2 t.f0 t.f1 t.f2 = some (ordE x t) := by
  unfold sched_order.f
  rw [cmp_eq, Option.bind_some, cmp_eq, Option.bind_some, or_eq, Option.bind_some]
  unfold ordE
  congr 1
  by_cases h : x.f0 < t.f0
  · rw [if_pos h, if_pos h]; rfl
  · rw [if_neg h, if_neg h]
    by_cases h2 : t.f0 < x.f0
    · rw [if_pos h2, if_pos h2]; rfl
    · rw [if_neg h2, if_neg h2]; rfl
theorem order_calls [Inhabited (Int → Addr)] (x t : S31) (W : World) : Calls Tryd.prog 20 #[.agg #[.int .i64 x.f0, .int .i64 x.f1, .bool x.f2], .agg #[.int .i64 t.f0, .int .i64 t.f1, .bool t.f2]] W fun e w' => e = .returned (.int .i64 (ordE x t)) ∧ Below W.heap.size W w' :=
  sched_order.calls 8 x.f0 x.f1 x.f2 t.f0 t.f1 t.f2 (ordE x t) W (order_f x t)
theorem enters20 : ∀ (args : Array Value) (W : World), (callFunc 20 args).run Tryd.prog W = .ok (.enter 20 args) W := by
  intro args W
  have hf := Tryd.func20
  have h1 : (Tryd.f20).name ≠ "runtime.NumGoroutine" := by decide
  have h2 : (Tryd.f20).body.isSome = true := by rfl
  obtain ⟨c, hc⟩ := Option.isSome_iff_exists.1 h2
  simp [callFunc, hf, h1, hc, mark]
/-- The place among the entries: how many stand ahead. -/
def posE (t : S31) : List S31 → Nat
  | [] => 0
  | x :: l => if ordE x t < 0 then posE t l + 1 else 0
theorem posE_is (t : S31) : ∀ (es : List S31) (i : Nat), i ≤ es.length → (∀ a : Nat, a < i → ordE (rd_T31 es (a : Int)) t < 0) → (i < es.length → 0 ≤ ordE (rd_T31 es (i : Int)) t) → posE t es = i
  | [], i, h0, _, _ => by simp at h0; simp [posE, h0]
  | x :: l, 0, _, _, h2 => by
    have := h2 (by simp)
    simp only [posE]
    rw [if_neg (by have e : rd_T31 (x :: l) ((0 : Nat) : Int) = x := rfl; rw [e] at this; omega)]
  | x :: l, i + 1, h0, h1, h2 => by
    have e : rd_T31 (x :: l) ((0 : Nat) : Int) = x := rfl
    have e2 : ∀ j : Nat, rd_T31 (x :: l) ((j + 1 : Nat) : Int) = rd_T31 l (j : Int) := fun j => by unfold rd_T31; rw [Int.toNat_natCast, Int.toNat_natCast]; rfl
    have hx := h1 0 (by omega)
    rw [e] at hx
    simp only [posE]
    rw [if_pos hx, posE_is t l i (by simpa using h0) (fun a ha => by rw [← e2]; exact h1 (a + 1) (by omega)) (fun hi => by rw [← e2]; exact h2 (by simpa using hi))]
/-- What precedes the target stands ahead of what does not. -/
def MonoE (es : List S31) (t : S31) : Prop := ∀ a b : Nat, a ≤ b → b < es.length → ordE (rd_T31 es (b : Int)) t < 0 → ordE (rd_T31 es (a : Int)) t < 0
set_option maxHeartbeats 8000000 in
set_option maxRecDepth 1000000 in
theorem Bsf.calls [Inhabited (Int → Addr)] (A : Option Addr) (c : Nat) (es : List S31) (t : S31) (w : World) (hC : Kd.C k31 w A es.length es) (hN : es.length ≤ 64) (hlc : es.length ≤ c) (hM : MonoE es t) :
    Calls Tryd.prog 19 #[.slice A es.length c, .agg #[.int .i64 t.f0, .int .i64 t.f1, .bool t.f2], .func (.func 20) #[] #[]] w fun e w' => e = .returned (.tuple #[.int .i64 (posE t es), .bool (decide (posE t es < es.length ∧ ordE (rd_T31 es (posE t es : Int)) t = 0))]) ∧ Below w.heap.size w w' := by
  have hu1 := Tryd.underlying31
  have HC := Aside0.mk hC
  have HLC := Aside0.mk hlc
  have HN := Aside0.mk hN
  have HMO := Aside0.mk hM
  have HB := Aside0.mk (Below.refl w.heap.size w)
  have eg := enters20
  clear hC hlc hN hM
  go_enter Tryd.func19, Tryd.ntmps19
  go_wp2_with ((with_reducible refine gate_dst (N := 4) rfl ?_); refine box_event ?hg (N := 4) ?hd (cs := #[.int .i64 t.f0, .int .i64 t.f1, .bool t.f2]) (t := 31) ?hr ?_; (case hd => rfl); (case hg => rfl); (case hr => first | (go_simp; done) | (go_simp; rfl)); intro g4 hg_ w4 hbox hb; have HGg4 := Aside0.mk (show w.heap.size ≤ g4 from Nat.le_trans (below_size HB.out) (Nat.le_of_eq hg_.symm)); have n_ := Aside0.mk (below_step HB.out hb); clear HB; have HB := n_; clear n_; have BK4 := Aside0.mk hbox; clear hb hbox hg_; have y0 : w4.cell? ⟨g4, 0, none⟩ = some (.int .i64 t.f0) := (blk_cell BK4.out 0).trans rfl; have y1 : w4.cell? ⟨g4, 1, none⟩ = some (.int .i64 t.f1) := (blk_cell BK4.out 1).trans rfl; have y2 : w4.cell? ⟨g4, 2, none⟩ = some (.bool t.f2) := (blk_cell BK4.out 2).trans rfl; have yf0 := blk_frozen BK4.out 0; have yf1 := blk_frozen BK4.out 1; have yf2 := blk_frozen BK4.out 2)
  clear y0 y1 y2 yf0 yf1 yf2
  go_loopg [9, 10] es.length (fun gq v9 v10 wr => ∃ lo hi : Nat, v9 = .int .i64 lo ∧ v10 = .int .i64 hi ∧ Aside0 (lo ≤ hi) ∧ Aside0 (hi ≤ es.length) ∧ Aside0 (hi - lo ≤ gq) ∧ Aside0 (Below w.heap.size w wr) ∧ Aside0 (wr.heap[g4]? = some (.cells #[.int .i64 t.f0, .int .i64 t.f1, .bool t.f2] 31 (0, 0))) ∧ Aside0 ((∀ a : Nat, a < lo → ordE (rd_T31 es (a : Int)) t < 0) ∧ (∀ b : Nat, hi ≤ b → b < es.length → 0 ≤ ordE (rd_T31 es (b : Int)) t)))
  case atStart => exact ⟨0, es.length, rfl, rfl, ⟨by omega⟩, ⟨Nat.le_refl _⟩, ⟨by omega⟩, HB, BK4, ⟨fun a ha => absurd ha (Nat.not_lt_zero _), fun b h1 h2 => by omega⟩⟩
  case round =>
    clear HB BK4
    obtain ⟨lo, hi, rfl, rfl, HLH, HHI, HG, HB, BK4, HI⟩ := hrel
    by_cases hlt : lo < hi
    · obtain ⟨m, hm⟩ : ∃ m, m = (lo + hi) / 2 := ⟨_, rfl⟩
      have hml : m < es.length := by have := HHI.out; omega
      have Q1 : Aside0 (IntKind.i64.wrap ((lo : Int) + (hi : Int)) = (lo : Int) + (hi : Int)) := ⟨by have := HHI.out; have := HN.out; rw [IntKind.wrap_i64]; omega⟩
      have Q2 : Aside0 (IntKind.u64.wrap ((lo : Int) + (hi : Int)) = (lo : Int) + (hi : Int)) := ⟨by have := HHI.out; have := HN.out; rw [IntKind.wrap_u64]; omega⟩
      have Q3 : Aside0 (((lo : Int) + (hi : Int)) / 2 = (m : Int)) := ⟨by omega⟩
      have Q4 : Aside0 (IntKind.i64.wrap (m : Int) = (m : Int)) := ⟨by have := HN.out; rw [IntKind.wrap_i64]; omega⟩
      have Q5 : Aside0 (IntKind.u64.wrap (m : Int) = (m : Int)) := ⟨by have := HN.out; rw [IntKind.wrap_u64]; omega⟩
      have HW : Aside0 (wrap64 ((m : Int) + 1) = ((m + 1 : Nat) : Int)) := ⟨by have := HN.out; rw [wrap64]; omega⟩
      have c1 : decide ((lo : Int) < (hi : Int)) = true := decide_eq_true (by omega)
      have c2 : ((lo : Int) < (hi : Int)) = True := eq_true (by omega)
      have c3 : (lo < hi) = True := eq_true hlt
      have c4 : (m < es.length) = True := eq_true hml
      have c5 : ((m : Int) < (es.length : Int)) = True := eq_true (by omega)
      have c6 : decide ((m : Int) < (es.length : Int)) = true := decide_eq_true (by omega)
      have HM := Aside0.mk hm
      have HLT := Aside0.mk hlt
      have HML := Aside0.mk hml
      obtain ⟨ad, eA, hx0, hx1, hx2⟩ := at_T31 (Kd.C_below HC.out HB.out) (m : Int) (by omega) (by omega)
      subst eA
      rw [Int.toNat_natCast] at hx0 hx1 hx2
      obtain ⟨x, hx⟩ : ∃ x, x = rd_T31 es (m : Int) := ⟨_, rfl⟩
      rw [← hx] at hx0 hx1 hx2
      have HX := Aside0.mk hx
      clear hx hm hlt hml
      have z0 := cell_far hx0
      have z1 := cell_far hx1
      have z2 := cell_far hx2
      have y0 := cell_far ((blk_cell BK4.out 0).trans (show _ = some (.int .i64 t.f0) from rfl))
      have y1 := cell_far ((blk_cell BK4.out 1).trans (show _ = some (.int .i64 t.f1) from rfl))
      have y2 := cell_far ((blk_cell BK4.out 2).trans (show _ = some (.bool t.f2) from rfl))
      clear hx0 hx1 hx2
      have q1 := Q1.out
      have q2 := Q2.out
      have q3 := Q3.out
      have q4 := Q4.out
      have q5 := Q5.out
      go_wp2_with fail
      clear q1 q2 q3 q4 q5
      have hc := fun p : FarW wr => order_calls x t p.W
      refine wp_region_far (by kernel_rfl) (by kernel_rfl) ?_
      repeat (refine wpQuiet_step (fun K hK => ?_); go_simp; first | (refine hK _ ?_; clear hK K) | (apply Exists.intro; refine ⟨fun _ => ?_, hK _ ?_⟩; (first | (go_at_fn 20; refine calls_far (hc _))); clear hK K))
      refine wpQuiet_nil ?_
      intro _ hw'
      obtain ⟨pq, hw''⟩ := hw'
      subst hw''
      have n1_ := Aside0.mk (below_step HB.out pq.h)
      have n2_ := Aside0.mk (blk_below BK4.out pq.h)
      clear hc z0 z1 z2 y0 y1 y2 HB BK4
      have HB := n1_
      have BK4 := n2_
      clear n1_ n2_
      generalize pq.W = w2 at HB BK4 ⊢
      clear pq
      by_cases hyx : ordE x t < 0
      · have d1 : decide (ordE x t < 0) = true := decide_eq_true hyx
        have HY := Aside0.mk hyx
        go_wp2
        go_roundg (hi - (m + 1))
        case measure => have := HG.out; have := HM.out; have := HLT.out; omega
        case rel =>
          have I2 : (∀ a : Nat, a < m + 1 → ordE (rd_T31 es (a : Int)) t < 0) := fun a ha => HMO.out a m (by omega) HML.out (by rw [← HX.out]; exact HY.out)
          exact ⟨m + 1, hi, by first | rw [HW.out] | rfl, rfl, ⟨by have := HM.out; have := HLT.out; omega⟩, HHI, ⟨Nat.le_refl _⟩, HB, BK4, ⟨I2, HI.out.2⟩⟩
      · have d1 : decide (ordE x t < 0) = false := decide_eq_false hyx
        have HY := Aside0.mk hyx
        go_wp2
        go_roundg (m - lo)
        case measure => have := HG.out; have := HM.out; have := HLT.out; omega
        case rel =>
          have I2 : (∀ b : Nat, m ≤ b → b < es.length → 0 ≤ ordE (rd_T31 es (b : Int)) t) := fun b hb hbn => Int.not_lt.1 fun h => by have h2 := HMO.out m b hb hbn h; rw [← HX.out] at h2; have := HY.out; omega
          exact ⟨lo, m, rfl, rfl, ⟨by have := HM.out; have := HLT.out; omega⟩, ⟨by have := HML.out; omega⟩, ⟨Nat.le_refl _⟩, HB, BK4, ⟨HI.out.1, I2⟩⟩
    · obtain rfl : hi = lo := by have := HLH.out; omega
      have HP := Aside0.mk (posE_is t es hi HHI.out HI.out.1 (fun h => HI.out.2 hi (Nat.le_refl _) h))
      have c1 : decide ((hi : Int) < (hi : Int)) = false := decide_eq_false (by omega)
      have c2 : ((hi : Int) < (hi : Int)) = False := eq_false (by omega)
      have c3 : (hi < hi) = False := eq_false (by omega)
      clear hlt HLH HG HI
      by_cases hn : hi < es.length
      · have d1 : decide ((hi : Int) < (es.length : Int)) = true := decide_eq_true (by omega)
        have d2 : ((hi : Int) < (es.length : Int)) = True := eq_true (by omega)
        have d3 : (hi < es.length) = True := eq_true hn
        have d4 : decide (hi < es.length) = true := decide_eq_true hn
        obtain ⟨ad, eA, hx0, hx1, hx2⟩ := at_T31 (Kd.C_below HC.out HB.out) (hi : Int) (by omega) (by omega)
        subst eA
        rw [Int.toNat_natCast] at hx0 hx1 hx2
        obtain ⟨x, hx⟩ : ∃ x, x = rd_T31 es (hi : Int) := ⟨_, rfl⟩
        rw [← hx] at hx0 hx1 hx2
        have HX := Aside0.mk hx
        have HHN := Aside0.mk hn
        clear hx hn
        have z0 := cell_far hx0
        have z1 := cell_far hx1
        have z2 := cell_far hx2
        have y0 := cell_far ((blk_cell BK4.out 0).trans (show _ = some (.int .i64 t.f0) from rfl))
        have y1 := cell_far ((blk_cell BK4.out 1).trans (show _ = some (.int .i64 t.f1) from rfl))
        have y2 := cell_far ((blk_cell BK4.out 2).trans (show _ = some (.bool t.f2) from rfl))
        clear hx0 hx1 hx2
        go_wp2_with fail
        have hc := fun p : FarW wr => order_calls x t p.W
        refine wp_region_far (by kernel_rfl) (by kernel_rfl) ?_
        repeat (refine wpQuiet_step (fun K hK => ?_); go_simp; first | (refine hK _ ?_; clear hK K) | (apply Exists.intro; refine ⟨fun _ => ?_, hK _ ?_⟩; (first | (go_at_fn 20; refine calls_far (hc _))); clear hK K))
        refine wpQuiet_nil ?_
        intro _ hw'
        obtain ⟨pq, hw''⟩ := hw'
        subst hw''
        have HB2 := Aside0.mk (below_step HB.out pq.h)
        clear hc z0 z1 z2 y0 y1 y2 HB BK4
        generalize pq.W = w2 at HB2 ⊢
        clear pq
        go_wp2
        go_ret2
        refine ⟨?_, HB2.out⟩
        rw [HP.out, ← HX.out, show decide (hi < es.length ∧ ordE x t = 0) = (ordE x t == 0) by by_cases q : ordE x t = 0 <;> simp [q, HHN.out]]
        first | rfl | simp
      · have d1 : decide ((hi : Int) < (es.length : Int)) = false := decide_eq_false (by omega)
        have d2 : ¬ ((hi : Int) < (es.length : Int)) := by omega
        have d3 : (hi < es.length) = False := eq_false hn
        have d4 : decide (hi < es.length) = false := decide_eq_false hn
        have HHN := Aside0.mk hn
        go_wp2_with fail
        go_big_region
        have HB2 := Aside0.mk (below_drew1 HB.out)
        clear HB BK4
        generalize wr.drew = w2 at HB2 ⊢
        go_wp2
        go_ret2
        refine ⟨?_, HB2.out⟩
        rw [HP.out, decide_eq_false (fun z => HHN.out z.1)]
        first | rfl | simp
theorem infoS : (Tryd.prog.info? 31).map (fun i => (i.zero, i.size, i.bytes)) = some (some (.agg #[.int .i64 0, .int .i64 0, .bool false]), 3, 24) := by kernel_rfl
/-! ### Entries by their cells -/
def encE (x : S31) : List Value := [.int .i64 x.f0, .int .i64 x.f1, .bool x.f2]
def encEs (es : List S31) : List Value := es.flatMap encE
theorem encEs_len : ∀ es : List S31, (encEs es).length = es.length * 3
  | [] => rfl
  | x :: l => by
    have := encEs_len l
    unfold encEs at *
    rw [List.flatMap_cons, List.length_append, this, List.length_cons]
    show 3 + _ = _
    omega
theorem encEs_app (a b : List S31) : encEs (a ++ b) = encEs a ++ encEs b := List.flatMap_append ..
theorem encEs_cons (x : S31) (l : List S31) : encEs (x :: l) = encE x ++ encEs l := List.flatMap_cons ..
theorem encEs_split (es : List S31) (i : Nat) (h : i ≤ es.length) : (encEs es).take (i * 3) = encEs (es.take i) ∧ (encEs es).drop (i * 3) = encEs (es.drop i) := by
  have e : encEs es = encEs (es.take i) ++ encEs (es.drop i) := by rw [← encEs_app, List.take_append_drop]
  have l : (encEs (es.take i)).length = i * 3 := by rw [encEs_len, List.length_take]; congr 1; omega
  rw [e]
  exact ⟨by rw [← l, List.take_left], by rw [← l, List.drop_left]⟩
theorem encEs_one : ∀ (es : List S31), ∀ v ∈ encEs es, v.oneCell' = true
  | [], v, h => absurd h (by simp [encEs])
  | x :: l, v, h => by
    rw [encEs_cons, List.mem_append] at h
    rcases h with h | h
    · simp only [encE, List.mem_cons, List.not_mem_nil, or_false] at h
      rcases h with rfl | rfl | rfl <;> rfl
    · exact encEs_one l v h
theorem reps_encEs : ∀ (es : List S31) (cs : List Value), Reps (fun (x : S31) (c : List Value) => c = encE x) 3 es cs → cs = encEs es
  | [], cs, h => List.eq_nil_of_length_eq_zero (by simpa using h.1)
  | x :: l, cs, h => by
    have h0 := h.2 0 x rfl
    have hl := h.1
    have e : cs = cs.take 3 ++ cs.drop 3 := (List.take_append_drop 3 cs).symm
    have ht := reps_encEs l (cs.drop 3) ⟨by rw [List.length_drop, hl, List.length_cons]; omega, fun j p hj => by
      have := h.2 (j + 1) p hj
      rw [List.drop_drop, show 3 + j * 3 = (j + 1) * 3 by omega]
      exact this⟩
    rw [Nat.zero_mul, List.drop_zero] at h0
    rw [e, h0, ht, encEs_cons]
theorem encEs_reps (es : List S31) : Reps (fun (x : S31) (c : List Value) => c = encE x) 3 es (encEs es) := by
  refine ⟨encEs_len es, fun j p hj => ?_⟩
  obtain ⟨hl, hp⟩ := List.getElem?_eq_some_iff.1 hj
  rw [(encEs_split es j (by omega)).2, List.drop_eq_getElem_cons hl, hp, encEs_cons]
  rfl
theorem own_of_RE {W : World} {B : Nat} {ok : Nat → Prop} {v : Value} {es : List S31} (h : Kd.R k31 31 W B ok v es) : W.ownsRow B 31 3 v es.length (encEs es) := by
  obtain ⟨_, inner, ho, hr⟩ := h
  have e := reps_encEs es inner (hr.imp_ (fun _ _ hq => k31_openM hq))
  rw [← e]; exact ho
theorem RE_of_own {W : World} {B : Nat} {ok : Nat → Prop} {v : Value} {es : List S31} (ho : W.ownsRow B 31 3 v es.length (encEs es)) (hok : ∀ k, v.ownBlock = some k → ok k) : Kd.R k31 31 W B ok v es :=
  ⟨hok, encEs es, ho, (encEs_reps es).imp_ (fun x c hc => by rw [hc]; exact k31_mkM W B _ x)⟩
/-! ### copy, at elements of k cells -/
theorem run_copy_rowK {P : Program} (k : Nat) (w : World) (dT sT ty elem : TypeId) (g o dLen dCap : Nat) (a : Addr) (sLen sCap : Nat) (cur : Array Value) (t : TypeId) (cs : List Value)
    (hu : P.underlying dT = some (.slice elem)) (hs : (P.info? elem).map (·.size) = some k)
    (hg : w.heap[g]? = some (.cells cur t (0, 0))) (hn : cs.length = Nat.min sLen dLen * k)
    (hsrc : ∀ j v, cs[j]? = some v → w.cell? (a.add j) = some v) (hfit : o + cs.length ≤ cur.size) (h1 : ∀ v ∈ cs, v.oneCell' = true) :
    (Builtin.copy_ #[dT, sT] ty #[.slice (some ⟨g, o, none⟩) dLen dCap, .slice (some a) sLen sCap]).run P w =
      .ok (goInt (Nat.min sLen dLen)) (w.setRow g (splice cur.toList o cs).toArray) := by
  have hl := run_loadCells_list (P := P) w a cs hsrc
  have hst := run_storeCells_at P g o t cs 0 cur w hg (by simpa using hfit) h1
  rw [hn] at hl
  cases hq : P.info? elem with
  | none => simp [hq] at hs
  | some i =>
    have hi : i.size = k := by simpa [hq] using hs
    simp only [Nat.add_zero] at hst
    simp [Builtin.copy_, run_underlying hu, Builtin.lenOf, Builtin.firstCells, sizeOf, typeInfo, hq, hi, hl, hst, splice]
open Go.RowKit in
theorem wpList_copyK {P : Program} (k : Nat) {w : World} {ops : Array Oper} {rest : List Oper} {o : Oper} {a : Act} {Q : Exit → Act → World → Prop} (hgd : o.guard = none) (d s : Operand) (dT sT : TypeId)
    (ho : o.op = .call { callee := .builtin .copy, args := #[d, s], argTypes := #[dT, sT] }) (elem : TypeId) (hu : P.underlying dT = some (.slice elem)) (hsz : (P.info? elem).map (·.size) = some k)
    (g off dLen dCap : Nat) (ad : Addr) (sLen sCap : Nat) (hd : a.eval d = .slice (some ⟨g, off, none⟩) dLen dCap) (hs : a.eval s = .slice (some ad) sLen sCap)
    (cur : List Value) (t : TypeId) (hg : w.heap[g]? = some (.cells cur.toArray t (0, 0))) (cs : List Value) (hn : cs.length = Nat.min sLen dLen * k)
    (hsrc : ∀ j v, cs[j]? = some v → w.cell? (ad.add j) = some v) (hfit : off + cs.length ≤ cur.length) (h1 : ∀ v ∈ cs, v.oneCell' = true)
    (h : ∀ w', w'.heap[g]? = some (.cells (splice cur off cs).toArray t (0, 0)) → w.grownBy w' (some g) → wpList P ops Q rest (a.put o.dst (goInt (Nat.min sLen dLen))) w') : wpList P ops Q (o :: rest) a w := by
  refine wpList_plain hgd fun K hK => ?_
  have hrun := run_copy_rowK (P := P) k w dT sT o.type elem g off dLen dCap ad sLen sCap cur.toArray t cs hu hsz hg hn hsrc (by simpa using hfit) h1
  unfold Oper.wp
  simp [execOp, ho, resolve, invoke, builtin, hd, hs, hrun, Result.andThen]
  exact hK _ _ (h _ (setRow_heap w g _ _ t _ hg) ⟨rfl, rfl, rfl, by simp [World.setRow], fun q _ hne => setRow_other w g q _ (fun e => hne (by rw [e]))⟩)
open Go.RowKit in
theorem step_copyK {P : Program} (k : Nat) {ops : Array Oper} {o : Oper} {a : Act} {w : World} {K : Act → World → Prop} {Q : Exit → Act → World → Prop} {E : Prop} (hgd : o.guard = none) (d s : Operand) (dT sT : TypeId)
    (ho : o.op = .call { callee := .builtin .copy, args := #[d, s], argTypes := #[dT, sT] }) (elem : TypeId) (hu : P.underlying dT = some (.slice elem)) (hsz : (P.info? elem).map (·.size) = some k)
    (g off dLen dCap : Nat) (ad : Addr) (sLen sCap : Nat) (hd : a.eval d = .slice (some ⟨g, off, none⟩) dLen dCap) (hs : a.eval s = .slice (some ad) sLen sCap)
    (cur : List Value) (t : TypeId) (hg : w.heap[g]? = some (.cells cur.toArray t (0, 0))) (cs : List Value) (hn : cs.length = Nat.min sLen dLen * k)
    (hsrc : ∀ j v, cs[j]? = some v → w.cell? (ad.add j) = some v) (hfit : off + cs.length ≤ cur.length) (h1 : ∀ v ∈ cs, v.oneCell' = true)
    (h : ∀ w', w'.heap[g]? = some (.cells (splice cur off cs).toArray t (0, 0)) → w.grownBy w' (some g) → K (a.put o.dst (goInt (Nat.min sLen dLen))) w') :
    if Region.wanted o (yielded ops a.tmps) = true then Oper.wp P o a w K Q else E := by
  have hw : Region.wanted o (yielded ops a.tmps) = true := by simp [Region.wanted, hgd]
  rw [if_pos hw]
  have hrun := run_copy_rowK (P := P) k w dT sT o.type elem g off dLen dCap ad sLen sCap cur.toArray t cs hu hsz hg hn hsrc (by simpa using hfit) h1
  unfold Oper.wp
  simp [execOp, ho, resolve, invoke, builtin, hd, hs, hrun, Result.andThen]
  exact h _ (setRow_heap w g _ _ t _ hg) ⟨rfl, rfl, rfl, by simp [World.setRow], fun q _ hne => setRow_other w g q _ (fun e => hne (by rw [e]))⟩
theorem grown_trans {a w w' : World} {row : Option Nat} (h : a.grownBy w row) (k : w.grownBy w' row) : a.grownBy w' row :=
  ⟨k.os.trans h.os, k.tape.trans h.tape, k.output.trans h.output, Nat.le_trans h.size k.size, fun q hq hne => (k.block q (Nat.lt_of_lt_of_le hq h.size) hne).trans (h.block q hq hne)⟩
theorem grown_drew {a w : World} {row : Option Nat} (h : a.grownBy w row) : a.grownBy w.drew row := ⟨h.os, h.tape, h.output, h.size, h.block⟩
theorem cells_src {w : World} {g : Nat} {cur : List Value} {t : TypeId} {f : Nat × Nat} (hg : w.heap[g]? = some (.cells cur.toArray t f)) (o n : Nat) (cs : List Value) (h : cs = (cur.drop o).take n) : ∀ j v, cs[j]? = some v → w.cell? ((⟨g, o, none⟩ : Addr).add j) = some v := by
  intro j v hj
  subst h
  rw [List.getElem?_take] at hj
  split at hj
  · rw [List.getElem?_drop] at hj
    have e : (⟨g, o, none⟩ : Addr).add j = ⟨g, o + j, none⟩ := by unfold Addr.add; split <;> simp_all
    rw [e]
    simp [World.cell?, hg, hj]
  · cases hj
/-! ### slices.Insert, of one entry -/
def insE (i : Nat) (x : S31) (es : List S31) : List S31 := es.take i ++ x :: es.drop i
theorem one_reads {w : World} {gb : Nat} {x : S31} (hb : w.heap[gb]? = some (.cells #[.int .i64 x.f0, .int .i64 x.f1, .bool x.f2] 31 (0, 0))) : ReadsRow (fun (x : S31) (cs : List Value) => cs = encE x) 3 w (some ⟨gb, 0, none⟩) 1 [x] := by
  refine ⟨rfl, by omega, fun _ => ⟨_, rfl, fun j p hj => ?_⟩⟩
  rcases j with _ | j
  · simp only [List.getElem?_cons_zero, Option.some.injEq] at hj
    subst hj
    refine ⟨encE x, rfl, rfl, fun i u hu => ?_⟩
    have e : (⟨gb, 0, none⟩ : Addr).add (0 * 3 + i) = ⟨gb, i, none⟩ := by unfold Addr.add; split <;> simp_all
    rw [e, blk_cell hb]
    simpa [encE] using hu
  · simp at hj
set_option maxHeartbeats 8000000 in
set_option maxRecDepth 1000000 in
theorem Insert.end_ [Inhabited (Int → Addr)] (B : Nat) (ok : Nat → Prop) (v : Value) (es : List S31) (x : S31) (gb : Nat) (w : World) (hO : Kd.R k31 31 w B ok v es) (hN : es.length ≤ 64)
    (hb : w.heap[gb]? = some (.cells #[.int .i64 x.f0, .int .i64 x.f1, .bool x.f2] 31 (0, 0))) (hfresh : ∀ k, w.heap.size ≤ k → ok k) (hB : B ≤ w.heap.size) :
    Calls Tryd.prog 21 #[v, .int .i64 es.length, .slice (some ⟨gb, 0, none⟩) 1 1] w fun e w' => ∃ v', e = .returned v' ∧ Kd.R k31 31 w' B ok v' (es ++ [x]) ∧ Below B w w' ∧ w.grownBy w' v.ownBlock ∧ (v'.ownBlock = v.ownBlock ∨ ∃ b, v'.ownBlock = some b ∧ w.heap.size ≤ b) := by
  have HO := Aside0.mk hO
  have HF := Aside0.mk hfresh
  have HBB := Aside0.mk hB
  have HN := Aside0.mk hN
  have BK := Aside0.mk hb
  have hv := (own_of_RE hO).2
  have hsz : (1 == 0) = false := rfl
  clear hO hfresh hB hb
  rcases hv with ⟨rfl, h0⟩ | ⟨g, cap, cur, rfl, _, _, hc, hm, _, _⟩
  · obtain rfl := List.eq_nil_of_length_eq_zero h0
    have z1 : (([] : List S31).length : Int) = 0 := rfl
    rw [z1]
    clear z1 h0 hN
    go_enter Tryd.func21, Tryd.ntmps21
    go_wp2_with ((with_reducible refine gate_builtin (b := .append) (xs := #[.tmp 23, .tmp 24]) rfl ?_); at_builtin; refine Kd.R_append_rows k31 B rfl (.tmp 23) (.tmp 24) 24 31 (.agg #[.int .i64 0, .int .i64 0, .bool false]) 24 rfl Tryd.underlying24 infoS rfl (by decide) (by omega) (.slice none 0 0) ([] : List S31) [x] (some ⟨gb, 0, none⟩) 1 1 ok (fun _ => False) (by first | (go_simp; done) | (go_simp; rfl)) (by first | (go_simp; done) | (go_simp; rfl)) HO.out (one_reads BK.out) (fun y cs h => by rw [h]; exact k31_mkM _ _ _ y) (fun _ hk => hk.elim) HF.out (Below.refl _ _) HBB.out (by show (0 + 1) * 24 ≤ _; omega) ?_; intro v1 w1 hr hb1 hg1 hat1; have HR1 := Aside0.mk hr; have HB1 := Aside0.mk hb1; have HG1 := Aside0.mk hg1; have HA1 := Aside0.mk hat1; clear hr hb1 hg1 hat1)
    go_ret
    exact ⟨_, rfl, HR1.out, HB1.out, HG1.out, HA1.out⟩
  · have HC := Aside0.mk hc
    have cb1 : (es.length ≤ cap) = True := eq_true hc
    have cb2 : ((es.length : Int) ≤ (cap : Int)) = True := eq_true (by omega)
    have cb3 : decide ((es.length : Int) ≤ (es.length : Int)) = true := decide_eq_true (by omega)
    have cb4 : (0 : Int) ≤ (es.length : Int) := by omega
    by_cases hcap : cap = es.length
    · subst hcap
      go_enter Tryd.func21, Tryd.ntmps21
      go_wp2_with ((with_reducible refine gate_builtin (b := .append) (xs := #[.tmp 23, .tmp 24]) rfl ?_); at_builtin; refine Kd.R_append_rows k31 B rfl (.tmp 23) (.tmp 24) 24 31 (.agg #[.int .i64 0, .int .i64 0, .bool false]) 24 rfl Tryd.underlying24 infoS rfl (by decide) (by omega) (.slice (some ⟨g, 0, none⟩) es.length es.length) es [x] (some ⟨gb, 0, none⟩) 1 1 ok (fun _ => False) (by first | (go_simp; done) | (go_simp; rfl)) (by first | (go_simp; done) | (go_simp; rfl)) HO.out (one_reads BK.out) (fun y cs h => by rw [h]; exact k31_mkM _ _ _ y) (fun _ hk => hk.elim) HF.out (Below.refl _ _) HBB.out (by have := HN.out; omega) ?_; intro v1 w1 hr hb1 hg1 hat1; have HR1 := Aside0.mk hr; have HB1 := Aside0.mk hb1; have HG1 := Aside0.mk hg1; have HA1 := Aside0.mk hat1; clear hr hb1 hg1 hat1)
      go_ret
      exact ⟨_, rfl, HR1.out, HB1.out, HG1.out, HA1.out⟩
    · have cb5 : (cap = es.length) = False := eq_false hcap
      have cb6 : (es.length = cap) = False := eq_false (fun e => hcap e.symm)
      go_enter Tryd.func21, Tryd.ntmps21
      go_wp2_with ((with_reducible refine gate_builtin (b := .append) (xs := #[.tmp 23, .tmp 24]) rfl ?_); at_builtin; refine Kd.R_append_rows k31 B rfl (.tmp 23) (.tmp 24) 24 31 (.agg #[.int .i64 0, .int .i64 0, .bool false]) 24 rfl Tryd.underlying24 infoS rfl (by decide) (by omega) (.slice (some ⟨g, 0, none⟩) es.length cap) es [x] (some ⟨gb, 0, none⟩) 1 1 ok (fun _ => False) (by first | (go_simp; done) | (go_simp; rfl)) (by first | (go_simp; done) | (go_simp; rfl)) HO.out (one_reads BK.out) (fun y cs h => by rw [h]; exact k31_mkM _ _ _ y) (fun _ hk => hk.elim) HF.out (Below.refl _ _) HBB.out (by have := HN.out; omega) ?_; intro v1 w1 hr hb1 hg1 hat1; have HR1 := Aside0.mk hr; have HB1 := Aside0.mk hb1; have HG1 := Aside0.mk hg1; have HA1 := Aside0.mk hat1; clear hr hb1 hg1 hat1)
      go_ret
      exact ⟨_, rfl, HR1.out, HB1.out, HG1.out, HA1.out⟩
theorem infoK : (Tryd.prog.info? 31).map (·.size) = some 3 := by kernel_rfl
theorem sizeK : ∀ w, (Go.sizeOf 31).run Tryd.prog w = .ok 3 w := fun w => by kernel_rfl
theorem splice2 (L A X D : List Value) (hL : L.take A.length = A) (h : A.length + X.length + D.length ≤ L.length) : splice (splice L (A.length + X.length) D) A.length X = A ++ (X ++ (D ++ L.drop (A.length + X.length + D.length))) := by
  have hp : (L.take (A.length + X.length)).length = A.length + X.length := by rw [List.length_take]; omega
  unfold splice
  rw [List.take_append_of_le_length (by omega), List.take_take, Nat.min_eq_left (by omega), hL]
  have e : List.drop (A.length + X.length) (L.take (A.length + X.length) ++ (D ++ L.drop (A.length + X.length + D.length))) = D ++ L.drop (A.length + X.length + D.length) := by
    have := List.drop_left (l₁ := L.take (A.length + X.length)) (l₂ := D ++ L.drop (A.length + X.length + D.length))
    rwa [hp] at this
  rw [e]
set_option maxHeartbeats 8000000 in
set_option maxRecDepth 1000000 in
theorem Insert.shift [Inhabited (Int → Addr)] (B : Nat) (g cap i : Nat) (cur : Array Value) (es : List S31) (x : S31) (gb : Nat) (w : World) (hg : w.heap[g]? = some (.cells cur 31 (0, 0))) (hsz : cur.size = cap * 3) (ht : cur.toList.take (es.length * 3) = encEs es) (hm : cap ≤ maxLen) (hBg : B ≤ g)
    (hN : es.length ≤ 64) (hi : i < es.length) (hroom : es.length + 1 ≤ cap) (hb : w.heap[gb]? = some (.cells #[.int .i64 x.f0, .int .i64 x.f1, .bool x.f2] 31 (0, 0))) (hne : gb ≠ g) :
    Calls Tryd.prog 21 #[.slice (some ⟨g, 0, none⟩) es.length cap, .int .i64 i, .slice (some ⟨gb, 0, none⟩) 1 1] w fun e w' => e = .returned (.slice (some ⟨g, 0, none⟩) (es.length + 1) cap) ∧ w'.ownsRow B 31 3 (.slice (some ⟨g, 0, none⟩) (es.length + 1) cap) (es.length + 1) (encEs (insE i x es)) ∧ w.grownBy w' (some g) := by
  have hcl : cur.toList.length = cap * 3 := by rw [Array.length_toList, hsz]
  have hm63 : cap ≤ 9223372036854775807 := hm
  obtain ⟨n, hn⟩ : ∃ n, n = es.length := ⟨_, rfl⟩
  rw [← hn] at ht hN hi hroom ⊢
  have hov : ∀ lb cb, (callFunc 31 #[.slice (some ⟨gb, 0, none⟩) 1 1, .slice (some ⟨g, (i + 1) * 3, none⟩) lb cb]).run Tryd.prog w = .ok (.value (.bool false)) w := fun lb cb => by
    rw [run_callFunc_extern Tryd.func31 (by kernel_rfl) (by kernel_rfl) (by kernel_rfl) (e := Extern.SlicesOverlaps.overlaps #[24, 24] #[4]) (by kernel_rfl),
      Lib.run_overlaps_apart w 24 4 31 Tryd.underlying24 3 sizeK ⟨gb, 0, none⟩ ⟨g, (i + 1) * 3, none⟩ 1 1 lb cb hne 31 31 3 (cap * 3) (by simp [World.shape?, hb]) (by simp [World.shape?, hg, hsz]) (by omega) (blk_frozen hb 0) (blk_frozen hb 3)]
    rfl
  have q1 : ¬ ((i : Int) = (n : Int)) := by omega
  have q2 : ¬ (cap = i) := by omega
  have q3 : ¬ (cap = i + 1) := by omega
  have q4 : IntKind.i64.wrap ((n : Int) + 1) = (n : Int) + 1 := by rw [IntKind.wrap_i64]; omega
  have q5 : IntKind.i64.wrap ((i : Int) + 1) = (i : Int) + 1 := by rw [IntKind.wrap_i64]; omega
  have q6 : ((i : Int) + 1).toNat = i + 1 := by omega
  have q7 : ((n : Int) + 1).toNat = n + 1 := by omega
  have q8 : i ≤ n := by omega
  have q9 : (0 : Int) ≤ (i : Int) + 1 := by omega
  have q10 : (0 : Int) ≤ (n : Int) + 1 := by omega
  have q11 : (n : Int) + 1 ≤ (cap : Int) := by omega
  have q12 : (i : Int) + 1 ≤ (n : Int) + 1 := by omega
  have q13 : (i : Int) ≤ (n : Int) + 1 := by omega
  have HG := Aside0.mk hg
  have HS := Aside0.mk hsz
  have HT := Aside0.mk ht
  have HBK := Aside0.mk hb
  have HM := Aside0.mk hm
  have HNN := Aside0.mk hn
  clear hg hsz ht hb hm hn hcl
  go_enter Tryd.func21, Tryd.ntmps21
  have mixed : Tryd.prog.follows .mixedOrders = true := by kernel_rfl
  go_wp2_with (simp only [hov])
  have HD := Aside0.mk (encEs_split es i (by have := HNN.out; omega))
  have hd1 : w.drew.heap[g]? = some (.cells cur.toList.toArray 31 (0, 0)) := by rw [Array.toArray_toList]; exact HG.out
  have hlD : (encEs (es.drop i)).length = (n - i) * 3 := by rw [encEs_len, List.length_drop, ← HNN.out]
  have hLl : cur.toList.length = cap * 3 := by rw [Array.length_toList, HS.out]
  have hsrc := cells_src hd1 (i * 3) ((n - i) * 3) (encEs (es.drop i)) (by
    rw [← HD.out.2, ← HT.out, List.drop_take, ← Nat.sub_mul])
  have hs1 : (encEs (es.drop i)).length = Nat.min (n + 1 - i) (n + 1 - (i + 1)) * 3 := by rw [hlD]; congr 1; simp only [Nat.min_def]; split <;> omega
  have hf1 : (i + 1) * 3 + (encEs (es.drop i)).length ≤ cur.toList.length := by rw [hlD, hLl]; omega
  have ho1 := encEs_one (es.drop i)
  have HX := Aside0.mk (And.intro hd1 (And.intro hsrc (And.intro hs1 (And.intro hf1 (And.intro ho1 (And.intro hlD hLl))))))
  clear hd1 hsrc hs1 hf1 ho1 hlD hLl hov
  go_region_law_o (refine step_copyK 3 rfl (.tmp 73) (.tmp 76) 24 24 rfl 31 Tryd.underlying24 infoK g ((i + 1) * 3) (n + 1 - (i + 1)) (cap - (i + 1)) ⟨g, i * 3, none⟩ (n + 1 - i) (cap - i) (by simp [Act.eval, Act.put]) (by simp [Act.eval, Act.put]) cur.toList 31 HX.out.1 (encEs (es.drop i)) HX.out.2.2.1 HX.out.2.1 HX.out.2.2.2.1 HX.out.2.2.2.2.1 ?_; intro w2 hg2 hgr2; have HG2 := Aside0.mk hg2; have HGR2 := Aside0.mk hgr2; clear hg2 hgr2)
  have HB2 : Aside0 (w2.heap[gb]? = some (.cells #[.int .i64 x.f0, .int .i64 x.f1, .bool x.f2] 31 (0, 0))) := ⟨(HGR2.out.block gb (blk_lt HBK.out) (fun e => hne (Option.some.inj e))).trans HBK.out⟩
  have hs3 : (encE x).length = Nat.min 1 (n + 1 - i) * 3 := by show 3 = _; simp only [Nat.min_def]; split <;> omega
  have hsr3 : ∀ j v, (encE x)[j]? = some v → w2.cell? ((⟨gb, 0, none⟩ : Addr).add j) = some v := cells_src (cur := encE x) HB2.out 0 3 (encE x) rfl
  have hf3 : i * 3 + (encE x).length ≤ (splice cur.toList ((i + 1) * 3) (encEs (es.drop i))).length := by
    have h1 := HX.out.2.2.2.1
    have h2 := HX.out.2.2.2.2.2.1
    rw [length_splice _ _ _ h1]
    show i * 3 + 3 ≤ _
    omega
  have ho3 : ∀ v ∈ encE x, v.oneCell' = true := fun v hv => encEs_one [x] v (by rw [encEs_cons]; exact List.mem_append_left _ hv)
  have HY := Aside0.mk (And.intro hs3 (And.intro hsr3 (And.intro hf3 ho3)))
  clear hs3 hsr3 hf3 ho3
  go_wp2_with ((with_reducible refine gate_builtin (b := .copy) (xs := #[.tmp 80, .tmp 81]) rfl ?_); refine wpList_copyK 3 rfl (.tmp 80) (.tmp 81) 24 24 rfl 31 Tryd.underlying24 infoK g (i * 3) (n + 1 - i) (cap - i) ⟨gb, 0, none⟩ 1 1 (by first | (go_simp; done) | (go_simp; rfl)) (by first | (go_simp; done) | (go_simp; rfl)) _ 31 HG2.out (encE x) HY.out.1 HY.out.2.1 HY.out.2.2.1 HY.out.2.2.2 ?_; intro w3 hg3 hgr3; have HG3 := Aside0.mk hg3; have HGR3 := Aside0.mk hgr3; clear hg3 hgr3)
  go_ret
  have g0 : w.grownBy w.drew (some g) := ⟨rfl, rfl, rfl, Nat.le_refl _, fun _ _ _ => rfl⟩
  refine ⟨rfl, ?_, grown_trans (grown_trans g0 HGR2.out) HGR3.out⟩
  have hlA : (encEs (es.take i)).length = i * 3 := by rw [encEs_len, List.length_take, ← HNN.out]; congr 1; omega
  have hlX : (encE x).length = 3 := rfl
  have hlD := HX.out.2.2.2.2.2.1
  have hLl := HX.out.2.2.2.2.2.2
  have hs2 := splice2 cur.toList (encEs (es.take i)) (encE x) (encEs (es.drop i)) (by
    rw [hlA, ← HD.out.1, ← HT.out, List.take_take]; congr 1; omega) (by rw [hlA, hlX, hlD, hLl]; omega)
  rw [hlA, hlX, show i * 3 + 3 = (i + 1) * 3 by omega] at hs2
  have hfin := HG3.out
  rw [hs2] at hfin
  have hins : encEs (insE i x es) = encEs (es.take i) ++ (encE x ++ encEs (es.drop i)) := by unfold insE; rw [encEs_app, encEs_cons]
  refine ⟨by rw [hins, List.length_append, List.length_append, hlA, hlX, hlD]; omega, Or.inr ⟨g, cap, _, rfl, hBg, hfin, hroom, HM.out, ?_, ?_⟩⟩
  · rw [List.size_toArray, List.length_append, List.length_append, List.length_append, List.length_drop, hlA, hlX, hlD, hLl]; omega
  · rw [hins, ← List.append_assoc, ← List.append_assoc, List.take_append_of_le_length (by rw [List.length_append, List.length_append, hlA, hlX, hlD]; omega), List.take_of_length_le (by rw [List.length_append, List.length_append, hlA, hlX, hlD]; omega), List.append_assoc]
theorem splice3' (L A X D : List Value) (hL : L.take A.length = A) (h : A.length + X.length + D.length ≤ L.length) : splice (splice L A.length X) (A.length + X.length) D = A ++ (X ++ (D ++ L.drop (A.length + X.length + D.length))) := by
  unfold splice
  rw [hL]
  have e1 : List.take (A.length + X.length) (A ++ (X ++ L.drop (A.length + X.length))) = A ++ X := by
    rw [← List.append_assoc, ← List.length_append, List.take_left]
  have e2 : List.drop (A.length + X.length + D.length) (A ++ (X ++ L.drop (A.length + X.length))) = L.drop (A.length + X.length + D.length) := by
    rw [← List.append_assoc, ← List.drop_drop, ← List.length_append, List.drop_left, List.length_append, List.drop_drop]
  rw [e1, e2, List.append_assoc]
theorem zero_size (k : Nat) : (Builtin.zeroCells (Value.agg #[.int .i64 0, .int .i64 0, .bool false]).cells k).size = k * 3 := by
  simp [Builtin.zeroCells, Value.cells]
theorem infoE : ∃ i, Tryd.prog.info? 31 = some i ∧ i.zero = some (.agg #[.int .i64 0, .int .i64 0, .bool false]) ∧ i.size = 3 ∧ i.bytes = 24 := by
  obtain ⟨i0, hi, hzz⟩ := Option.map_eq_some_iff.1 infoS
  simp only [Prod.mk.injEq] at hzz
  exact ⟨i0, hi, hzz.1, hzz.2.1, hzz.2.2⟩
set_option maxHeartbeats 8000000 in
set_option maxRecDepth 1000000 in
theorem Insert.grow [Inhabited (Int → Addr)] (B : Nat) (g i : Nat) (cur : Array Value) (es : List S31) (x : S31) (gb : Nat) (w : World) (hg : w.heap[g]? = some (.cells cur 31 (0, 0))) (ht : cur.toList.take (es.length * 3) = encEs es) (hB : B ≤ w.heap.size)
    (hN : es.length ≤ 64) (hi : i < es.length) (hb : w.heap[gb]? = some (.cells #[.int .i64 x.f0, .int .i64 x.f1, .bool x.f2] 31 (0, 0))) :
    Calls Tryd.prog 21 #[.slice (some ⟨g, 0, none⟩) es.length es.length, .int .i64 i, .slice (some ⟨gb, 0, none⟩) 1 1] w fun e w' => ∃ G, e = .returned (.slice (some ⟨w.heap.size, 0, none⟩) (es.length + 1) G) ∧ w'.ownsRow B 31 3 (.slice (some ⟨w.heap.size, 0, none⟩) (es.length + 1) G) (es.length + 1) (encEs (insE i x es)) ∧ w.grownBy w' none := by
  obtain ⟨n, hn⟩ : ∃ n, n = es.length := ⟨_, rfl⟩
  rw [← hn] at ht hN hi ⊢
  obtain ⟨i0, hi0, hz0, hzs, hzb⟩ := infoE
  have hlA : (encEs (es.take i)).length = i * 3 := by rw [encEs_len, List.length_take, ← hn]; congr 1; omega
  have hsp := encEs_split es i (by omega)
  have hgD : w.drew.heap[g]? = some (.cells cur.toList.toArray 31 (0, 0)) := by rw [Array.toArray_toList]; exact hg
  have hold : (Builtin.firstCells i0.size i (.slice (some ⟨g, 0, none⟩) i n)).run Tryd.prog w.drew = .ok (encEs (es.take i)).toArray w.drew := by
    rw [hzs]
    exact run_firstCells_some w.drew 3 i ⟨g, 0, none⟩ i n (encEs (es.take i)) hlA (cells_src hgD 0 (i * 3) _ (by rw [List.drop_zero, ← hsp.1, ← ht, List.take_take]; congr 1; omega))
  have hgrow : n < n + 1 := by omega
  have hkk : (n : Int) + 1 - (i : Int) = ((n + 1 - i : Nat) : Int) := by omega
  have hik : i + (n + 1 - i) = n + 1 := by omega
  obtain ⟨G, hG⟩ : ∃ G, G = grownCap w (n + 1) n 31 := ⟨_, rfl⟩
  obtain ⟨ROW, hROW⟩ : ∃ ROW : Array Value, ROW = (encEs (es.take i)).toArray ++ Builtin.zeroCells (Value.agg #[.int .i64 0, .int .i64 0, .bool false]).cells (n + 1 - i) ++ Builtin.zeroCells (Value.agg #[.int .i64 0, .int .i64 0, .bool false]).cells (G - (n + 1)) := ⟨_, rfl⟩
  have hrz : ∀ ty, (Builtin.append_ #[24, 3] ty #[.slice (some ⟨g, 0, none⟩) i n, .int .i64 ((n : Int) + 1 - (i : Int))]).run Tryd.prog w = .ok (.slice (some ⟨w.heap.size, 0, none⟩) (n + 1) G) (w.drew.alloc (.cells ROW 31)) := fun ty => by
    have h := Lib.run_append_grow_zeros w 24 3 ty 31 i0 _ .i64 .i64 Tryd.underlying24 Tryd.underlying3 hi0 hz0 (some ⟨g, 0, none⟩) i n (encEs (es.take i)) hold (n + 1 - i) (by omega) (by omega) (by omega) (by omega) (by rw [hzb]; omega) (by rw [hzb, hik]; exact growslice_fits hgrow (by omega))
    rw [hik] at h
    rw [hkk, hROW, hG]
    exact h
  have hGn : n + 1 ≤ G := by rw [hG]; exact grownCap_ge w _ _ _
  have hGm : G ≤ maxLen := by rw [hG]; exact grownCap_le_maxLen w (n + 1) n 31 (by unfold maxLen; omega)
  have hG63 : G ≤ 9223372036854775807 := hGm
  have hRs : ROW.size = G * 3 := by
    rw [hROW, Array.size_append, Array.size_append, zero_size, zero_size, List.size_toArray, hlA]; omega
  have hRl : ROW.toList.length = G * 3 := by rw [Array.length_toList, hRs]
  have hRt : ROW.toList.take (encEs (es.take i)).length = encEs (es.take i) := by
    rw [hROW, Array.toList_append, Array.toList_append, List.append_assoc, List.take_left]
  obtain ⟨W1, hW1⟩ : ∃ W1, W1 = w.drew.alloc (.cells ROW 31) := ⟨_, rfl⟩
  rw [← hW1] at hrz
  have hgw : w.grownBy W1 none := by rw [hW1]; exact grown_trans (w := w.drew) ⟨rfl, rfl, rfl, Nat.le_refl _, fun _ _ _ => rfl⟩ (World.grownBy_alloc w.drew _ none)
  have h1N : W1.heap[w.heap.size]? = some (.cells ROW.toList.toArray 31 (0, 0)) := by
    rw [hW1, Array.toArray_toList]
    exact Array.getElem?_push_size
  have h1g : W1.heap[g]? = some (.cells cur.toList.toArray 31 (0, 0)) := (hgw.block g (blk_lt hg) (by simp)).trans hgD
  have h1b : W1.heap[gb]? = some (.cells #[.int .i64 x.f0, .int .i64 x.f1, .bool x.f2] 31 (0, 0)) := (hgw.block gb (blk_lt hb) (by simp)).trans hb
  have hgN : g ≠ w.heap.size := Nat.ne_of_lt (blk_lt hg)
  have hlX : (encE x).length = 3 := rfl
  have hlD : (encEs (es.drop i)).length = (n - i) * 3 := by rw [encEs_len, List.length_drop, ← hn]
  -- the first copy
  have hs3 : (encE x).length = Nat.min 1 (n + 1 - i) * 3 := by show 3 = _; simp only [Nat.min_def]; split <;> omega
  have hsr3 : ∀ j v, (encE x)[j]? = some v → W1.cell? ((⟨gb, 0, none⟩ : Addr).add j) = some v := cells_src (cur := encE x) h1b 0 3 (encE x) rfl
  have hf3 : i * 3 + (encE x).length ≤ ROW.toList.length := by rw [hlX, hRl]; omega
  have ho3 : ∀ v ∈ encE x, v.oneCell' = true := fun v hv => encEs_one [x] v (by rw [encEs_cons]; exact List.mem_append_left _ hv)
  have HY := Aside0.mk (And.intro hs3 (And.intro hsr3 (And.intro hf3 ho3)))
  -- the second one
  have hs1 : (encEs (es.drop i)).length = Nat.min (n - i) (n + 1 - (i + 1)) * 3 := by rw [hlD]; congr 1; simp only [Nat.min_def]; split <;> omega
  have hf1 : (i + 1) * 3 + (encEs (es.drop i)).length ≤ (splice ROW.toList (i * 3) (encE x)).length := by rw [length_splice _ _ _ hf3, hlD, hRl]; omega
  have hq : encEs (es.drop i) = (cur.toList.drop (i * 3)).take ((n - i) * 3) := by rw [← hsp.2, ← ht, List.drop_take, ← Nat.sub_mul]
  have HX := Aside0.mk (And.intro hs1 (And.intro hf1 (And.intro hq (encEs_one (es.drop i)))))
  have q1 : ¬ ((i : Int) = (n : Int)) := by omega
  have q2 : ¬ (n = i) := by omega
  have q3 : ¬ (G = i + 1) := by omega
  have q3' : ¬ (G = i) := by omega
  have q4 : IntKind.i64.wrap ((n : Int) + 1) = (n : Int) + 1 := by rw [IntKind.wrap_i64]; omega
  have q5 : IntKind.i64.wrap ((i : Int) + 1) = (i : Int) + 1 := by rw [IntKind.wrap_i64]; omega
  have q5' : IntKind.i64.wrap ((n : Int) + 1 - (i : Int)) = (n : Int) + 1 - (i : Int) := by rw [IntKind.wrap_i64]; omega
  have q6 : ((i : Int) + 1).toNat = i + 1 := by omega
  have q7 : ((n : Int) + 1).toNat = n + 1 := by omega
  have q8 : i ≤ n := by omega
  have q9 : (0 : Int) ≤ (i : Int) + 1 := by omega
  have q11 : (n : Int) < (n : Int) + 1 := by omega
  have q12 : (i : Int) + 1 ≤ (n : Int) + 1 := by omega
  have q13 : (i : Int) ≤ (n : Int) + 1 := by omega
  have q14 : (i : Int) ≤ (n : Int) := by omega
  have mixed : Tryd.prog.follows .mixedOrders = true := by kernel_rfl
  have HGW := Aside0.mk hgw
  have HN1 := Aside0.mk h1N
  have Hg1 := Aside0.mk h1g
  have HNN := Aside0.mk hn
  have HFIN := Aside0.mk (And.intro hlA (And.intro hlD (And.intro hRl (And.intro hRt (And.intro hGn (And.intro hGm (And.intro hgN hB)))))))
  clear hg ht hb hn hold hsp hgD hkk hik hG hROW hRs hRl hRt hgw h1N h1g h1b hlX hlD hs3 hsr3 hf3 ho3 hs1 hf1 hq hW1 hlA hi0 hz0 hzs hzb hGn hGm hgrow hgN hB
  generalize hNw : w.heap.size = N at *
  go_enter Tryd.func21, Tryd.ntmps21
  go_wp2_with (first
    | ((with_reducible refine gate_builtin (b := .append) (xs := #[.tmp 34, .tmp 39]) rfl ?_); refine Lib.wpList_append_run _ rfl _ _ _ _ rfl _ _ rfl rfl _ _ (hrz _) ?_)
    | ((with_reducible refine gate_builtin (b := .copy) (xs := #[.tmp 43, .tmp 44]) rfl ?_); refine wpList_copyK 3 rfl (.tmp 43) (.tmp 44) 24 24 rfl 31 Tryd.underlying24 infoK N (i * 3) (n + 1 - i) (G - i) ⟨gb, 0, none⟩ 1 1 (by first | (go_simp; done) | (go_simp; rfl)) (by first | (go_simp; done) | (go_simp; rfl)) _ 31 HN1.out (encE x) HY.out.1 HY.out.2.1 HY.out.2.2.1 HY.out.2.2.2 ?_; intro w3 hg3 hgr3; have HG3 := Aside0.mk hg3; have HGR3 := Aside0.mk hgr3; clear hg3 hgr3))
  have hg4 : w3.drew.heap[N]? = some (.cells (splice ROW.toList (i * 3) (encE x)).toArray 31 (0, 0)) := HG3.out
  have hs4 : w3.drew.heap[g]? = some (.cells cur.toList.toArray 31 (0, 0)) := (HGR3.out.block g (blk_lt Hg1.out) (fun e => HFIN.out.2.2.2.2.2.2.1 (Option.some.inj e))).trans Hg1.out
  have HZ := Aside0.mk (And.intro hg4 (cells_src hs4 (i * 3) ((n - i) * 3) (encEs (es.drop i)) HX.out.2.2.1))
  clear hg4 hs4
  go_region_law_o (refine step_copyK 3 rfl (.tmp 50) (.tmp 53) 24 24 rfl 31 Tryd.underlying24 infoK N ((i + 1) * 3) (n + 1 - (i + 1)) (G - (i + 1)) ⟨g, i * 3, none⟩ (n - i) (n - i) (by simp [Act.eval, Act.put]) (by simp [Act.eval, Act.put]) (splice ROW.toList (i * 3) (encE x)) 31 HZ.out.1 (encEs (es.drop i)) HX.out.1 HZ.out.2 HX.out.2.1 HX.out.2.2.2 ?_; intro w4 hg4 hgr4; have HG4 := Aside0.mk hg4; have HGR4 := Aside0.mk hgr4; clear hg4 hgr4)
  go_wp2
  go_ret
  obtain ⟨hlA, hlD, hRl, hRt, hGn, hGm, hgN, hB⟩ := HFIN.out
  have hlX : (encE x).length = 3 := rfl
  have hs2 := splice3' ROW.toList (encEs (es.take i)) (encE x) (encEs (es.drop i)) hRt (by rw [hlA, hlX, hlD, hRl]; omega)
  rw [hlA, hlX, show i * 3 + 3 = (i + 1) * 3 by omega] at hs2
  have hfin := HG4.out
  rw [hs2] at hfin
  have hins : encEs (insE i x es) = encEs (es.take i) ++ (encE x ++ encEs (es.drop i)) := by unfold insE; rw [encEs_app, encEs_cons]
  refine ⟨G, rfl, ⟨by rw [hins, List.length_append, List.length_append, hlA, hlX, hlD]; omega, Or.inr ⟨N, G, _, rfl, hB, hfin, hGn, hGm, ?_, ?_⟩⟩, ?_⟩
  · rw [List.size_toArray, List.length_append, List.length_append, List.length_append, List.length_drop, hlA, hlX, hlD, hRl]; omega
  · rw [hins, ← List.append_assoc, ← List.append_assoc, List.take_append_of_le_length (by rw [List.length_append, List.length_append, hlA, hlX, hlD]; omega), List.take_of_length_le (by rw [List.length_append, List.length_append, hlA, hlX, hlD]; omega), List.append_assoc]
  · have k3 := HGR3.out
    have k4 := HGR4.out
    have k1 := HGW.out
    refine ⟨k4.os.trans (k3.os.trans k1.os), k4.tape.trans (k3.tape.trans k1.tape), k4.output.trans (k3.output.trans k1.output), Nat.le_trans k1.size (Nat.le_trans k3.size k4.size), fun k hk _ => ?_⟩
    have hne : some k ≠ some N := fun e => by have := Option.some.inj e; omega
    exact (k4.block k (Nat.lt_of_lt_of_le hk (Nat.le_trans k1.size k3.size)) hne).trans ((k3.block k (Nat.lt_of_lt_of_le hk k1.size) hne).trans (k1.block k hk (by simp)))
theorem insE_len (i : Nat) (x : S31) (es : List S31) (h : i ≤ es.length) : (insE i x es).length = es.length + 1 := by
  unfold insE
  rw [List.length_append, List.length_cons, List.length_take, List.length_drop]
  omega
theorem Insert.calls [Inhabited (Int → Addr)] (B : Nat) (ok : Nat → Prop) (v : Value) (es : List S31) (i : Nat) (x : S31) (gb : Nat) (w : World) (hO : Kd.R k31 31 w B ok v es) (hi : i ≤ es.length) (hN : es.length ≤ 64)
    (hb : w.heap[gb]? = some (.cells #[.int .i64 x.f0, .int .i64 x.f1, .bool x.f2] 31 (0, 0))) (hne : v.ownBlock ≠ some gb) (hfresh : ∀ k, w.heap.size ≤ k → ok k) (hB : B ≤ w.heap.size) :
    Calls Tryd.prog 21 #[v, .int .i64 i, .slice (some ⟨gb, 0, none⟩) 1 1] w fun e w' => ∃ v', e = .returned v' ∧ Kd.R k31 31 w' B ok v' (insE i x es) ∧ w.grownBy w' v.ownBlock ∧ (v'.ownBlock = v.ownBlock ∨ ∃ b, v'.ownBlock = some b ∧ w.heap.size ≤ b) := by
  rcases Nat.lt_or_ge i es.length with hlt | hge
  · rcases (own_of_RE hO).2 with ⟨rfl, h0⟩ | ⟨g, cap, cur, rfl, hBg, hg, hc, hm, hsz, ht⟩
    · omega
    · by_cases hroom : es.length + 1 ≤ cap
      · refine (Insert.shift B g cap i cur es x gb w hg hsz ht hm hBg hN hlt hroom hb (fun e => hne (by rw [e]; rfl))).mono ?_
        rintro e w' ⟨rfl, ho, hgr⟩
        exact ⟨_, rfl, RE_of_own (by rw [insE_len i x es hi]; exact ho) (fun k hk => hO.1 k hk), hgr, Or.inl rfl⟩
      · obtain rfl : cap = es.length := by omega
        refine (Insert.grow B g i cur es x gb w hg ht hB hN hlt hb).mono ?_
        rintro e w' ⟨G, rfl, ho, hgr⟩
        exact ⟨_, rfl, RE_of_own (by rw [insE_len i x es hi]; exact ho) (fun k hk => hfresh k (by cases hk; exact Nat.le_refl _)), ⟨hgr.os, hgr.tape, hgr.output, hgr.size, fun k hk _ => hgr.block k hk (by simp)⟩, Or.inr ⟨_, rfl, Nat.le_refl _⟩⟩
  · obtain rfl : i = es.length := by omega
    refine (Insert.end_ B ok v es x gb w hO hN hb hfresh hB).mono ?_
    rintro e w' ⟨v', rfl, hr, _, hgr, hat⟩
    exact ⟨v', rfl, by unfold insE; rw [List.take_length, List.drop_length]; exact hr, hgr, hat⟩
/-! ### Add -/
def okE (x : S31) : Prop := (0 ≤ x.f0 ∧ x.f0 ≤ 40000) ∧ (1 ≤ x.f1 ∧ x.f1 ≤ 6)
instance (x : S31) : Decidable (okE x) := by unfold okE; infer_instance
theorem valid_t {x : S31} (h : okE x) : sched_Valid.f x.f0 x.f1 x.f2 = some none := by
  unfold okE at h
  unfold sched_Valid.f
  rw [if_neg (by omega), if_neg (by omega), if_neg (by omega), if_neg (by omega)]
theorem valid_f {x : S31} (h : ¬ okE x) : sched_Valid.f x.f0 x.f1 x.f2 = some (some 103) := by
  unfold okE at h
  unfold sched_Valid.f
  by_cases h1 : x.f0 < 0
  · rw [if_pos h1]
  rw [if_neg h1]
  by_cases h2 : x.f0 > 40000
  · rw [if_pos h2]
  rw [if_neg h2]
  by_cases h3 : x.f1 < 1
  · rw [if_pos h3]
  rw [if_neg h3, if_pos (by omega)]
/-- Is the day and class there? -/
def isE (x : S31) (es : List S31) : Bool := decide (posE x es < es.length ∧ ordE (rd_T31 es (posE x es : Int)) x = 0)
def addE (es : List S31) (x : S31) : List S31 × Option Int :=
  if okE x then (if isE x es = true then (es.set (posE x es) x, none) else if 64 ≤ es.length then (es, some 105) else (insE (posE x es) x es, none)) else (es, some 103)
theorem posE_le (x : S31) : ∀ es : List S31, posE x es ≤ es.length
  | [] => by simp [posE]
  | y :: l => by
    have := posE_le x l
    simp only [posE, List.length_cons]
    split <;> omega
/-- What has turned: the schedule's own blocks alone. -/
structure Moved (gs : Nat) (v v' : Value) (w w' : World) : Prop where
  os : w'.os = w.os
  tape : w'.tape = w.tape
  output : w'.output = w.output
  size : w.heap.size ≤ w'.heap.size
  block : ∀ k, k < w.heap.size → k ≠ gs → some k ≠ v.ownBlock → w'.heap[k]? = w.heap[k]?
  at_ : v'.ownBlock = v.ownBlock ∨ ∃ b, v'.ownBlock = some b ∧ w.heap.size ≤ b
theorem Moved.of_below {gs : Nat} {v : Value} {w w' : World} (h : Below w.heap.size w w') : Moved gs v v w w' :=
  ⟨h.os, h.tape, h.output, h.size, fun k hk _ _ => h.block k hk, Or.inl rfl⟩
set_option maxHeartbeats 8000000 in
set_option maxRecDepth 1000000 in
theorem Add.bad [Inhabited (Int → Addr)] (gs B : Nat) (es : List S31) (x : S31) (v : Value) (w : World) (hG : GlobOK w) (h : SchV gs B w v es) (hV : ¬ okE x) :
    Calls Tryd.prog 7 #[.pointer (some ⟨gs, 0, none⟩), .agg #[.int .i64 x.f0, .int .i64 x.f1, .bool x.f2]] w fun e w' => e = .returned (errW (some 103)) ∧ ∃ v', SchV gs B w' v' (es) ∧ Moved gs v v' w w' := by
  have hu1 := Tryd.underlying31
  have hu2 := Tryd.underlying26
  have HS := Aside0.mk h
  have HG := Aside0.mk hG
  have HB := Aside0.mk (Below.refl w.heap.size w)
  have HVF := Aside0.mk (valid_f hV)
  rw [errW_some]
  clear h hG hV
  go_enter Tryd.func7, Tryd.ntmps7
  go_wp2_with (first
    | ((with_reducible refine gate_dst (N := 3) rfl ?_); refine box_event ?hg (N := 3) ?hd (cs := #[.int .i64 x.f0, .int .i64 x.f1, .bool x.f2]) (t := 31) ?hr ?_; (case hd => rfl); (case hg => rfl); (case hr => first | (go_simp; done) | (go_simp; rfl)); intro g3 hg_ w3 hbox hb; have HGg3 := Aside0.mk (show w.heap.size ≤ g3 from Nat.le_trans (below_size HB.out) (Nat.le_of_eq hg_.symm)); have n_ := Aside0.mk (below_step HB.out hb); clear HB; have HB := n_; clear n_; have BK3 := Aside0.mk hbox; clear hb hbox hg_; have y0 : w3.cell? ⟨g3, 0, none⟩ = some (.int .i64 x.f0) := (blk_cell BK3.out 0).trans rfl; have y1 : w3.cell? ⟨g3, 1, none⟩ = some (.int .i64 x.f1) := (blk_cell BK3.out 1).trans rfl; have y2 : w3.cell? ⟨g3, 2, none⟩ = some (.bool x.f2) := (blk_cell BK3.out 2).trans rfl; have yf0 := blk_frozen BK3.out 0; have yf1 := blk_frozen BK3.out 1; have yf2 := blk_frozen BK3.out 2)
    | (go_at_call 14; have hN := sched_Valid.calls x.f0 x.f1 x.f2 (some 103) _ (HG.out.below HB.out) HVF.out; simp only [errW_none, errW_some] at hN; (with_reducible refine hN.mono ?_); clear hN; rintro e w_ ⟨rfl, hb⟩; have n_ := Aside0.mk (below_step HB.out hb); clear HB; have HB := n_; clear n_; have n_ := Aside0.mk (blk_below BK3.out hb); clear BK3; have BK3 := n_; clear n_ hb y0 y1 y2 yf0 yf1 yf2))
  go_ret
  exact ⟨rfl, v, HS.out.below HB.out, Moved.of_below HB.out⟩
set_option maxHeartbeats 8000000 in
set_option maxRecDepth 1000000 in
theorem Add.many [Inhabited (Int → Addr)] (gs B : Nat) (es : List S31) (x : S31) (v : Value) (w : World) (hG : GlobOK w) (h : SchV gs B w v es) (hM : MonoE es x) (hV : okE x) (hF : isE x es = false) (h64 : 64 ≤ es.length) :
    Calls Tryd.prog 7 #[.pointer (some ⟨gs, 0, none⟩), .agg #[.int .i64 x.f0, .int .i64 x.f1, .bool x.f2]] w fun e w' => e = .returned (errW (some 105)) ∧ ∃ v', SchV gs B w' v' (es) ∧ Moved gs v v' w w' := by
  have hu1 := Tryd.underlying31
  have hu2 := Tryd.underlying26
  have HS := Aside0.mk h
  have HG := Aside0.mk hG
  have HB := Aside0.mk (Below.refl w.heap.size w)
  rw [errW_some]
  have H64 := Aside0.mk h64
  clear h64
  have HVF := Aside0.mk (valid_t hV)
  have HF := Aside0.mk hF
  obtain ⟨A, c, hv, hlc, hC⟩ := Kd.R_reads h.row
  subst hv
  have BS := Aside0.mk h.cell
  have HC := Aside0.mk hC
  have HLC := Aside0.mk hlc
  have HN := Aside0.mk h.len
  have HMO := Aside0.mk hM
  clear h hG hV hF hC hlc hM
  go_enter Tryd.func7, Tryd.ntmps7
  go_upto_region 4 with (first
    | ((with_reducible refine gate_dst (N := 3) rfl ?_); refine box_event ?hg (N := 3) ?hd (cs := #[.int .i64 x.f0, .int .i64 x.f1, .bool x.f2]) (t := 31) ?hr ?_; (case hd => rfl); (case hg => rfl); (case hr => first | (go_simp; done) | (go_simp; rfl)); intro g3 hg_ w3 hbox hb; have HGg3 := Aside0.mk (show w.heap.size ≤ g3 from Nat.le_trans (below_size HB.out) (Nat.le_of_eq hg_.symm)); have n_ := Aside0.mk (below_step HB.out hb); clear HB; have HB := n_; clear n_; have BK3 := Aside0.mk hbox; clear hb hbox hg_; have y0 : w3.cell? ⟨g3, 0, none⟩ = some (.int .i64 x.f0) := (blk_cell BK3.out 0).trans rfl; have y1 : w3.cell? ⟨g3, 1, none⟩ = some (.int .i64 x.f1) := (blk_cell BK3.out 1).trans rfl; have y2 : w3.cell? ⟨g3, 2, none⟩ = some (.bool x.f2) := (blk_cell BK3.out 2).trans rfl; have yf0 := blk_frozen BK3.out 0; have yf1 := blk_frozen BK3.out 1; have yf2 := blk_frozen BK3.out 2)
    | (go_at_call 14; have hN := sched_Valid.calls x.f0 x.f1 x.f2 none _ (HG.out.below HB.out) HVF.out; simp only [errW_none, errW_some] at hN; (with_reducible refine hN.mono ?_); clear hN; rintro e w_ ⟨rfl, hb⟩; have n_ := Aside0.mk (below_step HB.out hb); clear HB; have HB := n_; clear n_; have n_ := Aside0.mk (blk_below BK3.out hb); clear BK3; have BK3 := n_; clear n_ hb y0 y1 y2 yf0 yf1 yf2))
  generalize hw4 : w_ = w4 at *
  have z0 := cell_far ((blk_cell (blk_below BS.out HB.out) 0).trans (show _ = some (.slice A es.length c) from rfl))
  have y0 := cell_far ((blk_cell BK3.out 0).trans (show _ = some (.int .i64 x.f0) from rfl))
  have y1 := cell_far ((blk_cell BK3.out 1).trans (show _ = some (.int .i64 x.f1) from rfl))
  have y2 := cell_far ((blk_cell BK3.out 2).trans (show _ = some (.bool x.f2) from rfl))
  have hc : ∀ p : FarW w4, Calls Tryd.prog 19 #[.slice A es.length c, .agg #[.int .i64 x.f0, .int .i64 x.f1, .bool x.f2], .func (.func 20) #[] #[]] p.W fun e w' => e = .returned (.tuple #[.int .i64 (posE x es), .bool false]) ∧ Below p.W.heap.size p.W w' := fun p => by
    have q := Bsf.calls A c es x p.W (Kd.C_below HC.out (below_step HB.out p.h)) HN.out HLC.out HMO.out
    have e : decide (posE x es < es.length ∧ ordE (rd_T31 es (posE x es : Int)) x = 0) = false := HF.out
    rw [e] at q
    exact q
  refine wp_region_far (by kernel_rfl) (by kernel_rfl) ?_
  repeat (refine wpQuiet_step (fun K hK => ?_); go_simp; first | (refine hK _ ?_; clear hK K) | (apply Exists.intro; refine ⟨fun _ => ?_, hK _ ?_⟩; (first | (go_at_call 19; refine calls_far (hc _))); clear hK K))
  refine wpQuiet_nil ?_
  intro _ hw'
  obtain ⟨pq, hw''⟩ := hw'
  subst hw''
  have n1_ := Aside0.mk (below_step HB.out pq.h)
  have n2_ := Aside0.mk (blk_below BK3.out pq.h)
  clear hc z0 y0 y1 y2 HB BK3
  have HB := n1_
  have BK3 := n2_
  clear n1_ n2_
  generalize pq.W = w5 at HB BK3 ⊢
  clear pq
  have s0 : w5.cell? ⟨gs, 0, none⟩ = some (.slice A es.length c) := (blk_cell (blk_below BS.out HB.out) 0).trans rfl
  have hg := GlobOK.at (HG.out.below HB.out) 105 0 (by simp [globTab])
  have cb1 : decide ((64 : Int) ≤ (es.length : Int)) = true := decide_eq_true (by have := H64.out; omega)
  have cb2 : ((64 : Int) ≤ (es.length : Int)) = True := eq_true (by have := H64.out; omega)
  go_wp2
  go_ret
  exact ⟨rfl, _, HS.out.below HB.out, Moved.of_below HB.out⟩
theorem set3 (L : List Value) (k : Nat) (a b c : Value) (h : k + 3 ≤ L.length) : ((L.set k a).set (k + 1) b).set (k + 2) c = L.take k ++ ([a, b, c] ++ L.drop (k + 3)) := by
  obtain ⟨P, R, rfl, hP⟩ : ∃ P R, L = P ++ R ∧ P.length = k := ⟨L.take k, L.drop k, (List.take_append_drop k L).symm, by rw [List.length_take]; omega⟩
  subst hP
  rw [List.length_append] at h
  match R, h with
  | r0 :: r1 :: r2 :: R, _ =>
    have e : ∀ j (Y : List Value) (u : Value), (P ++ Y).set (P.length + j) u = P ++ Y.set j u := fun j Y u => by rw [List.set_append_right _ _ (by omega), Nat.add_sub_cancel_left]
    have e0 := e 0 (r0 :: r1 :: r2 :: R) a
    rw [Nat.add_zero] at e0
    rw [e0, e, e, List.take_left, ← List.drop_drop, List.drop_left]
    rfl
  | [], h => simp only [List.length_nil] at h; omega
  | [r0], h => simp only [List.length_cons, List.length_nil] at h; omega
  | [r0, r1], h => simp only [List.length_cons, List.length_nil] at h; omega
theorem row_set {W : World} {B g cap i : Nat} {cur : Array Value} {es : List S31} {x : S31} (hg : W.heap[g]? = some (.cells cur 31 (0, 0))) (hsz : cur.size = cap * 3) (ht : cur.toList.take (es.length * 3) = encEs es) (hm : cap ≤ maxLen) (hc : es.length ≤ cap) (hBg : B ≤ g) (hi : i < es.length) :
    (((W.setCell ⟨g, i * 3, none⟩ (.int .i64 x.f0)).setCell ⟨g, i * 3 + 1, none⟩ (.int .i64 x.f1)).setCell ⟨g, i * 3 + 2, none⟩ (.bool x.f2)).ownsRow B 31 3 (.slice (some ⟨g, 0, none⟩) es.length cap) es.length (encEs (es.set i x)) := by
  have h3 := blk_put (blk_put (blk_put hg (i * 3) (.int .i64 x.f0) rfl) (i * 3 + 1) (.int .i64 x.f1) rfl) (i * 3 + 2) (.bool x.f2) rfl
  have hl : cur.toList.length = cap * 3 := by rw [Array.length_toList, hsz]
  have hle : (encEs (es.set i x)).length = es.length * 3 := by rw [encEs_len, List.length_set]
  refine ⟨hle, Or.inr ⟨g, cap, _, rfl, hBg, h3, hc, hm, ?_, ?_⟩⟩
  · rw [Array.size_setIfInBounds, Array.size_setIfInBounds, Array.size_setIfInBounds, hsz]
  · rw [Array.toList_setIfInBounds, Array.toList_setIfInBounds, Array.toList_setIfInBounds, set3 _ _ _ _ _ (by rw [hl]; omega)]
    have hA : cur.toList.take (i * 3) = encEs (es.take i) := by rw [← (encEs_split es i (by omega)).1, ← ht, List.take_take]; congr 1; omega
    have hlA : (encEs (es.take i)).length = i * 3 := by rw [encEs_len, List.length_take]; congr 1; omega
    have hD : (cur.toList.drop (i * 3 + 3)).take ((es.length - (i + 1)) * 3) = encEs (es.drop (i + 1)) := by
      rw [← (encEs_split es (i + 1) (by omega)).2, ← ht, List.drop_take, ← Nat.sub_mul, show (i + 1) * 3 = i * 3 + 3 by omega]
    have hes : encEs (es.set i x) = encEs (es.take i) ++ (encE x ++ encEs (es.drop (i + 1))) := by
      rw [List.set_eq_take_append_cons_drop, if_pos hi, encEs_app, encEs_cons]
    have hN : es.length * 3 = (encEs (es.take i) ++ encE x).length + (es.length - (i + 1)) * 3 := by
      rw [List.length_append, hlA]
      show _ = i * 3 + 3 + _
      omega
    have e3 : [Value.int .i64 x.f0, Value.int .i64 x.f1, Value.bool x.f2] = encE x := rfl
    rw [hA, hes, e3, ← List.append_assoc, hN, List.take_length_add_append, hD, List.append_assoc]
set_option maxHeartbeats 8000000 in
set_option maxRecDepth 1000000 in
theorem Add.set [Inhabited (Int → Addr)] (gs B : Nat) (es : List S31) (x : S31) (v : Value) (w : World) (hG : GlobOK w) (h : SchV gs B w v es) (hM : MonoE es x) (hV : okE x) (hF : isE x es = true) :
    Calls Tryd.prog 7 #[.pointer (some ⟨gs, 0, none⟩), .agg #[.int .i64 x.f0, .int .i64 x.f1, .bool x.f2]] w fun e w' => e = .returned (errW none) ∧ ∃ v', SchV gs B w' v' (es.set (posE x es) x) ∧ Moved gs v v' w w' := by
  have hu1 := Tryd.underlying31
  have hu2 := Tryd.underlying26
  have HS := Aside0.mk h
  have HG := Aside0.mk hG
  have HB := Aside0.mk (Below.refl w.heap.size w)
  rw [errW_none]
  obtain ⟨g, cap, cur, hv0, hBg, hg, hc, hm, hsz, ht⟩ : ∃ g cap cur, v = .slice (some ⟨g, 0, none⟩) es.length cap ∧ B ≤ g ∧ w.heap[g]? = some (.cells cur 31 (0, 0)) ∧ es.length ≤ cap ∧ cap ≤ maxLen ∧ cur.size = cap * 3 ∧ cur.toList.take (es.length * 3) = encEs es := by
    have hlt : posE x es < es.length := (of_decide_eq_true hF).1
    rcases (own_of_RE h.row).2 with ⟨_, h0⟩ | ⟨g, cap, cur, h1, h2, h3, h4, h5, h6, h7⟩
    · omega
    · exact ⟨g, cap, cur, h1, h2, h3, h4, h5, h6, h7⟩
  subst hv0
  have HR := Aside0.mk (And.intro hg (And.intro hsz (And.intro ht (And.intro hm (And.intro hc hBg)))))
  have HLT := Aside0.mk (of_decide_eq_true hF).1
  have HOKG := Aside0.mk (h.row.1 g rfl)
  clear hg hsz ht hm hc hBg
  have HVF := Aside0.mk (valid_t hV)
  have HF := Aside0.mk hF
  obtain ⟨A, c, hv, hlc, hC⟩ := Kd.R_reads h.row
  injection hv with e1 e2 e3
  subst e1
  subst e3
  clear e2
  have BS := Aside0.mk h.cell
  have HC := Aside0.mk hC
  have HLC := Aside0.mk hlc
  have HN := Aside0.mk h.len
  have HMO := Aside0.mk hM
  clear h hG hV hF hC hlc hM
  go_enter Tryd.func7, Tryd.ntmps7
  go_upto_region 4 with (first
    | ((with_reducible refine gate_dst (N := 3) rfl ?_); refine box_event ?hg (N := 3) ?hd (cs := #[.int .i64 x.f0, .int .i64 x.f1, .bool x.f2]) (t := 31) ?hr ?_; (case hd => rfl); (case hg => rfl); (case hr => first | (go_simp; done) | (go_simp; rfl)); intro g3 hg_ w3 hbox hb; have HGg3 := Aside0.mk (show w.heap.size ≤ g3 from Nat.le_trans (below_size HB.out) (Nat.le_of_eq hg_.symm)); have n_ := Aside0.mk (below_step HB.out hb); clear HB; have HB := n_; clear n_; have BK3 := Aside0.mk hbox; clear hb hbox hg_; have y0 : w3.cell? ⟨g3, 0, none⟩ = some (.int .i64 x.f0) := (blk_cell BK3.out 0).trans rfl; have y1 : w3.cell? ⟨g3, 1, none⟩ = some (.int .i64 x.f1) := (blk_cell BK3.out 1).trans rfl; have y2 : w3.cell? ⟨g3, 2, none⟩ = some (.bool x.f2) := (blk_cell BK3.out 2).trans rfl; have yf0 := blk_frozen BK3.out 0; have yf1 := blk_frozen BK3.out 1; have yf2 := blk_frozen BK3.out 2)
    | (go_at_call 14; have hN := sched_Valid.calls x.f0 x.f1 x.f2 none _ (HG.out.below HB.out) HVF.out; simp only [errW_none, errW_some] at hN; (with_reducible refine hN.mono ?_); clear hN; rintro e w_ ⟨rfl, hb⟩; have n_ := Aside0.mk (below_step HB.out hb); clear HB; have HB := n_; clear n_; have n_ := Aside0.mk (blk_below BK3.out hb); clear BK3; have BK3 := n_; clear n_ hb y0 y1 y2 yf0 yf1 yf2))
  generalize hw4 : w_ = w4 at *
  have z0 := cell_far ((blk_cell (blk_below BS.out HB.out) 0).trans (show _ = some (.slice (some ⟨g, 0, none⟩) es.length cap) from rfl))
  have y0 := cell_far ((blk_cell BK3.out 0).trans (show _ = some (.int .i64 x.f0) from rfl))
  have y1 := cell_far ((blk_cell BK3.out 1).trans (show _ = some (.int .i64 x.f1) from rfl))
  have y2 := cell_far ((blk_cell BK3.out 2).trans (show _ = some (.bool x.f2) from rfl))
  have hc : ∀ p : FarW w4, Calls Tryd.prog 19 #[.slice (some ⟨g, 0, none⟩) es.length cap, .agg #[.int .i64 x.f0, .int .i64 x.f1, .bool x.f2], .func (.func 20) #[] #[]] p.W fun e w' => e = .returned (.tuple #[.int .i64 (posE x es), .bool true]) ∧ Below p.W.heap.size p.W w' := fun p => by
    have q := Bsf.calls (some ⟨g, 0, none⟩) cap es x p.W (Kd.C_below HC.out (below_step HB.out p.h)) HN.out HLC.out HMO.out
    have e : decide (posE x es < es.length ∧ ordE (rd_T31 es (posE x es : Int)) x = 0) = true := HF.out
    rw [e] at q
    exact q
  refine wp_region_far (by kernel_rfl) (by kernel_rfl) ?_
  repeat (refine wpQuiet_step (fun K hK => ?_); go_simp; first | (refine hK _ ?_; clear hK K) | (apply Exists.intro; refine ⟨fun _ => ?_, hK _ ?_⟩; (first | (go_at_call 19; refine calls_far (hc _))); clear hK K))
  refine wpQuiet_nil ?_
  intro _ hw'
  obtain ⟨pq, hw''⟩ := hw'
  subst hw''
  have n1_ := Aside0.mk (below_step HB.out pq.h)
  have n2_ := Aside0.mk (blk_below BK3.out pq.h)
  clear hc z0 y0 y1 y2 HB BK3
  have HB := n1_
  have BK3 := n2_
  clear n1_ n2_
  generalize pq.W = w5 at HB BK3 ⊢
  clear pq
  generalize hpi : posE x es = i at *
  have hg5 : w5.heap[g]? = some (.cells _ 31 (0, 0)) := (HB.out.block g (blk_lt HR.out.1)).trans HR.out.1
  have hi := HLT.out
  have hgs : gs ≠ g := fun e => HOKG.out e.symm
  have s0 : w5.cell? ⟨gs, 0, none⟩ = some (.slice (some ⟨g, 0, none⟩) es.length cap) := (blk_cell (blk_below BS.out HB.out) 0).trans rfl
  have y0 : w5.cell? ⟨g3, 0, none⟩ = some (.int .i64 x.f0) := (blk_cell BK3.out 0).trans rfl
  have y1 : w5.cell? ⟨g3, 1, none⟩ = some (.int .i64 x.f1) := (blk_cell BK3.out 1).trans rfl
  have y2 : w5.cell? ⟨g3, 2, none⟩ = some (.bool x.f2) := (blk_cell BK3.out 2).trans rfl
  have hrow : ∀ j, j < 3 → ∃ u, w5.cell? ⟨g, i * 3 + j, none⟩ = some u := fun j hj => by
    have hs := HR.out.2.1
    have hcc := HR.out.2.2.2.2.1
    exact ⟨_, (blk_cell hg5 (i * 3 + j)).trans (Array.getElem?_eq_getElem (by omega))⟩
  obtain ⟨u0, r0⟩ := hrow 0 (by omega)
  obtain ⟨u1, r1⟩ := hrow 1 (by omega)
  obtain ⟨u2, r2⟩ := hrow 2 (by omega)
  rw [Nat.add_zero] at r0
  have rf0 := blk_frozen hg5 (i * 3)
  have rf1 := blk_frozen hg5 (i * 3 + 1)
  have rf2 := blk_frozen hg5 (i * 3 + 2)
  have cb1 : decide ((i : Int) < (es.length : Int)) = true := decide_eq_true (by omega)
  have cb2 : ((i : Int) < (es.length : Int)) = True := eq_true (by omega)
  have cb3 : (i < es.length) = True := eq_true hi
  have HG5 := Aside0.mk hg5
  clear hrow hg5 hi
  go_wp2_with fail
  go_big_region
  clear s0 y0 y1 y2 r0 r1 r2 rf0 rf1 rf2
  have hown := row_set (x := x) HG5.out HR.out.2.1 HR.out.2.2.1 HR.out.2.2.2.1 HR.out.2.2.2.2.1 HR.out.2.2.2.2.2 HLT.out
  have hoth : ∀ k, k ≠ g → (((w5.setCell ⟨g, i * 3, none⟩ (.int .i64 x.f0)).setCell ⟨g, i * 3 + 1, none⟩ (.int .i64 x.f1)).setCell ⟨g, i * 3 + 2, none⟩ (.bool x.f2)).heap[k]? = w5.heap[k]? := fun k hk => (Below.heap_setCell _ ⟨g, i * 3 + 2, none⟩ (.bool x.f2) k hk).trans ((Below.heap_setCell _ ⟨g, i * 3 + 1, none⟩ (.int .i64 x.f1) k hk).trans (Below.heap_setCell _ ⟨g, i * 3, none⟩ (.int .i64 x.f0) k hk))
  have hb0 := (((Below.refl 0 w5).setCell (p := ⟨g, i * 3, none⟩) (Nat.zero_le _) (.int .i64 x.f0)).setCell (p := ⟨g, i * 3 + 1, none⟩) (Nat.zero_le _) (.int .i64 x.f1)).setCell (p := ⟨g, i * 3 + 2, none⟩) (Nat.zero_le _) (.bool x.f2)
  have HX := Aside0.mk (And.intro hown (And.intro hoth hb0))
  clear hown hoth hb0
  generalize (((w5.setCell ⟨g, i * 3, none⟩ (.int .i64 x.f0)).setCell ⟨g, i * 3 + 1, none⟩ (.int .i64 x.f1)).setCell ⟨g, i * 3 + 2, none⟩ (.bool x.f2)) = w6 at HX ⊢
  go_wp2
  go_ret
  obtain ⟨hown, hoth, hb0⟩ := HX.out
  have hB5 := HB.out
  refine ⟨rfl, .slice (some ⟨g, 0, none⟩) es.length cap, ⟨?_, ?_, by rw [List.length_set]; exact HN.out⟩, ⟨hb0.os.trans hB5.os, hb0.tape.trans hB5.tape, hb0.output.trans hB5.output, Nat.le_trans hB5.size hb0.size, fun k hk h1 h2 => ?_, Or.inl rfl⟩⟩
  · exact (hoth gs hgs).trans (blk_below BS.out HB.out)
  · exact RE_of_own (by rw [List.length_set, hpi]; exact hown) (fun k hk => by cases hk; exact HOKG.out)
  · exact (hoth k (fun e => h2 (by rw [e]; rfl))).trans (hB5.block k hk)
theorem ins_fin {gs B : Nat} {u v v7 : Value} {w w5 W6 w7 : World} {es' : List S31} (HB : Below w.heap.size w w5) (W6B : Below w5.heap.size w5 W6) (hr7 : Kd.R k31 31 w7 B (fun k => k ≠ gs) v7 es') (hg7 : W6.grownBy w7 v.ownBlock) (ha7 : v7.ownBlock = v.ownBlock ∨ ∃ b, v7.ownBlock = some b ∧ W6.heap.size ≤ b) (b7 : w7.heap[gs]? = some (.cells #[u] 26 (0, 0))) (hl : es'.length ≤ 64) :
    SchV gs B (w7.setCell ⟨gs, 0, none⟩ v7) v7 es' ∧ Moved gs v v7 w (w7.setCell ⟨gs, 0, none⟩ v7) := by
  have hb0 := (Below.refl 0 w7).setCell (p := ⟨gs, 0, none⟩) (Nat.zero_le _) v7
  have hs := HB.size
  have hs2 := W6B.size
  have hs3 := hg7.size
  have hs4 := hb0.size
  have hfar : ∀ k, k ≠ gs → (w7.setCell ⟨gs, 0, none⟩ v7).heap[k]? = w7.heap[k]? := fun k hk => Below.heap_setCell _ ⟨gs, 0, none⟩ v7 k hk
  refine ⟨⟨blk_put b7 0 v7 rfl, RE_of_own (own_move (own_of_RE hr7) (fun k hk => hfar k (hr7.1 k hk))) hr7.1, hl⟩, ⟨hb0.os.trans (hg7.os.trans (W6B.os.trans HB.os)), hb0.tape.trans (hg7.tape.trans (W6B.tape.trans HB.tape)), hb0.output.trans (hg7.output.trans (W6B.output.trans HB.output)), by omega, fun k hk h1 h2 => ?_, ?_⟩⟩
  · exact (hfar k h1).trans ((hg7.block k (by omega) h2).trans ((W6B.block k (by omega)).trans (HB.block k hk)))
  · rcases ha7 with h | ⟨b, h, hle⟩
    · exact Or.inl h
    · exact Or.inr ⟨b, h, by omega⟩
set_option maxHeartbeats 8000000 in
set_option maxRecDepth 1000000 in
theorem Add.ins [Inhabited (Int → Addr)] (gs B : Nat) (es : List S31) (x : S31) (v : Value) (w : World) (hG : GlobOK w) (h : SchV gs B w v es) (hM : MonoE es x) (hV : okE x) (hF : isE x es = false) (h64 : es.length < 64) (hBs : B ≤ w.heap.size) :
    Calls Tryd.prog 7 #[.pointer (some ⟨gs, 0, none⟩), .agg #[.int .i64 x.f0, .int .i64 x.f1, .bool x.f2]] w fun e w' => e = .returned (errW none) ∧ ∃ v', SchV gs B w' v' (insE (posE x es) x es) ∧ Moved gs v v' w w' := by
  have hu1 := Tryd.underlying31
  have hu2 := Tryd.underlying26
  have HS := Aside0.mk h
  have HG := Aside0.mk hG
  have HB := Aside0.mk (Below.refl w.heap.size w)
  rw [errW_none]
  have H64 := Aside0.mk h64
  have HBS := Aside0.mk hBs
  clear h64 hBs
  have HVF := Aside0.mk (valid_t hV)
  have HF := Aside0.mk hF
  obtain ⟨A, c, hv, hlc, hC⟩ := Kd.R_reads h.row
  subst hv
  have BS := Aside0.mk h.cell
  have HC := Aside0.mk hC
  have HLC := Aside0.mk hlc
  have HN := Aside0.mk h.len
  have HMO := Aside0.mk hM
  clear h hG hV hF hC hlc hM
  go_enter Tryd.func7, Tryd.ntmps7
  go_upto_region 4 with (first
    | ((with_reducible refine gate_dst (N := 3) rfl ?_); refine box_event ?hg (N := 3) ?hd (cs := #[.int .i64 x.f0, .int .i64 x.f1, .bool x.f2]) (t := 31) ?hr ?_; (case hd => rfl); (case hg => rfl); (case hr => first | (go_simp; done) | (go_simp; rfl)); intro g3 hg_ w3 hbox hb; have HGg3 := Aside0.mk (show w.heap.size ≤ g3 from Nat.le_trans (below_size HB.out) (Nat.le_of_eq hg_.symm)); have n_ := Aside0.mk (below_step HB.out hb); clear HB; have HB := n_; clear n_; have BK3 := Aside0.mk hbox; clear hb hbox hg_; have y0 : w3.cell? ⟨g3, 0, none⟩ = some (.int .i64 x.f0) := (blk_cell BK3.out 0).trans rfl; have y1 : w3.cell? ⟨g3, 1, none⟩ = some (.int .i64 x.f1) := (blk_cell BK3.out 1).trans rfl; have y2 : w3.cell? ⟨g3, 2, none⟩ = some (.bool x.f2) := (blk_cell BK3.out 2).trans rfl; have yf0 := blk_frozen BK3.out 0; have yf1 := blk_frozen BK3.out 1; have yf2 := blk_frozen BK3.out 2)
    | (go_at_call 14; have hN := sched_Valid.calls x.f0 x.f1 x.f2 none _ (HG.out.below HB.out) HVF.out; simp only [errW_none, errW_some] at hN; (with_reducible refine hN.mono ?_); clear hN; rintro e w_ ⟨rfl, hb⟩; have n_ := Aside0.mk (below_step HB.out hb); clear HB; have HB := n_; clear n_; have n_ := Aside0.mk (blk_below BK3.out hb); clear BK3; have BK3 := n_; clear n_ hb y0 y1 y2 yf0 yf1 yf2))
  generalize hw4 : w_ = w4 at *
  have z0 := cell_far ((blk_cell (blk_below BS.out HB.out) 0).trans (show _ = some (.slice A es.length c) from rfl))
  have y0 := cell_far ((blk_cell BK3.out 0).trans (show _ = some (.int .i64 x.f0) from rfl))
  have y1 := cell_far ((blk_cell BK3.out 1).trans (show _ = some (.int .i64 x.f1) from rfl))
  have y2 := cell_far ((blk_cell BK3.out 2).trans (show _ = some (.bool x.f2) from rfl))
  have hc : ∀ p : FarW w4, Calls Tryd.prog 19 #[.slice A es.length c, .agg #[.int .i64 x.f0, .int .i64 x.f1, .bool x.f2], .func (.func 20) #[] #[]] p.W fun e w' => e = .returned (.tuple #[.int .i64 (posE x es), .bool false]) ∧ Below p.W.heap.size p.W w' := fun p => by
    have q := Bsf.calls A c es x p.W (Kd.C_below HC.out (below_step HB.out p.h)) HN.out HLC.out HMO.out
    have e : decide (posE x es < es.length ∧ ordE (rd_T31 es (posE x es : Int)) x = 0) = false := HF.out
    rw [e] at q
    exact q
  refine wp_region_far (by kernel_rfl) (by kernel_rfl) ?_
  repeat (refine wpQuiet_step (fun K hK => ?_); go_simp; first | (refine hK _ ?_; clear hK K) | (apply Exists.intro; refine ⟨fun _ => ?_, hK _ ?_⟩; (first | (go_at_call 19; refine calls_far (hc _))); clear hK K))
  refine wpQuiet_nil ?_
  intro _ hw'
  obtain ⟨pq, hw''⟩ := hw'
  subst hw''
  have n1_ := Aside0.mk (below_step HB.out pq.h)
  have n2_ := Aside0.mk (blk_below BK3.out pq.h)
  clear hc z0 y0 y1 y2 HB BK3
  have HB := n1_
  have BK3 := n2_
  clear n1_ n2_
  generalize pq.W = w5 at HB BK3 ⊢
  clear pq
  have hi := posE_le x es
  generalize hpi : posE x es = i at *
  have HPI := Aside0.mk hpi
  clear hpi
  have HI := Aside0.mk hi
  clear hi
  have s0 : w5.cell? ⟨gs, 0, none⟩ = some (.slice A es.length c) := (blk_cell (blk_below BS.out HB.out) 0).trans rfl
  have cb1 : decide ((64 : Int) ≤ (es.length : Int)) = false := decide_eq_false (by have := H64.out; omega)
  have cb2 : ((64 : Int) ≤ (es.length : Int)) = False := eq_false (by have := H64.out; omega)
  have mixed : Tryd.prog.follows .mixedOrders = true := by kernel_rfl
  go_wp2_with fail
  clear cb1 cb2
  have BS5 : w5.heap[gs]? = some (.cells #[.slice A es.length c] 26 (0, 0)) := blk_below BS.out HB.out
  have hrow := Kd.R_below HS.out.row HB.out
  have hgsl : gs < w.heap.size := blk_lt BS.out
  have hbl : ∀ k, (Value.slice A es.length c).ownBlock = some k → k < w.heap.size := fun k hk => by
    rcases (own_of_RE HS.out.row).2 with ⟨e, _⟩ | ⟨g, cap, cur, e, _, h3, _⟩
    · rw [e] at hk; cases hk
    · rw [e] at hk; cases hk; exact blk_lt h3
  have y0 : w5.cell? ⟨g3, 0, none⟩ = some (.int .i64 x.f0) := (blk_cell BK3.out 0).trans rfl
  have y1 : w5.cell? ⟨g3, 1, none⟩ = some (.int .i64 x.f1) := (blk_cell BK3.out 1).trans rfl
  have y2 : w5.cell? ⟨g3, 2, none⟩ = some (.bool x.f2) := (blk_cell BK3.out 2).trans rfl
  have W6B : Below w5.heap.size w5 (w5.drew.alloc (.cells #[.int .i64 x.f0, .int .i64 x.f1, .bool x.f2] 31)) := Below.alloc (Below.drew (Below.refl _ _)) (Nat.le_refl _) _
  have hnew : (w5.drew.alloc (.cells #[.int .i64 x.f0, .int .i64 x.f1, .bool x.f2] 31)).heap[w5.heap.size]? = some (.cells #[.int .i64 x.f0, .int .i64 x.f1, .bool x.f2] 31 (0, 0)) := blk_new w5.drew _
  have hsz5 := HB.out.size
  have hIns := Insert.calls B (fun k => k ≠ gs) (.slice A es.length c) es i x w5.heap.size (w5.drew.alloc (.cells #[.int .i64 x.f0, .int .i64 x.f1, .bool x.f2] 31)) (Kd.R_below hrow W6B) HI.out HN.out hnew (fun e => by have := hbl _ e; omega) (fun k hk => by have := W6B.size; omega) (by have := W6B.size; have := HBS.out; omega)
  have hgne : some gs ≠ (Value.slice A es.length c).ownBlock := fun e => hrow.1 gs e.symm rfl
  have B6 : (w5.drew.alloc (.cells #[.int .i64 x.f0, .int .i64 x.f1, .bool x.f2] 31)).heap[gs]? = some (.cells #[.slice A es.length c] 26 (0, 0)) := blk_below BS5 W6B
  have K1 := Aside0.mk (And.intro hIns (And.intro hgne (And.intro B6 (And.intro hbl (And.intro hsz5 (And.intro W6B hgsl))))))
  have hf6 := blk_frozen B6 0
  have hc6 : (w5.drew.alloc (.cells #[.int .i64 x.f0, .int .i64 x.f1, .bool x.f2] 31)).cell? ⟨gs, 0, none⟩ = some (.slice A es.length c) := (blk_cell B6 0).trans rfl
  have hc7 : (w5.alloc (.cells #[.int .i64 x.f0, .int .i64 x.f1, .bool x.f2] 31)).cell? ⟨gs, 0, none⟩ = some (.slice A es.length c) := hc6
  clear W6B hnew hsz5 hIns hgne B6 hrow hgsl hbl BS5 hf6
  go_region_law_o (refine goes_ Tryd.func21 (by kernel_rfl) rfl #[.slice A es.length c, .int .i64 i, .slice (some ⟨w5.heap.size, 0, none⟩) 1 1] (by rfl) rfl rfl (by (try simp only [List.map_toArray, List.map_cons, List.map_nil]); first | done | rfl) ?_; refine K1.out.1.mono ?_; rintro e w7 ⟨v7, rfl, hr7, hg7, ha7⟩; obtain ⟨A7, c7, e7⟩ := Kd.R_slice hr7; subst e7; refine ⟨_, rfl, ?_⟩; have b7 := blk_grown K1.out.2.2.1 hg7 K1.out.2.1; have s7 : w7.cell? ⟨gs, 0, none⟩ = some (.slice A es.length c) := (blk_cell b7 0).trans rfl; have f7 := blk_frozen b7 0; have K7 := Aside0.mk (And.intro hr7 (And.intro hg7 (And.intro ha7 b7))); clear hr7 hg7 ha7 b7)
  all_goals (go_wp2; go_ret; have hpi := HPI.out; subst hpi; exact ⟨rfl, _, ins_fin HB.out K1.out.2.2.2.2.2.1 K7.out.1 K7.out.2.1 K7.out.2.2.1 K7.out.2.2.2 (by rw [insE_len _ _ _ HI.out]; exact H64.out)⟩)
theorem Add.calls [Inhabited (Int → Addr)] (gs B : Nat) (es : List S31) (x : S31) (v : Value) (w : World) (hG : GlobOK w) (h : SchV gs B w v es) (hM : MonoE es x) (hBs : B ≤ w.heap.size) (es' : List S31) (r : Option Int) (he : addE es x = (es', r)) :
    Calls Tryd.prog 7 #[.pointer (some ⟨gs, 0, none⟩), .agg #[.int .i64 x.f0, .int .i64 x.f1, .bool x.f2]] w fun e w' => e = .returned (errW r) ∧ ∃ v', SchV gs B w' v' es' ∧ Moved gs v v' w w' := by
  unfold addE at he
  by_cases hV : okE x
  · rw [if_pos hV] at he
    cases hF : isE x es with
    | true =>
      rw [hF, if_pos rfl] at he
      injection he with e1 e2
      subst e1
      subst e2
      exact Add.set gs B es x v w hG h hM hV hF
    | false =>
      rw [hF, if_neg (by simp)] at he
      by_cases h64 : 64 ≤ es.length
      · rw [if_pos h64] at he
        injection he with e1 e2
        subst e1
        subst e2
        exact Add.many gs B es x v w hG h hM hV hF h64
      · rw [if_neg h64] at he
        injection he with e1 e2
        subst e1
        subst e2
        exact Add.ins gs B es x v w hG h hM hV hF (by omega) hBs
  · rw [if_neg hV] at he
    injection he with e1 e2
    subst e1
    subst e2
    exact Add.bad gs B es x v w hG h hV
theorem SchV.own {gs B : Nat} {W : World} {v : Value} {es : List S31} (h : SchV gs B W v es) : ∀ k, v.ownBlock = some k → B ≤ k := fun k hk => by
  rcases (own_of_RE h.row).2 with ⟨e, _⟩ | ⟨g, cap, cur, e, h2, _⟩
  · rw [e] at hk; cases hk
  · rw [e] at hk; cases hk; exact h2
theorem Moved.below {gs B : Nat} {v v' : Value} {w w1 w2 : World} (h : Moved gs v v' w1 w2) (hb : Below B w w1) (hB : B ≤ gs) (ho : ∀ k, v.ownBlock = some k → B ≤ k) (hs : B ≤ w1.heap.size) : Below B w w2 :=
  ⟨h.os.trans hb.os, h.tape.trans hb.tape, h.output.trans hb.output, Nat.le_trans hb.size h.size, fun k hk => (h.block k (by omega) (by omega) (fun e => by have := ho k e.symm; omega)).trans (hb.block k hk)⟩
set_option maxHeartbeats 4000000 in
set_option maxRecDepth 100000 in
theorem CloneE.calls [Inhabited (Int → Addr)] (A0 : Option Addr) (c0 : Nat) (l0 : List S31) (w : World) (hr0 : Kd.C k31 w A0 l0.length l0) (hl : l0.length ≤ 64) :
    Calls Tryd.prog 24 #[.slice A0 l0.length c0] w fun e w' => ∃ v0_ : Value, e = .returned (v0_) ∧ Kd.R k31 31 w' w.heap.size (fun _ => True) v0_ l0 ∧ Below w.heap.size w w' := by
  have hu := Tryd.underlying24
  have hn0 : ∀ (n c : Nat) (W : World), (Go.binOp BinOp.eql 24 (.slice none n c) (.slice none 0 0)).run Tryd.prog W = .ok (.bool true) W := fun _ _ _ => by rfl
  have hn1 : ∀ (ad : Addr) (n c : Nat) (W : World), (Go.binOp BinOp.eql 24 (.slice (some ad) n c) (.slice none 0 0)).run Tryd.prog W = .ok (.bool false) W := fun _ _ _ _ => by rfl
  have HR := Aside0.mk hr0
  have HL := Aside0.mk hl
  have hlen := hr0.2.1
  cases A0 with
  | none =>
    have hnil : l0 = [] := by
      obtain ⟨h1, h2, h3⟩ := hr0
      apply List.eq_nil_of_length_eq_zero
      apply Decidable.byContradiction; intro hx
      obtain ⟨ad, h, _⟩ := h3 (by omega)
      cases h
    subst hnil
    clear hr0 HR hlen hl
    go_enter Tryd.func24, Tryd.ntmps24
    go_wp2
    go_ret
    exact ⟨_, rfl, Kd.R_nil _ _ _ _ _, Below.refl _ _⟩
  | some ad =>
    clear hr0 hl hlen
    go_enter Tryd.func24, Tryd.ntmps24
    go_wp2_with (first
      | ((with_reducible refine gate_dst (N := 5) rfl ?_); refine Kd.R_lit k31 (w0 := w) w.heap.size 31 ?hg (N := 5) ?hd (xs := ([] : List S31)) (inner := []) (ok := fun _ => True) (okp := fun _ => False) ?hr ?hp (fun _ h => h.elim) trivial (Below.refl _ _) (Nat.le_refl _) (by simp) ?_; (case hd => rfl); (case hg => rfl); (case hr => first | (go_simp; done) | (go_simp; rfl)); (case hp => exact Reps.none _ _); intro v1 w1 ho hb hg hat; have HO := Aside0.mk ho; have HB := Aside0.mk hb; clear ho hb hg hat)
      | ((with_reducible refine gate_builtin (b := .append) (xs := #[.tmp 5, .tmp 6]) rfl ?_); at_builtin; refine Kd.R_append_rows k31 (Rr := k31.K w1) (w0 := w) w.heap.size rfl (.tmp 5) (.tmp 6) 24 31 (.agg #[.int .i64 0, .int .i64 0, .bool false]) 24 rfl Tryd.underlying24 infoS rfl (by decide) (by omega) v1 [] l0 _ _ _ (fun _ => True) (fun _ => False) rfl rfl ?aO ?aR (fun y cs h => by have e := k31_open h; subst e; exact k31_mkM _ _ _ y) (fun _ h => h.elim) ?aF ?aB ?aS ?aL ?_; (case aO => exact HO.out); (case aR => exact Kd.C_below HR.out HB.out); (case aF => exact fun _ _ => trivial); (case aB => exact HB.out); (case aS => exact below_size HB.out); (case aL => have := HL.out; simp; omega); intro v2 w2 ho hb hg hat; have HO2 := Aside0.mk ho; have HB2 := Aside0.mk hb; clear ho hb hg hat))
    go_ret
    exact ⟨_, rfl, HO2.out, HB2.out⟩
set_option maxHeartbeats 4000000 in
set_option maxRecDepth 100000 in
theorem All.calls [Inhabited (Int → Addr)] (gs B : Nat) (es : List S31) (v : Value) (w : World) (h : SchV gs B w v es) :
    Calls Tryd.prog 12 #[.pointer (some ⟨gs, 0, none⟩)] w fun e w' => ∃ v0_ : Value, e = .returned (v0_) ∧ Kd.R k31 31 w' w.heap.size (fun _ => True) v0_ es ∧ Below w.heap.size w w' := by
  have hu2 := Tryd.underlying26
  obtain ⟨A, c, rfl, hlc, hC⟩ := Kd.R_reads h.row
  have BS_ := Aside0.mk h.cell
  have HC := Aside0.mk hC
  have HN := Aside0.mk h.len
  have s0 : w.cell? ⟨gs, 0, none⟩ = some (.slice A es.length c) := (blk_cell BS_.out 0).trans rfl
  clear h hlc hC
  go_enter Tryd.func12, Tryd.ntmps12
  go_wp2_with (go_at_call 24; have hN := CloneE.calls A c es _ HC.out HN.out; (with_reducible refine hN.mono ?_); clear hN; rintro e w_ ⟨v1, rfl, hr, hb⟩; have HR := Aside0.mk hr; have HB := Aside0.mk hb; clear hr hb s0)
  go_ret
  exact ⟨_, rfl, HR.out, HB.out⟩
/-! ### the chapter's examples -/
def e321 : S31 := ⟨3, 2, true⟩
theorem add_first : addE [] e321 = ([e321], none) := by
  have h1 : okE e321 := ⟨⟨by decide, by decide⟩, ⟨by decide, by decide⟩⟩
  have h2 : isE e321 [] = false := by simp [isE]
  unfold addE
  rw [if_pos h1, h2, if_neg (by simp), if_neg (by simp)]
  rfl
theorem mono_nil (x : S31) : MonoE [] x := fun a b _ hb => absurd hb (by simp)
theorem add_first_calls [Inhabited (Int → Addr)] (gs B : Nat) (v : Value) (w : World) (hG : GlobOK w) (h : SchV gs B w v []) (hBs : B ≤ w.heap.size) :
    Calls Tryd.prog 7 #[.pointer (some ⟨gs, 0, none⟩), .agg #[.int .i64 3, .int .i64 2, .bool true]] w fun e w' => e = .returned .nilIface ∧ ∃ v', SchV gs B w' v' [e321] ∧ Moved gs v v' w w' :=
  Add.calls gs B [] e321 v w hG h (mono_nil _) hBs _ _ add_first
theorem on_1 : onF 2 5 [] false = false := rfl
theorem on_2 : onF 2 3 [e321] false = true := rfl
theorem on_3 : onF 2 2 [e321] false = false := rfl
def pledgelaw11_first.f : Option Bool := some true
set_option maxHeartbeats 4000000 in
set_option maxRecDepth 100000 in
theorem pledgelaw11_first.calls [Inhabited (Int → Addr)] (r : Bool) (w : World) (hG : GlobOK w) (h : pledgelaw11_first.f = some r) :
    Calls Tryd.prog 6 #[] w fun e w' => e = .returned (.bool r) ∧ Below w.heap.size w w' := by
  obtain rfl := Option.some.inj h
  have hu1 := Tryd.underlying31
  have hu2 := Tryd.underlying26
  have HG := Aside0.mk hG
  have HB := Aside0.mk (Below.refl w.heap.size w)
  have HW0 := Aside0.mk (Nat.le_refl w.heap.size)
  clear h hG
  go_enter Tryd.func6, Tryd.ntmps6
  go_wp2_with (first
    | ((with_reducible refine gate_dst (N := 1) rfl ?_); refine box_event ?hg (N := 1) ?hd (cs := #[.slice none 0 0]) (t := 26) ?hr ?_; (case hd => rfl); (case hg => rfl); (case hr => first | (go_simp; done) | (go_simp; rfl)); intro gs hg_ w1 hbox hb; have HGgs := Aside0.mk (show w.heap.size ≤ gs from Nat.le_trans (below_size HB.out) (Nat.le_of_eq hg_.symm)); have n_ := Aside0.mk (below_step HB.out hb); clear HB; have HB := n_; clear n_; have BK := Aside0.mk hbox; clear hb hbox hg_; have y0 : w1.cell? ⟨gs, 0, none⟩ = some (.slice none 0 0) := (blk_cell BK.out 0).trans rfl; have yf0 := blk_frozen BK.out 0; have HS := Aside0.mk (show SchV gs w.heap.size w1 (.slice none 0 0) [] from ⟨BK.out, Kd.R_nil _ _ _ _ _, by simp⟩); clear BK y0 yf0)
    | (go_at_call 10; have hN := On.calls gs w.heap.size [] 2 5 _ _ HS.out; rw [on_1] at hN; (with_reducible refine hN.mono ?_); clear hN; rintro e w_ ⟨rfl, hb⟩; have n_ := Aside0.mk (below_step HB.out hb); have n2_ := Aside0.mk (HS.out.below hb); clear HB HS; have HB := n_; have HS := n2_; clear n_ n2_ hb)
    | (go_at_call 7; have hN := add_first_calls gs w.heap.size _ _ (HG.out.below HB.out) HS.out (below_size HB.out); (with_reducible refine hN.mono ?_); clear hN; rintro e w_ ⟨rfl, v7, hs7, hm7⟩; have n_ := Aside0.mk (hm7.below HB.out HGgs.out HS.out.own (below_size HB.out)); have n2_ := Aside0.mk hs7; clear HB HS; have HB := n_; have HS1 := n2_; clear n_ n2_ hs7 hm7)
    | (go_at_call 10; have hN := On.calls gs w.heap.size [e321] 2 3 _ _ HS1.out; rw [on_2] at hN; (with_reducible refine hN.mono ?_); clear hN; rintro e w_ ⟨rfl, hb⟩; have n_ := Aside0.mk (below_step HB.out hb); have n2_ := Aside0.mk (HS1.out.below hb); clear HB HS1; have HB := n_; have HS1 := n2_; clear n_ n2_ hb)
    | (go_at_call 10; have hN := On.calls gs w.heap.size [e321] 2 2 _ _ HS1.out; rw [on_3] at hN; (with_reducible refine hN.mono ?_); clear hN; rintro e w_ ⟨rfl, hb⟩; have n_ := Aside0.mk (below_step HB.out hb); have n2_ := Aside0.mk (HS1.out.below hb); clear HB HS1; have HB := n_; have HS1 := n2_; clear n_ n2_ hb))
  go_ret
  exact ⟨rfl, HB.out⟩
/-! ### The entries stand in order -/
def ltE (x y : S31) : Prop := x.f0 < y.f0 ∨ (x.f0 = y.f0 ∧ x.f1 < y.f1)
theorem ord_lt (x y : S31) : ordE x y < 0 ↔ ltE x y := by
  unfold ordE ltE
  by_cases h1 : x.f0 < y.f0
  · rw [if_pos h1]; omega
  rw [if_neg h1]
  by_cases h2 : y.f0 < x.f0
  · rw [if_pos h2]; omega
  rw [if_neg h2]
  by_cases h3 : x.f1 < y.f1
  · rw [if_pos h3]; omega
  rw [if_neg h3]
  by_cases h4 : y.f1 < x.f1
  · rw [if_pos h4]; omega
  · rw [if_neg h4]; omega
theorem ord_eq (x y : S31) : ordE x y = 0 ↔ (x.f0 = y.f0 ∧ x.f1 = y.f1) := by
  unfold ordE
  by_cases h1 : x.f0 < y.f0
  · rw [if_pos h1]; omega
  rw [if_neg h1]
  by_cases h2 : y.f0 < x.f0
  · rw [if_pos h2]; omega
  rw [if_neg h2]
  by_cases h3 : x.f1 < y.f1
  · rw [if_pos h3]; omega
  rw [if_neg h3]
  by_cases h4 : y.f1 < x.f1
  · rw [if_pos h4]; omega
  · rw [if_neg h4]; omega
def SrtE (es : List S31) : Prop := es.Pairwise ltE
theorem rdE (es : List S31) (i : Nat) (h : i < es.length) : rd_T31 es (i : Int) = es[i] := by
  unfold rd_T31
  rw [Int.toNat_natCast, List.getD_eq_getElem?_getD, List.getElem?_eq_getElem h]; rfl
theorem lt_trans (x y z : S31) (h1 : ltE x y) (h2 : ltE y z) : ltE x z := by unfold ltE at *; omega
theorem mono_srt {es : List S31} (h : SrtE es) (x : S31) : MonoE es x := by
  intro a b hab hb hlt
  rw [ord_lt] at *
  rcases Nat.lt_or_eq_of_le hab with c | rfl
  · rw [rdE es a (by omega)]
    rw [rdE es b hb] at hlt
    exact lt_trans _ _ _ (List.pairwise_iff_getElem.1 h a b (by omega) hb c) hlt
  · exact hlt
theorem posE_ahead (x : S31) : ∀ (es : List S31) (a : Nat), a < posE x es → ltE (rd_T31 es (a : Int)) x
  | [], a, h => absurd h (by simp [posE])
  | y :: l, a, h => by
    simp only [posE] at h
    by_cases c : ordE y x < 0
    · rw [if_pos c] at h
      rcases a with _ | a
      · exact (ord_lt _ _).1 c
      · have e : rd_T31 (y :: l) ((a + 1 : Nat) : Int) = rd_T31 l (a : Int) := by unfold rd_T31; rw [Int.toNat_natCast, Int.toNat_natCast]; rfl
        rw [e]
        exact posE_ahead x l a (by omega)
    · rw [if_neg c] at h; omega
theorem posE_at (x : S31) : ∀ (es : List S31), posE x es < es.length → ¬ ltE (rd_T31 es (posE x es : Int)) x
  | [], h => absurd h (by simp [posE])
  | y :: l, h => by
    simp only [posE] at h ⊢
    by_cases c : ordE y x < 0
    · rw [if_pos c] at h ⊢
      have e : rd_T31 (y :: l) ((posE x l + 1 : Nat) : Int) = rd_T31 l (posE x l : Int) := by unfold rd_T31; rw [Int.toNat_natCast, Int.toNat_natCast]; rfl
      rw [e]
      exact posE_at x l (by simpa using h)
    · rw [if_neg c]
      exact fun q => c ((ord_lt _ _).2 q)
theorem srt_add {es : List S31} (h : SrtE es) (x : S31) : SrtE (addE es x).1 := by
  unfold addE
  by_cases hV : okE x
  rotate_left
  · rw [if_neg hV]; exact h
  rw [if_pos hV]
  have hp := List.pairwise_iff_getElem.1 h
  cases hF : isE x es with
  | true =>
    rw [if_pos rfl]
    obtain ⟨h1, h2⟩ := of_decide_eq_true hF
    rw [rdE es _ h1, ord_eq] at h2
    refine List.pairwise_iff_getElem.2 fun i j hi hj hij => ?_
    simp only [List.length_set] at hi hj
    have hb := hp i j hi hj hij
    rw [List.getElem_set, List.getElem_set]
    have key : ∀ k (hk : k < es.length), posE x es = k → es[k].f0 = x.f0 ∧ es[k].f1 = x.f1 := fun k hk e => by subst e; exact h2
    by_cases c1 : posE x es = i
    · have k1 := key i hi c1
      rw [if_pos c1, if_neg (by omega)]
      unfold ltE at *
      omega
    · rw [if_neg c1]
      by_cases c2 : posE x es = j
      · have k1 := key j hj c2
        rw [if_pos c2]
        unfold ltE at *
        omega
      · rw [if_neg c2]; exact hb
  | false =>
    rw [if_neg (by simp)]
    by_cases h64 : 64 ≤ es.length
    · rw [if_pos h64]; exact h
    rw [if_neg h64]
    have hle := posE_le x es
    have hgt : ∀ j (hj : j < es.length), posE x es ≤ j → ltE x es[j] := fun j hj hle2 => by
      have hi : posE x es < es.length := by omega
      have q1 := posE_at x es hi
      have q2 : ¬ (ordE (rd_T31 es (posE x es : Int)) x = 0) := fun e => by
        have : isE x es = true := decide_eq_true ⟨hi, e⟩
        rw [this] at hF; exact absurd hF (by simp)
      rw [rdE es _ hi] at q1 q2
      rw [ord_eq] at q2
      have q3 : ltE x es[posE x es] := by unfold ltE at *; omega
      rcases Nat.lt_or_eq_of_le hle2 with c | c
      · exact lt_trans _ _ _ q3 (hp _ _ hi hj c)
      · have e : es[posE x es] = es[j] := by congr 1
        rw [← e]; exact q3
    show SrtE (insE _ _ _)
    unfold insE SrtE
    rw [List.pairwise_append, List.pairwise_cons]
    refine ⟨List.Pairwise.sublist (List.take_sublist _ _) h, ⟨fun y hy => ?_, List.Pairwise.sublist (List.drop_sublist _ _) h⟩, fun y hy z hz => ?_⟩
    · obtain ⟨j, hj, rfl⟩ := List.getElem_of_mem hy
      rw [List.length_drop] at hj
      rw [List.getElem_drop]
      exact hgt _ _ (by omega)
    · obtain ⟨j, hj, rfl⟩ := List.getElem_of_mem hy
      rw [List.length_take] at hj
      have hjl : j < posE x es := by omega
      rw [List.getElem_take]
      have q1 := posE_ahead x es j hjl
      rw [rdE es j (by omega)] at q1
      rcases List.mem_cons.1 hz with rfl | hz
      · exact q1
      · obtain ⟨k, hk, rfl⟩ := List.getElem_of_mem hz
        rw [List.length_drop] at hk
        rw [List.getElem_drop]
        exact lt_trans _ _ _ q1 (hgt _ _ (by omega))
theorem add_len (es : List S31) (x : S31) (h : es.length ≤ 64) : (addE es x).1.length ≤ 64 := by
  have hle := posE_le x es
  unfold addE
  split
  · split
    · rw [List.length_set]; exact h
    · split
      · exact h
      · rw [insE_len _ _ _ hle]; omega
  · exact h
/-- .. its three parts apart. -/
theorem Add.calls3 [Inhabited (Int → Addr)] (gs B : Nat) (es : List S31) (a b : Int) (o : Bool) (v : Value) (w : World) (hG : GlobOK w) (h : SchV gs B w v es) (hM : SrtE es) (hBs : B ≤ w.heap.size) :
    Calls Tryd.prog 7 #[.pointer (some ⟨gs, 0, none⟩), .agg #[.int .i64 a, .int .i64 b, .bool o]] w fun e w' => e = .returned (errW (addE es ⟨a, b, o⟩).2) ∧ ∃ v', SchV gs B w' v' (addE es ⟨a, b, o⟩).1 ∧ Moved gs v v' w w' :=
  Add.calls gs B es ⟨a, b, o⟩ v w hG h (mono_srt hM _) hBs _ _ rfl
/-! ### The law -/
def runE (f : Nat → S31) : Nat → List S31
  | 0 => []
  | i + 1 => (addE (runE f i) (f i)).1
theorem runE_succ (f : Nat → S31) (i : Nat) : runE f (i + 1) = (addE (runE f i) (f i)).1 := by rw [runE]
theorem run_srt (f : Nat → S31) (i : Nat) : SrtE (runE f i) := by
  induction i with
  | zero => exact List.Pairwise.nil
  | succ i ih => rw [runE_succ]; exact srt_add ih _
theorem have_step {gs B : Nat} {v v' u : Value} {w2 w3 : World} {es : List S31} (hu : Kd.R k31 31 w2 B (fun k => k ≠ gs ∧ some k ≠ v.ownBlock) u es) (hm : Moved gs v v' w2 w3) : Kd.R k31 31 w3 B (fun k => k ≠ gs ∧ some k ≠ v'.ownBlock) u es := by
  have hlt : ∀ k, u.ownBlock = some k → k < w2.heap.size := fun k hk => by
    rcases (own_of_RE hu).2 with ⟨e, _⟩ | ⟨g, cap, cur, e, _, h3, _⟩
    · rw [e] at hk; cases hk
    · rw [e] at hk; cases hk; exact blk_lt h3
  refine RE_of_own (own_move (own_of_RE hu) (fun k hk => hm.block k (hlt k hk) (hu.1 k hk).1 (hu.1 k hk).2)) (fun k hk => ⟨(hu.1 k hk).1, fun e => ?_⟩)
  rcases hm.at_ with h | ⟨b, h, hle⟩
  · rw [h] at e; exact (hu.1 k hk).2 e
  · rw [h] at e
    have := hlt k hk
    have := Option.some.inj e
    omega
theorem sch_kept {gs B : Nat} {v : Value} {w w1 : World} {es : List S31} (h : SchV gs B w v es) (hk : Kept w w1 (fun k => k ≠ gs ∧ some k ≠ v.ownBlock)) : SchV gs B w1 v es := by
  refine ⟨(hk.2 gs (blk_lt h.cell) (fun z => z.1 rfl)).trans h.cell, RE_of_own (own_move (own_of_RE h.row) (fun k hk2 => ?_)) h.row.1, h.len⟩
  have hlt : k < w.heap.size := by
    rcases (own_of_RE h.row).2 with ⟨e, _⟩ | ⟨g, cap, cur, e, _, h3, _⟩
    · rw [e] at hk2; cases hk2
    · rw [e] at hk2; cases hk2; exact blk_lt h3
  exact hk.2 k hlt (fun z => z.2 hk2.symm)
theorem have_after {gs B : Nat} {v v1 : Value} {w w1 : World} {es es' : List S31} (h : SchV gs B w v es) (hr : Kd.R k31 31 w1 B (fun k => ((k ≠ gs ∧ some k ≠ v.ownBlock) ∨ w.heap.size ≤ k)) v1 es') : Kd.R k31 31 w1 B (fun k => k ≠ gs ∧ some k ≠ v.ownBlock) v1 es' := by
  refine Kd.R_mono hr (fun k hk => ?_)
  rcases hk with hk | hk
  · exact hk
  · refine ⟨fun e => by have := blk_lt h.cell; omega, fun e => ?_⟩
    rcases (own_of_RE h.row).2 with ⟨e2, _⟩ | ⟨g, cap, cur, e2, _, h3, _⟩
    · rw [e2] at e; cases e
    · rw [e2] at e
      have := blk_lt h3
      have := Option.some.inj e
      simp only [] at this
      omega
theorem at31 {w : World} {ad : Addr} {m i : Nat} {l : List S31} {x : S31} (h : Kd.C k31 w (some ad) m l) (hx : x = rd_T31 l (i : Int)) (hi : i < m) : w.cell? (ad.add (i * 3)) = some (.int .i64 x.f0) ∧ w.cell? ⟨(ad.add (i * 3)).block, (ad.add (i * 3)).off + 1, none⟩ = some (.int .i64 x.f1) ∧ w.cell? ⟨(ad.add (i * 3)).block, (ad.add (i * 3)).off + 2, none⟩ = some (.bool x.f2) := by
  obtain ⟨ad', e, h0, h1, h2⟩ := at_T31 h (i : Int) (by omega) (by omega)
  obtain rfl := Option.some.inj e
  rw [Int.toNat_natCast] at h0 h1 h2
  subst hx
  exact ⟨h0, h1, h2⟩
def playE (l : List S31) (i : Nat) : List S31 := runE (fun j => rd_T31 l (j : Int)) i
theorem playE_succ (l : List S31) (i : Nat) : playE l (i + 1) = (addE (playE l i) (rd_T31 l (i : Int))).1 := runE_succ _ _
theorem play_srt (l : List S31) (i : Nat) : SrtE (playE l i) := run_srt _ _
def playOK (k : Nat) (l : List S31) (cl td : Int) : Prop :=
  (∀ i : Nat, i < l.length → ∃ ve vc rc, sched_Valid.f (rd_T31 l (i : Int)).f0 (rd_T31 l (i : Int)).f1 (rd_T31 l (i : Int)).f2 = some ve ∧ pledgeref10_ValidEntry.f (rd_T31 l (i : Int)).f0 (rd_T31 l (i : Int)).f1 (rd_T31 l (i : Int)).f2 = some vc ∧ pledgesee_Is.f ve vc = some true ∧
    pledgeref10_AddEntry.f k (playE l i) (rd_T31 l (i : Int)).f0 (rd_T31 l (i : Int)).f1 (rd_T31 l (i : Int)).f2 = some (playE l (i + 1), rc) ∧ pledgesee_Is.f (addE (playE l i) (rd_T31 l (i : Int))).2 rc = some true) ∧
  pledgeref10_Next.f k (playE l l.length) cl td = some (nextF cl td (onF cl td (playE l l.length) false) (playE l l.length)) ∧ pledgeref10_On.f k (playE l l.length) cl td = some (onF cl td (playE l l.length) false) ∧ pledgeref_SameEntrys.f k (playE l l.length) (playE l l.length) = some true
open Classical in
noncomputable def pledgelaw11_SchedPlays.f (k : Nat) (l : List S31) (cl td : Int) : Option Bool := if 90 < l.length then some true else if playOK k l cl td then some true else none
set_option maxHeartbeats 16000000 in
set_option maxRecDepth 1000000 in
theorem pledgelaw11_SchedPlays.calls [Inhabited (Int → Addr)] (k : Nat) (A0 : Option Addr) (c0 : Nat) (l : List S31) (cl td : Int) (r : Bool) (w : World) (hG : GlobOK w) (hr0 : Kd.C k31 w A0 l.length l) (hc0 : l.length ≤ c0) (h : pledgelaw11_SchedPlays.f k l cl td = some r) :
    Calls Tryd.prog 5 #[.slice A0 l.length c0, .int .i64 cl, .int .i64 td] w fun e w' => e = .returned (.bool r) ∧ Below w.heap.size w w' := by
  have hu1 := Tryd.underlying31
  have hu2 := Tryd.underlying26
  have HG := Aside0.mk hG
  have HM := Aside0.mk hr0
  have HMC := Aside0.mk hc0
  have HB := Aside0.mk (Below.refl w.heap.size w)
  clear hG hr0 hc0
  unfold pledgelaw11_SchedPlays.f at h
  by_cases h90 : 90 < l.length
  · rw [if_pos h90] at h
    obtain rfl := Option.some.inj h
    have cb1 : decide ((90 : Int) < (l.length : Int)) = true := decide_eq_true (by omega)
    have cb2 : ((90 : Int) < (l.length : Int)) = True := eq_true (by omega)
    clear h h90
    go_enter Tryd.func5, Tryd.ntmps5
    go_wp2_with (go_at_call 6; have hN := pledgelaw11_first.calls true _ (HG.out.below HB.out) rfl; (with_reducible refine hN.mono ?_); clear hN; rintro e w_ ⟨rfl, hb⟩; have n_ := Aside0.mk (below_step HB.out hb); clear HB; have HB := n_; clear n_ hb)
    go_ret
    exact ⟨rfl, HB.out⟩
  rw [if_neg h90] at h
  have cb1 : decide ((90 : Int) < (l.length : Int)) = false := decide_eq_false (by omega)
  have cb2 : ((90 : Int) < (l.length : Int)) = False := eq_false (by omega)
  by_cases hok : playOK k l cl td
  rotate_left
  · rw [if_neg hok] at h; exact absurd h (by simp)
  rw [if_pos hok] at h
  obtain rfl := Option.some.inj h
  have HOK := Aside0.mk hok
  have HN := Aside0.mk (show l.length ≤ 90 by omega)
  clear h h90 hok
  go_enter Tryd.func5, Tryd.ntmps5
  go_wp2_with (first
    | (go_at_call 6; have hN := pledgelaw11_first.calls true _ (HG.out.below HB.out) rfl; (with_reducible refine hN.mono ?_); clear hN; rintro e w_ ⟨rfl, hb⟩; have n_ := Aside0.mk (below_step HB.out hb); clear HB; have HB := n_; clear n_ hb)
    | ((with_reducible refine gate_dst (N := 8) rfl ?_); refine box_event ?hg (N := 8) ?hd (cs := #[.slice none 0 0]) (t := 26) ?hr ?_; (case hd => rfl); (case hg => rfl); (case hr => first | (go_simp; done) | (go_simp; rfl)); intro gs hg_ w1 hbox hb; have HGgs := Aside0.mk (show w.heap.size ≤ gs from Nat.le_trans (below_size HB.out) (Nat.le_of_eq hg_.symm)); have n_ := Aside0.mk (below_step HB.out hb); clear HB; have HB := n_; clear n_; have BK := Aside0.mk hbox; clear hb hbox hg_; have y0 : w1.cell? ⟨gs, 0, none⟩ = some (.slice none 0 0) := (blk_cell BK.out 0).trans rfl; have yf0 := blk_frozen BK.out 0; have HS := Aside0.mk (show SchV gs w.heap.size w1 (.slice none 0 0) [] from ⟨BK.out, Kd.R_nil _ _ _ _ _, by simp⟩); clear BK y0 yf0))
  clear cb1 cb2
  go_loopg [9, 10] l.length (fun gq v9 v10 wr => ∃ (i : Nat) (v : Value), v10 = .int .i64 i ∧ Aside0 (i ≤ l.length) ∧ Aside0 (l.length ≤ gq + i) ∧ Aside0 (Below w.heap.size w wr) ∧ Aside0 (SchV gs w.heap.size wr v (playE l i)) ∧ Aside0 (Kd.R k31 31 wr w.heap.size (fun k => k ≠ gs ∧ some k ≠ v.ownBlock) v9 (playE l i)))
  case atStart => exact ⟨0, _, rfl, ⟨by omega⟩, ⟨by omega⟩, HB, HS, ⟨Kd.R_nil _ _ _ _ _⟩⟩
  case round =>
    clear HB HS
    obtain ⟨i, v, rfl, HI, HKI, HB, HS, HU⟩ := hrel
    by_cases hlt : i < l.length
    · have cb1 : decide ((i : Int) < (l.length : Int)) = true := decide_eq_true (by omega)
      have cb2 : ((i : Int) < (l.length : Int)) = True := eq_true (by omega)
      have cb3 : (i < l.length) = True := eq_true hlt
      have HLI := Aside0.mk hlt
      obtain ⟨ve, vc, rc, e1, e2, e3, e4, e6⟩ := HOK.out.1 i hlt
      obtain ⟨ad, eA, hx0, hx1, hx2⟩ := at_T31 (Kd.C_below HM.out HB.out) (i : Int) (by omega) (by omega)
      subst eA
      rw [Int.toNat_natCast] at hx0 hx1 hx2
      have hpe := playE_succ l i
      obtain ⟨x, hx⟩ : ∃ x, x = rd_T31 l (i : Int) := ⟨_, rfl⟩
      rw [← hx] at e1 e2 e4 e6 hx0 hx1 hx2 hpe
      have HSR := Aside0.mk (play_srt l i)
      rw [hpe] at e4
      have HPE := Aside0.mk hpe
      generalize playE l i = es at HS HU e4 e6 HPE HSR
      obtain ⟨⟨es', re⟩, hp⟩ : ∃ p, p = addE es x := ⟨_, rfl⟩
      rw [← hp] at e4 e6
      have HPE2 : Aside0 (playE l (i + 1) = es') := ⟨by rw [HPE.out, ← hp]⟩
      have E1 := Aside0.mk e1
      have E2 := Aside0.mk e2
      have E3 := Aside0.mk e3
      have E4 := Aside0.mk (show pledgeref10_AddEntry.f k es x.f0 x.f1 x.f2 = some (es', rc) from e4)
      have E5 := Aside0.mk hp.symm
      have E6 := Aside0.mk (show pledgesee_Is.f re rc = some true from e6)
      have HX := Aside0.mk hx
      have HW : Aside0 (wrap64 ((i : Int) + 1) = ((i + 1 : Nat) : Int)) := ⟨by have := HN.out; rw [wrap64]; omega⟩
      clear hlt e1 e2 e3 e4 e6 hp hpe hx HPE
      go_upto_region 12 with (go_at_call 13; have hN := pledgeref10_AddEntry.calls k (fun k => k ≠ gs ∧ some k ≠ v.ownBlock) _ es x.f0 x.f1 x.f2 es' rc w _ HB.out HU.out E4.out; (with_reducible refine hN.mono ?_); clear hN; rintro e w5 ⟨v1, rfl, hr, hb, hk⟩; have n1_ := Aside0.mk hb; have n2_ := Aside0.mk (sch_kept HS.out hk); have n3_ := Aside0.mk (have_after HS.out hr); clear HB HS HU hr hb hk; have HB := n1_; have HS := n2_; have HU := n3_; clear n1_ n2_ n3_)
      refine start_ (n := 22) (S := fun w' => w'.cell? (ad.add (i * 3)) = some (.int .i64 x.f0) ∧ w'.cell? ⟨(ad.add (i * 3)).block, (ad.add (i * 3)).off + 1, none⟩ = some (.int .i64 x.f1) ∧ w'.cell? ⟨(ad.add (i * 3)).block, (ad.add (i * 3)).off + 2, none⟩ = some (.bool x.f2)) (ds := []) #[false, false, false, false, false, false, false, false, false, false, false, false, false, false, false, false, false, false, false, false, false, false] (by kernel_rfl) rfl rfl (at31 (Kd.C_below HM.out (Below.drew HB.out)) HX.out HLI.out) (fun hHeld => ?_)
      have n1_ := Aside0.mk (Below.drew HB.out)
      have n2_ := Aside0.mk (HS.out.below (Below.drew (Below.refl _ _)))
      have n3_ := Aside0.mk (Kd.R_below HU.out (Below.drew (Below.refl _ _)))
      clear HB HS HU hx0 hx1 hx2
      have HB := n1_
      have HS := n2_
      have HU := n3_
      clear n1_ n2_ n3_
      generalize w5.drew = w6 at HB HS HU hHeld ⊢
      refine pure_ (i := 0) (N := some 43) (v := ?_) (a' := ?_) #[true, false, false, false, false, false, false, false, false, false, false, false, false, false, false, false, false, false, false, false, false, false] rfl rfl (by kernel_rfl) (fun _ _ _ h => h) (Or.inl ⟨by rfl, ?_⟩) ?_ ?_
      rotate_left
      · intro w'
        go_simp
        with_reducible rfl
      rotate_left
      · simp only [Act.put, List.setIfInBounds_toArray, List.set_cons_zero, List.set_cons_succ, i64_w, i32_w]
        rfl
      refine pure_ (i := 1) (N := some 44) (v := ?_) (a' := ?_) #[true, true, false, false, false, false, false, false, false, false, false, false, false, false, false, false, false, false, false, false, false, false] rfl rfl (by kernel_rfl) (fun _ _ _ h => h) (Or.inl ⟨by rfl, ?_⟩) ?_ ?_
      rotate_left
      · intro w'
        go_simp
        with_reducible rfl
      rotate_left
      · simp only [Act.put, List.setIfInBounds_toArray, List.set_cons_zero, List.set_cons_succ, i64_w, i32_w]
        rfl
      refine pure_ (i := 2) (N := some 45) (v := ?_) (a' := ?_) #[true, true, true, false, false, false, false, false, false, false, false, false, false, false, false, false, false, false, false, false, false, false] rfl rfl (by kernel_rfl) (fun _ _ _ h => h) (Or.inl ⟨by rfl, ?_⟩) ?_ ?_
      rotate_left
      · intro w'
        go_simp
        with_reducible rfl
      rotate_left
      · simp only [Act.put, List.setIfInBounds_toArray, List.set_cons_zero, List.set_cons_succ, i64_w, i32_w]
        rfl
      refine pure_ (i := 5) (N := some 48) (v := ?_) (a' := ?_) #[true, true, true, false, false, true, false, false, false, false, false, false, false, false, false, false, false, false, false, false, false, false] rfl rfl (by kernel_rfl) (fun _ _ _ h => h) (Or.inl ⟨by rfl, ?_⟩) ?_ ?_
      rotate_left
      · intro w'
        go_simp
        with_reducible rfl
      rotate_left
      · simp only [Act.put, List.setIfInBounds_toArray, List.set_cons_zero, List.set_cons_succ, i64_w, i32_w]
        rfl
      refine pure_ (i := 6) (N := some 49) (v := ?_) (a' := ?_) #[true, true, true, false, false, true, true, false, false, false, false, false, false, false, false, false, false, false, false, false, false, false] rfl rfl (by kernel_rfl) (fun _ _ _ h => h) (Or.inl ⟨by rfl, ?_⟩) ?_ ?_
      rotate_left
      · intro w'
        go_simp
        with_reducible rfl
      rotate_left
      · simp only [Act.put, List.setIfInBounds_toArray, List.set_cons_zero, List.set_cons_succ, i64_w, i32_w]
        rfl
      refine pure_ (i := 7) (N := some 50) (v := ?_) (a' := ?_) #[true, true, true, false, false, true, true, true, false, false, false, false, false, false, false, false, false, false, false, false, false, false] rfl rfl (by kernel_rfl) (fun _ _ _ h => h) (Or.inl ⟨by rfl, ?_⟩) ?_ ?_
      rotate_left
      · intro w'
        go_simp
        with_reducible rfl
      rotate_left
      · simp only [Act.put, List.setIfInBounds_toArray, List.set_cons_zero, List.set_cons_succ, i64_w, i32_w]
        rfl
      refine take_ (i := 3) (N := some 46) (v := ?_) (a' := ?_) #[true, true, true, true, false, true, true, true, false, false, false, false, false, false, false, false, false, false, false, false, false, false] rfl rfl (by kernel_rfl) (fun _ _ _ h => h) (Or.inl ⟨by rfl, ?_⟩) hHeld ?_ ?_
      rotate_left
      · intro w' ⟨s0, s1, s2⟩
        go_simp
        with_reducible rfl
      rotate_left
      · simp only [Act.put, List.setIfInBounds_toArray, List.set_cons_zero, List.set_cons_succ, i64_w, i32_w]
        rfl
      refine take_ (i := 8) (N := some 51) (v := ?_) (a' := ?_) #[true, true, true, true, false, true, true, true, true, false, false, false, false, false, false, false, false, false, false, false, false, false] rfl rfl (by kernel_rfl) (fun _ _ _ h => h) (Or.inl ⟨by rfl, ?_⟩) hHeld ?_ ?_
      rotate_left
      · intro w' ⟨s0, s1, s2⟩
        go_simp
        with_reducible rfl
      rotate_left
      · simp only [Act.put, List.setIfInBounds_toArray, List.set_cons_zero, List.set_cons_succ, i64_w, i32_w]
        rfl
      refine one_ (i := 4) (N := some 47) #[true, true, true, true, true, true, true, true, true, false, false, false, false, false, false, false, false, false, false, false, false, false] rfl rfl (by kernel_rfl) (by decide) (fun K hK => ?_)
      refine goes_ Tryd.func14 (by kernel_rfl) rfl #[.agg #[.int .i64 x.f0, .int .i64 x.f1, .bool x.f2]] (by rfl) rfl rfl (by (try simp only [List.map_toArray, List.map_cons, List.map_nil]); first | done | rfl) ?_
      have hN := sched_Valid.calls x.f0 x.f1 x.f2 ve _ (HG.out.below HB.out) E1.out
      with_reducible refine (hN).mono ?_
      clear hN
      rintro e w7 ⟨rfl, hb⟩
      have n1_ := Aside0.mk (below_step HB.out hb)
      have n2_ := Aside0.mk (HS.out.below hb)
      have n3_ := Aside0.mk (Kd.R_below HU.out hb)
      clear HB HS HU hHeld hb
      have HB := n1_
      have HS := n2_
      have HU := n3_
      clear n1_ n2_ n3_
      refine ⟨_, rfl, ?_⟩
      refine hK.out _ _ (at31 (Kd.C_below HM.out HB.out) HX.out HLI.out) (fun hHeld => ?_)
      clear hK K
      refine norm_ (a' := ?_) ?_ ?_
      rotate_left
      · show Act.put _ (some 47) _ = _
        simp only [Act.put, List.setIfInBounds_toArray, List.set_cons_zero, List.set_cons_succ, i64_w, i32_w]
        rfl
      refine one_ (i := 9) (N := some 52) #[true, true, true, true, true, true, true, true, true, true, false, false, false, false, false, false, false, false, false, false, false, false] rfl rfl (by kernel_rfl) (by decide) (fun K hK => ?_)
      refine goes_ Tryd.func15 (by kernel_rfl) rfl #[.agg #[.int .i64 x.f0, .int .i64 x.f1, .bool x.f2]] (by rfl) rfl rfl (by (try simp only [List.map_toArray, List.map_cons, List.map_nil]); first | done | rfl) ?_
      have hN := fun W_ => pledgeref10_ValidEntry.calls x.f0 x.f1 x.f2 vc W_ E2.out
      with_reducible refine (hN _).mono ?_
      clear hN
      rintro e w8 ⟨rfl, hb⟩
      have n1_ := Aside0.mk (below_step HB.out hb)
      have n2_ := Aside0.mk (HS.out.below hb)
      have n3_ := Aside0.mk (Kd.R_below HU.out hb)
      clear HB HS HU hHeld hb
      have HB := n1_
      have HS := n2_
      have HU := n3_
      clear n1_ n2_ n3_
      refine ⟨_, rfl, ?_⟩
      refine hK.out _ _ (at31 (Kd.C_below HM.out HB.out) HX.out HLI.out) (fun hHeld => ?_)
      clear hK K
      refine norm_ (a' := ?_) ?_ ?_
      rotate_left
      · show Act.put _ (some 52) _ = _
        simp only [Act.put, List.setIfInBounds_toArray, List.set_cons_zero, List.set_cons_succ, i64_w, i32_w]
        rfl
      refine one_ (i := 10) (N := some 53) #[true, true, true, true, true, true, true, true, true, true, true, false, false, false, false, false, false, false, false, false, false, false] rfl rfl (by kernel_rfl) (by decide) (fun K hK => ?_)
      refine goes_ Tryd.func11 (by kernel_rfl) rfl #[errW ve, .int .i64 vc] (by rfl) rfl rfl (by (try simp only [List.map_toArray, List.map_cons, List.map_nil]); first | done | rfl) ?_
      have hN := pledgesee_Is.calls ve vc true _ (HG.out.below HB.out) E3.out
      with_reducible refine (hN).mono ?_
      clear hN
      rintro e w9 ⟨rfl, hb⟩
      have n1_ := Aside0.mk (below_step HB.out hb)
      have n2_ := Aside0.mk (HS.out.below hb)
      have n3_ := Aside0.mk (Kd.R_below HU.out hb)
      clear HB HS HU hHeld hb
      have HB := n1_
      have HS := n2_
      have HU := n3_
      clear n1_ n2_ n3_
      refine ⟨_, rfl, ?_⟩
      refine hK.out _ _ (at31 (Kd.C_below HM.out HB.out) HX.out HLI.out) (fun hHeld => ?_)
      clear hK K
      refine norm_ (a' := ?_) ?_ ?_
      rotate_left
      · show Act.put _ (some 53) _ = _
        simp only [Act.put, List.setIfInBounds_toArray, List.set_cons_zero, List.set_cons_succ, i64_w, i32_w]
        rfl
      refine pure_ (i := 11) (N := some 54) (v := ?_) (a' := ?_) #[true, true, true, true, true, true, true, true, true, true, true, true, false, false, false, false, false, false, false, false, false, false] rfl rfl (by kernel_rfl) (fun _ _ _ h => h) (Or.inl ⟨by rfl, ?_⟩) ?_ ?_
      rotate_left
      · intro w'
        go_simp
        with_reducible rfl
      rotate_left
      · simp only [Act.put, List.setIfInBounds_toArray, List.set_cons_zero, List.set_cons_succ, i64_w, i32_w]
        rfl
      refine pure_ (i := 12) (N := some 55) (v := ?_) (a' := ?_) #[true, true, true, true, true, true, true, true, true, true, true, true, true, false, false, false, false, false, false, false, false, false] rfl rfl (by kernel_rfl) (fun _ _ _ h => h) (Or.inl ⟨by rfl, ?_⟩) ?_ ?_
      rotate_left
      · intro w'
        go_simp
        with_reducible rfl
      rotate_left
      · simp only [Act.put, List.setIfInBounds_toArray, List.set_cons_zero, List.set_cons_succ, i64_w, i32_w]
        rfl
      refine pure_ (i := 13) (N := some 56) (v := ?_) (a' := ?_) #[true, true, true, true, true, true, true, true, true, true, true, true, true, true, false, false, false, false, false, false, false, false] rfl rfl (by kernel_rfl) (fun _ _ _ h => h) (Or.inl ⟨by rfl, ?_⟩) ?_ ?_
      rotate_left
      · intro w'
        go_simp
        with_reducible rfl
      rotate_left
      · simp only [Act.put, List.setIfInBounds_toArray, List.set_cons_zero, List.set_cons_succ, i64_w, i32_w]
        rfl
      refine pure_ (i := 14) (N := some 57) (v := ?_) (a' := ?_) #[true, true, true, true, true, true, true, true, true, true, true, true, true, true, true, false, false, false, false, false, false, false] rfl rfl (by kernel_rfl) (fun _ _ _ h => h) (Or.inl ⟨by rfl, ?_⟩) ?_ ?_
      rotate_left
      · intro w'
        go_simp
        with_reducible rfl
      rotate_left
      · simp only [Act.put, List.setIfInBounds_toArray, List.set_cons_zero, List.set_cons_succ, i64_w, i32_w]
        rfl
      refine pure_ (i := 15) (N := some 58) (v := ?_) (a' := ?_) #[true, true, true, true, true, true, true, true, true, true, true, true, true, true, true, true, false, false, false, false, false, false] rfl rfl (by kernel_rfl) (fun _ _ _ h => h) (Or.inl ⟨by rfl, ?_⟩) ?_ ?_
      rotate_left
      · intro w'
        go_simp
        with_reducible rfl
      rotate_left
      · simp only [Act.put, List.setIfInBounds_toArray, List.set_cons_zero, List.set_cons_succ, i64_w, i32_w]
        rfl
      refine take_ (i := 16) (N := some 59) (v := ?_) (a' := ?_) #[true, true, true, true, true, true, true, true, true, true, true, true, true, true, true, true, true, false, false, false, false, false] rfl rfl (by kernel_rfl) (fun _ _ _ h => h) (Or.inl ⟨by rfl, ?_⟩) hHeld ?_ ?_
      rotate_left
      · intro w' ⟨s0, s1, s2⟩
        go_simp
        with_reducible rfl
      rotate_left
      · simp only [Act.put, List.setIfInBounds_toArray, List.set_cons_zero, List.set_cons_succ, i64_w, i32_w]
        rfl
      refine pure_ (i := 18) (N := some 61) (v := ?_) (a' := ?_) #[true, true, true, true, true, true, true, true, true, true, true, true, true, true, true, true, true, false, true, false, false, false] rfl rfl (by kernel_rfl) (fun _ _ _ h => h) (Or.inl ⟨by rfl, ?_⟩) ?_ ?_
      rotate_left
      · intro w'
        go_simp
        with_reducible rfl
      rotate_left
      · simp only [Act.put, List.setIfInBounds_toArray, List.set_cons_zero, List.set_cons_succ, i64_w, i32_w]
        rfl
      refine one_ (i := 17) (N := some 60) #[true, true, true, true, true, true, true, true, true, true, true, true, true, true, true, true, true, true, true, false, false, false] rfl rfl (by kernel_rfl) (by decide) (fun K hK => ?_)
      refine goes_ Tryd.func7 (by kernel_rfl) rfl #[.pointer (some ⟨gs, 0, none⟩), .agg #[.int .i64 x.f0, .int .i64 x.f1, .bool x.f2]] (by rfl) rfl rfl (by (try simp only [List.map_toArray, List.map_cons, List.map_nil]); first | done | rfl) ?_
      have hN := Add.calls gs w.heap.size es x v _ (HG.out.below HB.out) HS.out (mono_srt HSR.out x) (below_size HB.out) es' re E5.out
      with_reducible refine (hN).mono ?_
      clear hN
      rintro e w10 ⟨rfl, v7, hs7, hm7⟩
      have n1_ := Aside0.mk (hm7.below HB.out HGgs.out HS.out.own (below_size HB.out))
      have n2_ := Aside0.mk hs7
      have n3_ := Aside0.mk (have_step HU.out hm7)
      clear HB HS HU hHeld hs7 hm7
      have HB := n1_
      have HS := n2_
      have HU := n3_
      clear n1_ n2_ n3_
      refine ⟨_, rfl, ?_⟩
      refine hK.out _ _ (at31 (Kd.C_below HM.out HB.out) HX.out HLI.out) (fun hHeld => ?_)
      clear hK K
      refine norm_ (a' := ?_) ?_ ?_
      rotate_left
      · show Act.put _ (some 60) _ = _
        simp only [Act.put, List.setIfInBounds_toArray, List.set_cons_zero, List.set_cons_succ, i64_w, i32_w]
        rfl
      refine one_ (i := 19) (N := some 62) #[true, true, true, true, true, true, true, true, true, true, true, true, true, true, true, true, true, true, true, true, false, false] rfl rfl (by kernel_rfl) (by decide) (fun K hK => ?_)
      refine goes_ Tryd.func11 (by kernel_rfl) rfl #[errW re, .int .i64 rc] (by rfl) rfl rfl (by (try simp only [List.map_toArray, List.map_cons, List.map_nil]); first | done | rfl) ?_
      have hN := pledgesee_Is.calls re rc true _ (HG.out.below HB.out) E6.out
      with_reducible refine (hN).mono ?_
      clear hN
      rintro e w11 ⟨rfl, hb⟩
      have n1_ := Aside0.mk (below_step HB.out hb)
      have n2_ := Aside0.mk (HS.out.below hb)
      have n3_ := Aside0.mk (Kd.R_below HU.out hb)
      clear HB HS HU hHeld hb
      have HB := n1_
      have HS := n2_
      have HU := n3_
      clear n1_ n2_ n3_
      refine ⟨_, rfl, ?_⟩
      refine hK.out _ _ (at31 (Kd.C_below HM.out HB.out) HX.out HLI.out) (fun hHeld => ?_)
      clear hK K
      refine norm_ (a' := ?_) ?_ ?_
      rotate_left
      · show Act.put _ (some 62) _ = _
        simp only [Act.put, List.setIfInBounds_toArray, List.set_cons_zero, List.set_cons_succ, i64_w, i32_w]
        rfl
      refine pure_ (i := 20) (N := some 63) (v := ?_) (a' := ?_) #[true, true, true, true, true, true, true, true, true, true, true, true, true, true, true, true, true, true, true, true, true, false] rfl rfl (by kernel_rfl) (fun _ _ _ h => h) (Or.inl ⟨by rfl, ?_⟩) ?_ ?_
      rotate_left
      · intro w'
        go_simp
        with_reducible rfl
      rotate_left
      · simp only [Act.put, List.setIfInBounds_toArray, List.set_cons_zero, List.set_cons_succ, i64_w, i32_w]
        rfl
      refine pure_ (i := 21) (N := some 64) (v := ?_) (a' := ?_) #[true, true, true, true, true, true, true, true, true, true, true, true, true, true, true, true, true, true, true, true, true, true] rfl rfl (by kernel_rfl) (fun _ _ _ h => h) (Or.inl ⟨by rfl, ?_⟩) ?_ ?_
      rotate_left
      · intro w'
        go_simp
        with_reducible rfl
      rotate_left
      · simp only [Act.put, List.setIfInBounds_toArray, List.set_cons_zero, List.set_cons_succ, i64_w, i32_w]
        rfl
      clear hHeld
      refine done_ (by kernel_rfl) ?_
      go_wp2
      go_roundg (l.length - (i + 1))
      case measure => have := HKI.out; have := HLI.out; omega
      case rel => exact ⟨i + 1, _, by first | rw [HW.out] | rfl, ⟨by have := HLI.out; omega⟩, ⟨by have := HLI.out; omega⟩, HB, ⟨by rw [HPE2.out]; exact HS.out⟩, ⟨by rw [HPE2.out]; exact HU.out⟩⟩
    · obtain rfl : l.length = i := by have := HI.out; omega
      have cb1 : decide ((l.length : Int) < (l.length : Int)) = false := decide_eq_false (by omega)
      have cb2 : ((l.length : Int) < (l.length : Int)) = False := eq_false (by omega)
      have cb3 : decide (l.length < l.length) = false := decide_eq_false (by omega)
      obtain ⟨_, o1, o2, o3⟩ := HOK.out
      clear hlt HI HKI HOK
      generalize playE l l.length = E at HS HU o1 o2 o3 ⊢
      obtain ⟨A1, c1, rfl, hl1, hC1⟩ := Kd.R_reads HU.out
      have HC1 := Aside0.mk hC1
      have HL1 := Aside0.mk hl1
      generalize hon : onF cl td E false = on at o1 o2
      generalize hnx : nextF cl td on E = nx at o1
      obtain ⟨nd, ni⟩ := nx
      have O1 := Aside0.mk o1
      have O2 := Aside0.mk o2
      have O3 := Aside0.mk o3
      have HON := Aside0.mk hon
      have HNX := Aside0.mk hnx
      have HR := Aside0.mk (Below.refl wr.heap.size wr)
      clear hl1 hC1 o1 o2 o3 hon hnx HU
      have g1 : (on == on) = true := by simp
      have g2 : (nd == nd) = true := by simp
      have g3 : (ni == ni) = true := by simp
      go_wp2_with (first
        | (go_at_call 9; have hN := Next.calls gs w.heap.size E cl td v _ HS.out; rw [HON.out, HNX.out] at hN; (with_reducible refine hN.mono ?_); clear hN; rintro e w_ ⟨rfl, hb⟩; have n_ := Aside0.mk (below_step HB.out hb); have n2_ := Aside0.mk (HS.out.below hb); have n3_ := Aside0.mk (below_step HR.out hb); clear HB HS HR; have HB := n_; have HS := n2_; have HR := n3_; clear n_ n2_ n3_ hb)
        | (go_at_call 16; have hN := fun W_ hC_ => pledgeref10_Next.calls k A1 c1 E cl td nd ni W_ hC_ HL1.out O1.out; (with_reducible refine (hN _ (Kd.C_below HC1.out HR.out)).mono ?_); clear hN; rintro e w_ ⟨rfl, hd⟩; have hb := hd.below; have n_ := Aside0.mk (below_step HB.out hb); have n2_ := Aside0.mk (HS.out.below hb); have n3_ := Aside0.mk (below_step HR.out hb); clear HB HS HR; have HB := n_; have HS := n2_; have HR := n3_; clear n_ n2_ n3_ hb; clear hd)
        | (go_at_call 12; have hN := All.calls gs w.heap.size E _ _ HS.out; (with_reducible refine hN.mono ?_); clear hN; rintro e w_ ⟨v2, rfl, hr, hb⟩; obtain ⟨A2, c2, e2⟩ := Kd.R_slice hr; subst e2; have HR2 := Aside0.mk (Kd.R_reads' hr); have n_ := Aside0.mk (below_step HB.out hb); have n2_ := Aside0.mk (HS.out.below hb); have n3_ := Aside0.mk (below_step HR.out hb); clear HB HS HR; have HB := n_; have HS := n2_; have HR := n3_; clear n_ n2_ n3_ hb; clear hr)
        | (go_at_call 17; have hN := fun W_ hC_ hC2_ => pledgeref_SameEntrys.calls k A2 c2 E A1 c1 E true W_ hC2_ HR2.out.2.1 hC_ HL1.out O3.out; (with_reducible refine (hN _ (Kd.C_below HC1.out HR.out) HR2.out.2.2).mono ?_); clear hN; rintro e w_ ⟨rfl, hb⟩; have n_ := Aside0.mk (below_step HB.out hb); have n2_ := Aside0.mk (HS.out.below hb); have n3_ := Aside0.mk (below_step HR.out hb); clear HB HS HR; have HB := n_; have HS := n2_; have HR := n3_; clear n_ n2_ n3_ hb)
        | (go_at_call 10; have hN := On.calls gs w.heap.size E cl td v _ HS.out; rw [HON.out] at hN; (with_reducible refine hN.mono ?_); clear hN; rintro e w_ ⟨rfl, hb⟩; have n_ := Aside0.mk (below_step HB.out hb); have n2_ := Aside0.mk (HS.out.below hb); have n3_ := Aside0.mk (below_step HR.out hb); clear HB HS HR; have HB := n_; have HS := n2_; have HR := n3_; clear n_ n2_ n3_ hb)
        | (go_at_call 18; have hN := fun W_ hC_ => pledgeref10_On.calls k A1 c1 E cl td on W_ hC_ HL1.out O2.out; (with_reducible refine (hN _ (Kd.C_below HC1.out HR.out)).mono ?_); clear hN; rintro e w_ ⟨rfl, hd⟩; have hb := hd.below; have n_ := Aside0.mk (below_step HB.out hb); have n2_ := Aside0.mk (HS.out.below hb); have n3_ := Aside0.mk (below_step HR.out hb); clear HB HS HR; have HB := n_; have HS := n2_; have HR := n3_; clear n_ n2_ n3_ hb; clear hd))
      go_ret
      exact ⟨rfl, HB.out⟩

/-- The pure statement of pledgelaw11_SchedPlays: numbers and lists alone. -/
def pledgelaw11_SchedPlays.Pure : Prop := ∀ (l0 : List (S31)) (a1 : Int) (a2 : Int), l0.length * 24 ≤ 140737488351232 → (l0.length ≤ maxLen ∧ ∀ x ∈ l0, (Rng .i64 x.f0 ∧ Rng .i64 x.f1 ∧ True)) → Rng .i64 a1 → Rng .i64 a2 → ∃ k, pledgelaw11_SchedPlays.f k l0 a1 a2 = some true

end Go.Proofs.YtlomknhkbhibfaaDoor.ESchedPlays
