/- The functions that the law comes to, as plain functions, and for each a proof that the Go code comes to just these answers. Written by a program of this claim. Conditions: each theorem bears its own. -/
import Derived.Test.YtelabafoknmkcaaDoorERecSaysx0
import Derived.Test.YtelabafoknmkcaaDoorERecSaysx4
namespace Go.Proofs.YtelabafoknmkcaaDoor.ERecSays
open Go.RowKit Go.Proofs.YtelabafoknmkcaaDoorW.PrintWords Go.Proofs.YtelabafoknmkcaaDoorW.PrintLast Go.Proofs.YtelabafoknmkcaaDoorW.PrintMore Go.Proofs.YtelabafoknmkcaaDoorW.PrintOpen
attribute [local go_sem] max2_int min2_int max_two min_two max_three min_three max_four min_four   -- for this text's walks alone
set_option linter.unusedVariables false
set_option linter.unusedSimpArgs false

/-! ### pledgeref1_Reader_Num: function 23 -/
mutual
def pledgeref1_Reader_Num.l0 : Nat → Int → Int → Int → Int → List Int → Int → Int → Bool → Int → Option (Int × Int × Int × Bool × Int)
  | 0, _, _, _, _, _, _, _, _, _ => none
  | k + 1, x1, x2, x7, x8, x1000, x1001, x1002, x1003, x1004 => if x8 ≥ (x1000.length : Int) then ((pledgeref1_Reader_Fail.f x1000 x1001 x1002 x1003 x1004 101 x1001).bind fun bt213 => (some (0, bt213.1, bt213.2.1, bt213.2.2.1, bt213.2.2.2))) else (if 0 ≤ x8 then (if x8 < (x1000.length : Int) then (if (wrap64 (x8 - x1001)) = 9 then (if (rd x1000 x8) > 1 then (pledgeref1_Reader_Num.j1 k x1 x2 x7 x8 (rd x1000 x8) (wrap64 (x8 - x1001)) true x1000 x1001 x1002 x1003 x1004) else (if (wrap64 (x8 - x1001)) > 0 then (pledgeref1_Reader_Num.j1 k x1 x2 x7 x8 (rd x1000 x8) (wrap64 (x8 - x1001)) ((rd x1000 x8) == 0) x1000 x1001 x1002 x1003 x1004) else (pledgeref1_Reader_Num.j1 k x1 x2 x7 x8 (rd x1000 x8) (wrap64 (x8 - x1001)) false x1000 x1001 x1002 x1003 x1004))) else (if (wrap64 (x8 - x1001)) > 0 then (pledgeref1_Reader_Num.j1 k x1 x2 x7 x8 (rd x1000 x8) (wrap64 (x8 - x1001)) ((rd x1000 x8) == 0) x1000 x1001 x1002 x1003 x1004) else (pledgeref1_Reader_Num.j1 k x1 x2 x7 x8 (rd x1000 x8) (wrap64 (x8 - x1001)) false x1000 x1001 x1002 x1003 x1004))) else (none)) else (none))
def pledgeref1_Reader_Num.j1 : Nat → Int → Int → Int → Int → Int → Int → Bool → List Int → Int → Int → Bool → Int → Option (Int × Int × Int × Bool × Int)
  | 0, _, _, _, _, _, _, _, _, _, _, _, _ => none
  | k + 1, x1, x2, x7, x8, x9, x10, x58, x1000, x1001, x1002, x1003, x1004 => if x58 = true then ((pledgeref1_Reader_Fail.f x1000 x1001 x1002 x1003 x1004 102 x1001).bind fun bt218 => (some (0, bt218.1, bt218.2.1, bt218.2.2.1, bt218.2.2.2))) else (if 0 ≤ (IntKind.u64.wrap (wrap64 (7 * x10))) then (if x9 < 128 then (if (Go.bits .and .u64 (Go.bits .or .u64 x7 (shl .u64 (IntKind.u64.wrap (Go.bits .and .u8 x9 127)) (IntKind.u64.wrap (wrap64 (7 * x10))))) 1) = 1 then (if (Go.bits .xor .i64 (-1) (wrap64 ((Go.bits .or .u64 x7 (shl .u64 (IntKind.u64.wrap (Go.bits .and .u8 x9 127)) (IntKind.u64.wrap (wrap64 (7 * x10))))) / 2))) < x1 then ((pledgeref1_Reader_Fail.f x1000 x1001 x1002 x1003 x1004 103 x1001).bind fun bt222 => (some (0, bt222.1, bt222.2.1, bt222.2.2.1, bt222.2.2.2))) else (if (Go.bits .xor .i64 (-1) (wrap64 ((Go.bits .or .u64 x7 (shl .u64 (IntKind.u64.wrap (Go.bits .and .u8 x9 127)) (IntKind.u64.wrap (wrap64 (7 * x10))))) / 2))) > x2 then ((pledgeref1_Reader_Fail.f x1000 x1001 x1002 x1003 x1004 103 x1001).bind fun bt226 => (some (0, bt226.1, bt226.2.1, bt226.2.2.1, bt226.2.2.2))) else (some (Go.bits .xor .i64 (-1) (wrap64 ((Go.bits .or .u64 x7 (shl .u64 (IntKind.u64.wrap (Go.bits .and .u8 x9 127)) (IntKind.u64.wrap (wrap64 (7 * x10))))) / 2)), wrap64 (x8 + 1), x1002, x1003, x1004)))) else (if (wrap64 ((Go.bits .or .u64 x7 (shl .u64 (IntKind.u64.wrap (Go.bits .and .u8 x9 127)) (IntKind.u64.wrap (wrap64 (7 * x10))))) / 2)) < x1 then ((pledgeref1_Reader_Fail.f x1000 x1001 x1002 x1003 x1004 103 x1001).bind fun bt230 => (some (0, bt230.1, bt230.2.1, bt230.2.2.1, bt230.2.2.2))) else (if (wrap64 ((Go.bits .or .u64 x7 (shl .u64 (IntKind.u64.wrap (Go.bits .and .u8 x9 127)) (IntKind.u64.wrap (wrap64 (7 * x10))))) / 2)) > x2 then ((pledgeref1_Reader_Fail.f x1000 x1001 x1002 x1003 x1004 103 x1001).bind fun bt234 => (some (0, bt234.1, bt234.2.1, bt234.2.2.1, bt234.2.2.2))) else (some (wrap64 ((Go.bits .or .u64 x7 (shl .u64 (IntKind.u64.wrap (Go.bits .and .u8 x9 127)) (IntKind.u64.wrap (wrap64 (7 * x10))))) / 2), wrap64 (x8 + 1), x1002, x1003, x1004))))) else (pledgeref1_Reader_Num.l0 k x1 x2 (Go.bits .or .u64 x7 (shl .u64 (IntKind.u64.wrap (Go.bits .and .u8 x9 127)) (IntKind.u64.wrap (wrap64 (7 * x10))))) (wrap64 (x8 + 1)) x1000 x1001 x1002 x1003 x1004)) else (none))
end
def pledgeref1_Reader_Num.f (k : Nat) (s0_0 : List Int) (s0_1 : Int) (s0_2 : Int) (s0_3 : Bool) (s0_4 : Int) (a1 : Int) (a2 : Int) : Option (Int × Int × Int × Bool × Int) := (pledgeref1_Reader_Ok.f s0_0 s0_1 s0_2 s0_3 s0_4).bind fun bt208 => (if bt208.1 = true then (pledgeref1_Reader_Num.l0 k a1 a2 0 bt208.2.1 s0_0 bt208.2.1 bt208.2.2.1 bt208.2.2.2.1 bt208.2.2.2.2) else (some (0, bt208.2.1, bt208.2.2.1, bt208.2.2.2.1, bt208.2.2.2.2)))
theorem pledgeref1_Reader_Num.mono_l : ∀ k, (∀ y0 y1 y2 y3 y4 y5 y6 y7 y8, LeO (pledgeref1_Reader_Num.l0 k y0 y1 y2 y3 y4 y5 y6 y7 y8) (pledgeref1_Reader_Num.l0 (k + 1) y0 y1 y2 y3 y4 y5 y6 y7 y8)) ∧ (∀ y0 y1 y2 y3 y4 y5 y6 y7 y8 y9 y10 y11, LeO (pledgeref1_Reader_Num.j1 k y0 y1 y2 y3 y4 y5 y6 y7 y8 y9 y10 y11) (pledgeref1_Reader_Num.j1 (k + 1) y0 y1 y2 y3 y4 y5 y6 y7 y8 y9 y10 y11))
  | 0 => ⟨fun _ _ _ _ _ _ _ _ _ r h => by simp [pledgeref1_Reader_Num.l0] at h, fun _ _ _ _ _ _ _ _ _ _ _ _ r h => by simp [pledgeref1_Reader_Num.j1] at h⟩
  | k + 1 => by
    obtain ⟨ih0, ih1⟩ := pledgeref1_Reader_Num.mono_l k
    refine ⟨?_, ?_⟩
    · intro y0 y1 y2 y3 y4 y5 y6 y7 y8
      unfold pledgeref1_Reader_Num.l0
      repeat' first
      | (with_reducible exact ih0 _ _ _ _ _ _ _ _ _)
      | (with_reducible exact ih1 _ _ _ _ _ _ _ _ _ _ _ _)
      | (with_reducible exact LeO.refl _)
      | (with_reducible exact LeO.none _)
      | (with_reducible refine LeO.ite ?_ ?_)
      | (with_reducible refine LeO.bind ?_ (fun _ => ?_))
      | exact ih0 _ _ _ _ _ _ _ _ _
      | exact ih1 _ _ _ _ _ _ _ _ _ _ _ _
      | exact LeO.none _
      | refine LeO.ite ?_ ?_
      | refine LeO.bind ?_ (fun _ => ?_)
    · intro y0 y1 y2 y3 y4 y5 y6 y7 y8 y9 y10 y11
      unfold pledgeref1_Reader_Num.j1
      repeat' first
      | (with_reducible exact ih0 _ _ _ _ _ _ _ _ _)
      | (with_reducible exact ih1 _ _ _ _ _ _ _ _ _ _ _ _)
      | (with_reducible exact LeO.refl _)
      | (with_reducible exact LeO.none _)
      | (with_reducible refine LeO.ite ?_ ?_)
      | (with_reducible refine LeO.bind ?_ (fun _ => ?_))
      | exact ih0 _ _ _ _ _ _ _ _ _
      | exact ih1 _ _ _ _ _ _ _ _ _ _ _ _
      | exact LeO.none _
      | refine LeO.ite ?_ ?_
      | refine LeO.bind ?_ (fun _ => ?_)
theorem pledgeref1_Reader_Num.mono : ∀ a0 a1 a2 a3 a4 a5 a6 k, LeO (pledgeref1_Reader_Num.f k a0 a1 a2 a3 a4 a5 a6) (pledgeref1_Reader_Num.f (k + 1) a0 a1 a2 a3 a4 a5 a6) := by
  intro a0 a1 a2 a3 a4 a5 a6 k
  obtain ⟨ih0, ih1⟩ := pledgeref1_Reader_Num.mono_l k
  unfold pledgeref1_Reader_Num.f
  repeat' first
      | (with_reducible exact ih0 _ _ _ _ _ _ _ _ _)
      | (with_reducible exact ih1 _ _ _ _ _ _ _ _ _ _ _ _)
      | (with_reducible exact LeO.refl _)
      | (with_reducible exact LeO.none _)
      | (with_reducible refine LeO.ite ?_ ?_)
      | (with_reducible refine LeO.bind ?_ (fun _ => ?_))
      | exact ih0 _ _ _ _ _ _ _ _ _
      | exact ih1 _ _ _ _ _ _ _ _ _ _ _ _
      | exact LeO.none _
      | refine LeO.ite ?_ ?_
      | refine LeO.bind ?_ (fun _ => ?_)
set_option maxHeartbeats 8000000 in
set_option maxRecDepth 100000 in
theorem pledgeref1_Reader_Num.calls [Inhabited (Int → Addr)] (k : Nat) (g : Nat) (s0_0 : List Int) (s0_1 : Int) (s0_2 : Int) (s0_3 : Bool) (s0_4 : Int) (a1 : Int) (a2 : Int) (r1 : Int) (r2 : Int) (r3 : Int) (r4 : Bool) (r5 : Int) (w0 w : World) (hI : IsS54 w0 w g s0_0 s0_1 s0_2 s0_3 s0_4) (hB : Below w0.heap.size w0 w) (h : pledgeref1_Reader_Num.f k s0_0 s0_1 s0_2 s0_3 s0_4 a1 a2 = some (r1, r2, r3, r4, r5)) :
    Calls Tryd.prog 23 #[.pointer (some ⟨g, 0, none⟩), .int .i64 a1, .int .i64 a2] w fun e w' => e = .returned (.int .i64 r1) ∧ IsS54 w0 w' g s0_0 r2 r3 r4 r5 ∧ Below w0.heap.size w0 w' ∧ KeepBut w w' g none := by
  have hsg : (IntKind.i64.signed = true) = True := eq_true rfl
  have HI0 := Aside0.mk hI
  have HK := Aside0.mk (KeepBut.refl w g none)
  have HL := Aside0.mk hB.size
  clear hI
  have HW0 := Aside0.mk hB.size
  have HB := Aside0.mk hB
  clear hB
  have H : ((pledgeref1_Reader_Ok.f s0_0 s0_1 s0_2 s0_3 s0_4).bind fun bt208 => (if bt208.1 = true then (pledgeref1_Reader_Num.l0 k a1 a2 0 bt208.2.1 s0_0 bt208.2.1 bt208.2.2.1 bt208.2.2.2.1 bt208.2.2.2.2) else (some (0, bt208.2.1, bt208.2.2.1, bt208.2.2.2.1, bt208.2.2.2.2)))) = some (r1, r2, r3, r4, r5) := h
  clear h
  replace H := Option.bind_eq_some_iff.mp H
  obtain ⟨⟨t208, t209, t210, t211, t212⟩, A40, H⟩ := H
  replace H : (if t208 = true then (pledgeref1_Reader_Num.l0 k a1 a2 0 t209 s0_0 t209 t210 t211 t212) else (some (0, t209, t210, t211, t212))) = some (r1, r2, r3, r4, r5) := H
  have A4 := Aside0.mk A40
  clear A40
  by_cases c5 : t208 = true
  · subst c5
    have H1 : (pledgeref1_Reader_Num.l0 k a1 a2 0 t209 s0_0 t209 t210 t211 t212) = some (r1, r2, r3, r4, r5) := by rw [if_pos rfl] at H; exact H
    clear H
    have H := H1
    clear H1
    have H' := Aside0.mk H
    clear H
    go_enter Tryd.func23, Tryd.ntmps23
    go_wp2_with (first | ((with_reducible refine gate_callee (f := 24) rfl ?_); refine goesL_ (some 13) rfl rfl Tryd.func24 (by kernel_rfl) rfl #[.pointer (some ⟨g, 0, none⟩)] rfl (by (try simp only [List.map_toArray, List.map_cons, List.map_nil]); first | done | rfl | (simp only [List.length_drop, List.length_take]; rfl)) ?_; (with_reducible refine (pledgeref1_Reader_Ok.calls g s0_0 s0_1 s0_2 s0_3 s0_4 true t209 t210 t211 t212 w0 _ ?side1 ?side2 A4.out).mono ?_); (case side1 => repeat (first | (with_reducible first | exact HI0.out | apply IsS54.alloc | apply IsS54.drewN | apply IsS54.drew | apply IsS54.set_1 | apply IsS54.set_2 | apply IsS54.set_3 | apply IsS54.set_4) | exact HI0.out)); (case side2 => repeat (first | (with_reducible first | exact HB.out | apply below_alloc | apply pw_below_drewN | apply below_drew1 | refine below_set ?_ (IsS54.ge HI0.out)) | exact HB.out)); rintro e w6 ⟨rfl, hi, hb, hk⟩; refine ⟨_, rfl, ?_⟩; have n0_ := Aside0.mk (KeepBut.trans (by repeat (first | (with_reducible first | exact HK.out | apply KeepBut.set_ | apply keep_drewN | apply keep_drew | apply keep_alloc) | exact HK.out)) hk (.inl rfl)); have n1_ := Aside0.mk (hb); have n2_ := Aside0.mk (hi); clear HK; clear HB; clear HI0; have HK := n0_; have HB := n1_; have HI0 := n2_; clear n0_ n1_ n2_; (try clear hb); (try clear hb2); (try clear hk); (try clear hi); obtain ⟨ASz7_0, cSz7_0, HGz7, hgz7, HSz7_0⟩ := HI0.out; have hcz7_0 := cellS54_0 HGz7; have hcz7_1 := cellS54_1 HGz7; have hcz7_2 := cellS54_2 HGz7; have hcz7_3 := cellS54_3 HGz7; have hcz7_4 := cellS54_4 HGz7; have hfz7_1 := blk_frozen HGz7 1; have hfz7_2 := blk_frozen HGz7 2; have hfz7_3 := blk_frozen HGz7 3; have hfz7_4 := blk_frozen HGz7 4; clear HGz7 hgz7))
    go_loopg [7, 8] k (fun kq v7 v8 w' => ∃ (x7_1 : Int) (x8_1 : Int) (x1001_1 : Int) (x1002_1 : Int) (x1003_1 : Bool) (x1004_1 : Int), v7 = .int .u64 x7_1 ∧ v8 = .int .i64 x8_1 ∧ Aside0 (pledgeref1_Reader_Num.l0 kq a1 a2 x7_1 x8_1 s0_0 x1001_1 x1002_1 x1003_1 x1004_1 = some (r1, r2, r3, r4, r5)) ∧ Aside0 (kq ≤ k) ∧ Aside0 (IsS54 w0 w' g s0_0 x1001_1 x1002_1 x1003_1 x1004_1) ∧ Aside0 (KeepBut w w' g none) ∧ Aside0 (Below w0.heap.size w0 w'))
    case atStart => exact ⟨(0), (t209), (t209), (t210), (t211), (t212), (by first | rfl | (simp; done) | (simp [*]; done) | (simp [wrap64]; done) | (simp [wrap64]; omega)), (by first | rfl | (simp; done) | (simp [*]; done) | (simp [wrap64]; done) | (simp [wrap64]; omega)), H', ⟨Nat.le_refl _⟩, ⟨by repeat (first | (with_reducible first | exact HI0.out | apply IsS54.alloc | apply IsS54.drewN | apply IsS54.drew | apply IsS54.set_1 | apply IsS54.set_2 | apply IsS54.set_3 | apply IsS54.set_4) | exact HI0.out)⟩, ⟨by repeat (first | (with_reducible first | exact HK.out | apply KeepBut.set_ | apply keep_drewN | apply keep_drew | apply keep_alloc) | exact HK.out)⟩, ⟨by repeat (first | (with_reducible first | exact HB.out | apply below_alloc | apply pw_below_drewN | apply below_drew1 | refine below_set ?_ (IsS54.ge HI0.out)) | exact HB.out)⟩⟩
    case round =>
      clear H'
      try clear c2
      try clear p2
      try clear c5
      try clear hcz7_0
      try clear hcz7_1
      try clear hcz7_2
      try clear hcz7_3
      try clear hcz7_4
      try clear hfz7_1
      try clear hfz7_2
      try clear hfz7_3
      try clear hfz7_4
      obtain ⟨x7_1, x8_1, x1001_1, x1002_1, x1003_1, x1004_1, rfl, rfl, HA, HK1, HI0, HK, HB⟩ := hrel
      cases gk with
      | zero => exact absurd HA.out (by simp [pledgeref1_Reader_Num.l0])
      | succ k1 =>
        have H := HA.out
        clear HA
        simp only [pledgeref1_Reader_Num.l0] at H
        by_cases c8 : x8_1 ≥ (s0_0.length : Int)
        · rw [if_pos c8] at H
          have c8b0 : decide ((s0_0.length : Int) ≤ x8_1) = true := decide_eq_true c8
          clear c8
          replace H := Option.bind_eq_some_iff.mp H
          obtain ⟨⟨t213, t214, t215, t216⟩, A90, H⟩ := H
          replace H : (some (0, t213, t214, t215, t216)) = some (r1, r2, r3, r4, r5) := H
          have A9 := Aside0.mk A90
          clear A90
          simp only [Option.some.injEq, Prod.mk.injEq] at H
          obtain ⟨rfl, rfl, rfl, rfl, rfl⟩ := H
          obtain ⟨ASz10_0, cSz10_0, HGz10, hgz10, HSz10_0⟩ := HI0.out
          have hcz10_0 := cellS54_0 HGz10
          have hcz10_1 := cellS54_1 HGz10
          have hcz10_2 := cellS54_2 HGz10
          have hcz10_3 := cellS54_3 HGz10
          have hcz10_4 := cellS54_4 HGz10
          have hfz10_1 := blk_frozen HGz10 1
          have hfz10_2 := blk_frozen HGz10 2
          have hfz10_3 := blk_frozen HGz10 3
          have hfz10_4 := blk_frozen HGz10 4
          clear HGz10 hgz10
          go_wp2_with (first | ((with_reducible refine gate_callee (f := 26) rfl ?_); refine goesL_ (some 31) rfl rfl Tryd.func26 (by kernel_rfl) rfl #[.pointer (some ⟨g, 0, none⟩), .int .i64 101, .int .i64 x1001_1] rfl (by (try simp only [List.map_toArray, List.map_cons, List.map_nil]); first | done | rfl | (simp only [List.length_drop, List.length_take]; rfl)) ?_; (with_reducible refine (pledgeref1_Reader_Fail.calls g s0_0 x1001_1 x1002_1 x1003_1 x1004_1 101 x1001_1 t213 t214 t215 t216 w0 _ ?side1 ?side2 A9.out).mono ?_); (case side1 => repeat (first | (with_reducible first | exact HI0.out | apply IsS54.alloc | apply IsS54.drewN | apply IsS54.drew | apply IsS54.set_1 | apply IsS54.set_2 | apply IsS54.set_3 | apply IsS54.set_4) | exact HI0.out)); (case side2 => repeat (first | (with_reducible first | exact HB.out | apply below_alloc | apply pw_below_drewN | apply below_drew1 | refine below_set ?_ (IsS54.ge HI0.out)) | exact HB.out)); rintro e w11 ⟨rfl, hi, hb, hk⟩; refine ⟨_, rfl, ?_⟩; have n0_ := Aside0.mk (KeepBut.trans (by repeat (first | (with_reducible first | exact HK.out | apply KeepBut.set_ | apply keep_drewN | apply keep_drew | apply keep_alloc) | exact HK.out)) hk (.inl rfl)); have n1_ := Aside0.mk (hb); have n2_ := Aside0.mk (hi); clear HK; clear HB; clear HI0; have HK := n0_; have HB := n1_; have HI0 := n2_; clear n0_ n1_ n2_; (try clear hb); (try clear hb2); (try clear hk); (try clear hi)))
          go_ret
          exact ⟨by first | rfl | (simp [errW_none, errW_some] <;> rfl) | (exfalso; simp_all; done) | (simp [*, errW_none, errW_some] <;> rfl), by repeat (first | (with_reducible first | exact HI0.out | apply IsS54.alloc | apply IsS54.drewN | apply IsS54.drew | apply IsS54.set_1 | apply IsS54.set_2 | apply IsS54.set_3 | apply IsS54.set_4) | exact HI0.out), by repeat (first | (with_reducible first | exact HB.out | apply below_alloc | apply pw_below_drewN | apply below_drew1 | refine below_set ?_ (IsS54.ge HI0.out)) | exact HB.out), by repeat (first | (with_reducible first | exact HK.out | apply KeepBut.set_ | apply keep_drewN | apply keep_drew | apply keep_alloc) | exact HK.out)⟩
        · rw [if_neg c8] at H
          have c8b0 : decide ((s0_0.length : Int) ≤ x8_1) = false := decide_eq_false c8
          clear c8
          by_cases c12 : 0 ≤ x8_1
          · rw [if_pos c12] at H
            have c12b0 : decide (0 ≤ x8_1) = true := decide_eq_true c12
            clear c12
            by_cases c13 : x8_1 < (s0_0.length : Int)
            · rw [if_pos c13] at H
              have c13b0 : decide (x8_1 < (s0_0.length : Int)) = true := decide_eq_true c13
              clear c13
              have HC14 := Aside0.mk H
              clear H
              obtain ⟨ASz15_0, cSz15_0, HGz15, hgz15, HSz15_0⟩ := HI0.out
              have hcz15_0 := cellS54_0 HGz15
              have hcz15_1 := cellS54_1 HGz15
              have hcz15_2 := cellS54_2 HGz15
              have hcz15_3 := cellS54_3 HGz15
              have hcz15_4 := cellS54_4 HGz15
              have hfz15_1 := blk_frozen HGz15 1
              have hfz15_2 := blk_frozen HGz15 2
              have hfz15_3 := blk_frozen HGz15 3
              have hfz15_4 := blk_frozen HGz15 4
              clear HGz15 hgz15
              have p217 : 0 ≤ (x8_1 : Int) := of_decide_eq_true (by first | (with_reducible assumption) | assumption)
              have q217 : x8_1 < (s0_0.length : Int) := of_decide_eq_true (by first | (with_reducible assumption) | assumption)
              obtain ⟨ad217, e217, hx217_0⟩ := Kd.at_int HSz15_0 x8_1 p217 q217
              cases e217
              replace hx217_0 := pw_cell_below HB.out hx217_0
              replace p217 := eq_true p217
              replace q217 := eq_true q217
              go_upto_region 10 with (fail)
              go_cut [58] (fun v58 wc => ∃ (kq : Nat) (x58_13 : Bool), v58 = .bool x58_13 ∧ Aside0 (pledgeref1_Reader_Num.j1 kq a1 a2 x7_1 x8_1 (rd s0_0 x8_1) (wrap64 (x8_1 - x1001_1)) x58_13 s0_0 x1001_1 x1002_1 x1003_1 x1004_1 = some (r1, r2, r3, r4, r5)) ∧ Aside0 (kq ≤ k1) ∧ Aside0 (IsS54 w0 wc g s0_0 x1001_1 x1002_1 x1003_1 x1004_1) ∧ Aside0 (KeepBut w wc g none) ∧ Aside0 (Below w0.heap.size w0 wc))
              case first =>
                have H := HC14.out
                clear HC14
                by_cases c16 : (wrap64 (x8_1 - x1001_1)) = 9
                · rw [if_pos c16] at H
                  have c16b0 : ((wrap64 (x8_1 - x1001_1)) == 9) = true := beq_iff_eq.mpr c16
                  have c16b1 : ((wrap64 (x8_1 - x1001_1)) != 9) = false := bne_eq_false_iff_eq.mpr c16
                  clear c16
                  (first | rw [c16b0] | (simp only [i64_w, i32_w]; rw [c16b0]) | skip)
                  by_cases c17 : (rd s0_0 x8_1) > 1
                  · rw [if_pos c17] at H
                    have c17b0 : decide (1 < (rd s0_0 x8_1)) = true := decide_eq_true c17
                    clear c17
                    have H' := Aside0.mk H
                    clear H
                    go_wp2
                    go_meet
                    case rel => exact ⟨_, (true), (by first | rfl | (simp; done) | (simp [*]; done) | (simp [wrap64]; done) | (simp [wrap64]; omega)), H', ⟨by have := HK1.out; first | omega | exact Nat.le_refl _⟩, ⟨by repeat (first | (with_reducible first | exact HI0.out | apply IsS54.alloc | apply IsS54.drewN | apply IsS54.drew | apply IsS54.set_1 | apply IsS54.set_2 | apply IsS54.set_3 | apply IsS54.set_4) | exact HI0.out)⟩, ⟨by repeat (first | (with_reducible first | exact HK.out | apply KeepBut.set_ | apply keep_drewN | apply keep_drew | apply keep_alloc) | exact HK.out)⟩, ⟨by repeat (first | (with_reducible first | exact HB.out | apply below_alloc | apply pw_below_drewN | apply below_drew1 | refine below_set ?_ (IsS54.ge HI0.out)) | exact HB.out)⟩⟩
                  · rw [if_neg c17] at H
                    have c17b0 : decide (1 < (rd s0_0 x8_1)) = false := decide_eq_false c17
                    clear c17
                    by_cases c18 : (wrap64 (x8_1 - x1001_1)) > 0
                    · rw [if_pos c18] at H
                      have c18b0 : decide (0 < (wrap64 (x8_1 - x1001_1))) = true := decide_eq_true c18
                      clear c18
                      have H' := Aside0.mk H
                      clear H
                      go_wp2
                      go_meet
                      case rel => exact ⟨_, (((rd s0_0 x8_1) == 0)), (by first | rfl | (simp; done) | (simp [*]; done) | (simp [wrap64]; done) | (simp [wrap64]; omega)), H', ⟨by have := HK1.out; first | omega | exact Nat.le_refl _⟩, ⟨by repeat (first | (with_reducible first | exact HI0.out | apply IsS54.alloc | apply IsS54.drewN | apply IsS54.drew | apply IsS54.set_1 | apply IsS54.set_2 | apply IsS54.set_3 | apply IsS54.set_4) | exact HI0.out)⟩, ⟨by repeat (first | (with_reducible first | exact HK.out | apply KeepBut.set_ | apply keep_drewN | apply keep_drew | apply keep_alloc) | exact HK.out)⟩, ⟨by repeat (first | (with_reducible first | exact HB.out | apply below_alloc | apply pw_below_drewN | apply below_drew1 | refine below_set ?_ (IsS54.ge HI0.out)) | exact HB.out)⟩⟩
                    · rw [if_neg c18] at H
                      have c18b0 : decide (0 < (wrap64 (x8_1 - x1001_1))) = false := decide_eq_false c18
                      clear c18
                      have H' := Aside0.mk H
                      clear H
                      go_wp2
                      go_meet
                      case rel => exact ⟨_, (false), (by first | rfl | (simp; done) | (simp [*]; done) | (simp [wrap64]; done) | (simp [wrap64]; omega)), H', ⟨by have := HK1.out; first | omega | exact Nat.le_refl _⟩, ⟨by repeat (first | (with_reducible first | exact HI0.out | apply IsS54.alloc | apply IsS54.drewN | apply IsS54.drew | apply IsS54.set_1 | apply IsS54.set_2 | apply IsS54.set_3 | apply IsS54.set_4) | exact HI0.out)⟩, ⟨by repeat (first | (with_reducible first | exact HK.out | apply KeepBut.set_ | apply keep_drewN | apply keep_drew | apply keep_alloc) | exact HK.out)⟩, ⟨by repeat (first | (with_reducible first | exact HB.out | apply below_alloc | apply pw_below_drewN | apply below_drew1 | refine below_set ?_ (IsS54.ge HI0.out)) | exact HB.out)⟩⟩
                · rw [if_neg c16] at H
                  have c16b0 : ((wrap64 (x8_1 - x1001_1)) == 9) = false := beq_eq_false_iff_ne.mpr c16
                  have c16b1 : ((wrap64 (x8_1 - x1001_1)) != 9) = true := bne_iff_ne.mpr c16
                  (first | rw [c16b0] | (simp only [i64_w, i32_w]; rw [c16b0]) | skip)
                  by_cases c19 : (wrap64 (x8_1 - x1001_1)) > 0
                  · rw [if_pos c19] at H
                    have c19b0 : decide (0 < (wrap64 (x8_1 - x1001_1))) = true := decide_eq_true c19
                    clear c19
                    have H' := Aside0.mk H
                    clear H
                    go_wp2
                    go_meet
                    case rel => exact ⟨_, (((rd s0_0 x8_1) == 0)), (by first | rfl | (simp; done) | (simp [*]; done) | (simp [wrap64]; done) | (simp [wrap64]; omega)), H', ⟨by have := HK1.out; first | omega | exact Nat.le_refl _⟩, ⟨by repeat (first | (with_reducible first | exact HI0.out | apply IsS54.alloc | apply IsS54.drewN | apply IsS54.drew | apply IsS54.set_1 | apply IsS54.set_2 | apply IsS54.set_3 | apply IsS54.set_4) | exact HI0.out)⟩, ⟨by repeat (first | (with_reducible first | exact HK.out | apply KeepBut.set_ | apply keep_drewN | apply keep_drew | apply keep_alloc) | exact HK.out)⟩, ⟨by repeat (first | (with_reducible first | exact HB.out | apply below_alloc | apply pw_below_drewN | apply below_drew1 | refine below_set ?_ (IsS54.ge HI0.out)) | exact HB.out)⟩⟩
                  · rw [if_neg c19] at H
                    have c19b0 : decide (0 < (wrap64 (x8_1 - x1001_1))) = false := decide_eq_false c19
                    clear c19
                    have H' := Aside0.mk H
                    clear H
                    go_wp2
                    go_meet
                    case rel => exact ⟨_, (false), (by first | rfl | (simp; done) | (simp [*]; done) | (simp [wrap64]; done) | (simp [wrap64]; omega)), H', ⟨by have := HK1.out; first | omega | exact Nat.le_refl _⟩, ⟨by repeat (first | (with_reducible first | exact HI0.out | apply IsS54.alloc | apply IsS54.drewN | apply IsS54.drew | apply IsS54.set_1 | apply IsS54.set_2 | apply IsS54.set_3 | apply IsS54.set_4) | exact HI0.out)⟩, ⟨by repeat (first | (with_reducible first | exact HK.out | apply KeepBut.set_ | apply keep_drewN | apply keep_drew | apply keep_alloc) | exact HK.out)⟩, ⟨by repeat (first | (with_reducible first | exact HB.out | apply below_alloc | apply pw_below_drewN | apply below_drew1 | refine below_set ?_ (IsS54.ge HI0.out)) | exact HB.out)⟩⟩
              case rest =>
                clear HC14
                try clear c1
                try clear c2
                try clear p2
                try clear q2
                try clear hx2
                try clear c5
                try clear p6
                try clear c8
                try clear c8b0
                try clear c12
                try clear c12b0
                try clear c13
                try clear c13b0
                try clear c16
                try clear c16b0
                try clear c16b1
                try clear c17
                try clear c17b0
                try clear c18
                try clear c18b0
                try clear c19
                try clear c19b0
                try clear hcz10_0
                try clear hcz10_1
                try clear hcz10_2
                try clear hcz10_3
                try clear hcz10_4
                try clear hcz15_0
                try clear hcz15_1
                try clear hcz15_2
                try clear hcz15_3
                try clear hcz15_4
                try clear hcz7_0
                try clear hcz7_1
                try clear hcz7_2
                try clear hcz7_3
                try clear hcz7_4
                try clear hfz10_1
                try clear hfz10_2
                try clear hfz10_3
                try clear hfz10_4
                try clear hfz15_1
                try clear hfz15_2
                try clear hfz15_3
                try clear hfz15_4
                try clear hfz7_1
                try clear hfz7_2
                try clear hfz7_3
                try clear hfz7_4
                try clear hx217_0
                try clear p2
                try clear p217
                try clear q217
                obtain ⟨kq, x58_13, rfl, HA, HJ13, HI0, HK, HB⟩ := hcut
                cases kq with
                | zero => exact absurd HA.out (by simp [pledgeref1_Reader_Num.j1])
                | succ kj13 =>
                  have H := HA.out
                  clear HA
                  simp only [pledgeref1_Reader_Num.j1] at H
                  by_cases c20 : x58_13 = true
                  · subst c20
                    have H1 : ((pledgeref1_Reader_Fail.f s0_0 x1001_1 x1002_1 x1003_1 x1004_1 102 x1001_1).bind fun bt218 => (some (0, bt218.1, bt218.2.1, bt218.2.2.1, bt218.2.2.2))) = some (r1, r2, r3, r4, r5) := by rw [if_pos rfl] at H; exact H
                    clear H
                    have H := H1
                    clear H1
                    replace H := Option.bind_eq_some_iff.mp H
                    obtain ⟨⟨t218, t219, t220, t221⟩, A210, H⟩ := H
                    replace H : (some (0, t218, t219, t220, t221)) = some (r1, r2, r3, r4, r5) := H
                    have A21 := Aside0.mk A210
                    clear A210
                    simp only [Option.some.injEq, Prod.mk.injEq] at H
                    obtain ⟨rfl, rfl, rfl, rfl, rfl⟩ := H
                    obtain ⟨ASz22_0, cSz22_0, HGz22, hgz22, HSz22_0⟩ := HI0.out
                    have hcz22_0 := cellS54_0 HGz22
                    have hcz22_1 := cellS54_1 HGz22
                    have hcz22_2 := cellS54_2 HGz22
                    have hcz22_3 := cellS54_3 HGz22
                    have hcz22_4 := cellS54_4 HGz22
                    have hfz22_1 := blk_frozen HGz22 1
                    have hfz22_2 := blk_frozen HGz22 2
                    have hfz22_3 := blk_frozen HGz22 3
                    have hfz22_4 := blk_frozen HGz22 4
                    clear HGz22 hgz22
                    go_wp2_with (first | ((with_reducible refine gate_callee (f := 26) rfl ?_); refine goesL_ (some 64) rfl rfl Tryd.func26 (by kernel_rfl) rfl #[.pointer (some ⟨g, 0, none⟩), .int .i64 102, .int .i64 x1001_1] rfl (by (try simp only [List.map_toArray, List.map_cons, List.map_nil]); first | done | rfl | (simp only [List.length_drop, List.length_take]; rfl)) ?_; (with_reducible refine (pledgeref1_Reader_Fail.calls g s0_0 x1001_1 x1002_1 x1003_1 x1004_1 102 x1001_1 t218 t219 t220 t221 w0 _ ?side1 ?side2 A21.out).mono ?_); (case side1 => repeat (first | (with_reducible first | exact HI0.out | apply IsS54.alloc | apply IsS54.drewN | apply IsS54.drew | apply IsS54.set_1 | apply IsS54.set_2 | apply IsS54.set_3 | apply IsS54.set_4) | exact HI0.out)); (case side2 => repeat (first | (with_reducible first | exact HB.out | apply below_alloc | apply pw_below_drewN | apply below_drew1 | refine below_set ?_ (IsS54.ge HI0.out)) | exact HB.out)); rintro e w23 ⟨rfl, hi, hb, hk⟩; refine ⟨_, rfl, ?_⟩; have n0_ := Aside0.mk (KeepBut.trans (by repeat (first | (with_reducible first | exact HK.out | apply KeepBut.set_ | apply keep_drewN | apply keep_drew | apply keep_alloc) | exact HK.out)) hk (.inl rfl)); have n1_ := Aside0.mk (hb); have n2_ := Aside0.mk (hi); clear HK; clear HB; clear HI0; have HK := n0_; have HB := n1_; have HI0 := n2_; clear n0_ n1_ n2_; (try clear hb); (try clear hb2); (try clear hk); (try clear hi)))
                    go_ret
                    exact ⟨by first | rfl | (simp [errW_none, errW_some] <;> rfl) | (exfalso; simp_all; done) | (simp [*, errW_none, errW_some] <;> rfl), by repeat (first | (with_reducible first | exact HI0.out | apply IsS54.alloc | apply IsS54.drewN | apply IsS54.drew | apply IsS54.set_1 | apply IsS54.set_2 | apply IsS54.set_3 | apply IsS54.set_4) | exact HI0.out), by repeat (first | (with_reducible first | exact HB.out | apply below_alloc | apply pw_below_drewN | apply below_drew1 | refine below_set ?_ (IsS54.ge HI0.out)) | exact HB.out), by repeat (first | (with_reducible first | exact HK.out | apply KeepBut.set_ | apply keep_drewN | apply keep_drew | apply keep_alloc) | exact HK.out)⟩
                  · replace c20 := Bool.eq_false_iff.mpr c20
                    subst c20
                    have H1 : (if 0 ≤ (IntKind.u64.wrap (wrap64 (7 * (wrap64 (x8_1 - x1001_1))))) then (if (rd s0_0 x8_1) < 128 then (if (Go.bits .and .u64 (Go.bits .or .u64 x7_1 (shl .u64 (IntKind.u64.wrap (Go.bits .and .u8 (rd s0_0 x8_1) 127)) (IntKind.u64.wrap (wrap64 (7 * (wrap64 (x8_1 - x1001_1))))))) 1) = 1 then (if (Go.bits .xor .i64 (-1) (wrap64 ((Go.bits .or .u64 x7_1 (shl .u64 (IntKind.u64.wrap (Go.bits .and .u8 (rd s0_0 x8_1) 127)) (IntKind.u64.wrap (wrap64 (7 * (wrap64 (x8_1 - x1001_1))))))) / 2))) < a1 then ((pledgeref1_Reader_Fail.f s0_0 x1001_1 x1002_1 x1003_1 x1004_1 103 x1001_1).bind fun bt222 => (some (0, bt222.1, bt222.2.1, bt222.2.2.1, bt222.2.2.2))) else (if (Go.bits .xor .i64 (-1) (wrap64 ((Go.bits .or .u64 x7_1 (shl .u64 (IntKind.u64.wrap (Go.bits .and .u8 (rd s0_0 x8_1) 127)) (IntKind.u64.wrap (wrap64 (7 * (wrap64 (x8_1 - x1001_1))))))) / 2))) > a2 then ((pledgeref1_Reader_Fail.f s0_0 x1001_1 x1002_1 x1003_1 x1004_1 103 x1001_1).bind fun bt226 => (some (0, bt226.1, bt226.2.1, bt226.2.2.1, bt226.2.2.2))) else (some (Go.bits .xor .i64 (-1) (wrap64 ((Go.bits .or .u64 x7_1 (shl .u64 (IntKind.u64.wrap (Go.bits .and .u8 (rd s0_0 x8_1) 127)) (IntKind.u64.wrap (wrap64 (7 * (wrap64 (x8_1 - x1001_1))))))) / 2)), wrap64 (x8_1 + 1), x1002_1, x1003_1, x1004_1)))) else (if (wrap64 ((Go.bits .or .u64 x7_1 (shl .u64 (IntKind.u64.wrap (Go.bits .and .u8 (rd s0_0 x8_1) 127)) (IntKind.u64.wrap (wrap64 (7 * (wrap64 (x8_1 - x1001_1))))))) / 2)) < a1 then ((pledgeref1_Reader_Fail.f s0_0 x1001_1 x1002_1 x1003_1 x1004_1 103 x1001_1).bind fun bt230 => (some (0, bt230.1, bt230.2.1, bt230.2.2.1, bt230.2.2.2))) else (if (wrap64 ((Go.bits .or .u64 x7_1 (shl .u64 (IntKind.u64.wrap (Go.bits .and .u8 (rd s0_0 x8_1) 127)) (IntKind.u64.wrap (wrap64 (7 * (wrap64 (x8_1 - x1001_1))))))) / 2)) > a2 then ((pledgeref1_Reader_Fail.f s0_0 x1001_1 x1002_1 x1003_1 x1004_1 103 x1001_1).bind fun bt234 => (some (0, bt234.1, bt234.2.1, bt234.2.2.1, bt234.2.2.2))) else (some (wrap64 ((Go.bits .or .u64 x7_1 (shl .u64 (IntKind.u64.wrap (Go.bits .and .u8 (rd s0_0 x8_1) 127)) (IntKind.u64.wrap (wrap64 (7 * (wrap64 (x8_1 - x1001_1))))))) / 2), wrap64 (x8_1 + 1), x1002_1, x1003_1, x1004_1))))) else (pledgeref1_Reader_Num.l0 kj13 a1 a2 (Go.bits .or .u64 x7_1 (shl .u64 (IntKind.u64.wrap (Go.bits .and .u8 (rd s0_0 x8_1) 127)) (IntKind.u64.wrap (wrap64 (7 * (wrap64 (x8_1 - x1001_1))))))) (wrap64 (x8_1 + 1)) s0_0 x1001_1 x1002_1 x1003_1 x1004_1)) else (none)) = some (r1, r2, r3, r4, r5) := by rw [if_neg (show ¬ (false = true) by decide)] at H; exact H
                    clear H
                    have H := H1
                    clear H1
                    obtain ⟨ji24, hji24⟩ : ∃ j_ : Int, (IntKind.u64.wrap (wrap64 (7 * (wrap64 (x8_1 - x1001_1))))) = j_ := ⟨_, rfl⟩
                    replace H : (if 0 ≤ (ji24) then (if (rd s0_0 x8_1) < 128 then (if (Go.bits .and .u64 (Go.bits .or .u64 x7_1 (shl .u64 (IntKind.u64.wrap (Go.bits .and .u8 (rd s0_0 x8_1) 127)) (ji24))) 1) = 1 then (if (Go.bits .xor .i64 (-1) (wrap64 ((Go.bits .or .u64 x7_1 (shl .u64 (IntKind.u64.wrap (Go.bits .and .u8 (rd s0_0 x8_1) 127)) (ji24))) / 2))) < a1 then ((pledgeref1_Reader_Fail.f s0_0 x1001_1 x1002_1 x1003_1 x1004_1 103 x1001_1).bind fun bt222 => (some (0, bt222.1, bt222.2.1, bt222.2.2.1, bt222.2.2.2))) else (if (Go.bits .xor .i64 (-1) (wrap64 ((Go.bits .or .u64 x7_1 (shl .u64 (IntKind.u64.wrap (Go.bits .and .u8 (rd s0_0 x8_1) 127)) (ji24))) / 2))) > a2 then ((pledgeref1_Reader_Fail.f s0_0 x1001_1 x1002_1 x1003_1 x1004_1 103 x1001_1).bind fun bt226 => (some (0, bt226.1, bt226.2.1, bt226.2.2.1, bt226.2.2.2))) else (some (Go.bits .xor .i64 (-1) (wrap64 ((Go.bits .or .u64 x7_1 (shl .u64 (IntKind.u64.wrap (Go.bits .and .u8 (rd s0_0 x8_1) 127)) (ji24))) / 2)), wrap64 (x8_1 + 1), x1002_1, x1003_1, x1004_1)))) else (if (wrap64 ((Go.bits .or .u64 x7_1 (shl .u64 (IntKind.u64.wrap (Go.bits .and .u8 (rd s0_0 x8_1) 127)) (ji24))) / 2)) < a1 then ((pledgeref1_Reader_Fail.f s0_0 x1001_1 x1002_1 x1003_1 x1004_1 103 x1001_1).bind fun bt230 => (some (0, bt230.1, bt230.2.1, bt230.2.2.1, bt230.2.2.2))) else (if (wrap64 ((Go.bits .or .u64 x7_1 (shl .u64 (IntKind.u64.wrap (Go.bits .and .u8 (rd s0_0 x8_1) 127)) (ji24))) / 2)) > a2 then ((pledgeref1_Reader_Fail.f s0_0 x1001_1 x1002_1 x1003_1 x1004_1 103 x1001_1).bind fun bt234 => (some (0, bt234.1, bt234.2.1, bt234.2.2.1, bt234.2.2.2))) else (some (wrap64 ((Go.bits .or .u64 x7_1 (shl .u64 (IntKind.u64.wrap (Go.bits .and .u8 (rd s0_0 x8_1) 127)) (ji24))) / 2), wrap64 (x8_1 + 1), x1002_1, x1003_1, x1004_1))))) else (pledgeref1_Reader_Num.l0 kj13 a1 a2 (Go.bits .or .u64 x7_1 (shl .u64 (IntKind.u64.wrap (Go.bits .and .u8 (rd s0_0 x8_1) 127)) (ji24))) (wrap64 (x8_1 + 1)) s0_0 x1001_1 x1002_1 x1003_1 x1004_1)) else (none)) = some (r1, r2, r3, r4, r5) := by first | (rw [hji24] at H; exact H) | (simp only [hji24] at H ⊢; exact H)
                    by_cases c25 : 0 ≤ (ji24)
                    · rw [if_pos c25] at H
                      have c25b0 := eq_true c25
                      have c25b1 : decide (0 ≤ (ji24)) = true := decide_eq_true c25
                      clear c25
                      obtain ⟨ji26, hji26⟩ : ∃ j_ : Int, (shl .u64 (IntKind.u64.wrap (Go.bits .and .u8 (rd s0_0 x8_1) 127)) (ji24)) = j_ := ⟨_, rfl⟩
                      replace H : (if (rd s0_0 x8_1) < 128 then (if (Go.bits .and .u64 (Go.bits .or .u64 x7_1 (ji26)) 1) = 1 then (if (Go.bits .xor .i64 (-1) (wrap64 ((Go.bits .or .u64 x7_1 (ji26)) / 2))) < a1 then ((pledgeref1_Reader_Fail.f s0_0 x1001_1 x1002_1 x1003_1 x1004_1 103 x1001_1).bind fun bt222 => (some (0, bt222.1, bt222.2.1, bt222.2.2.1, bt222.2.2.2))) else (if (Go.bits .xor .i64 (-1) (wrap64 ((Go.bits .or .u64 x7_1 (ji26)) / 2))) > a2 then ((pledgeref1_Reader_Fail.f s0_0 x1001_1 x1002_1 x1003_1 x1004_1 103 x1001_1).bind fun bt226 => (some (0, bt226.1, bt226.2.1, bt226.2.2.1, bt226.2.2.2))) else (some (Go.bits .xor .i64 (-1) (wrap64 ((Go.bits .or .u64 x7_1 (ji26)) / 2)), wrap64 (x8_1 + 1), x1002_1, x1003_1, x1004_1)))) else (if (wrap64 ((Go.bits .or .u64 x7_1 (ji26)) / 2)) < a1 then ((pledgeref1_Reader_Fail.f s0_0 x1001_1 x1002_1 x1003_1 x1004_1 103 x1001_1).bind fun bt230 => (some (0, bt230.1, bt230.2.1, bt230.2.2.1, bt230.2.2.2))) else (if (wrap64 ((Go.bits .or .u64 x7_1 (ji26)) / 2)) > a2 then ((pledgeref1_Reader_Fail.f s0_0 x1001_1 x1002_1 x1003_1 x1004_1 103 x1001_1).bind fun bt234 => (some (0, bt234.1, bt234.2.1, bt234.2.2.1, bt234.2.2.2))) else (some (wrap64 ((Go.bits .or .u64 x7_1 (ji26)) / 2), wrap64 (x8_1 + 1), x1002_1, x1003_1, x1004_1))))) else (pledgeref1_Reader_Num.l0 kj13 a1 a2 (Go.bits .or .u64 x7_1 (ji26)) (wrap64 (x8_1 + 1)) s0_0 x1001_1 x1002_1 x1003_1 x1004_1)) = some (r1, r2, r3, r4, r5) := by first | (rw [hji26] at H; exact H) | (simp only [hji26] at H ⊢; exact H)
                      have hji26_ : (IntKind.u64.wrap ((IntKind.u64.wrap (Go.bits .and .u8 (rd s0_0 x8_1) 127)) * 2 ^ min (ji24).toNat 64)) = ji26 := hji26
                      have hji26z : (ji24) ≤ 64 → (IntKind.u64.wrap ((IntKind.u64.wrap (Go.bits .and .u8 (rd s0_0 x8_1) 127)) * 2 ^ (ji24).toNat)) = ji26 := shl_small hji26
                      by_cases c27 : (rd s0_0 x8_1) < 128
                      · rw [if_pos c27] at H
                        have c27b0 : decide ((rd s0_0 x8_1) < 128) = true := decide_eq_true c27
                        clear c27
                        by_cases c28 : (Go.bits .and .u64 (Go.bits .or .u64 x7_1 (ji26)) 1) = 1
                        · rw [if_pos c28] at H
                          have c28b0 : ((Go.bits .and .u64 (Go.bits .or .u64 x7_1 (ji26)) 1) == 1) = true := beq_iff_eq.mpr c28
                          have c28b1 : ((Go.bits .and .u64 (Go.bits .or .u64 x7_1 (ji26)) 1) != 1) = false := bne_eq_false_iff_eq.mpr c28
                          clear c28
                          by_cases c29 : (Go.bits .xor .i64 (-1) (wrap64 ((Go.bits .or .u64 x7_1 (ji26)) / 2))) < a1
                          · rw [if_pos c29] at H
                            have c29b0 : decide ((Go.bits .xor .i64 (-1) (wrap64 ((Go.bits .or .u64 x7_1 (ji26)) / 2))) < a1) = true := decide_eq_true c29
                            clear c29
                            replace H := Option.bind_eq_some_iff.mp H
                            obtain ⟨⟨t222, t223, t224, t225⟩, A300, H⟩ := H
                            replace H : (some (0, t222, t223, t224, t225)) = some (r1, r2, r3, r4, r5) := H
                            have A30 := Aside0.mk A300
                            clear A300
                            simp only [Option.some.injEq, Prod.mk.injEq] at H
                            obtain ⟨rfl, rfl, rfl, rfl, rfl⟩ := H
                            obtain ⟨ASz31_0, cSz31_0, HGz31, hgz31, HSz31_0⟩ := HI0.out
                            have hcz31_0 := cellS54_0 HGz31
                            have hcz31_1 := cellS54_1 HGz31
                            have hcz31_2 := cellS54_2 HGz31
                            have hcz31_3 := cellS54_3 HGz31
                            have hcz31_4 := cellS54_4 HGz31
                            have hfz31_1 := blk_frozen HGz31 1
                            have hfz31_2 := blk_frozen HGz31 2
                            have hfz31_3 := blk_frozen HGz31 3
                            have hfz31_4 := blk_frozen HGz31 4
                            clear HGz31 hgz31
                            go_wp2_with (first | ((with_reducible refine gate_callee (f := 26) rfl ?_); refine goesL_ (some 99) rfl rfl Tryd.func26 (by kernel_rfl) rfl #[.pointer (some ⟨g, 0, none⟩), .int .i64 103, .int .i64 x1001_1] rfl (by (try simp only [List.map_toArray, List.map_cons, List.map_nil]); first | done | rfl | (simp only [List.length_drop, List.length_take]; rfl)) ?_; (with_reducible refine (pledgeref1_Reader_Fail.calls g s0_0 x1001_1 x1002_1 x1003_1 x1004_1 103 x1001_1 t222 t223 t224 t225 w0 _ ?side1 ?side2 A30.out).mono ?_); (case side1 => repeat (first | (with_reducible first | exact HI0.out | apply IsS54.alloc | apply IsS54.drewN | apply IsS54.drew | apply IsS54.set_1 | apply IsS54.set_2 | apply IsS54.set_3 | apply IsS54.set_4) | exact HI0.out)); (case side2 => repeat (first | (with_reducible first | exact HB.out | apply below_alloc | apply pw_below_drewN | apply below_drew1 | refine below_set ?_ (IsS54.ge HI0.out)) | exact HB.out)); rintro e w32 ⟨rfl, hi, hb, hk⟩; refine ⟨_, rfl, ?_⟩; have n0_ := Aside0.mk (KeepBut.trans (by repeat (first | (with_reducible first | exact HK.out | apply KeepBut.set_ | apply keep_drewN | apply keep_drew | apply keep_alloc) | exact HK.out)) hk (.inl rfl)); have n1_ := Aside0.mk (hb); have n2_ := Aside0.mk (hi); clear HK; clear HB; clear HI0; have HK := n0_; have HB := n1_; have HI0 := n2_; clear n0_ n1_ n2_; (try clear hb); (try clear hb2); (try clear hk); (try clear hi)))
                            go_ret
                            exact ⟨by first | rfl | (simp [errW_none, errW_some] <;> rfl) | (simp only [← hji24, ← hji26]; first | rfl | (simp [errW_none, errW_some] <;> rfl)) | (exfalso; simp_all; done) | (simp [*, errW_none, errW_some] <;> rfl), by repeat (first | (with_reducible first | exact HI0.out | apply IsS54.alloc | apply IsS54.drewN | apply IsS54.drew | apply IsS54.set_1 | apply IsS54.set_2 | apply IsS54.set_3 | apply IsS54.set_4) | exact HI0.out), by repeat (first | (with_reducible first | exact HB.out | apply below_alloc | apply pw_below_drewN | apply below_drew1 | refine below_set ?_ (IsS54.ge HI0.out)) | exact HB.out), by repeat (first | (with_reducible first | exact HK.out | apply KeepBut.set_ | apply keep_drewN | apply keep_drew | apply keep_alloc) | exact HK.out)⟩
                          · rw [if_neg c29] at H
                            have c29b0 : decide ((Go.bits .xor .i64 (-1) (wrap64 ((Go.bits .or .u64 x7_1 (ji26)) / 2))) < a1) = false := decide_eq_false c29
                            clear c29
                            by_cases c33 : (Go.bits .xor .i64 (-1) (wrap64 ((Go.bits .or .u64 x7_1 (ji26)) / 2))) > a2
                            · rw [if_pos c33] at H
                              have c33b0 : decide (a2 < (Go.bits .xor .i64 (-1) (wrap64 ((Go.bits .or .u64 x7_1 (ji26)) / 2)))) = true := decide_eq_true c33
                              clear c33
                              replace H := Option.bind_eq_some_iff.mp H
                              obtain ⟨⟨t226, t227, t228, t229⟩, A340, H⟩ := H
                              replace H : (some (0, t226, t227, t228, t229)) = some (r1, r2, r3, r4, r5) := H
                              have A34 := Aside0.mk A340
                              clear A340
                              simp only [Option.some.injEq, Prod.mk.injEq] at H
                              obtain ⟨rfl, rfl, rfl, rfl, rfl⟩ := H
                              obtain ⟨ASz35_0, cSz35_0, HGz35, hgz35, HSz35_0⟩ := HI0.out
                              have hcz35_0 := cellS54_0 HGz35
                              have hcz35_1 := cellS54_1 HGz35
                              have hcz35_2 := cellS54_2 HGz35
                              have hcz35_3 := cellS54_3 HGz35
                              have hcz35_4 := cellS54_4 HGz35
                              have hfz35_1 := blk_frozen HGz35 1
                              have hfz35_2 := blk_frozen HGz35 2
                              have hfz35_3 := blk_frozen HGz35 3
                              have hfz35_4 := blk_frozen HGz35 4
                              clear HGz35 hgz35
                              go_wp2_with (first | ((with_reducible refine gate_callee (f := 26) rfl ?_); refine goesL_ (some 99) rfl rfl Tryd.func26 (by kernel_rfl) rfl #[.pointer (some ⟨g, 0, none⟩), .int .i64 103, .int .i64 x1001_1] rfl (by (try simp only [List.map_toArray, List.map_cons, List.map_nil]); first | done | rfl | (simp only [List.length_drop, List.length_take]; rfl)) ?_; (with_reducible refine (pledgeref1_Reader_Fail.calls g s0_0 x1001_1 x1002_1 x1003_1 x1004_1 103 x1001_1 t226 t227 t228 t229 w0 _ ?side1 ?side2 A34.out).mono ?_); (case side1 => repeat (first | (with_reducible first | exact HI0.out | apply IsS54.alloc | apply IsS54.drewN | apply IsS54.drew | apply IsS54.set_1 | apply IsS54.set_2 | apply IsS54.set_3 | apply IsS54.set_4) | exact HI0.out)); (case side2 => repeat (first | (with_reducible first | exact HB.out | apply below_alloc | apply pw_below_drewN | apply below_drew1 | refine below_set ?_ (IsS54.ge HI0.out)) | exact HB.out)); rintro e w36 ⟨rfl, hi, hb, hk⟩; refine ⟨_, rfl, ?_⟩; have n0_ := Aside0.mk (KeepBut.trans (by repeat (first | (with_reducible first | exact HK.out | apply KeepBut.set_ | apply keep_drewN | apply keep_drew | apply keep_alloc) | exact HK.out)) hk (.inl rfl)); have n1_ := Aside0.mk (hb); have n2_ := Aside0.mk (hi); clear HK; clear HB; clear HI0; have HK := n0_; have HB := n1_; have HI0 := n2_; clear n0_ n1_ n2_; (try clear hb); (try clear hb2); (try clear hk); (try clear hi)))
                              go_ret
                              exact ⟨by first | rfl | (simp [errW_none, errW_some] <;> rfl) | (simp only [← hji24, ← hji26]; first | rfl | (simp [errW_none, errW_some] <;> rfl)) | (exfalso; simp_all; done) | (simp [*, errW_none, errW_some] <;> rfl), by repeat (first | (with_reducible first | exact HI0.out | apply IsS54.alloc | apply IsS54.drewN | apply IsS54.drew | apply IsS54.set_1 | apply IsS54.set_2 | apply IsS54.set_3 | apply IsS54.set_4) | exact HI0.out), by repeat (first | (with_reducible first | exact HB.out | apply below_alloc | apply pw_below_drewN | apply below_drew1 | refine below_set ?_ (IsS54.ge HI0.out)) | exact HB.out), by repeat (first | (with_reducible first | exact HK.out | apply KeepBut.set_ | apply keep_drewN | apply keep_drew | apply keep_alloc) | exact HK.out)⟩
                            · rw [if_neg c33] at H
                              have c33b0 : decide (a2 < (Go.bits .xor .i64 (-1) (wrap64 ((Go.bits .or .u64 x7_1 (ji26)) / 2)))) = false := decide_eq_false c33
                              clear c33
                              simp only [Option.some.injEq, Prod.mk.injEq] at H
                              obtain ⟨rfl, rfl, rfl, rfl, rfl⟩ := H
                              obtain ⟨ASz37_0, cSz37_0, HGz37, hgz37, HSz37_0⟩ := HI0.out
                              have hcz37_0 := cellS54_0 HGz37
                              have hcz37_1 := cellS54_1 HGz37
                              have hcz37_2 := cellS54_2 HGz37
                              have hcz37_3 := cellS54_3 HGz37
                              have hcz37_4 := cellS54_4 HGz37
                              have hfz37_1 := blk_frozen HGz37 1
                              have hfz37_2 := blk_frozen HGz37 2
                              have hfz37_3 := blk_frozen HGz37 3
                              have hfz37_4 := blk_frozen HGz37 4
                              clear HGz37 hgz37
                              go_wp2
                              go_ret
                              exact ⟨by first | rfl | (simp [errW_none, errW_some] <;> rfl) | (simp only [← hji24, ← hji26]; first | rfl | (simp [errW_none, errW_some] <;> rfl)) | (exfalso; simp_all; done) | (simp [*, errW_none, errW_some] <;> rfl), by repeat (first | (with_reducible first | exact HI0.out | apply IsS54.alloc | apply IsS54.drewN | apply IsS54.drew | apply IsS54.set_1 | apply IsS54.set_2 | apply IsS54.set_3 | apply IsS54.set_4) | exact HI0.out), by repeat (first | (with_reducible first | exact HB.out | apply below_alloc | apply pw_below_drewN | apply below_drew1 | refine below_set ?_ (IsS54.ge HI0.out)) | exact HB.out), by repeat (first | (with_reducible first | exact HK.out | apply KeepBut.set_ | apply keep_drewN | apply keep_drew | apply keep_alloc) | exact HK.out)⟩
                        · rw [if_neg c28] at H
                          have c28b0 : ((Go.bits .and .u64 (Go.bits .or .u64 x7_1 (ji26)) 1) == 1) = false := beq_eq_false_iff_ne.mpr c28
                          have c28b1 : ((Go.bits .and .u64 (Go.bits .or .u64 x7_1 (ji26)) 1) != 1) = true := bne_iff_ne.mpr c28
                          by_cases c38 : (wrap64 ((Go.bits .or .u64 x7_1 (ji26)) / 2)) < a1
                          · rw [if_pos c38] at H
                            have c38b0 : decide ((wrap64 ((Go.bits .or .u64 x7_1 (ji26)) / 2)) < a1) = true := decide_eq_true c38
                            clear c38
                            replace H := Option.bind_eq_some_iff.mp H
                            obtain ⟨⟨t230, t231, t232, t233⟩, A390, H⟩ := H
                            replace H : (some (0, t230, t231, t232, t233)) = some (r1, r2, r3, r4, r5) := H
                            have A39 := Aside0.mk A390
                            clear A390
                            simp only [Option.some.injEq, Prod.mk.injEq] at H
                            obtain ⟨rfl, rfl, rfl, rfl, rfl⟩ := H
                            obtain ⟨ASz40_0, cSz40_0, HGz40, hgz40, HSz40_0⟩ := HI0.out
                            have hcz40_0 := cellS54_0 HGz40
                            have hcz40_1 := cellS54_1 HGz40
                            have hcz40_2 := cellS54_2 HGz40
                            have hcz40_3 := cellS54_3 HGz40
                            have hcz40_4 := cellS54_4 HGz40
                            have hfz40_1 := blk_frozen HGz40 1
                            have hfz40_2 := blk_frozen HGz40 2
                            have hfz40_3 := blk_frozen HGz40 3
                            have hfz40_4 := blk_frozen HGz40 4
                            clear HGz40 hgz40
                            go_wp2_with (first | ((with_reducible refine gate_callee (f := 26) rfl ?_); refine goesL_ (some 99) rfl rfl Tryd.func26 (by kernel_rfl) rfl #[.pointer (some ⟨g, 0, none⟩), .int .i64 103, .int .i64 x1001_1] rfl (by (try simp only [List.map_toArray, List.map_cons, List.map_nil]); first | done | rfl | (simp only [List.length_drop, List.length_take]; rfl)) ?_; (with_reducible refine (pledgeref1_Reader_Fail.calls g s0_0 x1001_1 x1002_1 x1003_1 x1004_1 103 x1001_1 t230 t231 t232 t233 w0 _ ?side1 ?side2 A39.out).mono ?_); (case side1 => repeat (first | (with_reducible first | exact HI0.out | apply IsS54.alloc | apply IsS54.drewN | apply IsS54.drew | apply IsS54.set_1 | apply IsS54.set_2 | apply IsS54.set_3 | apply IsS54.set_4) | exact HI0.out)); (case side2 => repeat (first | (with_reducible first | exact HB.out | apply below_alloc | apply pw_below_drewN | apply below_drew1 | refine below_set ?_ (IsS54.ge HI0.out)) | exact HB.out)); rintro e w41 ⟨rfl, hi, hb, hk⟩; refine ⟨_, rfl, ?_⟩; have n0_ := Aside0.mk (KeepBut.trans (by repeat (first | (with_reducible first | exact HK.out | apply KeepBut.set_ | apply keep_drewN | apply keep_drew | apply keep_alloc) | exact HK.out)) hk (.inl rfl)); have n1_ := Aside0.mk (hb); have n2_ := Aside0.mk (hi); clear HK; clear HB; clear HI0; have HK := n0_; have HB := n1_; have HI0 := n2_; clear n0_ n1_ n2_; (try clear hb); (try clear hb2); (try clear hk); (try clear hi)))
                            go_ret
                            exact ⟨by first | rfl | (simp [errW_none, errW_some] <;> rfl) | (simp only [← hji24, ← hji26]; first | rfl | (simp [errW_none, errW_some] <;> rfl)) | (exfalso; simp_all; done) | (simp [*, errW_none, errW_some] <;> rfl), by repeat (first | (with_reducible first | exact HI0.out | apply IsS54.alloc | apply IsS54.drewN | apply IsS54.drew | apply IsS54.set_1 | apply IsS54.set_2 | apply IsS54.set_3 | apply IsS54.set_4) | exact HI0.out), by repeat (first | (with_reducible first | exact HB.out | apply below_alloc | apply pw_below_drewN | apply below_drew1 | refine below_set ?_ (IsS54.ge HI0.out)) | exact HB.out), by repeat (first | (with_reducible first | exact HK.out | apply KeepBut.set_ | apply keep_drewN | apply keep_drew | apply keep_alloc) | exact HK.out)⟩
                          · rw [if_neg c38] at H
                            have c38b0 : decide ((wrap64 ((Go.bits .or .u64 x7_1 (ji26)) / 2)) < a1) = false := decide_eq_false c38
                            clear c38
                            by_cases c42 : (wrap64 ((Go.bits .or .u64 x7_1 (ji26)) / 2)) > a2
                            · rw [if_pos c42] at H
                              have c42b0 : decide (a2 < (wrap64 ((Go.bits .or .u64 x7_1 (ji26)) / 2))) = true := decide_eq_true c42
                              clear c42
                              replace H := Option.bind_eq_some_iff.mp H
                              obtain ⟨⟨t234, t235, t236, t237⟩, A430, H⟩ := H
                              replace H : (some (0, t234, t235, t236, t237)) = some (r1, r2, r3, r4, r5) := H
                              have A43 := Aside0.mk A430
                              clear A430
                              simp only [Option.some.injEq, Prod.mk.injEq] at H
                              obtain ⟨rfl, rfl, rfl, rfl, rfl⟩ := H
                              obtain ⟨ASz44_0, cSz44_0, HGz44, hgz44, HSz44_0⟩ := HI0.out
                              have hcz44_0 := cellS54_0 HGz44
                              have hcz44_1 := cellS54_1 HGz44
                              have hcz44_2 := cellS54_2 HGz44
                              have hcz44_3 := cellS54_3 HGz44
                              have hcz44_4 := cellS54_4 HGz44
                              have hfz44_1 := blk_frozen HGz44 1
                              have hfz44_2 := blk_frozen HGz44 2
                              have hfz44_3 := blk_frozen HGz44 3
                              have hfz44_4 := blk_frozen HGz44 4
                              clear HGz44 hgz44
                              go_wp2_with (first | ((with_reducible refine gate_callee (f := 26) rfl ?_); refine goesL_ (some 99) rfl rfl Tryd.func26 (by kernel_rfl) rfl #[.pointer (some ⟨g, 0, none⟩), .int .i64 103, .int .i64 x1001_1] rfl (by (try simp only [List.map_toArray, List.map_cons, List.map_nil]); first | done | rfl | (simp only [List.length_drop, List.length_take]; rfl)) ?_; (with_reducible refine (pledgeref1_Reader_Fail.calls g s0_0 x1001_1 x1002_1 x1003_1 x1004_1 103 x1001_1 t234 t235 t236 t237 w0 _ ?side1 ?side2 A43.out).mono ?_); (case side1 => repeat (first | (with_reducible first | exact HI0.out | apply IsS54.alloc | apply IsS54.drewN | apply IsS54.drew | apply IsS54.set_1 | apply IsS54.set_2 | apply IsS54.set_3 | apply IsS54.set_4) | exact HI0.out)); (case side2 => repeat (first | (with_reducible first | exact HB.out | apply below_alloc | apply pw_below_drewN | apply below_drew1 | refine below_set ?_ (IsS54.ge HI0.out)) | exact HB.out)); rintro e w45 ⟨rfl, hi, hb, hk⟩; refine ⟨_, rfl, ?_⟩; have n0_ := Aside0.mk (KeepBut.trans (by repeat (first | (with_reducible first | exact HK.out | apply KeepBut.set_ | apply keep_drewN | apply keep_drew | apply keep_alloc) | exact HK.out)) hk (.inl rfl)); have n1_ := Aside0.mk (hb); have n2_ := Aside0.mk (hi); clear HK; clear HB; clear HI0; have HK := n0_; have HB := n1_; have HI0 := n2_; clear n0_ n1_ n2_; (try clear hb); (try clear hb2); (try clear hk); (try clear hi)))
                              go_ret
                              exact ⟨by first | rfl | (simp [errW_none, errW_some] <;> rfl) | (simp only [← hji24, ← hji26]; first | rfl | (simp [errW_none, errW_some] <;> rfl)) | (exfalso; simp_all; done) | (simp [*, errW_none, errW_some] <;> rfl), by repeat (first | (with_reducible first | exact HI0.out | apply IsS54.alloc | apply IsS54.drewN | apply IsS54.drew | apply IsS54.set_1 | apply IsS54.set_2 | apply IsS54.set_3 | apply IsS54.set_4) | exact HI0.out), by repeat (first | (with_reducible first | exact HB.out | apply below_alloc | apply pw_below_drewN | apply below_drew1 | refine below_set ?_ (IsS54.ge HI0.out)) | exact HB.out), by repeat (first | (with_reducible first | exact HK.out | apply KeepBut.set_ | apply keep_drewN | apply keep_drew | apply keep_alloc) | exact HK.out)⟩
                            · rw [if_neg c42] at H
                              have c42b0 : decide (a2 < (wrap64 ((Go.bits .or .u64 x7_1 (ji26)) / 2))) = false := decide_eq_false c42
                              clear c42
                              simp only [Option.some.injEq, Prod.mk.injEq] at H
                              obtain ⟨rfl, rfl, rfl, rfl, rfl⟩ := H
                              obtain ⟨ASz46_0, cSz46_0, HGz46, hgz46, HSz46_0⟩ := HI0.out
                              have hcz46_0 := cellS54_0 HGz46
                              have hcz46_1 := cellS54_1 HGz46
                              have hcz46_2 := cellS54_2 HGz46
                              have hcz46_3 := cellS54_3 HGz46
                              have hcz46_4 := cellS54_4 HGz46
                              have hfz46_1 := blk_frozen HGz46 1
                              have hfz46_2 := blk_frozen HGz46 2
                              have hfz46_3 := blk_frozen HGz46 3
                              have hfz46_4 := blk_frozen HGz46 4
                              clear HGz46 hgz46
                              go_wp2
                              go_ret
                              exact ⟨by first | rfl | (simp [errW_none, errW_some] <;> rfl) | (simp only [← hji24, ← hji26]; first | rfl | (simp [errW_none, errW_some] <;> rfl)) | (exfalso; simp_all; done) | (simp [*, errW_none, errW_some] <;> rfl), by repeat (first | (with_reducible first | exact HI0.out | apply IsS54.alloc | apply IsS54.drewN | apply IsS54.drew | apply IsS54.set_1 | apply IsS54.set_2 | apply IsS54.set_3 | apply IsS54.set_4) | exact HI0.out), by repeat (first | (with_reducible first | exact HB.out | apply below_alloc | apply pw_below_drewN | apply below_drew1 | refine below_set ?_ (IsS54.ge HI0.out)) | exact HB.out), by repeat (first | (with_reducible first | exact HK.out | apply KeepBut.set_ | apply keep_drewN | apply keep_drew | apply keep_alloc) | exact HK.out)⟩
                      · rw [if_neg c27] at H
                        have c27b0 : decide ((rd s0_0 x8_1) < 128) = false := decide_eq_false c27
                        clear c27
                        have H' := Aside0.mk H
                        clear H
                        go_wp2
                        go_roundg kj13
                        case measure => have := HK1.out; have := HJ13.out; omega
                        case rel => exact ⟨(Go.bits .or .u64 x7_1 (ji26)), (wrap64 (x8_1 + 1)), (x1001_1), (x1002_1), (x1003_1), (x1004_1), (by first | rfl | (simp; done) | (simp only [← hji26] <;> (first | rfl | simp)) | (simp [*]; done)), (by first | rfl | (simp; done) | (simp [*]; done) | (simp [wrap64]; done) | (simp [wrap64]; omega)), H', ⟨by have := HK1.out; have := HJ13.out; omega⟩, ⟨by repeat (first | (with_reducible first | exact HI0.out | apply IsS54.alloc | apply IsS54.drewN | apply IsS54.drew | apply IsS54.set_1 | apply IsS54.set_2 | apply IsS54.set_3 | apply IsS54.set_4) | exact HI0.out)⟩, ⟨by repeat (first | (with_reducible first | exact HK.out | apply KeepBut.set_ | apply keep_drewN | apply keep_drew | apply keep_alloc) | exact HK.out)⟩, ⟨by repeat (first | (with_reducible first | exact HB.out | apply below_alloc | apply pw_below_drewN | apply below_drew1 | refine below_set ?_ (IsS54.ge HI0.out)) | exact HB.out)⟩⟩
                    · rw [if_neg c25] at H
                      exact absurd H (by simp)
            · rw [if_neg c13] at H
              exact absurd H (by simp)
          · rw [if_neg c12] at H
            exact absurd H (by simp)
  · replace c5 := Bool.eq_false_iff.mpr c5
    subst c5
    have H1 : (some (0, t209, t210, t211, t212)) = some (r1, r2, r3, r4, r5) := by rw [if_neg (show ¬ (false = true) by decide)] at H; exact H
    clear H
    have H := H1
    clear H1
    simp only [Option.some.injEq, Prod.mk.injEq] at H
    obtain ⟨rfl, rfl, rfl, rfl, rfl⟩ := H
    go_enter Tryd.func23, Tryd.ntmps23
    go_wp2_with (first | ((with_reducible refine gate_callee (f := 24) rfl ?_); refine goesL_ (some 13) rfl rfl Tryd.func24 (by kernel_rfl) rfl #[.pointer (some ⟨g, 0, none⟩)] rfl (by (try simp only [List.map_toArray, List.map_cons, List.map_nil]); first | done | rfl | (simp only [List.length_drop, List.length_take]; rfl)) ?_; (with_reducible refine (pledgeref1_Reader_Ok.calls g s0_0 s0_1 s0_2 s0_3 s0_4 false t209 t210 t211 t212 w0 _ ?side1 ?side2 A4.out).mono ?_); (case side1 => repeat (first | (with_reducible first | exact HI0.out | apply IsS54.alloc | apply IsS54.drewN | apply IsS54.drew | apply IsS54.set_1 | apply IsS54.set_2 | apply IsS54.set_3 | apply IsS54.set_4) | exact HI0.out)); (case side2 => repeat (first | (with_reducible first | exact HB.out | apply below_alloc | apply pw_below_drewN | apply below_drew1 | refine below_set ?_ (IsS54.ge HI0.out)) | exact HB.out)); rintro e w47 ⟨rfl, hi, hb, hk⟩; refine ⟨_, rfl, ?_⟩; have n0_ := Aside0.mk (KeepBut.trans (by repeat (first | (with_reducible first | exact HK.out | apply KeepBut.set_ | apply keep_drewN | apply keep_drew | apply keep_alloc) | exact HK.out)) hk (.inl rfl)); have n1_ := Aside0.mk (hb); have n2_ := Aside0.mk (hi); clear HK; clear HB; clear HI0; have HK := n0_; have HB := n1_; have HI0 := n2_; clear n0_ n1_ n2_; (try clear hb); (try clear hb2); (try clear hk); (try clear hi)))
    go_ret
    exact ⟨by first | rfl | (simp [errW_none, errW_some] <;> rfl) | (exfalso; simp_all; done) | (simp [*, errW_none, errW_some] <;> rfl), by repeat (first | (with_reducible first | exact HI0.out | apply IsS54.alloc | apply IsS54.drewN | apply IsS54.drew | apply IsS54.set_1 | apply IsS54.set_2 | apply IsS54.set_3 | apply IsS54.set_4) | exact HI0.out), by repeat (first | (with_reducible first | exact HB.out | apply below_alloc | apply pw_below_drewN | apply below_drew1 | refine below_set ?_ (IsS54.ge HI0.out)) | exact HB.out), by repeat (first | (with_reducible first | exact HK.out | apply KeepBut.set_ | apply keep_drewN | apply keep_drew | apply keep_alloc) | exact HK.out)⟩

/-! ### pledgeref1_Reader_Left: function 25 -/
def pledgeref1_Reader_Left.f (s0_0 : List Int) (s0_1 : Int) (s0_2 : Int) (s0_3 : Bool) (s0_4 : Int) : Option (Int × Int × Int × Bool × Int) := some (wrap64 ((s0_0.length : Int) - s0_1), s0_1, s0_2, s0_3, s0_4)
set_option maxHeartbeats 8000000 in
set_option maxRecDepth 100000 in
theorem pledgeref1_Reader_Left.calls [Inhabited (Int → Addr)] (g : Nat) (s0_0 : List Int) (s0_1 : Int) (s0_2 : Int) (s0_3 : Bool) (s0_4 : Int) (r1 : Int) (r2 : Int) (r3 : Int) (r4 : Bool) (r5 : Int) (w0 w : World) (hI : IsS54 w0 w g s0_0 s0_1 s0_2 s0_3 s0_4) (hB : Below w0.heap.size w0 w) (h : pledgeref1_Reader_Left.f s0_0 s0_1 s0_2 s0_3 s0_4 = some (r1, r2, r3, r4, r5)) :
    Calls Tryd.prog 25 #[.pointer (some ⟨g, 0, none⟩)] w fun e w' => e = .returned (.int .i64 r1) ∧ IsS54 w0 w' g s0_0 r2 r3 r4 r5 ∧ Below w0.heap.size w0 w' ∧ KeepBut w w' g none := by
  have HI0 := Aside0.mk hI
  have HK := Aside0.mk (KeepBut.refl w g none)
  have HL := Aside0.mk hB.size
  clear hI
  have HW0 := Aside0.mk hB.size
  have HB := Aside0.mk hB
  clear hB
  have H : (some (wrap64 ((s0_0.length : Int) - s0_1), s0_1, s0_2, s0_3, s0_4)) = some (r1, r2, r3, r4, r5) := h
  clear h
  simp only [Option.some.injEq, Prod.mk.injEq] at H
  obtain ⟨rfl, rfl, rfl, rfl, rfl⟩ := H
  obtain ⟨ASz2_0, cSz2_0, HGz2, hgz2, HSz2_0⟩ := HI0.out
  have hcz2_0 := cellS54_0 HGz2
  have hcz2_1 := cellS54_1 HGz2
  have hcz2_2 := cellS54_2 HGz2
  have hcz2_3 := cellS54_3 HGz2
  have hcz2_4 := cellS54_4 HGz2
  have hfz2_1 := blk_frozen HGz2 1
  have hfz2_2 := blk_frozen HGz2 2
  have hfz2_3 := blk_frozen HGz2 3
  have hfz2_4 := blk_frozen HGz2 4
  clear HGz2 hgz2
  go_enter Tryd.func25, Tryd.ntmps25
  go_wp2
  repeat (go_quiet (fail); try go_wp2)
  go_ret
  exact ⟨by first | rfl | (simp [errW_none, errW_some] <;> rfl) | (exfalso; simp_all; done) | (simp [*, errW_none, errW_some] <;> rfl), by repeat (first | (with_reducible first | exact HI0.out | apply IsS54.alloc | apply IsS54.drewN | apply IsS54.drew | apply IsS54.set_1 | apply IsS54.set_2 | apply IsS54.set_3 | apply IsS54.set_4) | exact HI0.out), by repeat (first | (with_reducible first | exact HB.out | apply below_alloc | apply pw_below_drewN | apply below_drew1 | refine below_set ?_ (IsS54.ge HI0.out)) | exact HB.out), by repeat (first | (with_reducible first | exact HK.out | apply KeepBut.set_ | apply keep_drewN | apply keep_drew | apply keep_alloc) | exact HK.out)⟩

end Go.Proofs.YtelabafoknmkcaaDoor.ERecSays
