/- The functions that the law comes to, as plain functions, and for each a proof that the Go code comes to just these answers. Written by a program of this claim. Conditions: each theorem bears its own. -/
import Derived.Test.YtelabafoknmkcaaDoorERecSaysx0
import Derived.Test.YtelabafoknmkcaaDoorERecSaysx1
import Derived.Test.YtelabafoknmkcaaDoorERecSaysx2
import Derived.Test.YtelabafoknmkcaaDoorERecSaysx3
import Derived.Test.YtelabafoknmkcaaDoorERecSaysx4
import Derived.Test.YtelabafoknmkcaaDoorERecSaysx5
namespace Go.Proofs.YtelabafoknmkcaaDoor.ERecSays
open Go.RowKit Go.Proofs.YtelabafoknmkcaaDoorW.PrintWords Go.Proofs.YtelabafoknmkcaaDoorW.PrintLast Go.Proofs.YtelabafoknmkcaaDoorW.PrintMore Go.Proofs.YtelabafoknmkcaaDoorW.PrintOpen
attribute [local go_sem] max2_int min2_int max_two min_two max_three min_three max_four min_four   -- for this text's walks alone
set_option linter.unusedVariables false
set_option linter.unusedSimpArgs false

/-! ### pledgelaw9_RecSays: function 6 -/
/-! ### A reader behind a pointer: its block, its bytes' block, its error -/
/-- Nothing but block g has turned. -/
structure Fr (g : Nat) (w w' : World) : Prop where
  os : w'.os = w.os
  tape : w'.tape = w.tape
  output : w'.output = w.output
  size : w.heap.size ≤ w'.heap.size
  block : ∀ k, k < w.heap.size → k ≠ g → w'.heap[k]? = w.heap[k]?
theorem Fr.refl (g : Nat) (w : World) : Fr g w w := ⟨rfl, rfl, rfl, Nat.le_refl _, fun _ _ _ => rfl⟩
theorem Fr.of_below {g : Nat} {w w' : World} (h : Below w.heap.size w w') : Fr g w w' := ⟨h.os, h.tape, h.output, h.size, fun k hk _ => h.block k hk⟩
theorem Fr.trans {g : Nat} {w w1 w2 : World} (h : Fr g w w1) (k : Fr g w1 w2) : Fr g w w2 :=
  ⟨k.os.trans h.os, k.tape.trans h.tape, k.output.trans h.output, Nat.le_trans h.size k.size, fun i hi hg => (k.block i (Nat.lt_of_lt_of_le hi h.size) hg).trans (h.block i hi hg)⟩
theorem Fr.keep {g : Nat} {w w' : World} (h : Fr g w w') : KeepBut w w' g none := ⟨h.size, fun i hi hg _ => h.block i hi hg⟩
theorem Fr.set {g : Nat} {w w' : World} (h : Fr g w w') (j : Nat) (u : Value) : Fr g w (w'.setCell ⟨g, j, none⟩ u) := by
  have hb := Below.setCell (Below.refl g w') (p := ⟨g, j, none⟩) (Nat.le_refl _) u
  exact ⟨hb.os.trans h.os, hb.tape.trans h.tape, hb.output.trans h.output, Nat.le_trans h.size hb.size, fun i hi hg => (Below.heap_setCell w' ⟨g, j, none⟩ u i hg).trans (h.block i hi hg)⟩
theorem Fr.below {g B : Nat} {w0 w w' : World} (h : Fr g w w') (hb : Below B w0 w) (hB : B ≤ g) (hs : B ≤ w.heap.size) : Below B w0 w' :=
  ⟨h.os.trans hb.os, h.tape.trans hb.tape, h.output.trans hb.output, Nat.le_trans hb.size h.size, fun k hk => (h.block k (by omega) (by omega)).trans (hb.block k hk)⟩
/-- What the reader's error is: none, or one with a place. -/
def ErrAt [Inhabited (Int → Addr)] (w : World) (g : Nat) (ev : Value) : Option (Int × Int) → Prop
  | none => ev = .nilIface
  | some p => ∃ g', ev = .iface 68 (.pointer (some ⟨g', 0, none⟩)) ∧ g' ≠ g ∧ w.heap[g']? = some (.cells #[.int .i64 p.2, errW (some p.1)] 70 (0, 0))
theorem ErrAt.keep [Inhabited (Int → Addr)] {w w' : World} {g : Nat} {ev : Value} {e : Option (Int × Int)} (h : ErrAt w g ev e) (hf : Fr g w w') : ErrAt w' g ev e := by
  cases e with
  | none => exact h
  | some p =>
    obtain ⟨g', h1, h2, h3⟩ := h
    exact ⟨g', h1, h2, (hf.block g' (blk_lt h3) h2).trans h3⟩
/-- The reader of block g (its bytes in block rb): bytes, place, error. -/
structure RdB [Inhabited (Int → Addr)] (g rb : Nat) (w : World) (b : List Int) (at_ : Int) (e : Option (Int × Int)) (A : Option Addr) (c : Nat) (ev : Value) : Prop where
  blk : w.heap[g]? = some (.cells #[.slice A b.length c, .int .i64 at_, ev] 79 (0, 0))
  row : (Kd.int .u8).C w A b.length b
  far : ∀ ad, A = some ad → 0 < b.length → ad.block = rb
  ne : rb ≠ g
  err : ErrAt w g ev e
def Rd [Inhabited (Int → Addr)] (g rb : Nat) (w : World) (b : List Int) (at_ : Int) (e : Option (Int × Int)) : Prop := ∃ A c ev, RdB g rb w b at_ e A c ev
theorem Rd.lt [Inhabited (Int → Addr)] {g rb : Nat} {w : World} {b : List Int} {at_ : Int} {e : Option (Int × Int)} (h : Rd g rb w b at_ e) : g < w.heap.size := by
  obtain ⟨A, c, ev, h⟩ := h; exact blk_lt h.blk
theorem Rd.below [Inhabited (Int → Addr)] {g rb : Nat} {w w' : World} {b : List Int} {at_ : Int} {e : Option (Int × Int)} (h : Rd g rb w b at_ e) (hb : Below w.heap.size w w') : Rd g rb w' b at_ e := by
  obtain ⟨A, c, ev, h⟩ := h
  exact ⟨A, c, ev, (hb.block g (blk_lt h.blk)).trans h.blk, Kd.C_below h.row hb, h.far, h.ne, h.err.keep (Fr.of_below hb)⟩
/-- Another reader has been used. -/
theorem Rd.other [Inhabited (Int → Addr)] {g rb g2 : Nat} {w w' : World} {b : List Int} {at_ : Int} (h : Rd g rb w b at_ none) (hf : Fr g2 w w') (h1 : g ≠ g2) (h2 : rb ≠ g2) : Rd g rb w' b at_ none := by
  obtain ⟨A, c, ev, h⟩ := h
  exact ⟨A, c, ev, (hf.block g (blk_lt h.blk) h1).trans h.blk, Kd.C_keep (0 : Int) h.row hf.keep (fun ad e hl => by rw [h.far ad e hl]; exact h2), h.far, h.ne, h.err⟩
theorem RdB.row_set [Inhabited (Int → Addr)] {g rb : Nat} {w w' : World} {b : List Int} {at_ : Int} {e : Option (Int × Int)} {A : Option Addr} {c : Nat} {ev : Value} (h : RdB g rb w b at_ e A c ev) (hf : Fr g w w') : (Kd.int .u8).C w' A b.length b :=
  Kd.C_keep (0 : Int) h.row hf.keep (fun ad e hl => by rw [h.far ad e hl]; exact h.ne)
theorem RdB.step [Inhabited (Int → Addr)] {g rb : Nat} {w : World} {b : List Int} {at_ : Int} {e : Option (Int × Int)} {A : Option Addr} {c : Nat} {ev : Value} (h : RdB g rb w b at_ e A c ev) (n : Int) : Rd g rb (w.setCell ⟨g, 1, none⟩ (.int .i64 n)) b n e :=
  ⟨A, c, ev, blk_put h.blk 1 _ rfl, h.row_set ((Fr.refl g w).set 1 _), h.far, h.ne, h.err.keep ((Fr.refl g w).set 1 _)⟩
set_option maxHeartbeats 4000000 in
set_option maxRecDepth 100000 in
theorem Reader_At.calls [Inhabited (Int → Addr)] {g rb : Nat} {w : World} {b : List Int} {at_ : Int} {e : Option (Int × Int)} (h : Rd g rb w b at_ e) :
    Calls Tryd.prog 37 #[.pointer (some ⟨g, 0, none⟩)] w fun e w' => e = .returned (.int .i64 at_) ∧ w' = w := by
  obtain ⟨A, c, ev, h⟩ := h
  have hc := (blk_cell h.blk 1).trans rfl
  clear h
  go_enter Tryd.func37, Tryd.ntmps37
  go_wp2
  go_ret
  exact ⟨rfl, rfl⟩
set_option maxHeartbeats 4000000 in
set_option maxRecDepth 100000 in
theorem Reader_Err.calls [Inhabited (Int → Addr)] {g rb : Nat} {w : World} {b : List Int} {at_ : Int} {e : Option (Int × Int)} (h : Rd g rb w b at_ e) :
    Calls Tryd.prog 35 #[.pointer (some ⟨g, 0, none⟩)] w fun v w' => w' = w ∧ ∃ ev, v = .returned ev ∧ ErrAt w g ev e := by
  obtain ⟨A, c, ev, h⟩ := h
  have hc := (blk_cell h.blk 2).trans rfl
  have HE := Aside0.mk h.err
  clear h
  go_enter Tryd.func35, Tryd.ntmps35
  go_wp2
  go_ret
  exact ⟨rfl, _, rfl, HE.out⟩
theorem RdB.below [Inhabited (Int → Addr)] {g rb : Nat} {w w' : World} {b : List Int} {at_ : Int} {e : Option (Int × Int)} {A : Option Addr} {c : Nat} {ev : Value} (h : RdB g rb w b at_ e A c ev) (hb : Below w.heap.size w w') : RdB g rb w' b at_ e A c ev :=
  ⟨(hb.block g (blk_lt h.blk)).trans h.blk, Kd.C_below h.row hb, h.far, h.ne, h.err.keep (Fr.of_below hb)⟩
theorem RdB.rd [Inhabited (Int → Addr)] {g rb : Nat} {w : World} {b : List Int} {at_ : Int} {e : Option (Int × Int)} {A : Option Addr} {c : Nat} {ev : Value} (h : RdB g rb w b at_ e A c ev) : Rd g rb w b at_ e := ⟨A, c, ev, h⟩
set_option maxHeartbeats 4000000 in
set_option maxRecDepth 100000 in
theorem Reader_Left.calls [Inhabited (Int → Addr)] {g rb : Nat} {w : World} {b : List Int} {at_ : Int} {e : Option (Int × Int)} (h : Rd g rb w b at_ e) :
    Calls Tryd.prog 36 #[.pointer (some ⟨g, 0, none⟩)] w fun e w' => e = .returned (.int .i64 (wrap64 ((b.length : Int) - at_))) ∧ Drawn0 w w' := by
  obtain ⟨A, c, ev, h⟩ := h
  have hc := (blk_cell h.blk 1).trans rfl
  have hc0 := (blk_cell h.blk 0).trans rfl
  clear h
  go_enter Tryd.func36, Tryd.ntmps36
  go_wp2
  go_big_region
  go_wp2
  go_ret
  exact ⟨rfl, ⟨1, rfl⟩⟩
set_option maxHeartbeats 4000000 in
set_option maxRecDepth 100000 in
theorem Reader_fail.calls [Inhabited (Int → Addr)] {g rb : Nat} {w : World} {b : List Int} {at_ : Int} (code : Int) (h : Rd g rb w b at_ none) :
    Calls Tryd.prog 45 #[.pointer (some ⟨g, 0, none⟩), errW (some code)] w fun e w' => e = .returned (.tuple #[]) ∧ Rd g rb w' b at_ (some (code, at_)) ∧ Fr g w w' := by
  obtain ⟨A, c, ev, h⟩ := h
  have hc1 := (blk_cell h.blk 1).trans rfl
  have HH := Aside0.mk h
  rw [errW_some]
  clear h
  go_enter Tryd.func45, Tryd.ntmps45
  go_wp2_with (first | ((with_reducible refine gate_dst (N := 11) rfl ?_); refine box_event ?hg (N := 11) ?hd (cs := #[.int .i64 at_, .iface 88 (.pointer (some (adr code)))]) (t := 70) ?hr ?_; (case hd => rfl); (case hg => rfl); (case hr => first | (go_simp; done) | (go_simp; rfl)); intro gb hg w2 hbox hb; have BK := Aside0.mk hbox; have HB := Aside0.mk hb; have HGB := Aside0.mk hg; have HX := Aside0.mk (HH.out.below hb); clear hbox hb hg hc1; have hc2 := (blk_cell HX.out.blk 2).trans rfl; have hf2 := blk_frozen HX.out.blk 2))
  go_end0
  refine ⟨rfl, ⟨A, c, _, blk_put HX.out.blk 2 _ rfl, HX.out.row_set ((Fr.refl g w2).set 2 _), HX.out.far, HX.out.ne, gb, rfl, ?_, ?_⟩, (Fr.of_below HB.out).set 2 _⟩
  · have := blk_lt HH.out.blk; have := HGB.out; omega
  · have hne : gb ≠ g := by have := blk_lt HH.out.blk; have := HGB.out; omega
    exact (Below.heap_setCell w2 ⟨g, 2, none⟩ _ gb hne).trans BK.out
theorem w64q (x : Int) (h1 : -1000000000 ≤ x) (h2 : x ≤ 1000000000) : wrap64 x = x := by unfold wrap64; omega
/-- A number's bits so far, and those of one byte more. -/
def zN (z x : Int) (i : Nat) : Int := Go.bits .or .u64 z (IntKind.u64.wrap (IntKind.u64.wrap (Go.bits .andNot .u8 x 128) * 2 ^ min (wrap64 (7 * (i : Int))).toNat 64))
/-- The number that bits say. -/
def dcN (z : Int) : Int := Go.bits .xor .i64 (wrap64 (z / 2)) (wrap64 (-wrap64 (Go.bits .and .u64 z 1)))
/-- The number at a place: d bytes more at most, i bytes read. -/
def nmF (b : List Int) (at_ : Int) : Nat → Nat → Int → Int × Int × Option Int
  | 0, _, _ => (0, 0, some 0)
  | d + 1, i, z => if at_ + (i : Int) < (b.length : Int) then (if (i : Int) = 9 ∧ rd b (at_ + (i : Int)) > 1 then (0, 0, some 102) else if rd b (at_ + (i : Int)) ≥ 128 then nmF b at_ d (i + 1) (zN z (rd b (at_ + (i : Int))) i)
      else if rd b (at_ + (i : Int)) = 0 ∧ (i : Int) > 0 then (0, 0, some 102) else (dcN (zN z (rd b (at_ + (i : Int))) i), (i : Int) + 1, none)) else (0, 0, some 101)
def nm (b : List Int) (at_ : Int) : Int × Int × Option Int := nmF b at_ 10 0 0
set_option maxHeartbeats 4000000 in
set_option maxRecDepth 100000 in
theorem Reader_number.calls [Inhabited (Int → Addr)] {g rb : Nat} {w : World} {b : List Int} {at_ : Int} (hG : GlobOK w) (h : Rd g rb w b at_ none) (h0 : 0 ≤ at_) (h1 : at_ ≤ b.length) (hl : b.length ≤ 1000000000) :
    Calls Tryd.prog 44 #[.pointer (some ⟨g, 0, none⟩)] w fun e w' => e = .returned (.tuple #[.int .i64 (nm b at_).1, .int .i64 (nm b at_).2.1, errW (nm b at_).2.2]) ∧ Drawn0 w w' := by
  obtain ⟨A, c, ev, h⟩ := h
  have HH := Aside0.mk h
  have HG := Aside0.mk hG
  have H0 := Aside0.mk h0
  have H1 := Aside0.mk h1
  have HL := Aside0.mk hl
  clear h h0 h1 hl hG
  go_enter Tryd.func44, Tryd.ntmps44
  go_wp2
  go_loopg [5, 6, 7] 10 (fun g1 v5 v6 v7 wr => ∃ (i d : Nat) (z : Int), v5 = .int .u64 z ∧ v6 = .int .i64 i ∧ Aside0 (d + i = 9) ∧ Aside0 (10 ≤ g1 + i) ∧ Aside0 (Drawn0 w wr) ∧ Aside0 (nm b at_ = nmF b at_ (d + 1) i z))
  case atStart => exact ⟨0, 9, 0, rfl, rfl, ⟨by omega⟩, ⟨by omega⟩, ⟨Drawn0.refl _⟩, ⟨rfl⟩⟩
  case round =>
    obtain ⟨i, d, z, rfl, rfl, HI, HK, HD, HN⟩ := hrel
    have HX := Aside0.mk (HH.out.below HD.out.below)
    have hc0 := (blk_cell HX.out.blk 0).trans rfl
    have hc1 := (blk_cell HX.out.blk 1).trans rfl
    have HW : wrap64 (at_ + (i : Int)) = at_ + (i : Int) := by have := H0.out; have := H1.out; have := HI.out; have := HL.out; unfold wrap64; omega
    by_cases hlt : at_ + (i : Int) < (b.length : Int)
    · have cb0 : decide (at_ + (i : Int) ≥ (b.length : Int)) = false := decide_eq_false (by omega)
      have hp0 : 0 ≤ at_ + (i : Int) := by have := H0.out; omega
      obtain ⟨ad, eA, hx⟩ := Kd.at_int HX.out.row (at_ + (i : Int)) hp0 hlt
      subst eA
      obtain ⟨x, hxd⟩ : ∃ x, x = rd b (at_ + (i : Int)) := ⟨_, rfl⟩
      rw [← hxd] at hx
      have HLT := Aside0.mk hlt
      have HXD := Aside0.mk hxd
      clear hxd
      go_wp2
      go_big_region
      have HD2 := Aside0.mk (HD.out.step 1)
      have HX2 := Aside0.mk (HX.out.below (Below.drew (Below.refl _ _)))
      have hx2 : wr.drew.cell? (ad.add (at_ + (i : Int)).toNat) = some (.int .u8 x) := hx
      clear HD HX hc0 hc1 hx
      change Aside0 (Drawn0 w wr.drew) at HD2
      generalize wr.drew = w2 at HD2 HX2 hx2 ⊢
      have hc0 := (blk_cell HX2.out.blk 0).trans rfl
      have hc1 := (blk_cell HX2.out.blk 1).trans rfl
      go_wp2
      go_big_region
      have HD3 := Aside0.mk (HD2.out.step 1)
      clear HD2 HX2 hc0 hc1 hx2
      change Aside0 (Drawn0 w w2.drew) at HD3
      generalize w2.drew = w3 at HD3 ⊢
      have HLI := Aside0.mk (show ((i : Int) = 9) = ((i : Int) = 9) from rfl)
      by_cases h9 : (i : Int) = 9 ∧ x > 1
      · obtain ⟨h91, h92⟩ := h9
        have d1 : ((i : Int) == 9) = true := beq_iff_eq.mpr h91
        have d2 : decide (x > 1) = true := decide_eq_true h92
        have hx := GlobOK.at (HG.out.below HD3.out.below) 102 2 (by simp [globTab])
        have H9 := Aside0.mk (And.intro h91 h92)
        clear h91 h92
        go_wp2
        go_big_region
        go_wp2
        have hr : nm b at_ = (0, 0, some 102) := by
          rw [HN.out]; simp only [nmF]
          rw [if_pos HLT.out, ← HXD.out, if_pos H9.out]
        rw [hr]
        go_ret3
        exact ⟨rfl, HD3.out.step 1⟩
      · have H9 := Aside0.mk h9
        have C9 : ((i : Int) == 9 && decide (x > 1)) = false := by
          rw [Bool.and_eq_false_iff]
          by_cases h91 : (i : Int) = 9
          · exact .inr (decide_eq_false (fun h => h9 ⟨h91, h⟩))
          · exact .inl (beq_eq_false_iff_ne.mpr h91)
        clear h9
        have hi7 : 0 ≤ wrap64 (7 * (i : Int)) := by have := HI.out; rw [w64q _ (by omega) (by omega)]; omega
        by_cases h128 : x ≥ 128
        · have d3 : decide (x ≥ 128) = true := decide_eq_true h128
          have H128 := Aside0.mk h128
          clear h128
          have d1 : ((i : Int) == 9) = false := beq_eq_false_iff_ne.mpr (fun h => H9.out ⟨h, by have := H128.out; omega⟩)
          go_wp2
          have hi8 : i ≠ 9 := by have := beq_eq_false_iff_ne.mp d1; omega
          have HW2 : Aside0 (wrap64 ((i : Int) + 1) = ((i + 1 : Nat) : Int)) := ⟨by have := HI.out; rw [w64q _ (by omega) (by omega)]; omega⟩
          go_roundg (10 - (i + 1))
          case measure => have := HI.out; have := HK.out; omega
          case rel =>
            obtain ⟨d', rfl⟩ : ∃ d', d = d' + 1 := ⟨d - 1, by have := HI.out; omega⟩
            exact ⟨i + 1, d', zN z x i, by rw [HXD.out]; rfl, by rw [HW2.out], ⟨by have := HI.out; omega⟩, ⟨by omega⟩, HD3, ⟨by rw [HN.out, nmF, if_pos HLT.out, ← HXD.out, if_neg H9.out, if_pos H128.out]⟩⟩
        · have d3 : decide (x ≥ 128) = false := decide_eq_false h128
          have H128 := Aside0.mk h128
          clear h128
          by_cases h0 : x = 0 ∧ (i : Int) > 0
          · obtain ⟨h01, h02⟩ := h0
            have d4 : (x == 0) = true := beq_iff_eq.mpr h01
            have d5 : decide ((i : Int) > 0) = true := decide_eq_true h02
            have d6 : (0 < i) = True := eq_true (by omega)
            have d7 : ((i : Int) > 0) = True := eq_true h02
            have d8 : decide (0 < i) = true := decide_eq_true (by omega)
            have hx := GlobOK.at (HG.out.below HD3.out.below) 102 2 (by simp [globTab])
            have HZ := Aside0.mk (And.intro h01 h02)
            clear h01 h02
            cases e9 : ((i : Int) == 9)
            · go_wp2
              go_big_region
              go_wp2
              have hr : nm b at_ = (0, 0, some 102) := by
                rw [HN.out]; simp only [nmF]
                rw [if_pos HLT.out, ← HXD.out, if_neg H9.out, if_neg (show ¬ x ≥ 128 by have := H128.out; omega), if_pos HZ.out]
              rw [hr]
              go_ret3
              exact ⟨rfl, HD3.out.step 1⟩
            · have d2 : decide (x > 1) = false := by rw [e9] at C9; simpa using C9
              go_wp2
              go_big_region
              go_wp2
              have hr : nm b at_ = (0, 0, some 102) := by
                rw [HN.out]; simp only [nmF]
                rw [if_pos HLT.out, ← HXD.out, if_neg H9.out, if_neg (show ¬ x ≥ 128 by have := H128.out; omega), if_pos HZ.out]
              rw [hr]
              go_ret3
              exact ⟨rfl, HD3.out.step 1⟩
          · have HZ := Aside0.mk h0
            have CZ : (x == 0 && decide ((i : Int) > 0)) = false := by
              rw [Bool.and_eq_false_iff]
              by_cases h01 : x = 0
              · exact .inr (decide_eq_false (fun h => h0 ⟨h01, h⟩))
              · exact .inl (beq_eq_false_iff_ne.mpr h01)
            clear h0
            have hr : nm b at_ = (dcN (zN z x i), (i : Int) + 1, none) := by
              rw [HN.out]; simp only [nmF]
              rw [if_pos HLT.out, ← HXD.out, if_neg H9.out, if_neg (show ¬ x ≥ 128 by have := H128.out; omega), if_neg HZ.out]
            have HR := Aside0.mk hr
            have HW2 : Aside0 (wrap64 ((i : Int) + 1) = (i : Int) + 1) := ⟨by have := HI.out; rw [w64q _ (by omega) (by omega)]⟩
            clear hr
            cases e9 : ((i : Int) == 9) <;> cases ez : (x == 0)
            · go_wp2
              rw [HR.out, HW2.out]
              go_ret3
              exact ⟨rfl, HD3.out⟩
            · have d5 : decide ((i : Int) > 0) = false := by rw [ez] at CZ; simpa using CZ
              have hi0 : i = 0 := by have := of_decide_eq_false d5; omega
              have d6 : (0 < i) = False := eq_false (by omega)
              have d7 : ((i : Int) > 0) = False := eq_false (by omega)
              have d8 : decide (0 < i) = false := decide_eq_false (by omega)
              clear hi0
              go_wp2
              rw [HR.out, HW2.out]
              go_ret3
              exact ⟨rfl, HD3.out⟩
            · have d2 : decide (x > 1) = false := by rw [e9] at C9; simpa using C9
              go_wp2
              rw [HR.out, HW2.out]
              go_ret3
              exact ⟨rfl, HD3.out⟩
            · exfalso
              have d5 : decide ((i : Int) > 0) = false := by rw [ez] at CZ; simpa using CZ
              have := of_decide_eq_false d5
              have := beq_iff_eq.mp e9
              omega
    · have cb0 : decide (at_ + (i : Int) ≥ (b.length : Int)) = true := decide_eq_true (by omega)
      have HLT := Aside0.mk hlt
      clear hlt
      go_wp2
      go_big_region
      have HD2 := Aside0.mk (HD.out.step 1)
      clear HD HX hc0 hc1
      change Aside0 (Drawn0 w wr.drew) at HD2
      generalize wr.drew = w2 at HD2 ⊢
      have hx := GlobOK.at (HG.out.below HD2.out.below) 101 1 (by simp [globTab])
      go_wp2
      go_big_region
      go_wp2
      have hr : nm b at_ = (0, 0, some 101) := by
        rw [HN.out]; simp only [nmF]
        rw [if_neg (show ¬ (at_ + (i : Int) < (b.length : Int)) by have := HLT.out; omega)]
      rw [hr]
      go_ret3
      exact ⟨rfl, HD2.out.step 1⟩
theorem nmF_k (b : List Int) (at_ : Int) : ∀ (d i : Nat) (z : Int), 0 ≤ (nmF b at_ d i z).2.1 ∧ (nmF b at_ d i z).2.1 ≤ (i : Int) + d
  | 0, i, z => by simp only [nmF]; omega
  | d + 1, i, z => by
    have ih := nmF_k b at_ d (i + 1) (zN z (rd b (at_ + (i : Int))) i)
    simp only [nmF]
    split
    · split
      · simp only []; omega
      · split
        · omega
        · split <;> simp only [] <;> omega
    · simp only []; omega
/-- What a read answers, where it leaves the reader, and its error. -/
def numS (b : List Int) (at_ : Int) (e : Option (Int × Int)) (low high : Int) : Int × Int × Option (Int × Int) :=
  match e with
  | some p => (0, at_, some p)
  | none => match (nm b at_).2.2 with
    | some c => (0, at_, some (c, at_))
    | none => if (nm b at_).1 < low ∨ (nm b at_).1 > high then (0, at_, some (103, at_)) else ((nm b at_).1, at_ + (nm b at_).2.1, none)
set_option maxHeartbeats 4000000 in
set_option maxRecDepth 100000 in
theorem Reader_Num.calls [Inhabited (Int → Addr)] {g rb : Nat} {w : World} {b : List Int} {at_ : Int} {e : Option (Int × Int)} (low high : Int) (hG : GlobOK w) (h : Rd g rb w b at_ e) (h0 : 0 ≤ at_) (h1 : at_ ≤ b.length) (hl : b.length ≤ 100000000) :
    Calls Tryd.prog 34 #[.pointer (some ⟨g, 0, none⟩), .int .i64 low, .int .i64 high] w fun v w' => v = .returned (.int .i64 (numS b at_ e low high).1) ∧ Rd g rb w' b (numS b at_ e low high).2.1 (numS b at_ e low high).2.2 ∧ Fr g w w' := by
  cases e with
  | some p =>
    have HH := Aside0.mk h
    obtain ⟨A, c, ev, h⟩ := h
    obtain ⟨g', he, _, _⟩ := h.err
    subst he
    have hc := (blk_cell h.blk 2).trans rfl
    clear h h0 h1 hl hG
    go_enter Tryd.func34, Tryd.ntmps34
    go_wp2
    go_ret
    exact ⟨rfl, HH.out, Fr.refl _ _⟩
  | none =>
    have hN := Aside0.mk (Reader_number.calls hG h h0 h1 (by omega))
    have HH := Aside0.mk h
    obtain ⟨A, c, ev, h⟩ := h
    obtain rfl : ev = .nilIface := h.err
    have hc := (blk_cell h.blk 2).trans rfl
    have hk := nmF_k b at_ 10 0 0
    have HB := Aside0.mk h
    have HG := Aside0.mk hG
    have HK : Aside0 (wrap64 (at_ + (nm b at_).2.1) = at_ + (nm b at_).2.1) := ⟨by unfold nm; exact w64q _ (by omega) (by omega)⟩
    clear h h0 h1 hl hG hk
    obtain ⟨n, kk, er, hq⟩ : ∃ n kk er, nm b at_ = (n, kk, er) := ⟨_, _, _, rfl⟩
    have hN := Aside0.mk (show Calls Tryd.prog 44 #[.pointer (some ⟨g, 0, none⟩)] w fun e w' => e = .returned (.tuple #[.int .i64 n, .int .i64 kk, errW er]) ∧ Drawn0 w w' by have := hN.out; rw [hq] at this; exact this)
    unfold numS
    rw [hq] at HK ⊢
    simp only [] at HK ⊢
    clear hq
    cases er with
    | some cc =>
      have hF := Aside0.mk (fun (W : World) (hR : Rd g rb W b at_ none) => Reader_fail.calls cc hR)
      simp only [errW_some] at hN hF
      go_enter Tryd.func34, Tryd.ntmps34
      go_wp2_with (first | (go_at_call 44; refine hN.out.mono ?_; rintro e w2 ⟨rfl, hd⟩; have HD := Aside0.mk hd; clear hd) | (go_at_call 45; refine (hF.out _ (HH.out.below HD.out.below)).mono ?_; rintro e w3 ⟨rfl, hr, hf⟩; have HR3 := Aside0.mk hr; have HF3 := Aside0.mk hf; clear hr hf))
      go_ret
      exact ⟨rfl, HR3.out, (Fr.of_below HD.out.below).trans HF3.out⟩
    | none =>
      simp only [errW_none] at hN
      by_cases ho : n < low ∨ n > high
      · have hF := Aside0.mk (fun (W : World) (hR : Rd g rb W b at_ none) => Reader_fail.calls 103 hR)
        simp only [errW_some] at hF
        have HO := Aside0.mk ho
        rw [if_pos ho]
        have d1 : n < low → decide (n < low) = true := decide_eq_true
        by_cases ho1 : n < low
        · have d1 : decide (n < low) = true := decide_eq_true ho1
          clear ho ho1
          go_enter Tryd.func34, Tryd.ntmps34
          go_wp2_with (first | (go_at_call 44; refine hN.out.mono ?_; rintro e w2 ⟨rfl, hd⟩; have hx := GlobOK.at (HG.out.below hd.below) 103 0 (by simp [globTab]); have HD := Aside0.mk hd; clear hd) | (go_at_call 45; refine (hF.out _ (HH.out.below HD.out.below)).mono ?_; rintro e w3 ⟨rfl, hr, hf⟩; have HR3 := Aside0.mk hr; have HF3 := Aside0.mk hf; clear hr hf))
          go_ret
          exact ⟨rfl, HR3.out, (Fr.of_below HD.out.below).trans HF3.out⟩
        · have d1 : decide (n < low) = false := decide_eq_false ho1
          have d2 : decide (n > high) = true := decide_eq_true (by omega)
          clear ho ho1
          go_enter Tryd.func34, Tryd.ntmps34
          go_wp2_with (first | (go_at_call 44; refine hN.out.mono ?_; rintro e w2 ⟨rfl, hd⟩; have hx := GlobOK.at (HG.out.below hd.below) 103 0 (by simp [globTab]); have HD := Aside0.mk hd; clear hd) | (go_at_call 45; refine (hF.out _ (HH.out.below HD.out.below)).mono ?_; rintro e w3 ⟨rfl, hr, hf⟩; have HR3 := Aside0.mk hr; have HF3 := Aside0.mk hf; clear hr hf))
          go_ret
          exact ⟨rfl, HR3.out, (Fr.of_below HD.out.below).trans HF3.out⟩
      · rw [if_neg ho]
        have d1 : decide (n < low) = false := decide_eq_false (by omega)
        have d2 : decide (n > high) = false := decide_eq_false (by omega)
        clear ho
        go_enter Tryd.func34, Tryd.ntmps34
        go_wp2_with (first | (go_at_call 44; refine hN.out.mono ?_; rintro e w2 ⟨rfl, hd⟩; have HX2 := Aside0.mk (HB.out.below hd.below); have hc1 := (blk_cell HX2.out.blk 1).trans rfl; have hf1 := blk_frozen HX2.out.blk 1; have HD := Aside0.mk hd; clear hd))
        rw [HK.out]
        go_ret
        exact ⟨rfl, HX2.out.step _, ((Fr.of_below HD.out.below).set 1 _)⟩
set_option maxHeartbeats 4000000 in
set_option maxRecDepth 100000 in
theorem NewReader.calls [Inhabited (Int → Addr)] (A0 : Option Addr) (c0 : Nat) (b : List Int) (w : World) (hr0 : Kd.C (Kd.int .u8) w A0 b.length b) (hc0 : b.length ≤ c0) (hl : b.length ≤ 1000000000) :
    Calls Tryd.prog 33 #[.slice A0 b.length c0] w fun v w' => ∃ g rb, v = .returned (.pointer (some ⟨g, 0, none⟩)) ∧ w.heap.size ≤ g ∧ w.heap.size ≤ rb ∧ (b ≠ [] → rb < g) ∧ Rd g rb w' b 0 none ∧ Below w.heap.size w w' := by
  have HC := Aside0.mk (slices_Clone_byte_byte.calls A0 c0 b b w hr0 hc0 (by unfold slices_Clone_byte_byte.f; rw [if_pos hl]))
  clear hr0 hc0 hl
  go_enter Tryd.func33, Tryd.ntmps33
  go_wp2_with (first | (go_at_call 42; refine HC.out.mono ?_; rintro e w1 ⟨v0, rfl, ho, hb⟩; obtain ⟨A, c, rfl, hlc, hC⟩ := Kd.R_reads ho; have HO := Aside0.mk ho; have HB := Aside0.mk hb; have HCC := Aside0.mk hC; clear ho hb hlc hC) | ((with_reducible refine gate_dst (N := 6) rfl ?_); refine box_event ?hg (N := 6) ?hd (cs := #[.slice A b.length c, .int .i64 0, .nilIface]) (t := 79) ?hr ?_; (case hd => rfl); (case hg => rfl); (case hr => first | (go_simp; done) | (go_simp; rfl)); intro gb hg w2 hbox hb; have BK := Aside0.mk hbox; have HB2 := Aside0.mk hb; have HGB := Aside0.mk hg; clear hbox hb hg))
  go_ret
  have hgb : w.heap.size ≤ gb := by have := HGB.out; have := below_size HB.out; omega
  rcases Kd.own_of_R (enc := Value.int .u8) (h1 := fun _ => rfl) HO.out with ⟨_, ho⟩
  have hbel := below_step HB.out HB2.out
  rcases ho with ⟨_, h0⟩ | ⟨rb, cap, cur, he, hg, hh, _⟩
  · have hbn : b = [] := List.eq_nil_of_length_eq_zero (by omega)
    refine ⟨gb, gb + 1, rfl, hgb, by omega, fun h => absurd hbn h, ⟨A, c, _, BK.out, Kd.C_below HCC.out HB2.out, ?_, by omega, rfl⟩, hbel⟩
    intro ad _ h; omega
  · injection he with he1 he2 he3
    refine ⟨gb, rb, rfl, hgb, hg, fun _ => ?_, ⟨A, c, _, BK.out, Kd.C_below HCC.out HB2.out, ?_, ?_, rfl⟩, hbel⟩
    · have := blk_lt hh; have := HGB.out; omega
    · intro ad h _; rw [he1] at h; injection h with h; rw [← h]
    · have := blk_lt hh; have := HGB.out; omega
set_option maxHeartbeats 4000000 in
set_option maxRecDepth 100000 in
/-- An error with a place, as plain data. -/
theorem Fault_at.calls [Inhabited (Int → Addr)] {g : Nat} {ev : Value} {code pos : Int} (w : World) (hG : GlobOK w) (he : ErrAt w g ev (some (code, pos))) (h1 : 101 ≤ code) (h2 : code ≤ 121) :
    Calls Tryd.prog 39 #[ev] w fun e w' => e = .returned (.agg #[.int .i64 code, .bool true, .int .i64 pos]) ∧ Below w.heap.size w w' := by
  have hu39 := Tryd.underlying44
  have HG := Aside0.mk hG
  obtain ⟨g', rfl, _, hg'⟩ := he
  have hta : ∀ (v : Value) (W : World), (Instr.typeAssert (.iface 68 v) 25 68 true).run Tryd.prog W = .ok (.tuple #[v, .bool true]) W := fun v W => by rfl
  have HE := Aside0.mk hg'
  have hc0 := (blk_cell hg' 0).trans rfl
  have hc1 := (blk_cell hg' 1).trans rfl
  have HS := Aside0.mk (fun W (hG_ : GlobOK W) => pledgesee_sentinel.calls (some code) code W hG_ (by unfold pledgesee_sentinel.f; rw [if_pos (show 101 ≤ (some code).getD 0 ∧ (some code).getD 0 ≤ 121 from ⟨h1, h2⟩)]))
  have HP := Aside0.mk (fun W => pledgeref_Placed.calls code pos code true pos W (by unfold pledgeref_Placed.f; rw [if_neg (by omega)]))
  simp only [errW_some] at HS hc1
  clear hG hg'
  go_enter Tryd.func39, Tryd.ntmps39
  go_wp2_with ((with_reducible refine gate_dst (N := 2) rfl ?_); refine box_event ?hg (N := 2) ?hd (cs := #[.int .i64 0, .bool false, .int .i64 0]) (t := 44) ?hr ?_; (case hd => rfl); (case hg => rfl); (case hr => first | (go_simp; done) | (go_simp; rfl)); intro gb hg w3 hbox hb; have BK := Aside0.mk hbox; have HB := Aside0.mk hb; have HGB := Aside0.mk hg; have c0 := pw_cell_below hb hc0; have c1 := pw_cell_below hb hc1; clear hbox hb hg hc0 hc1)
  refine start_ (n := 11) (S := fun w' => w'.cell? ⟨g', 0, none⟩ = some (.int .i64 pos) ∧ w'.cell? ⟨g', 1, none⟩ = some (.iface 88 (.pointer (some (adr code))))) (ds := []) #[false, false, false, false, false, false, false, false, false, false, false] (by kernel_rfl) rfl rfl ⟨c0, c1⟩ (fun hHeld => ?_)
  have BK2 := Aside0.mk (blk_drew BK.out)
  have HB2 := Aside0.mk (below_drew1 HB.out)
  have HEX := Aside0.mk (blk_drew (blk_below HE.out HB.out))
  have HGB2 := Aside0.mk (show w.heap.size ≤ gb by have := HGB.out; omega)
  have HNE : Aside0 (g' ≠ gb) := ⟨by have := blk_lt HE.out; have := HGB.out; omega⟩
  clear BK HB c0 c1 HE
  generalize w3.drew = w6 at BK2 HB2 HEX hHeld ⊢
  refine pure_ (i := 0) (N := some 28) (v := ?_) (a' := ?_) #[true, false, false, false, false, false, false, false, false, false, false] rfl rfl (by kernel_rfl) (fun _ _ _ h => h) (Or.inl ⟨by rfl, ?_⟩) ?_ ?_
  rotate_left
  · intro w'
    go_simp
    with_reducible rfl
  rotate_left
  · simp only [Act.put, List.setIfInBounds_toArray, List.set_cons_zero, List.set_cons_succ, i64_w, i32_w]
    rfl
  refine pure_ (i := 1) (N := some 29) (v := ?_) (a' := ?_) #[true, true, false, false, false, false, false, false, false, false, false] rfl rfl (by kernel_rfl) (fun _ _ _ h => h) (Or.inl ⟨by rfl, ?_⟩) ?_ ?_
  rotate_left
  · intro w'
    go_simp
    with_reducible rfl
  rotate_left
  · simp only [Act.put, List.setIfInBounds_toArray, List.set_cons_zero, List.set_cons_succ, i64_w, i32_w]
    rfl
  refine pure_ (i := 2) (N := some 30) (v := ?_) (a' := ?_) #[true, true, true, false, false, false, false, false, false, false, false] rfl rfl (by kernel_rfl) (fun _ _ _ h => h) (Or.inl ⟨by rfl, ?_⟩) ?_ ?_
  rotate_left
  · intro w'
    go_simp
    with_reducible rfl
  rotate_left
  · simp only [Act.put, List.setIfInBounds_toArray, List.set_cons_zero, List.set_cons_succ, i64_w, i32_w]
    rfl
  refine take_ (i := 3) (N := some 31) (v := ?_) (a' := ?_) #[true, true, true, true, false, false, false, false, false, false, false] rfl rfl (by kernel_rfl) (fun _ _ _ h => h) (Or.inl ⟨by rfl, ?_⟩) hHeld ?_ ?_
  rotate_left
  · rintro w' ⟨s0, s1⟩
    go_simp
    with_reducible rfl
  rotate_left
  · simp only [Act.put, List.setIfInBounds_toArray, List.set_cons_zero, List.set_cons_succ, i64_w, i32_w]
    rfl
  refine pure_ (i := 5) (N := some 33) (v := ?_) (a' := ?_) #[true, true, true, true, false, true, false, false, false, false, false] rfl rfl (by kernel_rfl) (fun _ _ _ h => h) (Or.inl ⟨by rfl, ?_⟩) ?_ ?_
  rotate_left
  · intro w'
    go_simp
    with_reducible rfl
  rotate_left
  · simp only [Act.put, List.setIfInBounds_toArray, List.set_cons_zero, List.set_cons_succ, i64_w, i32_w]
    rfl
  refine pure_ (i := 6) (N := some 34) (v := ?_) (a' := ?_) #[true, true, true, true, false, true, true, false, false, false, false] rfl rfl (by kernel_rfl) (fun _ _ _ h => h) (Or.inl ⟨by rfl, ?_⟩) ?_ ?_
  rotate_left
  · intro w'
    go_simp
    with_reducible rfl
  rotate_left
  · simp only [Act.put, List.setIfInBounds_toArray, List.set_cons_zero, List.set_cons_succ, i64_w, i32_w]
    rfl
  refine pure_ (i := 7) (N := some 35) (v := ?_) (a' := ?_) #[true, true, true, true, false, true, true, true, false, false, false] rfl rfl (by kernel_rfl) (fun _ _ _ h => h) (Or.inl ⟨by rfl, ?_⟩) ?_ ?_
  rotate_left
  · intro w'
    go_simp
    with_reducible rfl
  rotate_left
  · simp only [Act.put, List.setIfInBounds_toArray, List.set_cons_zero, List.set_cons_succ, i64_w, i32_w]
    rfl
  refine take_ (i := 8) (N := some 36) (v := ?_) (a' := ?_) #[true, true, true, true, false, true, true, true, true, false, false] rfl rfl (by kernel_rfl) (fun _ _ _ h => h) (Or.inl ⟨by rfl, ?_⟩) hHeld ?_ ?_
  rotate_left
  · rintro w' ⟨s0, s1⟩
    go_simp
    with_reducible rfl
  rotate_left
  · simp only [Act.put, List.setIfInBounds_toArray, List.set_cons_zero, List.set_cons_succ, i64_w, i32_w]
    rfl
  refine one_ (i := 4) (N := some 32) #[true, true, true, true, true, true, true, true, true, false, false] rfl rfl (by kernel_rfl) (by decide) (fun K hK => ?_)
  refine goes_ Tryd.func46 (by kernel_rfl) rfl #[.iface 88 (.pointer (some (adr code)))] (by rfl) rfl rfl (by (try simp only [List.map_toArray, List.map_cons, List.map_nil]); first | done | rfl) ?_
  with_reducible refine (HS.out _ (GlobOK.below HG.out HB2.out)).mono ?_
  rintro e w7 ⟨rfl, hb⟩
  refine ⟨_, rfl, ?_⟩
  have n0_ := Aside0.mk (blk_below BK2.out hb)
  have n1_ := Aside0.mk (below_step HB2.out hb)
  have n2_ := Aside0.mk (blk_below HEX.out hb)
  clear BK2 HB2 HEX hb
  refine hK.out _ _ ⟨(blk_cell n2_.out 0).trans rfl, (blk_cell n2_.out 1).trans rfl⟩ (fun hHeld => ?_)
  clear hK K
  refine norm_ (a' := ?_) ?_ ?_
  rotate_left
  · show Act.put _ (some 32) _ = _
    simp only [Act.put, List.setIfInBounds_toArray, List.set_cons_zero, List.set_cons_succ, i64_w, i32_w]
    rfl
  refine one_ (i := 9) (N := some 37) #[true, true, true, true, true, true, true, true, true, true, false] rfl rfl (by kernel_rfl) (by decide) (fun K hK => ?_)
  refine goes_ Tryd.func18 (by kernel_rfl) rfl #[.int .i64 code, .int .i64 pos] (by rfl) rfl rfl (by (try simp only [List.map_toArray, List.map_cons, List.map_nil]); first | done | rfl) ?_
  with_reducible refine (HP.out _).mono ?_
  rintro e w8 ⟨rfl, hb⟩
  refine ⟨_, rfl, ?_⟩
  have BK3 := Aside0.mk (blk_below n0_.out hb)
  have HB3 := Aside0.mk (below_step n1_.out hb)
  have HE3 := Aside0.mk (blk_below n2_.out hb)
  clear n0_ n1_ n2_ hb
  refine hK.out _ _ ⟨(blk_cell HE3.out 0).trans rfl, (blk_cell HE3.out 1).trans rfl⟩ (fun hHeld => ?_)
  clear hK K
  refine norm_ (a' := ?_) ?_ ?_
  rotate_left
  · show Act.put _ (some 37) _ = _
    simp only [Act.put, List.setIfInBounds_toArray, List.set_cons_zero, List.set_cons_succ, i64_w, i32_w]
    rfl
  have k0 := (blk_cell BK3.out 0).trans rfl
  have k1 := (blk_cell BK3.out 1).trans rfl
  have k2 := (blk_cell BK3.out 2).trans rfl
  have f0 := blk_frozen BK3.out 0
  have f1 := blk_frozen BK3.out 1
  have f2 := blk_frozen BK3.out 2
  refine one_ (i := 10) (N := none) #[true, true, true, true, true, true, true, true, true, true, true] rfl rfl (by kernel_rfl) (by decide) (fun K hK => ?_)
  refine skip_ (w1 := ?_) (by rfl) rfl ?_ ?_
  rotate_left
  · go_simp
    rfl
  have BK4 := Aside0.mk (blk_put (blk_put (blk_put BK3.out 0 (.int .i64 code) rfl) 1 (.bool true) rfl) 2 (.int .i64 pos) rfl)
  have HB4 := Aside0.mk (((HB3.out.setCell (p := ⟨gb, 0, none⟩) HGB2.out (.int .i64 code)).setCell (p := ⟨gb, 1, none⟩) HGB2.out (.bool true)).setCell (p := ⟨gb, 2, none⟩) HGB2.out (.int .i64 pos))
  have HE4 := Aside0.mk ((Below.heap_setCell _ ⟨gb, 2, none⟩ (.int .i64 pos) g' HNE.out).trans ((Below.heap_setCell _ ⟨gb, 1, none⟩ (.bool true) g' HNE.out).trans ((Below.heap_setCell _ ⟨gb, 0, none⟩ (.int .i64 code) g' HNE.out).trans HE3.out)))
  refine hK.out _ _ ⟨(blk_cell HE4.out 0).trans rfl, (blk_cell HE4.out 1).trans rfl⟩ (fun hHeld => ?_)
  clear hK K
  refine done_ (by kernel_rfl) ?_
  try go_wp2
  refine bodyPost_ret (results_cell_row rfl _ _ gb 44 #[.int .i64 code, .bool true, .int .i64 pos] (0, 0) _ rfl BK4.out Tryd.underlying44 rfl (by kernel_rfl)) rfl ?_
  exact ⟨rfl, HB4.out⟩
set_option maxHeartbeats 4000000 in
set_option maxRecDepth 100000 in
/-- Is an error with a place this fault? -/
theorem Same_at.calls [Inhabited (Int → Addr)] {g : Nat} {ev : Value} {code pos : Int} (w : World) (hG : GlobOK w) (he : ErrAt w g ev (some (code, pos))) (h1 : 101 ≤ code) (h2 : code ≤ 121) (a0 : Int) (a1 : Bool) (a2 : Int) (r : Bool) (hr : pledgeref_SameFault.f code true pos a0 a1 a2 = some r) :
    Calls Tryd.prog 17 #[ev, .agg #[.int .i64 a0, .bool a1, .int .i64 a2]] w fun e w' => e = .returned (.bool r) ∧ Below w.heap.size w w' := by
  have hu39 := Tryd.underlying44
  have HF := Aside0.mk (fun W (hb : Below w.heap.size w W) => Fault_at.calls W (hG.below hb) (he.keep (Fr.of_below hb)) h1 h2)
  have HS := Aside0.mk (fun W => pledgeref_SameFault.calls code true pos a0 a1 a2 r W hr)
  clear he hG h1 h2 hr
  go_enter Tryd.func17, Tryd.ntmps17
  go_wp2_with ((with_reducible refine gate_dst (N := 3) rfl ?_); refine box_event ?hg (N := 3) ?hd (cs := #[.int .i64 a0, .bool a1, .int .i64 a2]) (t := 44) ?hr ?_; (case hd => rfl); (case hg => rfl); (case hr => first | (go_simp; done) | (go_simp; rfl)); intro gb hg w3 hbox hb; have BK := Aside0.mk hbox; have HB := Aside0.mk hb; clear hbox hb hg)
  refine start_ (n := 5) (S := fun w' => w'.cell? ⟨gb, 0, none⟩ = some (.int .i64 a0) ∧ w'.cell? ⟨gb, 1, none⟩ = some (.bool a1) ∧ w'.cell? ⟨gb, 2, none⟩ = some (.int .i64 a2)) (ds := []) #[false, false, false, false, false] (by kernel_rfl) rfl rfl ⟨(blk_cell BK.out 0).trans rfl, (blk_cell BK.out 1).trans rfl, (blk_cell BK.out 2).trans rfl⟩ (fun hHeld => ?_)
  have BK2 := Aside0.mk (blk_drew BK.out)
  have HB2 := Aside0.mk (below_drew1 HB.out)
  clear BK HB
  generalize w3.drew = w6 at BK2 HB2 hHeld ⊢
  refine pure_ (i := 0) (N := some 5) (v := ?_) (a' := ?_) #[true, false, false, false, false] rfl rfl (by kernel_rfl) (fun _ _ _ h => h) (Or.inl ⟨by rfl, ?_⟩) ?_ ?_
  rotate_left
  · intro w'
    go_simp
    with_reducible rfl
  rotate_left
  · simp only [Act.put, List.setIfInBounds_toArray, List.set_cons_zero, List.set_cons_succ, i64_w, i32_w]
    rfl
  refine take_ (i := 2) (N := some 7) (v := ?_) (a' := ?_) #[true, false, true, false, false] rfl rfl (by kernel_rfl) (fun _ _ _ h => h) (Or.inl ⟨by rfl, ?_⟩) hHeld ?_ ?_
  rotate_left
  · rintro w' ⟨s0, s1, s2⟩
    go_simp
    with_reducible rfl
  rotate_left
  · simp only [Act.put, List.setIfInBounds_toArray, List.set_cons_zero, List.set_cons_succ, i64_w, i32_w]
    rfl
  refine one_ (i := 1) (N := some 6) #[true, true, true, false, false] rfl rfl (by kernel_rfl) (by decide) (fun K hK => ?_)
  refine goes_ Tryd.func39 (by kernel_rfl) rfl #[ev] (by rfl) rfl rfl (by (try simp only [List.map_toArray, List.map_cons, List.map_nil]); first | done | rfl) ?_
  with_reducible refine (HF.out _ HB2.out).mono ?_
  rintro e w7 ⟨rfl, hb⟩
  refine ⟨_, rfl, ?_⟩
  have BK3 := Aside0.mk (blk_below BK2.out hb)
  have HB3 := Aside0.mk (below_step HB2.out hb)
  clear BK2 HB2 hb
  refine hK.out _ _ ⟨(blk_cell BK3.out 0).trans rfl, (blk_cell BK3.out 1).trans rfl, (blk_cell BK3.out 2).trans rfl⟩ (fun hHeld => ?_)
  clear hK K
  refine norm_ (a' := ?_) ?_ ?_
  rotate_left
  · show Act.put _ (some 6) _ = _
    simp only [Act.put, List.setIfInBounds_toArray, List.set_cons_zero, List.set_cons_succ, i64_w, i32_w]
    rfl
  refine one_ (i := 3) (N := some 8) #[true, true, true, true, false] rfl rfl (by kernel_rfl) (by decide) (fun K hK => ?_)
  refine goes_ Tryd.func38 (by kernel_rfl) rfl #[.agg #[.int .i64 code, .bool true, .int .i64 pos], .agg #[.int .i64 a0, .bool a1, .int .i64 a2]] (by rfl) rfl rfl (by (try simp only [List.map_toArray, List.map_cons, List.map_nil]); first | done | rfl) ?_
  with_reducible refine (HS.out _).mono ?_
  rintro e w8 ⟨rfl, hb⟩
  refine ⟨_, rfl, ?_⟩
  have BK4 := Aside0.mk (blk_below BK3.out hb)
  have HB4 := Aside0.mk (below_step HB3.out hb)
  clear BK3 HB3 hb
  refine hK.out _ _ ⟨(blk_cell BK4.out 0).trans rfl, (blk_cell BK4.out 1).trans rfl, (blk_cell BK4.out 2).trans rfl⟩ (fun hHeld => ?_)
  clear hK K
  refine norm_ (a' := ?_) ?_ ?_
  rotate_left
  · show Act.put _ (some 8) _ = _
    simp only [Act.put, List.setIfInBounds_toArray, List.set_cons_zero, List.set_cons_succ, i64_w, i32_w]
    rfl
  refine pure_ (i := 4) (N := some 4) (v := ?_) (a' := ?_) #[true, true, true, true, true] rfl rfl (by kernel_rfl) (fun _ _ _ h => h) (Or.inl ⟨by rfl, ?_⟩) ?_ ?_
  rotate_left
  · intro w'
    go_simp
    with_reducible rfl
  rotate_left
  · simp only [Act.put, List.setIfInBounds_toArray, List.set_cons_zero, List.set_cons_succ, i64_w, i32_w]
    rfl
  refine done_ (by kernel_rfl) ?_
  try go_wp2
  go_ret
  exact ⟨rfl, HB4.out⟩
theorem infoU : (Tryd.prog.info? 2).map (fun i => (i.zero, i.size, i.bytes)) = some (some (.int .i64 0), 1, 8) := by kernel_rfl
/-- An append beside a reader. -/
theorem Rd.grown [Inhabited (Int → Addr)] {g rb base : Nat} {w w1 : World} {b : List Int} {at_ : Int} {e : Option (Int × Int)} {v : Value} {xs : List Int} (h : Rd g rb w b at_ e) (hg : w.grownBy w1 v.ownBlock) (ho : Kd.R (Kd.int .i64) 2 w base (fun k => k ≠ g ∧ (b ≠ [] → k ≠ rb)) v xs) : Rd g rb w1 b at_ e := by
  obtain ⟨A, c, ev, h⟩ := h
  have hb : ∀ i, i < w.heap.size → some i ≠ v.ownBlock → w1.heap[i]? = w.heap[i]? := fun i hi hne => hg.block i hi hne
  have hgb : some g ≠ v.ownBlock := Kd.R_ne ho h.blk (by decide)
  refine ⟨A, c, ev, (hb g (blk_lt h.blk) hgb).trans h.blk, ?_, h.far, h.ne, ?_⟩
  · cases hv : v.ownBlock with
    | none => exact Kd.C_keep (0 : Int) h.row (g := w.heap.size) ⟨hg.size, fun i hi _ _ => hb i hi (by rw [hv]; simp)⟩ (Kd.far_C (0 : Int) h.row (Nat.le_refl _))
    | some k =>
      refine Kd.C_keep (0 : Int) h.row (g := k) ⟨hg.size, fun i hi hk _ => hb i hi (by rw [hv]; simpa using hk)⟩ (fun ad e hl => ?_)
      rw [h.far ad e hl]
      exact fun e => (ho.1 k hv).2 (by intro hb; rw [hb] at hl; simp at hl) e.symm
  · have he := h.err
    cases e with
    | none => exact he
    | some p =>
      obtain ⟨g', h1, h2, h3⟩ := he
      exact ⟨g', h1, h2, (hb g' (blk_lt h3) (Kd.R_ne ho h3 (by decide))).trans h3⟩
/-- Numbers read, one behind the other. -/
def rdN (b : List Int) : Nat → Int → Option (Int × Int) → List Int → List Int × Int × Option (Int × Int)
  | 0, p, e, acc => (acc, p, e)
  | d + 1, p, e, acc => rdN b d (numS b p e (-9223372036854775808) 9223372036854775807).2.1 (numS b p e (-9223372036854775808) 9223372036854775807).2.2 (acc ++ [(numS b p e (-9223372036854775808) 9223372036854775807).1])
theorem numS_bd {b : List Int} {p lo hi : Int} {e : Option (Int × Int)} (h0 : 0 ≤ p) (h1 : p ≤ (b.length : Int)) (hn : ∀ q : Int, 0 ≤ q → q ≤ (b.length : Int) → (nm b q).2.2 = none → q + (nm b q).2.1 ≤ (b.length : Int)) : 0 ≤ (numS b p e lo hi).2.1 ∧ (numS b p e lo hi).2.1 ≤ (b.length : Int) := by
  unfold numS
  cases e with
  | some q => exact ⟨h0, h1⟩
  | none =>
    have hk := nmF_k b p 10 0 0
    cases he : (nm b p).2.2 with
    | some c => exact ⟨h0, h1⟩
    | none =>
      simp only []
      split
      · exact ⟨h0, h1⟩
      · have := hn p h0 h1 he
        unfold nm at this ⊢
        simp only []
        omega
theorem nmF_end (b : List Int) (p : Int) : ∀ (d i : Nat) (z : Int), (nmF b p d i z).2.2 = none → p + (nmF b p d i z).2.1 ≤ (b.length : Int)
  | 0, i, z, h => by simp [nmF] at h
  | d + 1, i, z, h => by
    simp only [nmF] at h ⊢
    by_cases h1 : p + (i : Int) < (b.length : Int)
    · rw [if_pos h1] at h ⊢
      split at h
      · simp at h
      · next h2 =>
        rw [if_neg h2]
        split at h
        · next h3 => rw [if_pos h3]; exact nmF_end b p d (i + 1) _ h
        · next h3 =>
          rw [if_neg h3]
          split at h
          · simp at h
          · next h4 => rw [if_neg h4]; simp only []; omega
    · rw [if_neg h1] at h; simp at h
/-- What Unpack answers: the numbers; none, or the error's number, and its place if it has one. -/
def unpS (b : List Int) (n : Int) : List Int × Option (Int × Option Int) :=
  if n < 0 ∨ n > 64 then ([], some (103, none)) else
    match (rdN b n.toNat 0 none []).2.2 with
    | some p => ([], some (p.1, some p.2))
    | none => if (b.length : Int) - (rdN b n.toNat 0 none []).2.1 > 0 then ([], some (102, some (rdN b n.toNat 0 none []).2.1)) else ((rdN b n.toNat 0 none []).1, none)
def ErrU [Inhabited (Int → Addr)] (w : World) (ev : Value) : Option (Int × Option Int) → Prop
  | none => ev = .nilIface
  | some (c, none) => ev = errW (some c)
  | some (c, some p) => ∃ g, ErrAt w g ev (some (c, p))
theorem ErrU.below [Inhabited (Int → Addr)] {w w' : World} {ev : Value} {u : Option (Int × Option Int)} (h : ErrU w ev u) (hb : Below w.heap.size w w') : ErrU w' ev u := by
  rcases u with _ | ⟨c, _ | p⟩
  · exact h
  · exact h
  · obtain ⟨g, h⟩ := h; exact ⟨g, h.keep (Fr.of_below hb)⟩
set_option maxHeartbeats 8000000 in
set_option maxRecDepth 1000000 in
theorem rec_Unpack.calls [Inhabited (Int → Addr)] (A0 : Option Addr) (c0 : Nat) (b : List Int) (n : Int) (w : World) (hG : GlobOK w) (hr0 : Kd.C (Kd.int .u8) w A0 b.length b) (hc0 : b.length ≤ c0) (hl : b.length ≤ 1000) :
    Calls Tryd.prog 15 #[.slice A0 b.length c0, .int .i64 n] w fun e w' => ∃ A c ev, e = .returned (.tuple #[.slice A (unpS b n).1.length c, ev]) ∧ (unpS b n).1.length ≤ c ∧ (Kd.int .i64).C w' A (unpS b n).1.length (unpS b n).1 ∧ ErrU w' ev (unpS b n).2 ∧ Below w.heap.size w w' := by
  have HG := Aside0.mk hG
  have HM := Aside0.mk hr0
  have HC0 := Aside0.mk hc0
  have HLEN := Aside0.mk (show b.length ≤ 100000000 by omega)
  have HLB := Aside0.mk hl
  have HB := Aside0.mk (Below.refl w.heap.size w)
  clear hr0 hc0 hl
  by_cases hn : n < 0 ∨ n > 64
  · have hx := GlobOK.at hG 103 0 (by simp [globTab])
    have hu : unpS b n = ([], some (103, none)) := by unfold unpS; rw [if_pos hn]
    rw [hu]
    clear hu hG
    cases d1 : decide (n < 0)
    · have d2 : decide (n > 64) = true := decide_eq_true (by rcases hn with h | h; exact absurd h (of_decide_eq_false d1); exact h)
      clear hn
      go_enter Tryd.func15, Tryd.ntmps15
      go_wp2
      go_big_region
      go_wp2
      go_ret2
      exact ⟨none, 0, _, rfl, Nat.le_refl _, Kd.C_nil _ _, rfl, below_drew1 HB.out⟩
    · clear hn
      go_enter Tryd.func15, Tryd.ntmps15
      go_wp2
      go_big_region
      go_wp2
      go_ret2
      exact ⟨none, 0, _, rfl, Nat.le_refl _, Kd.C_nil _ _, rfl, below_drew1 HB.out⟩
  · have hn0 : 0 ≤ n := by omega
    have hn1 : n ≤ 64 := by omega
    obtain ⟨m, rfl⟩ := Int.eq_ofNat_of_zero_le hn0
    obtain ⟨res, hres⟩ : ∃ res, res = rdN b m 0 none [] := ⟨_, rfl⟩
    have hu : unpS b (m : Int) = match res.2.2 with
      | some p => ([], some (p.1, some p.2))
      | none => if (b.length : Int) - res.2.1 > 0 then ([], some (102, some res.2.1)) else (res.1, none) := by
      unfold unpS; rw [if_neg hn, Int.toNat_natCast, ← hres]
    obtain ⟨RU, hRU⟩ : ∃ RU, RU = unpS b (m : Int) := ⟨_, rfl⟩
    rw [← hRU]
    rw [hu] at hRU
    have HRU := Aside0.mk hRU
    clear hRU
    have HRES := Aside0.mk hres
    have HM64 := Aside0.mk (show m ≤ 64 by omega)
    have HNB : Aside0 (∀ q : Int, 0 ≤ q → q ≤ (b.length : Int) → (nm b q).2.2 = none → q + (nm b q).2.1 ≤ (b.length : Int)) := ⟨fun q _ _ h => nmF_end b q 10 0 0 h⟩
    have d1 : decide ((m : Int) < 0) = false := decide_eq_false (by omega)
    have d2 : decide ((m : Int) > 64) = false := decide_eq_false (by omega)
    have d3 : decide (64 < m) = false := decide_eq_false (by omega)
    clear hu hn hn0 hn1 hres hG
    go_enter Tryd.func15, Tryd.ntmps15
    go_wp2_with (go_at_call 33; have hN := NewReader.calls A0 c0 b _ HM.out HC0.out (by have := HLEN.out; omega); (with_reducible refine hN.mono ?_); clear hN; rintro e w_ ⟨g, rb, rfl, hg_, hrb_, hlt_, hr_, hb⟩; have HGE := Aside0.mk (Nat.le_trans (below_size HB.out) hg_); have n_ := Aside0.mk (below_step HB.out hb); clear HB; have HB := n_; clear n_; have HR := Aside0.mk hr_; have HRB := Aside0.mk (fun hb_ => Nat.lt_trans (hlt_ hb_) hr_.lt); have HSZ := Aside0.mk (Nat.le_refl w_.heap.size); clear hg_ hrb_ hlt_ hr_ hb)
    generalize hsz : w_.heap.size = sz at HSZ HRB
    have HSZ := Aside0.mk (show sz ≤ w_.heap.size by omega)
    clear hsz d1 d2 d3
    go_loopg [7, 18] m (fun gq v7 v18 wr => ∃ (i : Nat) (acc : List Int) (p : Int) (er : Option (Int × Int)), v18 = .int .i64 i ∧ Aside0 (acc.length = i) ∧ Aside0 (i ≤ m) ∧ Aside0 (m ≤ gq + i) ∧ Aside0 (0 ≤ p ∧ p ≤ (b.length : Int)) ∧ Aside0 (res = rdN b (m - i) p er acc) ∧ Aside0 (Below w.heap.size w wr) ∧ Aside0 (Rd g rb wr b p er) ∧ Aside0 (sz ≤ wr.heap.size) ∧ Aside0 (Kd.R (Kd.int .i64) 2 wr w.heap.size (fun k_ => k_ ≠ g ∧ (b ≠ [] → k_ ≠ rb)) v7 acc))
    case atStart => exact ⟨0, [], 0, none, rfl, ⟨rfl⟩, ⟨by omega⟩, ⟨by omega⟩, ⟨by omega⟩, ⟨by rw [Nat.sub_zero]; exact HRES.out⟩, HB, HR, HSZ, ⟨Kd.R_nil _ _ _ _ _⟩⟩
    case round =>
      clear HB HR HSZ HRES
      obtain ⟨i, acc, p, er, rfl, HAL, HI, HKI, HAT, HRUN, HB, HR, HSZ, HO⟩ := hrel
      have hatb := HAT.out
      by_cases hlt : i < m
      · have cb1 : decide ((i : Int) < (m : Int)) = true := decide_eq_true (by omega)
        have cb2 : ((i : Int) < (m : Int)) = True := eq_true (by omega)
        have cb3 : (i < m) = True := eq_true hlt
        have HI1 := Aside0.mk (show i + 1 ≤ m by omega)
        have HAL := Aside0.mk (show acc.length = i ∧ i ≤ 64 from ⟨HAL.out, by have := HM64.out; omega⟩)
        have HW2 : Aside0 (wrap64 ((i : Int) + 1) = ((i + 1 : Nat) : Int)) := ⟨by have := HM64.out; rw [w64q _ (by omega) (by omega)]; omega⟩
        obtain ⟨d, hd⟩ : ∃ d, m - i = d + 1 := ⟨m - i - 1, by omega⟩
        have hrun := HRUN.out
        rw [hd] at hrun
        simp only [rdN] at hrun
        have hbd := numS_bd (lo := (-9223372036854775808)) (hi := 9223372036854775807) (e := er) hatb.1 hatb.2 HNB.out
        obtain ⟨m_, hm_⟩ : ∃ m_, m_ = (numS b p er (-9223372036854775808) 9223372036854775807).1 := ⟨_, rfl⟩
        rw [← hm_] at hrun
        have HMM := Aside0.mk hm_
        have HRUNB := Aside0.mk hrun
        have HBD := Aside0.mk hbd
        have HD := Aside0.mk hd
        clear hrun hlt hd HRUN hbd hm_
        go_wp2_with (first
          | (go_at_call 34; have hN := Reader_Num.calls (-9223372036854775808) 9223372036854775807 (HG.out.below HB.out) HR.out (by omega) (by omega) HLEN.out; rw [← HMM.out] at hN; (with_reducible refine hN.mono ?_); clear hN; rintro e w_ ⟨rfl, hr_, hf⟩; have n_ := Aside0.mk (hf.below HB.out HGE.out (below_size HB.out)); have n2_ := Aside0.mk (Kd.R_keep HO.out hf.keep (fun k_ hk => hk.1)); have n3_ := Aside0.mk (Nat.le_trans HSZ.out hf.size); clear HB HR HO HSZ; have HB := n_; have HO := n2_; have HSZ := n3_; have HR := Aside0.mk hr_; clear hr_ hf n_ n2_ n3_)
          | ((with_reducible refine gate_dst (N := 23) rfl ?_); refine Kd.R_lit (Kd.int .i64) _ 2 ?hg (N := 23) ?hd (xs := ([m_] : List Int)) (inner := [.int .i64 m_]) (ok := fun _ => True) (okp := fun _ => True) ?hr ?hp (fun _ hk => hk) trivial (Below.refl _ _) (Nat.le_refl _) (by simp) ?_; (case hd => rfl); (case hg => rfl); (case hr => first | (go_simp; done) | (go_simp; rfl)); (case hp => exact (Reps.one (show Kd.M (Kd.int .i64) _ _ _ m_ [.int .i64 m_] from rfl) (Reps.none _ _))); intro v_ w_ ho hb hg_ hat; obtain ⟨A5, c5, rfl, hl_, hC_⟩ := Kd.R_reads ho; have n_ := Aside0.mk (below_step HB.out hb); have n2_ := Aside0.mk (HR.out.below hb); have n3_ := Aside0.mk (Kd.R_below HO.out hb); have n4_ := Aside0.mk (Nat.le_trans HSZ.out (below_size hb)); clear HB HR HO HSZ; have HB := n_; have HR := n2_; have HO := n3_; have HSZ := n4_; have HC5 := Aside0.mk hC_; clear ho hb hg_ hat hl_ hC_ n_ n2_ n3_ n4_)
          | ((with_reducible refine gate_builtin (b := .append) (xs := #[.tmp 20, .tmp 23]) rfl ?_); at_builtin; refine Kd.R_append_rows (Kd.int .i64) (w0 := w) w.heap.size rfl (.tmp 20) (.tmp 23) 37 2 (.int .i64 0) 8 rfl Tryd.underlying37 infoU rfl (by decide) (by omega) _ acc [m_] _ _ _ (fun k_ => k_ ≠ g ∧ (b ≠ [] → k_ ≠ rb)) (fun _ => False) rfl rfl ?aO ?aR (fun _ _ h => h) (fun _ h => h.elim) ?aF ?aB ?aS ?aL ?_; (case aO => exact HO.out); (case aR => exact HC5.out); (case aF => intro k_ hk; have h1_ := HSZ.out; have h2_ := HR.out.lt; exact ⟨by omega, fun hb_ => by have h3_ := HRB.out hb_; omega⟩); (case aB => exact HB.out); (case aS => exact below_size HB.out); (case aL => have := HAL.out; first | omega | (simp; omega)); intro v2_ w2_ ho hb hg_ hat; have n2_ := Aside0.mk (HR.out.grown hg_ (HO.out)); have n4_ := Aside0.mk (Nat.le_trans HSZ.out hg_.size); clear HB HR HO HSZ; have HB := Aside0.mk hb; have HR := n2_; have HO := Aside0.mk ho; have HSZ := n4_; clear ho hb hg_ hat n2_ n4_))
        go_roundg (m - (i + 1))
        case measure => have := HKI.out; have := HI1.out; omega
        case rel => exact ⟨i + 1, acc ++ [m_], _, _, by rw [HW2.out], ⟨by rw [List.length_append]; have := HAL.out; simp; omega⟩, ⟨HI1.out⟩, ⟨by have := HI1.out; omega⟩, HBD, ⟨by rw [show m - (i + 1) = d by have := HD.out; omega]; exact HRUNB.out⟩, HB, HR, HSZ, HO⟩
      · obtain rfl : m = i := by have := HI.out; omega
        have cb1 : decide ((m : Int) < (m : Int)) = false := decide_eq_false (by omega)
        have cb2 : ((m : Int) < (m : Int)) = False := eq_false (by omega)
        have hrun := HRUN.out
        rw [Nat.sub_self] at hrun
        have hrun2 : res = (acc, p, er) := hrun
        subst hrun2
        clear hrun HRUN hlt HI HKI
        obtain ⟨A7, c7, rfl, hl7, hC7⟩ := Kd.R_reads HO.out
        have HC7 := Aside0.mk hC7
        have HL7 := Aside0.mk hl7
        clear hl7 hC7 HO HSZ
        cases er with
        | some q =>
          have e_ : RU = ([], some (q.1, some q.2)) := HRU.out
          subst e_
          clear HRU
          go_wp2_with (go_at_call 35; refine (Reader_Err.calls HR.out).mono ?_; rintro e w_ ⟨rfl, ev, rfl, hev⟩; obtain ⟨ge, rfl, hge1, hge2⟩ := hev; have HEV := Aside0.mk (And.intro hge1 hge2); clear hge1 hge2)
          go_ret2
          first | exact ⟨none, 0, _, rfl, Nat.le_refl _, Kd.C_nil _ _, ⟨g, ge, rfl, HEV.out.1, HEV.out.2⟩, HB.out⟩ | exact ⟨none, 0, _, rfl, Kd.C_nil _ _, ⟨g, ge, rfl, HEV.out.1, HEV.out.2⟩, HB.out⟩
        | none =>
          have hlb := HLB.out
          have hW3 : wrap64 ((b.length : Int) - p) = (b.length : Int) - p := w64q _ (by omega) (by omega)
          by_cases hgt : (b.length : Int) - p > 0
          · have e_ : RU = ([], some (102, some p)) := by
              have h_ : RU = if (b.length : Int) - p > 0 then ([], some (102, some p)) else (acc, none) := HRU.out
              rw [h_, if_pos hgt]
            subst e_
            clear HRU
            have d1 : decide ((b.length : Int) - p > 0) = true := decide_eq_true hgt
            have d2 : decide (p < (b.length : Int)) = true := decide_eq_true (by omega)
            have d3 : (p < (b.length : Int)) = True := eq_true (by omega)
            have d4 : (0 < (b.length : Int) - p) = True := eq_true (by omega)
            have d5 : decide (0 < (b.length : Int) - p) = true := decide_eq_true (by omega)
            clear hgt HC7 HL7
            go_wp2_with (first
              | (go_at_call 35; refine (Reader_Err.calls HR.out).mono ?_; rintro e w_ ⟨rfl, ev, rfl, rfl⟩)
              | (go_at_call 36; have hN := Reader_Left.calls HR.out; (with_reducible refine hN.mono ?_); clear hN; rintro e w7 ⟨rfl, hd⟩; have hb := hd.below; have n_ := Aside0.mk (below_step HB.out hb); have n2_ := Aside0.mk (HR.out.below hb); clear HB HR; have HB := n_; have HR := n2_; clear n_ n2_ hb hd))
            have hx := GlobOK.at (HG.out.below (below_drew1 HB.out)) 102 2 (by simp [globTab])
            have n_ := Aside0.mk (below_drew1 HB.out)
            have n2_ := Aside0.mk (HR.out.below (Below.drew (Below.refl _ _)))
            clear HB HR
            have HB := n_
            have HR := n2_
            clear n_ n2_
            refine start_ (n := 8) (S := fun w' => w'.cell? ⟨2, 0, none⟩ = some (.iface 88 (.pointer (some (adr 102))))) (ds := []) #[false, false, false, false, false, false, false, false] (by kernel_rfl) rfl rfl hx (fun hHeld => ?_)
            generalize w7.drew = w8 at HB HR hHeld ⊢
            clear hx
            refine pure_ (i := 0) (N := some 36) (v := ?_) (a' := ?_) #[true, false, false, false, false, false, false, false] rfl rfl (by kernel_rfl) (fun _ _ _ h => h) (Or.inl ⟨by rfl, ?_⟩) ?_ ?_
            rotate_left
            · intro w'
              go_simp
              with_reducible rfl
            rotate_left
            · simp only [Act.put, List.setIfInBounds_toArray, List.set_cons_zero, List.set_cons_succ, i64_w, i32_w]
              rfl
            refine take_ (i := 2) (N := some 38) (v := ?_) (a' := ?_) #[true, false, true, false, false, false, false, false] rfl rfl (by kernel_rfl) (fun _ _ _ h => h) (Or.inl ⟨by rfl, ?_⟩) hHeld ?_ ?_
            rotate_left
            · intro w' s0
              go_simp
              with_reducible rfl
            rotate_left
            · simp only [Act.put, List.setIfInBounds_toArray, List.set_cons_zero, List.set_cons_succ, i64_w, i32_w]
              rfl
            refine one_ (i := 1) (N := some 37) #[true, true, true, false, false, false, false, false] rfl rfl (by kernel_rfl) (by decide) (fun K hK => ?_)
            refine goes_ Tryd.func37 (by kernel_rfl) rfl #[.pointer (some ⟨g, 0, none⟩)] (by rfl) rfl rfl (by (try simp only [List.map_toArray, List.map_cons, List.map_nil]); first | done | rfl) ?_
            with_reducible refine (Reader_At.calls HR.out).mono ?_
            rintro e w9 ⟨rfl, rfl⟩
            refine ⟨_, rfl, ?_⟩
            refine hK.out _ _ hHeld (fun hHeld => ?_)
            clear hK K
            refine norm_ (a' := ?_) ?_ ?_
            rotate_left
            · show Act.put _ (some 37) _ = _
              simp only [Act.put, List.setIfInBounds_toArray, List.set_cons_zero, List.set_cons_succ, i64_w, i32_w]
              rfl
            refine pure_ (i := 3) (N := some 39) (v := ?_) (a' := ?_) #[true, true, true, true, false, false, false, false] rfl rfl (by kernel_rfl) (fun _ _ _ h => h) (Or.inl ⟨by rfl, ?_⟩) ?_ ?_
            rotate_left
            · intro w'
              go_simp
              with_reducible rfl
            rotate_left
            · simp only [Act.put, List.setIfInBounds_toArray, List.set_cons_zero, List.set_cons_succ, i64_w, i32_w]
              rfl
            refine pure_ (i := 6) (N := some 4) (v := ?_) (a' := ?_) #[true, true, true, true, false, false, true, false] rfl rfl (by kernel_rfl) (fun _ _ _ h => h) (Or.inl ⟨by rfl, ?_⟩) ?_ ?_
            rotate_left
            · intro w'
              go_simp
              with_reducible rfl
            rotate_left
            · simp only [Act.put, List.setIfInBounds_toArray, List.set_cons_zero, List.set_cons_succ, i64_w, i32_w]
              rfl
            refine one_ (i := 4) (N := some 40) #[true, true, true, true, true, false, true, false] rfl rfl (by kernel_rfl) (by decide) (fun K hK => ?_)
            refine box_step (by rfl) (N := 40) rfl (cs := #[.int .i64 p, .iface 88 (.pointer (some (adr 102)))]) (t := 70) ?hr ?_
            (case hr => first | (go_simp; done) | (go_simp; rfl))
            intro gb hg wb hbox hb
            have BK := Aside0.mk hbox
            have HNE := Aside0.mk (show gb ≠ g from by have := HR.out.lt; omega)
            have HB2 := Aside0.mk (below_step HB.out hb)
            have hHeld2 := pw_cell_below hb hHeld
            clear hbox hg hb HB HR hHeld
            refine hK.out _ _ hHeld2 (fun hHeld => ?_)
            clear hK K
            refine norm_ (a' := ?_) ?_ ?_
            rotate_left
            · show Act.put _ (some 40) _ = _
              simp only [Act.put, List.setIfInBounds_toArray, List.set_cons_zero, List.set_cons_succ, i64_w, i32_w]
              rfl
            refine pure_ (i := 5) (N := some 41) (v := ?_) (a' := ?_) #[true, true, true, true, true, true, true, false] rfl rfl (by kernel_rfl) (fun _ _ _ h => h) (Or.inl ⟨by rfl, ?_⟩) ?_ ?_
            rotate_left
            · intro w'
              go_simp
              with_reducible rfl
            rotate_left
            · simp only [Act.put, List.setIfInBounds_toArray, List.set_cons_zero, List.set_cons_succ, i64_w, i32_w]
              rfl
            refine pure_ (i := 7) (N := some 5) (v := ?_) (a' := ?_) #[true, true, true, true, true, true, true, true] rfl rfl (by kernel_rfl) (fun _ _ _ h => h) (Or.inl ⟨by rfl, ?_⟩) ?_ ?_
            rotate_left
            · intro w'
              go_simp
              with_reducible rfl
            rotate_left
            · simp only [Act.put, List.setIfInBounds_toArray, List.set_cons_zero, List.set_cons_succ, i64_w, i32_w]
              rfl
            refine done_ (by kernel_rfl) ?_
            go_wp2
            go_ret2
            first | exact ⟨none, 0, _, rfl, Nat.le_refl _, Kd.C_nil _ _, ⟨g, gb, rfl, HNE.out, BK.out⟩, HB2.out⟩ | exact ⟨none, 0, _, rfl, Kd.C_nil _ _, ⟨g, gb, rfl, HNE.out, BK.out⟩, HB2.out⟩
          · have e_ : RU = (acc, none) := by
              have h_ : RU = if (b.length : Int) - p > 0 then ([], some (102, some p)) else (acc, none) := HRU.out
              rw [h_, if_neg hgt]
            subst e_
            clear HRU
            have d1 : decide ((b.length : Int) - p > 0) = false := decide_eq_false hgt
            have d2 : decide (p < (b.length : Int)) = false := decide_eq_false (by omega)
            have d3 : (p < (b.length : Int)) = False := eq_false (by omega)
            have d4 : (0 < (b.length : Int) - p) = False := eq_false (by omega)
            have d5 : decide (0 < (b.length : Int) - p) = false := decide_eq_false (by omega)
            clear hgt
            go_wp2_with (first
              | (go_at_call 35; refine (Reader_Err.calls HR.out).mono ?_; rintro e w_ ⟨rfl, ev, rfl, rfl⟩)
              | (go_at_call 36; have hN := Reader_Left.calls HR.out; (with_reducible refine hN.mono ?_); clear hN; rintro e w7 ⟨rfl, hd⟩; have hb := hd.below; have n_ := Aside0.mk (below_step HB.out hb); have n2_ := Aside0.mk (Kd.C_below HC7.out hb); clear HB HC7; have HB := n_; have HC7 := n2_; clear n_ n2_ hb hd))
            go_ret2
            exact ⟨A7, c7, _, rfl, HL7.out, HC7.out, rfl, HB.out⟩
/-- Numbers behind nothing, one by one, as the document lays them. -/
def refL (k : Nat) (l : List Int) : Nat → Nat → List Int → Option (List Int)
  | 0, _, x => some x
  | d + 1, i, x => (pledgeref1_Put.f k x (rd l (i : Int))).bind fun v => refL k l d (i + 1) v
/-- Numbers read one by one by the document's reader. -/
def refRun (k : Nat) (b : List Int) : Nat → Int → Int → Bool → Int → List Int → Option (List Int × Int × Int × Bool × Int)
  | 0, p, c, pl, po, acc => some (acc, p, c, pl, po)
  | d + 1, p, c, pl, po, acc => (pledgeref1_Reader_Num.f k b p c pl po (-9223372036854775808) 9223372036854775807).bind fun t => refRun k b d t.2.1 t.2.2.1 t.2.2.2.1 t.2.2.2.2 (acc ++ [t.1])
/-- What is told of the document's reader at the end is what Unpack tells. -/
def finF (k : Nat) (b : List Int) (n : Int) (R : List Int × Int × Int × Bool × Int) : Prop :=
  if R.2.2.1 ≠ 0 then unpS b n = ([], some (R.2.2.1, some R.2.2.2.2)) ∧ R.2.2.2.1 = true ∧ (101 ≤ R.2.2.1 ∧ R.2.2.1 ≤ 121) ∧ pledgeref_SameFault.f R.2.2.1 true R.2.2.2.2 R.2.2.1 true R.2.2.2.2 = some true ∧ pledgeref_SameLongs.f k [] [] = some true
  else if wrap64 ((b.length : Int) - R.2.1) > 0 then unpS b n = ([], some (102, some R.2.1)) ∧ pledgeref_SameFault.f 102 true R.2.1 102 true R.2.1 = some true ∧ pledgeref_SameLongs.f k [] [] = some true
  else unpS b n = (R.1, none) ∧ R.2.2.2.1 = false ∧ R.2.2.2.2 = 0 ∧ pledgeref_SameLongs.f k R.1 R.1 = some true
/-- What the law asks, but for its examples. -/
def RSP (k : Nat) (b : List Int) (a3 : Int) (x : List Int × Option Int) (y : List Int × Int) (q : Int × Int × Int × Option Int) (z : Int × Int × Int × Int) (want : List Int) (pk : List Int × Option Int) : Prop :=
  pledgesee_Is.f x.2 y.2 = some true ∧ pledgeref_SameBytes.f k x.1 y.1 = some true ∧ pledgesee_Is.f q.2.2.2 z.2.2.2 = some true ∧ q.1 = z.1 ∧ q.2.1 = z.2.1 ∧ q.2.2.1 = z.2.2.1 ∧
      (if 64 < want.length then pledgesee_Is.f pk.2 105 = some true ∧ pk.1 = [] else pk.2 = none ∧ pledgeref_SameBytes.f k pk.1 want = some true) ∧ want.length ≤ 1000000 ∧
      (¬ (a3 < 0 ∨ a3 > 64) → ∃ R, refRun k b a3.toNat 0 0 false 0 [] = some R ∧ finF k b a3 R)
open Classical in
noncomputable def pledgelaw9_RecSays.f (k : Nat) (a0_0 a0_1 a0_2 : Int) (key b : List Int) (a3 : Int) (l : List Int) : Option Bool :=
  (pledgelaw9_first.f k).bind fun t => if t = true then (if 60 < key.length then some true else if 100 < b.length then some true else if 30 < l.length then some true else
    (rec_Key.f k a0_0 a0_1 a0_2).bind fun x => (pledgeref5_Key.f k a0_0 a0_1 a0_2).bind fun y => (rec_Read.f k key).bind fun q => (pledgeref5_Read.f k key).bind fun z =>
    (refL k l l.length 0 []).bind fun want => (rec_Pack.f k l).bind fun pk =>
    if RSP k b a3 x y q z want pk then some true else none) else some false
set_option maxHeartbeats 8000000 in
set_option maxRecDepth 1000000 in
theorem pledgelaw9_RecSays.calls [Inhabited (Int → Addr)] (k : Nat) (a0_0 a0_1 a0_2 : Int) (A1 : Option Addr) (c1 : Nat) (key : List Int) (A2 : Option Addr) (c2 : Nat) (b : List Int) (a3 : Int) (A4 : Option Addr) (c4 : Nat) (l : List Int) (r : Bool) (w : World) (hG : GlobOK w) (hr1 : Kd.C (Kd.int .u8) w A1 key.length key) (hc1 : key.length ≤ c1) (hr2 : Kd.C (Kd.int .u8) w A2 b.length b) (hc2 : b.length ≤ c2) (hr4 : Kd.C (Kd.int .i64) w A4 l.length l) (hc4 : l.length ≤ c4) (h : pledgelaw9_RecSays.f k a0_0 a0_1 a0_2 key b a3 l = some r) :
    Calls Tryd.prog 6 #[.agg #[.int .i64 a0_0, .int .i64 a0_1, .int .i64 a0_2], .slice A1 key.length c1, .slice A2 b.length c2, .int .i64 a3, .slice A4 l.length c4] w fun e w' => e = .returned (.bool r) ∧ Below w.heap.size w w' := by
  have hu1 := Tryd.underlying29
  have hu2 := Tryd.underlying54
  have hu3 := Tryd.underlying44
  have HG := Aside0.mk hG
  have HMK := Aside0.mk hr1
  have HCK := Aside0.mk hc1
  have HMB := Aside0.mk hr2
  have HCB := Aside0.mk hc2
  have HML := Aside0.mk hr4
  have HCL := Aside0.mk hc4
  have HB := Aside0.mk (Below.refl w.heap.size w)
  clear hG hr1 hc1 hr2 hc2 hr4 hc4
  unfold pledgelaw9_RecSays.f at h
  obtain ⟨t, h1, h⟩ := Option.bind_eq_some_iff.mp h
  have H1 := Aside0.mk h1
  clear h1
  cases t with
  | false =>
    rw [if_neg (by simp)] at h
    obtain rfl := Option.some.inj h
    clear h
    go_enter Tryd.func6, Tryd.ntmps6
    go_wp2_with (first
      | ((with_reducible refine gate_dst (N := 5) rfl ?_); refine box_event ?hg (N := 5) ?hd (cs := #[.int .i64 a0_0, .int .i64 a0_1, .int .i64 a0_2]) (t := 29) ?hr ?_; (case hd => rfl); (case hg => rfl); (case hr => first | (go_simp; done) | (go_simp; rfl)); intro gp hg_ w_ hbox hb; have n_ := Aside0.mk (below_step HB.out hb); clear HB; have HB := n_; clear n_; have BK := Aside0.mk hbox; clear hb hbox hg_; have hz0 : w_.cell? ⟨gp, 0, none⟩ = some (.int .i64 a0_0) := (blk_cell BK.out 0).trans rfl; have hz1 : w_.cell? ⟨gp, 1, none⟩ = some (.int .i64 a0_1) := (blk_cell BK.out 1).trans rfl; have hz2 : w_.cell? ⟨gp, 2, none⟩ = some (.int .i64 a0_2) := (blk_cell BK.out 2).trans rfl)
      | (go_at_call 7; refine (pledgelaw9_first.calls k false _ (HG.out.below HB.out) H1.out).mono ?_; rintro e w_ ⟨rfl, hb⟩; have n_ := Aside0.mk (below_step HB.out hb); clear HB; have HB := n_; clear n_; have n_ := Aside0.mk (blk_below BK.out hb); clear BK hz0 hz1 hz2; have BK := n_; clear n_; have hz0 : w_.cell? ⟨gp, 0, none⟩ = some (.int .i64 a0_0) := (blk_cell BK.out 0).trans rfl; have hz1 : w_.cell? ⟨gp, 1, none⟩ = some (.int .i64 a0_1) := (blk_cell BK.out 1).trans rfl; have hz2 : w_.cell? ⟨gp, 2, none⟩ = some (.int .i64 a0_2) := (blk_cell BK.out 2).trans rfl; clear hb))
    go_ret
    exact ⟨rfl, HB.out⟩
  | true =>
    rw [if_pos rfl] at h
    by_cases h60 : 60 < key.length
    · rw [if_pos h60] at h
      obtain rfl := Option.some.inj h
      have cb0 : decide ((key.length : Int) > 60) = true := decide_eq_true (by omega)
      clear h h60
      go_enter Tryd.func6, Tryd.ntmps6
      go_wp2_with (first
        | ((with_reducible refine gate_dst (N := 5) rfl ?_); refine box_event ?hg (N := 5) ?hd (cs := #[.int .i64 a0_0, .int .i64 a0_1, .int .i64 a0_2]) (t := 29) ?hr ?_; (case hd => rfl); (case hg => rfl); (case hr => first | (go_simp; done) | (go_simp; rfl)); intro gp hg_ w_ hbox hb; have n_ := Aside0.mk (below_step HB.out hb); clear HB; have HB := n_; clear n_; have BK := Aside0.mk hbox; clear hb hbox hg_; have hz0 : w_.cell? ⟨gp, 0, none⟩ = some (.int .i64 a0_0) := (blk_cell BK.out 0).trans rfl; have hz1 : w_.cell? ⟨gp, 1, none⟩ = some (.int .i64 a0_1) := (blk_cell BK.out 1).trans rfl; have hz2 : w_.cell? ⟨gp, 2, none⟩ = some (.int .i64 a0_2) := (blk_cell BK.out 2).trans rfl)
        | (go_at_call 7; refine (pledgelaw9_first.calls k true _ (HG.out.below HB.out) H1.out).mono ?_; rintro e w_ ⟨rfl, hb⟩; have n_ := Aside0.mk (below_step HB.out hb); clear HB; have HB := n_; clear n_; have n_ := Aside0.mk (blk_below BK.out hb); clear BK hz0 hz1 hz2; have BK := n_; clear n_; have hz0 : w_.cell? ⟨gp, 0, none⟩ = some (.int .i64 a0_0) := (blk_cell BK.out 0).trans rfl; have hz1 : w_.cell? ⟨gp, 1, none⟩ = some (.int .i64 a0_1) := (blk_cell BK.out 1).trans rfl; have hz2 : w_.cell? ⟨gp, 2, none⟩ = some (.int .i64 a0_2) := (blk_cell BK.out 2).trans rfl; clear hb))
      go_ret
      exact ⟨rfl, HB.out⟩
    rw [if_neg h60] at h
    have cb0 : decide ((key.length : Int) > 60) = false := decide_eq_false (by omega)
    by_cases h100 : 100 < b.length
    · rw [if_pos h100] at h
      obtain rfl := Option.some.inj h
      have cb1 : decide ((b.length : Int) > 100) = true := decide_eq_true (by omega)
      clear h h60 h100
      go_enter Tryd.func6, Tryd.ntmps6
      go_wp2_with (first
        | ((with_reducible refine gate_dst (N := 5) rfl ?_); refine box_event ?hg (N := 5) ?hd (cs := #[.int .i64 a0_0, .int .i64 a0_1, .int .i64 a0_2]) (t := 29) ?hr ?_; (case hd => rfl); (case hg => rfl); (case hr => first | (go_simp; done) | (go_simp; rfl)); intro gp hg_ w_ hbox hb; have n_ := Aside0.mk (below_step HB.out hb); clear HB; have HB := n_; clear n_; have BK := Aside0.mk hbox; clear hb hbox hg_; have hz0 : w_.cell? ⟨gp, 0, none⟩ = some (.int .i64 a0_0) := (blk_cell BK.out 0).trans rfl; have hz1 : w_.cell? ⟨gp, 1, none⟩ = some (.int .i64 a0_1) := (blk_cell BK.out 1).trans rfl; have hz2 : w_.cell? ⟨gp, 2, none⟩ = some (.int .i64 a0_2) := (blk_cell BK.out 2).trans rfl)
        | (go_at_call 7; refine (pledgelaw9_first.calls k true _ (HG.out.below HB.out) H1.out).mono ?_; rintro e w_ ⟨rfl, hb⟩; have n_ := Aside0.mk (below_step HB.out hb); clear HB; have HB := n_; clear n_; have n_ := Aside0.mk (blk_below BK.out hb); clear BK hz0 hz1 hz2; have BK := n_; clear n_; have hz0 : w_.cell? ⟨gp, 0, none⟩ = some (.int .i64 a0_0) := (blk_cell BK.out 0).trans rfl; have hz1 : w_.cell? ⟨gp, 1, none⟩ = some (.int .i64 a0_1) := (blk_cell BK.out 1).trans rfl; have hz2 : w_.cell? ⟨gp, 2, none⟩ = some (.int .i64 a0_2) := (blk_cell BK.out 2).trans rfl; clear hb))
      go_ret
      exact ⟨rfl, HB.out⟩
    rw [if_neg h100] at h
    have cb1 : decide ((b.length : Int) > 100) = false := decide_eq_false (by omega)
    by_cases h30 : 30 < l.length
    · rw [if_pos h30] at h
      obtain rfl := Option.some.inj h
      have cb2 : decide ((l.length : Int) > 30) = true := decide_eq_true (by omega)
      clear h h60 h100 h30
      go_enter Tryd.func6, Tryd.ntmps6
      go_wp2_with (first
        | ((with_reducible refine gate_dst (N := 5) rfl ?_); refine box_event ?hg (N := 5) ?hd (cs := #[.int .i64 a0_0, .int .i64 a0_1, .int .i64 a0_2]) (t := 29) ?hr ?_; (case hd => rfl); (case hg => rfl); (case hr => first | (go_simp; done) | (go_simp; rfl)); intro gp hg_ w_ hbox hb; have n_ := Aside0.mk (below_step HB.out hb); clear HB; have HB := n_; clear n_; have BK := Aside0.mk hbox; clear hb hbox hg_; have hz0 : w_.cell? ⟨gp, 0, none⟩ = some (.int .i64 a0_0) := (blk_cell BK.out 0).trans rfl; have hz1 : w_.cell? ⟨gp, 1, none⟩ = some (.int .i64 a0_1) := (blk_cell BK.out 1).trans rfl; have hz2 : w_.cell? ⟨gp, 2, none⟩ = some (.int .i64 a0_2) := (blk_cell BK.out 2).trans rfl)
        | (go_at_call 7; refine (pledgelaw9_first.calls k true _ (HG.out.below HB.out) H1.out).mono ?_; rintro e w_ ⟨rfl, hb⟩; have n_ := Aside0.mk (below_step HB.out hb); clear HB; have HB := n_; clear n_; have n_ := Aside0.mk (blk_below BK.out hb); clear BK hz0 hz1 hz2; have BK := n_; clear n_; have hz0 : w_.cell? ⟨gp, 0, none⟩ = some (.int .i64 a0_0) := (blk_cell BK.out 0).trans rfl; have hz1 : w_.cell? ⟨gp, 1, none⟩ = some (.int .i64 a0_1) := (blk_cell BK.out 1).trans rfl; have hz2 : w_.cell? ⟨gp, 2, none⟩ = some (.int .i64 a0_2) := (blk_cell BK.out 2).trans rfl; clear hb))
      go_ret
      exact ⟨rfl, HB.out⟩
    rw [if_neg h30] at h
    have cb2 : decide ((l.length : Int) > 30) = false := decide_eq_false (by omega)
    obtain ⟨⟨x1, x2⟩, hkx, h⟩ := Option.bind_eq_some_iff.mp h
    obtain ⟨⟨y1, y2⟩, hky, h⟩ := Option.bind_eq_some_iff.mp h
    obtain ⟨⟨q1, q2, q3, q4⟩, hrd, h⟩ := Option.bind_eq_some_iff.mp h
    obtain ⟨⟨z1, z2, z3, z4⟩, hrr, h⟩ := Option.bind_eq_some_iff.mp h
    obtain ⟨want0, hwant, h⟩ := Option.bind_eq_some_iff.mp h
    obtain ⟨⟨p1, p2⟩, hpk, h⟩ := Option.bind_eq_some_iff.mp h
    by_cases hc : RSP k b a3 (x1, x2) (y1, y2) (q1, q2, q3, q4) (z1, z2, z3, z4) want0 (p1, p2)
    rotate_left
    · rw [if_neg hc] at h; exact absurd h (by simp)
    rw [if_pos hc] at h
    obtain rfl := Option.some.inj h
    unfold RSP at hc
    simp only [] at hc
    obtain ⟨g1, g2, g3, g4, g5, g6, g7, g8, g9⟩ := hc
    subst g4
    subst g5
    subst g6
    obtain ⟨um, ue, hu⟩ : ∃ um ue, unpS b a3 = (um, ue) := ⟨_, _, rfl⟩
    have HKX := Aside0.mk hkx
    have HKY := Aside0.mk hky
    have HRD := Aside0.mk hrd
    have HRR := Aside0.mk hrr
    have HRUN1 := Aside0.mk hwant
    have HPK := Aside0.mk hpk
    have HIS1 := Aside0.mk g1
    have HSB1 := Aside0.mk g2
    have HIS2 := Aside0.mk g3
    have HPS := Aside0.mk g7
    have HLAST := Aside0.mk g9
    have HU := Aside0.mk hu
    have HUO := Aside0.mk (fun hn : a3 < 0 ∨ a3 > 64 => (show unpS b a3 = ([], some (103, none)) by unfold unpS; rw [if_pos hn]))
    have HIS4 := Aside0.mk (show pledgesee_Is.f (some 103) 103 = some true by decide)
    have HSN := Aside0.mk (show pledgesee_Same.f none 0 false 0 = some true by decide)
    have HM50 := Aside0.mk (show l.length ≤ 30 by omega)
    have HLEN := Aside0.mk (show b.length ≤ 1000 by omega)
    clear h hkx hky hrd hrr hwant hpk g1 g2 g3 g7 g8 g9 hu h60 h100 h30
    go_enter Tryd.func6, Tryd.ntmps6
    go_upto_region 11 with (first
      | ((with_reducible refine gate_dst (N := 5) rfl ?_); refine box_event ?hg (N := 5) ?hd (cs := #[.int .i64 a0_0, .int .i64 a0_1, .int .i64 a0_2]) (t := 29) ?hr ?_; (case hd => rfl); (case hg => rfl); (case hr => first | (go_simp; done) | (go_simp; rfl)); intro gp hg_ w_ hbox hb; have n_ := Aside0.mk (below_step HB.out hb); clear HB; have HB := n_; clear n_; have BK := Aside0.mk hbox; clear hb hbox hg_; have hz0 : w_.cell? ⟨gp, 0, none⟩ = some (.int .i64 a0_0) := (blk_cell BK.out 0).trans rfl; have hz1 : w_.cell? ⟨gp, 1, none⟩ = some (.int .i64 a0_1) := (blk_cell BK.out 1).trans rfl; have hz2 : w_.cell? ⟨gp, 2, none⟩ = some (.int .i64 a0_2) := (blk_cell BK.out 2).trans rfl)
      | (go_at_call 7; refine (pledgelaw9_first.calls k true _ (HG.out.below HB.out) H1.out).mono ?_; rintro e w_ ⟨rfl, hb⟩; have n_ := Aside0.mk (below_step HB.out hb); clear HB; have HB := n_; clear n_; have n_ := Aside0.mk (blk_below BK.out hb); clear BK hz0 hz1 hz2; have BK := n_; clear n_; have hz0 : w_.cell? ⟨gp, 0, none⟩ = some (.int .i64 a0_0) := (blk_cell BK.out 0).trans rfl; have hz1 : w_.cell? ⟨gp, 1, none⟩ = some (.int .i64 a0_1) := (blk_cell BK.out 1).trans rfl; have hz2 : w_.cell? ⟨gp, 2, none⟩ = some (.int .i64 a0_2) := (blk_cell BK.out 2).trans rfl; clear hb)
      | (go_at_call 8; have hN := rec_Key.calls k a0_0 a0_1 a0_2 x1 x2 _ (HG.out.below HB.out) HKX.out; (with_reducible refine hN.mono ?_); clear hN; rintro e w_ ⟨v_, rfl, ho, hb⟩; obtain ⟨A5, c5, rfl, hl_, hC_⟩ := Kd.R_reads ho; have n_ := Aside0.mk (below_step HB.out hb); clear HB; have HB := n_; clear n_; have n_ := Aside0.mk (blk_below BK.out hb); clear BK hz0 hz1 hz2; have BK := n_; clear n_; have hz0 : w_.cell? ⟨gp, 0, none⟩ = some (.int .i64 a0_0) := (blk_cell BK.out 0).trans rfl; have hz1 : w_.cell? ⟨gp, 1, none⟩ = some (.int .i64 a0_1) := (blk_cell BK.out 1).trans rfl; have hz2 : w_.cell? ⟨gp, 2, none⟩ = some (.int .i64 a0_2) := (blk_cell BK.out 2).trans rfl; have HX := Aside0.mk hC_; have HXL := Aside0.mk hl_; clear ho hb hl_ hC_)
      | (go_at_call 19; have hN := fun W_ => pledgeref5_Key.calls k a0_0 a0_1 a0_2 y1 y2 W_ HKY.out; (with_reducible refine (hN _).mono ?_); clear hN; rintro e w_ ⟨v_, rfl, ho, hb⟩; obtain ⟨A6, c6, rfl, hl_, hC_⟩ := Kd.R_reads ho; have n_ := Aside0.mk (below_step HB.out hb); clear HB; have HB := n_; clear n_; have n_ := Aside0.mk (Kd.C_below HX.out hb); clear HX; have HX := n_; clear n_; have n_ := Aside0.mk (blk_below BK.out hb); clear BK hz0 hz1 hz2; have BK := n_; clear n_; have hz0 : w_.cell? ⟨gp, 0, none⟩ = some (.int .i64 a0_0) := (blk_cell BK.out 0).trans rfl; have hz1 : w_.cell? ⟨gp, 1, none⟩ = some (.int .i64 a0_1) := (blk_cell BK.out 1).trans rfl; have hz2 : w_.cell? ⟨gp, 2, none⟩ = some (.int .i64 a0_2) := (blk_cell BK.out 2).trans rfl; have HY := Aside0.mk hC_; have HYL := Aside0.mk hl_; clear ho hb hl_ hC_)
      | (go_at_call 9; have hN := pledgesee_Is.calls x2 y2 true _ (HG.out.below HB.out) HIS1.out; (with_reducible refine hN.mono ?_); clear hN; rintro e w_ ⟨rfl, hb⟩; have n_ := Aside0.mk (below_step HB.out hb); clear HB; have HB := n_; clear n_; have n_ := Aside0.mk (Kd.C_below HX.out hb); clear HX; have HX := n_; clear n_; have n_ := Aside0.mk (Kd.C_below HY.out hb); clear HY; have HY := n_; clear n_; have n_ := Aside0.mk (blk_below BK.out hb); clear BK hz0 hz1 hz2; have BK := n_; clear n_; have hz0 : w_.cell? ⟨gp, 0, none⟩ = some (.int .i64 a0_0) := (blk_cell BK.out 0).trans rfl; have hz1 : w_.cell? ⟨gp, 1, none⟩ = some (.int .i64 a0_1) := (blk_cell BK.out 1).trans rfl; have hz2 : w_.cell? ⟨gp, 2, none⟩ = some (.int .i64 a0_2) := (blk_cell BK.out 2).trans rfl; clear hb)
      | (go_at_call 20; have hN := pledgeref_SameBytes.calls k A5 c5 x1 A6 c6 y1 true _ HX.out HXL.out HY.out HYL.out HSB1.out; (with_reducible refine hN.mono ?_); clear hN; rintro e w_ ⟨rfl, hd⟩; have hb := hd.below; have n_ := Aside0.mk (below_step HB.out hb); clear HB; have HB := n_; clear n_; have n_ := Aside0.mk (Kd.C_below HX.out hb); clear HX; have HX := n_; clear n_; have n_ := Aside0.mk (Kd.C_below HY.out hb); clear HY; have HY := n_; clear n_; have n_ := Aside0.mk (blk_below BK.out hb); clear BK hz0 hz1 hz2; have BK := n_; clear n_; have hz0 : w_.cell? ⟨gp, 0, none⟩ = some (.int .i64 a0_0) := (blk_cell BK.out 0).trans rfl; have hz1 : w_.cell? ⟨gp, 1, none⟩ = some (.int .i64 a0_1) := (blk_cell BK.out 1).trans rfl; have hz2 : w_.cell? ⟨gp, 2, none⟩ = some (.int .i64 a0_2) := (blk_cell BK.out 2).trans rfl; clear hb hd)
      | (go_at_call 10; have hN := rec_Read.calls k A1 c1 key q1 q2 q3 q4 _ (HG.out.below HB.out) (Kd.C_below HMK.out HB.out) HCK.out HRD.out; (with_reducible refine hN.mono ?_); clear hN; rintro e w_ ⟨rfl, hb⟩; have n_ := Aside0.mk (below_step HB.out hb); clear HB; have HB := n_; clear n_; have n_ := Aside0.mk (blk_below BK.out hb); clear BK hz0 hz1 hz2; have BK := n_; clear n_; have hz0 : w_.cell? ⟨gp, 0, none⟩ = some (.int .i64 a0_0) := (blk_cell BK.out 0).trans rfl; have hz1 : w_.cell? ⟨gp, 1, none⟩ = some (.int .i64 a0_1) := (blk_cell BK.out 1).trans rfl; have hz2 : w_.cell? ⟨gp, 2, none⟩ = some (.int .i64 a0_2) := (blk_cell BK.out 2).trans rfl; clear hb)
      | ((with_reducible refine gate_dst (N := 16) rfl ?_); refine box_event ?hg (N := 16) ?hd (cs := #[.int .i64 0, .int .i64 0, .int .i64 0]) (t := 29) ?hr ?_; (case hd => rfl); (case hg => rfl); (case hr => first | (go_simp; done) | (go_simp; rfl)); intro gq hg_ w_ hbox hb; have HBX := Aside0.mk (Nat.le_trans (below_size HB.out) (Nat.le_of_eq hg_.symm)); have n_ := Aside0.mk (below_step HB.out hb); clear HB; have HB := n_; clear n_; have BQ := Aside0.mk hbox; clear hb hbox hg_ BK hz0 hz1 hz2; have hx0 : w_.cell? ⟨gq, 0, none⟩ = some (.int .i64 0) := (blk_cell BQ.out 0).trans rfl; have hx1 : w_.cell? ⟨gq, 1, none⟩ = some (.int .i64 0) := (blk_cell BQ.out 1).trans rfl; have hx2 : w_.cell? ⟨gq, 2, none⟩ = some (.int .i64 0) := (blk_cell BQ.out 2).trans rfl; have hg0 := blk_frozen BQ.out 0; have hg1 := blk_frozen BQ.out 1; have hg2 := blk_frozen BQ.out 2))
    have BQ2 := Aside0.mk (blk_put (blk_put (blk_put BQ.out 0 (.int .i64 q1) rfl) 1 (.int .i64 q2) rfl) 2 (.int .i64 q3) rfl)
    have HB2 := Aside0.mk (((HB.out.setCell (p := ⟨gq, 0, none⟩) HBX.out (.int .i64 q1)).setCell (p := ⟨gq, 1, none⟩) HBX.out (.int .i64 q2)).setCell (p := ⟨gq, 2, none⟩) HBX.out (.int .i64 q3))
    clear BQ HB HBX hx0 hx1 hx2 hg0 hg1 hg2
    try clear HX HXL HY HYL
    generalize (((w_.setCell ⟨gq, 0, none⟩ (.int .i64 q1)).setCell ⟨gq, 1, none⟩ (.int .i64 q2)).setCell ⟨gq, 2, none⟩ (.int .i64 q3)) = w_ at BQ2 HB2 ⊢
    have BQ : Aside0 (w_.heap[gq]? = some (.cells #[.int .i64 q1, .int .i64 q2, .int .i64 q3] 29 (0, 0))) := ⟨BQ2.out.trans rfl⟩
    have HB := HB2
    clear BQ2 HB2
    have hq0 : w_.cell? ⟨gq, 0, none⟩ = some (.int .i64 q1) := (blk_cell BQ.out 0).trans rfl
    have hq1 : w_.cell? ⟨gq, 1, none⟩ = some (.int .i64 q2) := (blk_cell BQ.out 1).trans rfl
    have hq2 : w_.cell? ⟨gq, 2, none⟩ = some (.int .i64 q3) := (blk_cell BQ.out 2).trans rfl
    go_wp2_with (first
      | (go_at_call 21; have hN := pledgeref5_Read.calls k A1 c1 key q1 q2 q3 z4 _ (Kd.C_below HMK.out HB.out) HCK.out HRR.out; (with_reducible refine hN.mono ?_); clear hN; rintro e w_ ⟨rfl, hd⟩; have hb := hd.below; have n_ := Aside0.mk (below_step HB.out hb); clear HB; have HB := n_; clear n_; have n_ := Aside0.mk (blk_below BQ.out hb); clear BQ hq0 hq1 hq2; have BQ := n_; clear n_; have hq0 : w_.cell? ⟨gq, 0, none⟩ = some (.int .i64 q1) := (blk_cell BQ.out 0).trans rfl; have hq1 : w_.cell? ⟨gq, 1, none⟩ = some (.int .i64 q2) := (blk_cell BQ.out 1).trans rfl; have hq2 : w_.cell? ⟨gq, 2, none⟩ = some (.int .i64 q3) := (blk_cell BQ.out 2).trans rfl; clear hb hd)
      | (go_at_call 9; have hN := pledgesee_Is.calls q4 z4 true _ (HG.out.below HB.out) HIS2.out; (with_reducible refine hN.mono ?_); clear hN; rintro e w_ ⟨rfl, hb⟩; have n_ := Aside0.mk (below_step HB.out hb); clear HB; have HB := n_; clear n_; have n_ := Aside0.mk (blk_below BQ.out hb); clear BQ hq0 hq1 hq2; have BQ := n_; clear n_; have hq0 : w_.cell? ⟨gq, 0, none⟩ = some (.int .i64 q1) := (blk_cell BQ.out 0).trans rfl; have hq1 : w_.cell? ⟨gq, 1, none⟩ = some (.int .i64 q2) := (blk_cell BQ.out 1).trans rfl; have hq2 : w_.cell? ⟨gq, 2, none⟩ = some (.int .i64 q3) := (blk_cell BQ.out 2).trans rfl; clear hb))
    clear BQ hq0 hq1 hq2
    clear cb0 cb1 cb2
    go_loopg [22, 23] l.length (fun gq v22 v23 wr => ∃ (i : Nat) (want : List Int) (A3 : Option Addr) (c3 : Nat), v23 = .int .i64 i ∧ v22 = .slice A3 want.length c3 ∧ Aside0 (want.length ≤ c3) ∧ Aside0 (i ≤ l.length) ∧ Aside0 (l.length ≤ gq + i) ∧ Aside0 (refL k l (l.length - i) i want = some want0) ∧ Aside0 (Below w.heap.size w wr) ∧ Aside0 ((Kd.int .u8).C wr A3 want.length want))
    case atStart => exact ⟨0, [], none, 0, rfl, rfl, ⟨Nat.le_refl _⟩, ⟨by omega⟩, ⟨by omega⟩, ⟨by rw [Nat.sub_zero]; exact HRUN1.out⟩, HB, ⟨Kd.C_nil _ _⟩⟩
    case round =>
      clear HB HRUN1
      obtain ⟨i, want, A3, c3, rfl, rfl, HWANTL, HI, HKI, HRUN, HB, HWANT⟩ := hrel
      by_cases hlt : i < l.length
      · have cb1 : decide ((i : Int) < (l.length : Int)) = true := decide_eq_true (by omega)
        have cb2 : ((i : Int) < (l.length : Int)) = True := eq_true (by omega)
        have cb3 : (i < l.length) = True := eq_true hlt
        have HI1 := Aside0.mk (show i + 1 ≤ l.length by omega)
        have HW2 : Aside0 (wrap64 ((i : Int) + 1) = ((i + 1 : Nat) : Int)) := ⟨by have := HM50.out; rw [w64q _ (by omega) (by omega)]; omega⟩
        obtain ⟨ad, eA, hx⟩ := Kd.at_int HML.out (i : Int) (by omega) (by omega)
        subst eA
        rw [Int.toNat_natCast] at hx
        obtain ⟨d, hd⟩ : ∃ d, l.length - i = d + 1 := ⟨l.length - i - 1, by omega⟩
        have hrun := HRUN.out
        rw [hd] at hrun
        simp only [refL] at hrun
        obtain ⟨v, hv, hrun⟩ := Option.bind_eq_some_iff.mp hrun
        have HV := Aside0.mk hv
        have HRUNB := Aside0.mk hrun
        have HD := Aside0.mk hd
        clear hrun hv hlt hd HRUN
        have hx2 := (HB.out.cell (World.block_lt_of_cell? w _ hx)).trans hx
        go_wp2_with (go_at_call 22; have hN := pledgeref1_Put.calls k A3 c3 want (rd l (i : Int)) v _ HWANT.out HWANTL.out HV.out; (with_reducible refine hN.mono ?_); clear hN; rintro e w_ ⟨v_, rfl, ho, hb⟩; obtain ⟨A5, c5, rfl, hl_, hC_⟩ := Kd.R_reads ho; have n_ := Aside0.mk (below_step HB.out hb); clear HB; have HB := n_; clear n_; clear HWANT HWANTL; have HWANT := Aside0.mk hC_; have HWANTL := Aside0.mk hl_; clear ho hb hl_ hC_)
        clear hx hx2
        go_roundg (l.length - (i + 1))
        case measure => have := HKI.out; have := HI1.out; omega
        case rel => exact ⟨i + 1, v, _, _, by rw [HW2.out], rfl, HWANTL, ⟨HI1.out⟩, ⟨by have := HI1.out; omega⟩, ⟨by rw [show l.length - (i + 1) = d by have := HD.out; omega]; exact HRUNB.out⟩, HB, HWANT⟩
      · obtain rfl : l.length = i := by have := HI.out; omega
        have cb1 : decide ((l.length : Int) < (l.length : Int)) = false := decide_eq_false (by omega)
        have cb2 : ((l.length : Int) < (l.length : Int)) = False := eq_false (by omega)
        have hrun := HRUN.out
        rw [Nat.sub_self] at hrun
        have e_ : want = want0 := Option.some.inj (show some want = some want0 from hrun)
        subst e_
        have hps := HPS.out
        clear hrun HRUN hlt HI HKI HPS
        by_cases h64 : 64 < want.length
        · rw [if_pos h64] at hps
          have cb3 : decide ((want.length : Int) > 64) = true := decide_eq_true (by omega)
          have cb4 : decide (64 < want.length) = true := decide_eq_true h64
          have HIS3 := Aside0.mk hps.1
          obtain ⟨_, rfl⟩ := hps
          clear h64
          go_upto_region 25 with (first
            | (go_at_call 14; have hN := rec_Pack.calls k A4 c4 l ([] : List Int) p2 _ (HG.out.below HB.out) (Kd.C_below HML.out HB.out) HCL.out HPK.out; (with_reducible refine hN.mono ?_); clear hN; rintro e w_ ⟨v_, rfl, ho, hb⟩; obtain ⟨A7, c7, rfl, hl_, hC_⟩ := Kd.R_reads ho; have n_ := Aside0.mk (below_step HB.out hb); clear HB; have HB := n_; clear n_; have n_ := Aside0.mk (Kd.C_below HWANT.out hb); clear HWANT; have HWANT := n_; clear n_; have HP := Aside0.mk hC_; have HPL := Aside0.mk hl_; clear ho hb hl_ hC_)
            | (go_at_call 9; have hN := pledgesee_Is.calls p2 105 true _ (HG.out.below HB.out) HIS3.out; (with_reducible refine hN.mono ?_); clear hN; rintro e w_ ⟨rfl, hb⟩; have n_ := Aside0.mk (below_step HB.out hb); clear HB; have HB := n_; clear n_; have n_ := Aside0.mk (Kd.C_below HWANT.out hb); clear HWANT; have HWANT := n_; clear n_; have n_ := Aside0.mk (Kd.C_below HP.out hb); clear HP; have HP := n_; clear n_; clear hb))
          clear HP HPL HWANT HWANTL
          clear cb1 cb2 cb3 cb4
          by_cases hn : a3 < 0 ∨ a3 > 64
          · have hu := HUO.out hn
            obtain ⟨rfl, rfl⟩ := Prod.mk.inj (HU.out.symm.trans hu)
            cases d1 : decide (a3 < 0)
            · have d2 : decide (a3 > 64) = true := decide_eq_true (by rcases hn with h | h; exact absurd h (of_decide_eq_false d1); exact h)
              clear hn hu
              go_wp2_with (first
                | (go_at_call 15; have hN := rec_Unpack.calls A2 c2 b a3 _ (HG.out.below HB.out) (Kd.C_below HMB.out HB.out) HCB.out HLEN.out; rw [HU.out] at hN; simp only [] at hN; (with_reducible refine hN.mono ?_); clear hN; rintro e w_ ⟨A8, c8, ev, rfl, hl_, hC_, hE_, hb⟩; have n_ := Aside0.mk (below_step HB.out hb); clear HB; have HB := n_; clear n_; obtain rfl := hE_; have HM := Aside0.mk hC_; have HML2 := Aside0.mk hl_; clear hb hl_ hC_)
                | (go_at_call 9; have hN := pledgesee_Is.calls (some 103) 103 true _ (HG.out.below HB.out) HIS4.out; (with_reducible refine hN.mono ?_); clear hN; rintro e w_ ⟨rfl, hb⟩; have n_ := Aside0.mk (below_step HB.out hb); clear HB; have HB := n_; clear n_; have n_ := Aside0.mk (Kd.C_below HM.out hb); clear HM; have HM := n_; clear n_; clear hb))
              go_ret
              exact ⟨rfl, HB.out⟩
            · clear hn hu
              go_wp2_with (first
                | (go_at_call 15; have hN := rec_Unpack.calls A2 c2 b a3 _ (HG.out.below HB.out) (Kd.C_below HMB.out HB.out) HCB.out HLEN.out; rw [HU.out] at hN; simp only [] at hN; (with_reducible refine hN.mono ?_); clear hN; rintro e w_ ⟨A8, c8, ev, rfl, hl_, hC_, hE_, hb⟩; have n_ := Aside0.mk (below_step HB.out hb); clear HB; have HB := n_; clear n_; obtain rfl := hE_; have HM := Aside0.mk hC_; have HML2 := Aside0.mk hl_; clear hb hl_ hC_)
                | (go_at_call 9; have hN := pledgesee_Is.calls (some 103) 103 true _ (HG.out.below HB.out) HIS4.out; (with_reducible refine hN.mono ?_); clear hN; rintro e w_ ⟨rfl, hb⟩; have n_ := Aside0.mk (below_step HB.out hb); clear HB; have HB := n_; clear n_; have n_ := Aside0.mk (Kd.C_below HM.out hb); clear HM; have HM := n_; clear n_; clear hb))
              go_ret
              exact ⟨rfl, HB.out⟩
          · obtain ⟨m, rfl⟩ := Int.eq_ofNat_of_zero_le (show 0 ≤ a3 by omega)
            have HM64 := Aside0.mk (show m ≤ 64 by omega)
            have d1 : decide ((m : Int) < 0) = false := decide_eq_false (by omega)
            have d2 : decide ((m : Int) > 64) = false := decide_eq_false (by omega)
            have d3 : decide (64 < m) = false := decide_eq_false (by omega)
            have hl3 := HLAST.out hn
            rw [Int.toNat_natCast] at hl3
            obtain ⟨RR, hrr, hfin⟩ := hl3
            have HRUN2 := Aside0.mk hrr
            have HFIN := Aside0.mk hfin
            clear hn hrr hfin HLAST HUO
            go_upto_region 28 with (first
              | (go_at_call 15; have hN := rec_Unpack.calls A2 c2 b (m : Int) _ (HG.out.below HB.out) (Kd.C_below HMB.out HB.out) HCB.out HLEN.out; rw [HU.out] at hN; simp only [] at hN; (with_reducible refine hN.mono ?_); clear hN; rintro e w_ ⟨A8, c8, ev, rfl, hl_, hC_, hE_, hb⟩; have n_ := Aside0.mk (below_step HB.out hb); clear HB; have HB := n_; clear n_; have HE := Aside0.mk hE_; clear hE_; have HM := Aside0.mk hC_; have HML2 := Aside0.mk hl_; clear hb hl_ hC_))
            have HMB5 := Aside0.mk (Kd.C_below HMB.out HB.out)
            have HB0 := HB
            have HM5 := HM
            have HE5 := HE
            clear HB HM HE
            generalize w_ = w5 at HMB5 HB0 HM5 HE5 ⊢
            go_wp2_with ((with_reducible refine gate_dst (N := 168) rfl ?_); refine box_event ?hg (N := 168) ?hd (cs := #[.slice A2 b.length c2, .int .i64 0, .int .i64 0, .bool false, .int .i64 0]) (t := 54) ?hr ?_; (case hd => rfl); (case hg => rfl); (case hr => first | (go_simp; done) | (go_simp; rfl)); intro g hg_ w6 hbox hb; have HI := Aside0.mk (show IsS54 w5 w6 g b 0 0 false 0 from ⟨A2, c2, hbox, Nat.le_of_eq hg_.symm, HMB5.out⟩); have HB5 := Aside0.mk hb; clear hb hbox hg_)
            go_loopg [29, 30] m (fun gq v29 v30 wr => ∃ (i : Nat) (acc : List Int) (p c : Int) (pl : Bool) (po : Int), v30 = .int .i64 i ∧ Aside0 (acc.length = i) ∧ Aside0 (i ≤ m) ∧ Aside0 (m ≤ gq + i) ∧ Aside0 (refRun k b (m - i) p c pl po acc = some RR) ∧ Aside0 (Below w5.heap.size w5 wr) ∧ Aside0 (IsS54 w5 wr g b p c pl po) ∧ Aside0 (Kd.R (Kd.int .i64) 2 wr w5.heap.size (fun k_ => k_ ≠ g) v29 acc))
            case atStart => exact ⟨0, [], 0, 0, false, 0, rfl, ⟨rfl⟩, ⟨by omega⟩, ⟨by omega⟩, ⟨by rw [Nat.sub_zero]; exact HRUN2.out⟩, HB5, HI, ⟨Kd.R_nil _ _ _ _ _⟩⟩
            case round =>
              clear HB5 HI HRUN2
              obtain ⟨i, acc, p, c, pl, po, rfl, HAL, HIM, HKI, HRUN, HB5, HI, HO⟩ := hrel
              by_cases hlt : i < m
              · have cb1 : decide ((i : Int) < (m : Int)) = true := decide_eq_true (by omega)
                have cb2 : ((i : Int) < (m : Int)) = True := eq_true (by omega)
                have cb3 : (i < m) = True := eq_true hlt
                have HI1 := Aside0.mk (show i + 1 ≤ m by omega)
                have HAL := Aside0.mk (show acc.length = i ∧ i ≤ 64 from ⟨HAL.out, by have := HM64.out; omega⟩)
                have HW2 : Aside0 (wrap64 ((i : Int) + 1) = ((i + 1 : Nat) : Int)) := ⟨by have := HM64.out; rw [w64q _ (by omega) (by omega)]; omega⟩
                obtain ⟨d, hd⟩ : ∃ d, m - i = d + 1 := ⟨m - i - 1, by omega⟩
                have hrun := HRUN.out
                rw [hd] at hrun
                simp only [refRun] at hrun
                obtain ⟨t, ht, hrun⟩ := Option.bind_eq_some_iff.mp hrun
                obtain ⟨m_, p', c', pl', po'⟩ := t
                simp only [] at hrun
                have HT := Aside0.mk ht
                have HRUNB := Aside0.mk hrun
                have HD := Aside0.mk hd
                clear hrun ht hd hlt HRUN
                go_wp2_with (first
                  | (go_at_call 23; have hN := pledgeref1_Reader_Num.calls k g b p c pl po (-9223372036854775808) 9223372036854775807 m_ p' c' pl' po' w5 _ HI.out HB5.out HT.out; (with_reducible refine hN.mono ?_); clear hN; rintro e w_ ⟨rfl, hi_, hb_, hk_⟩; have n2_ := Aside0.mk (Kd.R_keep HO.out hk_ (fun k_ hk => hk)); clear HB5 HI HO; have HI := Aside0.mk hi_; have HB5 := Aside0.mk hb_; have HO := n2_; clear hi_ hb_ hk_ n2_)
                  | ((with_reducible refine gate_dst (N := 177) rfl ?_); refine Kd.R_lit (Kd.int .i64) _ 2 ?hg (N := 177) ?hd (xs := ([m_] : List Int)) (inner := [.int .i64 m_]) (ok := fun _ => True) (okp := fun _ => True) ?hr ?hp (fun _ hk => hk) trivial (Below.refl _ _) (Nat.le_refl _) (by simp) ?_; (case hd => rfl); (case hg => rfl); (case hr => first | (go_simp; done) | (go_simp; rfl)); (case hp => exact (Reps.one (show Kd.M (Kd.int .i64) _ _ _ m_ [.int .i64 m_] from rfl) (Reps.none _ _))); intro v_ w_ ho hb hg_ hat; obtain ⟨A9, c9, rfl, hl_, hC_⟩ := Kd.R_reads ho; have n_ := Aside0.mk (below_step HB5.out hb); have n2_ := Aside0.mk (HI.out.below hb); have n3_ := Aside0.mk (Kd.R_below HO.out hb); clear HB5 HI HO; have HB5 := n_; have HI := n2_; have HO := n3_; have HC9 := Aside0.mk hC_; clear ho hb hg_ hat hl_ hC_ n_ n2_ n3_)
                  | ((with_reducible refine gate_builtin (b := .append) (xs := #[.tmp 174, .tmp 177]) rfl ?_); at_builtin; refine Kd.R_append_rows (Kd.int .i64) (w0 := w5) w5.heap.size rfl (.tmp 174) (.tmp 177) 37 2 (.int .i64 0) 8 rfl Tryd.underlying37 infoU rfl (by decide) (by omega) _ acc [m_] _ _ _ (fun k_ => k_ ≠ g) (fun _ => False) rfl rfl ?aO ?aR (fun _ _ h => h) (fun _ h => h.elim) ?aF ?aB ?aS ?aL ?_; (case aO => exact HO.out); (case aR => exact HC9.out); (case aF => exact HI.out.fresh); (case aB => exact HB5.out); (case aS => exact below_size HB5.out); (case aL => have := HAL.out; first | omega | (simp; omega)); intro v2_ w2_ ho hb hg_ hat; have n2_ := Aside0.mk (HI.out.grown hg_ (HI.out.own_ne HO.out (by decide))); clear HB5 HI HO; have HB5 := Aside0.mk hb; have HI := n2_; have HO := Aside0.mk ho; clear ho hb hg_ hat n2_))
                go_roundg (m - (i + 1))
                case measure => have := HKI.out; have := HI1.out; omega
                case rel => exact ⟨i + 1, acc ++ [m_], _, _, _, _, by rw [HW2.out], ⟨by rw [List.length_append]; have := HAL.out; simp; omega⟩, ⟨HI1.out⟩, ⟨by have := HI1.out; omega⟩, ⟨by rw [show m - (i + 1) = d by have := HD.out; omega]; exact HRUNB.out⟩, HB5, HI, HO⟩
              · obtain rfl : m = i := by have := HIM.out; omega
                have cb1 : decide ((m : Int) < (m : Int)) = false := decide_eq_false (by omega)
                have cb2 : ((m : Int) < (m : Int)) = False := eq_false (by omega)
                have hrun := HRUN.out
                rw [Nat.sub_self] at hrun
                have hrun2 : RR = (acc, p, c, pl, po) := (Option.some.inj hrun).symm
                subst hrun2
                have hfin := HFIN.out
                clear hrun HRUN hlt HIM HKI HFIN
                obtain ⟨A7, c7, rfl, hl7, hC7⟩ := Kd.R_reads HO.out
                clear hl7 hC7
                unfold finF at hfin
                simp only [] at hfin
                by_cases hc0 : c = 0
                · subst hc0
                  rw [if_neg (by simp)] at hfin
                  by_cases hlf : wrap64 ((b.length : Int) - p) > 0
                  · rw [if_pos hlf] at hfin
                    obtain ⟨hf1, hf2, hf3⟩ := hfin
                    obtain ⟨rfl, rfl⟩ := Prod.mk.inj (HU.out.symm.trans hf1)
                    have d1 : decide (wrap64 ((b.length : Int) - p) > 0) = true := decide_eq_true hlf
                    have d2 : (0 < wrap64 ((b.length : Int) - p)) = True := eq_true hlf
                    have HF2 := Aside0.mk hf2
                    have HF3 := Aside0.mk hf3
                    have HPL2 := Aside0.mk (show pledgeref1_Reader_Fail.f b p 0 pl po 102 p = some (p, 102, true, p) by unfold pledgeref1_Reader_Fail.f pledgeref_Placed.f; rw [if_neg (by omega)]; rfl)
                    clear hf1 hf2 hf3 hlf
                    have HCC := Aside0.mk (show (101 : Int) ≤ 102 ∧ (102 : Int) ≤ 121 by omega)
                    go_wp2_with (first
                      | (go_at_call 24; have hN := pledgeref1_Reader_Ok.calls g b p 0 pl po true p 0 pl po w5 _ HI.out HB5.out (by first | rfl | (unfold pledgeref1_Reader_Ok.f; simp [*])); (with_reducible refine hN.mono ?_); clear hN; rintro e w_ ⟨rfl, hi_, hb_, hk_⟩; (try clear hr1 hr2 hr3 hr4); clear HB5 HI; have HI := Aside0.mk hi_; have HB5 := Aside0.mk hb_; clear hi_ hb_ hk_; obtain ⟨AR, cR, hR0, _, _⟩ := HI.out; have hr1 : w_.cell? ⟨g, 1, none⟩ = some (.int .i64 p) := (blk_cell hR0 1).trans rfl; have hr2 : w_.cell? ⟨g, 2, none⟩ = some (.int .i64 0) := (blk_cell hR0 2).trans rfl; have hr3 : w_.cell? ⟨g, 3, none⟩ = some (.bool pl) := (blk_cell hR0 3).trans rfl; have hr4 : w_.cell? ⟨g, 4, none⟩ = some (.int .i64 po) := (blk_cell hR0 4).trans rfl; clear hR0)
                      | (go_at_call 25; have hN := pledgeref1_Reader_Left.calls g b p 0 pl po (wrap64 ((b.length : Int) - p)) p 0 pl po w5 _ HI.out HB5.out rfl; (with_reducible refine hN.mono ?_); clear hN; rintro e w_ ⟨rfl, hi_, hb_, hk_⟩; (try clear hr1 hr2 hr3 hr4); clear HB5 HI; have HI := Aside0.mk hi_; have HB5 := Aside0.mk hb_; clear hi_ hb_ hk_; obtain ⟨AR, cR, hR0, _, _⟩ := HI.out; have hr1 : w_.cell? ⟨g, 1, none⟩ = some (.int .i64 p) := (blk_cell hR0 1).trans rfl; have hr2 : w_.cell? ⟨g, 2, none⟩ = some (.int .i64 0) := (blk_cell hR0 2).trans rfl; have hr3 : w_.cell? ⟨g, 3, none⟩ = some (.bool pl) := (blk_cell hR0 3).trans rfl; have hr4 : w_.cell? ⟨g, 4, none⟩ = some (.int .i64 po) := (blk_cell hR0 4).trans rfl; clear hR0)
                      | (go_at_call 26; have hN := pledgeref1_Reader_Fail.calls g b p 0 pl po 102 p p 102 true p w5 _ HI.out HB5.out HPL2.out; (with_reducible refine hN.mono ?_); clear hN; rintro e w_ ⟨rfl, hi_, hb_, hk_⟩; (try clear hr1 hr2 hr3 hr4); clear HB5 HI; have HI := Aside0.mk hi_; have HB5 := Aside0.mk hb_; clear hi_ hb_ hk_; obtain ⟨AR, cR, hR0, _, _⟩ := HI.out; have hr1 : w_.cell? ⟨g, 1, none⟩ = some (.int .i64 p) := (blk_cell hR0 1).trans rfl; have hr2 : w_.cell? ⟨g, 2, none⟩ = some (.int .i64 102) := (blk_cell hR0 2).trans rfl; have hr3 : w_.cell? ⟨g, 3, none⟩ = some (.bool true) := (blk_cell hR0 3).trans rfl; have hr4 : w_.cell? ⟨g, 4, none⟩ = some (.int .i64 p) := (blk_cell hR0 4).trans rfl; clear hR0)
                      | (go_at_call 24; have hN := pledgeref1_Reader_Ok.calls g b p 102 true p false p 102 true p w5 _ HI.out HB5.out (by first | rfl | (unfold pledgeref1_Reader_Ok.f; simp [*])); (with_reducible refine hN.mono ?_); clear hN; rintro e w_ ⟨rfl, hi_, hb_, hk_⟩; (try clear hr1 hr2 hr3 hr4); clear HB5 HI; have HI := Aside0.mk hi_; have HB5 := Aside0.mk hb_; clear hi_ hb_ hk_; obtain ⟨AR, cR, hR0, _, _⟩ := HI.out; have hr1 : w_.cell? ⟨g, 1, none⟩ = some (.int .i64 p) := (blk_cell hR0 1).trans rfl; have hr2 : w_.cell? ⟨g, 2, none⟩ = some (.int .i64 102) := (blk_cell hR0 2).trans rfl; have hr3 : w_.cell? ⟨g, 3, none⟩ = some (.bool true) := (blk_cell hR0 3).trans rfl; have hr4 : w_.cell? ⟨g, 4, none⟩ = some (.int .i64 p) := (blk_cell hR0 4).trans rfl; clear hR0)
                      | (go_at_call 17; obtain ⟨g_, hg_⟩ := (HE5.out.below HB5.out); have hN := Same_at.calls _ (HG.out.below (below_step HB0.out HB5.out)) hg_ (by have := HCC.out; omega) (by have := HCC.out; omega) (102) true (p) true HF2.out; (with_reducible refine hN.mono ?_); clear hN hg_; rintro e w_ ⟨rfl, hb⟩; have n_ := Aside0.mk (below_step HB5.out hb); clear HB5; have HB5 := n_; clear n_; clear hb)
                      | (go_at_call 16; have hN := pledgeref_SameLongs.calls k A8 c8 [] none 0 [] true _ (Kd.C_below HM5.out HB5.out) HML2.out (Kd.C_nil _ _) (Nat.le_refl _) HF3.out; simp only [List.length_nil] at hN; (with_reducible refine hN.mono ?_); clear hN; rintro e w_ ⟨rfl, hd⟩; have hb := hd.below; have n_ := Aside0.mk (below_step HB5.out hb); clear HB5; have HB5 := n_; clear n_; clear hb hd))
                    go_ret
                    exact ⟨rfl, below_step HB0.out HB5.out⟩
                  · rw [if_neg hlf] at hfin
                    obtain ⟨hf1, hf2, hf3, hf4⟩ := hfin
                    obtain ⟨e1_, rfl⟩ := Prod.mk.inj (HU.out.symm.trans hf1)
                    have e2_ := e1_.symm
                    clear e1_
                    subst e2_
                    subst hf2
                    subst hf3
                    have d1 : decide (wrap64 ((b.length : Int) - p) > 0) = false := decide_eq_false hlf
                    have d2 : (0 < wrap64 ((b.length : Int) - p)) = False := eq_false hlf
                    have HF4 := Aside0.mk hf4
                    clear hf1 hf4 hlf
                    obtain rfl : ev = .nilIface := HE5.out
                    go_wp2_with (first
                      | (go_at_call 24; have hN := pledgeref1_Reader_Ok.calls g b p 0 false 0 true p 0 false 0 w5 _ HI.out HB5.out (by first | rfl | (unfold pledgeref1_Reader_Ok.f; simp [*])); (with_reducible refine hN.mono ?_); clear hN; rintro e w_ ⟨rfl, hi_, hb_, hk_⟩; have n2_ := Aside0.mk (Kd.R_keep HO.out hk_ (fun k_ hk => hk)); clear HO; have HO := n2_; clear n2_; (try clear hr1 hr2 hr3 hr4); clear HB5 HI; have HI := Aside0.mk hi_; have HB5 := Aside0.mk hb_; clear hi_ hb_ hk_; obtain ⟨AR, cR, hR0, _, _⟩ := HI.out; have hr1 : w_.cell? ⟨g, 1, none⟩ = some (.int .i64 p) := (blk_cell hR0 1).trans rfl; have hr2 : w_.cell? ⟨g, 2, none⟩ = some (.int .i64 0) := (blk_cell hR0 2).trans rfl; have hr3 : w_.cell? ⟨g, 3, none⟩ = some (.bool false) := (blk_cell hR0 3).trans rfl; have hr4 : w_.cell? ⟨g, 4, none⟩ = some (.int .i64 0) := (blk_cell hR0 4).trans rfl; clear hR0)
                      | (go_at_call 25; have hN := pledgeref1_Reader_Left.calls g b p 0 false 0 (wrap64 ((b.length : Int) - p)) p 0 false 0 w5 _ HI.out HB5.out rfl; (with_reducible refine hN.mono ?_); clear hN; rintro e w_ ⟨rfl, hi_, hb_, hk_⟩; have n2_ := Aside0.mk (Kd.R_keep HO.out hk_ (fun k_ hk => hk)); clear HO; have HO := n2_; clear n2_; (try clear hr1 hr2 hr3 hr4); clear HB5 HI; have HI := Aside0.mk hi_; have HB5 := Aside0.mk hb_; clear hi_ hb_ hk_; obtain ⟨AR, cR, hR0, _, _⟩ := HI.out; have hr1 : w_.cell? ⟨g, 1, none⟩ = some (.int .i64 p) := (blk_cell hR0 1).trans rfl; have hr2 : w_.cell? ⟨g, 2, none⟩ = some (.int .i64 0) := (blk_cell hR0 2).trans rfl; have hr3 : w_.cell? ⟨g, 3, none⟩ = some (.bool false) := (blk_cell hR0 3).trans rfl; have hr4 : w_.cell? ⟨g, 4, none⟩ = some (.int .i64 0) := (blk_cell hR0 4).trans rfl; clear hR0)
                      | (go_at_call 17; have hN := pledgesee_Same.calls none 0 false 0 true _ (HG.out.below (below_step HB0.out HB5.out)) HSN.out; simp only [errW_none] at hN; (with_reducible refine hN.mono ?_); clear hN; rintro e w_ ⟨rfl, hb⟩; have n_ := Aside0.mk (below_step HB5.out hb); clear HB5; have HB5 := n_; clear n_; have n_ := Aside0.mk (Kd.R_below HO.out hb); clear HO; have HO := n_; clear n_ hb)
                      | (go_at_call 16; have hN := pledgeref_SameLongs.calls k A8 c8 acc A7 c7 acc true _ (Kd.C_below HM5.out HB5.out) HML2.out (Kd.R_reads' HO.out).2.2 (Kd.R_reads' HO.out).2.1 HF4.out; (with_reducible refine hN.mono ?_); clear hN; rintro e w_ ⟨rfl, hd⟩; have hb := hd.below; have n_ := Aside0.mk (below_step HB5.out hb); clear HB5; have HB5 := n_; clear n_; clear hb hd))
                    go_ret
                    exact ⟨rfl, below_step HB0.out HB5.out⟩
                · rw [if_pos hc0] at hfin
                  obtain ⟨hf1, hf2, hf3, hf4, hf5⟩ := hfin
                  obtain ⟨rfl, rfl⟩ := Prod.mk.inj (HU.out.symm.trans hf1)
                  subst hf2
                  have d0 : (c == 0) = false := beq_eq_false_iff_ne.mpr hc0
                  have HCC := Aside0.mk hf3
                  have HF4 := Aside0.mk hf4
                  have HF5 := Aside0.mk hf5
                  clear hf1 hf3 hf4 hf5 hc0
                  go_wp2_with (first
                    | (go_at_call 24; have hN := pledgeref1_Reader_Ok.calls g b p c true po false p c true po w5 _ HI.out HB5.out (by first | rfl | (unfold pledgeref1_Reader_Ok.f; simp [*])); (with_reducible refine hN.mono ?_); clear hN; rintro e w_ ⟨rfl, hi_, hb_, hk_⟩; (try clear hr1 hr2 hr3 hr4); clear HB5 HI; have HI := Aside0.mk hi_; have HB5 := Aside0.mk hb_; clear hi_ hb_ hk_; obtain ⟨AR, cR, hR0, _, _⟩ := HI.out; have hr1 : w_.cell? ⟨g, 1, none⟩ = some (.int .i64 p) := (blk_cell hR0 1).trans rfl; have hr2 : w_.cell? ⟨g, 2, none⟩ = some (.int .i64 c) := (blk_cell hR0 2).trans rfl; have hr3 : w_.cell? ⟨g, 3, none⟩ = some (.bool true) := (blk_cell hR0 3).trans rfl; have hr4 : w_.cell? ⟨g, 4, none⟩ = some (.int .i64 po) := (blk_cell hR0 4).trans rfl; clear hR0)
                    | (go_at_call 17; obtain ⟨g_, hg_⟩ := (HE5.out.below HB5.out); have hN := Same_at.calls _ (HG.out.below (below_step HB0.out HB5.out)) hg_ (by have := HCC.out; omega) (by have := HCC.out; omega) (c) true (po) true HF4.out; (with_reducible refine hN.mono ?_); clear hN hg_; rintro e w_ ⟨rfl, hb⟩; have n_ := Aside0.mk (below_step HB5.out hb); clear HB5; have HB5 := n_; clear n_; clear hb)
                    | (go_at_call 16; have hN := pledgeref_SameLongs.calls k A8 c8 [] none 0 [] true _ (Kd.C_below HM5.out HB5.out) HML2.out (Kd.C_nil _ _) (Nat.le_refl _) HF5.out; simp only [List.length_nil] at hN; (with_reducible refine hN.mono ?_); clear hN; rintro e w_ ⟨rfl, hd⟩; have hb := hd.below; have n_ := Aside0.mk (below_step HB5.out hb); clear HB5; have HB5 := n_; clear n_; clear hb hd))
                  go_ret
                  exact ⟨rfl, below_step HB0.out HB5.out⟩
        · rw [if_neg h64] at hps
          have cb3 : decide ((want.length : Int) > 64) = false := decide_eq_false (by omega)
          have cb4 : decide (64 < want.length) = false := decide_eq_false h64
          obtain ⟨rfl, hsb⟩ := hps
          have HSB2 := Aside0.mk hsb
          clear h64 hsb
          go_upto_region 25 with (first
            | (go_at_call 14; have hN := rec_Pack.calls k A4 c4 l p1 none _ (HG.out.below HB.out) (Kd.C_below HML.out HB.out) HCL.out HPK.out; simp only [errW_none] at hN; (with_reducible refine hN.mono ?_); clear hN; rintro e w_ ⟨v_, rfl, ho, hb⟩; obtain ⟨A7, c7, rfl, hl_, hC_⟩ := Kd.R_reads ho; have n_ := Aside0.mk (below_step HB.out hb); clear HB; have HB := n_; clear n_; have n_ := Aside0.mk (Kd.C_below HWANT.out hb); clear HWANT; have HWANT := n_; clear n_; have HP := Aside0.mk hC_; have HPL := Aside0.mk hl_; clear ho hb hl_ hC_)
            | (go_at_call 20; have hN := pledgeref_SameBytes.calls k A7 c7 p1 A3 c3 want true _ HP.out HPL.out HWANT.out HWANTL.out HSB2.out; (with_reducible refine hN.mono ?_); clear hN; rintro e w_ ⟨rfl, hd⟩; have hb := hd.below; have n_ := Aside0.mk (below_step HB.out hb); clear HB; have HB := n_; clear n_; have n_ := Aside0.mk (Kd.C_below HWANT.out hb); clear HWANT; have HWANT := n_; clear n_; have n_ := Aside0.mk (Kd.C_below HP.out hb); clear HP; have HP := n_; clear n_; clear hb hd))
          clear HP HPL HWANT HWANTL
          clear cb1 cb2 cb3 cb4
          by_cases hn : a3 < 0 ∨ a3 > 64
          · have hu := HUO.out hn
            obtain ⟨rfl, rfl⟩ := Prod.mk.inj (HU.out.symm.trans hu)
            cases d1 : decide (a3 < 0)
            · have d2 : decide (a3 > 64) = true := decide_eq_true (by rcases hn with h | h; exact absurd h (of_decide_eq_false d1); exact h)
              clear hn hu
              go_wp2_with (first
                | (go_at_call 15; have hN := rec_Unpack.calls A2 c2 b a3 _ (HG.out.below HB.out) (Kd.C_below HMB.out HB.out) HCB.out HLEN.out; rw [HU.out] at hN; simp only [] at hN; (with_reducible refine hN.mono ?_); clear hN; rintro e w_ ⟨A8, c8, ev, rfl, hl_, hC_, hE_, hb⟩; have n_ := Aside0.mk (below_step HB.out hb); clear HB; have HB := n_; clear n_; obtain rfl := hE_; have HM := Aside0.mk hC_; have HML2 := Aside0.mk hl_; clear hb hl_ hC_)
                | (go_at_call 9; have hN := pledgesee_Is.calls (some 103) 103 true _ (HG.out.below HB.out) HIS4.out; (with_reducible refine hN.mono ?_); clear hN; rintro e w_ ⟨rfl, hb⟩; have n_ := Aside0.mk (below_step HB.out hb); clear HB; have HB := n_; clear n_; have n_ := Aside0.mk (Kd.C_below HM.out hb); clear HM; have HM := n_; clear n_; clear hb))
              go_ret
              exact ⟨rfl, HB.out⟩
            · clear hn hu
              go_wp2_with (first
                | (go_at_call 15; have hN := rec_Unpack.calls A2 c2 b a3 _ (HG.out.below HB.out) (Kd.C_below HMB.out HB.out) HCB.out HLEN.out; rw [HU.out] at hN; simp only [] at hN; (with_reducible refine hN.mono ?_); clear hN; rintro e w_ ⟨A8, c8, ev, rfl, hl_, hC_, hE_, hb⟩; have n_ := Aside0.mk (below_step HB.out hb); clear HB; have HB := n_; clear n_; obtain rfl := hE_; have HM := Aside0.mk hC_; have HML2 := Aside0.mk hl_; clear hb hl_ hC_)
                | (go_at_call 9; have hN := pledgesee_Is.calls (some 103) 103 true _ (HG.out.below HB.out) HIS4.out; (with_reducible refine hN.mono ?_); clear hN; rintro e w_ ⟨rfl, hb⟩; have n_ := Aside0.mk (below_step HB.out hb); clear HB; have HB := n_; clear n_; have n_ := Aside0.mk (Kd.C_below HM.out hb); clear HM; have HM := n_; clear n_; clear hb))
              go_ret
              exact ⟨rfl, HB.out⟩
          · obtain ⟨m, rfl⟩ := Int.eq_ofNat_of_zero_le (show 0 ≤ a3 by omega)
            have HM64 := Aside0.mk (show m ≤ 64 by omega)
            have d1 : decide ((m : Int) < 0) = false := decide_eq_false (by omega)
            have d2 : decide ((m : Int) > 64) = false := decide_eq_false (by omega)
            have d3 : decide (64 < m) = false := decide_eq_false (by omega)
            have hl3 := HLAST.out hn
            rw [Int.toNat_natCast] at hl3
            obtain ⟨RR, hrr, hfin⟩ := hl3
            have HRUN2 := Aside0.mk hrr
            have HFIN := Aside0.mk hfin
            clear hn hrr hfin HLAST HUO
            go_upto_region 28 with (first
              | (go_at_call 15; have hN := rec_Unpack.calls A2 c2 b (m : Int) _ (HG.out.below HB.out) (Kd.C_below HMB.out HB.out) HCB.out HLEN.out; rw [HU.out] at hN; simp only [] at hN; (with_reducible refine hN.mono ?_); clear hN; rintro e w_ ⟨A8, c8, ev, rfl, hl_, hC_, hE_, hb⟩; have n_ := Aside0.mk (below_step HB.out hb); clear HB; have HB := n_; clear n_; have HE := Aside0.mk hE_; clear hE_; have HM := Aside0.mk hC_; have HML2 := Aside0.mk hl_; clear hb hl_ hC_))
            have HMB5 := Aside0.mk (Kd.C_below HMB.out HB.out)
            have HB0 := HB
            have HM5 := HM
            have HE5 := HE
            clear HB HM HE
            generalize w_ = w5 at HMB5 HB0 HM5 HE5 ⊢
            go_wp2_with ((with_reducible refine gate_dst (N := 168) rfl ?_); refine box_event ?hg (N := 168) ?hd (cs := #[.slice A2 b.length c2, .int .i64 0, .int .i64 0, .bool false, .int .i64 0]) (t := 54) ?hr ?_; (case hd => rfl); (case hg => rfl); (case hr => first | (go_simp; done) | (go_simp; rfl)); intro g hg_ w6 hbox hb; have HI := Aside0.mk (show IsS54 w5 w6 g b 0 0 false 0 from ⟨A2, c2, hbox, Nat.le_of_eq hg_.symm, HMB5.out⟩); have HB5 := Aside0.mk hb; clear hb hbox hg_)
            go_loopg [29, 30] m (fun gq v29 v30 wr => ∃ (i : Nat) (acc : List Int) (p c : Int) (pl : Bool) (po : Int), v30 = .int .i64 i ∧ Aside0 (acc.length = i) ∧ Aside0 (i ≤ m) ∧ Aside0 (m ≤ gq + i) ∧ Aside0 (refRun k b (m - i) p c pl po acc = some RR) ∧ Aside0 (Below w5.heap.size w5 wr) ∧ Aside0 (IsS54 w5 wr g b p c pl po) ∧ Aside0 (Kd.R (Kd.int .i64) 2 wr w5.heap.size (fun k_ => k_ ≠ g) v29 acc))
            case atStart => exact ⟨0, [], 0, 0, false, 0, rfl, ⟨rfl⟩, ⟨by omega⟩, ⟨by omega⟩, ⟨by rw [Nat.sub_zero]; exact HRUN2.out⟩, HB5, HI, ⟨Kd.R_nil _ _ _ _ _⟩⟩
            case round =>
              clear HB5 HI HRUN2
              obtain ⟨i, acc, p, c, pl, po, rfl, HAL, HIM, HKI, HRUN, HB5, HI, HO⟩ := hrel
              by_cases hlt : i < m
              · have cb1 : decide ((i : Int) < (m : Int)) = true := decide_eq_true (by omega)
                have cb2 : ((i : Int) < (m : Int)) = True := eq_true (by omega)
                have cb3 : (i < m) = True := eq_true hlt
                have HI1 := Aside0.mk (show i + 1 ≤ m by omega)
                have HAL := Aside0.mk (show acc.length = i ∧ i ≤ 64 from ⟨HAL.out, by have := HM64.out; omega⟩)
                have HW2 : Aside0 (wrap64 ((i : Int) + 1) = ((i + 1 : Nat) : Int)) := ⟨by have := HM64.out; rw [w64q _ (by omega) (by omega)]; omega⟩
                obtain ⟨d, hd⟩ : ∃ d, m - i = d + 1 := ⟨m - i - 1, by omega⟩
                have hrun := HRUN.out
                rw [hd] at hrun
                simp only [refRun] at hrun
                obtain ⟨t, ht, hrun⟩ := Option.bind_eq_some_iff.mp hrun
                obtain ⟨m_, p', c', pl', po'⟩ := t
                simp only [] at hrun
                have HT := Aside0.mk ht
                have HRUNB := Aside0.mk hrun
                have HD := Aside0.mk hd
                clear hrun ht hd hlt HRUN
                go_wp2_with (first
                  | (go_at_call 23; have hN := pledgeref1_Reader_Num.calls k g b p c pl po (-9223372036854775808) 9223372036854775807 m_ p' c' pl' po' w5 _ HI.out HB5.out HT.out; (with_reducible refine hN.mono ?_); clear hN; rintro e w_ ⟨rfl, hi_, hb_, hk_⟩; have n2_ := Aside0.mk (Kd.R_keep HO.out hk_ (fun k_ hk => hk)); clear HB5 HI HO; have HI := Aside0.mk hi_; have HB5 := Aside0.mk hb_; have HO := n2_; clear hi_ hb_ hk_ n2_)
                  | ((with_reducible refine gate_dst (N := 177) rfl ?_); refine Kd.R_lit (Kd.int .i64) _ 2 ?hg (N := 177) ?hd (xs := ([m_] : List Int)) (inner := [.int .i64 m_]) (ok := fun _ => True) (okp := fun _ => True) ?hr ?hp (fun _ hk => hk) trivial (Below.refl _ _) (Nat.le_refl _) (by simp) ?_; (case hd => rfl); (case hg => rfl); (case hr => first | (go_simp; done) | (go_simp; rfl)); (case hp => exact (Reps.one (show Kd.M (Kd.int .i64) _ _ _ m_ [.int .i64 m_] from rfl) (Reps.none _ _))); intro v_ w_ ho hb hg_ hat; obtain ⟨A9, c9, rfl, hl_, hC_⟩ := Kd.R_reads ho; have n_ := Aside0.mk (below_step HB5.out hb); have n2_ := Aside0.mk (HI.out.below hb); have n3_ := Aside0.mk (Kd.R_below HO.out hb); clear HB5 HI HO; have HB5 := n_; have HI := n2_; have HO := n3_; have HC9 := Aside0.mk hC_; clear ho hb hg_ hat hl_ hC_ n_ n2_ n3_)
                  | ((with_reducible refine gate_builtin (b := .append) (xs := #[.tmp 174, .tmp 177]) rfl ?_); at_builtin; refine Kd.R_append_rows (Kd.int .i64) (w0 := w5) w5.heap.size rfl (.tmp 174) (.tmp 177) 37 2 (.int .i64 0) 8 rfl Tryd.underlying37 infoU rfl (by decide) (by omega) _ acc [m_] _ _ _ (fun k_ => k_ ≠ g) (fun _ => False) rfl rfl ?aO ?aR (fun _ _ h => h) (fun _ h => h.elim) ?aF ?aB ?aS ?aL ?_; (case aO => exact HO.out); (case aR => exact HC9.out); (case aF => exact HI.out.fresh); (case aB => exact HB5.out); (case aS => exact below_size HB5.out); (case aL => have := HAL.out; first | omega | (simp; omega)); intro v2_ w2_ ho hb hg_ hat; have n2_ := Aside0.mk (HI.out.grown hg_ (HI.out.own_ne HO.out (by decide))); clear HB5 HI HO; have HB5 := Aside0.mk hb; have HI := n2_; have HO := Aside0.mk ho; clear ho hb hg_ hat n2_))
                go_roundg (m - (i + 1))
                case measure => have := HKI.out; have := HI1.out; omega
                case rel => exact ⟨i + 1, acc ++ [m_], _, _, _, _, by rw [HW2.out], ⟨by rw [List.length_append]; have := HAL.out; simp; omega⟩, ⟨HI1.out⟩, ⟨by have := HI1.out; omega⟩, ⟨by rw [show m - (i + 1) = d by have := HD.out; omega]; exact HRUNB.out⟩, HB5, HI, HO⟩
              · obtain rfl : m = i := by have := HIM.out; omega
                have cb1 : decide ((m : Int) < (m : Int)) = false := decide_eq_false (by omega)
                have cb2 : ((m : Int) < (m : Int)) = False := eq_false (by omega)
                have hrun := HRUN.out
                rw [Nat.sub_self] at hrun
                have hrun2 : RR = (acc, p, c, pl, po) := (Option.some.inj hrun).symm
                subst hrun2
                have hfin := HFIN.out
                clear hrun HRUN hlt HIM HKI HFIN
                obtain ⟨A7, c7, rfl, hl7, hC7⟩ := Kd.R_reads HO.out
                clear hl7 hC7
                unfold finF at hfin
                simp only [] at hfin
                by_cases hc0 : c = 0
                · subst hc0
                  rw [if_neg (by simp)] at hfin
                  by_cases hlf : wrap64 ((b.length : Int) - p) > 0
                  · rw [if_pos hlf] at hfin
                    obtain ⟨hf1, hf2, hf3⟩ := hfin
                    obtain ⟨rfl, rfl⟩ := Prod.mk.inj (HU.out.symm.trans hf1)
                    have d1 : decide (wrap64 ((b.length : Int) - p) > 0) = true := decide_eq_true hlf
                    have d2 : (0 < wrap64 ((b.length : Int) - p)) = True := eq_true hlf
                    have HF2 := Aside0.mk hf2
                    have HF3 := Aside0.mk hf3
                    have HPL2 := Aside0.mk (show pledgeref1_Reader_Fail.f b p 0 pl po 102 p = some (p, 102, true, p) by unfold pledgeref1_Reader_Fail.f pledgeref_Placed.f; rw [if_neg (by omega)]; rfl)
                    clear hf1 hf2 hf3 hlf
                    have HCC := Aside0.mk (show (101 : Int) ≤ 102 ∧ (102 : Int) ≤ 121 by omega)
                    go_wp2_with (first
                      | (go_at_call 24; have hN := pledgeref1_Reader_Ok.calls g b p 0 pl po true p 0 pl po w5 _ HI.out HB5.out (by first | rfl | (unfold pledgeref1_Reader_Ok.f; simp [*])); (with_reducible refine hN.mono ?_); clear hN; rintro e w_ ⟨rfl, hi_, hb_, hk_⟩; (try clear hr1 hr2 hr3 hr4); clear HB5 HI; have HI := Aside0.mk hi_; have HB5 := Aside0.mk hb_; clear hi_ hb_ hk_; obtain ⟨AR, cR, hR0, _, _⟩ := HI.out; have hr1 : w_.cell? ⟨g, 1, none⟩ = some (.int .i64 p) := (blk_cell hR0 1).trans rfl; have hr2 : w_.cell? ⟨g, 2, none⟩ = some (.int .i64 0) := (blk_cell hR0 2).trans rfl; have hr3 : w_.cell? ⟨g, 3, none⟩ = some (.bool pl) := (blk_cell hR0 3).trans rfl; have hr4 : w_.cell? ⟨g, 4, none⟩ = some (.int .i64 po) := (blk_cell hR0 4).trans rfl; clear hR0)
                      | (go_at_call 25; have hN := pledgeref1_Reader_Left.calls g b p 0 pl po (wrap64 ((b.length : Int) - p)) p 0 pl po w5 _ HI.out HB5.out rfl; (with_reducible refine hN.mono ?_); clear hN; rintro e w_ ⟨rfl, hi_, hb_, hk_⟩; (try clear hr1 hr2 hr3 hr4); clear HB5 HI; have HI := Aside0.mk hi_; have HB5 := Aside0.mk hb_; clear hi_ hb_ hk_; obtain ⟨AR, cR, hR0, _, _⟩ := HI.out; have hr1 : w_.cell? ⟨g, 1, none⟩ = some (.int .i64 p) := (blk_cell hR0 1).trans rfl; have hr2 : w_.cell? ⟨g, 2, none⟩ = some (.int .i64 0) := (blk_cell hR0 2).trans rfl; have hr3 : w_.cell? ⟨g, 3, none⟩ = some (.bool pl) := (blk_cell hR0 3).trans rfl; have hr4 : w_.cell? ⟨g, 4, none⟩ = some (.int .i64 po) := (blk_cell hR0 4).trans rfl; clear hR0)
                      | (go_at_call 26; have hN := pledgeref1_Reader_Fail.calls g b p 0 pl po 102 p p 102 true p w5 _ HI.out HB5.out HPL2.out; (with_reducible refine hN.mono ?_); clear hN; rintro e w_ ⟨rfl, hi_, hb_, hk_⟩; (try clear hr1 hr2 hr3 hr4); clear HB5 HI; have HI := Aside0.mk hi_; have HB5 := Aside0.mk hb_; clear hi_ hb_ hk_; obtain ⟨AR, cR, hR0, _, _⟩ := HI.out; have hr1 : w_.cell? ⟨g, 1, none⟩ = some (.int .i64 p) := (blk_cell hR0 1).trans rfl; have hr2 : w_.cell? ⟨g, 2, none⟩ = some (.int .i64 102) := (blk_cell hR0 2).trans rfl; have hr3 : w_.cell? ⟨g, 3, none⟩ = some (.bool true) := (blk_cell hR0 3).trans rfl; have hr4 : w_.cell? ⟨g, 4, none⟩ = some (.int .i64 p) := (blk_cell hR0 4).trans rfl; clear hR0)
                      | (go_at_call 24; have hN := pledgeref1_Reader_Ok.calls g b p 102 true p false p 102 true p w5 _ HI.out HB5.out (by first | rfl | (unfold pledgeref1_Reader_Ok.f; simp [*])); (with_reducible refine hN.mono ?_); clear hN; rintro e w_ ⟨rfl, hi_, hb_, hk_⟩; (try clear hr1 hr2 hr3 hr4); clear HB5 HI; have HI := Aside0.mk hi_; have HB5 := Aside0.mk hb_; clear hi_ hb_ hk_; obtain ⟨AR, cR, hR0, _, _⟩ := HI.out; have hr1 : w_.cell? ⟨g, 1, none⟩ = some (.int .i64 p) := (blk_cell hR0 1).trans rfl; have hr2 : w_.cell? ⟨g, 2, none⟩ = some (.int .i64 102) := (blk_cell hR0 2).trans rfl; have hr3 : w_.cell? ⟨g, 3, none⟩ = some (.bool true) := (blk_cell hR0 3).trans rfl; have hr4 : w_.cell? ⟨g, 4, none⟩ = some (.int .i64 p) := (blk_cell hR0 4).trans rfl; clear hR0)
                      | (go_at_call 17; obtain ⟨g_, hg_⟩ := (HE5.out.below HB5.out); have hN := Same_at.calls _ (HG.out.below (below_step HB0.out HB5.out)) hg_ (by have := HCC.out; omega) (by have := HCC.out; omega) (102) true (p) true HF2.out; (with_reducible refine hN.mono ?_); clear hN hg_; rintro e w_ ⟨rfl, hb⟩; have n_ := Aside0.mk (below_step HB5.out hb); clear HB5; have HB5 := n_; clear n_; clear hb)
                      | (go_at_call 16; have hN := pledgeref_SameLongs.calls k A8 c8 [] none 0 [] true _ (Kd.C_below HM5.out HB5.out) HML2.out (Kd.C_nil _ _) (Nat.le_refl _) HF3.out; simp only [List.length_nil] at hN; (with_reducible refine hN.mono ?_); clear hN; rintro e w_ ⟨rfl, hd⟩; have hb := hd.below; have n_ := Aside0.mk (below_step HB5.out hb); clear HB5; have HB5 := n_; clear n_; clear hb hd))
                    go_ret
                    exact ⟨rfl, below_step HB0.out HB5.out⟩
                  · rw [if_neg hlf] at hfin
                    obtain ⟨hf1, hf2, hf3, hf4⟩ := hfin
                    obtain ⟨e1_, rfl⟩ := Prod.mk.inj (HU.out.symm.trans hf1)
                    have e2_ := e1_.symm
                    clear e1_
                    subst e2_
                    subst hf2
                    subst hf3
                    have d1 : decide (wrap64 ((b.length : Int) - p) > 0) = false := decide_eq_false hlf
                    have d2 : (0 < wrap64 ((b.length : Int) - p)) = False := eq_false hlf
                    have HF4 := Aside0.mk hf4
                    clear hf1 hf4 hlf
                    obtain rfl : ev = .nilIface := HE5.out
                    go_wp2_with (first
                      | (go_at_call 24; have hN := pledgeref1_Reader_Ok.calls g b p 0 false 0 true p 0 false 0 w5 _ HI.out HB5.out (by first | rfl | (unfold pledgeref1_Reader_Ok.f; simp [*])); (with_reducible refine hN.mono ?_); clear hN; rintro e w_ ⟨rfl, hi_, hb_, hk_⟩; have n2_ := Aside0.mk (Kd.R_keep HO.out hk_ (fun k_ hk => hk)); clear HO; have HO := n2_; clear n2_; (try clear hr1 hr2 hr3 hr4); clear HB5 HI; have HI := Aside0.mk hi_; have HB5 := Aside0.mk hb_; clear hi_ hb_ hk_; obtain ⟨AR, cR, hR0, _, _⟩ := HI.out; have hr1 : w_.cell? ⟨g, 1, none⟩ = some (.int .i64 p) := (blk_cell hR0 1).trans rfl; have hr2 : w_.cell? ⟨g, 2, none⟩ = some (.int .i64 0) := (blk_cell hR0 2).trans rfl; have hr3 : w_.cell? ⟨g, 3, none⟩ = some (.bool false) := (blk_cell hR0 3).trans rfl; have hr4 : w_.cell? ⟨g, 4, none⟩ = some (.int .i64 0) := (blk_cell hR0 4).trans rfl; clear hR0)
                      | (go_at_call 25; have hN := pledgeref1_Reader_Left.calls g b p 0 false 0 (wrap64 ((b.length : Int) - p)) p 0 false 0 w5 _ HI.out HB5.out rfl; (with_reducible refine hN.mono ?_); clear hN; rintro e w_ ⟨rfl, hi_, hb_, hk_⟩; have n2_ := Aside0.mk (Kd.R_keep HO.out hk_ (fun k_ hk => hk)); clear HO; have HO := n2_; clear n2_; (try clear hr1 hr2 hr3 hr4); clear HB5 HI; have HI := Aside0.mk hi_; have HB5 := Aside0.mk hb_; clear hi_ hb_ hk_; obtain ⟨AR, cR, hR0, _, _⟩ := HI.out; have hr1 : w_.cell? ⟨g, 1, none⟩ = some (.int .i64 p) := (blk_cell hR0 1).trans rfl; have hr2 : w_.cell? ⟨g, 2, none⟩ = some (.int .i64 0) := (blk_cell hR0 2).trans rfl; have hr3 : w_.cell? ⟨g, 3, none⟩ = some (.bool false) := (blk_cell hR0 3).trans rfl; have hr4 : w_.cell? ⟨g, 4, none⟩ = some (.int .i64 0) := (blk_cell hR0 4).trans rfl; clear hR0)
                      | (go_at_call 17; have hN := pledgesee_Same.calls none 0 false 0 true _ (HG.out.below (below_step HB0.out HB5.out)) HSN.out; simp only [errW_none] at hN; (with_reducible refine hN.mono ?_); clear hN; rintro e w_ ⟨rfl, hb⟩; have n_ := Aside0.mk (below_step HB5.out hb); clear HB5; have HB5 := n_; clear n_; have n_ := Aside0.mk (Kd.R_below HO.out hb); clear HO; have HO := n_; clear n_ hb)
                      | (go_at_call 16; have hN := pledgeref_SameLongs.calls k A8 c8 acc A7 c7 acc true _ (Kd.C_below HM5.out HB5.out) HML2.out (Kd.R_reads' HO.out).2.2 (Kd.R_reads' HO.out).2.1 HF4.out; (with_reducible refine hN.mono ?_); clear hN; rintro e w_ ⟨rfl, hd⟩; have hb := hd.below; have n_ := Aside0.mk (below_step HB5.out hb); clear HB5; have HB5 := n_; clear n_; clear hb hd))
                    go_ret
                    exact ⟨rfl, below_step HB0.out HB5.out⟩
                · rw [if_pos hc0] at hfin
                  obtain ⟨hf1, hf2, hf3, hf4, hf5⟩ := hfin
                  obtain ⟨rfl, rfl⟩ := Prod.mk.inj (HU.out.symm.trans hf1)
                  subst hf2
                  have d0 : (c == 0) = false := beq_eq_false_iff_ne.mpr hc0
                  have HCC := Aside0.mk hf3
                  have HF4 := Aside0.mk hf4
                  have HF5 := Aside0.mk hf5
                  clear hf1 hf3 hf4 hf5 hc0
                  go_wp2_with (first
                    | (go_at_call 24; have hN := pledgeref1_Reader_Ok.calls g b p c true po false p c true po w5 _ HI.out HB5.out (by first | rfl | (unfold pledgeref1_Reader_Ok.f; simp [*])); (with_reducible refine hN.mono ?_); clear hN; rintro e w_ ⟨rfl, hi_, hb_, hk_⟩; (try clear hr1 hr2 hr3 hr4); clear HB5 HI; have HI := Aside0.mk hi_; have HB5 := Aside0.mk hb_; clear hi_ hb_ hk_; obtain ⟨AR, cR, hR0, _, _⟩ := HI.out; have hr1 : w_.cell? ⟨g, 1, none⟩ = some (.int .i64 p) := (blk_cell hR0 1).trans rfl; have hr2 : w_.cell? ⟨g, 2, none⟩ = some (.int .i64 c) := (blk_cell hR0 2).trans rfl; have hr3 : w_.cell? ⟨g, 3, none⟩ = some (.bool true) := (blk_cell hR0 3).trans rfl; have hr4 : w_.cell? ⟨g, 4, none⟩ = some (.int .i64 po) := (blk_cell hR0 4).trans rfl; clear hR0)
                    | (go_at_call 17; obtain ⟨g_, hg_⟩ := (HE5.out.below HB5.out); have hN := Same_at.calls _ (HG.out.below (below_step HB0.out HB5.out)) hg_ (by have := HCC.out; omega) (by have := HCC.out; omega) (c) true (po) true HF4.out; (with_reducible refine hN.mono ?_); clear hN hg_; rintro e w_ ⟨rfl, hb⟩; have n_ := Aside0.mk (below_step HB5.out hb); clear HB5; have HB5 := n_; clear n_; clear hb)
                    | (go_at_call 16; have hN := pledgeref_SameLongs.calls k A8 c8 [] none 0 [] true _ (Kd.C_below HM5.out HB5.out) HML2.out (Kd.C_nil _ _) (Nat.le_refl _) HF5.out; simp only [List.length_nil] at hN; (with_reducible refine hN.mono ?_); clear hN; rintro e w_ ⟨rfl, hd⟩; have hb := hd.below; have n_ := Aside0.mk (below_step HB5.out hb); clear HB5; have HB5 := n_; clear n_; clear hb hd))
                  go_ret
                  exact ⟨rfl, below_step HB0.out HB5.out⟩

/-- The pure statement of pledgelaw9_RecSays: numbers and lists alone. -/
def pledgelaw9_RecSays.Pure : Prop := ∀ (a0_0 : Int) (a0_1 : Int) (a0_2 : Int) (l1 : List Int) (l2 : List Int) (a3 : Int) (l4 : List Int), Rng .i64 a0_0 → Rng .i64 a0_1 → Rng .i64 a0_2 → l1.length * 1 ≤ 140737488351232 → (l1.length ≤ maxLen ∧ ∀ x ∈ l1, Rng .u8 x) → l2.length * 1 ≤ 140737488351232 → (l2.length ≤ maxLen ∧ ∀ x ∈ l2, Rng .u8 x) → Rng .i64 a3 → l4.length * 8 ≤ 140737488351232 → (l4.length ≤ maxLen ∧ ∀ x ∈ l4, Rng .i64 x) → ∃ k, pledgelaw9_RecSays.f k a0_0 a0_1 a0_2 l1 l2 a3 l4 = some true

end Go.Proofs.YtelabafoknmkcaaDoor.ERecSays
