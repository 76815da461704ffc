/- The functions that the law comes to, as plain functions, and for each a proof that the Go code comes to just these answers. Written by a program of this claim. Conditions: each theorem bears its own. -/
import Derived.Test.YtccipdelkmmngaaDoorEWirePutsx0
import Derived.Test.YtccipdelkmmngaaDoorEWirePutsx1
namespace Go.Proofs.YtccipdelkmmngaaDoor.EWirePuts
open Go.RowKit Go.Proofs.YtccipdelkmmngaaDoorW.PrintWords Go.Proofs.YtccipdelkmmngaaDoorW.PrintLast Go.Proofs.YtccipdelkmmngaaDoorW.PrintMore Go.Proofs.YtccipdelkmmngaaDoorW.PrintOpen
attribute [local go_sem] max2_int min2_int max_two min_two max_three min_three max_four min_four   -- for this text's walks alone
set_option linter.unusedVariables false
set_option linter.unusedSimpArgs false

/-! ### pledgelaw1_WirePuts: function 3 -/
/-! ### A reader behind a pointer: its block, its bytes' block, its error -/
/-- Nothing but block g has turned. -/
structure Fr (g : Nat) (w w' : World) : Prop where
  os : w'.os = w.os
  tape : w'.tape = w.tape
  output : w'.output = w.output
  size : w.heap.size ≤ w'.heap.size
  block : ∀ k, k < w.heap.size → k ≠ g → w'.heap[k]? = w.heap[k]?
theorem Fr.refl (g : Nat) (w : World) : Fr g w w := ⟨rfl, rfl, rfl, Nat.le_refl _, fun _ _ _ => rfl⟩
theorem Fr.of_below {g : Nat} {w w' : World} (h : Below w.heap.size w w') : Fr g w w' := ⟨h.os, h.tape, h.output, h.size, fun k hk _ => h.block k hk⟩
theorem Fr.trans {g : Nat} {w w1 w2 : World} (h : Fr g w w1) (k : Fr g w1 w2) : Fr g w w2 :=
  ⟨k.os.trans h.os, k.tape.trans h.tape, k.output.trans h.output, Nat.le_trans h.size k.size, fun i hi hg => (k.block i (Nat.lt_of_lt_of_le hi h.size) hg).trans (h.block i hi hg)⟩
theorem Fr.keep {g : Nat} {w w' : World} (h : Fr g w w') : KeepBut w w' g none := ⟨h.size, fun i hi hg _ => h.block i hi hg⟩
theorem Fr.set {g : Nat} {w w' : World} (h : Fr g w w') (j : Nat) (u : Value) : Fr g w (w'.setCell ⟨g, j, none⟩ u) := by
  have hb := Below.setCell (Below.refl g w') (p := ⟨g, j, none⟩) (Nat.le_refl _) u
  exact ⟨hb.os.trans h.os, hb.tape.trans h.tape, hb.output.trans h.output, Nat.le_trans h.size hb.size, fun i hi hg => (Below.heap_setCell w' ⟨g, j, none⟩ u i hg).trans (h.block i hi hg)⟩
theorem Fr.below {g B : Nat} {w0 w w' : World} (h : Fr g w w') (hb : Below B w0 w) (hB : B ≤ g) (hs : B ≤ w.heap.size) : Below B w0 w' :=
  ⟨h.os.trans hb.os, h.tape.trans hb.tape, h.output.trans hb.output, Nat.le_trans hb.size h.size, fun k hk => (h.block k (by omega) (by omega)).trans (hb.block k hk)⟩
/-- What the reader's error is: none, or one with a place. -/
def ErrAt [Inhabited (Int → Addr)] (w : World) (g : Nat) (ev : Value) : Option (Int × Int) → Prop
  | none => ev = .nilIface
  | some p => ∃ g', ev = .iface 55 (.pointer (some ⟨g', 0, none⟩)) ∧ g' ≠ g ∧ w.heap[g']? = some (.cells #[.int .i64 p.2, errW (some p.1)] 57 (0, 0))
theorem ErrAt.keep [Inhabited (Int → Addr)] {w w' : World} {g : Nat} {ev : Value} {e : Option (Int × Int)} (h : ErrAt w g ev e) (hf : Fr g w w') : ErrAt w' g ev e := by
  cases e with
  | none => exact h
  | some p =>
    obtain ⟨g', h1, h2, h3⟩ := h
    exact ⟨g', h1, h2, (hf.block g' (blk_lt h3) h2).trans h3⟩
/-- The reader of block g (its bytes in block rb): bytes, place, error. -/
structure RdB [Inhabited (Int → Addr)] (g rb : Nat) (w : World) (b : List Int) (at_ : Int) (e : Option (Int × Int)) (A : Option Addr) (c : Nat) (ev : Value) : Prop where
  blk : w.heap[g]? = some (.cells #[.slice A b.length c, .int .i64 at_, ev] 48 (0, 0))
  row : (Kd.int .u8).C w A b.length b
  far : ∀ ad, A = some ad → 0 < b.length → ad.block = rb
  ne : rb ≠ g
  err : ErrAt w g ev e
def Rd [Inhabited (Int → Addr)] (g rb : Nat) (w : World) (b : List Int) (at_ : Int) (e : Option (Int × Int)) : Prop := ∃ A c ev, RdB g rb w b at_ e A c ev
theorem Rd.lt [Inhabited (Int → Addr)] {g rb : Nat} {w : World} {b : List Int} {at_ : Int} {e : Option (Int × Int)} (h : Rd g rb w b at_ e) : g < w.heap.size := by
  obtain ⟨A, c, ev, h⟩ := h; exact blk_lt h.blk
theorem Rd.below [Inhabited (Int → Addr)] {g rb : Nat} {w w' : World} {b : List Int} {at_ : Int} {e : Option (Int × Int)} (h : Rd g rb w b at_ e) (hb : Below w.heap.size w w') : Rd g rb w' b at_ e := by
  obtain ⟨A, c, ev, h⟩ := h
  exact ⟨A, c, ev, (hb.block g (blk_lt h.blk)).trans h.blk, Kd.C_below h.row hb, h.far, h.ne, h.err.keep (Fr.of_below hb)⟩
/-- Another reader has been used. -/
theorem Rd.other [Inhabited (Int → Addr)] {g rb g2 : Nat} {w w' : World} {b : List Int} {at_ : Int} (h : Rd g rb w b at_ none) (hf : Fr g2 w w') (h1 : g ≠ g2) (h2 : rb ≠ g2) : Rd g rb w' b at_ none := by
  obtain ⟨A, c, ev, h⟩ := h
  exact ⟨A, c, ev, (hf.block g (blk_lt h.blk) h1).trans h.blk, Kd.C_keep (0 : Int) h.row hf.keep (fun ad e hl => by rw [h.far ad e hl]; exact h2), h.far, h.ne, h.err⟩
theorem RdB.row_set [Inhabited (Int → Addr)] {g rb : Nat} {w w' : World} {b : List Int} {at_ : Int} {e : Option (Int × Int)} {A : Option Addr} {c : Nat} {ev : Value} (h : RdB g rb w b at_ e A c ev) (hf : Fr g w w') : (Kd.int .u8).C w' A b.length b :=
  Kd.C_keep (0 : Int) h.row hf.keep (fun ad e hl => by rw [h.far ad e hl]; exact h.ne)
theorem RdB.step [Inhabited (Int → Addr)] {g rb : Nat} {w : World} {b : List Int} {at_ : Int} {e : Option (Int × Int)} {A : Option Addr} {c : Nat} {ev : Value} (h : RdB g rb w b at_ e A c ev) (n : Int) : Rd g rb (w.setCell ⟨g, 1, none⟩ (.int .i64 n)) b n e :=
  ⟨A, c, ev, blk_put h.blk 1 _ rfl, h.row_set ((Fr.refl g w).set 1 _), h.far, h.ne, h.err.keep ((Fr.refl g w).set 1 _)⟩
set_option maxHeartbeats 4000000 in
set_option maxRecDepth 100000 in
theorem Reader_At.calls [Inhabited (Int → Addr)] {g rb : Nat} {w : World} {b : List Int} {at_ : Int} {e : Option (Int × Int)} (h : Rd g rb w b at_ e) :
    Calls Tryd.prog 19 #[.pointer (some ⟨g, 0, none⟩)] w fun e w' => e = .returned (.int .i64 at_) ∧ w' = w := by
  obtain ⟨A, c, ev, h⟩ := h
  have hc := (blk_cell h.blk 1).trans rfl
  clear h
  go_enter Tryd.func19, Tryd.ntmps19
  go_wp2
  go_ret
  exact ⟨rfl, rfl⟩
set_option maxHeartbeats 4000000 in
set_option maxRecDepth 100000 in
theorem Reader_Err.calls [Inhabited (Int → Addr)] {g rb : Nat} {w : World} {b : List Int} {at_ : Int} {e : Option (Int × Int)} (h : Rd g rb w b at_ e) :
    Calls Tryd.prog 16 #[.pointer (some ⟨g, 0, none⟩)] w fun v w' => w' = w ∧ ∃ ev, v = .returned ev ∧ ErrAt w g ev e := by
  obtain ⟨A, c, ev, h⟩ := h
  have hc := (blk_cell h.blk 2).trans rfl
  have HE := Aside0.mk h.err
  clear h
  go_enter Tryd.func16, Tryd.ntmps16
  go_wp2
  go_ret
  exact ⟨rfl, _, rfl, HE.out⟩
theorem RdB.below [Inhabited (Int → Addr)] {g rb : Nat} {w w' : World} {b : List Int} {at_ : Int} {e : Option (Int × Int)} {A : Option Addr} {c : Nat} {ev : Value} (h : RdB g rb w b at_ e A c ev) (hb : Below w.heap.size w w') : RdB g rb w' b at_ e A c ev :=
  ⟨(hb.block g (blk_lt h.blk)).trans h.blk, Kd.C_below h.row hb, h.far, h.ne, h.err.keep (Fr.of_below hb)⟩
theorem RdB.rd [Inhabited (Int → Addr)] {g rb : Nat} {w : World} {b : List Int} {at_ : Int} {e : Option (Int × Int)} {A : Option Addr} {c : Nat} {ev : Value} (h : RdB g rb w b at_ e A c ev) : Rd g rb w b at_ e := ⟨A, c, ev, h⟩
set_option maxHeartbeats 4000000 in
set_option maxRecDepth 100000 in
theorem Reader_Left.calls [Inhabited (Int → Addr)] {g rb : Nat} {w : World} {b : List Int} {at_ : Int} {e : Option (Int × Int)} (h : Rd g rb w b at_ e) :
    Calls Tryd.prog 15 #[.pointer (some ⟨g, 0, none⟩)] w fun e w' => e = .returned (.int .i64 (wrap64 ((b.length : Int) - at_))) ∧ Drawn0 w w' := by
  obtain ⟨A, c, ev, h⟩ := h
  have hc := (blk_cell h.blk 1).trans rfl
  have hc0 := (blk_cell h.blk 0).trans rfl
  clear h
  go_enter Tryd.func15, Tryd.ntmps15
  go_wp2
  go_big_region
  go_wp2
  go_ret
  exact ⟨rfl, ⟨1, rfl⟩⟩
set_option maxHeartbeats 4000000 in
set_option maxRecDepth 100000 in
theorem Reader_fail.calls [Inhabited (Int → Addr)] {g rb : Nat} {w : World} {b : List Int} {at_ : Int} (code : Int) (h : Rd g rb w b at_ none) :
    Calls Tryd.prog 25 #[.pointer (some ⟨g, 0, none⟩), errW (some code)] w fun e w' => e = .returned (.tuple #[]) ∧ Rd g rb w' b at_ (some (code, at_)) ∧ Fr g w w' := by
  obtain ⟨A, c, ev, h⟩ := h
  have hc1 := (blk_cell h.blk 1).trans rfl
  have HH := Aside0.mk h
  rw [errW_some]
  clear h
  go_enter Tryd.func25, Tryd.ntmps25
  go_wp2_with (first | ((with_reducible refine gate_dst (N := 11) rfl ?_); refine box_event ?hg (N := 11) ?hd (cs := #[.int .i64 at_, .iface 64 (.pointer (some (adr code)))]) (t := 57) ?hr ?_; (case hd => rfl); (case hg => rfl); (case hr => first | (go_simp; done) | (go_simp; rfl)); intro gb hg w2 hbox hb; have BK := Aside0.mk hbox; have HB := Aside0.mk hb; have HGB := Aside0.mk hg; have HX := Aside0.mk (HH.out.below hb); clear hbox hb hg hc1; have hc2 := (blk_cell HX.out.blk 2).trans rfl; have hf2 := blk_frozen HX.out.blk 2))
  go_end0
  refine ⟨rfl, ⟨A, c, _, blk_put HX.out.blk 2 _ rfl, HX.out.row_set ((Fr.refl g w2).set 2 _), HX.out.far, HX.out.ne, gb, rfl, ?_, ?_⟩, (Fr.of_below HB.out).set 2 _⟩
  · have := blk_lt HH.out.blk; have := HGB.out; omega
  · have hne : gb ≠ g := by have := blk_lt HH.out.blk; have := HGB.out; omega
    exact (Below.heap_setCell w2 ⟨g, 2, none⟩ _ gb hne).trans BK.out
theorem w64q (x : Int) (h1 : -1000000000 ≤ x) (h2 : x ≤ 1000000000) : wrap64 x = x := by unfold wrap64; omega
/-- A number's bits so far, and those of one byte more. -/
def zN (z x : Int) (i : Nat) : Int := Go.bits .or .u64 z (IntKind.u64.wrap (IntKind.u64.wrap (Go.bits .andNot .u8 x 128) * 2 ^ min (wrap64 (7 * (i : Int))).toNat 64))
/-- The number that bits say. -/
def dcN (z : Int) : Int := Go.bits .xor .i64 (wrap64 (z / 2)) (wrap64 (-wrap64 (Go.bits .and .u64 z 1)))
/-- The number at a place: d bytes more at most, i bytes read. -/
def nmF (b : List Int) (at_ : Int) : Nat → Nat → Int → Int × Int × Option Int
  | 0, _, _ => (0, 0, some 0)
  | d + 1, i, z => if at_ + (i : Int) < (b.length : Int) then (if (i : Int) = 9 ∧ rd b (at_ + (i : Int)) > 1 then (0, 0, some 102) else if rd b (at_ + (i : Int)) ≥ 128 then nmF b at_ d (i + 1) (zN z (rd b (at_ + (i : Int))) i)
      else if rd b (at_ + (i : Int)) = 0 ∧ (i : Int) > 0 then (0, 0, some 102) else (dcN (zN z (rd b (at_ + (i : Int))) i), (i : Int) + 1, none)) else (0, 0, some 101)
def nm (b : List Int) (at_ : Int) : Int × Int × Option Int := nmF b at_ 10 0 0
set_option maxHeartbeats 4000000 in
set_option maxRecDepth 100000 in
theorem Reader_number.calls [Inhabited (Int → Addr)] {g rb : Nat} {w : World} {b : List Int} {at_ : Int} (hG : GlobOK w) (h : Rd g rb w b at_ none) (h0 : 0 ≤ at_) (h1 : at_ ≤ b.length) (hl : b.length ≤ 1000000000) :
    Calls Tryd.prog 24 #[.pointer (some ⟨g, 0, none⟩)] w fun e w' => e = .returned (.tuple #[.int .i64 (nm b at_).1, .int .i64 (nm b at_).2.1, errW (nm b at_).2.2]) ∧ Drawn0 w w' := by
  obtain ⟨A, c, ev, h⟩ := h
  have HH := Aside0.mk h
  have HG := Aside0.mk hG
  have H0 := Aside0.mk h0
  have H1 := Aside0.mk h1
  have HL := Aside0.mk hl
  clear h h0 h1 hl hG
  go_enter Tryd.func24, Tryd.ntmps24
  go_wp2
  go_loopg [5, 6, 7] 10 (fun g1 v5 v6 v7 wr => ∃ (i d : Nat) (z : Int), v5 = .int .u64 z ∧ v6 = .int .i64 i ∧ Aside0 (d + i = 9) ∧ Aside0 (10 ≤ g1 + i) ∧ Aside0 (Drawn0 w wr) ∧ Aside0 (nm b at_ = nmF b at_ (d + 1) i z))
  case atStart => exact ⟨0, 9, 0, rfl, rfl, ⟨by omega⟩, ⟨by omega⟩, ⟨Drawn0.refl _⟩, ⟨rfl⟩⟩
  case round =>
    obtain ⟨i, d, z, rfl, rfl, HI, HK, HD, HN⟩ := hrel
    have HX := Aside0.mk (HH.out.below HD.out.below)
    have hc0 := (blk_cell HX.out.blk 0).trans rfl
    have hc1 := (blk_cell HX.out.blk 1).trans rfl
    have HW : wrap64 (at_ + (i : Int)) = at_ + (i : Int) := by have := H0.out; have := H1.out; have := HI.out; have := HL.out; unfold wrap64; omega
    by_cases hlt : at_ + (i : Int) < (b.length : Int)
    · have cb0 : decide (at_ + (i : Int) ≥ (b.length : Int)) = false := decide_eq_false (by omega)
      have hp0 : 0 ≤ at_ + (i : Int) := by have := H0.out; omega
      obtain ⟨ad, eA, hx⟩ := Kd.at_int HX.out.row (at_ + (i : Int)) hp0 hlt
      subst eA
      obtain ⟨x, hxd⟩ : ∃ x, x = rd b (at_ + (i : Int)) := ⟨_, rfl⟩
      rw [← hxd] at hx
      have HLT := Aside0.mk hlt
      have HXD := Aside0.mk hxd
      clear hxd
      go_wp2
      go_big_region
      have HD2 := Aside0.mk (HD.out.step 1)
      have HX2 := Aside0.mk (HX.out.below (Below.drew (Below.refl _ _)))
      have hx2 : wr.drew.cell? (ad.add (at_ + (i : Int)).toNat) = some (.int .u8 x) := hx
      clear HD HX hc0 hc1 hx
      change Aside0 (Drawn0 w wr.drew) at HD2
      generalize wr.drew = w2 at HD2 HX2 hx2 ⊢
      have hc0 := (blk_cell HX2.out.blk 0).trans rfl
      have hc1 := (blk_cell HX2.out.blk 1).trans rfl
      go_wp2
      go_big_region
      have HD3 := Aside0.mk (HD2.out.step 1)
      clear HD2 HX2 hc0 hc1 hx2
      change Aside0 (Drawn0 w w2.drew) at HD3
      generalize w2.drew = w3 at HD3 ⊢
      have HLI := Aside0.mk (show ((i : Int) = 9) = ((i : Int) = 9) from rfl)
      by_cases h9 : (i : Int) = 9 ∧ x > 1
      · obtain ⟨h91, h92⟩ := h9
        have d1 : ((i : Int) == 9) = true := beq_iff_eq.mpr h91
        have d2 : decide (x > 1) = true := decide_eq_true h92
        have hx := GlobOK.at (HG.out.below HD3.out.below) 102 2 (by simp [globTab])
        have H9 := Aside0.mk (And.intro h91 h92)
        clear h91 h92
        go_wp2
        go_big_region
        go_wp2
        have hr : nm b at_ = (0, 0, some 102) := by
          rw [HN.out]; simp only [nmF]
          rw [if_pos HLT.out, ← HXD.out, if_pos H9.out]
        rw [hr]
        go_ret3
        exact ⟨rfl, HD3.out.step 1⟩
      · have H9 := Aside0.mk h9
        have C9 : ((i : Int) == 9 && decide (x > 1)) = false := by
          rw [Bool.and_eq_false_iff]
          by_cases h91 : (i : Int) = 9
          · exact .inr (decide_eq_false (fun h => h9 ⟨h91, h⟩))
          · exact .inl (beq_eq_false_iff_ne.mpr h91)
        clear h9
        have hi7 : 0 ≤ wrap64 (7 * (i : Int)) := by have := HI.out; rw [w64q _ (by omega) (by omega)]; omega
        by_cases h128 : x ≥ 128
        · have d3 : decide (x ≥ 128) = true := decide_eq_true h128
          have H128 := Aside0.mk h128
          clear h128
          have d1 : ((i : Int) == 9) = false := beq_eq_false_iff_ne.mpr (fun h => H9.out ⟨h, by have := H128.out; omega⟩)
          go_wp2
          have hi8 : i ≠ 9 := by have := beq_eq_false_iff_ne.mp d1; omega
          have HW2 : Aside0 (wrap64 ((i : Int) + 1) = ((i + 1 : Nat) : Int)) := ⟨by have := HI.out; rw [w64q _ (by omega) (by omega)]; omega⟩
          go_roundg (10 - (i + 1))
          case measure => have := HI.out; have := HK.out; omega
          case rel =>
            obtain ⟨d', rfl⟩ : ∃ d', d = d' + 1 := ⟨d - 1, by have := HI.out; omega⟩
            exact ⟨i + 1, d', zN z x i, by rw [HXD.out]; rfl, by rw [HW2.out], ⟨by have := HI.out; omega⟩, ⟨by omega⟩, HD3, ⟨by rw [HN.out, nmF, if_pos HLT.out, ← HXD.out, if_neg H9.out, if_pos H128.out]⟩⟩
        · have d3 : decide (x ≥ 128) = false := decide_eq_false h128
          have H128 := Aside0.mk h128
          clear h128
          by_cases h0 : x = 0 ∧ (i : Int) > 0
          · obtain ⟨h01, h02⟩ := h0
            have d4 : (x == 0) = true := beq_iff_eq.mpr h01
            have d5 : decide ((i : Int) > 0) = true := decide_eq_true h02
            have d6 : (0 < i) = True := eq_true (by omega)
            have d7 : ((i : Int) > 0) = True := eq_true h02
            have d8 : decide (0 < i) = true := decide_eq_true (by omega)
            have hx := GlobOK.at (HG.out.below HD3.out.below) 102 2 (by simp [globTab])
            have HZ := Aside0.mk (And.intro h01 h02)
            clear h01 h02
            cases e9 : ((i : Int) == 9)
            · go_wp2
              go_big_region
              go_wp2
              have hr : nm b at_ = (0, 0, some 102) := by
                rw [HN.out]; simp only [nmF]
                rw [if_pos HLT.out, ← HXD.out, if_neg H9.out, if_neg (show ¬ x ≥ 128 by have := H128.out; omega), if_pos HZ.out]
              rw [hr]
              go_ret3
              exact ⟨rfl, HD3.out.step 1⟩
            · have d2 : decide (x > 1) = false := by rw [e9] at C9; simpa using C9
              go_wp2
              go_big_region
              go_wp2
              have hr : nm b at_ = (0, 0, some 102) := by
                rw [HN.out]; simp only [nmF]
                rw [if_pos HLT.out, ← HXD.out, if_neg H9.out, if_neg (show ¬ x ≥ 128 by have := H128.out; omega), if_pos HZ.out]
              rw [hr]
              go_ret3
              exact ⟨rfl, HD3.out.step 1⟩
          · have HZ := Aside0.mk h0
            have CZ : (x == 0 && decide ((i : Int) > 0)) = false := by
              rw [Bool.and_eq_false_iff]
              by_cases h01 : x = 0
              · exact .inr (decide_eq_false (fun h => h0 ⟨h01, h⟩))
              · exact .inl (beq_eq_false_iff_ne.mpr h01)
            clear h0
            have hr : nm b at_ = (dcN (zN z x i), (i : Int) + 1, none) := by
              rw [HN.out]; simp only [nmF]
              rw [if_pos HLT.out, ← HXD.out, if_neg H9.out, if_neg (show ¬ x ≥ 128 by have := H128.out; omega), if_neg HZ.out]
            have HR := Aside0.mk hr
            have HW2 : Aside0 (wrap64 ((i : Int) + 1) = (i : Int) + 1) := ⟨by have := HI.out; rw [w64q _ (by omega) (by omega)]⟩
            clear hr
            cases e9 : ((i : Int) == 9) <;> cases ez : (x == 0)
            · go_wp2
              rw [HR.out, HW2.out]
              go_ret3
              exact ⟨rfl, HD3.out⟩
            · have d5 : decide ((i : Int) > 0) = false := by rw [ez] at CZ; simpa using CZ
              have hi0 : i = 0 := by have := of_decide_eq_false d5; omega
              have d6 : (0 < i) = False := eq_false (by omega)
              have d7 : ((i : Int) > 0) = False := eq_false (by omega)
              have d8 : decide (0 < i) = false := decide_eq_false (by omega)
              clear hi0
              go_wp2
              rw [HR.out, HW2.out]
              go_ret3
              exact ⟨rfl, HD3.out⟩
            · have d2 : decide (x > 1) = false := by rw [e9] at C9; simpa using C9
              go_wp2
              rw [HR.out, HW2.out]
              go_ret3
              exact ⟨rfl, HD3.out⟩
            · exfalso
              have d5 : decide ((i : Int) > 0) = false := by rw [ez] at CZ; simpa using CZ
              have := of_decide_eq_false d5
              have := beq_iff_eq.mp e9
              omega
    · have cb0 : decide (at_ + (i : Int) ≥ (b.length : Int)) = true := decide_eq_true (by omega)
      have HLT := Aside0.mk hlt
      clear hlt
      go_wp2
      go_big_region
      have HD2 := Aside0.mk (HD.out.step 1)
      clear HD HX hc0 hc1
      change Aside0 (Drawn0 w wr.drew) at HD2
      generalize wr.drew = w2 at HD2 ⊢
      have hx := GlobOK.at (HG.out.below HD2.out.below) 101 1 (by simp [globTab])
      go_wp2
      go_big_region
      go_wp2
      have hr : nm b at_ = (0, 0, some 101) := by
        rw [HN.out]; simp only [nmF]
        rw [if_neg (show ¬ (at_ + (i : Int) < (b.length : Int)) by have := HLT.out; omega)]
      rw [hr]
      go_ret3
      exact ⟨rfl, HD2.out.step 1⟩
theorem nmF_k (b : List Int) (at_ : Int) : ∀ (d i : Nat) (z : Int), 0 ≤ (nmF b at_ d i z).2.1 ∧ (nmF b at_ d i z).2.1 ≤ (i : Int) + d
  | 0, i, z => by simp only [nmF]; omega
  | d + 1, i, z => by
    have ih := nmF_k b at_ d (i + 1) (zN z (rd b (at_ + (i : Int))) i)
    simp only [nmF]
    split
    · split
      · simp only []; omega
      · split
        · omega
        · split <;> simp only [] <;> omega
    · simp only []; omega
/-- What a read answers, where it leaves the reader, and its error. -/
def numS (b : List Int) (at_ : Int) (e : Option (Int × Int)) (low high : Int) : Int × Int × Option (Int × Int) :=
  match e with
  | some p => (0, at_, some p)
  | none => match (nm b at_).2.2 with
    | some c => (0, at_, some (c, at_))
    | none => if (nm b at_).1 < low ∨ (nm b at_).1 > high then (0, at_, some (103, at_)) else ((nm b at_).1, at_ + (nm b at_).2.1, none)
set_option maxHeartbeats 4000000 in
set_option maxRecDepth 100000 in
theorem Reader_Num.calls [Inhabited (Int → Addr)] {g rb : Nat} {w : World} {b : List Int} {at_ : Int} {e : Option (Int × Int)} (low high : Int) (hG : GlobOK w) (h : Rd g rb w b at_ e) (h0 : 0 ≤ at_) (h1 : at_ ≤ b.length) (hl : b.length ≤ 100000000) :
    Calls Tryd.prog 14 #[.pointer (some ⟨g, 0, none⟩), .int .i64 low, .int .i64 high] w fun v w' => v = .returned (.int .i64 (numS b at_ e low high).1) ∧ Rd g rb w' b (numS b at_ e low high).2.1 (numS b at_ e low high).2.2 ∧ Fr g w w' := by
  cases e with
  | some p =>
    have HH := Aside0.mk h
    obtain ⟨A, c, ev, h⟩ := h
    obtain ⟨g', he, _, _⟩ := h.err
    subst he
    have hc := (blk_cell h.blk 2).trans rfl
    clear h h0 h1 hl hG
    go_enter Tryd.func14, Tryd.ntmps14
    go_wp2
    go_ret
    exact ⟨rfl, HH.out, Fr.refl _ _⟩
  | none =>
    have hN := Aside0.mk (Reader_number.calls hG h h0 h1 (by omega))
    have HH := Aside0.mk h
    obtain ⟨A, c, ev, h⟩ := h
    obtain rfl : ev = .nilIface := h.err
    have hc := (blk_cell h.blk 2).trans rfl
    have hk := nmF_k b at_ 10 0 0
    have HB := Aside0.mk h
    have HG := Aside0.mk hG
    have HK : Aside0 (wrap64 (at_ + (nm b at_).2.1) = at_ + (nm b at_).2.1) := ⟨by unfold nm; exact w64q _ (by omega) (by omega)⟩
    clear h h0 h1 hl hG hk
    obtain ⟨n, kk, er, hq⟩ : ∃ n kk er, nm b at_ = (n, kk, er) := ⟨_, _, _, rfl⟩
    have hN := Aside0.mk (show Calls Tryd.prog 24 #[.pointer (some ⟨g, 0, none⟩)] w fun e w' => e = .returned (.tuple #[.int .i64 n, .int .i64 kk, errW er]) ∧ Drawn0 w w' by have := hN.out; rw [hq] at this; exact this)
    unfold numS
    rw [hq] at HK ⊢
    simp only [] at HK ⊢
    clear hq
    cases er with
    | some cc =>
      have hF := Aside0.mk (fun (W : World) (hR : Rd g rb W b at_ none) => Reader_fail.calls cc hR)
      simp only [errW_some] at hN hF
      go_enter Tryd.func14, Tryd.ntmps14
      go_wp2_with (first | (go_at_call 24; refine hN.out.mono ?_; rintro e w2 ⟨rfl, hd⟩; have HD := Aside0.mk hd; clear hd) | (go_at_call 25; refine (hF.out _ (HH.out.below HD.out.below)).mono ?_; rintro e w3 ⟨rfl, hr, hf⟩; have HR3 := Aside0.mk hr; have HF3 := Aside0.mk hf; clear hr hf))
      go_ret
      exact ⟨rfl, HR3.out, (Fr.of_below HD.out.below).trans HF3.out⟩
    | none =>
      simp only [errW_none] at hN
      by_cases ho : n < low ∨ n > high
      · have hF := Aside0.mk (fun (W : World) (hR : Rd g rb W b at_ none) => Reader_fail.calls 103 hR)
        simp only [errW_some] at hF
        have HO := Aside0.mk ho
        rw [if_pos ho]
        have d1 : n < low → decide (n < low) = true := decide_eq_true
        by_cases ho1 : n < low
        · have d1 : decide (n < low) = true := decide_eq_true ho1
          clear ho ho1
          go_enter Tryd.func14, Tryd.ntmps14
          go_wp2_with (first | (go_at_call 24; refine hN.out.mono ?_; rintro e w2 ⟨rfl, hd⟩; have hx := GlobOK.at (HG.out.below hd.below) 103 0 (by simp [globTab]); have HD := Aside0.mk hd; clear hd) | (go_at_call 25; refine (hF.out _ (HH.out.below HD.out.below)).mono ?_; rintro e w3 ⟨rfl, hr, hf⟩; have HR3 := Aside0.mk hr; have HF3 := Aside0.mk hf; clear hr hf))
          go_ret
          exact ⟨rfl, HR3.out, (Fr.of_below HD.out.below).trans HF3.out⟩
        · have d1 : decide (n < low) = false := decide_eq_false ho1
          have d2 : decide (n > high) = true := decide_eq_true (by omega)
          clear ho ho1
          go_enter Tryd.func14, Tryd.ntmps14
          go_wp2_with (first | (go_at_call 24; refine hN.out.mono ?_; rintro e w2 ⟨rfl, hd⟩; have hx := GlobOK.at (HG.out.below hd.below) 103 0 (by simp [globTab]); have HD := Aside0.mk hd; clear hd) | (go_at_call 25; refine (hF.out _ (HH.out.below HD.out.below)).mono ?_; rintro e w3 ⟨rfl, hr, hf⟩; have HR3 := Aside0.mk hr; have HF3 := Aside0.mk hf; clear hr hf))
          go_ret
          exact ⟨rfl, HR3.out, (Fr.of_below HD.out.below).trans HF3.out⟩
      · rw [if_neg ho]
        have d1 : decide (n < low) = false := decide_eq_false (by omega)
        have d2 : decide (n > high) = false := decide_eq_false (by omega)
        clear ho
        go_enter Tryd.func14, Tryd.ntmps14
        go_wp2_with (first | (go_at_call 24; refine hN.out.mono ?_; rintro e w2 ⟨rfl, hd⟩; have HX2 := Aside0.mk (HB.out.below hd.below); have hc1 := (blk_cell HX2.out.blk 1).trans rfl; have hf1 := blk_frozen HX2.out.blk 1; have HD := Aside0.mk hd; clear hd))
        rw [HK.out]
        go_ret
        exact ⟨rfl, HX2.out.step _, ((Fr.of_below HD.out.below).set 1 _)⟩
set_option maxHeartbeats 4000000 in
set_option maxRecDepth 100000 in
theorem Reader_Bool.calls [Inhabited (Int → Addr)] {g rb : Nat} {w : World} {b : List Int} {at_ : Int} {e : Option (Int × Int)} (hG : GlobOK w) (h : Rd g rb w b at_ e) (h0 : 0 ≤ at_) (h1 : at_ ≤ b.length) (hl : b.length ≤ 100000000) :
    Calls Tryd.prog 21 #[.pointer (some ⟨g, 0, none⟩)] w fun v w' => v = .returned (.bool ((numS b at_ e 0 1).1 == 1)) ∧ Rd g rb w' b (numS b at_ e 0 1).2.1 (numS b at_ e 0 1).2.2 ∧ Fr g w w' := by
  have hN := Aside0.mk (Reader_Num.calls 0 1 hG h h0 h1 hl)
  clear hG h h0 h1 hl
  go_enter Tryd.func21, Tryd.ntmps21
  go_wp2_with (go_at_call 14; refine hN.out.mono ?_; rintro e w2 ⟨rfl, hr, hf⟩; have HR := Aside0.mk hr; have HF := Aside0.mk hf; clear hr hf)
  go_ret
  exact ⟨rfl, HR.out, HF.out⟩
set_option maxHeartbeats 4000000 in
set_option maxRecDepth 100000 in
theorem NewReader.calls [Inhabited (Int → Addr)] (A0 : Option Addr) (c0 : Nat) (b : List Int) (w : World) (hr0 : Kd.C (Kd.int .u8) w A0 b.length b) (hc0 : b.length ≤ c0) (hl : b.length ≤ 1000000000) :
    Calls Tryd.prog 13 #[.slice A0 b.length c0] w fun v w' => ∃ g rb, v = .returned (.pointer (some ⟨g, 0, none⟩)) ∧ w.heap.size ≤ g ∧ w.heap.size ≤ rb ∧ (b ≠ [] → rb < g) ∧ Rd g rb w' b 0 none ∧ Below w.heap.size w w' := by
  have HC := Aside0.mk (slices_Clone_byte_byte.calls A0 c0 b b w hr0 hc0 (by unfold slices_Clone_byte_byte.f; rw [if_pos hl]))
  clear hr0 hc0 hl
  go_enter Tryd.func13, Tryd.ntmps13
  go_wp2_with (first | (go_at_call 22; refine HC.out.mono ?_; rintro e w1 ⟨v0, rfl, ho, hb⟩; obtain ⟨A, c, rfl, hlc, hC⟩ := Kd.R_reads ho; have HO := Aside0.mk ho; have HB := Aside0.mk hb; have HCC := Aside0.mk hC; clear ho hb hlc hC) | ((with_reducible refine gate_dst (N := 6) rfl ?_); refine box_event ?hg (N := 6) ?hd (cs := #[.slice A b.length c, .int .i64 0, .nilIface]) (t := 48) ?hr ?_; (case hd => rfl); (case hg => rfl); (case hr => first | (go_simp; done) | (go_simp; rfl)); intro gb hg w2 hbox hb; have BK := Aside0.mk hbox; have HB2 := Aside0.mk hb; have HGB := Aside0.mk hg; clear hbox hb hg))
  go_ret
  have hgb : w.heap.size ≤ gb := by have := HGB.out; have := below_size HB.out; omega
  rcases Kd.own_of_R (enc := Value.int .u8) (h1 := fun _ => rfl) HO.out with ⟨_, ho⟩
  have hbel := below_step HB.out HB2.out
  rcases ho with ⟨_, h0⟩ | ⟨rb, cap, cur, he, hg, hh, _⟩
  · have hbn : b = [] := List.eq_nil_of_length_eq_zero (by omega)
    refine ⟨gb, gb + 1, rfl, hgb, by omega, fun h => absurd hbn h, ⟨A, c, _, BK.out, Kd.C_below HCC.out HB2.out, ?_, by omega, rfl⟩, hbel⟩
    intro ad _ h; omega
  · injection he with he1 he2 he3
    refine ⟨gb, rb, rfl, hgb, hg, fun _ => ?_, ⟨A, c, _, BK.out, Kd.C_below HCC.out HB2.out, ?_, ?_, rfl⟩, hbel⟩
    · have := blk_lt hh; have := HGB.out; omega
    · intro ad h _; rw [he1] at h; injection h with h; rw [← h]
    · have := blk_lt hh; have := HGB.out; omega
/-- Numbers behind bytes, one by one: by the document; by the code. -/
def refL (k : Nat) (l : List Int) : Nat → Nat → List Int → Option (List Int)
  | 0, _, x => some x
  | d + 1, i, x => (pledgeref1_Put.f k x (rd l (i : Int))).bind fun v => refL k l d (i + 1) v
def oneL (k : Nat) (l : List Int) : Nat → Nat → List Int → Option (List Int)
  | 0, _, x => some x
  | d + 1, i, x => (wire_Put.f k x [rd l (i : Int)]).bind fun v => oneL k l d (i + 1) v
/-- The place behind d numbers from number i on, each read as it is. -/
def rdL (b l : List Int) : Nat → Nat → Int → Option Int
  | 0, _, p => some p
  | d + 1, i, p => if (numS b p none (-9223372036854775808) 9223372036854775807).1 = rd l (i : Int) ∧ (numS b p none (-9223372036854775808) 9223372036854775807).2.2 = none ∧ 0 ≤ (numS b p none (-9223372036854775808) 9223372036854775807).2.1 ∧ (numS b p none (-9223372036854775808) 9223372036854775807).2.1 ≤ (b.length : Int)
    then rdL b l d (i + 1) (numS b p none (-9223372036854775808) 9223372036854775807).2.1 else none
def pledgelaw1_WirePuts.f (k : Nat) (b l : List Int) : Option Bool :=
  (pledgelaw1_first.f k).bind fun t => if t = true then (if 100 < b.length then some true else if 30 < l.length then some true else
    if pledgeref_Bytes.f k b = some b then
      (refL k l l.length 0 b).bind fun want => (wire_Put.f k b l).bind fun pp => (oneL k l l.length 0 b).bind fun q => (wire_Put.f k [] l).bind fun nb =>
        if (pledgeref_SameBytes.f k pp want = some true ∧ pledgeref_SameBytes.f k q want = some true ∧ pledgeref_SameBytes.f k b b = some true) ∧ nb.length ≤ 1000 ∧ rdL nb l l.length 0 0 = some (nb.length : Int) then some true else none
    else none) else some false
set_option maxHeartbeats 8000000 in
set_option maxRecDepth 1000000 in
theorem pledgelaw1_WirePuts.calls [Inhabited (Int → Addr)] (k : Nat) (A0 : Option Addr) (c0 : Nat) (b : List Int) (A1 : Option Addr) (c1 : Nat) (l : List Int) (r : Bool) (w : World) (hG : GlobOK w) (hr0 : Kd.C (Kd.int .u8) w A0 b.length b) (hc0 : b.length ≤ c0) (hr1 : Kd.C (Kd.int .i64) w A1 l.length l) (hc1 : l.length ≤ c1) (h : pledgelaw1_WirePuts.f k b l = some r) :
    Calls Tryd.prog 3 #[.slice A0 b.length c0, .slice A1 l.length c1] w fun e w' => e = .returned (.bool r) ∧ Below w.heap.size w w' := by
  have HG := Aside0.mk hG
  have HMB := Aside0.mk hr0
  have HC0 := Aside0.mk hc0
  have HML := Aside0.mk hr1
  have HC1 := Aside0.mk hc1
  have HB := Aside0.mk (Below.refl w.heap.size w)
  clear hG hr0 hc0 hr1 hc1
  unfold pledgelaw1_WirePuts.f at h
  obtain ⟨t, h1, h⟩ := Option.bind_eq_some_iff.mp h
  have H1 := Aside0.mk h1
  clear h1
  cases t with
  | false =>
    obtain rfl := Option.some.inj h
    clear h
    go_enter Tryd.func3, Tryd.ntmps3
    go_wp2_with (go_at_call 8; refine (pledgelaw1_first.calls k false _ H1.out).mono ?_; rintro e w2 ⟨rfl, hb⟩; clear HB; have HB := Aside0.mk hb; clear hb)
    go_ret
    exact ⟨rfl, HB.out⟩
  | true =>
    rw [if_pos rfl] at h
    by_cases h100 : 100 < b.length
    · rw [if_pos h100] at h
      obtain rfl := Option.some.inj h
      have cb0 : decide ((b.length : Int) > 100) = true := decide_eq_true (by omega)
      clear h h100
      go_enter Tryd.func3, Tryd.ntmps3
      go_wp2_with (go_at_call 8; refine (pledgelaw1_first.calls k true _ H1.out).mono ?_; rintro e w2 ⟨rfl, hb⟩; clear HB; have HB := Aside0.mk hb; clear hb)
      go_ret
      exact ⟨rfl, HB.out⟩
    · rw [if_neg h100] at h
      have cb0 : decide ((b.length : Int) > 100) = false := decide_eq_false (by omega)
      have HM100 := Aside0.mk h100
      clear h100
      by_cases h50 : 30 < l.length
      · rw [if_pos h50] at h
        obtain rfl := Option.some.inj h
        have cb1 : decide ((l.length : Int) > 30) = true := decide_eq_true (by omega)
        clear h h50
        go_enter Tryd.func3, Tryd.ntmps3
        go_wp2_with (go_at_call 8; refine (pledgelaw1_first.calls k true _ H1.out).mono ?_; rintro e w2 ⟨rfl, hb⟩; clear HB; have HB := Aside0.mk hb; clear hb)
        go_ret
        exact ⟨rfl, HB.out⟩
      · rw [if_neg h50] at h
        have cb1 : decide ((l.length : Int) > 30) = false := decide_eq_false (by omega)
        have HM50 := Aside0.mk h50
        clear h50
        by_cases hby : pledgeref_Bytes.f k b = some b
        rotate_left
        · rw [if_neg hby] at h; exact absurd h (by simp)
        rw [if_pos hby] at h
        obtain ⟨want0, hwant, h⟩ := Option.bind_eq_some_iff.mp h
        obtain ⟨pp, hpp, h⟩ := Option.bind_eq_some_iff.mp h
        obtain ⟨q0, hq0, h⟩ := Option.bind_eq_some_iff.mp h
        obtain ⟨nb, hnb, h⟩ := Option.bind_eq_some_iff.mp h
        by_cases hc : (pledgeref_SameBytes.f k pp want0 = some true ∧ pledgeref_SameBytes.f k q0 want0 = some true ∧ pledgeref_SameBytes.f k b b = some true) ∧ nb.length ≤ 1000 ∧ rdL nb l l.length 0 0 = some (nb.length : Int)
        rotate_left
        · rw [if_neg hc] at h; exact absurd h (by simp)
        rw [if_pos hc] at h
        obtain rfl := Option.some.inj h
        have HBY := Aside0.mk hby
        have HRUN1 := Aside0.mk hwant
        have HPP := Aside0.mk hpp
        have HRUN2 := Aside0.mk hq0
        have HNB := Aside0.mk hnb
        have HS1 := Aside0.mk hc.1.1
        have HS2 := Aside0.mk hc.1.2.1
        have HS3 := Aside0.mk hc.1.2.2
        have HLEN := Aside0.mk (show nb.length ≤ 100000000 by omega)
        have HRUN3 := Aside0.mk hc.2.2
        have TOK1 : Aside0 True := ⟨trivial⟩
        have TOK2 : Aside0 True := ⟨trivial⟩
        have TOK3 : Aside0 True := ⟨trivial⟩
        clear hby hwant hpp hq0 hnb hc h
        go_enter Tryd.func3, Tryd.ntmps3
        go_wp2_with (first
          | (go_at_call 8; refine (pledgelaw1_first.calls k true _ H1.out).mono ?_; rintro e w_ ⟨rfl, hb⟩; have n_ := Aside0.mk (below_step HB.out hb); clear HB; have HB := n_; clear n_; clear hb)
          | (have tk_ := TOK1.out; clear tk_ TOK1; go_at_call 9; have hN := pledgeref_Bytes.calls k A0 c0 b b _ (Kd.C_below HMB.out HB.out) HC0.out HBY.out; (try simp only [List.length_cons, List.length_nil, Nat.zero_add] at hN); (with_reducible refine hN.mono ?_); clear hN; rintro e w_ ⟨v_, rfl, ho, hb⟩; obtain ⟨A2, c2, rfl, hl_, hC_⟩ := Kd.R_reads ho; have n_ := Aside0.mk (below_step HB.out hb); clear HB; have HB := n_; clear n_; have HWAS := Aside0.mk hC_; have HWASL := Aside0.mk hl_; clear ho hb hl_ hC_)
          | (have tk_ := TOK2.out; clear tk_ TOK2; go_at_call 9; have hN := pledgeref_Bytes.calls k A0 c0 b b _ (Kd.C_below HMB.out HB.out) HC0.out HBY.out; (try simp only [List.length_cons, List.length_nil, Nat.zero_add] at hN); (with_reducible refine hN.mono ?_); clear hN; rintro e w_ ⟨v_, rfl, ho, hb⟩; obtain ⟨A3, c3, rfl, hl_, hC_⟩ := Kd.R_reads ho; have n_ := Aside0.mk (below_step HB.out hb); clear HB; have HB := n_; clear n_; have n_ := Aside0.mk (Kd.C_below HWAS.out hb); clear HWAS; have HWAS := n_; clear n_; have HWANT := Aside0.mk hC_; have HWANTL := Aside0.mk hl_; clear ho hb hl_ hC_))
        go_loopg [7, 8] l.length (fun gq v7 v8 wr => ∃ (i : Nat) (want : List Int) (A3 : Option Addr) (c3 : Nat), v8 = .int .i64 i ∧ v7 = .slice A3 want.length c3 ∧ Aside0 (want.length ≤ c3) ∧ Aside0 (i ≤ l.length) ∧ Aside0 (l.length ≤ gq + i) ∧ Aside0 (refL k l (l.length - i) i want = some want0) ∧ Aside0 (Below w.heap.size w wr) ∧ Aside0 ((Kd.int .u8).C wr A2 b.length b) ∧ Aside0 ((Kd.int .u8).C wr A3 want.length want))
        case atStart => exact ⟨0, b, A3, c3, rfl, rfl, HWANTL, ⟨by omega⟩, ⟨by omega⟩, ⟨by rw [Nat.sub_zero]; exact HRUN1.out⟩, HB, HWAS, HWANT⟩
        case round =>
          clear HB HWAS HWANT HWANTL HRUN1
          obtain ⟨i, want, A3, c3, rfl, rfl, HWANTL, HI, HKI, HRUN, HB, HWAS, HWANT⟩ := hrel
          by_cases hlt : i < l.length
          · skip
            have cb1 : decide ((i : Int) < (l.length : Int)) = true := decide_eq_true (by omega)
            have cb2 : ((i : Int) < (l.length : Int)) = True := eq_true (by omega)
            have cb3 : (i < l.length) = True := eq_true hlt
            have HI1 := Aside0.mk (show i + 1 ≤ l.length by omega)
            have HW2 : Aside0 (wrap64 ((i : Int) + 1) = ((i + 1 : Nat) : Int)) := ⟨by have := HM50.out; rw [w64q _ (by omega) (by omega)]; omega⟩
            obtain ⟨ad, eA, hx⟩ := Kd.at_int HML.out (i : Int) (by omega) (by omega)
            subst eA
            rw [Int.toNat_natCast] at hx
            obtain ⟨d, hd⟩ : ∃ d, l.length - i = d + 1 := ⟨l.length - i - 1, by omega⟩
            have hrun := HRUN.out
            rw [hd] at hrun
            simp only [refL] at hrun
            obtain ⟨v, hv, hrun⟩ := Option.bind_eq_some_iff.mp hrun
            have HV := Aside0.mk hv
            have HRUNB := Aside0.mk hrun
            have HD := Aside0.mk hd
            clear hrun hv hlt hd HRUN
            have hx2 := (HB.out.cell (World.block_lt_of_cell? w _ hx)).trans hx
            go_wp2_with (first
              | (go_at_call 10; have hN := pledgeref1_Put.calls k A3 c3 want (rd l (i : Int)) v _ HWANT.out HWANTL.out HV.out; (with_reducible refine hN.mono ?_); clear hN; rintro e w_ ⟨v_, rfl, ho, hb⟩; obtain ⟨A5, c5, rfl, hl_, hC_⟩ := Kd.R_reads ho; have n_ := Aside0.mk (below_step HB.out hb); clear HB; have HB := n_; clear n_; have n_ := Aside0.mk (Kd.C_below HWAS.out hb); clear HWAS; have HWAS := n_; clear n_; clear HWANT HWANTL; have HWANT := Aside0.mk hC_; have HWANTL := Aside0.mk hl_; clear ho hb hl_ hC_))
            clear hx hx2
            go_roundg (l.length - (i + 1))
            case measure => have := HKI.out; have := HI1.out; omega
            case rel => exact ⟨i + 1, v, _, _, by rw [HW2.out], rfl, HWANTL, ⟨HI1.out⟩, ⟨by have := HI1.out; omega⟩, ⟨by rw [show l.length - (i + 1) = d by have := HD.out; omega]; exact HRUNB.out⟩, HB, HWAS, HWANT⟩
          · skip
            obtain rfl : l.length = i := by have := HI.out; omega
            have cb1 : decide ((l.length : Int) < (l.length : Int)) = false := decide_eq_false (by omega)
            have cb2 : ((l.length : Int) < (l.length : Int)) = False := eq_false (by omega)
            have hrun := HRUN.out
            rw [Nat.sub_self] at hrun
            obtain rfl := (Option.some.inj (show some want = some want0 from hrun)).symm
            clear hrun HRUN hlt HI HKI
            go_wp2_with (first
              | (go_at_call 11; have hN := wire_Put.calls k A0 c0 b A1 c1 l pp _ (Kd.C_below HMB.out HB.out) HC0.out (Kd.C_below HML.out HB.out) HC1.out HPP.out; (with_reducible refine hN.mono ?_); clear hN; rintro e w_ ⟨v_, rfl, ho, hb⟩; obtain ⟨A4, c4, rfl, hl_, hC_⟩ := Kd.R_reads ho; have n_ := Aside0.mk (below_step HB.out hb); clear HB; have HB := n_; clear n_; have n_ := Aside0.mk (Kd.C_below HWAS.out hb); clear HWAS; have HWAS := n_; clear n_; have n_ := Aside0.mk (Kd.C_below HWANT.out hb); clear HWANT; have HWANT := n_; clear n_; have HP := Aside0.mk hC_; have HPL := Aside0.mk hl_; clear ho hb hl_ hC_)
              | (have tk_ := TOK3.out; clear tk_ TOK3; go_at_call 9; have hN := pledgeref_Bytes.calls k A0 c0 b b _ (Kd.C_below HMB.out HB.out) HC0.out HBY.out; (try simp only [List.length_cons, List.length_nil, Nat.zero_add] at hN); (with_reducible refine hN.mono ?_); clear hN; rintro e w_ ⟨v_, rfl, ho, hb⟩; obtain ⟨A6, c6, rfl, hl_, hC_⟩ := Kd.R_reads ho; have n_ := Aside0.mk (below_step HB.out hb); clear HB; have HB := n_; clear n_; have n_ := Aside0.mk (Kd.C_below HWAS.out hb); clear HWAS; have HWAS := n_; clear n_; have n_ := Aside0.mk (Kd.C_below HWANT.out hb); clear HWANT; have HWANT := n_; clear n_; have n_ := Aside0.mk (Kd.C_below HP.out hb); clear HP; have HP := n_; clear n_; have HQ := Aside0.mk hC_; have HQL := Aside0.mk hl_; clear ho hb hl_ hC_))
            clear cb1 cb2
            go_loopg [10, 11] l.length (fun gq v10 v11 wr => ∃ (i : Nat) (q : List Int) (A6 : Option Addr) (c6 : Nat), v11 = .int .i64 i ∧ v10 = .slice A6 q.length c6 ∧ Aside0 (q.length ≤ c6) ∧ Aside0 (i ≤ l.length) ∧ Aside0 (l.length ≤ gq + i) ∧ Aside0 (oneL k l (l.length - i) i q = some q0) ∧ Aside0 (Below w.heap.size w wr) ∧ Aside0 ((Kd.int .u8).C wr A2 b.length b) ∧ Aside0 ((Kd.int .u8).C wr A3 want0.length want0) ∧ Aside0 ((Kd.int .u8).C wr A4 pp.length pp) ∧ Aside0 ((Kd.int .u8).C wr A6 q.length q))
            case atStart => exact ⟨0, b, A6, c6, rfl, rfl, HQL, ⟨by omega⟩, ⟨by omega⟩, ⟨by rw [Nat.sub_zero]; exact HRUN2.out⟩, HB, HWAS, HWANT, HP, HQ⟩
            case round =>
              clear HB HWAS HWANT HP HQ HQL HRUN2
              obtain ⟨i, q, A6, c6, rfl, rfl, HQL, HI, HKI, HRUN, HB, HWAS, HWANT, HP, HQ⟩ := hrel
              by_cases hlt : i < l.length
              · skip
                have cb1 : decide ((i : Int) < (l.length : Int)) = true := decide_eq_true (by omega)
                have cb2 : ((i : Int) < (l.length : Int)) = True := eq_true (by omega)
                have cb3 : (i < l.length) = True := eq_true hlt
                have HI1 := Aside0.mk (show i + 1 ≤ l.length by omega)
                have HW2 : Aside0 (wrap64 ((i : Int) + 1) = ((i + 1 : Nat) : Int)) := ⟨by have := HM50.out; rw [w64q _ (by omega) (by omega)]; omega⟩
                obtain ⟨ad, eA, hx⟩ := Kd.at_int HML.out (i : Int) (by omega) (by omega)
                subst eA
                rw [Int.toNat_natCast] at hx
                obtain ⟨d, hd⟩ : ∃ d, l.length - i = d + 1 := ⟨l.length - i - 1, by omega⟩
                have hrun := HRUN.out
                rw [hd] at hrun
                simp only [oneL] at hrun
                obtain ⟨v, hv, hrun⟩ := Option.bind_eq_some_iff.mp hrun
                have HV := Aside0.mk hv
                have HRUNB := Aside0.mk hrun
                have HD := Aside0.mk hd
                clear hrun hv hlt hd HRUN
                have hx2 := (HB.out.cell (World.block_lt_of_cell? w _ hx)).trans hx
                go_wp2_with (first
                  | ((with_reducible refine gate_dst (N := 62) rfl ?_); refine Kd.R_lit (Kd.int .i64) _ 2 ?hg (N := 62) ?hd (xs := ([rd l (i : Int)] : List Int)) (inner := [.int .i64 (rd l (i : Int))]) (ok := fun _ => True) (okp := fun _ => True) ?hr ?hp (fun _ hk => hk) trivial (Below.refl _ _) (Nat.le_refl _) (by simp) ?_; (case hd => rfl); (case hg => rfl); (case hr => first | (go_simp; done) | (go_simp; rfl)); (case hp => exact (Reps.one (show Kd.M (Kd.int .i64) _ _ _ (rd l (i : Int)) [.int .i64 (rd l (i : Int))] from rfl) (Reps.none _ _))); intro v_ w_ ho hb hg_ hat; obtain ⟨A7, c7, rfl, hl_, hC_⟩ := Kd.R_reads ho; have n_ := Aside0.mk (below_step HB.out hb); clear HB; have HB := n_; clear n_; have n_ := Aside0.mk (Kd.C_below HWAS.out hb); clear HWAS; have HWAS := n_; clear n_; have n_ := Aside0.mk (Kd.C_below HWANT.out hb); clear HWANT; have HWANT := n_; clear n_; have n_ := Aside0.mk (Kd.C_below HP.out hb); clear HP; have HP := n_; clear n_; have n_ := Aside0.mk (Kd.C_below HQ.out hb); clear HQ; have HQ := n_; clear n_; have HLT := Aside0.mk hC_; have HLTL := Aside0.mk hl_; clear ho hb hg_ hat hl_ hC_)
                  | (go_at_call 11; have hN := wire_Put.calls k A6 c6 q A7 c7 [rd l (i : Int)] v _ HQ.out HQL.out HLT.out HLTL.out HV.out; simp only [List.length_cons, List.length_nil, Nat.zero_add] at hN; (with_reducible refine hN.mono ?_); clear hN; rintro e w_ ⟨v_, rfl, ho, hb⟩; obtain ⟨A8, c8, rfl, hl_, hC_⟩ := Kd.R_reads ho; clear HLT HLTL; have n_ := Aside0.mk (below_step HB.out hb); clear HB; have HB := n_; clear n_; have n_ := Aside0.mk (Kd.C_below HWAS.out hb); clear HWAS; have HWAS := n_; clear n_; have n_ := Aside0.mk (Kd.C_below HWANT.out hb); clear HWANT; have HWANT := n_; clear n_; have n_ := Aside0.mk (Kd.C_below HP.out hb); clear HP; have HP := n_; clear n_; clear HQ HQL; have HQ := Aside0.mk hC_; have HQL := Aside0.mk hl_; clear ho hb hl_ hC_))
                clear hx hx2
                go_roundg (l.length - (i + 1))
                case measure => have := HKI.out; have := HI1.out; omega
                case rel => exact ⟨i + 1, v, _, _, by rw [HW2.out], rfl, HQL, ⟨HI1.out⟩, ⟨by have := HI1.out; omega⟩, ⟨by rw [show l.length - (i + 1) = d by have := HD.out; omega]; exact HRUNB.out⟩, HB, HWAS, HWANT, HP, HQ⟩
              · skip
                obtain rfl : l.length = i := by have := HI.out; omega
                have cb1 : decide ((l.length : Int) < (l.length : Int)) = false := decide_eq_false (by omega)
                have cb2 : ((l.length : Int) < (l.length : Int)) = False := eq_false (by omega)
                have hrun := HRUN.out
                rw [Nat.sub_self] at hrun
                obtain rfl := (Option.some.inj (show some q = some q0 from hrun)).symm
                clear hrun HRUN hlt HI HKI
                go_wp2_with (first
                  | (go_at_call 12; have hN := pledgeref_SameBytes.calls k A4 c4 pp A3 c3 want0 true _ HP.out HPL.out HWANT.out HWANTL.out HS1.out; (with_reducible refine hN.mono ?_); clear hN; rintro e w_ ⟨rfl, hd⟩; have hb := hd.below; have n_ := Aside0.mk (below_step HB.out hb); clear HB; have HB := n_; clear n_; have n_ := Aside0.mk (Kd.C_below HWAS.out hb); clear HWAS; have HWAS := n_; clear n_; have n_ := Aside0.mk (Kd.C_below HWANT.out hb); clear HWANT; have HWANT := n_; clear n_; have n_ := Aside0.mk (Kd.C_below HP.out hb); clear HP; have HP := n_; clear n_; have n_ := Aside0.mk (Kd.C_below HQ.out hb); clear HQ; have HQ := n_; clear n_; clear hb hd)
                  | (go_at_call 12; have hN := pledgeref_SameBytes.calls k A6 c6 q0 A3 c3 want0 true _ HQ.out HQL.out HWANT.out HWANTL.out HS2.out; (with_reducible refine hN.mono ?_); clear hN; rintro e w_ ⟨rfl, hd⟩; have hb := hd.below; have n_ := Aside0.mk (below_step HB.out hb); clear HB; have HB := n_; clear n_; have n_ := Aside0.mk (Kd.C_below HWAS.out hb); clear HWAS; have HWAS := n_; clear n_; have n_ := Aside0.mk (Kd.C_below HWANT.out hb); clear HWANT; have HWANT := n_; clear n_; have n_ := Aside0.mk (Kd.C_below HP.out hb); clear HP; have HP := n_; clear n_; have n_ := Aside0.mk (Kd.C_below HQ.out hb); clear HQ; have HQ := n_; clear n_; clear hb hd)
                  | (go_at_call 12; have hN := pledgeref_SameBytes.calls k A0 c0 b A2 c2 b true _ (Kd.C_below HMB.out HB.out) HC0.out HWAS.out HWASL.out HS3.out; (with_reducible refine hN.mono ?_); clear hN; rintro e w_ ⟨rfl, hd⟩; have hb := hd.below; have n_ := Aside0.mk (below_step HB.out hb); clear HB; have HB := n_; clear n_; have n_ := Aside0.mk (Kd.C_below HWAS.out hb); clear HWAS; have HWAS := n_; clear n_; have n_ := Aside0.mk (Kd.C_below HWANT.out hb); clear HWANT; have HWANT := n_; clear n_; have n_ := Aside0.mk (Kd.C_below HP.out hb); clear HP; have HP := n_; clear n_; have n_ := Aside0.mk (Kd.C_below HQ.out hb); clear HQ; have HQ := n_; clear n_; clear hb hd)
                  | (go_at_call 11; have hN := wire_Put.calls k none 0 [] A1 c1 l nb _ (Kd.C_nil _ _) (Nat.le_refl _) (Kd.C_below HML.out HB.out) HC1.out HNB.out; (try simp only [List.length_cons, List.length_nil, Nat.zero_add] at hN); (with_reducible refine hN.mono ?_); clear hN; rintro e w_ ⟨v_, rfl, ho, hb⟩; obtain ⟨A9, c9, rfl, hl_, hC_⟩ := Kd.R_reads ho; have n_ := Aside0.mk (below_step HB.out hb); clear HB; have HB := n_; clear n_; have HN9 := Aside0.mk hC_; have HN9L := Aside0.mk hl_; clear ho hb hl_ hC_)
                  | (go_at_call 13; have hN := NewReader.calls A9 c9 nb _ HN9.out HN9L.out (by have := HLEN.out; omega); (try simp only [List.length_append, List.length_set, List.length_cons, List.length_nil, Nat.zero_add] at hN); (with_reducible refine hN.mono ?_); clear hN; rintro e w_ ⟨g, rb, rfl, hg_, hrb_, hlt_, hr_, hb⟩; have HGE := Aside0.mk (Nat.le_trans (below_size HB.out) hg_); have n_ := Aside0.mk (below_step HB.out hb); clear HB; have HB := n_; clear n_; have n_ := Aside0.mk (Kd.C_below HN9.out hb); clear HN9; have HN9 := n_; clear n_; have HR := Aside0.mk hr_; clear hg_ hrb_ hlt_ hr_ hb))
                clear cb1 cb2
                go_loopg [13] l.length (fun gq v13 wr => ∃ (i : Nat) (px : Int), v13 = .int .i64 i ∧ Aside0 (i ≤ l.length) ∧ Aside0 (l.length ≤ gq + i) ∧ Aside0 (0 ≤ px ∧ px ≤ (nb.length : Int)) ∧ Aside0 (rdL nb l (l.length - i) i px = some (nb.length : Int)) ∧ Aside0 (Below w.heap.size w wr) ∧ Aside0 (Rd g rb wr nb px none))
                case atStart => exact ⟨0, 0, rfl, ⟨by omega⟩, ⟨by omega⟩, ⟨by omega⟩, ⟨by rw [Nat.sub_zero]; exact HRUN3.out⟩, HB, HR⟩
                case round =>
                  clear HB HR HRUN3
                  obtain ⟨i, px, rfl, HI, HKI, HAT, HRUN, HB, HR⟩ := hrel
                  have hatb := HAT.out
                  by_cases hlt : i < l.length
                  · skip
                    have cb1 : decide ((i : Int) < (l.length : Int)) = true := decide_eq_true (by omega)
                    have cb2 : ((i : Int) < (l.length : Int)) = True := eq_true (by omega)
                    have cb3 : (i < l.length) = True := eq_true hlt
                    have HI1 := Aside0.mk (show i + 1 ≤ l.length by omega)
                    have HW2 : Aside0 (wrap64 ((i : Int) + 1) = ((i + 1 : Nat) : Int)) := ⟨by have := HM50.out; rw [w64q _ (by omega) (by omega)]; omega⟩
                    obtain ⟨ad, eA, hx⟩ := Kd.at_int HML.out (i : Int) (by omega) (by omega)
                    subst eA
                    rw [Int.toNat_natCast] at hx
                    obtain ⟨d, hd⟩ : ∃ d, l.length - i = d + 1 := ⟨l.length - i - 1, by omega⟩
                    have hrun := HRUN.out
                    rw [hd] at hrun
                    simp only [rdL] at hrun
                    split at hrun
                    rotate_left
                    · exact absurd hrun (by simp)
                    next hcc =>
                    have HQ1 := Aside0.mk hcc.1
                    have HQ2 := Aside0.mk hcc.2.1
                    have HQ3 := Aside0.mk hcc.2.2
                    have HRUNB := Aside0.mk hrun
                    have HD := Aside0.mk hd
                    clear hrun hcc hlt hd HRUN
                    go_wp2
                    have hxd : wr.drew.cell? (ad.add i) = some (.int .i64 (rd l (i : Int))) := ((below_drew1 HB.out).cell (World.block_lt_of_cell? w _ hx)).trans hx
                    have n1 := Aside0.mk (below_drew1 HB.out)
                    have n2 := Aside0.mk (HR.out.below (Below.drew (Below.refl _ _)))
                    clear HB HR
                    have HB := n1
                    have HR := n2
                    clear n1 n2
                    refine start_ (n := 7) (S := fun w' => w'.cell? (ad.add i) = some (.int .i64 (rd l (i : Int)))) (ds := []) #[false, false, false, false, false, false, false] (by kernel_rfl) rfl rfl hxd (fun hHeld => ?_)
                    generalize wr.drew = w6 at HB HR hHeld ⊢
                    refine pure_ (i := 0) (N := some 91) (v := ?_) (a' := ?_) #[true, false, false, false, false, false, false] rfl rfl (by kernel_rfl) (fun _ _ _ h => h) (Or.inl ⟨by rfl, ?_⟩) ?_ ?_
                    rotate_left
                    · intro w'
                      go_simp
                      with_reducible rfl
                    rotate_left
                    · simp only [Act.put, List.setIfInBounds_toArray, List.set_cons_zero, List.set_cons_succ, i64_w, i32_w]
                      rfl
                    refine pure_ (i := 2) (N := some 93) (v := ?_) (a' := ?_) #[true, false, true, false, false, false, false] rfl rfl (by kernel_rfl) (fun _ _ _ h => h) (Or.inl ⟨by rfl, ?_⟩) ?_ ?_
                    rotate_left
                    · intro w'
                      go_simp
                      with_reducible rfl
                    rotate_left
                    · simp only [Act.put, List.setIfInBounds_toArray, List.set_cons_zero, List.set_cons_succ, i64_w, i32_w]
                      rfl
                    refine pure_ (i := 3) (N := some 94) (v := ?_) (a' := ?_) #[true, false, true, true, false, false, false] rfl rfl (by kernel_rfl) (fun _ _ _ h => h) (Or.inl ⟨by rfl, ?_⟩) ?_ ?_
                    rotate_left
                    · intro w'
                      go_simp
                      with_reducible rfl
                    rotate_left
                    · simp only [Act.put, List.setIfInBounds_toArray, List.set_cons_zero, List.set_cons_succ, i64_w, i32_w]
                      rfl
                    refine pure_ (i := 4) (N := some 95) (v := ?_) (a' := ?_) #[true, false, true, true, true, false, false] rfl rfl (by kernel_rfl) (fun _ _ _ h => h) (Or.inl ⟨by rfl, ?_⟩) ?_ ?_
                    rotate_left
                    · intro w'
                      go_simp
                      with_reducible rfl
                    rotate_left
                    · simp only [Act.put, List.setIfInBounds_toArray, List.set_cons_zero, List.set_cons_succ, i64_w, i32_w]
                      rfl
                    refine take_ (i := 5) (N := some 96) (v := ?_) (a' := ?_) #[true, false, true, true, true, true, false] rfl rfl (by kernel_rfl) (fun _ _ _ h => h) (Or.inl ⟨by rfl, ?_⟩) hHeld ?_ ?_
                    rotate_left
                    · intro w' s0
                      go_simp
                      with_reducible rfl
                    rotate_left
                    · simp only [Act.put, List.setIfInBounds_toArray, List.set_cons_zero, List.set_cons_succ, i64_w, i32_w]
                      rfl
                    refine one_ (i := 1) (N := some 92) #[true, true, true, true, true, true, false] rfl rfl (by kernel_rfl) (by decide) (fun K hK => ?_)
                    refine goes_ Tryd.func14 (by kernel_rfl) rfl #[.pointer (some ⟨g, 0, none⟩), .int .i64 (-9223372036854775808), .int .i64 9223372036854775807] (by rfl) rfl rfl (by (try simp only [List.map_toArray, List.map_cons, List.map_nil]); first | done | rfl) ?_
                    have hN := Reader_Num.calls (-9223372036854775808) 9223372036854775807 (HG.out.below HB.out) HR.out (by omega) (by omega) HLEN.out
                    (with_reducible refine hN.mono ?_)
                    clear hN
                    rintro e w_ ⟨rfl, hr_, hf⟩
                    have n_ := Aside0.mk (hf.below HB.out HGE.out (below_size HB.out))
                    clear HB HR
                    have HB := n_
                    have HR := Aside0.mk hr_
                    clear hr_ hf n_
                    refine ⟨_, rfl, ?_⟩
                    rw [HQ1.out]
                    refine hK.out _ _ ((HB.out.cell (World.block_lt_of_cell? w _ hx)).trans hx) (fun hHeld => ?_)
                    clear hK K
                    refine norm_ (a' := ?_) ?_ ?_
                    rotate_left
                    · show Act.put _ (some 92) _ = _
                      simp only [Act.put, List.setIfInBounds_toArray, List.set_cons_zero, List.set_cons_succ, i64_w, i32_w]
                      rfl
                    refine pure_ (i := 6) (N := some 97) (v := ?_) (a' := ?_) #[true, true, true, true, true, true, true] rfl rfl (by kernel_rfl) (fun _ _ _ h => h) (Or.inl ⟨by rfl, ?_⟩) ?_ ?_
                    rotate_left
                    · intro w'
                      go_simp
                      with_reducible rfl
                    rotate_left
                    · simp only [Act.put, List.setIfInBounds_toArray, List.set_cons_zero, List.set_cons_succ, i64_w, i32_w]
                      rfl
                    refine done_ (by kernel_rfl) ?_
                    go_wp2
                    rw [HQ2.out] at HR
                    clear hx hHeld
                    go_roundg (l.length - (i + 1))
                    case measure => have := HKI.out; have := HI1.out; omega
                    case rel => exact ⟨i + 1, _, by rw [HW2.out], ⟨HI1.out⟩, ⟨by have := HI1.out; omega⟩, HQ3, ⟨by rw [show l.length - (i + 1) = d by have := HD.out; omega]; exact HRUNB.out⟩, HB, HR⟩
                  · skip
                    obtain rfl : l.length = i := by have := HI.out; omega
                    have cb1 : decide ((l.length : Int) < (l.length : Int)) = false := decide_eq_false (by omega)
                    have cb2 : ((l.length : Int) < (l.length : Int)) = False := eq_false (by omega)
                    have hrun := HRUN.out
                    rw [Nat.sub_self] at hrun
                    obtain rfl := (Option.some.inj (show some px = some (nb.length : Int) from hrun))
                    have hll := HLEN.out
                    have hW5 : wrap64 ((nb.length : Int) - (nb.length : Int)) = 0 := by rw [w64q _ (by omega) (by omega)]; omega
                    have hW6 : wrap64 0 = 0 := by unfold wrap64; omega
                    clear hrun HRUN hlt HI HKI
                    go_wp2_with (first
                      | (go_at_call 15; have hN := Reader_Left.calls HR.out; (with_reducible refine hN.mono ?_); clear hN; rintro e w_ ⟨rfl, hd⟩; have hb := hd.below; have n_ := Aside0.mk (below_step HB.out hb); clear HB; have HB := n_; clear n_; have n_ := Aside0.mk (HR.out.below hb); clear HR; have HR := n_; clear n_; clear hb hd)
                      | (go_at_call 16; refine (Reader_Err.calls HR.out).mono ?_; rintro e w_ ⟨rfl, ev, rfl, rfl⟩))
                    go_ret
                    exact ⟨rfl, HB.out⟩

/-- The pure statement of pledgelaw1_WirePuts: numbers and lists alone. -/
def pledgelaw1_WirePuts.Pure : Prop := ∀ (l0 : List Int) (l1 : List Int), l0.length * 1 ≤ 140737488351232 → (l0.length ≤ maxLen ∧ ∀ x ∈ l0, Rng .u8 x) → l1.length * 8 ≤ 140737488351232 → (l1.length ≤ maxLen ∧ ∀ x ∈ l1, Rng .i64 x) → ∃ k, pledgelaw1_WirePuts.f k l0 l1 = some true

end Go.Proofs.YtccipdelkmmngaaDoor.EWirePuts
