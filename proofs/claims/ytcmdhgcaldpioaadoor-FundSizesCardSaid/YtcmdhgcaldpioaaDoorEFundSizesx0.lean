/- The functions that the law comes to, as plain functions, and for each a proof that the Go code comes to just these answers. Written by a program of this claim. Conditions: each theorem bears its own. -/
import Derived.Test.YtcmdhgcaldpioaaDoorProg
import Derived.Below
import Derived.Deep.Draws
import Derived.Deep.AppendLies
import Derived.Maps.AppendAt
import Derived.OwnWalk
import Derived.Laws.BytesArg
import Derived.Laws.MakeOwn
import Derived.Laws.OwnMore
import Derived.Deep.OwnRows
import Derived.Tactics
import Derived.Lib.ConvBytes
import Derived.Laws.Slices
import Derived.WalkKit
import Derived.KernelRfl
import Derived.RowKit3
import Derived.Deep.LoopGhost
import Derived.Deep.QuietTactic
import Derived.BigQuiet
import Derived.WideLaws
import Derived.Deep.DeepCutAuto
import Derived.Deep.CutBlock
import Derived.Deep.RegionHeld3
import Derived.Laws.Rows
import Derived.Lib.AppendStr
import Derived.ArgAppend
import Derived.Laws.IdiomCopy
import Derived.OrdersHeld
import Derived.Laws.BitsLemmas
import Derived.RowKit
import Derived.LaidEql
import Derived.Laws.Externs
import Derived.Shelf.Abstract
import Derived.Test.YtcmdhgcaldpioaaDoorOpen
import Derived.Sort.WalkA
import Derived.Sort.Lot0
import Derived.BigRegion
import Derived.Maps.OwnSet
import Derived.DeepKeys4
import Derived.Carry
import Derived.Test.YtcmdhgcaldpioaaDoorWWords
import Derived.Test.YtcmdhgcaldpioaaDoorWLast
import Derived.Test.YtcmdhgcaldpioaaDoorWTab
import Derived.Test.YtcmdhgcaldpioaaDoorWFour
import Derived.Test.YtcmdhgcaldpioaaDoorWQPut
import Derived.Test.YtcmdhgcaldpioaaDoorWApart
import Derived.Test.YtcmdhgcaldpioaaDoorWArr
import Derived.Test.YtcmdhgcaldpioaaDoorWZeros
import Derived.Test.YtcmdhgcaldpioaaDoorWFoot
import Derived.Test.YtcmdhgcaldpioaaDoorWKept
import Derived.Test.YtcmdhgcaldpioaaDoorWShare
import Derived.Test.YtcmdhgcaldpioaaDoorWN
import Derived.Test.YtcmdhgcaldpioaaDoorWFootNe
import Derived.Test.YtcmdhgcaldpioaaDoorWAt
import Derived.Test.YtcmdhgcaldpioaaDoorWEqStruct
import Derived.Test.YtcmdhgcaldpioaaDoorWRepsOne
import Derived.Test.YtcmdhgcaldpioaaDoorWInv
import Derived.Test.YtcmdhgcaldpioaaDoorWInvWords
import Derived.Test.YtcmdhgcaldpioaaDoorWGuard
import Derived.Test.YtcmdhgcaldpioaaDoorWNEv
import Derived.Test.YtcmdhgcaldpioaaDoorWMore
namespace Go.Proofs.YtcmdhgcaldpioaaDoor.EFundSizes
open Go.RowKit Go.Proofs.YtcmdhgcaldpioaaDoorW.PrintWords Go.Proofs.YtcmdhgcaldpioaaDoorW.PrintLast Go.Proofs.YtcmdhgcaldpioaaDoorW.PrintMore Go.Proofs.YtcmdhgcaldpioaaDoorW.PrintOpen
attribute [local go_sem] max2_int min2_int max_two min_two max_three min_three max_four min_four   -- for this text's walks alone
set_option linter.unusedVariables false
set_option linter.unusedSimpArgs false



/-- Where a sentinel error of package api lies (101 and on: their order there). -/
def adr [Inhabited (Int → Addr)] (c : Int) : Addr := (default : Int → Addr) c
def errW [Inhabited (Int → Addr)] : Option Int → Value
  | none => .nilIface
  | some c => .iface 131 (.pointer (some (adr c)))
theorem errW_none [Inhabited (Int → Addr)] : errW none = .nilIface := rfl
theorem errW_some [Inhabited (Int → Addr)] (c : Int) : errW (some c) = .iface 131 (.pointer (some (adr c))) := rfl
/-- The sentinels that this law comes to, and their variables' blocks. -/
def globTab : List (Int × Nat) := [(103, 0), (104, 2), (105, 1), (106, 3)]
/-- In this world each variable holds its sentinel, no two the same. -/
def GlobOK [Inhabited (Int → Addr)] (w : World) : Prop :=
  (∀ p ∈ globTab, w.cell? ⟨p.2, 0, none⟩ = some (.iface 131 (.pointer (some (adr p.1)))) ∧ ∃ cs t, w.heap[(adr p.1).block]? = some (.cells cs t (0, 0))) ∧
  ∀ p ∈ globTab, ∀ q ∈ globTab, p.1 ≠ q.1 → adr p.1 ≠ adr q.1
theorem GlobOK.below [Inhabited (Int → Addr)] {w w' : World} (h : GlobOK w) (hb : Below w.heap.size w w') : GlobOK w' := by
  refine ⟨fun p hp => ?_, h.2⟩
  obtain ⟨h1, cs, t, h2⟩ := h.1 p hp
  refine ⟨(hb.cell (World.block_lt_of_cell? w _ h1)).trans h1, cs, t, blk_below h2 hb⟩
theorem GlobOK.at [Inhabited (Int → Addr)] {w : World} (h : GlobOK w) (c : Int) (g : Nat) (hm : (c, g) ∈ globTab) : w.cell? ⟨g, 0, none⟩ = some (.iface 131 (.pointer (some (adr c)))) := (h.1 _ hm).1

theorem info3 : (Tryd.prog.info? 3).map (fun i => (i.zero, i.size, i.bytes)) = some (some (.int .i64 0), 1, 8) := by kernel_rfl
-- the values' own types
/-! #### struct type 47 -/
structure S47 where
  f0 : Int
  f1 : Int
def z47 : S47 := ⟨(0 : Int), (0 : Int)⟩
def k47 : Kd S47 := Kd.iso (Kd.pair (Kd.int .i64) (Kd.int .i64)) (fun x : S47 => (x.f0, x.f1))
theorem k47_open {w : World} {x : S47} {cs : List Value} (h : k47.K w x cs) : cs = [.int .i64 x.f0, .int .i64 x.f1] := by
  obtain ⟨_, _, rfl, rfl, rfl⟩ := h
  exact rfl
theorem k47_openM {w : World} {base : Nat} {ok : Nat → Prop} {x : S47} {cs : List Value} (h : k47.M w base ok x cs) : cs = [.int .i64 x.f0, .int .i64 x.f1] := by
  obtain ⟨_, _, rfl, rfl, rfl⟩ := h
  exact rfl
theorem k47_mk (w : World) (x : S47)  : k47.K w x [.int .i64 x.f0, .int .i64 x.f1] := ⟨[.int .i64 x.f0], [.int .i64 x.f1], rfl, rfl, rfl⟩
theorem k47_mkM (w : World) (base : Nat) (ok : Nat → Prop) (x : S47)  : k47.M w base ok x [.int .i64 x.f0, .int .i64 x.f1] := ⟨[.int .i64 x.f0], [.int .i64 x.f1], rfl, rfl, rfl⟩
def rd_T47 (xs : List S47) (i : Int) : S47 := xs.getD i.toNat z47
theorem at_T47 {w : World} {A : Option Addr} {n : Nat} {xs : List S47} (h : Kd.C k47 w A n xs) (i : Int) (h0 : 0 ≤ i) (h1 : i < n) : ∃ ad , A = some ad ∧ w.cell? (ad.add (i.toNat * 2)) = some (.int .i64 (rd_T47 xs i).f0) ∧ w.cell? ⟨(ad.add (i.toNat * 2)).block, (ad.add (i.toNat * 2)).off + 1, none⟩ = some (.int .i64 (rd_T47 xs i).f1) := by
  obtain ⟨ad, c, e, _, hK, hc0⟩ := Kd.C_get h z47 i h0 h1
  have hc : ∀ j u, c[j]? = some u → w.cell? (ad.add (i.toNat * 2 + j)) = some u := hc0
  obtain rfl := k47_open hK
  exact ⟨ad, e, hc 0 _ rfl, by rw [← add_field _ _ 1 (by omega)]; exact hc 1 _ rfl⟩

/-! #### struct type 49 -/
structure S49 where
  f0 : S47
  f1 : Int
def z49 : S49 := ⟨z47, (0 : Int)⟩
def k49 : Kd S49 := Kd.iso (Kd.pair k47 (Kd.int .i64)) (fun x : S49 => (x.f0, x.f1))
theorem k49_open {w : World} {x : S49} {cs : List Value} (h : k49.K w x cs) : cs = [.int .i64 x.f0.f0, .int .i64 x.f0.f1, .int .i64 x.f1] := by
  obtain ⟨_, _, rfl, s0, rfl⟩ := h
  obtain rfl := k47_open s0
  exact rfl
theorem k49_openM {w : World} {base : Nat} {ok : Nat → Prop} {x : S49} {cs : List Value} (h : k49.M w base ok x cs) : cs = [.int .i64 x.f0.f0, .int .i64 x.f0.f1, .int .i64 x.f1] := by
  obtain ⟨_, _, rfl, s0, rfl⟩ := h
  obtain rfl := k47_openM s0
  exact rfl
theorem k49_mk (w : World) (x : S49)  : k49.K w x [.int .i64 x.f0.f0, .int .i64 x.f0.f1, .int .i64 x.f1] := ⟨[.int .i64 x.f0.f0, .int .i64 x.f0.f1], [.int .i64 x.f1], rfl, (k47_mk w x.f0 ), rfl⟩
theorem k49_mkM (w : World) (base : Nat) (ok : Nat → Prop) (x : S49)  : k49.M w base ok x [.int .i64 x.f0.f0, .int .i64 x.f0.f1, .int .i64 x.f1] := ⟨[.int .i64 x.f0.f0, .int .i64 x.f0.f1], [.int .i64 x.f1], rfl, (k47_mkM w base ok x.f0 ), rfl⟩
def rd_T49 (xs : List S49) (i : Int) : S49 := xs.getD i.toNat z49
theorem at_T49 {w : World} {A : Option Addr} {n : Nat} {xs : List S49} (h : Kd.C k49 w A n xs) (i : Int) (h0 : 0 ≤ i) (h1 : i < n) : ∃ ad , A = some ad ∧ w.cell? (ad.add (i.toNat * 3)) = some (.int .i64 (rd_T49 xs i).f0.f0) ∧ w.cell? ⟨(ad.add (i.toNat * 3)).block, (ad.add (i.toNat * 3)).off + 1, none⟩ = some (.int .i64 (rd_T49 xs i).f0.f1) ∧ w.cell? ⟨(ad.add (i.toNat * 3)).block, (ad.add (i.toNat * 3)).off + 2, none⟩ = some (.int .i64 (rd_T49 xs i).f1) := by
  obtain ⟨ad, c, e, _, hK, hc0⟩ := Kd.C_get h z49 i h0 h1
  have hc : ∀ j u, c[j]? = some u → w.cell? (ad.add (i.toNat * 3 + j)) = some u := hc0
  obtain rfl := k49_open hK
  exact ⟨ad, e, hc 0 _ rfl, by rw [← add_field _ _ 1 (by omega)]; exact hc 1 _ rfl, by rw [← add_field _ _ 2 (by omega)]; exact hc 2 _ rfl⟩

def rd_L3 (xs : List (List S49)) (i : Int) : (List S49) := xs.getD i.toNat ([] : List S49)
theorem at_L3 {w : World} {A : Option Addr} {n : Nat} {xs : List (List S49)} (h : Kd.C (Kd.slice 49 k49) w A n xs) (i : Int) (h0 : 0 ≤ i) (h1 : i < n) : ∃ ad A0 c0, A = some ad ∧ w.cell? (ad.add i.toNat) = some (.slice A0 (rd_L3 xs i).length c0) ∧ (rd_L3 xs i).length ≤ c0 ∧ k49.C w A0 (rd_L3 xs i).length (rd_L3 xs i) := by
  obtain ⟨ad, c, e, _, hK, hc0⟩ := Kd.C_get h ([] : List S49) i h0 h1
  have hc : ∀ j u, c[j]? = some u → w.cell? (ad.add (i.toNat * 1 + j)) = some u := hc0
  obtain ⟨A0, c0, rfl, l0, g0⟩ := hK
  exact ⟨ad, A0, c0, e, by have hq := hc 0 _ rfl; rwa [Nat.mul_one, Nat.add_zero] at hq, l0, g0⟩

def rd_L4 (xs : List (List Int)) (i : Int) : (List Int) := xs.getD i.toNat ([] : List Int)
theorem at_L4 {w : World} {A : Option Addr} {n : Nat} {xs : List (List Int)} (h : Kd.C (Kd.slice 2 (Kd.int .i64)) w A n xs) (i : Int) (h0 : 0 ≤ i) (h1 : i < n) : ∃ ad A0 c0, A = some ad ∧ w.cell? (ad.add i.toNat) = some (.slice A0 (rd_L4 xs i).length c0) ∧ (rd_L4 xs i).length ≤ c0 ∧ (Kd.int .i64).C w A0 (rd_L4 xs i).length (rd_L4 xs i) := by
  obtain ⟨ad, c, e, _, hK, hc0⟩ := Kd.C_get h ([] : List Int) i h0 h1
  have hc : ∀ j u, c[j]? = some u → w.cell? (ad.add (i.toNat * 1 + j)) = some u := hc0
  obtain ⟨A0, c0, rfl, l0, g0⟩ := hK
  exact ⟨ad, A0, c0, e, by have hq := hc 0 _ rfl; rwa [Nat.mul_one, Nat.add_zero] at hq, l0, g0⟩

end Go.Proofs.YtcmdhgcaldpioaaDoor.EFundSizes
