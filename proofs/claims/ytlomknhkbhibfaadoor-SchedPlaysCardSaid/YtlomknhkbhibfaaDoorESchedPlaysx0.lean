/- The functions that the law comes to, as plain functions, and for each a proof that the Go code comes to just these answers. Written by a program of this claim. Conditions: each theorem bears its own. -/
import Derived.Test.YtlomknhkbhibfaaDoorProg
import Derived.Below
import Derived.Deep.Draws
import Derived.Deep.AppendLies
import Derived.Maps.AppendAt
import Derived.OwnWalk
import Derived.Laws.BytesArg
import Derived.Laws.MakeOwn
import Derived.Laws.OwnMore
import Derived.Deep.OwnRows
import Derived.Tactics
import Derived.Lib.ConvBytes
import Derived.Laws.Slices
import Derived.WalkKit
import Derived.KernelRfl
import Derived.RowKit3
import Derived.Deep.LoopGhost
import Derived.Deep.QuietTactic
import Derived.BigQuiet
import Derived.WideLaws
import Derived.Deep.DeepCutAuto
import Derived.Deep.CutBlock
import Derived.Deep.RegionHeld3
import Derived.Laws.Rows
import Derived.Lib.AppendStr
import Derived.ArgAppend
import Derived.Laws.IdiomCopy
import Derived.OrdersHeld
import Derived.Laws.BitsLemmas
import Derived.RowKit
import Derived.LaidEql
import Derived.Laws.Externs
import Derived.Shelf.Abstract
import Derived.Test.YtlomknhkbhibfaaDoorOpen
import Derived.Laws.CopyOwn
import Derived.Lib.Overlaps
import Derived.Shelf.RegionOpenPlain
import Derived.Lib.AppendZerosOnto
import Derived.Test.YtlomknhkbhibfaaDoorWWords
import Derived.Test.YtlomknhkbhibfaaDoorWLast
import Derived.Test.YtlomknhkbhibfaaDoorWTab
import Derived.Test.YtlomknhkbhibfaaDoorWFour
import Derived.Test.YtlomknhkbhibfaaDoorWQPut
import Derived.Test.YtlomknhkbhibfaaDoorWApart
import Derived.Test.YtlomknhkbhibfaaDoorWArr
import Derived.Test.YtlomknhkbhibfaaDoorWZeros
import Derived.Test.YtlomknhkbhibfaaDoorWFoot
import Derived.Test.YtlomknhkbhibfaaDoorWKept
import Derived.Test.YtlomknhkbhibfaaDoorWShare
import Derived.Test.YtlomknhkbhibfaaDoorWN
import Derived.Test.YtlomknhkbhibfaaDoorWFootNe
import Derived.Test.YtlomknhkbhibfaaDoorWAt
import Derived.Test.YtlomknhkbhibfaaDoorWEqStruct
import Derived.Test.YtlomknhkbhibfaaDoorWRepsOne
import Derived.Test.YtlomknhkbhibfaaDoorWInv
import Derived.Test.YtlomknhkbhibfaaDoorWInvWords
import Derived.Test.YtlomknhkbhibfaaDoorWGuard
import Derived.Test.YtlomknhkbhibfaaDoorWNEv
import Derived.Test.YtlomknhkbhibfaaDoorWMore
namespace Go.Proofs.YtlomknhkbhibfaaDoor.ESchedPlays
open Go.RowKit Go.Proofs.YtlomknhkbhibfaaDoorW.PrintWords Go.Proofs.YtlomknhkbhibfaaDoorW.PrintLast Go.Proofs.YtlomknhkbhibfaaDoorW.PrintMore Go.Proofs.YtlomknhkbhibfaaDoorW.PrintOpen
attribute [local go_sem] max2_int min2_int max_two min_two max_three min_three max_four min_four   -- for this text's walks alone
set_option linter.unusedVariables false
set_option linter.unusedSimpArgs false



/-- Where a sentinel error of package api lies (101 and on: their order there). -/
def adr [Inhabited (Int → Addr)] (c : Int) : Addr := (default : Int → Addr) c
def errW [Inhabited (Int → Addr)] : Option Int → Value
  | none => .nilIface
  | some c => .iface 74 (.pointer (some (adr c)))
theorem errW_none [Inhabited (Int → Addr)] : errW none = .nilIface := rfl
theorem errW_some [Inhabited (Int → Addr)] (c : Int) : errW (some c) = .iface 74 (.pointer (some (adr c))) := rfl
/-- The sentinels that this law comes to, and their variables' blocks. -/
def globTab : List (Int × Nat) := [(101, 2), (102, 3), (103, 1), (104, 4), (105, 0), (106, 5), (107, 6), (108, 7), (109, 8), (110, 9), (111, 10), (112, 11), (113, 12), (114, 13), (115, 14), (116, 15), (117, 16), (118, 17), (119, 18), (120, 19), (121, 20)]
/-- In this world each variable holds its sentinel, no two the same. -/
def GlobOK [Inhabited (Int → Addr)] (w : World) : Prop :=
  (∀ p ∈ globTab, w.cell? ⟨p.2, 0, none⟩ = some (.iface 74 (.pointer (some (adr p.1)))) ∧ ∃ cs t, w.heap[(adr p.1).block]? = some (.cells cs t (0, 0))) ∧
  ∀ p ∈ globTab, ∀ q ∈ globTab, p.1 ≠ q.1 → adr p.1 ≠ adr q.1
theorem GlobOK.below [Inhabited (Int → Addr)] {w w' : World} (h : GlobOK w) (hb : Below w.heap.size w w') : GlobOK w' := by
  refine ⟨fun p hp => ?_, h.2⟩
  obtain ⟨h1, cs, t, h2⟩ := h.1 p hp
  refine ⟨(hb.cell (World.block_lt_of_cell? w _ h1)).trans h1, cs, t, blk_below h2 hb⟩
theorem GlobOK.at [Inhabited (Int → Addr)] {w : World} (h : GlobOK w) (c : Int) (g : Nat) (hm : (c, g) ∈ globTab) : w.cell? ⟨g, 0, none⟩ = some (.iface 74 (.pointer (some (adr c)))) := (h.1 _ hm).1

theorem info3 : (Tryd.prog.info? 3).map (fun i => (i.zero, i.size, i.bytes)) = some (some (.int .i64 0), 1, 8) := by kernel_rfl
theorem info31 : (Tryd.prog.info? 31).map (fun i => (i.zero, i.size, i.bytes)) = some (some (.agg #[(.int .i64 0), (.int .i64 0), (.bool false)]), 3, 24) := by kernel_rfl
-- the values' own types
/-! #### struct type 31 -/
structure S31 where
  f0 : Int
  f1 : Int
  f2 : Bool
def z31 : S31 := ⟨(0 : Int), (0 : Int), false⟩
def k31 : Kd S31 := Kd.iso (Kd.pair (Kd.int .i64) (Kd.pair (Kd.int .i64) Kd.bool)) (fun x : S31 => (x.f0, x.f1, x.f2))
theorem k31_open {w : World} {x : S31} {cs : List Value} (h : k31.K w x cs) : cs = [.int .i64 x.f0, .int .i64 x.f1, .bool x.f2] := by
  obtain ⟨_, _, rfl, rfl, ⟨_, _, rfl, rfl, rfl⟩⟩ := h
  exact rfl
theorem k31_openM {w : World} {base : Nat} {ok : Nat → Prop} {x : S31} {cs : List Value} (h : k31.M w base ok x cs) : cs = [.int .i64 x.f0, .int .i64 x.f1, .bool x.f2] := by
  obtain ⟨_, _, rfl, rfl, ⟨_, _, rfl, rfl, rfl⟩⟩ := h
  exact rfl
theorem k31_mk (w : World) (x : S31)  : k31.K w x [.int .i64 x.f0, .int .i64 x.f1, .bool x.f2] := ⟨[.int .i64 x.f0], [.int .i64 x.f1, .bool x.f2], rfl, rfl, ⟨[.int .i64 x.f1], [.bool x.f2], rfl, rfl, rfl⟩⟩
theorem k31_mkM (w : World) (base : Nat) (ok : Nat → Prop) (x : S31)  : k31.M w base ok x [.int .i64 x.f0, .int .i64 x.f1, .bool x.f2] := ⟨[.int .i64 x.f0], [.int .i64 x.f1, .bool x.f2], rfl, rfl, ⟨[.int .i64 x.f1], [.bool x.f2], rfl, rfl, rfl⟩⟩
def rd_T31 (xs : List S31) (i : Int) : S31 := xs.getD i.toNat z31
theorem at_T31 {w : World} {A : Option Addr} {n : Nat} {xs : List S31} (h : Kd.C k31 w A n xs) (i : Int) (h0 : 0 ≤ i) (h1 : i < n) : ∃ ad , A = some ad ∧ w.cell? (ad.add (i.toNat * 3)) = some (.int .i64 (rd_T31 xs i).f0) ∧ w.cell? ⟨(ad.add (i.toNat * 3)).block, (ad.add (i.toNat * 3)).off + 1, none⟩ = some (.int .i64 (rd_T31 xs i).f1) ∧ w.cell? ⟨(ad.add (i.toNat * 3)).block, (ad.add (i.toNat * 3)).off + 2, none⟩ = some (.bool (rd_T31 xs i).f2) := by
  obtain ⟨ad, c, e, _, hK, hc0⟩ := Kd.C_get h z31 i h0 h1
  have hc : ∀ j u, c[j]? = some u → w.cell? (ad.add (i.toNat * 3 + j)) = some u := hc0
  obtain rfl := k31_open hK
  exact ⟨ad, e, hc 0 _ rfl, by rw [← add_field _ _ 1 (by omega)]; exact hc 1 _ rfl, by rw [← add_field _ _ 2 (by omega)]; exact hc 2 _ rfl⟩

def rd_L3 (xs : List (List S31)) (i : Int) : (List S31) := xs.getD i.toNat ([] : List S31)
theorem at_L3 {w : World} {A : Option Addr} {n : Nat} {xs : List (List S31)} (h : Kd.C (Kd.slice 31 k31) w A n xs) (i : Int) (h0 : 0 ≤ i) (h1 : i < n) : ∃ ad A0 c0, A = some ad ∧ w.cell? (ad.add i.toNat) = some (.slice A0 (rd_L3 xs i).length c0) ∧ (rd_L3 xs i).length ≤ c0 ∧ k31.C w A0 (rd_L3 xs i).length (rd_L3 xs i) := by
  obtain ⟨ad, c, e, _, hK, hc0⟩ := Kd.C_get h ([] : List S31) i h0 h1
  have hc : ∀ j u, c[j]? = some u → w.cell? (ad.add (i.toNat * 1 + j)) = some u := hc0
  obtain ⟨A0, c0, rfl, l0, g0⟩ := hK
  exact ⟨ad, A0, c0, e, by have hq := hc 0 _ rfl; rwa [Nat.mul_one, Nat.add_zero] at hq, l0, g0⟩

end Go.Proofs.YtlomknhkbhibfaaDoor.ESchedPlays
