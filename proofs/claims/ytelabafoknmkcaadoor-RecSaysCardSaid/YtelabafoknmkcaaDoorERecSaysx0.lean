/- The functions that the law comes to, as plain functions, and for each a proof that the Go code comes to just these answers. Written by a program of this claim. Conditions: each theorem bears its own. -/
import Derived.Test.YtelabafoknmkcaaDoorProg
import Derived.Below
import Derived.Deep.Draws
import Derived.Deep.AppendLies
import Derived.Maps.AppendAt
import Derived.OwnWalk
import Derived.Laws.BytesArg
import Derived.Laws.MakeOwn
import Derived.Laws.OwnMore
import Derived.Deep.OwnRows
import Derived.Tactics
import Derived.Lib.ConvBytes
import Derived.Laws.Slices
import Derived.WalkKit
import Derived.KernelRfl
import Derived.RowKit3
import Derived.Deep.LoopGhost
import Derived.Deep.QuietTactic
import Derived.BigQuiet
import Derived.WideLaws
import Derived.Deep.DeepCutAuto
import Derived.Deep.CutBlock
import Derived.Deep.RegionHeld3
import Derived.Laws.Rows
import Derived.Lib.AppendStr
import Derived.ArgAppend
import Derived.Laws.IdiomCopy
import Derived.OrdersHeld
import Derived.Laws.BitsLemmas
import Derived.RowKit
import Derived.LaidEql
import Derived.Laws.Externs
import Derived.Shelf.Abstract
import Derived.Test.YtelabafoknmkcaaDoorOpen
import Derived.Test.YtelabafoknmkcaaDoorWWords
import Derived.Test.YtelabafoknmkcaaDoorWLast
import Derived.Test.YtelabafoknmkcaaDoorWTab
import Derived.Test.YtelabafoknmkcaaDoorWFour
import Derived.Test.YtelabafoknmkcaaDoorWQPut
import Derived.Test.YtelabafoknmkcaaDoorWApart
import Derived.Test.YtelabafoknmkcaaDoorWArr
import Derived.Test.YtelabafoknmkcaaDoorWZeros
import Derived.Test.YtelabafoknmkcaaDoorWFoot
import Derived.Test.YtelabafoknmkcaaDoorWKept
import Derived.Test.YtelabafoknmkcaaDoorWShare
import Derived.Test.YtelabafoknmkcaaDoorWN
import Derived.Test.YtelabafoknmkcaaDoorWFootNe
import Derived.Test.YtelabafoknmkcaaDoorWAt
import Derived.Test.YtelabafoknmkcaaDoorWEqStruct
import Derived.Test.YtelabafoknmkcaaDoorWRepsOne
import Derived.Test.YtelabafoknmkcaaDoorWInv
import Derived.Test.YtelabafoknmkcaaDoorWInvWords
import Derived.Test.YtelabafoknmkcaaDoorWGuard
import Derived.Test.YtelabafoknmkcaaDoorWNEv
import Derived.Test.YtelabafoknmkcaaDoorWMore
namespace Go.Proofs.YtelabafoknmkcaaDoor.ERecSays
open Go.RowKit Go.Proofs.YtelabafoknmkcaaDoorW.PrintWords Go.Proofs.YtelabafoknmkcaaDoorW.PrintLast Go.Proofs.YtelabafoknmkcaaDoorW.PrintMore Go.Proofs.YtelabafoknmkcaaDoorW.PrintOpen
attribute [local go_sem] max2_int min2_int max_two min_two max_three min_three max_four min_four   -- for this text's walks alone
set_option linter.unusedVariables false
set_option linter.unusedSimpArgs false



/-- Where a sentinel error of package api lies (101 and on: their order there). -/
def adr [Inhabited (Int → Addr)] (c : Int) : Addr := (default : Int → Addr) c
def errW [Inhabited (Int → Addr)] : Option Int → Value
  | none => .nilIface
  | some c => .iface 88 (.pointer (some (adr c)))
theorem errW_none [Inhabited (Int → Addr)] : errW none = .nilIface := rfl
theorem errW_some [Inhabited (Int → Addr)] (c : Int) : errW (some c) = .iface 88 (.pointer (some (adr c))) := rfl
/-- The sentinels that this law comes to, and their variables' blocks. -/
def globTab : List (Int × Nat) := [(101, 1), (102, 2), (103, 0), (104, 4), (105, 3), (106, 5), (107, 6), (108, 7), (109, 8), (110, 9), (111, 10), (112, 11), (113, 12), (114, 13), (115, 14), (116, 15), (117, 16), (118, 17), (119, 18), (120, 19), (121, 20)]
/-- In this world each variable holds its sentinel, no two the same. -/
def GlobOK [Inhabited (Int → Addr)] (w : World) : Prop :=
  (∀ p ∈ globTab, w.cell? ⟨p.2, 0, none⟩ = some (.iface 88 (.pointer (some (adr p.1)))) ∧ ∃ cs t, w.heap[(adr p.1).block]? = some (.cells cs t (0, 0))) ∧
  ∀ p ∈ globTab, ∀ q ∈ globTab, p.1 ≠ q.1 → adr p.1 ≠ adr q.1
theorem GlobOK.below [Inhabited (Int → Addr)] {w w' : World} (h : GlobOK w) (hb : Below w.heap.size w w') : GlobOK w' := by
  refine ⟨fun p hp => ?_, h.2⟩
  obtain ⟨h1, cs, t, h2⟩ := h.1 p hp
  refine ⟨(hb.cell (World.block_lt_of_cell? w _ h1)).trans h1, cs, t, blk_below h2 hb⟩
theorem GlobOK.at [Inhabited (Int → Addr)] {w : World} (h : GlobOK w) (c : Int) (g : Nat) (hm : (c, g) ∈ globTab) : w.cell? ⟨g, 0, none⟩ = some (.iface 88 (.pointer (some (adr c)))) := (h.1 _ hm).1

theorem info5 : (Tryd.prog.info? 5).map (fun i => (i.zero, i.size, i.bytes)) = some (some (.int .u8 0), 1, 1) := by kernel_rfl
-- the values' own types
/-! #### struct type 29 -/
structure S29 where
  f0 : Int
  f1 : Int
  f2 : Int
def z29 : S29 := ⟨(0 : Int), (0 : Int), (0 : Int)⟩
def k29 : Kd S29 := Kd.iso (Kd.pair (Kd.int .i64) (Kd.pair (Kd.int .i64) (Kd.int .i64))) (fun x : S29 => (x.f0, x.f1, x.f2))
theorem k29_open {w : World} {x : S29} {cs : List Value} (h : k29.K w x cs) : cs = [.int .i64 x.f0, .int .i64 x.f1, .int .i64 x.f2] := by
  obtain ⟨_, _, rfl, rfl, ⟨_, _, rfl, rfl, rfl⟩⟩ := h
  exact rfl
theorem k29_openM {w : World} {base : Nat} {ok : Nat → Prop} {x : S29} {cs : List Value} (h : k29.M w base ok x cs) : cs = [.int .i64 x.f0, .int .i64 x.f1, .int .i64 x.f2] := by
  obtain ⟨_, _, rfl, rfl, ⟨_, _, rfl, rfl, rfl⟩⟩ := h
  exact rfl
theorem k29_mk (w : World) (x : S29)  : k29.K w x [.int .i64 x.f0, .int .i64 x.f1, .int .i64 x.f2] := ⟨[.int .i64 x.f0], [.int .i64 x.f1, .int .i64 x.f2], rfl, rfl, ⟨[.int .i64 x.f1], [.int .i64 x.f2], rfl, rfl, rfl⟩⟩
theorem k29_mkM (w : World) (base : Nat) (ok : Nat → Prop) (x : S29)  : k29.M w base ok x [.int .i64 x.f0, .int .i64 x.f1, .int .i64 x.f2] := ⟨[.int .i64 x.f0], [.int .i64 x.f1, .int .i64 x.f2], rfl, rfl, ⟨[.int .i64 x.f1], [.int .i64 x.f2], rfl, rfl, rfl⟩⟩
def rd_T29 (xs : List S29) (i : Int) : S29 := xs.getD i.toNat z29
theorem at_T29 {w : World} {A : Option Addr} {n : Nat} {xs : List S29} (h : Kd.C k29 w A n xs) (i : Int) (h0 : 0 ≤ i) (h1 : i < n) : ∃ ad , A = some ad ∧ w.cell? (ad.add (i.toNat * 3)) = some (.int .i64 (rd_T29 xs i).f0) ∧ w.cell? ⟨(ad.add (i.toNat * 3)).block, (ad.add (i.toNat * 3)).off + 1, none⟩ = some (.int .i64 (rd_T29 xs i).f1) ∧ w.cell? ⟨(ad.add (i.toNat * 3)).block, (ad.add (i.toNat * 3)).off + 2, none⟩ = some (.int .i64 (rd_T29 xs i).f2) := by
  obtain ⟨ad, c, e, _, hK, hc0⟩ := Kd.C_get h z29 i h0 h1
  have hc : ∀ j u, c[j]? = some u → w.cell? (ad.add (i.toNat * 3 + j)) = some u := hc0
  obtain rfl := k29_open hK
  exact ⟨ad, e, hc 0 _ rfl, by rw [← add_field _ _ 1 (by omega)]; exact hc 1 _ rfl, by rw [← add_field _ _ 2 (by omega)]; exact hc 2 _ rfl⟩

def rd_L3 (xs : List (List Int)) (i : Int) : (List Int) := xs.getD i.toNat ([] : List Int)
theorem at_L3 {w : World} {A : Option Addr} {n : Nat} {xs : List (List Int)} (h : Kd.C (Kd.slice 5 (Kd.int .u8)) w A n xs) (i : Int) (h0 : 0 ≤ i) (h1 : i < n) : ∃ ad A0 c0, A = some ad ∧ w.cell? (ad.add i.toNat) = some (.slice A0 (rd_L3 xs i).length c0) ∧ (rd_L3 xs i).length ≤ c0 ∧ (Kd.int .u8).C w A0 (rd_L3 xs i).length (rd_L3 xs i) := by
  obtain ⟨ad, c, e, _, hK, hc0⟩ := Kd.C_get h ([] : List Int) i h0 h1
  have hc : ∀ j u, c[j]? = some u → w.cell? (ad.add (i.toNat * 1 + j)) = some u := hc0
  obtain ⟨A0, c0, rfl, l0, g0⟩ := hK
  exact ⟨ad, A0, c0, e, by have hq := hc 0 _ rfl; rwa [Nat.mul_one, Nat.add_zero] at hq, l0, g0⟩

def rd_L4 (xs : List (List Int)) (i : Int) : (List Int) := xs.getD i.toNat ([] : List Int)
theorem at_L4 {w : World} {A : Option Addr} {n : Nat} {xs : List (List Int)} (h : Kd.C (Kd.slice 2 (Kd.int .i64)) w A n xs) (i : Int) (h0 : 0 ≤ i) (h1 : i < n) : ∃ ad A0 c0, A = some ad ∧ w.cell? (ad.add i.toNat) = some (.slice A0 (rd_L4 xs i).length c0) ∧ (rd_L4 xs i).length ≤ c0 ∧ (Kd.int .i64).C w A0 (rd_L4 xs i).length (rd_L4 xs i) := by
  obtain ⟨ad, c, e, _, hK, hc0⟩ := Kd.C_get h ([] : List Int) i h0 h1
  have hc : ∀ j u, c[j]? = some u → w.cell? (ad.add (i.toNat * 1 + j)) = some u := hc0
  obtain ⟨A0, c0, rfl, l0, g0⟩ := hK
  exact ⟨ad, A0, c0, e, by have hq := hc 0 _ rfl; rwa [Nat.mul_one, Nat.add_zero] at hq, l0, g0⟩

end Go.Proofs.YtelabafoknmkcaaDoor.ERecSays
