/- Arguments opened to lists and numbers in the print's kinds, whatever their type; the sentinels that a row's listed variables hold. General lemmas, for the rows of this seat. -/
import Derived.Test.YtlomknhkbhibfaaDoorWMore
import Derived.Deep.Slices
import Derived.ChangeArms
import Derived.ChangeOld
import Derived.SizedLaws
import Derived.LaidLaws
import Derived.MakeChecks
import Derived.LaidHandle
namespace Go.Proofs.YtlomknhkbhibfaaDoorW.PrintOpen
open Go.ChangeShapes Go.WideShapes Go.RowKit Go.Proofs.YtlomknhkbhibfaaDoorW.PrintWords Go.Proofs.YtlomknhkbhibfaaDoorW.PrintLast

/-- The numbers of a kind. -/
def Rng : IntKind → Int → Prop
  | .i64, n => -9223372036854775808 ≤ n ∧ n ≤ 9223372036854775807
  | .u64, n => 0 ≤ n ∧ n ≤ 18446744073709551615
  | .u8, n => 0 ≤ n ∧ n ≤ 255
  | k, n => k.min ≤ n ∧ n ≤ k.max
theorem rng_of_wf {k : IntKind} {n : Int} (h : (Lit.int k n).wf = true) : Rng k n := by
  simp only [Lit.wf, Bool.and_eq_true, decide_eq_true_eq] at h
  cases k <;> simp [Rng, IntKind.min, IntKind.max, IntKind.signed, IntKind.bits] at h ⊢ <;> exact h

/-- Whatever reads as data at this type is a value of the kind. -/
def Opens {α : Type} (P : Program) (d : Kd α) (ok : α → Prop) (t : TypeId) : Prop :=
  P.cellsOf t = d.sz ∧ ∀ {H : Type} {enc : TypeId × Value → H} {w : World} {spare : Nat → Bool} {held : Bool} {fuel : Nat} {cs : List Value} {y : DataW H × List MemPlace},
    DataW.trod enc P w 0 spare held fuel t cs = some y → ∃ x, d.K w x cs ∧ ok x

theorem Opens.int {P : Program} {t : TypeId} {k : IntKind} (ht : P.underlying t = some (.int k)) (hc : P.cellsOf t = 1) : Opens P (Kd.int k) (Rng k) t :=
  ⟨hc, fun h => by
    obtain ⟨n, rfl, _, hw⟩ := DataW.trod_int ht h
    exact ⟨n, rfl, rng_of_wf hw⟩⟩
theorem Opens.bool {P : Program} {t : TypeId} (ht : P.underlying t = some .bool) (hc : P.cellsOf t = 1) : Opens P Kd.bool (fun _ => True) t :=
  ⟨hc, fun h => by
    obtain ⟨n, rfl, _⟩ := DataW.trod_bool ht h
    exact ⟨n, rfl, trivial⟩⟩
theorem Opens.string {P : Program} {t : TypeId} (ht : P.underlying t = some .string) (hc : P.cellsOf t = 1) : Opens P Kd.string (fun s => s.size ≤ maxLen) t :=
  ⟨hc, fun h => by
    obtain ⟨n, rfl, _, hz⟩ := DataW.trod_string ht h
    exact ⟨n, rfl, hz⟩⟩

theorem list_of_lt {α : Type} {p : Nat → α → Prop} : ∀ n : Nat, (∀ i, i < n → ∃ x, p i x) → ∃ l : List α, l.length = n ∧ ∀ i x, l[i]? = some x → p i x
  | 0, _ => ⟨[], rfl, fun i x h => by simp at h⟩
  | n + 1, h => by
    obtain ⟨l, hl, hp⟩ := list_of_lt n (fun i hi => h i (by omega))
    obtain ⟨x, hx⟩ := h n (by omega)
    refine ⟨l ++ [x], by simp [hl], fun i y hy => ?_⟩
    rcases Nat.lt_or_ge i l.length with hi | hi
    · rw [List.getElem?_append_left hi] at hy; exact hp i y hy
    · rw [List.getElem?_append_right hi] at hy
      have : i - l.length = 0 := by
        rcases Nat.eq_zero_or_pos (i - l.length) with h0 | h0
        · exact h0
        · rw [List.getElem?_eq_none (by simp; omega)] at hy; simp at hy
      rw [this] at hy
      simp at hy
      subst hy
      rw [show i = n by omega]; exact hx

theorem Opens.slice {α : Type} {P : Program} {d : Kd α} {ok : α → Prop} {t e : TypeId} (ht : P.underlying t = some (.slice e)) (hc : P.cellsOf t = 1) (he : Opens P d ok e) :
    Opens P (Kd.slice e d) (fun l => l.length ≤ maxLen ∧ ∀ x ∈ l, ok x) t :=
  ⟨hc, fun {H enc w spare held fuel cs y} h => by
    rcases Go.Deep.open_slice ht h with ⟨rfl, _⟩ | ⟨a, len, cap, m, n, D, Pl, rfl, _, hl, hm, hmm, _, hx⟩
    · exact ⟨[], ⟨none, 0, rfl, Nat.le_refl _, Kd.C_nil _ _⟩, Nat.zero_le _, fun x hx => by simp at hx⟩
    · have hlm : len ≤ m := by rw [hmm]; split <;> omega
      obtain ⟨l, hll, hlx⟩ := list_of_lt (α := α) (p := fun i x => ok x ∧ ∃ c, c.length = d.sz ∧ d.K w x c ∧ ∀ j u, c[j]? = some u → w.cell? (a.add (i * d.sz + j)) = some u) len (fun i hi => by
        obtain ⟨cs', h1, h2⟩ := hx i (by omega)
        obtain ⟨x, hK, hok⟩ := he.2 h2
        obtain ⟨_, hlen, hcell⟩ := World.cells?_some h1
        rw [he.1] at hlen hcell
        refine ⟨x, hok, cs', hlen, hK, fun j u hu => ?_⟩
        have hj : j < d.sz := by
          rw [← hlen]
          exact (List.getElem?_eq_some_iff.1 hu).1
        rw [← Go.Deep.add_add, hcell j hj, hu])
      subst hll
      refine ⟨l, ⟨some a, cap, rfl, hl, rfl, ?_, fun _ => ⟨a, rfl, fun j p hp => ?_⟩⟩, Nat.le_trans hl hm, fun x hx => ?_⟩
      · exact Nat.le_trans hl (Nat.le_trans hm (by decide))
      · obtain ⟨_, c, hcl, hK, hcell⟩ := hlx j p hp
        exact ⟨c, hcl, hK, hcell⟩
      · obtain ⟨i, hi⟩ := List.getElem?_of_mem hx
        exact (hlx i x hi).1⟩

/-- The fields of a struct, from one on. -/
structure OpensFs {α : Type} (P : Program) (d : Kd α) (ok : α → Prop) (off : Nat) (fs : List Field) : Prop where
  go : ∀ {H : Type} {enc : TypeId × Value → H} {w : World} {spare : Nat → Bool} {held : Bool} {cs : List Value}, cs.length = off + d.sz →
    (∀ f ∈ fs, ∃ (n : Nat) (y : DataW H × List MemPlace), DataW.trod enc P w 0 spare held n f.type ((cs.drop f.offset).take (P.cellsOf f.type)) = some y) → ∃ x, d.K w x (cs.drop off) ∧ ok x
theorem OpensFs.one {α : Type} {P : Program} {d : Kd α} {ok : α → Prop} {off : Nat} {f : Field} (h : Opens P d ok f.type) (ho : f.offset = off) : OpensFs P d ok off [f] := by
  refine ⟨?_⟩
  intro H enc w spare held cs hl hf
  obtain ⟨n, y, hy⟩ := hf f (by simp)
  obtain ⟨x, hK, hok⟩ := h.2 hy
  rw [ho, h.1, List.take_of_length_le (by rw [List.length_drop, hl]; omega)] at hK
  exact ⟨x, hK, hok⟩
theorem OpensFs.cons {α β : Type} {P : Program} {a : Kd α} {b : Kd β} {oka : α → Prop} {okb : β → Prop} {off : Nat} {f : Field} {fs : List Field} (h : Opens P a oka f.type) (ho : f.offset = off) (hr : OpensFs P b okb (off + a.sz) fs) :
    OpensFs P (Kd.pair a b) (fun x => oka x.1 ∧ okb x.2) off (f :: fs) := by
  refine ⟨?_⟩
  intro H enc w spare held cs hl hf
  have hl' : cs.length = off + a.sz + b.sz := by rw [hl]; show off + (a.sz + b.sz) = _; omega
  obtain ⟨n, y, hy⟩ := hf f (by simp)
  obtain ⟨x, hK, hok⟩ := h.2 hy
  obtain ⟨x2, hK2, hok2⟩ := hr.go hl' (fun g hg => hf g (List.mem_cons_of_mem _ hg))
  rw [ho, h.1] at hK
  refine ⟨(x, x2), ⟨_, _, ?_, hK, hK2⟩, hok, hok2⟩
  rw [← List.drop_drop, List.take_append_drop]
theorem Opens.struct {α : Type} {P : Program} {d : Kd α} {ok : α → Prop} {t : TypeId} {fs : List Field} (hu : P.underlying t = some (.struct fs.toArray)) (hc : P.cellsOf t = d.sz) (h : OpensFs P d ok 0 fs) : Opens P d ok t :=
  ⟨hc, fun {H enc w spare held fuel cs y} hy => by
    obtain ⟨xs, n, _, _, hlen, hxl, hf⟩ := DataW.trod_struct hu hy
    have h0 := h.go (enc := enc) (w := w) (spare := spare) (held := held) (cs := cs) (by rw [hlen, hc]; omega) (fun f hm => by
      obtain ⟨i, hi⟩ := List.getElem?_of_mem hm
      have hil : i < fs.length := (List.getElem?_eq_some_iff.1 hi).1
      have hx := hf i f (by simpa using hi)
      have hxi : xs[i]? = some (xs[i]'(by rw [hxl]; simpa using hil)) := List.getElem?_eq_getElem _
      exact ⟨n, _, hx.trans hxi⟩)
    simpa using h0⟩
theorem Opens.iso {α β : Type} {P : Program} {d : Kd α} {ok : α → Prop} {t : TypeId} (h : Opens P d ok t) (f : β → α) (g : α → β) (hg : ∀ a, f (g a) = a) : Opens P (Kd.iso d f) (fun b => ok (f b)) t :=
  ⟨h.1, fun hy => by
    obtain ⟨x, hK, hok⟩ := h.2 hy
    refine ⟨g x, ?_, ?_⟩
    · show d.K _ (f (g x)) _
      rw [hg]; exact hK
    · show ok (f (g x))
      rw [hg]; exact hok⟩

/-- A slice that came in is no longer than its weight allows. -/
theorem sized_any {H : Type} {enc : TypeId × Value → H} {P : Program} {W : World} {base : Nat} {spare : Nat → Bool} {held : Bool} {t e : TypeId} {a : Option Addr} {len cap : Nat} {d : DataW H} {ps : List MemPlace} {ts : List TypeId} {ds : List (DataW H)} {j : Nat}
    (hsz : (DataW.weightsEach P ts ds).all (· ≤ reachBytes) = true) (ht : ts[j]? = some t) (hd : ds[j]? = some d) (hu : P.underlying t = some (.slice e)) {B : Nat} (hB : P.bytesOf e = B)
    (h : DataW.Trod enc P W base spare held t (.slice a len cap) d ps) : len * B ≤ 140737488351232 := by
  obtain ⟨fuel, hf⟩ := h
  rcases Go.Deep.open_slice hu hf with ⟨hcs, _⟩ | ⟨x, l, c, m, n, D, Pl, hcs, _, hl, _, hmm, hx, _⟩
  · simp [Value.cells] at hcs
    obtain ⟨rfl, rfl, rfl⟩ := hcs
    simp
  · simp [Value.cells] at hcs
    obtain ⟨rfl, rfl, rfl⟩ := hcs
    obtain ⟨hx, _⟩ := Prod.mk.inj hx
    subst hx
    have z := sized_slice hsz ht hd hu
    rw [hB] at z
    refine Nat.le_trans (Nat.mul_le_mul_right _ ?_) z
    simp

/-- What a variable holds that was laid by errors.New. -/
def Sent (P : Program) (W : World) (tp : TypeId) (n : String) (a : Addr) : Prop := W.var? P n = some #[.iface tp (.pointer (some a))] ∧ ∃ cs t, W.heap[a.block]? = some (.cells cs t (0, 0))
theorem sents_go {P : Program} {W : World} {nm : String} {ti tp te ts : TypeId} {ms : Array (String × TypeId)} {f : Field}
    (hi : P.underlying ti = some (.interface ms)) (hrow : ∀ u, P.typeName? 3 u = some nm → u = tp)
    (hp : P.underlying tp = some (.pointer te)) (he : P.underlying te = some (.struct #[f])) (hft : f.type = ts) (hfo : f.offset = 0) (hs : P.underlying ts = some .string) (hc : P.cellsOf te = 1) (hcs : P.cellsOf ts = 1) (qs : List MemPlace)
    (hr : ∀ b off, MemPlace.cell b off ∈ qs → (∃ c t, W.heap[b]? = some (.cells c t (0, 0))) ∧ ∀ u v, W.cell? ⟨b, off, none⟩ = some (.iface u v) → Value.okWide P W .any 0 u v) :
    ∀ (l : List (String × DataW Unit)) (ps : List MemPlace), (∀ x ∈ l, (∃ text, x.2 = .iface nm (.ptr (.agg [.lit (.string text)]))) ∧ ∃ g, P.globalNamed x.1 = some g ∧ (P.globals[g]?).map (·.type) = some ti) →
      DataW.LaidVars P W l ps → ps.Nodup → (∀ x ∈ ps, x ∈ qs) →
      (∀ x ∈ l, ∃ a, Sent P W tp x.1 a ∧ MemPlace.cell a.block a.off ∈ ps) ∧ l.Pairwise (fun x y => ∀ a b, Sent P W tp x.1 a → Sent P W tp y.1 b → a ≠ b)
  | [], _, _, _, _, _ => ⟨fun x hx => by simp at hx, List.Pairwise.nil⟩
  | (n, d) :: r, ps, hl, h, hnd, hsub => by
    obtain ⟨g, t, cs, fuel, p, q, hg, ht, hv, hd, hrest, rfl⟩ := h
    obtain ⟨⟨text, hdt⟩, g', hg', ht'⟩ := hl (n, d) (by simp)
    simp only at hdt hg'
    subst hdt
    obtain rfl := Option.some.inj (hg.symm.trans hg')
    obtain rfl := Option.some.inj (ht.symm.trans ht')
    obtain ⟨cs⟩ := cs
    have ok : ∀ u v, cs = [.iface u v] → Value.okWide P W .any 0 u v := fun u v e => by
      subst e
      exact (hr g 0 (hsub _ (by simp [MemPlace.row]))).2 u v (by simpa using World.var?_cell hg hv 0)
    obtain ⟨a, s, rfl, hca, hsa, hza, rfl⟩ := errorString_of_trod hi hrow hp he hft hfo hs hc hcs hd ok
    have hain : MemPlace.cell a.block a.off ∈ MemPlace.row a 1 := by simp [MemPlace.row]
    obtain ⟨hnd1, hnd2, hnd3⟩ := List.nodup_append.1 hnd
    obtain ⟨ih1, ih2⟩ := sents_go hi hrow hp he hft hfo hs hc hcs qs hr r q (fun x hx => hl x (by simp [hx])) hrest hnd2 (fun x hx => hsub x (List.mem_append_right _ hx))
    have hA : Sent P W tp n a := ⟨hv, (hr a.block a.off (hsub _ (List.mem_append_left _ (List.mem_append_right _ hain)))).1⟩
    refine ⟨fun x hx => ?_, List.Pairwise.cons (fun y hy a' b ha hb => ?_) ih2⟩
    · rcases List.mem_cons.1 hx with rfl | hx
      · exact ⟨a, hA, List.mem_append_left _ (List.mem_append_right _ hain)⟩
      · obtain ⟨b, hb, hb2⟩ := ih1 x hx
        exact ⟨b, hb, List.mem_append_right _ hb2⟩
    · obtain ⟨b', hb', hb2⟩ := ih1 y hy
      have e1 : a' = a := by have := Option.some.inj (ha.1.symm.trans hv); simpa using this
      have e2 : b' = b := by have := Option.some.inj (hb'.1.symm.trans hb.1); simpa using this
      subst e1 e2
      rintro rfl
      exact hnd3 _ (List.mem_append_right _ hain) _ hb2 rfl

open Classical in
/-- The variables of a row that lists sentinels alone: one address for each, no two the same. -/
theorem sents_of_laid {P : Program} {W : World} {nm : String} {ti tp te ts : TypeId} {ms : Array (String × TypeId)} {f : Field} {l : List (String × DataW Unit)}
    (h : laidMetH P l W) (hplain : (l.all fun x => x.2.handleName?.isNone) = true)
    (hi : P.underlying ti = some (.interface ms)) (hrow : ∀ u, P.typeName? 3 u = some nm → u = tp)
    (hp : P.underlying tp = some (.pointer te)) (he : P.underlying te = some (.struct #[f])) (hft : f.type = ts) (hfo : f.offset = 0) (hs : P.underlying ts = some .string) (hc : P.cellsOf te = 1) (hcs : P.cellsOf ts = 1)
    (hl : ∀ x ∈ l, (∃ text, x.2 = .iface nm (.ptr (.agg [.lit (.string text)]))) ∧ ∃ g, P.globalNamed x.1 = some g ∧ (P.globals[g]?).map (·.type) = some ti) :
    ∃ sa : String → Addr, (∀ x ∈ l, Sent P W tp x.1 (sa x.1)) ∧ l.Pairwise (fun x y => sa x.1 ≠ sa y.1) := by
  rw [MakeChecks.laidMetH_plain _ _ _ hplain] at h
  obtain ⟨ps, hv, hnd, hr⟩ := h
  obtain ⟨h1, h2⟩ := sents_go hi hrow hp he hft hfo hs hc hcs ps hr l ps hl hv hnd (fun _ h => h)
  have hsa : ∀ x ∈ l, Sent P W tp x.1 (if h : ∃ a, Sent P W tp x.1 a then h.choose else ⟨0, 0, none⟩) := fun x hx => by
    obtain ⟨a, ha, _⟩ := h1 x hx
    have hex : ∃ a, Sent P W tp x.1 a := ⟨a, ha⟩
    rw [dif_pos hex]
    exact hex.choose_spec
  refine ⟨fun n => if h : ∃ a, Sent P W tp n a then h.choose else ⟨0, 0, none⟩, hsa, ?_⟩
  refine List.Pairwise.imp_of_mem (fun hx hy hxy => hxy _ _ (hsa _ hx) (hsa _ hy)) h2

/-- The name by which a sentinel's number goes. -/
def nameOf (tab : List ((Int × Nat) × String)) (c : Int) : String := ((tab.find? fun t => t.1.1 == c).map (·.2)).getD ""
theorem pairwise_all {α : Type} {R : α → α → Prop} (hs : ∀ x y, R x y → R y x) : ∀ {l : List α}, l.Pairwise R → ∀ x ∈ l, ∀ y ∈ l, x ≠ y → R x y
  | [], _, x, hx, _, _, _ => by simp at hx
  | a :: l, h, x, hx, y, hy, hne => by
    obtain ⟨h1, h2⟩ := List.pairwise_cons.1 h
    rcases List.mem_cons.1 hx with rfl | hx1 <;> rcases List.mem_cons.1 hy with rfl | hy1
    · exact absurd rfl hne
    · exact h1 y hy1
    · exact hs _ _ (h1 x hx1)
    · exact pairwise_all hs h2 x hx1 y hy1 hne
theorem nodup_of {sa : String → Addr} : ∀ {tab : List ((Int × Nat) × String)}, (tab.map (·.2)).Pairwise (fun x y => sa x ≠ sa y) → ∀ {t u : (Int × Nat) × String}, t ∈ tab → u ∈ tab → t.2 = u.2 → t = u
  | [], _, t, u, ht, _, _ => by simp at ht
  | a :: l, h, t, u, ht, hu, e => by
    obtain ⟨h1, h2⟩ := List.pairwise_cons.1 h
    rcases List.mem_cons.1 ht with rfl | ht1 <;> rcases List.mem_cons.1 hu with rfl | hu1
    · rfl
    · exact absurd (congrArg sa e) (h1 _ (List.mem_map_of_mem hu1))
    · exact absurd (congrArg sa e.symm) (h1 _ (List.mem_map_of_mem ht1))
    · exact nodup_of h2 ht1 hu1 e
theorem globs_of {P : Program} {W : World} {tp : TypeId} {tab : List ((Int × Nat) × String)} {l : List (String × DataW Unit)} {sa : String → Addr}
    (h1 : ∀ x ∈ l, Sent P W tp x.1 (sa x.1)) (h2 : l.Pairwise (fun x y => sa x.1 ≠ sa y.1)) (hn : l.map (·.1) = tab.map (·.2))
    (hc : (tab.all fun t => nameOf tab t.1.1 == t.2 && P.globalNamed t.2 == some t.1.2) = true) :
    (∀ p ∈ tab.map (·.1), W.cell? ⟨p.2, 0, none⟩ = some (.iface tp (.pointer (some (sa (nameOf tab p.1))))) ∧ ∃ cs t, W.heap[(sa (nameOf tab p.1)).block]? = some (.cells cs t (0, 0))) ∧
    ∀ p ∈ tab.map (·.1), ∀ q ∈ tab.map (·.1), p.1 ≠ q.1 → sa (nameOf tab p.1) ≠ sa (nameOf tab q.1) := by
  have hc' : ∀ t ∈ tab, nameOf tab t.1.1 = t.2 ∧ P.globalNamed t.2 = some t.1.2 := fun t ht => by
    have := List.all_eq_true.1 hc t ht
    simpa using this
  have hS : ∀ t ∈ tab, Sent P W tp t.2 (sa t.2) := fun t ht => by
    have hm : t.2 ∈ l.map (·.1) := by rw [hn]; exact List.mem_map_of_mem ht
    obtain ⟨x, hx, e⟩ := List.mem_map.1 hm
    rw [← e]
    exact h1 x hx
  have h2' : (l.map (·.1)).Pairwise (fun x y => sa x ≠ sa y) := List.pairwise_map.2 h2
  rw [hn] at h2'
  refine ⟨fun p hp => ?_, fun p hp q hq hne => ?_⟩
  · obtain ⟨t, ht, rfl⟩ := List.mem_map.1 hp
    obtain ⟨e1, e2⟩ := hc' t ht
    rw [e1]
    obtain ⟨hv, hb⟩ := hS t ht
    exact ⟨by simpa using World.var?_cell e2 hv 0, hb⟩
  · obtain ⟨t, ht, rfl⟩ := List.mem_map.1 hp
    obtain ⟨u, hu, rfl⟩ := List.mem_map.1 hq
    obtain ⟨e1, _⟩ := hc' t ht
    obtain ⟨e2, _⟩ := hc' u hu
    rw [e1, e2]
    refine pairwise_all (R := fun x y => sa x ≠ sa y) (fun _ _ h => h.symm) h2' _ (List.mem_map_of_mem ht) _ (List.mem_map_of_mem hu) (fun e => hne ?_)
    rw [nodup_of h2' ht hu e]
/-- make([]T, 0, m): a row of the call's own, with nothing in it. -/
theorem R_make0 {α : Type} {P : Program} {ops : Array Oper} {rest : List Oper} {o : Oper} {a : Act} {Q : Exit → Act → World → Prop} (d : Kd α) {w0 W : World} (base e : Nat) (hgd : o.guard = none) {N : Tmp} (_hd : o.dst = some N) (t : TypeId) (x y : Operand) (ho : o.op = .makeSlice t x y) (n : Int) (hx : a.eval x = .int .i64 0) (hy : a.eval y = .int .i64 n)
    (ht : P.underlying t = some (.slice e)) (z : Value) (bytes : Nat) (hinfo : (P.info? e).map (fun i => (i.zero, i.size, i.bytes)) = some (some z, d.sz, bytes)) (hb0 : 0 < bytes)
    {ok : Nat → Prop} (hfresh : ok W.heap.size) (h0 : 0 ≤ n) (hl : n.toNat * bytes ≤ 281474976710656) (HB : Below base w0 W) (hbase : base ≤ W.heap.size)
    (h : ∀ v1 w1, d.R e w1 base ok v1 [] → Below base w0 w1 → W.grownBy w1 none → (∃ b, v1.ownBlock = some b ∧ W.heap.size ≤ b) → wpList P ops Q rest (a.put o.dst v1) w1) : wpList P ops Q (o :: rest) a W := by
  obtain ⟨m, rfl⟩ := Int.eq_ofNat_of_zero_le h0
  simp only [Int.toNat_natCast] at hl
  obtain ⟨i0, hi, hzz⟩ := Option.map_eq_some_iff.1 hinfo
  simp only [Prod.mk.injEq] at hzz
  obtain ⟨hz0, hz1, hz2⟩ := hzz
  have hm : m ≤ 281474976710656 := Nat.le_trans (Nat.le_mul_of_pos_right _ hb0) hl
  have hr := run_make (P := P) W t e i0 z ht hi hz0 .i64 .i64 0 (m : Int) (by omega) (by omega)
    (by
      have h3 : ((i0.bytes * m : Nat) : Int) ≤ 281474976710656 := by rw [hz2, Nat.mul_comm]; omega
      rwa [Int.natCast_mul] at h3) (by omega)
  simp only [Int.toNat_natCast, Int.toNat_zero] at hr
  rw [hz1] at hr
  have hrun : (execOp a.eval o).run P W = .ok (.value (.slice (some ⟨W.heap.size, 0, none⟩) 0 m)) (W.alloc (.cells (madeCells z.cells (m * d.sz)) e)) := by simp [execOp, ho, hx, hy, hr]
  refine Kd.event_run hgd hrun (h _ _ ⟨fun k hk => ?_, [], ⟨by simp, .inr ⟨W.heap.size, m, madeCells z.cells (m * d.sz), rfl, hbase, heap_alloc_new W _, by simp, by simp only [maxLen]; omega, by simp [size_madeCells], by simp⟩⟩, Reps.none _ _⟩ (HB.alloc hbase _) (World.grownBy_alloc W _ none) ⟨W.heap.size, by simp [Value.ownBlock], Nat.le_refl _⟩)
  have : W.heap.size = k := by simpa [Value.ownBlock] using hk
  subst this
  exact hfresh
end Go.Proofs.YtlomknhkbhibfaaDoorW.PrintOpen
