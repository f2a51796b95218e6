/-
  The classes of package cond: four words, a bit a byte. What put, has, other do with them.
-/
import Derived.Test.YtpckcapilhfpcaaBuf
import Derived.Deep.QuietTactic
import Derived.BigQuiet
import Derived.RegionTactic
import Derived.BigRegion
namespace Go.Proofs.Ytpckcapilhfpcaa
open Go.RowKit

/-- the sum of the powers of two at which g says yes, below n -/
def wsum (g : Nat → Bool) : Nat → Nat
  | 0 => 0
  | n + 1 => wsum g n + if g n then 2 ^ n else 0
def clsW (f : UInt8 → Bool) (k : Nat) : Nat := wsum (fun i => f (UInt8.ofNat (64 * k + i))) 64
def clsV (f : UInt8 → Bool) : Value := .agg #[.int .u64 (clsW f 0), .int .u64 (clsW f 1), .int .u64 (clsW f 2), .int .u64 (clsW f 3)]

theorem wsum_lt (g : Nat → Bool) : ∀ n, wsum g n < 2 ^ n
  | 0 => by simp [wsum]
  | n + 1 => by
    have := wsum_lt g n
    simp only [wsum, Nat.pow_succ]
    split <;> omega
theorem wsum_bit (g : Nat → Bool) : ∀ n i, (wsum g n).testBit i = (decide (i < n) && g i)
  | 0, i => by simp [wsum]
  | n + 1, i => by
    have hl := wsum_lt g n
    have ih := wsum_bit g n i
    simp only [wsum]
    by_cases h : g n = true
    · rw [if_pos h, Nat.add_comm]
      by_cases e : i = n
      · subst e
        rw [Nat.testBit_two_pow_add_eq, Nat.testBit_lt_two_pow hl]
        simp [h]
      · rcases Nat.lt_or_ge i n with hi | hi
        · rw [Nat.testBit_two_pow_add_gt hi, ih]
          simp [hi, Nat.lt_succ_of_lt hi]
        · have hi2 : n < i := by omega
          rw [Nat.testBit_lt_two_pow]
          · simp; omega
          · calc 2 ^ n + wsum g n < 2 ^ n + 2 ^ n := by omega
              _ = 2 ^ (n + 1) := by rw [Nat.pow_succ]; omega
              _ ≤ 2 ^ i := Nat.pow_le_pow_right (by decide) hi2
    · rw [if_neg h, Nat.add_zero, ih]
      by_cases e : i = n
      · subst e
        simp at h
        simp [h]
      · have : decide (i < n + 1) = decide (i < n) := by
          congr 1
          apply propext
          omega
        rw [this]

theorem clsW_lt (f : UInt8 → Bool) (k : Nat) : clsW f k < 18446744073709551616 := wsum_lt _ 64
theorem clsW_bit (f : UInt8 → Bool) (k i : Nat) (hi : i < 64) : (clsW f k).testBit i = f (UInt8.ofNat (64 * k + i)) := by
  rw [clsW, wsum_bit]
  simp [hi]
theorem clsW_big (f : UInt8 → Bool) (k i : Nat) (hi : ¬ i < 64) : (clsW f k).testBit i = false := by
  rw [clsW, wsum_bit]
  simp [hi]
theorem clsW_ext {f g : UInt8 → Bool} (h : ∀ k, k < 4 → clsW f k = clsW g k) : f = g := by
  funext b
  have hb := b.toNat_lt
  have e : UInt8.ofNat (64 * (b.toNat / 64) + b.toNat % 64) = b := by
    rw [Nat.div_add_mod]; simp
  have h1 := clsW_bit f (b.toNat / 64) (b.toNat % 64) (Nat.mod_lt _ (by decide))
  have h2 := clsW_bit g (b.toNat / 64) (b.toNat % 64) (Nat.mod_lt _ (by decide))
  rw [e] at h1 h2
  rw [← h1, ← h2, h _ (by omega)]
theorem bit_of_class (f : UInt8 → Bool) (b : UInt8) : (clsW f (b.toNat / 64)).testBit (b.toNat % 64) = f b := by
  rw [clsW_bit f _ _ (Nat.mod_lt _ (by decide)), Nat.div_add_mod]
  simp
theorem bit_int (x k : Nat) (hx : x < 18446744073709551616) : (bits BinOp.and IntKind.u64 ((x : Int) / 2 ^ k) 1 == 1) = x.testBit k := by
  have e : ((x : Int) / 2 ^ k) = ((x / 2 ^ k : Nat) : Int) := by simp
  have hle : x / 2 ^ k ≤ x := Nat.div_le_self _ _
  rw [e, Nat.testBit_eq_decide_div_mod_eq]
  generalize x / 2 ^ k = d at hle
  rw [and_one_u64 _ (by omega) (by omega), Bool.eq_iff_iff]
  simp
  omega
theorem xor_int (c : Nat) (hc : c < 18446744073709551616) : bits BinOp.xor IntKind.u64 IntKind.u64.max (c : Int) = ((18446744073709551615 ^^^ c : Nat) : Int) :=
  u64_xor_nat 18446744073709551615 c (by decide) hc
theorem clsW_other (f : UInt8 → Bool) (k : Nat) : 18446744073709551615 ^^^ clsW f k = clsW (fun b => !f b) k := by
  apply Nat.eq_of_testBit_eq
  intro i
  rw [Nat.testBit_xor, show (18446744073709551615 : Nat) = 2 ^ 64 - 1 from rfl, Nat.testBit_two_pow_sub_one]
  by_cases hi : i < 64
  · rw [clsW_bit _ _ _ hi, clsW_bit _ _ _ hi]
    simp [hi]
  · rw [clsW_big _ _ _ hi, clsW_big _ _ _ hi]
    simp [hi]

set_option maxHeartbeats 400000 in
theorem has_words (c0 c1 c2 c3 x : Nat) (b : UInt8) (w : World) (hb : b.toNat / 64 < 4) (hx : x < 18446744073709551616)
    (hc : [Value.int .u64 c0, Value.int .u64 c1, Value.int .u64 c2, Value.int .u64 c3][b.toNat / 64]'hb = .int .u64 x) :
    Calls Try.prog 49 #[.agg #[.int .u64 c0, .int .u64 c1, .int .u64 c2, .int .u64 c3], .int .u8 b.toNat] w fun e w' => e = .returned (.bool (x.testBit (b.toNat % 64))) ∧ Below w.heap.size w w' := by
  have HX := Lib.hid hx
  clear hx
  go_enter Try.func49, Try.ntmps49
  go_wp2
  go_ret
  exact ⟨ret_bool (bit_int x _ HX.out), (Below.refl _ _).alloc (Nat.le_refl _) _⟩

theorem has_any (f : UInt8 → Bool) (b : UInt8) (w : World) :
    Calls Try.prog 49 #[clsV f, .int .u8 b.toNat] w fun e w' => e = .returned (.bool (f b)) ∧ Below w.heap.size w w' := by
  have hb : b.toNat / 64 < 4 := by have := b.toNat_lt; omega
  have K := has_words (clsW f 0) (clsW f 1) (clsW f 2) (clsW f 3) (clsW f (b.toNat / 64)) b w hb (clsW_lt _ _) (by
    have : b.toNat / 64 = 0 ∨ b.toNat / 64 = 1 ∨ b.toNat / 64 = 2 ∨ b.toNat / 64 = 3 := by omega
    rcases this with h | h | h | h <;> simp [h])
  rw [bit_of_class] at K
  exact K

set_option maxHeartbeats 400000 in
theorem other_words (c0 c1 c2 c3 d0 d1 d2 d3 : Nat) (w : World) (h0 : bits BinOp.xor IntKind.u64 IntKind.u64.max (c0 : Int) = (d0 : Int)) (h1 : bits BinOp.xor IntKind.u64 IntKind.u64.max (c1 : Int) = (d1 : Int))
    (h2 : bits BinOp.xor IntKind.u64 IntKind.u64.max (c2 : Int) = (d2 : Int)) (h3 : bits BinOp.xor IntKind.u64 IntKind.u64.max (c3 : Int) = (d3 : Int)) :
    Calls Try.prog 46 #[.agg #[.int .u64 c0, .int .u64 c1, .int .u64 c2, .int .u64 c3]] w fun e w' => e = .returned (.agg #[.int .u64 d0, .int .u64 d1, .int .u64 d2, .int .u64 d3]) ∧ Below w.heap.size w w' := by
  have H0 := Lib.hid h0
  have H1 := Lib.hid h1
  have H2 := Lib.hid h2
  have H3 := Lib.hid h3
  clear h0 h1 h2 h3
  go_enter Try.func46, Try.ntmps46
  go_wp2
  refine bodyPost_ret (v := .agg #[.int .u64 (bits BinOp.xor IntKind.u64 IntKind.u64.max (c0 : Int)), .int .u64 (bits BinOp.xor IntKind.u64 IntKind.u64.max (c1 : Int)), .int .u64 (bits BinOp.xor IntKind.u64 IntKind.u64.max (c2 : Int)), .int .u64 (bits BinOp.xor IntKind.u64 IntKind.u64.max (c3 : Int))]) (by simp [results, Try.results46, go_sem]) rfl ⟨?_, ?_⟩
  · rw [H0.out, H1.out, H2.out, H3.out]
  · exact (((Below.refl _ _).alloc (Nat.le_refl _) _).alloc (by simp) _)

theorem other_any (f : UInt8 → Bool) (w : World) :
    Calls Try.prog 46 #[clsV f] w fun e w' => e = .returned (clsV fun b => !f b) ∧ Below w.heap.size w w' := by
  refine other_words _ _ _ _ _ _ _ _ w ?_ ?_ ?_ ?_ <;> rw [xor_int _ (clsW_lt _ _), clsW_other]

/-- block g is the class f -/
def ClsAt (w : World) (g : Nat) (f : UInt8 → Bool) : Prop :=
  w.heap[g]? = some (.cells #[.int .u64 (clsW f 0), .int .u64 (clsW f 1), .int .u64 (clsW f 2), .int .u64 (clsW f 3)] 72 (0, 0))

theorem or_int (x k : Nat) (hx : x < 18446744073709551616) (hk : k < 64) : bits BinOp.or IntKind.u64 (x : Int) (IntKind.u64.wrap (2 ^ k)) = ((x ||| 2 ^ k : Nat) : Int) := by
  have hp : 2 ^ k < 18446744073709551616 := (Nat.pow_lt_pow_right (by decide) hk : 2 ^ k < 2 ^ 64)
  have e0 : ((2 : Int) ^ k) = ((2 ^ k : Nat) : Int) := by simp
  rw [e0]
  generalize 2 ^ k = m at hp
  have e : IntKind.u64.wrap (m : Int) = (m : Int) := by
    rw [IntKind.wrap_u64]
    omega
  rw [e]
  exact u64_or_nat x m hx hp
theorem ofNat_ne {b : UInt8} {k i : Nat} (hk : k < 4) (hi : i < 64) : (UInt8.ofNat (64 * k + i) == b) = (decide (k = b.toNat / 64) && decide (i = b.toNat % 64)) := by
  have e : (UInt8.ofNat (64 * k + i)).toNat = 64 * k + i := by
    rw [UInt8.toNat_ofNat']
    omega
  rw [Bool.eq_iff_iff]
  simp only [beq_iff_eq, Bool.and_eq_true, decide_eq_true_eq]
  constructor
  · intro h
    rw [← h, e]
    omega
  · rintro ⟨h1, h2⟩
    apply UInt8.toNat_inj.1
    rw [e]
    omega
theorem clsW_put (f : UInt8 → Bool) (b : UInt8) (k : Nat) (hk : k < 4) : clsW (fun y => f y || y == b) k = if k = b.toNat / 64 then clsW f k ||| 2 ^ (b.toNat % 64) else clsW f k := by
  apply Nat.eq_of_testBit_eq
  intro i
  by_cases hi : i < 64
  · rw [clsW_bit _ _ _ hi, ofNat_ne hk hi]
    split
    · rename_i h
      rw [Nat.testBit_or, clsW_bit _ _ _ hi, Nat.testBit_two_pow]
      simp [h, eq_comm]
    · rename_i h
      rw [clsW_bit _ _ _ hi]
      simp [h]
  · rw [clsW_big _ _ _ hi]
    have := Nat.mod_lt b.toNat (show 0 < 64 by decide)
    split
    · rw [Nat.testBit_or, clsW_big _ _ _ hi, Nat.testBit_two_pow]
      simp
      omega
    · rw [clsW_big _ _ _ hi]

set_option maxHeartbeats 1000000 in
theorem put_words (g x : Nat) (b : UInt8) (w : World) (hb : b.toNat / 64 < 4)
    (hc : w.cell? ⟨g, b.toNat / 64, none⟩ = some (.int .u64 x)) (hf : w.frozen? ⟨g, b.toNat / 64, none⟩ = false) :
    Calls Try.prog 47 #[.pointer (some ⟨g, 0, none⟩), .int .u8 b.toNat] w fun e w' => e = .returned (.tuple #[]) ∧
      w' = (w.setCell ⟨g, b.toNat / 64, none⟩ (.int .u64 (bits BinOp.or IntKind.u64 (x : Int) (IntKind.u64.wrap (2 ^ (b.toNat % 64)))))).drew := by
  go_enter Try.func47, Try.ntmps47
  go_wp2
  go_region
  go_wp2
  go_end0
  exact ⟨rfl, rfl⟩

theorem ClsAt.frozen {w : World} {g : Nat} {f : UInt8 → Bool} (h : ClsAt w g f) (j : Nat) : w.frozen? ⟨g, j, none⟩ = false := by
  unfold ClsAt at h
  simp [World.frozen?, h]
theorem ClsAt.cell {w : World} {g : Nat} {f : UInt8 → Bool} (h : ClsAt w g f) {k : Nat} (hk : k < 4) : w.cell? ⟨g, k, none⟩ = some (.int .u64 (clsW f k)) := by
  rw [cell_of_row w g k _ _ _ h]
  have : k = 0 ∨ k = 1 ∨ k = 2 ∨ k = 3 := by omega
  rcases this with h | h | h | h <;> subst h <;> rfl
theorem ClsAt.lt {w : World} {g : Nat} {f : UInt8 → Bool} (h : ClsAt w g f) : g < w.heap.size := (Array.getElem?_eq_some_iff.1 h).1
theorem ClsAt.put {w : World} {g : Nat} {f : UInt8 → Bool} (h : ClsAt w g f) (b : UInt8) :
    ClsAt (w.setCell ⟨g, b.toNat / 64, none⟩ (.int .u64 ((clsW f (b.toNat / 64) ||| 2 ^ (b.toNat % 64) : Nat) : Int))) g (fun y => f y || y == b) := by
  have hb : b.toNat / 64 < 4 := by have := b.toNat_lt; omega
  unfold ClsAt at h ⊢
  simp only [World.setCell, Array.getElem?_modify, if_true, h, Option.map_some, Option.isSome_none, Bool.false_eq_true, if_false]
  rw [clsW_put f b 0 (by decide), clsW_put f b 1 (by decide), clsW_put f b 2 (by decide), clsW_put f b 3 (by decide)]
  have : b.toNat / 64 = 0 ∨ b.toNat / 64 = 1 ∨ b.toNat / 64 = 2 ∨ b.toNat / 64 = 3 := by omega
  rcases this with h | h | h | h <;> rw [h] <;> rfl

/-- put: the class holds one byte more; nothing else has turned -/
theorem put_any (g : Nat) (f : UInt8 → Bool) (b : UInt8) (w : World) (h : ClsAt w g f) :
    Calls Try.prog 47 #[.pointer (some ⟨g, 0, none⟩), .int .u8 b.toNat] w fun e w' => e = .returned (.tuple #[]) ∧
      ClsAt w' g (fun y => f y || y == b) ∧ w.grownBy w' (some g) := by
  have hb : b.toNat / 64 < 4 := by have := b.toNat_lt; omega
  refine (put_words g (clsW f (b.toNat / 64)) b w hb (h.cell hb) (h.frozen _)).mono ?_
  rintro e w' ⟨rfl, rfl⟩
  rw [or_int _ _ (clsW_lt _ _) (Nat.mod_lt _ (by decide))]
  exact ⟨rfl, h.put b, ⟨rfl, rfl, rfl, by simp [World.setCell, World.drew], fun k _ hk => Below.heap_setCell _ _ _ _ (fun e => hk (by rw [e]))⟩⟩

theorem set_at {w : World} {g : Nat} {cs : Array Value} {T : TypeId} {fr : Nat × Nat} (h : w.heap[g]? = some (.cells cs T fr)) (k : Nat) (v : Value) :
    (w.setCell ⟨g, k, none⟩ v).heap[g]? = some (.cells (cs.setIfInBounds k v) T fr) := by
  simp [World.setCell, Array.getElem?_modify, h]
/-- a whole class stored over another -/
theorem ClsAt.store4 {w : World} {g : Nat} {r : UInt8 → Bool} (h : ClsAt w g r) (f : UInt8 → Bool) :
    ClsAt ((((w.setCell ⟨g, 0, none⟩ (.int .u64 (clsW f 0))).setCell ⟨g, 1, none⟩ (.int .u64 (clsW f 1))).setCell ⟨g, 2, none⟩ (.int .u64 (clsW f 2))).setCell ⟨g, 3, none⟩ (.int .u64 (clsW f 3))) g f :=
  set_at (set_at (set_at (set_at h 0 _) 1 _) 2 _) 3 _
theorem results_cls {fn : Func} {a : Nat} (h : fn.results = #[.cell a 72]) (tmps : Array Value) (W : World) (g : Nat) (f : UInt8 → Bool) (ha : tmps.getD a undef = .pointer (some ⟨g, 0, none⟩)) (hc : ClsAt W g f) :
    (results fn tmps).run Try.prog W = .ok (clsV f) W := by
  have c0 := hc.cell (k := 0) (by decide)
  have c1 := hc.cell (k := 1) (by decide)
  have c2 := hc.cell (k := 2) (by decide)
  have c3 := hc.cell (k := 3) (by decide)
  have ha' : tmps[a]?.getD undef = .pointer (some ⟨g, 0, none⟩) := by simpa using ha
  simp [results, h, ha', go_sem, c0, c1, c2, c3, clsV]
theorem results_cls3 {fn : Func} {a t u : Nat} (h : fn.results = #[.cell a 72, .tmp t, .tmp u]) (tmps : Array Value) (W : World) (g : Nat) (f : UInt8 → Bool) (ha : tmps.getD a undef = .pointer (some ⟨g, 0, none⟩)) (hc : ClsAt W g f) :
    (results fn tmps).run Try.prog W = .ok (.tuple #[clsV f, tmps.getD t undef, tmps.getD u undef]) W := by
  have c0 := hc.cell (k := 0) (by decide)
  have c1 := hc.cell (k := 1) (by decide)
  have c2 := hc.cell (k := 2) (by decide)
  have c3 := hc.cell (k := 3) (by decide)
  have ha' : tmps[a]?.getD undef = .pointer (some ⟨g, 0, none⟩) := by simpa using ha
  simp [results, h, ha', go_sem, c0, c1, c2, c3, clsV]
theorem ClsAt.far {w : World} {g : Nat} {f : UInt8 → Bool} (h : ClsAt w g f) {p : Addr} (hp : g ≠ p.block) (v : Value) : ClsAt (w.setCell p v) g f := (Below.heap_setCell w p v g hp).trans h
theorem ClsAt.far4 {w : World} {g : Nat} {f : UInt8 → Bool} (h : ClsAt w g f) {b : Nat} (hp : g ≠ b) (v0 v1 v2 v3 : Value) :
    ClsAt ((((w.setCell ⟨b, 0, none⟩ v0).setCell ⟨b, 1, none⟩ v1).setCell ⟨b, 2, none⟩ v2).setCell ⟨b, 3, none⟩ v3) g f :=
  (((h.far (p := ⟨b, 0, none⟩) hp _).far (p := ⟨b, 1, none⟩) hp _).far (p := ⟨b, 2, none⟩) hp _).far (p := ⟨b, 3, none⟩) hp _
/-- what four stores into block g leave of the rest -/
theorem below_store4 {B g : Nat} {a w : World} (h : Below B a w) (hB : B ≤ g) (v0 v1 v2 v3 : Value) :
    Below B a ((((w.setCell ⟨g, 0, none⟩ v0).setCell ⟨g, 1, none⟩ v1).setCell ⟨g, 2, none⟩ v2).setCell ⟨g, 3, none⟩ v3) :=
  (((h.setCell (p := ⟨g, 0, none⟩) hB _).setCell (p := ⟨g, 1, none⟩) hB _).setCell (p := ⟨g, 2, none⟩) hB _).setCell (p := ⟨g, 3, none⟩) hB _
end Go.Proofs.Ytpckcapilhfpcaa
