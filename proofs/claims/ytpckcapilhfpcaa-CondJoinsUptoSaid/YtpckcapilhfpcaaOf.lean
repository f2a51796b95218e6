/-
  cond.of and class.bytes: the class of a list's bytes; the bytes of a class, rising.
-/
import Derived.Test.YtpckcapilhfpcaaClass
namespace Go.Proofs.Ytpckcapilhfpcaa
open Go.RowKit

theorem clsW_zero (k : Nat) : clsW (fun _ => false) k = 0 := by
  apply Nat.eq_of_testBit_eq
  intro i
  by_cases hi : i < 64
  · rw [clsW_bit _ _ _ hi, Nat.zero_testBit]
  · rw [clsW_big _ _ _ hi, Nat.zero_testBit]
theorem ClsAt.new (w : World) : ClsAt (w.alloc (.cells #[.int .u64 0, .int .u64 0, .int .u64 0, .int .u64 0] 72)) w.heap.size (fun _ => false) := by
  unfold ClsAt
  rw [heap_alloc_new, clsW_zero, clsW_zero, clsW_zero, clsW_zero]
  rfl
theorem ClsAt.alloc {w : World} {g : Nat} {f : UInt8 → Bool} (h : ClsAt w g f) (o : Obj) : ClsAt (w.alloc o) g f := (Below.heap_alloc w o g h.lt).trans h
theorem ClsAt.grown {w w' : World} {g : Nat} {row : Option Nat} {f : UInt8 → Bool} (h : ClsAt w g f) (hg : w.grownBy w' row) (hne : some g ≠ row) : ClsAt w' g f := (hg.block g h.lt hne).trans h
theorem ClsAt.below {w w' : World} {g B : Nat} {f : UInt8 → Bool} (h : ClsAt w g f) (hb : Below B w w') (hlt : g < B) : ClsAt w' g f := (hb.block g hlt).trans h
theorem ClsAt.drewN {w : World} {g : Nat} {f : UInt8 → Bool} (h : ClsAt w g f) (n : Nat) : ClsAt (w.drewN n) g f := h
theorem ClsAt.same {w w' : World} {g : Nat} {f : UInt8 → Bool} (h : ClsAt w g f) (he : w'.heap[g]? = w.heap[g]?) : ClsAt w' g f := he.trans h

def ofL (l : List UInt8) : UInt8 → Bool := fun y => l.contains y
theorem ofL_snoc (l : List UInt8) (x : UInt8) : ofL (l ++ [x]) = fun y => ofL l y || y == x := by
  funext y
  have h : decide (y = x) = (y == x) := by
    by_cases e : y = x
    · subst e; simp
    · simp [e]
  simp [ofL, h]

set_option maxHeartbeats 1000000 in
theorem of_any (s : ByteArray) (w : World) (hs : s.size ≤ 140737488351232) :
    Calls Try.prog 64 #[.string s] w fun e w' => e = .returned (clsV (ofL s.data.toList)) ∧ Below w.heap.size w w' := by
  go_enter Try.func64, Try.ntmps64
  go_wp2_with fail
  go_loopw [7] (fun i wr => ∃ k : Nat, k ≤ s.size ∧ i = .int .i64 k ∧ ClsAt wr (w.heap.size + 1) (ofL (s.data.toList.take k)) ∧ ClsAt wr w.heap.size (fun _ => false) ∧ Below w.heap.size w wr) (fun i _ => s.size - (intOf i).toNat)
  case atStart =>
    refine ⟨0, by omega, rfl, ?_, (ClsAt.new w).alloc _, ((Below.refl _ _).alloc (Nat.le_refl _) _).alloc (by simp) _⟩
    have := ClsAt.new (w.alloc (.cells #[.int .u64 0, .int .u64 0, .int .u64 0, .int .u64 0] 72))
    have e0 : ofL (List.take 0 s.data.toList) = fun _ => false := rfl
    rw [e0]
    simpa using this
  case round =>
    obtain ⟨k, hk, rfl, hc, hr, hbw⟩ := hrel
    have hB := hbw.size
    by_cases hlt : k < s.size
    · have hts := take_snoc s k hlt
      have HT := Lib.hid hts
      clear hts
      go_wp2_with fail
      refine (put_any (w.heap.size + 1) _ s[k] _ hc).mono ?_
      rintro e w1 ⟨rfl, hc1, hg1⟩
      have hr1 := hr.grown hg1 (by simp)
      have hbw1 := hbw.grown hg1 hB (by simp)
      go_wp2_with fail
      go_roundw
      case rel => exact ⟨k + 1, by omega, by go_num, by rw [HT.out, ofL_snoc]; exact hc1, hr1, hbw1⟩
      case measure => simp [intOf]; omega
    · have e : s.data.toList.take k = s.data.toList := take_all s k hlt
      rw [e] at hc
      have c0 := hc.cell (k := 0) (by decide)
      have c1 := hc.cell (k := 1) (by decide)
      have c2 := hc.cell (k := 2) (by decide)
      have c3 := hc.cell (k := 3) (by decide)
      have d0 := hr.cell (k := 0) (by decide)
      have d1 := hr.cell (k := 1) (by decide)
      have d2 := hr.cell (k := 2) (by decide)
      have d3 := hr.cell (k := 3) (by decide)
      have f0 := hr.frozen 0
      have f1 := hr.frozen 1
      have f2 := hr.frozen 2
      have f3 := hr.frozen 3
      clear e
      go_wp2_with fail
      refine bodyPost_ret (v := clsV (ofL s.data.toList)) (by simp [results, Try.results64, go_sem, clsV, d0, d1, d2, d3]) rfl ⟨rfl, ?_⟩
      exact (((hbw.setCell (p := ⟨w.heap.size, 0, none⟩) (Nat.le_refl _) _).setCell (p := ⟨w.heap.size, 1, none⟩) (Nat.le_refl _) _).setCell (p := ⟨w.heap.size, 2, none⟩) (Nat.le_refl _) _).setCell (p := ⟨w.heap.size, 3, none⟩) (Nat.le_refl _) _

theorem Own.ne_cls {B : Nat} {v : Value} {l : List UInt8} {w : World} {g : Nat} {f : UInt8 → Bool} (h : Own B v l w) (hc : ClsAt w g f) : some g ≠ v.ownBlock := by
  rcases h.2 with ⟨rfl, _⟩ | ⟨g', cap, cur, rfl, _, hg, _⟩
  · simp [Value.ownBlock]
  · intro e
    simp only [Value.ownBlock, Option.some.injEq] at e
    subst e
    unfold ClsAt at hc
    rw [hg] at hc
    injection hc with hc
    injection hc with _ hc
    exact absurd hc (by decide)

/-- the bytes of a class, rising -/
def bytesBelow (f : UInt8 → Bool) : Nat → List UInt8
  | 0 => []
  | n + 1 => bytesBelow f n ++ if f (UInt8.ofNat n) then [UInt8.ofNat n] else []
def bytesOf (f : UInt8 → Bool) : List UInt8 := bytesBelow f 256
theorem bytesBelow_len (f : UInt8 → Bool) : ∀ n, (bytesBelow f n).length ≤ n
  | 0 => by simp [bytesBelow]
  | n + 1 => by
    have := bytesBelow_len f n
    simp only [bytesBelow, List.length_append]
    split <;> simp <;> omega
theorem bytesBelow_yes {f : UInt8 → Bool} {n : Nat} (h : f (UInt8.ofNat n) = true) : bytesBelow f (n + 1) = bytesBelow f n ++ [UInt8.ofNat n] := by rw [bytesBelow, if_pos h]
theorem bytesBelow_no {f : UInt8 → Bool} {n : Nat} (h : f (UInt8.ofNat n) = false) : bytesBelow f (n + 1) = bytesBelow f n := by rw [bytesBelow, if_neg (by rw [h]; decide), List.append_nil]
theorem ofNat_nat {n : Nat} (h : n < 256) : (UInt8.ofNat n).toNat = n := by rw [UInt8.toNat_ofNat']; omega

set_option maxHeartbeats 1000000 in
set_option maxRecDepth 100000 in
theorem bytes_any (f : UInt8 → Bool) (w : World) :
    Calls Try.prog 65 #[clsV f] w fun e w' => ∃ v, e = .returned v ∧ Own w.heap.size v (bytesOf f) w' ∧ Below w.heap.size w w' := by
  have hV := fun (w : World) (b : UInt8) => has_any f b w
  have HV := Lib.hid hV
  clear hV
  unfold clsV
  go_enter Try.func65, Try.ntmps65
  go_wp2_with fail
  go_loopw [3, 5] (fun v i wr => ∃ k : Nat, k ≤ 256 ∧ i = .int .i64 k ∧ Own w.heap.size v (bytesBelow f k) wr ∧ ClsAt wr w.heap.size f ∧ Below w.heap.size w wr) (fun _ i _ => 256 - (intOf i).toNat)
  case atStart => exact ⟨0, by omega, rfl, Own.nil _ _, heap_alloc_new w _, (Below.refl _ _).alloc (Nat.le_refl _) _⟩
  case round =>
    obtain ⟨k, hk, rfl, hown, hc, hbw⟩ := hrel
    have hB := hbw.size
    by_cases hlt : k < 256
    · have c0 := hc.cell (k := 0) (by decide)
      have c1 := hc.cell (k := 1) (by decide)
      have c2 := hc.cell (k := 2) (by decide)
      have c3 := hc.cell (k := 3) (by decide)
      have h8 := ofNat_nat hlt
      have K := fun w => HV.out w (UInt8.ofNat k)
      rw [h8] at K
      have hl := bytesBelow_len f k
      cases hf : f (UInt8.ofNat k) with
      | true =>
        rw [hf] at K
        have e := bytesBelow_yes hf
        have HK := Lib.hid K
        have HE := Lib.hid e
        have H8 := Lib.hid h8
        clear K e hf h8
        go_wp2_with fail
        refine (HK.out _).mono ?_
        rintro e w1 ⟨rfl, hb1⟩
        have hown1 := hown.below hb1
        have hc1 := hc.below hb1 hc.lt
        have hbw1 := below_next hbw hb1
        have hB1 := hbw1.size
        go_wp2_with (at_builtin; refine wpList_append_num rfl _ _ rfl w.heap.size _ (bytesBelow f k) _ (UInt8.ofNat k) _ ?hn rfl rfl ?ho ?c1 ?c2 ?_)
        case hn => rw [H8.out]
        case ho => exact hown1
        case c1 => omega
        case c2 => exact hB1
        intro v2 w2 hown2 hg2 hb2
        have hc2 := (hc1.alloc (.cells #[.int .u8 (UInt8.ofNat k).toNat] 5)).grown hg2 (hown1.ne_cls hc1)
        have hbw2 := hbw1.trans hb2
        go_wp2_with fail
        go_roundw
        case rel => exact ⟨k + 1, by omega, by go_num, by rw [HE.out]; exact hown2, hc2, hbw2⟩
        case measure => simp [intOf]; omega
      | false =>
        rw [hf] at K
        have e := bytesBelow_no hf
        have HK := Lib.hid K
        have HE := Lib.hid e
        clear K e hf h8
        go_wp2_with fail
        refine (HK.out _).mono ?_
        rintro e w1 ⟨rfl, hb1⟩
        have hown1 := hown.below hb1
        have hc1 := hc.below hb1 hc.lt
        have hbw1 := hbw.trans (hb1.mono hB)
        go_wp2_with fail
        go_roundw
        case rel => exact ⟨k + 1, by omega, by go_num, by rw [HE.out]; exact hown1, hc1, hbw1⟩
        case measure => simp [intOf]; omega
    · have e : k = 256 := by omega
      have HE := Lib.hid e
      clear e
      go_wp2_with fail
      go_ret
      refine ⟨_, rfl, ?_, hbw⟩
      have := HE.out
      subst this
      exact hown
end Go.Proofs.Ytpckcapilhfpcaa
