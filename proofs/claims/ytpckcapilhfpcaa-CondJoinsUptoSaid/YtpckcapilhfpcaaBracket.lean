/-
  cond.bracket: the class of a bracket, where it ends, whether it holds anything.
-/
import Derived.Test.YtpckcapilhfpcaaCondPlain
import Derived.Test.YtpckcapilhfpcaaShelf
import Derived.IntWalk
namespace Go.Proofs.Ytpckcapilhfpcaa
open Go.RowKit

theorem extract_list (s : ByteArray) (a b : Nat) : s.extract a b = ⟨((s.data.toList.drop a).take (b - a)).toArray⟩ := Lib.extract_eq s a b
theorem find_byte (s : ByteArray) (w : World) : Calls Try.prog 63 #[.string s, .int .u8 93] w fun e w' =>
    e = .returned (.int .i64 (match find93 s.data.toList with | none => -1 | some n => (n : Int))) ∧ w' = w := by
  have K := Try.strings_IndexByte s 93 w
  rw [show (93 : Int).toNat.toUInt8 = 93 from rfl, find93_index] at K
  exact K
theorem cut_hat (s : ByteArray) (w : World) : Calls Try.prog 61 #[.string s, .string ⟨#[94]⟩] w fun e w' =>
    e = .returned (.tuple #[.string ⟨(stripHat s.data.toList).toArray⟩, .bool (isNot s.data.toList)]) ∧ w' = w := by
  have K := Try.strings_CutPrefix s ⟨#[94]⟩ w
  rw [show (⟨#[94]⟩ : ByteArray).data.toList = [94] from rfl, (trim_hat _).1, (trim_hat _).2] at K
  exact K
theorem stripHat_len (l : List UInt8) : (stripHat l).length ≤ l.length := by
  cases l with
  | nil => simp [stripHat]
  | cons x l =>
    simp only [stripHat]
    split <;> simp

set_option maxHeartbeats 1000000 in
theorem bracket_none (s : ByteArray) (i : Nat) (w : World) (hi : i ≤ s.size) (hf : find93 (s.data.toList.drop i) = none) :
    Calls Try.prog 45 #[.string s, .int .i64 i] w fun e w' => e = .returned (.tuple #[clsV fun _ => false, .int .i64 0, .bool false]) ∧ Below w.heap.size w w' := by
  have K := find_byte (s.extract i s.size)
  have ex : (s.extract i s.size).data.toList = s.data.toList.drop i := by
    rw [Lib.extract_data]
    exact List.take_of_length_le (by rw [List.length_drop, len_eq]; exact Nat.le_refl _)
  rw [ex, hf] at K
  have HK := Lib.hid K
  clear K ex hf
  go_enter Try.func45, Try.ntmps45
  go_wp2_with fail
  refine (HK.out _).mono ?_
  rintro e w1 ⟨rfl, rfl⟩
  go_wp2_with fail
  refine bodyPost_ret (v := .tuple #[clsV fun _ => false, .int .i64 0, .bool false]) (by simp [results, Try.results45, go_sem, clsV, clsW_zero]) rfl ⟨rfl, ?_⟩
  exact (Below.refl _ _).alloc (Nat.le_refl _) _

set_option maxHeartbeats 1000000 in
theorem bracket_some (s : ByteArray) (i n : Nat) (w : World) (hs : s.size ≤ 512) (hi : i ≤ s.size) (hf : find93 (s.data.toList.drop i) = some n) :
    Calls Try.prog 45 #[.string s, .int .i64 i] w fun e w' => e = .returned (.tuple #[clsV (bracketCls ((s.data.toList.drop i).take n)), .int .i64 ((i + n + 1 : Nat) : Int), .bool (bracketOk ((s.data.toList.drop i).take n))]) ∧ Below w.heap.size w w' := by
  have hn := find93_lt hf
  rw [List.length_drop, len_eq] at hn
  have K := find_byte (s.extract i s.size)
  have ex : (s.extract i s.size).data.toList = s.data.toList.drop i := by
    rw [Lib.extract_data]
    exact List.take_of_length_le (by rw [List.length_drop, len_eq]; exact Nat.le_refl _)
  rw [ex, hf] at K
  have C := cut_hat (s.extract i (i + n))
  have ex2 : (s.extract i (i + n)).data.toList = (s.data.toList.drop i).take n := by
    rw [Lib.extract_data]; congr 1; omega
  rw [ex2] at C
  have hl := stripHat_len ((s.data.toList.drop i).take n)
  have hl2 : ((s.data.toList.drop i).take n).length ≤ n := List.length_take_le _ _
  have O := of_any ⟨(stripHat ((s.data.toList.drop i).take n)).toArray⟩
  have hq0 : (⟨(stripHat ((s.data.toList.drop i).take n)).toArray⟩ : ByteArray).size ≤ 140737488351232 := by rw [mk_size]; omega
  have O2 := fun w => O w hq0
  rw [mk_list] at O2
  have hcls : bracketCls ((s.data.toList.drop i).take n) = if isNot ((s.data.toList.drop i).take n) then fun y => !(ofL (stripHat ((s.data.toList.drop i).take n)) y) else ofL (stripHat ((s.data.toList.drop i).take n)) := rfl
  have hok : bracketOk ((s.data.toList.drop i).take n) = !(stripHat ((s.data.toList.drop i).take n)).isEmpty := rfl
  generalize (s.data.toList.drop i).take n = L at *
  have hso : ∀ l : List UInt8, (⟨l.toArray⟩ : ByteArray).toList = l := fun l => by rw [Lib.toList_data]
  generalize hq : (⟨(stripHat L).toArray⟩ : ByteArray) = q at C O2 hq0
  have hqe : q.toList.isEmpty = (stripHat L).isEmpty := by rw [← hq, hso]
  have hqd : q.data.toList = stripHat L := by rw [← hq, mk_list]
  rw [hqd] at O2
  have HK := Lib.hid K
  have HOK := Lib.hid hok
  have HQ := Lib.hid hqe
  clear K O ex ex2 hf hl hl2 hok hq hso hqe hqd
  have hil : (i : Int) + n ≤ s.size := by omega
  cases hnot : isNot L with
  | false =>
    rw [hnot] at C hcls
    rw [if_neg (by decide)] at hcls
    rw [← hcls] at O2
    have HC := Lib.hid C
    have HO := Lib.hid O2
    clear hnot C O2 hcls
    go_enter Try.func45, Try.ntmps45
    go_wp2_with fail
    refine (HK.out _).mono ?_
    rintro e w1 ⟨rfl, rfl⟩
    go_wp2_with fail
    refine (HC.out _).mono ?_
    rintro e w1 ⟨rfl, rfl⟩
    go_wp2_with fail
    refine (HO.out _).mono ?_
    rintro e w1 ⟨rfl, hb1⟩
    have r1 := (ClsAt.new w).below hb1 (by simp)
    have hlt : w.heap.size < w1.heap.size := r1.lt
    have hbw : Below w.heap.size w w1 := ((Below.refl _ _).alloc (Nat.le_refl _) _).trans (hb1.mono (by simp))
    have d0 := r1.cell (k := 0) (by decide)
    have d1 := r1.cell (k := 1) (by decide)
    have d2 := r1.cell (k := 2) (by decide)
    have d3 := r1.cell (k := 3) (by decide)
    have f0 := r1.frozen 0
    have f1 := r1.frozen 1
    have f2 := r1.frozen 2
    have f3 := r1.frozen 3
    unfold clsV
    go_wp2_with fail
    refine bodyPost_ret (results_cls3 rfl _ _ w.heap.size (bracketCls L) rfl ?_) rfl ⟨?_, ?_⟩
    · exact ((r1.store4 (bracketCls L)).alloc _)
    · rw [HOK.out, ← HQ.out]
      rfl
    · exact (below_store4 hbw (Nat.le_refl _) _ _ _ _).alloc (by simp [World.setCell]; omega) _
  | true =>
    rw [hnot] at C hcls
    rw [if_pos rfl] at hcls
    have OT := fun w => other_any (ofL (stripHat L)) w
    rw [← hcls] at OT
    have HC := Lib.hid C
    have HO := Lib.hid O2
    have HOT := Lib.hid OT
    clear hnot C O2 hcls OT
    go_enter Try.func45, Try.ntmps45
    go_wp2_with fail
    refine (HK.out _).mono ?_
    rintro e w1 ⟨rfl, rfl⟩
    go_wp2_with fail
    refine (HC.out _).mono ?_
    rintro e w1 ⟨rfl, rfl⟩
    go_wp2_with fail
    refine (HO.out _).mono ?_
    rintro e w1 ⟨rfl, hb1⟩
    have r1 := (ClsAt.new w).below hb1 (by simp)
    have hlt : w.heap.size < w1.heap.size := r1.lt
    have hbw : Below w.heap.size w w1 := ((Below.refl _ _).alloc (Nat.le_refl _) _).trans (hb1.mono (by simp))
    unfold clsV
    go_wp2_with fail
    refine (HOT.out _).mono ?_
    rintro e w2 ⟨rfl, hb2⟩
    have r2 := (r1.alloc _).below hb2 (by simp; omega)
    have s2 := (show ClsAt _ w1.heap.size (ofL (stripHat L)) from heap_alloc_new w1 _).below hb2 (by simp)
    have hbw2 : Below w.heap.size w w2 := (hbw.alloc (Nat.le_of_lt hlt) _).trans (hb2.mono (by simp; omega))
    have d0 := r2.cell (k := 0) (by decide)
    have d1 := r2.cell (k := 1) (by decide)
    have d2 := r2.cell (k := 2) (by decide)
    have d3 := r2.cell (k := 3) (by decide)
    have f0 := r2.frozen 0
    have f1 := r2.frozen 1
    have f2 := r2.frozen 2
    have f3 := r2.frozen 3
    have e0 := s2.cell (k := 0) (by decide)
    have e1 := s2.cell (k := 1) (by decide)
    have e2 := s2.cell (k := 2) (by decide)
    have e3 := s2.cell (k := 3) (by decide)
    have g0 := s2.frozen 0
    have g1 := s2.frozen 1
    have g2 := s2.frozen 2
    have g3 := s2.frozen 3
    have hlt2 : w1.heap.size < w2.heap.size := s2.lt
    unfold clsV
    go_wp2_with fail
    refine bodyPost_ret (results_cls3 rfl _ _ w.heap.size (bracketCls L) rfl ?_) rfl ⟨?_, ?_⟩
    · exact (r2.far4 (by omega) _ _ _ _).store4 (bracketCls L)
    · rw [HOK.out, ← HQ.out]
      rfl
    · exact below_store4 (below_store4 hbw2 (by omega) _ _ _ _) (Nat.le_refl _) _ _ _ _
end Go.Proofs.Ytpckcapilhfpcaa
