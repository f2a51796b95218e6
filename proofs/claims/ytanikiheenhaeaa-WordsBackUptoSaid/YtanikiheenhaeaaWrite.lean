/-
  words.Write and the reference's Write put a backslash ahead of the marked bytes; texts of at most 2097152 bytes.
-/
import Derived.Test.YtanikiheenhaeaaFit
import Derived.Test.YtanikiheenhaeaaBuilder
namespace Go.Proofs.Ytanikiheenhaeaa
open Go.RowKit

theorem writeL_mark {x : UInt8} (l : List UInt8) (h : markB x = true) : writeL (x :: l) = 92 :: x :: writeL l := by rw [writeL, if_pos h]
theorem writeL_plain {x : UInt8} (l : List UInt8) (h : markB x = false) : writeL (x :: l) = x :: writeL l := by rw [writeL, if_neg (by simp [h])]

set_option maxHeartbeats 1000000 in
theorem write_any (s : ByteArray) (w : World) (hs : s.size ≤ 2097152) :
    Calls Try.prog 16 #[.string s] w fun e w' => e = .returned (.string ⟨(writeL s.data.toList).toArray⟩) ∧ Below w.heap.size w w' := by
  have hwl : (writeL s.data.toList).length ≤ 4194304 := by
    have := writeL_len s.data.toList
    rw [len_eq] at this
    omega
  go_enter Try.func16, Try.ntmps16
  go_wp2
  go_loopw [7] (fun i wr => ∃ (k : Nat) (acc : List UInt8), k ≤ s.size ∧ i = .int .i64 k ∧ writeL s.data.toList = acc ++ writeL (s.data.toList.drop k) ∧ Bld w.heap.size w.heap.size acc wr ∧ Below w.heap.size w wr) (fun i _ => s.size - (intOf i).toNat)
  case atStart => exact ⟨0, [], by omega, rfl, by simp, Bld.fresh w _ (Nat.le_refl _), (Below.refl _ _).alloc (Nat.le_refl _) _⟩
  case round =>
    obtain ⟨k, acc, hk, rfl, hall, hbd, hbw⟩ := hrel
    have hB := hbw.size
    have hal : acc.length + (writeL (s.data.toList.drop k)).length ≤ 4194304 := by rw [← List.length_append, ← hall]; exact hwl
    by_cases hlt : k < s.size
    · have hd := drop_cons s k hlt
      have hmk := marked_any s[k]
      cases hm : markB s[k] with
      | true =>
        rw [hd, writeL_mark _ hm] at hall hal
        rw [hm] at hmk
        simp only [List.length_cons] at hal
        have HA := Lib.hid hall
        have HM := Lib.hid hmk
        clear hall hd hm hmk
        go_wp2_with fail
        refine (HM.out _).mono ?_
        rintro e w' ⟨rfl, rfl⟩
        go_wp2_with fail
        refine (writeByte_any w.heap.size w.heap.size acc 92 _ hbd (by omega) hB).mono ?_
        rintro e w1 ⟨rfl, hbd1, hb1, _⟩
        have hbw1 := hbw.trans hb1
        have hB1 := hbw1.size
        go_wp2_with fail
        refine (writeByte_any w.heap.size w.heap.size (acc ++ [92]) s[k] _ hbd1 (by simp; omega) hB1).mono ?_
        rintro e w2 ⟨rfl, hbd2, hb2, _⟩
        have hbw2 := hbw1.trans hb2
        go_wp2_with fail
        go_roundw
        case rel => exact ⟨k + 1, _, by omega, by go_num, by rw [HA.out]; simp, hbd2, hbw2⟩
        case measure => simp [intOf]; omega
      | false =>
        rw [hd, writeL_plain _ hm] at hall hal
        rw [hm] at hmk
        simp only [List.length_cons] at hal
        have HA := Lib.hid hall
        have HM := Lib.hid hmk
        clear hall hd hm hmk
        go_wp2_with fail
        refine (HM.out _).mono ?_
        rintro e w' ⟨rfl, rfl⟩
        go_wp2_with fail
        refine (writeByte_any w.heap.size w.heap.size acc s[k] _ hbd (by omega) hB).mono ?_
        rintro e w1 ⟨rfl, hbd1, hb1, _⟩
        have hbw1 := hbw.trans hb1
        go_wp2_with fail
        go_roundw
        case rel => exact ⟨k + 1, _, by omega, by go_num, by rw [HA.out]; simp, hbd1, hbw1⟩
        case measure => simp [intOf]; omega
    · have hd := drop_end s k hlt
      rw [hd] at hall
      have e : writeL s.data.toList = acc := by rw [hall]; simp [writeL]
      have HE := Lib.hid e
      clear hall hd e hal
      go_wp2_with fail
      refine (builderString_any w.heap.size w.heap.size acc _ hbd hB).mono ?_
      rintro e w1 ⟨rfl, hb1⟩
      go_wp2_with fail
      go_ret
      exact ⟨ret_list HE.out.symm, hbw.trans hb1⟩

set_option maxHeartbeats 1000000 in
theorem refWrite_any (s : ByteArray) (w : World) (hs : s.size ≤ 2097152) :
    Calls Try.prog 17 #[.string s] w fun e w' => e = .returned (.string ⟨(writeL s.data.toList).toArray⟩) ∧ Below w.heap.size w w' := by
  have hwl : (writeL s.data.toList).length ≤ 4194304 := by
    have := writeL_len s.data.toList
    rw [len_eq] at this
    omega
  go_enter Try.func17, Try.ntmps17
  go_wp2
  go_loopw [3, 4] (fun v i wr => ∃ (k : Nat) (acc : List UInt8), k ≤ s.size ∧ i = .int .i64 k ∧ writeL s.data.toList = acc ++ writeL (s.data.toList.drop k) ∧ Own w.heap.size v acc wr ∧ Below w.heap.size w wr) (fun _ i _ => s.size - (intOf i).toNat)
  case atStart => exact ⟨0, [], by omega, rfl, by simp, Own.made _ _ (Nat.le_refl _), (Below.refl _ _).alloc (Nat.le_refl _) _⟩
  case round =>
    obtain ⟨k, acc, hk, rfl, hall, hown, hbw⟩ := hrel
    have hB := hbw.size
    have hal : acc.length + (writeL (s.data.toList.drop k)).length ≤ 4194304 := by rw [← List.length_append, ← hall]; exact hwl
    by_cases hlt : k < s.size
    · have hd := drop_cons s k hlt
      cases hm : markB s[k] with
      | true =>
        rw [hd, writeL_mark _ hm] at hall hal
        simp only [List.length_cons] at hal
        have HA := Lib.hid hall
        have hm2 := hm
        simp only [markB, Bool.or_eq_true, beq_iff_eq] at hm2
        clear hall hd hm
        by_cases c1 : s[k].toNat = 92
        · have h3 : ((s[k].toNat : Int) == 92) = true := byte_is c1 rfl
          clear c1 hm2
          go_wp2_with (at_builtin; refine wpList_append_byte rfl _ _ rfl w.heap.size _ acc _ 92 rfl rfl ?ho ?c1 ?c2 ?_)
          case ho => exact hown
          case c1 => omega
          case c2 => exact hB
          intro v1 w1 hown1 _ hb1
          have hbw1 := hbw.trans hb1
          have hB1 := hbw1.size
          go_wp2_with (at_builtin; refine wpList_append_byte rfl _ _ rfl w.heap.size _ (acc ++ [92]) _ s[k] rfl rfl ?ho2 ?c3 ?c4 ?_)
          case ho2 => exact hown1
          case c3 => simp; omega
          case c4 => exact hB1
          intro v2 w2 hown2 _ hb2
          have hbw2 := hbw1.trans hb2
          go_wp2_with fail
          go_roundw
          case rel => exact ⟨k + 1, _, by omega, by go_num, by rw [HA.out]; simp, hown2, hbw2⟩
          case measure => simp [intOf]; omega
        · have h3 : ((s[k].toNat : Int) == 92) = false := byte_ne c1 rfl
          by_cases c2 : s[k].toNat = 47
          · have h4 : ((s[k].toNat : Int) == 47) = true := byte_is c2 rfl
            clear c1 c2 hm2
            go_wp2_with (at_builtin; refine wpList_append_byte rfl _ _ rfl w.heap.size _ acc _ 92 rfl rfl ?ho ?c1 ?c2 ?_)
            case ho => exact hown
            case c1 => omega
            case c2 => exact hB
            intro v1 w1 hown1 _ hb1
            have hbw1 := hbw.trans hb1
            have hB1 := hbw1.size
            go_wp2_with (at_builtin; refine wpList_append_byte rfl _ _ rfl w.heap.size _ (acc ++ [92]) _ s[k] rfl rfl ?ho2 ?c3 ?c4 ?_)
            case ho2 => exact hown1
            case c3 => simp; omega
            case c4 => exact hB1
            intro v2 w2 hown2 _ hb2
            have hbw2 := hbw1.trans hb2
            go_wp2_with fail
            go_roundw
            case rel => exact ⟨k + 1, _, by omega, by go_num, by rw [HA.out]; simp, hown2, hbw2⟩
            case measure => simp [intOf]; omega
          · have h4 : ((s[k].toNat : Int) == 47) = false := byte_ne c2 rfl
            have h5 : ((s[k].toNat : Int) == 35) = true := byte_is (n := 35) (by omega) rfl
            clear c1 c2 hm2
            go_wp2_with (at_builtin; refine wpList_append_byte rfl _ _ rfl w.heap.size _ acc _ 92 rfl rfl ?ho ?c1 ?c2 ?_)
            case ho => exact hown
            case c1 => omega
            case c2 => exact hB
            intro v1 w1 hown1 _ hb1
            have hbw1 := hbw.trans hb1
            have hB1 := hbw1.size
            go_wp2_with (at_builtin; refine wpList_append_byte rfl _ _ rfl w.heap.size _ (acc ++ [92]) _ s[k] rfl rfl ?ho2 ?c3 ?c4 ?_)
            case ho2 => exact hown1
            case c3 => simp; omega
            case c4 => exact hB1
            intro v2 w2 hown2 _ hb2
            have hbw2 := hbw1.trans hb2
            go_wp2_with fail
            go_roundw
            case rel => exact ⟨k + 1, _, by omega, by go_num, by rw [HA.out]; simp, hown2, hbw2⟩
            case measure => simp [intOf]; omega
      | false =>
        rw [hd, writeL_plain _ hm] at hall hal
        simp only [List.length_cons] at hal
        have HA := Lib.hid hall
        have hm2 := hm
        simp only [markB, Bool.or_eq_false_iff, beq_eq_false_iff_ne] at hm2
        have h3 : ((s[k].toNat : Int) == 92) = false := byte_ne (n := 92) (by omega) rfl
        have h4 : ((s[k].toNat : Int) == 47) = false := byte_ne (n := 47) (by omega) rfl
        have h5 : ((s[k].toNat : Int) == 35) = false := byte_ne (n := 35) (by omega) rfl
        clear hall hd hm hm2
        go_wp2_with (at_builtin; refine wpList_append_byte rfl _ _ rfl w.heap.size _ acc _ s[k] rfl rfl ?ho ?c1 ?c2 ?_)
        case ho => exact hown
        case c1 => omega
        case c2 => exact hB
        intro v1 w1 hown1 _ hb1
        have hbw1 := hbw.trans hb1
        go_wp2_with fail
        go_roundw
        case rel => exact ⟨k + 1, _, by omega, by go_num, by rw [HA.out]; simp, hown1, hbw1⟩
        case measure => simp [intOf]; omega
    · have hd := drop_end s k hlt
      rw [hd] at hall
      have e : writeL s.data.toList = acc := by rw [hall]; simp [writeL]
      have HE := Lib.hid e
      have hst := run_string_own hown
      clear hall hd e
      go_wp2_with fail
      go_ret
      exact ⟨ret_list HE.out.symm, hbw⟩
end Go.Proofs.Ytanikiheenhaeaa
