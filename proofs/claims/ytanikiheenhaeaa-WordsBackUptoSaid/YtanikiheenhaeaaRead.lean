/-
  words.Read and the reference's Read: the word, what stands behind its slash, whether a slash ended it, or the fault; for every text of at most 140737488351232 bytes.
-/
import Derived.Test.YtanikiheenhaeaaFit
import Derived.Test.YtanikiheenhaeaaBuilder
import Derived.Deep.RegionWith
import Derived.IntWalk
namespace Go.Proofs.Ytanikiheenhaeaa
open Go.RowKit

/-- the four answers as a value -/
def readV : Option (List UInt8 × List UInt8 × Bool) → Value
  | some r => .tuple #[.string ⟨r.1.toArray⟩, .string ⟨r.2.1.toArray⟩, .bool r.2.2, .int .i64 0]
  | none => .tuple #[.string ⟨#[]⟩, .string ⟨#[]⟩, .bool false, .int .i64 20]

theorem results_four {fn : Func} {t u v x : Tmp} (h : fn.results = #[.tmp t, .tmp u, .tmp v, .tmp x]) (tmps : Array Value) (P : Program) (w : World) :
    (results fn tmps).run P w = .ok (.tuple #[tmps.getD t undef, tmps.getD u undef, tmps.getD v undef, tmps.getD x undef]) w := by simp [results, h]
theorem ret_val {v v' : Value} (h : v = v') : Ending.returned v = .returned v' := by rw [h]

theorem extract_end (s : ByteArray) (k : Nat) : s.extract k s.size = ⟨(s.data.toList.drop k).toArray⟩ := by
  rw [Lib.extract_eq]
  congr 2
  exact List.take_of_length_le (by rw [List.length_drop, len_eq]; exact Nat.le_refl _)

set_option maxHeartbeats 1000000 in
theorem read_any (s : ByteArray) (w : World) (hs : s.size ≤ 140737488351232) :
    Calls Try.prog 23 #[.string s] w fun e w' => e = .returned (readV (readL s.data.toList)) ∧ Below w.heap.size w w' := by
  go_enter Try.func23, Try.ntmps23
  go_wp2
  go_loopw [7] (fun i wr => ∃ (k : Nat) (acc : List UInt8), k ≤ s.size ∧ acc.length ≤ k ∧ i = .int .i64 k ∧ readL s.data.toList = ahead acc (readL (s.data.toList.drop k)) ∧ Bld w.heap.size w.heap.size acc wr ∧ Below w.heap.size w wr) (fun i _ => s.size - (intOf i).toNat)
  case atStart => exact ⟨0, [], by omega, by simp, rfl, by rw [ahead_nil]; rfl, Bld.fresh w _ (Nat.le_refl _), (Below.refl _ _).alloc (Nat.le_refl _) _⟩
  case round =>
    obtain ⟨k, acc, hk, hac, rfl, hall, hbd, hbw⟩ := hrel
    have hB := hbw.size
    by_cases hlt : k < s.size
    · have hd := drop_cons s k hlt
      by_cases c1 : s[k].toNat = 47
      · have h3 : ((s[k].toNat : Int) == 47) = true := byte_is c1 rfl
        rw [hd, ahead_slash acc _ c1] at hall
        have HA := Lib.hid hall
        have hx := extract_end s (k + 1)
        have HX := Lib.hid hx
        clear hall hd c1 hx
        have hwr : IntKind.i64.wrap ((k : Int) + 1) = (k : Int) + 1 := IntWalk.i64_in _ (by omega)
        have hwn : ((k : Int) + 1).toNat = k + 1 := by omega
        have hw0 : (0 : Int) ≤ (k : Int) + 1 := by omega
        have hw1 : (k : Int) + 1 ≤ (s.size : Int) := by omega
        go_wp2_with fail
        go_region_with (go_at_call 27; refine (builderString_any w.heap.size w.heap.size acc _ hbd.drew hB).mono ?_; rintro e w1 ⟨rfl, hb1⟩)
        go_wp2_with fail
        refine bodyPost_ret (results_four rfl _ _ _) rfl ⟨ret_val (by rw [HA.out]; simp [readV, HX.out, Act.put]), hbw.trans (Below.drew (Below.refl _ _) |>.trans hb1)⟩
      · have h3 : ((s[k].toNat : Int) == 47) = false := byte_ne c1 rfl
        by_cases c2 : s[k].toNat = 92
        · have h4 : ((s[k].toNat : Int) == 92) = true := byte_is c2 rfl
          by_cases h5 : k + 1 < s.size
          · have hd1 := drop_cons s (k + 1) h5
            have hmk := marked_any s[k + 1]
            have h6 : (((k : Int) + 1) == (s.size : Int)) = false := by rw [beq_eq_false_iff_ne]; omega
            cases hm : markB s[k + 1] with
            | true =>
              rw [hd, hd1, ahead_mark acc _ c2 hm] at hall
              rw [hm] at hmk
              have HA := Lib.hid hall
              have HM := Lib.hid hmk
              clear hall hd hd1 hm hmk c1 c2
              go_wp2_with fail
              refine (HM.out _).mono ?_
              rintro e w' ⟨rfl, rfl⟩
              go_wp2_with fail
              refine (writeByte_any w.heap.size w.heap.size acc s[k + 1] _ hbd (by omega) hB).mono ?_
              rintro e w1 ⟨rfl, hbd1, hb1, _⟩
              have hbw1 := hbw.trans hb1
              go_wp2_with fail
              go_roundw
              case rel => exact ⟨k + 1 + 1, _, by omega, by simp; omega, by go_num, HA.out, hbd1, hbw1⟩
              case measure => simp [intOf]; omega
            | false =>
              rw [hd, hd1, ahead_bad acc _ c2 hm] at hall
              rw [hm] at hmk
              have HA := Lib.hid hall
              have HM := Lib.hid hmk
              clear hall hd hd1 hm hmk c1 c2
              go_wp2_with fail
              refine (HM.out _).mono ?_
              rintro e w' ⟨rfl, rfl⟩
              go_wp2_with fail
              refine bodyPost_ret (results_four rfl _ _ _) rfl ⟨ret_val (by rw [HA.out]; simp [readV]), hbw⟩
          · have h6 : (((k : Int) + 1) == (s.size : Int)) = true := by rw [beq_iff_eq]; omega
            rw [hd, drop_end s (k + 1) h5, ahead_bad0 acc c2] at hall
            have HA := Lib.hid hall
            clear hall hd c1 c2
            go_wp2_with fail
            refine bodyPost_ret (results_four rfl _ _ _) rfl ⟨ret_val (by rw [HA.out]; simp [readV]), hbw⟩
        · have h4 : ((s[k].toNat : Int) == 92) = false := byte_ne c2 rfl
          rw [hd, ahead_plain acc _ c1 c2] at hall
          have HA := Lib.hid hall
          clear hall hd c1 c2
          go_wp2_with fail
          refine (writeByte_any w.heap.size w.heap.size acc s[k] _ hbd (by omega) hB).mono ?_
          rintro e w1 ⟨rfl, hbd1, hb1, _⟩
          have hbw1 := hbw.trans hb1
          go_wp2_with fail
          go_roundw
          case rel => exact ⟨k + 1, _, by omega, by simp; omega, by go_num, HA.out, hbd1, hbw1⟩
          case measure => simp [intOf]; omega
    · have hd := drop_end s k hlt
      rw [hd, ahead_end] at hall
      have HA := Lib.hid hall
      clear hall hd
      go_wp2_with fail
      refine (builderString_any w.heap.size w.heap.size acc _ hbd hB).mono ?_
      rintro e w1 ⟨rfl, hb1⟩
      go_wp2_with fail
      refine bodyPost_ret (results_four rfl _ _ _) rfl ⟨ret_val (by rw [HA.out]; rfl), hbw.trans hb1⟩

theorem mark_yes {x : UInt8} (h : markB x = true) : x.toNat = 92 ∨ x.toNat = 47 ∨ x.toNat = 35 := by
  simp only [markB, Bool.or_eq_true, beq_iff_eq] at h
  omega
theorem mark_not {x : UInt8} (h : markB x = false) : x.toNat ≠ 92 ∧ x.toNat ≠ 47 ∧ x.toNat ≠ 35 := by
  simp only [markB, Bool.or_eq_false_iff, beq_eq_false_iff_ne] at h
  omega
theorem bne_no {a b : Int} (h : (a == b) = true) : (a != b) = false := by simp [bne, h]
theorem bne_yes {a b : Int} (h : (a == b) = false) : (a != b) = true := by simp [bne, h]

set_option maxHeartbeats 2000000 in
theorem refRead_any (s : ByteArray) (w : World) (hs : s.size ≤ 140737488351232) :
    Calls Try.prog 24 #[.string s] w fun e w' => e = .returned (readV (readL s.data.toList)) ∧ Below w.heap.size w w' := by
  go_enter Try.func24, Try.ntmps24
  go_wp2
  go_loopw [6, 7] (fun v i wr => ∃ (k : Nat) (acc : List UInt8), k ≤ s.size ∧ acc.length ≤ k ∧ i = .int .i64 k ∧ readL s.data.toList = ahead acc (readL (s.data.toList.drop k)) ∧ Own w.heap.size v acc wr ∧ Below w.heap.size w wr) (fun _ i _ => s.size - (intOf i).toNat)
  case atStart => exact ⟨0, [], by omega, by simp, rfl, by rw [ahead_nil]; rfl, Own.made _ _ (Nat.le_refl _), (Below.refl _ _).alloc (Nat.le_refl _) _⟩
  case round =>
    obtain ⟨k, acc, hk, hac, rfl, hall, hown, hbw⟩ := hrel
    have hB := hbw.size
    by_cases hlt : k < s.size
    · have hd := drop_cons s k hlt
      by_cases c1 : s[k].toNat = 47
      · have h3 : ((s[k].toNat : Int) == 47) = true := byte_is c1 rfl
        rw [hd, ahead_slash acc _ c1] at hall
        have HA := Lib.hid hall
        have hx := extract_end s (k + 1)
        have HX := Lib.hid hx
        have hst := fun n => run_string_own (hown.drewN n)
        clear hall hd c1 hx
        have hwr : IntKind.i64.wrap ((k : Int) + 1) = (k : Int) + 1 := IntWalk.i64_in _ (by omega)
        have hwn : ((k : Int) + 1).toNat = k + 1 := by omega
        have hw0 : (0 : Int) ≤ (k : Int) + 1 := by omega
        have hw1 : (k : Int) + 1 ≤ (s.size : Int) := by omega
        go_wp2_with fail
        go_quiet (fail)
        go_wp2_with fail
        refine bodyPost_ret (results_four rfl _ _ _) rfl ⟨ret_val (by rw [HA.out]; simp [readV, HX.out]), hbw.trans (below_drewN _ _ _)⟩
      · have h3 : ((s[k].toNat : Int) == 47) = false := byte_ne c1 rfl
        by_cases c2 : s[k].toNat = 92
        · have h4 : ((s[k].toNat : Int) == 92) = true := byte_is c2 rfl
          by_cases h5 : k + 1 < s.size
          · have hd1 := drop_cons s (k + 1) h5
            cases hm : markB s[k + 1] with
            | true =>
              rw [hd, hd1, ahead_mark acc _ c2 hm] at hall
              have HA := Lib.hid hall
              have hm2 := mark_yes hm
              clear hall hd hd1 hm c1 c2
              by_cases m1 : s[k + 1].toNat = 92
              · have n1 : ((s[k + 1].toNat : Int) != 92) = false := bne_no (byte_is m1 rfl)
                clear hm2 m1
                go_wp2_with (at_builtin; refine wpList_append_byte rfl _ _ rfl w.heap.size _ acc _ s[k + 1] rfl rfl ?ho ?c1 ?c2 ?_)
                case ho => exact hown
                case c1 => omega
                case c2 => exact hB
                intro v1 w1 hown1 _ hb1
                have hbw1 := hbw.trans hb1
                go_wp2_with fail
                go_roundw
                case rel => exact ⟨k + 1 + 1, _, by omega, by simp; omega, by go_num, HA.out, hown1, hbw1⟩
                case measure => simp [intOf]; omega
              · have n1 : ((s[k + 1].toNat : Int) != 92) = true := bne_yes (byte_ne m1 rfl)
                by_cases m2 : s[k + 1].toNat = 47
                · have n2 : ((s[k + 1].toNat : Int) != 47) = false := bne_no (byte_is m2 rfl)
                  clear hm2 m1 m2
                  go_wp2_with (at_builtin; refine wpList_append_byte rfl _ _ rfl w.heap.size _ acc _ s[k + 1] rfl rfl ?ho ?c1 ?c2 ?_)
                  case ho => exact hown
                  case c1 => omega
                  case c2 => exact hB
                  intro v1 w1 hown1 _ hb1
                  have hbw1 := hbw.trans hb1
                  go_wp2_with fail
                  go_roundw
                  case rel => exact ⟨k + 1 + 1, _, by omega, by simp; omega, by go_num, HA.out, hown1, hbw1⟩
                  case measure => simp [intOf]; omega
                · have n2 : ((s[k + 1].toNat : Int) != 47) = true := bne_yes (byte_ne m2 rfl)
                  have n3 : ((s[k + 1].toNat : Int) != 35) = false := bne_no (byte_is (n := 35) (by omega) rfl)
                  clear hm2 m1 m2
                  go_wp2_with (at_builtin; refine wpList_append_byte rfl _ _ rfl w.heap.size _ acc _ s[k + 1] rfl rfl ?ho ?c1 ?c2 ?_)
                  case ho => exact hown
                  case c1 => omega
                  case c2 => exact hB
                  intro v1 w1 hown1 _ hb1
                  have hbw1 := hbw.trans hb1
                  go_wp2_with fail
                  go_roundw
                  case rel => exact ⟨k + 1 + 1, _, by omega, by simp; omega, by go_num, HA.out, hown1, hbw1⟩
                  case measure => simp [intOf]; omega
            | false =>
              rw [hd, hd1, ahead_bad acc _ c2 hm] at hall
              have HA := Lib.hid hall
              have hm2 := mark_not hm
              have n1 : ((s[k + 1].toNat : Int) != 92) = true := bne_yes (byte_ne hm2.1 rfl)
              have n2 : ((s[k + 1].toNat : Int) != 47) = true := bne_yes (byte_ne hm2.2.1 rfl)
              have n3 : ((s[k + 1].toNat : Int) != 35) = true := bne_yes (byte_ne hm2.2.2 rfl)
              clear hall hd hd1 hm c1 c2 hm2
              go_wp2_with fail
              refine bodyPost_ret (results_four rfl _ _ _) rfl ⟨ret_val (by rw [HA.out]; simp [readV]), hbw⟩
          · rw [hd, drop_end s (k + 1) h5, ahead_bad0 acc c2] at hall
            have HA := Lib.hid hall
            clear hall hd c1 c2
            go_wp2_with fail
            refine bodyPost_ret (results_four rfl _ _ _) rfl ⟨ret_val (by rw [HA.out]; simp [readV]), hbw⟩
        · have h4 : ((s[k].toNat : Int) == 92) = false := byte_ne c2 rfl
          rw [hd, ahead_plain acc _ c1 c2] at hall
          have HA := Lib.hid hall
          clear hall hd c1 c2
          go_wp2_with (at_builtin; refine wpList_append_byte rfl _ _ rfl w.heap.size _ acc _ s[k] rfl rfl ?ho ?c1 ?c2 ?_)
          case ho => exact hown
          case c1 => omega
          case c2 => exact hB
          intro v1 w1 hown1 _ hb1
          have hbw1 := hbw.trans hb1
          go_wp2_with fail
          go_roundw
          case rel => exact ⟨k + 1, _, by omega, by simp; omega, by go_num, HA.out, hown1, hbw1⟩
          case measure => simp [intOf]; omega
    · have hd := drop_end s k hlt
      rw [hd, ahead_end] at hall
      have HA := Lib.hid hall
      have hst := run_string_own hown
      clear hall hd
      go_wp2_with fail
      refine bodyPost_ret (results_four rfl _ _ _) rfl ⟨ret_val (by rw [HA.out]; rfl), hbw⟩
end Go.Proofs.Ytanikiheenhaeaa
