/- Part 10 of the proof of auditOrder_holds: DutO, DutF. Every text below begins with what it shows. -/
import Derived.Test.YtmpoffijcfaalaaGreatRows
import Derived.Test.YtmpoffijcfaalaaGreatAu9

/- The arguments of the laws, opened: written by specs7.py. -/

namespace Go.Proofs.YtmpoffijcfaalaaGreat
open Go.Eng Go.YtmpoffijcfaalaaGreat

theorem cells_3 : Tryz.prog.cellsOf 3 = 1 := by kernel_rfl
theorem opens_3 : Opens Tryz.prog 3 repInt := opens_int Tryz.underlying3
theorem cells_9 : Tryz.prog.cellsOf 9 = 1 := by kernel_rfl
theorem opens_9 : Opens Tryz.prog 9 repStr := opens_str Tryz.underlying9
theorem cells_90 : Tryz.prog.cellsOf 90 = 3 := by kernel_rfl
theorem opens_90 : Opens Tryz.prog 90 rPlace := by
 intro H enc w fuel cs x h
 have hl := struct_len Tryz.underlying90 h
 rw [cells_90] at hl
 obtain ⟨x0, e0, w0⟩ := field_opens Tryz.underlying90 h 0 0 1 rfl cells_3 opens_3
 obtain ⟨x1, e1, w1⟩ := field_opens Tryz.underlying90 h 1 1 1 rfl cells_9 opens_9
 obtain ⟨x2, e2, w2⟩ := field_opens Tryz.underlying90 h 2 2 1 rfl cells_3 opens_3
 have h0 : cs = cs.drop 0 := rfl
 rw [cut cs 0 1 1 rfl, e0, cut cs 1 1 2 rfl, e1, cut cs 2 1 3 rfl, e2, List.drop_eq_nil_of_le (Nat.le_of_eq hl)] at h0
 exact ⟨⟨x0, x1, x2⟩, (), h0, by simp, w0, w1, w2⟩
theorem cells_22 : Tryz.prog.cellsOf 22 = 1 := by kernel_rfl
theorem opens_22 : Opens Tryz.prog 22 (@repList TPlace rPlace) := opens_list Tryz.underlying22 cells_90 (by decide) opens_90
theorem cells_24 : Tryz.prog.cellsOf 24 = 7 := by kernel_rfl
theorem opens_24 : Opens Tryz.prog 24 rPlan := by
 intro H enc w fuel cs x h
 have hl := struct_len Tryz.underlying24 h
 rw [cells_24] at hl
 obtain ⟨x0, e0, w0⟩ := field_opens Tryz.underlying24 h 0 0 1 rfl cells_3 opens_3
 obtain ⟨x1, e1, w1⟩ := field_opens Tryz.underlying24 h 1 1 1 rfl cells_3 opens_3
 obtain ⟨x2, e2, w2⟩ := field_opens Tryz.underlying24 h 2 2 1 rfl cells_3 opens_3
 obtain ⟨x3, e3, w3⟩ := field_opens Tryz.underlying24 h 3 3 1 rfl cells_9 opens_9
 obtain ⟨x4, e4, w4⟩ := field_opens Tryz.underlying24 h 4 4 1 rfl cells_9 opens_9
 obtain ⟨x5, e5, w5⟩ := field_opens Tryz.underlying24 h 5 5 1 rfl cells_3 opens_3
 obtain ⟨x6, e6, w6⟩ := field_opens Tryz.underlying24 h 6 6 1 rfl cells_3 opens_3
 have h0 : cs = cs.drop 0 := rfl
 rw [cut cs 0 1 1 rfl, e0, cut cs 1 1 2 rfl, e1, cut cs 2 1 3 rfl, e2, cut cs 3 1 4 rfl, e3, cut cs 4 1 5 rfl, e4, cut cs 5 1 6 rfl, e5, cut cs 6 1 7 rfl, e6, List.drop_eq_nil_of_le (Nat.le_of_eq hl)] at h0
 exact ⟨⟨x0, x1, x2, x3, x4, x5, x6⟩, (), h0, by simp, w0, w1, w2, w3, w4, w5, w6⟩
theorem cells_4 : Tryz.prog.cellsOf 4 = 1 := by kernel_rfl
theorem opens_4 : Opens Tryz.prog 4 repBool := opens_bool Tryz.underlying4
theorem cells_38 : Tryz.prog.cellsOf 38 = 1 := by kernel_rfl
theorem opens_38 : Opens Tryz.prog 38 repInt := opens_int Tryz.underlying38
theorem cells_120 : Tryz.prog.cellsOf 120 = 4 := by kernel_rfl
theorem opens_120 : Opens Tryz.prog 120 rAnswer := by
 intro H enc w fuel cs x h
 have hl := struct_len Tryz.underlying120 h
 rw [cells_120] at hl
 obtain ⟨x0, e0, w0⟩ := field_opens Tryz.underlying120 h 0 0 1 rfl cells_38 opens_38
 obtain ⟨x1, e1, w1⟩ := field_opens Tryz.underlying120 h 1 1 1 rfl cells_3 opens_3
 obtain ⟨x2, e2, w2⟩ := field_opens Tryz.underlying120 h 2 2 1 rfl cells_3 opens_3
 obtain ⟨x3, e3, w3⟩ := field_opens Tryz.underlying120 h 3 3 1 rfl cells_3 opens_3
 have h0 : cs = cs.drop 0 := rfl
 rw [cut cs 0 1 1 rfl, e0, cut cs 1 1 2 rfl, e1, cut cs 2 1 3 rfl, e2, cut cs 3 1 4 rfl, e3, List.drop_eq_nil_of_le (Nat.le_of_eq hl)] at h0
 exact ⟨⟨x0, x1, x2, x3⟩, (), h0, by simp, w0, w1, w2, w3⟩
theorem cells_122 : Tryz.prog.cellsOf 122 = 7 := by kernel_rfl
theorem opens_122 : Opens Tryz.prog 122 rMark := by
 intro H enc w fuel cs x h
 have hl := struct_len Tryz.underlying122 h
 rw [cells_122] at hl
 obtain ⟨x0, e0, w0⟩ := field_opens Tryz.underlying122 h 0 0 1 rfl cells_3 opens_3
 obtain ⟨x1, e1, w1⟩ := field_opens Tryz.underlying122 h 1 1 1 rfl cells_3 opens_3
 obtain ⟨x2, e2, w2⟩ := field_opens Tryz.underlying122 h 2 2 1 rfl cells_4 opens_4
 obtain ⟨x3, h3, e3, s3, w3⟩ := field_opens Tryz.underlying122 h 3 3 4 rfl cells_120 opens_120
 have h0 : cs = cs.drop 0 := rfl
 rw [cut cs 0 1 1 rfl, e0, cut cs 1 1 2 rfl, e1, cut cs 2 1 3 rfl, e2, cut cs 3 4 7 rfl, e3, List.drop_eq_nil_of_le (Nat.le_of_eq hl)] at h0
 exact ⟨⟨x0, x1, x2, x3⟩, (), h0, by simp, w0, w1, trivial, w3⟩
theorem cells_25 : Tryz.prog.cellsOf 25 = 1 := by kernel_rfl
theorem opens_25 : Opens Tryz.prog 25 (@repList TMark rMark) := opens_list Tryz.underlying25 cells_122 (by decide) opens_122
theorem cells_27 : Tryz.prog.cellsOf 27 = 12 := by kernel_rfl
theorem opens_27 : Opens Tryz.prog 27 rChart := by
 intro H enc w fuel cs x h
 have hl := struct_len Tryz.underlying27 h
 rw [cells_27] at hl
 obtain ⟨x0, e0, w0⟩ := field_opens Tryz.underlying27 h 0 0 1 rfl cells_3 opens_3
 obtain ⟨x1, r1⟩ := field_opens Tryz.underlying27 h 1 1 1 rfl cells_22 opens_22
 obtain ⟨k1, e1, a1⟩ := list_atom r1
 obtain ⟨x2, e2, w2⟩ := field_opens Tryz.underlying27 h 2 2 1 rfl cells_3 opens_3
 obtain ⟨x3, e3, w3⟩ := field_opens Tryz.underlying27 h 3 3 1 rfl cells_3 opens_3
 obtain ⟨x4, h4, e4, s4, w4⟩ := field_opens Tryz.underlying27 h 4 4 7 rfl cells_24 opens_24
 obtain ⟨x5, r5⟩ := field_opens Tryz.underlying27 h 5 11 1 rfl cells_25 opens_25
 obtain ⟨k5, e5, a5⟩ := list_atom r5
 have h0 : cs = cs.drop 0 := rfl
 rw [cut cs 0 1 1 rfl, e0, cut cs 1 1 2 rfl, e1, cut cs 2 1 3 rfl, e2, cut cs 3 1 4 rfl, e3, cut cs 4 7 11 rfl, e4, cut cs 11 1 12 rfl, e5, List.drop_eq_nil_of_le (Nat.le_of_eq hl)] at h0
 exact ⟨⟨x0, x1, x2, x3, x4, x5⟩, ⟨k1, k5⟩, h0, fun t ht => by
  simp only [List.mem_cons, List.not_mem_nil, or_false] at ht
  rcases ht with rfl | rfl
  ·
   exact a1
  ·
   exact a5, w0, trivial, w2, w3, w4, trivial⟩
theorem cells_65 : Tryz.prog.cellsOf 65 = 2 := by kernel_rfl
theorem opens_65 : Opens Tryz.prog 65 rSpan := by
 intro H enc w fuel cs x h
 have hl := struct_len Tryz.underlying65 h
 rw [cells_65] at hl
 obtain ⟨x0, e0, w0⟩ := field_opens Tryz.underlying65 h 0 0 1 rfl cells_3 opens_3
 obtain ⟨x1, e1, w1⟩ := field_opens Tryz.underlying65 h 1 1 1 rfl cells_3 opens_3
 have h0 : cs = cs.drop 0 := rfl
 rw [cut cs 0 1 1 rfl, e0, cut cs 1 1 2 rfl, e1, List.drop_eq_nil_of_le (Nat.le_of_eq hl)] at h0
 exact ⟨⟨x0, x1⟩, (), h0, by simp, w0, w1⟩
theorem cells_165 : Tryz.prog.cellsOf 165 = 4 := by kernel_rfl
theorem opens_165 : Opens Tryz.prog 165 rHolder := by
 intro H enc w fuel cs x h
 have hl := struct_len Tryz.underlying165 h
 rw [cells_165] at hl
 obtain ⟨x0, e0, w0⟩ := field_opens Tryz.underlying165 h 0 0 1 rfl cells_3 opens_3
 obtain ⟨x1, e1, w1⟩ := field_opens Tryz.underlying165 h 1 1 1 rfl cells_3 opens_3
 obtain ⟨x2, e2, w2⟩ := field_opens Tryz.underlying165 h 2 2 1 rfl cells_3 opens_3
 obtain ⟨x3, e3, w3⟩ := field_opens Tryz.underlying165 h 3 3 1 rfl cells_3 opens_3
 have h0 : cs = cs.drop 0 := rfl
 rw [cut cs 0 1 1 rfl, e0, cut cs 1 1 2 rfl, e1, cut cs 2 1 3 rfl, e2, cut cs 3 1 4 rfl, e3, List.drop_eq_nil_of_le (Nat.le_of_eq hl)] at h0
 exact ⟨⟨x0, x1, x2, x3⟩, (), h0, by simp, w0, w1, w2, w3⟩
theorem cells_66 : Tryz.prog.cellsOf 66 = 1 := by kernel_rfl
theorem opens_66 : Opens Tryz.prog 66 (@repList THolder rHolder) := opens_list Tryz.underlying66 cells_165 (by decide) opens_165
theorem cells_68 : Tryz.prog.cellsOf 68 = 4 := by kernel_rfl
theorem opens_68 : Opens Tryz.prog 68 rLock := by
 intro H enc w fuel cs x h
 have hl := struct_len Tryz.underlying68 h
 rw [cells_68] at hl
 obtain ⟨x0, e0, w0⟩ := field_opens Tryz.underlying68 h 0 0 1 rfl cells_3 opens_3
 obtain ⟨x1, e1, w1⟩ := field_opens Tryz.underlying68 h 1 1 1 rfl cells_3 opens_3
 obtain ⟨x2, e2, w2⟩ := field_opens Tryz.underlying68 h 2 2 1 rfl cells_3 opens_3
 obtain ⟨x3, e3, w3⟩ := field_opens Tryz.underlying68 h 3 3 1 rfl cells_3 opens_3
 have h0 : cs = cs.drop 0 := rfl
 rw [cut cs 0 1 1 rfl, e0, cut cs 1 1 2 rfl, e1, cut cs 2 1 3 rfl, e2, cut cs 3 1 4 rfl, e3, List.drop_eq_nil_of_le (Nat.le_of_eq hl)] at h0
 exact ⟨⟨x0, x1, x2, x3⟩, (), h0, by simp, w0, w1, w2, w3⟩
theorem cells_70 : Tryz.prog.cellsOf 70 = 10 := by kernel_rfl
theorem opens_70 : Opens Tryz.prog 70 rAccount := by
 intro H enc w fuel cs x h
 have hl := struct_len Tryz.underlying70 h
 rw [cells_70] at hl
 obtain ⟨x0, e0, w0⟩ := field_opens Tryz.underlying70 h 0 0 1 rfl cells_9 opens_9
 obtain ⟨x1, h1, e1, s1, w1⟩ := field_opens Tryz.underlying70 h 1 1 2 rfl cells_65 opens_65
 obtain ⟨x2, e2, w2⟩ := field_opens Tryz.underlying70 h 2 3 1 rfl cells_3 opens_3
 obtain ⟨x3, e3, w3⟩ := field_opens Tryz.underlying70 h 3 4 1 rfl cells_3 opens_3
 obtain ⟨x4, r4⟩ := field_opens Tryz.underlying70 h 4 5 1 rfl cells_66 opens_66
 obtain ⟨k4, e4, a4⟩ := list_atom r4
 obtain ⟨x5, h5, e5, s5, w5⟩ := field_opens Tryz.underlying70 h 5 6 4 rfl cells_68 opens_68
 have h0 : cs = cs.drop 0 := rfl
 rw [cut cs 0 1 1 rfl, e0, cut cs 1 2 3 rfl, e1, cut cs 3 1 4 rfl, e2, cut cs 4 1 5 rfl, e3, cut cs 5 1 6 rfl, e4, cut cs 6 4 10 rfl, e5, List.drop_eq_nil_of_le (Nat.le_of_eq hl)] at h0
 exact ⟨⟨x0, x1, x2, x3, x4, x5⟩, k4, h0, fun t ht => by
  simp only [List.mem_cons, List.not_mem_nil, or_false] at ht
  subst ht
  ·
   exact a4, w0, w1, w2, w3, trivial, w5⟩
theorem cells_50 : Tryz.prog.cellsOf 50 = 1 := by kernel_rfl
theorem opens_50 : Opens Tryz.prog 50 (@repList TAccount rAccount) := opens_list Tryz.underlying50 cells_70 (by decide) opens_70
theorem cells_34 : Tryz.prog.cellsOf 34 = 6 := by kernel_rfl
theorem opens_34 : Opens Tryz.prog 34 rOp := by
 intro H enc w fuel cs x h
 have hl := struct_len Tryz.underlying34 h
 rw [cells_34] at hl
 obtain ⟨x0, e0, w0⟩ := field_opens Tryz.underlying34 h 0 0 1 rfl cells_3 opens_3
 obtain ⟨x1, e1, w1⟩ := field_opens Tryz.underlying34 h 1 1 1 rfl cells_9 opens_9
 obtain ⟨x2, e2, w2⟩ := field_opens Tryz.underlying34 h 2 2 1 rfl cells_9 opens_9
 obtain ⟨x3, e3, w3⟩ := field_opens Tryz.underlying34 h 3 3 1 rfl cells_3 opens_3
 obtain ⟨x4, e4, w4⟩ := field_opens Tryz.underlying34 h 4 4 1 rfl cells_3 opens_3
 obtain ⟨x5, e5, w5⟩ := field_opens Tryz.underlying34 h 5 5 1 rfl cells_3 opens_3
 have h0 : cs = cs.drop 0 := rfl
 rw [cut cs 0 1 1 rfl, e0, cut cs 1 1 2 rfl, e1, cut cs 2 1 3 rfl, e2, cut cs 3 1 4 rfl, e3, cut cs 4 1 5 rfl, e4, cut cs 5 1 6 rfl, e5, List.drop_eq_nil_of_le (Nat.le_of_eq hl)] at h0
 exact ⟨⟨x0, x1, x2, x3, x4, x5⟩, (), h0, by simp, w0, w1, w2, w3, w4, w5⟩
theorem cells_108 : Tryz.prog.cellsOf 108 = 11 := by kernel_rfl
theorem opens_108 : Opens Tryz.prog 108 rWait := by
 intro H enc w fuel cs x h
 have hl := struct_len Tryz.underlying108 h
 rw [cells_108] at hl
 obtain ⟨x0, e0, w0⟩ := field_opens Tryz.underlying108 h 0 0 1 rfl cells_3 opens_3
 obtain ⟨x1, e1, w1⟩ := field_opens Tryz.underlying108 h 1 1 1 rfl cells_3 opens_3
 obtain ⟨x2, e2, w2⟩ := field_opens Tryz.underlying108 h 2 2 1 rfl cells_3 opens_3
 obtain ⟨x3, e3, w3⟩ := field_opens Tryz.underlying108 h 3 3 1 rfl cells_3 opens_3
 obtain ⟨x4, e4, w4⟩ := field_opens Tryz.underlying108 h 4 4 1 rfl cells_3 opens_3
 obtain ⟨x5, h5, e5, s5, w5⟩ := field_opens Tryz.underlying108 h 5 5 6 rfl cells_34 opens_34
 have h0 : cs = cs.drop 0 := rfl
 rw [cut cs 0 1 1 rfl, e0, cut cs 1 1 2 rfl, e1, cut cs 2 1 3 rfl, e2, cut cs 3 1 4 rfl, e3, cut cs 4 1 5 rfl, e4, cut cs 5 6 11 rfl, e5, List.drop_eq_nil_of_le (Nat.le_of_eq hl)] at h0
 exact ⟨⟨x0, x1, x2, x3, x4, x5⟩, (), h0, by simp, w0, w1, w2, w3, w4, w5⟩
theorem cells_51 : Tryz.prog.cellsOf 51 = 1 := by kernel_rfl
theorem opens_51 : Opens Tryz.prog 51 (@repList TWait rWait) := opens_list Tryz.underlying51 cells_108 (by decide) opens_108
theorem cells_126 : Tryz.prog.cellsOf 126 = 8 := by kernel_rfl
theorem opens_126 : Opens Tryz.prog 126 rDeal := by
 intro H enc w fuel cs x h
 have hl := struct_len Tryz.underlying126 h
 rw [cells_126] at hl
 obtain ⟨x0, e0, w0⟩ := field_opens Tryz.underlying126 h 0 0 1 rfl cells_3 opens_3
 obtain ⟨x1, e1, w1⟩ := field_opens Tryz.underlying126 h 1 1 1 rfl cells_3 opens_3
 obtain ⟨x2, e2, w2⟩ := field_opens Tryz.underlying126 h 2 2 1 rfl cells_9 opens_9
 obtain ⟨x3, e3, w3⟩ := field_opens Tryz.underlying126 h 3 3 1 rfl cells_9 opens_9
 obtain ⟨x4, e4, w4⟩ := field_opens Tryz.underlying126 h 4 4 1 rfl cells_3 opens_3
 obtain ⟨x5, e5, w5⟩ := field_opens Tryz.underlying126 h 5 5 1 rfl cells_3 opens_3
 obtain ⟨x6, e6, w6⟩ := field_opens Tryz.underlying126 h 6 6 1 rfl cells_3 opens_3
 obtain ⟨x7, e7, w7⟩ := field_opens Tryz.underlying126 h 7 7 1 rfl cells_3 opens_3
 have h0 : cs = cs.drop 0 := rfl
 rw [cut cs 0 1 1 rfl, e0, cut cs 1 1 2 rfl, e1, cut cs 2 1 3 rfl, e2, cut cs 3 1 4 rfl, e3, cut cs 4 1 5 rfl, e4, cut cs 5 1 6 rfl, e5, cut cs 6 1 7 rfl, e6, cut cs 7 1 8 rfl, e7, List.drop_eq_nil_of_le (Nat.le_of_eq hl)] at h0
 exact ⟨⟨x0, x1, x2, x3, x4, x5, x6, x7⟩, (), h0, by simp, w0, w1, w2, w3, w4, w5, w6, w7⟩
theorem cells_52 : Tryz.prog.cellsOf 52 = 1 := by kernel_rfl
theorem opens_52 : Opens Tryz.prog 52 (@repList TDeal rDeal) := opens_list Tryz.underlying52 cells_126 (by decide) opens_126
theorem cells_129 : Tryz.prog.cellsOf 129 = 2 := by kernel_rfl
theorem opens_129 : Opens Tryz.prog 129 rEnd := by
 intro H enc w fuel cs x h
 have hl := struct_len Tryz.underlying129 h
 rw [cells_129] at hl
 obtain ⟨x0, e0, w0⟩ := field_opens Tryz.underlying129 h 0 0 1 rfl cells_3 opens_3
 obtain ⟨x1, e1, w1⟩ := field_opens Tryz.underlying129 h 1 1 1 rfl cells_3 opens_3
 have h0 : cs = cs.drop 0 := rfl
 rw [cut cs 0 1 1 rfl, e0, cut cs 1 1 2 rfl, e1, List.drop_eq_nil_of_le (Nat.le_of_eq hl)] at h0
 exact ⟨⟨x0, x1⟩, (), h0, by simp, w0, w1⟩
theorem cells_53 : Tryz.prog.cellsOf 53 = 1 := by kernel_rfl
theorem opens_53 : Opens Tryz.prog 53 (@repList TEnd rEnd) := opens_list Tryz.underlying53 cells_129 (by decide) opens_129
theorem cells_5 : Tryz.prog.cellsOf 5 = 1 := by kernel_rfl
theorem opens_5 : Opens Tryz.prog 5 repByte := opens_byte Tryz.underlying5
theorem cells_35 : Tryz.prog.cellsOf 35 = 1 := by kernel_rfl
theorem opens_35 : Opens Tryz.prog 35 (@repList UInt8 repByte) := opens_list Tryz.underlying35 cells_5 (by decide) opens_5
theorem cells_55 : Tryz.prog.cellsOf 55 = 29 := by kernel_rfl
theorem opens_55 : Opens Tryz.prog 55 rState := by
 intro H enc w fuel cs x h
 have hl := struct_len Tryz.underlying55 h
 rw [cells_55] at hl
 obtain ⟨x0, e0, w0⟩ := field_opens Tryz.underlying55 h 0 0 1 rfl cells_3 opens_3
 obtain ⟨x1, e1, w1⟩ := field_opens Tryz.underlying55 h 1 1 1 rfl cells_3 opens_3
 obtain ⟨x2, e2, w2⟩ := field_opens Tryz.underlying55 h 2 2 1 rfl cells_4 opens_4
 obtain ⟨x3, e3, w3⟩ := field_opens Tryz.underlying55 h 3 3 1 rfl cells_9 opens_9
 obtain ⟨x4, e4, w4⟩ := field_opens Tryz.underlying55 h 4 4 1 rfl cells_9 opens_9
 obtain ⟨x5, e5, w5⟩ := field_opens Tryz.underlying55 h 5 5 1 rfl cells_3 opens_3
 obtain ⟨x6, r6⟩ := field_opens Tryz.underlying55 h 6 6 1 rfl cells_50 opens_50
 obtain ⟨k6, e6, a6⟩ := list_atom r6
 obtain ⟨x7, r7⟩ := field_opens Tryz.underlying55 h 7 7 1 rfl cells_25 opens_25
 obtain ⟨k7, e7, a7⟩ := list_atom r7
 obtain ⟨x8, r8⟩ := field_opens Tryz.underlying55 h 8 8 1 rfl cells_51 opens_51
 obtain ⟨k8, e8, a8⟩ := list_atom r8
 obtain ⟨x9, r9⟩ := field_opens Tryz.underlying55 h 9 9 1 rfl cells_52 opens_52
 obtain ⟨k9, e9, a9⟩ := list_atom r9
 obtain ⟨x10, r10⟩ := field_opens Tryz.underlying55 h 10 10 1 rfl cells_53 opens_53
 obtain ⟨k10, e10, a10⟩ := list_atom r10
 obtain ⟨x11, h11, e11, s11, w11⟩ := field_opens Tryz.underlying55 h 11 11 7 rfl cells_24 opens_24
 obtain ⟨x12, h12, e12, s12, w12⟩ := field_opens Tryz.underlying55 h 12 18 7 rfl cells_24 opens_24
 obtain ⟨x13, r13⟩ := field_opens Tryz.underlying55 h 13 25 1 rfl cells_35 opens_35
 obtain ⟨k13, e13, a13⟩ := list_atom r13
 obtain ⟨x14, e14, w14⟩ := field_opens Tryz.underlying55 h 14 26 1 rfl cells_3 opens_3
 obtain ⟨x15, e15, w15⟩ := field_opens Tryz.underlying55 h 15 27 1 rfl cells_3 opens_3
 obtain ⟨x16, e16, w16⟩ := field_opens Tryz.underlying55 h 16 28 1 rfl cells_3 opens_3
 have h0 : cs = cs.drop 0 := rfl
 rw [cut cs 0 1 1 rfl, e0, cut cs 1 1 2 rfl, e1, cut cs 2 1 3 rfl, e2, cut cs 3 1 4 rfl, e3, cut cs 4 1 5 rfl, e4, cut cs 5 1 6 rfl, e5, cut cs 6 1 7 rfl, e6, cut cs 7 1 8 rfl, e7, cut cs 8 1 9 rfl, e8, cut cs 9 1 10 rfl, e9, cut cs 10 1 11 rfl, e10, cut cs 11 7 18 rfl, e11, cut cs 18 7 25 rfl, e12, cut cs 25 1 26 rfl, e13, cut cs 26 1 27 rfl, e14, cut cs 27 1 28 rfl, e15, cut cs 28 1 29 rfl, e16, List.drop_eq_nil_of_le (Nat.le_of_eq hl)] at h0
 exact ⟨⟨x0, x1, x2, x3, x4, x5, x6, x7, x8, x9, x10, x11, x12, x13, x14, x15, x16⟩, ⟨k6, k7, k8, k9, k10, k13⟩, h0, fun t ht => by
  simp only [List.mem_cons, List.not_mem_nil, or_false] at ht
  rcases ht with rfl | rfl | rfl | rfl | rfl | rfl
  ·
   exact a6
  ·
   exact a7
  ·
   exact a8
  ·
   exact a9
  ·
   exact a10
  ·
   exact a13, w0, w1, trivial, w3, w4, w5, trivial, trivial, trivial, trivial, trivial, w11, w12, trivial, w14, w15, w16⟩
theorem cells_28 : Tryz.prog.cellsOf 28 = 1 := by kernel_rfl
theorem opens_28 : Opens Tryz.prog 28 (@repList TState rState) := opens_list Tryz.underlying28 cells_55 (by decide) opens_55
theorem cells_59 : Tryz.prog.cellsOf 59 = 4 := by kernel_rfl
theorem opens_59 : Opens Tryz.prog 59 rRight := by
 intro H enc w fuel cs x h
 have hl := struct_len Tryz.underlying59 h
 rw [cells_59] at hl
 obtain ⟨x0, e0, w0⟩ := field_opens Tryz.underlying59 h 0 0 1 rfl cells_3 opens_3
 obtain ⟨x1, e1, w1⟩ := field_opens Tryz.underlying59 h 1 1 1 rfl cells_9 opens_9
 obtain ⟨x2, e2, w2⟩ := field_opens Tryz.underlying59 h 2 2 1 rfl cells_3 opens_3
 obtain ⟨x3, e3, w3⟩ := field_opens Tryz.underlying59 h 3 3 1 rfl cells_3 opens_3
 have h0 : cs = cs.drop 0 := rfl
 rw [cut cs 0 1 1 rfl, e0, cut cs 1 1 2 rfl, e1, cut cs 2 1 3 rfl, e2, cut cs 3 1 4 rfl, e3, List.drop_eq_nil_of_le (Nat.le_of_eq hl)] at h0
 exact ⟨⟨x0, x1, x2, x3⟩, (), h0, by simp, w0, w1, w2, w3⟩
theorem cells_29 : Tryz.prog.cellsOf 29 = 1 := by kernel_rfl
theorem opens_29 : Opens Tryz.prog 29 (@repList TRight rRight) := opens_list Tryz.underlying29 cells_59 (by decide) opens_59
theorem cells_62 : Tryz.prog.cellsOf 62 = 3 := by kernel_rfl
theorem opens_62 : Opens Tryz.prog 62 rAge := by
 intro H enc w fuel cs x h
 have hl := struct_len Tryz.underlying62 h
 rw [cells_62] at hl
 obtain ⟨x0, e0, w0⟩ := field_opens Tryz.underlying62 h 0 0 1 rfl cells_3 opens_3
 obtain ⟨x1, e1, w1⟩ := field_opens Tryz.underlying62 h 1 1 1 rfl cells_3 opens_3
 obtain ⟨x2, e2, w2⟩ := field_opens Tryz.underlying62 h 2 2 1 rfl cells_3 opens_3
 have h0 : cs = cs.drop 0 := rfl
 rw [cut cs 0 1 1 rfl, e0, cut cs 1 1 2 rfl, e1, cut cs 2 1 3 rfl, e2, List.drop_eq_nil_of_le (Nat.le_of_eq hl)] at h0
 exact ⟨⟨x0, x1, x2⟩, (), h0, by simp, w0, w1, w2⟩
theorem cells_30 : Tryz.prog.cellsOf 30 = 1 := by kernel_rfl
theorem opens_30 : Opens Tryz.prog 30 (@repList TAge rAge) := opens_list Tryz.underlying30 cells_62 (by decide) opens_62
theorem cells_32 : Tryz.prog.cellsOf 32 = 17 := by kernel_rfl
theorem opens_32 : Opens Tryz.prog 32 rScene := by
 intro H enc w fuel cs x h
 have hl := struct_len Tryz.underlying32 h
 rw [cells_32] at hl
 obtain ⟨x0, e0, w0⟩ := field_opens Tryz.underlying32 h 0 0 1 rfl cells_3 opens_3
 obtain ⟨x1, e1, w1⟩ := field_opens Tryz.underlying32 h 1 1 1 rfl cells_3 opens_3
 obtain ⟨x2, h2, e2, s2, w2⟩ := field_opens Tryz.underlying32 h 2 2 12 rfl cells_27 opens_27
 obtain ⟨x3, r3⟩ := field_opens Tryz.underlying32 h 3 14 1 rfl cells_28 opens_28
 obtain ⟨k3, e3, a3⟩ := list_atom r3
 obtain ⟨x4, r4⟩ := field_opens Tryz.underlying32 h 4 15 1 rfl cells_29 opens_29
 obtain ⟨k4, e4, a4⟩ := list_atom r4
 obtain ⟨x5, r5⟩ := field_opens Tryz.underlying32 h 5 16 1 rfl cells_30 opens_30
 obtain ⟨k5, e5, a5⟩ := list_atom r5
 have h0 : cs = cs.drop 0 := rfl
 rw [cut cs 0 1 1 rfl, e0, cut cs 1 1 2 rfl, e1, cut cs 2 12 14 rfl, e2, cut cs 14 1 15 rfl, e3, cut cs 15 1 16 rfl, e4, cut cs 16 1 17 rfl, e5, List.drop_eq_nil_of_le (Nat.le_of_eq hl)] at h0
 exact ⟨⟨x0, x1, x2, x3, x4, x5⟩, ⟨h2.1, h2.2, k3, k4, k5⟩, h0, fun t ht => by
  simp only [List.mem_cons, List.not_mem_nil, or_false] at ht
  rcases ht with rfl | rfl | rfl | rfl | rfl
  ·
   exact s2 _ (List.mem_cons_self ..)
  ·
   exact s2 _ (List.mem_cons_of_mem _ (List.mem_cons_self ..))
  ·
   exact a3
  ·
   exact a4
  ·
   exact a5, w0, w1, w2, trivial, trivial, trivial⟩
end Go.Proofs.YtmpoffijcfaalaaGreat

/- Closed facts on the program, written by specs2.py. -/

namespace Go.Proofs.YtmpoffijcfaalaaGreat
open Go.Eng

theorem app_220 : AppTy Tryz.prog 220 3 1 8 := AppTy.mk Tryz.underlying220 (by kernel_rfl) (by decide)
theorem arr_294 : ArrTy Tryz.prog 294 4 8 1 := ⟨Tryz.underlying294, by kernel_rfl⟩
theorem ext_220 : Ext Tryz.prog 220 Extern.BytealgCompare.compare := ⟨⟨_, Tryz.func220, by kernel_rfl, by kernel_rfl, by kernel_rfl, by kernel_rfl⟩⟩
theorem ext_222 : Ext Tryz.prog 222 add64Entry := ⟨⟨_, Tryz.func222, by kernel_rfl, by kernel_rfl, by kernel_rfl, by kernel_rfl⟩⟩
theorem fld_108_0 : FieldAt Tryz.prog 108 0 0 := FieldAt.mk Tryz.underlying108 rfl (by kernel_rfl) rfl
theorem fld_108_1 : FieldAt Tryz.prog 108 1 1 := FieldAt.mk Tryz.underlying108 rfl (by kernel_rfl) rfl
theorem fld_108_2 : FieldAt Tryz.prog 108 2 2 := FieldAt.mk Tryz.underlying108 rfl (by kernel_rfl) rfl
theorem fld_108_3 : FieldAt Tryz.prog 108 3 3 := FieldAt.mk Tryz.underlying108 rfl (by kernel_rfl) rfl
theorem fld_108_4 : FieldAt Tryz.prog 108 4 4 := FieldAt.mk Tryz.underlying108 rfl (by kernel_rfl) rfl
theorem fld_108_5 : FieldAt Tryz.prog 108 5 5 := FieldAt.mk Tryz.underlying108 rfl (by kernel_rfl) rfl
theorem fld_122_0 : FieldAt Tryz.prog 122 0 0 := FieldAt.mk Tryz.underlying122 rfl (by kernel_rfl) rfl
theorem fld_122_1 : FieldAt Tryz.prog 122 1 1 := FieldAt.mk Tryz.underlying122 rfl (by kernel_rfl) rfl
theorem fld_122_2 : FieldAt Tryz.prog 122 2 2 := FieldAt.mk Tryz.underlying122 rfl (by kernel_rfl) rfl
theorem fld_122_3 : FieldAt Tryz.prog 122 3 3 := FieldAt.mk Tryz.underlying122 rfl (by kernel_rfl) rfl
theorem fld_126_0 : FieldAt Tryz.prog 126 0 0 := FieldAt.mk Tryz.underlying126 rfl (by kernel_rfl) rfl
theorem fld_126_1 : FieldAt Tryz.prog 126 1 1 := FieldAt.mk Tryz.underlying126 rfl (by kernel_rfl) rfl
theorem fld_126_2 : FieldAt Tryz.prog 126 2 2 := FieldAt.mk Tryz.underlying126 rfl (by kernel_rfl) rfl
theorem fld_126_3 : FieldAt Tryz.prog 126 3 3 := FieldAt.mk Tryz.underlying126 rfl (by kernel_rfl) rfl
theorem fld_126_4 : FieldAt Tryz.prog 126 4 4 := FieldAt.mk Tryz.underlying126 rfl (by kernel_rfl) rfl
theorem fld_126_5 : FieldAt Tryz.prog 126 5 5 := FieldAt.mk Tryz.underlying126 rfl (by kernel_rfl) rfl
theorem fld_126_6 : FieldAt Tryz.prog 126 6 6 := FieldAt.mk Tryz.underlying126 rfl (by kernel_rfl) rfl
theorem fld_126_7 : FieldAt Tryz.prog 126 7 7 := FieldAt.mk Tryz.underlying126 rfl (by kernel_rfl) rfl
theorem fld_129_0 : FieldAt Tryz.prog 129 0 0 := FieldAt.mk Tryz.underlying129 rfl (by kernel_rfl) rfl
theorem fld_129_1 : FieldAt Tryz.prog 129 1 1 := FieldAt.mk Tryz.underlying129 rfl (by kernel_rfl) rfl
theorem fld_165_0 : FieldAt Tryz.prog 165 0 0 := FieldAt.mk Tryz.underlying165 rfl (by kernel_rfl) rfl
theorem fld_165_1 : FieldAt Tryz.prog 165 1 1 := FieldAt.mk Tryz.underlying165 rfl (by kernel_rfl) rfl
theorem fld_165_2 : FieldAt Tryz.prog 165 2 2 := FieldAt.mk Tryz.underlying165 rfl (by kernel_rfl) rfl
theorem fld_165_3 : FieldAt Tryz.prog 165 3 3 := FieldAt.mk Tryz.underlying165 rfl (by kernel_rfl) rfl
theorem fld_24_0 : FieldAt Tryz.prog 24 0 0 := FieldAt.mk Tryz.underlying24 rfl (by kernel_rfl) rfl
theorem fld_24_1 : FieldAt Tryz.prog 24 1 1 := FieldAt.mk Tryz.underlying24 rfl (by kernel_rfl) rfl
theorem fld_24_2 : FieldAt Tryz.prog 24 2 2 := FieldAt.mk Tryz.underlying24 rfl (by kernel_rfl) rfl
theorem fld_24_3 : FieldAt Tryz.prog 24 3 3 := FieldAt.mk Tryz.underlying24 rfl (by kernel_rfl) rfl
theorem fld_24_4 : FieldAt Tryz.prog 24 4 4 := FieldAt.mk Tryz.underlying24 rfl (by kernel_rfl) rfl
theorem fld_34_0 : FieldAt Tryz.prog 34 0 0 := FieldAt.mk Tryz.underlying34 rfl (by kernel_rfl) rfl
theorem fld_34_1 : FieldAt Tryz.prog 34 1 1 := FieldAt.mk Tryz.underlying34 rfl (by kernel_rfl) rfl
theorem fld_34_3 : FieldAt Tryz.prog 34 3 3 := FieldAt.mk Tryz.underlying34 rfl (by kernel_rfl) rfl
theorem fld_55_11 : FieldAt Tryz.prog 55 11 11 := FieldAt.mk Tryz.underlying55 rfl (by kernel_rfl) rfl
theorem fld_55_2 : FieldAt Tryz.prog 55 2 2 := FieldAt.mk Tryz.underlying55 rfl (by kernel_rfl) rfl
theorem fld_55_3 : FieldAt Tryz.prog 55 3 3 := FieldAt.mk Tryz.underlying55 rfl (by kernel_rfl) rfl
theorem fld_55_4 : FieldAt Tryz.prog 55 4 4 := FieldAt.mk Tryz.underlying55 rfl (by kernel_rfl) rfl
theorem fld_55_5 : FieldAt Tryz.prog 55 5 5 := FieldAt.mk Tryz.underlying55 rfl (by kernel_rfl) rfl
theorem fld_55_6 : FieldAt Tryz.prog 55 6 6 := FieldAt.mk Tryz.underlying55 rfl (by kernel_rfl) rfl
theorem fld_55_8 : FieldAt Tryz.prog 55 8 8 := FieldAt.mk Tryz.underlying55 rfl (by kernel_rfl) rfl
theorem fld_59_0 : FieldAt Tryz.prog 59 0 0 := FieldAt.mk Tryz.underlying59 rfl (by kernel_rfl) rfl
theorem fld_59_1 : FieldAt Tryz.prog 59 1 1 := FieldAt.mk Tryz.underlying59 rfl (by kernel_rfl) rfl
theorem fld_59_2 : FieldAt Tryz.prog 59 2 2 := FieldAt.mk Tryz.underlying59 rfl (by kernel_rfl) rfl
theorem fld_65_0 : FieldAt Tryz.prog 65 0 0 := FieldAt.mk Tryz.underlying65 rfl (by kernel_rfl) rfl
theorem fld_65_1 : FieldAt Tryz.prog 65 1 1 := FieldAt.mk Tryz.underlying65 rfl (by kernel_rfl) rfl
theorem fld_68_0 : FieldAt Tryz.prog 68 0 0 := FieldAt.mk Tryz.underlying68 rfl (by kernel_rfl) rfl
theorem fld_68_1 : FieldAt Tryz.prog 68 1 1 := FieldAt.mk Tryz.underlying68 rfl (by kernel_rfl) rfl
theorem fld_68_2 : FieldAt Tryz.prog 68 2 2 := FieldAt.mk Tryz.underlying68 rfl (by kernel_rfl) rfl
theorem fld_68_3 : FieldAt Tryz.prog 68 3 3 := FieldAt.mk Tryz.underlying68 rfl (by kernel_rfl) rfl
theorem fld_70_0 : FieldAt Tryz.prog 70 0 0 := FieldAt.mk Tryz.underlying70 rfl (by kernel_rfl) rfl
theorem fld_70_1 : FieldAt Tryz.prog 70 1 1 := FieldAt.mk Tryz.underlying70 rfl (by kernel_rfl) rfl
theorem fld_70_2 : FieldAt Tryz.prog 70 2 3 := FieldAt.mk Tryz.underlying70 rfl (by kernel_rfl) rfl
theorem fld_70_3 : FieldAt Tryz.prog 70 3 4 := FieldAt.mk Tryz.underlying70 rfl (by kernel_rfl) rfl
theorem fld_70_4 : FieldAt Tryz.prog 70 4 5 := FieldAt.mk Tryz.underlying70 rfl (by kernel_rfl) rfl
theorem fld_70_5 : FieldAt Tryz.prog 70 5 6 := FieldAt.mk Tryz.underlying70 rfl (by kernel_rfl) rfl
theorem fld_90_0 : FieldAt Tryz.prog 90 0 0 := FieldAt.mk Tryz.underlying90 rfl (by kernel_rfl) rfl
theorem fld_90_1 : FieldAt Tryz.prog 90 1 1 := FieldAt.mk Tryz.underlying90 rfl (by kernel_rfl) rfl
theorem fld_90_2 : FieldAt Tryz.prog 90 2 2 := FieldAt.mk Tryz.underlying90 rfl (by kernel_rfl) rfl
theorem mixed : Tryz.prog.follows .mixedOrders = true := by kernel_rfl
theorem ok_124 : FnOk Tryz.prog 124 := ⟨⟨_, Tryz.func124, by kernel_rfl, rfl⟩⟩
theorem ok_125 : FnOk Tryz.prog 125 := ⟨⟨_, Tryz.func125, by kernel_rfl, rfl⟩⟩
theorem ok_162 : FnOk Tryz.prog 162 := ⟨⟨_, Tryz.func162, by kernel_rfl, rfl⟩⟩
theorem ok_164 : FnOk Tryz.prog 164 := ⟨⟨_, Tryz.func164, by kernel_rfl, rfl⟩⟩
theorem ok_165 : FnOk Tryz.prog 165 := ⟨⟨_, Tryz.func165, by kernel_rfl, rfl⟩⟩
theorem ok_166 : FnOk Tryz.prog 166 := ⟨⟨_, Tryz.func166, by kernel_rfl, rfl⟩⟩
theorem ok_167 : FnOk Tryz.prog 167 := ⟨⟨_, Tryz.func167, by kernel_rfl, rfl⟩⟩
theorem ok_169 : FnOk Tryz.prog 169 := ⟨⟨_, Tryz.func169, by kernel_rfl, rfl⟩⟩
theorem ok_221 : FnOk Tryz.prog 221 := ⟨⟨_, Tryz.func221, by kernel_rfl, rfl⟩⟩
theorem ok_223 : FnOk Tryz.prog 223 := ⟨⟨_, Tryz.func223, by kernel_rfl, rfl⟩⟩
theorem ok_224 : FnOk Tryz.prog 224 := ⟨⟨_, Tryz.func224, by kernel_rfl, rfl⟩⟩
theorem ok_225 : FnOk Tryz.prog 225 := ⟨⟨_, Tryz.func225, by kernel_rfl, rfl⟩⟩
theorem ok_226 : FnOk Tryz.prog 226 := ⟨⟨_, Tryz.func226, by kernel_rfl, rfl⟩⟩
theorem ok_237 : FnOk Tryz.prog 237 := ⟨⟨_, Tryz.func237, by kernel_rfl, rfl⟩⟩
theorem ok_238 : FnOk Tryz.prog 238 := ⟨⟨_, Tryz.func238, by kernel_rfl, rfl⟩⟩
theorem ok_239 : FnOk Tryz.prog 239 := ⟨⟨_, Tryz.func239, by kernel_rfl, rfl⟩⟩
theorem ok_240 : FnOk Tryz.prog 240 := ⟨⟨_, Tryz.func240, by kernel_rfl, rfl⟩⟩
theorem ok_241 : FnOk Tryz.prog 241 := ⟨⟨_, Tryz.func241, by kernel_rfl, rfl⟩⟩
theorem ok_242 : FnOk Tryz.prog 242 := ⟨⟨_, Tryz.func242, by kernel_rfl, rfl⟩⟩
theorem ok_243 : FnOk Tryz.prog 243 := ⟨⟨_, Tryz.func243, by kernel_rfl, rfl⟩⟩
theorem ok_277 : FnOk Tryz.prog 277 := ⟨⟨_, Tryz.func277, by kernel_rfl, rfl⟩⟩
theorem ok_278 : FnOk Tryz.prog 278 := ⟨⟨_, Tryz.func278, by kernel_rfl, rfl⟩⟩
theorem ok_279 : FnOk Tryz.prog 279 := ⟨⟨_, Tryz.func279, by kernel_rfl, rfl⟩⟩
theorem ok_284 : FnOk Tryz.prog 284 := ⟨⟨_, Tryz.func284, by kernel_rfl, rfl⟩⟩
theorem ok_78 : FnOk Tryz.prog 78 := ⟨⟨_, Tryz.func78, by kernel_rfl, rfl⟩⟩
theorem ok_80 : FnOk Tryz.prog 80 := ⟨⟨_, Tryz.func80, by kernel_rfl, rfl⟩⟩
theorem ok_87 : FnOk Tryz.prog 87 := ⟨⟨_, Tryz.func87, by kernel_rfl, rfl⟩⟩
theorem ok_89 : FnOk Tryz.prog 89 := ⟨⟨_, Tryz.func89, by kernel_rfl, rfl⟩⟩
theorem ok_97 : FnOk Tryz.prog 97 := ⟨⟨_, Tryz.func97, by kernel_rfl, rfl⟩⟩
theorem ok_98 : FnOk Tryz.prog 98 := ⟨⟨_, Tryz.func98, by kernel_rfl, rfl⟩⟩
theorem one_3 : OneTy Tryz.prog 3 := ⟨⟨_, Tryz.underlying3, rfl⟩, by kernel_rfl⟩
theorem one_4 : OneTy Tryz.prog 4 := ⟨⟨_, Tryz.underlying4, rfl⟩, by kernel_rfl⟩
theorem one_50 : OneTy Tryz.prog 50 := ⟨⟨_, Tryz.underlying50, rfl⟩, by kernel_rfl⟩
theorem one_51 : OneTy Tryz.prog 51 := ⟨⟨_, Tryz.underlying51, rfl⟩, by kernel_rfl⟩
theorem one_66 : OneTy Tryz.prog 66 := ⟨⟨_, Tryz.underlying66, rfl⟩, by kernel_rfl⟩
theorem one_9 : OneTy Tryz.prog 9 := ⟨⟨_, Tryz.underlying9, rfl⟩, by kernel_rfl⟩
theorem row_120 : RowTy Tryz.prog 120 4 := ⟨⟨_, Tryz.underlying120, rfl⟩, by kernel_rfl⟩
theorem row_122 : RowTy Tryz.prog 122 7 := ⟨⟨_, Tryz.underlying122, rfl⟩, by kernel_rfl⟩
theorem row_126 : RowTy Tryz.prog 126 8 := ⟨⟨_, Tryz.underlying126, rfl⟩, by kernel_rfl⟩
theorem row_129 : RowTy Tryz.prog 129 2 := ⟨⟨_, Tryz.underlying129, rfl⟩, by kernel_rfl⟩
theorem row_165 : RowTy Tryz.prog 165 4 := ⟨⟨_, Tryz.underlying165, rfl⟩, by kernel_rfl⟩
theorem row_24 : RowTy Tryz.prog 24 7 := ⟨⟨_, Tryz.underlying24, rfl⟩, by kernel_rfl⟩
theorem row_34 : RowTy Tryz.prog 34 6 := ⟨⟨_, Tryz.underlying34, rfl⟩, by kernel_rfl⟩
theorem row_55 : RowTy Tryz.prog 55 29 := ⟨⟨_, Tryz.underlying55, rfl⟩, by kernel_rfl⟩
theorem row_59 : RowTy Tryz.prog 59 4 := ⟨⟨_, Tryz.underlying59, rfl⟩, by kernel_rfl⟩
theorem row_65 : RowTy Tryz.prog 65 2 := ⟨⟨_, Tryz.underlying65, rfl⟩, by kernel_rfl⟩
theorem row_68 : RowTy Tryz.prog 68 4 := ⟨⟨_, Tryz.underlying68, rfl⟩, by kernel_rfl⟩
theorem row_70 : RowTy Tryz.prog 70 10 := ⟨⟨_, Tryz.underlying70, rfl⟩, by kernel_rfl⟩
theorem row_90 : RowTy Tryz.prog 90 3 := ⟨⟨_, Tryz.underlying90, rfl⟩, by kernel_rfl⟩
theorem slt_22 : SliceTy Tryz.prog 22 90 3 := ⟨Tryz.underlying22, by kernel_rfl⟩
theorem slt_220 : SliceTy Tryz.prog 220 3 1 := ⟨Tryz.underlying220, by kernel_rfl⟩
theorem slt_25 : SliceTy Tryz.prog 25 122 7 := ⟨Tryz.underlying25, by kernel_rfl⟩
theorem slt_29 : SliceTy Tryz.prog 29 59 4 := ⟨Tryz.underlying29, by kernel_rfl⟩
theorem slt_50 : SliceTy Tryz.prog 50 70 10 := ⟨Tryz.underlying50, by kernel_rfl⟩
theorem slt_52 : SliceTy Tryz.prog 52 126 8 := ⟨Tryz.underlying52, by kernel_rfl⟩
theorem slt_53 : SliceTy Tryz.prog 53 129 2 := ⟨Tryz.underlying53, by kernel_rfl⟩
theorem slt_66 : SliceTy Tryz.prog 66 165 4 := ⟨Tryz.underlying66, by kernel_rfl⟩
theorem zero_122 : ZeroOf Tryz.prog 122 [.int .i64 0, .int .i64 0, .bool false, .int .i64 0, .int .i64 0, .int .i64 0, .int .i64 0] := ZeroOf.mk (by kernel_rfl)
theorem zero_126 : ZeroOf Tryz.prog 126 [.int .i64 0, .int .i64 0, .string ByteArray.empty, .string ByteArray.empty, .int .i64 0, .int .i64 0, .int .i64 0, .int .i64 0] := ZeroOf.mk (by kernel_rfl)
theorem zero_129 : ZeroOf Tryz.prog 129 [.int .i64 0, .int .i64 0] := ZeroOf.mk (by kernel_rfl)
theorem zero_165 : ZeroOf Tryz.prog 165 [.int .i64 0, .int .i64 0, .int .i64 0, .int .i64 0] := ZeroOf.mk (by kernel_rfl)
theorem zero_294 : ZeroOf Tryz.prog 294 [.bool false, .bool false, .bool false, .bool false, .bool false, .bool false, .bool false, .bool false] := ZeroOf.mk (by kernel_rfl)
theorem zero_59 : ZeroOf Tryz.prog 59 [.int .i64 0, .string ByteArray.empty, .int .i64 0, .int .i64 0] := ZeroOf.mk (by kernel_rfl)
theorem zero_70 : ZeroOf Tryz.prog 70 [.string ByteArray.empty, .int .i64 0, .int .i64 0, .int .i64 0, .int .i64 0, .slice none 0 0, .int .i64 0, .int .i64 0, .int .i64 0, .int .i64 0] := ZeroOf.mk (by kernel_rfl)
theorem zero_90 : ZeroOf Tryz.prog 90 [.int .i64 0, .string ByteArray.empty, .int .i64 0] := ZeroOf.mk (by kernel_rfl)
end Go.Proofs.YtmpoffijcfaalaaGreat
