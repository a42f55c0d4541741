/- Arguments of the laws of layer 43, opened. Conditions: none. -/
import Derived.Test.YtbgddblfalahfaaS5
import Derived.Test.YtbgddblfalahfaaSlD
namespace Go.Proofs.Ytbgddblfalahfaa
open Go Go.SL Go.RowKit
set_option linter.unusedVariables false
set_option linter.unusedSimpArgs false
set_option maxRecDepth 100000 in
theorem open_frac {H : Type} {enc : TypeId × Value → H} {W : World} {v : Value} {d : DataW H} {p : List MemPlace} (hval : Value.okWide Try.prog W .any 0 24 v) (h : DataW.Trod enc Try.prog W 0 (fun _ => true) true 24 v d p) :
    ∃ (x2 : Int) (x3 : Int), v = .agg #[.int .i64 x2, .int .i64 x3] ∧ (-9223372036854775808 ≤ x2 ∧ x2 ≤ 9223372036854775807) ∧ (-9223372036854775808 ≤ x3 ∧ x3 ≤ 9223372036854775807) := by
  obtain ⟨cs, rfl⟩ := okWide_agg (ss := [.int .i64, .int .i64]) (by kernel_rfl) hval
  obtain ⟨d, hd, hc, hdeep⟩ := open_Trod (s := .row [.int .i64, .int .i64]) (by kernel_rfl) h
  obtain ⟨dsx1, rfl, hdsx1⟩ := has_row hd
  obtain ⟨ex1_0, rx1_0, rfl, qx1_0, hdsx1⟩ := has_cons hdsx1
  obtain ⟨ex1_1, rx1_1, rfl, qx1_1, hdsx1⟩ := has_cons hdsx1
  obtain rfl := has_nil hdsx1
  obtain ⟨x2, rfl, hx2⟩ := has_int qx1_0
  obtain ⟨x3, rfl, hx3⟩ := has_int qx1_1
  refine ⟨x2, x3, ?_, wf_i64 hx2, wf_i64 hx3⟩
  congr 1
  apply Array.ext'
  simp only [Value.cells] at hc
  rw [hc]
  simp [encD, encDs]
-- PATTERN frac open|24|open_frac|⟨x2_#, x3_#, rfl, h0_#, h1_#⟩
set_option maxRecDepth 100000 in
theorem open_graph {H : Type} {enc : TypeId × Value → H} {W : World} {v : Value} {d : DataW H} {p : List MemPlace} (hval : Value.okWide Try.prog W .any 0 46 v) (h : DataW.Trod enc Try.prog W 0 (fun _ => true) true 46 v d p) :
    ∃ (x2 : Int) (x3 : Int) (x4 : Int) (x5 : Int) (x6 : Int) (a7 : Option Addr) (c7 : Nat) (l7 : List (Int)), v = .agg #[.int .u8 x2, .int .u8 x3, .int .u8 x4, .int .u8 x5, .int .u8 x6, .slice a7 l7.length c7] ∧ (0 ≤ x2 ∧ x2 ≤ 255) ∧ (0 ≤ x3 ∧ x3 ≤ 255) ∧ (0 ≤ x4 ∧ x4 ≤ 255) ∧ (0 ≤ x5 ∧ x5 ≤ 255) ∧ (0 ≤ x6 ∧ x6 ≤ 255) ∧ Sl W [whole W] encY 1 (.slice a7 l7.length c7) l7 ∧ (∀ p ∈ l7, (0 ≤ p ∧ p ≤ 255)) := by
  obtain ⟨cs, rfl⟩ := okWide_agg (ss := [.int .u8, .int .u8, .int .u8, .int .u8, .int .u8, .slice 1 (.int .u8)]) (by kernel_rfl) hval
  obtain ⟨d, hd, hc, hdeep⟩ := open_Trod (s := .row [.int .u8, .int .u8, .int .u8, .int .u8, .int .u8, .slice 1 (.int .u8)]) (by kernel_rfl) h
  obtain ⟨dsx1, rfl, hdsx1⟩ := has_row hd
  obtain ⟨ex1_0, rx1_0, rfl, qx1_0, hdsx1⟩ := has_cons hdsx1
  obtain ⟨ex1_1, rx1_1, rfl, qx1_1, hdsx1⟩ := has_cons hdsx1
  obtain ⟨ex1_2, rx1_2, rfl, qx1_2, hdsx1⟩ := has_cons hdsx1
  obtain ⟨ex1_3, rx1_3, rfl, qx1_3, hdsx1⟩ := has_cons hdsx1
  obtain ⟨ex1_4, rx1_4, rfl, qx1_4, hdsx1⟩ := has_cons hdsx1
  obtain ⟨ex1_5, rx1_5, rfl, qx1_5, hdsx1⟩ := has_cons hdsx1
  obtain rfl := has_nil hdsx1
  obtain ⟨x2, rfl, hx2⟩ := has_int qx1_0
  obtain ⟨x3, rfl, hx3⟩ := has_int qx1_1
  obtain ⟨x4, rfl, hx4⟩ := has_int qx1_2
  obtain ⟨x5, rfl, hx5⟩ := has_int qx1_3
  obtain ⟨x6, rfl, hx6⟩ := has_int qx1_4
  obtain ⟨a7, c7, l7, rfl, hl7⟩ := has_slice qx1_5
  obtain ⟨l7, rfl, hb7⟩ := of_all (fun p : Int => (.z .u8 p : D)) (fun p => (0 ≤ p ∧ p ≤ 255)) l7 (fun d hd => by
      obtain ⟨y701, rfl, hy701⟩ := has_int (hl7 d hd)
      exact ⟨y701, rfl, wf_u8 hy701⟩)
  refine ⟨x2, x3, x4, x5, x6, a7, c7, l7, ?_, wf_u8 hx2, wf_u8 hx3, wf_u8 hx4, wf_u8 hx5, wf_u8 hx6, Sl.conv (deep_sl hdeep.2.2.2.2.2.1) (fun _ => rfl), hb7⟩
  congr 1
  apply Array.ext'
  simp only [Value.cells] at hc
  rw [hc]
  simp [encD, encDs]
-- PATTERN graph open|46|open_graph|⟨x2_#, x3_#, x4_#, x5_#, x6_#, a7_#, c7_#, l7_#, rfl, h0_#, h1_#, h2_#, h3_#, h4_#, h5_#, h6_#⟩
set_option maxRecDepth 100000 in
theorem open_interval {H : Type} {enc : TypeId × Value → H} {W : World} {v : Value} {d : DataW H} {p : List MemPlace} (hval : Value.okWide Try.prog W .any 0 37 v) (h : DataW.Trod enc Try.prog W 0 (fun _ => true) true 37 v d p) :
    ∃ (x2 : Int) (x3 : Int), v = .agg #[.int .i64 x2, .int .i64 x3] ∧ (-9223372036854775808 ≤ x2 ∧ x2 ≤ 9223372036854775807) ∧ (-9223372036854775808 ≤ x3 ∧ x3 ≤ 9223372036854775807) := by
  obtain ⟨cs, rfl⟩ := okWide_agg (ss := [.int .i64, .int .i64]) (by kernel_rfl) hval
  obtain ⟨d, hd, hc, hdeep⟩ := open_Trod (s := .row [.int .i64, .int .i64]) (by kernel_rfl) h
  obtain ⟨dsx1, rfl, hdsx1⟩ := has_row hd
  obtain ⟨ex1_0, rx1_0, rfl, qx1_0, hdsx1⟩ := has_cons hdsx1
  obtain ⟨ex1_1, rx1_1, rfl, qx1_1, hdsx1⟩ := has_cons hdsx1
  obtain rfl := has_nil hdsx1
  obtain ⟨x2, rfl, hx2⟩ := has_int qx1_0
  obtain ⟨x3, rfl, hx3⟩ := has_int qx1_1
  refine ⟨x2, x3, ?_, wf_i64 hx2, wf_i64 hx3⟩
  congr 1
  apply Array.ext'
  simp only [Value.cells] at hc
  rw [hc]
  simp [encD, encDs]
-- PATTERN interval open|37|open_interval|⟨x2_#, x3_#, rfl, h0_#, h1_#⟩
set_option maxRecDepth 100000 in
theorem open_removed {H : Type} {enc : TypeId × Value → H} {W : World} {v : Value} {d : DataW H} {p : List MemPlace} (hval : Value.okWide Try.prog W .any 0 34 v) (h : DataW.Trod enc Try.prog W 0 (fun _ => true) true 34 v d p) :
    ∃ (a1 : Option Addr) (c1 : Nat) (l1 : List (Int × ByteArray × Int × Int)), v = .slice a1 l1.length c1 ∧ Sl W [whole W] (fun p : Int × ByteArray × Int × Int => [(.int .i64 p.1 : Value), (.string p.2.1 : Value), (.int .i64 p.2.2.1 : Value), (.int .i64 p.2.2.2 : Value)]) 4 (.slice a1 l1.length c1) l1 ∧ (∀ p ∈ l1, (-9223372036854775808 ≤ p.1 ∧ p.1 ≤ 9223372036854775807) ∧ (p.2.1.size ≤ maxLen) ∧ (-9223372036854775808 ≤ p.2.2.1 ∧ p.2.2.1 ≤ 9223372036854775807) ∧ (-9223372036854775808 ≤ p.2.2.2 ∧ p.2.2.2 ≤ 9223372036854775807)) := by
  obtain ⟨a0, n0, c0, rfl⟩ := Go.WideShapes.okWide_slice Try.underlying34 hval
  obtain ⟨d, hd, hc, hdeep⟩ := open_Trod (s := .slice 4 (.row [.int .i64, .str, .int .i64, .int .i64])) (by kernel_rfl) h
  obtain ⟨a1, c1, l1, rfl, hl1⟩ := has_slice hd
  obtain ⟨l1, rfl, hb1⟩ := of_all (fun p : Int × ByteArray × Int × Int => (.row [.z .i64 p.1, .s p.2.1, .z .i64 p.2.2.1, .z .i64 p.2.2.2] : D)) (fun p => (-9223372036854775808 ≤ p.1 ∧ p.1 ≤ 9223372036854775807) ∧ (p.2.1.size ≤ maxLen) ∧ (-9223372036854775808 ≤ p.2.2.1 ∧ p.2.2.1 ≤ 9223372036854775807) ∧ (-9223372036854775808 ≤ p.2.2.2 ∧ p.2.2.2 ≤ 9223372036854775807)) l1 (fun d hd => by
      obtain ⟨dsy101, rfl, hdsy101⟩ := has_row (hl1 d hd)
      obtain ⟨ey101_0, ry101_0, rfl, qy101_0, hdsy101⟩ := has_cons hdsy101
      obtain ⟨ey101_1, ry101_1, rfl, qy101_1, hdsy101⟩ := has_cons hdsy101
      obtain ⟨ey101_2, ry101_2, rfl, qy101_2, hdsy101⟩ := has_cons hdsy101
      obtain ⟨ey101_3, ry101_3, rfl, qy101_3, hdsy101⟩ := has_cons hdsy101
      obtain rfl := has_nil hdsy101
      obtain ⟨y102, rfl, hy102⟩ := has_int qy101_0
      obtain ⟨y103, rfl, hy103⟩ := has_str qy101_1
      obtain ⟨y104, rfl, hy104⟩ := has_int qy101_2
      obtain ⟨y105, rfl, hy105⟩ := has_int qy101_3
      exact ⟨(y102, y103, y104, y105), rfl, ⟨wf_i64 hy102, hy103, wf_i64 hy104, wf_i64 hy105⟩⟩)
  simp [Value.cells, encD] at hc
  obtain ⟨rfl, rfl, rfl⟩ := hc
  exact ⟨a0, c0, l1, by simp, Sl.conv (deep_sl hdeep) (fun _ => rfl), hb1⟩
-- PATTERN removed open|34|open_removed|⟨a1_#, c1_#, l1_#, rfl, h0_#, h1_#⟩
set_option maxRecDepth 100000 in
theorem open_late {H : Type} {enc : TypeId × Value → H} {W : World} {v : Value} {d : DataW H} {p : List MemPlace} (hval : Value.okWide Try.prog W .any 0 35 v) (h : DataW.Trod enc Try.prog W 0 (fun _ => true) true 35 v d p) :
    ∃ (a1 : Option Addr) (c1 : Nat) (l1 : List (Int × Int)), v = .slice a1 l1.length c1 ∧ Sl W [whole W] (fun p : Int × Int => [(.int .i64 p.1 : Value), (.int .i64 p.2 : Value)]) 2 (.slice a1 l1.length c1) l1 ∧ (∀ p ∈ l1, (-9223372036854775808 ≤ p.1 ∧ p.1 ≤ 9223372036854775807) ∧ (-9223372036854775808 ≤ p.2 ∧ p.2 ≤ 9223372036854775807)) := by
  obtain ⟨a0, n0, c0, rfl⟩ := Go.WideShapes.okWide_slice Try.underlying35 hval
  obtain ⟨d, hd, hc, hdeep⟩ := open_Trod (s := .slice 2 (.row [.int .i64, .int .i64])) (by kernel_rfl) h
  obtain ⟨a1, c1, l1, rfl, hl1⟩ := has_slice hd
  obtain ⟨l1, rfl, hb1⟩ := of_all (fun p : Int × Int => (.row [.z .i64 p.1, .z .i64 p.2] : D)) (fun p => (-9223372036854775808 ≤ p.1 ∧ p.1 ≤ 9223372036854775807) ∧ (-9223372036854775808 ≤ p.2 ∧ p.2 ≤ 9223372036854775807)) l1 (fun d hd => by
      obtain ⟨dsy101, rfl, hdsy101⟩ := has_row (hl1 d hd)
      obtain ⟨ey101_0, ry101_0, rfl, qy101_0, hdsy101⟩ := has_cons hdsy101
      obtain ⟨ey101_1, ry101_1, rfl, qy101_1, hdsy101⟩ := has_cons hdsy101
      obtain rfl := has_nil hdsy101
      obtain ⟨y102, rfl, hy102⟩ := has_int qy101_0
      obtain ⟨y103, rfl, hy103⟩ := has_int qy101_1
      exact ⟨(y102, y103), rfl, ⟨wf_i64 hy102, wf_i64 hy103⟩⟩)
  simp [Value.cells, encD] at hc
  obtain ⟨rfl, rfl, rfl⟩ := hc
  exact ⟨a0, c0, l1, by simp, Sl.conv (deep_sl hdeep) (fun _ => rfl), hb1⟩
-- PATTERN late open|35|open_late|⟨a1_#, c1_#, l1_#, rfl, h0_#, h1_#⟩
set_option maxRecDepth 100000 in
theorem open_series {H : Type} {enc : TypeId × Value → H} {W : World} {v : Value} {d : DataW H} {p : List MemPlace} (hval : Value.okWide Try.prog W .any 0 48 v) (h : DataW.Trod enc Try.prog W 0 (fun _ => true) true 48 v d p) :
    ∃ (x2 : ByteArray) (x3 : ByteArray) (x4 : Int) (x6 : Int) (x7 : Int) (x8 : Int) (a9 : Option Addr) (c9 : Nat) (l9 : List (Int)), v = .agg #[.string x2, .string x3, .int .i64 x4, .int .i64 x6, .int .i64 x7, .int .i64 x8, .slice a9 l9.length c9] ∧ x2.size ≤ maxLen ∧ x3.size ≤ maxLen ∧ (-9223372036854775808 ≤ x4 ∧ x4 ≤ 9223372036854775807) ∧ (-9223372036854775808 ≤ x6 ∧ x6 ≤ 9223372036854775807) ∧ (-9223372036854775808 ≤ x7 ∧ x7 ≤ 9223372036854775807) ∧ (-9223372036854775808 ≤ x8 ∧ x8 ≤ 9223372036854775807) ∧ Sl W [whole W] encZ 1 (.slice a9 l9.length c9) l9 ∧ (∀ p ∈ l9, (-9223372036854775808 ≤ p ∧ p ≤ 9223372036854775807)) := by
  obtain ⟨cs, rfl⟩ := okWide_agg (ss := [.str, .str, .int .i64, .row [.int .i64, .int .i64], .int .i64, .slice 1 (.int .i64)]) (by kernel_rfl) hval
  obtain ⟨d, hd, hc, hdeep⟩ := open_Trod (s := .row [.str, .str, .int .i64, .row [.int .i64, .int .i64], .int .i64, .slice 1 (.int .i64)]) (by kernel_rfl) h
  obtain ⟨dsx1, rfl, hdsx1⟩ := has_row hd
  obtain ⟨ex1_0, rx1_0, rfl, qx1_0, hdsx1⟩ := has_cons hdsx1
  obtain ⟨ex1_1, rx1_1, rfl, qx1_1, hdsx1⟩ := has_cons hdsx1
  obtain ⟨ex1_2, rx1_2, rfl, qx1_2, hdsx1⟩ := has_cons hdsx1
  obtain ⟨ex1_3, rx1_3, rfl, qx1_3, hdsx1⟩ := has_cons hdsx1
  obtain ⟨ex1_4, rx1_4, rfl, qx1_4, hdsx1⟩ := has_cons hdsx1
  obtain ⟨ex1_5, rx1_5, rfl, qx1_5, hdsx1⟩ := has_cons hdsx1
  obtain rfl := has_nil hdsx1
  obtain ⟨x2, rfl, hx2⟩ := has_str qx1_0
  obtain ⟨x3, rfl, hx3⟩ := has_str qx1_1
  obtain ⟨x4, rfl, hx4⟩ := has_int qx1_2
  obtain ⟨dsx5, rfl, hdsx5⟩ := has_row qx1_3
  obtain ⟨ex5_0, rx5_0, rfl, qx5_0, hdsx5⟩ := has_cons hdsx5
  obtain ⟨ex5_1, rx5_1, rfl, qx5_1, hdsx5⟩ := has_cons hdsx5
  obtain rfl := has_nil hdsx5
  obtain ⟨x6, rfl, hx6⟩ := has_int qx5_0
  obtain ⟨x7, rfl, hx7⟩ := has_int qx5_1
  obtain ⟨x8, rfl, hx8⟩ := has_int qx1_4
  obtain ⟨a9, c9, l9, rfl, hl9⟩ := has_slice qx1_5
  obtain ⟨l9, rfl, hb9⟩ := of_all (fun p : Int => (.z .i64 p : D)) (fun p => (-9223372036854775808 ≤ p ∧ p ≤ 9223372036854775807)) l9 (fun d hd => by
      obtain ⟨y901, rfl, hy901⟩ := has_int (hl9 d hd)
      exact ⟨y901, rfl, wf_i64 hy901⟩)
  refine ⟨x2, x3, x4, x6, x7, x8, a9, c9, l9, ?_, hx2, hx3, wf_i64 hx4, wf_i64 hx6, wf_i64 hx7, wf_i64 hx8, Sl.conv (deep_sl hdeep.2.2.2.2.2.1) (fun _ => rfl), hb9⟩
  congr 1
  apply Array.ext'
  simp only [Value.cells] at hc
  rw [hc]
  simp [encD, encDs]
-- PATTERN series open|48|open_series|⟨x2_#, x3_#, x4_#, x6_#, x7_#, x8_#, a9_#, c9_#, l9_#, rfl, h0_#, h1_#, h2_#, h3_#, h4_#, h5_#, h6_#, h7_#⟩
set_option maxRecDepth 100000 in
theorem open_pair8 {H : Type} {enc : TypeId × Value → H} {W : World} {v : Value} {d : DataW H} {p : List MemPlace} (hval : Value.okWide Try.prog W .any 0 78 v) (h : DataW.Trod enc Try.prog W 0 (fun _ => true) true 78 v d p) :
    ∃ (x2 : Int) (x3 : Int), v = .agg #[.int .u8 x2, .int .u8 x3] ∧ (0 ≤ x2 ∧ x2 ≤ 255) ∧ (0 ≤ x3 ∧ x3 ≤ 255) := by
  obtain ⟨cs, rfl⟩ := okWide_agg (ss := [.int .u8, .int .u8]) (by kernel_rfl) hval
  obtain ⟨d, hd, hc, hdeep⟩ := open_Trod (s := .row [.int .u8, .int .u8]) (by kernel_rfl) h
  obtain ⟨dsx1, rfl, hdsx1⟩ := has_row hd
  obtain ⟨ex1_0, rx1_0, rfl, qx1_0, hdsx1⟩ := has_cons hdsx1
  obtain ⟨ex1_1, rx1_1, rfl, qx1_1, hdsx1⟩ := has_cons hdsx1
  obtain rfl := has_nil hdsx1
  obtain ⟨x2, rfl, hx2⟩ := has_int qx1_0
  obtain ⟨x3, rfl, hx3⟩ := has_int qx1_1
  refine ⟨x2, x3, ?_, wf_u8 hx2, wf_u8 hx3⟩
  congr 1
  apply Array.ext'
  simp only [Value.cells] at hc
  rw [hc]
  simp [encD, encDs]
-- PATTERN pair8 open|78|open_pair8|⟨x2_#, x3_#, rfl, h0_#, h1_#⟩
end Go.Proofs.Ytbgddblfalahfaa
