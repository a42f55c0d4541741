/- Arguments of the laws of layer 9, opened. Conditions: none. -/
import Derived.Test.YtgdjnjbipemdcaaK20
import Derived.Test.YtgdjnjbipemdcaaSlD
namespace Go.Proofs.Ytgdjnjbipemdcaa
open Go Go.SL Go.RowKit Go.ConM
set_option linter.unusedVariables false
set_option linter.unusedSimpArgs false
set_option maxRecDepth 100000 in
theorem open_arcs {H : Type} {enc : TypeId × Value → H} {W : World} {v : Value} {d : DataW H} {p : List MemPlace} (hval : Value.okWide Try.prog W .any 0 22 v) (h : DataW.Trod enc Try.prog W 0 (fun _ => true) true 22 v d p) :
    ∃ (a1 : Option Addr) (c1 : Nat) (l1 : List (Arc)), v = .slice a1 l1.length c1 ∧ Sl W [whole W] encA 3 (.slice a1 l1.length c1) l1 ∧ (∀ p ∈ l1, (0 ≤ p.f ∧ p.f ≤ 255) ∧ (0 ≤ p.t ∧ p.t ≤ 255) ∧ (-128 ≤ p.b ∧ p.b ≤ 127)) := by
  obtain ⟨a0, n0, c0, rfl⟩ := Go.WideShapes.okWide_slice Try.underlying22 hval
  obtain ⟨d, hd, hc, hdeep⟩ := open_Trod (s := .slice 3 (.row [.int .u8, .int .u8, .int .i8])) (by kernel_rfl) h
  obtain ⟨a1, c1, l1, rfl, hl1⟩ := has_slice hd
  obtain ⟨l1, rfl, hb1⟩ := of_all (fun p : Arc => (.row [.z .u8 p.f, .z .u8 p.t, .z .i8 p.b] : D)) (fun p => (0 ≤ p.f ∧ p.f ≤ 255) ∧ (0 ≤ p.t ∧ p.t ≤ 255) ∧ (-128 ≤ p.b ∧ p.b ≤ 127)) l1 (fun d hd => by
      obtain ⟨dsy101, rfl, hdsy101⟩ := has_row (hl1 d hd)
      obtain ⟨ey101_0, ry101_0, rfl, qy101_0, hdsy101⟩ := has_cons hdsy101
      obtain ⟨ey101_1, ry101_1, rfl, qy101_1, hdsy101⟩ := has_cons hdsy101
      obtain ⟨ey101_2, ry101_2, rfl, qy101_2, hdsy101⟩ := has_cons hdsy101
      obtain rfl := has_nil hdsy101
      obtain ⟨y102, rfl, hy102⟩ := has_int qy101_0
      obtain ⟨y103, rfl, hy103⟩ := has_int qy101_1
      obtain ⟨y104, rfl, hy104⟩ := has_int qy101_2
      exact ⟨⟨y102, y103, y104⟩, rfl, ⟨wf_u8 hy102, wf_u8 hy103, wf_i8 hy104⟩⟩)
  simp [Value.cells, encD] at hc
  obtain ⟨rfl, rfl, rfl⟩ := hc
  exact ⟨a0, c0, l1, by simp, Sl.conv (deep_sl hdeep) (fun _ => rfl), hb1⟩
-- PATTERN arcs open|22|open_arcs|⟨a1_#, c1_#, l1_#, rfl, h0_#, h1_#⟩
set_option maxRecDepth 100000 in
theorem open_cons {H : Type} {enc : TypeId × Value → H} {W : World} {v : Value} {d : DataW H} {p : List MemPlace} (hval : Value.okWide Try.prog W .any 0 24 v) (h : DataW.Trod enc Try.prog W 0 (fun _ => true) true 24 v d p) :
    ∃ (a1 : Option Addr) (c1 : Nat) (l1 : List (Con)), v = .slice a1 l1.length c1 ∧ Sl W [whole W] encC 3 (.slice a1 l1.length c1) l1 ∧ (∀ p ∈ l1, (-9223372036854775808 ≤ p.f ∧ p.f ≤ 9223372036854775807) ∧ (-9223372036854775808 ≤ p.t ∧ p.t ≤ 9223372036854775807) ∧ (-9223372036854775808 ≤ p.b ∧ p.b ≤ 9223372036854775807)) := by
  obtain ⟨a0, n0, c0, rfl⟩ := Go.WideShapes.okWide_slice Try.underlying24 hval
  obtain ⟨d, hd, hc, hdeep⟩ := open_Trod (s := .slice 3 (.row [.int .i64, .int .i64, .int .i64])) (by kernel_rfl) h
  obtain ⟨a1, c1, l1, rfl, hl1⟩ := has_slice hd
  obtain ⟨l1, rfl, hb1⟩ := of_all (fun p : Con => (.row [.z .i64 p.f, .z .i64 p.t, .z .i64 p.b] : D)) (fun p => (-9223372036854775808 ≤ p.f ∧ p.f ≤ 9223372036854775807) ∧ (-9223372036854775808 ≤ p.t ∧ p.t ≤ 9223372036854775807) ∧ (-9223372036854775808 ≤ p.b ∧ p.b ≤ 9223372036854775807)) l1 (fun d hd => by
      obtain ⟨dsy101, rfl, hdsy101⟩ := has_row (hl1 d hd)
      obtain ⟨ey101_0, ry101_0, rfl, qy101_0, hdsy101⟩ := has_cons hdsy101
      obtain ⟨ey101_1, ry101_1, rfl, qy101_1, hdsy101⟩ := has_cons hdsy101
      obtain ⟨ey101_2, ry101_2, rfl, qy101_2, hdsy101⟩ := has_cons hdsy101
      obtain rfl := has_nil hdsy101
      obtain ⟨y102, rfl, hy102⟩ := has_int qy101_0
      obtain ⟨y103, rfl, hy103⟩ := has_int qy101_1
      obtain ⟨y104, rfl, hy104⟩ := has_int qy101_2
      exact ⟨⟨y102, y103, y104⟩, rfl, ⟨wf_i64 hy102, wf_i64 hy103, wf_i64 hy104⟩⟩)
  simp [Value.cells, encD] at hc
  obtain ⟨rfl, rfl, rfl⟩ := hc
  exact ⟨a0, c0, l1, by simp, Sl.conv (deep_sl hdeep) (fun _ => rfl), hb1⟩
-- PATTERN cons open|24|open_cons|⟨a1_#, c1_#, l1_#, rfl, h0_#, h1_#⟩
set_option maxRecDepth 100000 in
theorem open_ints {H : Type} {enc : TypeId × Value → H} {W : World} {v : Value} {d : DataW H} {p : List MemPlace} (hval : Value.okWide Try.prog W .any 0 26 v) (h : DataW.Trod enc Try.prog W 0 (fun _ => true) true 26 v d p) :
    ∃ (a1 : Option Addr) (c1 : Nat) (l1 : List (Int)), v = .slice a1 l1.length c1 ∧ Sl W [whole W] SL.encZ 1 (.slice a1 l1.length c1) l1 ∧ (∀ p ∈ l1, (-9223372036854775808 ≤ p ∧ p ≤ 9223372036854775807)) := by
  obtain ⟨a0, n0, c0, rfl⟩ := Go.WideShapes.okWide_slice Try.underlying26 hval
  obtain ⟨d, hd, hc, hdeep⟩ := open_Trod (s := .slice 1 (.int .i64)) (by kernel_rfl) h
  obtain ⟨a1, c1, l1, rfl, hl1⟩ := has_slice hd
  obtain ⟨l1, rfl, hb1⟩ := of_all (fun p : Int => (.z .i64 p : D)) (fun p => (-9223372036854775808 ≤ p ∧ p ≤ 9223372036854775807)) l1 (fun d hd => by
      obtain ⟨y101, rfl, hy101⟩ := has_int (hl1 d hd)
      exact ⟨y101, rfl, wf_i64 hy101⟩)
  simp [Value.cells, encD] at hc
  obtain ⟨rfl, rfl, rfl⟩ := hc
  exact ⟨a0, c0, l1, by simp, Sl.conv (deep_sl hdeep) (fun _ => rfl), hb1⟩
-- PATTERN ints open|26|open_ints|⟨a1_#, c1_#, l1_#, rfl, h0_#, h1_#⟩
set_option maxRecDepth 100000 in
theorem open_offs {H : Type} {enc : TypeId × Value → H} {W : World} {v : Value} {d : DataW H} {p : List MemPlace} (hval : Value.okWide Try.prog W .any 0 45 v) (h : DataW.Trod enc Try.prog W 0 (fun _ => true) true 45 v d p) :
    ∃ (a1 : Option Addr) (c1 : Nat) (l1 : List (Int × Int)), v = .slice a1 l1.length c1 ∧ Sl W [whole W] encO 2 (.slice a1 l1.length c1) l1 ∧ (∀ p ∈ l1, (-9223372036854775808 ≤ p.1 ∧ p.1 ≤ 9223372036854775807) ∧ (-9223372036854775808 ≤ p.2 ∧ p.2 ≤ 9223372036854775807)) := by
  obtain ⟨a0, n0, c0, rfl⟩ := Go.WideShapes.okWide_slice Try.underlying45 hval
  obtain ⟨d, hd, hc, hdeep⟩ := open_Trod (s := .slice 2 (.row [.int .i64, .int .i64])) (by kernel_rfl) h
  obtain ⟨a1, c1, l1, rfl, hl1⟩ := has_slice hd
  obtain ⟨l1, rfl, hb1⟩ := of_all (fun p : Int × Int => (.row [.z .i64 p.1, .z .i64 p.2] : D)) (fun p => (-9223372036854775808 ≤ p.1 ∧ p.1 ≤ 9223372036854775807) ∧ (-9223372036854775808 ≤ p.2 ∧ p.2 ≤ 9223372036854775807)) l1 (fun d hd => by
      obtain ⟨dsy101, rfl, hdsy101⟩ := has_row (hl1 d hd)
      obtain ⟨ey101_0, ry101_0, rfl, qy101_0, hdsy101⟩ := has_cons hdsy101
      obtain ⟨ey101_1, ry101_1, rfl, qy101_1, hdsy101⟩ := has_cons hdsy101
      obtain rfl := has_nil hdsy101
      obtain ⟨y102, rfl, hy102⟩ := has_int qy101_0
      obtain ⟨y103, rfl, hy103⟩ := has_int qy101_1
      exact ⟨(y102, y103), rfl, ⟨wf_i64 hy102, wf_i64 hy103⟩⟩)
  simp [Value.cells, encD] at hc
  obtain ⟨rfl, rfl, rfl⟩ := hc
  exact ⟨a0, c0, l1, by simp, Sl.conv (deep_sl hdeep) (fun _ => rfl), hb1⟩
-- PATTERN offs open|45|open_offs|⟨a1_#, c1_#, l1_#, rfl, h0_#, h1_#⟩
set_option maxRecDepth 100000 in
theorem open_arc {H : Type} {enc : TypeId × Value → H} {W : World} {v : Value} {d : DataW H} {p : List MemPlace} (hval : Value.okWide Try.prog W .any 0 43 v) (h : DataW.Trod enc Try.prog W 0 (fun _ => true) true 43 v d p) :
    ∃ (x2 : Int) (x3 : Int) (x4 : Int), v = .agg #[.int .u8 x2, .int .u8 x3, .int .i8 x4] ∧ (0 ≤ x2 ∧ x2 ≤ 255) ∧ (0 ≤ x3 ∧ x3 ≤ 255) ∧ (-128 ≤ x4 ∧ x4 ≤ 127) := by
  obtain ⟨cs, rfl⟩ := okWide_agg (ss := [.int .u8, .int .u8, .int .i8]) (by kernel_rfl) hval
  obtain ⟨d, hd, hc, hdeep⟩ := open_Trod (s := .row [.int .u8, .int .u8, .int .i8]) (by kernel_rfl) h
  obtain ⟨dsx1, rfl, hdsx1⟩ := has_row hd
  obtain ⟨ex1_0, rx1_0, rfl, qx1_0, hdsx1⟩ := has_cons hdsx1
  obtain ⟨ex1_1, rx1_1, rfl, qx1_1, hdsx1⟩ := has_cons hdsx1
  obtain ⟨ex1_2, rx1_2, rfl, qx1_2, hdsx1⟩ := has_cons hdsx1
  obtain rfl := has_nil hdsx1
  obtain ⟨x2, rfl, hx2⟩ := has_int qx1_0
  obtain ⟨x3, rfl, hx3⟩ := has_int qx1_1
  obtain ⟨x4, rfl, hx4⟩ := has_int qx1_2
  refine ⟨x2, x3, x4, ?_, wf_u8 hx2, wf_u8 hx3, wf_i8 hx4⟩
  congr 1
  apply Array.ext'
  simp only [Value.cells] at hc
  rw [hc]
  simp [encD, encDs]
-- PATTERN arc open|43|open_arc|⟨x2_#, x3_#, x4_#, rfl, h0_#, h1_#, h2_#⟩
set_option maxRecDepth 100000 in
theorem open_con {H : Type} {enc : TypeId × Value → H} {W : World} {v : Value} {d : DataW H} {p : List MemPlace} (hval : Value.okWide Try.prog W .any 0 34 v) (h : DataW.Trod enc Try.prog W 0 (fun _ => true) true 34 v d p) :
    ∃ (x2 : Int) (x3 : Int) (x4 : Int), v = .agg #[.int .i64 x2, .int .i64 x3, .int .i64 x4] ∧ (-9223372036854775808 ≤ x2 ∧ x2 ≤ 9223372036854775807) ∧ (-9223372036854775808 ≤ x3 ∧ x3 ≤ 9223372036854775807) ∧ (-9223372036854775808 ≤ x4 ∧ x4 ≤ 9223372036854775807) := by
  obtain ⟨cs, rfl⟩ := okWide_agg (ss := [.int .i64, .int .i64, .int .i64]) (by kernel_rfl) hval
  obtain ⟨d, hd, hc, hdeep⟩ := open_Trod (s := .row [.int .i64, .int .i64, .int .i64]) (by kernel_rfl) h
  obtain ⟨dsx1, rfl, hdsx1⟩ := has_row hd
  obtain ⟨ex1_0, rx1_0, rfl, qx1_0, hdsx1⟩ := has_cons hdsx1
  obtain ⟨ex1_1, rx1_1, rfl, qx1_1, hdsx1⟩ := has_cons hdsx1
  obtain ⟨ex1_2, rx1_2, rfl, qx1_2, hdsx1⟩ := has_cons hdsx1
  obtain rfl := has_nil hdsx1
  obtain ⟨x2, rfl, hx2⟩ := has_int qx1_0
  obtain ⟨x3, rfl, hx3⟩ := has_int qx1_1
  obtain ⟨x4, rfl, hx4⟩ := has_int qx1_2
  refine ⟨x2, x3, x4, ?_, wf_i64 hx2, wf_i64 hx3, wf_i64 hx4⟩
  congr 1
  apply Array.ext'
  simp only [Value.cells] at hc
  rw [hc]
  simp [encD, encDs]
-- PATTERN con open|34|open_con|⟨x2_#, x3_#, x4_#, rfl, h0_#, h1_#, h2_#⟩
set_option maxRecDepth 100000 in
theorem open_at3 {H : Type} {enc : TypeId × Value → H} {W : World} {v : Value} {d : DataW H} {p : List MemPlace} (hval : Value.okWide Try.prog W .any 0 44 v) (h : DataW.Trod enc Try.prog W 0 (fun _ => true) true 44 v d p) :
    ∃ (x2 : Int) (x3 : Int) (x4 : Int), v = .agg #[.int .u8 x2, .int .u8 x3, .int .u8 x4] ∧ (0 ≤ x2 ∧ x2 ≤ 255) ∧ (0 ≤ x3 ∧ x3 ≤ 255) ∧ (0 ≤ x4 ∧ x4 ≤ 255) := by
  obtain ⟨cs, rfl⟩ := okWide_agg (ss := [.int .u8, .int .u8, .int .u8]) (by kernel_rfl) hval
  obtain ⟨d, hd, hc, hdeep⟩ := open_Trod (s := .row [.int .u8, .int .u8, .int .u8]) (by kernel_rfl) h
  obtain ⟨dsx1, rfl, hdsx1⟩ := has_row hd
  obtain ⟨ex1_0, rx1_0, rfl, qx1_0, hdsx1⟩ := has_cons hdsx1
  obtain ⟨ex1_1, rx1_1, rfl, qx1_1, hdsx1⟩ := has_cons hdsx1
  obtain ⟨ex1_2, rx1_2, rfl, qx1_2, hdsx1⟩ := has_cons hdsx1
  obtain rfl := has_nil hdsx1
  obtain ⟨x2, rfl, hx2⟩ := has_int qx1_0
  obtain ⟨x3, rfl, hx3⟩ := has_int qx1_1
  obtain ⟨x4, rfl, hx4⟩ := has_int qx1_2
  refine ⟨x2, x3, x4, ?_, wf_u8 hx2, wf_u8 hx3, wf_u8 hx4⟩
  congr 1
  apply Array.ext'
  simp only [Value.cells] at hc
  rw [hc]
  simp [encD, encDs]
-- PATTERN at3 open|44|open_at3|⟨x2_#, x3_#, x4_#, rfl, h0_#, h1_#, h2_#⟩
set_option maxRecDepth 100000 in
theorem open_vals6 {H : Type} {enc : TypeId × Value → H} {W : World} {v : Value} {d : DataW H} {p : List MemPlace} (hval : Value.okWide Try.prog W .any 0 61 v) (h : DataW.Trod enc Try.prog W 0 (fun _ => true) true 61 v d p) :
    ∃ (x2 : Int) (x3 : Int) (x4 : Int) (x5 : Int) (x6 : Int) (x7 : Int), v = .agg #[.int .i64 x2, .int .i64 x3, .int .i64 x4, .int .i64 x5, .int .i64 x6, .int .i64 x7] ∧ (-9223372036854775808 ≤ x2 ∧ x2 ≤ 9223372036854775807) ∧ (-9223372036854775808 ≤ x3 ∧ x3 ≤ 9223372036854775807) ∧ (-9223372036854775808 ≤ x4 ∧ x4 ≤ 9223372036854775807) ∧ (-9223372036854775808 ≤ x5 ∧ x5 ≤ 9223372036854775807) ∧ (-9223372036854775808 ≤ x6 ∧ x6 ≤ 9223372036854775807) ∧ (-9223372036854775808 ≤ x7 ∧ x7 ≤ 9223372036854775807) := by
  obtain ⟨cs, rfl⟩ := okWide_agg (ss := [.int .i64, .int .i64, .int .i64, .int .i64, .int .i64, .int .i64]) (by kernel_rfl) hval
  obtain ⟨d, hd, hc, hdeep⟩ := open_Trod (s := .row [.int .i64, .int .i64, .int .i64, .int .i64, .int .i64, .int .i64]) (by kernel_rfl) h
  obtain ⟨dsx1, rfl, hdsx1⟩ := has_row hd
  obtain ⟨ex1_0, rx1_0, rfl, qx1_0, hdsx1⟩ := has_cons hdsx1
  obtain ⟨ex1_1, rx1_1, rfl, qx1_1, hdsx1⟩ := has_cons hdsx1
  obtain ⟨ex1_2, rx1_2, rfl, qx1_2, hdsx1⟩ := has_cons hdsx1
  obtain ⟨ex1_3, rx1_3, rfl, qx1_3, hdsx1⟩ := has_cons hdsx1
  obtain ⟨ex1_4, rx1_4, rfl, qx1_4, hdsx1⟩ := has_cons hdsx1
  obtain ⟨ex1_5, rx1_5, rfl, qx1_5, hdsx1⟩ := has_cons hdsx1
  obtain rfl := has_nil hdsx1
  obtain ⟨x2, rfl, hx2⟩ := has_int qx1_0
  obtain ⟨x3, rfl, hx3⟩ := has_int qx1_1
  obtain ⟨x4, rfl, hx4⟩ := has_int qx1_2
  obtain ⟨x5, rfl, hx5⟩ := has_int qx1_3
  obtain ⟨x6, rfl, hx6⟩ := has_int qx1_4
  obtain ⟨x7, rfl, hx7⟩ := has_int qx1_5
  refine ⟨x2, x3, x4, x5, x6, x7, ?_, wf_i64 hx2, wf_i64 hx3, wf_i64 hx4, wf_i64 hx5, wf_i64 hx6, wf_i64 hx7⟩
  congr 1
  apply Array.ext'
  simp only [Value.cells] at hc
  rw [hc]
  simp [encD, encDs]
-- PATTERN vals6 open|61|open_vals6|⟨x2_#, x3_#, x4_#, x5_#, x6_#, x7_#, rfl, h0_#, h1_#, h2_#, h3_#, h4_#, h5_#⟩
end Go.Proofs.Ytgdjnjbipemdcaa
