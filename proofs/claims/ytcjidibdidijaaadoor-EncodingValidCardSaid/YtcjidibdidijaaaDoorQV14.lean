/- Parts of this proof in one text: RInfo2. -/
import Derived.Test.YtcjidibdidijaaaDoorQV1
namespace Go.Proofs.YtcjidibdidijaaaDoor
set_option linter.unusedVariables false
set_option linter.unusedSimpArgs false
open Go.RowKit Go.Proofs.YtcjidibdidijaaaDoorW.PrintWords
set_option maxRecDepth 100000 in
set_option maxHeartbeats 1000000 in
theorem rinfo21 (w : World) : Calls Tryd.prog 55 #[.int .i64 21] w fun e w' => e = .returned (.tuple #[.agg #[.string ⟨#[114, 101, 109]⟩, .int .i64 3, .bool true, .bool true, .bool true, .bool true, .int .i64 1], .bool true]) ∧ Below w.heap.size w w' := by
  go_enter Tryd.func55, Tryd.ntmps55
  go_wp2
  refine bodyPost_ret (v := .tuple #[.agg #[.string ⟨#[114, 101, 109]⟩, .int .i64 3, .bool true, .bool true, .bool true, .bool true, .int .i64 1], .bool true]) (by simp [results, Tryd.results55, go_sem]) rfl ⟨rfl, ?_⟩
  repeat (first | exact Below.refl _ _ | refine Below.setCell ?_ (by simp <;> omega) _ | refine Below.alloc ?_ (by simp <;> omega) _)
set_option maxRecDepth 100000 in
set_option maxHeartbeats 1000000 in
theorem rinfo22 (w : World) : Calls Tryd.prog 55 #[.int .i64 22] w fun e w' => e = .returned (.tuple #[.agg #[.string ⟨#[97, 110, 100]⟩, .int .i64 3, .bool true, .bool true, .bool true, .bool false, .int .i64 1], .bool true]) ∧ Below w.heap.size w w' := by
  go_enter Tryd.func55, Tryd.ntmps55
  go_wp2
  refine bodyPost_ret (v := .tuple #[.agg #[.string ⟨#[97, 110, 100]⟩, .int .i64 3, .bool true, .bool true, .bool true, .bool false, .int .i64 1], .bool true]) (by simp [results, Tryd.results55, go_sem]) rfl ⟨rfl, ?_⟩
  repeat (first | exact Below.refl _ _ | refine Below.setCell ?_ (by simp <;> omega) _ | refine Below.alloc ?_ (by simp <;> omega) _)
set_option maxRecDepth 100000 in
set_option maxHeartbeats 1000000 in
theorem rinfo23 (w : World) : Calls Tryd.prog 55 #[.int .i64 23] w fun e w' => e = .returned (.tuple #[.agg #[.string ⟨#[111, 114]⟩, .int .i64 3, .bool true, .bool true, .bool true, .bool false, .int .i64 1], .bool true]) ∧ Below w.heap.size w w' := by
  go_enter Tryd.func55, Tryd.ntmps55
  go_wp2
  refine bodyPost_ret (v := .tuple #[.agg #[.string ⟨#[111, 114]⟩, .int .i64 3, .bool true, .bool true, .bool true, .bool false, .int .i64 1], .bool true]) (by simp [results, Tryd.results55, go_sem]) rfl ⟨rfl, ?_⟩
  repeat (first | exact Below.refl _ _ | refine Below.setCell ?_ (by simp <;> omega) _ | refine Below.alloc ?_ (by simp <;> omega) _)
set_option maxRecDepth 100000 in
set_option maxHeartbeats 1000000 in
theorem rinfo24 (w : World) : Calls Tryd.prog 55 #[.int .i64 24] w fun e w' => e = .returned (.tuple #[.agg #[.string ⟨#[120, 111, 114]⟩, .int .i64 3, .bool true, .bool true, .bool true, .bool false, .int .i64 1], .bool true]) ∧ Below w.heap.size w w' := by
  go_enter Tryd.func55, Tryd.ntmps55
  go_wp2
  refine bodyPost_ret (v := .tuple #[.agg #[.string ⟨#[120, 111, 114]⟩, .int .i64 3, .bool true, .bool true, .bool true, .bool false, .int .i64 1], .bool true]) (by simp [results, Tryd.results55, go_sem]) rfl ⟨rfl, ?_⟩
  repeat (first | exact Below.refl _ _ | refine Below.setCell ?_ (by simp <;> omega) _ | refine Below.alloc ?_ (by simp <;> omega) _)
set_option maxRecDepth 100000 in
set_option maxHeartbeats 1000000 in
theorem rinfo25 (w : World) : Calls Tryd.prog 55 #[.int .i64 25] w fun e w' => e = .returned (.tuple #[.agg #[.string ⟨#[115, 104, 108]⟩, .int .i64 3, .bool true, .bool true, .bool true, .bool false, .int .i64 1], .bool true]) ∧ Below w.heap.size w w' := by
  go_enter Tryd.func55, Tryd.ntmps55
  go_wp2
  refine bodyPost_ret (v := .tuple #[.agg #[.string ⟨#[115, 104, 108]⟩, .int .i64 3, .bool true, .bool true, .bool true, .bool false, .int .i64 1], .bool true]) (by simp [results, Tryd.results55, go_sem]) rfl ⟨rfl, ?_⟩
  repeat (first | exact Below.refl _ _ | refine Below.setCell ?_ (by simp <;> omega) _ | refine Below.alloc ?_ (by simp <;> omega) _)
set_option maxRecDepth 100000 in
set_option maxHeartbeats 1000000 in
theorem rinfo26 (w : World) : Calls Tryd.prog 55 #[.int .i64 26] w fun e w' => e = .returned (.tuple #[.agg #[.string ⟨#[115, 104, 114]⟩, .int .i64 3, .bool true, .bool true, .bool true, .bool false, .int .i64 1], .bool true]) ∧ Below w.heap.size w w' := by
  go_enter Tryd.func55, Tryd.ntmps55
  go_wp2
  refine bodyPost_ret (v := .tuple #[.agg #[.string ⟨#[115, 104, 114]⟩, .int .i64 3, .bool true, .bool true, .bool true, .bool false, .int .i64 1], .bool true]) (by simp [results, Tryd.results55, go_sem]) rfl ⟨rfl, ?_⟩
  repeat (first | exact Below.refl _ _ | refine Below.setCell ?_ (by simp <;> omega) _ | refine Below.alloc ?_ (by simp <;> omega) _)
set_option maxRecDepth 100000 in
set_option maxHeartbeats 1000000 in
theorem rinfo27 (w : World) : Calls Tryd.prog 55 #[.int .i64 27] w fun e w' => e = .returned (.tuple #[.agg #[.string ⟨#[115, 97, 114]⟩, .int .i64 3, .bool true, .bool true, .bool true, .bool false, .int .i64 1], .bool true]) ∧ Below w.heap.size w w' := by
  go_enter Tryd.func55, Tryd.ntmps55
  go_wp2
  refine bodyPost_ret (v := .tuple #[.agg #[.string ⟨#[115, 97, 114]⟩, .int .i64 3, .bool true, .bool true, .bool true, .bool false, .int .i64 1], .bool true]) (by simp [results, Tryd.results55, go_sem]) rfl ⟨rfl, ?_⟩
  repeat (first | exact Below.refl _ _ | refine Below.setCell ?_ (by simp <;> omega) _ | refine Below.alloc ?_ (by simp <;> omega) _)
set_option maxRecDepth 100000 in
set_option maxHeartbeats 1000000 in
theorem rinfo28 (w : World) : Calls Tryd.prog 55 #[.int .i64 28] w fun e w' => e = .returned (.tuple #[.agg #[.string ⟨#[101, 113]⟩, .int .i64 3, .bool true, .bool true, .bool true, .bool false, .int .i64 1], .bool true]) ∧ Below w.heap.size w w' := by
  go_enter Tryd.func55, Tryd.ntmps55
  go_wp2
  refine bodyPost_ret (v := .tuple #[.agg #[.string ⟨#[101, 113]⟩, .int .i64 3, .bool true, .bool true, .bool true, .bool false, .int .i64 1], .bool true]) (by simp [results, Tryd.results55, go_sem]) rfl ⟨rfl, ?_⟩
  repeat (first | exact Below.refl _ _ | refine Below.setCell ?_ (by simp <;> omega) _ | refine Below.alloc ?_ (by simp <;> omega) _)
set_option maxRecDepth 100000 in
set_option maxHeartbeats 1000000 in
theorem rinfo29 (w : World) : Calls Tryd.prog 55 #[.int .i64 29] w fun e w' => e = .returned (.tuple #[.agg #[.string ⟨#[110, 101]⟩, .int .i64 3, .bool true, .bool true, .bool true, .bool false, .int .i64 1], .bool true]) ∧ Below w.heap.size w w' := by
  go_enter Tryd.func55, Tryd.ntmps55
  go_wp2
  refine bodyPost_ret (v := .tuple #[.agg #[.string ⟨#[110, 101]⟩, .int .i64 3, .bool true, .bool true, .bool true, .bool false, .int .i64 1], .bool true]) (by simp [results, Tryd.results55, go_sem]) rfl ⟨rfl, ?_⟩
  repeat (first | exact Below.refl _ _ | refine Below.setCell ?_ (by simp <;> omega) _ | refine Below.alloc ?_ (by simp <;> omega) _)
end Go.Proofs.YtcjidibdidijaaaDoor
