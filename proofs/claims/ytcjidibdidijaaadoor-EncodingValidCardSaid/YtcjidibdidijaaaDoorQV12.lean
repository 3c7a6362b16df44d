/- Parts of this proof in one text: RInfo0. -/
import Derived.Test.YtcjidibdidijaaaDoorQV1
namespace Go.Proofs.YtcjidibdidijaaaDoor
set_option linter.unusedVariables false
set_option linter.unusedSimpArgs false
open Go.RowKit Go.Proofs.YtcjidibdidijaaaDoorW.PrintWords
set_option maxRecDepth 100000 in
set_option maxHeartbeats 1000000 in
theorem rinfo1 (w : World) : Calls Tryd.prog 55 #[.int .i64 1] w fun e w' => e = .returned (.tuple #[.agg #[.string ⟨#[110, 111, 112]⟩, .int .i64 1, .bool false, .bool false, .bool false, .bool false, .int .i64 1], .bool true]) ∧ Below w.heap.size w w' := by
  go_enter Tryd.func55, Tryd.ntmps55
  go_wp2
  refine bodyPost_ret (v := .tuple #[.agg #[.string ⟨#[110, 111, 112]⟩, .int .i64 1, .bool false, .bool false, .bool false, .bool false, .int .i64 1], .bool true]) (by simp [results, Tryd.results55, go_sem]) rfl ⟨rfl, ?_⟩
  repeat (first | exact Below.refl _ _ | refine Below.setCell ?_ (by simp <;> omega) _ | refine Below.alloc ?_ (by simp <;> omega) _)
set_option maxRecDepth 100000 in
set_option maxHeartbeats 1000000 in
theorem rinfo2 (w : World) : Calls Tryd.prog 55 #[.int .i64 2] w fun e w' => e = .returned (.tuple #[.agg #[.string ⟨#[114, 101, 116]⟩, .int .i64 1, .bool false, .bool false, .bool false, .bool false, .int .i64 1], .bool true]) ∧ Below w.heap.size w w' := by
  go_enter Tryd.func55, Tryd.ntmps55
  go_wp2
  refine bodyPost_ret (v := .tuple #[.agg #[.string ⟨#[114, 101, 116]⟩, .int .i64 1, .bool false, .bool false, .bool false, .bool false, .int .i64 1], .bool true]) (by simp [results, Tryd.results55, go_sem]) rfl ⟨rfl, ?_⟩
  repeat (first | exact Below.refl _ _ | refine Below.setCell ?_ (by simp <;> omega) _ | refine Below.alloc ?_ (by simp <;> omega) _)
set_option maxRecDepth 100000 in
set_option maxHeartbeats 1000000 in
theorem rinfo3 (w : World) : Calls Tryd.prog 55 #[.int .i64 3] w fun e w' => e = .returned (.tuple #[.agg #[.string ⟨#[116, 105, 99, 107]⟩, .int .i64 1, .bool false, .bool false, .bool false, .bool false, .int .i64 1], .bool true]) ∧ Below w.heap.size w w' := by
  go_enter Tryd.func55, Tryd.ntmps55
  go_wp2
  refine bodyPost_ret (v := .tuple #[.agg #[.string ⟨#[116, 105, 99, 107]⟩, .int .i64 1, .bool false, .bool false, .bool false, .bool false, .int .i64 1], .bool true]) (by simp [results, Tryd.results55, go_sem]) rfl ⟨rfl, ?_⟩
  repeat (first | exact Below.refl _ _ | refine Below.setCell ?_ (by simp <;> omega) _ | refine Below.alloc ?_ (by simp <;> omega) _)
set_option maxRecDepth 100000 in
set_option maxHeartbeats 1000000 in
theorem rinfo4 (w : World) : Calls Tryd.prog 55 #[.int .i64 4] w fun e w' => e = .returned (.tuple #[.agg #[.string ⟨#[116, 114, 97, 112]⟩, .int .i64 8, .bool false, .bool false, .bool false, .bool true, .int .i64 1], .bool true]) ∧ Below w.heap.size w w' := by
  go_enter Tryd.func55, Tryd.ntmps55
  go_wp2
  refine bodyPost_ret (v := .tuple #[.agg #[.string ⟨#[116, 114, 97, 112]⟩, .int .i64 8, .bool false, .bool false, .bool false, .bool true, .int .i64 1], .bool true]) (by simp [results, Tryd.results55, go_sem]) rfl ⟨rfl, ?_⟩
  repeat (first | exact Below.refl _ _ | refine Below.setCell ?_ (by simp <;> omega) _ | refine Below.alloc ?_ (by simp <;> omega) _)
set_option maxRecDepth 100000 in
set_option maxHeartbeats 1000000 in
theorem rinfo5 (w : World) : Calls Tryd.prog 55 #[.int .i64 5] w fun e w' => e = .returned (.tuple #[.agg #[.string ⟨#[106, 109, 112]⟩, .int .i64 8, .bool false, .bool false, .bool false, .bool false, .int .i64 1], .bool true]) ∧ Below w.heap.size w w' := by
  go_enter Tryd.func55, Tryd.ntmps55
  go_wp2
  refine bodyPost_ret (v := .tuple #[.agg #[.string ⟨#[106, 109, 112]⟩, .int .i64 8, .bool false, .bool false, .bool false, .bool false, .int .i64 1], .bool true]) (by simp [results, Tryd.results55, go_sem]) rfl ⟨rfl, ?_⟩
  repeat (first | exact Below.refl _ _ | refine Below.setCell ?_ (by simp <;> omega) _ | refine Below.alloc ?_ (by simp <;> omega) _)
set_option maxRecDepth 100000 in
set_option maxHeartbeats 1000000 in
theorem rinfo6 (w : World) : Calls Tryd.prog 55 #[.int .i64 6] w fun e w' => e = .returned (.tuple #[.agg #[.string ⟨#[99, 97, 108, 108]⟩, .int .i64 5, .bool false, .bool false, .bool false, .bool false, .int .i64 1], .bool true]) ∧ Below w.heap.size w w' := by
  go_enter Tryd.func55, Tryd.ntmps55
  go_wp2
  refine bodyPost_ret (v := .tuple #[.agg #[.string ⟨#[99, 97, 108, 108]⟩, .int .i64 5, .bool false, .bool false, .bool false, .bool false, .int .i64 1], .bool true]) (by simp [results, Tryd.results55, go_sem]) rfl ⟨rfl, ?_⟩
  repeat (first | exact Below.refl _ _ | refine Below.setCell ?_ (by simp <;> omega) _ | refine Below.alloc ?_ (by simp <;> omega) _)
set_option maxRecDepth 100000 in
set_option maxHeartbeats 1000000 in
theorem rinfo7 (w : World) : Calls Tryd.prog 55 #[.int .i64 7] w fun e w' => e = .returned (.tuple #[.agg #[.string ⟨#[106, 122]⟩, .int .i64 5, .bool true, .bool false, .bool false, .bool false, .int .i64 1], .bool true]) ∧ Below w.heap.size w w' := by
  go_enter Tryd.func55, Tryd.ntmps55
  go_wp2
  refine bodyPost_ret (v := .tuple #[.agg #[.string ⟨#[106, 122]⟩, .int .i64 5, .bool true, .bool false, .bool false, .bool false, .int .i64 1], .bool true]) (by simp [results, Tryd.results55, go_sem]) rfl ⟨rfl, ?_⟩
  repeat (first | exact Below.refl _ _ | refine Below.setCell ?_ (by simp <;> omega) _ | refine Below.alloc ?_ (by simp <;> omega) _)
set_option maxRecDepth 100000 in
set_option maxHeartbeats 1000000 in
theorem rinfo8 (w : World) : Calls Tryd.prog 55 #[.int .i64 8] w fun e w' => e = .returned (.tuple #[.agg #[.string ⟨#[106, 110, 122]⟩, .int .i64 5, .bool true, .bool false, .bool false, .bool false, .int .i64 1], .bool true]) ∧ Below w.heap.size w w' := by
  go_enter Tryd.func55, Tryd.ntmps55
  go_wp2
  refine bodyPost_ret (v := .tuple #[.agg #[.string ⟨#[106, 110, 122]⟩, .int .i64 5, .bool true, .bool false, .bool false, .bool false, .int .i64 1], .bool true]) (by simp [results, Tryd.results55, go_sem]) rfl ⟨rfl, ?_⟩
  repeat (first | exact Below.refl _ _ | refine Below.setCell ?_ (by simp <;> omega) _ | refine Below.alloc ?_ (by simp <;> omega) _)
set_option maxRecDepth 100000 in
set_option maxHeartbeats 1000000 in
theorem rinfo9 (w : World) : Calls Tryd.prog 55 #[.int .i64 9] w fun e w' => e = .returned (.tuple #[.agg #[.string ⟨#[111, 117, 116]⟩, .int .i64 2, .bool true, .bool false, .bool false, .bool false, .int .i64 1], .bool true]) ∧ Below w.heap.size w w' := by
  go_enter Tryd.func55, Tryd.ntmps55
  go_wp2
  refine bodyPost_ret (v := .tuple #[.agg #[.string ⟨#[111, 117, 116]⟩, .int .i64 2, .bool true, .bool false, .bool false, .bool false, .int .i64 1], .bool true]) (by simp [results, Tryd.results55, go_sem]) rfl ⟨rfl, ?_⟩
  repeat (first | exact Below.refl _ _ | refine Below.setCell ?_ (by simp <;> omega) _ | refine Below.alloc ?_ (by simp <;> omega) _)
set_option maxRecDepth 100000 in
set_option maxHeartbeats 1000000 in
theorem rinfo10 (w : World) : Calls Tryd.prog 55 #[.int .i64 10] w fun e w' => e = .returned (.tuple #[.agg #[.string ⟨#[109, 111, 118]⟩, .int .i64 3, .bool false, .bool true, .bool true, .bool false, .int .i64 1], .bool true]) ∧ Below w.heap.size w w' := by
  go_enter Tryd.func55, Tryd.ntmps55
  go_wp2
  refine bodyPost_ret (v := .tuple #[.agg #[.string ⟨#[109, 111, 118]⟩, .int .i64 3, .bool false, .bool true, .bool true, .bool false, .int .i64 1], .bool true]) (by simp [results, Tryd.results55, go_sem]) rfl ⟨rfl, ?_⟩
  repeat (first | exact Below.refl _ _ | refine Below.setCell ?_ (by simp <;> omega) _ | refine Below.alloc ?_ (by simp <;> omega) _)
end Go.Proofs.YtcjidibdidijaaaDoor
