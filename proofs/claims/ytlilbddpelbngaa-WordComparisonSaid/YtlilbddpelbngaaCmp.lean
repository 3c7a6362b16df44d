/- Comparisons of words: the walk of fullinglaw1.WordComparison, case by case, and its law: it returns true for every two words. -/
import Derived.Test.YtlilbddpelbngaaPAllx
import Derived.Test.YtlilbddpelbngaaOps
import Derived.WalkSpells
namespace Go.Proofs.Ytlilbddpelbngaa.M
set_option linter.unusedVariables false
set_option linter.unusedSimpArgs false
open Go.RowKit Go.Proofs.Ytlilbddpelbngaa.PAll Go.Proofs.YtlilbddpelbngaaW.PrintWords Go.Proofs.YtlilbddpelbngaaW.PrintLast Go.Proofs.YtlilbddpelbngaaW.PrintMore

set_option maxHeartbeats 1000000 in
theorem cmp_A (a b p q x y : Int) (w : World) (hx : Aside0 (fullingkeep_Word.f a p = some x)) (hy : Aside0 (fullingkeep_Word.f b q = some y))
    (h1 : Aside0 (word_Binary.f 17 x y = some 1)) (h2 : Aside0 (word_Binary.f 17 y x = some 0)) (h3 : Aside0 (word_Binary.f 15 x y = some 0)) (h4 : Aside0 (word_Binary.f 19 x y = some 1))
    (h5 : Aside0 (word_Binary.f 16 x y = some 1)) (h6 : Aside0 (word_Binary.f 18 x y = some 1))
    (t1 : decide (x < 0) = true) (t2 : decide (y < 0) = true) (t3 : (x == y) = false) (t4 : decide (0 ≤ x) = false) (t5 : decide (0 ≤ y) = false) :
    Calls Try.prog 6 #[.int .i64 a, .int .i64 b, .int .i64 p, .int .i64 q] w fun e w' => e = .returned (.bool true) ∧ Below w.heap.size w w' := by
  have HB := Aside0.mk (Below.refl w.heap.size w)
  go_enter Try.func6, Try.ntmps6
  go_wp2_with fail
  refine (fullingkeep_Word.calls a p x _ hx.out).mono ?_
  rintro e w1 ⟨rfl, b⟩
  have n0 := Aside0.mk (below_step HB.out b)
  clear HB b
  have HB := n0
  clear n0
  go_wp2_with fail
  refine (fullingkeep_Word.calls b q y _ hy.out).mono ?_
  rintro e w2 ⟨rfl, b⟩
  have n0 := Aside0.mk (below_step HB.out b)
  clear HB b
  have HB := n0
  clear n0
  go_wp2_with fail
  refine (word_Binary.calls 17 x y 1 _ h1.out).mono ?_
  rintro e w3 ⟨rfl, b⟩
  have n0 := Aside0.mk (below_step HB.out b.below)
  clear HB b
  have HB := n0
  clear n0
  go_wp2_with fail
  refine (word_Binary.calls 17 y x 0 _ h2.out).mono ?_
  rintro e w4 ⟨rfl, b⟩
  have n0 := Aside0.mk (below_step HB.out b.below)
  clear HB b
  have HB := n0
  clear n0
  go_wp2_with fail
  refine (word_Binary.calls 15 x y 0 _ h3.out).mono ?_
  rintro e w5 ⟨rfl, b⟩
  have n0 := Aside0.mk (below_step HB.out b.below)
  clear HB b
  have HB := n0
  clear n0
  go_wp2_with fail
  refine (word_Binary.calls 19 x y 1 _ h4.out).mono ?_
  rintro e w6 ⟨rfl, b⟩
  have n0 := Aside0.mk (below_step HB.out b.below)
  clear HB b
  have HB := n0
  clear n0
  go_wp2_with fail
  refine (word_Binary.calls 16 x y 1 _ h5.out).mono ?_
  rintro e w7 ⟨rfl, b⟩
  have n0 := Aside0.mk (below_step HB.out b.below)
  clear HB b
  have HB := n0
  clear n0
  go_wp2_with fail
  refine (word_Binary.calls 18 x y 1 _ h6.out).mono ?_
  rintro e w8 ⟨rfl, b⟩
  have n0 := Aside0.mk (below_step HB.out b.below)
  clear HB b
  have HB := n0
  clear n0
  go_wp2_with fail
  refine (fullinglaw1_WordExamples.calls 40 true _ examples_k).mono ?_
  rintro e w9 ⟨rfl, b⟩
  have n0 := Aside0.mk (below_step HB.out b)
  clear HB b
  have HB := n0
  clear n0
  go_wp2_with fail
  go_ret
  exact ⟨rfl, HB.out⟩
set_option maxHeartbeats 1000000 in
theorem cmp_B (a b p q x y : Int) (w : World) (hx : Aside0 (fullingkeep_Word.f a p = some x)) (hy : Aside0 (fullingkeep_Word.f b q = some y))
    (h1 : Aside0 (word_Binary.f 17 x y = some 0)) (h2 : Aside0 (word_Binary.f 17 y x = some 0)) (h3 : Aside0 (word_Binary.f 15 x y = some 1)) (h4 : Aside0 (word_Binary.f 19 x y = some 0))
    (h5 : Aside0 (word_Binary.f 16 x y = some 0)) (h6 : Aside0 (word_Binary.f 18 x y = some 1))
    (t1 : decide (x < 0) = true) (t2 : decide (y < 0) = true) (t3 : (x == y) = true) (t4 : decide (0 ≤ x) = false) (t5 : decide (0 ≤ y) = false) :
    Calls Try.prog 6 #[.int .i64 a, .int .i64 b, .int .i64 p, .int .i64 q] w fun e w' => e = .returned (.bool true) ∧ Below w.heap.size w w' := by
  have HB := Aside0.mk (Below.refl w.heap.size w)
  go_enter Try.func6, Try.ntmps6
  go_wp2_with fail
  refine (fullingkeep_Word.calls a p x _ hx.out).mono ?_
  rintro e w1 ⟨rfl, b⟩
  have n0 := Aside0.mk (below_step HB.out b)
  clear HB b
  have HB := n0
  clear n0
  go_wp2_with fail
  refine (fullingkeep_Word.calls b q y _ hy.out).mono ?_
  rintro e w2 ⟨rfl, b⟩
  have n0 := Aside0.mk (below_step HB.out b)
  clear HB b
  have HB := n0
  clear n0
  go_wp2_with fail
  refine (word_Binary.calls 17 x y 0 _ h1.out).mono ?_
  rintro e w3 ⟨rfl, b⟩
  have n0 := Aside0.mk (below_step HB.out b.below)
  clear HB b
  have HB := n0
  clear n0
  go_wp2_with fail
  refine (word_Binary.calls 17 y x 0 _ h2.out).mono ?_
  rintro e w4 ⟨rfl, b⟩
  have n0 := Aside0.mk (below_step HB.out b.below)
  clear HB b
  have HB := n0
  clear n0
  go_wp2_with fail
  refine (word_Binary.calls 15 x y 1 _ h3.out).mono ?_
  rintro e w5 ⟨rfl, b⟩
  have n0 := Aside0.mk (below_step HB.out b.below)
  clear HB b
  have HB := n0
  clear n0
  go_wp2_with fail
  refine (word_Binary.calls 19 x y 0 _ h4.out).mono ?_
  rintro e w6 ⟨rfl, b⟩
  have n0 := Aside0.mk (below_step HB.out b.below)
  clear HB b
  have HB := n0
  clear n0
  go_wp2_with fail
  refine (word_Binary.calls 16 x y 0 _ h5.out).mono ?_
  rintro e w7 ⟨rfl, b⟩
  have n0 := Aside0.mk (below_step HB.out b.below)
  clear HB b
  have HB := n0
  clear n0
  go_wp2_with fail
  refine (word_Binary.calls 18 x y 1 _ h6.out).mono ?_
  rintro e w8 ⟨rfl, b⟩
  have n0 := Aside0.mk (below_step HB.out b.below)
  clear HB b
  have HB := n0
  clear n0
  go_wp2_with fail
  refine (fullinglaw1_WordExamples.calls 40 true _ examples_k).mono ?_
  rintro e w9 ⟨rfl, b⟩
  have n0 := Aside0.mk (below_step HB.out b)
  clear HB b
  have HB := n0
  clear n0
  go_wp2_with fail
  go_ret
  exact ⟨rfl, HB.out⟩
set_option maxHeartbeats 1000000 in
theorem cmp_C (a b p q x y : Int) (w : World) (hx : Aside0 (fullingkeep_Word.f a p = some x)) (hy : Aside0 (fullingkeep_Word.f b q = some y))
    (h1 : Aside0 (word_Binary.f 17 x y = some 0)) (h2 : Aside0 (word_Binary.f 17 y x = some 1)) (h3 : Aside0 (word_Binary.f 15 x y = some 0)) (h4 : Aside0 (word_Binary.f 19 x y = some 0))
    (h5 : Aside0 (word_Binary.f 16 x y = some 1)) (h6 : Aside0 (word_Binary.f 18 x y = some 0))
    (t1 : decide (x < 0) = true) (t2 : decide (y < 0) = true) (t3 : (x == y) = false) (t4 : decide (0 ≤ x) = false) (t5 : decide (0 ≤ y) = false) :
    Calls Try.prog 6 #[.int .i64 a, .int .i64 b, .int .i64 p, .int .i64 q] w fun e w' => e = .returned (.bool true) ∧ Below w.heap.size w w' := by
  have HB := Aside0.mk (Below.refl w.heap.size w)
  go_enter Try.func6, Try.ntmps6
  go_wp2_with fail
  refine (fullingkeep_Word.calls a p x _ hx.out).mono ?_
  rintro e w1 ⟨rfl, b⟩
  have n0 := Aside0.mk (below_step HB.out b)
  clear HB b
  have HB := n0
  clear n0
  go_wp2_with fail
  refine (fullingkeep_Word.calls b q y _ hy.out).mono ?_
  rintro e w2 ⟨rfl, b⟩
  have n0 := Aside0.mk (below_step HB.out b)
  clear HB b
  have HB := n0
  clear n0
  go_wp2_with fail
  refine (word_Binary.calls 17 x y 0 _ h1.out).mono ?_
  rintro e w3 ⟨rfl, b⟩
  have n0 := Aside0.mk (below_step HB.out b.below)
  clear HB b
  have HB := n0
  clear n0
  go_wp2_with fail
  refine (word_Binary.calls 17 y x 1 _ h2.out).mono ?_
  rintro e w4 ⟨rfl, b⟩
  have n0 := Aside0.mk (below_step HB.out b.below)
  clear HB b
  have HB := n0
  clear n0
  go_wp2_with fail
  refine (word_Binary.calls 15 x y 0 _ h3.out).mono ?_
  rintro e w5 ⟨rfl, b⟩
  have n0 := Aside0.mk (below_step HB.out b.below)
  clear HB b
  have HB := n0
  clear n0
  go_wp2_with fail
  refine (word_Binary.calls 19 x y 0 _ h4.out).mono ?_
  rintro e w6 ⟨rfl, b⟩
  have n0 := Aside0.mk (below_step HB.out b.below)
  clear HB b
  have HB := n0
  clear n0
  go_wp2_with fail
  refine (word_Binary.calls 16 x y 1 _ h5.out).mono ?_
  rintro e w7 ⟨rfl, b⟩
  have n0 := Aside0.mk (below_step HB.out b.below)
  clear HB b
  have HB := n0
  clear n0
  go_wp2_with fail
  refine (word_Binary.calls 18 x y 0 _ h6.out).mono ?_
  rintro e w8 ⟨rfl, b⟩
  have n0 := Aside0.mk (below_step HB.out b.below)
  clear HB b
  have HB := n0
  clear n0
  go_wp2_with fail
  refine (fullinglaw1_WordExamples.calls 40 true _ examples_k).mono ?_
  rintro e w9 ⟨rfl, b⟩
  have n0 := Aside0.mk (below_step HB.out b)
  clear HB b
  have HB := n0
  clear n0
  go_wp2_with fail
  go_ret
  exact ⟨rfl, HB.out⟩
set_option maxHeartbeats 1000000 in
theorem cmp_D (a b p q x y : Int) (w : World) (hx : Aside0 (fullingkeep_Word.f a p = some x)) (hy : Aside0 (fullingkeep_Word.f b q = some y))
    (h1 : Aside0 (word_Binary.f 17 x y = some 1)) (h2 : Aside0 (word_Binary.f 17 y x = some 0)) (h3 : Aside0 (word_Binary.f 15 x y = some 0)) (h4 : Aside0 (word_Binary.f 19 x y = some 0))
    (h5 : Aside0 (word_Binary.f 16 x y = some 1)) (h6 : Aside0 (word_Binary.f 18 x y = some 1))
    (t1 : decide (x < 0) = true) (t2 : decide (y < 0) = false) (t3 : (x == y) = false) (t4 : decide (0 ≤ x) = false) (t5 : decide (0 ≤ y) = true) :
    Calls Try.prog 6 #[.int .i64 a, .int .i64 b, .int .i64 p, .int .i64 q] w fun e w' => e = .returned (.bool true) ∧ Below w.heap.size w w' := by
  have HB := Aside0.mk (Below.refl w.heap.size w)
  go_enter Try.func6, Try.ntmps6
  go_wp2_with fail
  refine (fullingkeep_Word.calls a p x _ hx.out).mono ?_
  rintro e w1 ⟨rfl, b⟩
  have n0 := Aside0.mk (below_step HB.out b)
  clear HB b
  have HB := n0
  clear n0
  go_wp2_with fail
  refine (fullingkeep_Word.calls b q y _ hy.out).mono ?_
  rintro e w2 ⟨rfl, b⟩
  have n0 := Aside0.mk (below_step HB.out b)
  clear HB b
  have HB := n0
  clear n0
  go_wp2_with fail
  refine (word_Binary.calls 17 x y 1 _ h1.out).mono ?_
  rintro e w3 ⟨rfl, b⟩
  have n0 := Aside0.mk (below_step HB.out b.below)
  clear HB b
  have HB := n0
  clear n0
  go_wp2_with fail
  refine (word_Binary.calls 17 y x 0 _ h2.out).mono ?_
  rintro e w4 ⟨rfl, b⟩
  have n0 := Aside0.mk (below_step HB.out b.below)
  clear HB b
  have HB := n0
  clear n0
  go_wp2_with fail
  refine (word_Binary.calls 15 x y 0 _ h3.out).mono ?_
  rintro e w5 ⟨rfl, b⟩
  have n0 := Aside0.mk (below_step HB.out b.below)
  clear HB b
  have HB := n0
  clear n0
  go_wp2_with fail
  refine (word_Binary.calls 19 x y 0 _ h4.out).mono ?_
  rintro e w6 ⟨rfl, b⟩
  have n0 := Aside0.mk (below_step HB.out b.below)
  clear HB b
  have HB := n0
  clear n0
  go_wp2_with fail
  refine (word_Binary.calls 16 x y 1 _ h5.out).mono ?_
  rintro e w7 ⟨rfl, b⟩
  have n0 := Aside0.mk (below_step HB.out b.below)
  clear HB b
  have HB := n0
  clear n0
  go_wp2_with fail
  refine (word_Binary.calls 18 x y 1 _ h6.out).mono ?_
  rintro e w8 ⟨rfl, b⟩
  have n0 := Aside0.mk (below_step HB.out b.below)
  clear HB b
  have HB := n0
  clear n0
  go_wp2_with fail
  refine (fullinglaw1_WordExamples.calls 40 true _ examples_k).mono ?_
  rintro e w9 ⟨rfl, b⟩
  have n0 := Aside0.mk (below_step HB.out b)
  clear HB b
  have HB := n0
  clear n0
  go_wp2_with fail
  go_ret
  exact ⟨rfl, HB.out⟩
set_option maxHeartbeats 1000000 in
theorem cmp_E (a b p q x y : Int) (w : World) (hx : Aside0 (fullingkeep_Word.f a p = some x)) (hy : Aside0 (fullingkeep_Word.f b q = some y))
    (h1 : Aside0 (word_Binary.f 17 x y = some 0)) (h2 : Aside0 (word_Binary.f 17 y x = some 1)) (h3 : Aside0 (word_Binary.f 15 x y = some 0)) (h4 : Aside0 (word_Binary.f 19 x y = some 1))
    (h5 : Aside0 (word_Binary.f 16 x y = some 1)) (h6 : Aside0 (word_Binary.f 18 x y = some 0))
    (t1 : decide (x < 0) = false) (t2 : decide (y < 0) = true) (t3 : (x == y) = false) (t4 : decide (0 ≤ x) = true) (t5 : decide (0 ≤ y) = false) :
    Calls Try.prog 6 #[.int .i64 a, .int .i64 b, .int .i64 p, .int .i64 q] w fun e w' => e = .returned (.bool true) ∧ Below w.heap.size w w' := by
  have HB := Aside0.mk (Below.refl w.heap.size w)
  go_enter Try.func6, Try.ntmps6
  go_wp2_with fail
  refine (fullingkeep_Word.calls a p x _ hx.out).mono ?_
  rintro e w1 ⟨rfl, b⟩
  have n0 := Aside0.mk (below_step HB.out b)
  clear HB b
  have HB := n0
  clear n0
  go_wp2_with fail
  refine (fullingkeep_Word.calls b q y _ hy.out).mono ?_
  rintro e w2 ⟨rfl, b⟩
  have n0 := Aside0.mk (below_step HB.out b)
  clear HB b
  have HB := n0
  clear n0
  go_wp2_with fail
  refine (word_Binary.calls 17 x y 0 _ h1.out).mono ?_
  rintro e w3 ⟨rfl, b⟩
  have n0 := Aside0.mk (below_step HB.out b.below)
  clear HB b
  have HB := n0
  clear n0
  go_wp2_with fail
  refine (word_Binary.calls 17 y x 1 _ h2.out).mono ?_
  rintro e w4 ⟨rfl, b⟩
  have n0 := Aside0.mk (below_step HB.out b.below)
  clear HB b
  have HB := n0
  clear n0
  go_wp2_with fail
  refine (word_Binary.calls 15 x y 0 _ h3.out).mono ?_
  rintro e w5 ⟨rfl, b⟩
  have n0 := Aside0.mk (below_step HB.out b.below)
  clear HB b
  have HB := n0
  clear n0
  go_wp2_with fail
  refine (word_Binary.calls 19 x y 1 _ h4.out).mono ?_
  rintro e w6 ⟨rfl, b⟩
  have n0 := Aside0.mk (below_step HB.out b.below)
  clear HB b
  have HB := n0
  clear n0
  go_wp2_with fail
  refine (word_Binary.calls 16 x y 1 _ h5.out).mono ?_
  rintro e w7 ⟨rfl, b⟩
  have n0 := Aside0.mk (below_step HB.out b.below)
  clear HB b
  have HB := n0
  clear n0
  go_wp2_with fail
  refine (word_Binary.calls 18 x y 0 _ h6.out).mono ?_
  rintro e w8 ⟨rfl, b⟩
  have n0 := Aside0.mk (below_step HB.out b.below)
  clear HB b
  have HB := n0
  clear n0
  go_wp2_with fail
  refine (fullinglaw1_WordExamples.calls 40 true _ examples_k).mono ?_
  rintro e w9 ⟨rfl, b⟩
  have n0 := Aside0.mk (below_step HB.out b)
  clear HB b
  have HB := n0
  clear n0
  go_wp2_with fail
  go_ret
  exact ⟨rfl, HB.out⟩
set_option maxHeartbeats 1000000 in
theorem cmp_F (a b p q x y : Int) (w : World) (hx : Aside0 (fullingkeep_Word.f a p = some x)) (hy : Aside0 (fullingkeep_Word.f b q = some y))
    (h1 : Aside0 (word_Binary.f 17 x y = some 1)) (h2 : Aside0 (word_Binary.f 17 y x = some 0)) (h3 : Aside0 (word_Binary.f 15 x y = some 0)) (h4 : Aside0 (word_Binary.f 19 x y = some 1))
    (h5 : Aside0 (word_Binary.f 16 x y = some 1)) (h6 : Aside0 (word_Binary.f 18 x y = some 1))
    (t1 : decide (x < 0) = false) (t2 : decide (y < 0) = false) (t3 : (x == y) = false) (t4 : decide (0 ≤ x) = true) (t5 : decide (0 ≤ y) = true) :
    Calls Try.prog 6 #[.int .i64 a, .int .i64 b, .int .i64 p, .int .i64 q] w fun e w' => e = .returned (.bool true) ∧ Below w.heap.size w w' := by
  have HB := Aside0.mk (Below.refl w.heap.size w)
  go_enter Try.func6, Try.ntmps6
  go_wp2_with fail
  refine (fullingkeep_Word.calls a p x _ hx.out).mono ?_
  rintro e w1 ⟨rfl, b⟩
  have n0 := Aside0.mk (below_step HB.out b)
  clear HB b
  have HB := n0
  clear n0
  go_wp2_with fail
  refine (fullingkeep_Word.calls b q y _ hy.out).mono ?_
  rintro e w2 ⟨rfl, b⟩
  have n0 := Aside0.mk (below_step HB.out b)
  clear HB b
  have HB := n0
  clear n0
  go_wp2_with fail
  refine (word_Binary.calls 17 x y 1 _ h1.out).mono ?_
  rintro e w3 ⟨rfl, b⟩
  have n0 := Aside0.mk (below_step HB.out b.below)
  clear HB b
  have HB := n0
  clear n0
  go_wp2_with fail
  refine (word_Binary.calls 17 y x 0 _ h2.out).mono ?_
  rintro e w4 ⟨rfl, b⟩
  have n0 := Aside0.mk (below_step HB.out b.below)
  clear HB b
  have HB := n0
  clear n0
  go_wp2_with fail
  refine (word_Binary.calls 15 x y 0 _ h3.out).mono ?_
  rintro e w5 ⟨rfl, b⟩
  have n0 := Aside0.mk (below_step HB.out b.below)
  clear HB b
  have HB := n0
  clear n0
  go_wp2_with fail
  refine (word_Binary.calls 19 x y 1 _ h4.out).mono ?_
  rintro e w6 ⟨rfl, b⟩
  have n0 := Aside0.mk (below_step HB.out b.below)
  clear HB b
  have HB := n0
  clear n0
  go_wp2_with fail
  refine (word_Binary.calls 16 x y 1 _ h5.out).mono ?_
  rintro e w7 ⟨rfl, b⟩
  have n0 := Aside0.mk (below_step HB.out b.below)
  clear HB b
  have HB := n0
  clear n0
  go_wp2_with fail
  refine (word_Binary.calls 18 x y 1 _ h6.out).mono ?_
  rintro e w8 ⟨rfl, b⟩
  have n0 := Aside0.mk (below_step HB.out b.below)
  clear HB b
  have HB := n0
  clear n0
  go_wp2_with fail
  refine (fullinglaw1_WordExamples.calls 40 true _ examples_k).mono ?_
  rintro e w9 ⟨rfl, b⟩
  have n0 := Aside0.mk (below_step HB.out b)
  clear HB b
  have HB := n0
  clear n0
  go_wp2_with fail
  go_ret
  exact ⟨rfl, HB.out⟩
set_option maxHeartbeats 1000000 in
theorem cmp_G (a b p q x y : Int) (w : World) (hx : Aside0 (fullingkeep_Word.f a p = some x)) (hy : Aside0 (fullingkeep_Word.f b q = some y))
    (h1 : Aside0 (word_Binary.f 17 x y = some 0)) (h2 : Aside0 (word_Binary.f 17 y x = some 0)) (h3 : Aside0 (word_Binary.f 15 x y = some 1)) (h4 : Aside0 (word_Binary.f 19 x y = some 0))
    (h5 : Aside0 (word_Binary.f 16 x y = some 0)) (h6 : Aside0 (word_Binary.f 18 x y = some 1))
    (t1 : decide (x < 0) = false) (t2 : decide (y < 0) = false) (t3 : (x == y) = true) (t4 : decide (0 ≤ x) = true) (t5 : decide (0 ≤ y) = true) :
    Calls Try.prog 6 #[.int .i64 a, .int .i64 b, .int .i64 p, .int .i64 q] w fun e w' => e = .returned (.bool true) ∧ Below w.heap.size w w' := by
  have HB := Aside0.mk (Below.refl w.heap.size w)
  go_enter Try.func6, Try.ntmps6
  go_wp2_with fail
  refine (fullingkeep_Word.calls a p x _ hx.out).mono ?_
  rintro e w1 ⟨rfl, b⟩
  have n0 := Aside0.mk (below_step HB.out b)
  clear HB b
  have HB := n0
  clear n0
  go_wp2_with fail
  refine (fullingkeep_Word.calls b q y _ hy.out).mono ?_
  rintro e w2 ⟨rfl, b⟩
  have n0 := Aside0.mk (below_step HB.out b)
  clear HB b
  have HB := n0
  clear n0
  go_wp2_with fail
  refine (word_Binary.calls 17 x y 0 _ h1.out).mono ?_
  rintro e w3 ⟨rfl, b⟩
  have n0 := Aside0.mk (below_step HB.out b.below)
  clear HB b
  have HB := n0
  clear n0
  go_wp2_with fail
  refine (word_Binary.calls 17 y x 0 _ h2.out).mono ?_
  rintro e w4 ⟨rfl, b⟩
  have n0 := Aside0.mk (below_step HB.out b.below)
  clear HB b
  have HB := n0
  clear n0
  go_wp2_with fail
  refine (word_Binary.calls 15 x y 1 _ h3.out).mono ?_
  rintro e w5 ⟨rfl, b⟩
  have n0 := Aside0.mk (below_step HB.out b.below)
  clear HB b
  have HB := n0
  clear n0
  go_wp2_with fail
  refine (word_Binary.calls 19 x y 0 _ h4.out).mono ?_
  rintro e w6 ⟨rfl, b⟩
  have n0 := Aside0.mk (below_step HB.out b.below)
  clear HB b
  have HB := n0
  clear n0
  go_wp2_with fail
  refine (word_Binary.calls 16 x y 0 _ h5.out).mono ?_
  rintro e w7 ⟨rfl, b⟩
  have n0 := Aside0.mk (below_step HB.out b.below)
  clear HB b
  have HB := n0
  clear n0
  go_wp2_with fail
  refine (word_Binary.calls 18 x y 1 _ h6.out).mono ?_
  rintro e w8 ⟨rfl, b⟩
  have n0 := Aside0.mk (below_step HB.out b.below)
  clear HB b
  have HB := n0
  clear n0
  go_wp2_with fail
  refine (fullinglaw1_WordExamples.calls 40 true _ examples_k).mono ?_
  rintro e w9 ⟨rfl, b⟩
  have n0 := Aside0.mk (below_step HB.out b)
  clear HB b
  have HB := n0
  clear n0
  go_wp2_with fail
  go_ret
  exact ⟨rfl, HB.out⟩
set_option maxHeartbeats 1000000 in
theorem cmp_H (a b p q x y : Int) (w : World) (hx : Aside0 (fullingkeep_Word.f a p = some x)) (hy : Aside0 (fullingkeep_Word.f b q = some y))
    (h1 : Aside0 (word_Binary.f 17 x y = some 0)) (h2 : Aside0 (word_Binary.f 17 y x = some 1)) (h3 : Aside0 (word_Binary.f 15 x y = some 0)) (h4 : Aside0 (word_Binary.f 19 x y = some 0))
    (h5 : Aside0 (word_Binary.f 16 x y = some 1)) (h6 : Aside0 (word_Binary.f 18 x y = some 0))
    (t1 : decide (x < 0) = false) (t2 : decide (y < 0) = false) (t3 : (x == y) = false) (t4 : decide (0 ≤ x) = true) (t5 : decide (0 ≤ y) = true) :
    Calls Try.prog 6 #[.int .i64 a, .int .i64 b, .int .i64 p, .int .i64 q] w fun e w' => e = .returned (.bool true) ∧ Below w.heap.size w w' := by
  have HB := Aside0.mk (Below.refl w.heap.size w)
  go_enter Try.func6, Try.ntmps6
  go_wp2_with fail
  refine (fullingkeep_Word.calls a p x _ hx.out).mono ?_
  rintro e w1 ⟨rfl, b⟩
  have n0 := Aside0.mk (below_step HB.out b)
  clear HB b
  have HB := n0
  clear n0
  go_wp2_with fail
  refine (fullingkeep_Word.calls b q y _ hy.out).mono ?_
  rintro e w2 ⟨rfl, b⟩
  have n0 := Aside0.mk (below_step HB.out b)
  clear HB b
  have HB := n0
  clear n0
  go_wp2_with fail
  refine (word_Binary.calls 17 x y 0 _ h1.out).mono ?_
  rintro e w3 ⟨rfl, b⟩
  have n0 := Aside0.mk (below_step HB.out b.below)
  clear HB b
  have HB := n0
  clear n0
  go_wp2_with fail
  refine (word_Binary.calls 17 y x 1 _ h2.out).mono ?_
  rintro e w4 ⟨rfl, b⟩
  have n0 := Aside0.mk (below_step HB.out b.below)
  clear HB b
  have HB := n0
  clear n0
  go_wp2_with fail
  refine (word_Binary.calls 15 x y 0 _ h3.out).mono ?_
  rintro e w5 ⟨rfl, b⟩
  have n0 := Aside0.mk (below_step HB.out b.below)
  clear HB b
  have HB := n0
  clear n0
  go_wp2_with fail
  refine (word_Binary.calls 19 x y 0 _ h4.out).mono ?_
  rintro e w6 ⟨rfl, b⟩
  have n0 := Aside0.mk (below_step HB.out b.below)
  clear HB b
  have HB := n0
  clear n0
  go_wp2_with fail
  refine (word_Binary.calls 16 x y 1 _ h5.out).mono ?_
  rintro e w7 ⟨rfl, b⟩
  have n0 := Aside0.mk (below_step HB.out b.below)
  clear HB b
  have HB := n0
  clear n0
  go_wp2_with fail
  refine (word_Binary.calls 18 x y 0 _ h6.out).mono ?_
  rintro e w8 ⟨rfl, b⟩
  have n0 := Aside0.mk (below_step HB.out b.below)
  clear HB b
  have HB := n0
  clear n0
  go_wp2_with fail
  refine (fullinglaw1_WordExamples.calls 40 true _ examples_k).mono ?_
  rintro e w9 ⟨rfl, b⟩
  have n0 := Aside0.mk (below_step HB.out b)
  clear HB b
  have HB := n0
  clear n0
  go_wp2_with fail
  go_ret
  exact ⟨rfl, HB.out⟩

theorem ltu_same {x y : Int} (ix : I64 x) (iy : I64 y) (h : (x < 0 ∧ y < 0) ∨ (¬ x < 0 ∧ ¬ y < 0)) : (x % 18446744073709551616 < y % 18446744073709551616) = (x < y) := by
  unfold I64 at *
  apply propext
  omega
theorem cmp_all (a b p q : Int) (ha : (Lit.int .i64 a).wf = true) (hb : (Lit.int .i64 b).wf = true) (hp : (Lit.int .i64 p).wf = true) (hq : (Lit.int .i64 q).wf = true) (w : World) :
    Calls Try.prog 6 #[.int .i64 a, .int .i64 b, .int .i64 p, .int .i64 q] w fun e w' => e = .returned (.bool true) ∧ Below w.heap.size w w' := by
  obtain ⟨x, hx, ix⟩ := word_some a p (i64_of_wf ha) (i64_of_wf hp)
  obtain ⟨y, hy, iy⟩ := word_some b q (i64_of_wf hb) (i64_of_wf hq)
  have i17 := bin_lt x y
  have i17' := bin_lt y x
  have i15 := bin_eq x y
  have i19 := bin_ltu x y
  have i16 := bin_ne x y
  have i18 := bin_le x y
  by_cases s : x < 0 <;> by_cases t : y < 0
  · unfold I64 at ix iy
    rcases Int.lt_trichotomy x y with h | h | h
    · rw [if_pos (by omega)] at i17 i19
      rw [if_neg (by omega)] at i17' i15
      rw [if_pos (by omega)] at i16 i18
      exact cmp_A a b p q x y w ⟨hx⟩ ⟨hy⟩ ⟨i17⟩ ⟨i17'⟩ ⟨i15⟩ ⟨i19⟩ ⟨i16⟩ ⟨i18⟩ (by simpa using s) (by simpa using t) (by simp; omega) (by simp; omega) (by simp; omega)
    · rw [if_neg (by omega)] at i17 i19 i17' i16
      rw [if_pos (by omega)] at i15 i18
      exact cmp_B a b p q x y w ⟨hx⟩ ⟨hy⟩ ⟨i17⟩ ⟨i17'⟩ ⟨i15⟩ ⟨i19⟩ ⟨i16⟩ ⟨i18⟩ (by simpa using s) (by simpa using t) (by simp; omega) (by simp; omega) (by simp; omega)
    · rw [if_neg (by omega)] at i17 i19 i15 i18
      rw [if_pos (by omega)] at i17' i16
      exact cmp_C a b p q x y w ⟨hx⟩ ⟨hy⟩ ⟨i17⟩ ⟨i17'⟩ ⟨i15⟩ ⟨i19⟩ ⟨i16⟩ ⟨i18⟩ (by simpa using s) (by simpa using t) (by simp; omega) (by simp; omega) (by simp; omega)
  · unfold I64 at ix iy
    rw [if_pos (by omega)] at i17 i16 i18
    rw [if_neg (by omega)] at i17' i15 i19
    exact cmp_D a b p q x y w ⟨hx⟩ ⟨hy⟩ ⟨i17⟩ ⟨i17'⟩ ⟨i15⟩ ⟨i19⟩ ⟨i16⟩ ⟨i18⟩ (by simpa using s) (by simp; omega) (by simp; omega) (by simp; omega) (by simp; omega)
  · unfold I64 at ix iy
    rw [if_neg (by omega)] at i17 i15 i18
    rw [if_pos (by omega)] at i17' i16 i19
    exact cmp_E a b p q x y w ⟨hx⟩ ⟨hy⟩ ⟨i17⟩ ⟨i17'⟩ ⟨i15⟩ ⟨i19⟩ ⟨i16⟩ ⟨i18⟩ (by simp; omega) (by simpa using t) (by simp; omega) (by simp; omega) (by simp; omega)
  · unfold I64 at ix iy
    rcases Int.lt_trichotomy x y with h | h | h
    · rw [if_pos (by omega)] at i17 i19
      rw [if_neg (by omega)] at i17' i15
      rw [if_pos (by omega)] at i16 i18
      exact cmp_F a b p q x y w ⟨hx⟩ ⟨hy⟩ ⟨i17⟩ ⟨i17'⟩ ⟨i15⟩ ⟨i19⟩ ⟨i16⟩ ⟨i18⟩ (by simp; omega) (by simp; omega) (by simp; omega) (by simp; omega) (by simp; omega)
    · rw [if_neg (by omega)] at i17 i19 i17' i16
      rw [if_pos (by omega)] at i15 i18
      exact cmp_G a b p q x y w ⟨hx⟩ ⟨hy⟩ ⟨i17⟩ ⟨i17'⟩ ⟨i15⟩ ⟨i19⟩ ⟨i16⟩ ⟨i18⟩ (by simp; omega) (by simp; omega) (by simp; omega) (by simp; omega) (by simp; omega)
    · rw [if_neg (by omega)] at i17 i19 i15 i18
      rw [if_pos (by omega)] at i17' i16
      exact cmp_H a b p q x y w ⟨hx⟩ ⟨hy⟩ ⟨i17⟩ ⟨i17'⟩ ⟨i15⟩ ⟨i19⟩ ⟨i16⟩ ⟨i18⟩ (by simp; omega) (by simp; omega) (by simp; omega) (by simp; omega) (by simp; omega)
end Go.Proofs.Ytlilbddpelbngaa.M
