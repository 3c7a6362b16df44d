/- One part of this proof, by a program of this session (turned from the kit printer): what Go functions answer, as plain Lean functions, with the proof that the calls answer so. -/
import Derived.Test.YtlilbddpelbngaaPDivx0
import Derived.Test.YtlilbddpelbngaaPDivx2
namespace Go.Proofs.Ytlilbddpelbngaa.PDiv
open Go.RowKit Go.Proofs.YtlilbddpelbngaaW.PrintWords Go.Proofs.YtlilbddpelbngaaW.PrintLast Go.Proofs.YtlilbddpelbngaaW.PrintMore
attribute [local go_sem] max2_int min2_int max_two min_two max_three min_three max_four min_four   -- for this text's walks alone
set_option linter.unusedVariables false
set_option linter.unusedSimpArgs false

/-! ### fullinglaw1_WordDivision: function 4 -/
def fullinglaw1_WordDivision.f (k : Nat) (a0 : Int) (a1 : Int) (a2 : Int) (a3 : Int) : Option (Bool) := (fullingkeep_Word.f a0 a2).bind fun t127 => ((fullingkeep_Word.f a1 a3).bind fun t128 => ((word_Binary.f 7 t127 t128).bind fun t129 => ((word_Binary.f 8 t127 t128).bind fun t130 => (if t128 = 0 then (if t129 = 0 then (if t130 = 0 then ((fullinglaw1_WordExamples.f k).bind fun t131 => (some t131)) else (some false)) else (some false)) else (if t130 = 0 then (if t128 = (-9223372036854775808) then ((word_Binary.f 6 t129 t128).bind fun t132 => ((word_Binary.f 4 t132 t130).bind fun t133 => (if t133 = t127 then ((fullinglaw1_WordExamples.f k).bind fun t134 => (some t134)) else (some false)))) else (if t128 < 0 then (if t130 > t128 then (if t130 < (wrap64 (-t128)) then ((word_Binary.f 6 t129 t128).bind fun t135 => ((word_Binary.f 4 t135 t130).bind fun t136 => (if t136 = t127 then ((fullinglaw1_WordExamples.f k).bind fun t137 => (some t137)) else (some false)))) else (if t128 > 0 then (if t130 > (wrap64 (-t128)) then ((word_Binary.f 6 t129 t128).bind fun t138 => ((word_Binary.f 4 t138 t130).bind fun t139 => (if t139 = t127 then (if t130 < t128 then ((fullinglaw1_WordExamples.f k).bind fun t140 => (some t140)) else (some false)) else (some false)))) else ((word_Binary.f 6 t129 t128).bind fun t141 => ((word_Binary.f 4 t141 t130).bind fun t142 => (if t142 = t127 then (some false) else (some false))))) else ((word_Binary.f 6 t129 t128).bind fun t143 => ((word_Binary.f 4 t143 t130).bind fun t144 => (if t144 = t127 then (some false) else (some false)))))) else (if t128 > 0 then (if t130 > (wrap64 (-t128)) then ((word_Binary.f 6 t129 t128).bind fun t145 => ((word_Binary.f 4 t145 t130).bind fun t146 => (if t146 = t127 then (if t130 < t128 then ((fullinglaw1_WordExamples.f k).bind fun t147 => (some t147)) else (some false)) else (some false)))) else ((word_Binary.f 6 t129 t128).bind fun t148 => ((word_Binary.f 4 t148 t130).bind fun t149 => (if t149 = t127 then (some false) else (some false))))) else ((word_Binary.f 6 t129 t128).bind fun t150 => ((word_Binary.f 4 t150 t130).bind fun t151 => (if t151 = t127 then (some false) else (some false)))))) else (if t128 > 0 then (if t130 > (wrap64 (-t128)) then ((word_Binary.f 6 t129 t128).bind fun t152 => ((word_Binary.f 4 t152 t130).bind fun t153 => (if t153 = t127 then (if t130 < t128 then ((fullinglaw1_WordExamples.f k).bind fun t154 => (some t154)) else (some false)) else (some false)))) else ((word_Binary.f 6 t129 t128).bind fun t155 => ((word_Binary.f 4 t155 t130).bind fun t156 => (if t156 = t127 then (some false) else (some false))))) else ((word_Binary.f 6 t129 t128).bind fun t157 => ((word_Binary.f 4 t157 t130).bind fun t158 => (if t158 = t127 then (some false) else (some false))))))) else (if t128 = (-9223372036854775808) then ((word_Binary.f 6 t129 t128).bind fun t159 => ((word_Binary.f 4 t159 t130).bind fun t160 => (if t160 = t127 then (if ((decide (t130 < 0)) == (decide (t127 < 0))) = true then ((fullinglaw1_WordExamples.f k).bind fun t161 => (some t161)) else (some false)) else (some false)))) else (if t128 < 0 then (if t130 > t128 then (if t130 < (wrap64 (-t128)) then ((word_Binary.f 6 t129 t128).bind fun t162 => ((word_Binary.f 4 t162 t130).bind fun t163 => (if t163 = t127 then (if ((decide (t130 < 0)) == (decide (t127 < 0))) = true then ((fullinglaw1_WordExamples.f k).bind fun t164 => (some t164)) else (some false)) else (some false)))) else (if t128 > 0 then (if t130 > (wrap64 (-t128)) then ((word_Binary.f 6 t129 t128).bind fun t165 => ((word_Binary.f 4 t165 t130).bind fun t166 => (if t166 = t127 then (if ((decide (t130 < 0)) == (decide (t127 < 0))) = true then (if t130 < t128 then ((fullinglaw1_WordExamples.f k).bind fun t167 => (some t167)) else (some false)) else (some false)) else (some false)))) else ((word_Binary.f 6 t129 t128).bind fun t168 => ((word_Binary.f 4 t168 t130).bind fun t169 => (if t169 = t127 then (if ((decide (t130 < 0)) == (decide (t127 < 0))) = true then (some false) else (some false)) else (some false))))) else ((word_Binary.f 6 t129 t128).bind fun t170 => ((word_Binary.f 4 t170 t130).bind fun t171 => (if t171 = t127 then (if ((decide (t130 < 0)) == (decide (t127 < 0))) = true then (some false) else (some false)) else (some false)))))) else (if t128 > 0 then (if t130 > (wrap64 (-t128)) then ((word_Binary.f 6 t129 t128).bind fun t172 => ((word_Binary.f 4 t172 t130).bind fun t173 => (if t173 = t127 then (if ((decide (t130 < 0)) == (decide (t127 < 0))) = true then (if t130 < t128 then ((fullinglaw1_WordExamples.f k).bind fun t174 => (some t174)) else (some false)) else (some false)) else (some false)))) else ((word_Binary.f 6 t129 t128).bind fun t175 => ((word_Binary.f 4 t175 t130).bind fun t176 => (if t176 = t127 then (if ((decide (t130 < 0)) == (decide (t127 < 0))) = true then (some false) else (some false)) else (some false))))) else ((word_Binary.f 6 t129 t128).bind fun t177 => ((word_Binary.f 4 t177 t130).bind fun t178 => (if t178 = t127 then (if ((decide (t130 < 0)) == (decide (t127 < 0))) = true then (some false) else (some false)) else (some false)))))) else (if t128 > 0 then (if t130 > (wrap64 (-t128)) then ((word_Binary.f 6 t129 t128).bind fun t179 => ((word_Binary.f 4 t179 t130).bind fun t180 => (if t180 = t127 then (if ((decide (t130 < 0)) == (decide (t127 < 0))) = true then (if t130 < t128 then ((fullinglaw1_WordExamples.f k).bind fun t181 => (some t181)) else (some false)) else (some false)) else (some false)))) else ((word_Binary.f 6 t129 t128).bind fun t182 => ((word_Binary.f 4 t182 t130).bind fun t183 => (if t183 = t127 then (if ((decide (t130 < 0)) == (decide (t127 < 0))) = true then (some false) else (some false)) else (some false))))) else ((word_Binary.f 6 t129 t128).bind fun t184 => ((word_Binary.f 4 t184 t130).bind fun t185 => (if t185 = t127 then (if ((decide (t130 < 0)) == (decide (t127 < 0))) = true then (some false) else (some false)) else (some false))))))))))))
theorem fullinglaw1_WordDivision.mono : ∀ a0 a1 a2 a3 k, LeO (fullinglaw1_WordDivision.f k a0 a1 a2 a3) (fullinglaw1_WordDivision.f (k + 1) a0 a1 a2 a3) := by
  intro a0 a1 a2 a3 k
  unfold fullinglaw1_WordDivision.f
  repeat' first
      | (with_reducible exact fullinglaw1_WordExamples.mono _)
      | (with_reducible exact LeO.refl _)
      | (with_reducible exact LeO.none _)
      | (with_reducible refine LeO.ite ?_ ?_)
      | (with_reducible refine LeO.bind ?_ (fun _ => ?_))
      | exact fullinglaw1_WordExamples.mono _
      | exact LeO.none _
      | refine LeO.ite ?_ ?_
      | refine LeO.bind ?_ (fun _ => ?_)
set_option maxHeartbeats 8000000 in
set_option maxRecDepth 100000 in
theorem fullinglaw1_WordDivision.calls (k : Nat) (a0 : Int) (a1 : Int) (a2 : Int) (a3 : Int) (r : Bool) (w : World) (h : fullinglaw1_WordDivision.f k a0 a1 a2 a3 = some r) (hr_ : Aside0 (r = true)) :
    Calls Try.prog 4 #[.int .i64 a0, .int .i64 a1, .int .i64 a2, .int .i64 a3] w fun e w' => e = .returned (.bool r) ∧ Below w.heap.size w w' := by
  have HB := Aside0.mk (Below.refl w.heap.size w)
  have H : ((fullingkeep_Word.f a0 a2).bind fun t127 => ((fullingkeep_Word.f a1 a3).bind fun t128 => ((word_Binary.f 7 t127 t128).bind fun t129 => ((word_Binary.f 8 t127 t128).bind fun t130 => (if t128 = 0 then (if t129 = 0 then (if t130 = 0 then ((fullinglaw1_WordExamples.f k).bind fun t131 => (some t131)) else (some false)) else (some false)) else (if t130 = 0 then (if t128 = (-9223372036854775808) then ((word_Binary.f 6 t129 t128).bind fun t132 => ((word_Binary.f 4 t132 t130).bind fun t133 => (if t133 = t127 then ((fullinglaw1_WordExamples.f k).bind fun t134 => (some t134)) else (some false)))) else (if t128 < 0 then (if t130 > t128 then (if t130 < (wrap64 (-t128)) then ((word_Binary.f 6 t129 t128).bind fun t135 => ((word_Binary.f 4 t135 t130).bind fun t136 => (if t136 = t127 then ((fullinglaw1_WordExamples.f k).bind fun t137 => (some t137)) else (some false)))) else (if t128 > 0 then (if t130 > (wrap64 (-t128)) then ((word_Binary.f 6 t129 t128).bind fun t138 => ((word_Binary.f 4 t138 t130).bind fun t139 => (if t139 = t127 then (if t130 < t128 then ((fullinglaw1_WordExamples.f k).bind fun t140 => (some t140)) else (some false)) else (some false)))) else ((word_Binary.f 6 t129 t128).bind fun t141 => ((word_Binary.f 4 t141 t130).bind fun t142 => (if t142 = t127 then (some false) else (some false))))) else ((word_Binary.f 6 t129 t128).bind fun t143 => ((word_Binary.f 4 t143 t130).bind fun t144 => (if t144 = t127 then (some false) else (some false)))))) else (if t128 > 0 then (if t130 > (wrap64 (-t128)) then ((word_Binary.f 6 t129 t128).bind fun t145 => ((word_Binary.f 4 t145 t130).bind fun t146 => (if t146 = t127 then (if t130 < t128 then ((fullinglaw1_WordExamples.f k).bind fun t147 => (some t147)) else (some false)) else (some false)))) else ((word_Binary.f 6 t129 t128).bind fun t148 => ((word_Binary.f 4 t148 t130).bind fun t149 => (if t149 = t127 then (some false) else (some false))))) else ((word_Binary.f 6 t129 t128).bind fun t150 => ((word_Binary.f 4 t150 t130).bind fun t151 => (if t151 = t127 then (some false) else (some false)))))) else (if t128 > 0 then (if t130 > (wrap64 (-t128)) then ((word_Binary.f 6 t129 t128).bind fun t152 => ((word_Binary.f 4 t152 t130).bind fun t153 => (if t153 = t127 then (if t130 < t128 then ((fullinglaw1_WordExamples.f k).bind fun t154 => (some t154)) else (some false)) else (some false)))) else ((word_Binary.f 6 t129 t128).bind fun t155 => ((word_Binary.f 4 t155 t130).bind fun t156 => (if t156 = t127 then (some false) else (some false))))) else ((word_Binary.f 6 t129 t128).bind fun t157 => ((word_Binary.f 4 t157 t130).bind fun t158 => (if t158 = t127 then (some false) else (some false))))))) else (if t128 = (-9223372036854775808) then ((word_Binary.f 6 t129 t128).bind fun t159 => ((word_Binary.f 4 t159 t130).bind fun t160 => (if t160 = t127 then (if ((decide (t130 < 0)) == (decide (t127 < 0))) = true then ((fullinglaw1_WordExamples.f k).bind fun t161 => (some t161)) else (some false)) else (some false)))) else (if t128 < 0 then (if t130 > t128 then (if t130 < (wrap64 (-t128)) then ((word_Binary.f 6 t129 t128).bind fun t162 => ((word_Binary.f 4 t162 t130).bind fun t163 => (if t163 = t127 then (if ((decide (t130 < 0)) == (decide (t127 < 0))) = true then ((fullinglaw1_WordExamples.f k).bind fun t164 => (some t164)) else (some false)) else (some false)))) else (if t128 > 0 then (if t130 > (wrap64 (-t128)) then ((word_Binary.f 6 t129 t128).bind fun t165 => ((word_Binary.f 4 t165 t130).bind fun t166 => (if t166 = t127 then (if ((decide (t130 < 0)) == (decide (t127 < 0))) = true then (if t130 < t128 then ((fullinglaw1_WordExamples.f k).bind fun t167 => (some t167)) else (some false)) else (some false)) else (some false)))) else ((word_Binary.f 6 t129 t128).bind fun t168 => ((word_Binary.f 4 t168 t130).bind fun t169 => (if t169 = t127 then (if ((decide (t130 < 0)) == (decide (t127 < 0))) = true then (some false) else (some false)) else (some false))))) else ((word_Binary.f 6 t129 t128).bind fun t170 => ((word_Binary.f 4 t170 t130).bind fun t171 => (if t171 = t127 then (if ((decide (t130 < 0)) == (decide (t127 < 0))) = true then (some false) else (some false)) else (some false)))))) else (if t128 > 0 then (if t130 > (wrap64 (-t128)) then ((word_Binary.f 6 t129 t128).bind fun t172 => ((word_Binary.f 4 t172 t130).bind fun t173 => (if t173 = t127 then (if ((decide (t130 < 0)) == (decide (t127 < 0))) = true then (if t130 < t128 then ((fullinglaw1_WordExamples.f k).bind fun t174 => (some t174)) else (some false)) else (some false)) else (some false)))) else ((word_Binary.f 6 t129 t128).bind fun t175 => ((word_Binary.f 4 t175 t130).bind fun t176 => (if t176 = t127 then (if ((decide (t130 < 0)) == (decide (t127 < 0))) = true then (some false) else (some false)) else (some false))))) else ((word_Binary.f 6 t129 t128).bind fun t177 => ((word_Binary.f 4 t177 t130).bind fun t178 => (if t178 = t127 then (if ((decide (t130 < 0)) == (decide (t127 < 0))) = true then (some false) else (some false)) else (some false)))))) else (if t128 > 0 then (if t130 > (wrap64 (-t128)) then ((word_Binary.f 6 t129 t128).bind fun t179 => ((word_Binary.f 4 t179 t130).bind fun t180 => (if t180 = t127 then (if ((decide (t130 < 0)) == (decide (t127 < 0))) = true then (if t130 < t128 then ((fullinglaw1_WordExamples.f k).bind fun t181 => (some t181)) else (some false)) else (some false)) else (some false)))) else ((word_Binary.f 6 t129 t128).bind fun t182 => ((word_Binary.f 4 t182 t130).bind fun t183 => (if t183 = t127 then (if ((decide (t130 < 0)) == (decide (t127 < 0))) = true then (some false) else (some false)) else (some false))))) else ((word_Binary.f 6 t129 t128).bind fun t184 => ((word_Binary.f 4 t184 t130).bind fun t185 => (if t185 = t127 then (if ((decide (t130 < 0)) == (decide (t127 < 0))) = true then (some false) else (some false)) else (some false))))))))))))) = some r := h
  clear h
  replace H := Option.bind_eq_some_iff.mp H
  obtain ⟨t127, A50, H⟩ := H
  replace H : ((fullingkeep_Word.f a1 a3).bind fun t128 => ((word_Binary.f 7 t127 t128).bind fun t129 => ((word_Binary.f 8 t127 t128).bind fun t130 => (if t128 = 0 then (if t129 = 0 then (if t130 = 0 then ((fullinglaw1_WordExamples.f k).bind fun t131 => (some t131)) else (some false)) else (some false)) else (if t130 = 0 then (if t128 = (-9223372036854775808) then ((word_Binary.f 6 t129 t128).bind fun t132 => ((word_Binary.f 4 t132 t130).bind fun t133 => (if t133 = t127 then ((fullinglaw1_WordExamples.f k).bind fun t134 => (some t134)) else (some false)))) else (if t128 < 0 then (if t130 > t128 then (if t130 < (wrap64 (-t128)) then ((word_Binary.f 6 t129 t128).bind fun t135 => ((word_Binary.f 4 t135 t130).bind fun t136 => (if t136 = t127 then ((fullinglaw1_WordExamples.f k).bind fun t137 => (some t137)) else (some false)))) else (if t128 > 0 then (if t130 > (wrap64 (-t128)) then ((word_Binary.f 6 t129 t128).bind fun t138 => ((word_Binary.f 4 t138 t130).bind fun t139 => (if t139 = t127 then (if t130 < t128 then ((fullinglaw1_WordExamples.f k).bind fun t140 => (some t140)) else (some false)) else (some false)))) else ((word_Binary.f 6 t129 t128).bind fun t141 => ((word_Binary.f 4 t141 t130).bind fun t142 => (if t142 = t127 then (some false) else (some false))))) else ((word_Binary.f 6 t129 t128).bind fun t143 => ((word_Binary.f 4 t143 t130).bind fun t144 => (if t144 = t127 then (some false) else (some false)))))) else (if t128 > 0 then (if t130 > (wrap64 (-t128)) then ((word_Binary.f 6 t129 t128).bind fun t145 => ((word_Binary.f 4 t145 t130).bind fun t146 => (if t146 = t127 then (if t130 < t128 then ((fullinglaw1_WordExamples.f k).bind fun t147 => (some t147)) else (some false)) else (some false)))) else ((word_Binary.f 6 t129 t128).bind fun t148 => ((word_Binary.f 4 t148 t130).bind fun t149 => (if t149 = t127 then (some false) else (some false))))) else ((word_Binary.f 6 t129 t128).bind fun t150 => ((word_Binary.f 4 t150 t130).bind fun t151 => (if t151 = t127 then (some false) else (some false)))))) else (if t128 > 0 then (if t130 > (wrap64 (-t128)) then ((word_Binary.f 6 t129 t128).bind fun t152 => ((word_Binary.f 4 t152 t130).bind fun t153 => (if t153 = t127 then (if t130 < t128 then ((fullinglaw1_WordExamples.f k).bind fun t154 => (some t154)) else (some false)) else (some false)))) else ((word_Binary.f 6 t129 t128).bind fun t155 => ((word_Binary.f 4 t155 t130).bind fun t156 => (if t156 = t127 then (some false) else (some false))))) else ((word_Binary.f 6 t129 t128).bind fun t157 => ((word_Binary.f 4 t157 t130).bind fun t158 => (if t158 = t127 then (some false) else (some false))))))) else (if t128 = (-9223372036854775808) then ((word_Binary.f 6 t129 t128).bind fun t159 => ((word_Binary.f 4 t159 t130).bind fun t160 => (if t160 = t127 then (if ((decide (t130 < 0)) == (decide (t127 < 0))) = true then ((fullinglaw1_WordExamples.f k).bind fun t161 => (some t161)) else (some false)) else (some false)))) else (if t128 < 0 then (if t130 > t128 then (if t130 < (wrap64 (-t128)) then ((word_Binary.f 6 t129 t128).bind fun t162 => ((word_Binary.f 4 t162 t130).bind fun t163 => (if t163 = t127 then (if ((decide (t130 < 0)) == (decide (t127 < 0))) = true then ((fullinglaw1_WordExamples.f k).bind fun t164 => (some t164)) else (some false)) else (some false)))) else (if t128 > 0 then (if t130 > (wrap64 (-t128)) then ((word_Binary.f 6 t129 t128).bind fun t165 => ((word_Binary.f 4 t165 t130).bind fun t166 => (if t166 = t127 then (if ((decide (t130 < 0)) == (decide (t127 < 0))) = true then (if t130 < t128 then ((fullinglaw1_WordExamples.f k).bind fun t167 => (some t167)) else (some false)) else (some false)) else (some false)))) else ((word_Binary.f 6 t129 t128).bind fun t168 => ((word_Binary.f 4 t168 t130).bind fun t169 => (if t169 = t127 then (if ((decide (t130 < 0)) == (decide (t127 < 0))) = true then (some false) else (some false)) else (some false))))) else ((word_Binary.f 6 t129 t128).bind fun t170 => ((word_Binary.f 4 t170 t130).bind fun t171 => (if t171 = t127 then (if ((decide (t130 < 0)) == (decide (t127 < 0))) = true then (some false) else (some false)) else (some false)))))) else (if t128 > 0 then (if t130 > (wrap64 (-t128)) then ((word_Binary.f 6 t129 t128).bind fun t172 => ((word_Binary.f 4 t172 t130).bind fun t173 => (if t173 = t127 then (if ((decide (t130 < 0)) == (decide (t127 < 0))) = true then (if t130 < t128 then ((fullinglaw1_WordExamples.f k).bind fun t174 => (some t174)) else (some false)) else (some false)) else (some false)))) else ((word_Binary.f 6 t129 t128).bind fun t175 => ((word_Binary.f 4 t175 t130).bind fun t176 => (if t176 = t127 then (if ((decide (t130 < 0)) == (decide (t127 < 0))) = true then (some false) else (some false)) else (some false))))) else ((word_Binary.f 6 t129 t128).bind fun t177 => ((word_Binary.f 4 t177 t130).bind fun t178 => (if t178 = t127 then (if ((decide (t130 < 0)) == (decide (t127 < 0))) = true then (some false) else (some false)) else (some false)))))) else (if t128 > 0 then (if t130 > (wrap64 (-t128)) then ((word_Binary.f 6 t129 t128).bind fun t179 => ((word_Binary.f 4 t179 t130).bind fun t180 => (if t180 = t127 then (if ((decide (t130 < 0)) == (decide (t127 < 0))) = true then (if t130 < t128 then ((fullinglaw1_WordExamples.f k).bind fun t181 => (some t181)) else (some false)) else (some false)) else (some false)))) else ((word_Binary.f 6 t129 t128).bind fun t182 => ((word_Binary.f 4 t182 t130).bind fun t183 => (if t183 = t127 then (if ((decide (t130 < 0)) == (decide (t127 < 0))) = true then (some false) else (some false)) else (some false))))) else ((word_Binary.f 6 t129 t128).bind fun t184 => ((word_Binary.f 4 t184 t130).bind fun t185 => (if t185 = t127 then (if ((decide (t130 < 0)) == (decide (t127 < 0))) = true then (some false) else (some false)) else (some false)))))))))))) = some r := H
  have A5 := Aside0.mk A50
  clear A50
  replace H := Option.bind_eq_some_iff.mp H
  obtain ⟨t128, A60, H⟩ := H
  replace H : ((word_Binary.f 7 t127 t128).bind fun t129 => ((word_Binary.f 8 t127 t128).bind fun t130 => (if t128 = 0 then (if t129 = 0 then (if t130 = 0 then ((fullinglaw1_WordExamples.f k).bind fun t131 => (some t131)) else (some false)) else (some false)) else (if t130 = 0 then (if t128 = (-9223372036854775808) then ((word_Binary.f 6 t129 t128).bind fun t132 => ((word_Binary.f 4 t132 t130).bind fun t133 => (if t133 = t127 then ((fullinglaw1_WordExamples.f k).bind fun t134 => (some t134)) else (some false)))) else (if t128 < 0 then (if t130 > t128 then (if t130 < (wrap64 (-t128)) then ((word_Binary.f 6 t129 t128).bind fun t135 => ((word_Binary.f 4 t135 t130).bind fun t136 => (if t136 = t127 then ((fullinglaw1_WordExamples.f k).bind fun t137 => (some t137)) else (some false)))) else (if t128 > 0 then (if t130 > (wrap64 (-t128)) then ((word_Binary.f 6 t129 t128).bind fun t138 => ((word_Binary.f 4 t138 t130).bind fun t139 => (if t139 = t127 then (if t130 < t128 then ((fullinglaw1_WordExamples.f k).bind fun t140 => (some t140)) else (some false)) else (some false)))) else ((word_Binary.f 6 t129 t128).bind fun t141 => ((word_Binary.f 4 t141 t130).bind fun t142 => (if t142 = t127 then (some false) else (some false))))) else ((word_Binary.f 6 t129 t128).bind fun t143 => ((word_Binary.f 4 t143 t130).bind fun t144 => (if t144 = t127 then (some false) else (some false)))))) else (if t128 > 0 then (if t130 > (wrap64 (-t128)) then ((word_Binary.f 6 t129 t128).bind fun t145 => ((word_Binary.f 4 t145 t130).bind fun t146 => (if t146 = t127 then (if t130 < t128 then ((fullinglaw1_WordExamples.f k).bind fun t147 => (some t147)) else (some false)) else (some false)))) else ((word_Binary.f 6 t129 t128).bind fun t148 => ((word_Binary.f 4 t148 t130).bind fun t149 => (if t149 = t127 then (some false) else (some false))))) else ((word_Binary.f 6 t129 t128).bind fun t150 => ((word_Binary.f 4 t150 t130).bind fun t151 => (if t151 = t127 then (some false) else (some false)))))) else (if t128 > 0 then (if t130 > (wrap64 (-t128)) then ((word_Binary.f 6 t129 t128).bind fun t152 => ((word_Binary.f 4 t152 t130).bind fun t153 => (if t153 = t127 then (if t130 < t128 then ((fullinglaw1_WordExamples.f k).bind fun t154 => (some t154)) else (some false)) else (some false)))) else ((word_Binary.f 6 t129 t128).bind fun t155 => ((word_Binary.f 4 t155 t130).bind fun t156 => (if t156 = t127 then (some false) else (some false))))) else ((word_Binary.f 6 t129 t128).bind fun t157 => ((word_Binary.f 4 t157 t130).bind fun t158 => (if t158 = t127 then (some false) else (some false))))))) else (if t128 = (-9223372036854775808) then ((word_Binary.f 6 t129 t128).bind fun t159 => ((word_Binary.f 4 t159 t130).bind fun t160 => (if t160 = t127 then (if ((decide (t130 < 0)) == (decide (t127 < 0))) = true then ((fullinglaw1_WordExamples.f k).bind fun t161 => (some t161)) else (some false)) else (some false)))) else (if t128 < 0 then (if t130 > t128 then (if t130 < (wrap64 (-t128)) then ((word_Binary.f 6 t129 t128).bind fun t162 => ((word_Binary.f 4 t162 t130).bind fun t163 => (if t163 = t127 then (if ((decide (t130 < 0)) == (decide (t127 < 0))) = true then ((fullinglaw1_WordExamples.f k).bind fun t164 => (some t164)) else (some false)) else (some false)))) else (if t128 > 0 then (if t130 > (wrap64 (-t128)) then ((word_Binary.f 6 t129 t128).bind fun t165 => ((word_Binary.f 4 t165 t130).bind fun t166 => (if t166 = t127 then (if ((decide (t130 < 0)) == (decide (t127 < 0))) = true then (if t130 < t128 then ((fullinglaw1_WordExamples.f k).bind fun t167 => (some t167)) else (some false)) else (some false)) else (some false)))) else ((word_Binary.f 6 t129 t128).bind fun t168 => ((word_Binary.f 4 t168 t130).bind fun t169 => (if t169 = t127 then (if ((decide (t130 < 0)) == (decide (t127 < 0))) = true then (some false) else (some false)) else (some false))))) else ((word_Binary.f 6 t129 t128).bind fun t170 => ((word_Binary.f 4 t170 t130).bind fun t171 => (if t171 = t127 then (if ((decide (t130 < 0)) == (decide (t127 < 0))) = true then (some false) else (some false)) else (some false)))))) else (if t128 > 0 then (if t130 > (wrap64 (-t128)) then ((word_Binary.f 6 t129 t128).bind fun t172 => ((word_Binary.f 4 t172 t130).bind fun t173 => (if t173 = t127 then (if ((decide (t130 < 0)) == (decide (t127 < 0))) = true then (if t130 < t128 then ((fullinglaw1_WordExamples.f k).bind fun t174 => (some t174)) else (some false)) else (some false)) else (some false)))) else ((word_Binary.f 6 t129 t128).bind fun t175 => ((word_Binary.f 4 t175 t130).bind fun t176 => (if t176 = t127 then (if ((decide (t130 < 0)) == (decide (t127 < 0))) = true then (some false) else (some false)) else (some false))))) else ((word_Binary.f 6 t129 t128).bind fun t177 => ((word_Binary.f 4 t177 t130).bind fun t178 => (if t178 = t127 then (if ((decide (t130 < 0)) == (decide (t127 < 0))) = true then (some false) else (some false)) else (some false)))))) else (if t128 > 0 then (if t130 > (wrap64 (-t128)) then ((word_Binary.f 6 t129 t128).bind fun t179 => ((word_Binary.f 4 t179 t130).bind fun t180 => (if t180 = t127 then (if ((decide (t130 < 0)) == (decide (t127 < 0))) = true then (if t130 < t128 then ((fullinglaw1_WordExamples.f k).bind fun t181 => (some t181)) else (some false)) else (some false)) else (some false)))) else ((word_Binary.f 6 t129 t128).bind fun t182 => ((word_Binary.f 4 t182 t130).bind fun t183 => (if t183 = t127 then (if ((decide (t130 < 0)) == (decide (t127 < 0))) = true then (some false) else (some false)) else (some false))))) else ((word_Binary.f 6 t129 t128).bind fun t184 => ((word_Binary.f 4 t184 t130).bind fun t185 => (if t185 = t127 then (if ((decide (t130 < 0)) == (decide (t127 < 0))) = true then (some false) else (some false)) else (some false))))))))))) = some r := H
  have A6 := Aside0.mk A60
  clear A60
  replace H := Option.bind_eq_some_iff.mp H
  obtain ⟨t129, A70, H⟩ := H
  replace H : ((word_Binary.f 8 t127 t128).bind fun t130 => (if t128 = 0 then (if t129 = 0 then (if t130 = 0 then ((fullinglaw1_WordExamples.f k).bind fun t131 => (some t131)) else (some false)) else (some false)) else (if t130 = 0 then (if t128 = (-9223372036854775808) then ((word_Binary.f 6 t129 t128).bind fun t132 => ((word_Binary.f 4 t132 t130).bind fun t133 => (if t133 = t127 then ((fullinglaw1_WordExamples.f k).bind fun t134 => (some t134)) else (some false)))) else (if t128 < 0 then (if t130 > t128 then (if t130 < (wrap64 (-t128)) then ((word_Binary.f 6 t129 t128).bind fun t135 => ((word_Binary.f 4 t135 t130).bind fun t136 => (if t136 = t127 then ((fullinglaw1_WordExamples.f k).bind fun t137 => (some t137)) else (some false)))) else (if t128 > 0 then (if t130 > (wrap64 (-t128)) then ((word_Binary.f 6 t129 t128).bind fun t138 => ((word_Binary.f 4 t138 t130).bind fun t139 => (if t139 = t127 then (if t130 < t128 then ((fullinglaw1_WordExamples.f k).bind fun t140 => (some t140)) else (some false)) else (some false)))) else ((word_Binary.f 6 t129 t128).bind fun t141 => ((word_Binary.f 4 t141 t130).bind fun t142 => (if t142 = t127 then (some false) else (some false))))) else ((word_Binary.f 6 t129 t128).bind fun t143 => ((word_Binary.f 4 t143 t130).bind fun t144 => (if t144 = t127 then (some false) else (some false)))))) else (if t128 > 0 then (if t130 > (wrap64 (-t128)) then ((word_Binary.f 6 t129 t128).bind fun t145 => ((word_Binary.f 4 t145 t130).bind fun t146 => (if t146 = t127 then (if t130 < t128 then ((fullinglaw1_WordExamples.f k).bind fun t147 => (some t147)) else (some false)) else (some false)))) else ((word_Binary.f 6 t129 t128).bind fun t148 => ((word_Binary.f 4 t148 t130).bind fun t149 => (if t149 = t127 then (some false) else (some false))))) else ((word_Binary.f 6 t129 t128).bind fun t150 => ((word_Binary.f 4 t150 t130).bind fun t151 => (if t151 = t127 then (some false) else (some false)))))) else (if t128 > 0 then (if t130 > (wrap64 (-t128)) then ((word_Binary.f 6 t129 t128).bind fun t152 => ((word_Binary.f 4 t152 t130).bind fun t153 => (if t153 = t127 then (if t130 < t128 then ((fullinglaw1_WordExamples.f k).bind fun t154 => (some t154)) else (some false)) else (some false)))) else ((word_Binary.f 6 t129 t128).bind fun t155 => ((word_Binary.f 4 t155 t130).bind fun t156 => (if t156 = t127 then (some false) else (some false))))) else ((word_Binary.f 6 t129 t128).bind fun t157 => ((word_Binary.f 4 t157 t130).bind fun t158 => (if t158 = t127 then (some false) else (some false))))))) else (if t128 = (-9223372036854775808) then ((word_Binary.f 6 t129 t128).bind fun t159 => ((word_Binary.f 4 t159 t130).bind fun t160 => (if t160 = t127 then (if ((decide (t130 < 0)) == (decide (t127 < 0))) = true then ((fullinglaw1_WordExamples.f k).bind fun t161 => (some t161)) else (some false)) else (some false)))) else (if t128 < 0 then (if t130 > t128 then (if t130 < (wrap64 (-t128)) then ((word_Binary.f 6 t129 t128).bind fun t162 => ((word_Binary.f 4 t162 t130).bind fun t163 => (if t163 = t127 then (if ((decide (t130 < 0)) == (decide (t127 < 0))) = true then ((fullinglaw1_WordExamples.f k).bind fun t164 => (some t164)) else (some false)) else (some false)))) else (if t128 > 0 then (if t130 > (wrap64 (-t128)) then ((word_Binary.f 6 t129 t128).bind fun t165 => ((word_Binary.f 4 t165 t130).bind fun t166 => (if t166 = t127 then (if ((decide (t130 < 0)) == (decide (t127 < 0))) = true then (if t130 < t128 then ((fullinglaw1_WordExamples.f k).bind fun t167 => (some t167)) else (some false)) else (some false)) else (some false)))) else ((word_Binary.f 6 t129 t128).bind fun t168 => ((word_Binary.f 4 t168 t130).bind fun t169 => (if t169 = t127 then (if ((decide (t130 < 0)) == (decide (t127 < 0))) = true then (some false) else (some false)) else (some false))))) else ((word_Binary.f 6 t129 t128).bind fun t170 => ((word_Binary.f 4 t170 t130).bind fun t171 => (if t171 = t127 then (if ((decide (t130 < 0)) == (decide (t127 < 0))) = true then (some false) else (some false)) else (some false)))))) else (if t128 > 0 then (if t130 > (wrap64 (-t128)) then ((word_Binary.f 6 t129 t128).bind fun t172 => ((word_Binary.f 4 t172 t130).bind fun t173 => (if t173 = t127 then (if ((decide (t130 < 0)) == (decide (t127 < 0))) = true then (if t130 < t128 then ((fullinglaw1_WordExamples.f k).bind fun t174 => (some t174)) else (some false)) else (some false)) else (some false)))) else ((word_Binary.f 6 t129 t128).bind fun t175 => ((word_Binary.f 4 t175 t130).bind fun t176 => (if t176 = t127 then (if ((decide (t130 < 0)) == (decide (t127 < 0))) = true then (some false) else (some false)) else (some false))))) else ((word_Binary.f 6 t129 t128).bind fun t177 => ((word_Binary.f 4 t177 t130).bind fun t178 => (if t178 = t127 then (if ((decide (t130 < 0)) == (decide (t127 < 0))) = true then (some false) else (some false)) else (some false)))))) else (if t128 > 0 then (if t130 > (wrap64 (-t128)) then ((word_Binary.f 6 t129 t128).bind fun t179 => ((word_Binary.f 4 t179 t130).bind fun t180 => (if t180 = t127 then (if ((decide (t130 < 0)) == (decide (t127 < 0))) = true then (if t130 < t128 then ((fullinglaw1_WordExamples.f k).bind fun t181 => (some t181)) else (some false)) else (some false)) else (some false)))) else ((word_Binary.f 6 t129 t128).bind fun t182 => ((word_Binary.f 4 t182 t130).bind fun t183 => (if t183 = t127 then (if ((decide (t130 < 0)) == (decide (t127 < 0))) = true then (some false) else (some false)) else (some false))))) else ((word_Binary.f 6 t129 t128).bind fun t184 => ((word_Binary.f 4 t184 t130).bind fun t185 => (if t185 = t127 then (if ((decide (t130 < 0)) == (decide (t127 < 0))) = true then (some false) else (some false)) else (some false)))))))))) = some r := H
  have A7 := Aside0.mk A70
  clear A70
  replace H := Option.bind_eq_some_iff.mp H
  obtain ⟨t130, A80, H⟩ := H
  replace H : (if t128 = 0 then (if t129 = 0 then (if t130 = 0 then ((fullinglaw1_WordExamples.f k).bind fun t131 => (some t131)) else (some false)) else (some false)) else (if t130 = 0 then (if t128 = (-9223372036854775808) then ((word_Binary.f 6 t129 t128).bind fun t132 => ((word_Binary.f 4 t132 t130).bind fun t133 => (if t133 = t127 then ((fullinglaw1_WordExamples.f k).bind fun t134 => (some t134)) else (some false)))) else (if t128 < 0 then (if t130 > t128 then (if t130 < (wrap64 (-t128)) then ((word_Binary.f 6 t129 t128).bind fun t135 => ((word_Binary.f 4 t135 t130).bind fun t136 => (if t136 = t127 then ((fullinglaw1_WordExamples.f k).bind fun t137 => (some t137)) else (some false)))) else (if t128 > 0 then (if t130 > (wrap64 (-t128)) then ((word_Binary.f 6 t129 t128).bind fun t138 => ((word_Binary.f 4 t138 t130).bind fun t139 => (if t139 = t127 then (if t130 < t128 then ((fullinglaw1_WordExamples.f k).bind fun t140 => (some t140)) else (some false)) else (some false)))) else ((word_Binary.f 6 t129 t128).bind fun t141 => ((word_Binary.f 4 t141 t130).bind fun t142 => (if t142 = t127 then (some false) else (some false))))) else ((word_Binary.f 6 t129 t128).bind fun t143 => ((word_Binary.f 4 t143 t130).bind fun t144 => (if t144 = t127 then (some false) else (some false)))))) else (if t128 > 0 then (if t130 > (wrap64 (-t128)) then ((word_Binary.f 6 t129 t128).bind fun t145 => ((word_Binary.f 4 t145 t130).bind fun t146 => (if t146 = t127 then (if t130 < t128 then ((fullinglaw1_WordExamples.f k).bind fun t147 => (some t147)) else (some false)) else (some false)))) else ((word_Binary.f 6 t129 t128).bind fun t148 => ((word_Binary.f 4 t148 t130).bind fun t149 => (if t149 = t127 then (some false) else (some false))))) else ((word_Binary.f 6 t129 t128).bind fun t150 => ((word_Binary.f 4 t150 t130).bind fun t151 => (if t151 = t127 then (some false) else (some false)))))) else (if t128 > 0 then (if t130 > (wrap64 (-t128)) then ((word_Binary.f 6 t129 t128).bind fun t152 => ((word_Binary.f 4 t152 t130).bind fun t153 => (if t153 = t127 then (if t130 < t128 then ((fullinglaw1_WordExamples.f k).bind fun t154 => (some t154)) else (some false)) else (some false)))) else ((word_Binary.f 6 t129 t128).bind fun t155 => ((word_Binary.f 4 t155 t130).bind fun t156 => (if t156 = t127 then (some false) else (some false))))) else ((word_Binary.f 6 t129 t128).bind fun t157 => ((word_Binary.f 4 t157 t130).bind fun t158 => (if t158 = t127 then (some false) else (some false))))))) else (if t128 = (-9223372036854775808) then ((word_Binary.f 6 t129 t128).bind fun t159 => ((word_Binary.f 4 t159 t130).bind fun t160 => (if t160 = t127 then (if ((decide (t130 < 0)) == (decide (t127 < 0))) = true then ((fullinglaw1_WordExamples.f k).bind fun t161 => (some t161)) else (some false)) else (some false)))) else (if t128 < 0 then (if t130 > t128 then (if t130 < (wrap64 (-t128)) then ((word_Binary.f 6 t129 t128).bind fun t162 => ((word_Binary.f 4 t162 t130).bind fun t163 => (if t163 = t127 then (if ((decide (t130 < 0)) == (decide (t127 < 0))) = true then ((fullinglaw1_WordExamples.f k).bind fun t164 => (some t164)) else (some false)) else (some false)))) else (if t128 > 0 then (if t130 > (wrap64 (-t128)) then ((word_Binary.f 6 t129 t128).bind fun t165 => ((word_Binary.f 4 t165 t130).bind fun t166 => (if t166 = t127 then (if ((decide (t130 < 0)) == (decide (t127 < 0))) = true then (if t130 < t128 then ((fullinglaw1_WordExamples.f k).bind fun t167 => (some t167)) else (some false)) else (some false)) else (some false)))) else ((word_Binary.f 6 t129 t128).bind fun t168 => ((word_Binary.f 4 t168 t130).bind fun t169 => (if t169 = t127 then (if ((decide (t130 < 0)) == (decide (t127 < 0))) = true then (some false) else (some false)) else (some false))))) else ((word_Binary.f 6 t129 t128).bind fun t170 => ((word_Binary.f 4 t170 t130).bind fun t171 => (if t171 = t127 then (if ((decide (t130 < 0)) == (decide (t127 < 0))) = true then (some false) else (some false)) else (some false)))))) else (if t128 > 0 then (if t130 > (wrap64 (-t128)) then ((word_Binary.f 6 t129 t128).bind fun t172 => ((word_Binary.f 4 t172 t130).bind fun t173 => (if t173 = t127 then (if ((decide (t130 < 0)) == (decide (t127 < 0))) = true then (if t130 < t128 then ((fullinglaw1_WordExamples.f k).bind fun t174 => (some t174)) else (some false)) else (some false)) else (some false)))) else ((word_Binary.f 6 t129 t128).bind fun t175 => ((word_Binary.f 4 t175 t130).bind fun t176 => (if t176 = t127 then (if ((decide (t130 < 0)) == (decide (t127 < 0))) = true then (some false) else (some false)) else (some false))))) else ((word_Binary.f 6 t129 t128).bind fun t177 => ((word_Binary.f 4 t177 t130).bind fun t178 => (if t178 = t127 then (if ((decide (t130 < 0)) == (decide (t127 < 0))) = true then (some false) else (some false)) else (some false)))))) else (if t128 > 0 then (if t130 > (wrap64 (-t128)) then ((word_Binary.f 6 t129 t128).bind fun t179 => ((word_Binary.f 4 t179 t130).bind fun t180 => (if t180 = t127 then (if ((decide (t130 < 0)) == (decide (t127 < 0))) = true then (if t130 < t128 then ((fullinglaw1_WordExamples.f k).bind fun t181 => (some t181)) else (some false)) else (some false)) else (some false)))) else ((word_Binary.f 6 t129 t128).bind fun t182 => ((word_Binary.f 4 t182 t130).bind fun t183 => (if t183 = t127 then (if ((decide (t130 < 0)) == (decide (t127 < 0))) = true then (some false) else (some false)) else (some false))))) else ((word_Binary.f 6 t129 t128).bind fun t184 => ((word_Binary.f 4 t184 t130).bind fun t185 => (if t185 = t127 then (if ((decide (t130 < 0)) == (decide (t127 < 0))) = true then (some false) else (some false)) else (some false))))))))) = some r := H
  have A8 := Aside0.mk A80
  clear A80
  by_cases c9 : t128 = 0
  · rw [if_pos c9] at H
    have c9b0 : (t128 == 0) = true := beq_iff_eq.mpr c9
    have c9b1 : (t128 != 0) = false := bne_eq_false_iff_eq.mpr c9
    clear c9
    by_cases c10 : t129 = 0
    · rw [if_pos c10] at H
      have c10b0 : (t129 == 0) = true := beq_iff_eq.mpr c10
      have c10b1 : (t129 != 0) = false := bne_eq_false_iff_eq.mpr c10
      clear c10
      by_cases c11 : t130 = 0
      · rw [if_pos c11] at H
        have c11b0 : (t130 == 0) = true := beq_iff_eq.mpr c11
        have c11b1 : (t130 != 0) = false := bne_eq_false_iff_eq.mpr c11
        clear c11
        replace H := Option.bind_eq_some_iff.mp H
        obtain ⟨t131, A120, H⟩ := H
        replace H : (some t131) = some r := H
        have A12 := Aside0.mk A120
        clear A120
        obtain rfl := Option.some.inj H
        go_enter Try.func4, Try.ntmps4
        go_wp2_with (first | ((with_reducible refine gate_callee (f := 16) rfl ?_); refine goesL_ (some 17) rfl rfl Try.func16 (by kernel_rfl) rfl #[.int .i64 a0, .int .i64 a2] rfl (by (try simp only [List.map_toArray, List.map_cons, List.map_nil]); first | done | rfl | (simp only [List.length_drop, List.length_take]; rfl)) ?_; (with_reducible refine (fullingkeep_Word.calls a0 a2 t127 _ A5.out).mono ?_); rintro e w13 ⟨rfl, hb⟩; refine ⟨_, rfl, ?_⟩; have n0_ := Aside0.mk (below_step (by repeat (first | (with_reducible first | exact HB.out | apply below_alloc | apply pw_below_drewN | apply below_drew1) | exact HB.out)) hb); clear HB; have HB := n0_; clear n0_; (try clear hb); (try clear hb2); (try clear hk); (try clear hi)) | ((with_reducible refine gate_callee (f := 16) rfl ?_); refine goesL_ (some 20) rfl rfl Try.func16 (by kernel_rfl) rfl #[.int .i64 a1, .int .i64 a3] rfl (by (try simp only [List.map_toArray, List.map_cons, List.map_nil]); first | done | rfl | (simp only [List.length_drop, List.length_take]; rfl)) ?_; (with_reducible refine (fullingkeep_Word.calls a1 a3 t128 _ A6.out).mono ?_); rintro e w14 ⟨rfl, hb⟩; refine ⟨_, rfl, ?_⟩; have n0_ := Aside0.mk (below_step (by repeat (first | (with_reducible first | exact HB.out | apply below_alloc | apply pw_below_drewN | apply below_drew1) | exact HB.out)) hb); clear HB; have HB := n0_; clear n0_; (try clear hb); (try clear hb2); (try clear hk); (try clear hi)) | ((with_reducible refine gate_callee (f := 14) rfl ?_); refine goesL_ (some 23) rfl rfl Try.func14 (by kernel_rfl) rfl #[.int .i64 7, .int .i64 t127, .int .i64 t128] rfl (by (try simp only [List.map_toArray, List.map_cons, List.map_nil]); first | done | rfl | (simp only [List.length_drop, List.length_take]; rfl)) ?_; (with_reducible refine (word_Binary.calls 7 t127 t128 t129 _ A7.out).mono ?_); rintro e w' ⟨rfl, ⟨nd, rfl⟩⟩; refine ⟨_, rfl, ?_⟩) | ((with_reducible refine gate_callee (f := 14) rfl ?_); refine goesL_ (some 26) rfl rfl Try.func14 (by kernel_rfl) rfl #[.int .i64 8, .int .i64 t127, .int .i64 t128] rfl (by (try simp only [List.map_toArray, List.map_cons, List.map_nil]); first | done | rfl | (simp only [List.length_drop, List.length_take]; rfl)) ?_; (with_reducible refine (word_Binary.calls 8 t127 t128 t130 _ A8.out).mono ?_); rintro e w' ⟨rfl, ⟨nd, rfl⟩⟩; refine ⟨_, rfl, ?_⟩) | (go_at_call 3; (with_reducible refine (fullinglaw1_WordExamples.calls k  t131 _ A12.out).mono ?_); rintro e w15 ⟨rfl, hb⟩; have n0_ := Aside0.mk (below_step (by repeat (first | (with_reducible first | exact HB.out | apply below_alloc | apply pw_below_drewN | apply below_drew1) | exact HB.out)) hb); clear HB; have HB := n0_; clear n0_; (try clear hb); (try clear hb2); (try clear hk); (try clear hi)))
        go_ret
        exact ⟨by first | rfl | (simp [errW_none, errW_some] <;> rfl) | (simp [*, errW_none, errW_some] <;> rfl), by repeat (first | (with_reducible first | exact HB.out | apply below_alloc | apply pw_below_drewN | apply below_drew1) | exact HB.out)⟩
      · rw [if_neg c11] at H
        have c11b0 : (t130 == 0) = false := beq_eq_false_iff_ne.mpr c11
        have c11b1 : (t130 != 0) = true := bne_iff_ne.mpr c11
        exact absurd (hr_.out.symm.trans (Option.some.inj H).symm) Bool.noConfusion
    · rw [if_neg c10] at H
      have c10b0 : (t129 == 0) = false := beq_eq_false_iff_ne.mpr c10
      have c10b1 : (t129 != 0) = true := bne_iff_ne.mpr c10
      exact absurd (hr_.out.symm.trans (Option.some.inj H).symm) Bool.noConfusion
  · rw [if_neg c9] at H
    have c9b0 : (t128 == 0) = false := beq_eq_false_iff_ne.mpr c9
    have c9b1 : (t128 != 0) = true := bne_iff_ne.mpr c9
    by_cases c16 : t130 = 0
    · rw [if_pos c16] at H
      have c16b0 : (t130 == 0) = true := beq_iff_eq.mpr c16
      have c16b1 : (t130 != 0) = false := bne_eq_false_iff_eq.mpr c16
      clear c16
      by_cases c17 : t128 = (-9223372036854775808)
      · rw [if_pos c17] at H
        have c17b0 : (t128 == (-9223372036854775808)) = true := beq_iff_eq.mpr c17
        have c17b1 : (t128 != (-9223372036854775808)) = false := bne_eq_false_iff_eq.mpr c17
        clear c17
        replace H := Option.bind_eq_some_iff.mp H
        obtain ⟨t132, A180, H⟩ := H
        replace H : ((word_Binary.f 4 t132 t130).bind fun t133 => (if t133 = t127 then ((fullinglaw1_WordExamples.f k).bind fun t134 => (some t134)) else (some false))) = some r := H
        have A18 := Aside0.mk A180
        clear A180
        replace H := Option.bind_eq_some_iff.mp H
        obtain ⟨t133, A190, H⟩ := H
        replace H : (if t133 = t127 then ((fullinglaw1_WordExamples.f k).bind fun t134 => (some t134)) else (some false)) = some r := H
        have A19 := Aside0.mk A190
        clear A190
        by_cases c20 : t133 = t127
        · rw [if_pos c20] at H
          have c20b0 : (t133 == t127) = true := beq_iff_eq.mpr c20
          have c20b1 : (t133 != t127) = false := bne_eq_false_iff_eq.mpr c20
          clear c20
          replace H := Option.bind_eq_some_iff.mp H
          obtain ⟨t134, A210, H⟩ := H
          replace H : (some t134) = some r := H
          have A21 := Aside0.mk A210
          clear A210
          obtain rfl := Option.some.inj H
          go_enter Try.func4, Try.ntmps4
          go_wp2_with (first | ((with_reducible refine gate_callee (f := 16) rfl ?_); refine goesL_ (some 17) rfl rfl Try.func16 (by kernel_rfl) rfl #[.int .i64 a0, .int .i64 a2] rfl (by (try simp only [List.map_toArray, List.map_cons, List.map_nil]); first | done | rfl | (simp only [List.length_drop, List.length_take]; rfl)) ?_; (with_reducible refine (fullingkeep_Word.calls a0 a2 t127 _ A5.out).mono ?_); rintro e w22 ⟨rfl, hb⟩; refine ⟨_, rfl, ?_⟩; have n0_ := Aside0.mk (below_step (by repeat (first | (with_reducible first | exact HB.out | apply below_alloc | apply pw_below_drewN | apply below_drew1) | exact HB.out)) hb); clear HB; have HB := n0_; clear n0_; (try clear hb); (try clear hb2); (try clear hk); (try clear hi)) | ((with_reducible refine gate_callee (f := 16) rfl ?_); refine goesL_ (some 20) rfl rfl Try.func16 (by kernel_rfl) rfl #[.int .i64 a1, .int .i64 a3] rfl (by (try simp only [List.map_toArray, List.map_cons, List.map_nil]); first | done | rfl | (simp only [List.length_drop, List.length_take]; rfl)) ?_; (with_reducible refine (fullingkeep_Word.calls a1 a3 t128 _ A6.out).mono ?_); rintro e w23 ⟨rfl, hb⟩; refine ⟨_, rfl, ?_⟩; have n0_ := Aside0.mk (below_step (by repeat (first | (with_reducible first | exact HB.out | apply below_alloc | apply pw_below_drewN | apply below_drew1) | exact HB.out)) hb); clear HB; have HB := n0_; clear n0_; (try clear hb); (try clear hb2); (try clear hk); (try clear hi)) | ((with_reducible refine gate_callee (f := 14) rfl ?_); refine goesL_ (some 23) rfl rfl Try.func14 (by kernel_rfl) rfl #[.int .i64 7, .int .i64 t127, .int .i64 t128] rfl (by (try simp only [List.map_toArray, List.map_cons, List.map_nil]); first | done | rfl | (simp only [List.length_drop, List.length_take]; rfl)) ?_; (with_reducible refine (word_Binary.calls 7 t127 t128 t129 _ A7.out).mono ?_); rintro e w' ⟨rfl, ⟨nd, rfl⟩⟩; refine ⟨_, rfl, ?_⟩) | ((with_reducible refine gate_callee (f := 14) rfl ?_); refine goesL_ (some 26) rfl rfl Try.func14 (by kernel_rfl) rfl #[.int .i64 8, .int .i64 t127, .int .i64 t128] rfl (by (try simp only [List.map_toArray, List.map_cons, List.map_nil]); first | done | rfl | (simp only [List.length_drop, List.length_take]; rfl)) ?_; (with_reducible refine (word_Binary.calls 8 t127 t128 t130 _ A8.out).mono ?_); rintro e w' ⟨rfl, ⟨nd, rfl⟩⟩; refine ⟨_, rfl, ?_⟩) | ((with_reducible refine gate_callee (f := 14) rfl ?_); refine goesL_ (some 81) rfl rfl Try.func14 (by kernel_rfl) rfl #[.int .i64 6, .int .i64 t129, .int .i64 t128] rfl (by (try simp only [List.map_toArray, List.map_cons, List.map_nil]); first | done | rfl | (simp only [List.length_drop, List.length_take]; rfl)) ?_; (with_reducible refine (word_Binary.calls 6 t129 t128 t132 _ A18.out).mono ?_); rintro e w' ⟨rfl, ⟨nd, rfl⟩⟩; refine ⟨_, rfl, ?_⟩) | ((with_reducible refine gate_callee (f := 14) rfl ?_); refine goesL_ (some 83) rfl rfl Try.func14 (by kernel_rfl) rfl #[.int .i64 4, .int .i64 t132, .int .i64 t130] rfl (by (try simp only [List.map_toArray, List.map_cons, List.map_nil]); first | done | rfl | (simp only [List.length_drop, List.length_take]; rfl)) ?_; (with_reducible refine (word_Binary.calls 4 t132 t130 t133 _ A19.out).mono ?_); rintro e w' ⟨rfl, ⟨nd, rfl⟩⟩; refine ⟨_, rfl, ?_⟩) | (go_at_call 3; (with_reducible refine (fullinglaw1_WordExamples.calls k  t134 _ A21.out).mono ?_); rintro e w24 ⟨rfl, hb⟩; have n0_ := Aside0.mk (below_step (by repeat (first | (with_reducible first | exact HB.out | apply below_alloc | apply pw_below_drewN | apply below_drew1) | exact HB.out)) hb); clear HB; have HB := n0_; clear n0_; (try clear hb); (try clear hb2); (try clear hk); (try clear hi)))
          go_ret
          exact ⟨by first | rfl | (simp [errW_none, errW_some] <;> rfl) | (simp [*, errW_none, errW_some] <;> rfl), by repeat (first | (with_reducible first | exact HB.out | apply below_alloc | apply pw_below_drewN | apply below_drew1) | exact HB.out)⟩
        · rw [if_neg c20] at H
          have c20b0 : (t133 == t127) = false := beq_eq_false_iff_ne.mpr c20
          have c20b1 : (t133 != t127) = true := bne_iff_ne.mpr c20
          exact absurd (hr_.out.symm.trans (Option.some.inj H).symm) Bool.noConfusion
      · rw [if_neg c17] at H
        have c17b0 : (t128 == (-9223372036854775808)) = false := beq_eq_false_iff_ne.mpr c17
        have c17b1 : (t128 != (-9223372036854775808)) = true := bne_iff_ne.mpr c17
        by_cases c25 : t128 < 0
        · rw [if_pos c25] at H
          have c25b0 : decide (t128 < 0) = true := decide_eq_true c25
          clear c25
          by_cases c26 : t130 > t128
          · rw [if_pos c26] at H
            have c26b0 : decide (t128 < t130) = true := decide_eq_true c26
            clear c26
            by_cases c27 : t130 < (wrap64 (-t128))
            · rw [if_pos c27] at H
              have c27b0 : decide (t130 < (wrap64 (-t128))) = true := decide_eq_true c27
              clear c27
              replace H := Option.bind_eq_some_iff.mp H
              obtain ⟨t135, A280, H⟩ := H
              replace H : ((word_Binary.f 4 t135 t130).bind fun t136 => (if t136 = t127 then ((fullinglaw1_WordExamples.f k).bind fun t137 => (some t137)) else (some false))) = some r := H
              have A28 := Aside0.mk A280
              clear A280
              replace H := Option.bind_eq_some_iff.mp H
              obtain ⟨t136, A290, H⟩ := H
              replace H : (if t136 = t127 then ((fullinglaw1_WordExamples.f k).bind fun t137 => (some t137)) else (some false)) = some r := H
              have A29 := Aside0.mk A290
              clear A290
              by_cases c30 : t136 = t127
              · rw [if_pos c30] at H
                have c30b0 : (t136 == t127) = true := beq_iff_eq.mpr c30
                have c30b1 : (t136 != t127) = false := bne_eq_false_iff_eq.mpr c30
                clear c30
                replace H := Option.bind_eq_some_iff.mp H
                obtain ⟨t137, A310, H⟩ := H
                replace H : (some t137) = some r := H
                have A31 := Aside0.mk A310
                clear A310
                obtain rfl := Option.some.inj H
                go_enter Try.func4, Try.ntmps4
                go_wp2_with (first | ((with_reducible refine gate_callee (f := 16) rfl ?_); refine goesL_ (some 17) rfl rfl Try.func16 (by kernel_rfl) rfl #[.int .i64 a0, .int .i64 a2] rfl (by (try simp only [List.map_toArray, List.map_cons, List.map_nil]); first | done | rfl | (simp only [List.length_drop, List.length_take]; rfl)) ?_; (with_reducible refine (fullingkeep_Word.calls a0 a2 t127 _ A5.out).mono ?_); rintro e w32 ⟨rfl, hb⟩; refine ⟨_, rfl, ?_⟩; have n0_ := Aside0.mk (below_step (by repeat (first | (with_reducible first | exact HB.out | apply below_alloc | apply pw_below_drewN | apply below_drew1) | exact HB.out)) hb); clear HB; have HB := n0_; clear n0_; (try clear hb); (try clear hb2); (try clear hk); (try clear hi)) | ((with_reducible refine gate_callee (f := 16) rfl ?_); refine goesL_ (some 20) rfl rfl Try.func16 (by kernel_rfl) rfl #[.int .i64 a1, .int .i64 a3] rfl (by (try simp only [List.map_toArray, List.map_cons, List.map_nil]); first | done | rfl | (simp only [List.length_drop, List.length_take]; rfl)) ?_; (with_reducible refine (fullingkeep_Word.calls a1 a3 t128 _ A6.out).mono ?_); rintro e w33 ⟨rfl, hb⟩; refine ⟨_, rfl, ?_⟩; have n0_ := Aside0.mk (below_step (by repeat (first | (with_reducible first | exact HB.out | apply below_alloc | apply pw_below_drewN | apply below_drew1) | exact HB.out)) hb); clear HB; have HB := n0_; clear n0_; (try clear hb); (try clear hb2); (try clear hk); (try clear hi)) | ((with_reducible refine gate_callee (f := 14) rfl ?_); refine goesL_ (some 23) rfl rfl Try.func14 (by kernel_rfl) rfl #[.int .i64 7, .int .i64 t127, .int .i64 t128] rfl (by (try simp only [List.map_toArray, List.map_cons, List.map_nil]); first | done | rfl | (simp only [List.length_drop, List.length_take]; rfl)) ?_; (with_reducible refine (word_Binary.calls 7 t127 t128 t129 _ A7.out).mono ?_); rintro e w' ⟨rfl, ⟨nd, rfl⟩⟩; refine ⟨_, rfl, ?_⟩) | ((with_reducible refine gate_callee (f := 14) rfl ?_); refine goesL_ (some 26) rfl rfl Try.func14 (by kernel_rfl) rfl #[.int .i64 8, .int .i64 t127, .int .i64 t128] rfl (by (try simp only [List.map_toArray, List.map_cons, List.map_nil]); first | done | rfl | (simp only [List.length_drop, List.length_take]; rfl)) ?_; (with_reducible refine (word_Binary.calls 8 t127 t128 t130 _ A8.out).mono ?_); rintro e w' ⟨rfl, ⟨nd, rfl⟩⟩; refine ⟨_, rfl, ?_⟩) | ((with_reducible refine gate_callee (f := 14) rfl ?_); refine goesL_ (some 81) rfl rfl Try.func14 (by kernel_rfl) rfl #[.int .i64 6, .int .i64 t129, .int .i64 t128] rfl (by (try simp only [List.map_toArray, List.map_cons, List.map_nil]); first | done | rfl | (simp only [List.length_drop, List.length_take]; rfl)) ?_; (with_reducible refine (word_Binary.calls 6 t129 t128 t135 _ A28.out).mono ?_); rintro e w' ⟨rfl, ⟨nd, rfl⟩⟩; refine ⟨_, rfl, ?_⟩) | ((with_reducible refine gate_callee (f := 14) rfl ?_); refine goesL_ (some 83) rfl rfl Try.func14 (by kernel_rfl) rfl #[.int .i64 4, .int .i64 t135, .int .i64 t130] rfl (by (try simp only [List.map_toArray, List.map_cons, List.map_nil]); first | done | rfl | (simp only [List.length_drop, List.length_take]; rfl)) ?_; (with_reducible refine (word_Binary.calls 4 t135 t130 t136 _ A29.out).mono ?_); rintro e w' ⟨rfl, ⟨nd, rfl⟩⟩; refine ⟨_, rfl, ?_⟩) | (go_at_call 3; (with_reducible refine (fullinglaw1_WordExamples.calls k  t137 _ A31.out).mono ?_); rintro e w34 ⟨rfl, hb⟩; have n0_ := Aside0.mk (below_step (by repeat (first | (with_reducible first | exact HB.out | apply below_alloc | apply pw_below_drewN | apply below_drew1) | exact HB.out)) hb); clear HB; have HB := n0_; clear n0_; (try clear hb); (try clear hb2); (try clear hk); (try clear hi)))
                go_ret
                exact ⟨by first | rfl | (simp [errW_none, errW_some] <;> rfl) | (simp [*, errW_none, errW_some] <;> rfl), by repeat (first | (with_reducible first | exact HB.out | apply below_alloc | apply pw_below_drewN | apply below_drew1) | exact HB.out)⟩
              · rw [if_neg c30] at H
                have c30b0 : (t136 == t127) = false := beq_eq_false_iff_ne.mpr c30
                have c30b1 : (t136 != t127) = true := bne_iff_ne.mpr c30
                exact absurd (hr_.out.symm.trans (Option.some.inj H).symm) Bool.noConfusion
            · rw [if_neg c27] at H
              have c27b0 : decide (t130 < (wrap64 (-t128))) = false := decide_eq_false c27
              clear c27
              by_cases c35 : t128 > 0
              · rw [if_pos c35] at H
                have c35b0 : decide (0 < t128) = true := decide_eq_true c35
                clear c35
                by_cases c36 : t130 > (wrap64 (-t128))
                · rw [if_pos c36] at H
                  have c36b0 : decide ((wrap64 (-t128)) < t130) = true := decide_eq_true c36
                  clear c36
                  replace H := Option.bind_eq_some_iff.mp H
                  obtain ⟨t138, A370, H⟩ := H
                  replace H : ((word_Binary.f 4 t138 t130).bind fun t139 => (if t139 = t127 then (if t130 < t128 then ((fullinglaw1_WordExamples.f k).bind fun t140 => (some t140)) else (some false)) else (some false))) = some r := H
                  have A37 := Aside0.mk A370
                  clear A370
                  replace H := Option.bind_eq_some_iff.mp H
                  obtain ⟨t139, A380, H⟩ := H
                  replace H : (if t139 = t127 then (if t130 < t128 then ((fullinglaw1_WordExamples.f k).bind fun t140 => (some t140)) else (some false)) else (some false)) = some r := H
                  have A38 := Aside0.mk A380
                  clear A380
                  by_cases c39 : t139 = t127
                  · rw [if_pos c39] at H
                    have c39b0 : (t139 == t127) = true := beq_iff_eq.mpr c39
                    have c39b1 : (t139 != t127) = false := bne_eq_false_iff_eq.mpr c39
                    clear c39
                    by_cases c40 : t130 < t128
                    · rw [if_pos c40] at H
                      have c40b0 : decide (t130 < t128) = true := decide_eq_true c40
                      clear c40
                      replace H := Option.bind_eq_some_iff.mp H
                      obtain ⟨t140, A410, H⟩ := H
                      replace H : (some t140) = some r := H
                      have A41 := Aside0.mk A410
                      clear A410
                      obtain rfl := Option.some.inj H
                      go_enter Try.func4, Try.ntmps4
                      go_wp2_with (first | ((with_reducible refine gate_callee (f := 16) rfl ?_); refine goesL_ (some 17) rfl rfl Try.func16 (by kernel_rfl) rfl #[.int .i64 a0, .int .i64 a2] rfl (by (try simp only [List.map_toArray, List.map_cons, List.map_nil]); first | done | rfl | (simp only [List.length_drop, List.length_take]; rfl)) ?_; (with_reducible refine (fullingkeep_Word.calls a0 a2 t127 _ A5.out).mono ?_); rintro e w42 ⟨rfl, hb⟩; refine ⟨_, rfl, ?_⟩; have n0_ := Aside0.mk (below_step (by repeat (first | (with_reducible first | exact HB.out | apply below_alloc | apply pw_below_drewN | apply below_drew1) | exact HB.out)) hb); clear HB; have HB := n0_; clear n0_; (try clear hb); (try clear hb2); (try clear hk); (try clear hi)) | ((with_reducible refine gate_callee (f := 16) rfl ?_); refine goesL_ (some 20) rfl rfl Try.func16 (by kernel_rfl) rfl #[.int .i64 a1, .int .i64 a3] rfl (by (try simp only [List.map_toArray, List.map_cons, List.map_nil]); first | done | rfl | (simp only [List.length_drop, List.length_take]; rfl)) ?_; (with_reducible refine (fullingkeep_Word.calls a1 a3 t128 _ A6.out).mono ?_); rintro e w43 ⟨rfl, hb⟩; refine ⟨_, rfl, ?_⟩; have n0_ := Aside0.mk (below_step (by repeat (first | (with_reducible first | exact HB.out | apply below_alloc | apply pw_below_drewN | apply below_drew1) | exact HB.out)) hb); clear HB; have HB := n0_; clear n0_; (try clear hb); (try clear hb2); (try clear hk); (try clear hi)) | ((with_reducible refine gate_callee (f := 14) rfl ?_); refine goesL_ (some 23) rfl rfl Try.func14 (by kernel_rfl) rfl #[.int .i64 7, .int .i64 t127, .int .i64 t128] rfl (by (try simp only [List.map_toArray, List.map_cons, List.map_nil]); first | done | rfl | (simp only [List.length_drop, List.length_take]; rfl)) ?_; (with_reducible refine (word_Binary.calls 7 t127 t128 t129 _ A7.out).mono ?_); rintro e w' ⟨rfl, ⟨nd, rfl⟩⟩; refine ⟨_, rfl, ?_⟩) | ((with_reducible refine gate_callee (f := 14) rfl ?_); refine goesL_ (some 26) rfl rfl Try.func14 (by kernel_rfl) rfl #[.int .i64 8, .int .i64 t127, .int .i64 t128] rfl (by (try simp only [List.map_toArray, List.map_cons, List.map_nil]); first | done | rfl | (simp only [List.length_drop, List.length_take]; rfl)) ?_; (with_reducible refine (word_Binary.calls 8 t127 t128 t130 _ A8.out).mono ?_); rintro e w' ⟨rfl, ⟨nd, rfl⟩⟩; refine ⟨_, rfl, ?_⟩) | ((with_reducible refine gate_callee (f := 14) rfl ?_); refine goesL_ (some 81) rfl rfl Try.func14 (by kernel_rfl) rfl #[.int .i64 6, .int .i64 t129, .int .i64 t128] rfl (by (try simp only [List.map_toArray, List.map_cons, List.map_nil]); first | done | rfl | (simp only [List.length_drop, List.length_take]; rfl)) ?_; (with_reducible refine (word_Binary.calls 6 t129 t128 t138 _ A37.out).mono ?_); rintro e w' ⟨rfl, ⟨nd, rfl⟩⟩; refine ⟨_, rfl, ?_⟩) | ((with_reducible refine gate_callee (f := 14) rfl ?_); refine goesL_ (some 83) rfl rfl Try.func14 (by kernel_rfl) rfl #[.int .i64 4, .int .i64 t138, .int .i64 t130] rfl (by (try simp only [List.map_toArray, List.map_cons, List.map_nil]); first | done | rfl | (simp only [List.length_drop, List.length_take]; rfl)) ?_; (with_reducible refine (word_Binary.calls 4 t138 t130 t139 _ A38.out).mono ?_); rintro e w' ⟨rfl, ⟨nd, rfl⟩⟩; refine ⟨_, rfl, ?_⟩) | (go_at_call 3; (with_reducible refine (fullinglaw1_WordExamples.calls k  t140 _ A41.out).mono ?_); rintro e w44 ⟨rfl, hb⟩; have n0_ := Aside0.mk (below_step (by repeat (first | (with_reducible first | exact HB.out | apply below_alloc | apply pw_below_drewN | apply below_drew1) | exact HB.out)) hb); clear HB; have HB := n0_; clear n0_; (try clear hb); (try clear hb2); (try clear hk); (try clear hi)))
                      go_ret
                      exact ⟨by first | rfl | (simp [errW_none, errW_some] <;> rfl) | (simp [*, errW_none, errW_some] <;> rfl), by repeat (first | (with_reducible first | exact HB.out | apply below_alloc | apply pw_below_drewN | apply below_drew1) | exact HB.out)⟩
                    · rw [if_neg c40] at H
                      have c40b0 : decide (t130 < t128) = false := decide_eq_false c40
                      clear c40
                      exact absurd (hr_.out.symm.trans (Option.some.inj H).symm) Bool.noConfusion
                  · rw [if_neg c39] at H
                    have c39b0 : (t139 == t127) = false := beq_eq_false_iff_ne.mpr c39
                    have c39b1 : (t139 != t127) = true := bne_iff_ne.mpr c39
                    exact absurd (hr_.out.symm.trans (Option.some.inj H).symm) Bool.noConfusion
                · rw [if_neg c36] at H
                  have c36b0 : decide ((wrap64 (-t128)) < t130) = false := decide_eq_false c36
                  clear c36
                  replace H := Option.bind_eq_some_iff.mp H
                  obtain ⟨t141, A450, H⟩ := H
                  replace H : ((word_Binary.f 4 t141 t130).bind fun t142 => (if t142 = t127 then (some false) else (some false))) = some r := H
                  have A45 := Aside0.mk A450
                  clear A450
                  replace H := Option.bind_eq_some_iff.mp H
                  obtain ⟨t142, A460, H⟩ := H
                  replace H : (if t142 = t127 then (some false) else (some false)) = some r := H
                  have A46 := Aside0.mk A460
                  clear A460
                  by_cases c47 : t142 = t127
                  · rw [if_pos c47] at H
                    have c47b0 : (t142 == t127) = true := beq_iff_eq.mpr c47
                    have c47b1 : (t142 != t127) = false := bne_eq_false_iff_eq.mpr c47
                    clear c47
                    exact absurd (hr_.out.symm.trans (Option.some.inj H).symm) Bool.noConfusion
                  · rw [if_neg c47] at H
                    have c47b0 : (t142 == t127) = false := beq_eq_false_iff_ne.mpr c47
                    have c47b1 : (t142 != t127) = true := bne_iff_ne.mpr c47
                    exact absurd (hr_.out.symm.trans (Option.some.inj H).symm) Bool.noConfusion
              · rw [if_neg c35] at H
                have c35b0 : decide (0 < t128) = false := decide_eq_false c35
                clear c35
                replace H := Option.bind_eq_some_iff.mp H
                obtain ⟨t143, A480, H⟩ := H
                replace H : ((word_Binary.f 4 t143 t130).bind fun t144 => (if t144 = t127 then (some false) else (some false))) = some r := H
                have A48 := Aside0.mk A480
                clear A480
                replace H := Option.bind_eq_some_iff.mp H
                obtain ⟨t144, A490, H⟩ := H
                replace H : (if t144 = t127 then (some false) else (some false)) = some r := H
                have A49 := Aside0.mk A490
                clear A490
                by_cases c50 : t144 = t127
                · rw [if_pos c50] at H
                  have c50b0 : (t144 == t127) = true := beq_iff_eq.mpr c50
                  have c50b1 : (t144 != t127) = false := bne_eq_false_iff_eq.mpr c50
                  clear c50
                  exact absurd (hr_.out.symm.trans (Option.some.inj H).symm) Bool.noConfusion
                · rw [if_neg c50] at H
                  have c50b0 : (t144 == t127) = false := beq_eq_false_iff_ne.mpr c50
                  have c50b1 : (t144 != t127) = true := bne_iff_ne.mpr c50
                  exact absurd (hr_.out.symm.trans (Option.some.inj H).symm) Bool.noConfusion
          · rw [if_neg c26] at H
            have c26b0 : decide (t128 < t130) = false := decide_eq_false c26
            clear c26
            by_cases c51 : t128 > 0
            · rw [if_pos c51] at H
              have c51b0 : decide (0 < t128) = true := decide_eq_true c51
              clear c51
              by_cases c52 : t130 > (wrap64 (-t128))
              · rw [if_pos c52] at H
                have c52b0 : decide ((wrap64 (-t128)) < t130) = true := decide_eq_true c52
                clear c52
                replace H := Option.bind_eq_some_iff.mp H
                obtain ⟨t145, A530, H⟩ := H
                replace H : ((word_Binary.f 4 t145 t130).bind fun t146 => (if t146 = t127 then (if t130 < t128 then ((fullinglaw1_WordExamples.f k).bind fun t147 => (some t147)) else (some false)) else (some false))) = some r := H
                have A53 := Aside0.mk A530
                clear A530
                replace H := Option.bind_eq_some_iff.mp H
                obtain ⟨t146, A540, H⟩ := H
                replace H : (if t146 = t127 then (if t130 < t128 then ((fullinglaw1_WordExamples.f k).bind fun t147 => (some t147)) else (some false)) else (some false)) = some r := H
                have A54 := Aside0.mk A540
                clear A540
                by_cases c55 : t146 = t127
                · rw [if_pos c55] at H
                  have c55b0 : (t146 == t127) = true := beq_iff_eq.mpr c55
                  have c55b1 : (t146 != t127) = false := bne_eq_false_iff_eq.mpr c55
                  clear c55
                  by_cases c56 : t130 < t128
                  · rw [if_pos c56] at H
                    have c56b0 : decide (t130 < t128) = true := decide_eq_true c56
                    clear c56
                    replace H := Option.bind_eq_some_iff.mp H
                    obtain ⟨t147, A570, H⟩ := H
                    replace H : (some t147) = some r := H
                    have A57 := Aside0.mk A570
                    clear A570
                    obtain rfl := Option.some.inj H
                    go_enter Try.func4, Try.ntmps4
                    go_wp2_with (first | ((with_reducible refine gate_callee (f := 16) rfl ?_); refine goesL_ (some 17) rfl rfl Try.func16 (by kernel_rfl) rfl #[.int .i64 a0, .int .i64 a2] rfl (by (try simp only [List.map_toArray, List.map_cons, List.map_nil]); first | done | rfl | (simp only [List.length_drop, List.length_take]; rfl)) ?_; (with_reducible refine (fullingkeep_Word.calls a0 a2 t127 _ A5.out).mono ?_); rintro e w58 ⟨rfl, hb⟩; refine ⟨_, rfl, ?_⟩; have n0_ := Aside0.mk (below_step (by repeat (first | (with_reducible first | exact HB.out | apply below_alloc | apply pw_below_drewN | apply below_drew1) | exact HB.out)) hb); clear HB; have HB := n0_; clear n0_; (try clear hb); (try clear hb2); (try clear hk); (try clear hi)) | ((with_reducible refine gate_callee (f := 16) rfl ?_); refine goesL_ (some 20) rfl rfl Try.func16 (by kernel_rfl) rfl #[.int .i64 a1, .int .i64 a3] rfl (by (try simp only [List.map_toArray, List.map_cons, List.map_nil]); first | done | rfl | (simp only [List.length_drop, List.length_take]; rfl)) ?_; (with_reducible refine (fullingkeep_Word.calls a1 a3 t128 _ A6.out).mono ?_); rintro e w59 ⟨rfl, hb⟩; refine ⟨_, rfl, ?_⟩; have n0_ := Aside0.mk (below_step (by repeat (first | (with_reducible first | exact HB.out | apply below_alloc | apply pw_below_drewN | apply below_drew1) | exact HB.out)) hb); clear HB; have HB := n0_; clear n0_; (try clear hb); (try clear hb2); (try clear hk); (try clear hi)) | ((with_reducible refine gate_callee (f := 14) rfl ?_); refine goesL_ (some 23) rfl rfl Try.func14 (by kernel_rfl) rfl #[.int .i64 7, .int .i64 t127, .int .i64 t128] rfl (by (try simp only [List.map_toArray, List.map_cons, List.map_nil]); first | done | rfl | (simp only [List.length_drop, List.length_take]; rfl)) ?_; (with_reducible refine (word_Binary.calls 7 t127 t128 t129 _ A7.out).mono ?_); rintro e w' ⟨rfl, ⟨nd, rfl⟩⟩; refine ⟨_, rfl, ?_⟩) | ((with_reducible refine gate_callee (f := 14) rfl ?_); refine goesL_ (some 26) rfl rfl Try.func14 (by kernel_rfl) rfl #[.int .i64 8, .int .i64 t127, .int .i64 t128] rfl (by (try simp only [List.map_toArray, List.map_cons, List.map_nil]); first | done | rfl | (simp only [List.length_drop, List.length_take]; rfl)) ?_; (with_reducible refine (word_Binary.calls 8 t127 t128 t130 _ A8.out).mono ?_); rintro e w' ⟨rfl, ⟨nd, rfl⟩⟩; refine ⟨_, rfl, ?_⟩) | ((with_reducible refine gate_callee (f := 14) rfl ?_); refine goesL_ (some 81) rfl rfl Try.func14 (by kernel_rfl) rfl #[.int .i64 6, .int .i64 t129, .int .i64 t128] rfl (by (try simp only [List.map_toArray, List.map_cons, List.map_nil]); first | done | rfl | (simp only [List.length_drop, List.length_take]; rfl)) ?_; (with_reducible refine (word_Binary.calls 6 t129 t128 t145 _ A53.out).mono ?_); rintro e w' ⟨rfl, ⟨nd, rfl⟩⟩; refine ⟨_, rfl, ?_⟩) | ((with_reducible refine gate_callee (f := 14) rfl ?_); refine goesL_ (some 83) rfl rfl Try.func14 (by kernel_rfl) rfl #[.int .i64 4, .int .i64 t145, .int .i64 t130] rfl (by (try simp only [List.map_toArray, List.map_cons, List.map_nil]); first | done | rfl | (simp only [List.length_drop, List.length_take]; rfl)) ?_; (with_reducible refine (word_Binary.calls 4 t145 t130 t146 _ A54.out).mono ?_); rintro e w' ⟨rfl, ⟨nd, rfl⟩⟩; refine ⟨_, rfl, ?_⟩) | (go_at_call 3; (with_reducible refine (fullinglaw1_WordExamples.calls k  t147 _ A57.out).mono ?_); rintro e w60 ⟨rfl, hb⟩; have n0_ := Aside0.mk (below_step (by repeat (first | (with_reducible first | exact HB.out | apply below_alloc | apply pw_below_drewN | apply below_drew1) | exact HB.out)) hb); clear HB; have HB := n0_; clear n0_; (try clear hb); (try clear hb2); (try clear hk); (try clear hi)))
                    go_ret
                    exact ⟨by first | rfl | (simp [errW_none, errW_some] <;> rfl) | (simp [*, errW_none, errW_some] <;> rfl), by repeat (first | (with_reducible first | exact HB.out | apply below_alloc | apply pw_below_drewN | apply below_drew1) | exact HB.out)⟩
                  · rw [if_neg c56] at H
                    have c56b0 : decide (t130 < t128) = false := decide_eq_false c56
                    clear c56
                    exact absurd (hr_.out.symm.trans (Option.some.inj H).symm) Bool.noConfusion
                · rw [if_neg c55] at H
                  have c55b0 : (t146 == t127) = false := beq_eq_false_iff_ne.mpr c55
                  have c55b1 : (t146 != t127) = true := bne_iff_ne.mpr c55
                  exact absurd (hr_.out.symm.trans (Option.some.inj H).symm) Bool.noConfusion
              · rw [if_neg c52] at H
                have c52b0 : decide ((wrap64 (-t128)) < t130) = false := decide_eq_false c52
                clear c52
                replace H := Option.bind_eq_some_iff.mp H
                obtain ⟨t148, A610, H⟩ := H
                replace H : ((word_Binary.f 4 t148 t130).bind fun t149 => (if t149 = t127 then (some false) else (some false))) = some r := H
                have A61 := Aside0.mk A610
                clear A610
                replace H := Option.bind_eq_some_iff.mp H
                obtain ⟨t149, A620, H⟩ := H
                replace H : (if t149 = t127 then (some false) else (some false)) = some r := H
                have A62 := Aside0.mk A620
                clear A620
                by_cases c63 : t149 = t127
                · rw [if_pos c63] at H
                  have c63b0 : (t149 == t127) = true := beq_iff_eq.mpr c63
                  have c63b1 : (t149 != t127) = false := bne_eq_false_iff_eq.mpr c63
                  clear c63
                  exact absurd (hr_.out.symm.trans (Option.some.inj H).symm) Bool.noConfusion
                · rw [if_neg c63] at H
                  have c63b0 : (t149 == t127) = false := beq_eq_false_iff_ne.mpr c63
                  have c63b1 : (t149 != t127) = true := bne_iff_ne.mpr c63
                  exact absurd (hr_.out.symm.trans (Option.some.inj H).symm) Bool.noConfusion
            · rw [if_neg c51] at H
              have c51b0 : decide (0 < t128) = false := decide_eq_false c51
              clear c51
              replace H := Option.bind_eq_some_iff.mp H
              obtain ⟨t150, A640, H⟩ := H
              replace H : ((word_Binary.f 4 t150 t130).bind fun t151 => (if t151 = t127 then (some false) else (some false))) = some r := H
              have A64 := Aside0.mk A640
              clear A640
              replace H := Option.bind_eq_some_iff.mp H
              obtain ⟨t151, A650, H⟩ := H
              replace H : (if t151 = t127 then (some false) else (some false)) = some r := H
              have A65 := Aside0.mk A650
              clear A650
              by_cases c66 : t151 = t127
              · rw [if_pos c66] at H
                have c66b0 : (t151 == t127) = true := beq_iff_eq.mpr c66
                have c66b1 : (t151 != t127) = false := bne_eq_false_iff_eq.mpr c66
                clear c66
                exact absurd (hr_.out.symm.trans (Option.some.inj H).symm) Bool.noConfusion
              · rw [if_neg c66] at H
                have c66b0 : (t151 == t127) = false := beq_eq_false_iff_ne.mpr c66
                have c66b1 : (t151 != t127) = true := bne_iff_ne.mpr c66
                exact absurd (hr_.out.symm.trans (Option.some.inj H).symm) Bool.noConfusion
        · rw [if_neg c25] at H
          have c25b0 : decide (t128 < 0) = false := decide_eq_false c25
          clear c25
          by_cases c67 : t128 > 0
          · rw [if_pos c67] at H
            have c67b0 : decide (0 < t128) = true := decide_eq_true c67
            clear c67
            by_cases c68 : t130 > (wrap64 (-t128))
            · rw [if_pos c68] at H
              have c68b0 : decide ((wrap64 (-t128)) < t130) = true := decide_eq_true c68
              clear c68
              replace H := Option.bind_eq_some_iff.mp H
              obtain ⟨t152, A690, H⟩ := H
              replace H : ((word_Binary.f 4 t152 t130).bind fun t153 => (if t153 = t127 then (if t130 < t128 then ((fullinglaw1_WordExamples.f k).bind fun t154 => (some t154)) else (some false)) else (some false))) = some r := H
              have A69 := Aside0.mk A690
              clear A690
              replace H := Option.bind_eq_some_iff.mp H
              obtain ⟨t153, A700, H⟩ := H
              replace H : (if t153 = t127 then (if t130 < t128 then ((fullinglaw1_WordExamples.f k).bind fun t154 => (some t154)) else (some false)) else (some false)) = some r := H
              have A70 := Aside0.mk A700
              clear A700
              by_cases c71 : t153 = t127
              · rw [if_pos c71] at H
                have c71b0 : (t153 == t127) = true := beq_iff_eq.mpr c71
                have c71b1 : (t153 != t127) = false := bne_eq_false_iff_eq.mpr c71
                clear c71
                by_cases c72 : t130 < t128
                · rw [if_pos c72] at H
                  have c72b0 : decide (t130 < t128) = true := decide_eq_true c72
                  clear c72
                  replace H := Option.bind_eq_some_iff.mp H
                  obtain ⟨t154, A730, H⟩ := H
                  replace H : (some t154) = some r := H
                  have A73 := Aside0.mk A730
                  clear A730
                  obtain rfl := Option.some.inj H
                  go_enter Try.func4, Try.ntmps4
                  go_wp2_with (first | ((with_reducible refine gate_callee (f := 16) rfl ?_); refine goesL_ (some 17) rfl rfl Try.func16 (by kernel_rfl) rfl #[.int .i64 a0, .int .i64 a2] rfl (by (try simp only [List.map_toArray, List.map_cons, List.map_nil]); first | done | rfl | (simp only [List.length_drop, List.length_take]; rfl)) ?_; (with_reducible refine (fullingkeep_Word.calls a0 a2 t127 _ A5.out).mono ?_); rintro e w74 ⟨rfl, hb⟩; refine ⟨_, rfl, ?_⟩; have n0_ := Aside0.mk (below_step (by repeat (first | (with_reducible first | exact HB.out | apply below_alloc | apply pw_below_drewN | apply below_drew1) | exact HB.out)) hb); clear HB; have HB := n0_; clear n0_; (try clear hb); (try clear hb2); (try clear hk); (try clear hi)) | ((with_reducible refine gate_callee (f := 16) rfl ?_); refine goesL_ (some 20) rfl rfl Try.func16 (by kernel_rfl) rfl #[.int .i64 a1, .int .i64 a3] rfl (by (try simp only [List.map_toArray, List.map_cons, List.map_nil]); first | done | rfl | (simp only [List.length_drop, List.length_take]; rfl)) ?_; (with_reducible refine (fullingkeep_Word.calls a1 a3 t128 _ A6.out).mono ?_); rintro e w75 ⟨rfl, hb⟩; refine ⟨_, rfl, ?_⟩; have n0_ := Aside0.mk (below_step (by repeat (first | (with_reducible first | exact HB.out | apply below_alloc | apply pw_below_drewN | apply below_drew1) | exact HB.out)) hb); clear HB; have HB := n0_; clear n0_; (try clear hb); (try clear hb2); (try clear hk); (try clear hi)) | ((with_reducible refine gate_callee (f := 14) rfl ?_); refine goesL_ (some 23) rfl rfl Try.func14 (by kernel_rfl) rfl #[.int .i64 7, .int .i64 t127, .int .i64 t128] rfl (by (try simp only [List.map_toArray, List.map_cons, List.map_nil]); first | done | rfl | (simp only [List.length_drop, List.length_take]; rfl)) ?_; (with_reducible refine (word_Binary.calls 7 t127 t128 t129 _ A7.out).mono ?_); rintro e w' ⟨rfl, ⟨nd, rfl⟩⟩; refine ⟨_, rfl, ?_⟩) | ((with_reducible refine gate_callee (f := 14) rfl ?_); refine goesL_ (some 26) rfl rfl Try.func14 (by kernel_rfl) rfl #[.int .i64 8, .int .i64 t127, .int .i64 t128] rfl (by (try simp only [List.map_toArray, List.map_cons, List.map_nil]); first | done | rfl | (simp only [List.length_drop, List.length_take]; rfl)) ?_; (with_reducible refine (word_Binary.calls 8 t127 t128 t130 _ A8.out).mono ?_); rintro e w' ⟨rfl, ⟨nd, rfl⟩⟩; refine ⟨_, rfl, ?_⟩) | ((with_reducible refine gate_callee (f := 14) rfl ?_); refine goesL_ (some 81) rfl rfl Try.func14 (by kernel_rfl) rfl #[.int .i64 6, .int .i64 t129, .int .i64 t128] rfl (by (try simp only [List.map_toArray, List.map_cons, List.map_nil]); first | done | rfl | (simp only [List.length_drop, List.length_take]; rfl)) ?_; (with_reducible refine (word_Binary.calls 6 t129 t128 t152 _ A69.out).mono ?_); rintro e w' ⟨rfl, ⟨nd, rfl⟩⟩; refine ⟨_, rfl, ?_⟩) | ((with_reducible refine gate_callee (f := 14) rfl ?_); refine goesL_ (some 83) rfl rfl Try.func14 (by kernel_rfl) rfl #[.int .i64 4, .int .i64 t152, .int .i64 t130] rfl (by (try simp only [List.map_toArray, List.map_cons, List.map_nil]); first | done | rfl | (simp only [List.length_drop, List.length_take]; rfl)) ?_; (with_reducible refine (word_Binary.calls 4 t152 t130 t153 _ A70.out).mono ?_); rintro e w' ⟨rfl, ⟨nd, rfl⟩⟩; refine ⟨_, rfl, ?_⟩) | (go_at_call 3; (with_reducible refine (fullinglaw1_WordExamples.calls k  t154 _ A73.out).mono ?_); rintro e w76 ⟨rfl, hb⟩; have n0_ := Aside0.mk (below_step (by repeat (first | (with_reducible first | exact HB.out | apply below_alloc | apply pw_below_drewN | apply below_drew1) | exact HB.out)) hb); clear HB; have HB := n0_; clear n0_; (try clear hb); (try clear hb2); (try clear hk); (try clear hi)))
                  go_ret
                  exact ⟨by first | rfl | (simp [errW_none, errW_some] <;> rfl) | (simp [*, errW_none, errW_some] <;> rfl), by repeat (first | (with_reducible first | exact HB.out | apply below_alloc | apply pw_below_drewN | apply below_drew1) | exact HB.out)⟩
                · rw [if_neg c72] at H
                  have c72b0 : decide (t130 < t128) = false := decide_eq_false c72
                  clear c72
                  exact absurd (hr_.out.symm.trans (Option.some.inj H).symm) Bool.noConfusion
              · rw [if_neg c71] at H
                have c71b0 : (t153 == t127) = false := beq_eq_false_iff_ne.mpr c71
                have c71b1 : (t153 != t127) = true := bne_iff_ne.mpr c71
                exact absurd (hr_.out.symm.trans (Option.some.inj H).symm) Bool.noConfusion
            · rw [if_neg c68] at H
              have c68b0 : decide ((wrap64 (-t128)) < t130) = false := decide_eq_false c68
              clear c68
              replace H := Option.bind_eq_some_iff.mp H
              obtain ⟨t155, A770, H⟩ := H
              replace H : ((word_Binary.f 4 t155 t130).bind fun t156 => (if t156 = t127 then (some false) else (some false))) = some r := H
              have A77 := Aside0.mk A770
              clear A770
              replace H := Option.bind_eq_some_iff.mp H
              obtain ⟨t156, A780, H⟩ := H
              replace H : (if t156 = t127 then (some false) else (some false)) = some r := H
              have A78 := Aside0.mk A780
              clear A780
              by_cases c79 : t156 = t127
              · rw [if_pos c79] at H
                have c79b0 : (t156 == t127) = true := beq_iff_eq.mpr c79
                have c79b1 : (t156 != t127) = false := bne_eq_false_iff_eq.mpr c79
                clear c79
                exact absurd (hr_.out.symm.trans (Option.some.inj H).symm) Bool.noConfusion
              · rw [if_neg c79] at H
                have c79b0 : (t156 == t127) = false := beq_eq_false_iff_ne.mpr c79
                have c79b1 : (t156 != t127) = true := bne_iff_ne.mpr c79
                exact absurd (hr_.out.symm.trans (Option.some.inj H).symm) Bool.noConfusion
          · rw [if_neg c67] at H
            have c67b0 : decide (0 < t128) = false := decide_eq_false c67
            clear c67
            replace H := Option.bind_eq_some_iff.mp H
            obtain ⟨t157, A800, H⟩ := H
            replace H : ((word_Binary.f 4 t157 t130).bind fun t158 => (if t158 = t127 then (some false) else (some false))) = some r := H
            have A80 := Aside0.mk A800
            clear A800
            replace H := Option.bind_eq_some_iff.mp H
            obtain ⟨t158, A810, H⟩ := H
            replace H : (if t158 = t127 then (some false) else (some false)) = some r := H
            have A81 := Aside0.mk A810
            clear A810
            by_cases c82 : t158 = t127
            · rw [if_pos c82] at H
              have c82b0 : (t158 == t127) = true := beq_iff_eq.mpr c82
              have c82b1 : (t158 != t127) = false := bne_eq_false_iff_eq.mpr c82
              clear c82
              exact absurd (hr_.out.symm.trans (Option.some.inj H).symm) Bool.noConfusion
            · rw [if_neg c82] at H
              have c82b0 : (t158 == t127) = false := beq_eq_false_iff_ne.mpr c82
              have c82b1 : (t158 != t127) = true := bne_iff_ne.mpr c82
              exact absurd (hr_.out.symm.trans (Option.some.inj H).symm) Bool.noConfusion
    · rw [if_neg c16] at H
      have c16b0 : (t130 == 0) = false := beq_eq_false_iff_ne.mpr c16
      have c16b1 : (t130 != 0) = true := bne_iff_ne.mpr c16
      by_cases c83 : t128 = (-9223372036854775808)
      · rw [if_pos c83] at H
        have c83b0 : (t128 == (-9223372036854775808)) = true := beq_iff_eq.mpr c83
        have c83b1 : (t128 != (-9223372036854775808)) = false := bne_eq_false_iff_eq.mpr c83
        clear c83
        replace H := Option.bind_eq_some_iff.mp H
        obtain ⟨t159, A840, H⟩ := H
        replace H : ((word_Binary.f 4 t159 t130).bind fun t160 => (if t160 = t127 then (if ((decide (t130 < 0)) == (decide (t127 < 0))) = true then ((fullinglaw1_WordExamples.f k).bind fun t161 => (some t161)) else (some false)) else (some false))) = some r := H
        have A84 := Aside0.mk A840
        clear A840
        replace H := Option.bind_eq_some_iff.mp H
        obtain ⟨t160, A850, H⟩ := H
        replace H : (if t160 = t127 then (if ((decide (t130 < 0)) == (decide (t127 < 0))) = true then ((fullinglaw1_WordExamples.f k).bind fun t161 => (some t161)) else (some false)) else (some false)) = some r := H
        have A85 := Aside0.mk A850
        clear A850
        by_cases c86 : t160 = t127
        · rw [if_pos c86] at H
          have c86b0 : (t160 == t127) = true := beq_iff_eq.mpr c86
          have c86b1 : (t160 != t127) = false := bne_eq_false_iff_eq.mpr c86
          clear c86
          by_cases c87 : ((decide (t130 < 0)) == (decide (t127 < 0))) = true
          · rw [if_pos c87] at H
            have c87b0 : ((decide (t130 < 0)) == (decide (t127 < 0))) = true := c87
            (try (have c87b1 : decide ((decide (t130 < 0)) = (decide (t127 < 0))) = true := by simpa using c87))
            (try (have c87b2 : ((decide (t130 < 0)) == (decide (t127 < 0))) = true := by simpa using c87))
            clear c87
            replace H := Option.bind_eq_some_iff.mp H
            obtain ⟨t161, A880, H⟩ := H
            replace H : (some t161) = some r := H
            have A88 := Aside0.mk A880
            clear A880
            obtain rfl := Option.some.inj H
            go_enter Try.func4, Try.ntmps4
            go_wp2_with (first | ((with_reducible refine gate_callee (f := 16) rfl ?_); refine goesL_ (some 17) rfl rfl Try.func16 (by kernel_rfl) rfl #[.int .i64 a0, .int .i64 a2] rfl (by (try simp only [List.map_toArray, List.map_cons, List.map_nil]); first | done | rfl | (simp only [List.length_drop, List.length_take]; rfl)) ?_; (with_reducible refine (fullingkeep_Word.calls a0 a2 t127 _ A5.out).mono ?_); rintro e w89 ⟨rfl, hb⟩; refine ⟨_, rfl, ?_⟩; have n0_ := Aside0.mk (below_step (by repeat (first | (with_reducible first | exact HB.out | apply below_alloc | apply pw_below_drewN | apply below_drew1) | exact HB.out)) hb); clear HB; have HB := n0_; clear n0_; (try clear hb); (try clear hb2); (try clear hk); (try clear hi)) | ((with_reducible refine gate_callee (f := 16) rfl ?_); refine goesL_ (some 20) rfl rfl Try.func16 (by kernel_rfl) rfl #[.int .i64 a1, .int .i64 a3] rfl (by (try simp only [List.map_toArray, List.map_cons, List.map_nil]); first | done | rfl | (simp only [List.length_drop, List.length_take]; rfl)) ?_; (with_reducible refine (fullingkeep_Word.calls a1 a3 t128 _ A6.out).mono ?_); rintro e w90 ⟨rfl, hb⟩; refine ⟨_, rfl, ?_⟩; have n0_ := Aside0.mk (below_step (by repeat (first | (with_reducible first | exact HB.out | apply below_alloc | apply pw_below_drewN | apply below_drew1) | exact HB.out)) hb); clear HB; have HB := n0_; clear n0_; (try clear hb); (try clear hb2); (try clear hk); (try clear hi)) | ((with_reducible refine gate_callee (f := 14) rfl ?_); refine goesL_ (some 23) rfl rfl Try.func14 (by kernel_rfl) rfl #[.int .i64 7, .int .i64 t127, .int .i64 t128] rfl (by (try simp only [List.map_toArray, List.map_cons, List.map_nil]); first | done | rfl | (simp only [List.length_drop, List.length_take]; rfl)) ?_; (with_reducible refine (word_Binary.calls 7 t127 t128 t129 _ A7.out).mono ?_); rintro e w' ⟨rfl, ⟨nd, rfl⟩⟩; refine ⟨_, rfl, ?_⟩) | ((with_reducible refine gate_callee (f := 14) rfl ?_); refine goesL_ (some 26) rfl rfl Try.func14 (by kernel_rfl) rfl #[.int .i64 8, .int .i64 t127, .int .i64 t128] rfl (by (try simp only [List.map_toArray, List.map_cons, List.map_nil]); first | done | rfl | (simp only [List.length_drop, List.length_take]; rfl)) ?_; (with_reducible refine (word_Binary.calls 8 t127 t128 t130 _ A8.out).mono ?_); rintro e w' ⟨rfl, ⟨nd, rfl⟩⟩; refine ⟨_, rfl, ?_⟩) | ((with_reducible refine gate_callee (f := 14) rfl ?_); refine goesL_ (some 81) rfl rfl Try.func14 (by kernel_rfl) rfl #[.int .i64 6, .int .i64 t129, .int .i64 t128] rfl (by (try simp only [List.map_toArray, List.map_cons, List.map_nil]); first | done | rfl | (simp only [List.length_drop, List.length_take]; rfl)) ?_; (with_reducible refine (word_Binary.calls 6 t129 t128 t159 _ A84.out).mono ?_); rintro e w' ⟨rfl, ⟨nd, rfl⟩⟩; refine ⟨_, rfl, ?_⟩) | ((with_reducible refine gate_callee (f := 14) rfl ?_); refine goesL_ (some 83) rfl rfl Try.func14 (by kernel_rfl) rfl #[.int .i64 4, .int .i64 t159, .int .i64 t130] rfl (by (try simp only [List.map_toArray, List.map_cons, List.map_nil]); first | done | rfl | (simp only [List.length_drop, List.length_take]; rfl)) ?_; (with_reducible refine (word_Binary.calls 4 t159 t130 t160 _ A85.out).mono ?_); rintro e w' ⟨rfl, ⟨nd, rfl⟩⟩; refine ⟨_, rfl, ?_⟩) | (go_at_call 3; (with_reducible refine (fullinglaw1_WordExamples.calls k  t161 _ A88.out).mono ?_); rintro e w91 ⟨rfl, hb⟩; have n0_ := Aside0.mk (below_step (by repeat (first | (with_reducible first | exact HB.out | apply below_alloc | apply pw_below_drewN | apply below_drew1) | exact HB.out)) hb); clear HB; have HB := n0_; clear n0_; (try clear hb); (try clear hb2); (try clear hk); (try clear hi)))
            go_ret
            exact ⟨by first | rfl | (simp [errW_none, errW_some] <;> rfl) | (simp [*, errW_none, errW_some] <;> rfl), by repeat (first | (with_reducible first | exact HB.out | apply below_alloc | apply pw_below_drewN | apply below_drew1) | exact HB.out)⟩
          · rw [if_neg c87] at H
            have c87b0 : ((decide (t130 < 0)) == (decide (t127 < 0))) = false := by simpa using c87
            (try (have c87b1 : decide ((decide (t130 < 0)) = (decide (t127 < 0))) = false := by simpa using c87))
            (try (have c87b2 : ((decide (t130 < 0)) == (decide (t127 < 0))) = false := by simpa using c87))
            (try (have c87b3 : ¬ ((decide (t130 < 0)) = (decide (t127 < 0))) := by simpa using c87))
            clear c87
            exact absurd (hr_.out.symm.trans (Option.some.inj H).symm) Bool.noConfusion
        · rw [if_neg c86] at H
          have c86b0 : (t160 == t127) = false := beq_eq_false_iff_ne.mpr c86
          have c86b1 : (t160 != t127) = true := bne_iff_ne.mpr c86
          exact absurd (hr_.out.symm.trans (Option.some.inj H).symm) Bool.noConfusion
      · rw [if_neg c83] at H
        have c83b0 : (t128 == (-9223372036854775808)) = false := beq_eq_false_iff_ne.mpr c83
        have c83b1 : (t128 != (-9223372036854775808)) = true := bne_iff_ne.mpr c83
        by_cases c92 : t128 < 0
        · rw [if_pos c92] at H
          have c92b0 : decide (t128 < 0) = true := decide_eq_true c92
          clear c92
          by_cases c93 : t130 > t128
          · rw [if_pos c93] at H
            have c93b0 : decide (t128 < t130) = true := decide_eq_true c93
            clear c93
            by_cases c94 : t130 < (wrap64 (-t128))
            · rw [if_pos c94] at H
              have c94b0 : decide (t130 < (wrap64 (-t128))) = true := decide_eq_true c94
              clear c94
              replace H := Option.bind_eq_some_iff.mp H
              obtain ⟨t162, A950, H⟩ := H
              replace H : ((word_Binary.f 4 t162 t130).bind fun t163 => (if t163 = t127 then (if ((decide (t130 < 0)) == (decide (t127 < 0))) = true then ((fullinglaw1_WordExamples.f k).bind fun t164 => (some t164)) else (some false)) else (some false))) = some r := H
              have A95 := Aside0.mk A950
              clear A950
              replace H := Option.bind_eq_some_iff.mp H
              obtain ⟨t163, A960, H⟩ := H
              replace H : (if t163 = t127 then (if ((decide (t130 < 0)) == (decide (t127 < 0))) = true then ((fullinglaw1_WordExamples.f k).bind fun t164 => (some t164)) else (some false)) else (some false)) = some r := H
              have A96 := Aside0.mk A960
              clear A960
              by_cases c97 : t163 = t127
              · rw [if_pos c97] at H
                have c97b0 : (t163 == t127) = true := beq_iff_eq.mpr c97
                have c97b1 : (t163 != t127) = false := bne_eq_false_iff_eq.mpr c97
                clear c97
                by_cases c98 : ((decide (t130 < 0)) == (decide (t127 < 0))) = true
                · rw [if_pos c98] at H
                  have c98b0 : ((decide (t130 < 0)) == (decide (t127 < 0))) = true := c98
                  (try (have c98b1 : decide ((decide (t130 < 0)) = (decide (t127 < 0))) = true := by simpa using c98))
                  (try (have c98b2 : ((decide (t130 < 0)) == (decide (t127 < 0))) = true := by simpa using c98))
                  clear c98
                  replace H := Option.bind_eq_some_iff.mp H
                  obtain ⟨t164, A990, H⟩ := H
                  replace H : (some t164) = some r := H
                  have A99 := Aside0.mk A990
                  clear A990
                  obtain rfl := Option.some.inj H
                  go_enter Try.func4, Try.ntmps4
                  go_wp2_with (first | ((with_reducible refine gate_callee (f := 16) rfl ?_); refine goesL_ (some 17) rfl rfl Try.func16 (by kernel_rfl) rfl #[.int .i64 a0, .int .i64 a2] rfl (by (try simp only [List.map_toArray, List.map_cons, List.map_nil]); first | done | rfl | (simp only [List.length_drop, List.length_take]; rfl)) ?_; (with_reducible refine (fullingkeep_Word.calls a0 a2 t127 _ A5.out).mono ?_); rintro e w100 ⟨rfl, hb⟩; refine ⟨_, rfl, ?_⟩; have n0_ := Aside0.mk (below_step (by repeat (first | (with_reducible first | exact HB.out | apply below_alloc | apply pw_below_drewN | apply below_drew1) | exact HB.out)) hb); clear HB; have HB := n0_; clear n0_; (try clear hb); (try clear hb2); (try clear hk); (try clear hi)) | ((with_reducible refine gate_callee (f := 16) rfl ?_); refine goesL_ (some 20) rfl rfl Try.func16 (by kernel_rfl) rfl #[.int .i64 a1, .int .i64 a3] rfl (by (try simp only [List.map_toArray, List.map_cons, List.map_nil]); first | done | rfl | (simp only [List.length_drop, List.length_take]; rfl)) ?_; (with_reducible refine (fullingkeep_Word.calls a1 a3 t128 _ A6.out).mono ?_); rintro e w101 ⟨rfl, hb⟩; refine ⟨_, rfl, ?_⟩; have n0_ := Aside0.mk (below_step (by repeat (first | (with_reducible first | exact HB.out | apply below_alloc | apply pw_below_drewN | apply below_drew1) | exact HB.out)) hb); clear HB; have HB := n0_; clear n0_; (try clear hb); (try clear hb2); (try clear hk); (try clear hi)) | ((with_reducible refine gate_callee (f := 14) rfl ?_); refine goesL_ (some 23) rfl rfl Try.func14 (by kernel_rfl) rfl #[.int .i64 7, .int .i64 t127, .int .i64 t128] rfl (by (try simp only [List.map_toArray, List.map_cons, List.map_nil]); first | done | rfl | (simp only [List.length_drop, List.length_take]; rfl)) ?_; (with_reducible refine (word_Binary.calls 7 t127 t128 t129 _ A7.out).mono ?_); rintro e w' ⟨rfl, ⟨nd, rfl⟩⟩; refine ⟨_, rfl, ?_⟩) | ((with_reducible refine gate_callee (f := 14) rfl ?_); refine goesL_ (some 26) rfl rfl Try.func14 (by kernel_rfl) rfl #[.int .i64 8, .int .i64 t127, .int .i64 t128] rfl (by (try simp only [List.map_toArray, List.map_cons, List.map_nil]); first | done | rfl | (simp only [List.length_drop, List.length_take]; rfl)) ?_; (with_reducible refine (word_Binary.calls 8 t127 t128 t130 _ A8.out).mono ?_); rintro e w' ⟨rfl, ⟨nd, rfl⟩⟩; refine ⟨_, rfl, ?_⟩) | ((with_reducible refine gate_callee (f := 14) rfl ?_); refine goesL_ (some 81) rfl rfl Try.func14 (by kernel_rfl) rfl #[.int .i64 6, .int .i64 t129, .int .i64 t128] rfl (by (try simp only [List.map_toArray, List.map_cons, List.map_nil]); first | done | rfl | (simp only [List.length_drop, List.length_take]; rfl)) ?_; (with_reducible refine (word_Binary.calls 6 t129 t128 t162 _ A95.out).mono ?_); rintro e w' ⟨rfl, ⟨nd, rfl⟩⟩; refine ⟨_, rfl, ?_⟩) | ((with_reducible refine gate_callee (f := 14) rfl ?_); refine goesL_ (some 83) rfl rfl Try.func14 (by kernel_rfl) rfl #[.int .i64 4, .int .i64 t162, .int .i64 t130] rfl (by (try simp only [List.map_toArray, List.map_cons, List.map_nil]); first | done | rfl | (simp only [List.length_drop, List.length_take]; rfl)) ?_; (with_reducible refine (word_Binary.calls 4 t162 t130 t163 _ A96.out).mono ?_); rintro e w' ⟨rfl, ⟨nd, rfl⟩⟩; refine ⟨_, rfl, ?_⟩) | (go_at_call 3; (with_reducible refine (fullinglaw1_WordExamples.calls k  t164 _ A99.out).mono ?_); rintro e w102 ⟨rfl, hb⟩; have n0_ := Aside0.mk (below_step (by repeat (first | (with_reducible first | exact HB.out | apply below_alloc | apply pw_below_drewN | apply below_drew1) | exact HB.out)) hb); clear HB; have HB := n0_; clear n0_; (try clear hb); (try clear hb2); (try clear hk); (try clear hi)))
                  go_ret
                  exact ⟨by first | rfl | (simp [errW_none, errW_some] <;> rfl) | (simp [*, errW_none, errW_some] <;> rfl), by repeat (first | (with_reducible first | exact HB.out | apply below_alloc | apply pw_below_drewN | apply below_drew1) | exact HB.out)⟩
                · rw [if_neg c98] at H
                  have c98b0 : ((decide (t130 < 0)) == (decide (t127 < 0))) = false := by simpa using c98
                  (try (have c98b1 : decide ((decide (t130 < 0)) = (decide (t127 < 0))) = false := by simpa using c98))
                  (try (have c98b2 : ((decide (t130 < 0)) == (decide (t127 < 0))) = false := by simpa using c98))
                  (try (have c98b3 : ¬ ((decide (t130 < 0)) = (decide (t127 < 0))) := by simpa using c98))
                  clear c98
                  exact absurd (hr_.out.symm.trans (Option.some.inj H).symm) Bool.noConfusion
              · rw [if_neg c97] at H
                have c97b0 : (t163 == t127) = false := beq_eq_false_iff_ne.mpr c97
                have c97b1 : (t163 != t127) = true := bne_iff_ne.mpr c97
                exact absurd (hr_.out.symm.trans (Option.some.inj H).symm) Bool.noConfusion
            · rw [if_neg c94] at H
              have c94b0 : decide (t130 < (wrap64 (-t128))) = false := decide_eq_false c94
              clear c94
              by_cases c103 : t128 > 0
              · rw [if_pos c103] at H
                have c103b0 : decide (0 < t128) = true := decide_eq_true c103
                clear c103
                by_cases c104 : t130 > (wrap64 (-t128))
                · rw [if_pos c104] at H
                  have c104b0 : decide ((wrap64 (-t128)) < t130) = true := decide_eq_true c104
                  clear c104
                  replace H := Option.bind_eq_some_iff.mp H
                  obtain ⟨t165, A1050, H⟩ := H
                  replace H : ((word_Binary.f 4 t165 t130).bind fun t166 => (if t166 = t127 then (if ((decide (t130 < 0)) == (decide (t127 < 0))) = true then (if t130 < t128 then ((fullinglaw1_WordExamples.f k).bind fun t167 => (some t167)) else (some false)) else (some false)) else (some false))) = some r := H
                  have A105 := Aside0.mk A1050
                  clear A1050
                  replace H := Option.bind_eq_some_iff.mp H
                  obtain ⟨t166, A1060, H⟩ := H
                  replace H : (if t166 = t127 then (if ((decide (t130 < 0)) == (decide (t127 < 0))) = true then (if t130 < t128 then ((fullinglaw1_WordExamples.f k).bind fun t167 => (some t167)) else (some false)) else (some false)) else (some false)) = some r := H
                  have A106 := Aside0.mk A1060
                  clear A1060
                  by_cases c107 : t166 = t127
                  · rw [if_pos c107] at H
                    have c107b0 : (t166 == t127) = true := beq_iff_eq.mpr c107
                    have c107b1 : (t166 != t127) = false := bne_eq_false_iff_eq.mpr c107
                    clear c107
                    by_cases c108 : ((decide (t130 < 0)) == (decide (t127 < 0))) = true
                    · rw [if_pos c108] at H
                      have c108b0 : ((decide (t130 < 0)) == (decide (t127 < 0))) = true := c108
                      (try (have c108b1 : decide ((decide (t130 < 0)) = (decide (t127 < 0))) = true := by simpa using c108))
                      (try (have c108b2 : ((decide (t130 < 0)) == (decide (t127 < 0))) = true := by simpa using c108))
                      clear c108
                      by_cases c109 : t130 < t128
                      · rw [if_pos c109] at H
                        have c109b0 : decide (t130 < t128) = true := decide_eq_true c109
                        clear c109
                        replace H := Option.bind_eq_some_iff.mp H
                        obtain ⟨t167, A1100, H⟩ := H
                        replace H : (some t167) = some r := H
                        have A110 := Aside0.mk A1100
                        clear A1100
                        obtain rfl := Option.some.inj H
                        go_enter Try.func4, Try.ntmps4
                        go_wp2_with (first | ((with_reducible refine gate_callee (f := 16) rfl ?_); refine goesL_ (some 17) rfl rfl Try.func16 (by kernel_rfl) rfl #[.int .i64 a0, .int .i64 a2] rfl (by (try simp only [List.map_toArray, List.map_cons, List.map_nil]); first | done | rfl | (simp only [List.length_drop, List.length_take]; rfl)) ?_; (with_reducible refine (fullingkeep_Word.calls a0 a2 t127 _ A5.out).mono ?_); rintro e w111 ⟨rfl, hb⟩; refine ⟨_, rfl, ?_⟩; have n0_ := Aside0.mk (below_step (by repeat (first | (with_reducible first | exact HB.out | apply below_alloc | apply pw_below_drewN | apply below_drew1) | exact HB.out)) hb); clear HB; have HB := n0_; clear n0_; (try clear hb); (try clear hb2); (try clear hk); (try clear hi)) | ((with_reducible refine gate_callee (f := 16) rfl ?_); refine goesL_ (some 20) rfl rfl Try.func16 (by kernel_rfl) rfl #[.int .i64 a1, .int .i64 a3] rfl (by (try simp only [List.map_toArray, List.map_cons, List.map_nil]); first | done | rfl | (simp only [List.length_drop, List.length_take]; rfl)) ?_; (with_reducible refine (fullingkeep_Word.calls a1 a3 t128 _ A6.out).mono ?_); rintro e w112 ⟨rfl, hb⟩; refine ⟨_, rfl, ?_⟩; have n0_ := Aside0.mk (below_step (by repeat (first | (with_reducible first | exact HB.out | apply below_alloc | apply pw_below_drewN | apply below_drew1) | exact HB.out)) hb); clear HB; have HB := n0_; clear n0_; (try clear hb); (try clear hb2); (try clear hk); (try clear hi)) | ((with_reducible refine gate_callee (f := 14) rfl ?_); refine goesL_ (some 23) rfl rfl Try.func14 (by kernel_rfl) rfl #[.int .i64 7, .int .i64 t127, .int .i64 t128] rfl (by (try simp only [List.map_toArray, List.map_cons, List.map_nil]); first | done | rfl | (simp only [List.length_drop, List.length_take]; rfl)) ?_; (with_reducible refine (word_Binary.calls 7 t127 t128 t129 _ A7.out).mono ?_); rintro e w' ⟨rfl, ⟨nd, rfl⟩⟩; refine ⟨_, rfl, ?_⟩) | ((with_reducible refine gate_callee (f := 14) rfl ?_); refine goesL_ (some 26) rfl rfl Try.func14 (by kernel_rfl) rfl #[.int .i64 8, .int .i64 t127, .int .i64 t128] rfl (by (try simp only [List.map_toArray, List.map_cons, List.map_nil]); first | done | rfl | (simp only [List.length_drop, List.length_take]; rfl)) ?_; (with_reducible refine (word_Binary.calls 8 t127 t128 t130 _ A8.out).mono ?_); rintro e w' ⟨rfl, ⟨nd, rfl⟩⟩; refine ⟨_, rfl, ?_⟩) | ((with_reducible refine gate_callee (f := 14) rfl ?_); refine goesL_ (some 81) rfl rfl Try.func14 (by kernel_rfl) rfl #[.int .i64 6, .int .i64 t129, .int .i64 t128] rfl (by (try simp only [List.map_toArray, List.map_cons, List.map_nil]); first | done | rfl | (simp only [List.length_drop, List.length_take]; rfl)) ?_; (with_reducible refine (word_Binary.calls 6 t129 t128 t165 _ A105.out).mono ?_); rintro e w' ⟨rfl, ⟨nd, rfl⟩⟩; refine ⟨_, rfl, ?_⟩) | ((with_reducible refine gate_callee (f := 14) rfl ?_); refine goesL_ (some 83) rfl rfl Try.func14 (by kernel_rfl) rfl #[.int .i64 4, .int .i64 t165, .int .i64 t130] rfl (by (try simp only [List.map_toArray, List.map_cons, List.map_nil]); first | done | rfl | (simp only [List.length_drop, List.length_take]; rfl)) ?_; (with_reducible refine (word_Binary.calls 4 t165 t130 t166 _ A106.out).mono ?_); rintro e w' ⟨rfl, ⟨nd, rfl⟩⟩; refine ⟨_, rfl, ?_⟩) | (go_at_call 3; (with_reducible refine (fullinglaw1_WordExamples.calls k  t167 _ A110.out).mono ?_); rintro e w113 ⟨rfl, hb⟩; have n0_ := Aside0.mk (below_step (by repeat (first | (with_reducible first | exact HB.out | apply below_alloc | apply pw_below_drewN | apply below_drew1) | exact HB.out)) hb); clear HB; have HB := n0_; clear n0_; (try clear hb); (try clear hb2); (try clear hk); (try clear hi)))
                        go_ret
                        exact ⟨by first | rfl | (simp [errW_none, errW_some] <;> rfl) | (simp [*, errW_none, errW_some] <;> rfl), by repeat (first | (with_reducible first | exact HB.out | apply below_alloc | apply pw_below_drewN | apply below_drew1) | exact HB.out)⟩
                      · rw [if_neg c109] at H
                        have c109b0 : decide (t130 < t128) = false := decide_eq_false c109
                        clear c109
                        exact absurd (hr_.out.symm.trans (Option.some.inj H).symm) Bool.noConfusion
                    · rw [if_neg c108] at H
                      have c108b0 : ((decide (t130 < 0)) == (decide (t127 < 0))) = false := by simpa using c108
                      (try (have c108b1 : decide ((decide (t130 < 0)) = (decide (t127 < 0))) = false := by simpa using c108))
                      (try (have c108b2 : ((decide (t130 < 0)) == (decide (t127 < 0))) = false := by simpa using c108))
                      (try (have c108b3 : ¬ ((decide (t130 < 0)) = (decide (t127 < 0))) := by simpa using c108))
                      clear c108
                      exact absurd (hr_.out.symm.trans (Option.some.inj H).symm) Bool.noConfusion
                  · rw [if_neg c107] at H
                    have c107b0 : (t166 == t127) = false := beq_eq_false_iff_ne.mpr c107
                    have c107b1 : (t166 != t127) = true := bne_iff_ne.mpr c107
                    exact absurd (hr_.out.symm.trans (Option.some.inj H).symm) Bool.noConfusion
                · rw [if_neg c104] at H
                  have c104b0 : decide ((wrap64 (-t128)) < t130) = false := decide_eq_false c104
                  clear c104
                  replace H := Option.bind_eq_some_iff.mp H
                  obtain ⟨t168, A1140, H⟩ := H
                  replace H : ((word_Binary.f 4 t168 t130).bind fun t169 => (if t169 = t127 then (if ((decide (t130 < 0)) == (decide (t127 < 0))) = true then (some false) else (some false)) else (some false))) = some r := H
                  have A114 := Aside0.mk A1140
                  clear A1140
                  replace H := Option.bind_eq_some_iff.mp H
                  obtain ⟨t169, A1150, H⟩ := H
                  replace H : (if t169 = t127 then (if ((decide (t130 < 0)) == (decide (t127 < 0))) = true then (some false) else (some false)) else (some false)) = some r := H
                  have A115 := Aside0.mk A1150
                  clear A1150
                  by_cases c116 : t169 = t127
                  · rw [if_pos c116] at H
                    have c116b0 : (t169 == t127) = true := beq_iff_eq.mpr c116
                    have c116b1 : (t169 != t127) = false := bne_eq_false_iff_eq.mpr c116
                    clear c116
                    by_cases c117 : ((decide (t130 < 0)) == (decide (t127 < 0))) = true
                    · rw [if_pos c117] at H
                      have c117b0 : ((decide (t130 < 0)) == (decide (t127 < 0))) = true := c117
                      (try (have c117b1 : decide ((decide (t130 < 0)) = (decide (t127 < 0))) = true := by simpa using c117))
                      (try (have c117b2 : ((decide (t130 < 0)) == (decide (t127 < 0))) = true := by simpa using c117))
                      clear c117
                      exact absurd (hr_.out.symm.trans (Option.some.inj H).symm) Bool.noConfusion
                    · rw [if_neg c117] at H
                      have c117b0 : ((decide (t130 < 0)) == (decide (t127 < 0))) = false := by simpa using c117
                      (try (have c117b1 : decide ((decide (t130 < 0)) = (decide (t127 < 0))) = false := by simpa using c117))
                      (try (have c117b2 : ((decide (t130 < 0)) == (decide (t127 < 0))) = false := by simpa using c117))
                      (try (have c117b3 : ¬ ((decide (t130 < 0)) = (decide (t127 < 0))) := by simpa using c117))
                      clear c117
                      exact absurd (hr_.out.symm.trans (Option.some.inj H).symm) Bool.noConfusion
                  · rw [if_neg c116] at H
                    have c116b0 : (t169 == t127) = false := beq_eq_false_iff_ne.mpr c116
                    have c116b1 : (t169 != t127) = true := bne_iff_ne.mpr c116
                    exact absurd (hr_.out.symm.trans (Option.some.inj H).symm) Bool.noConfusion
              · rw [if_neg c103] at H
                have c103b0 : decide (0 < t128) = false := decide_eq_false c103
                clear c103
                replace H := Option.bind_eq_some_iff.mp H
                obtain ⟨t170, A1180, H⟩ := H
                replace H : ((word_Binary.f 4 t170 t130).bind fun t171 => (if t171 = t127 then (if ((decide (t130 < 0)) == (decide (t127 < 0))) = true then (some false) else (some false)) else (some false))) = some r := H
                have A118 := Aside0.mk A1180
                clear A1180
                replace H := Option.bind_eq_some_iff.mp H
                obtain ⟨t171, A1190, H⟩ := H
                replace H : (if t171 = t127 then (if ((decide (t130 < 0)) == (decide (t127 < 0))) = true then (some false) else (some false)) else (some false)) = some r := H
                have A119 := Aside0.mk A1190
                clear A1190
                by_cases c120 : t171 = t127
                · rw [if_pos c120] at H
                  have c120b0 : (t171 == t127) = true := beq_iff_eq.mpr c120
                  have c120b1 : (t171 != t127) = false := bne_eq_false_iff_eq.mpr c120
                  clear c120
                  by_cases c121 : ((decide (t130 < 0)) == (decide (t127 < 0))) = true
                  · rw [if_pos c121] at H
                    have c121b0 : ((decide (t130 < 0)) == (decide (t127 < 0))) = true := c121
                    (try (have c121b1 : decide ((decide (t130 < 0)) = (decide (t127 < 0))) = true := by simpa using c121))
                    (try (have c121b2 : ((decide (t130 < 0)) == (decide (t127 < 0))) = true := by simpa using c121))
                    clear c121
                    exact absurd (hr_.out.symm.trans (Option.some.inj H).symm) Bool.noConfusion
                  · rw [if_neg c121] at H
                    have c121b0 : ((decide (t130 < 0)) == (decide (t127 < 0))) = false := by simpa using c121
                    (try (have c121b1 : decide ((decide (t130 < 0)) = (decide (t127 < 0))) = false := by simpa using c121))
                    (try (have c121b2 : ((decide (t130 < 0)) == (decide (t127 < 0))) = false := by simpa using c121))
                    (try (have c121b3 : ¬ ((decide (t130 < 0)) = (decide (t127 < 0))) := by simpa using c121))
                    clear c121
                    exact absurd (hr_.out.symm.trans (Option.some.inj H).symm) Bool.noConfusion
                · rw [if_neg c120] at H
                  have c120b0 : (t171 == t127) = false := beq_eq_false_iff_ne.mpr c120
                  have c120b1 : (t171 != t127) = true := bne_iff_ne.mpr c120
                  exact absurd (hr_.out.symm.trans (Option.some.inj H).symm) Bool.noConfusion
          · rw [if_neg c93] at H
            have c93b0 : decide (t128 < t130) = false := decide_eq_false c93
            clear c93
            by_cases c122 : t128 > 0
            · rw [if_pos c122] at H
              have c122b0 : decide (0 < t128) = true := decide_eq_true c122
              clear c122
              by_cases c123 : t130 > (wrap64 (-t128))
              · rw [if_pos c123] at H
                have c123b0 : decide ((wrap64 (-t128)) < t130) = true := decide_eq_true c123
                clear c123
                replace H := Option.bind_eq_some_iff.mp H
                obtain ⟨t172, A1240, H⟩ := H
                replace H : ((word_Binary.f 4 t172 t130).bind fun t173 => (if t173 = t127 then (if ((decide (t130 < 0)) == (decide (t127 < 0))) = true then (if t130 < t128 then ((fullinglaw1_WordExamples.f k).bind fun t174 => (some t174)) else (some false)) else (some false)) else (some false))) = some r := H
                have A124 := Aside0.mk A1240
                clear A1240
                replace H := Option.bind_eq_some_iff.mp H
                obtain ⟨t173, A1250, H⟩ := H
                replace H : (if t173 = t127 then (if ((decide (t130 < 0)) == (decide (t127 < 0))) = true then (if t130 < t128 then ((fullinglaw1_WordExamples.f k).bind fun t174 => (some t174)) else (some false)) else (some false)) else (some false)) = some r := H
                have A125 := Aside0.mk A1250
                clear A1250
                by_cases c126 : t173 = t127
                · rw [if_pos c126] at H
                  have c126b0 : (t173 == t127) = true := beq_iff_eq.mpr c126
                  have c126b1 : (t173 != t127) = false := bne_eq_false_iff_eq.mpr c126
                  clear c126
                  by_cases c127 : ((decide (t130 < 0)) == (decide (t127 < 0))) = true
                  · rw [if_pos c127] at H
                    have c127b0 : ((decide (t130 < 0)) == (decide (t127 < 0))) = true := c127
                    (try (have c127b1 : decide ((decide (t130 < 0)) = (decide (t127 < 0))) = true := by simpa using c127))
                    (try (have c127b2 : ((decide (t130 < 0)) == (decide (t127 < 0))) = true := by simpa using c127))
                    clear c127
                    by_cases c128 : t130 < t128
                    · rw [if_pos c128] at H
                      have c128b0 : decide (t130 < t128) = true := decide_eq_true c128
                      clear c128
                      replace H := Option.bind_eq_some_iff.mp H
                      obtain ⟨t174, A1290, H⟩ := H
                      replace H : (some t174) = some r := H
                      have A129 := Aside0.mk A1290
                      clear A1290
                      obtain rfl := Option.some.inj H
                      go_enter Try.func4, Try.ntmps4
                      go_wp2_with (first | ((with_reducible refine gate_callee (f := 16) rfl ?_); refine goesL_ (some 17) rfl rfl Try.func16 (by kernel_rfl) rfl #[.int .i64 a0, .int .i64 a2] rfl (by (try simp only [List.map_toArray, List.map_cons, List.map_nil]); first | done | rfl | (simp only [List.length_drop, List.length_take]; rfl)) ?_; (with_reducible refine (fullingkeep_Word.calls a0 a2 t127 _ A5.out).mono ?_); rintro e w130 ⟨rfl, hb⟩; refine ⟨_, rfl, ?_⟩; have n0_ := Aside0.mk (below_step (by repeat (first | (with_reducible first | exact HB.out | apply below_alloc | apply pw_below_drewN | apply below_drew1) | exact HB.out)) hb); clear HB; have HB := n0_; clear n0_; (try clear hb); (try clear hb2); (try clear hk); (try clear hi)) | ((with_reducible refine gate_callee (f := 16) rfl ?_); refine goesL_ (some 20) rfl rfl Try.func16 (by kernel_rfl) rfl #[.int .i64 a1, .int .i64 a3] rfl (by (try simp only [List.map_toArray, List.map_cons, List.map_nil]); first | done | rfl | (simp only [List.length_drop, List.length_take]; rfl)) ?_; (with_reducible refine (fullingkeep_Word.calls a1 a3 t128 _ A6.out).mono ?_); rintro e w131 ⟨rfl, hb⟩; refine ⟨_, rfl, ?_⟩; have n0_ := Aside0.mk (below_step (by repeat (first | (with_reducible first | exact HB.out | apply below_alloc | apply pw_below_drewN | apply below_drew1) | exact HB.out)) hb); clear HB; have HB := n0_; clear n0_; (try clear hb); (try clear hb2); (try clear hk); (try clear hi)) | ((with_reducible refine gate_callee (f := 14) rfl ?_); refine goesL_ (some 23) rfl rfl Try.func14 (by kernel_rfl) rfl #[.int .i64 7, .int .i64 t127, .int .i64 t128] rfl (by (try simp only [List.map_toArray, List.map_cons, List.map_nil]); first | done | rfl | (simp only [List.length_drop, List.length_take]; rfl)) ?_; (with_reducible refine (word_Binary.calls 7 t127 t128 t129 _ A7.out).mono ?_); rintro e w' ⟨rfl, ⟨nd, rfl⟩⟩; refine ⟨_, rfl, ?_⟩) | ((with_reducible refine gate_callee (f := 14) rfl ?_); refine goesL_ (some 26) rfl rfl Try.func14 (by kernel_rfl) rfl #[.int .i64 8, .int .i64 t127, .int .i64 t128] rfl (by (try simp only [List.map_toArray, List.map_cons, List.map_nil]); first | done | rfl | (simp only [List.length_drop, List.length_take]; rfl)) ?_; (with_reducible refine (word_Binary.calls 8 t127 t128 t130 _ A8.out).mono ?_); rintro e w' ⟨rfl, ⟨nd, rfl⟩⟩; refine ⟨_, rfl, ?_⟩) | ((with_reducible refine gate_callee (f := 14) rfl ?_); refine goesL_ (some 81) rfl rfl Try.func14 (by kernel_rfl) rfl #[.int .i64 6, .int .i64 t129, .int .i64 t128] rfl (by (try simp only [List.map_toArray, List.map_cons, List.map_nil]); first | done | rfl | (simp only [List.length_drop, List.length_take]; rfl)) ?_; (with_reducible refine (word_Binary.calls 6 t129 t128 t172 _ A124.out).mono ?_); rintro e w' ⟨rfl, ⟨nd, rfl⟩⟩; refine ⟨_, rfl, ?_⟩) | ((with_reducible refine gate_callee (f := 14) rfl ?_); refine goesL_ (some 83) rfl rfl Try.func14 (by kernel_rfl) rfl #[.int .i64 4, .int .i64 t172, .int .i64 t130] rfl (by (try simp only [List.map_toArray, List.map_cons, List.map_nil]); first | done | rfl | (simp only [List.length_drop, List.length_take]; rfl)) ?_; (with_reducible refine (word_Binary.calls 4 t172 t130 t173 _ A125.out).mono ?_); rintro e w' ⟨rfl, ⟨nd, rfl⟩⟩; refine ⟨_, rfl, ?_⟩) | (go_at_call 3; (with_reducible refine (fullinglaw1_WordExamples.calls k  t174 _ A129.out).mono ?_); rintro e w132 ⟨rfl, hb⟩; have n0_ := Aside0.mk (below_step (by repeat (first | (with_reducible first | exact HB.out | apply below_alloc | apply pw_below_drewN | apply below_drew1) | exact HB.out)) hb); clear HB; have HB := n0_; clear n0_; (try clear hb); (try clear hb2); (try clear hk); (try clear hi)))
                      go_ret
                      exact ⟨by first | rfl | (simp [errW_none, errW_some] <;> rfl) | (simp [*, errW_none, errW_some] <;> rfl), by repeat (first | (with_reducible first | exact HB.out | apply below_alloc | apply pw_below_drewN | apply below_drew1) | exact HB.out)⟩
                    · rw [if_neg c128] at H
                      have c128b0 : decide (t130 < t128) = false := decide_eq_false c128
                      clear c128
                      exact absurd (hr_.out.symm.trans (Option.some.inj H).symm) Bool.noConfusion
                  · rw [if_neg c127] at H
                    have c127b0 : ((decide (t130 < 0)) == (decide (t127 < 0))) = false := by simpa using c127
                    (try (have c127b1 : decide ((decide (t130 < 0)) = (decide (t127 < 0))) = false := by simpa using c127))
                    (try (have c127b2 : ((decide (t130 < 0)) == (decide (t127 < 0))) = false := by simpa using c127))
                    (try (have c127b3 : ¬ ((decide (t130 < 0)) = (decide (t127 < 0))) := by simpa using c127))
                    clear c127
                    exact absurd (hr_.out.symm.trans (Option.some.inj H).symm) Bool.noConfusion
                · rw [if_neg c126] at H
                  have c126b0 : (t173 == t127) = false := beq_eq_false_iff_ne.mpr c126
                  have c126b1 : (t173 != t127) = true := bne_iff_ne.mpr c126
                  exact absurd (hr_.out.symm.trans (Option.some.inj H).symm) Bool.noConfusion
              · rw [if_neg c123] at H
                have c123b0 : decide ((wrap64 (-t128)) < t130) = false := decide_eq_false c123
                clear c123
                replace H := Option.bind_eq_some_iff.mp H
                obtain ⟨t175, A1330, H⟩ := H
                replace H : ((word_Binary.f 4 t175 t130).bind fun t176 => (if t176 = t127 then (if ((decide (t130 < 0)) == (decide (t127 < 0))) = true then (some false) else (some false)) else (some false))) = some r := H
                have A133 := Aside0.mk A1330
                clear A1330
                replace H := Option.bind_eq_some_iff.mp H
                obtain ⟨t176, A1340, H⟩ := H
                replace H : (if t176 = t127 then (if ((decide (t130 < 0)) == (decide (t127 < 0))) = true then (some false) else (some false)) else (some false)) = some r := H
                have A134 := Aside0.mk A1340
                clear A1340
                by_cases c135 : t176 = t127
                · rw [if_pos c135] at H
                  have c135b0 : (t176 == t127) = true := beq_iff_eq.mpr c135
                  have c135b1 : (t176 != t127) = false := bne_eq_false_iff_eq.mpr c135
                  clear c135
                  by_cases c136 : ((decide (t130 < 0)) == (decide (t127 < 0))) = true
                  · rw [if_pos c136] at H
                    have c136b0 : ((decide (t130 < 0)) == (decide (t127 < 0))) = true := c136
                    (try (have c136b1 : decide ((decide (t130 < 0)) = (decide (t127 < 0))) = true := by simpa using c136))
                    (try (have c136b2 : ((decide (t130 < 0)) == (decide (t127 < 0))) = true := by simpa using c136))
                    clear c136
                    exact absurd (hr_.out.symm.trans (Option.some.inj H).symm) Bool.noConfusion
                  · rw [if_neg c136] at H
                    have c136b0 : ((decide (t130 < 0)) == (decide (t127 < 0))) = false := by simpa using c136
                    (try (have c136b1 : decide ((decide (t130 < 0)) = (decide (t127 < 0))) = false := by simpa using c136))
                    (try (have c136b2 : ((decide (t130 < 0)) == (decide (t127 < 0))) = false := by simpa using c136))
                    (try (have c136b3 : ¬ ((decide (t130 < 0)) = (decide (t127 < 0))) := by simpa using c136))
                    clear c136
                    exact absurd (hr_.out.symm.trans (Option.some.inj H).symm) Bool.noConfusion
                · rw [if_neg c135] at H
                  have c135b0 : (t176 == t127) = false := beq_eq_false_iff_ne.mpr c135
                  have c135b1 : (t176 != t127) = true := bne_iff_ne.mpr c135
                  exact absurd (hr_.out.symm.trans (Option.some.inj H).symm) Bool.noConfusion
            · rw [if_neg c122] at H
              have c122b0 : decide (0 < t128) = false := decide_eq_false c122
              clear c122
              replace H := Option.bind_eq_some_iff.mp H
              obtain ⟨t177, A1370, H⟩ := H
              replace H : ((word_Binary.f 4 t177 t130).bind fun t178 => (if t178 = t127 then (if ((decide (t130 < 0)) == (decide (t127 < 0))) = true then (some false) else (some false)) else (some false))) = some r := H
              have A137 := Aside0.mk A1370
              clear A1370
              replace H := Option.bind_eq_some_iff.mp H
              obtain ⟨t178, A1380, H⟩ := H
              replace H : (if t178 = t127 then (if ((decide (t130 < 0)) == (decide (t127 < 0))) = true then (some false) else (some false)) else (some false)) = some r := H
              have A138 := Aside0.mk A1380
              clear A1380
              by_cases c139 : t178 = t127
              · rw [if_pos c139] at H
                have c139b0 : (t178 == t127) = true := beq_iff_eq.mpr c139
                have c139b1 : (t178 != t127) = false := bne_eq_false_iff_eq.mpr c139
                clear c139
                by_cases c140 : ((decide (t130 < 0)) == (decide (t127 < 0))) = true
                · rw [if_pos c140] at H
                  have c140b0 : ((decide (t130 < 0)) == (decide (t127 < 0))) = true := c140
                  (try (have c140b1 : decide ((decide (t130 < 0)) = (decide (t127 < 0))) = true := by simpa using c140))
                  (try (have c140b2 : ((decide (t130 < 0)) == (decide (t127 < 0))) = true := by simpa using c140))
                  clear c140
                  exact absurd (hr_.out.symm.trans (Option.some.inj H).symm) Bool.noConfusion
                · rw [if_neg c140] at H
                  have c140b0 : ((decide (t130 < 0)) == (decide (t127 < 0))) = false := by simpa using c140
                  (try (have c140b1 : decide ((decide (t130 < 0)) = (decide (t127 < 0))) = false := by simpa using c140))
                  (try (have c140b2 : ((decide (t130 < 0)) == (decide (t127 < 0))) = false := by simpa using c140))
                  (try (have c140b3 : ¬ ((decide (t130 < 0)) = (decide (t127 < 0))) := by simpa using c140))
                  clear c140
                  exact absurd (hr_.out.symm.trans (Option.some.inj H).symm) Bool.noConfusion
              · rw [if_neg c139] at H
                have c139b0 : (t178 == t127) = false := beq_eq_false_iff_ne.mpr c139
                have c139b1 : (t178 != t127) = true := bne_iff_ne.mpr c139
                exact absurd (hr_.out.symm.trans (Option.some.inj H).symm) Bool.noConfusion
        · rw [if_neg c92] at H
          have c92b0 : decide (t128 < 0) = false := decide_eq_false c92
          clear c92
          by_cases c141 : t128 > 0
          · rw [if_pos c141] at H
            have c141b0 : decide (0 < t128) = true := decide_eq_true c141
            clear c141
            by_cases c142 : t130 > (wrap64 (-t128))
            · rw [if_pos c142] at H
              have c142b0 : decide ((wrap64 (-t128)) < t130) = true := decide_eq_true c142
              clear c142
              replace H := Option.bind_eq_some_iff.mp H
              obtain ⟨t179, A1430, H⟩ := H
              replace H : ((word_Binary.f 4 t179 t130).bind fun t180 => (if t180 = t127 then (if ((decide (t130 < 0)) == (decide (t127 < 0))) = true then (if t130 < t128 then ((fullinglaw1_WordExamples.f k).bind fun t181 => (some t181)) else (some false)) else (some false)) else (some false))) = some r := H
              have A143 := Aside0.mk A1430
              clear A1430
              replace H := Option.bind_eq_some_iff.mp H
              obtain ⟨t180, A1440, H⟩ := H
              replace H : (if t180 = t127 then (if ((decide (t130 < 0)) == (decide (t127 < 0))) = true then (if t130 < t128 then ((fullinglaw1_WordExamples.f k).bind fun t181 => (some t181)) else (some false)) else (some false)) else (some false)) = some r := H
              have A144 := Aside0.mk A1440
              clear A1440
              by_cases c145 : t180 = t127
              · rw [if_pos c145] at H
                have c145b0 : (t180 == t127) = true := beq_iff_eq.mpr c145
                have c145b1 : (t180 != t127) = false := bne_eq_false_iff_eq.mpr c145
                clear c145
                by_cases c146 : ((decide (t130 < 0)) == (decide (t127 < 0))) = true
                · rw [if_pos c146] at H
                  have c146b0 : ((decide (t130 < 0)) == (decide (t127 < 0))) = true := c146
                  (try (have c146b1 : decide ((decide (t130 < 0)) = (decide (t127 < 0))) = true := by simpa using c146))
                  (try (have c146b2 : ((decide (t130 < 0)) == (decide (t127 < 0))) = true := by simpa using c146))
                  clear c146
                  by_cases c147 : t130 < t128
                  · rw [if_pos c147] at H
                    have c147b0 : decide (t130 < t128) = true := decide_eq_true c147
                    clear c147
                    replace H := Option.bind_eq_some_iff.mp H
                    obtain ⟨t181, A1480, H⟩ := H
                    replace H : (some t181) = some r := H
                    have A148 := Aside0.mk A1480
                    clear A1480
                    obtain rfl := Option.some.inj H
                    go_enter Try.func4, Try.ntmps4
                    go_wp2_with (first | ((with_reducible refine gate_callee (f := 16) rfl ?_); refine goesL_ (some 17) rfl rfl Try.func16 (by kernel_rfl) rfl #[.int .i64 a0, .int .i64 a2] rfl (by (try simp only [List.map_toArray, List.map_cons, List.map_nil]); first | done | rfl | (simp only [List.length_drop, List.length_take]; rfl)) ?_; (with_reducible refine (fullingkeep_Word.calls a0 a2 t127 _ A5.out).mono ?_); rintro e w149 ⟨rfl, hb⟩; refine ⟨_, rfl, ?_⟩; have n0_ := Aside0.mk (below_step (by repeat (first | (with_reducible first | exact HB.out | apply below_alloc | apply pw_below_drewN | apply below_drew1) | exact HB.out)) hb); clear HB; have HB := n0_; clear n0_; (try clear hb); (try clear hb2); (try clear hk); (try clear hi)) | ((with_reducible refine gate_callee (f := 16) rfl ?_); refine goesL_ (some 20) rfl rfl Try.func16 (by kernel_rfl) rfl #[.int .i64 a1, .int .i64 a3] rfl (by (try simp only [List.map_toArray, List.map_cons, List.map_nil]); first | done | rfl | (simp only [List.length_drop, List.length_take]; rfl)) ?_; (with_reducible refine (fullingkeep_Word.calls a1 a3 t128 _ A6.out).mono ?_); rintro e w150 ⟨rfl, hb⟩; refine ⟨_, rfl, ?_⟩; have n0_ := Aside0.mk (below_step (by repeat (first | (with_reducible first | exact HB.out | apply below_alloc | apply pw_below_drewN | apply below_drew1) | exact HB.out)) hb); clear HB; have HB := n0_; clear n0_; (try clear hb); (try clear hb2); (try clear hk); (try clear hi)) | ((with_reducible refine gate_callee (f := 14) rfl ?_); refine goesL_ (some 23) rfl rfl Try.func14 (by kernel_rfl) rfl #[.int .i64 7, .int .i64 t127, .int .i64 t128] rfl (by (try simp only [List.map_toArray, List.map_cons, List.map_nil]); first | done | rfl | (simp only [List.length_drop, List.length_take]; rfl)) ?_; (with_reducible refine (word_Binary.calls 7 t127 t128 t129 _ A7.out).mono ?_); rintro e w' ⟨rfl, ⟨nd, rfl⟩⟩; refine ⟨_, rfl, ?_⟩) | ((with_reducible refine gate_callee (f := 14) rfl ?_); refine goesL_ (some 26) rfl rfl Try.func14 (by kernel_rfl) rfl #[.int .i64 8, .int .i64 t127, .int .i64 t128] rfl (by (try simp only [List.map_toArray, List.map_cons, List.map_nil]); first | done | rfl | (simp only [List.length_drop, List.length_take]; rfl)) ?_; (with_reducible refine (word_Binary.calls 8 t127 t128 t130 _ A8.out).mono ?_); rintro e w' ⟨rfl, ⟨nd, rfl⟩⟩; refine ⟨_, rfl, ?_⟩) | ((with_reducible refine gate_callee (f := 14) rfl ?_); refine goesL_ (some 81) rfl rfl Try.func14 (by kernel_rfl) rfl #[.int .i64 6, .int .i64 t129, .int .i64 t128] rfl (by (try simp only [List.map_toArray, List.map_cons, List.map_nil]); first | done | rfl | (simp only [List.length_drop, List.length_take]; rfl)) ?_; (with_reducible refine (word_Binary.calls 6 t129 t128 t179 _ A143.out).mono ?_); rintro e w' ⟨rfl, ⟨nd, rfl⟩⟩; refine ⟨_, rfl, ?_⟩) | ((with_reducible refine gate_callee (f := 14) rfl ?_); refine goesL_ (some 83) rfl rfl Try.func14 (by kernel_rfl) rfl #[.int .i64 4, .int .i64 t179, .int .i64 t130] rfl (by (try simp only [List.map_toArray, List.map_cons, List.map_nil]); first | done | rfl | (simp only [List.length_drop, List.length_take]; rfl)) ?_; (with_reducible refine (word_Binary.calls 4 t179 t130 t180 _ A144.out).mono ?_); rintro e w' ⟨rfl, ⟨nd, rfl⟩⟩; refine ⟨_, rfl, ?_⟩) | (go_at_call 3; (with_reducible refine (fullinglaw1_WordExamples.calls k  t181 _ A148.out).mono ?_); rintro e w151 ⟨rfl, hb⟩; have n0_ := Aside0.mk (below_step (by repeat (first | (with_reducible first | exact HB.out | apply below_alloc | apply pw_below_drewN | apply below_drew1) | exact HB.out)) hb); clear HB; have HB := n0_; clear n0_; (try clear hb); (try clear hb2); (try clear hk); (try clear hi)))
                    go_ret
                    exact ⟨by first | rfl | (simp [errW_none, errW_some] <;> rfl) | (simp [*, errW_none, errW_some] <;> rfl), by repeat (first | (with_reducible first | exact HB.out | apply below_alloc | apply pw_below_drewN | apply below_drew1) | exact HB.out)⟩
                  · rw [if_neg c147] at H
                    have c147b0 : decide (t130 < t128) = false := decide_eq_false c147
                    clear c147
                    exact absurd (hr_.out.symm.trans (Option.some.inj H).symm) Bool.noConfusion
                · rw [if_neg c146] at H
                  have c146b0 : ((decide (t130 < 0)) == (decide (t127 < 0))) = false := by simpa using c146
                  (try (have c146b1 : decide ((decide (t130 < 0)) = (decide (t127 < 0))) = false := by simpa using c146))
                  (try (have c146b2 : ((decide (t130 < 0)) == (decide (t127 < 0))) = false := by simpa using c146))
                  (try (have c146b3 : ¬ ((decide (t130 < 0)) = (decide (t127 < 0))) := by simpa using c146))
                  clear c146
                  exact absurd (hr_.out.symm.trans (Option.some.inj H).symm) Bool.noConfusion
              · rw [if_neg c145] at H
                have c145b0 : (t180 == t127) = false := beq_eq_false_iff_ne.mpr c145
                have c145b1 : (t180 != t127) = true := bne_iff_ne.mpr c145
                exact absurd (hr_.out.symm.trans (Option.some.inj H).symm) Bool.noConfusion
            · rw [if_neg c142] at H
              have c142b0 : decide ((wrap64 (-t128)) < t130) = false := decide_eq_false c142
              clear c142
              replace H := Option.bind_eq_some_iff.mp H
              obtain ⟨t182, A1520, H⟩ := H
              replace H : ((word_Binary.f 4 t182 t130).bind fun t183 => (if t183 = t127 then (if ((decide (t130 < 0)) == (decide (t127 < 0))) = true then (some false) else (some false)) else (some false))) = some r := H
              have A152 := Aside0.mk A1520
              clear A1520
              replace H := Option.bind_eq_some_iff.mp H
              obtain ⟨t183, A1530, H⟩ := H
              replace H : (if t183 = t127 then (if ((decide (t130 < 0)) == (decide (t127 < 0))) = true then (some false) else (some false)) else (some false)) = some r := H
              have A153 := Aside0.mk A1530
              clear A1530
              by_cases c154 : t183 = t127
              · rw [if_pos c154] at H
                have c154b0 : (t183 == t127) = true := beq_iff_eq.mpr c154
                have c154b1 : (t183 != t127) = false := bne_eq_false_iff_eq.mpr c154
                clear c154
                by_cases c155 : ((decide (t130 < 0)) == (decide (t127 < 0))) = true
                · rw [if_pos c155] at H
                  have c155b0 : ((decide (t130 < 0)) == (decide (t127 < 0))) = true := c155
                  (try (have c155b1 : decide ((decide (t130 < 0)) = (decide (t127 < 0))) = true := by simpa using c155))
                  (try (have c155b2 : ((decide (t130 < 0)) == (decide (t127 < 0))) = true := by simpa using c155))
                  clear c155
                  exact absurd (hr_.out.symm.trans (Option.some.inj H).symm) Bool.noConfusion
                · rw [if_neg c155] at H
                  have c155b0 : ((decide (t130 < 0)) == (decide (t127 < 0))) = false := by simpa using c155
                  (try (have c155b1 : decide ((decide (t130 < 0)) = (decide (t127 < 0))) = false := by simpa using c155))
                  (try (have c155b2 : ((decide (t130 < 0)) == (decide (t127 < 0))) = false := by simpa using c155))
                  (try (have c155b3 : ¬ ((decide (t130 < 0)) = (decide (t127 < 0))) := by simpa using c155))
                  clear c155
                  exact absurd (hr_.out.symm.trans (Option.some.inj H).symm) Bool.noConfusion
              · rw [if_neg c154] at H
                have c154b0 : (t183 == t127) = false := beq_eq_false_iff_ne.mpr c154
                have c154b1 : (t183 != t127) = true := bne_iff_ne.mpr c154
                exact absurd (hr_.out.symm.trans (Option.some.inj H).symm) Bool.noConfusion
          · rw [if_neg c141] at H
            have c141b0 : decide (0 < t128) = false := decide_eq_false c141
            clear c141
            replace H := Option.bind_eq_some_iff.mp H
            obtain ⟨t184, A1560, H⟩ := H
            replace H : ((word_Binary.f 4 t184 t130).bind fun t185 => (if t185 = t127 then (if ((decide (t130 < 0)) == (decide (t127 < 0))) = true then (some false) else (some false)) else (some false))) = some r := H
            have A156 := Aside0.mk A1560
            clear A1560
            replace H := Option.bind_eq_some_iff.mp H
            obtain ⟨t185, A1570, H⟩ := H
            replace H : (if t185 = t127 then (if ((decide (t130 < 0)) == (decide (t127 < 0))) = true then (some false) else (some false)) else (some false)) = some r := H
            have A157 := Aside0.mk A1570
            clear A1570
            by_cases c158 : t185 = t127
            · rw [if_pos c158] at H
              have c158b0 : (t185 == t127) = true := beq_iff_eq.mpr c158
              have c158b1 : (t185 != t127) = false := bne_eq_false_iff_eq.mpr c158
              clear c158
              by_cases c159 : ((decide (t130 < 0)) == (decide (t127 < 0))) = true
              · rw [if_pos c159] at H
                have c159b0 : ((decide (t130 < 0)) == (decide (t127 < 0))) = true := c159
                (try (have c159b1 : decide ((decide (t130 < 0)) = (decide (t127 < 0))) = true := by simpa using c159))
                (try (have c159b2 : ((decide (t130 < 0)) == (decide (t127 < 0))) = true := by simpa using c159))
                clear c159
                exact absurd (hr_.out.symm.trans (Option.some.inj H).symm) Bool.noConfusion
              · rw [if_neg c159] at H
                have c159b0 : ((decide (t130 < 0)) == (decide (t127 < 0))) = false := by simpa using c159
                (try (have c159b1 : decide ((decide (t130 < 0)) = (decide (t127 < 0))) = false := by simpa using c159))
                (try (have c159b2 : ((decide (t130 < 0)) == (decide (t127 < 0))) = false := by simpa using c159))
                (try (have c159b3 : ¬ ((decide (t130 < 0)) = (decide (t127 < 0))) := by simpa using c159))
                clear c159
                exact absurd (hr_.out.symm.trans (Option.some.inj H).symm) Bool.noConfusion
            · rw [if_neg c158] at H
              have c158b0 : (t185 == t127) = false := beq_eq_false_iff_ne.mpr c158
              have c158b1 : (t185 != t127) = true := bne_iff_ne.mpr c158
              exact absurd (hr_.out.symm.trans (Option.some.inj H).symm) Bool.noConfusion

/-- THE ONE PURE STATEMENT of fullinglaw1_WordDivision: yours. -/
def fullinglaw1_WordDivision.Pure : Prop := ∀ (a0 : Int) (a1 : Int) (a2 : Int) (a3 : Int), (Lit.int .i64 a0).wf = true → (Lit.int .i64 a1).wf = true → (Lit.int .i64 a2).wf = true → (Lit.int .i64 a3).wf = true → ∃ k, fullinglaw1_WordDivision.f k a0 a1 a2 a3 = some true
theorem fullinglaw1_WordDivision.walk (P : fullinglaw1_WordDivision.Pure) (a0 : Int) (a1 : Int) (a2 : Int) (a3 : Int) (w : World) (w0 : (Lit.int .i64 a0).wf = true) (w1 : (Lit.int .i64 a1).wf = true) (w2 : (Lit.int .i64 a2).wf = true) (w3 : (Lit.int .i64 a3).wf = true) :
    Calls Try.prog 4 #[.int .i64 a0, .int .i64 a1, .int .i64 a2, .int .i64 a3] w fun e w' => e = .returned (.bool true) ∧ Below w.heap.size w w' := by
  obtain ⟨k, h⟩ := P a0 a1 a2 a3 w0 w1 w2 w3
  refine (fullinglaw1_WordDivision.calls k a0 a1 a2 a3 true w h ⟨rfl⟩).mono ?_
  rintro e w' ⟨rfl, hd⟩
  exact ⟨rfl, hd⟩

end Go.Proofs.Ytlilbddpelbngaa.PDiv
