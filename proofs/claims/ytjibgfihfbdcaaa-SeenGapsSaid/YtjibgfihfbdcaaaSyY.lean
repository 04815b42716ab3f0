/- The symbolic evaluator, part Y: entries of the library without a body. Conditions: none; generic over programs. -/
import Derived.Test.YtjibgfihfbdcaaaSyX
import Derived.Lib.MakeNoZero
namespace Go.Sx
open Go

def dgs : Nat → Nat → List Int
  | 0, _ => []
  | n + 1, t => Int.ofNat (t % 256) :: dgs n (t / 256)
theorem dgs_len : ∀ (n t : Nat), (dgs n t).length = n
  | 0, _ => rfl
  | n + 1, t => by simp [dgs, dgs_len n]
theorem digits_eq : ∀ (n t : Nat) (acc : Array Value), Extern.BytealgMakeNoZero.digits n t acc = (acc.toList ++ (dgs n t).map (Value.int .u8)).toArray
  | 0, t, acc => by simp [Extern.BytealgMakeNoZero.digits, dgs]
  | n + 1, t, acc => by
    rw [Extern.BytealgMakeNoZero.digits, digits_eq n]
    simp [dgs]

theorem run_makeNoZero' {P : Program} (w : World) (ps : Array TypeId) {t e : TypeId} (ht : P.underlying t = some (.slice e)) (n : Nat) (hn : n ≤ 281474976710656) :
    ∃ zs : List Int, (Extern.BytealgMakeNoZero.makeNoZero ps #[t] #[.int .i64 n]).run P w = .ok (.slice (some ⟨w.heap.size, 0, none⟩) n zs.length) (w.drew.drew.alloc (.cells (zs.map (Value.int .u8)).toArray e)) ∧ n ≤ zs.length := by
  have hdef : Extern.BytealgMakeNoZero.makeNoZero ps #[t] #[.int .i64 n] =
      (do
        let .slice elem ← underlying t | stuck "bytealg.MakeNoZero: slice type expected"
        if (n : Int) < 0 || (n : Int) > 2 ^ 48 then runtimePanic (.error "makeslice: len out of range")
        let cap ← choose (.appendCap (n : Int).toNat 0 elem)
        askRoom cap
        let bytes ← choose (.extern "internal/bytealg.MakeNoZero.bytes" 0)
        let a ← newRow elem (Extern.BytealgMakeNoZero.digits cap bytes #[])
        pure (.slice (some a) (n : Int).toNat cap)) := rfl
  refine ⟨dgs (grownCap w n 0 e) ((Question.extern "internal/bytealg.MakeNoZero.bytes" 0).cut (w.tape (w.drawn + 1) (.extern "internal/bytealg.MakeNoZero.bytes" 0))), ?_, ?_⟩
  · rw [hdef]
    have h1 : ¬ (n : Int) < 0 := by omega
    have h2 : ¬ (281474976710656 : Int) < (n : Int) := by omega
    simp [run_underlying ht, h1, h2, Question.forced, newRow, digits_eq, dgs_len, grownCap]
  · rw [dgs_len]
    simpa using grownCap_ge w n 0 e

/-- A row of whatever bytes. -/
theorem makeNoZero_sem {P : Program} {f : FuncId} {fn : Func} (hf : P.funcs[f]? = some fn) (h1 : (fn.name == "runtime.NumGoroutine") = false) (h2 : fn.body.isNone = true) (h3 : Extern.findNext fn = none) {ps : Array TypeId} {t e : TypeId}
    (h4 : Extern.find fn = some (Extern.BytealgMakeNoZero.makeNoZero ps #[t])) (ht : P.underlying t = some (.slice e)) {n : Nat} (hn : n ≤ 281474976710656) {bx : List Box} {E : Mem} {K : KT}
    (h : ∀ zs : List Int, n ≤ zs.length → K (.slc bx.length 0 n zs.length) (bx ++ [⟨e, .vals (zs.map (.int .u8)), zs.length, true⟩]) E) : CallSem P f [.raw (.int .i64 n)] bx E K := by
  intro w0 mu ρ w vs hR hd
  simp only [SV.denL, SV.den, Option.some.injEq] at hd
  subst hd
  obtain ⟨zs, hr, hlen⟩ := run_makeNoZero' (P := P) w ps ht n hn
  have hR2 := (hR.grow (Keep.drew [] w (w.drawn + 1 + 1))).alloc e (.vals (zs.map (.int .u8))) (zs.map (.int .u8)) [] zs.length (denL_raw _) (by simp)
  simp only [List.append_nil] at hR2
  have hrun : (callFunc f [Value.int .i64 n].toArray).run P w = .ok (.value (.slice (some ⟨w.heap.size, 0, none⟩) n zs.length)) (w.drew.drew.alloc (.cells (zs.map (Value.int .u8)).toArray e)) := by
    unfold callFunc
    have hr' : (Extern.BytealgMakeNoZero.makeNoZero ps #[t] [Value.int .i64 n].toArray).run P w = _ := hr
    simp only [Sem.run_bind, run_program, Result.andThen_ok, hf, h1, h2, h3, h4, Bool.false_eq_true, if_false, if_true, run_mark, Sem.run_pure, hr']
  refine .inr ⟨_, _, hrun, _, _, _, E, _, rfl, List.prefix_append ρ [some ⟨w.heap.size, 0, none⟩], ?_, hR2, h zs hlen⟩
  simp only [SV.den, slcDen, ← hR.len, List.getElem?_append_right (Nat.le_refl _), Nat.sub_self, List.getElem?_cons_zero]
  rfl
end Go.Sx
