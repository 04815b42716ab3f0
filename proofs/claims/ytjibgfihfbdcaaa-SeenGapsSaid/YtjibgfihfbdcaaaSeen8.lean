/- The package seen: what its functions answer. -/
import Derived.Test.YtjibgfihfbdcaaaSeen7
namespace Go.Proofs.Ytjibgfihfbdcaaa.SeenOwn
open Go Go.Sx
set_option maxRecDepth 100000
set_option maxHeartbeats 4000000
set_option linter.unusedVariables false
set_option linter.unusedSimpArgs false
variable {E : Mem} {K : SV → Mem → Prop}

/-- Whether two rows overlap. -/
def tabO : CallT := fun f args bx E K => match f, args with
  | 44, [.slc b off n cap, .slc b' off' n' cap'] => (b ≠ b') ∧ ∃ y y' : Box, bx[b]? = some y ∧ bx[b']? = some y' ∧ y.own = true ∧ y'.own = true ∧ 0 < y'.total ∧ K (B false) bx E
  | 48, [.slc b off n cap, .slc b' off' n' cap'] => (b ≠ b') ∧ ∃ y y' : Box, bx[b]? = some y ∧ bx[b']? = some y' ∧ y.own = true ∧ y'.own = true ∧ 0 < y'.total ∧ K (B false) bx E
  | _, _ => False
/-- A pair laid in among the pairs of a row. -/
def insV (vs : List Value) (k : Nat) (u v : Value) : List Value := vs.take (k * 2) ++ [u, v] ++ vs.drop (k * 2)
theorem zeros2 (a b : Value) (m : Nat) : (zerosV [a, b] m).length = m * 2 := by unfold zerosV; simp
theorem lay_at {A Z : List Value} {k : Nat} {u v : Value} (ha : A.length = k * 2) : layV (A ++ Z) (k * 2) [u, v] = (A ++ [u, v]) ++ Z.drop 2 := by
  unfold layV
  rw [List.take_left' ha, List.drop_append, List.drop_eq_nil_of_le (by omega), ha, List.nil_append]
  congr 2; simp
theorem lay_len {vs ws : List Value} {off : Nat} (h : off + ws.length ≤ vs.length) : (layV vs off ws).length = vs.length := by
  unfold layV; simp only [List.length_append, List.length_take, List.length_drop]; omega
theorem lay_len2 {vs ws : List Value} {off : Nat} (h1 : off ≤ vs.length) (h2 : vs.length ≤ off + ws.length) : (layV vs off ws).length = off + ws.length := by
  unfold layV; simp only [List.length_append, List.length_take, List.length_drop]; omega
theorem insG {n k : Nat} {vs Z : List Value} {u v : Value} (hv : n * 2 = vs.length) (hk : k < n) (hz : Z.length = (n + 1 - k) * 2) :
    layV (layV (List.take (k * 2) vs ++ Z) (k * 2) (List.take (1 * 2) [u, v])) ((k + 1) * 2) (List.take ((n - k) * 2) (List.drop (k * 2) vs)) = insV vs k u v := by
  have ha : (vs.take (k * 2)).length = k * 2 := by rw [List.length_take]; omega
  have hb : (vs.drop (k * 2)).length = (n - k) * 2 := by rw [List.length_drop]; omega
  unfold insV
  generalize vs.take (k * 2) = A at *
  generalize vs.drop (k * 2) = B at *
  rw [List.take_of_length_le (l := B) (by omega)]
  show layV (layV (A ++ Z) (k * 2) [u, v]) ((k + 1) * 2) B = _
  rw [lay_at ha]
  have h2 : (A ++ [u, v]).length = (k + 1) * 2 := by simp [ha]; omega
  generalize A ++ [u, v] = C at *
  unfold layV
  rw [List.take_left' h2, List.drop_eq_nil_of_le (by simp; omega), List.append_nil]
theorem insI {n k : Nat} {vs : List Value} {u v : Value} (hv : n * 2 = vs.length) (hk : k < n) :
    layV (layV vs ((k + 1) * 2) (List.take ((n - k) * 2) (List.drop (k * 2) vs))) (k * 2) (List.take (1 * 2) [u, v]) = insV vs k u v := by
  have ha : (vs.take (k * 2)).length = k * 2 := by rw [List.length_take]; omega
  have hb : (vs.drop (k * 2)).length = (n - k) * 2 := by rw [List.length_drop]; omega
  have e : vs = vs.take (k * 2) ++ vs.drop (k * 2) := (List.take_append_drop ..).symm
  unfold insV
  generalize hA : vs.take (k * 2) = A at *
  generalize hB : vs.drop (k * 2) = B at *
  rw [List.take_of_length_le (l := B) (by omega)]
  show layV (layV vs ((k + 1) * 2) B) (k * 2) [u, v] = _
  have e2 : layV vs ((k + 1) * 2) B = A ++ (B.take 2 ++ B) := by
    unfold layV
    rw [e, List.drop_eq_nil_of_le (by simp; omega), List.append_nil, List.take_append, List.take_of_length_le (by omega), ha, List.append_assoc]
    congr 3; omega
  rw [e2, lay_at ha]
  congr 1
  rw [List.drop_append, List.drop_eq_nil_of_le (by rw [List.length_take]; omega), List.length_take, List.nil_append, show 2 - min 2 B.length = 0 from by omega]; rfl
theorem toNn (a : Nat) : toN none a = a := id rfl
theorem toNs (a b : Nat) : toN (some (a : Int)) b = a := id rfl
theorem sub0 (a : Nat) : a - 0 = a := by omega
theorem set_same {bx : List Box} {b : Nat} {y : Box} (h : bx[b]? = some y) : bx.set b y = bx := by
  apply List.ext_getElem?; intro k
  by_cases hk : b = k
  · subst hk; rw [List.getElem?_set_self (List.getElem?_eq_some_iff.1 h).1, h]
  · rw [List.getElem?_set_ne hk]
theorem ifz {c : Prop} {h : Decidable c} {α : Type} {a : α} : @ite α c h a a = a := by split <;> rfl
theorem ifn {c : Prop} {h : Decidable c} {α : Type} {a b : α} (hc : ¬ c) : @ite α c h a b = b := if_neg hc
theorem tabO_ok (f : FuncId) (args : List SV) (bx : List Box) (E : Mem) (K : KT) (h : tabO f args bx E K) : CallSem Try.prog f args bx E K := by
  unfold tabO at h
  split at h
  · obtain ⟨h1, y, y', h2, h3, h4, h5, h6, h7⟩ := h
    exact overlaps_sem Try.func44 (by kernel_rfl) (by kernel_rfl) (by kernel_rfl) (tS := 22) (tR := 4) (e := 45) (by kernel_rfl) (by kernel_rfl) (Option.isSome_iff_exists.1 (show (Try.prog.info? 45).isSome = true by kernel_rfl)).choose_spec h2 h3 h4 h5 h1 h6 h7
  · obtain ⟨h1, y, y', h2, h3, h4, h5, h6, h7⟩ := h
    exact overlaps_sem Try.func48 (by kernel_rfl) (by kernel_rfl) (by kernel_rfl) (tS := 43) (tR := 4) (e := 47) (by kernel_rfl) (by kernel_rfl) (Option.isSome_iff_exists.1 (show (Try.prog.info? 47).isSome = true by kernel_rfl)).choose_spec h2 h3 h4 h5 h1 h6 h7
  · exact h.elim
noncomputable def I1 : Cx := { P := Try.prog, inl := fun f => List.contains [] f, tab := fun _ _ _ _ => False, isB := fun f => f == 44 || f == 48, tabB := tabO, opt := { unroll := 0, carry := [] }, muts := mutsD }
theorem okI1 : CxOK I1 := CxOK.four (fun _ _ _ _ h => h.elim) (by kernel_rfl) (okInl (by kernel_rfl)) tabO_ok
theorem ent29 {n k cap tot : Nat} {vs : List Value} {u v : Value} {K : KT} (hv : n * 2 = vs.length) (ho : ∀ x : Value, List.Mem x vs → x.oneCell' = true) (hu : List.all [SV.raw u, SV.raw v] SV.one = true) (hc : n ≤ cap ∧ cap * 2 ≤ tot) (hk : k ≤ n) (hn : n ≤ 1000000)
    (hA : k = n → ∀ cap' tot' : Nat, n + 1 ≤ cap' → cap' * 2 ≤ tot' → K (.slc 2 0 (n + 1) cap') [⟨45, .lst [], 0, false⟩, ⟨45, .lst [.raw u, .raw v], 2, true⟩, ⟨45, .vals (insV vs k u v), tot', true⟩] E)
    (hG : ∀ cap' tot' : Nat, n + 1 ≤ cap' → cap' * 2 ≤ tot' → K (.slc 2 0 (n + 1) cap') [⟨45, .vals vs, tot, true⟩, ⟨45, .lst [.raw u, .raw v], 2, true⟩, ⟨45, .vals (insV vs k u v), tot', true⟩] E)
    (hI : n + 1 ≤ cap → K (.slc 0 0 (n + 1) cap) [⟨45, .vals (insV vs k u v), tot, true⟩, ⟨45, .lst [.raw u, .raw v], 2, true⟩] E) :
    EntB I1 8 Try.f29 [.slc 0 0 n cap, I (k : Nat), .slc 1 0 1 1] [⟨45, .vals vs, tot, true⟩, ⟨45, .lst [.raw u, .raw v], 2, true⟩] E K := by
  refine same (by kernel_rfl) (?_ : 
      req ((0 : Int) ≤ (↑k : Int) ∧ (↑k : Int) ≤ (↑(toN none n) : Int))
        (bif (↑k : Int) == (↑n : Int) then
          req (2 ≤ 2 ∧ List.all [SV.raw u, SV.raw v] SV.one = true)
            (n * 2 ≤ List.length (Row.cells (Row.vals vs)) ∧
              cap * 2 ≤ tot ∧
                n ≤ cap ∧
                  req ((n + 1) * 32 ≤ 140737488355328)
                    (∀ (cap' tot' : Nat),
                      n + 1 ≤ cap' →
                        cap' * 2 ≤ tot' →
                          K (SV.slc 2 0 (n + 1) cap')
                            [{ elem := 45, row := Row.lst [], total := 0, own := false : Box },
                              { elem := 45, row := Row.lst [SV.raw u, SV.raw v], total := 2, own := true :
                                Box },
                              { elem := 45, row := Row.vals (List.take (n * 2) vs ++ [u, v]), total := tot',
                                own := true : Box }]
                            E))
        else
          bif decide (IntKind.wrap IntKind.i64 ((↑n : Int) + (1 : Int)) > (↑cap : Int)) then
            req ((0 : Int) ≤ (↑k : Int) ∧ (↑k : Int) ≤ (↑(toN none cap) : Int))
              (req ((if toN none cap = 0 then 0 else 0) = 0)
                ((toN (some (↑k : Int)) n - 0) * 2 ≤ List.length vs ∧
                  req ((0 : Int) < IntKind.wrap IntKind.i64 (IntKind.wrap IntKind.i64 ((↑n : Int) + (1 : Int)) - (↑k : Int)))
                    (req
                      ((↑(toN none cap - 0) : Int) <
                        (↑(toN (some (↑k : Int)) n - 0) : Int) +
                          IntKind.wrap IntKind.i64 (IntKind.wrap IntKind.i64 ((↑n : Int) + (1 : Int)) - (↑k : Int)))
                      (req
                        (((↑(toN (some (↑k : Int)) n - 0) : Int) +
                              IntKind.wrap IntKind.i64 (IntKind.wrap IntKind.i64 ((↑n : Int) + (1 : Int)) - (↑k : Int))) *
                            (32 : Int) ≤
                          (140737488355328 : Int))
                        (∀ (cap' tot' : Nat),
                          toN (some (↑k : Int)) n - 0 +
                                Int.toNat
                                  (IntKind.wrap IntKind.i64
                                    (IntKind.wrap IntKind.i64 ((↑n : Int) + (1 : Int)) - (↑k : Int))) ≤
                              cap' →
                            cap' * 2 ≤ tot' →
                              req
                                ((0 : Int) ≤ (↑k : Int) ∧
                                  (↑k : Int) ≤
                                    (↑(toN none
                                          (toN (some (↑k : Int)) n - 0 +
                                            Int.toNat
                                              (IntKind.wrap IntKind.i64
                                                (IntKind.wrap IntKind.i64 ((↑n : Int) + (1 : Int)) - (↑k : Int))))) :
                                      Int))
                                (req (2 ≤ 2 ∧ List.all [SV.raw u, SV.raw v] SV.one = true)
                                  ((if toN none cap' = toN (some (↑k : Int)) 0 then 0
                                        else 0 + toN (some (↑k : Int)) 0 * 2) +
                                        (toN none
                                              (toN (some (↑k : Int)) n - 0 +
                                                Int.toNat
                                                  (IntKind.wrap IntKind.i64
                                                    (IntKind.wrap IntKind.i64 ((↑n : Int) + (1 : Int)) - (↑k : Int)))) -
                                            toN (some (↑k : Int)) 0) *
                                          2 ≤
                                      List.length
                                        (List.take ((toN (some (↑k : Int)) n - 0) * 2) vs ++
                                          zerosV [Value.int IntKind.i64 (0 : Int), Value.slice none 0 0]
                                            (Int.toNat
                                              (IntKind.wrap IntKind.i64
                                                (IntKind.wrap IntKind.i64 ((↑n : Int) + (1 : Int)) - (↑k : Int))))) ∧
                                    req
                                      ((0 : Int) ≤ IntKind.wrap IntKind.i64 ((↑k : Int) + (1 : Int)) ∧
                                        IntKind.wrap IntKind.i64 ((↑k : Int) + (1 : Int)) ≤
                                          (↑(toN none
                                                (toN (some (↑k : Int)) n - 0 +
                                                  Int.toNat
                                                    (IntKind.wrap IntKind.i64
                                                      (IntKind.wrap IntKind.i64 ((↑n : Int) + (1 : Int)) - (↑k : Int))))) :
                                            Int))
                                      (req ((0 : Int) ≤ (↑k : Int) ∧ (↑k : Int) ≤ (↑(toN none n) : Int))
                                        ((if toN none cap = toN (some (↑k : Int)) 0 then 0
                                              else 0 + toN (some (↑k : Int)) 0 * 2) +
                                              min (toN none n - toN (some (↑k : Int)) 0)
                                                  (toN none
                                                      (toN (some (↑k : Int)) n - 0 +
                                                        Int.toNat
                                                          (IntKind.wrap IntKind.i64
                                                            (IntKind.wrap IntKind.i64 ((↑n : Int) + (1 : Int)) -
                                                              (↑k : Int)))) -
                                                    toN (some (IntKind.wrap IntKind.i64 ((↑k : Int) + (↑1 : Int))))
                                                      0) *
                                                2 ≤
                                            List.length vs ∧
                                          (if
                                                  toN none cap' =
                                                    toN (some (IntKind.wrap IntKind.i64 ((↑k : Int) + (↑1 : Int))))
                                                      0 then
                                                0
                                              else
                                                0 +
                                                  toN (some (IntKind.wrap IntKind.i64 ((↑k : Int) + (↑1 : Int))))
                                                      0 *
                                                    2) ≤
                                              List.length
                                                (layV
                                                  (List.take ((toN (some (↑k : Int)) n - 0) * 2) vs ++
                                                    zerosV
                                                      [Value.int IntKind.i64 (0 : Int), Value.slice none 0 0]
                                                      (Int.toNat
                                                        (IntKind.wrap IntKind.i64
                                                          (IntKind.wrap IntKind.i64 ((↑n : Int) + (1 : Int)) - (↑k : Int)))))
                                                  (if toN none cap' = toN (some (↑k : Int)) 0 then 0
                                                  else 0 + toN (some (↑k : Int)) 0 * 2)
                                                  (List.take
                                                    (min 1
                                                        (toN none
                                                            (toN (some (↑k : Int)) n - 0 +
                                                              Int.toNat
                                                                (IntKind.wrap IntKind.i64
                                                                  (IntKind.wrap IntKind.i64 ((↑n : Int) + (1 : Int)) -
                                                                    (↑k : Int)))) -
                                                          toN (some (↑k : Int)) 0) *
                                                      2)
                                                    [u, v])) ∧
                                            ((if
                                                        toN none cap' =
                                                          toN
                                                            (some
                                                              (IntKind.wrap IntKind.i64 ((↑k : Int) + (↑1 : Int))))
                                                            0 then
                                                      0
                                                    else
                                                      0 +
                                                        toN
                                                            (some
                                                              (IntKind.wrap IntKind.i64 ((↑k : Int) + (↑1 : Int))))
                                                            0 *
                                                          2) +
                                                    min (toN none n - toN (some (↑k : Int)) 0)
                                                        (toN none
                                                            (toN (some (↑k : Int)) n - 0 +
                                                              Int.toNat
                                                                (IntKind.wrap IntKind.i64
                                                                  (IntKind.wrap IntKind.i64 ((↑n : Int) + (1 : Int)) -
                                                                    (↑k : Int)))) -
                                                          toN
                                                            (some
                                                              (IntKind.wrap IntKind.i64 ((↑k : Int) + (↑1 : Int))))
                                                            0) *
                                                      2 ≤
                                                  List.length
                                                    (layV
                                                      (List.take ((toN (some (↑k : Int)) n - 0) * 2) vs ++
                                                        zerosV
                                                          [Value.int IntKind.i64 (0 : Int),
                                                            Value.slice none 0 0]
                                                          (Int.toNat
                                                            (IntKind.wrap IntKind.i64
                                                              (IntKind.wrap IntKind.i64 ((↑n : Int) + (1 : Int)) -
                                                                (↑k : Int)))))
                                                      (if toN none cap' = toN (some (↑k : Int)) 0 then 0
                                                      else 0 + toN (some (↑k : Int)) 0 * 2)
                                                      (List.take
                                                        (min 1
                                                            (toN none
                                                                (toN (some (↑k : Int)) n - 0 +
                                                                  Int.toNat
                                                                    (IntKind.wrap IntKind.i64
                                                                      (IntKind.wrap IntKind.i64 ((↑n : Int) + (1 : Int)) -
                                                                        (↑k : Int)))) -
                                                              toN (some (↑k : Int)) 0) *
                                                          2)
                                                        [u, v])) ∨
                                                (if
                                                        toN none cap' =
                                                          toN
                                                            (some
                                                              (IntKind.wrap IntKind.i64 ((↑k : Int) + (↑1 : Int))))
                                                            0 then
                                                      0
                                                    else
                                                      0 +
                                                        toN
                                                            (some
                                                              (IntKind.wrap IntKind.i64 ((↑k : Int) + (↑1 : Int))))
                                                            0 *
                                                          2) +
                                                    min (toN none n - toN (some (↑k : Int)) 0)
                                                        (toN none
                                                            (toN (some (↑k : Int)) n - 0 +
                                                              Int.toNat
                                                                (IntKind.wrap IntKind.i64
                                                                  (IntKind.wrap IntKind.i64 ((↑n : Int) + (1 : Int)) -
                                                                    (↑k : Int)))) -
                                                          toN
                                                            (some
                                                              (IntKind.wrap IntKind.i64 ((↑k : Int) + (↑1 : Int))))
                                                            0) *
                                                      2 ≤
                                                  tot') ∧
                                              (∀ (x : Value), List.Mem x vs → Value.oneCell' x = true) ∧
                                                K
                                                  (SV.slc 2 0
                                                    (toN (some (↑k : Int)) n - 0 +
                                                      Int.toNat
                                                        (IntKind.wrap IntKind.i64
                                                          (IntKind.wrap IntKind.i64 ((↑n : Int) + (1 : Int)) - (↑k : Int))))
                                                    cap')
                                                  [{ elem := 45, row := Row.vals vs, total := tot, own := true :
                                                      Box },
                                                    { elem := 45, row := Row.lst [SV.raw u, SV.raw v],
                                                      total := 2, own := true : Box },
                                                    { elem := 45,
                                                      row :=
                                                        Row.vals
                                                          (layV
                                                            (layV
                                                              (List.take ((toN (some (↑k : Int)) n - 0) * 2)
                                                                  vs ++
                                                                zerosV
                                                                  [Value.int IntKind.i64 (0 : Int),
                                                                    Value.slice none 0 0]
                                                                  (Int.toNat
                                                                    (IntKind.wrap IntKind.i64
                                                                      (IntKind.wrap IntKind.i64 ((↑n : Int) + (1 : Int)) -
                                                                        (↑k : Int)))))
                                                              (if toN none cap' = toN (some (↑k : Int)) 0 then
                                                                0
                                                              else 0 + toN (some (↑k : Int)) 0 * 2)
                                                              (List.take
                                                                (min 1
                                                                    (toN none
                                                                        (toN (some (↑k : Int)) n - 0 +
                                                                          Int.toNat
                                                                            (IntKind.wrap IntKind.i64
                                                                              (IntKind.wrap IntKind.i64
                                                                                  ((↑n : Int) + (1 : Int)) -
                                                                                (↑k : Int)))) -
                                                                      toN (some (↑k : Int)) 0) *
                                                                  2)
                                                                [u, v]))
                                                            (if
                                                                toN none cap' =
                                                                  toN
                                                                    (some
                                                                      (IntKind.wrap IntKind.i64
                                                                        ((↑k : Int) + (↑1 : Int))))
                                                                    0 then
                                                              0
                                                            else
                                                              0 +
                                                                toN
                                                                    (some
                                                                      (IntKind.wrap IntKind.i64
                                                                        ((↑k : Int) + (↑1 : Int))))
                                                                    0 *
                                                                  2)
                                                            (List.take
                                                              (min (toN none n - toN (some (↑k : Int)) 0)
                                                                  (toN none
                                                                      (toN (some (↑k : Int)) n - 0 +
                                                                        Int.toNat
                                                                          (IntKind.wrap IntKind.i64
                                                                            (IntKind.wrap IntKind.i64
                                                                                ((↑n : Int) + (1 : Int)) -
                                                                              (↑k : Int)))) -
                                                                    toN
                                                                      (some
                                                                        (IntKind.wrap IntKind.i64
                                                                          ((↑k : Int) + (↑1 : Int))))
                                                                      0) *
                                                                2)
                                                              (List.drop
                                                                (if toN none cap = toN (some (↑k : Int)) 0 then
                                                                  0
                                                                else 0 + toN (some (↑k : Int)) 0 * 2)
                                                                vs))),
                                                      total := tot', own := true : Box }]
                                                  E)))))))))
          else
            req
              ((0 : Int) ≤ IntKind.wrap IntKind.i64 ((↑n : Int) + (1 : Int)) ∧
                IntKind.wrap IntKind.i64 ((↑n : Int) + (1 : Int)) ≤ (↑(toN none cap) : Int))
              (req
                ((0 : Int) ≤ IntKind.wrap IntKind.i64 ((↑k : Int) + (1 : Int)) ∧
                  IntKind.wrap IntKind.i64 ((↑k : Int) + (1 : Int)) ≤
                    (↑(toN none (toN (some (IntKind.wrap IntKind.i64 ((↑n : Int) + (↑1 : Int)))) n - 0)) :
                      Int))
                ((1 = 0 → False) ∧
                  ∃ (y : Box),
                    ∃ (y' : Box),
                      some
                            { elem := 45, row := Row.lst [SV.raw u, SV.raw v], total := 2, own := true :
                              Box } =
                          some y ∧
                        some { elem := 45, row := Row.vals vs, total := tot, own := true : Box } = some y' ∧
                          y.own = true ∧
                            y'.own = true ∧
                              0 < y'.total ∧
                                req
                                  ((0 : Int) ≤ IntKind.wrap IntKind.i64 ((↑k : Int) + (1 : Int)) ∧
                                    IntKind.wrap IntKind.i64 ((↑k : Int) + (1 : Int)) ≤
                                      (↑(toN none
                                            (toN (some (IntKind.wrap IntKind.i64 ((↑n : Int) + (↑1 : Int)))) n -
                                              0)) :
                                        Int))
                                  (req
                                    ((0 : Int) ≤ (↑k : Int) ∧
                                      (↑k : Int) ≤
                                        (↑(toN none
                                              (toN (some (IntKind.wrap IntKind.i64 ((↑n : Int) + (↑1 : Int)))) n -
                                                0)) :
                                          Int))
                                    ((if toN none (toN none cap - 0) = toN (some (↑k : Int)) 0 then
                                            if toN none cap = 0 then 0 else 0
                                          else
                                            (if toN none cap = 0 then 0 else 0) +
                                              toN (some (↑k : Int)) 0 * 2) +
                                          min
                                              (toN none
                                                  (toN (some (IntKind.wrap IntKind.i64 ((↑n : Int) + (↑1 : Int)))) n -
                                                    0) -
                                                toN (some (↑k : Int)) 0)
                                              (toN none
                                                  (toN (some (IntKind.wrap IntKind.i64 ((↑n : Int) + (↑1 : Int)))) n -
                                                    0) -
                                                toN (some (IntKind.wrap IntKind.i64 ((↑k : Int) + (↑1 : Int))))
                                                  0) *
                                            2 ≤
                                        List.length vs ∧
                                      (if
                                              toN none (toN none cap - 0) =
                                                toN (some (IntKind.wrap IntKind.i64 ((↑k : Int) + (↑1 : Int))))
                                                  0 then
                                            if toN none cap = 0 then 0 else 0
                                          else
                                            (if toN none cap = 0 then 0 else 0) +
                                              toN (some (IntKind.wrap IntKind.i64 ((↑k : Int) + (↑1 : Int))))
                                                  0 *
                                                2) ≤
                                          List.length vs ∧
                                        ((if
                                                    toN none (toN none cap - 0) =
                                                      toN (some (IntKind.wrap IntKind.i64 ((↑k : Int) + (↑1 : Int))))
                                                        0 then
                                                  if toN none cap = 0 then 0 else 0
                                                else
                                                  (if toN none cap = 0 then 0 else 0) +
                                                    toN (some (IntKind.wrap IntKind.i64 ((↑k : Int) + (↑1 : Int))))
                                                        0 *
                                                      2) +
                                                min
                                                    (toN none
                                                        (toN
                                                            (some
                                                              (IntKind.wrap IntKind.i64 ((↑n : Int) + (↑1 : Int))))
                                                            n -
                                                          0) -
                                                      toN (some (↑k : Int)) 0)
                                                    (toN none
                                                        (toN
                                                            (some
                                                              (IntKind.wrap IntKind.i64 ((↑n : Int) + (↑1 : Int))))
                                                            n -
                                                          0) -
                                                      toN (some (IntKind.wrap IntKind.i64 ((↑k : Int) + (↑1 : Int))))
                                                        0) *
                                                  2 ≤
                                              List.length vs ∨
                                            (if
                                                    toN none (toN none cap - 0) =
                                                      toN (some (IntKind.wrap IntKind.i64 ((↑k : Int) + (↑1 : Int))))
                                                        0 then
                                                  if toN none cap = 0 then 0 else 0
                                                else
                                                  (if toN none cap = 0 then 0 else 0) +
                                                    toN (some (IntKind.wrap IntKind.i64 ((↑k : Int) + (↑1 : Int))))
                                                        0 *
                                                      2) +
                                                min
                                                    (toN none
                                                        (toN
                                                            (some
                                                              (IntKind.wrap IntKind.i64 ((↑n : Int) + (↑1 : Int))))
                                                            n -
                                                          0) -
                                                      toN (some (↑k : Int)) 0)
                                                    (toN none
                                                        (toN
                                                            (some
                                                              (IntKind.wrap IntKind.i64 ((↑n : Int) + (↑1 : Int))))
                                                            n -
                                                          0) -
                                                      toN (some (IntKind.wrap IntKind.i64 ((↑k : Int) + (↑1 : Int))))
                                                        0) *
                                                  2 ≤
                                              tot) ∧
                                          (∀ (x : Value), List.Mem x vs → Value.oneCell' x = true) ∧
                                            req
                                              ((0 : Int) ≤ (↑k : Int) ∧
                                                (↑k : Int) ≤
                                                  (↑(toN none
                                                        (toN
                                                            (some
                                                              (IntKind.wrap IntKind.i64 ((↑n : Int) + (↑1 : Int))))
                                                            n -
                                                          0)) :
                                                    Int))
                                              (req (2 ≤ 2 ∧ List.all [SV.raw u, SV.raw v] SV.one = true)
                                                ((if
                                                          toN none (toN none cap - 0) =
                                                            toN (some (↑k : Int)) 0 then
                                                        if toN none cap = 0 then 0 else 0
                                                      else
                                                        (if toN none cap = 0 then 0 else 0) +
                                                          toN (some (↑k : Int)) 0 * 2) +
                                                      (toN none
                                                            (toN
                                                                (some
                                                                  (IntKind.wrap IntKind.i64
                                                                    ((↑n : Int) + (↑1 : Int))))
                                                                n -
                                                              0) -
                                                          toN (some (↑k : Int)) 0) *
                                                        2 ≤
                                                    List.length
                                                      (layV vs
                                                        (if
                                                            toN none (toN none cap - 0) =
                                                              toN
                                                                (some
                                                                  (IntKind.wrap IntKind.i64
                                                                    ((↑k : Int) + (↑1 : Int))))
                                                                0 then
                                                          if toN none cap = 0 then 0 else 0
                                                        else
                                                          (if toN none cap = 0 then 0 else 0) +
                                                            toN
                                                                (some
                                                                  (IntKind.wrap IntKind.i64
                                                                    ((↑k : Int) + (↑1 : Int))))
                                                                0 *
                                                              2)
                                                        (List.take
                                                          (min
                                                              (toN none
                                                                  (toN
                                                                      (some
                                                                        (IntKind.wrap IntKind.i64
                                                                          ((↑n : Int) + (↑1 : Int))))
                                                                      n -
                                                                    0) -
                                                                toN (some (↑k : Int)) 0)
                                                              (toN none
                                                                  (toN
                                                                      (some
                                                                        (IntKind.wrap IntKind.i64
                                                                          ((↑n : Int) + (↑1 : Int))))
                                                                      n -
                                                                    0) -
                                                                toN
                                                                  (some
                                                                    (IntKind.wrap IntKind.i64
                                                                      ((↑k : Int) + (↑1 : Int))))
                                                                  0) *
                                                            2)
                                                          (List.drop
                                                            (if
                                                                toN none (toN none cap - 0) =
                                                                  toN (some (↑k : Int)) 0 then
                                                              if toN none cap = 0 then 0 else 0
                                                            else
                                                              (if toN none cap = 0 then 0 else 0) +
                                                                toN (some (↑k : Int)) 0 * 2)
                                                            vs))) ∧
                                                  K
                                                    (SV.slc 0
                                                      (if toN none cap = 0 then 0 else 0)
                                                      (toN (some (IntKind.wrap IntKind.i64 ((↑n : Int) + (↑1 : Int))))
                                                          n -
                                                        0)
                                                      (toN none cap - 0))
                                                    [{ elem := 45,
                                                        row :=
                                                          Row.vals
                                                            (layV
                                                              (layV vs
                                                                (if
                                                                    toN none (toN none cap - 0) =
                                                                      toN
                                                                        (some
                                                                          (IntKind.wrap IntKind.i64
                                                                            ((↑k : Int) + (↑1 : Int))))
                                                                        0 then
                                                                  if toN none cap = 0 then 0 else 0
                                                                else
                                                                  (if toN none cap = 0 then 0
                                                                    else 0) +
                                                                    toN
                                                                        (some
                                                                          (IntKind.wrap IntKind.i64
                                                                            ((↑k : Int) + (↑1 : Int))))
                                                                        0 *
                                                                      2)
                                                                (List.take
                                                                  (min
                                                                      (toN none
                                                                          (toN
                                                                              (some
                                                                                (IntKind.wrap IntKind.i64
                                                                                  ((↑n : Int) + (↑1 : Int))))
                                                                              n -
                                                                            0) -
                                                                        toN (some (↑k : Int)) 0)
                                                                      (toN none
                                                                          (toN
                                                                              (some
                                                                                (IntKind.wrap IntKind.i64
                                                                                  ((↑n : Int) + (↑1 : Int))))
                                                                              n -
                                                                            0) -
                                                                        toN
                                                                          (some
                                                                            (IntKind.wrap IntKind.i64
                                                                              ((↑k : Int) + (↑1 : Int))))
                                                                          0) *
                                                                    2)
                                                                  (List.drop
                                                                    (if
                                                                        toN none (toN none cap - 0) =
                                                                          toN (some (↑k : Int)) 0 then
                                                                      if toN none cap = 0 then 0
                                                                      else 0
                                                                    else
                                                                      (if toN none cap = 0 then 0
                                                                        else 0) +
                                                                        toN (some (↑k : Int)) 0 * 2)
                                                                    vs)))
                                                              (if
                                                                  toN none (toN none cap - 0) =
                                                                    toN (some (↑k : Int)) 0 then
                                                                if toN none cap = 0 then 0 else 0
                                                              else
                                                                (if toN none cap = 0 then 0 else 0) +
                                                                  toN (some (↑k : Int)) 0 * 2)
                                                              (List.take
                                                                (min 1
                                                                    (toN none
                                                                        (toN
                                                                            (some
                                                                              (IntKind.wrap IntKind.i64
                                                                                ((↑n : Int) + (↑1 : Int))))
                                                                            n -
                                                                          0) -
                                                                      toN (some (↑k : Int)) 0) *
                                                                  2)
                                                                [u, v])),
                                                        total := tot, own := true : Box },
                                                      { elem := 45, row := Row.lst [SV.raw u, SV.raw v],
                                                        total := 2, own := true : Box }]
                                                    E))))))))
  have w1 : IntKind.wrap .i64 ((n : Int) + 1) = ((n + 1 : Nat) : Int) := by rw [wrap_i64 (by omega)]; simp
  have w2 : IntKind.wrap .i64 ((k : Int) + 1) = ((k + 1 : Nat) : Int) := by rw [wrap_i64 (by omega)]; simp
  have w3 : IntKind.wrap .i64 (((n + 1 : Nat) : Int) - (k : Int)) = ((n + 1 - k : Nat) : Int) := by rw [wrap_i64 (by omega)]; omega
  refine req_intro (by simp only [toN]; omega) (condC (fun g => ?_) (fun g => ?_))
  · have g : k = n := by simp at g; omega
    refine req_intro ⟨by decide, hu⟩ ⟨by show _ ≤ (List.map SV.raw _).length; rw [List.length_map]; omega, hc.2, hc.1, req_intro (by omega) (fun cap' tot' c1 c2 => ?_)⟩
    have := hA g cap' tot' c1 c2
    unfold insV at this
    rw [g, List.drop_eq_nil_of_le (by omega), List.append_nil] at this
    exact this
  have g : k < n := by simp at g; omega
  simp only [w1, w2, w3, toNn, toNs, sub0, Int.toNat_natCast]
  refine condC (fun g2 => ?_) (fun g2 => ?_)
  · have g2 : cap < n + 1 := by simp at g2; omega
    refine req_intro (by omega) (req_intro ifz ⟨by omega, req_intro (by omega) (req_intro (by omega) (req_intro (by omega) (fun cap' tot' c1 c2 => ?_)))⟩)
    rw [show k + (n + 1 - k) = n + 1 from by omega] at c1 ⊢
    simp only [ifn (show ¬ cap' = k from by omega), ifn (show ¬ cap' = k + 1 from by omega), ifn (show ¬ cap = k from by omega), Nat.zero_add, show min 1 (n + 1 - k) = 1 from by omega, show min (n - k) (n + 1 - (k + 1)) = n - k from by omega]
    have hz : (List.take (k * 2) vs ++ zerosV [Value.int .i64 0, Value.slice none 0 0] (n + 1 - k)).length = (n + 1) * 2 := by
      rw [List.length_append, List.length_take, zeros2]; omega
    refine req_intro (by omega) (req_intro ⟨by decide, hu⟩ ⟨by rw [hz]; omega, req_intro (by omega) (req_intro (by omega) ⟨by omega, ?_, .inl ?_, ho, ?_⟩)⟩)
    · rw [lay_len (by show _ + 2 ≤ _; omega)]; omega
    · rw [lay_len (by show _ + 2 ≤ _; omega)]; omega
    · rw [insG hv g (zeros2 ..)]; exact hG cap' tot' c1 c2
  · have g2 : n + 1 ≤ cap := by simp at g2; omega
    simp only [ifz, ifn (show ¬ cap = k + 1 from by omega), ifn (show ¬ cap = k from by omega), Nat.zero_add, show min 1 (n + 1 - k) = 1 from by omega, show min (n + 1 - k) (n + 1 - (k + 1)) = n - k from by omega]
    have hL : (layV vs ((k + 1) * 2) (List.take ((n - k) * 2) (List.drop (k * 2) vs))).length = (n + 1) * 2 := by
      rw [lay_len2 (by omega) (by rw [List.length_take, List.length_drop]; omega), List.length_take, List.length_drop]; omega
    refine req_intro (by omega) (req_intro (by omega) ⟨(fun w => by cases w), _, _, rfl, rfl, rfl, rfl, by show 0 < tot; omega, req_intro (by omega) (req_intro (by omega) ⟨by omega, by omega, .inr (by omega), ho, req_intro (by omega) (req_intro ⟨by decide, hu⟩ ⟨by omega, ?_⟩)⟩)⟩)
    rw [insI hv g]
    exact hI g2
theorem ins29 {bx : List Box} {b b2 n k cap tot : Nat} {vs : List Value} {u v : Value} {K : KT} (hb : bx[b]? = some ⟨45, .vals vs, tot, true⟩) (hb2 : bx[b2]? = some ⟨45, .lst [.raw u, .raw v], 2, true⟩) (hne : b ≠ b2) (hv : n * 2 = vs.length) (ho : ∀ x : Value, List.Mem x vs → x.oneCell' = true) (hu : List.all [SV.raw u, SV.raw v] SV.one = true) (hc : n ≤ cap ∧ cap * 2 ≤ tot) (hk : k ≤ n) (hn : n ≤ 1000000)
    (h : ∀ cap' tot' : Nat, n + 1 ≤ cap' → cap' * 2 ≤ tot' → K (.slc bx.length 0 (n + 1) cap') (bx.set b ⟨45, .lst [], 0, false⟩ ++ [⟨45, .vals (insV vs k u v), tot', true⟩]) E) : CallSem Try.prog 29 [.slc b 0 n cap, I (k : Nat), .slc b2 0 1 1] bx E K := by
  refine frame (σ := [b, b2]) (bxs := [⟨45, .vals vs, tot, true⟩, ⟨45, .lst [.raw u, .raw v], 2, true⟩]) (args' := [.slc 0 0 n cap, I (k : Nat), .slc 1 0 1 1]) (K' := fun s bx' E' => ∃ cap' tot' : Nat, (n + 1 ≤ cap' ∧ cap' * 2 ≤ tot') ∧ s = .slc 2 0 (n + 1) cap' ∧ bx' = [⟨45, .lst [], 0, false⟩, ⟨45, .lst [.raw u, .raw v], 2, true⟩, ⟨45, .vals (insV vs k u v), tot', true⟩] ∧ E' = E) ⟨by simp [hne], rfl, fun i y hy => ?_⟩ ?_ (EntB.sem okI1 Try.func29 ⟨by kernel_rfl, by kernel_rfl⟩ (ent29 hv ho hu hc hk hn ?_ ?_ ?_)).clo ?_
  · match i, hy with
    | 0, hy =>
      simp only [List.getElem?_cons_zero, Option.some.injEq] at hy; subst hy
      exact ⟨rfl, b, rfl, hb⟩
    | 1, hy =>
      simp only [List.getElem?_cons_succ, List.getElem?_cons_zero, Option.some.injEq] at hy; subst hy
      exact ⟨rfl, b2, rfl, hb2⟩
  · simp [SV.renL, SV.ren, renF]
  · intro _ cap' tot' c1 c2
    show cloK 2 _ _ _ _
    exact cloK_intro [some 0, some 1, some 2] ⟨cap', tot', ⟨c1, c2⟩, rfl, rfl, rfl⟩ ⟨⟨by simp, by simp, fun j h => (by have e : j = 0 ∨ j = 1 := (by omega); rcases e with rfl | rfl <;> rfl)⟩, rfl, (by repeat' first | exact True.intro | refine And.intro (Or.inl rfl) ?_ | refine And.intro (Or.inr ⟨rfl, rfl⟩) ?_), (by repeat' first | exact True.intro | exact rfl | exact Or.inl rfl | exact (by decide : 0 < 3) | refine And.intro ?_ ?_), (show List.Nodup [1, 2] from by decide), Mem.le_refl _⟩
  · intro cap' tot' c1 c2
    show cloK 2 _ _ _ _
    exact cloK_intro [some 0, some 1, some 2] ⟨cap', tot', ⟨c1, c2⟩, rfl, rfl, rfl⟩ ⟨⟨by simp, by simp, fun j h => (by have e : j = 0 ∨ j = 1 := (by omega); rcases e with rfl | rfl <;> rfl)⟩, rfl, (by repeat' first | exact True.intro | refine And.intro (Or.inl rfl) ?_ | refine And.intro (Or.inr ⟨rfl, rfl⟩) ?_), (by repeat' first | exact True.intro | exact rfl | exact Or.inl rfl | exact (by decide : 0 < 3) | refine And.intro ?_ ?_), (show List.Nodup [1, 2] from by decide), Mem.le_refl _⟩
  · intro c1
    show cloK 2 _ _ _ _
    exact cloK_intro [some 0, some 1, some 0] ⟨cap, tot, ⟨c1, hc.2⟩, rfl, rfl, rfl⟩ ⟨⟨by simp, by simp, fun j h => (by have e : j = 0 ∨ j = 1 := (by omega); rcases e with rfl | rfl <;> rfl)⟩, rfl, (by repeat' first | exact True.intro | refine And.intro (Or.inl rfl) ?_ | refine And.intro (Or.inr ⟨rfl, rfl⟩) ?_), (by repeat' first | exact True.intro | exact rfl | exact Or.inl rfl | exact (by decide : 0 < 2) | refine And.intro ?_ ?_), (show List.Nodup [1, 0] from by decide), Mem.le_refl _⟩
  · rintro s bxs' E' ⟨cap', tot', ⟨c1, c2⟩, rfl, rfl, rfl⟩
    have e2 : (bx.set b ⟨45, .lst [], 0, false⟩).set b2 ⟨45, .lst [.raw u, .raw v], 2, true⟩ = bx.set b ⟨45, .lst [], 0, false⟩ := set_same (by rw [List.getElem?_set_ne hne]; exact hb2)
    have := h cap' tot' c1 c2
    simpa [merge, setAll, SV.ren, renF, Box.ren, Row.ren, SV.renL, e2] using this
noncomputable def I2 : Cx := { P := Try.prog, inl := fun f => List.contains [] f, tab := fun _ _ _ _ => False, isB := fun f => f == 44 || f == 48, tabB := tabO, opt := { unroll := 0, carry := [] }, muts := mutsD }
theorem okI2 : CxOK I2 := CxOK.four (fun _ _ _ _ h => h.elim) (by kernel_rfl) (okInl (by kernel_rfl)) tabO_ok
theorem ent34 {n k cap tot : Nat} {vs : List Value} {u v : Value} {K : KT} (hv : n * 2 = vs.length) (ho : ∀ x : Value, List.Mem x vs → x.oneCell' = true) (hu : List.all [SV.raw u, SV.raw v] SV.one = true) (hc : n ≤ cap ∧ cap * 2 ≤ tot) (hk : k ≤ n) (hn : n ≤ 1000000)
    (hA : k = n → ∀ cap' tot' : Nat, n + 1 ≤ cap' → cap' * 2 ≤ tot' → K (.slc 2 0 (n + 1) cap') [⟨47, .lst [], 0, false⟩, ⟨47, .lst [.raw u, .raw v], 2, true⟩, ⟨47, .vals (insV vs k u v), tot', true⟩] E)
    (hG : ∀ cap' tot' : Nat, n + 1 ≤ cap' → cap' * 2 ≤ tot' → K (.slc 2 0 (n + 1) cap') [⟨47, .vals vs, tot, true⟩, ⟨47, .lst [.raw u, .raw v], 2, true⟩, ⟨47, .vals (insV vs k u v), tot', true⟩] E)
    (hI : n + 1 ≤ cap → K (.slc 0 0 (n + 1) cap) [⟨47, .vals (insV vs k u v), tot, true⟩, ⟨47, .lst [.raw u, .raw v], 2, true⟩] E) :
    EntB I2 8 Try.f34 [.slc 0 0 n cap, I (k : Nat), .slc 1 0 1 1] [⟨47, .vals vs, tot, true⟩, ⟨47, .lst [.raw u, .raw v], 2, true⟩] E K := by
  refine same (by kernel_rfl) (?_ : 
      req ((0 : Int) ≤ (↑k : Int) ∧ (↑k : Int) ≤ (↑(toN none n) : Int))
        (bif (↑k : Int) == (↑n : Int) then
          req (2 ≤ 2 ∧ List.all [SV.raw u, SV.raw v] SV.one = true)
            (n * 2 ≤ List.length (Row.cells (Row.vals vs)) ∧
              cap * 2 ≤ tot ∧
                n ≤ cap ∧
                  req ((n + 1) * 16 ≤ 140737488355328)
                    (∀ (cap' tot' : Nat),
                      n + 1 ≤ cap' →
                        cap' * 2 ≤ tot' →
                          K (SV.slc 2 0 (n + 1) cap')
                            [{ elem := 47, row := Row.lst [], total := 0, own := false : Box },
                              { elem := 47, row := Row.lst [SV.raw u, SV.raw v], total := 2, own := true :
                                Box },
                              { elem := 47, row := Row.vals (List.take (n * 2) vs ++ [u, v]), total := tot',
                                own := true : Box }]
                            E))
        else
          bif decide (IntKind.wrap IntKind.i64 ((↑n : Int) + (1 : Int)) > (↑cap : Int)) then
            req ((0 : Int) ≤ (↑k : Int) ∧ (↑k : Int) ≤ (↑(toN none cap) : Int))
              (req ((if toN none cap = 0 then 0 else 0) = 0)
                ((toN (some (↑k : Int)) n - 0) * 2 ≤ List.length vs ∧
                  req ((0 : Int) < IntKind.wrap IntKind.i64 (IntKind.wrap IntKind.i64 ((↑n : Int) + (1 : Int)) - (↑k : Int)))
                    (req
                      ((↑(toN none cap - 0) : Int) <
                        (↑(toN (some (↑k : Int)) n - 0) : Int) +
                          IntKind.wrap IntKind.i64 (IntKind.wrap IntKind.i64 ((↑n : Int) + (1 : Int)) - (↑k : Int)))
                      (req
                        (((↑(toN (some (↑k : Int)) n - 0) : Int) +
                              IntKind.wrap IntKind.i64 (IntKind.wrap IntKind.i64 ((↑n : Int) + (1 : Int)) - (↑k : Int))) *
                            (16 : Int) ≤
                          (140737488355328 : Int))
                        (∀ (cap' tot' : Nat),
                          toN (some (↑k : Int)) n - 0 +
                                Int.toNat
                                  (IntKind.wrap IntKind.i64
                                    (IntKind.wrap IntKind.i64 ((↑n : Int) + (1 : Int)) - (↑k : Int))) ≤
                              cap' →
                            cap' * 2 ≤ tot' →
                              req
                                ((0 : Int) ≤ (↑k : Int) ∧
                                  (↑k : Int) ≤
                                    (↑(toN none
                                          (toN (some (↑k : Int)) n - 0 +
                                            Int.toNat
                                              (IntKind.wrap IntKind.i64
                                                (IntKind.wrap IntKind.i64 ((↑n : Int) + (1 : Int)) - (↑k : Int))))) :
                                      Int))
                                (req (2 ≤ 2 ∧ List.all [SV.raw u, SV.raw v] SV.one = true)
                                  ((if toN none cap' = toN (some (↑k : Int)) 0 then 0
                                        else 0 + toN (some (↑k : Int)) 0 * 2) +
                                        (toN none
                                              (toN (some (↑k : Int)) n - 0 +
                                                Int.toNat
                                                  (IntKind.wrap IntKind.i64
                                                    (IntKind.wrap IntKind.i64 ((↑n : Int) + (1 : Int)) - (↑k : Int)))) -
                                            toN (some (↑k : Int)) 0) *
                                          2 ≤
                                      List.length
                                        (List.take ((toN (some (↑k : Int)) n - 0) * 2) vs ++
                                          zerosV [Value.int IntKind.i64 (0 : Int), Value.int IntKind.i64 (0 : Int)]
                                            (Int.toNat
                                              (IntKind.wrap IntKind.i64
                                                (IntKind.wrap IntKind.i64 ((↑n : Int) + (1 : Int)) - (↑k : Int))))) ∧
                                    req
                                      ((0 : Int) ≤ IntKind.wrap IntKind.i64 ((↑k : Int) + (1 : Int)) ∧
                                        IntKind.wrap IntKind.i64 ((↑k : Int) + (1 : Int)) ≤
                                          (↑(toN none
                                                (toN (some (↑k : Int)) n - 0 +
                                                  Int.toNat
                                                    (IntKind.wrap IntKind.i64
                                                      (IntKind.wrap IntKind.i64 ((↑n : Int) + (1 : Int)) - (↑k : Int))))) :
                                            Int))
                                      (req ((0 : Int) ≤ (↑k : Int) ∧ (↑k : Int) ≤ (↑(toN none n) : Int))
                                        ((if toN none cap = toN (some (↑k : Int)) 0 then 0
                                              else 0 + toN (some (↑k : Int)) 0 * 2) +
                                              min (toN none n - toN (some (↑k : Int)) 0)
                                                  (toN none
                                                      (toN (some (↑k : Int)) n - 0 +
                                                        Int.toNat
                                                          (IntKind.wrap IntKind.i64
                                                            (IntKind.wrap IntKind.i64 ((↑n : Int) + (1 : Int)) -
                                                              (↑k : Int)))) -
                                                    toN (some (IntKind.wrap IntKind.i64 ((↑k : Int) + (↑1 : Int))))
                                                      0) *
                                                2 ≤
                                            List.length vs ∧
                                          (if
                                                  toN none cap' =
                                                    toN (some (IntKind.wrap IntKind.i64 ((↑k : Int) + (↑1 : Int))))
                                                      0 then
                                                0
                                              else
                                                0 +
                                                  toN (some (IntKind.wrap IntKind.i64 ((↑k : Int) + (↑1 : Int))))
                                                      0 *
                                                    2) ≤
                                              List.length
                                                (layV
                                                  (List.take ((toN (some (↑k : Int)) n - 0) * 2) vs ++
                                                    zerosV [Value.int IntKind.i64 (0 : Int), Value.int IntKind.i64 (0 : Int)]
                                                      (Int.toNat
                                                        (IntKind.wrap IntKind.i64
                                                          (IntKind.wrap IntKind.i64 ((↑n : Int) + (1 : Int)) - (↑k : Int)))))
                                                  (if toN none cap' = toN (some (↑k : Int)) 0 then 0
                                                  else 0 + toN (some (↑k : Int)) 0 * 2)
                                                  (List.take
                                                    (min 1
                                                        (toN none
                                                            (toN (some (↑k : Int)) n - 0 +
                                                              Int.toNat
                                                                (IntKind.wrap IntKind.i64
                                                                  (IntKind.wrap IntKind.i64 ((↑n : Int) + (1 : Int)) -
                                                                    (↑k : Int)))) -
                                                          toN (some (↑k : Int)) 0) *
                                                      2)
                                                    [u, v])) ∧
                                            ((if
                                                        toN none cap' =
                                                          toN
                                                            (some
                                                              (IntKind.wrap IntKind.i64 ((↑k : Int) + (↑1 : Int))))
                                                            0 then
                                                      0
                                                    else
                                                      0 +
                                                        toN
                                                            (some
                                                              (IntKind.wrap IntKind.i64 ((↑k : Int) + (↑1 : Int))))
                                                            0 *
                                                          2) +
                                                    min (toN none n - toN (some (↑k : Int)) 0)
                                                        (toN none
                                                            (toN (some (↑k : Int)) n - 0 +
                                                              Int.toNat
                                                                (IntKind.wrap IntKind.i64
                                                                  (IntKind.wrap IntKind.i64 ((↑n : Int) + (1 : Int)) -
                                                                    (↑k : Int)))) -
                                                          toN
                                                            (some
                                                              (IntKind.wrap IntKind.i64 ((↑k : Int) + (↑1 : Int))))
                                                            0) *
                                                      2 ≤
                                                  List.length
                                                    (layV
                                                      (List.take ((toN (some (↑k : Int)) n - 0) * 2) vs ++
                                                        zerosV
                                                          [Value.int IntKind.i64 (0 : Int), Value.int IntKind.i64 (0 : Int)]
                                                          (Int.toNat
                                                            (IntKind.wrap IntKind.i64
                                                              (IntKind.wrap IntKind.i64 ((↑n : Int) + (1 : Int)) -
                                                                (↑k : Int)))))
                                                      (if toN none cap' = toN (some (↑k : Int)) 0 then 0
                                                      else 0 + toN (some (↑k : Int)) 0 * 2)
                                                      (List.take
                                                        (min 1
                                                            (toN none
                                                                (toN (some (↑k : Int)) n - 0 +
                                                                  Int.toNat
                                                                    (IntKind.wrap IntKind.i64
                                                                      (IntKind.wrap IntKind.i64 ((↑n : Int) + (1 : Int)) -
                                                                        (↑k : Int)))) -
                                                              toN (some (↑k : Int)) 0) *
                                                          2)
                                                        [u, v])) ∨
                                                (if
                                                        toN none cap' =
                                                          toN
                                                            (some
                                                              (IntKind.wrap IntKind.i64 ((↑k : Int) + (↑1 : Int))))
                                                            0 then
                                                      0
                                                    else
                                                      0 +
                                                        toN
                                                            (some
                                                              (IntKind.wrap IntKind.i64 ((↑k : Int) + (↑1 : Int))))
                                                            0 *
                                                          2) +
                                                    min (toN none n - toN (some (↑k : Int)) 0)
                                                        (toN none
                                                            (toN (some (↑k : Int)) n - 0 +
                                                              Int.toNat
                                                                (IntKind.wrap IntKind.i64
                                                                  (IntKind.wrap IntKind.i64 ((↑n : Int) + (1 : Int)) -
                                                                    (↑k : Int)))) -
                                                          toN
                                                            (some
                                                              (IntKind.wrap IntKind.i64 ((↑k : Int) + (↑1 : Int))))
                                                            0) *
                                                      2 ≤
                                                  tot') ∧
                                              (∀ (x : Value), List.Mem x vs → Value.oneCell' x = true) ∧
                                                K
                                                  (SV.slc 2 0
                                                    (toN (some (↑k : Int)) n - 0 +
                                                      Int.toNat
                                                        (IntKind.wrap IntKind.i64
                                                          (IntKind.wrap IntKind.i64 ((↑n : Int) + (1 : Int)) - (↑k : Int))))
                                                    cap')
                                                  [{ elem := 47, row := Row.vals vs, total := tot, own := true :
                                                      Box },
                                                    { elem := 47, row := Row.lst [SV.raw u, SV.raw v],
                                                      total := 2, own := true : Box },
                                                    { elem := 47,
                                                      row :=
                                                        Row.vals
                                                          (layV
                                                            (layV
                                                              (List.take ((toN (some (↑k : Int)) n - 0) * 2)
                                                                  vs ++
                                                                zerosV
                                                                  [Value.int IntKind.i64 (0 : Int),
                                                                    Value.int IntKind.i64 (0 : Int)]
                                                                  (Int.toNat
                                                                    (IntKind.wrap IntKind.i64
                                                                      (IntKind.wrap IntKind.i64 ((↑n : Int) + (1 : Int)) -
                                                                        (↑k : Int)))))
                                                              (if toN none cap' = toN (some (↑k : Int)) 0 then
                                                                0
                                                              else 0 + toN (some (↑k : Int)) 0 * 2)
                                                              (List.take
                                                                (min 1
                                                                    (toN none
                                                                        (toN (some (↑k : Int)) n - 0 +
                                                                          Int.toNat
                                                                            (IntKind.wrap IntKind.i64
                                                                              (IntKind.wrap IntKind.i64
                                                                                  ((↑n : Int) + (1 : Int)) -
                                                                                (↑k : Int)))) -
                                                                      toN (some (↑k : Int)) 0) *
                                                                  2)
                                                                [u, v]))
                                                            (if
                                                                toN none cap' =
                                                                  toN
                                                                    (some
                                                                      (IntKind.wrap IntKind.i64
                                                                        ((↑k : Int) + (↑1 : Int))))
                                                                    0 then
                                                              0
                                                            else
                                                              0 +
                                                                toN
                                                                    (some
                                                                      (IntKind.wrap IntKind.i64
                                                                        ((↑k : Int) + (↑1 : Int))))
                                                                    0 *
                                                                  2)
                                                            (List.take
                                                              (min (toN none n - toN (some (↑k : Int)) 0)
                                                                  (toN none
                                                                      (toN (some (↑k : Int)) n - 0 +
                                                                        Int.toNat
                                                                          (IntKind.wrap IntKind.i64
                                                                            (IntKind.wrap IntKind.i64
                                                                                ((↑n : Int) + (1 : Int)) -
                                                                              (↑k : Int)))) -
                                                                    toN
                                                                      (some
                                                                        (IntKind.wrap IntKind.i64
                                                                          ((↑k : Int) + (↑1 : Int))))
                                                                      0) *
                                                                2)
                                                              (List.drop
                                                                (if toN none cap = toN (some (↑k : Int)) 0 then
                                                                  0
                                                                else 0 + toN (some (↑k : Int)) 0 * 2)
                                                                vs))),
                                                      total := tot', own := true : Box }]
                                                  E)))))))))
          else
            req
              ((0 : Int) ≤ IntKind.wrap IntKind.i64 ((↑n : Int) + (1 : Int)) ∧
                IntKind.wrap IntKind.i64 ((↑n : Int) + (1 : Int)) ≤ (↑(toN none cap) : Int))
              (req
                ((0 : Int) ≤ IntKind.wrap IntKind.i64 ((↑k : Int) + (1 : Int)) ∧
                  IntKind.wrap IntKind.i64 ((↑k : Int) + (1 : Int)) ≤
                    (↑(toN none (toN (some (IntKind.wrap IntKind.i64 ((↑n : Int) + (↑1 : Int)))) n - 0)) :
                      Int))
                ((1 = 0 → False) ∧
                  ∃ (y : Box),
                    ∃ (y' : Box),
                      some
                            { elem := 47, row := Row.lst [SV.raw u, SV.raw v], total := 2, own := true :
                              Box } =
                          some y ∧
                        some { elem := 47, row := Row.vals vs, total := tot, own := true : Box } = some y' ∧
                          y.own = true ∧
                            y'.own = true ∧
                              0 < y'.total ∧
                                req
                                  ((0 : Int) ≤ IntKind.wrap IntKind.i64 ((↑k : Int) + (1 : Int)) ∧
                                    IntKind.wrap IntKind.i64 ((↑k : Int) + (1 : Int)) ≤
                                      (↑(toN none
                                            (toN (some (IntKind.wrap IntKind.i64 ((↑n : Int) + (↑1 : Int)))) n -
                                              0)) :
                                        Int))
                                  (req
                                    ((0 : Int) ≤ (↑k : Int) ∧
                                      (↑k : Int) ≤
                                        (↑(toN none
                                              (toN (some (IntKind.wrap IntKind.i64 ((↑n : Int) + (↑1 : Int)))) n -
                                                0)) :
                                          Int))
                                    ((if toN none (toN none cap - 0) = toN (some (↑k : Int)) 0 then
                                            if toN none cap = 0 then 0 else 0
                                          else
                                            (if toN none cap = 0 then 0 else 0) +
                                              toN (some (↑k : Int)) 0 * 2) +
                                          min
                                              (toN none
                                                  (toN (some (IntKind.wrap IntKind.i64 ((↑n : Int) + (↑1 : Int)))) n -
                                                    0) -
                                                toN (some (↑k : Int)) 0)
                                              (toN none
                                                  (toN (some (IntKind.wrap IntKind.i64 ((↑n : Int) + (↑1 : Int)))) n -
                                                    0) -
                                                toN (some (IntKind.wrap IntKind.i64 ((↑k : Int) + (↑1 : Int))))
                                                  0) *
                                            2 ≤
                                        List.length vs ∧
                                      (if
                                              toN none (toN none cap - 0) =
                                                toN (some (IntKind.wrap IntKind.i64 ((↑k : Int) + (↑1 : Int))))
                                                  0 then
                                            if toN none cap = 0 then 0 else 0
                                          else
                                            (if toN none cap = 0 then 0 else 0) +
                                              toN (some (IntKind.wrap IntKind.i64 ((↑k : Int) + (↑1 : Int))))
                                                  0 *
                                                2) ≤
                                          List.length vs ∧
                                        ((if
                                                    toN none (toN none cap - 0) =
                                                      toN (some (IntKind.wrap IntKind.i64 ((↑k : Int) + (↑1 : Int))))
                                                        0 then
                                                  if toN none cap = 0 then 0 else 0
                                                else
                                                  (if toN none cap = 0 then 0 else 0) +
                                                    toN (some (IntKind.wrap IntKind.i64 ((↑k : Int) + (↑1 : Int))))
                                                        0 *
                                                      2) +
                                                min
                                                    (toN none
                                                        (toN
                                                            (some
                                                              (IntKind.wrap IntKind.i64 ((↑n : Int) + (↑1 : Int))))
                                                            n -
                                                          0) -
                                                      toN (some (↑k : Int)) 0)
                                                    (toN none
                                                        (toN
                                                            (some
                                                              (IntKind.wrap IntKind.i64 ((↑n : Int) + (↑1 : Int))))
                                                            n -
                                                          0) -
                                                      toN (some (IntKind.wrap IntKind.i64 ((↑k : Int) + (↑1 : Int))))
                                                        0) *
                                                  2 ≤
                                              List.length vs ∨
                                            (if
                                                    toN none (toN none cap - 0) =
                                                      toN (some (IntKind.wrap IntKind.i64 ((↑k : Int) + (↑1 : Int))))
                                                        0 then
                                                  if toN none cap = 0 then 0 else 0
                                                else
                                                  (if toN none cap = 0 then 0 else 0) +
                                                    toN (some (IntKind.wrap IntKind.i64 ((↑k : Int) + (↑1 : Int))))
                                                        0 *
                                                      2) +
                                                min
                                                    (toN none
                                                        (toN
                                                            (some
                                                              (IntKind.wrap IntKind.i64 ((↑n : Int) + (↑1 : Int))))
                                                            n -
                                                          0) -
                                                      toN (some (↑k : Int)) 0)
                                                    (toN none
                                                        (toN
                                                            (some
                                                              (IntKind.wrap IntKind.i64 ((↑n : Int) + (↑1 : Int))))
                                                            n -
                                                          0) -
                                                      toN (some (IntKind.wrap IntKind.i64 ((↑k : Int) + (↑1 : Int))))
                                                        0) *
                                                  2 ≤
                                              tot) ∧
                                          (∀ (x : Value), List.Mem x vs → Value.oneCell' x = true) ∧
                                            req
                                              ((0 : Int) ≤ (↑k : Int) ∧
                                                (↑k : Int) ≤
                                                  (↑(toN none
                                                        (toN
                                                            (some
                                                              (IntKind.wrap IntKind.i64 ((↑n : Int) + (↑1 : Int))))
                                                            n -
                                                          0)) :
                                                    Int))
                                              (req (2 ≤ 2 ∧ List.all [SV.raw u, SV.raw v] SV.one = true)
                                                ((if
                                                          toN none (toN none cap - 0) =
                                                            toN (some (↑k : Int)) 0 then
                                                        if toN none cap = 0 then 0 else 0
                                                      else
                                                        (if toN none cap = 0 then 0 else 0) +
                                                          toN (some (↑k : Int)) 0 * 2) +
                                                      (toN none
                                                            (toN
                                                                (some
                                                                  (IntKind.wrap IntKind.i64
                                                                    ((↑n : Int) + (↑1 : Int))))
                                                                n -
                                                              0) -
                                                          toN (some (↑k : Int)) 0) *
                                                        2 ≤
                                                    List.length
                                                      (layV vs
                                                        (if
                                                            toN none (toN none cap - 0) =
                                                              toN
                                                                (some
                                                                  (IntKind.wrap IntKind.i64
                                                                    ((↑k : Int) + (↑1 : Int))))
                                                                0 then
                                                          if toN none cap = 0 then 0 else 0
                                                        else
                                                          (if toN none cap = 0 then 0 else 0) +
                                                            toN
                                                                (some
                                                                  (IntKind.wrap IntKind.i64
                                                                    ((↑k : Int) + (↑1 : Int))))
                                                                0 *
                                                              2)
                                                        (List.take
                                                          (min
                                                              (toN none
                                                                  (toN
                                                                      (some
                                                                        (IntKind.wrap IntKind.i64
                                                                          ((↑n : Int) + (↑1 : Int))))
                                                                      n -
                                                                    0) -
                                                                toN (some (↑k : Int)) 0)
                                                              (toN none
                                                                  (toN
                                                                      (some
                                                                        (IntKind.wrap IntKind.i64
                                                                          ((↑n : Int) + (↑1 : Int))))
                                                                      n -
                                                                    0) -
                                                                toN
                                                                  (some
                                                                    (IntKind.wrap IntKind.i64
                                                                      ((↑k : Int) + (↑1 : Int))))
                                                                  0) *
                                                            2)
                                                          (List.drop
                                                            (if
                                                                toN none (toN none cap - 0) =
                                                                  toN (some (↑k : Int)) 0 then
                                                              if toN none cap = 0 then 0 else 0
                                                            else
                                                              (if toN none cap = 0 then 0 else 0) +
                                                                toN (some (↑k : Int)) 0 * 2)
                                                            vs))) ∧
                                                  K
                                                    (SV.slc 0
                                                      (if toN none cap = 0 then 0 else 0)
                                                      (toN (some (IntKind.wrap IntKind.i64 ((↑n : Int) + (↑1 : Int))))
                                                          n -
                                                        0)
                                                      (toN none cap - 0))
                                                    [{ elem := 47,
                                                        row :=
                                                          Row.vals
                                                            (layV
                                                              (layV vs
                                                                (if
                                                                    toN none (toN none cap - 0) =
                                                                      toN
                                                                        (some
                                                                          (IntKind.wrap IntKind.i64
                                                                            ((↑k : Int) + (↑1 : Int))))
                                                                        0 then
                                                                  if toN none cap = 0 then 0 else 0
                                                                else
                                                                  (if toN none cap = 0 then 0
                                                                    else 0) +
                                                                    toN
                                                                        (some
                                                                          (IntKind.wrap IntKind.i64
                                                                            ((↑k : Int) + (↑1 : Int))))
                                                                        0 *
                                                                      2)
                                                                (List.take
                                                                  (min
                                                                      (toN none
                                                                          (toN
                                                                              (some
                                                                                (IntKind.wrap IntKind.i64
                                                                                  ((↑n : Int) + (↑1 : Int))))
                                                                              n -
                                                                            0) -
                                                                        toN (some (↑k : Int)) 0)
                                                                      (toN none
                                                                          (toN
                                                                              (some
                                                                                (IntKind.wrap IntKind.i64
                                                                                  ((↑n : Int) + (↑1 : Int))))
                                                                              n -
                                                                            0) -
                                                                        toN
                                                                          (some
                                                                            (IntKind.wrap IntKind.i64
                                                                              ((↑k : Int) + (↑1 : Int))))
                                                                          0) *
                                                                    2)
                                                                  (List.drop
                                                                    (if
                                                                        toN none (toN none cap - 0) =
                                                                          toN (some (↑k : Int)) 0 then
                                                                      if toN none cap = 0 then 0
                                                                      else 0
                                                                    else
                                                                      (if toN none cap = 0 then 0
                                                                        else 0) +
                                                                        toN (some (↑k : Int)) 0 * 2)
                                                                    vs)))
                                                              (if
                                                                  toN none (toN none cap - 0) =
                                                                    toN (some (↑k : Int)) 0 then
                                                                if toN none cap = 0 then 0 else 0
                                                              else
                                                                (if toN none cap = 0 then 0 else 0) +
                                                                  toN (some (↑k : Int)) 0 * 2)
                                                              (List.take
                                                                (min 1
                                                                    (toN none
                                                                        (toN
                                                                            (some
                                                                              (IntKind.wrap IntKind.i64
                                                                                ((↑n : Int) + (↑1 : Int))))
                                                                            n -
                                                                          0) -
                                                                      toN (some (↑k : Int)) 0) *
                                                                  2)
                                                                [u, v])),
                                                        total := tot, own := true : Box },
                                                      { elem := 47, row := Row.lst [SV.raw u, SV.raw v],
                                                        total := 2, own := true : Box }]
                                                    E))))))))
  have w1 : IntKind.wrap .i64 ((n : Int) + 1) = ((n + 1 : Nat) : Int) := by rw [wrap_i64 (by omega)]; simp
  have w2 : IntKind.wrap .i64 ((k : Int) + 1) = ((k + 1 : Nat) : Int) := by rw [wrap_i64 (by omega)]; simp
  have w3 : IntKind.wrap .i64 (((n + 1 : Nat) : Int) - (k : Int)) = ((n + 1 - k : Nat) : Int) := by rw [wrap_i64 (by omega)]; omega
  refine req_intro (by simp only [toN]; omega) (condC (fun g => ?_) (fun g => ?_))
  · have g : k = n := by simp at g; omega
    refine req_intro ⟨by decide, hu⟩ ⟨by show _ ≤ (List.map SV.raw _).length; rw [List.length_map]; omega, hc.2, hc.1, req_intro (by omega) (fun cap' tot' c1 c2 => ?_)⟩
    have := hA g cap' tot' c1 c2
    unfold insV at this
    rw [g, List.drop_eq_nil_of_le (by omega), List.append_nil] at this
    exact this
  have g : k < n := by simp at g; omega
  simp only [w1, w2, w3, toNn, toNs, sub0, Int.toNat_natCast]
  refine condC (fun g2 => ?_) (fun g2 => ?_)
  · have g2 : cap < n + 1 := by simp at g2; omega
    refine req_intro (by omega) (req_intro ifz ⟨by omega, req_intro (by omega) (req_intro (by omega) (req_intro (by omega) (fun cap' tot' c1 c2 => ?_)))⟩)
    rw [show k + (n + 1 - k) = n + 1 from by omega] at c1 ⊢
    simp only [ifn (show ¬ cap' = k from by omega), ifn (show ¬ cap' = k + 1 from by omega), ifn (show ¬ cap = k from by omega), Nat.zero_add, show min 1 (n + 1 - k) = 1 from by omega, show min (n - k) (n + 1 - (k + 1)) = n - k from by omega]
    have hz : (List.take (k * 2) vs ++ zerosV [Value.int .i64 0, Value.int .i64 0] (n + 1 - k)).length = (n + 1) * 2 := by
      rw [List.length_append, List.length_take, zeros2]; omega
    refine req_intro (by omega) (req_intro ⟨by decide, hu⟩ ⟨by rw [hz]; omega, req_intro (by omega) (req_intro (by omega) ⟨by omega, ?_, .inl ?_, ho, ?_⟩)⟩)
    · rw [lay_len (by show _ + 2 ≤ _; omega)]; omega
    · rw [lay_len (by show _ + 2 ≤ _; omega)]; omega
    · rw [insG hv g (zeros2 ..)]; exact hG cap' tot' c1 c2
  · have g2 : n + 1 ≤ cap := by simp at g2; omega
    simp only [ifz, ifn (show ¬ cap = k + 1 from by omega), ifn (show ¬ cap = k from by omega), Nat.zero_add, show min 1 (n + 1 - k) = 1 from by omega, show min (n + 1 - k) (n + 1 - (k + 1)) = n - k from by omega]
    have hL : (layV vs ((k + 1) * 2) (List.take ((n - k) * 2) (List.drop (k * 2) vs))).length = (n + 1) * 2 := by
      rw [lay_len2 (by omega) (by rw [List.length_take, List.length_drop]; omega), List.length_take, List.length_drop]; omega
    refine req_intro (by omega) (req_intro (by omega) ⟨(fun w => by cases w), _, _, rfl, rfl, rfl, rfl, by show 0 < tot; omega, req_intro (by omega) (req_intro (by omega) ⟨by omega, by omega, .inr (by omega), ho, req_intro (by omega) (req_intro ⟨by decide, hu⟩ ⟨by omega, ?_⟩)⟩)⟩)
    rw [insI hv g]
    exact hI g2
theorem ins34 {bx : List Box} {b b2 n k cap tot : Nat} {vs : List Value} {u v : Value} {K : KT} (hb : bx[b]? = some ⟨47, .vals vs, tot, true⟩) (hb2 : bx[b2]? = some ⟨47, .lst [.raw u, .raw v], 2, true⟩) (hne : b ≠ b2) (hv : n * 2 = vs.length) (ho : ∀ x : Value, List.Mem x vs → x.oneCell' = true) (hu : List.all [SV.raw u, SV.raw v] SV.one = true) (hc : n ≤ cap ∧ cap * 2 ≤ tot) (hk : k ≤ n) (hn : n ≤ 1000000)
    (h : ∀ cap' tot' : Nat, n + 1 ≤ cap' → cap' * 2 ≤ tot' → K (.slc bx.length 0 (n + 1) cap') (bx.set b ⟨47, .lst [], 0, false⟩ ++ [⟨47, .vals (insV vs k u v), tot', true⟩]) E) : CallSem Try.prog 34 [.slc b 0 n cap, I (k : Nat), .slc b2 0 1 1] bx E K := by
  refine frame (σ := [b, b2]) (bxs := [⟨47, .vals vs, tot, true⟩, ⟨47, .lst [.raw u, .raw v], 2, true⟩]) (args' := [.slc 0 0 n cap, I (k : Nat), .slc 1 0 1 1]) (K' := fun s bx' E' => ∃ cap' tot' : Nat, (n + 1 ≤ cap' ∧ cap' * 2 ≤ tot') ∧ s = .slc 2 0 (n + 1) cap' ∧ bx' = [⟨47, .lst [], 0, false⟩, ⟨47, .lst [.raw u, .raw v], 2, true⟩, ⟨47, .vals (insV vs k u v), tot', true⟩] ∧ E' = E) ⟨by simp [hne], rfl, fun i y hy => ?_⟩ ?_ (EntB.sem okI2 Try.func34 ⟨by kernel_rfl, by kernel_rfl⟩ (ent34 hv ho hu hc hk hn ?_ ?_ ?_)).clo ?_
  · match i, hy with
    | 0, hy =>
      simp only [List.getElem?_cons_zero, Option.some.injEq] at hy; subst hy
      exact ⟨rfl, b, rfl, hb⟩
    | 1, hy =>
      simp only [List.getElem?_cons_succ, List.getElem?_cons_zero, Option.some.injEq] at hy; subst hy
      exact ⟨rfl, b2, rfl, hb2⟩
  · simp [SV.renL, SV.ren, renF]
  · intro _ cap' tot' c1 c2
    show cloK 2 _ _ _ _
    exact cloK_intro [some 0, some 1, some 2] ⟨cap', tot', ⟨c1, c2⟩, rfl, rfl, rfl⟩ ⟨⟨by simp, by simp, fun j h => (by have e : j = 0 ∨ j = 1 := (by omega); rcases e with rfl | rfl <;> rfl)⟩, rfl, (by repeat' first | exact True.intro | refine And.intro (Or.inl rfl) ?_ | refine And.intro (Or.inr ⟨rfl, rfl⟩) ?_), (by repeat' first | exact True.intro | exact rfl | exact Or.inl rfl | exact (by decide : 0 < 3) | refine And.intro ?_ ?_), (show List.Nodup [1, 2] from by decide), Mem.le_refl _⟩
  · intro cap' tot' c1 c2
    show cloK 2 _ _ _ _
    exact cloK_intro [some 0, some 1, some 2] ⟨cap', tot', ⟨c1, c2⟩, rfl, rfl, rfl⟩ ⟨⟨by simp, by simp, fun j h => (by have e : j = 0 ∨ j = 1 := (by omega); rcases e with rfl | rfl <;> rfl)⟩, rfl, (by repeat' first | exact True.intro | refine And.intro (Or.inl rfl) ?_ | refine And.intro (Or.inr ⟨rfl, rfl⟩) ?_), (by repeat' first | exact True.intro | exact rfl | exact Or.inl rfl | exact (by decide : 0 < 3) | refine And.intro ?_ ?_), (show List.Nodup [1, 2] from by decide), Mem.le_refl _⟩
  · intro c1
    show cloK 2 _ _ _ _
    exact cloK_intro [some 0, some 1, some 0] ⟨cap, tot, ⟨c1, hc.2⟩, rfl, rfl, rfl⟩ ⟨⟨by simp, by simp, fun j h => (by have e : j = 0 ∨ j = 1 := (by omega); rcases e with rfl | rfl <;> rfl)⟩, rfl, (by repeat' first | exact True.intro | refine And.intro (Or.inl rfl) ?_ | refine And.intro (Or.inr ⟨rfl, rfl⟩) ?_), (by repeat' first | exact True.intro | exact rfl | exact Or.inl rfl | exact (by decide : 0 < 2) | refine And.intro ?_ ?_), (show List.Nodup [1, 0] from by decide), Mem.le_refl _⟩
  · rintro s bxs' E' ⟨cap', tot', ⟨c1, c2⟩, rfl, rfl, rfl⟩
    have e2 : (bx.set b ⟨47, .lst [], 0, false⟩).set b2 ⟨47, .lst [.raw u, .raw v], 2, true⟩ = bx.set b ⟨47, .lst [], 0, false⟩ := set_same (by rw [List.getElem?_set_ne hne]; exact hb2)
    have := h cap' tot' c1 c2
    simpa [merge, setAll, SV.ren, renF, Box.ren, Row.ren, SV.renL, e2] using this

end Go.Proofs.Ytjibgfihfbdcaaa.SeenOwn
