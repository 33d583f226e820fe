import Derived.HandedShaped
import Derived.SizedLaws
import Derived.LaidLaws
import Derived.Lay
import Derived.Shelf.Vars
import Derived.Test.YtpcmkjimdhlhiaaGreatDoorGlob
namespace Go.Proofs.YtpcmkjimdhlhiaaGreatDoor
open Go
/-- The lift of a contract to a law's row that lists variables; the contract may use the world's shape. -/
theorem lift_laid {H : Type} {enc : TypeId × Value → H} {C : Checked} {os : Os} {f : FuncId} {fn : Func} {s : ChangeSpec} {l : List (String × DataW Unit)}
    (own : ownKnob C.prog.godebug = none) (started : os.Started) (noInit : C.prog.inits.idxOf? f = none) (hfn : C.prog.funcs[f]? = some fn)
    (wit : ∃ (w : World) (tape : Tape) (i : Input), w.os = os ∧ (w.forCall tape i).Shaped C.prog ∧ i.vars = [] ∧ Input.okWide C.prog (w.forCall tape i) .any w.heap.size f i ∧
      ((s.pre enc C.prog fn [] false (w.forCall tape i).memory i.args ∧ laidMetH C.prog l (w.forCall tape i).memory) ∧ sizedMet enc C.prog fn (OpenSpec.ofChange s) false (w.forCall tape i).memory i.args) ∧ ({} : Assume).holds C.prog (lone (Frame.enter C.prog f i.args .normal) [] (w.forCall tape i)))
    (con : ∀ (W : World) (base : Nat) (args : Array Value) (ds gs : List (DataW H)) (before : List MemPlace),
      (∀ (j : Nat) t v, fn.params[j]? = some t → args[j]? = some v → Value.okWide C.prog W .any base t v) →
      DataW.Whole enc C.prog fn.params.toList s.vars false W args.toList ds gs before →
      (DataW.weightsEach C.prog (fn.params.toList ++ s.plain.varTypes C.prog) (ds ++ gs)).all (· ≤ reachBytes) = true → W.ShapedOpen C.prog →
      Calls C.prog f args W fun e W' => ∃ v, e = .returned v ∧ s.post enc C.prog fn false true false false W args v W') :
    ReturnsInHanded {} C os f .any (fun w args => (s.pre enc C.prog fn [] false w args ∧ laidMetH C.prog l w) ∧ sizedMet enc C.prog fn (OpenSpec.ofChange s) false w args) (s.post enc C.prog fn false true false false) := by
  refine returnsInHanded_of_calls own started noInit wit fun w tape i _ hs _ ho hp _ => ?_
  obtain ⟨⟨⟨ds, gs, bf, hw, _⟩, _⟩, hz⟩ := hp
  obtain ⟨_, _, _, fn2, hfn2, _, _, _, _, hv⟩ := ho
  obtain rfl : fn2 = fn := Option.some.inj (hfn2.symm.trans hfn)
  have hwh := DataW.Whole.of_heap (w' := w.forCall tape i) (by rfl) hw
  refine (con (w.forCall tape i) w.heap.size i.args ds gs bf hv hwh (hz.weights hw) hs).mono ?_
  rintro e W' ⟨v, rfl, hpo⟩
  exact ChangeSpec.post_blind hpo
/-- The cell of internal/bytealg.MaxLen holds a number in each world of the program's shape. -/
theorem glob_of_shape {w : World} (h : w.ShapedOpen Tryz.prog) : P.GlobOk w :=
  ⟨cell_of_shapedOpen_int (k := .i64) (g := 0) (t := 3) (zero := #[.int .i64 0]) h (of_decide_eq_true (by kernel_rfl)) (by kernel_rfl) rfl (by kernel_rfl) (by kernel_rfl) Tryz.underlying3⟩
end Go.Proofs.YtpcmkjimdhlhiaaGreatDoor
