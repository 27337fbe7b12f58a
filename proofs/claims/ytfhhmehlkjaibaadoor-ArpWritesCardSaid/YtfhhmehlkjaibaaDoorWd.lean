/- errors.As at why's errors. -/
import Derived.Test.YtfhhmehlkjaibaaDoorWc
namespace Go.Proofs.YtfhhmehlkjaibaaDoor
open Go.RowKit Go.Extern.Stop Go.Stop Go.Extern

/-- errors.errorType is error's type. -/
def Et (w : World) : Prop := w.cell? ⟨0, 0, none⟩ = some (.iface 113 (.agg #[.pointer (some ⟨1, 26, none⟩)]))
theorem Et.lt {w : World} (h : Et w) : 0 < w.heap.size := World.block_lt_of_cell? w _ h
theorem Et.kept {w w' : World} {S : Nat → Prop} (h : Et w) (hk : Kp S w w') (hn : ¬ S 0) : Et w' := (hk.cell (p := ⟨0, 0, none⟩) h.lt hn).trans h
theorem Chain.form {w : World} {e : Int} : ∀ {rs : List Int} {v : Value}, Chain w e rs v → (∃ x, v = .iface 22 x) ∨ ∃ x, v = .iface 73 x
  | [], _, h => .inl ⟨_, h⟩
  | _ :: _, _, ⟨_, _, h, _⟩ => .inr ⟨_, h⟩

set_option maxRecDepth 100000 in
set_option maxHeartbeats 4000000 in
theorem asInt (tb : Nat) (rs : List Int) (e x : Int) (v : Value) (w : World) (hE : Et w) (hc : Chain w e rs v) (ht : Bk w tb 22 #[.int .i64 x]) :
    Calls Tryd.prog 35 #[v, .iface 72 (.pointer (some ⟨tb, 0, none⟩))] w fun ev w' => ev = .returned (.bool true) ∧ Bk w' tb 22 #[.int .i64 e] ∧ Kp (fun b => b = tb) w w' := by
  have h81 := @run_callFunc_extern Tryd.prog 51 _ (fun args => ReflectliteValue.unpack (args.getD 0 (.tuple #[]))) Tryd.func51 (by kernel_rfl) (by kernel_rfl) (by kernel_rfl) (by kernel_rfl)
  have h82 := @run_callFunc_extern Tryd.prog 52 _ (ReflectliteValue.methodAny (ReflectliteValue.valueError "reflectlite.Value.Type" 0) (fun t _ _ _ => ReflectliteType.toType t)) Tryd.func52 (by kernel_rfl) (by kernel_rfl) (by kernel_rfl) (by kernel_rfl)
  have h83 := @run_callFunc_extern Tryd.prog 53 _ (ReflectliteValue.method (ReflectliteValue.valueError "reflectlite.Value.IsNil" 0) ReflectliteValue.isNil) Tryd.func53 (by kernel_rfl) (by kernel_rfl) (by kernel_rfl) (by kernel_rfl)
  have h107 := @run_callFunc_extern Tryd.prog 80 _ (ReflectliteType.abiMethod fun t => do pure (.int .u8 (← Rtype.kind t))) Tryd.func80 (by kernel_rfl) (by kernel_rfl) (by kernel_rfl) (by kernel_rfl)
  have h119 := @run_callFunc_extern Tryd.prog 92 _ (ReflectliteType.method ReflectliteType.elem) Tryd.func92 (by kernel_rfl) (by kernel_rfl) (by kernel_rfl) (by kernel_rfl)
  have h120 := @run_callFunc_extern Tryd.prog 93 _ (ReflectliteType.relation "Implements" ReflectliteType.implements_) Tryd.func93 (by kernel_rfl) (by kernel_rfl) (by kernel_rfl) (by kernel_rfl)
  have f1 := wyValueOf108
  have f2 := wyType108
  have f3 := wyMethodKind
  have f4 := wyKind108
  have f5 := wyMethodElem
  have f6 := wyElem108
  have f7 := wyKind27
  have f8 := wyMethodImplements
  have f9 := wyImplements27
  have kA := (Kp.refl (fun _ => False) w).alloc (.cells #[.pointer (some ⟨tb, 0, none⟩)] 72)
  have kB := kA.alloc (.cells #[.pointer (some ⟨1, 72, none⟩), .pointer (some ⟨w.heap.size, 0, none⟩), .int .u64 150] 95)
  have hA := Bk.new w 72 #[.pointer (some ⟨tb, 0, none⟩)]
  have hA2 := hA.alloc (.cells #[.pointer (some ⟨1, 72, none⟩), .pointer (some ⟨w.heap.size, 0, none⟩), .int .u64 150] 95)
  have hA3 := hA2.cell 0
  have n8 := wyIsNil108 ⟨w.heap.size, 0, none⟩ ⟨tb, 0, none⟩ _ hA3
  have hg := hE.kept kB (fun f => f)
  have hg : _ = _ := hg
  have hc2 := hc.none_kept kB
  have ht2 := ht.kept kB (fun f => f)
  have hv := hc.form
  have HA3 := Lib.hid hA3
  have HC2 := Lib.hid hc2
  have HT2 := Lib.hid ht2
  have HB := Lib.hid kB
  clear hA hA2 hA3 kA kB hE hc ht hc2 ht2
  rcases hv with ⟨y, rfl⟩ | ⟨y, rfl⟩
  all_goals
    go_enter Tryd.func35, Tryd.ntmps35
    go_wp2_with fail
    refine (as27 tb w.heap.size rs e x _ _ HC2.out HA3.out HT2.out).mono ?_
    rintro ev w1 ⟨rfl, k1, k2⟩
    have K1 := Lib.hid k1
    have K2 := Lib.hid ((HB.out.mono (T := fun b => b = tb) (fun _ f => f.elim)).trans' k2)
    clear k1 k2
    go_wp2_with fail
    go_ret
    exact ⟨rfl, K1.out, K2.out⟩
end Go.Proofs.YtfhhmehlkjaibaaDoor
