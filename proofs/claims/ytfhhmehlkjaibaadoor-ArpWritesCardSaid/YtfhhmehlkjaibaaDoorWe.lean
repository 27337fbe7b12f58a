/- errors.As at why's errors, the target a *fault. -/
import Derived.Test.YtfhhmehlkjaibaaDoorWd
namespace Go.Proofs.YtfhhmehlkjaibaaDoor
open Go.RowKit Go.Extern.Stop Go.Stop Go.Extern

set_option maxRecDepth 100000 in
set_option maxHeartbeats 4000000 in
theorem asFault_hit (g tb : Nat) (old : Value) (w : World) (hE : Et w) (ht : Bk w tb 73 #[old]) :
    Calls Tryd.prog 35 #[.iface 73 (.pointer (some ⟨g, 0, none⟩)), .iface 74 (.pointer (some ⟨tb, 0, none⟩))] w fun ev w' => ev = .returned (.bool true) ∧ Bk w' tb 73 #[.pointer (some ⟨g, 0, none⟩)] ∧ Kp (fun b => b = tb) w w' := by
  have h81 := @run_callFunc_extern Tryd.prog 51 _ (fun args => ReflectliteValue.unpack (args.getD 0 (.tuple #[]))) Tryd.func51 (by kernel_rfl) (by kernel_rfl) (by kernel_rfl) (by kernel_rfl)
  have h82 := @run_callFunc_extern Tryd.prog 52 _ (ReflectliteValue.methodAny (ReflectliteValue.valueError "reflectlite.Value.Type" 0) (fun t _ _ _ => ReflectliteType.toType t)) Tryd.func52 (by kernel_rfl) (by kernel_rfl) (by kernel_rfl) (by kernel_rfl)
  have h83 := @run_callFunc_extern Tryd.prog 53 _ (ReflectliteValue.method (ReflectliteValue.valueError "reflectlite.Value.IsNil" 0) ReflectliteValue.isNil) Tryd.func53 (by kernel_rfl) (by kernel_rfl) (by kernel_rfl) (by kernel_rfl)
  have h107 := @run_callFunc_extern Tryd.prog 80 _ (ReflectliteType.abiMethod fun t => do pure (.int .u8 (← Rtype.kind t))) Tryd.func80 (by kernel_rfl) (by kernel_rfl) (by kernel_rfl) (by kernel_rfl)
  have h119 := @run_callFunc_extern Tryd.prog 92 _ (ReflectliteType.method ReflectliteType.elem) Tryd.func92 (by kernel_rfl) (by kernel_rfl) (by kernel_rfl) (by kernel_rfl)
  have h120 := @run_callFunc_extern Tryd.prog 93 _ (ReflectliteType.relation "Implements" ReflectliteType.implements_) Tryd.func93 (by kernel_rfl) (by kernel_rfl) (by kernel_rfl) (by kernel_rfl)
  have f1 := wyValueOf110
  have f2 := wyType110
  have f3 := wyMethodKind
  have f4 := wyKind110
  have f5 := wyMethodElem
  have f6 := wyElem110
  have f7 := wyKind109
  have f8 := wyMethodImplements
  have f9 := wyImplements109
  have kA := (Kp.refl (fun _ => False) w).alloc (.cells #[.pointer (some ⟨tb, 0, none⟩)] 74)
  have kB := kA.alloc (.cells #[.pointer (some ⟨1, 74, none⟩), .pointer (some ⟨w.heap.size, 0, none⟩), .int .u64 150] 95)
  have hA := Bk.new w 74 #[.pointer (some ⟨tb, 0, none⟩)]
  have hA2 := hA.alloc (.cells #[.pointer (some ⟨1, 74, none⟩), .pointer (some ⟨w.heap.size, 0, none⟩), .int .u64 150] 95)
  have hA3 := hA2.cell 0
  have n8 := wyIsNil110 ⟨w.heap.size, 0, none⟩ ⟨tb, 0, none⟩ _ hA3
  have hg := hE.kept kB (fun f => f)
  have hg : _ = _ := hg
  have ht2 := ht.kept kB (fun f => f)
  have HA3 := Lib.hid hA3
  have HT2 := Lib.hid ht2
  have HB := Lib.hid kB
  clear hA hA2 hA3 kA kB hE ht ht2
  go_enter Tryd.func35, Tryd.ntmps35
  go_wp2_with fail
  refine (as109_hit g tb w.heap.size old _ HA3.out HT2.out).mono ?_
  rintro ev w1 ⟨rfl, k1, k2⟩
  have K1 := Lib.hid k1
  have K2 := Lib.hid ((HB.out.mono (T := fun b => b = tb) (fun _ f => f.elim)).trans' k2)
  clear k1 k2
  go_wp2_with fail
  go_ret
  exact ⟨rfl, K1.out, K2.out⟩

set_option maxRecDepth 100000 in
set_option maxHeartbeats 4000000 in
theorem asFault_no (tb : Nat) (e : Int) (w : World) (hE : Et w) :
    Calls Tryd.prog 35 #[.iface 22 (.int .i64 e), .iface 74 (.pointer (some ⟨tb, 0, none⟩))] w fun ev w' => ev = .returned (.bool false) ∧ Kp (fun _ => False) w w' := by
  have h81 := @run_callFunc_extern Tryd.prog 51 _ (fun args => ReflectliteValue.unpack (args.getD 0 (.tuple #[]))) Tryd.func51 (by kernel_rfl) (by kernel_rfl) (by kernel_rfl) (by kernel_rfl)
  have h82 := @run_callFunc_extern Tryd.prog 52 _ (ReflectliteValue.methodAny (ReflectliteValue.valueError "reflectlite.Value.Type" 0) (fun t _ _ _ => ReflectliteType.toType t)) Tryd.func52 (by kernel_rfl) (by kernel_rfl) (by kernel_rfl) (by kernel_rfl)
  have h83 := @run_callFunc_extern Tryd.prog 53 _ (ReflectliteValue.method (ReflectliteValue.valueError "reflectlite.Value.IsNil" 0) ReflectliteValue.isNil) Tryd.func53 (by kernel_rfl) (by kernel_rfl) (by kernel_rfl) (by kernel_rfl)
  have h107 := @run_callFunc_extern Tryd.prog 80 _ (ReflectliteType.abiMethod fun t => do pure (.int .u8 (← Rtype.kind t))) Tryd.func80 (by kernel_rfl) (by kernel_rfl) (by kernel_rfl) (by kernel_rfl)
  have h119 := @run_callFunc_extern Tryd.prog 92 _ (ReflectliteType.method ReflectliteType.elem) Tryd.func92 (by kernel_rfl) (by kernel_rfl) (by kernel_rfl) (by kernel_rfl)
  have h120 := @run_callFunc_extern Tryd.prog 93 _ (ReflectliteType.relation "Implements" ReflectliteType.implements_) Tryd.func93 (by kernel_rfl) (by kernel_rfl) (by kernel_rfl) (by kernel_rfl)
  have f1 := wyValueOf110
  have f2 := wyType110
  have f3 := wyMethodKind
  have f4 := wyKind110
  have f5 := wyMethodElem
  have f6 := wyElem110
  have f7 := wyKind109
  have f8 := wyMethodImplements
  have f9 := wyImplements109
  have kA := (Kp.refl (fun _ => False) w).alloc (.cells #[.pointer (some ⟨tb, 0, none⟩)] 74)
  have kB := kA.alloc (.cells #[.pointer (some ⟨1, 74, none⟩), .pointer (some ⟨w.heap.size, 0, none⟩), .int .u64 150] 95)
  have hA := Bk.new w 74 #[.pointer (some ⟨tb, 0, none⟩)]
  have hA2 := hA.alloc (.cells #[.pointer (some ⟨1, 74, none⟩), .pointer (some ⟨w.heap.size, 0, none⟩), .int .u64 150] 95)
  have hA3 := hA2.cell 0
  have n8 := wyIsNil110 ⟨w.heap.size, 0, none⟩ ⟨tb, 0, none⟩ _ hA3
  have hg := hE.kept kB (fun f => f)
  have hg : _ = _ := hg
  have HA3 := Lib.hid hA3
  have HB := Lib.hid kB
  clear hA hA2 hA3 kA kB hE
  go_enter Tryd.func35, Tryd.ntmps35
  go_wp2_with fail
  refine (as109_no tb w.heap.size e _).mono ?_
  rintro ev w1 ⟨rfl, k2⟩
  have K2 := Lib.hid (HB.out.trans' k2)
  clear k2
  go_wp2_with fail
  go_ret
  exact ⟨rfl, K2.out⟩
end Go.Proofs.YtfhhmehlkjaibaaDoor
