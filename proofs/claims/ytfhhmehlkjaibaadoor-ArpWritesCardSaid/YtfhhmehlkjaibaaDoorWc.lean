/- errors.as at a target that is a *fault. -/
import Derived.Test.YtfhhmehlkjaibaaDoorWb
namespace Go.Proofs.YtfhhmehlkjaibaaDoor
open Go.RowKit Go.Extern.Stop Go.Stop Go.Extern

set_option maxRecDepth 100000 in
set_option maxHeartbeats 4000000 in
theorem as109_no (tb pv : Nat) (e : Int) (w : World) :
    Calls Tryd.prog 54 #[.iface 22 (.int .i64 e), .iface 74 (.pointer (some ⟨tb, 0, none⟩)), .agg #[.pointer (some ⟨1, 74, none⟩), .pointer (some ⟨pv, 0, none⟩), .int .u64 150], .iface 113 (.agg #[.pointer (some ⟨1, 73, none⟩)])] w fun ev w' => ev = .returned (.bool false) ∧ Kp (fun _ => False) w w' := by
  have h85 := @run_callFunc_extern Tryd.prog 55 _ ReflectliteType.typeOf Tryd.func55 (by kernel_rfl) (by kernel_rfl) (by kernel_rfl) (by kernel_rfl)
  have h117 := @run_callFunc_extern Tryd.prog 90 _ (ReflectliteType.relation "AssignableTo" ReflectliteType.assignableTo) Tryd.func90 (by kernel_rfl) (by kernel_rfl) (by kernel_rfl) (by kernel_rfl)
  have f1 := wyTypeOf27
  have f3 := wyMethodAssignableTo
  have f4 := wyAssign27b
  have f6 := wyNoAs27
  have f7 := wyNoUnwrap27
  have f8 := wyNoUnwraps27
  go_enter Tryd.func54, Tryd.ntmps54
  go_wp2_with fail
  refine wp_loop_rounds 1 ?_
  rw [rounds_succ]
  go_wp2_with fail
  go_ret
  exact ⟨rfl, (Kp.refl _ w).alloc _⟩

set_option maxRecDepth 100000 in
set_option maxHeartbeats 4000000 in
theorem as109_hit (g tb pv : Nat) (old : Value) (w : World) (hp : w.cell? ⟨pv, 0, none⟩ = some (.pointer (some ⟨tb, 0, none⟩))) (ht : Bk w tb 73 #[old]) :
    Calls Tryd.prog 54 #[.iface 73 (.pointer (some ⟨g, 0, none⟩)), .iface 74 (.pointer (some ⟨tb, 0, none⟩)), .agg #[.pointer (some ⟨1, 74, none⟩), .pointer (some ⟨pv, 0, none⟩), .int .u64 150], .iface 113 (.agg #[.pointer (some ⟨1, 73, none⟩)])] w fun ev w' => ev = .returned (.bool true) ∧ Bk w' tb 73 #[.pointer (some ⟨g, 0, none⟩)] ∧ Kp (fun b => b = tb) w w' := by
  have h81 := @run_callFunc_extern Tryd.prog 51 _ (fun args => ReflectliteValue.unpack (args.getD 0 (.tuple #[]))) Tryd.func51 (by kernel_rfl) (by kernel_rfl) (by kernel_rfl) (by kernel_rfl)
  have h85 := @run_callFunc_extern Tryd.prog 55 _ ReflectliteType.typeOf Tryd.func55 (by kernel_rfl) (by kernel_rfl) (by kernel_rfl) (by kernel_rfl)
  have h117 := @run_callFunc_extern Tryd.prog 90 _ (ReflectliteType.relation "AssignableTo" ReflectliteType.assignableTo) Tryd.func90 (by kernel_rfl) (by kernel_rfl) (by kernel_rfl) (by kernel_rfl)
  have h91 := @run_callFunc_extern Tryd.prog 63 _ (ReflectliteValue.method (ReflectliteValue.valueError "reflectlite.Value.Elem" 0) ReflectliteValue.elem) Tryd.func63 (by kernel_rfl) (by kernel_rfl) (by kernel_rfl) (by kernel_rfl)
  have h92 := @run_callFunc_extern Tryd.prog 64 _ ReflectliteValue.set Tryd.func64 (by kernel_rfl) (by kernel_rfl) (by kernel_rfl) (by kernel_rfl)
  have f2 := wyTypeOf109
  have f3 := wyMethodAssignableTo
  have f4 := wyAssign109b
  have f9 := wyValueOf109
  have hpl : pv < w.heap.size := World.block_lt_of_cell? w _ hp
  have kB := (Kp.refl (fun _ => False) w).alloc (.cells #[.pointer (some ⟨1, 74, none⟩), .pointer (some ⟨pv, 0, none⟩), .int .u64 150] 95)
  have hp1 := (kB.cell (p := ⟨pv, 0, none⟩) hpl (fun f => f)).trans hp
  have ht1 := ht.kept kB (fun f => f)
  have hbx := Bk.new w 95 #[.pointer (some ⟨1, 74, none⟩), .pointer (some ⟨pv, 0, none⟩), .int .u64 150]
  have d0 := hbx.cell 0
  have d1 := hbx.cell 1
  have d2 := hbx.cell 2
  have f10 := wyElemV110 ⟨pv, 0, none⟩ ⟨tb, 0, none⟩ _ hp1
  have HB := Lib.hid kB
  have HT1 := Lib.hid ht1
  clear kB ht1 hp ht hp1 hbx
  go_enter Tryd.func54, Tryd.ntmps54
  go_wp2_with fail
  generalize hW : w.alloc (.cells #[.pointer (some ⟨1, 74, none⟩), .pointer (some ⟨pv, 0, none⟩), .int .u64 150] 95) = W at *
  clear hW
  have ha := (Kp.refl (fun _ => False) W).alloc (.cells #[.pointer (some ⟨g, 0, none⟩)] 73)
  have hb := HT1.out.kept ha (fun f => f)
  have st := wySet109 ⟨tb, 0, none⟩ ⟨W.heap.size, 0, none⟩ ⟨g, 0, none⟩ old (W.alloc (.cells #[.pointer (some ⟨g, 0, none⟩)] 73)) (by simp) (by rw [hb.cell 0]; rfl) (hb.frozen 0)
  have Hb := Lib.hid hb
  clear ha hb
  refine wp_loop_rounds 1 ?_
  rw [rounds_succ]
  go_wp2_with fail
  go_ret
  refine ⟨rfl, ?_, ?_⟩
  · simpa using Hb.out.put 0 (.pointer (some ⟨g, 0, none⟩))
  · exact Kp.setCell (S := fun b => b = tb) ((HB.out.mono (fun _ f => f.elim)).alloc _) (p := ⟨tb, 0, none⟩) (.inl rfl) _
end Go.Proofs.YtfhhmehlkjaibaaDoor
