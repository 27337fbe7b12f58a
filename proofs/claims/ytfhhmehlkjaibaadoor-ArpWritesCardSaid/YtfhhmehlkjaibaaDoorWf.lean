/- errors.Is at why's errors. -/
import Derived.Test.YtfhhmehlkjaibaaDoorWd
import Derived.Lib.IfaceEq
namespace Go.Proofs.YtfhhmehlkjaibaaDoor
open Go.RowKit Go.Extern.Stop Go.Stop Go.Extern

set_option maxRecDepth 100000 in
set_option maxHeartbeats 4000000 in
theorem is_loop (rs : List Int) (e o : Int) (b : Bool) (v : Value) (w : World) (hc : Chain w e rs v) (ho : (e == o) = b) :
    Calls Tryd.prog 56 #[v, .iface 22 (.int .i64 o), .bool true] w fun ev w' => ev = .returned (.bool b) ∧ w = w' := by
  have f1 := fun (x : Value) (w : World) => run_eql_iface_types (P := Tryd.prog) 73 22 x (.int .i64 o) Tryd.underlying26 (by decide) w
  have f2 := fun (w : World) => Lib.run_eql_iface_int (P := Tryd.prog) w (tx := 22) (k := .i64) e o Tryd.underlying26 (by kernel_rfl) Tryd.underlying22
  rw [ho] at f2
  have f3 := wyNoIs109
  have f4 := wyHasUnwrap109
  have f5 := wyMethodUnwrap
  have f6 := wyNoIs27
  have f7 := wyNoUnwrap27
  have f8 := wyNoUnwraps27
  have HC := Lib.hid hc
  clear hc ho
  go_enter Tryd.func56, Tryd.ntmps56
  go_wp2_with fail
  go_loopw [0] (fun u wr => ∃ rs' : List Int, Chain wr e rs' u ∧ wr = w) (fun u _ => depth w u)
  case atStart => exact ⟨rs, HC.out, rfl⟩
  case round =>
    obtain ⟨rs', hc, rfl⟩ := hrel
    cases rs' with
    | nil =>
      obtain rfl := hc
      cases b
      all_goals
        go_wp2_with fail
        go_ret
        exact ⟨rfl, rfl⟩
    | cons r rs' =>
      obtain ⟨g, v', rfl, hb, hc'⟩ := hc
      have Hb := Lib.hid hb
      have Hc' := Lib.hid hc'
      clear hb hc'
      go_wp2_with fail
      refine (unwrap_any g r v' _ Hb.out).mono ?_
      rintro ee w1 ⟨rfl, rfl⟩
      have hd1 : depth wr (.iface 73 (.pointer (some ⟨g, 0, none⟩))) = rs'.length + 1 := Chain.depth (e := e) (rs := r :: rs') ⟨g, v', rfl, Hb.out, Hc'.out⟩
      have hd2 : depth wr v' = rs'.length := Hc'.out.depth
      have Hd1 := Lib.hid hd1
      have Hd2 := Lib.hid hd2
      clear hd1 hd2
      rcases Hc'.out.form with ⟨x, rfl⟩ | ⟨x, rfl⟩
      all_goals
        go_wp2_with fail
        go_roundw
        case rel => exact ⟨rs', Hc'.out, trivial⟩
        case measure => rw [Hd1.out, Hd2.out]; omega

/-- What the model lays for rtype's Comparable. -/
def wyCmp : Array Value → Sem Value := ReflectliteType.method fun t => do Rtype.noPackHeld "Comparable" t; pure (.bool (← typeInfo t).comparable)
theorem wyCmp27 (w : World) : (wyCmp #[.agg #[.pointer (some ⟨1, 22, none⟩)]]).run Tryd.prog w = .ok (.bool true) w := by kernel_rfl

set_option maxRecDepth 100000 in
set_option maxHeartbeats 4000000 in
theorem isErr (rs : List Int) (e o : Int) (b : Bool) (v : Value) (w : World) (hc : Chain w e rs v) (ho : (e == o) = b) :
    Calls Tryd.prog 36 #[v, .iface 22 (.int .i64 o)] w fun ev w' => ev = .returned (.bool b) ∧ w = w' := by
  have h85 := @run_callFunc_extern Tryd.prog 55 _ ReflectliteType.typeOf Tryd.func55 (by kernel_rfl) (by kernel_rfl) (by kernel_rfl) (by kernel_rfl)
  have h118 := @run_callFunc_extern Tryd.prog 91 _ wyCmp Tryd.func91 (by kernel_rfl) (by kernel_rfl) (by kernel_rfl) (by kernel_rfl)
  have f1 := wyTypeOf27
  have f2 := wyMethodComparable
  have f3 := wyCmp27
  have hv := hc.form
  have HC := Lib.hid hc
  have HO := Lib.hid ho
  clear hc ho
  rcases hv with ⟨y, rfl⟩ | ⟨y, rfl⟩
  all_goals
    go_enter Tryd.func36, Tryd.ntmps36
    go_wp2_with fail
    refine (is_loop rs e o b _ _ HC.out HO.out).mono ?_
    rintro ev w1 ⟨rfl, rfl⟩
    go_wp2_with fail
    go_ret
    exact ⟨rfl, rfl⟩
end Go.Proofs.YtfhhmehlkjaibaaDoor
