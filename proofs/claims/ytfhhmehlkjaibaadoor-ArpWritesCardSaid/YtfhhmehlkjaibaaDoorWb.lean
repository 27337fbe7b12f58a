/- why's errors in memory; errors.as at them. -/
import Derived.Test.YtfhhmehlkjaibaaDoorWa
namespace Go.Proofs.YtfhhmehlkjaibaaDoor
open Go.RowKit Go.Extern.Stop Go.Stop Go.Extern

/-- An error of api's, wrapped by reasons, the outermost first. -/
def Chain (w : World) (e : Int) : List Int → Value → Prop
  | [], v => v = .iface 22 (.int .i64 e)
  | r :: rs, v => ∃ g v', v = .iface 73 (.pointer (some ⟨g, 0, none⟩)) ∧ Bk w g 76 #[.int .i64 r, v'] ∧ Chain w e rs v'
theorem Chain.kept {w w' : World} {e : Int} {S : Nat → Prop} : ∀ {rs : List Int} {v : Value}, Chain w e rs v → Kp S w w' → (∀ k cs, Bk w k 76 cs → ¬ S k) → Chain w' e rs v
  | [], _, h, _, _ => h
  | _ :: _, _, ⟨g, v', h1, h2, h3⟩, hk, hS => ⟨g, v', h1, h2.kept hk (hS _ _ h2), h3.kept hk hS⟩
theorem Chain.none_kept {w w' : World} {e : Int} {rs : List Int} {v : Value} (h : Chain w e rs v) (hk : Kp (fun _ => False) w w') : Chain w' e rs v := h.kept hk (fun _ _ _ f => f)
theorem Chain.det {w : World} {e e' : Int} : ∀ {rs rs' : List Int} {v : Value}, Chain w e rs v → Chain w e' rs' v → e = e' ∧ rs = rs'
  | [], [], v, h, h' => by
    have h1 : v = .iface 22 (.int .i64 e) := h
    have h2 : v = .iface 22 (.int .i64 e') := h'
    rw [h1] at h2
    cases h2
    exact ⟨rfl, rfl⟩
  | [], r :: rs, v, h, ⟨g, v', h1, _⟩ => by
    have h2 : v = .iface 22 (.int .i64 e) := h
    rw [h2] at h1
    injection h1 with h3
    cases h3
  | r :: rs, [], v, ⟨g, v', h1, _⟩, h => by
    have h2 : v = .iface 22 (.int .i64 e') := h
    rw [h2] at h1
    injection h1 with h3
    cases h3
  | r :: rs, r' :: rs', v, ⟨g, v', h1, h2, h3⟩, ⟨g', v'', k1, k2, k3⟩ => by
    rw [h1] at k1
    injection k1 with _ k1
    injection k1 with k1
    injection k1 with k1
    injection k1 with k1
    subst k1
    have q0 : Value.int .i64 r = .int .i64 r' := Option.some.inj ((h2.cell 0).symm.trans (k2.cell 0))
    have q1 : v' = v'' := Option.some.inj ((h2.cell 1).symm.trans (k2.cell 1))
    injection q0 with _ q2
    rw [← q1] at k3
    obtain ⟨a, b⟩ := Chain.det h3 k3
    exact ⟨a, by rw [q2, b]⟩
open Classical in
/-- How many reasons stand in an error. -/
noncomputable def depth (w : World) (v : Value) : Nat := if h : ∃ (rs : List Int) (e : Int), Chain w e rs v then h.choose.length else 0
theorem Chain.depth {w : World} {e : Int} {rs : List Int} {v : Value} (h : Chain w e rs v) : YtfhhmehlkjaibaaDoor.depth w v = rs.length := by
  have hx : ∃ (rs : List Int) (e : Int), Chain w e rs v := ⟨rs, e, h⟩
  unfold YtfhhmehlkjaibaaDoor.depth
  rw [dif_pos hx]
  obtain ⟨e', h'⟩ := hx.choose_spec
  rw [(h.det h').2]

theorem unwrap_any (g : Nat) (r : Int) (v : Value) (w : World) (h : Bk w g 76 #[.int .i64 r, v]) :
    Calls Tryd.prog 85 #[.pointer (some ⟨g, 0, none⟩)] w fun e w' => e = .returned v ∧ w = w' := by
  have c1 := h.cell 1
  have c1 : w.cell? ⟨g, 1, none⟩ = some v := c1
  go_enter Tryd.func85, Tryd.ntmps85
  go_wp2_with fail
  go_ret
  exact ⟨rfl, rfl⟩

set_option maxRecDepth 100000 in
set_option maxHeartbeats 4000000 in
theorem as27 (tb pv : Nat) (rs : List Int) (e x : Int) (v : Value) (w : World) (hc : Chain w e rs v) (hp : w.cell? ⟨pv, 0, none⟩ = some (.pointer (some ⟨tb, 0, none⟩))) (ht : Bk w tb 22 #[.int .i64 x]) :
    Calls Tryd.prog 54 #[v, .iface 72 (.pointer (some ⟨tb, 0, none⟩)), .agg #[.pointer (some ⟨1, 72, none⟩), .pointer (some ⟨pv, 0, none⟩), .int .u64 150], .iface 113 (.agg #[.pointer (some ⟨1, 22, none⟩)])] w fun ev w' => ev = .returned (.bool true) ∧ Bk w' tb 22 #[.int .i64 e] ∧ Kp (fun b => b = tb) w w' := by
  have h81 := @run_callFunc_extern Tryd.prog 51 _ (fun args => ReflectliteValue.unpack (args.getD 0 (.tuple #[]))) Tryd.func51 (by kernel_rfl) (by kernel_rfl) (by kernel_rfl) (by kernel_rfl)
  have h85 := @run_callFunc_extern Tryd.prog 55 _ ReflectliteType.typeOf Tryd.func55 (by kernel_rfl) (by kernel_rfl) (by kernel_rfl) (by kernel_rfl)
  have h117 := @run_callFunc_extern Tryd.prog 90 _ (ReflectliteType.relation "AssignableTo" ReflectliteType.assignableTo) Tryd.func90 (by kernel_rfl) (by kernel_rfl) (by kernel_rfl) (by kernel_rfl)
  have h91 := @run_callFunc_extern Tryd.prog 63 _ (ReflectliteValue.method (ReflectliteValue.valueError "reflectlite.Value.Elem" 0) ReflectliteValue.elem) Tryd.func63 (by kernel_rfl) (by kernel_rfl) (by kernel_rfl) (by kernel_rfl)
  have h92 := @run_callFunc_extern Tryd.prog 64 _ ReflectliteValue.set Tryd.func64 (by kernel_rfl) (by kernel_rfl) (by kernel_rfl) (by kernel_rfl)
  have f1 := wyTypeOf27
  have f2 := wyTypeOf109
  have f3 := wyMethodAssignableTo
  have f4 := wyAssign27a
  have f5 := wyAssign109a
  have f6 := wyNoAs109
  have f7 := wyHasUnwrap109
  have f8 := wyMethodUnwrap
  have f9 := wyValueOf27
  have hpl : pv < w.heap.size := World.block_lt_of_cell? w _ hp
  have htl := ht.lt
  have kB := (Kp.refl (fun _ => False) w).alloc (.cells #[.pointer (some ⟨1, 72, none⟩), .pointer (some ⟨pv, 0, none⟩), .int .u64 150] 95)
  have hp1 := (kB.cell (p := ⟨pv, 0, none⟩) hpl (fun f => f)).trans hp
  have ht1 := ht.kept kB (fun f => f)
  have hc1 := hc.none_kept kB
  have hbx := Bk.new w 95 #[.pointer (some ⟨1, 72, none⟩), .pointer (some ⟨pv, 0, none⟩), .int .u64 150]
  have d0 := hbx.cell 0
  have d1 := hbx.cell 1
  have d2 := hbx.cell 2
  clear hbx
  have hsz : (w.alloc (.cells #[.pointer (some ⟨1, 72, none⟩), .pointer (some ⟨pv, 0, none⟩), .int .u64 150] 95)).heap.size = w.heap.size + 1 := by simp
  have f10 := wyElemV108 ⟨pv, 0, none⟩ ⟨tb, 0, none⟩ _ hp1
  have HB := Lib.hid kB
  have HT1 := Lib.hid ht1
  have HC1 := Lib.hid hc1
  clear kB ht1 hc1 hp hc ht hp1
  go_enter Tryd.func54, Tryd.ntmps54
  go_wp2_with fail
  generalize hW : w.alloc (.cells #[.pointer (some ⟨1, 72, none⟩), .pointer (some ⟨pv, 0, none⟩), .int .u64 150] 95) = W at *
  clear hW hsz
  go_loopw [0] (fun u wr => ∃ rs' : List Int, Chain wr e rs' u ∧ wr = W) (fun u _ => depth W u)
  case atStart => exact ⟨rs, HC1.out, rfl⟩
  case round =>
    obtain ⟨rs', hc, rfl⟩ := hrel
    cases rs' with
    | nil =>
      obtain rfl := hc
      have ha := (Kp.refl (fun _ => False) wr).alloc (.cells #[.int .i64 e] 22)
      have hb := HT1.out.kept ha (fun f => f)
      have st := wySet27 ⟨tb, 0, none⟩ ⟨wr.heap.size, 0, none⟩ e (.int .i64 x) (wr.alloc (.cells #[.int .i64 e] 22)) (by simp) (by rw [hb.cell 0]; rfl) (hb.frozen 0)
      have Ha := Lib.hid ha
      have Hb := Lib.hid hb
      clear ha hb
      go_wp2_with fail

      go_ret
      refine ⟨rfl, ?_, ?_⟩
      · simpa using Hb.out.put 0 (.int .i64 e)
      · exact Kp.setCell (S := fun b => b = tb) ((HB.out.mono (fun _ f => f.elim)).alloc _) (p := ⟨tb, 0, none⟩) (.inl rfl) _
    | cons r rs' =>
      obtain ⟨g, v', rfl, hb, hc'⟩ := hc
      have Hb := Lib.hid hb
      have Hc' := Lib.hid hc'
      clear hb hc'
      go_wp2_with fail
      refine (unwrap_any g r v' _ Hb.out).mono ?_
      rintro ee w1 ⟨rfl, rfl⟩
      have hd1 : depth wr (.iface 73 (.pointer (some ⟨g, 0, none⟩))) = rs'.length + 1 := Chain.depth (e := e) (rs := r :: rs') ⟨g, v', rfl, Hb.out, Hc'.out⟩
      have hd2 : depth wr v' = rs'.length := Hc'.out.depth
      have Hd1 := Lib.hid hd1
      have Hd2 := Lib.hid hd2
      clear hd1 hd2
      have hv : (∃ x, v' = .iface 22 x) ∨ ∃ x, v' = .iface 73 x := by
        have hc := Hc'.out
        cases rs' with
        | nil => exact .inl ⟨_, hc⟩
        | cons r' rs' => obtain ⟨g', v'', h, _⟩ := hc; exact .inr ⟨_, h⟩
      rcases hv with ⟨x, rfl⟩ | ⟨x, rfl⟩
      all_goals
        go_wp2_with fail
        go_roundw
        case rel => exact ⟨rs', Hc'.out, trivial⟩
        case measure => rw [Hd1.out, Hd2.out]; omega
end Go.Proofs.YtfhhmehlkjaibaaDoor
