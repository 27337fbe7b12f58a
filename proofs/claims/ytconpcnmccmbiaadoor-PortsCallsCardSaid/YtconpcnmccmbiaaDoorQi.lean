/- The walk of Agree. -/
import Derived.Test.YtconpcnmccmbiaaDoorQh
import Derived.IntWalk
namespace Go.Proofs.YtconpcnmccmbiaaDoor
open Go.RowKit

set_option maxRecDepth 100000 in
set_option maxHeartbeats 4000000 in
theorem agree_any (g1 gw g l m mk : Nat) (T : Nat → Bool) (w : World) (h : Pr w g1 gw g l m mk T mk T) :
    Calls Tryd.prog 19 #[.pointer (some ⟨g1, 0, none⟩), .pointer (some ⟨g, 0, none⟩)] w fun e w' => e = .returned (.bool true) ∧ Kp (fun _ => False) w w' := by
  have hlt := h.lt
  have HP := Lib.hid h
  obtain ⟨h1, o, h2⟩ := h
  obtain ⟨c0, c1, _, _, _, A, c, c3, hrd, hl1, hl2, hl3, _⟩ := h2.cells
  obtain ⟨b1, b2, b3, _⟩ := h1.bounds
  have hcn := takenL_cnt T l m
  have HR := Lib.hid h1
  have HX := Lib.hid hrd
  generalize hq : (l : Int) + m - 1 = q at c1
  generalize hxs : takenL T l m = xs at c3 HX hcn hl1 hl2
  have q1 : q - l + 1 = (m : Int) := by omega
  have q2 : (0 : Int) ≤ q := by omega
  have q3 : q ≤ 65536 := by omega
  have q4 : ((cnt T m : Nat) : Int) = (m : Int) - xs.length := by omega
  have e1 : IntKind.i64.wrap (q - (l : Int)) = q - l := IntWalk.i64_in _ (by omega)
  have e2 : IntKind.i64.wrap (q - (l : Int) + 1) = (m : Int) := by rw [q1]; exact IntWalk.i64_in _ (by omega)
  have e3 : IntKind.i64.wrap ((m : Int) - xs.length) = (m : Int) - xs.length := IntWalk.i64_in _ (by omega)
  have e4 : IntKind.i64.wrap (m : Int) = m := IntWalk.i64_in _ (by omega)
  have Hxs := Lib.hid hxs
  have Hlt := Lib.hid hlt
  clear h1 h2 hrd hq hxs hcn hlt
  go_enter Tryd.func19, Tryd.ntmps19
  go_wp2_with fail
  go_region_held3 (fun w' => w'.cell? ⟨g, 0, none⟩ = some (.int .i64 l) ∧ w'.cell? ⟨g, 1, none⟩ = some (.int .i64 q) ∧ w'.cell? ⟨g, 3, none⟩ = some (.slice A xs.length c))
    (first | go_keep | fail)
    (first
      | (go_at_call 28
         refine (all_rd g1 gw l m mk T _ (by exact HR.out)).mono ?_
         rw [Hxs.out]
         rintro e w4 ⟨A4, c4, rfl, r4, k4⟩
         have k4 := Kp.undrewN (n := 1) k4
         have k40 := (k4.cell (p := ⟨g, 0, none⟩) Hlt.out.2.2 (fun f => f)).trans c0
         have k41 := (k4.cell (p := ⟨g, 1, none⟩) Hlt.out.2.2 (fun f => f)).trans c1
         have k43 := (k4.cell (p := ⟨g, 3, none⟩) Hlt.out.2.2 (fun f => f)).trans c3
         have HR4 := Lib.hid (HR.out.kept k4 (fun f => f) (fun f => f) (fun f => f))
         have HX4 := Lib.hid (HX.out.kp k4 (fun _ _ _ f => f))
         have Hr4 := Lib.hid r4
         have Hk4 := Lib.hid k4
         clear r4 k4)
      | (go_at_call 32
         refine (sameInts_self A4 A c4 c xs _ (by exact Hr4.out) (by exact HX4.out)).mono ?_
         rintro e w5 ⟨rfl, n5, rfl⟩)
      | (go_at_call 25
         refine (many_any g1 gw l m mk T _ (by exact HR4.out)).mono ?_
         rintro e w6 ⟨rfl, rfl⟩)
      | (go_at_call 27
         refine (left_any g1 gw l m mk T _ (by exact HR4.out)).mono ?_
         rintro e w6 ⟨rfl, rfl⟩)
      | fail)
  go_wp2_with fail
  go_ret
  exact ⟨ret_bool (by simp), Hk4.out.drewN _⟩
end Go.Proofs.YtconpcnmccmbiaaDoor
