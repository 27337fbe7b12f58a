/- Wheel: the keys, in order. -/
import Derived.Test.YtdakkmaahgcjfaaDoorWho
import Derived.TacticsInMore
set_option linter.unusedVariables false
set_option linter.unusedSimpArgs false
namespace Go.Proofs.YtdakkmaahgcjfaaDoor
open Go.RowKit

open Go.Shelf Go.Sort Go.Maps
theorem sortWorld_kp (W : World) (gb m : Nat) (dk : Array Int) (os : Array Obj) : Kp (fun b => b = gb) W (sortWorld encZ W gb 0 m dk os) := by
  have h := grownBy_sorted_i (w := W) (g := gb) (n := m) (os := os) dk
  exact (Kp.refl (fun b => b = gb) W).grown h (fun k e => .inl (Option.some.inj e).symm)
theorem sooner_sorted {L : List Ent} {ss : List Int} (hn : ss.Nodup) : (ss.mergeSort fun x y => !(ltOf (cfT L)) y x).Pairwise (sooner L) := by
  have hp := List.pairwise_mergeSort (le := fun x y => !(ltOf (cfT L)) y x) (by
    intro a b c h1 h2
    simp only [Bool.not_eq_true', ← Bool.not_eq_true, ltOf_cfT] at *
    unfold sooner at *
    omega) (by
    intro a b
    rcases h1 : ltOf (cfT L) b a with _ | _
    · rfl
    · rcases h2 : ltOf (cfT L) a b with _ | _
      · rfl
      · rw [ltOf_cfT] at h1 h2
        unfold sooner at h1 h2
        omega) ss
  have hn2 : (ss.mergeSort fun x y => !(ltOf (cfT L)) y x).Nodup := (List.mergeSort_perm ss _).nodup_iff.2 hn
  refine (hp.and hn2).imp ?_
  rintro a b ⟨h1, h2⟩
  simp only [Bool.not_eq_true', ← Bool.not_eq_true, ltOf_cfT] at h1
  unfold sooner at *
  omega
set_option maxRecDepth 1000000 in
set_option maxHeartbeats 8000000 in
theorem sorted_keys (g now X Bm : Nat) (s : WS) (P : Int → Prop) (w : World) (h : WM w g now s) (inv : Inv now s.tm.L s.ov.L s.sls s.full P) (hX : w.cell? ⟨X, 0, none⟩ = some (.pointer (some ⟨g, 0, none⟩))) (hB : w.cell? ⟨Bm, 0, none⟩ = some (.map (some s.ov.b)))
    (hr : ∀ e ∈ s.ov.L, -9223372036854775808 ≤ e.k ∧ e.k ≤ 9223372036854775807) (hl : s.ov.L.length ≤ 1000000) :
    Calls Tryd.prog 30 #[.func (.func 40) #[] #[.pointer (some ⟨Bm, 0, none⟩)], .func (.func 32) #[] #[.pointer (some ⟨X, 0, none⟩)]] w fun ev w' => ∃ (v : Value) (l : List Int), ev = .returned v ∧ l.Perm (s.ov.L.map Ent.k) ∧ l.Pairwise (sooner s.tm.L) ∧ w'.ownsRow w.heap.size 3 1 v l.length (l.map encZ) ∧ Kp (fun _ => False) w w' := by
  have hml : (1000000 : Nat) ≤ maxLen := by decide
  obtain ⟨D, hown, hperm, hsize⟩ := h.ov.owns hr (Nat.le_trans hl hml)
  have hBl : Bm < w.heap.size := World.block_lt_of_cell? w _ hB
  have hseq : SeqGives Fence.wide 3 Tryd.prog 40 #[.pointer (some ⟨Bm, 0, none⟩)] encZ (fun ss => ss.Perm (intKeys D)) (Maps.size D) w :=
    AnyZI.keys_gives (ρ := Tryd.keysA_ren) { Tryd.keysA with } Fence.wide _ trivial rfl (by omega) Bm s.ov.b s.ov.L.length D w hBl hB hown
  have cC := AnyZI.collect_in Tryd.collectA Fence.wide 5 trivial trivial rfl (by omega) 40 #[.pointer (some ⟨Bm, 0, none⟩)] trivial (enters_of Tryd.func40 (by kernel_rfl) rfl) _ _ (by rw [hsize]; omega) (by rw [hsize]; omega) _ hseq
  change CallsIn _ _ Tryd.prog 38 _ _ _ at cC
  have hfC : Fence.wide.fn 38 := trivial
  have hfS : Fence.wide.fn 39 := trivial
  have eg : ∀ args w, (callFunc 32 args).run Tryd.prog w = .ok (.enter 32 args) w := enters_of Tryd.func32 (by kernel_rfl) rfl
  have hN := h.ov.keys
  have H := Lib.hid h
  have I := Lib.hid inv
  have HX := Lib.hid hX
  have HP := Lib.hid hperm
  have HN := Lib.hid hN
  have HL := Lib.hid (show ∀ ss : List Int, ss.Perm (intKeys D) → ss.length ≤ 1000000 from fun ss hs => by
    have := (hs.trans hperm).length_eq
    rw [List.length_map] at this
    omega)
  clear hB hr hl hml hown hperm hsize hseq h inv hX hN
  refine (callsIn_wide (n := 6)).1 ?_
  refine callsIn_of_wp Tryd.func30 rfl trivial ?_ rfl
  simp only [Tryd.ntmps30, List.size_toArray, List.length_cons, List.length_nil, Nat.reduceAdd, Nat.reduceSub, Array.replicate_succ, Array.replicate_zero, List.push_toArray, List.append_toArray, List.nil_append, List.cons_append]
  gi_wp2_with (gi_at_call 38; refine cC.mono ?_; rintro e w1 ⟨v, ss, rfl, hS, hrow, hnil, hb⟩)
  have kb : Kp (fun _ => False) w w1 := Kp.of_below hb _
  have hnd : ss.Nodup := (hS.trans HP.out).nodup_iff.2 HN.out
  have hlen := HL.out ss hS
  by_cases hss : ss = []
  · obtain rfl : v = .slice none 0 0 := hnil.2 hss
    subst hss
    have cS := AnyF.slices_SortFunc_none (P := Tryd.prog) (ρ := Tryd.sortA_ren) { Tryd.sortA with } none 0 (.func (.func 32) #[] #[.pointer (some ⟨X, 0, none⟩)]) w1
    change Calls Tryd.prog 39 _ _ _ at cS
    have KB := Lib.hid kb
    have HR := Lib.hid hrow
    have HS := Lib.hid (hS.trans HP.out)
    clear kb hrow hS hnil hb cC
    refine (callsIn_wide.2 cS).mono ?_
    rintro e w2 ⟨rfl, rfl⟩
    gi_wp2
    go_ret
    exact ⟨_, [], rfl, HS.out, List.Pairwise.nil, HR.out, KB.out⟩
  · rcases hrow.2 with ⟨hv, h0⟩ | ⟨gb, cap, cur, rfl, hbase, hgb, r1, r2, r3, r4⟩
    · exact absurd (hnil.1 hv) hss
    have hH : Holds encZ w1 gb 0 ss.toArray := holds_of_block_i hgb (by simpa using r4)
    have hgl : gb < w1.heap.size := (Array.getElem?_eq_some_iff.1 hgb).1
    have hW1 := H.out.none_kept kb
    have hX1 := kp_kc0 HX.out kb
    have hXl : X < w.heap.size := World.block_lt_of_cell? w _ HX.out
    have hcmp : CmpLays1 Tryd.prog 32 #[.pointer (some ⟨X, 0, none⟩)] encZ (cfT s.tm.L) gb 0 ss.toArray.size w1 := by
      intro m os dk hdk x y
      have hk := sortWorld_kp w1 gb m dk os
      have hM := hW1.kept hk (fun b hb' e => by have := H.out.lt hb'; omega)
      have hXs : (sortWorld encZ w1 gb 0 m dk os).cell? ⟨X, 0, none⟩ = some (.pointer (some ⟨g, 0, none⟩)) := kp_kc' hX1 hk (by show ¬ X = gb; omega)
      exact closure g now X s P x y _ hM I.out hXs
    have cS := Any.slices_SortFunc_total Tryd.sortA encZ (fun _ => rfl) (cfT s.tm.L) (swoT s.tm.L) 32 #[.pointer (some ⟨X, 0, none⟩)] gb 0 cap ss.toArray w1 eg hcmp hH hgl (by simp; omega) (totT s.tm.L)
    change Calls Tryd.prog 39 _ _ _ at cS
    rw [List.size_toArray] at cS
    have POST := Lib.hid (fun (n : Nat) (os : Array Obj) => show ∃ (v : Value) (l : List Int), Ending.returned (.slice (some ⟨gb, 0, none⟩) ss.length cap) = .returned v ∧ l.Perm (s.ov.L.map Ent.k) ∧ l.Pairwise (sooner s.tm.L) ∧ (sortWorld encZ w1 gb 0 n (ss.mergeSort fun x y => !(ltOf (cfT s.tm.L)) y x).toArray os).ownsRow w.heap.size 3 1 v l.length (l.map encZ) ∧ Kp (fun _ => False) w (sortWorld encZ w1 gb 0 n (ss.mergeSort fun x y => !(ltOf (cfT s.tm.L)) y x).toArray os) from by
      have hll : (ss.mergeSort fun x y => !(ltOf (cfT s.tm.L)) y x).length = ss.length := (List.mergeSort_perm ss _).length_eq
      refine ⟨_, ss.mergeSort fun x y => !(ltOf (cfT s.tm.L)) y x, rfl, (List.mergeSort_perm ss _).trans (hS.trans HP.out), sooner_sorted hnd, ?_, ?_⟩
      · rw [hll]
        exact ownsRow_sorted_i hll hbase hgb r1 r2 r3
      · exact kb.trans (sortWorld_kp w1 gb n _ os) (by rintro b hb' rfl; omega))
    clear kb hrow hS hnil hb cC hH hgl hW1 hX1 hcmp hgb r1 r2 r3 r4
    generalize (ss.mergeSort fun x y => !(ltOf (cfT s.tm.L)) y x) = ll at *
    refine (callsIn_wide.2 cS).mono ?_
    rintro e w2 ⟨rfl, n, os, rfl⟩
    have P2 := Lib.hid (POST.out n os)
    clear POST cS
    generalize sortWorld encZ w1 gb 0 n _ os = w2 at *
    gi_wp2
    go_ret
    exact P2.out
end Go.Proofs.YtdakkmaahgcjfaaDoor
