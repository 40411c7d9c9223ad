/- The reference of layer 4: Same, Rests, Cells. -/
import Derived.Test.YtbnjbgcadkdljaaRef4a
set_option linter.unusedVariables false
set_option linter.unusedSimpArgs false
namespace Go.Proofs.Ytbnjbgcadkdljaa
open Go.RowKit

theorem refSame_yes (zs : List Int) (A C : Option Addr) (n cap cap2 : Nat) (w : World) (h : Ints .i64 w A n zs) (h2 : Ints .i64 w C n zs) (hn : n ≤ 1000000) :
    Calls Try.prog 13 #[.slice A n cap, .slice C n cap2] w fun r w' => r = .returned (.bool true) ∧ Below w.heap.size w w' := by
  go_enter Try.func13, Try.ntmps13
  go_wp2
  go_loopw [5] (fun x wr => ∃ k : Nat, k ≤ n ∧ x = .int .i64 k ∧ Below w.heap.size w wr) (fun x _ => n - (intOf x).toNat)
  case atStart => exact ⟨0, Nat.zero_le _, rfl, Below.refl _ _⟩
  case round =>
    obtain ⟨k, hk, rfl, hE⟩ := hrel
    by_cases hlt : k < n
    · have h' := h.below (Nat.le_refl _) hE
      have h2' := h2.below (Nat.le_refl _) hE
      obtain ⟨b, off, rfl, hb, hc⟩ := h'.at_ hlt
      obtain ⟨b2, off2, rfl, hb2, hc2⟩ := h2'.at_ hlt
      go_wp2
      refine wp_region_over (by kernel_rfl) (by kernel_rfl) ?_
      repeat (go_big_quiet_step ((fail)))
      refine wpQuiet_nil ?_
      intro w2 w2b
      obtain ⟨w2c, w2f, w2l⟩ := rules w2b (Nat.le_refl _); clear w2l
      go_wp2
      go_roundw
      case rel => exact ⟨k + 1, by omega, by go_num, hE.trans (w2b.mono hE.size)⟩
      case measure => simp [intOf]; omega
    · obtain rfl : k = n := by omega
      go_wp2
      go_ret
      exact ⟨rfl, hE⟩

theorem refRests_no (w : World) (kind : Int) (zs : List Int) (A : Option Addr) (n cap : Nat) (width : Int) (hr : ¬ right4 kind width n) :
    Calls Try.prog 37 #[.int .i64 kind, .slice A n cap, .int .i64 width] w fun r w' => r = .returned (.tuple #[.slice none 0 0, .int .i64 11]) ∧ Below w.heap.size w w' := by
  have hR := right4_no hr
  clear hr
  go_enter Try.func37, Try.ntmps37
  go_wp2_with (go_at_call 45; refine (refRight4_any _ _ _ _).mono ?_; rintro e w' ⟨rfl, rfl⟩)
  go_ret2
  exact ⟨rfl, Below.refl _ _⟩

theorem refRests_val (w : World) (kind : Int) (zs : List Int) (A : Option Addr) (n cap : Nat) (width : Int) (hr : right4 kind width n) (h : Ints .i64 w A n zs) (hn : n ≤ 1000000) (hm : Hid (¬ AllMay zs n)) :
    Calls Try.prog 37 #[.int .i64 kind, .slice A n cap, .int .i64 width] w fun r w' => r = .returned (.tuple #[.slice none 0 0, .int .i64 7]) ∧ Below w.heap.size w w' := by
  have hw := hr.2.2.1
  have hR := right4_yes hr
  clear hr
  go_enter Try.func37, Try.ntmps37
  go_wp2_with (go_at_call 45; refine (refRight4_any _ _ _ _).mono ?_; rintro e w' ⟨rfl, rfl⟩)
  go_loop [8] (fun x => ∃ k : Nat, k ≤ n ∧ x = .int .i64 k ∧ Hid (AllMay zs k)) (fun x => n - (intOf x).toNat)
  case atStart => exact ⟨0, Nat.zero_le _, rfl, fun j hj => by omega⟩
  case round =>
    obtain ⟨k, hk, rfl, hall⟩ := hrel
    by_cases hlt : k < n
    · obtain ⟨b, off, rfl, hb, hc⟩ := h.at_ hlt
      by_cases hv : mayB (nth zs k) = true
      · go_wp2_with (go_at_call 46; refine (refMay_any _ _).mono ?_; rintro e w' ⟨rfl, rfl⟩)
        go_round
        case rel => exact ⟨k + 1, by omega, by go_num, gstep hall.out hv⟩
        case measure => simp [intOf]; omega
      · have hv' : mayB (nth zs k) = false := by simpa using hv
        clear hv
        go_wp2_with (go_at_call 46; refine (refMay_any _ _).mono ?_; rintro e w' ⟨rfl, rfl⟩)
        go_ret2
        exact ⟨rfl, Below.refl _ _⟩
    · obtain rfl : k = n := by omega
      exact absurd hall.out hm.out

set_option maxHeartbeats 1000000 in
theorem refRests_ok (kind : Int) (zs : List Int) (A : Option Addr) (n cap : Nat) (width : Int) (w : World) (hr : right4 kind width n) (h : Ints .i64 w A n zs) (hn : n ≤ 1000000) (hm : Hid (AllMay zs n)) :
    Calls Try.prog 37 #[.int .i64 kind, .slice A n cap, .int .i64 width] w fun e w' => ∃ v, e = .returned (.tuple #[v, .int .i64 0]) ∧ w'.ownsRow w.heap.size 2 1 v n ((restsL kind zs width n).map (Value.int .i64)) ∧ Below w.heap.size w w' := by
  have hw := hr.2.2.1
  have hR := right4_yes hr
  clear hr
  go_enter Try.func37, Try.ntmps37
  go_wp2_with (go_at_call 45; refine (refRight4_any _ _ _ _).mono ?_; rintro e w' ⟨rfl, rfl⟩)
  go_loop [8] (fun x => ∃ k : Nat, k ≤ n ∧ x = .int .i64 k ∧ Hid (AllMay zs k)) (fun x => n - (intOf x).toNat)
  case atStart => exact ⟨0, Nat.zero_le _, rfl, fun j hj => by omega⟩
  case round =>
    obtain ⟨k, hk, rfl, hall⟩ := hrel
    by_cases hlt : k < n
    · obtain ⟨b, off, rfl, hb, hc⟩ := h.at_ hlt
      by_cases hv : mayB (nth zs k) = true
      · go_wp2_with (go_at_call 46; refine (refMay_any _ _).mono ?_; rintro e w' ⟨rfl, rfl⟩)
        go_round
        case rel => exact ⟨k + 1, by omega, by go_num, gstep hall.out hv⟩
        case measure => simp [intOf]; omega
      · have hv' : mayB (nth zs k) = false := by simpa using hv
        exact absurd (hm.out k hlt) hv
    · obtain rfl : k = n := by omega
      go_wp2
      have hown0 := World.ownsRow_lit (base := w.heap.size) (e := 2) (size := 1) w #[] 0 (Nat.le_refl _) (Nat.zero_le _) rfl
      go_loopw [9, 10] (fun v x wr => ∃ (j : Nat) (V : Value), j ≤ k ∧ x = .int .i64 j ∧ V = v ∧ wr.ownsRow w.heap.size 2 1 V j ((restsL kind zs width j).map (Value.int .i64)) ∧ Below w.heap.size w wr ∧ w.heap.size ≤ wr.heap.size) (fun _ x _ => k - (intOf x).toNat)
      case atStart => exact ⟨0, _, Nat.zero_le _, rfl, rfl, hown0, (by repeat (first | with_reducible exact Below.refl _ _ | with_reducible assumption | with_reducible refine below_alloc ?_ _ | with_reducible refine below_draw ?_ | ((with_reducible apply bset); (focus (first | exact Nat.le_refl _ | (simp; done) | omega | (simp; omega)))) | ((with_reducible apply bcall); assumption; (focus (first | exact Nat.le_refl _ | (simp; done) | omega | (simp; omega)))))), by simp⟩
      case round =>
        clear hown0
        obtain ⟨j, V, hj, rfl, rfl, hown, hE, hs⟩ := hrel
        by_cases hjlt : j < k
        · obtain ⟨b, off, rfl, hb, hc⟩ := h.at_ hjlt
          have hcw := (h.below (Nat.le_refl _) hE).cell hjlt
          obtain ⟨_, _⟩ := guess_bd hall.out (kind := kind) (i := j) hw (by omega) (by omega)
          obtain ⟨_, _⟩ := (mayB_iff _).1 (hall.out j hjlt)
          clear hc hcw
          go_wp2
          refine wp_region_row (V).ownBlock [0, 1, 2, 3, 4, 5, 6, 7, 8, 9, 10] [11, 12, 13] ?_ (by kernel_rfl) (by kernel_rfl) (by rfl) ?_ ?_
          rotate_left 1
          · intro X0 X0g
            have hXb := hE.grown X0g hs (fun k hk => (World.ownsRow.lt hown k hk).1)
            have hX := h.below (Nat.le_refl _) hXb
            obtain ⟨hb0, hc0⟩ := hX.cell hjlt
            clear X0g
            simp only [pick, List.getElem?_cons_succ, List.getElem?_cons_zero]
            repeat (go_big_quiet_step ((first | (go_at_call 47; with_reducible exact (refGuess_any _ kind zs _ k cap k width j (hX.below (Nat.le_refl _) (over_below _ _)) hall.out (by omega) hw (by omega) (by omega) hn).over))))
            refine wpQuiet_nil ?_
            exact sameAct _
          intro X0 X0b
          have hownX := own_keep hown X0b (Nat.le_refl _)
          simp only [pick, List.getElem?_cons_succ, List.getElem?_cons_zero]
          unfold wpHav
          go_wp2
          refine ⟨grown_below (by repeat (first | with_reducible exact Below.refl _ _ | with_reducible assumption | with_reducible refine below_alloc ?_ _ | with_reducible refine below_draw ?_ | ((with_reducible apply bset); (focus (first | exact Nat.le_refl _ | (simp; done) | omega | (simp; omega)))) | ((with_reducible apply bcall); assumption; (focus (first | exact Nat.le_refl _ | (simp; done) | omega | (simp; omega)))))) _, fun X1 X1b => ?_⟩
          have hown1 := own_keep (hownX.alloc _) X1b (by simp)
          have X1c := (rules X1b (by simp)).1
          have X1s := X1b.size
          have X0s := X0b.size
          simp only [World.size_alloc] at X1s
          unfold wpHav
          have hcX := Lib.hid (cells_one ((X1c X0.heap.size 0 (by simp)).trans (show _ = some (Value.int .i64 (nth zs j - guessI kind zs width (j : Int))) by simp [go_sem])))
          clear X1c
          go_wp2_with (at_builtin; refine wpList_app1 rfl (.tmp 36) (.tmp 47) 23 2 rfl Try.underlying23 _ 1 8 info_i64 rfl (by decide) _ (j) _ rfl w.heap.size hown1 (by omega) [.int .i64 (nth zs j - guessI kind zs width (j : Int))] X0.heap.size 1 rfl rfl hcX.out (by simp [Value.oneCell']) (by unfold maxLen; omega) (by omega) ?_; intro v' w' hown' hg')
          refine ⟨grown_tr (grown_below (by repeat (first | with_reducible exact Below.refl _ _ | with_reducible assumption | with_reducible refine below_alloc ?_ _ | with_reducible refine below_draw ?_ | ((with_reducible apply bset); (focus (first | exact Nat.le_refl _ | (simp; done) | omega | (simp; omega)))) | ((with_reducible apply bcall); assumption; (focus (first | exact Nat.le_refl _ | (simp; done) | omega | (simp; omega)))))) _) hg', fun X2 X2b => ?_⟩
          unfold wpHav
          go_wp2
          refine ⟨grown_ext (grown_tr (grown_below (by repeat (first | with_reducible exact Below.refl _ _ | with_reducible assumption | with_reducible refine below_alloc ?_ _ | with_reducible refine below_draw ?_ | ((with_reducible apply bset); (focus (first | exact Nat.le_refl _ | (simp; done) | omega | (simp; omega)))) | ((with_reducible apply bcall); assumption; (focus (first | exact Nat.le_refl _ | (simp; done) | omega | (simp; omega)))))) _) hg') X2b, fun X3 X3b => ?_⟩
          unfold wpHav
          obtain ⟨hE', hs'⟩ := push_chain hE (by omega) X0b X1b rfl hg' (fun k hk => (World.ownsRow.lt hown1 k hk).1) X2b X3b
          have hown3 := own_keep (own_keep hown' X2b (Nat.le_refl _)) X3b (Nat.le_refl _)
          clear hown' hown1 hownX hg' hcX X0b X1b X2b X3b X1s X0s
          clear hown
          go_wp2
          go_roundw
          case rel => exact ⟨j + 1, _, by omega, by go_num, rfl, by rw [restsL_succ, List.map_append]; exact hown3, hE', by omega⟩
          case measure => simp [intOf]; omega
        · have hjk : j = k := by omega
          subst hjk
          go_wp2
          go_ret2
          exact ⟨_, rfl, hown, hE⟩
theorem refCells_no (w : World) (kind : Int) (zs : List Int) (A : Option Addr) (n cap : Nat) (width : Int) (hr : ¬ right4 kind width n) :
    Calls Try.prog 39 #[.int .i64 kind, .slice A n cap, .int .i64 width] w fun r w' => r = .returned (.tuple #[.slice none 0 0, .int .i64 11]) ∧ Below w.heap.size w w' := by
  have hR := right4_no hr
  clear hr
  go_enter Try.func39, Try.ntmps39
  go_wp2_with (go_at_call 45; refine (refRight4_any _ _ _ _).mono ?_; rintro e w' ⟨rfl, rfl⟩)
  go_ret2
  exact ⟨rfl, Below.refl _ _⟩

set_option maxHeartbeats 1000000 in
theorem refCells_ok (kind : Int) (zs : List Int) (A : Option Addr) (n cap : Nat) (width : Int) (out : List Int) (w : World) (hr : right4 kind width n) (h : Ints .i64 w A n zs) (hn : n ≤ 1000000) (hok : Hid (cellsN kind width zs n = some out)) :
    Calls Try.prog 39 #[.int .i64 kind, .slice A n cap, .int .i64 width] w fun e w' => ∃ v, e = .returned (.tuple #[v, .int .i64 0]) ∧ w'.ownsRow w.heap.size 2 1 v n (out.map (Value.int .i64)) ∧ Below w.heap.size w w' := by
  have hw := hr.2.2.1
  have hR := right4_yes hr
  clear hr
  go_enter Try.func39, Try.ntmps39
  go_wp2_with (go_at_call 45; refine (refRight4_any _ _ _ _).mono ?_; rintro e w' ⟨rfl, rfl⟩)
  have hown0 := World.ownsRow_lit (base := w.heap.size) (e := 2) (size := 1) w #[] 0 (Nat.le_refl _) (Nat.zero_le _) rfl
  go_loopw [8, 9] (fun v x wr => ∃ (k : Nat) (outs : List Int) (V : Value), k ≤ n ∧ x = .int .i64 k ∧ V = v ∧ Hid (cellsN kind width zs k = some outs) ∧ wr.ownsRow w.heap.size 2 1 V k (outs.map (Value.int .i64)) ∧ Below w.heap.size w wr ∧ w.heap.size ≤ wr.heap.size) (fun _ x _ => n - (intOf x).toNat)
  case atStart => exact ⟨0, [], _, Nat.zero_le _, rfl, rfl, rfl, hown0, (by repeat (first | with_reducible exact Below.refl _ _ | with_reducible assumption | with_reducible refine below_alloc ?_ _ | with_reducible refine below_draw ?_ | ((with_reducible apply bset); (focus (first | exact Nat.le_refl _ | (simp; done) | omega | (simp; omega)))) | ((with_reducible apply bcall); assumption; (focus (first | exact Nat.le_refl _ | (simp; done) | omega | (simp; omega)))))), by simp⟩
  case round =>
    clear hown0
    obtain ⟨k, outs, V, hk, rfl, rfl, ho, hown, hE, hs⟩ := hrel
    by_cases hlt : k < n
    · have h' := h.below (Nat.le_refl _) hE
      obtain ⟨b, off, rfl, hb, hc⟩ := h.at_ hlt
      clear hb hc
      obtain ⟨hbw, hc⟩ := h'.cell hlt
      obtain ⟨A', c', rfl, _, _⟩ := own_form hown
      have hmay := cellsN_may ho.out
      have hlen := Lib.hid (cellsN_len ho.out)
      obtain ⟨_, _⟩ := guess_bd hmay (kind := kind) (width := width) (i := k) hw (by omega) (by omega)
      have hnx := Lib.hid (cellsN_next ho.out)
      have Hcall := Lib.hid (refGuess_any wr kind outs _ k c' k width k (own_ints hown) hmay (by omega) hw (by omega) (by omega) (by omega))
      clear hmay
      generalize hgv : guessI kind outs width (k : Int) = gv at *
      clear hgv
      by_cases f1 : 2147483647 - gv < nth zs k
      · have hbad : Hid (cellsN kind width zs (k + 1) = none) := Lib.hid (by rw [hnx.out, if_neg (by rw [mayB_iff]; omega)])
        go_wp2_with (go_at_call 47; refine Hcall.out.mono ?_; rintro e w2 ⟨rfl, gb⟩; obtain ⟨gc, gf, gl⟩ := rules gb (Nat.le_refl _); have gz := gl _ hbw; clear gl; have hE2 := hE.trans (gb.mono hs); have hB2 : w.heap.size ≤ w2.heap.size := Nat.le_trans hs gb.size; have hown2 := own_keep hown gb (Nat.le_refl _))
        exact absurd (cellsN_none hbad.out n (by omega)) (by rw [hok.out]; simp)
      · by_cases f2 : nth zs k < -2147483648 - gv
        · have hbad : Hid (cellsN kind width zs (k + 1) = none) := Lib.hid (by rw [hnx.out, if_neg (by rw [mayB_iff]; omega)])
          go_wp2_with (go_at_call 47; refine Hcall.out.mono ?_; rintro e w2 ⟨rfl, gb⟩; obtain ⟨gc, gf, gl⟩ := rules gb (Nat.le_refl _); have gz := gl _ hbw; clear gl; have hE2 := hE.trans (gb.mono hs); have hB2 : w.heap.size ≤ w2.heap.size := Nat.le_trans hs gb.size; have hown2 := own_keep hown gb (Nat.le_refl _))
          exact absurd (cellsN_none hbad.out n (by omega)) (by rw [hok.out]; simp)
        · have hgood : Hid (cellsN kind width zs (k + 1) = some (outs ++ [gv + nth zs k])) := Lib.hid (by rw [hnx.out, if_pos (by rw [mayB_iff]; omega)])
          go_wp2_with (first | (go_at_call 47; refine Hcall.out.mono ?_; rintro e w2 ⟨rfl, gb⟩; obtain ⟨gc, gf, gl⟩ := rules gb (Nat.le_refl _); have gz := gl _ hbw; clear gl; have hE2 := hE.trans (gb.mono hs); have hB2 : w.heap.size ≤ w2.heap.size := Nat.le_trans hs gb.size; have hown2 := own_keep hown gb (Nat.le_refl _)) | (at_builtin; refine wpList_push rfl (.tmp 45) (.tmp 52) 23 2 rfl Try.underlying23 _ 1 8 info_i64 rfl (by decide) _ (k) _ rfl w.heap.size hown2 w hE2 hB2 _ _ _ (by simp) rfl rfl (by simp [Value.oneCell']) (by unfold maxLen; omega) (by omega) ?_; intro v' w' hown' hE' hB'))
          clear hown hown2
          go_wp2
          go_roundw
          case rel => exact ⟨k + 1, outs ++ [gv + nth zs k], _, by omega, by go_num, rfl, hgood, by rw [List.map_append]; exact hown', hE', hB'⟩
          case measure => simp [intOf]; omega
    · have hkn : k = n := by omega
      subst hkn
      have e : out = outs := by have h1 := ho.out; rw [hok.out] at h1; exact Option.some.inj h1
      subst e
      go_wp2
      go_ret2
      exact ⟨_, rfl, hown, hE⟩
set_option maxHeartbeats 1000000 in
theorem refCells_val (kind : Int) (zs : List Int) (A : Option Addr) (n cap : Nat) (width : Int) (w : World) (hr : right4 kind width n) (h : Ints .i64 w A n zs) (hn : n ≤ 1000000) (hok : Hid (cellsN kind width zs n = none)) :
    Calls Try.prog 39 #[.int .i64 kind, .slice A n cap, .int .i64 width] w fun e w' => e = .returned (.tuple #[.slice none 0 0, .int .i64 7]) ∧ Below w.heap.size w w' := by
  have hw := hr.2.2.1
  have hR := right4_yes hr
  clear hr
  go_enter Try.func39, Try.ntmps39
  go_wp2_with (go_at_call 45; refine (refRight4_any _ _ _ _).mono ?_; rintro e w' ⟨rfl, rfl⟩)
  have hown0 := World.ownsRow_lit (base := w.heap.size) (e := 2) (size := 1) w #[] 0 (Nat.le_refl _) (Nat.zero_le _) rfl
  go_loopw [8, 9] (fun v x wr => ∃ (k : Nat) (outs : List Int) (V : Value), k ≤ n ∧ x = .int .i64 k ∧ V = v ∧ Hid (cellsN kind width zs k = some outs) ∧ wr.ownsRow w.heap.size 2 1 V k (outs.map (Value.int .i64)) ∧ Below w.heap.size w wr ∧ w.heap.size ≤ wr.heap.size) (fun _ x _ => n - (intOf x).toNat)
  case atStart => exact ⟨0, [], _, Nat.zero_le _, rfl, rfl, rfl, hown0, (by repeat (first | with_reducible exact Below.refl _ _ | with_reducible assumption | with_reducible refine below_alloc ?_ _ | with_reducible refine below_draw ?_ | ((with_reducible apply bset); (focus (first | exact Nat.le_refl _ | (simp; done) | omega | (simp; omega)))) | ((with_reducible apply bcall); assumption; (focus (first | exact Nat.le_refl _ | (simp; done) | omega | (simp; omega)))))), by simp⟩
  case round =>
    clear hown0
    obtain ⟨k, outs, V, hk, rfl, rfl, ho, hown, hE, hs⟩ := hrel
    by_cases hlt : k < n
    · have h' := h.below (Nat.le_refl _) hE
      obtain ⟨b, off, rfl, hb, hc⟩ := h.at_ hlt
      clear hb hc
      obtain ⟨hbw, hc⟩ := h'.cell hlt
      obtain ⟨A', c', rfl, _, _⟩ := own_form hown
      have hmay := cellsN_may ho.out
      have hlen := Lib.hid (cellsN_len ho.out)
      obtain ⟨_, _⟩ := guess_bd hmay (kind := kind) (width := width) (i := k) hw (by omega) (by omega)
      have hnx := Lib.hid (cellsN_next ho.out)
      have Hcall := Lib.hid (refGuess_any wr kind outs _ k c' k width k (own_ints hown) hmay (by omega) hw (by omega) (by omega) (by omega))
      clear hmay
      generalize hgv : guessI kind outs width (k : Int) = gv at *
      clear hgv
      by_cases f1 : 2147483647 - gv < nth zs k
      · have hbad : Hid (cellsN kind width zs (k + 1) = none) := Lib.hid (by rw [hnx.out, if_neg (by rw [mayB_iff]; omega)])
        go_wp2_with (go_at_call 47; refine Hcall.out.mono ?_; rintro e w2 ⟨rfl, gb⟩; obtain ⟨gc, gf, gl⟩ := rules gb (Nat.le_refl _); have gz := gl _ hbw; clear gl; have hE2 := hE.trans (gb.mono hs); have hB2 : w.heap.size ≤ w2.heap.size := Nat.le_trans hs gb.size; have hown2 := own_keep hown gb (Nat.le_refl _))
        go_ret2
        exact ⟨rfl, hE.trans (gb.mono hs)⟩
      · by_cases f2 : nth zs k < -2147483648 - gv
        · have hbad : Hid (cellsN kind width zs (k + 1) = none) := Lib.hid (by rw [hnx.out, if_neg (by rw [mayB_iff]; omega)])
          go_wp2_with (go_at_call 47; refine Hcall.out.mono ?_; rintro e w2 ⟨rfl, gb⟩; obtain ⟨gc, gf, gl⟩ := rules gb (Nat.le_refl _); have gz := gl _ hbw; clear gl; have hE2 := hE.trans (gb.mono hs); have hB2 : w.heap.size ≤ w2.heap.size := Nat.le_trans hs gb.size; have hown2 := own_keep hown gb (Nat.le_refl _))
          go_ret2
          exact ⟨rfl, hE.trans (gb.mono hs)⟩
        · have hgood : Hid (cellsN kind width zs (k + 1) = some (outs ++ [gv + nth zs k])) := Lib.hid (by rw [hnx.out, if_pos (by rw [mayB_iff]; omega)])
          go_wp2_with (first | (go_at_call 47; refine Hcall.out.mono ?_; rintro e w2 ⟨rfl, gb⟩; obtain ⟨gc, gf, gl⟩ := rules gb (Nat.le_refl _); have gz := gl _ hbw; clear gl; have hE2 := hE.trans (gb.mono hs); have hB2 : w.heap.size ≤ w2.heap.size := Nat.le_trans hs gb.size; have hown2 := own_keep hown gb (Nat.le_refl _)) | (at_builtin; refine wpList_push rfl (.tmp 45) (.tmp 52) 23 2 rfl Try.underlying23 _ 1 8 info_i64 rfl (by decide) _ (k) _ rfl w.heap.size hown2 w hE2 hB2 _ _ _ (by simp) rfl rfl (by simp [Value.oneCell']) (by unfold maxLen; omega) (by omega) ?_; intro v' w' hown' hE' hB'))
          clear hown hown2
          go_wp2
          go_roundw
          case rel => exact ⟨k + 1, outs ++ [gv + nth zs k], _, by omega, by go_num, rfl, hgood, by rw [List.map_append]; exact hown', hE', hB'⟩
          case measure => simp [intOf]; omega
    · have hkn : k = n := by omega
      subst hkn
      exact absurd hok.out (by rw [ho.out]; simp)
end Go.Proofs.Ytbnjbgcadkdljaa
