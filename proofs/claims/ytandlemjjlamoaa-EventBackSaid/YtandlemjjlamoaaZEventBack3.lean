/- What EventBack's row stands on: words, contracts of the functions that it reaches, plain facts, its walk (part 3): no condition but those that each theorem names. -/
import Derived.Test.YtandlemjjlamoaaZEventBack2
set_option linter.unusedVariables false
set_option linter.unusedSimpArgs false
namespace Go.Proofs.Ytandlemjjlamoaa.P
open Go.RowKit Go.Proofs.YtandlemjjlamoaaW.PrintWords Go.Proofs.YtandlemjjlamoaaW.PrintLast Go.Proofs.YtandlemjjlamoaaW.PrintMore
attribute [local go_sem] max2_int min2_int max_two min_two max_three min_three max_four min_four   -- for this text's walks alone
set_option linter.unusedVariables false
set_option linter.unusedSimpArgs false
def evNum (l : List Int) (a : Nat) (d : Bool) (most : Nat) : Nat × Nat × Bool := if d then (0, a, true) else match getM (l.drop a) most with
  | some (n, u) => (n, a + u, false)
  | none => (0, a, true)
theorem evNum_bad {l : List Int} {a most : Nat} : evNum l a true most = (0, a, true) := rfl
theorem evNum_none {l : List Int} {a most : Nat} (h : getM (l.drop a) most = none) : evNum l a false most = (0, a, true) := by unfold evNum; simp [h]
theorem evNum_some {l : List Int} {a most n u : Nat} (h : getM (l.drop a) most = some (n, u)) : evNum l a false most = (n, a + u, false) := by unfold evNum; simp [h]
theorem evNum_at {l : List Int} {a most : Nat} {d : Bool} (h : a ≤ l.length) : (evNum l a d most).2.1 ≤ l.length ∧ (evNum l a d most).1 ≤ most := by
  cases d with
  | true => exact ⟨h, Nat.zero_le _⟩
  | false =>
    cases hg : getM (l.drop a) most with
    | none => rw [evNum_none hg]; exact ⟨h, Nat.zero_le _⟩
    | some p =>
      obtain ⟨n, u⟩ := p
      rw [evNum_some hg]
      have h2 := getM_used hg
      rw [List.length_drop] at h2
      exact ⟨by show a + u ≤ _; omega, h2.2.1⟩
def bBlk (A : Option Addr) (n c : Nat) : Obj := .cells #[.slice A n c] 27 (0, 0)
def aBlk (a : Nat) : Obj := .cells #[.int .i64 (a : Int)] 3 (0, 0)
def dBlk (d : Bool) : Obj := .cells #[.bool d] 4 (0, 0)
def numEv (Ba Bd : Nat) (r : Nat × Nat × Bool) (w : World) (e : Ending) (w' : World) : Prop := e = .returned (.int .i64 (r.1 : Int)) ∧ w'.heap[Ba]? = some (aBlk r.2.1) ∧ w'.heap[Bd]? = some (dBlk r.2.2) ∧ Spares (fun i => i = Ba ∨ i = Bd) w w'
set_option maxHeartbeats 4000000 in
set_option maxRecDepth 100000 in
theorem evNum_told (w : World) (Bb Ba Bd : Nat) (A : Option Addr) (c : Nat) (l : List Int) (a : Nat) (d : Bool) (most : Nat) (hr : Kd.C (Kd.int .u8) w A l.length l) (hc : l.length ≤ c) (hb : byteL l) (hl : l.length < 4611686018427387904) (hkb : w.heap[Bb]? = some (bBlk A l.length c)) (hka : w.heap[Ba]? = some (aBlk a)) (hkd : w.heap[Bd]? = some (dBlk d)) (hat : a ≤ l.length) (hmost : most ≤ 1125899906842624) :
    Calls Try.prog 27 #[.int .u64 (most : Int), .pointer (some ⟨Bb, 0, none⟩), .pointer (some ⟨Ba, 0, none⟩), .pointer (some ⟨Bd, 0, none⟩)] w (numEv Ba Bd (evNum l a d most) w) := by
  obtain ⟨i0, hi0, _, hsz0, _⟩ := info_parts info5
  obtain ⟨A', hcut, hC', hlc⟩ := drop_row (P := Try.prog) (d := Kd.int .u8) Try.underlying27 hi0 hsz0 A c l a (a : Int) rfl hat hc
  have HCUT := Aside0.mk (hC' _ hr)
  have HLC := Aside0.mk hlc
  have hne : Ba ≠ Bd := blk_ne hka hkd (by decide)
  have HBY := Aside0.mk (byteL_drop hb a)
  obtain ⟨kb, _, _, _⟩ := know hkb
  obtain ⟨ka, _, _, _⟩ := know hka
  obtain ⟨kd, _, _, _⟩ := know hkd
  have HKA := Aside0.mk hka
  have HKD := Aside0.mk hkd
  have hln : (l.drop a).length < 4611686018427387904 := by rw [List.length_drop]; omega
  have hal : a + (l.drop a).length = l.length := by rw [List.length_drop]; omega
  have hup : ∀ n u, getN (l.drop a) = some (n, u) → n < 18446744073709551616 := fun n u h => (getN_some HBY.out h).1
  obtain ⟨r, hq⟩ : ∃ r, evNum l a d most = r := ⟨_, rfl⟩
  rw [hq]
  clear hC' hlc hi0 hsz0 hr hc hb hkb hka hkd
  cases d with
  | true =>
    rw [evNum_bad] at hq
    subst hq
    obtain ⟨n0, u0, b0, hg0⟩ : ∃ n0 u0 b0, tellN (getN (l.drop a)) = (n0, u0, b0) := ⟨_, _, _, rfl⟩
    have HT := Aside0.mk (fun (W : World) (h : Below w.heap.size w W) => le_Get.told A' (c - a) (l.drop a) W HBY.out hln (Kd.C_below HCUT.out h) HLC.out)
    unfold getPost at HT
    rw [hg0] at HT
    clear hg0 hup
    generalize l.drop a = ld at *
    go_enter Try.func27, Try.ntmps27
    go_wp2_with (go_at_call 28; refine (HT.out _ (Below.refl _ _)).mono ?_; rintro e w1 ⟨rfl, hb1⟩; have HB1 := Aside0.mk hb1; have HKA1 := Aside0.mk (blk_below HKA.out hb1); have HKD1 := Aside0.mk (blk_below HKD.out hb1); obtain ⟨a1, _, a3, _⟩ := know HKA1.out; obtain ⟨d1, _, d3, _⟩ := know HKD1.out; obtain ⟨f1, f2⟩ := know_far HKA1.out hne; clear hb1)
    go_ret
    exact ⟨rfl, blk_far HKA1.out (p := ⟨Bd, 0, none⟩) hne _, blk_put HKD1.out 0 (.bool true) rfl, ((Spares.of_below (S := fun i => i = Ba ∨ i = Bd) HB1.out).set 0 (.inl (.inr rfl)) _)⟩
  | false =>
    cases hg : getN (l.drop a) with
    | none =>
      rw [evNum_none (getM_none hg)] at hq
      subst hq
      have HG := Aside0.mk hg
      clear hg hup
      generalize l.drop a = ld at *
      go_enter Try.func27, Try.ntmps27
      go_wp2_with (go_at_call 28; refine (le_Get.no A' _ ld _ HG.out HBY.out hln HCUT.out HLC.out).mono ?_; rintro e w1 ⟨rfl, hb1⟩; have HB1 := Aside0.mk hb1; have HKA1 := Aside0.mk (blk_below HKA.out hb1); have HKD1 := Aside0.mk (blk_below HKD.out hb1); obtain ⟨a1, _, a3, _⟩ := know HKA1.out; obtain ⟨d1, _, d3, _⟩ := know HKD1.out; obtain ⟨f1, f2⟩ := know_far HKA1.out hne; clear hb1)
      go_ret
      exact ⟨rfl, blk_far HKA1.out (p := ⟨Bd, 0, none⟩) hne _, blk_put HKD1.out 0 (.bool true) rfl, ((Spares.of_below (S := fun i => i = Ba ∨ i = Bd) HB1.out).set 0 (.inl (.inr rfl)) _)⟩
    | some p =>
      obtain ⟨n, u⟩ := p
      have hn := hup n u hg
      have hu := (getN_used hg).2.1
      have HG := Aside0.mk hg
      have hgm := getM_some (m := most) hg
      by_cases hle : n ≤ most
      · rw [if_pos hle] at hgm
        rw [evNum_some hgm] at hq
        subst hq
        have hle2 : (n : Int) ≤ (most : Int) := by omega
        have hw : IntKind.wrap .i64 (n : Int) = (n : Int) := IntWalk.i64_in _ (by omega)
        clear hg hup hgm hle
        generalize l.drop a = ld at *
        go_enter Try.func27, Try.ntmps27
        go_wp2_with (go_at_call 28; refine (le_Get.yes A' _ ld _ HG.out HBY.out hln HCUT.out HLC.out).mono ?_; rintro e w1 ⟨rfl, hb1⟩; have HB1 := Aside0.mk hb1; have HKA1 := Aside0.mk (blk_below HKA.out hb1); have HKD1 := Aside0.mk (blk_below HKD.out hb1); obtain ⟨a1, _, a3, _⟩ := know HKA1.out; obtain ⟨d1, _, d3, _⟩ := know HKD1.out; obtain ⟨f1, f2⟩ := know_far HKA1.out hne; clear hb1)
        go_ret
        exact ⟨rfl, blk_put (blk_far HKA1.out (p := ⟨Bd, 0, none⟩) hne _) 0 _ (by simp), blk_far (blk_put HKD1.out 0 (.bool false) rfl) (p := ⟨Ba, 0, none⟩) (Ne.symm hne) _, Spares.set ((Spares.of_below (S := fun i => i = Ba ∨ i = Bd) HB1.out).set 0 (.inl (.inr rfl)) _) 0 (.inl (.inl rfl)) _⟩
      · rw [if_neg hle] at hgm
        rw [evNum_none hgm] at hq
        subst hq
        have hle2 : ¬ (n : Int) ≤ (most : Int) := by omega
        clear hg hup hgm hle
        generalize l.drop a = ld at *
        go_enter Try.func27, Try.ntmps27
        go_wp2_with (go_at_call 28; refine (le_Get.yes A' _ ld _ HG.out HBY.out hln HCUT.out HLC.out).mono ?_; rintro e w1 ⟨rfl, hb1⟩; have HB1 := Aside0.mk hb1; have HKA1 := Aside0.mk (blk_below HKA.out hb1); have HKD1 := Aside0.mk (blk_below HKD.out hb1); obtain ⟨a1, _, a3, _⟩ := know HKA1.out; obtain ⟨d1, _, d3, _⟩ := know HKD1.out; obtain ⟨f1, f2⟩ := know_far HKA1.out hne; clear hb1)
        go_ret
        exact ⟨rfl, blk_far HKA1.out (p := ⟨Bd, 0, none⟩) hne _, blk_put HKD1.out 0 (.bool true) rfl, ((Spares.of_below (S := fun i => i = Ba ∨ i = Bd) HB1.out).set 0 (.inl (.inr rfl)) _)⟩
def getVs : Nat → List Int → Option (List SValue × Nat)
  | 0, _ => some ([], 0)
  | m + 1, l => match getV l with
    | none => none
    | some (x, n) => match getVs m (l.drop n) with
      | none => none
      | some (xs, k) => some (x :: xs, n + k)
def contE (l : List Int) (m u : Nat) (fs : List SValue) (nm : ByteArray) (tm : Int) : Option (SEvent × Nat) := match getVs m (l.drop u) with
  | none => none
  | some (gs, v) => some (⟨nm, tm, fs ++ gs⟩, u + v)
def contN (l : List Int) (u : Nat) (nm : ByteArray) (tm : Int) : Option (SEvent × Nat) := match getM (l.drop u) 6 with
  | none => none
  | some (m, v) => contE l m (u + v) [] nm tm
def contT (l : List Int) (u : Nat) (nm : ByteArray) : Option (SEvent × Nat) := match getM (l.drop u) 1125899906842624 with
  | none => none
  | some (tm, v) => contN l (u + v) nm (tm : Int)
def getRawE (l : List Int) : Option (SEvent × Nat) := match readT l 12 with
  | none => none
  | some (t, u) => contT l u (strOfNums t)
def getE (l : List Int) : Option (SEvent × Nat) := match getRawE l with
  | none => none
  | some (x, n) => if mayE x then some (x, n) else none
def gotE (r : Option (SEvent × Nat)) : SEvent × Nat × Bool := match r with
  | some (x, n) => (x, n, true)
  | none => (⟨⟨#[]⟩, 0, []⟩, 0, false)
def evPost3 (x : SEvent) (n : Nat) (b : Bool) (w : World) (e : Ending) (w' : World) : Prop := ∃ A c, (e = .returned (.tuple #[.agg #[.string x.f0, .int .i64 x.f1, .slice A x.f2.length c], .int .i64 (n : Int), .bool b]) ∧ x.f2.length ≤ c ∧ Kd.C kValue w' A x.f2.length x.f2) ∧ Below w.heap.size w w'
theorem contE_step (l : List Int) (m u : Nat) (fs : List SValue) (nm : ByteArray) (tm : Int) : contE l (m + 1) u fs nm tm = match getV (l.drop u) with
    | none => none
    | some (x, n) => contE l m (u + n) (fs ++ [x]) nm tm := by
  unfold contE
  rw [getVs]
  cases hg : getV (l.drop u) with
  | none => rfl
  | some p =>
    obtain ⟨x, n⟩ := p
    simp only [List.drop_drop]
    cases hv : getVs m (l.drop (u + n)) with
    | none => rfl
    | some q =>
      obtain ⟨xs, k⟩ := q
      simp only [List.append_assoc, List.singleton_append, Nat.add_assoc]
theorem getV_i64 {l : List Int} {x : SValue} {n : Nat} (hb : byteL l) (h : getV l = some (x, n)) : i64V x ∧ n ≤ l.length ∧ mayV x = true := by
  unfold getV at h
  cases l with
  | nil => simp at h
  | cons k r =>
    cases hg : getN r with
    | none => simp only [hg] at h; simp at h
    | some p =>
      obtain ⟨m, u⟩ := p
      have hm := (getN_some (fun c hc => hb c (by simp [hc])) hg).1
      have hu := (getN_used hg).2.1
      simp only [hg] at h
      have he : (⟨#[]⟩ : ByteArray).toList = [] := by decide +kernel
      by_cases h0 : k = 0
      · rw [if_pos h0] at h
        simp only [Option.some.injEq, Prod.mk.injEq] at h
        obtain ⟨rfl, rfl⟩ := h
        exact ⟨zag_in hm, by simp; omega, mayV_iff.2 (.inl ⟨rfl, he⟩)⟩
      · rw [if_neg h0] at h
        by_cases h2 : k = 2
        · rw [if_pos h2] at h
          by_cases h3 : m ≤ 40 ∧ m ≤ r.length - u
          · rw [if_pos h3] at h
            simp only [Option.some.injEq, Prod.mk.injEq] at h
            obtain ⟨rfl, rfl⟩ := h
            refine ⟨zero_i64, by simp only [List.length_cons]; omega, mayV_iff.2 (.inr (.inr (.inl ⟨rfl, rfl, ?_⟩)))⟩
            show (strOfNums _).size ≤ 40
            rw [strOfNums_size, List.length_take]
            omega
          · rw [if_neg h3] at h; simp at h
        · rw [if_neg h2] at h
          by_cases h3 : (k = 1 ∧ m < 2) ∨ (k = 3 ∧ m ≤ 1125899906842624)
          · rw [if_pos h3] at h
            simp only [Option.some.injEq, Prod.mk.injEq] at h
            obtain ⟨rfl, rfl⟩ := h
            refine ⟨?_, by simp; omega, mayV_iff.2 ?_⟩
            · show -9223372036854775808 ≤ (m : Int) ∧ (m : Int) ≤ 9223372036854775807
              omega
            · rcases h3 with ⟨rfl, h4⟩ | ⟨rfl, h4⟩
              · exact .inr (.inl ⟨rfl, he, by show 0 ≤ (m : Int); omega, by show (m : Int) < 2; omega⟩)
              · exact .inr (.inr (.inr ⟨rfl, he, by show 0 ≤ (m : Int); omega, by show (m : Int) ≤ _; omega⟩))
          · rw [if_neg h3] at h; simp at h
theorem gotV_i64 {l : List Int} {x : SValue} {n : Nat} {b : Bool} (hb : byteL l) (h : gotV (getV l) = (x, n, b)) : i64V x ∧ n ≤ l.length := by
  cases hg : getV l with
  | none =>
    rw [hg] at h
    simp only [gotV, Prod.mk.injEq] at h
    obtain ⟨rfl, rfl, rfl⟩ := h
    exact ⟨zero_i64, Nat.zero_le _⟩
  | some p =>
    obtain ⟨y, m⟩ := p
    rw [hg] at h
    simp only [gotV, Prod.mk.injEq] at h
    obtain ⟨rfl, rfl, rfl⟩ := h
    have := getV_i64 hb hg
    exact ⟨this.1, this.2.1⟩
def InvE (l : List Int) (nm : ByteArray) (d : Bool) (X : Option (SEvent × Nat)) : Prop := (d = true ∨ nm.size = 0 → getE l = none) ∧ (d = false → nm.size ≠ 0 → getRawE l = X)
theorem getE_none {l : List Int} (h : getRawE l = none) : getE l = none := by unfold getE; rw [h]
theorem getE_name {l : List Int} {nm : ByteArray} {tm : Int} {fs : List SValue} {n : Nat} (h : getRawE l = some (⟨nm, tm, fs⟩, n)) (h0 : nm.size = 0) : getE l = none := by
  unfold getE
  rw [h]
  have : mayE ⟨nm, tm, fs⟩ = false := by
    rw [← Bool.not_eq_true]
    intro h2
    exact (nameB_size (mayE_iff.1 h2).1).1 h0
  simp only [this]
  rfl
theorem contE_nm {l : List Int} {m u : Nat} {fs : List SValue} {nm : ByteArray} {tm : Int} {x : SEvent} {n : Nat} (h : contE l m u fs nm tm = some (x, n)) : x.f0 = nm := by
  unfold contE at h
  split at h
  · simp at h
  · simp only [Option.some.injEq, Prod.mk.injEq] at h
    rw [← h.1]
theorem contN_nm {l : List Int} {u : Nat} {nm : ByteArray} {tm : Int} {x : SEvent} {n : Nat} (h : contN l u nm tm = some (x, n)) : x.f0 = nm := by
  unfold contN at h
  split at h
  · simp at h
  · exact contE_nm h
theorem contT_nm {l : List Int} {u : Nat} {nm : ByteArray} {x : SEvent} {n : Nat} (h : contT l u nm = some (x, n)) : x.f0 = nm := by
  unfold contT at h
  split at h
  · simp at h
  · exact contN_nm h
theorem inv_name (l : List Int) (hb : byteL l) {n1 a1 : Nat} {d1 : Bool} (h : evNum l 0 false 12 = (n1, a1, d1)) :
    InvE l (if n1 ≤ l.length - a1 then strOfNums ((l.drop a1).take n1) else ⟨#[]⟩) d1 (contT l (if n1 ≤ l.length - a1 then a1 + n1 else a1) (if n1 ≤ l.length - a1 then strOfNums ((l.drop a1).take n1) else ⟨#[]⟩)) := by
  cases hg : getM l 12 with
  | none =>
    have h2 := evNum_none (l := l) (a := 0) (most := 12) (by simpa using hg)
    rw [h2] at h
    simp only [Prod.mk.injEq] at h
    obtain ⟨rfl, rfl, rfl⟩ := h
    exact ⟨fun _ => getE_none (by unfold getRawE readT; rw [hg]), fun h => by cases h⟩
  | some p =>
    obtain ⟨n, u⟩ := p
    have h2 := evNum_some (l := l) (a := 0) (most := 12) (n := n) (u := u) (by simpa using hg)
    rw [h2] at h
    simp only [Prod.mk.injEq, Nat.zero_add] at h
    obtain ⟨rfl, rfl, rfl⟩ := h
    by_cases hf : n ≤ l.length - u
    · rw [if_pos hf, if_pos hf]
      have hr : getRawE l = contT l (u + n) (strOfNums ((l.drop u).take n)) := by
        unfold getRawE readT
        rw [hg]
        simp only
        rw [if_pos hf]
      refine ⟨fun hz => ?_, fun _ _ => hr⟩
      rcases hz with hz | hz
      · cases hz
      · cases hx : getRawE l with
        | none => exact getE_none hx
        | some q =>
          obtain ⟨⟨nm, tm, fs⟩, k⟩ := q
          have h3 := contT_nm (hr ▸ hx)
          exact getE_name hx (by rw [show nm = _ from h3]; exact hz)
    · rw [if_neg hf, if_neg hf]
      refine ⟨fun _ => getE_none (by unfold getRawE readT; rw [hg]; simp only; rw [if_neg hf]), fun _ h => absurd rfl h⟩
theorem inv_time {l : List Int} {nm : ByteArray} {d d' : Bool} {a a' n : Nat} (h : InvE l nm d (contT l a nm)) (hq : evNum l a d 1125899906842624 = (n, a', d')) : InvE l nm d' (contN l a' nm (n : Int)) := by
  cases d with
  | true =>
    rw [evNum_bad] at hq
    simp only [Prod.mk.injEq] at hq
    obtain ⟨rfl, rfl, rfl⟩ := hq
    exact ⟨fun _ => h.1 (.inl rfl), fun h => by cases h⟩
  | false =>
    cases hg : getM (l.drop a) 1125899906842624 with
    | none =>
      rw [evNum_none hg] at hq
      simp only [Prod.mk.injEq] at hq
      obtain ⟨rfl, rfl, rfl⟩ := hq
      refine ⟨fun _ => ?_, fun h => by cases h⟩
      by_cases h0 : nm.size = 0
      · exact h.1 (.inr h0)
      · exact getE_none ((h.2 rfl h0).trans (by unfold contT; rw [hg]))
    | some p =>
      obtain ⟨m, u⟩ := p
      rw [evNum_some hg] at hq
      simp only [Prod.mk.injEq] at hq
      obtain ⟨rfl, rfl, rfl⟩ := hq
      refine ⟨fun hz => h.1 hz, fun h1 h2 => (h.2 h1 h2).trans (by unfold contT; rw [hg])⟩
theorem inv_many {l : List Int} {nm : ByteArray} {tm : Int} {d d' : Bool} {a a' n : Nat} (h : InvE l nm d (contN l a nm tm)) (hq : evNum l a d 6 = (n, a', d')) : InvE l nm d' (contE l n a' [] nm tm) := by
  cases d with
  | true =>
    rw [evNum_bad] at hq
    simp only [Prod.mk.injEq] at hq
    obtain ⟨rfl, rfl, rfl⟩ := hq
    exact ⟨fun _ => h.1 (.inl rfl), fun h => by cases h⟩
  | false =>
    cases hg : getM (l.drop a) 6 with
    | none =>
      rw [evNum_none hg] at hq
      simp only [Prod.mk.injEq] at hq
      obtain ⟨rfl, rfl, rfl⟩ := hq
      refine ⟨fun _ => ?_, fun h => by cases h⟩
      by_cases h0 : nm.size = 0
      · exact h.1 (.inr h0)
      · exact getE_none ((h.2 rfl h0).trans (by unfold contN; rw [hg]))
    | some p =>
      obtain ⟨m, u⟩ := p
      rw [evNum_some hg] at hq
      simp only [Prod.mk.injEq] at hq
      obtain ⟨rfl, rfl, rfl⟩ := hq
      refine ⟨fun hz => h.1 hz, fun h1 h2 => (h.2 h1 h2).trans (by unfold contN; rw [hg])⟩
theorem inv_value {l : List Int} {nm : ByteArray} {tm : Int} {d b : Bool} {m a n : Nat} {fs : List SValue} {x : SValue} (h : InvE l nm d (contE l (m + 1) a fs nm tm)) (hq : gotV (getV (l.drop a)) = (x, n, b)) : InvE l nm (d || !b) (contE l m (a + n) (fs ++ [x]) nm tm) := by
  rw [contE_step] at h
  cases hg : getV (l.drop a) with
  | none =>
    rw [hg] at hq h
    simp only [gotV, Prod.mk.injEq] at hq
    obtain ⟨rfl, rfl, rfl⟩ := hq
    rw [show (d || !false) = true from by simp]
    refine ⟨fun _ => ?_, fun h => by cases h⟩
    cases d with
    | true => exact h.1 (.inl rfl)
    | false =>
      by_cases h0 : nm.size = 0
      · exact h.1 (.inr h0)
      · exact getE_none (h.2 rfl h0)
  | some p =>
    obtain ⟨y, k⟩ := p
    rw [hg] at hq h
    simp only [gotV, Prod.mk.injEq] at hq
    obtain ⟨rfl, rfl, rfl⟩ := hq
    rw [show (d || !true) = d from by simp]
    exact h
theorem contE_end (l : List Int) (a : Nat) (fs : List SValue) (nm : ByteArray) (tm : Int) : contE l 0 a fs nm tm = some (⟨nm, tm, fs⟩, a) := by unfold contE getVs; simp
theorem inv_end {l : List Int} {nm : ByteArray} {tm : Int} {d : Bool} {a : Nat} {fs : List SValue} (h : InvE l nm d (contE l 0 a fs nm tm)) : gotE (getE l) = if (d || !mayE ⟨nm, tm, fs⟩) then (⟨⟨#[]⟩, 0, []⟩, 0, false) else (⟨nm, tm, fs⟩, a, true) := by
  rw [contE_end] at h
  cases d with
  | true =>
    rw [h.1 (.inl rfl)]
    rfl
  | false =>
    cases hm : mayE ⟨nm, tm, fs⟩ with
    | true =>
      have h0 := (nameB_size (mayE_iff.1 hm).1).1
      unfold getE
      rw [h.2 rfl h0]
      simp only [hm]
      rfl
    | false =>
      by_cases h0 : nm.size = 0
      · rw [h.1 (.inr h0)]
        rfl
      · unfold getE
        rw [h.2 rfl h0]
        simp only [hm]
        rfl
structure GetEv (A : Option Addr) (n c : Nat) (a : Nat) (d : Bool) (nm : ByteArray) (tm : Int) (v : Value) (w w' : World) : Prop where
  b : w'.heap[w.heap.size]? = some (bBlk A n c)
  r : w'.heap[w.heap.size + 1]? = some (.cells #[.string ⟨#[]⟩, .int .i64 0, .slice none 0 0] 24 (0, 0))
  a : w'.heap[w.heap.size + 1 + 1]? = some (aBlk a)
  d : w'.heap[w.heap.size + 1 + 1 + 1]? = some (dBlk d)
  e : w'.heap[w.heap.size + 1 + 1 + 1 + 1]? = some (.cells #[.string nm, .int .i64 tm, v] 24 (0, 0))
  below : Below w.heap.size w w'
structure getERel (l : List Int) (A : Option Addr) (c : Nat) (nm : ByteArray) (tm : Int) (many : Nat) (w : World) (k : Nat) (w' : World) : Prop where
  le : k ≤ many
  st : ∃ a d fs v, fs.length = k ∧ a ≤ l.length ∧ (∀ x ∈ fs, i64V x) ∧ InvE l nm d (contE l (many - k) a fs nm tm) ∧ GetEv A l.length c a d nm tm v w w' ∧ Kd.R kValue 37 w' w.heap.size (fun _ => True) v fs
theorem evMk {x y : SEvent} {m k : Nat} {b b' : Bool} {r : SEvent × Nat × Bool} (h : r = (x, m, b)) (h2 : r = (y, k, b')) : x = y ∧ m = k ∧ b = b' := by
  rw [h] at h2
  simp only [Prod.mk.injEq] at h2
  exact ⟨h2.1, h2.2.1, h2.2.2⟩
set_option maxHeartbeats 16000000 in
set_option maxRecDepth 100000 in
theorem event_Get.told (w : World) (A : Option Addr) (c : Nat) (l : List Int) (hr0 : Kd.C (Kd.int .u8) w A l.length l) (hc0 : l.length ≤ c) (hb : byteL l) (hl : l.length < 4611686018427387904) {x : SEvent} {m : Nat} {b : Bool} (hq : gotE (getE l) = (x, m, b)) :
    Calls Try.prog 12 #[.slice A l.length c] w (evPost3 x m b w) := by
  have HR := Aside0.mk hr0
  have HC := Aside0.mk hc0
  have HBY := Aside0.mk hb
  have HQ := Aside0.mk hq
  obtain ⟨i0, hi0, _, hsz0, _⟩ := info_parts info5
  obtain ⟨n1, a1, d1, hq1⟩ : ∃ n1 a1 d1, evNum l 0 false 12 = (n1, a1, d1) := ⟨_, _, _, rfl⟩
  obtain ⟨hat1, hn1⟩ : a1 ≤ l.length ∧ n1 ≤ 12 := by have h := evNum_at (d := false) (most := 12) (Nat.zero_le l.length); rw [hq1] at h; exact h
  have HI1 := Aside0.mk (inv_name l hb hq1)
  have HQ1 := Aside0.mk hq1
  have G0 : Aside0 (GetEv A l.length c 0 false ⟨#[]⟩ 0 (.slice none 0 0) w (((((w.alloc (.cells #[.slice A l.length c] 27)).alloc (.cells #[.string ⟨#[]⟩, .int .i64 0, .slice none 0 0] 24)).alloc (.cells #[.int .i64 0] 3)).alloc (.cells #[.bool false] 4)).alloc (.cells #[.string ⟨#[]⟩, .int .i64 0, .slice none 0 0] 24))) := ⟨⟨blk_alloc (blk_alloc (blk_alloc (blk_alloc (blk_new _ _) _) _) _) _, blk_alloc (blk_alloc (blk_alloc (blk_new2 _ _ _) _) _) _, blk_alloc (blk_alloc (blk_new3 _ _ _ _) _) _, blk_alloc (blk_new4 _ _ _ _ _) _, blk_new5 _ _ _ _ _ _, below_alloc (below_alloc (below_alloc (below_alloc (below_alloc (Below.refl _ _) _) _) _) _) _⟩⟩
  clear hr0 hc0 hb hq hq1
  go_enter Try.func12, Try.ntmps12
  go_upto_if 21 with (go_at_call_of 27 (Value.int .u64 12); refine (evNum_told _ (w.heap.size) (w.heap.size + 1 + 1) (w.heap.size + 1 + 1 + 1) A c l 0 false 12 (Kd.C_below HR.out G0.out.below) HC.out HBY.out hl G0.out.b G0.out.a G0.out.d (Nat.zero_le _) (by decide)).mono ?_; rw [HQ1.out]; rintro e w1 ⟨rfl, ha1, hd1, hs1⟩; have G1 := Aside0.mk (show GetEv A l.length c _ _ ⟨#[]⟩ 0 (.slice none 0 0) w w1 from ⟨hs1.blk G0.out.b (by omega), hs1.blk G0.out.r (by omega), ha1, hd1, hs1.blk G0.out.e (by omega), Spares.below G0.out.below hs1 (by rintro i (rfl | rfl) <;> omega)⟩); clear ha1 hd1 hs1; obtain ⟨e11, e12, e13, e14⟩ := know G1.out.e; obtain ⟨a11, _, a13, _⟩ := know G1.out.a; obtain ⟨b11, _, _, _⟩ := know G1.out.b)
  go_cut [] (fun wx => ∃ nm a, GetEv A l.length c a d1 nm 0 (.slice none 0 0) w wx ∧ a ≤ l.length ∧ InvE l nm d1 (contT l a nm))
  case first =>
    by_cases hf : n1 ≤ l.length - a1
    · have HI := HI1.out
      rw [if_pos hf, if_pos hf] at HI
      have HI2 := Aside0.mk HI
      clear HI
      obtain ⟨A2, hcut2, hD2, hln2⟩ := mid_row (P := Try.prog) (d := Kd.int .u8) Try.underlying27 hi0 hsz0 A c l a1 n1 (a1 : Int) ((a1 : Int) + (n1 : Int)) (by omega) (by omega) (by omega) HC.out
      have hstr := Kd.C_string (P := Try.prog) (c := c - a1) Try.underlying27 Try.underlying5 Try.underlying9 (hD2 w1 (Kd.C_below HR.out G1.out.below))
      have hf1 : (n1 : Int) ≤ (l.length : Int) - (a1 : Int) := by omega
      have hs1 : 0 ≤ (a1 : Int) + (n1 : Int) ∧ (a1 : Int) + (n1 : Int) ≤ 9223372036854775807 := by omega
      obtain ⟨f1, f2⟩ := know_far G1.out.a (show w.heap.size + 1 + 1 ≠ w.heap.size + 1 + 1 + 1 + 1 by omega)
      clear hD2 hln2 hi0 hsz0
      generalize strOfNums ((l.drop a1).take n1) = t at *
      go_wp2_with fail
      go_meet
      exact ⟨t, a1 + n1, ⟨blk_far (blk_far G1.out.b (p := ⟨w.heap.size + 1 + 1 + 1 + 1, 0, none⟩) (show w.heap.size ≠ w.heap.size + 1 + 1 + 1 + 1 by omega) _) (p := ⟨w.heap.size + 1 + 1, 0, none⟩) (show w.heap.size ≠ w.heap.size + 1 + 1 by omega) _, blk_far (blk_far G1.out.r (p := ⟨w.heap.size + 1 + 1 + 1 + 1, 0, none⟩) (show w.heap.size + 1 ≠ w.heap.size + 1 + 1 + 1 + 1 by omega) _) (p := ⟨w.heap.size + 1 + 1, 0, none⟩) (show w.heap.size + 1 ≠ w.heap.size + 1 + 1 by omega) _, blk_put (blk_far G1.out.a (p := ⟨w.heap.size + 1 + 1 + 1 + 1, 0, none⟩) (show w.heap.size + 1 + 1 ≠ w.heap.size + 1 + 1 + 1 + 1 by omega) _) 0 _ (by simp), blk_far (blk_far G1.out.d (p := ⟨w.heap.size + 1 + 1 + 1 + 1, 0, none⟩) (show w.heap.size + 1 + 1 + 1 ≠ w.heap.size + 1 + 1 + 1 + 1 by omega) _) (p := ⟨w.heap.size + 1 + 1, 0, none⟩) (show w.heap.size + 1 + 1 + 1 ≠ w.heap.size + 1 + 1 by omega) _, blk_far (blk_put G1.out.e 0 _ rfl) (p := ⟨w.heap.size + 1 + 1, 0, none⟩) (show w.heap.size + 1 + 1 + 1 + 1 ≠ w.heap.size + 1 + 1 by omega) _, (G1.out.below.setCell (p := ⟨w.heap.size + 1 + 1 + 1 + 1, 0, none⟩) (show w.heap.size ≤ w.heap.size + 1 + 1 + 1 + 1 by omega) _).setCell (p := ⟨w.heap.size + 1 + 1, 0, none⟩) (show w.heap.size ≤ w.heap.size + 1 + 1 by omega) _⟩, by omega, HI2.out⟩
    · have HI := HI1.out
      rw [if_neg hf, if_neg hf] at HI
      have HI2 := Aside0.mk HI
      have hf1 : (l.length : Int) - (a1 : Int) < (n1 : Int) := by omega
      clear HI hi0 hsz0
      go_wp2_with fail
      go_meet
      exact ⟨⟨#[]⟩, a1, G1.out, hat1, HI2.out⟩
  case rest =>
    obtain ⟨nm, a2, hg2, hat2, hi2⟩ := hcut
    obtain ⟨w2, rfl⟩ : ∃ w2, w2 = wc := ⟨_, rfl⟩
    have G2 := Aside0.mk hg2
    obtain ⟨n3, a3, d3, hq3⟩ : ∃ n3 a3 d3, evNum l a2 d1 1125899906842624 = (n3, a3, d3) := ⟨_, _, _, rfl⟩
    obtain ⟨hat3, hn3⟩ : a3 ≤ l.length ∧ n3 ≤ 1125899906842624 := by have h := evNum_at (d := d1) (most := 1125899906842624) hat2; rw [hq3] at h; exact h
    obtain ⟨n4, a4, d4, hq4⟩ : ∃ n4 a4 d4, evNum l a3 d3 6 = (n4, a4, d4) := ⟨_, _, _, rfl⟩
    obtain ⟨hat4, hn4⟩ : a4 ≤ l.length ∧ n4 ≤ 6 := by have h := evNum_at (d := d3) (most := 6) hat3; rw [hq4] at h; exact h
    have HI4 := Aside0.mk (inv_many (inv_time hi2 hq3) hq4)
    have HQ3 := Aside0.mk hq3
    have HQ4 := Aside0.mk hq4
    clear hg2 hi2 hq3 hq4 hn3 HI1
    go_wp2_with (first
      | (go_at_call_of 27 (Value.int .u64 1125899906842624); refine (evNum_told _ (w.heap.size) (w.heap.size + 1 + 1) (w.heap.size + 1 + 1 + 1) A c l a2 d1 1125899906842624 (Kd.C_below HR.out G2.out.below) HC.out HBY.out hl G2.out.b G2.out.a G2.out.d hat2 (by decide)).mono ?_; rw [HQ3.out]; rintro e w3 ⟨rfl, ha3, hd3, hs3⟩; have G3 := Aside0.mk (show GetEv A l.length c _ _ nm 0 (.slice none 0 0) w w3 from ⟨hs3.blk G2.out.b (by omega), hs3.blk G2.out.r (by omega), ha3, hd3, hs3.blk G2.out.e (by omega), Spares.below G2.out.below hs3 (by rintro i (rfl | rfl) <;> omega)⟩); clear ha3 hd3 hs3; obtain ⟨e31, e32, e33, e34⟩ := know G3.out.e; obtain ⟨a31, _, a33, _⟩ := know G3.out.a; obtain ⟨b31, _, _, _⟩ := know G3.out.b)
      | (have G3p : Aside0 (GetEv A l.length c a3 d3 nm (n3 : Int) (.slice none 0 0) w (w3.setCell ⟨w.heap.size + 1 + 1 + 1 + 1, 1, none⟩ (.int .i64 (n3 : Int)))) := ⟨blk_far G3.out.b (p := ⟨w.heap.size + 1 + 1 + 1 + 1, 1, none⟩) (show w.heap.size ≠ w.heap.size + 1 + 1 + 1 + 1 by omega) _, blk_far G3.out.r (p := ⟨w.heap.size + 1 + 1 + 1 + 1, 1, none⟩) (show w.heap.size + 1 ≠ w.heap.size + 1 + 1 + 1 + 1 by omega) _, blk_far G3.out.a (p := ⟨w.heap.size + 1 + 1 + 1 + 1, 1, none⟩) (show w.heap.size + 1 + 1 ≠ w.heap.size + 1 + 1 + 1 + 1 by omega) _, blk_far G3.out.d (p := ⟨w.heap.size + 1 + 1 + 1 + 1, 1, none⟩) (show w.heap.size + 1 + 1 + 1 ≠ w.heap.size + 1 + 1 + 1 + 1 by omega) _, blk_put G3.out.e 1 _ rfl, G3.out.below.setCell (p := ⟨w.heap.size + 1 + 1 + 1 + 1, 1, none⟩) (show w.heap.size ≤ w.heap.size + 1 + 1 + 1 + 1 by omega) _⟩; go_at_call_of 27 (Value.int .u64 6); refine (evNum_told _ (w.heap.size) (w.heap.size + 1 + 1) (w.heap.size + 1 + 1 + 1) A c l a3 d3 6 (Kd.C_below HR.out G3p.out.below) HC.out HBY.out hl G3p.out.b G3p.out.a G3p.out.d hat3 (by decide)).mono ?_; rw [HQ4.out]; rintro e w4 ⟨rfl, ha4, hd4, hs4⟩; have G4 := Aside0.mk (show GetEv A l.length c _ _ nm (n3 : Int) (.slice none 0 0) w w4 from ⟨hs4.blk G3p.out.b (by omega), hs4.blk G3p.out.r (by omega), ha4, hd4, hs4.blk G3p.out.e (by omega), Spares.below G3p.out.below hs4 (by rintro i (rfl | rfl) <;> omega)⟩); clear ha4 hd4 hs4; obtain ⟨e41, e42, e43, e44⟩ := know G4.out.e; obtain ⟨a41, _, a43, _⟩ := know G4.out.a; obtain ⟨b41, _, _, _⟩ := know G4.out.b))
    clear G0 G1 G2 G3 G3p HQ3 HQ4 HQ1 e31 e32 e33 e34 a31 a33 b31 e41 e42 e43 e44 a41 a43 b41
    go_loopw [10, 11, 12, 38] (fun _ _ _ v38 w' => ∃ k : Nat, v38 = .int .i64 k ∧ getERel l A c nm (n3 : Int) n4 w k w') (fun _ _ _ i _ => n4 - (intOf i).toNat)
    case atStart => exact ⟨0, rfl, Nat.zero_le _, a4, d4, [], _, rfl, hat4, (fun _ h => by cases h), HI4.out, G4.out, Kd.R_nil _ _ _ _ _⟩
    case round =>
      obtain ⟨k, rfl, hk, a, d, fs, v, hfl, hat, hwf, hinv, hg, ho⟩ := hrel
      have HINV := Aside0.mk hinv
      have HG := Aside0.mk hg
      have HO := Aside0.mk ho
      have HWF := Aside0.mk hwf
      have HFL := Aside0.mk hfl
      clear hinv hg ho hwf hfl G4 HI4
      by_cases hlt : k < n4
      · obtain ⟨A5, hcut5, hD5, hlc5⟩ := drop_row (P := Try.prog) (d := Kd.int .u8) Try.underlying27 hi0 hsz0 A c l a (a : Int) rfl hat HC.out
        have HD5 := Aside0.mk (hD5 wr (Kd.C_below HR.out HG.out.below))
        have HL5 := Aside0.mk hlc5
        have hal : a + (l.drop a).length = l.length := by rw [List.length_drop]; omega
        have HB5 := Aside0.mk (byteL_drop HBY.out a)
        obtain ⟨y, n5, b5, hq5⟩ : ∃ y n5 b5, gotV (getV (l.drop a)) = (y, n5, b5) := ⟨_, _, _, rfl⟩
        obtain ⟨hyw, hn5⟩ := gotV_i64 HB5.out hq5
        have hinv := HINV.out
        rw [show n4 - k = (n4 - (k + 1)) + 1 from by omega] at hinv
        have HI5 := Aside0.mk (inv_value hinv hq5)
        have HQ5 := Aside0.mk hq5
        have HYW := Aside0.mk hyw
        have hs5 : 0 ≤ (a : Int) + (n5 : Int) ∧ (a : Int) + (n5 : Int) ≤ 9223372036854775807 := by omega
        have hsa : a + n5 ≤ l.length := by omega
        obtain ⟨b1, _, _, _⟩ := know HG.out.b
        obtain ⟨a1', _, _, _⟩ := know HG.out.a
        clear hD5 hlc5 hinv hq5 hyw hi0 hsz0
        generalize l.drop a = ld at *
        cases d
        all_goals
          go_wp2_with (first
            | (go_at_call 29; refine (value_Get.told wr A5 _ ld HD5.out HL5.out HB5.out (by omega) HQ5.out).mono ?_; rintro e w5 ⟨rfl, hb5⟩; have G5 := Aside0.mk (show GetEv A l.length c a _ nm (n3 : Int) v w w5 from ⟨blk_below HG.out.b hb5, blk_below HG.out.r hb5, blk_below HG.out.a hb5, blk_below HG.out.d hb5, blk_below HG.out.e hb5, below_step HG.out.below hb5⟩); have HO5 := Aside0.mk (Kd.R_below HO.out hb5); obtain ⟨_, d2, _, d4'⟩ := know G5.out.d; obtain ⟨e1, _⟩ := know_past (b := w.heap.size + 1 + 1 + 1) G5.out.e (show w.heap.size + 1 + 1 + 1 + 1 ≠ w.heap.size + 1 + 1 + 1 by omega); have hz5 : w.heap.size + 1 + 1 + 1 + 1 < w5.heap.size := blk_lt G5.out.e; obtain ⟨x1, _⟩ := know_far (b := w.heap.size + 1 + 1 + 1) (blk_new w5 (.cells #[.int .i64 y.f0, .int .i64 y.f1, .string y.f2] 37)) (show w5.heap.size ≠ w.heap.size + 1 + 1 + 1 by omega); clear hb5)
            | ((with_reducible refine gate_builtin (b := .append) (xs := #[.tmp 54, .tmp 56]) rfl ?_); at_builtin; refine Kd.R_append kValue (w0 := w) w.heap.size rfl (.tmp 54) (.tmp 56) 22 37 (.agg #[(.int .i64 0), (.int .i64 0), (.string ⟨#[]⟩)]) 32 rfl Try.underlying22 infoValue rfl (by decide) (by decide) v fs y [.int .i64 y.f0, .int .i64 y.f1, .string y.f2] (fun _ => True) (fun _ => False) rfl ?hx (kValue_mkM _ _ _ y) (fun _ h => h.elim) (fun _ _ => trivial) (Kd.R_set (Kd.R_alloc HO5.out (.cells #[.int .i64 y.f0, .int .i64 y.f1, .string y.f2] 37)) (blk_alloc G5.out.d _) (by decide) 0 _) ((below_alloc G5.out.below (.cells #[.int .i64 y.f0, .int .i64 y.f1, .string y.f2] 37)).setCell (p := ⟨w.heap.size + 1 + 1 + 1, 0, none⟩) (show w.heap.size ≤ w.heap.size + 1 + 1 + 1 by omega) _) (by show w.heap.size ≤ _; rw [World.size_setCell, World.size_alloc]; omega) (by rw [HFL.out]; omega) ?_; (case hx => rw [World.size_setCell, World.size_alloc]; rfl); intro v6 w6 ho6 hb6 hg6 _; have HO6 := Aside0.mk ho6; have G6 := Aside0.mk (show GetEv A l.length c a _ nm (n3 : Int) v w w6 from ⟨blk_grown (blk_far (blk_alloc G5.out.b (.cells #[.int .i64 y.f0, .int .i64 y.f1, .string y.f2] 37)) (p := ⟨w.heap.size + 1 + 1 + 1, 0, none⟩) (show w.heap.size ≠ w.heap.size + 1 + 1 + 1 by omega) _) hg6 (Kd.R_ne HO5.out G5.out.b (by decide)), blk_grown (blk_far (blk_alloc G5.out.r (.cells #[.int .i64 y.f0, .int .i64 y.f1, .string y.f2] 37)) (p := ⟨w.heap.size + 1 + 1 + 1, 0, none⟩) (show w.heap.size + 1 ≠ w.heap.size + 1 + 1 + 1 by omega) _) hg6 (Kd.R_ne HO5.out G5.out.r (by decide)), blk_grown (blk_far (blk_alloc G5.out.a (.cells #[.int .i64 y.f0, .int .i64 y.f1, .string y.f2] 37)) (p := ⟨w.heap.size + 1 + 1 + 1, 0, none⟩) (show w.heap.size + 1 + 1 ≠ w.heap.size + 1 + 1 + 1 by omega) _) hg6 (Kd.R_ne HO5.out G5.out.a (by decide)), blk_grown (blk_put (blk_alloc G5.out.d (.cells #[.int .i64 y.f0, .int .i64 y.f1, .string y.f2] 37)) 0 _ rfl) hg6 (Kd.R_ne HO5.out G5.out.d (by decide)), blk_grown (blk_far (blk_alloc G5.out.e (.cells #[.int .i64 y.f0, .int .i64 y.f1, .string y.f2] 37)) (p := ⟨w.heap.size + 1 + 1 + 1, 0, none⟩) (show w.heap.size + 1 + 1 + 1 + 1 ≠ w.heap.size + 1 + 1 + 1 by omega) _) hg6 (Kd.R_ne HO5.out G5.out.e (by decide)), hb6⟩); obtain ⟨A6, c6, hv6⟩ := Kd.R_slice ho6; rw [List.length_append, List.length_singleton] at hv6; subst hv6; obtain ⟨e6, _, e6f, _⟩ := know G6.out.e; obtain ⟨a6, a6f⟩ := know_far (b := w.heap.size + 1 + 1 + 1 + 1) G6.out.a (show w.heap.size + 1 + 1 ≠ w.heap.size + 1 + 1 + 1 + 1 by omega); clear ho6 hb6 hg6))
          have HFN : Aside0 ((fs ++ [y]).length = k + 1) := ⟨by rw [List.length_append, HFL.out]; rfl⟩
          have HWN : Aside0 (∀ z ∈ fs ++ [y], i64V z) := ⟨fun z hz => by rcases List.mem_append.1 hz with h | h; exact HWF.out z h; rw [List.mem_singleton.1 h]; exact HYW.out⟩
          have G7 : Aside0 (GetEv A l.length c (a + n5) _ nm (n3 : Int) (.slice A6 (fs.length + 1) c6) w ((w6.setCell ⟨w.heap.size + 1 + 1 + 1 + 1, 2, none⟩ (.slice A6 (fs.length + 1) c6)).setCell ⟨w.heap.size + 1 + 1, 0, none⟩ (.int .i64 ((a : Int) + (n5 : Int))))) := ⟨blk_far (blk_far G6.out.b (p := ⟨w.heap.size + 1 + 1 + 1 + 1, 2, none⟩) (show w.heap.size ≠ w.heap.size + 1 + 1 + 1 + 1 by omega) _) (p := ⟨w.heap.size + 1 + 1, 0, none⟩) (show w.heap.size ≠ w.heap.size + 1 + 1 by omega) _, blk_far (blk_far G6.out.r (p := ⟨w.heap.size + 1 + 1 + 1 + 1, 2, none⟩) (show w.heap.size + 1 ≠ w.heap.size + 1 + 1 + 1 + 1 by omega) _) (p := ⟨w.heap.size + 1 + 1, 0, none⟩) (show w.heap.size + 1 ≠ w.heap.size + 1 + 1 by omega) _, blk_put (blk_far G6.out.a (p := ⟨w.heap.size + 1 + 1 + 1 + 1, 2, none⟩) (show w.heap.size + 1 + 1 ≠ w.heap.size + 1 + 1 + 1 + 1 by omega) _) 0 _ (by simp), blk_far (blk_far G6.out.d (p := ⟨w.heap.size + 1 + 1 + 1 + 1, 2, none⟩) (show w.heap.size + 1 + 1 + 1 ≠ w.heap.size + 1 + 1 + 1 + 1 by omega) _) (p := ⟨w.heap.size + 1 + 1, 0, none⟩) (show w.heap.size + 1 + 1 + 1 ≠ w.heap.size + 1 + 1 by omega) _, blk_far (blk_put G6.out.e 2 _ rfl) (p := ⟨w.heap.size + 1 + 1, 0, none⟩) (show w.heap.size + 1 + 1 + 1 + 1 ≠ w.heap.size + 1 + 1 by omega) _, (G6.out.below.setCell (p := ⟨w.heap.size + 1 + 1 + 1 + 1, 2, none⟩) (show w.heap.size ≤ w.heap.size + 1 + 1 + 1 + 1 by omega) _).setCell (p := ⟨w.heap.size + 1 + 1, 0, none⟩) (show w.heap.size ≤ w.heap.size + 1 + 1 by omega) _⟩
          have HO7 := Aside0.mk (Kd.R_set (Kd.R_set HO6.out G6.out.e (by decide) 2 (.slice A6 (fs.length + 1) c6)) (blk_far G6.out.a (p := ⟨w.heap.size + 1 + 1 + 1 + 1, 2, none⟩) (show w.heap.size + 1 + 1 ≠ w.heap.size + 1 + 1 + 1 + 1 by omega) _) (by decide) 0 (.int .i64 ((a : Int) + (n5 : Int))))
          go_roundw
          case measure => simp [intOf]; omega
          case rel => exact ⟨k + 1, by go_num, by omega, a + n5, _, fs ++ [y], _, HFN.out, hsa, HWN.out, HI5.out, G7.out, HO7.out⟩
      · obtain rfl : k = n4 := by omega
        obtain ⟨Av, cv, hv, hcv, hrv⟩ := Kd.R_reads HO.out
        subst hv
        have HRV := Aside0.mk hrv
        have HCV := Aside0.mk hcv
        have hend := HINV.out
        rw [Nat.sub_self] at hend
        have hend2 := inv_end hend
        obtain ⟨d1', _, _, _⟩ := know HG.out.d
        obtain ⟨e1, _, _, _⟩ := know HG.out.e
        obtain ⟨r1, _, r3, _⟩ := know HG.out.r
        obtain ⟨a1', _, _, _⟩ := know HG.out.a
        clear hrv hcv hend hi0 hsz0
        cases d with
        | true =>
          obtain ⟨rfl, rfl, rfl⟩ := evMk HQ.out hend2
          clear hend2
          go_wp2
          have hz := blk_put3 HG.out.r (.string ⟨#[]⟩) (.int .i64 0) (.slice none 0 0)
          have hbz := below_put3 HG.out.below ((show w.heap.size ≤ w.heap.size + 1 by omega)) (.string ⟨#[]⟩) (.int .i64 0) (.slice none 0 0)
          generalize World.setCell (World.setCell (World.setCell _ _ _) _ _) _ _ = W3 at hz hbz ⊢
          have hz0 : W3.cell? ⟨w.heap.size + 1, 0, none⟩ = some (.string ⟨#[]⟩) := blk_cell hz 0
          have hz1 : W3.cell? ⟨w.heap.size + 1, 1, none⟩ = some (.int .i64 0) := blk_cell hz 1
          have hz2 : W3.cell? ⟨w.heap.size + 1, 2, none⟩ = some (.slice none 0 0) := blk_cell hz 2
          exact bodyPost_ret (v := .tuple #[.agg #[.string ⟨#[]⟩, .int .i64 0, .slice none 0 0], .int .i64 0, .bool false]) (by simp [results, Try.results12, go_sem, hz0, hz1, hz2]) rfl ⟨none, 0, ⟨rfl, Nat.le_refl _, Kd.C_nil _ _⟩, hbz⟩
        | false =>
          obtain ⟨bm, hm⟩ : ∃ bm, mayE ⟨nm, (n3 : Int), fs⟩ = bm := ⟨_, rfl⟩
          rw [hm] at hend2
          have HM := Aside0.mk hm
          clear hm
          cases bm with
          | false =>
            obtain ⟨rfl, rfl, rfl⟩ := evMk HQ.out hend2
            clear hend2
            go_wp2_with (go_at_call 15; refine (event_May.told ⟨nm, (n3 : Int), fs⟩ Av cv _ HRV.out HCV.out HWF.out HM.out).mono ?_; rintro e w8 ⟨rfl, hb8⟩; have G8 := Aside0.mk (show GetEv A l.length c _ false nm (n3 : Int) (.slice Av fs.length cv) w w8 from ⟨blk_below HG.out.b hb8, blk_below HG.out.r hb8, blk_below HG.out.a hb8, blk_below HG.out.d hb8, blk_below HG.out.e hb8, below_step HG.out.below hb8⟩); have HO8 := Aside0.mk (Kd.R_below HO.out hb8); obtain ⟨p1, _, p3, _⟩ := know G8.out.r; obtain ⟨q1, _, _, _⟩ := know G8.out.e; obtain ⟨s1, _, _, _⟩ := know G8.out.a; clear hb8)
            have hz := blk_put3 G8.out.r (.string ⟨#[]⟩) (.int .i64 0) (.slice none 0 0)
            have hbz := below_put3 G8.out.below ((show w.heap.size ≤ w.heap.size + 1 by omega)) (.string ⟨#[]⟩) (.int .i64 0) (.slice none 0 0)
            generalize World.setCell (World.setCell (World.setCell _ _ _) _ _) _ _ = W3 at hz hbz ⊢
            have hz0 : W3.cell? ⟨w.heap.size + 1, 0, none⟩ = some (.string ⟨#[]⟩) := blk_cell hz 0
            have hz1 : W3.cell? ⟨w.heap.size + 1, 1, none⟩ = some (.int .i64 0) := blk_cell hz 1
            have hz2 : W3.cell? ⟨w.heap.size + 1, 2, none⟩ = some (.slice none 0 0) := blk_cell hz 2
            exact bodyPost_ret (v := .tuple #[.agg #[.string ⟨#[]⟩, .int .i64 0, .slice none 0 0], .int .i64 0, .bool false]) (by simp [results, Try.results12, go_sem, hz0, hz1, hz2]) rfl ⟨none, 0, ⟨rfl, Nat.le_refl _, Kd.C_nil _ _⟩, hbz⟩
          | true =>
            obtain ⟨rfl, rfl, rfl⟩ := evMk HQ.out hend2
            clear hend2
            go_wp2_with (go_at_call 15; refine (event_May.told ⟨nm, (n3 : Int), fs⟩ Av cv _ HRV.out HCV.out HWF.out HM.out).mono ?_; rintro e w8 ⟨rfl, hb8⟩; have G8 := Aside0.mk (show GetEv A l.length c _ false nm (n3 : Int) (.slice Av fs.length cv) w w8 from ⟨blk_below HG.out.b hb8, blk_below HG.out.r hb8, blk_below HG.out.a hb8, blk_below HG.out.d hb8, blk_below HG.out.e hb8, below_step HG.out.below hb8⟩); have HO8 := Aside0.mk (Kd.R_below HO.out hb8); obtain ⟨p1, _, p3, _⟩ := know G8.out.r; obtain ⟨q1, _, _, _⟩ := know G8.out.e; obtain ⟨s1, _, _, _⟩ := know G8.out.a; clear hb8)
            have hs80 := q1 0
            have hs81 := q1 1
            have hs82 := q1 2
            have ha80 := s1 0
            have hr80 := p1 0
            have hr81 := p1 1
            have hr82 := p1 2
            have hn1' : w.heap.size + 1 + 1 + 1 + 1 ≠ w.heap.size + 1 := by omega
            have hn2' : w.heap.size + 1 + 1 ≠ w.heap.size + 1 := by omega
            go_region_held3 (fun w' => w'.cell? ⟨w.heap.size + 1 + 1 + 1 + 1, 0, none⟩ = some (.string nm) ∧ w'.cell? ⟨w.heap.size + 1 + 1 + 1 + 1, 1, none⟩ = some (.int .i64 (n3 : Int)) ∧ w'.cell? ⟨w.heap.size + 1 + 1 + 1 + 1, 2, none⟩ = some (.slice Av fs.length cv) ∧ w'.cell? ⟨w.heap.size + 1 + 1, 0, none⟩ = some (.int .i64 (m : Int))) (first | exact ⟨hs80, hs81, hs82, ha80⟩ | exact ⟨cell_far3 (w := w8) hs80 hn1', cell_far3 (w := w8) hs81 hn1', cell_far3 (w := w8) hs82 hn1', cell_far3 (w := w8) ha80 hn2'⟩) (fail)
            have hz := blk_put3 G8.out.r (.string nm) (.int .i64 (n3 : Int)) (.slice Av fs.length cv)
            have hbz := below_put3 G8.out.below (show w.heap.size ≤ w.heap.size + 1 by omega) (.string nm) (.int .i64 (n3 : Int)) (.slice Av fs.length cv)
            have hrz := Kd.R_set (Kd.R_set (Kd.R_set HO8.out G8.out.r (by decide) 0 (.string nm)) (blk_set G8.out.r 0 _) (by decide) 1 (.int .i64 (n3 : Int))) (blk_set (blk_set G8.out.r 0 _) 1 _) (by decide) 2 (.slice Av fs.length cv)
            rename_i hheld_
            clear hheld_ q1 s1 p1 p3 hs80 hs81 hs82 ha80 hr80 hr81 hr82
            generalize World.setCell (World.setCell (World.setCell w8 _ _) _ _) _ _ = W3 at hz hbz hrz ⊢
            have hz0 : W3.cell? ⟨w.heap.size + 1, 0, none⟩ = some (.string nm) := blk_cell hz 0
            have hz1 : W3.cell? ⟨w.heap.size + 1, 1, none⟩ = some (.int .i64 (n3 : Int)) := blk_cell hz 1
            have hz2 : W3.cell? ⟨w.heap.size + 1, 2, none⟩ = some (.slice Av fs.length cv) := blk_cell hz 2
            have HRZ := Aside0.mk (Kd.C_drew (Kd.R_reads' hrz).2.2)
            have HBZ := Aside0.mk (below_drew hbz)
            clear hrz hbz hz
            go_wp2
            exact bodyPost_ret (v := .tuple #[.agg #[.string nm, .int .i64 (n3 : Int), .slice Av fs.length cv], .int .i64 (m : Int), .bool true]) (by simp [results, Try.results12, go_sem, hz0, hz1, hz2]) rfl ⟨Av, cv, ⟨rfl, HCV.out, HRZ.out⟩, HBZ.out⟩
end Go.Proofs.Ytandlemjjlamoaa.P

namespace Go.Proofs.Ytandlemjjlamoaa.P
open Go.RowKit Go.Proofs.YtandlemjjlamoaaW.PrintWords Go.Proofs.YtandlemjjlamoaaW.PrintLast Go.Proofs.YtandlemjjlamoaaW.PrintMore
attribute [local go_sem] max2_int min2_int max_two min_two max_three min_three max_four min_four   -- for this text's walks alone
set_option linter.unusedVariables false
set_option linter.unusedSimpArgs false
section
open Go.Shelf
attribute [local go_sem] Oper.semAt_some
def encP (p : SField × SValue) : Array Value := #[.agg #[.string p.1.f0, .int .i64 p.1.f1], .agg #[.int .i64 p.2.f0, .int .i64 p.2.f1, .string p.2.f2]]
def pairL (fs : List SField) (vs : List SValue) (k : Nat) : List (SField × SValue) := (List.range k).map fun j => (fs.getD j zField, vs.getD j zValue)
theorem pairL_succ (fs : List SField) (vs : List SValue) (k : Nat) : pairL fs vs (k + 1) = pairL fs vs k ++ [(fs.getD k zField, vs.getD k zValue)] := by simp [pairL, List.range_succ]
theorem pairL_length (fs : List SField) (vs : List SValue) (k : Nat) : (pairL fs vs k).length = k := by simp [pairL]
set_option maxRecDepth 100000 in
set_option maxHeartbeats 8000000 in
theorem pairs1_in (n : Nat) (hn : 1 ≤ n) (l Bs Be n₀ : Nat) (nm : ByteArray) (ver : Int) (fs : List SField) (As : Option Addr) (cs : Nat) (nm2 : ByteArray) (tm : Int) (vs : List SValue) (Ae : Option Addr) (ce : Nat) (hlen : fs.length = vs.length)
    (J Jx : List (SField × SValue) → World → Prop) (w0 W : World) (hJ : AbidesFrom W.heap.size J)
    (hY : ∀ pre x W, J pre W → pre.length < fs.length → YieldAt Fence.wide (n - 1) Try.prog l (encP x) W fun e W' => (e = .returned (.bool true) ∧ J (pre ++ [x]) W' ∧ Below n₀ W W') ∨ (e = .returned (.bool false) ∧ Jx (pre ++ [x]) W'))
    (hB0 : Below w0.heap.size w0 W) (hn0 : w0.heap.size ≤ n₀) (hnW : n₀ ≤ W.heap.size)
    (hrs : Kd.C kField w0 As fs.length fs) (hre : Kd.C kValue w0 Ae vs.length vs) (hBs : Bs < n₀) (hBe : Be < n₀)
    (hks : W.heap[Bs]? = some (.cells #[.string nm, .int .i64 ver, .slice As fs.length cs] 35 (0, 0))) (hke : W.heap[Be]? = some (.cells #[.string nm2, .int .i64 tm, .slice Ae vs.length ce] 24 (0, 0))) (h0 : J [] W) :
    CallsIn Fence.wide n Try.prog 52 #[.func (.yield l) #[] #[], .pointer (some ⟨Bs, 0, none⟩), .pointer (some ⟨Be, 0, none⟩)] W fun e W' => (∃ v, e = .returned v) ∧
      ((∃ ys, ys = pairL fs vs fs.length ∧ J ys W') ∨ (∃ pre, (∃ k, k ≤ fs.length ∧ pre = pairL fs vs k) ∧ Jx pre W')) := by
  have hl1 := hrs.2.1
  have HRS := Aside0.mk hrs
  have HRE := Aside0.mk hre
  have HKS := Aside0.mk hks
  have HKE := Aside0.mk hke
  have HB0 := Aside0.mk hB0
  have HLN := Aside0.mk hlen
  have ks2 : W.cell? ⟨Bs, 2, none⟩ = some (.slice As fs.length cs) := blk_cell hks 2
  have hJs := Aside0.mk hJ
  clear hrs hre hks hke hlen hB0 hJ
  refine callsIn_of_wp Try.func52 rfl trivial ?_ rfl
  simp only [Try.ntmps52, List.size_toArray, List.length_cons, List.length_nil, Nat.reduceAdd, Nat.reduceSub, Array.replicate_succ, Array.replicate_zero, List.push_toArray, List.append_toArray, List.nil_append, List.cons_append]
  gi_wp2
  gi_loopw [4, 5, 9] (fun _ _ v9 wr => ∃ k : Nat, k ≤ fs.length ∧ v9 = .int .i64 k ∧ J (pairL fs vs k) wr ∧ Below n₀ W wr) (fun _ _ i _ => fs.length - (intOf i).toNat)
  case atStart => exact ⟨0, Nat.zero_le _, rfl, h0, Below.refl _ _⟩
  case round =>
    obtain ⟨k, hk, rfl, hJk, hnx⟩ := hrel
    by_cases hlt : k < fs.length
    · have hbw : Below w0.heap.size w0 wr := HB0.out.trans (hnx.mono hn0)
      obtain ⟨ad, e, hx0, hx1⟩ := at_TField (Kd.C_below HRS.out hbw) (k : Int) (by omega) (by omega)
      cases e
      obtain ⟨ad2, e, hy0, hy1, hy2⟩ := at_TValue (Kd.C_below HRE.out hbw) (k : Int) (by omega) (by have := HLN.out; omega)
      cases e
      simp only [Int.toNat_natCast] at hx0 hx1 hy0 hy1 hy2
      rw [show rd_TField fs (k : Int) = fs.getD k zField from rfl] at hx0 hx1
      rw [show rd_TValue vs (k : Int) = vs.getD k zValue from rfl] at hy0 hy1 hy2
      have HSC := Aside0.mk (pairL_succ fs vs k)
      have hkv : k < vs.length := by have := HLN.out; omega
      generalize fs.getD k zField = x at *
      generalize vs.getD k zValue = y at *
      have hne : ((k : Int) == (vs.length : Int)) = false := by simp; omega
      have hk2 : (0 : Int) ≤ (k : Int) := by omega
      have hk3 : (k : Int) < (vs.length : Int) := by omega
      have HKE1 := Aside0.mk (blk_alloc (show wr.heap[Be]? = some (.cells #[.string nm2, .int .i64 tm, .slice (some ad2) vs.length ce] 24 (0, 0)) from (hnx.block _ hBe).trans HKE.out) (.cells #[.string x.f0, .int .i64 x.f1] 46))
      have HKX1 := Aside0.mk (blk_new wr (.cells #[.string x.f0, .int .i64 x.f1] 46))
      obtain ⟨e1, _, _, _⟩ := know HKE1.out
      obtain ⟨x1, _, _, _⟩ := know HKX1.out
      have y0 := cell_later (.cells #[.string x.f0, .int .i64 x.f1] 46) hy0
      have y1 := cell_later (.cells #[.string x.f0, .int .i64 x.f1] 46) hy1
      have y2 := cell_later (.cells #[.string x.f0, .int .i64 x.f1] 46) hy2
      have hg := World.grownBy_alloc wr (.cells #[.string x.f0, .int .i64 x.f1] 46) none
      have hJd : J (pairL fs vs k) (wr.alloc (.cells #[.string x.f0, .int .i64 x.f1] 46)).drew := hJs.out _ wr _ none hJk ⟨hg.1, hg.2, hg.3, hg.4, hg.5⟩ (fun r e => by cases e)
      obtain ⟨fn, tmps, assign, body, hy, hR⟩ := hY _ (x, y) _ hJd (by rw [pairL_length]; exact hlt)
      dsimp only [encP] at hy
      clear hJd hg
      have hR2 := hR.mono (R' := fun e W' => ∃ q, e = .returned (.bool q) ∧ Aside0 ((q = true → J (pairL fs vs k ++ [(x, y)]) W' ∧ Below n₀ (wr.alloc (.cells #[.string x.f0, .int .i64 x.f1] 46)).drew W') ∧ (q = false → Jx (pairL fs vs k ++ [(x, y)]) W'))) (by
        rintro e W' (⟨rfl, h1, h2⟩ | ⟨rfl, h1⟩)
        · exact ⟨true, rfl, ⟨fun _ => ⟨h1, h2⟩, fun h => by cases h⟩⟩
        · exact ⟨false, rfl, ⟨(fun h => by cases h), fun _ => h1⟩⟩)
      clear hR hY
      gi_wp2
      gi_region_with (refine hR2.mono ?_; rintro e W3 ⟨q, rfl, hq⟩)
      all_goals
        cases q with
        | true =>
          obtain ⟨hJ3, hk3⟩ := hq.out.1 rfl
          gi_wp2
          go_roundw
          case rel => exact ⟨k + 1, by omega, by simp, by rw [HSC.out]; exact hJ3, hnx.trans ((((Below.refl n₀ wr).alloc (Nat.le_trans hnW hnx.size) _).drew).trans hk3)⟩
          case measure => simp [intOf]; omega
        | false =>
          have hJx3 := hq.out.2 rfl
          gi_wp2
          refine bodyPost_ret (results_none rfl _ _ _) rfl ?_
          exact ⟨⟨_, rfl⟩, .inr ⟨_, ⟨k + 1, by omega, HSC.out.symm⟩, hJx3⟩⟩
    · obtain rfl : k = fs.length := by omega
      gi_wp2
      go_end0
      exact ⟨⟨_, rfl⟩, .inl ⟨_, rfl, hJk⟩⟩
theorem pairs_stops (n : Nat) (hn : 1 ≤ n) (Bs Be n₀ : Nat) (nm : ByteArray) (ver : Int) (fs : List SField) (As : Option Addr) (cs : Nat) (nm2 : ByteArray) (tm : Int) (vs : List SValue) (Ae : Option Addr) (ce : Nat) (hlen : fs.length = vs.length)
    (w0 W : World) (hB0 : Below w0.heap.size w0 W) (hn0 : w0.heap.size ≤ n₀) (hnW : n₀ ≤ W.heap.size)
    (hrs : Kd.C kField w0 As fs.length fs) (hre : Kd.C kValue w0 Ae vs.length vs) (hBs : Bs < n₀) (hBe : Be < n₀)
    (hks : W.heap[Bs]? = some (.cells #[.string nm, .int .i64 ver, .slice As fs.length cs] 35 (0, 0))) (hke : W.heap[Be]? = some (.cells #[.string nm2, .int .i64 tm, .slice Ae vs.length ce] 24 (0, 0))) :
    SeqStopsK Fence.wide n Try.prog 52 #[.pointer (some ⟨Bs, 0, none⟩), .pointer (some ⟨Be, 0, none⟩)] encP (Below n₀) (fun ys => ys = pairL fs vs fs.length) (fun pre => ∃ k, k ≤ fs.length ∧ pre = pairL fs vs k) fs.length W := by
  intro l J Jx W1 hW hJ _ hY h0
  have hs := hW.size
  exact pairs1_in n hn l Bs Be n₀ nm ver fs As cs nm2 tm vs Ae ce hlen J Jx w0 W1 hJ hY (below_step hB0 hW) hn0 (Nat.le_trans hnW hs) hrs hre hBs hBe ((hW.block _ (Nat.lt_of_lt_of_le hBs hnW)).trans hks) ((hW.block _ (Nat.lt_of_lt_of_le hBe hnW)).trans hke) h0
theorem pairs_told (nm : ByteArray) (ver : Int) (As : Option Addr) (ns cs : Nat) (nm2 : ByteArray) (tm : Int) (Ae : Option Addr) (ne ce : Nat) (w : World) :
    Calls Try.prog 30 #[.agg #[.string nm, .int .i64 ver, .slice As ns cs], .agg #[.string nm2, .int .i64 tm, .slice Ae ne ce]] w fun e w' => e = .returned (.func (.func 52) #[] #[.pointer (some ⟨w.heap.size, 0, none⟩), .pointer (some ⟨w.heap.size + 1, 0, none⟩)]) ∧ w' = (w.alloc (.cells #[.string nm, .int .i64 ver, .slice As ns cs] 35)).alloc (.cells #[.string nm2, .int .i64 tm, .slice Ae ne ce] 24) := by
  go_enter Try.func30, Try.ntmps30
  go_wp2
  go_ret
  exact ⟨rfl, rfl⟩
def kindsB (fs : List SField) (vs : List SValue) : Bool := (List.range fs.length).all fun j => (fs.getD j zField).f1 == (vs.getD j zValue).f0
def validE (s : SSchema) (x : SEvent) : Int := if mayS s = true ∧ mayE x = true then (if s.f0.toList = x.f0.toList then (if s.f2.length = x.f2.length then (if kindsB s.f2 x.f2 = true then 0 else 5) else 5) else 3) else 1
theorem kindsB_all {fs : List SField} {vs : List SValue} (h : ∀ p ∈ pairL fs vs fs.length, p.1.f1 = p.2.f0) : kindsB fs vs = true := by
  unfold kindsB
  rw [List.all_eq_true]
  intro j hj
  have := h _ (List.mem_map.2 ⟨j, hj, rfl⟩)
  simpa using this
theorem kindsB_hit {fs : List SField} {vs : List SValue} {k : Nat} (hk : k ≤ fs.length) {p : SField × SValue} (hp : p ∈ pairL fs vs k) (h : p.1.f1 ≠ p.2.f0) : kindsB fs vs = false := by
  unfold kindsB
  rw [List.all_eq_false]
  obtain ⟨j, hj, rfl⟩ := List.mem_map.1 hp
  have := List.mem_range.1 hj
  exact ⟨j, List.mem_range.2 (by omega), by simpa using h⟩
theorem blk_from {W W' : World} {g : Nat} {t : TypeId} {cs : Array Value} {row : Option Nat} (h : W.heap[g]? = some (.cells cs t (0, 0))) (hg : W.grownBy W' row) (hr : ∀ r, row = some r → ∃ o : Obj, W.heap[r]? = some o ∧ o.isCells = false) : W'.heap[g]? = some (.cells cs t (0, 0)) :=
  (hg.block g (blk_lt h) (fun e => by
    obtain ⟨o, ho, hc⟩ := hr g e.symm
    rw [h] at ho
    cases ho
    cases hc)).trans h
def intPost (r : Int) (w : World) (e : Ending) (w' : World) : Prop := e = .returned (.int .i64 r) ∧ Below w.heap.size w w'
theorem mayS_told (x : SSchema) (A2 : Option Addr) (c2 : Nat) (w : World) (hr : Kd.C kField w A2 x.f2.length x.f2) (hc : x.f2.length ≤ c2) {b : Bool} (hb : mayS x = b) :
    Calls Try.prog 14 #[.agg #[.string x.f0, .int .i64 x.f1, .slice A2 x.f2.length c2]] w (boolPost b w) := schema_May.calls x.f0 x.f1 A2 c2 x.f2 b w hr hc (by rw [← hb]; rfl)
set_option maxRecDepth 100000 in
set_option maxHeartbeats 8000000 in
theorem valid_main (s : SSchema) (x : SEvent) (As : Option Addr) (cs : Nat) (Ae : Option Addr) (ce : Nat) (w : World) (hrs : Kd.C kField w As s.f2.length s.f2) (hcs : s.f2.length ≤ cs) (hre : Kd.C kValue w Ae x.f2.length x.f2) (hce : x.f2.length ≤ ce) (hwf : ∀ v ∈ x.f2, i64V v)
    (hms : mayS s = true) (hme : mayE x = true) (hnm : s.f0.toList = x.f0.toList) (hlen : s.f2.length = x.f2.length) :
    CallsIn Fence.wide 6 Try.prog 13 #[.agg #[.string s.f0, .int .i64 s.f1, .slice As s.f2.length cs], .agg #[.string x.f0, .int .i64 x.f1, .slice Ae x.f2.length ce]] w (intPost (if kindsB s.f2 x.f2 = true then 0 else 5) w) := by
  have HRS := Aside0.mk hrs
  have HRE := Aside0.mk hre
  have HCS := Aside0.mk hcs
  have HCE := Aside0.mk hce
  have HWF := Aside0.mk hwf
  have HMS := Aside0.mk hms
  have HME := Aside0.mk hme
  have HLN := Aside0.mk hlen
  have hnm2 : (s.f0.toList != x.f0.toList) = false := by simp [hnm]
  have hnm3 : (s.f0.toList == x.f0.toList) = true := by simp [hnm]
  have hln2 : ((s.f2.length : Int) != (x.f2.length : Int)) = false := by simp [hlen]
  have hln3 : ((s.f2.length : Int) == (x.f2.length : Int)) = true := by simp [hlen]
  clear hrs hcs hre hce hwf hms hme hlen hnm
  obtain ⟨r, hr⟩ : ∃ r : Int, (if kindsB s.f2 x.f2 = true then 0 else 5) = r := ⟨_, rfl⟩
  rw [hr]
  have HRR := Aside0.mk hr
  clear hr
  refine callsIn_of_wp_marks Try.func13 rfl trivial ?_ rfl
  simp only [Try.ntmps13, List.size_toArray, List.length_cons, List.length_nil, Nat.reduceAdd, Nat.reduceSub, Array.replicate_succ, Array.replicate_zero, List.push_toArray, List.append_toArray, List.nil_append, List.cons_append]
  gi_wp2_with (first
    | (refine ⟨trivial, ?_⟩; gi_at_call 14; refine (callsIn_wide.2 (mayS_told s As cs _ (Kd.C_below HRS.out (below_alloc (below_alloc (below_alloc (Below.refl _ _) _) _) _)) HCS.out HMS.out)).mono ?_; rintro e w1 ⟨rfl, hb1⟩; have HB1 := Aside0.mk (below_step (below_alloc (below_alloc (below_alloc (Below.refl _ _) _) _) _) hb1); have HK1 := Aside0.mk (blk_below (blk_alloc (blk_alloc (blk_new w (.cells #[.string s.f0, .int .i64 s.f1, .slice As s.f2.length cs] 35)) _) _) hb1); have HL1 := Aside0.mk (blk_below (blk_alloc (blk_new2 w _ (.cells #[.string x.f0, .int .i64 x.f1, .slice Ae x.f2.length ce] 24)) _) hb1); have HQ1 := Aside0.mk (blk_below (blk_new3 w _ _ (.cells #[.int .i64 0] 38)) hb1); obtain ⟨k1, _, _, _⟩ := know HK1.out; obtain ⟨l1, _, _, _⟩ := know HL1.out; clear hb1)
    | (refine ⟨trivial, ?_⟩; gi_at_call 15; refine (callsIn_wide.2 (event_May.told x Ae ce _ (Kd.C_below HRE.out HB1.out) HCE.out HWF.out HME.out)).mono ?_; rintro e w2 ⟨rfl, hb2⟩; have HB2 := Aside0.mk (below_step HB1.out hb2); have HK2 := Aside0.mk (blk_below HK1.out hb2); have HL2 := Aside0.mk (blk_below HL1.out hb2); have HQ2 := Aside0.mk (blk_below HQ1.out hb2); obtain ⟨k2, _, _, _⟩ := know HK2.out; obtain ⟨l2, _, _, _⟩ := know HL2.out; clear hb2)
    | (refine ⟨trivial, ?_⟩; gi_at_call 30; refine (callsIn_wide.2 (pairs_told s.f0 s.f1 As s.f2.length cs x.f0 x.f1 Ae x.f2.length ce _)).mono ?_; rintro e w3 ⟨rfl, rfl⟩))
  have HB3 := Aside0.mk (below_alloc (below_alloc HB2.out (.cells #[.string s.f0, .int .i64 s.f1, .slice As s.f2.length cs] 35)) (.cells #[.string x.f0, .int .i64 x.f1, .slice Ae x.f2.length ce] 24))
  have HQ3 := Aside0.mk (blk_alloc (blk_alloc HQ2.out (.cells #[.string s.f0, .int .i64 s.f1, .slice As s.f2.length cs] 35)) (.cells #[.string x.f0, .int .i64 x.f1, .slice Ae x.f2.length ce] 24))
  have HS3 := Aside0.mk (blk_alloc (blk_new w2 (.cells #[.string s.f0, .int .i64 s.f1, .slice As s.f2.length cs] 35)) (.cells #[.string x.f0, .int .i64 x.f1, .slice Ae x.f2.length ce] 24))
  have HE3 := Aside0.mk (blk_new2 w2 (.cells #[.string s.f0, .int .i64 s.f1, .slice As s.f2.length cs] 35) (.cells #[.string x.f0, .int .i64 x.f1, .slice Ae x.f2.length ce] 24))
  have hsz : ((w2.alloc (.cells #[.string s.f0, .int .i64 s.f1, .slice As s.f2.length cs] 35)).alloc (.cells #[.string x.f0, .int .i64 x.f1, .slice Ae x.f2.length ce] 24)).heap.size = w2.heap.size + 1 + 1 := by simp
  obtain ⟨W0, hW0⟩ : ∃ W0, ((w2.alloc (.cells #[.string s.f0, .int .i64 s.f1, .slice As s.f2.length cs] 35)).alloc (.cells #[.string x.f0, .int .i64 x.f1, .slice Ae x.f2.length ce] 24)) = W0 := ⟨_, rfl⟩
  rw [hW0] at HB3 HQ3 HS3 HE3 hsz ⊢
  have HSZ := Aside0.mk hsz
  have hw2 := Aside0.mk (below_size HB2.out)
  clear hW0 hsz HB2 HQ2 HK1 HL1 HQ1 HK2 HL2 HB1 k1 l1 k2 l2
  refine wpIn_rangeFunc_ownH (α := SField × SValue) rfl (by decide) (gf := 52) (lb := #[.pointer (some ⟨w2.heap.size, 0, none⟩), .pointer (some ⟨w2.heap.size + 1, 0, none⟩)]) rfl trivial (enters_of Try.func52 (by kernel_rfl) rfl)
    (pairs_stops 5 (by decide) w2.heap.size (w2.heap.size + 1) W0.heap.size s.f0 s.f1 s.f2 As cs x.f0 x.f1 x.f2 Ae ce HLN.out w W0 HB3.out (below_size HB3.out) (Nat.le_refl _) HRS.out HRE.out (by rw [HSZ.out]; omega) (by rw [HSZ.out]; omega) HS3.out HE3.out)
    belowK_t (belowK_b (Nat.le_refl _)) (Below.refl _ _) (fun _ => rfl)
    (fun pre W => ((∀ p ∈ pre, p.1.f1 = p.2.f0) ∧ Boxed W (w.heap.size + 1 + 1) 38 (.int .i64 0)) ∧ Below W0.heap.size W0 W)
    (fun c pre W => ((c = .ret ∧ ∃ p ∈ pre, p.1.f1 ≠ p.2.f0) ∧ Boxed W (w.heap.size + 1 + 1) 38 (.int .i64 5)) ∧ Below w.heap.size w W)
    (OwnFrom.and (OwnFrom.and (ownFrom_pure _ _) (Own.from (boxed_own _ _ _) _)) (ownFrom_below (Nat.le_refl _) (Nat.le_refl _)))
    (fun c => OwnFrom.and (OwnFrom.and (ownFrom_pure _ _) (Own.from (boxed_own _ _ _) _)) (ownFrom_below (Nat.le_refl _) (below_size HB3.out)))
    ⟨⟨(fun p hp => by cases hp), HQ3.out⟩, Below.refl _ _⟩
    (fun p a' W => ∃ Bf Bv, W0.heap.size ≤ Bf ∧ W0.heap.size ≤ Bv ∧ W.heap[Bf]? = some (.cells #[.string p.1.f0, .int .i64 p.1.f1] 46 (0, 0)) ∧ W.heap[Bv]? = some (.cells #[.int .i64 p.2.f0, .int .i64 p.2.f1, .string p.2.f2] 37 (0, 0)) ∧ a' = { tmps := #[.agg #[.string s.f0, .int .i64 s.f1, .slice As s.f2.length cs], .agg #[.string x.f0, .int .i64 x.f1, .slice Ae x.f2.length ce], .pointer (some ⟨w.heap.size, 0, none⟩), .pointer (some ⟨w.heap.size + 1, 0, none⟩), .pointer (some ⟨w.heap.size + 1 + 1, 0, none⟩), .pointer (some ⟨Bf, 0, none⟩), .pointer (some ⟨Bv, 0, none⟩), .bool false, .agg #[.string s.f0, .int .i64 s.f1, .slice As s.f2.length cs], .bool true, .bool false, .agg #[.string x.f0, .int .i64 x.f1, .slice Ae x.f2.length ce], .bool true, .bool false, .bool false, .pointer (some ⟨w.heap.size, 0, none⟩), .string s.f0, .pointer (some ⟨w.heap.size + 1, 0, none⟩), .string x.f0, .bool false, .bool false, .pointer (some ⟨w.heap.size, 2, none⟩), .slice As s.f2.length cs, .int .i64 (s.f2.length : Int), .pointer (some ⟨w.heap.size + 1, 2, none⟩), .slice Ae x.f2.length ce, .int .i64 (x.f2.length : Int), .bool false, .agg #[.string s.f0, .int .i64 s.f1, .slice As s.f2.length cs], .agg #[.string x.f0, .int .i64 x.f1, .slice Ae x.f2.length ce], .func (.func 52) #[] #[.pointer (some ⟨w2.heap.size, 0, none⟩), .pointer (some ⟨w2.heap.size + 1, 0, none⟩)], .agg #[.string p.1.f0, .int .i64 p.1.f1], .agg #[.int .i64 p.2.f0, .int .i64 p.2.f1, .string p.2.f2], undef, undef, undef, undef, undef], defers := [] })
    (fun p a' _ X Y row hs hg hr => by
      obtain ⟨Bf, Bv, h1, h2, h3, h4, h5⟩ := hs
      exact ⟨Bf, Bv, h1, h2, blk_from h3 hg (fun r e => (hr r e).2), blk_from h4 hg (fun r e => (hr r e).2), h5⟩)
    ?assign ?body ?done ?stop
  case assign =>
    rintro l pre p W K ⟨⟨h1, h2⟩, h3⟩ hK
    dsimp only [encP]
    gi_wp2
    have hs := h3.size
    exact hK _ _ (((KeepsOthers.alloc _ _).trans (KeepsOthers.alloc _ _)).from _) (((Below.refl _ W).alloc hs _).alloc (by simp; omega) _) ⟨⟨h1, blk_alloc (blk_alloc h2 _) _⟩, (h3.alloc hs _).alloc (by simp; omega) _⟩ ⟨W.heap.size, W.heap.size + 1, hs, by omega, blk_alloc (blk_new _ _) _, blk_new2 _ _ _, rfl⟩
  case body =>
    rintro l pre p a' W hl ⟨r, hr⟩ ⟨⟨h1, h2⟩, h3⟩ ⟨Bf, Bv, h4, h5, h6, h7, rfl⟩ hlt
    obtain ⟨f1, _, _, _⟩ := know h6
    obtain ⟨v1, _, _, _⟩ := know h7
    obtain ⟨q1, _, q3, _⟩ := know (show W.heap[w.heap.size + 1 + 1]? = some (.cells #[.int .i64 0] 38 (0, 0)) from h2)
    have hbw := below_step HB3.out (h3.mono (Nat.le_refl _))
    by_cases hk : p.1.f1 = p.2.f0
    · have hk2 : (p.1.f1 == p.2.f0) = true := by simp [hk]
      have HK := Aside0.mk hk
      clear hk
      gi_wp2
      exact ⟨KeepsFrom.refl _ _, Below.refl _ _, ⟨fun q hq => (List.mem_append.1 hq).elim (h1 q) (fun e => by rw [List.mem_singleton.1 e]; exact HK.out), h2⟩, h3⟩
    · have hk2 : (p.1.f1 == p.2.f0) = false := by simp [hk]
      have HK := Aside0.mk hk
      clear hk
      gi_wp2
      exact ⟨(KeepsOthers.setCell _ _ _).from _, ⟨⟨rfl, p, by simp, HK.out⟩, blk_put h2 0 _ rfl⟩, hbw.setCell (p := ⟨w.heap.size + 1 + 1, 0, none⟩) (show w.heap.size ≤ w.heap.size + 1 + 1 by omega) _⟩
  case done =>
    rintro D ys W hD rfl ⟨⟨h1, h2⟩, h3⟩ hK
    have hr := HRR.out
    rw [if_pos (kindsB_all h1)] at hr
    subst hr
    obtain ⟨q1, _, q3, _⟩ := know (show W.heap[w.heap.size + 1 + 1]? = some (.cells #[.int .i64 0] 38 (0, 0)) from h2)
    have hbw := below_step HB3.out (h3.mono (Nat.le_refl _))
    gi_wp2
    have hK' := (KeepsOthers.setCell W ⟨w.heap.size + 1 + 1, 0, none⟩ (.int .i64 0)).same D _ hK rfl
    refine ⟨by simp, .inl ⟨_, _, rfl, run_takeDeferred hK', ?_⟩⟩
    have hc5 := cell_kept (World.cell?_setCell_same' W ⟨w.heap.size + 1 + 1, 0, none⟩ (.int .i64 0) (by rw [q1 0]; rfl)) (grownBy_putObj' _ D (.deferred none)) (fun r e => by cases e; exact ⟨_, hK', rfl⟩)
    refine ⟨.int .i64 0, ?_, rfl, (hbw.setCell (p := ⟨w.heap.size + 1 + 1, 0, none⟩) (show w.heap.size ≤ w.heap.size + 1 + 1 by omega) _).trans (belowK_b (w := w) (Nat.le_refl _) _ D _ _ (Nat.le_trans (below_size HB3.out) hD) hK' rfl rfl)⟩
    simp [results, Try.f13, go_sem, hc5]
  case stop =>
    rintro D c pre W hD ⟨k, hk, rfl⟩ ⟨⟨⟨rfl, p, hp, hne⟩, h2⟩, h3⟩ hK
    have hr := HRR.out
    rw [if_neg (by rw [kindsB_hit hk hp hne]; simp)] at hr
    subst hr
    obtain ⟨q1, _, q3, _⟩ := know (show W.heap[w.heap.size + 1 + 1]? = some (.cells #[.int .i64 5] 38 (0, 0)) from h2)
    have HB := Aside0.mk h3
    gi_wp2
    refine ⟨by simp, .inl ⟨_, _, rfl, run_takeDeferred hK, ?_⟩⟩
    have hc5 := cell_kept (q1 0) (grownBy_putObj' _ D (.deferred none)) (fun r e => by cases e; exact ⟨_, hK, rfl⟩)
    refine ⟨.int .i64 5, ?_, rfl, HB.out.trans (belowK_b (w := w) (Nat.le_refl _) W D _ _ (Nat.le_trans (below_size HB3.out) hD) hK rfl rfl)⟩
    simp [results, Try.f13, go_sem, hc5]
set_option maxRecDepth 100000 in
set_option maxHeartbeats 8000000 in
theorem event_Valid.told (s : SSchema) (x : SEvent) (As : Option Addr) (cs : Nat) (Ae : Option Addr) (ce : Nat) (w : World) (hrs : Kd.C kField w As s.f2.length s.f2) (hcs : s.f2.length ≤ cs) (hre : Kd.C kValue w Ae x.f2.length x.f2) (hce : x.f2.length ≤ ce) (hwf : ∀ v ∈ x.f2, i64V v) {r : Int} (hr : validE s x = r) :
    Calls Try.prog 13 #[.agg #[.string s.f0, .int .i64 s.f1, .slice As s.f2.length cs], .agg #[.string x.f0, .int .i64 x.f1, .slice Ae x.f2.length ce]] w (intPost r w) := by
  have HRS := Aside0.mk hrs
  have HRE := Aside0.mk hre
  have HCS := Aside0.mk hcs
  have HCE := Aside0.mk hce
  have HWF := Aside0.mk hwf
  unfold validE at hr
  cases hms : mayS s with
  | false =>
    rw [if_neg (by rw [hms]; simp)] at hr
    subst hr
    have HMS := Aside0.mk hms
    clear hrs hcs hre hce hwf hms
    go_enter Try.func13, Try.ntmps13
    go_wp2_with (go_at_call 14; refine (mayS_told s As cs _ (Kd.C_below HRS.out (below_alloc (below_alloc (below_alloc (Below.refl _ _) _) _) _)) HCS.out HMS.out).mono ?_; rintro e w1 ⟨rfl, hb1⟩; have HB1 := Aside0.mk (below_step (below_alloc (below_alloc (below_alloc (Below.refl _ _) _) _) _) hb1); have HK1 := Aside0.mk (blk_below (blk_alloc (blk_alloc (blk_new w (.cells #[.string s.f0, .int .i64 s.f1, .slice As s.f2.length cs] 35)) _) _) hb1); have HL1 := Aside0.mk (blk_below (blk_alloc (blk_new2 w _ (.cells #[.string x.f0, .int .i64 x.f1, .slice Ae x.f2.length ce] 24)) _) hb1); have HQ1 := Aside0.mk (blk_below (blk_new3 w _ _ (.cells #[.int .i64 0] 38)) hb1); obtain ⟨k1, _, _, _⟩ := know HK1.out; obtain ⟨l1, _, _, _⟩ := know HL1.out; obtain ⟨_, _, _, _⟩ := know HQ1.out; clear hb1)
    have hz := blk_put HQ1.out 0 (.int .i64 1) rfl
    have hbz := HB1.out.setCell (p := ⟨w.heap.size + 1 + 1, 0, none⟩) (show w.heap.size ≤ w.heap.size + 1 + 1 by omega) (.int .i64 1)
    generalize World.setCell _ _ _ = W3 at hz hbz ⊢
    have hz0 : W3.cell? ⟨w.heap.size + 1 + 1, 0, none⟩ = some (.int .i64 1) := blk_cell hz 0
    exact bodyPost_ret (v := .int .i64 1) (by simp [results, Try.results13, go_sem, hz0]) rfl ⟨rfl, hbz⟩
  | true =>
    have HMS := Aside0.mk hms
    cases hme : mayE x with
    | false =>
      rw [if_neg (by rw [hme]; simp)] at hr
      subst hr
      have HME := Aside0.mk hme
      clear hrs hcs hre hce hwf hms hme
      go_enter Try.func13, Try.ntmps13
      go_wp2_with (first
        | (go_at_call 14; refine (mayS_told s As cs _ (Kd.C_below HRS.out (below_alloc (below_alloc (below_alloc (Below.refl _ _) _) _) _)) HCS.out HMS.out).mono ?_; rintro e w1 ⟨rfl, hb1⟩; have HB1 := Aside0.mk (below_step (below_alloc (below_alloc (below_alloc (Below.refl _ _) _) _) _) hb1); have HK1 := Aside0.mk (blk_below (blk_alloc (blk_alloc (blk_new w (.cells #[.string s.f0, .int .i64 s.f1, .slice As s.f2.length cs] 35)) _) _) hb1); have HL1 := Aside0.mk (blk_below (blk_alloc (blk_new2 w _ (.cells #[.string x.f0, .int .i64 x.f1, .slice Ae x.f2.length ce] 24)) _) hb1); have HQ1 := Aside0.mk (blk_below (blk_new3 w _ _ (.cells #[.int .i64 0] 38)) hb1); obtain ⟨k1, _, _, _⟩ := know HK1.out; obtain ⟨l1, _, _, _⟩ := know HL1.out; obtain ⟨_, _, _, _⟩ := know HQ1.out; clear hb1)
        | (go_at_call 15; refine (event_May.told x Ae ce _ (Kd.C_below HRE.out HB1.out) HCE.out HWF.out HME.out).mono ?_; rintro e w2 ⟨rfl, hb2⟩; have HB2 := Aside0.mk (below_step HB1.out hb2); have HK2 := Aside0.mk (blk_below HK1.out hb2); have HL2 := Aside0.mk (blk_below HL1.out hb2); have HQ2 := Aside0.mk (blk_below HQ1.out hb2); obtain ⟨k2, _, _, _⟩ := know HK2.out; obtain ⟨l2, _, _, _⟩ := know HL2.out; obtain ⟨_, _, _, _⟩ := know HQ2.out; clear hb2))
      have hz := blk_put HQ2.out 0 (.int .i64 1) rfl
      have hbz := HB2.out.setCell (p := ⟨w.heap.size + 1 + 1, 0, none⟩) (show w.heap.size ≤ w.heap.size + 1 + 1 by omega) (.int .i64 1)
      generalize World.setCell _ _ _ = W3 at hz hbz ⊢
      have hz0 : W3.cell? ⟨w.heap.size + 1 + 1, 0, none⟩ = some (.int .i64 1) := blk_cell hz 0
      exact bodyPost_ret (v := .int .i64 1) (by simp [results, Try.results13, go_sem, hz0]) rfl ⟨rfl, hbz⟩
    | true =>
      have HME := Aside0.mk hme
      rw [if_pos ⟨hms, hme⟩] at hr
      by_cases hnm : s.f0.toList = x.f0.toList
      · rw [if_pos hnm] at hr
        by_cases hlen : s.f2.length = x.f2.length
        · rw [if_pos hlen] at hr
          subst hr
          exact callsIn_wide.1 (valid_main s x As cs Ae ce w hrs hcs hre hce hwf hms hme hnm hlen)
        · rw [if_neg hlen] at hr
          subst hr
          have hnm3 : (s.f0.toList == x.f0.toList) = true := by simp [hnm]
          have hln3 : ((s.f2.length : Int) == (x.f2.length : Int)) = false := by simp; omega
          clear hrs hcs hre hce hwf hms hme hnm hlen
          go_enter Try.func13, Try.ntmps13
          go_wp2_with (first
            | (go_at_call 14; refine (mayS_told s As cs _ (Kd.C_below HRS.out (below_alloc (below_alloc (below_alloc (Below.refl _ _) _) _) _)) HCS.out HMS.out).mono ?_; rintro e w1 ⟨rfl, hb1⟩; have HB1 := Aside0.mk (below_step (below_alloc (below_alloc (below_alloc (Below.refl _ _) _) _) _) hb1); have HK1 := Aside0.mk (blk_below (blk_alloc (blk_alloc (blk_new w (.cells #[.string s.f0, .int .i64 s.f1, .slice As s.f2.length cs] 35)) _) _) hb1); have HL1 := Aside0.mk (blk_below (blk_alloc (blk_new2 w _ (.cells #[.string x.f0, .int .i64 x.f1, .slice Ae x.f2.length ce] 24)) _) hb1); have HQ1 := Aside0.mk (blk_below (blk_new3 w _ _ (.cells #[.int .i64 0] 38)) hb1); obtain ⟨k1, _, _, _⟩ := know HK1.out; obtain ⟨l1, _, _, _⟩ := know HL1.out; obtain ⟨_, _, _, _⟩ := know HQ1.out; clear hb1)
            | (go_at_call 15; refine (event_May.told x Ae ce _ (Kd.C_below HRE.out HB1.out) HCE.out HWF.out HME.out).mono ?_; rintro e w2 ⟨rfl, hb2⟩; have HB2 := Aside0.mk (below_step HB1.out hb2); have HK2 := Aside0.mk (blk_below HK1.out hb2); have HL2 := Aside0.mk (blk_below HL1.out hb2); have HQ2 := Aside0.mk (blk_below HQ1.out hb2); obtain ⟨k2, _, _, _⟩ := know HK2.out; obtain ⟨l2, _, _, _⟩ := know HL2.out; obtain ⟨_, _, _, _⟩ := know HQ2.out; clear hb2))
          have hz := blk_put HQ2.out 0 (.int .i64 5) rfl
          have hbz := HB2.out.setCell (p := ⟨w.heap.size + 1 + 1, 0, none⟩) (show w.heap.size ≤ w.heap.size + 1 + 1 by omega) (.int .i64 5)
          generalize World.setCell _ _ _ = W3 at hz hbz ⊢
          have hz0 : W3.cell? ⟨w.heap.size + 1 + 1, 0, none⟩ = some (.int .i64 5) := blk_cell hz 0
          exact bodyPost_ret (v := .int .i64 5) (by simp [results, Try.results13, go_sem, hz0]) rfl ⟨rfl, hbz⟩
      · rw [if_neg hnm] at hr
        subst hr
        have hnm3 : (s.f0.toList == x.f0.toList) = false := by simp [hnm]
        clear hrs hcs hre hce hwf hms hme hnm
        go_enter Try.func13, Try.ntmps13
        go_wp2_with (first
          | (go_at_call 14; refine (mayS_told s As cs _ (Kd.C_below HRS.out (below_alloc (below_alloc (below_alloc (Below.refl _ _) _) _) _)) HCS.out HMS.out).mono ?_; rintro e w1 ⟨rfl, hb1⟩; have HB1 := Aside0.mk (below_step (below_alloc (below_alloc (below_alloc (Below.refl _ _) _) _) _) hb1); have HK1 := Aside0.mk (blk_below (blk_alloc (blk_alloc (blk_new w (.cells #[.string s.f0, .int .i64 s.f1, .slice As s.f2.length cs] 35)) _) _) hb1); have HL1 := Aside0.mk (blk_below (blk_alloc (blk_new2 w _ (.cells #[.string x.f0, .int .i64 x.f1, .slice Ae x.f2.length ce] 24)) _) hb1); have HQ1 := Aside0.mk (blk_below (blk_new3 w _ _ (.cells #[.int .i64 0] 38)) hb1); obtain ⟨k1, _, _, _⟩ := know HK1.out; obtain ⟨l1, _, _, _⟩ := know HL1.out; obtain ⟨_, _, _, _⟩ := know HQ1.out; clear hb1)
          | (go_at_call 15; refine (event_May.told x Ae ce _ (Kd.C_below HRE.out HB1.out) HCE.out HWF.out HME.out).mono ?_; rintro e w2 ⟨rfl, hb2⟩; have HB2 := Aside0.mk (below_step HB1.out hb2); have HK2 := Aside0.mk (blk_below HK1.out hb2); have HL2 := Aside0.mk (blk_below HL1.out hb2); have HQ2 := Aside0.mk (blk_below HQ1.out hb2); obtain ⟨k2, _, _, _⟩ := know HK2.out; obtain ⟨l2, _, _, _⟩ := know HL2.out; obtain ⟨_, _, _, _⟩ := know HQ2.out; clear hb2))
        have hz := blk_put HQ2.out 0 (.int .i64 3) rfl
        have hbz := HB2.out.setCell (p := ⟨w.heap.size + 1 + 1, 0, none⟩) (show w.heap.size ≤ w.heap.size + 1 + 1 by omega) (.int .i64 3)
        generalize World.setCell _ _ _ = W3 at hz hbz ⊢
        have hz0 : W3.cell? ⟨w.heap.size + 1 + 1, 0, none⟩ = some (.int .i64 3) := blk_cell hz 0
        exact bodyPost_ret (v := .int .i64 3) (by simp [results, Try.results13, go_sem, hz0]) rfl ⟨rfl, hbz⟩
end
end Go.Proofs.Ytandlemjjlamoaa.P

namespace Go.Proofs.Ytandlemjjlamoaa.P
open Go.RowKit Go.Proofs.YtandlemjjlamoaaW.PrintWords Go.Proofs.YtandlemjjlamoaaW.PrintLast Go.Proofs.YtandlemjjlamoaaW.PrintMore
attribute [local go_sem] max2_int min2_int max_two min_two max_three min_three max_four min_four   -- for this text's walks alone
set_option linter.unusedVariables false
set_option linter.unusedSimpArgs false
mutual
def towncrierlaw06_Few.j0 : Nat → Bool → ByteArray → Int → List (SValue) → Option (Bool)
  | 0, _, _, _, _ => none
  | k + 1, x13, x103000, x103001, x103002 => if x13 = true then (some false) else (towncrierlaw06_Few.l0 k 0 x103000 x103001 x103002)
def towncrierlaw06_Few.l0 : Nat → Int → ByteArray → Int → List (SValue) → Option (Bool)
  | 0, _, _, _, _ => none
  | k + 1, x3, x103000, x103001, x103002 => if x3 < (x103002.length : Int) then (if 0 ≤ x3 then (if (((rd_TValue x103002 x3).f2).size : Int) > 100 then (some false) else (towncrierlaw06_Few.l0 k (wrap64 (x3 + 1)) x103000 x103001 x103002)) else (none)) else (some true)
end
def towncrierlaw06_Few.f (k : Nat) (a0_0 : ByteArray) (a0_1 : Int) (l0_2 : List (SValue)) : Option (Bool) := if (a0_0.size : Int) > 60 then (towncrierlaw06_Few.j0 k true a0_0 a0_1 l0_2) else (towncrierlaw06_Few.j0 k (decide ((l0_2.length : Int) > 10)) a0_0 a0_1 l0_2)
set_option maxHeartbeats 8000000 in
set_option maxRecDepth 100000 in
theorem towncrierlaw06_Few.calls (k : Nat) (a0_0 : ByteArray) (a0_1 : Int) (A0_2 : Option Addr) (c0_2 : Nat) (l0_2 : List (SValue)) (r : Bool) (w : World) (hr0_2 : Kd.C kValue w A0_2 l0_2.length l0_2) (hc0_2 : l0_2.length ≤ c0_2) (h : towncrierlaw06_Few.f k a0_0 a0_1 l0_2 = some r) :
    Calls Try.prog 10 #[.agg #[.string a0_0, .int .i64 a0_1, .slice A0_2 l0_2.length c0_2]] w fun e w' => e = .returned (.bool r) ∧ Below w.heap.size w w' := by
  have hu24 := Try.underlying24
  have HR0_2 := Aside0.mk hr0_2
  have HC0_2 := Aside0.mk hc0_2
  clear hr0_2 hc0_2
  have HB := Aside0.mk (Below.refl w.heap.size w)
  have H : (if (a0_0.size : Int) > 60 then (towncrierlaw06_Few.j0 k true a0_0 a0_1 l0_2) else (towncrierlaw06_Few.j0 k (decide ((l0_2.length : Int) > 10)) a0_0 a0_1 l0_2)) = some r := h
  clear h
  have HC2 := Aside0.mk H
  clear H
  go_enter Try.func10, Try.ntmps10
  go_upto_region 1 with (first | ((with_reducible refine gate_dst (N := 1) rfl ?_); (try (refine gate_guard (by rfl) ?_; dsimp only)); refine box_event ?hg (N := 1) ?hd (cs := #[.string a0_0, .int .i64 a0_1, .slice A0_2 l0_2.length c0_2]) (t := 24) ?hr ?_; (case hd => rfl); (case hg => rfl); (case hr => first | (go_simp; done) | (go_simp; rfl)); intro gb102 hg w3 hbox hb; have n0_ := Aside0.mk (below_step (by repeat (first | (with_reducible first | exact HB.out | apply below_alloc | apply pw_below_drewN | apply below_drew1) | exact HB.out)) hb); have n1_ := Aside0.mk (hbox); have n2_ := Aside0.mk ((by rw [hg]; exact (below_size (by repeat (first | (with_reducible first | exact HB.out | apply below_alloc | apply pw_below_drewN | apply below_drew1) | exact HB.out))) : w.heap.size ≤ gb102)); have n3_ := Aside0.mk ((by rw [hg]; exact (below_size (by repeat (first | (with_reducible first | exact HB.out | apply below_alloc | apply pw_below_drewN | apply below_drew1) | exact HB.out))) : w.heap.size ≤ gb102)); clear HB; have HB := n0_; have BK102 := n1_; have GW102 := n2_; have GE102 := n3_; clear n0_ n1_ n2_ n3_; clear hb hbox hg))
  (try simp only [Act.put, List.setIfInBounds_toArray, List.set_cons_zero, List.set_cons_succ])
  go_cut [13] (fun v13 wc => ∃ (kq : Nat) (x13_1 : Bool), v13 = .bool x13_1 ∧ Aside0 (towncrierlaw06_Few.j0 kq x13_1 a0_0 a0_1 l0_2 = some r) ∧ Aside0 (kq ≤ k) ∧ Aside0 (wc.heap[gb102]? = some (.cells #[.string a0_0, .int .i64 a0_1, (.slice A0_2 l0_2.length c0_2)] 24 (0, 0))) ∧ Aside0 (Below w.heap.size w wc))
  case first =>
    have H := HC2.out
    clear HC2
    by_cases c4 : (a0_0.size : Int) > 60
    · rw [if_pos c4] at H
      have c4b0 : decide (60 < (a0_0.size : Int)) = true := decide_eq_true c4
      have c4b1 : decide (60 < a0_0.size) = true := decide_eq_true (by omega)
      clear c4
      (first | rw [c4b0] | (simp only [i64_w, i32_w]; rw [c4b0]) | skip)
      have H' := Aside0.mk H
      clear H
      have hcz5_0 : w3.cell? ⟨gb102, 0, none⟩ = some (.string a0_0) := (blk_cell BK102.out 0).trans rfl
      have hcz5_1 : w3.cell? ⟨gb102, 1, none⟩ = some (.int .i64 a0_1) := (blk_cell BK102.out 1).trans rfl
      have hcz5_2 : w3.cell? ⟨gb102, 2, none⟩ = some (.slice A0_2 l0_2.length c0_2) := (blk_cell BK102.out 2).trans rfl
      have hfz5_0 := blk_frozen BK102.out 0
      have hfz5_1 := blk_frozen BK102.out 1
      have hfz5_2 := blk_frozen BK102.out 2
      go_wp2
      go_meet
      case rel => exact ⟨_, (true), (by first | rfl | (simp; done) | (simp [*]; done)), H', ⟨by first | omega | exact Nat.le_refl _⟩, ⟨by (with_reducible repeat (first | refine blk_drewN ?_ _ | refine blk_drew ?_ | refine blk_alloc ?_ _)); exact BK102.out⟩, ⟨by repeat (first | (with_reducible first | exact HB.out | apply below_alloc | apply pw_below_drewN | apply below_drew1 | refine below_set ?_ GE102.out) | exact HB.out)⟩⟩
    · rw [if_neg c4] at H
      have c4b0 : decide (60 < (a0_0.size : Int)) = false := decide_eq_false c4
      have c4b1 : decide (60 < a0_0.size) = false := decide_eq_false (by omega)
      clear c4
      (first | rw [c4b0] | (simp only [i64_w, i32_w]; rw [c4b0]) | skip)
      have H' := Aside0.mk H
      clear H
      have hcz6_0 : w3.cell? ⟨gb102, 0, none⟩ = some (.string a0_0) := (blk_cell BK102.out 0).trans rfl
      have hcz6_1 : w3.cell? ⟨gb102, 1, none⟩ = some (.int .i64 a0_1) := (blk_cell BK102.out 1).trans rfl
      have hcz6_2 : w3.cell? ⟨gb102, 2, none⟩ = some (.slice A0_2 l0_2.length c0_2) := (blk_cell BK102.out 2).trans rfl
      have hfz6_0 := blk_frozen BK102.out 0
      have hfz6_1 := blk_frozen BK102.out 1
      have hfz6_2 := blk_frozen BK102.out 2
      go_wp2
      go_meet
      case rel => exact ⟨_, (decide ((l0_2.length : Int) > 10)), (by first | rfl | (simp; done) | (simp [*]; done)), H', ⟨by first | omega | exact Nat.le_refl _⟩, ⟨by (with_reducible repeat (first | refine blk_drewN ?_ _ | refine blk_drew ?_ | refine blk_alloc ?_ _)); exact BK102.out⟩, ⟨by repeat (first | (with_reducible first | exact HB.out | apply below_alloc | apply pw_below_drewN | apply below_drew1 | refine below_set ?_ GE102.out) | exact HB.out)⟩⟩
  case rest =>
    clear HC2
    try clear c1
    try clear p2
    try clear c4
    try clear c4b0
    try clear c4b1
    try clear hcz5_0
    try clear hcz5_1
    try clear hcz5_2
    try clear hcz6_0
    try clear hcz6_1
    try clear hcz6_2
    try clear hfz5_0
    try clear hfz5_1
    try clear hfz5_2
    try clear hfz6_0
    try clear hfz6_1
    try clear hfz6_2
    obtain ⟨kq, x13_1, rfl, HA, HJ1, BK102, HB⟩ := hcut
    cases kq with
    | zero => exact absurd HA.out (by simp [towncrierlaw06_Few.j0])
    | succ kj1 =>
      have H := HA.out
      clear HA
      simp only [towncrierlaw06_Few.j0] at H
      by_cases c7 : x13_1 = true
      · subst c7
        have H1 : (some false) = some r := by rw [if_pos rfl] at H; exact H
        clear H
        have H := H1
        clear H1
        obtain rfl := Option.some.inj H
        go_wp2
        go_ret
        exact ⟨by first | rfl | (simp [errW_none, errW_some] <;> rfl) | (simp [*, errW_none, errW_some] <;> rfl), by repeat (first | (with_reducible first | exact HB.out | apply below_alloc | apply pw_below_drewN | apply below_drew1 | refine below_set ?_ GE102.out) | exact HB.out)⟩
      · replace c7 := Bool.eq_false_iff.mpr c7
        subst c7
        have H1 : (towncrierlaw06_Few.l0 kj1 0 a0_0 a0_1 l0_2) = some r := by rw [if_neg (show ¬ (false = true) by decide)] at H; exact H
        clear H
        have H := H1
        clear H1
        have H' := Aside0.mk H
        clear H
        go_wp2
        go_loopg [3] kj1 (fun kq v3 w' => ∃ (x3_2 : Int), v3 = .int .i64 x3_2 ∧ Aside0 (towncrierlaw06_Few.l0 kq x3_2 a0_0 a0_1 l0_2 = some r) ∧ Aside0 (kq ≤ kj1) ∧ Aside0 (w'.heap[gb102]? = some (.cells #[.string a0_0, .int .i64 a0_1, (.slice A0_2 l0_2.length c0_2)] 24 (0, 0))) ∧ Aside0 (Below w.heap.size w w'))
        case atStart => exact ⟨(0), (by first | rfl | (simp; done) | (simp [*]; done)), H', ⟨Nat.le_refl _⟩, ⟨by (with_reducible repeat (first | refine blk_drewN ?_ _ | refine blk_drew ?_ | refine blk_alloc ?_ _)); exact BK102.out⟩, ⟨by repeat (first | (with_reducible first | exact HB.out | apply below_alloc | apply pw_below_drewN | apply below_drew1 | refine below_set ?_ GE102.out) | exact HB.out)⟩⟩
        case round =>
          clear H'
          try clear c1
          try clear p2
          try clear c4
          try clear c4b0
          try clear c4b1
          try clear c7
          try clear hcz5_0
          try clear hcz5_1
          try clear hcz5_2
          try clear hcz6_0
          try clear hcz6_1
          try clear hcz6_2
          try clear hfz5_0
          try clear hfz5_1
          try clear hfz5_2
          try clear hfz6_0
          try clear hfz6_1
          try clear hfz6_2
          try clear p2
          obtain ⟨x3_2, rfl, HA, HK2, BK102, HB⟩ := hrel
          cases gk with
          | zero => exact absurd HA.out (by simp [towncrierlaw06_Few.l0])
          | succ k2 =>
            have H := HA.out
            clear HA
            simp only [towncrierlaw06_Few.l0] at H
            by_cases c8 : x3_2 < (l0_2.length : Int)
            · rw [if_pos c8] at H
              have c8b0 : decide (x3_2 < (l0_2.length : Int)) = true := decide_eq_true c8
              clear c8
              by_cases c9 : 0 ≤ x3_2
              · rw [if_pos c9] at H
                have c9b0 : decide (0 ≤ x3_2) = true := decide_eq_true c9
                clear c9
                by_cases c10 : (((rd_TValue l0_2 x3_2).f2).size : Int) > 100
                · rw [if_pos c10] at H
                  have c10b0 : decide (100 < (((rd_TValue l0_2 x3_2).f2).size : Int)) = true := decide_eq_true c10
                  have c10b1 : decide (100 < ((rd_TValue l0_2 x3_2).f2).size) = true := decide_eq_true (by omega)
                  clear c10
                  obtain rfl := Option.some.inj H
                  have hcz11_0 : wr.cell? ⟨gb102, 0, none⟩ = some (.string a0_0) := (blk_cell BK102.out 0).trans rfl
                  have hcz11_1 : wr.cell? ⟨gb102, 1, none⟩ = some (.int .i64 a0_1) := (blk_cell BK102.out 1).trans rfl
                  have hcz11_2 : wr.cell? ⟨gb102, 2, none⟩ = some (.slice A0_2 l0_2.length c0_2) := (blk_cell BK102.out 2).trans rfl
                  have hfz11_0 := blk_frozen BK102.out 0
                  have hfz11_1 := blk_frozen BK102.out 1
                  have hfz11_2 := blk_frozen BK102.out 2
                  have p103 : 0 ≤ (x3_2 : Int) := of_decide_eq_true (by first | (with_reducible assumption) | assumption)
                  have q103 : x3_2 < (l0_2.length : Int) := of_decide_eq_true (by first | (with_reducible assumption) | assumption)
                  obtain ⟨ad103, e103, hx103_0, hx103_1, hx103_2⟩ := at_TValue HR0_2.out x3_2 p103 q103
                  cases e103
                  replace hx103_0 := (HB.out.cell (World.block_lt_of_cell? w _ hx103_0)).trans hx103_0
                  replace hx103_1 := (HB.out.cell (World.block_lt_of_cell? w _ hx103_1)).trans hx103_1
                  replace hx103_2 := (HB.out.cell (World.block_lt_of_cell? w _ hx103_2)).trans hx103_2
                  replace p103 := eq_true p103
                  replace q103 := eq_true q103
                  go_wp2
                  go_ret
                  exact ⟨by first | rfl | (simp [errW_none, errW_some] <;> rfl) | (simp [*, errW_none, errW_some] <;> rfl), by repeat (first | (with_reducible first | exact HB.out | apply below_alloc | apply pw_below_drewN | apply below_drew1 | refine below_set ?_ GE102.out) | exact HB.out)⟩
                · rw [if_neg c10] at H
                  have c10b0 : decide (100 < (((rd_TValue l0_2 x3_2).f2).size : Int)) = false := decide_eq_false c10
                  have c10b1 : decide (100 < ((rd_TValue l0_2 x3_2).f2).size) = false := decide_eq_false (by omega)
                  clear c10
                  have H' := Aside0.mk H
                  clear H
                  have hcz12_0 : wr.cell? ⟨gb102, 0, none⟩ = some (.string a0_0) := (blk_cell BK102.out 0).trans rfl
                  have hcz12_1 : wr.cell? ⟨gb102, 1, none⟩ = some (.int .i64 a0_1) := (blk_cell BK102.out 1).trans rfl
                  have hcz12_2 : wr.cell? ⟨gb102, 2, none⟩ = some (.slice A0_2 l0_2.length c0_2) := (blk_cell BK102.out 2).trans rfl
                  have hfz12_0 := blk_frozen BK102.out 0
                  have hfz12_1 := blk_frozen BK102.out 1
                  have hfz12_2 := blk_frozen BK102.out 2
                  have p103 : 0 ≤ (x3_2 : Int) := of_decide_eq_true (by first | (with_reducible assumption) | assumption)
                  have q103 : x3_2 < (l0_2.length : Int) := of_decide_eq_true (by first | (with_reducible assumption) | assumption)
                  obtain ⟨ad103, e103, hx103_0, hx103_1, hx103_2⟩ := at_TValue HR0_2.out x3_2 p103 q103
                  cases e103
                  replace hx103_0 := (HB.out.cell (World.block_lt_of_cell? w _ hx103_0)).trans hx103_0
                  replace hx103_1 := (HB.out.cell (World.block_lt_of_cell? w _ hx103_1)).trans hx103_1
                  replace hx103_2 := (HB.out.cell (World.block_lt_of_cell? w _ hx103_2)).trans hx103_2
                  replace p103 := eq_true p103
                  replace q103 := eq_true q103
                  go_wp2
                  go_roundg k2
                  case measure => have := HJ1.out; have := HK2.out; omega
                  case rel => exact ⟨(wrap64 (x3_2 + 1)), (by first | rfl | (simp; done) | (simp [*]; done)), H', ⟨by have := HJ1.out; have := HK2.out; omega⟩, ⟨by (with_reducible repeat (first | refine blk_drewN ?_ _ | refine blk_drew ?_ | refine blk_alloc ?_ _)); exact BK102.out⟩, ⟨by repeat (first | (with_reducible first | exact HB.out | apply below_alloc | apply pw_below_drewN | apply below_drew1 | refine below_set ?_ GE102.out) | exact HB.out)⟩⟩
              · rw [if_neg c9] at H
                exact absurd H (by simp)
            · rw [if_neg c8] at H
              have c8b0 : decide (x3_2 < (l0_2.length : Int)) = false := decide_eq_false c8
              clear c8
              obtain rfl := Option.some.inj H
              have hcz13_0 : wr.cell? ⟨gb102, 0, none⟩ = some (.string a0_0) := (blk_cell BK102.out 0).trans rfl
              have hcz13_1 : wr.cell? ⟨gb102, 1, none⟩ = some (.int .i64 a0_1) := (blk_cell BK102.out 1).trans rfl
              have hcz13_2 : wr.cell? ⟨gb102, 2, none⟩ = some (.slice A0_2 l0_2.length c0_2) := (blk_cell BK102.out 2).trans rfl
              have hfz13_0 := blk_frozen BK102.out 0
              have hfz13_1 := blk_frozen BK102.out 1
              have hfz13_2 := blk_frozen BK102.out 2
              go_wp2
              go_ret
              exact ⟨by first | rfl | (simp [errW_none, errW_some] <;> rfl) | (simp [*, errW_none, errW_some] <;> rfl), by repeat (first | (with_reducible first | exact HB.out | apply below_alloc | apply pw_below_drewN | apply below_drew1 | refine below_set ?_ GE102.out) | exact HB.out)⟩
end Go.Proofs.Ytandlemjjlamoaa.P

namespace Go.Proofs.Ytandlemjjlamoaa.P
open Go.RowKit Go.Proofs.YtandlemjjlamoaaW.PrintWords Go.Proofs.YtandlemjjlamoaaW.PrintLast Go.Proofs.YtandlemjjlamoaaW.PrintMore
attribute [local go_sem] max2_int min2_int max_two min_two max_three min_three max_four min_four   -- for this text's walks alone
set_option linter.unusedVariables false
set_option linter.unusedSimpArgs false
theorem eqAValue (d : Nat) (w : World) (x0 y0 : Int) (x1 y1 : Int) (x2 y2 : ByteArray) :
    (Op.equalIn (d + 2) 37 (.agg #[.int .i64 x0, .int .i64 x1, .string x2]) (.agg #[.int .i64 y0, .int .i64 y1, .string y2])).run Try.prog w = .ok (x0 == y0 && (x1 == y1 && (x2.toList == y2.toList))) w := by
  refine eqA_of Try.underlying37 (by kernel_rfl) ?_
  refine eqf_cons (by rfl) (by go_simp; rfl) (by go_simp; rfl) (by go_simp) ?_
  refine eqf_cons (by rfl) (by go_simp; rfl) (by go_simp; rfl) (by go_simp) ?_
  exact eqf_last (by rfl) (by go_simp; rfl) (by go_simp; rfl) (by go_simp)
end Go.Proofs.Ytandlemjjlamoaa.P

namespace Go.Proofs.Ytandlemjjlamoaa.P
open Go.RowKit Go.Proofs.YtandlemjjlamoaaW.PrintWords Go.Proofs.YtandlemjjlamoaaW.PrintLast Go.Proofs.YtandlemjjlamoaaW.PrintMore
attribute [local go_sem] max2_int min2_int max_two min_two max_three min_three max_four min_four   -- for this text's walks alone
set_option linter.unusedVariables false
set_option linter.unusedSimpArgs false
attribute [local go_sem high] eqAValue
def slices_Equal_api_Value.l0 : Nat → List (SValue) → List (SValue) → Int → Int → Option (Bool)
  | 0, _, _, _, _ => none
  | k + 1, x0, x1, x12, x13 => if x13 < x12 then (if 0 ≤ x13 then (if x13 < (x0.length : Int) then (if x13 < (x1.length : Int) then (if (!(((rd_TValue x0 x13).f0) == ((rd_TValue x1 x13).f0)) || (!(((rd_TValue x0 x13).f1) == ((rd_TValue x1 x13).f1)) || (!((((rd_TValue x0 x13).f2).toList) == (((rd_TValue x1 x13).f2).toList))))) = true then (some false) else (slices_Equal_api_Value.l0 k x0 x1 x12 (wrap64 (x13 + 1)))) else (none)) else (none)) else (none)) else (some true)
def slices_Equal_api_Value.f (k : Nat) (l0 : List (SValue)) (l1 : List (SValue)) : Option (Bool) := if (l0.length : Int) = (l1.length : Int) then (slices_Equal_api_Value.l0 k l0 l1 (l0.length : Int) 0) else (some false)
set_option maxHeartbeats 8000000 in
set_option maxRecDepth 100000 in
theorem slices_Equal_api_Value.calls (k : Nat) (A0 : Option Addr) (c0 : Nat) (l0 : List (SValue)) (A1 : Option Addr) (c1 : Nat) (l1 : List (SValue)) (r : Bool) (w : World) (hr0 : Kd.C kValue w A0 l0.length l0) (hc0 : l0.length ≤ c0) (hr1 : Kd.C kValue w A1 l1.length l1) (hc1 : l1.length ≤ c1) (h : slices_Equal_api_Value.f k l0 l1 = some r) :
    Calls Try.prog 45 #[.slice A0 l0.length c0, .slice A1 l1.length c1] w fun e w' => e = .returned (.bool r) ∧ Drawn0 w w' := by
  have hu37 := Try.underlying37
  have HR0 := Aside0.mk hr0
  have HC0 := Aside0.mk hc0
  clear hr0 hc0
  have HR1 := Aside0.mk hr1
  have HC1 := Aside0.mk hc1
  clear hr1 hc1
  have H : (if (l0.length : Int) = (l1.length : Int) then (slices_Equal_api_Value.l0 k l0 l1 (l0.length : Int) 0) else (some false)) = some r := h
  clear h
  by_cases c3 : (l0.length : Int) = (l1.length : Int)
  · rw [if_pos c3] at H
    have c3b0 : ((l0.length : Int) == (l1.length : Int)) = true := beq_iff_eq.mpr c3
    have c3b1 : ((l0.length : Int) != (l1.length : Int)) = false := bne_eq_false_iff_eq.mpr c3
    have c3b2 : (l0.length == l1.length) = true := by first | simpa using c3 | (simp at c3 ⊢; omega)
    clear c3
    have H' := Aside0.mk H
    clear H
    go_enter Try.func45, Try.ntmps45
    go_wp2
    repeat (go_quiet (fail); try go_wp2)
    go_loopg [13] k (fun kq v13 w' => ∃ (x13_1 : Int), v13 = .int .i64 x13_1 ∧ Aside0 (slices_Equal_api_Value.l0 kq l0 l1 (l0.length : Int) x13_1 = some r) ∧ Aside0 (kq ≤ k) ∧ Drawn0 w w')
    case atStart => exact ⟨(0), (by first | rfl | (simp; done) | (simp [*]; done)), H', ⟨Nat.le_refl _⟩, by repeat (first | exact Drawn0.refl _ | apply Drawn0.step)⟩
    case round =>
      clear H'
      try clear c1
      try clear p2
      try clear c3
      try clear c3b0
      try clear c3b1
      try clear c3b2
      obtain ⟨x13_1, rfl, HA, HK1, ⟨m1, rfl⟩⟩ := hrel
      cases gk with
      | zero => exact absurd HA.out (by simp [slices_Equal_api_Value.l0])
      | succ k1 =>
        have H := HA.out
        clear HA
        simp only [slices_Equal_api_Value.l0] at H
        by_cases c4 : x13_1 < (l0.length : Int)
        · rw [if_pos c4] at H
          have c4b0 : decide (x13_1 < (l0.length : Int)) = true := decide_eq_true c4
          clear c4
          by_cases c5 : 0 ≤ x13_1
          · rw [if_pos c5] at H
            have c5b0 : decide (0 ≤ x13_1) = true := decide_eq_true c5
            clear c5
            by_cases c6 : x13_1 < (l0.length : Int)
            · rw [if_pos c6] at H
              have c6b0 : decide (x13_1 < (l0.length : Int)) = true := decide_eq_true c6
              clear c6
              by_cases c7 : x13_1 < (l1.length : Int)
              · rw [if_pos c7] at H
                have c7b0 : decide (x13_1 < (l1.length : Int)) = true := decide_eq_true c7
                clear c7
                by_cases c8 : (!(((rd_TValue l0 x13_1).f0) == ((rd_TValue l1 x13_1).f0)) || (!(((rd_TValue l0 x13_1).f1) == ((rd_TValue l1 x13_1).f1)) || (!((((rd_TValue l0 x13_1).f2).toList) == (((rd_TValue l1 x13_1).f2).toList))))) = true
                · rw [if_pos c8] at H
                  have c8b0 : (!(((rd_TValue l0 x13_1).f0) == ((rd_TValue l1 x13_1).f0)) || (!(((rd_TValue l0 x13_1).f1) == ((rd_TValue l1 x13_1).f1)) || (!((((rd_TValue l0 x13_1).f2).toList) == (((rd_TValue l1 x13_1).f2).toList))))) = true := c8
                  clear c8
                  obtain rfl := Option.some.inj H
                  have p120 : 0 ≤ (x13_1 : Int) := of_decide_eq_true (by first | (with_reducible assumption) | assumption)
                  have q120 : x13_1 < (l0.length : Int) := of_decide_eq_true (by first | (with_reducible assumption) | assumption)
                  obtain ⟨ad120, e120, hx120_0, hx120_1, hx120_2⟩ := at_TValue HR0.out x13_1 p120 q120
                  cases e120
                  replace p120 := eq_true p120
                  replace q120 := eq_true q120
                  have p121 : 0 ≤ (x13_1 : Int) := of_decide_eq_true (by first | (with_reducible assumption) | assumption)
                  have q121 : x13_1 < (l1.length : Int) := of_decide_eq_true (by first | (with_reducible assumption) | assumption)
                  obtain ⟨ad121, e121, hx121_0, hx121_1, hx121_2⟩ := at_TValue HR1.out x13_1 p121 q121
                  cases e121
                  replace p121 := eq_true p121
                  replace q121 := eq_true q121
                  go_wp2
                  repeat (go_quiet (fail); try go_wp2)
                  go_ret
                  exact ⟨by first | rfl | (simp; done) | (simp [*]; done), by repeat (first | exact Drawn0.refl _ | apply Drawn0.step)⟩
                · rw [if_neg c8] at H
                  have c8b0 : (!(((rd_TValue l0 x13_1).f0) == ((rd_TValue l1 x13_1).f0)) || (!(((rd_TValue l0 x13_1).f1) == ((rd_TValue l1 x13_1).f1)) || (!((((rd_TValue l0 x13_1).f2).toList) == (((rd_TValue l1 x13_1).f2).toList))))) = false := by simpa using c8
                  clear c8
                  have H' := Aside0.mk H
                  clear H
                  have p120 : 0 ≤ (x13_1 : Int) := of_decide_eq_true (by first | (with_reducible assumption) | assumption)
                  have q120 : x13_1 < (l0.length : Int) := of_decide_eq_true (by first | (with_reducible assumption) | assumption)
                  obtain ⟨ad120, e120, hx120_0, hx120_1, hx120_2⟩ := at_TValue HR0.out x13_1 p120 q120
                  cases e120
                  replace p120 := eq_true p120
                  replace q120 := eq_true q120
                  have p121 : 0 ≤ (x13_1 : Int) := of_decide_eq_true (by first | (with_reducible assumption) | assumption)
                  have q121 : x13_1 < (l1.length : Int) := of_decide_eq_true (by first | (with_reducible assumption) | assumption)
                  obtain ⟨ad121, e121, hx121_0, hx121_1, hx121_2⟩ := at_TValue HR1.out x13_1 p121 q121
                  cases e121
                  replace p121 := eq_true p121
                  replace q121 := eq_true q121
                  go_wp2
                  repeat (go_quiet (fail); try go_wp2)
                  go_roundg k1
                  case measure => have := HK1.out; omega
                  case rel => exact ⟨(wrap64 (x13_1 + 1)), (by first | rfl | (simp; done) | (simp [*]; done)), H', ⟨by have := HK1.out; omega⟩, by repeat (first | exact Drawn0.refl _ | apply Drawn0.step)⟩
              · rw [if_neg c7] at H
                exact absurd H (by simp)
            · rw [if_neg c6] at H
              exact absurd H (by simp)
          · rw [if_neg c5] at H
            exact absurd H (by simp)
        · rw [if_neg c4] at H
          have c4b0 : decide (x13_1 < (l0.length : Int)) = false := decide_eq_false c4
          clear c4
          obtain rfl := Option.some.inj H
          go_wp2
          repeat (go_quiet (fail); try go_wp2)
          go_ret
          exact ⟨by first | rfl | (simp; done) | (simp [*]; done), by repeat (first | exact Drawn0.refl _ | apply Drawn0.step)⟩
  · rw [if_neg c3] at H
    have c3b0 : ((l0.length : Int) == (l1.length : Int)) = false := beq_eq_false_iff_ne.mpr c3
    have c3b1 : ((l0.length : Int) != (l1.length : Int)) = true := bne_iff_ne.mpr c3
    have c3b2 : (l0.length == l1.length) = false := by first | simpa using c3 | (simp at c3 ⊢; omega)
    obtain rfl := Option.some.inj H
    go_enter Try.func45, Try.ntmps45
    go_wp2
    repeat (go_quiet (fail); try go_wp2)
    go_ret
    exact ⟨by first | rfl | (simp; done) | (simp [*]; done), by repeat (first | exact Drawn0.refl _ | apply Drawn0.step)⟩
end Go.Proofs.Ytandlemjjlamoaa.P

namespace Go.Proofs.Ytandlemjjlamoaa.P
open Go.RowKit Go.Proofs.YtandlemjjlamoaaW.PrintWords Go.Proofs.YtandlemjjlamoaaW.PrintLast Go.Proofs.YtandlemjjlamoaaW.PrintMore
attribute [local go_sem] max2_int min2_int max_two min_two max_three min_three max_four min_four   -- for this text's walks alone
set_option linter.unusedVariables false
set_option linter.unusedSimpArgs false
def event_Same.f (k : Nat) (a0_0 : ByteArray) (a0_1 : Int) (l0_2 : List (SValue)) (a1_0 : ByteArray) (a1_1 : Int) (l1_2 : List (SValue)) : Option (Bool) := if a0_0.toList = a1_0.toList then (if a0_1 = a1_1 then ((slices_Equal_api_Value.f k l0_2 l1_2).bind fun t124 => (some t124)) else (some false)) else (some false)
set_option maxHeartbeats 8000000 in
set_option maxRecDepth 100000 in
theorem event_Same.calls (k : Nat) (a0_0 : ByteArray) (a0_1 : Int) (A0_2 : Option Addr) (c0_2 : Nat) (l0_2 : List (SValue)) (a1_0 : ByteArray) (a1_1 : Int) (A1_2 : Option Addr) (c1_2 : Nat) (l1_2 : List (SValue)) (r : Bool) (w : World) (hr0_2 : Kd.C kValue w A0_2 l0_2.length l0_2) (hc0_2 : l0_2.length ≤ c0_2) (hr1_2 : Kd.C kValue w A1_2 l1_2.length l1_2) (hc1_2 : l1_2.length ≤ c1_2) (h : event_Same.f k a0_0 a0_1 l0_2 a1_0 a1_1 l1_2 = some r) :
    Calls Try.prog 21 #[.agg #[.string a0_0, .int .i64 a0_1, .slice A0_2 l0_2.length c0_2], .agg #[.string a1_0, .int .i64 a1_1, .slice A1_2 l1_2.length c1_2]] w fun e w' => e = .returned (.bool r) ∧ Below w.heap.size w w' := by
  have hu24 := Try.underlying24
  have HR0_2 := Aside0.mk hr0_2
  have HC0_2 := Aside0.mk hc0_2
  clear hr0_2 hc0_2
  have HR1_2 := Aside0.mk hr1_2
  have HC1_2 := Aside0.mk hc1_2
  clear hr1_2 hc1_2
  have HB := Aside0.mk (Below.refl w.heap.size w)
  have H : (if a0_0.toList = a1_0.toList then (if a0_1 = a1_1 then ((slices_Equal_api_Value.f k l0_2 l1_2).bind fun t124 => (some t124)) else (some false)) else (some false)) = some r := h
  clear h
  by_cases c3 : a0_0.toList = a1_0.toList
  · rw [if_pos c3] at H
    have c3b0 : (a0_0.toList == a1_0.toList) = true := beq_iff_eq.mpr c3
    have c3b1 : (a0_0.toList != a1_0.toList) = false := bne_eq_false_iff_eq.mpr c3
    clear c3
    by_cases c4 : a0_1 = a1_1
    · rw [if_pos c4] at H
      have c4b0 : (a0_1 == a1_1) = true := beq_iff_eq.mpr c4
      have c4b1 : (a0_1 != a1_1) = false := bne_eq_false_iff_eq.mpr c4
      clear c4
      replace H := Option.bind_eq_some_iff.mp H
      obtain ⟨t124, A50, H⟩ := H
      replace H : (some t124) = some r := H
      have A5 := Aside0.mk A50
      clear A50
      obtain rfl := Option.some.inj H
      go_enter Try.func21, Try.ntmps21
      go_wp2_with (first | ((with_reducible refine gate_dst (N := 2) rfl ?_); refine box_event ?hg (N := 2) ?hd (cs := #[.string a0_0, .int .i64 a0_1, .slice A0_2 l0_2.length c0_2]) (t := 24) ?hr ?_; (case hd => rfl); (case hg => rfl); (case hr => first | (go_simp; done) | (go_simp; rfl)); intro gb122 hg w6 hbox hb; have n0_ := Aside0.mk (below_step (by repeat (first | (with_reducible first | exact HB.out | apply below_alloc | apply pw_below_drewN | apply below_drew1) | exact HB.out)) hb); have n1_ := Aside0.mk (hbox); have n2_ := Aside0.mk ((by rw [hg]; exact (below_size (by repeat (first | (with_reducible first | exact HB.out | apply below_alloc | apply pw_below_drewN | apply below_drew1) | exact HB.out))) : w.heap.size ≤ gb122)); have n3_ := Aside0.mk ((by rw [hg]; exact (below_size (by repeat (first | (with_reducible first | exact HB.out | apply below_alloc | apply pw_below_drewN | apply below_drew1) | exact HB.out))) : w.heap.size ≤ gb122)); clear HB; have HB := n0_; have BK122 := n1_; have GW122 := n2_; have GE122 := n3_; clear n0_ n1_ n2_ n3_; clear hb hbox hg) | ((with_reducible refine gate_dst (N := 3) rfl ?_); refine box_event ?hg (N := 3) ?hd (cs := #[.string a1_0, .int .i64 a1_1, .slice A1_2 l1_2.length c1_2]) (t := 24) ?hr ?_; (case hd => rfl); (case hg => rfl); (case hr => first | (go_simp; done) | (go_simp; rfl)); intro gb123 hg w7 hbox hb; have n0_ := Aside0.mk (blk_below (g := gb122) (o := .cells #[.string a0_0, .int .i64 a0_1, .slice A0_2 l0_2.length c0_2] 24 (0, 0)) (by (with_reducible repeat (first | refine blk_drewN ?_ _ | refine blk_drew ?_ | refine blk_alloc ?_ _)); exact BK122.out) hb); have n1_ := Aside0.mk (below_step (by repeat (first | (with_reducible first | exact HB.out | apply below_alloc | apply pw_below_drewN | apply below_drew1 | refine below_set ?_ GE122.out) | exact HB.out)) hb); have n2_ := Aside0.mk (hbox); have n3_ := Aside0.mk ((by rw [hg]; exact (below_size (by repeat (first | (with_reducible first | exact HB.out | apply below_alloc | apply pw_below_drewN | apply below_drew1 | refine below_set ?_ GE122.out) | exact HB.out))) : w.heap.size ≤ gb123)); have n4_ := Aside0.mk ((by rw [hg]; exact (below_size (by repeat (first | (with_reducible first | exact HB.out | apply below_alloc | apply pw_below_drewN | apply below_drew1 | refine below_set ?_ GE122.out) | exact HB.out))) : w.heap.size ≤ gb123)); have n5_ := Aside0.mk ((by rw [hg]; exact Nat.ne_of_lt (blk_lt (g := gb122) (o := .cells #[.string a0_0, .int .i64 a0_1, .slice A0_2 l0_2.length c0_2] 24 (0, 0)) (by (with_reducible repeat (first | refine blk_drewN ?_ _ | refine blk_drew ?_ | refine blk_alloc ?_ _)); exact BK122.out)) : gb122 ≠ gb123)); have n6_ := Aside0.mk ((by rw [hg]; exact Nat.ne_of_gt (blk_lt (g := gb122) (o := .cells #[.string a0_0, .int .i64 a0_1, .slice A0_2 l0_2.length c0_2] 24 (0, 0)) (by (with_reducible repeat (first | refine blk_drewN ?_ _ | refine blk_drew ?_ | refine blk_alloc ?_ _)); exact BK122.out)) : gb123 ≠ gb122)); clear BK122; clear HB; have BK122 := n0_; have HB := n1_; have BK123 := n2_; have GW123 := n3_; have GE123 := n4_; have NB122_123 := n5_; have NB123_122 := n6_; clear n0_ n1_ n2_ n3_ n4_ n5_ n6_; clear hb hbox hg; have hnb8 := NB122_123.out; have hnc8 := NB123_122.out; have hcz9_0 : w7.cell? ⟨gb122, 0, none⟩ = some (.string a0_0) := (blk_cell BK122.out 0).trans rfl; have hcz9_1 : w7.cell? ⟨gb122, 1, none⟩ = some (.int .i64 a0_1) := (blk_cell BK122.out 1).trans rfl; have hcz9_2 : w7.cell? ⟨gb122, 2, none⟩ = some (.slice A0_2 l0_2.length c0_2) := (blk_cell BK122.out 2).trans rfl; have hfz9_0 := blk_frozen BK122.out 0; have hfz9_1 := blk_frozen BK122.out 1; have hfz9_2 := blk_frozen BK122.out 2; have hcz10_0 : w7.cell? ⟨gb123, 0, none⟩ = some (.string a1_0) := (blk_cell BK123.out 0).trans rfl; have hcz10_1 : w7.cell? ⟨gb123, 1, none⟩ = some (.int .i64 a1_1) := (blk_cell BK123.out 1).trans rfl; have hcz10_2 : w7.cell? ⟨gb123, 2, none⟩ = some (.slice A1_2 l1_2.length c1_2) := (blk_cell BK123.out 2).trans rfl; have hfz10_0 := blk_frozen BK123.out 0; have hfz10_1 := blk_frozen BK123.out 1; have hfz10_2 := blk_frozen BK123.out 2) | (go_at_call 45; (with_reducible refine (slices_Equal_api_Value.calls k _ _ l0_2 _ _ l1_2 t124 _ ?side1 ?side2 ?side3 ?side4 A5.out).mono ?_); (case side1 => repeat (first | exact (Kd.C_below HR0_2.out HB.out) | (with_reducible refine Kd.C_alloc ?_ _) | (with_reducible refine Kd.C_drewN ?_ _) | (with_reducible refine Kd.C_drew ?_))); (case side2 => exact HC0_2.out); (case side3 => repeat (first | exact (Kd.C_below HR1_2.out HB.out) | (with_reducible refine Kd.C_alloc ?_ _) | (with_reducible refine Kd.C_drewN ?_ _) | (with_reducible refine Kd.C_drew ?_))); (case side4 => exact HC1_2.out); rintro e w' ⟨rfl, ⟨nd, rfl⟩⟩))
      go_ret
      exact ⟨by first | rfl | (simp [errW_none, errW_some] <;> rfl) | (simp [*, errW_none, errW_some] <;> rfl), by repeat (first | (with_reducible first | exact HB.out | apply below_alloc | apply pw_below_drewN | apply below_drew1 | refine below_set ?_ GE122.out | refine below_set ?_ GE123.out) | exact HB.out)⟩
    · rw [if_neg c4] at H
      have c4b0 : (a0_1 == a1_1) = false := beq_eq_false_iff_ne.mpr c4
      have c4b1 : (a0_1 != a1_1) = true := bne_iff_ne.mpr c4
      obtain rfl := Option.some.inj H
      go_enter Try.func21, Try.ntmps21
      go_wp2_with (first | ((with_reducible refine gate_dst (N := 2) rfl ?_); refine box_event ?hg (N := 2) ?hd (cs := #[.string a0_0, .int .i64 a0_1, .slice A0_2 l0_2.length c0_2]) (t := 24) ?hr ?_; (case hd => rfl); (case hg => rfl); (case hr => first | (go_simp; done) | (go_simp; rfl)); intro gb122 hg w11 hbox hb; have n0_ := Aside0.mk (below_step (by repeat (first | (with_reducible first | exact HB.out | apply below_alloc | apply pw_below_drewN | apply below_drew1) | exact HB.out)) hb); have n1_ := Aside0.mk (hbox); have n2_ := Aside0.mk ((by rw [hg]; exact (below_size (by repeat (first | (with_reducible first | exact HB.out | apply below_alloc | apply pw_below_drewN | apply below_drew1) | exact HB.out))) : w.heap.size ≤ gb122)); have n3_ := Aside0.mk ((by rw [hg]; exact (below_size (by repeat (first | (with_reducible first | exact HB.out | apply below_alloc | apply pw_below_drewN | apply below_drew1) | exact HB.out))) : w.heap.size ≤ gb122)); clear HB; have HB := n0_; have BK122 := n1_; have GW122 := n2_; have GE122 := n3_; clear n0_ n1_ n2_ n3_; clear hb hbox hg) | ((with_reducible refine gate_dst (N := 3) rfl ?_); refine box_event ?hg (N := 3) ?hd (cs := #[.string a1_0, .int .i64 a1_1, .slice A1_2 l1_2.length c1_2]) (t := 24) ?hr ?_; (case hd => rfl); (case hg => rfl); (case hr => first | (go_simp; done) | (go_simp; rfl)); intro gb123 hg w12 hbox hb; have n0_ := Aside0.mk (blk_below (g := gb122) (o := .cells #[.string a0_0, .int .i64 a0_1, .slice A0_2 l0_2.length c0_2] 24 (0, 0)) (by (with_reducible repeat (first | refine blk_drewN ?_ _ | refine blk_drew ?_ | refine blk_alloc ?_ _)); exact BK122.out) hb); have n1_ := Aside0.mk (below_step (by repeat (first | (with_reducible first | exact HB.out | apply below_alloc | apply pw_below_drewN | apply below_drew1 | refine below_set ?_ GE122.out) | exact HB.out)) hb); have n2_ := Aside0.mk (hbox); have n3_ := Aside0.mk ((by rw [hg]; exact (below_size (by repeat (first | (with_reducible first | exact HB.out | apply below_alloc | apply pw_below_drewN | apply below_drew1 | refine below_set ?_ GE122.out) | exact HB.out))) : w.heap.size ≤ gb123)); have n4_ := Aside0.mk ((by rw [hg]; exact (below_size (by repeat (first | (with_reducible first | exact HB.out | apply below_alloc | apply pw_below_drewN | apply below_drew1 | refine below_set ?_ GE122.out) | exact HB.out))) : w.heap.size ≤ gb123)); have n5_ := Aside0.mk ((by rw [hg]; exact Nat.ne_of_lt (blk_lt (g := gb122) (o := .cells #[.string a0_0, .int .i64 a0_1, .slice A0_2 l0_2.length c0_2] 24 (0, 0)) (by (with_reducible repeat (first | refine blk_drewN ?_ _ | refine blk_drew ?_ | refine blk_alloc ?_ _)); exact BK122.out)) : gb122 ≠ gb123)); have n6_ := Aside0.mk ((by rw [hg]; exact Nat.ne_of_gt (blk_lt (g := gb122) (o := .cells #[.string a0_0, .int .i64 a0_1, .slice A0_2 l0_2.length c0_2] 24 (0, 0)) (by (with_reducible repeat (first | refine blk_drewN ?_ _ | refine blk_drew ?_ | refine blk_alloc ?_ _)); exact BK122.out)) : gb123 ≠ gb122)); clear BK122; clear HB; have BK122 := n0_; have HB := n1_; have BK123 := n2_; have GW123 := n3_; have GE123 := n4_; have NB122_123 := n5_; have NB123_122 := n6_; clear n0_ n1_ n2_ n3_ n4_ n5_ n6_; clear hb hbox hg; have hnb13 := NB122_123.out; have hnc13 := NB123_122.out; have hcz14_0 : w12.cell? ⟨gb122, 0, none⟩ = some (.string a0_0) := (blk_cell BK122.out 0).trans rfl; have hcz14_1 : w12.cell? ⟨gb122, 1, none⟩ = some (.int .i64 a0_1) := (blk_cell BK122.out 1).trans rfl; have hcz14_2 : w12.cell? ⟨gb122, 2, none⟩ = some (.slice A0_2 l0_2.length c0_2) := (blk_cell BK122.out 2).trans rfl; have hfz14_0 := blk_frozen BK122.out 0; have hfz14_1 := blk_frozen BK122.out 1; have hfz14_2 := blk_frozen BK122.out 2; have hcz15_0 : w12.cell? ⟨gb123, 0, none⟩ = some (.string a1_0) := (blk_cell BK123.out 0).trans rfl; have hcz15_1 : w12.cell? ⟨gb123, 1, none⟩ = some (.int .i64 a1_1) := (blk_cell BK123.out 1).trans rfl; have hcz15_2 : w12.cell? ⟨gb123, 2, none⟩ = some (.slice A1_2 l1_2.length c1_2) := (blk_cell BK123.out 2).trans rfl; have hfz15_0 := blk_frozen BK123.out 0; have hfz15_1 := blk_frozen BK123.out 1; have hfz15_2 := blk_frozen BK123.out 2))
      go_ret
      exact ⟨by first | rfl | (simp [errW_none, errW_some] <;> rfl) | (simp [*, errW_none, errW_some] <;> rfl), by repeat (first | (with_reducible first | exact HB.out | apply below_alloc | apply pw_below_drewN | apply below_drew1 | refine below_set ?_ GE122.out | refine below_set ?_ GE123.out) | exact HB.out)⟩
  · rw [if_neg c3] at H
    have c3b0 : (a0_0.toList == a1_0.toList) = false := beq_eq_false_iff_ne.mpr c3
    have c3b1 : (a0_0.toList != a1_0.toList) = true := bne_iff_ne.mpr c3
    obtain rfl := Option.some.inj H
    go_enter Try.func21, Try.ntmps21
    go_wp2_with (first | ((with_reducible refine gate_dst (N := 2) rfl ?_); refine box_event ?hg (N := 2) ?hd (cs := #[.string a0_0, .int .i64 a0_1, .slice A0_2 l0_2.length c0_2]) (t := 24) ?hr ?_; (case hd => rfl); (case hg => rfl); (case hr => first | (go_simp; done) | (go_simp; rfl)); intro gb122 hg w16 hbox hb; have n0_ := Aside0.mk (below_step (by repeat (first | (with_reducible first | exact HB.out | apply below_alloc | apply pw_below_drewN | apply below_drew1) | exact HB.out)) hb); have n1_ := Aside0.mk (hbox); have n2_ := Aside0.mk ((by rw [hg]; exact (below_size (by repeat (first | (with_reducible first | exact HB.out | apply below_alloc | apply pw_below_drewN | apply below_drew1) | exact HB.out))) : w.heap.size ≤ gb122)); have n3_ := Aside0.mk ((by rw [hg]; exact (below_size (by repeat (first | (with_reducible first | exact HB.out | apply below_alloc | apply pw_below_drewN | apply below_drew1) | exact HB.out))) : w.heap.size ≤ gb122)); clear HB; have HB := n0_; have BK122 := n1_; have GW122 := n2_; have GE122 := n3_; clear n0_ n1_ n2_ n3_; clear hb hbox hg) | ((with_reducible refine gate_dst (N := 3) rfl ?_); refine box_event ?hg (N := 3) ?hd (cs := #[.string a1_0, .int .i64 a1_1, .slice A1_2 l1_2.length c1_2]) (t := 24) ?hr ?_; (case hd => rfl); (case hg => rfl); (case hr => first | (go_simp; done) | (go_simp; rfl)); intro gb123 hg w17 hbox hb; have n0_ := Aside0.mk (blk_below (g := gb122) (o := .cells #[.string a0_0, .int .i64 a0_1, .slice A0_2 l0_2.length c0_2] 24 (0, 0)) (by (with_reducible repeat (first | refine blk_drewN ?_ _ | refine blk_drew ?_ | refine blk_alloc ?_ _)); exact BK122.out) hb); have n1_ := Aside0.mk (below_step (by repeat (first | (with_reducible first | exact HB.out | apply below_alloc | apply pw_below_drewN | apply below_drew1 | refine below_set ?_ GE122.out) | exact HB.out)) hb); have n2_ := Aside0.mk (hbox); have n3_ := Aside0.mk ((by rw [hg]; exact (below_size (by repeat (first | (with_reducible first | exact HB.out | apply below_alloc | apply pw_below_drewN | apply below_drew1 | refine below_set ?_ GE122.out) | exact HB.out))) : w.heap.size ≤ gb123)); have n4_ := Aside0.mk ((by rw [hg]; exact (below_size (by repeat (first | (with_reducible first | exact HB.out | apply below_alloc | apply pw_below_drewN | apply below_drew1 | refine below_set ?_ GE122.out) | exact HB.out))) : w.heap.size ≤ gb123)); have n5_ := Aside0.mk ((by rw [hg]; exact Nat.ne_of_lt (blk_lt (g := gb122) (o := .cells #[.string a0_0, .int .i64 a0_1, .slice A0_2 l0_2.length c0_2] 24 (0, 0)) (by (with_reducible repeat (first | refine blk_drewN ?_ _ | refine blk_drew ?_ | refine blk_alloc ?_ _)); exact BK122.out)) : gb122 ≠ gb123)); have n6_ := Aside0.mk ((by rw [hg]; exact Nat.ne_of_gt (blk_lt (g := gb122) (o := .cells #[.string a0_0, .int .i64 a0_1, .slice A0_2 l0_2.length c0_2] 24 (0, 0)) (by (with_reducible repeat (first | refine blk_drewN ?_ _ | refine blk_drew ?_ | refine blk_alloc ?_ _)); exact BK122.out)) : gb123 ≠ gb122)); clear BK122; clear HB; have BK122 := n0_; have HB := n1_; have BK123 := n2_; have GW123 := n3_; have GE123 := n4_; have NB122_123 := n5_; have NB123_122 := n6_; clear n0_ n1_ n2_ n3_ n4_ n5_ n6_; clear hb hbox hg; have hnb18 := NB122_123.out; have hnc18 := NB123_122.out; have hcz19_0 : w17.cell? ⟨gb122, 0, none⟩ = some (.string a0_0) := (blk_cell BK122.out 0).trans rfl; have hcz19_1 : w17.cell? ⟨gb122, 1, none⟩ = some (.int .i64 a0_1) := (blk_cell BK122.out 1).trans rfl; have hcz19_2 : w17.cell? ⟨gb122, 2, none⟩ = some (.slice A0_2 l0_2.length c0_2) := (blk_cell BK122.out 2).trans rfl; have hfz19_0 := blk_frozen BK122.out 0; have hfz19_1 := blk_frozen BK122.out 1; have hfz19_2 := blk_frozen BK122.out 2; have hcz20_0 : w17.cell? ⟨gb123, 0, none⟩ = some (.string a1_0) := (blk_cell BK123.out 0).trans rfl; have hcz20_1 : w17.cell? ⟨gb123, 1, none⟩ = some (.int .i64 a1_1) := (blk_cell BK123.out 1).trans rfl; have hcz20_2 : w17.cell? ⟨gb123, 2, none⟩ = some (.slice A1_2 l1_2.length c1_2) := (blk_cell BK123.out 2).trans rfl; have hfz20_0 := blk_frozen BK123.out 0; have hfz20_1 := blk_frozen BK123.out 1; have hfz20_2 := blk_frozen BK123.out 2))
    go_ret
    exact ⟨by first | rfl | (simp [errW_none, errW_some] <;> rfl) | (simp [*, errW_none, errW_some] <;> rfl), by repeat (first | (with_reducible first | exact HB.out | apply below_alloc | apply pw_below_drewN | apply below_drew1 | refine below_set ?_ GE122.out | refine below_set ?_ GE123.out) | exact HB.out)⟩
end Go.Proofs.Ytandlemjjlamoaa.P

namespace Go.Proofs.Ytandlemjjlamoaa.P
open Go.RowKit Go.Proofs.YtandlemjjlamoaaW.PrintWords Go.Proofs.YtandlemjjlamoaaW.PrintLast Go.Proofs.YtandlemjjlamoaaW.PrintMore
set_option linter.unusedVariables false
theorem i64V_of {v : SValue} (h : wfValue v) : i64V v := lit_i64 h.2.1
theorem getV_put {x : SValue} (rest : List Int) (hb : i64V x) (h : mayV x = true) : getV (bytesV x ++ rest) = some (x, (bytesV x).length) := by
  have hn := numV_lt hb h
  have hg : getN ((lePut (numV x) ++ bytesOf x.f2) ++ rest) = some (numV x, (lePut (numV x)).length) := by rw [List.append_assoc]; exact getN_put _ _ hn
  have hl : (bytesV x).length = (lePut (numV x)).length + 1 + x.f2.size := by unfold bytesV; simp [bytesOf_length]; omega
  unfold getV
  rw [show bytesV x ++ rest = x.f0 :: ((lePut (numV x) ++ bytesOf x.f2) ++ rest) from rfl]
  simp only [hg]
  have hm := mayV_iff.1 h
  obtain ⟨k, n, s⟩ := x
  rcases hm with ⟨h0, hs⟩ | ⟨h0, hs, h1, h2⟩ | ⟨h0, h1, h2⟩ | ⟨h0, hs, h1, h2⟩
  · replace h0 : k = 0 := h0
    obtain rfl : s = ⟨#[]⟩ := toList_nil hs
    subst h0
    rw [if_pos rfl, hl, show numV ⟨0, n, ⟨#[]⟩⟩ = zigN n from rfl, zag_zig]
    rfl
  · replace h0 : k = 1 := h0
    obtain rfl : s = ⟨#[]⟩ := toList_nil hs
    subst h0
    replace h1 : 0 ≤ n := h1
    replace h2 : n < 2 := h2
    rw [if_neg (show ¬ (1 : Int) = 0 by decide), if_neg (show ¬ (1 : Int) = 2 by decide), hl, show numV ⟨1, n, ⟨#[]⟩⟩ = n.toNat from rfl, if_pos (.inl ⟨rfl, by omega⟩), Int.toNat_of_nonneg h1]
    rfl
  · replace h0 : k = 2 := h0
    replace h1 : n = 0 := h1
    replace h2 : s.size ≤ 40 := h2
    subst h0
    subst h1
    rw [show numV ⟨2, 0, s⟩ = s.size from rfl] at hl ⊢
    rw [if_neg (show ¬ (2 : Int) = 0 by decide), if_pos rfl, if_pos ⟨h2, by simp only [List.length_append, bytesOf_length]; omega⟩, hl]
    have e : ((lePut s.size ++ bytesOf s ++ rest).drop (lePut s.size).length).take s.size = bytesOf s := by
      rw [List.append_assoc, List.drop_left, ← bytesOf_length s, List.take_left]
    show some ((⟨2, 0, strOfNums (((lePut s.size ++ bytesOf s ++ rest).drop (lePut s.size).length).take s.size)⟩ : SValue), _) = _
    rw [e, str_bytesOf]
  · replace h0 : k = 3 := h0
    obtain rfl : s = ⟨#[]⟩ := toList_nil hs
    subst h0
    replace h1 : 0 ≤ n := h1
    replace h2 : n ≤ 1125899906842624 := h2
    rw [if_neg (show ¬ (3 : Int) = 0 by decide), if_neg (show ¬ (3 : Int) = 2 by decide), hl, show numV ⟨3, n, ⟨#[]⟩⟩ = n.toNat from rfl, if_pos (.inr ⟨rfl, by omega⟩), Int.toNat_of_nonneg h1]
    rfl
theorem getV_take {l : List Int} {x : SValue} {n : Nat} (hb : byteL l) (h : getV l = some (x, n)) : l.take n = bytesV x := by
  unfold getV at h
  cases l with
  | nil => simp at h
  | cons k r =>
    have hbr : byteL r := fun c hc => hb c (by simp [hc])
    cases hg : getN r with
    | none => simp only [hg] at h; simp at h
    | some p =>
      obtain ⟨m, u⟩ := p
      obtain ⟨hm, hu, ht⟩ := getN_some hbr hg
      simp only [hg] at h
      by_cases h0 : k = 0
      · rw [if_pos h0] at h
        simp only [Option.some.injEq, Prod.mk.injEq] at h
        obtain ⟨rfl, rfl⟩ := h
        subst h0
        rw [List.take_succ_cons, ht]
        show 0 :: lePut m = 0 :: (lePut (zigN (zagN m)) ++ bytesOf ⟨#[]⟩)
        rw [zig_zag, bytesOf_nil, List.append_nil]
      · rw [if_neg h0] at h
        by_cases h2 : k = 2
        · rw [if_pos h2] at h
          by_cases h3 : m ≤ 40 ∧ m ≤ r.length - u
          · rw [if_pos h3] at h
            simp only [Option.some.injEq, Prod.mk.injEq] at h
            obtain ⟨rfl, rfl⟩ := h
            subst h2
            have hby := byteL_take (byteL_drop hbr u) m
            have hs : (strOfNums ((r.drop u).take m)).size = m := by rw [strOfNums_size, List.length_take, List.length_drop]; omega
            rw [show u + 1 + m = (u + m) + 1 from by omega, List.take_succ_cons, List.take_add, ht]
            unfold bytesV
            rw [show numV ⟨2, 0, strOfNums ((r.drop u).take m)⟩ = (strOfNums ((r.drop u).take m)).size from rfl, hs, bytesOf_str hby]
          · rw [if_neg h3] at h; simp at h
        · rw [if_neg h2] at h
          by_cases h3 : (k = 1 ∧ m < 2) ∨ (k = 3 ∧ m ≤ 1125899906842624)
          · rw [if_pos h3] at h
            simp only [Option.some.injEq, Prod.mk.injEq] at h
            obtain ⟨rfl, rfl⟩ := h
            rw [List.take_succ_cons, ht]
            have e : numV ⟨k, (m : Int), ⟨#[]⟩⟩ = m := by
              unfold numV
              rw [if_neg h0, if_neg h2]
              exact Int.toNat_natCast m
            unfold bytesV
            rw [e, bytesOf_nil, List.append_nil]
          · rw [if_neg h3] at h; simp at h
theorem bytesV_byte {x : SValue} (h : mayV x = true) : byteL (bytesV x) := by
  intro c hc
  unfold bytesV at hc
  rcases List.mem_cons.1 hc with rfl | hc
  · rcases mayV_iff.1 h with ⟨h, _⟩ | ⟨h, _⟩ | ⟨h, _⟩ | ⟨h, _⟩ <;> omega
  · exact byteL_append (lePut_byte _) (bytesOf_byte _) c hc
theorem valsL_byte {l : List SValue} (h : ∀ v ∈ l, mayV v = true) : byteL (valsL l) := by
  intro c hc
  unfold valsL at hc
  obtain ⟨b, hb, hcb⟩ := List.mem_flatten.1 hc
  obtain ⟨v, hv, rfl⟩ := List.mem_map.1 hb
  exact bytesV_byte (h v hv) c hcb
theorem valsL_len : ∀ {l : List SValue}, (∀ v ∈ l, i64V v) → (∀ v ∈ l, mayV v = true) → (valsL l).length ≤ 51 * l.length
  | [], _, _ => by simp [valsL]
  | v :: l, h, h2 => by
    have ih := valsL_len (l := l) (fun v hv => h v (by simp [hv])) (fun v hv => h2 v (by simp [hv]))
    have := bytesV_len (h v (by simp)) (h2 v (by simp))
    have e : valsL (v :: l) = bytesV v ++ valsL l := rfl
    rw [e, List.length_append, List.length_cons]
    omega
theorem getVs_put : ∀ (F : List SValue) (rest : List Int), (∀ v ∈ F, i64V v) → (∀ v ∈ F, mayV v = true) → getVs F.length (valsL F ++ rest) = some (F, (valsL F).length)
  | [], rest, _, _ => by simp [getVs, valsL]
  | v :: F, rest, h, h2 => by
    have e : valsL (v :: F) ++ rest = bytesV v ++ (valsL F ++ rest) := by simp [valsL]
    have e2 : (valsL (v :: F)).length = (bytesV v).length + (valsL F).length := by simp [valsL]
    rw [List.length_cons, getVs, e, getV_put _ (h v (by simp)) (h2 v (by simp))]
    simp only [List.drop_left]
    rw [getVs_put F rest (fun w hw => h w (by simp [hw])) (fun w hw => h2 w (by simp [hw]))]
    simp only [e2]
theorem getVs_take : ∀ (m : Nat) (l : List Int) (F : List SValue) (v : Nat), byteL l → getVs m l = some (F, v) → l.take v = valsL F ∧ v ≤ l.length ∧ F.length = m ∧ ∀ x ∈ F, i64V x
  | 0, l, F, v, _, h => by
    simp only [getVs, Option.some.injEq, Prod.mk.injEq] at h
    obtain ⟨rfl, rfl⟩ := h
    simp [valsL]
  | m + 1, l, F, v, hb, h => by
    rw [getVs] at h
    cases hg : getV l with
    | none => rw [hg] at h; simp at h
    | some p =>
      obtain ⟨x, n⟩ := p
      rw [hg] at h
      simp only at h
      cases hv : getVs m (l.drop n) with
      | none => rw [hv] at h; simp at h
      | some q =>
        obtain ⟨xs, k⟩ := q
        rw [hv] at h
        simp only [Option.some.injEq, Prod.mk.injEq] at h
        obtain ⟨rfl, rfl⟩ := h
        obtain ⟨h1, h2, h3, h4⟩ := getVs_take m _ xs k (byteL_drop hb n) hv
        obtain ⟨h5, h6, _⟩ := getV_i64 hb hg
        have h7 := getV_take hb hg
        rw [List.length_drop] at h2
        refine ⟨?_, by omega, by simp [h3], fun y hy => ?_⟩
        · rw [take_add' h7 h1]; rfl
        · rcases List.mem_cons.1 hy with rfl | hy
          · exact h5
          · exact h4 y hy
theorem getRawE_put {x : SEvent} (rest : List Int) (hw : ∀ v ∈ x.f2, i64V v) (h : mayE x = true) : getRawE (bytesE x ++ rest) = some (x, (bytesE x).length) := by
  obtain ⟨hn, h1, h2, h3, h4⟩ := mayE_iff.1 h
  obtain ⟨vn, hv⟩ := Int.eq_ofNat_of_zero_le h1
  have e : bytesE x ++ rest = textL x.f0 ++ (lePut vn ++ (lePut x.f2.length ++ (valsL x.f2 ++ rest))) := by simp [bytesE, hv]
  have hlen : (bytesE x).length = (textL x.f0).length + (lePut vn).length + (lePut x.f2.length).length + (valsL x.f2).length := by simp [bytesE, hv]; omega
  have hd1 : (bytesE x ++ rest).drop (textL x.f0).length = lePut vn ++ (lePut x.f2.length ++ (valsL x.f2 ++ rest)) := by rw [e, List.drop_left]
  have hd2 : (bytesE x ++ rest).drop ((textL x.f0).length + (lePut vn).length) = lePut x.f2.length ++ (valsL x.f2 ++ rest) := by rw [← List.drop_drop, hd1, List.drop_left]
  have hd3 : (bytesE x ++ rest).drop ((textL x.f0).length + (lePut vn).length + (lePut x.f2.length).length) = valsL x.f2 ++ rest := by rw [← List.drop_drop, hd2, List.drop_left]
  unfold getRawE
  rw [show readT (bytesE x ++ rest) 12 = some (bytesOf x.f0, (textL x.f0).length) from by rw [e]; exact readT_put _ (nameB_size hn).2 (by decide)]
  simp only
  unfold contT
  rw [hd1, getM_put _ (by omega) (by decide)]
  simp only
  unfold contN
  rw [hd2, getM_put _ h3 (by decide)]
  simp only
  unfold contE
  rw [hd3, getVs_put x.f2 rest hw h4]
  simp only [List.nil_append, str_bytesOf, hlen, Option.some.injEq, Prod.mk.injEq]
  refine ⟨?_, trivial⟩
  cases x
  simp at hv ⊢
  exact hv.symm
theorem getE_put {x : SEvent} (rest : List Int) (hw : ∀ v ∈ x.f2, i64V v) (h : mayE x = true) : getE (bytesE x ++ rest) = some (x, (bytesE x).length) := by
  unfold getE
  rw [getRawE_put rest hw h]
  simp only
  rw [if_pos h]
theorem getE_take {l : List Int} {x : SEvent} {n : Nat} (hb : byteL l) (h : getE l = some (x, n)) : mayE x = true ∧ n ≤ l.length ∧ l.take n = bytesE x ∧ ∀ v ∈ x.f2, i64V v := by
  unfold getE at h
  cases hr : getRawE l with
  | none => rw [hr] at h; simp at h
  | some p =>
    obtain ⟨s, k⟩ := p
    rw [hr] at h
    simp only at h
    by_cases hm : mayE s = true
    · rw [if_pos hm] at h
      simp only [Option.some.injEq, Prod.mk.injEq] at h
      obtain ⟨rfl, rfl⟩ := h
      refine ⟨hm, ?_⟩
      unfold getRawE at hr
      cases hg : readT l 12 with
      | none => rw [hg] at hr; simp at hr
      | some p =>
        obtain ⟨t, u⟩ := p
        rw [hg] at hr
        simp only at hr
        unfold contT at hr
        cases hv : getM (l.drop u) 1125899906842624 with
        | none => rw [hv] at hr; simp at hr
        | some q =>
          obtain ⟨ver, v⟩ := q
          rw [hv] at hr
          simp only at hr
          unfold contN at hr
          cases hmm : getM (l.drop (u + v)) 6 with
          | none => rw [hmm] at hr; simp at hr
          | some r =>
            obtain ⟨many, y⟩ := r
            rw [hmm] at hr
            simp only at hr
            unfold contE at hr
            cases hf : getVs many (l.drop (u + v + y)) with
            | none => rw [hf] at hr; simp at hr
            | some s2 =>
              obtain ⟨gs, z⟩ := s2
              rw [hf] at hr
              simp only [List.nil_append, Option.some.injEq, Prod.mk.injEq] at hr
              obtain ⟨rfl, rfl⟩ := hr
              obtain ⟨h1, h2, h3, h4⟩ := getVs_take many _ gs z (byteL_drop hb _) hf
              have e1 := (readT_take hb hg).2
              have e2 := (getM_take (byteL_drop hb _) hv).1
              have e3 := (getM_take (byteL_drop hb _) hmm).1
              rw [List.length_drop] at h2
              have h5 := (getM_used hmm).2.2
              rw [List.length_drop] at h5
              have h6 := (getM_used hv).2.2
              rw [List.length_drop] at h6
              have h7 := (readT_used hg).1
              refine ⟨by omega, ?_, h4⟩
              rw [take_add' (take_add' (take_add' e1 e2) e3) h1]
              simp [bytesE, h3]
    · rw [if_neg hm] at h; simp at h
theorem bytesE_byte {x : SEvent} (h : mayE x = true) : byteL (bytesE x) := by
  obtain ⟨_, _, _, _, h4⟩ := mayE_iff.1 h
  exact byteL_append (byteL_append (byteL_append (byteL_append (lePut_byte _) (bytesOf_byte _)) (lePut_byte _)) (lePut_byte _)) (valsL_byte h4)
theorem bytesE_len {x : SEvent} (hw : ∀ v ∈ x.f2, i64V v) (h : mayE x = true) : (bytesE x).length ≤ 400 := by
  obtain ⟨hn, h1, h2, h3, h4⟩ := mayE_iff.1 h
  have hs := (nameB_size hn).2
  have hlt := textL_small hs
  have hl1 := lePut_len (n := x.f1.toNat) (by omega)
  have hl2 := lePut_short (n := x.f2.length) (by omega)
  have hl3 := valsL_len hw h4
  unfold bytesE
  simp only [List.length_append]
  omega
def eqV (x y : SValue) : Bool := (x.f0 == y.f0) && ((x.f1 == y.f1) && (x.f2.toList == y.f2.toList))
theorem eqV_iff {x y : SValue} : eqV x y = true ↔ x = y := by
  unfold eqV
  simp only [Bool.and_eq_true, beq_iff_eq]
  constructor
  · rintro ⟨h1, h2, h3⟩
    obtain ⟨a, b, c⟩ := x
    obtain ⟨d, e, f⟩ := y
    obtain rfl : a = d := h1
    obtain rfl : b = e := h2
    obtain rfl : c = f := toList_inj h3
    rfl
  · rintro rfl
    exact ⟨rfl, rfl, rfl⟩
def eqE (x y : SEvent) : Bool := (x.f0.toList == y.f0.toList) && ((x.f1 == y.f1) && eqf eqV zValue x.f2 y.f2)
theorem eqfV_iff {a b : List SValue} : eqf eqV zValue a b = true ↔ a = b := by
  rw [eqf_iff]
  constructor
  · rintro ⟨h1, h2⟩
    refine List.ext_getElem h1 (fun i hi hj => ?_)
    have := eqV_iff.1 (h2 i hi)
    simpa [List.getD, hi, hj] using this
  · rintro rfl
    exact ⟨rfl, fun i _ => eqV_iff.2 rfl⟩
theorem eqE_iff {x y : SEvent} : eqE x y = true ↔ x = y := by
  unfold eqE
  simp only [Bool.and_eq_true, beq_iff_eq, eqfV_iff]
  constructor
  · rintro ⟨h1, h2, h3⟩
    obtain ⟨a, b, c⟩ := x
    obtain ⟨d, e, f⟩ := y
    obtain rfl : a = d := toList_inj h1
    obtain rfl : b = e := h2
    obtain rfl : c = f := h3
    rfl
  · rintro rfl
    exact ⟨rfl, rfl, rfl⟩
theorem eqE_refl (x : SEvent) : eqE x x = true := eqE_iff.2 rfl
theorem neV {x y : SValue} : (!(x.f0 == y.f0) || (!(x.f1 == y.f1) || !(x.f2.toList == y.f2.toList))) = !(eqV x y) := by
  unfold eqV
  cases (x.f0 == y.f0) <;> cases (x.f1 == y.f1) <;> cases (x.f2.toList == y.f2.toList) <;> rfl
theorem equalV_loop (a b : List SValue) (hl : a.length ≤ 9223372036854775807) (he : a.length = b.length) : ∀ (d i k : Nat), i + d = a.length → d < k → (∀ j, j < i → eqV (a.getD j zValue) (b.getD j zValue) = true) → slices_Equal_api_Value.l0 k a b (a.length : Int) (i : Int) = some (eqf eqV zValue a b) := by
  intro d
  induction d with
  | zero =>
    intro i k hi hk hj
    obtain ⟨k, rfl⟩ := rounds_of hk
    simp only [slices_Equal_api_Value.l0]
    rw [if_neg (by omega), eqf_all he (fun j h => hj j (by omega))]
  | succ d ih =>
    intro i k hi hk hj
    obtain ⟨k, rfl⟩ := rounds_of hk
    simp only [slices_Equal_api_Value.l0]
    rw [if_pos (by omega), if_pos (by omega), if_pos (by omega), if_pos (by omega), show rd_TValue a (i : Int) = a.getD i zValue from rfl, show rd_TValue b (i : Int) = b.getD i zValue from rfl, neV]
    cases hq : eqV (a.getD i zValue) (b.getD i zValue) with
    | true =>
      rw [if_neg (by simp), wrap_succ (by omega)]
      exact ih (i + 1) k (by omega) (by omega) (all_next hj hq)
    | false => rw [if_pos (by simp), eqf_hit i (by omega) hq]
theorem equalV_is (a b : List SValue) (hl : a.length ≤ 9223372036854775807) {k : Nat} (hk : a.length < k) : slices_Equal_api_Value.f k a b = some (eqf eqV zValue a b) := by
  unfold slices_Equal_api_Value.f
  by_cases he : a.length = b.length
  · rw [if_pos (by omega)]
    exact equalV_loop a b hl he a.length 0 k (by omega) hk (fun j h => by omega)
  · rw [if_neg (by omega), eqf_len he]
theorem sameE_is (x y : SEvent) (hl : x.f2.length ≤ 9223372036854775807) {k : Nat} (hk : x.f2.length < k) : event_Same.f k x.f0 x.f1 x.f2 y.f0 y.f1 y.f2 = some (eqE x y) := by
  unfold event_Same.f eqE
  by_cases h1 : x.f0.toList = y.f0.toList
  · rw [if_pos h1]
    by_cases h2 : x.f1 = y.f1
    · rw [if_pos h2, equalV_is _ _ hl hk, h1, h2]
      simp
    · rw [if_neg h2]; simp [h2]
  · rw [if_neg h1]; simp [h1]
theorem sameE_told (x y : SEvent) (A0 : Option Addr) (c0 : Nat) (A1 : Option Addr) (c1 : Nat) (w : World) (hr0 : Kd.C kValue w A0 x.f2.length x.f2) (hc0 : x.f2.length ≤ c0) (hr1 : Kd.C kValue w A1 y.f2.length y.f2) (hc1 : y.f2.length ≤ c1) {b : Bool} (hb : eqE x y = b) :
    Calls Try.prog 21 #[.agg #[.string x.f0, .int .i64 x.f1, .slice A0 x.f2.length c0], .agg #[.string y.f0, .int .i64 y.f1, .slice A1 y.f2.length c1]] w (boolPost b w) := by
  subst hb
  exact event_Same.calls (x.f2.length + 1) _ _ _ _ _ _ _ _ _ _ (eqE x y) w hr0 hc0 hr1 hc1 (sameE_is x y hr0.2.1 (by omega))
theorem few6_loop (nm : ByteArray) (tm : Int) (l : List SValue) (hl : l.length ≤ 10) : ∀ (d i k : Nat), i + d = l.length → d < k → ∃ b, towncrierlaw06_Few.l0 k (i : Int) nm tm l = some b := by
  intro d
  induction d with
  | zero =>
    intro i k hi hk
    obtain ⟨k, rfl⟩ := rounds_of hk
    exact ⟨true, by simp only [towncrierlaw06_Few.l0]; rw [if_neg (by omega)]⟩
  | succ d ih =>
    intro i k hi hk
    obtain ⟨k, rfl⟩ := rounds_of hk
    simp only [towncrierlaw06_Few.l0]
    rw [if_pos (by omega), if_pos (by omega)]
    split
    · exact ⟨false, rfl⟩
    · rw [wrap_succ (by omega)]
      exact ih (i + 1) k (by omega) (by omega)
theorem few6_some (nm : ByteArray) (tm : Int) (l : List SValue) {k : Nat} (hk : 20 ≤ k) : ∃ b, towncrierlaw06_Few.f k nm tm l = some b ∧ (b = true → l.length ≤ 10) := by
  obtain ⟨k, rfl⟩ : ∃ m, k = m + 1 := ⟨k - 1, by omega⟩
  unfold towncrierlaw06_Few.f
  by_cases h1 : (nm.size : Int) > 60
  · rw [if_pos h1]
    exact ⟨false, by simp [towncrierlaw06_Few.j0], fun h => by cases h⟩
  · rw [if_neg h1]
    by_cases h2 : l.length ≤ 10
    · rw [decide_eq_false (show ¬ (l.length : Int) > 10 by omega)]
      simp only [towncrierlaw06_Few.j0]
      rw [if_neg (by simp)]
      obtain ⟨b, hb⟩ := few6_loop nm tm l h2 l.length 0 k (by omega) (by omega)
      exact ⟨b, hb, fun _ => h2⟩
    · rw [decide_eq_true (show (l.length : Int) > 10 by omega)]
      exact ⟨false, by simp [towncrierlaw06_Few.j0], fun h => by cases h⟩
theorem few6_told (x : SEvent) : ∃ b, (b = true → x.f2.length ≤ 10) ∧ ∀ (A : Option Addr) (c : Nat) (w : World), Kd.C kValue w A x.f2.length x.f2 → x.f2.length ≤ c → Calls Try.prog 10 #[.agg #[.string x.f0, .int .i64 x.f1, .slice A x.f2.length c]] w (boolPost b w) := by
  obtain ⟨b, h1, h2⟩ := few6_some x.f0 x.f1 x.f2 (k := 20) (by decide)
  exact ⟨b, h2, fun A c w hr hc => towncrierlaw06_Few.calls 20 x.f0 x.f1 A c x.f2 b w hr hc h1⟩
end Go.Proofs.Ytandlemjjlamoaa.P

namespace Go.Proofs.Ytandlemjjlamoaa.P
open Go.RowKit Go.Proofs.YtandlemjjlamoaaW.PrintWords Go.Proofs.YtandlemjjlamoaaW.PrintLast Go.Proofs.YtandlemjjlamoaaW.PrintMore
set_option linter.unusedVariables false
theorem wfE_vals {x : SEvent} (h : wfEvent x) : ∀ v ∈ x.f2, i64V v := fun v hv => i64V_of (h.2.2.2 v hv)
theorem wfE_few {x : SEvent} (h : wfEvent x) : x.f2.length < 4611686018427387904 := by have := h.2.2.1; omega
theorem lit_byte {l : List Int} (h : ∀ y ∈ l, (Lit.int .u8 y).wf = true) : byteL l := by
  intro c hc
  have h2 := h c hc
  have e1 : IntKind.min .u8 = 0 := rfl
  have e2 : IntKind.max .u8 = 255 := rfl
  simp only [Lit.wf, Bool.and_eq_true, decide_eq_true_eq, e1, e2] at h2
  omega
theorem gotE_some {l : List Int} {x : SEvent} {n : Nat} (h : getE l = some (x, n)) : gotE (getE l) = (x, n, true) := by rw [h]; rfl
theorem evGet_told {l : List Int} {x : SEvent} {m n : Nat} {b : Bool} (hq : gotE (getE l) = (x, m, b)) (hn : l.length = n) (w : World) (A : Option Addr) (c : Nat) (hr : Kd.C (Kd.int .u8) w A n l) (hc : n ≤ c) (hb : byteL l) (hl : n < 4611686018427387904) :
    Calls Try.prog 12 #[.slice A n c] w (evPost3 x m b w) := by
  subst hn
  exact event_Get.told w A c l hr hc hb hl hq
def exE : SEvent := ⟨⟨#[97]⟩, 5, []⟩
def exS6 : SSchema := ⟨⟨#[97]⟩, 1, []⟩
theorem exE_may : mayE exE = true := by decide +kernel
theorem exE_vals : ∀ v ∈ exE.f2, i64V v := fun _ h => by cases h
theorem exE_bytes : bytesE exE = [1, 97, 5, 0] := by
  unfold bytesE textL
  rw [show exE.f0.size = 1 from rfl, show exE.f1 = 5 from rfl, show exE.f2 = [] from rfl, lePut_small (by decide), show (5 : Int).toNat = 5 from rfl, show ([] : List SValue).length = 0 from rfl, lePut_small (by decide), lePut_small (by decide)]
  decide +kernel
theorem exE_get : getE [1, 97, 5, 0] = some (exE, 4) := by
  have h := getE_put (x := exE) [] exE_vals exE_may
  rw [List.append_nil, exE_bytes] at h
  exact h
theorem exE_valid : validE exS6 exE = 0 := by decide +kernel
set_option maxHeartbeats 2000000 in
set_option maxRecDepth 100000 in
theorem awake6_told (w : World) : Calls Try.prog 9 #[] w (boolPost true w) := by
  have hex0 : exE.f0.toList = [97] := by decide +kernel
  have HPUT := Aside0.mk (fun (W : World) => event_Put.told exE none 0 W (Kd.C_nil _ _) (Nat.le_refl _) exE_vals exE_may ((if_pos rfl).trans exE_bytes))
  go_enter Try.func9, Try.ntmps9
  go_wp2_with (first
    | (go_at_call 11; refine (HPUT.out _).mono ?_; rintro e w1 ⟨v1, rfl, ho1, hb1⟩; obtain ⟨A1, c1, hv1, hc1, hr1⟩ := Own8.reads ho1; subst hv1; have HR1 := Aside0.mk hr1; have HC1 := Aside0.mk hc1; clear ho1 hr1 hc1)
    | (go_at_call 12; refine (evGet_told (gotE_some exE_get) rfl _ A1 c1 HR1.out HC1.out (by decide) (by decide)).mono ?_; rintro e w2 ⟨A2, c2, ⟨rfl, hc2, hr2⟩, hb2⟩; have HR2 := Aside0.mk (Kd.C_below HR1.out hb2); have HE2 := Aside0.mk hr2; have HEC := Aside0.mk hc2; have HK2 := Aside0.mk (blk_new w2 (.cells #[.string exE.f0, .int .i64 exE.f1, .slice A2 exE.f2.length c2] 24)); obtain ⟨ad2, e2, hx2⟩ := Kd.at_int (Kd.C_alloc HR2.out (.cells #[.string exE.f0, .int .i64 exE.f1, .slice A2 exE.f2.length c2] 24)) 2 (by decide) (by decide); cases e2; have hx20 : (w2.alloc (.cells #[.string exE.f0, .int .i64 exE.f1, .slice A2 exE.f2.length c2] 24)).cell? ⟨ad2.block, ad2.off + 2, none⟩ = some (.int .u8 5) := hx2; clear hx2 hr2 hc2)
    | (go_at_call 13; refine (event_Valid.told exS6 exE none 0 A2 c2 _ (Kd.C_nil _ _) (Nat.le_refl _) (Kd.C_below HE2.out (below_alloc (Below.refl _ _) _)) HEC.out exE_vals exE_valid).mono ?_; rintro e w3 ⟨rfl, hb3⟩; have HK3 := Aside0.mk (blk_below HK2.out hb3); obtain ⟨k31, _, _, _⟩ := know HK3.out; have HB3 := Aside0.mk hb3; clear hb3)
    | (go_at_call 15; refine (event_May.told exE A2 c2 _ (Kd.C_below HE2.out (below_step (below_alloc (Below.refl _ _) _) HB3.out)) HEC.out exE_vals exE_may).mono ?_; rintro e w4 ⟨rfl, hb4⟩))
  go_ret
  exact ⟨rfl, below_step (below_step (below_alloc (below_step hb1 hb2) _) HB3.out) hb4⟩
end Go.Proofs.Ytandlemjjlamoaa.P

namespace Go.Proofs.Ytandlemjjlamoaa.P
open Go.RowKit Go.Proofs.YtandlemjjlamoaaW.PrintWords Go.Proofs.YtandlemjjlamoaaW.PrintLast Go.Proofs.YtandlemjjlamoaaW.PrintMore
attribute [local go_sem] max2_int min2_int max_two min_two max_three min_three max_four min_four   -- for this text's walks alone
set_option linter.unusedVariables false
set_option linter.unusedSimpArgs false
theorem openArg0_EventBack : Opens Try.prog 24 kEvent wfEvent := openEvent
theorem openArg1_EventBack : Opens Try.prog 27 (Kd.slice 5 (Kd.int .u8)) (fun x_ : List Int => x_.length * 1 ≤ 140737488351232 ∧ ∀ y_ ∈ x_, (Lit.int .u8 y_).wf = true) := (opens_slice Try.underlying27 (opens_int Try.underlying5) (by kernel_rfl) (by kernel_rfl))
def EventBack.Stmt : Prop := ∀ (W : World) (x0 : SEvent) (cs0 : List Value) (K0 : kEvent.K W x0 cs0) (w0 : wfEvent x0) (x1 : List Int) (A1 : Option Addr) (c1 : Nat) (hc1 : x1.length ≤ c1) (hr1 : Kd.C (Kd.int .u8) W A1 x1.length x1) (w1 : x1.length * 1 ≤ 140737488351232 ∧ ∀ y_ ∈ x1, (Lit.int .u8 y_).wf = true),
    Calls Try.prog 6 #[.agg cs0.toArray, .slice A1 x1.length c1] W fun e w' => e = .returned (.bool true) ∧ Below W.heap.size W w'
end Go.Proofs.Ytandlemjjlamoaa.P

namespace Go.Proofs.Ytandlemjjlamoaa.P
open Go.RowKit Go.Proofs.YtandlemjjlamoaaW.PrintWords Go.Proofs.YtandlemjjlamoaaW.PrintLast Go.Proofs.YtandlemjjlamoaaW.PrintMore
set_option linter.unusedVariables false
set_option linter.unusedSimpArgs false
theorem gotE_false {l : List Int} {v : SEvent} {n : Nat} (h : gotE (getE l) = (v, n, false)) : v = ⟨⟨#[]⟩, 0, []⟩ ∧ n = 0 := by
  cases hg : getE l with
  | none => rw [hg] at h; simp only [gotE, Prod.mk.injEq] at h; exact ⟨h.1.symm, h.2.1.symm⟩
  | some p => obtain ⟨x, k⟩ := p; rw [hg] at h; simp [gotE] at h
theorem gotE_true {l : List Int} {v : SEvent} {n : Nat} (h : gotE (getE l) = (v, n, true)) : getE l = some (v, n) := by
  cases hg : getE l with
  | none => rw [hg] at h; simp [gotE] at h
  | some p => obtain ⟨x, k⟩ := p; rw [hg] at h; simp only [gotE, Prod.mk.injEq] at h; rw [h.1, h.2.1]
set_option maxHeartbeats 40000000 in
set_option maxRecDepth 100000 in
theorem EventBack.walk : EventBack.Stmt := by
  intro W x0 cs0 K0 w0 x1 A1 c1 hc1 hr1 w1
  obtain ⟨A0, c0, rfl, hc0, hr0⟩ := kEvent_open K0
  have HR0 := Aside0.mk hr0
  have HC0 := Aside0.mk hc0
  have HR1 := Aside0.mk hr1
  have HC1 := Aside0.mk hc1
  have HV0 := Aside0.mk (wfE_vals w0)
  have HL0 := Aside0.mk (wfE_few w0)
  obtain ⟨p, hp10, hpC⟩ := few6_told x0
  have HPC := Aside0.mk hpC
  have HBY := Aside0.mk (lit_byte w1.2)
  have infoU8_ := info5
  clear hr0 hc0 w0 w1 hpC hp10 K0 hr1 hc1
  by_cases hgo : p = true ∧ x1.length ≤ 400
  · obtain ⟨rfl, h400⟩ := hgo
    obtain ⟨m, hm⟩ : ∃ m, mayE x0 = m := ⟨_, rfl⟩
    have HM := Aside0.mk hm
    obtain ⟨P, hP⟩ : ∃ P, (if m then bytesE x0 else []) = P := ⟨_, rfl⟩
    have HPP := Aside0.mk hP
    obtain ⟨v, n, b, hg⟩ : ∃ v n b, gotE (getE x1) = (v, n, b) := ⟨_, _, _, rfl⟩
    have HG := Aside0.mk hg
    clear hg
    cases m with
    | false =>
      clear hP hm
      go_enter Try.func6, Try.ntmps6
      go_wp2_with fail
      go_at_call 9
      refine (awake6_told _).mono ?_
      rintro e w1_ ⟨rfl, hb1_⟩
      have HB1_ := Aside0.mk (below_step (below_alloc (Below.refl _ _) _) hb1_)
      have HKx01_ := Aside0.mk (blk_below (blk_new _ _) hb1_)
      obtain ⟨kx01a_, kx01b_, kx01c_, kx01d_⟩ := know HKx01_.out
      clear hb1_
      go_wp2_with fail
      go_at_call_of 10 (Value.agg #[.string x0.f0, .int .i64 x0.f1, .slice A0 x0.f2.length c0])
      refine (HPC.out A0 c0 _ (Kd.C_below HR0.out (HB1_.out)) HC0.out).mono ?_
      rintro e w2_ ⟨rfl, hb2_⟩
      have HB2_ := Aside0.mk (below_step (HB1_.out) hb2_)
      have HKx02_ := Aside0.mk (blk_below (HKx01_.out) hb2_)
      obtain ⟨kx02a_, kx02b_, kx02c_, kx02d_⟩ := know HKx02_.out
      clear kx01a_ kx01b_ kx01c_ kx01d_
      clear hb2_
      go_wp2_with fail
      go_at_call 11
      refine (event_Put.told x0 A0 c0 _ (Kd.C_below HR0.out (HB2_.out)) HC0.out HV0.out HM.out HPP.out).mono ?_
      rintro e w3_ ⟨v3_, rfl, ho3_, hb3_⟩
      have HB3_ := Aside0.mk (below_step (HB2_.out) hb3_)
      have HKx03_ := Aside0.mk (blk_below (HKx02_.out) hb3_)
      obtain ⟨kx03a_, kx03b_, kx03c_, kx03d_⟩ := know HKx03_.out
      clear kx02a_ kx02b_ kx02c_ kx02d_
      clear hb3_
      obtain ⟨A3_, c3_, hv3_, hq3_, hp3_⟩ := Own8.reads ho3_
      subst hv3_
      have HP3_ := Aside0.mk hp3_
      have HQ3_ := Aside0.mk hq3_
      clear ho3_ hp3_ hq3_
      go_wp2_with fail
      go_at_call 15
      refine (event_May.told x0 A0 c0 _ (Kd.C_below HR0.out (HB3_.out)) HC0.out HV0.out HM.out).mono ?_
      rintro e w4_ ⟨rfl, hb4_⟩
      have HB4_ := Aside0.mk (below_step (HB3_.out) hb4_)
      have HKx04_ := Aside0.mk (blk_below (HKx03_.out) hb4_)
      obtain ⟨kx04a_, kx04b_, kx04c_, kx04d_⟩ := know HKx04_.out
      clear kx03a_ kx03b_ kx03c_ kx03d_
      have HRp4_ := Aside0.mk (Kd.C_below (HP3_.out) hb4_)
      clear hb4_
      go_wp2_with fail
      go_at_call 12
      refine (evGet_told HG.out rfl _ A1 c1 (Kd.C_below HR1.out (HB4_.out)) HC1.out HBY.out (by omega)).mono ?_
      rintro e w5_ ⟨A5_, c5_, ⟨rfl, hg5_, hh5_⟩, hb5_⟩
      have HB5_ := Aside0.mk (below_step (HB4_.out) hb5_)
      have HKx05_ := Aside0.mk (blk_below (HKx04_.out) hb5_)
      obtain ⟨kx05a_, kx05b_, kx05c_, kx05d_⟩ := know HKx05_.out
      clear kx04a_ kx04b_ kx04c_ kx04d_
      clear hb5_
      have HG5_ := Aside0.mk hg5_
      have HH5_ := Aside0.mk hh5_
      clear hg5_ hh5_
      cases b with
      | false =>
        obtain ⟨rfl, rfl⟩ := gotE_false HG.out
        go_wp2_with fail
        go_ret
        exact ⟨by simp, below_alloc HB5_.out _⟩
      | true =>
        obtain ⟨hmv, hnl, htk, hvv⟩ := getE_take HBY.out (gotE_true HG.out)
        have HMV := Aside0.mk hmv
        have HVV := Aside0.mk hvv
        obtain ⟨i0, hi0, _, hsz0, _⟩ := info_parts info5
        obtain ⟨hcut, hcC⟩ := take_row (P := Try.prog) (d := Kd.int .u8) Try.underlying27 hi0 A1 c1 x1 n (n : Int) rfl hnl HC1.out
        have HPV : Aside0 ((if true then bytesE v else []) = x1.take n) := ⟨by rw [htk]; rfl⟩
        have HCC := Aside0.mk hcC
        have hc1 := HC1.out
        clear hmv htk hvv hcC
        go_wp2_with fail
        go_at_call 11
        refine (event_Put.told v A5_ c5_ _ (Kd.C_alloc (HH5_.out) _) HG5_.out HVV.out HMV.out HPV.out).mono ?_
        rintro e w6_ ⟨v6_, rfl, ho6_, hb6_⟩
        have HB6_ := Aside0.mk (below_step (below_alloc (HB5_.out) _) hb6_)
        have HKx06_ := Aside0.mk (blk_below (blk_alloc (HKx05_.out) _) hb6_)
        obtain ⟨kx06a_, kx06b_, kx06c_, kx06d_⟩ := know HKx06_.out
        have HKv6_ := Aside0.mk (blk_below (blk_new _ _) hb6_)
        obtain ⟨kv6a_, kv6b_, kv6c_, kv6d_⟩ := know HKv6_.out
        clear kx05a_ kx05b_ kx05c_ kx05d_
        have HRv6_ := Aside0.mk (Kd.C_below (Kd.C_alloc (HH5_.out) _) hb6_)
        clear hb6_
        obtain ⟨A6_, c6_, hv6_, hq6_, hp6_⟩ := Own8.reads ho6_
        subst hv6_
        have HP6_ := Aside0.mk hp6_
        have HQ6_ := Aside0.mk hq6_
        clear ho6_ hp6_ hq6_
        go_wp2_with fail
        have hs1 := fun m => Kd.C_string (P := Try.prog) (c := c6_) Try.underlying27 Try.underlying5 Try.underlying9 (Kd.C_drewN (HP6_.out) m)
        have hs2 := fun m => Kd.C_string (P := Try.prog) (c := c1) Try.underlying27 Try.underlying5 Try.underlying9 (Kd.C_drewN (HCC.out _ (Kd.C_below HR1.out (HB6_.out))) m)
        simp only [List.length_take, Nat.min_eq_left hnl] at hs1
        go_quiet (fail)
        go_wp2
        go_ret
        exact ⟨by simp, pw_below_drewN HB6_.out _⟩
    | true =>
      have hP2 : bytesE x0 = P := hP
      have hlP : P.length ≤ 400 := by rw [← hP2]; exact bytesE_len HV0.out hm
      obtain ⟨PX, hPX⟩ : ∃ PX, P ++ x1 = PX := ⟨_, rfl⟩
      have HGP : Aside0 (gotE (getE PX) = (x0, P.length, true)) := ⟨by rw [← hPX, ← hP2]; exact gotE_some (getE_put x1 HV0.out hm)⟩
      have HBA : Aside0 (byteL PX) := ⟨by rw [← hPX]; exact byteL_append (by rw [← hP2]; exact bytesE_byte hm) HBY.out⟩
      have hxa : PX.length < 4611686018427387904 := by rw [← hPX, List.length_append]; omega
      have HPX := Aside0.mk hPX
      clear hP hm hP2 hPX
      go_enter Try.func6, Try.ntmps6
      go_wp2_with fail
      go_at_call 9
      refine (awake6_told _).mono ?_
      rintro e w1_ ⟨rfl, hb1_⟩
      have HB1_ := Aside0.mk (below_step (below_alloc (Below.refl _ _) _) hb1_)
      have HKx01_ := Aside0.mk (blk_below (blk_new _ _) hb1_)
      obtain ⟨kx01a_, kx01b_, kx01c_, kx01d_⟩ := know HKx01_.out
      clear hb1_
      go_wp2_with fail
      go_at_call_of 10 (Value.agg #[.string x0.f0, .int .i64 x0.f1, .slice A0 x0.f2.length c0])
      refine (HPC.out A0 c0 _ (Kd.C_below HR0.out (HB1_.out)) HC0.out).mono ?_
      rintro e w2_ ⟨rfl, hb2_⟩
      have HB2_ := Aside0.mk (below_step (HB1_.out) hb2_)
      have HKx02_ := Aside0.mk (blk_below (HKx01_.out) hb2_)
      obtain ⟨kx02a_, kx02b_, kx02c_, kx02d_⟩ := know HKx02_.out
      clear kx01a_ kx01b_ kx01c_ kx01d_
      clear hb2_
      go_wp2_with fail
      go_at_call 11
      refine (event_Put.told x0 A0 c0 _ (Kd.C_below HR0.out (HB2_.out)) HC0.out HV0.out HM.out HPP.out).mono ?_
      rintro e w3_ ⟨v3_, rfl, ho3_, hb3_⟩
      have HB3_ := Aside0.mk (below_step (HB2_.out) hb3_)
      have HKx03_ := Aside0.mk (blk_below (HKx02_.out) hb3_)
      obtain ⟨kx03a_, kx03b_, kx03c_, kx03d_⟩ := know HKx03_.out
      clear kx02a_ kx02b_ kx02c_ kx02d_
      clear hb3_
      obtain ⟨A3_, c3_, hv3_, hq3_, hp3_⟩ := Own8.reads ho3_
      subst hv3_
      have HP3_ := Aside0.mk hp3_
      have HQ3_ := Aside0.mk hq3_
      clear ho3_ hp3_ hq3_
      go_wp2_with fail
      go_at_call 15
      refine (event_May.told x0 A0 c0 _ (Kd.C_below HR0.out (HB3_.out)) HC0.out HV0.out HM.out).mono ?_
      rintro e w4_ ⟨rfl, hb4_⟩
      have HB4_ := Aside0.mk (below_step (HB3_.out) hb4_)
      have HKx04_ := Aside0.mk (blk_below (HKx03_.out) hb4_)
      obtain ⟨kx04a_, kx04b_, kx04c_, kx04d_⟩ := know HKx04_.out
      clear kx03a_ kx03b_ kx03c_ kx03d_
      have HRp4_ := Aside0.mk (Kd.C_below (HP3_.out) hb4_)
      clear hb4_
      go_wp2_with (first
        | ((with_reducible refine gate_builtin (b := .append) (xs := #[.const (.slice none 0 0), .tmp 43]) rfl ?_); at_builtin; refine Kd.R_append_rows (Kd.int .u8) (Rr := Kd.K (Kd.int .u8) _) _ rfl (.const (.slice none 0 0)) (.tmp 43) 27 5 (.int .u8 0) 1 rfl Try.underlying27 info5 rfl (by decide) (by decide) (.slice none 0 0) [] P A3_ P.length c3_ (fun _ => True) (fun _ => False) rfl rfl (Kd.R_nil _ _ _ _ _) (HRp4_.out) ?aK (fun _ h => h.elim) (fun _ _ => trivial) (Below.refl _ _) (Nat.le_refl _) (by simp only [List.length_nil]; omega) ?_; (case aK => exact (fun _ _ h => h)); intro v5a_ w5a_ ho5a_ hb5a_ hg5a_ hat5a_; simp only [List.nil_append] at ho5a_; have HO5a_ := Aside0.mk ho5a_; have HBA5_ := Aside0.mk hb5a_; clear ho5a_ hb5a_ hg5a_ hat5a_)
        | ((with_reducible refine gate_builtin (b := .append) (xs := #[.tmp 44, .tmp 45]) rfl ?_); at_builtin; refine Kd.R_append_rows (Kd.int .u8) (Rr := Kd.K (Kd.int .u8) _) _ rfl (.tmp 44) (.tmp 45) 27 5 (.int .u8 0) 1 rfl Try.underlying27 info5 rfl (by decide) (by decide) v5a_ P x1 A1 x1.length c1 (fun _ => True) (fun _ => False) rfl rfl HO5a_.out (Kd.C_below (Kd.C_below HR1.out (HB4_.out)) HBA5_.out) ?aK (fun _ h => h.elim) (fun _ _ => trivial) HBA5_.out (below_size HBA5_.out) (by omega) ?_; (case aK => exact (fun _ _ h => h)); intro v5_ w5_ ho5_ hb5_ hg5_ hat5_; rw [HPX.out] at ho5_; obtain ⟨A5_, c5_, hv5_, hq5_, hp5_⟩ := Kd.R_reads ho5_; subst hv5_; have HP5_ := Aside0.mk hp5_; have HQ5_ := Aside0.mk hq5_; clear ho5_ hp5_ hq5_ hg5_ hat5_ HO5a_ HBA5_; have HB5_ := Aside0.mk (below_step (HB4_.out) hb5_); have HKx05_ := Aside0.mk (blk_below (HKx04_.out) hb5_); have HRp5_ := Aside0.mk (Kd.C_below (HRp4_.out) hb5_); clear hb5_))
      go_at_call 12
      refine (evGet_told HGP.out rfl _ A5_ c5_ (HP5_.out) HQ5_.out HBA.out hxa).mono ?_
      rintro e w6_ ⟨A6_, c6_, ⟨rfl, hg6_, hh6_⟩, hb6_⟩
      have HB6_ := Aside0.mk (below_step (HB5_.out) hb6_)
      have HKx06_ := Aside0.mk (blk_below (HKx05_.out) hb6_)
      obtain ⟨kx06a_, kx06b_, kx06c_, kx06d_⟩ := know HKx06_.out
      clear kx04a_ kx04b_ kx04c_ kx04d_
      have HRp6_ := Aside0.mk (Kd.C_below (HRp5_.out) hb6_)
      have HRa6_ := Aside0.mk (Kd.C_below (HP5_.out) hb6_)
      clear hb6_
      have HG6_ := Aside0.mk hg6_
      have HH6_ := Aside0.mk hh6_
      clear hg6_ hh6_
      go_wp2_with fail
      go_at_call 21
      refine (sameE_told x0 x0 A6_ c6_ A0 c0 _ (Kd.C_alloc (HH6_.out) _) HG6_.out (Kd.C_below HR0.out (below_alloc (HB6_.out) _)) HC0.out (eqE_refl x0)).mono ?_
      rintro e w7_ ⟨rfl, hb7_⟩
      have HB7_ := Aside0.mk (below_step (below_alloc (HB6_.out) _) hb7_)
      have HKx07_ := Aside0.mk (blk_below (blk_alloc (HKx06_.out) _) hb7_)
      obtain ⟨kx07a_, kx07b_, kx07c_, kx07d_⟩ := know HKx07_.out
      have HKv7_ := Aside0.mk (blk_below (blk_new _ _) hb7_)
      obtain ⟨kv7a_, kv7b_, kv7c_, kv7d_⟩ := know HKv7_.out
      clear kx06a_ kx06b_ kx06c_ kx06d_
      have HRp7_ := Aside0.mk (Kd.C_below (Kd.C_alloc (HRp6_.out) _) hb7_)
      have HRa7_ := Aside0.mk (Kd.C_below (Kd.C_alloc (HRa6_.out) _) hb7_)
      have HRv7_ := Aside0.mk (Kd.C_below (Kd.C_alloc (HH6_.out) _) hb7_)
      clear hb7_
      go_wp2_with fail
      go_at_call 12
      refine (evGet_told HG.out rfl _ A1 c1 (Kd.C_below HR1.out (HB7_.out)) HC1.out HBY.out (by omega)).mono ?_
      rintro e w8_ ⟨A8_, c8_, ⟨rfl, hg8_, hh8_⟩, hb8_⟩
      have HB8_ := Aside0.mk (below_step (HB7_.out) hb8_)
      have HKx08_ := Aside0.mk (blk_below (HKx07_.out) hb8_)
      obtain ⟨kx08a_, kx08b_, kx08c_, kx08d_⟩ := know HKx08_.out
      clear kx07a_ kx07b_ kx07c_ kx07d_ kv7a_ kv7b_ kv7c_ kv7d_
      clear hb8_
      have HG8_ := Aside0.mk hg8_
      have HH8_ := Aside0.mk hh8_
      clear hg8_ hh8_
      cases b with
      | false =>
        obtain ⟨rfl, rfl⟩ := gotE_false HG.out
        go_wp2_with fail
        go_ret
        exact ⟨by simp, below_alloc HB8_.out _⟩
      | true =>
        obtain ⟨hmv, hnl, htk, hvv⟩ := getE_take HBY.out (gotE_true HG.out)
        have HMV := Aside0.mk hmv
        have HVV := Aside0.mk hvv
        obtain ⟨i0, hi0, _, hsz0, _⟩ := info_parts info5
        obtain ⟨hcut, hcC⟩ := take_row (P := Try.prog) (d := Kd.int .u8) Try.underlying27 hi0 A1 c1 x1 n (n : Int) rfl hnl HC1.out
        have HPV : Aside0 ((if true then bytesE v else []) = x1.take n) := ⟨by rw [htk]; rfl⟩
        have HCC := Aside0.mk hcC
        have hc1 := HC1.out
        clear hmv htk hvv hcC
        go_wp2_with fail
        go_at_call 11
        refine (event_Put.told v A8_ c8_ _ (Kd.C_alloc (HH8_.out) _) HG8_.out HVV.out HMV.out HPV.out).mono ?_
        rintro e w9_ ⟨v9_, rfl, ho9_, hb9_⟩
        have HB9_ := Aside0.mk (below_step (below_alloc (HB8_.out) _) hb9_)
        have HKx09_ := Aside0.mk (blk_below (blk_alloc (HKx08_.out) _) hb9_)
        obtain ⟨kx09a_, kx09b_, kx09c_, kx09d_⟩ := know HKx09_.out
        have HKv9_ := Aside0.mk (blk_below (blk_new _ _) hb9_)
        obtain ⟨kv9a_, kv9b_, kv9c_, kv9d_⟩ := know HKv9_.out
        clear kx08a_ kx08b_ kx08c_ kx08d_
        have HRv9_ := Aside0.mk (Kd.C_below (Kd.C_alloc (HH8_.out) _) hb9_)
        clear hb9_
        obtain ⟨A9_, c9_, hv9_, hq9_, hp9_⟩ := Own8.reads ho9_
        subst hv9_
        have HP9_ := Aside0.mk hp9_
        have HQ9_ := Aside0.mk hq9_
        clear ho9_ hp9_ hq9_
        go_wp2_with fail
        have hs1 := fun m => Kd.C_string (P := Try.prog) (c := c9_) Try.underlying27 Try.underlying5 Try.underlying9 (Kd.C_drewN (HP9_.out) m)
        have hs2 := fun m => Kd.C_string (P := Try.prog) (c := c1) Try.underlying27 Try.underlying5 Try.underlying9 (Kd.C_drewN (HCC.out _ (Kd.C_below HR1.out (HB9_.out))) m)
        simp only [List.length_take, Nat.min_eq_left hnl] at hs1
        go_quiet (fail)
        go_wp2
        go_ret
        exact ⟨by simp, pw_below_drewN HB9_.out _⟩
  · have HNO := Aside0.mk hgo
    clear hgo
    have hcl : x1.length ≤ 400 ∨ 400 < x1.length := by omega
    rcases hcl with h4 | h4 <;> cases p
    all_goals first
      | (exfalso; apply HNO.out; refine ⟨rfl, ?_⟩ <;> assumption)
      | skip
    all_goals
      go_enter Try.func6, Try.ntmps6
      go_wp2_with fail
      go_at_call 9
      refine (awake6_told _).mono ?_
      rintro e w1_ ⟨rfl, hb1_⟩
      have HB1_ := Aside0.mk (below_step (below_alloc (Below.refl _ _) _) hb1_)
      have HKx01_ := Aside0.mk (blk_below (blk_new _ _) hb1_)
      obtain ⟨kx01a_, kx01b_, kx01c_, kx01d_⟩ := know HKx01_.out
      clear hb1_
      go_wp2_with fail
      go_at_call_of 10 (Value.agg #[.string x0.f0, .int .i64 x0.f1, .slice A0 x0.f2.length c0])
      refine (HPC.out A0 c0 _ (Kd.C_below HR0.out (HB1_.out)) HC0.out).mono ?_
      rintro e w2_ ⟨rfl, hb2_⟩
      have HB2_ := Aside0.mk (below_step (HB1_.out) hb2_)
      have HKx02_ := Aside0.mk (blk_below (HKx01_.out) hb2_)
      obtain ⟨kx02a_, kx02b_, kx02c_, kx02d_⟩ := know HKx02_.out
      clear kx01a_ kx01b_ kx01c_ kx01d_
      clear hb2_
      go_wp2_with fail
      go_ret
      exact ⟨rfl, HB2_.out⟩
end Go.Proofs.Ytandlemjjlamoaa.P
