/- What EventNone's row stands on: words, contracts of the functions that it reaches, plain facts, its walk (part 3): no condition but those that each theorem names. -/
import Derived.Test.YtandlemjjlamoaaZEventNone2
set_option linter.unusedVariables false
set_option linter.unusedSimpArgs false
namespace Go.Proofs.Ytandlemjjlamoaa.P
open Go.RowKit Go.Proofs.YtandlemjjlamoaaW.PrintWords Go.Proofs.YtandlemjjlamoaaW.PrintLast Go.Proofs.YtandlemjjlamoaaW.PrintMore
attribute [local go_sem] max2_int min2_int max_two min_two max_three min_three max_four min_four   -- for this text's walks alone
set_option linter.unusedVariables false
set_option linter.unusedSimpArgs false
def evNum (l : List Int) (a : Nat) (d : Bool) (most : Nat) : Nat × Nat × Bool := if d then (0, a, true) else match getM (l.drop a) most with
  | some (n, u) => (n, a + u, false)
  | none => (0, a, true)
theorem evNum_bad {l : List Int} {a most : Nat} : evNum l a true most = (0, a, true) := rfl
theorem evNum_none {l : List Int} {a most : Nat} (h : getM (l.drop a) most = none) : evNum l a false most = (0, a, true) := by unfold evNum; simp [h]
theorem evNum_some {l : List Int} {a most n u : Nat} (h : getM (l.drop a) most = some (n, u)) : evNum l a false most = (n, a + u, false) := by unfold evNum; simp [h]
theorem evNum_at {l : List Int} {a most : Nat} {d : Bool} (h : a ≤ l.length) : (evNum l a d most).2.1 ≤ l.length ∧ (evNum l a d most).1 ≤ most := by
  cases d with
  | true => exact ⟨h, Nat.zero_le _⟩
  | false =>
    cases hg : getM (l.drop a) most with
    | none => rw [evNum_none hg]; exact ⟨h, Nat.zero_le _⟩
    | some p =>
      obtain ⟨n, u⟩ := p
      rw [evNum_some hg]
      have h2 := getM_used hg
      rw [List.length_drop] at h2
      exact ⟨by show a + u ≤ _; omega, h2.2.1⟩
def bBlk (A : Option Addr) (n c : Nat) : Obj := .cells #[.slice A n c] 27 (0, 0)
def aBlk (a : Nat) : Obj := .cells #[.int .i64 (a : Int)] 3 (0, 0)
def dBlk (d : Bool) : Obj := .cells #[.bool d] 4 (0, 0)
def numEv (Ba Bd : Nat) (r : Nat × Nat × Bool) (w : World) (e : Ending) (w' : World) : Prop := e = .returned (.int .i64 (r.1 : Int)) ∧ w'.heap[Ba]? = some (aBlk r.2.1) ∧ w'.heap[Bd]? = some (dBlk r.2.2) ∧ Spares (fun i => i = Ba ∨ i = Bd) w w'
set_option maxHeartbeats 4000000 in
set_option maxRecDepth 100000 in
theorem evNum_told (w : World) (Bb Ba Bd : Nat) (A : Option Addr) (c : Nat) (l : List Int) (a : Nat) (d : Bool) (most : Nat) (hr : Kd.C (Kd.int .u8) w A l.length l) (hc : l.length ≤ c) (hb : byteL l) (hl : l.length < 4611686018427387904) (hkb : w.heap[Bb]? = some (bBlk A l.length c)) (hka : w.heap[Ba]? = some (aBlk a)) (hkd : w.heap[Bd]? = some (dBlk d)) (hat : a ≤ l.length) (hmost : most ≤ 1125899906842624) :
    Calls Try.prog 27 #[.int .u64 (most : Int), .pointer (some ⟨Bb, 0, none⟩), .pointer (some ⟨Ba, 0, none⟩), .pointer (some ⟨Bd, 0, none⟩)] w (numEv Ba Bd (evNum l a d most) w) := by
  obtain ⟨i0, hi0, _, hsz0, _⟩ := info_parts info5
  obtain ⟨A', hcut, hC', hlc⟩ := drop_row (P := Try.prog) (d := Kd.int .u8) Try.underlying27 hi0 hsz0 A c l a (a : Int) rfl hat hc
  have HCUT := Aside0.mk (hC' _ hr)
  have HLC := Aside0.mk hlc
  have hne : Ba ≠ Bd := blk_ne hka hkd (by decide)
  have HBY := Aside0.mk (byteL_drop hb a)
  obtain ⟨kb, _, _, _⟩ := know hkb
  obtain ⟨ka, _, _, _⟩ := know hka
  obtain ⟨kd, _, _, _⟩ := know hkd
  have HKA := Aside0.mk hka
  have HKD := Aside0.mk hkd
  have hln : (l.drop a).length < 4611686018427387904 := by rw [List.length_drop]; omega
  have hal : a + (l.drop a).length = l.length := by rw [List.length_drop]; omega
  have hup : ∀ n u, getN (l.drop a) = some (n, u) → n < 18446744073709551616 := fun n u h => (getN_some HBY.out h).1
  obtain ⟨r, hq⟩ : ∃ r, evNum l a d most = r := ⟨_, rfl⟩
  rw [hq]
  clear hC' hlc hi0 hsz0 hr hc hb hkb hka hkd
  cases d with
  | true =>
    rw [evNum_bad] at hq
    subst hq
    obtain ⟨n0, u0, b0, hg0⟩ : ∃ n0 u0 b0, tellN (getN (l.drop a)) = (n0, u0, b0) := ⟨_, _, _, rfl⟩
    have HT := Aside0.mk (fun (W : World) (h : Below w.heap.size w W) => le_Get.told A' (c - a) (l.drop a) W HBY.out hln (Kd.C_below HCUT.out h) HLC.out)
    unfold getPost at HT
    rw [hg0] at HT
    clear hg0 hup
    generalize l.drop a = ld at *
    go_enter Try.func27, Try.ntmps27
    go_wp2_with (go_at_call 28; refine (HT.out _ (Below.refl _ _)).mono ?_; rintro e w1 ⟨rfl, hb1⟩; have HB1 := Aside0.mk hb1; have HKA1 := Aside0.mk (blk_below HKA.out hb1); have HKD1 := Aside0.mk (blk_below HKD.out hb1); obtain ⟨a1, _, a3, _⟩ := know HKA1.out; obtain ⟨d1, _, d3, _⟩ := know HKD1.out; obtain ⟨f1, f2⟩ := know_far HKA1.out hne; clear hb1)
    go_ret
    exact ⟨rfl, blk_far HKA1.out (p := ⟨Bd, 0, none⟩) hne _, blk_put HKD1.out 0 (.bool true) rfl, ((Spares.of_below (S := fun i => i = Ba ∨ i = Bd) HB1.out).set 0 (.inl (.inr rfl)) _)⟩
  | false =>
    cases hg : getN (l.drop a) with
    | none =>
      rw [evNum_none (getM_none hg)] at hq
      subst hq
      have HG := Aside0.mk hg
      clear hg hup
      generalize l.drop a = ld at *
      go_enter Try.func27, Try.ntmps27
      go_wp2_with (go_at_call 28; refine (le_Get.no A' _ ld _ HG.out HBY.out hln HCUT.out HLC.out).mono ?_; rintro e w1 ⟨rfl, hb1⟩; have HB1 := Aside0.mk hb1; have HKA1 := Aside0.mk (blk_below HKA.out hb1); have HKD1 := Aside0.mk (blk_below HKD.out hb1); obtain ⟨a1, _, a3, _⟩ := know HKA1.out; obtain ⟨d1, _, d3, _⟩ := know HKD1.out; obtain ⟨f1, f2⟩ := know_far HKA1.out hne; clear hb1)
      go_ret
      exact ⟨rfl, blk_far HKA1.out (p := ⟨Bd, 0, none⟩) hne _, blk_put HKD1.out 0 (.bool true) rfl, ((Spares.of_below (S := fun i => i = Ba ∨ i = Bd) HB1.out).set 0 (.inl (.inr rfl)) _)⟩
    | some p =>
      obtain ⟨n, u⟩ := p
      have hn := hup n u hg
      have hu := (getN_used hg).2.1
      have HG := Aside0.mk hg
      have hgm := getM_some (m := most) hg
      by_cases hle : n ≤ most
      · rw [if_pos hle] at hgm
        rw [evNum_some hgm] at hq
        subst hq
        have hle2 : (n : Int) ≤ (most : Int) := by omega
        have hw : IntKind.wrap .i64 (n : Int) = (n : Int) := IntWalk.i64_in _ (by omega)
        clear hg hup hgm hle
        generalize l.drop a = ld at *
        go_enter Try.func27, Try.ntmps27
        go_wp2_with (go_at_call 28; refine (le_Get.yes A' _ ld _ HG.out HBY.out hln HCUT.out HLC.out).mono ?_; rintro e w1 ⟨rfl, hb1⟩; have HB1 := Aside0.mk hb1; have HKA1 := Aside0.mk (blk_below HKA.out hb1); have HKD1 := Aside0.mk (blk_below HKD.out hb1); obtain ⟨a1, _, a3, _⟩ := know HKA1.out; obtain ⟨d1, _, d3, _⟩ := know HKD1.out; obtain ⟨f1, f2⟩ := know_far HKA1.out hne; clear hb1)
        go_ret
        exact ⟨rfl, blk_put (blk_far HKA1.out (p := ⟨Bd, 0, none⟩) hne _) 0 _ (by simp), blk_far (blk_put HKD1.out 0 (.bool false) rfl) (p := ⟨Ba, 0, none⟩) (Ne.symm hne) _, Spares.set ((Spares.of_below (S := fun i => i = Ba ∨ i = Bd) HB1.out).set 0 (.inl (.inr rfl)) _) 0 (.inl (.inl rfl)) _⟩
      · rw [if_neg hle] at hgm
        rw [evNum_none hgm] at hq
        subst hq
        have hle2 : ¬ (n : Int) ≤ (most : Int) := by omega
        clear hg hup hgm hle
        generalize l.drop a = ld at *
        go_enter Try.func27, Try.ntmps27
        go_wp2_with (go_at_call 28; refine (le_Get.yes A' _ ld _ HG.out HBY.out hln HCUT.out HLC.out).mono ?_; rintro e w1 ⟨rfl, hb1⟩; have HB1 := Aside0.mk hb1; have HKA1 := Aside0.mk (blk_below HKA.out hb1); have HKD1 := Aside0.mk (blk_below HKD.out hb1); obtain ⟨a1, _, a3, _⟩ := know HKA1.out; obtain ⟨d1, _, d3, _⟩ := know HKD1.out; obtain ⟨f1, f2⟩ := know_far HKA1.out hne; clear hb1)
        go_ret
        exact ⟨rfl, blk_far HKA1.out (p := ⟨Bd, 0, none⟩) hne _, blk_put HKD1.out 0 (.bool true) rfl, ((Spares.of_below (S := fun i => i = Ba ∨ i = Bd) HB1.out).set 0 (.inl (.inr rfl)) _)⟩
def getVs : Nat → List Int → Option (List SValue × Nat)
  | 0, _ => some ([], 0)
  | m + 1, l => match getV l with
    | none => none
    | some (x, n) => match getVs m (l.drop n) with
      | none => none
      | some (xs, k) => some (x :: xs, n + k)
def contE (l : List Int) (m u : Nat) (fs : List SValue) (nm : ByteArray) (tm : Int) : Option (SEvent × Nat) := match getVs m (l.drop u) with
  | none => none
  | some (gs, v) => some (⟨nm, tm, fs ++ gs⟩, u + v)
def contN (l : List Int) (u : Nat) (nm : ByteArray) (tm : Int) : Option (SEvent × Nat) := match getM (l.drop u) 6 with
  | none => none
  | some (m, v) => contE l m (u + v) [] nm tm
def contT (l : List Int) (u : Nat) (nm : ByteArray) : Option (SEvent × Nat) := match getM (l.drop u) 1125899906842624 with
  | none => none
  | some (tm, v) => contN l (u + v) nm (tm : Int)
def getRawE (l : List Int) : Option (SEvent × Nat) := match readT l 12 with
  | none => none
  | some (t, u) => contT l u (strOfNums t)
def getE (l : List Int) : Option (SEvent × Nat) := match getRawE l with
  | none => none
  | some (x, n) => if mayE x then some (x, n) else none
def gotE (r : Option (SEvent × Nat)) : SEvent × Nat × Bool := match r with
  | some (x, n) => (x, n, true)
  | none => (⟨⟨#[]⟩, 0, []⟩, 0, false)
def evPost3 (x : SEvent) (n : Nat) (b : Bool) (w : World) (e : Ending) (w' : World) : Prop := ∃ A c, (e = .returned (.tuple #[.agg #[.string x.f0, .int .i64 x.f1, .slice A x.f2.length c], .int .i64 (n : Int), .bool b]) ∧ x.f2.length ≤ c ∧ Kd.C kValue w' A x.f2.length x.f2) ∧ Below w.heap.size w w'
theorem contE_step (l : List Int) (m u : Nat) (fs : List SValue) (nm : ByteArray) (tm : Int) : contE l (m + 1) u fs nm tm = match getV (l.drop u) with
    | none => none
    | some (x, n) => contE l m (u + n) (fs ++ [x]) nm tm := by
  unfold contE
  rw [getVs]
  cases hg : getV (l.drop u) with
  | none => rfl
  | some p =>
    obtain ⟨x, n⟩ := p
    simp only [List.drop_drop]
    cases hv : getVs m (l.drop (u + n)) with
    | none => rfl
    | some q =>
      obtain ⟨xs, k⟩ := q
      simp only [List.append_assoc, List.singleton_append, Nat.add_assoc]
theorem getV_i64 {l : List Int} {x : SValue} {n : Nat} (hb : byteL l) (h : getV l = some (x, n)) : i64V x ∧ n ≤ l.length ∧ mayV x = true := by
  unfold getV at h
  cases l with
  | nil => simp at h
  | cons k r =>
    cases hg : getN r with
    | none => simp only [hg] at h; simp at h
    | some p =>
      obtain ⟨m, u⟩ := p
      have hm := (getN_some (fun c hc => hb c (by simp [hc])) hg).1
      have hu := (getN_used hg).2.1
      simp only [hg] at h
      have he : (⟨#[]⟩ : ByteArray).toList = [] := by decide +kernel
      by_cases h0 : k = 0
      · rw [if_pos h0] at h
        simp only [Option.some.injEq, Prod.mk.injEq] at h
        obtain ⟨rfl, rfl⟩ := h
        exact ⟨zag_in hm, by simp; omega, mayV_iff.2 (.inl ⟨rfl, he⟩)⟩
      · rw [if_neg h0] at h
        by_cases h2 : k = 2
        · rw [if_pos h2] at h
          by_cases h3 : m ≤ 40 ∧ m ≤ r.length - u
          · rw [if_pos h3] at h
            simp only [Option.some.injEq, Prod.mk.injEq] at h
            obtain ⟨rfl, rfl⟩ := h
            refine ⟨zero_i64, by simp only [List.length_cons]; omega, mayV_iff.2 (.inr (.inr (.inl ⟨rfl, rfl, ?_⟩)))⟩
            show (strOfNums _).size ≤ 40
            rw [strOfNums_size, List.length_take]
            omega
          · rw [if_neg h3] at h; simp at h
        · rw [if_neg h2] at h
          by_cases h3 : (k = 1 ∧ m < 2) ∨ (k = 3 ∧ m ≤ 1125899906842624)
          · rw [if_pos h3] at h
            simp only [Option.some.injEq, Prod.mk.injEq] at h
            obtain ⟨rfl, rfl⟩ := h
            refine ⟨?_, by simp; omega, mayV_iff.2 ?_⟩
            · show -9223372036854775808 ≤ (m : Int) ∧ (m : Int) ≤ 9223372036854775807
              omega
            · rcases h3 with ⟨rfl, h4⟩ | ⟨rfl, h4⟩
              · exact .inr (.inl ⟨rfl, he, by show 0 ≤ (m : Int); omega, by show (m : Int) < 2; omega⟩)
              · exact .inr (.inr (.inr ⟨rfl, he, by show 0 ≤ (m : Int); omega, by show (m : Int) ≤ _; omega⟩))
          · rw [if_neg h3] at h; simp at h
theorem gotV_i64 {l : List Int} {x : SValue} {n : Nat} {b : Bool} (hb : byteL l) (h : gotV (getV l) = (x, n, b)) : i64V x ∧ n ≤ l.length := by
  cases hg : getV l with
  | none =>
    rw [hg] at h
    simp only [gotV, Prod.mk.injEq] at h
    obtain ⟨rfl, rfl, rfl⟩ := h
    exact ⟨zero_i64, Nat.zero_le _⟩
  | some p =>
    obtain ⟨y, m⟩ := p
    rw [hg] at h
    simp only [gotV, Prod.mk.injEq] at h
    obtain ⟨rfl, rfl, rfl⟩ := h
    have := getV_i64 hb hg
    exact ⟨this.1, this.2.1⟩
def InvE (l : List Int) (nm : ByteArray) (d : Bool) (X : Option (SEvent × Nat)) : Prop := (d = true ∨ nm.size = 0 → getE l = none) ∧ (d = false → nm.size ≠ 0 → getRawE l = X)
theorem getE_none {l : List Int} (h : getRawE l = none) : getE l = none := by unfold getE; rw [h]
theorem getE_name {l : List Int} {nm : ByteArray} {tm : Int} {fs : List SValue} {n : Nat} (h : getRawE l = some (⟨nm, tm, fs⟩, n)) (h0 : nm.size = 0) : getE l = none := by
  unfold getE
  rw [h]
  have : mayE ⟨nm, tm, fs⟩ = false := by
    rw [← Bool.not_eq_true]
    intro h2
    exact (nameB_size (mayE_iff.1 h2).1).1 h0
  simp only [this]
  rfl
theorem contE_nm {l : List Int} {m u : Nat} {fs : List SValue} {nm : ByteArray} {tm : Int} {x : SEvent} {n : Nat} (h : contE l m u fs nm tm = some (x, n)) : x.f0 = nm := by
  unfold contE at h
  split at h
  · simp at h
  · simp only [Option.some.injEq, Prod.mk.injEq] at h
    rw [← h.1]
theorem contN_nm {l : List Int} {u : Nat} {nm : ByteArray} {tm : Int} {x : SEvent} {n : Nat} (h : contN l u nm tm = some (x, n)) : x.f0 = nm := by
  unfold contN at h
  split at h
  · simp at h
  · exact contE_nm h
theorem contT_nm {l : List Int} {u : Nat} {nm : ByteArray} {x : SEvent} {n : Nat} (h : contT l u nm = some (x, n)) : x.f0 = nm := by
  unfold contT at h
  split at h
  · simp at h
  · exact contN_nm h
theorem inv_name (l : List Int) (hb : byteL l) {n1 a1 : Nat} {d1 : Bool} (h : evNum l 0 false 12 = (n1, a1, d1)) :
    InvE l (if n1 ≤ l.length - a1 then strOfNums ((l.drop a1).take n1) else ⟨#[]⟩) d1 (contT l (if n1 ≤ l.length - a1 then a1 + n1 else a1) (if n1 ≤ l.length - a1 then strOfNums ((l.drop a1).take n1) else ⟨#[]⟩)) := by
  cases hg : getM l 12 with
  | none =>
    have h2 := evNum_none (l := l) (a := 0) (most := 12) (by simpa using hg)
    rw [h2] at h
    simp only [Prod.mk.injEq] at h
    obtain ⟨rfl, rfl, rfl⟩ := h
    exact ⟨fun _ => getE_none (by unfold getRawE readT; rw [hg]), fun h => by cases h⟩
  | some p =>
    obtain ⟨n, u⟩ := p
    have h2 := evNum_some (l := l) (a := 0) (most := 12) (n := n) (u := u) (by simpa using hg)
    rw [h2] at h
    simp only [Prod.mk.injEq, Nat.zero_add] at h
    obtain ⟨rfl, rfl, rfl⟩ := h
    by_cases hf : n ≤ l.length - u
    · rw [if_pos hf, if_pos hf]
      have hr : getRawE l = contT l (u + n) (strOfNums ((l.drop u).take n)) := by
        unfold getRawE readT
        rw [hg]
        simp only
        rw [if_pos hf]
      refine ⟨fun hz => ?_, fun _ _ => hr⟩
      rcases hz with hz | hz
      · cases hz
      · cases hx : getRawE l with
        | none => exact getE_none hx
        | some q =>
          obtain ⟨⟨nm, tm, fs⟩, k⟩ := q
          have h3 := contT_nm (hr ▸ hx)
          exact getE_name hx (by rw [show nm = _ from h3]; exact hz)
    · rw [if_neg hf, if_neg hf]
      refine ⟨fun _ => getE_none (by unfold getRawE readT; rw [hg]; simp only; rw [if_neg hf]), fun _ h => absurd rfl h⟩
theorem inv_time {l : List Int} {nm : ByteArray} {d d' : Bool} {a a' n : Nat} (h : InvE l nm d (contT l a nm)) (hq : evNum l a d 1125899906842624 = (n, a', d')) : InvE l nm d' (contN l a' nm (n : Int)) := by
  cases d with
  | true =>
    rw [evNum_bad] at hq
    simp only [Prod.mk.injEq] at hq
    obtain ⟨rfl, rfl, rfl⟩ := hq
    exact ⟨fun _ => h.1 (.inl rfl), fun h => by cases h⟩
  | false =>
    cases hg : getM (l.drop a) 1125899906842624 with
    | none =>
      rw [evNum_none hg] at hq
      simp only [Prod.mk.injEq] at hq
      obtain ⟨rfl, rfl, rfl⟩ := hq
      refine ⟨fun _ => ?_, fun h => by cases h⟩
      by_cases h0 : nm.size = 0
      · exact h.1 (.inr h0)
      · exact getE_none ((h.2 rfl h0).trans (by unfold contT; rw [hg]))
    | some p =>
      obtain ⟨m, u⟩ := p
      rw [evNum_some hg] at hq
      simp only [Prod.mk.injEq] at hq
      obtain ⟨rfl, rfl, rfl⟩ := hq
      refine ⟨fun hz => h.1 hz, fun h1 h2 => (h.2 h1 h2).trans (by unfold contT; rw [hg])⟩
theorem inv_many {l : List Int} {nm : ByteArray} {tm : Int} {d d' : Bool} {a a' n : Nat} (h : InvE l nm d (contN l a nm tm)) (hq : evNum l a d 6 = (n, a', d')) : InvE l nm d' (contE l n a' [] nm tm) := by
  cases d with
  | true =>
    rw [evNum_bad] at hq
    simp only [Prod.mk.injEq] at hq
    obtain ⟨rfl, rfl, rfl⟩ := hq
    exact ⟨fun _ => h.1 (.inl rfl), fun h => by cases h⟩
  | false =>
    cases hg : getM (l.drop a) 6 with
    | none =>
      rw [evNum_none hg] at hq
      simp only [Prod.mk.injEq] at hq
      obtain ⟨rfl, rfl, rfl⟩ := hq
      refine ⟨fun _ => ?_, fun h => by cases h⟩
      by_cases h0 : nm.size = 0
      · exact h.1 (.inr h0)
      · exact getE_none ((h.2 rfl h0).trans (by unfold contN; rw [hg]))
    | some p =>
      obtain ⟨m, u⟩ := p
      rw [evNum_some hg] at hq
      simp only [Prod.mk.injEq] at hq
      obtain ⟨rfl, rfl, rfl⟩ := hq
      refine ⟨fun hz => h.1 hz, fun h1 h2 => (h.2 h1 h2).trans (by unfold contN; rw [hg])⟩
theorem inv_value {l : List Int} {nm : ByteArray} {tm : Int} {d b : Bool} {m a n : Nat} {fs : List SValue} {x : SValue} (h : InvE l nm d (contE l (m + 1) a fs nm tm)) (hq : gotV (getV (l.drop a)) = (x, n, b)) : InvE l nm (d || !b) (contE l m (a + n) (fs ++ [x]) nm tm) := by
  rw [contE_step] at h
  cases hg : getV (l.drop a) with
  | none =>
    rw [hg] at hq h
    simp only [gotV, Prod.mk.injEq] at hq
    obtain ⟨rfl, rfl, rfl⟩ := hq
    rw [show (d || !false) = true from by simp]
    refine ⟨fun _ => ?_, fun h => by cases h⟩
    cases d with
    | true => exact h.1 (.inl rfl)
    | false =>
      by_cases h0 : nm.size = 0
      · exact h.1 (.inr h0)
      · exact getE_none (h.2 rfl h0)
  | some p =>
    obtain ⟨y, k⟩ := p
    rw [hg] at hq h
    simp only [gotV, Prod.mk.injEq] at hq
    obtain ⟨rfl, rfl, rfl⟩ := hq
    rw [show (d || !true) = d from by simp]
    exact h
theorem contE_end (l : List Int) (a : Nat) (fs : List SValue) (nm : ByteArray) (tm : Int) : contE l 0 a fs nm tm = some (⟨nm, tm, fs⟩, a) := by unfold contE getVs; simp
theorem inv_end {l : List Int} {nm : ByteArray} {tm : Int} {d : Bool} {a : Nat} {fs : List SValue} (h : InvE l nm d (contE l 0 a fs nm tm)) : gotE (getE l) = if (d || !mayE ⟨nm, tm, fs⟩) then (⟨⟨#[]⟩, 0, []⟩, 0, false) else (⟨nm, tm, fs⟩, a, true) := by
  rw [contE_end] at h
  cases d with
  | true =>
    rw [h.1 (.inl rfl)]
    rfl
  | false =>
    cases hm : mayE ⟨nm, tm, fs⟩ with
    | true =>
      have h0 := (nameB_size (mayE_iff.1 hm).1).1
      unfold getE
      rw [h.2 rfl h0]
      simp only [hm]
      rfl
    | false =>
      by_cases h0 : nm.size = 0
      · rw [h.1 (.inr h0)]
        rfl
      · unfold getE
        rw [h.2 rfl h0]
        simp only [hm]
        rfl
structure GetEv (A : Option Addr) (n c : Nat) (a : Nat) (d : Bool) (nm : ByteArray) (tm : Int) (v : Value) (w w' : World) : Prop where
  b : w'.heap[w.heap.size]? = some (bBlk A n c)
  r : w'.heap[w.heap.size + 1]? = some (.cells #[.string ⟨#[]⟩, .int .i64 0, .slice none 0 0] 24 (0, 0))
  a : w'.heap[w.heap.size + 1 + 1]? = some (aBlk a)
  d : w'.heap[w.heap.size + 1 + 1 + 1]? = some (dBlk d)
  e : w'.heap[w.heap.size + 1 + 1 + 1 + 1]? = some (.cells #[.string nm, .int .i64 tm, v] 24 (0, 0))
  below : Below w.heap.size w w'
structure getERel (l : List Int) (A : Option Addr) (c : Nat) (nm : ByteArray) (tm : Int) (many : Nat) (w : World) (k : Nat) (w' : World) : Prop where
  le : k ≤ many
  st : ∃ a d fs v, fs.length = k ∧ a ≤ l.length ∧ (∀ x ∈ fs, i64V x) ∧ InvE l nm d (contE l (many - k) a fs nm tm) ∧ GetEv A l.length c a d nm tm v w w' ∧ Kd.R kValue 37 w' w.heap.size (fun _ => True) v fs
theorem evMk {x y : SEvent} {m k : Nat} {b b' : Bool} {r : SEvent × Nat × Bool} (h : r = (x, m, b)) (h2 : r = (y, k, b')) : x = y ∧ m = k ∧ b = b' := by
  rw [h] at h2
  simp only [Prod.mk.injEq] at h2
  exact ⟨h2.1, h2.2.1, h2.2.2⟩
set_option maxHeartbeats 16000000 in
set_option maxRecDepth 100000 in
theorem event_Get.told (w : World) (A : Option Addr) (c : Nat) (l : List Int) (hr0 : Kd.C (Kd.int .u8) w A l.length l) (hc0 : l.length ≤ c) (hb : byteL l) (hl : l.length < 4611686018427387904) {x : SEvent} {m : Nat} {b : Bool} (hq : gotE (getE l) = (x, m, b)) :
    Calls Try.prog 12 #[.slice A l.length c] w (evPost3 x m b w) := by
  have HR := Aside0.mk hr0
  have HC := Aside0.mk hc0
  have HBY := Aside0.mk hb
  have HQ := Aside0.mk hq
  obtain ⟨i0, hi0, _, hsz0, _⟩ := info_parts info5
  obtain ⟨n1, a1, d1, hq1⟩ : ∃ n1 a1 d1, evNum l 0 false 12 = (n1, a1, d1) := ⟨_, _, _, rfl⟩
  obtain ⟨hat1, hn1⟩ : a1 ≤ l.length ∧ n1 ≤ 12 := by have h := evNum_at (d := false) (most := 12) (Nat.zero_le l.length); rw [hq1] at h; exact h
  have HI1 := Aside0.mk (inv_name l hb hq1)
  have HQ1 := Aside0.mk hq1
  have G0 : Aside0 (GetEv A l.length c 0 false ⟨#[]⟩ 0 (.slice none 0 0) w (((((w.alloc (.cells #[.slice A l.length c] 27)).alloc (.cells #[.string ⟨#[]⟩, .int .i64 0, .slice none 0 0] 24)).alloc (.cells #[.int .i64 0] 3)).alloc (.cells #[.bool false] 4)).alloc (.cells #[.string ⟨#[]⟩, .int .i64 0, .slice none 0 0] 24))) := ⟨⟨blk_alloc (blk_alloc (blk_alloc (blk_alloc (blk_new _ _) _) _) _) _, blk_alloc (blk_alloc (blk_alloc (blk_new2 _ _ _) _) _) _, blk_alloc (blk_alloc (blk_new3 _ _ _ _) _) _, blk_alloc (blk_new4 _ _ _ _ _) _, blk_new5 _ _ _ _ _ _, below_alloc (below_alloc (below_alloc (below_alloc (below_alloc (Below.refl _ _) _) _) _) _) _⟩⟩
  clear hr0 hc0 hb hq hq1
  go_enter Try.func12, Try.ntmps12
  go_upto_if 21 with (go_at_call_of 27 (Value.int .u64 12); refine (evNum_told _ (w.heap.size) (w.heap.size + 1 + 1) (w.heap.size + 1 + 1 + 1) A c l 0 false 12 (Kd.C_below HR.out G0.out.below) HC.out HBY.out hl G0.out.b G0.out.a G0.out.d (Nat.zero_le _) (by decide)).mono ?_; rw [HQ1.out]; rintro e w1 ⟨rfl, ha1, hd1, hs1⟩; have G1 := Aside0.mk (show GetEv A l.length c _ _ ⟨#[]⟩ 0 (.slice none 0 0) w w1 from ⟨hs1.blk G0.out.b (by omega), hs1.blk G0.out.r (by omega), ha1, hd1, hs1.blk G0.out.e (by omega), Spares.below G0.out.below hs1 (by rintro i (rfl | rfl) <;> omega)⟩); clear ha1 hd1 hs1; obtain ⟨e11, e12, e13, e14⟩ := know G1.out.e; obtain ⟨a11, _, a13, _⟩ := know G1.out.a; obtain ⟨b11, _, _, _⟩ := know G1.out.b)
  go_cut [] (fun wx => ∃ nm a, GetEv A l.length c a d1 nm 0 (.slice none 0 0) w wx ∧ a ≤ l.length ∧ InvE l nm d1 (contT l a nm))
  case first =>
    by_cases hf : n1 ≤ l.length - a1
    · have HI := HI1.out
      rw [if_pos hf, if_pos hf] at HI
      have HI2 := Aside0.mk HI
      clear HI
      obtain ⟨A2, hcut2, hD2, hln2⟩ := mid_row (P := Try.prog) (d := Kd.int .u8) Try.underlying27 hi0 hsz0 A c l a1 n1 (a1 : Int) ((a1 : Int) + (n1 : Int)) (by omega) (by omega) (by omega) HC.out
      have hstr := Kd.C_string (P := Try.prog) (c := c - a1) Try.underlying27 Try.underlying5 Try.underlying9 (hD2 w1 (Kd.C_below HR.out G1.out.below))
      have hf1 : (n1 : Int) ≤ (l.length : Int) - (a1 : Int) := by omega
      have hs1 : 0 ≤ (a1 : Int) + (n1 : Int) ∧ (a1 : Int) + (n1 : Int) ≤ 9223372036854775807 := by omega
      obtain ⟨f1, f2⟩ := know_far G1.out.a (show w.heap.size + 1 + 1 ≠ w.heap.size + 1 + 1 + 1 + 1 by omega)
      clear hD2 hln2 hi0 hsz0
      generalize strOfNums ((l.drop a1).take n1) = t at *
      go_wp2_with fail
      go_meet
      exact ⟨t, a1 + n1, ⟨blk_far (blk_far G1.out.b (p := ⟨w.heap.size + 1 + 1 + 1 + 1, 0, none⟩) (show w.heap.size ≠ w.heap.size + 1 + 1 + 1 + 1 by omega) _) (p := ⟨w.heap.size + 1 + 1, 0, none⟩) (show w.heap.size ≠ w.heap.size + 1 + 1 by omega) _, blk_far (blk_far G1.out.r (p := ⟨w.heap.size + 1 + 1 + 1 + 1, 0, none⟩) (show w.heap.size + 1 ≠ w.heap.size + 1 + 1 + 1 + 1 by omega) _) (p := ⟨w.heap.size + 1 + 1, 0, none⟩) (show w.heap.size + 1 ≠ w.heap.size + 1 + 1 by omega) _, blk_put (blk_far G1.out.a (p := ⟨w.heap.size + 1 + 1 + 1 + 1, 0, none⟩) (show w.heap.size + 1 + 1 ≠ w.heap.size + 1 + 1 + 1 + 1 by omega) _) 0 _ (by simp), blk_far (blk_far G1.out.d (p := ⟨w.heap.size + 1 + 1 + 1 + 1, 0, none⟩) (show w.heap.size + 1 + 1 + 1 ≠ w.heap.size + 1 + 1 + 1 + 1 by omega) _) (p := ⟨w.heap.size + 1 + 1, 0, none⟩) (show w.heap.size + 1 + 1 + 1 ≠ w.heap.size + 1 + 1 by omega) _, blk_far (blk_put G1.out.e 0 _ rfl) (p := ⟨w.heap.size + 1 + 1, 0, none⟩) (show w.heap.size + 1 + 1 + 1 + 1 ≠ w.heap.size + 1 + 1 by omega) _, (G1.out.below.setCell (p := ⟨w.heap.size + 1 + 1 + 1 + 1, 0, none⟩) (show w.heap.size ≤ w.heap.size + 1 + 1 + 1 + 1 by omega) _).setCell (p := ⟨w.heap.size + 1 + 1, 0, none⟩) (show w.heap.size ≤ w.heap.size + 1 + 1 by omega) _⟩, by omega, HI2.out⟩
    · have HI := HI1.out
      rw [if_neg hf, if_neg hf] at HI
      have HI2 := Aside0.mk HI
      have hf1 : (l.length : Int) - (a1 : Int) < (n1 : Int) := by omega
      clear HI hi0 hsz0
      go_wp2_with fail
      go_meet
      exact ⟨⟨#[]⟩, a1, G1.out, hat1, HI2.out⟩
  case rest =>
    obtain ⟨nm, a2, hg2, hat2, hi2⟩ := hcut
    obtain ⟨w2, rfl⟩ : ∃ w2, w2 = wc := ⟨_, rfl⟩
    have G2 := Aside0.mk hg2
    obtain ⟨n3, a3, d3, hq3⟩ : ∃ n3 a3 d3, evNum l a2 d1 1125899906842624 = (n3, a3, d3) := ⟨_, _, _, rfl⟩
    obtain ⟨hat3, hn3⟩ : a3 ≤ l.length ∧ n3 ≤ 1125899906842624 := by have h := evNum_at (d := d1) (most := 1125899906842624) hat2; rw [hq3] at h; exact h
    obtain ⟨n4, a4, d4, hq4⟩ : ∃ n4 a4 d4, evNum l a3 d3 6 = (n4, a4, d4) := ⟨_, _, _, rfl⟩
    obtain ⟨hat4, hn4⟩ : a4 ≤ l.length ∧ n4 ≤ 6 := by have h := evNum_at (d := d3) (most := 6) hat3; rw [hq4] at h; exact h
    have HI4 := Aside0.mk (inv_many (inv_time hi2 hq3) hq4)
    have HQ3 := Aside0.mk hq3
    have HQ4 := Aside0.mk hq4
    clear hg2 hi2 hq3 hq4 hn3 HI1
    go_wp2_with (first
      | (go_at_call_of 27 (Value.int .u64 1125899906842624); refine (evNum_told _ (w.heap.size) (w.heap.size + 1 + 1) (w.heap.size + 1 + 1 + 1) A c l a2 d1 1125899906842624 (Kd.C_below HR.out G2.out.below) HC.out HBY.out hl G2.out.b G2.out.a G2.out.d hat2 (by decide)).mono ?_; rw [HQ3.out]; rintro e w3 ⟨rfl, ha3, hd3, hs3⟩; have G3 := Aside0.mk (show GetEv A l.length c _ _ nm 0 (.slice none 0 0) w w3 from ⟨hs3.blk G2.out.b (by omega), hs3.blk G2.out.r (by omega), ha3, hd3, hs3.blk G2.out.e (by omega), Spares.below G2.out.below hs3 (by rintro i (rfl | rfl) <;> omega)⟩); clear ha3 hd3 hs3; obtain ⟨e31, e32, e33, e34⟩ := know G3.out.e; obtain ⟨a31, _, a33, _⟩ := know G3.out.a; obtain ⟨b31, _, _, _⟩ := know G3.out.b)
      | (have G3p : Aside0 (GetEv A l.length c a3 d3 nm (n3 : Int) (.slice none 0 0) w (w3.setCell ⟨w.heap.size + 1 + 1 + 1 + 1, 1, none⟩ (.int .i64 (n3 : Int)))) := ⟨blk_far G3.out.b (p := ⟨w.heap.size + 1 + 1 + 1 + 1, 1, none⟩) (show w.heap.size ≠ w.heap.size + 1 + 1 + 1 + 1 by omega) _, blk_far G3.out.r (p := ⟨w.heap.size + 1 + 1 + 1 + 1, 1, none⟩) (show w.heap.size + 1 ≠ w.heap.size + 1 + 1 + 1 + 1 by omega) _, blk_far G3.out.a (p := ⟨w.heap.size + 1 + 1 + 1 + 1, 1, none⟩) (show w.heap.size + 1 + 1 ≠ w.heap.size + 1 + 1 + 1 + 1 by omega) _, blk_far G3.out.d (p := ⟨w.heap.size + 1 + 1 + 1 + 1, 1, none⟩) (show w.heap.size + 1 + 1 + 1 ≠ w.heap.size + 1 + 1 + 1 + 1 by omega) _, blk_put G3.out.e 1 _ rfl, G3.out.below.setCell (p := ⟨w.heap.size + 1 + 1 + 1 + 1, 1, none⟩) (show w.heap.size ≤ w.heap.size + 1 + 1 + 1 + 1 by omega) _⟩; go_at_call_of 27 (Value.int .u64 6); refine (evNum_told _ (w.heap.size) (w.heap.size + 1 + 1) (w.heap.size + 1 + 1 + 1) A c l a3 d3 6 (Kd.C_below HR.out G3p.out.below) HC.out HBY.out hl G3p.out.b G3p.out.a G3p.out.d hat3 (by decide)).mono ?_; rw [HQ4.out]; rintro e w4 ⟨rfl, ha4, hd4, hs4⟩; have G4 := Aside0.mk (show GetEv A l.length c _ _ nm (n3 : Int) (.slice none 0 0) w w4 from ⟨hs4.blk G3p.out.b (by omega), hs4.blk G3p.out.r (by omega), ha4, hd4, hs4.blk G3p.out.e (by omega), Spares.below G3p.out.below hs4 (by rintro i (rfl | rfl) <;> omega)⟩); clear ha4 hd4 hs4; obtain ⟨e41, e42, e43, e44⟩ := know G4.out.e; obtain ⟨a41, _, a43, _⟩ := know G4.out.a; obtain ⟨b41, _, _, _⟩ := know G4.out.b))
    clear G0 G1 G2 G3 G3p HQ3 HQ4 HQ1 e31 e32 e33 e34 a31 a33 b31 e41 e42 e43 e44 a41 a43 b41
    go_loopw [10, 11, 12, 38] (fun _ _ _ v38 w' => ∃ k : Nat, v38 = .int .i64 k ∧ getERel l A c nm (n3 : Int) n4 w k w') (fun _ _ _ i _ => n4 - (intOf i).toNat)
    case atStart => exact ⟨0, rfl, Nat.zero_le _, a4, d4, [], _, rfl, hat4, (fun _ h => by cases h), HI4.out, G4.out, Kd.R_nil _ _ _ _ _⟩
    case round =>
      obtain ⟨k, rfl, hk, a, d, fs, v, hfl, hat, hwf, hinv, hg, ho⟩ := hrel
      have HINV := Aside0.mk hinv
      have HG := Aside0.mk hg
      have HO := Aside0.mk ho
      have HWF := Aside0.mk hwf
      have HFL := Aside0.mk hfl
      clear hinv hg ho hwf hfl G4 HI4
      by_cases hlt : k < n4
      · obtain ⟨A5, hcut5, hD5, hlc5⟩ := drop_row (P := Try.prog) (d := Kd.int .u8) Try.underlying27 hi0 hsz0 A c l a (a : Int) rfl hat HC.out
        have HD5 := Aside0.mk (hD5 wr (Kd.C_below HR.out HG.out.below))
        have HL5 := Aside0.mk hlc5
        have hal : a + (l.drop a).length = l.length := by rw [List.length_drop]; omega
        have HB5 := Aside0.mk (byteL_drop HBY.out a)
        obtain ⟨y, n5, b5, hq5⟩ : ∃ y n5 b5, gotV (getV (l.drop a)) = (y, n5, b5) := ⟨_, _, _, rfl⟩
        obtain ⟨hyw, hn5⟩ := gotV_i64 HB5.out hq5
        have hinv := HINV.out
        rw [show n4 - k = (n4 - (k + 1)) + 1 from by omega] at hinv
        have HI5 := Aside0.mk (inv_value hinv hq5)
        have HQ5 := Aside0.mk hq5
        have HYW := Aside0.mk hyw
        have hs5 : 0 ≤ (a : Int) + (n5 : Int) ∧ (a : Int) + (n5 : Int) ≤ 9223372036854775807 := by omega
        have hsa : a + n5 ≤ l.length := by omega
        obtain ⟨b1, _, _, _⟩ := know HG.out.b
        obtain ⟨a1', _, _, _⟩ := know HG.out.a
        clear hD5 hlc5 hinv hq5 hyw hi0 hsz0
        generalize l.drop a = ld at *
        cases d
        all_goals
          go_wp2_with (first
            | (go_at_call 29; refine (value_Get.told wr A5 _ ld HD5.out HL5.out HB5.out (by omega) HQ5.out).mono ?_; rintro e w5 ⟨rfl, hb5⟩; have G5 := Aside0.mk (show GetEv A l.length c a _ nm (n3 : Int) v w w5 from ⟨blk_below HG.out.b hb5, blk_below HG.out.r hb5, blk_below HG.out.a hb5, blk_below HG.out.d hb5, blk_below HG.out.e hb5, below_step HG.out.below hb5⟩); have HO5 := Aside0.mk (Kd.R_below HO.out hb5); obtain ⟨_, d2, _, d4'⟩ := know G5.out.d; obtain ⟨e1, _⟩ := know_past (b := w.heap.size + 1 + 1 + 1) G5.out.e (show w.heap.size + 1 + 1 + 1 + 1 ≠ w.heap.size + 1 + 1 + 1 by omega); have hz5 : w.heap.size + 1 + 1 + 1 + 1 < w5.heap.size := blk_lt G5.out.e; obtain ⟨x1, _⟩ := know_far (b := w.heap.size + 1 + 1 + 1) (blk_new w5 (.cells #[.int .i64 y.f0, .int .i64 y.f1, .string y.f2] 37)) (show w5.heap.size ≠ w.heap.size + 1 + 1 + 1 by omega); clear hb5)
            | ((with_reducible refine gate_builtin (b := .append) (xs := #[.tmp 54, .tmp 56]) rfl ?_); at_builtin; refine Kd.R_append kValue (w0 := w) w.heap.size rfl (.tmp 54) (.tmp 56) 22 37 (.agg #[(.int .i64 0), (.int .i64 0), (.string ⟨#[]⟩)]) 32 rfl Try.underlying22 infoValue rfl (by decide) (by decide) v fs y [.int .i64 y.f0, .int .i64 y.f1, .string y.f2] (fun _ => True) (fun _ => False) rfl ?hx (kValue_mkM _ _ _ y) (fun _ h => h.elim) (fun _ _ => trivial) (Kd.R_set (Kd.R_alloc HO5.out (.cells #[.int .i64 y.f0, .int .i64 y.f1, .string y.f2] 37)) (blk_alloc G5.out.d _) (by decide) 0 _) ((below_alloc G5.out.below (.cells #[.int .i64 y.f0, .int .i64 y.f1, .string y.f2] 37)).setCell (p := ⟨w.heap.size + 1 + 1 + 1, 0, none⟩) (show w.heap.size ≤ w.heap.size + 1 + 1 + 1 by omega) _) (by show w.heap.size ≤ _; rw [World.size_setCell, World.size_alloc]; omega) (by rw [HFL.out]; omega) ?_; (case hx => rw [World.size_setCell, World.size_alloc]; rfl); intro v6 w6 ho6 hb6 hg6 _; have HO6 := Aside0.mk ho6; have G6 := Aside0.mk (show GetEv A l.length c a _ nm (n3 : Int) v w w6 from ⟨blk_grown (blk_far (blk_alloc G5.out.b (.cells #[.int .i64 y.f0, .int .i64 y.f1, .string y.f2] 37)) (p := ⟨w.heap.size + 1 + 1 + 1, 0, none⟩) (show w.heap.size ≠ w.heap.size + 1 + 1 + 1 by omega) _) hg6 (Kd.R_ne HO5.out G5.out.b (by decide)), blk_grown (blk_far (blk_alloc G5.out.r (.cells #[.int .i64 y.f0, .int .i64 y.f1, .string y.f2] 37)) (p := ⟨w.heap.size + 1 + 1 + 1, 0, none⟩) (show w.heap.size + 1 ≠ w.heap.size + 1 + 1 + 1 by omega) _) hg6 (Kd.R_ne HO5.out G5.out.r (by decide)), blk_grown (blk_far (blk_alloc G5.out.a (.cells #[.int .i64 y.f0, .int .i64 y.f1, .string y.f2] 37)) (p := ⟨w.heap.size + 1 + 1 + 1, 0, none⟩) (show w.heap.size + 1 + 1 ≠ w.heap.size + 1 + 1 + 1 by omega) _) hg6 (Kd.R_ne HO5.out G5.out.a (by decide)), blk_grown (blk_put (blk_alloc G5.out.d (.cells #[.int .i64 y.f0, .int .i64 y.f1, .string y.f2] 37)) 0 _ rfl) hg6 (Kd.R_ne HO5.out G5.out.d (by decide)), blk_grown (blk_far (blk_alloc G5.out.e (.cells #[.int .i64 y.f0, .int .i64 y.f1, .string y.f2] 37)) (p := ⟨w.heap.size + 1 + 1 + 1, 0, none⟩) (show w.heap.size + 1 + 1 + 1 + 1 ≠ w.heap.size + 1 + 1 + 1 by omega) _) hg6 (Kd.R_ne HO5.out G5.out.e (by decide)), hb6⟩); obtain ⟨A6, c6, hv6⟩ := Kd.R_slice ho6; rw [List.length_append, List.length_singleton] at hv6; subst hv6; obtain ⟨e6, _, e6f, _⟩ := know G6.out.e; obtain ⟨a6, a6f⟩ := know_far (b := w.heap.size + 1 + 1 + 1 + 1) G6.out.a (show w.heap.size + 1 + 1 ≠ w.heap.size + 1 + 1 + 1 + 1 by omega); clear ho6 hb6 hg6))
          have HFN : Aside0 ((fs ++ [y]).length = k + 1) := ⟨by rw [List.length_append, HFL.out]; rfl⟩
          have HWN : Aside0 (∀ z ∈ fs ++ [y], i64V z) := ⟨fun z hz => by rcases List.mem_append.1 hz with h | h; exact HWF.out z h; rw [List.mem_singleton.1 h]; exact HYW.out⟩
          have G7 : Aside0 (GetEv A l.length c (a + n5) _ nm (n3 : Int) (.slice A6 (fs.length + 1) c6) w ((w6.setCell ⟨w.heap.size + 1 + 1 + 1 + 1, 2, none⟩ (.slice A6 (fs.length + 1) c6)).setCell ⟨w.heap.size + 1 + 1, 0, none⟩ (.int .i64 ((a : Int) + (n5 : Int))))) := ⟨blk_far (blk_far G6.out.b (p := ⟨w.heap.size + 1 + 1 + 1 + 1, 2, none⟩) (show w.heap.size ≠ w.heap.size + 1 + 1 + 1 + 1 by omega) _) (p := ⟨w.heap.size + 1 + 1, 0, none⟩) (show w.heap.size ≠ w.heap.size + 1 + 1 by omega) _, blk_far (blk_far G6.out.r (p := ⟨w.heap.size + 1 + 1 + 1 + 1, 2, none⟩) (show w.heap.size + 1 ≠ w.heap.size + 1 + 1 + 1 + 1 by omega) _) (p := ⟨w.heap.size + 1 + 1, 0, none⟩) (show w.heap.size + 1 ≠ w.heap.size + 1 + 1 by omega) _, blk_put (blk_far G6.out.a (p := ⟨w.heap.size + 1 + 1 + 1 + 1, 2, none⟩) (show w.heap.size + 1 + 1 ≠ w.heap.size + 1 + 1 + 1 + 1 by omega) _) 0 _ (by simp), blk_far (blk_far G6.out.d (p := ⟨w.heap.size + 1 + 1 + 1 + 1, 2, none⟩) (show w.heap.size + 1 + 1 + 1 ≠ w.heap.size + 1 + 1 + 1 + 1 by omega) _) (p := ⟨w.heap.size + 1 + 1, 0, none⟩) (show w.heap.size + 1 + 1 + 1 ≠ w.heap.size + 1 + 1 by omega) _, blk_far (blk_put G6.out.e 2 _ rfl) (p := ⟨w.heap.size + 1 + 1, 0, none⟩) (show w.heap.size + 1 + 1 + 1 + 1 ≠ w.heap.size + 1 + 1 by omega) _, (G6.out.below.setCell (p := ⟨w.heap.size + 1 + 1 + 1 + 1, 2, none⟩) (show w.heap.size ≤ w.heap.size + 1 + 1 + 1 + 1 by omega) _).setCell (p := ⟨w.heap.size + 1 + 1, 0, none⟩) (show w.heap.size ≤ w.heap.size + 1 + 1 by omega) _⟩
          have HO7 := Aside0.mk (Kd.R_set (Kd.R_set HO6.out G6.out.e (by decide) 2 (.slice A6 (fs.length + 1) c6)) (blk_far G6.out.a (p := ⟨w.heap.size + 1 + 1 + 1 + 1, 2, none⟩) (show w.heap.size + 1 + 1 ≠ w.heap.size + 1 + 1 + 1 + 1 by omega) _) (by decide) 0 (.int .i64 ((a : Int) + (n5 : Int))))
          go_roundw
          case measure => simp [intOf]; omega
          case rel => exact ⟨k + 1, by go_num, by omega, a + n5, _, fs ++ [y], _, HFN.out, hsa, HWN.out, HI5.out, G7.out, HO7.out⟩
      · obtain rfl : k = n4 := by omega
        obtain ⟨Av, cv, hv, hcv, hrv⟩ := Kd.R_reads HO.out
        subst hv
        have HRV := Aside0.mk hrv
        have HCV := Aside0.mk hcv
        have hend := HINV.out
        rw [Nat.sub_self] at hend
        have hend2 := inv_end hend
        obtain ⟨d1', _, _, _⟩ := know HG.out.d
        obtain ⟨e1, _, _, _⟩ := know HG.out.e
        obtain ⟨r1, _, r3, _⟩ := know HG.out.r
        obtain ⟨a1', _, _, _⟩ := know HG.out.a
        clear hrv hcv hend hi0 hsz0
        cases d with
        | true =>
          obtain ⟨rfl, rfl, rfl⟩ := evMk HQ.out hend2
          clear hend2
          go_wp2
          have hz := blk_put3 HG.out.r (.string ⟨#[]⟩) (.int .i64 0) (.slice none 0 0)
          have hbz := below_put3 HG.out.below ((show w.heap.size ≤ w.heap.size + 1 by omega)) (.string ⟨#[]⟩) (.int .i64 0) (.slice none 0 0)
          generalize World.setCell (World.setCell (World.setCell _ _ _) _ _) _ _ = W3 at hz hbz ⊢
          have hz0 : W3.cell? ⟨w.heap.size + 1, 0, none⟩ = some (.string ⟨#[]⟩) := blk_cell hz 0
          have hz1 : W3.cell? ⟨w.heap.size + 1, 1, none⟩ = some (.int .i64 0) := blk_cell hz 1
          have hz2 : W3.cell? ⟨w.heap.size + 1, 2, none⟩ = some (.slice none 0 0) := blk_cell hz 2
          exact bodyPost_ret (v := .tuple #[.agg #[.string ⟨#[]⟩, .int .i64 0, .slice none 0 0], .int .i64 0, .bool false]) (by simp [results, Try.results12, go_sem, hz0, hz1, hz2]) rfl ⟨none, 0, ⟨rfl, Nat.le_refl _, Kd.C_nil _ _⟩, hbz⟩
        | false =>
          obtain ⟨bm, hm⟩ : ∃ bm, mayE ⟨nm, (n3 : Int), fs⟩ = bm := ⟨_, rfl⟩
          rw [hm] at hend2
          have HM := Aside0.mk hm
          clear hm
          cases bm with
          | false =>
            obtain ⟨rfl, rfl, rfl⟩ := evMk HQ.out hend2
            clear hend2
            go_wp2_with (go_at_call 15; refine (event_May.told ⟨nm, (n3 : Int), fs⟩ Av cv _ HRV.out HCV.out HWF.out HM.out).mono ?_; rintro e w8 ⟨rfl, hb8⟩; have G8 := Aside0.mk (show GetEv A l.length c _ false nm (n3 : Int) (.slice Av fs.length cv) w w8 from ⟨blk_below HG.out.b hb8, blk_below HG.out.r hb8, blk_below HG.out.a hb8, blk_below HG.out.d hb8, blk_below HG.out.e hb8, below_step HG.out.below hb8⟩); have HO8 := Aside0.mk (Kd.R_below HO.out hb8); obtain ⟨p1, _, p3, _⟩ := know G8.out.r; obtain ⟨q1, _, _, _⟩ := know G8.out.e; obtain ⟨s1, _, _, _⟩ := know G8.out.a; clear hb8)
            have hz := blk_put3 G8.out.r (.string ⟨#[]⟩) (.int .i64 0) (.slice none 0 0)
            have hbz := below_put3 G8.out.below ((show w.heap.size ≤ w.heap.size + 1 by omega)) (.string ⟨#[]⟩) (.int .i64 0) (.slice none 0 0)
            generalize World.setCell (World.setCell (World.setCell _ _ _) _ _) _ _ = W3 at hz hbz ⊢
            have hz0 : W3.cell? ⟨w.heap.size + 1, 0, none⟩ = some (.string ⟨#[]⟩) := blk_cell hz 0
            have hz1 : W3.cell? ⟨w.heap.size + 1, 1, none⟩ = some (.int .i64 0) := blk_cell hz 1
            have hz2 : W3.cell? ⟨w.heap.size + 1, 2, none⟩ = some (.slice none 0 0) := blk_cell hz 2
            exact bodyPost_ret (v := .tuple #[.agg #[.string ⟨#[]⟩, .int .i64 0, .slice none 0 0], .int .i64 0, .bool false]) (by simp [results, Try.results12, go_sem, hz0, hz1, hz2]) rfl ⟨none, 0, ⟨rfl, Nat.le_refl _, Kd.C_nil _ _⟩, hbz⟩
          | true =>
            obtain ⟨rfl, rfl, rfl⟩ := evMk HQ.out hend2
            clear hend2
            go_wp2_with (go_at_call 15; refine (event_May.told ⟨nm, (n3 : Int), fs⟩ Av cv _ HRV.out HCV.out HWF.out HM.out).mono ?_; rintro e w8 ⟨rfl, hb8⟩; have G8 := Aside0.mk (show GetEv A l.length c _ false nm (n3 : Int) (.slice Av fs.length cv) w w8 from ⟨blk_below HG.out.b hb8, blk_below HG.out.r hb8, blk_below HG.out.a hb8, blk_below HG.out.d hb8, blk_below HG.out.e hb8, below_step HG.out.below hb8⟩); have HO8 := Aside0.mk (Kd.R_below HO.out hb8); obtain ⟨p1, _, p3, _⟩ := know G8.out.r; obtain ⟨q1, _, _, _⟩ := know G8.out.e; obtain ⟨s1, _, _, _⟩ := know G8.out.a; clear hb8)
            have hs80 := q1 0
            have hs81 := q1 1
            have hs82 := q1 2
            have ha80 := s1 0
            have hr80 := p1 0
            have hr81 := p1 1
            have hr82 := p1 2
            have hn1' : w.heap.size + 1 + 1 + 1 + 1 ≠ w.heap.size + 1 := by omega
            have hn2' : w.heap.size + 1 + 1 ≠ w.heap.size + 1 := by omega
            go_region_held3 (fun w' => w'.cell? ⟨w.heap.size + 1 + 1 + 1 + 1, 0, none⟩ = some (.string nm) ∧ w'.cell? ⟨w.heap.size + 1 + 1 + 1 + 1, 1, none⟩ = some (.int .i64 (n3 : Int)) ∧ w'.cell? ⟨w.heap.size + 1 + 1 + 1 + 1, 2, none⟩ = some (.slice Av fs.length cv) ∧ w'.cell? ⟨w.heap.size + 1 + 1, 0, none⟩ = some (.int .i64 (m : Int))) (first | exact ⟨hs80, hs81, hs82, ha80⟩ | exact ⟨cell_far3 (w := w8) hs80 hn1', cell_far3 (w := w8) hs81 hn1', cell_far3 (w := w8) hs82 hn1', cell_far3 (w := w8) ha80 hn2'⟩) (fail)
            have hz := blk_put3 G8.out.r (.string nm) (.int .i64 (n3 : Int)) (.slice Av fs.length cv)
            have hbz := below_put3 G8.out.below (show w.heap.size ≤ w.heap.size + 1 by omega) (.string nm) (.int .i64 (n3 : Int)) (.slice Av fs.length cv)
            have hrz := Kd.R_set (Kd.R_set (Kd.R_set HO8.out G8.out.r (by decide) 0 (.string nm)) (blk_set G8.out.r 0 _) (by decide) 1 (.int .i64 (n3 : Int))) (blk_set (blk_set G8.out.r 0 _) 1 _) (by decide) 2 (.slice Av fs.length cv)
            rename_i hheld_
            clear hheld_ q1 s1 p1 p3 hs80 hs81 hs82 ha80 hr80 hr81 hr82
            generalize World.setCell (World.setCell (World.setCell w8 _ _) _ _) _ _ = W3 at hz hbz hrz ⊢
            have hz0 : W3.cell? ⟨w.heap.size + 1, 0, none⟩ = some (.string nm) := blk_cell hz 0
            have hz1 : W3.cell? ⟨w.heap.size + 1, 1, none⟩ = some (.int .i64 (n3 : Int)) := blk_cell hz 1
            have hz2 : W3.cell? ⟨w.heap.size + 1, 2, none⟩ = some (.slice Av fs.length cv) := blk_cell hz 2
            have HRZ := Aside0.mk (Kd.C_drew (Kd.R_reads' hrz).2.2)
            have HBZ := Aside0.mk (below_drew hbz)
            clear hrz hbz hz
            go_wp2
            exact bodyPost_ret (v := .tuple #[.agg #[.string nm, .int .i64 (n3 : Int), .slice Av fs.length cv], .int .i64 (m : Int), .bool true]) (by simp [results, Try.results12, go_sem, hz0, hz1, hz2]) rfl ⟨Av, cv, ⟨rfl, HCV.out, HRZ.out⟩, HBZ.out⟩
end Go.Proofs.Ytandlemjjlamoaa.P

namespace Go.Proofs.Ytandlemjjlamoaa.P
open Go.RowKit Go.Proofs.YtandlemjjlamoaaW.PrintWords Go.Proofs.YtandlemjjlamoaaW.PrintLast Go.Proofs.YtandlemjjlamoaaW.PrintMore
attribute [local go_sem] max2_int min2_int max_two min_two max_three min_three max_four min_four   -- for this text's walks alone
set_option linter.unusedVariables false
set_option linter.unusedSimpArgs false
section
open Go.Shelf
attribute [local go_sem] Oper.semAt_some
def encP (p : SField × SValue) : Array Value := #[.agg #[.string p.1.f0, .int .i64 p.1.f1], .agg #[.int .i64 p.2.f0, .int .i64 p.2.f1, .string p.2.f2]]
def pairL (fs : List SField) (vs : List SValue) (k : Nat) : List (SField × SValue) := (List.range k).map fun j => (fs.getD j zField, vs.getD j zValue)
theorem pairL_succ (fs : List SField) (vs : List SValue) (k : Nat) : pairL fs vs (k + 1) = pairL fs vs k ++ [(fs.getD k zField, vs.getD k zValue)] := by simp [pairL, List.range_succ]
theorem pairL_length (fs : List SField) (vs : List SValue) (k : Nat) : (pairL fs vs k).length = k := by simp [pairL]
set_option maxRecDepth 100000 in
set_option maxHeartbeats 8000000 in
theorem pairs1_in (n : Nat) (hn : 1 ≤ n) (l Bs Be n₀ : Nat) (nm : ByteArray) (ver : Int) (fs : List SField) (As : Option Addr) (cs : Nat) (nm2 : ByteArray) (tm : Int) (vs : List SValue) (Ae : Option Addr) (ce : Nat) (hlen : fs.length = vs.length)
    (J Jx : List (SField × SValue) → World → Prop) (w0 W : World) (hJ : AbidesFrom W.heap.size J)
    (hY : ∀ pre x W, J pre W → pre.length < fs.length → YieldAt Fence.wide (n - 1) Try.prog l (encP x) W fun e W' => (e = .returned (.bool true) ∧ J (pre ++ [x]) W' ∧ Below n₀ W W') ∨ (e = .returned (.bool false) ∧ Jx (pre ++ [x]) W'))
    (hB0 : Below w0.heap.size w0 W) (hn0 : w0.heap.size ≤ n₀) (hnW : n₀ ≤ W.heap.size)
    (hrs : Kd.C kField w0 As fs.length fs) (hre : Kd.C kValue w0 Ae vs.length vs) (hBs : Bs < n₀) (hBe : Be < n₀)
    (hks : W.heap[Bs]? = some (.cells #[.string nm, .int .i64 ver, .slice As fs.length cs] 35 (0, 0))) (hke : W.heap[Be]? = some (.cells #[.string nm2, .int .i64 tm, .slice Ae vs.length ce] 24 (0, 0))) (h0 : J [] W) :
    CallsIn Fence.wide n Try.prog 52 #[.func (.yield l) #[] #[], .pointer (some ⟨Bs, 0, none⟩), .pointer (some ⟨Be, 0, none⟩)] W fun e W' => (∃ v, e = .returned v) ∧
      ((∃ ys, ys = pairL fs vs fs.length ∧ J ys W') ∨ (∃ pre, (∃ k, k ≤ fs.length ∧ pre = pairL fs vs k) ∧ Jx pre W')) := by
  have hl1 := hrs.2.1
  have HRS := Aside0.mk hrs
  have HRE := Aside0.mk hre
  have HKS := Aside0.mk hks
  have HKE := Aside0.mk hke
  have HB0 := Aside0.mk hB0
  have HLN := Aside0.mk hlen
  have ks2 : W.cell? ⟨Bs, 2, none⟩ = some (.slice As fs.length cs) := blk_cell hks 2
  have hJs := Aside0.mk hJ
  clear hrs hre hks hke hlen hB0 hJ
  refine callsIn_of_wp Try.func52 rfl trivial ?_ rfl
  simp only [Try.ntmps52, List.size_toArray, List.length_cons, List.length_nil, Nat.reduceAdd, Nat.reduceSub, Array.replicate_succ, Array.replicate_zero, List.push_toArray, List.append_toArray, List.nil_append, List.cons_append]
  gi_wp2
  gi_loopw [4, 5, 9] (fun _ _ v9 wr => ∃ k : Nat, k ≤ fs.length ∧ v9 = .int .i64 k ∧ J (pairL fs vs k) wr ∧ Below n₀ W wr) (fun _ _ i _ => fs.length - (intOf i).toNat)
  case atStart => exact ⟨0, Nat.zero_le _, rfl, h0, Below.refl _ _⟩
  case round =>
    obtain ⟨k, hk, rfl, hJk, hnx⟩ := hrel
    by_cases hlt : k < fs.length
    · have hbw : Below w0.heap.size w0 wr := HB0.out.trans (hnx.mono hn0)
      obtain ⟨ad, e, hx0, hx1⟩ := at_TField (Kd.C_below HRS.out hbw) (k : Int) (by omega) (by omega)
      cases e
      obtain ⟨ad2, e, hy0, hy1, hy2⟩ := at_TValue (Kd.C_below HRE.out hbw) (k : Int) (by omega) (by have := HLN.out; omega)
      cases e
      simp only [Int.toNat_natCast] at hx0 hx1 hy0 hy1 hy2
      rw [show rd_TField fs (k : Int) = fs.getD k zField from rfl] at hx0 hx1
      rw [show rd_TValue vs (k : Int) = vs.getD k zValue from rfl] at hy0 hy1 hy2
      have HSC := Aside0.mk (pairL_succ fs vs k)
      have hkv : k < vs.length := by have := HLN.out; omega
      generalize fs.getD k zField = x at *
      generalize vs.getD k zValue = y at *
      have hne : ((k : Int) == (vs.length : Int)) = false := by simp; omega
      have hk2 : (0 : Int) ≤ (k : Int) := by omega
      have hk3 : (k : Int) < (vs.length : Int) := by omega
      have HKE1 := Aside0.mk (blk_alloc (show wr.heap[Be]? = some (.cells #[.string nm2, .int .i64 tm, .slice (some ad2) vs.length ce] 24 (0, 0)) from (hnx.block _ hBe).trans HKE.out) (.cells #[.string x.f0, .int .i64 x.f1] 46))
      have HKX1 := Aside0.mk (blk_new wr (.cells #[.string x.f0, .int .i64 x.f1] 46))
      obtain ⟨e1, _, _, _⟩ := know HKE1.out
      obtain ⟨x1, _, _, _⟩ := know HKX1.out
      have y0 := cell_later (.cells #[.string x.f0, .int .i64 x.f1] 46) hy0
      have y1 := cell_later (.cells #[.string x.f0, .int .i64 x.f1] 46) hy1
      have y2 := cell_later (.cells #[.string x.f0, .int .i64 x.f1] 46) hy2
      have hg := World.grownBy_alloc wr (.cells #[.string x.f0, .int .i64 x.f1] 46) none
      have hJd : J (pairL fs vs k) (wr.alloc (.cells #[.string x.f0, .int .i64 x.f1] 46)).drew := hJs.out _ wr _ none hJk ⟨hg.1, hg.2, hg.3, hg.4, hg.5⟩ (fun r e => by cases e)
      obtain ⟨fn, tmps, assign, body, hy, hR⟩ := hY _ (x, y) _ hJd (by rw [pairL_length]; exact hlt)
      dsimp only [encP] at hy
      clear hJd hg
      have hR2 := hR.mono (R' := fun e W' => ∃ q, e = .returned (.bool q) ∧ Aside0 ((q = true → J (pairL fs vs k ++ [(x, y)]) W' ∧ Below n₀ (wr.alloc (.cells #[.string x.f0, .int .i64 x.f1] 46)).drew W') ∧ (q = false → Jx (pairL fs vs k ++ [(x, y)]) W'))) (by
        rintro e W' (⟨rfl, h1, h2⟩ | ⟨rfl, h1⟩)
        · exact ⟨true, rfl, ⟨fun _ => ⟨h1, h2⟩, fun h => by cases h⟩⟩
        · exact ⟨false, rfl, ⟨(fun h => by cases h), fun _ => h1⟩⟩)
      clear hR hY
      gi_wp2
      gi_region_with (refine hR2.mono ?_; rintro e W3 ⟨q, rfl, hq⟩)
      all_goals
        cases q with
        | true =>
          obtain ⟨hJ3, hk3⟩ := hq.out.1 rfl
          gi_wp2
          go_roundw
          case rel => exact ⟨k + 1, by omega, by simp, by rw [HSC.out]; exact hJ3, hnx.trans ((((Below.refl n₀ wr).alloc (Nat.le_trans hnW hnx.size) _).drew).trans hk3)⟩
          case measure => simp [intOf]; omega
        | false =>
          have hJx3 := hq.out.2 rfl
          gi_wp2
          refine bodyPost_ret (results_none rfl _ _ _) rfl ?_
          exact ⟨⟨_, rfl⟩, .inr ⟨_, ⟨k + 1, by omega, HSC.out.symm⟩, hJx3⟩⟩
    · obtain rfl : k = fs.length := by omega
      gi_wp2
      go_end0
      exact ⟨⟨_, rfl⟩, .inl ⟨_, rfl, hJk⟩⟩
theorem pairs_stops (n : Nat) (hn : 1 ≤ n) (Bs Be n₀ : Nat) (nm : ByteArray) (ver : Int) (fs : List SField) (As : Option Addr) (cs : Nat) (nm2 : ByteArray) (tm : Int) (vs : List SValue) (Ae : Option Addr) (ce : Nat) (hlen : fs.length = vs.length)
    (w0 W : World) (hB0 : Below w0.heap.size w0 W) (hn0 : w0.heap.size ≤ n₀) (hnW : n₀ ≤ W.heap.size)
    (hrs : Kd.C kField w0 As fs.length fs) (hre : Kd.C kValue w0 Ae vs.length vs) (hBs : Bs < n₀) (hBe : Be < n₀)
    (hks : W.heap[Bs]? = some (.cells #[.string nm, .int .i64 ver, .slice As fs.length cs] 35 (0, 0))) (hke : W.heap[Be]? = some (.cells #[.string nm2, .int .i64 tm, .slice Ae vs.length ce] 24 (0, 0))) :
    SeqStopsK Fence.wide n Try.prog 52 #[.pointer (some ⟨Bs, 0, none⟩), .pointer (some ⟨Be, 0, none⟩)] encP (Below n₀) (fun ys => ys = pairL fs vs fs.length) (fun pre => ∃ k, k ≤ fs.length ∧ pre = pairL fs vs k) fs.length W := by
  intro l J Jx W1 hW hJ _ hY h0
  have hs := hW.size
  exact pairs1_in n hn l Bs Be n₀ nm ver fs As cs nm2 tm vs Ae ce hlen J Jx w0 W1 hJ hY (below_step hB0 hW) hn0 (Nat.le_trans hnW hs) hrs hre hBs hBe ((hW.block _ (Nat.lt_of_lt_of_le hBs hnW)).trans hks) ((hW.block _ (Nat.lt_of_lt_of_le hBe hnW)).trans hke) h0
theorem pairs_told (nm : ByteArray) (ver : Int) (As : Option Addr) (ns cs : Nat) (nm2 : ByteArray) (tm : Int) (Ae : Option Addr) (ne ce : Nat) (w : World) :
    Calls Try.prog 30 #[.agg #[.string nm, .int .i64 ver, .slice As ns cs], .agg #[.string nm2, .int .i64 tm, .slice Ae ne ce]] w fun e w' => e = .returned (.func (.func 52) #[] #[.pointer (some ⟨w.heap.size, 0, none⟩), .pointer (some ⟨w.heap.size + 1, 0, none⟩)]) ∧ w' = (w.alloc (.cells #[.string nm, .int .i64 ver, .slice As ns cs] 35)).alloc (.cells #[.string nm2, .int .i64 tm, .slice Ae ne ce] 24) := by
  go_enter Try.func30, Try.ntmps30
  go_wp2
  go_ret
  exact ⟨rfl, rfl⟩
def kindsB (fs : List SField) (vs : List SValue) : Bool := (List.range fs.length).all fun j => (fs.getD j zField).f1 == (vs.getD j zValue).f0
def validE (s : SSchema) (x : SEvent) : Int := if mayS s = true ∧ mayE x = true then (if s.f0.toList = x.f0.toList then (if s.f2.length = x.f2.length then (if kindsB s.f2 x.f2 = true then 0 else 5) else 5) else 3) else 1
theorem kindsB_all {fs : List SField} {vs : List SValue} (h : ∀ p ∈ pairL fs vs fs.length, p.1.f1 = p.2.f0) : kindsB fs vs = true := by
  unfold kindsB
  rw [List.all_eq_true]
  intro j hj
  have := h _ (List.mem_map.2 ⟨j, hj, rfl⟩)
  simpa using this
theorem kindsB_hit {fs : List SField} {vs : List SValue} {k : Nat} (hk : k ≤ fs.length) {p : SField × SValue} (hp : p ∈ pairL fs vs k) (h : p.1.f1 ≠ p.2.f0) : kindsB fs vs = false := by
  unfold kindsB
  rw [List.all_eq_false]
  obtain ⟨j, hj, rfl⟩ := List.mem_map.1 hp
  have := List.mem_range.1 hj
  exact ⟨j, List.mem_range.2 (by omega), by simpa using h⟩
theorem blk_from {W W' : World} {g : Nat} {t : TypeId} {cs : Array Value} {row : Option Nat} (h : W.heap[g]? = some (.cells cs t (0, 0))) (hg : W.grownBy W' row) (hr : ∀ r, row = some r → ∃ o : Obj, W.heap[r]? = some o ∧ o.isCells = false) : W'.heap[g]? = some (.cells cs t (0, 0)) :=
  (hg.block g (blk_lt h) (fun e => by
    obtain ⟨o, ho, hc⟩ := hr g e.symm
    rw [h] at ho
    cases ho
    cases hc)).trans h
def intPost (r : Int) (w : World) (e : Ending) (w' : World) : Prop := e = .returned (.int .i64 r) ∧ Below w.heap.size w w'
theorem mayS_told (x : SSchema) (A2 : Option Addr) (c2 : Nat) (w : World) (hr : Kd.C kField w A2 x.f2.length x.f2) (hc : x.f2.length ≤ c2) {b : Bool} (hb : mayS x = b) :
    Calls Try.prog 14 #[.agg #[.string x.f0, .int .i64 x.f1, .slice A2 x.f2.length c2]] w (boolPost b w) := schema_May.calls x.f0 x.f1 A2 c2 x.f2 b w hr hc (by rw [← hb]; rfl)
set_option maxRecDepth 100000 in
set_option maxHeartbeats 8000000 in
theorem valid_main (s : SSchema) (x : SEvent) (As : Option Addr) (cs : Nat) (Ae : Option Addr) (ce : Nat) (w : World) (hrs : Kd.C kField w As s.f2.length s.f2) (hcs : s.f2.length ≤ cs) (hre : Kd.C kValue w Ae x.f2.length x.f2) (hce : x.f2.length ≤ ce) (hwf : ∀ v ∈ x.f2, i64V v)
    (hms : mayS s = true) (hme : mayE x = true) (hnm : s.f0.toList = x.f0.toList) (hlen : s.f2.length = x.f2.length) :
    CallsIn Fence.wide 6 Try.prog 13 #[.agg #[.string s.f0, .int .i64 s.f1, .slice As s.f2.length cs], .agg #[.string x.f0, .int .i64 x.f1, .slice Ae x.f2.length ce]] w (intPost (if kindsB s.f2 x.f2 = true then 0 else 5) w) := by
  have HRS := Aside0.mk hrs
  have HRE := Aside0.mk hre
  have HCS := Aside0.mk hcs
  have HCE := Aside0.mk hce
  have HWF := Aside0.mk hwf
  have HMS := Aside0.mk hms
  have HME := Aside0.mk hme
  have HLN := Aside0.mk hlen
  have hnm2 : (s.f0.toList != x.f0.toList) = false := by simp [hnm]
  have hnm3 : (s.f0.toList == x.f0.toList) = true := by simp [hnm]
  have hln2 : ((s.f2.length : Int) != (x.f2.length : Int)) = false := by simp [hlen]
  have hln3 : ((s.f2.length : Int) == (x.f2.length : Int)) = true := by simp [hlen]
  clear hrs hcs hre hce hwf hms hme hlen hnm
  obtain ⟨r, hr⟩ : ∃ r : Int, (if kindsB s.f2 x.f2 = true then 0 else 5) = r := ⟨_, rfl⟩
  rw [hr]
  have HRR := Aside0.mk hr
  clear hr
  refine callsIn_of_wp_marks Try.func13 rfl trivial ?_ rfl
  simp only [Try.ntmps13, List.size_toArray, List.length_cons, List.length_nil, Nat.reduceAdd, Nat.reduceSub, Array.replicate_succ, Array.replicate_zero, List.push_toArray, List.append_toArray, List.nil_append, List.cons_append]
  gi_wp2_with (first
    | (refine ⟨trivial, ?_⟩; gi_at_call 14; refine (callsIn_wide.2 (mayS_told s As cs _ (Kd.C_below HRS.out (below_alloc (below_alloc (below_alloc (Below.refl _ _) _) _) _)) HCS.out HMS.out)).mono ?_; rintro e w1 ⟨rfl, hb1⟩; have HB1 := Aside0.mk (below_step (below_alloc (below_alloc (below_alloc (Below.refl _ _) _) _) _) hb1); have HK1 := Aside0.mk (blk_below (blk_alloc (blk_alloc (blk_new w (.cells #[.string s.f0, .int .i64 s.f1, .slice As s.f2.length cs] 35)) _) _) hb1); have HL1 := Aside0.mk (blk_below (blk_alloc (blk_new2 w _ (.cells #[.string x.f0, .int .i64 x.f1, .slice Ae x.f2.length ce] 24)) _) hb1); have HQ1 := Aside0.mk (blk_below (blk_new3 w _ _ (.cells #[.int .i64 0] 38)) hb1); obtain ⟨k1, _, _, _⟩ := know HK1.out; obtain ⟨l1, _, _, _⟩ := know HL1.out; clear hb1)
    | (refine ⟨trivial, ?_⟩; gi_at_call 15; refine (callsIn_wide.2 (event_May.told x Ae ce _ (Kd.C_below HRE.out HB1.out) HCE.out HWF.out HME.out)).mono ?_; rintro e w2 ⟨rfl, hb2⟩; have HB2 := Aside0.mk (below_step HB1.out hb2); have HK2 := Aside0.mk (blk_below HK1.out hb2); have HL2 := Aside0.mk (blk_below HL1.out hb2); have HQ2 := Aside0.mk (blk_below HQ1.out hb2); obtain ⟨k2, _, _, _⟩ := know HK2.out; obtain ⟨l2, _, _, _⟩ := know HL2.out; clear hb2)
    | (refine ⟨trivial, ?_⟩; gi_at_call 30; refine (callsIn_wide.2 (pairs_told s.f0 s.f1 As s.f2.length cs x.f0 x.f1 Ae x.f2.length ce _)).mono ?_; rintro e w3 ⟨rfl, rfl⟩))
  have HB3 := Aside0.mk (below_alloc (below_alloc HB2.out (.cells #[.string s.f0, .int .i64 s.f1, .slice As s.f2.length cs] 35)) (.cells #[.string x.f0, .int .i64 x.f1, .slice Ae x.f2.length ce] 24))
  have HQ3 := Aside0.mk (blk_alloc (blk_alloc HQ2.out (.cells #[.string s.f0, .int .i64 s.f1, .slice As s.f2.length cs] 35)) (.cells #[.string x.f0, .int .i64 x.f1, .slice Ae x.f2.length ce] 24))
  have HS3 := Aside0.mk (blk_alloc (blk_new w2 (.cells #[.string s.f0, .int .i64 s.f1, .slice As s.f2.length cs] 35)) (.cells #[.string x.f0, .int .i64 x.f1, .slice Ae x.f2.length ce] 24))
  have HE3 := Aside0.mk (blk_new2 w2 (.cells #[.string s.f0, .int .i64 s.f1, .slice As s.f2.length cs] 35) (.cells #[.string x.f0, .int .i64 x.f1, .slice Ae x.f2.length ce] 24))
  have hsz : ((w2.alloc (.cells #[.string s.f0, .int .i64 s.f1, .slice As s.f2.length cs] 35)).alloc (.cells #[.string x.f0, .int .i64 x.f1, .slice Ae x.f2.length ce] 24)).heap.size = w2.heap.size + 1 + 1 := by simp
  obtain ⟨W0, hW0⟩ : ∃ W0, ((w2.alloc (.cells #[.string s.f0, .int .i64 s.f1, .slice As s.f2.length cs] 35)).alloc (.cells #[.string x.f0, .int .i64 x.f1, .slice Ae x.f2.length ce] 24)) = W0 := ⟨_, rfl⟩
  rw [hW0] at HB3 HQ3 HS3 HE3 hsz ⊢
  have HSZ := Aside0.mk hsz
  have hw2 := Aside0.mk (below_size HB2.out)
  clear hW0 hsz HB2 HQ2 HK1 HL1 HQ1 HK2 HL2 HB1 k1 l1 k2 l2
  refine wpIn_rangeFunc_ownH (α := SField × SValue) rfl (by decide) (gf := 52) (lb := #[.pointer (some ⟨w2.heap.size, 0, none⟩), .pointer (some ⟨w2.heap.size + 1, 0, none⟩)]) rfl trivial (enters_of Try.func52 (by kernel_rfl) rfl)
    (pairs_stops 5 (by decide) w2.heap.size (w2.heap.size + 1) W0.heap.size s.f0 s.f1 s.f2 As cs x.f0 x.f1 x.f2 Ae ce HLN.out w W0 HB3.out (below_size HB3.out) (Nat.le_refl _) HRS.out HRE.out (by rw [HSZ.out]; omega) (by rw [HSZ.out]; omega) HS3.out HE3.out)
    belowK_t (belowK_b (Nat.le_refl _)) (Below.refl _ _) (fun _ => rfl)
    (fun pre W => ((∀ p ∈ pre, p.1.f1 = p.2.f0) ∧ Boxed W (w.heap.size + 1 + 1) 38 (.int .i64 0)) ∧ Below W0.heap.size W0 W)
    (fun c pre W => ((c = .ret ∧ ∃ p ∈ pre, p.1.f1 ≠ p.2.f0) ∧ Boxed W (w.heap.size + 1 + 1) 38 (.int .i64 5)) ∧ Below w.heap.size w W)
    (OwnFrom.and (OwnFrom.and (ownFrom_pure _ _) (Own.from (boxed_own _ _ _) _)) (ownFrom_below (Nat.le_refl _) (Nat.le_refl _)))
    (fun c => OwnFrom.and (OwnFrom.and (ownFrom_pure _ _) (Own.from (boxed_own _ _ _) _)) (ownFrom_below (Nat.le_refl _) (below_size HB3.out)))
    ⟨⟨(fun p hp => by cases hp), HQ3.out⟩, Below.refl _ _⟩
    (fun p a' W => ∃ Bf Bv, W0.heap.size ≤ Bf ∧ W0.heap.size ≤ Bv ∧ W.heap[Bf]? = some (.cells #[.string p.1.f0, .int .i64 p.1.f1] 46 (0, 0)) ∧ W.heap[Bv]? = some (.cells #[.int .i64 p.2.f0, .int .i64 p.2.f1, .string p.2.f2] 37 (0, 0)) ∧ a' = { tmps := #[.agg #[.string s.f0, .int .i64 s.f1, .slice As s.f2.length cs], .agg #[.string x.f0, .int .i64 x.f1, .slice Ae x.f2.length ce], .pointer (some ⟨w.heap.size, 0, none⟩), .pointer (some ⟨w.heap.size + 1, 0, none⟩), .pointer (some ⟨w.heap.size + 1 + 1, 0, none⟩), .pointer (some ⟨Bf, 0, none⟩), .pointer (some ⟨Bv, 0, none⟩), .bool false, .agg #[.string s.f0, .int .i64 s.f1, .slice As s.f2.length cs], .bool true, .bool false, .agg #[.string x.f0, .int .i64 x.f1, .slice Ae x.f2.length ce], .bool true, .bool false, .bool false, .pointer (some ⟨w.heap.size, 0, none⟩), .string s.f0, .pointer (some ⟨w.heap.size + 1, 0, none⟩), .string x.f0, .bool false, .bool false, .pointer (some ⟨w.heap.size, 2, none⟩), .slice As s.f2.length cs, .int .i64 (s.f2.length : Int), .pointer (some ⟨w.heap.size + 1, 2, none⟩), .slice Ae x.f2.length ce, .int .i64 (x.f2.length : Int), .bool false, .agg #[.string s.f0, .int .i64 s.f1, .slice As s.f2.length cs], .agg #[.string x.f0, .int .i64 x.f1, .slice Ae x.f2.length ce], .func (.func 52) #[] #[.pointer (some ⟨w2.heap.size, 0, none⟩), .pointer (some ⟨w2.heap.size + 1, 0, none⟩)], .agg #[.string p.1.f0, .int .i64 p.1.f1], .agg #[.int .i64 p.2.f0, .int .i64 p.2.f1, .string p.2.f2], undef, undef, undef, undef, undef], defers := [] })
    (fun p a' _ X Y row hs hg hr => by
      obtain ⟨Bf, Bv, h1, h2, h3, h4, h5⟩ := hs
      exact ⟨Bf, Bv, h1, h2, blk_from h3 hg (fun r e => (hr r e).2), blk_from h4 hg (fun r e => (hr r e).2), h5⟩)
    ?assign ?body ?done ?stop
  case assign =>
    rintro l pre p W K ⟨⟨h1, h2⟩, h3⟩ hK
    dsimp only [encP]
    gi_wp2
    have hs := h3.size
    exact hK _ _ (((KeepsOthers.alloc _ _).trans (KeepsOthers.alloc _ _)).from _) (((Below.refl _ W).alloc hs _).alloc (by simp; omega) _) ⟨⟨h1, blk_alloc (blk_alloc h2 _) _⟩, (h3.alloc hs _).alloc (by simp; omega) _⟩ ⟨W.heap.size, W.heap.size + 1, hs, by omega, blk_alloc (blk_new _ _) _, blk_new2 _ _ _, rfl⟩
  case body =>
    rintro l pre p a' W hl ⟨r, hr⟩ ⟨⟨h1, h2⟩, h3⟩ ⟨Bf, Bv, h4, h5, h6, h7, rfl⟩ hlt
    obtain ⟨f1, _, _, _⟩ := know h6
    obtain ⟨v1, _, _, _⟩ := know h7
    obtain ⟨q1, _, q3, _⟩ := know (show W.heap[w.heap.size + 1 + 1]? = some (.cells #[.int .i64 0] 38 (0, 0)) from h2)
    have hbw := below_step HB3.out (h3.mono (Nat.le_refl _))
    by_cases hk : p.1.f1 = p.2.f0
    · have hk2 : (p.1.f1 == p.2.f0) = true := by simp [hk]
      have HK := Aside0.mk hk
      clear hk
      gi_wp2
      exact ⟨KeepsFrom.refl _ _, Below.refl _ _, ⟨fun q hq => (List.mem_append.1 hq).elim (h1 q) (fun e => by rw [List.mem_singleton.1 e]; exact HK.out), h2⟩, h3⟩
    · have hk2 : (p.1.f1 == p.2.f0) = false := by simp [hk]
      have HK := Aside0.mk hk
      clear hk
      gi_wp2
      exact ⟨(KeepsOthers.setCell _ _ _).from _, ⟨⟨rfl, p, by simp, HK.out⟩, blk_put h2 0 _ rfl⟩, hbw.setCell (p := ⟨w.heap.size + 1 + 1, 0, none⟩) (show w.heap.size ≤ w.heap.size + 1 + 1 by omega) _⟩
  case done =>
    rintro D ys W hD rfl ⟨⟨h1, h2⟩, h3⟩ hK
    have hr := HRR.out
    rw [if_pos (kindsB_all h1)] at hr
    subst hr
    obtain ⟨q1, _, q3, _⟩ := know (show W.heap[w.heap.size + 1 + 1]? = some (.cells #[.int .i64 0] 38 (0, 0)) from h2)
    have hbw := below_step HB3.out (h3.mono (Nat.le_refl _))
    gi_wp2
    have hK' := (KeepsOthers.setCell W ⟨w.heap.size + 1 + 1, 0, none⟩ (.int .i64 0)).same D _ hK rfl
    refine ⟨by simp, .inl ⟨_, _, rfl, run_takeDeferred hK', ?_⟩⟩
    have hc5 := cell_kept (World.cell?_setCell_same' W ⟨w.heap.size + 1 + 1, 0, none⟩ (.int .i64 0) (by rw [q1 0]; rfl)) (grownBy_putObj' _ D (.deferred none)) (fun r e => by cases e; exact ⟨_, hK', rfl⟩)
    refine ⟨.int .i64 0, ?_, rfl, (hbw.setCell (p := ⟨w.heap.size + 1 + 1, 0, none⟩) (show w.heap.size ≤ w.heap.size + 1 + 1 by omega) _).trans (belowK_b (w := w) (Nat.le_refl _) _ D _ _ (Nat.le_trans (below_size HB3.out) hD) hK' rfl rfl)⟩
    simp [results, Try.f13, go_sem, hc5]
  case stop =>
    rintro D c pre W hD ⟨k, hk, rfl⟩ ⟨⟨⟨rfl, p, hp, hne⟩, h2⟩, h3⟩ hK
    have hr := HRR.out
    rw [if_neg (by rw [kindsB_hit hk hp hne]; simp)] at hr
    subst hr
    obtain ⟨q1, _, q3, _⟩ := know (show W.heap[w.heap.size + 1 + 1]? = some (.cells #[.int .i64 5] 38 (0, 0)) from h2)
    have HB := Aside0.mk h3
    gi_wp2
    refine ⟨by simp, .inl ⟨_, _, rfl, run_takeDeferred hK, ?_⟩⟩
    have hc5 := cell_kept (q1 0) (grownBy_putObj' _ D (.deferred none)) (fun r e => by cases e; exact ⟨_, hK, rfl⟩)
    refine ⟨.int .i64 5, ?_, rfl, HB.out.trans (belowK_b (w := w) (Nat.le_refl _) W D _ _ (Nat.le_trans (below_size HB3.out) hD) hK rfl rfl)⟩
    simp [results, Try.f13, go_sem, hc5]
set_option maxRecDepth 100000 in
set_option maxHeartbeats 8000000 in
theorem event_Valid.told (s : SSchema) (x : SEvent) (As : Option Addr) (cs : Nat) (Ae : Option Addr) (ce : Nat) (w : World) (hrs : Kd.C kField w As s.f2.length s.f2) (hcs : s.f2.length ≤ cs) (hre : Kd.C kValue w Ae x.f2.length x.f2) (hce : x.f2.length ≤ ce) (hwf : ∀ v ∈ x.f2, i64V v) {r : Int} (hr : validE s x = r) :
    Calls Try.prog 13 #[.agg #[.string s.f0, .int .i64 s.f1, .slice As s.f2.length cs], .agg #[.string x.f0, .int .i64 x.f1, .slice Ae x.f2.length ce]] w (intPost r w) := by
  have HRS := Aside0.mk hrs
  have HRE := Aside0.mk hre
  have HCS := Aside0.mk hcs
  have HCE := Aside0.mk hce
  have HWF := Aside0.mk hwf
  unfold validE at hr
  cases hms : mayS s with
  | false =>
    rw [if_neg (by rw [hms]; simp)] at hr
    subst hr
    have HMS := Aside0.mk hms
    clear hrs hcs hre hce hwf hms
    go_enter Try.func13, Try.ntmps13
    go_wp2_with (go_at_call 14; refine (mayS_told s As cs _ (Kd.C_below HRS.out (below_alloc (below_alloc (below_alloc (Below.refl _ _) _) _) _)) HCS.out HMS.out).mono ?_; rintro e w1 ⟨rfl, hb1⟩; have HB1 := Aside0.mk (below_step (below_alloc (below_alloc (below_alloc (Below.refl _ _) _) _) _) hb1); have HK1 := Aside0.mk (blk_below (blk_alloc (blk_alloc (blk_new w (.cells #[.string s.f0, .int .i64 s.f1, .slice As s.f2.length cs] 35)) _) _) hb1); have HL1 := Aside0.mk (blk_below (blk_alloc (blk_new2 w _ (.cells #[.string x.f0, .int .i64 x.f1, .slice Ae x.f2.length ce] 24)) _) hb1); have HQ1 := Aside0.mk (blk_below (blk_new3 w _ _ (.cells #[.int .i64 0] 38)) hb1); obtain ⟨k1, _, _, _⟩ := know HK1.out; obtain ⟨l1, _, _, _⟩ := know HL1.out; obtain ⟨_, _, _, _⟩ := know HQ1.out; clear hb1)
    have hz := blk_put HQ1.out 0 (.int .i64 1) rfl
    have hbz := HB1.out.setCell (p := ⟨w.heap.size + 1 + 1, 0, none⟩) (show w.heap.size ≤ w.heap.size + 1 + 1 by omega) (.int .i64 1)
    generalize World.setCell _ _ _ = W3 at hz hbz ⊢
    have hz0 : W3.cell? ⟨w.heap.size + 1 + 1, 0, none⟩ = some (.int .i64 1) := blk_cell hz 0
    exact bodyPost_ret (v := .int .i64 1) (by simp [results, Try.results13, go_sem, hz0]) rfl ⟨rfl, hbz⟩
  | true =>
    have HMS := Aside0.mk hms
    cases hme : mayE x with
    | false =>
      rw [if_neg (by rw [hme]; simp)] at hr
      subst hr
      have HME := Aside0.mk hme
      clear hrs hcs hre hce hwf hms hme
      go_enter Try.func13, Try.ntmps13
      go_wp2_with (first
        | (go_at_call 14; refine (mayS_told s As cs _ (Kd.C_below HRS.out (below_alloc (below_alloc (below_alloc (Below.refl _ _) _) _) _)) HCS.out HMS.out).mono ?_; rintro e w1 ⟨rfl, hb1⟩; have HB1 := Aside0.mk (below_step (below_alloc (below_alloc (below_alloc (Below.refl _ _) _) _) _) hb1); have HK1 := Aside0.mk (blk_below (blk_alloc (blk_alloc (blk_new w (.cells #[.string s.f0, .int .i64 s.f1, .slice As s.f2.length cs] 35)) _) _) hb1); have HL1 := Aside0.mk (blk_below (blk_alloc (blk_new2 w _ (.cells #[.string x.f0, .int .i64 x.f1, .slice Ae x.f2.length ce] 24)) _) hb1); have HQ1 := Aside0.mk (blk_below (blk_new3 w _ _ (.cells #[.int .i64 0] 38)) hb1); obtain ⟨k1, _, _, _⟩ := know HK1.out; obtain ⟨l1, _, _, _⟩ := know HL1.out; obtain ⟨_, _, _, _⟩ := know HQ1.out; clear hb1)
        | (go_at_call 15; refine (event_May.told x Ae ce _ (Kd.C_below HRE.out HB1.out) HCE.out HWF.out HME.out).mono ?_; rintro e w2 ⟨rfl, hb2⟩; have HB2 := Aside0.mk (below_step HB1.out hb2); have HK2 := Aside0.mk (blk_below HK1.out hb2); have HL2 := Aside0.mk (blk_below HL1.out hb2); have HQ2 := Aside0.mk (blk_below HQ1.out hb2); obtain ⟨k2, _, _, _⟩ := know HK2.out; obtain ⟨l2, _, _, _⟩ := know HL2.out; obtain ⟨_, _, _, _⟩ := know HQ2.out; clear hb2))
      have hz := blk_put HQ2.out 0 (.int .i64 1) rfl
      have hbz := HB2.out.setCell (p := ⟨w.heap.size + 1 + 1, 0, none⟩) (show w.heap.size ≤ w.heap.size + 1 + 1 by omega) (.int .i64 1)
      generalize World.setCell _ _ _ = W3 at hz hbz ⊢
      have hz0 : W3.cell? ⟨w.heap.size + 1 + 1, 0, none⟩ = some (.int .i64 1) := blk_cell hz 0
      exact bodyPost_ret (v := .int .i64 1) (by simp [results, Try.results13, go_sem, hz0]) rfl ⟨rfl, hbz⟩
    | true =>
      have HME := Aside0.mk hme
      rw [if_pos ⟨hms, hme⟩] at hr
      by_cases hnm : s.f0.toList = x.f0.toList
      · rw [if_pos hnm] at hr
        by_cases hlen : s.f2.length = x.f2.length
        · rw [if_pos hlen] at hr
          subst hr
          exact callsIn_wide.1 (valid_main s x As cs Ae ce w hrs hcs hre hce hwf hms hme hnm hlen)
        · rw [if_neg hlen] at hr
          subst hr
          have hnm3 : (s.f0.toList == x.f0.toList) = true := by simp [hnm]
          have hln3 : ((s.f2.length : Int) == (x.f2.length : Int)) = false := by simp; omega
          clear hrs hcs hre hce hwf hms hme hnm hlen
          go_enter Try.func13, Try.ntmps13
          go_wp2_with (first
            | (go_at_call 14; refine (mayS_told s As cs _ (Kd.C_below HRS.out (below_alloc (below_alloc (below_alloc (Below.refl _ _) _) _) _)) HCS.out HMS.out).mono ?_; rintro e w1 ⟨rfl, hb1⟩; have HB1 := Aside0.mk (below_step (below_alloc (below_alloc (below_alloc (Below.refl _ _) _) _) _) hb1); have HK1 := Aside0.mk (blk_below (blk_alloc (blk_alloc (blk_new w (.cells #[.string s.f0, .int .i64 s.f1, .slice As s.f2.length cs] 35)) _) _) hb1); have HL1 := Aside0.mk (blk_below (blk_alloc (blk_new2 w _ (.cells #[.string x.f0, .int .i64 x.f1, .slice Ae x.f2.length ce] 24)) _) hb1); have HQ1 := Aside0.mk (blk_below (blk_new3 w _ _ (.cells #[.int .i64 0] 38)) hb1); obtain ⟨k1, _, _, _⟩ := know HK1.out; obtain ⟨l1, _, _, _⟩ := know HL1.out; obtain ⟨_, _, _, _⟩ := know HQ1.out; clear hb1)
            | (go_at_call 15; refine (event_May.told x Ae ce _ (Kd.C_below HRE.out HB1.out) HCE.out HWF.out HME.out).mono ?_; rintro e w2 ⟨rfl, hb2⟩; have HB2 := Aside0.mk (below_step HB1.out hb2); have HK2 := Aside0.mk (blk_below HK1.out hb2); have HL2 := Aside0.mk (blk_below HL1.out hb2); have HQ2 := Aside0.mk (blk_below HQ1.out hb2); obtain ⟨k2, _, _, _⟩ := know HK2.out; obtain ⟨l2, _, _, _⟩ := know HL2.out; obtain ⟨_, _, _, _⟩ := know HQ2.out; clear hb2))
          have hz := blk_put HQ2.out 0 (.int .i64 5) rfl
          have hbz := HB2.out.setCell (p := ⟨w.heap.size + 1 + 1, 0, none⟩) (show w.heap.size ≤ w.heap.size + 1 + 1 by omega) (.int .i64 5)
          generalize World.setCell _ _ _ = W3 at hz hbz ⊢
          have hz0 : W3.cell? ⟨w.heap.size + 1 + 1, 0, none⟩ = some (.int .i64 5) := blk_cell hz 0
          exact bodyPost_ret (v := .int .i64 5) (by simp [results, Try.results13, go_sem, hz0]) rfl ⟨rfl, hbz⟩
      · rw [if_neg hnm] at hr
        subst hr
        have hnm3 : (s.f0.toList == x.f0.toList) = false := by simp [hnm]
        clear hrs hcs hre hce hwf hms hme hnm
        go_enter Try.func13, Try.ntmps13
        go_wp2_with (first
          | (go_at_call 14; refine (mayS_told s As cs _ (Kd.C_below HRS.out (below_alloc (below_alloc (below_alloc (Below.refl _ _) _) _) _)) HCS.out HMS.out).mono ?_; rintro e w1 ⟨rfl, hb1⟩; have HB1 := Aside0.mk (below_step (below_alloc (below_alloc (below_alloc (Below.refl _ _) _) _) _) hb1); have HK1 := Aside0.mk (blk_below (blk_alloc (blk_alloc (blk_new w (.cells #[.string s.f0, .int .i64 s.f1, .slice As s.f2.length cs] 35)) _) _) hb1); have HL1 := Aside0.mk (blk_below (blk_alloc (blk_new2 w _ (.cells #[.string x.f0, .int .i64 x.f1, .slice Ae x.f2.length ce] 24)) _) hb1); have HQ1 := Aside0.mk (blk_below (blk_new3 w _ _ (.cells #[.int .i64 0] 38)) hb1); obtain ⟨k1, _, _, _⟩ := know HK1.out; obtain ⟨l1, _, _, _⟩ := know HL1.out; obtain ⟨_, _, _, _⟩ := know HQ1.out; clear hb1)
          | (go_at_call 15; refine (event_May.told x Ae ce _ (Kd.C_below HRE.out HB1.out) HCE.out HWF.out HME.out).mono ?_; rintro e w2 ⟨rfl, hb2⟩; have HB2 := Aside0.mk (below_step HB1.out hb2); have HK2 := Aside0.mk (blk_below HK1.out hb2); have HL2 := Aside0.mk (blk_below HL1.out hb2); have HQ2 := Aside0.mk (blk_below HQ1.out hb2); obtain ⟨k2, _, _, _⟩ := know HK2.out; obtain ⟨l2, _, _, _⟩ := know HL2.out; obtain ⟨_, _, _, _⟩ := know HQ2.out; clear hb2))
        have hz := blk_put HQ2.out 0 (.int .i64 3) rfl
        have hbz := HB2.out.setCell (p := ⟨w.heap.size + 1 + 1, 0, none⟩) (show w.heap.size ≤ w.heap.size + 1 + 1 by omega) (.int .i64 3)
        generalize World.setCell _ _ _ = W3 at hz hbz ⊢
        have hz0 : W3.cell? ⟨w.heap.size + 1 + 1, 0, none⟩ = some (.int .i64 3) := blk_cell hz 0
        exact bodyPost_ret (v := .int .i64 3) (by simp [results, Try.results13, go_sem, hz0]) rfl ⟨rfl, hbz⟩
end
end Go.Proofs.Ytandlemjjlamoaa.P

namespace Go.Proofs.Ytandlemjjlamoaa.P
open Go.RowKit Go.Proofs.YtandlemjjlamoaaW.PrintWords Go.Proofs.YtandlemjjlamoaaW.PrintLast Go.Proofs.YtandlemjjlamoaaW.PrintMore
attribute [local go_sem] max2_int min2_int max_two min_two max_three min_three max_four min_four   -- for this text's walks alone
set_option linter.unusedVariables false
set_option linter.unusedSimpArgs false
mutual
def towncrierlaw06_Few.j0 : Nat → Bool → ByteArray → Int → List (SValue) → Option (Bool)
  | 0, _, _, _, _ => none
  | k + 1, x13, x103000, x103001, x103002 => if x13 = true then (some false) else (towncrierlaw06_Few.l0 k 0 x103000 x103001 x103002)
def towncrierlaw06_Few.l0 : Nat → Int → ByteArray → Int → List (SValue) → Option (Bool)
  | 0, _, _, _, _ => none
  | k + 1, x3, x103000, x103001, x103002 => if x3 < (x103002.length : Int) then (if 0 ≤ x3 then (if (((rd_TValue x103002 x3).f2).size : Int) > 100 then (some false) else (towncrierlaw06_Few.l0 k (wrap64 (x3 + 1)) x103000 x103001 x103002)) else (none)) else (some true)
end
def towncrierlaw06_Few.f (k : Nat) (a0_0 : ByteArray) (a0_1 : Int) (l0_2 : List (SValue)) : Option (Bool) := if (a0_0.size : Int) > 60 then (towncrierlaw06_Few.j0 k true a0_0 a0_1 l0_2) else (towncrierlaw06_Few.j0 k (decide ((l0_2.length : Int) > 10)) a0_0 a0_1 l0_2)
set_option maxHeartbeats 8000000 in
set_option maxRecDepth 100000 in
theorem towncrierlaw06_Few.calls (k : Nat) (a0_0 : ByteArray) (a0_1 : Int) (A0_2 : Option Addr) (c0_2 : Nat) (l0_2 : List (SValue)) (r : Bool) (w : World) (hr0_2 : Kd.C kValue w A0_2 l0_2.length l0_2) (hc0_2 : l0_2.length ≤ c0_2) (h : towncrierlaw06_Few.f k a0_0 a0_1 l0_2 = some r) :
    Calls Try.prog 10 #[.agg #[.string a0_0, .int .i64 a0_1, .slice A0_2 l0_2.length c0_2]] w fun e w' => e = .returned (.bool r) ∧ Below w.heap.size w w' := by
  have hu24 := Try.underlying24
  have HR0_2 := Aside0.mk hr0_2
  have HC0_2 := Aside0.mk hc0_2
  clear hr0_2 hc0_2
  have HB := Aside0.mk (Below.refl w.heap.size w)
  have H : (if (a0_0.size : Int) > 60 then (towncrierlaw06_Few.j0 k true a0_0 a0_1 l0_2) else (towncrierlaw06_Few.j0 k (decide ((l0_2.length : Int) > 10)) a0_0 a0_1 l0_2)) = some r := h
  clear h
  have HC2 := Aside0.mk H
  clear H
  go_enter Try.func10, Try.ntmps10
  go_upto_region 1 with (first | ((with_reducible refine gate_dst (N := 1) rfl ?_); (try (refine gate_guard (by rfl) ?_; dsimp only)); refine box_event ?hg (N := 1) ?hd (cs := #[.string a0_0, .int .i64 a0_1, .slice A0_2 l0_2.length c0_2]) (t := 24) ?hr ?_; (case hd => rfl); (case hg => rfl); (case hr => first | (go_simp; done) | (go_simp; rfl)); intro gb102 hg w3 hbox hb; have n0_ := Aside0.mk (below_step (by repeat (first | (with_reducible first | exact HB.out | apply below_alloc | apply pw_below_drewN | apply below_drew1) | exact HB.out)) hb); have n1_ := Aside0.mk (hbox); have n2_ := Aside0.mk ((by rw [hg]; exact (below_size (by repeat (first | (with_reducible first | exact HB.out | apply below_alloc | apply pw_below_drewN | apply below_drew1) | exact HB.out))) : w.heap.size ≤ gb102)); have n3_ := Aside0.mk ((by rw [hg]; exact (below_size (by repeat (first | (with_reducible first | exact HB.out | apply below_alloc | apply pw_below_drewN | apply below_drew1) | exact HB.out))) : w.heap.size ≤ gb102)); clear HB; have HB := n0_; have BK102 := n1_; have GW102 := n2_; have GE102 := n3_; clear n0_ n1_ n2_ n3_; clear hb hbox hg))
  (try simp only [Act.put, List.setIfInBounds_toArray, List.set_cons_zero, List.set_cons_succ])
  go_cut [13] (fun v13 wc => ∃ (kq : Nat) (x13_1 : Bool), v13 = .bool x13_1 ∧ Aside0 (towncrierlaw06_Few.j0 kq x13_1 a0_0 a0_1 l0_2 = some r) ∧ Aside0 (kq ≤ k) ∧ Aside0 (wc.heap[gb102]? = some (.cells #[.string a0_0, .int .i64 a0_1, (.slice A0_2 l0_2.length c0_2)] 24 (0, 0))) ∧ Aside0 (Below w.heap.size w wc))
  case first =>
    have H := HC2.out
    clear HC2
    by_cases c4 : (a0_0.size : Int) > 60
    · rw [if_pos c4] at H
      have c4b0 : decide (60 < (a0_0.size : Int)) = true := decide_eq_true c4
      have c4b1 : decide (60 < a0_0.size) = true := decide_eq_true (by omega)
      clear c4
      (first | rw [c4b0] | (simp only [i64_w, i32_w]; rw [c4b0]) | skip)
      have H' := Aside0.mk H
      clear H
      have hcz5_0 : w3.cell? ⟨gb102, 0, none⟩ = some (.string a0_0) := (blk_cell BK102.out 0).trans rfl
      have hcz5_1 : w3.cell? ⟨gb102, 1, none⟩ = some (.int .i64 a0_1) := (blk_cell BK102.out 1).trans rfl
      have hcz5_2 : w3.cell? ⟨gb102, 2, none⟩ = some (.slice A0_2 l0_2.length c0_2) := (blk_cell BK102.out 2).trans rfl
      have hfz5_0 := blk_frozen BK102.out 0
      have hfz5_1 := blk_frozen BK102.out 1
      have hfz5_2 := blk_frozen BK102.out 2
      go_wp2
      go_meet
      case rel => exact ⟨_, (true), (by first | rfl | (simp; done) | (simp [*]; done)), H', ⟨by first | omega | exact Nat.le_refl _⟩, ⟨by (with_reducible repeat (first | refine blk_drewN ?_ _ | refine blk_drew ?_ | refine blk_alloc ?_ _)); exact BK102.out⟩, ⟨by repeat (first | (with_reducible first | exact HB.out | apply below_alloc | apply pw_below_drewN | apply below_drew1 | refine below_set ?_ GE102.out) | exact HB.out)⟩⟩
    · rw [if_neg c4] at H
      have c4b0 : decide (60 < (a0_0.size : Int)) = false := decide_eq_false c4
      have c4b1 : decide (60 < a0_0.size) = false := decide_eq_false (by omega)
      clear c4
      (first | rw [c4b0] | (simp only [i64_w, i32_w]; rw [c4b0]) | skip)
      have H' := Aside0.mk H
      clear H
      have hcz6_0 : w3.cell? ⟨gb102, 0, none⟩ = some (.string a0_0) := (blk_cell BK102.out 0).trans rfl
      have hcz6_1 : w3.cell? ⟨gb102, 1, none⟩ = some (.int .i64 a0_1) := (blk_cell BK102.out 1).trans rfl
      have hcz6_2 : w3.cell? ⟨gb102, 2, none⟩ = some (.slice A0_2 l0_2.length c0_2) := (blk_cell BK102.out 2).trans rfl
      have hfz6_0 := blk_frozen BK102.out 0
      have hfz6_1 := blk_frozen BK102.out 1
      have hfz6_2 := blk_frozen BK102.out 2
      go_wp2
      go_meet
      case rel => exact ⟨_, (decide ((l0_2.length : Int) > 10)), (by first | rfl | (simp; done) | (simp [*]; done)), H', ⟨by first | omega | exact Nat.le_refl _⟩, ⟨by (with_reducible repeat (first | refine blk_drewN ?_ _ | refine blk_drew ?_ | refine blk_alloc ?_ _)); exact BK102.out⟩, ⟨by repeat (first | (with_reducible first | exact HB.out | apply below_alloc | apply pw_below_drewN | apply below_drew1 | refine below_set ?_ GE102.out) | exact HB.out)⟩⟩
  case rest =>
    clear HC2
    try clear c1
    try clear p2
    try clear c4
    try clear c4b0
    try clear c4b1
    try clear hcz5_0
    try clear hcz5_1
    try clear hcz5_2
    try clear hcz6_0
    try clear hcz6_1
    try clear hcz6_2
    try clear hfz5_0
    try clear hfz5_1
    try clear hfz5_2
    try clear hfz6_0
    try clear hfz6_1
    try clear hfz6_2
    obtain ⟨kq, x13_1, rfl, HA, HJ1, BK102, HB⟩ := hcut
    cases kq with
    | zero => exact absurd HA.out (by simp [towncrierlaw06_Few.j0])
    | succ kj1 =>
      have H := HA.out
      clear HA
      simp only [towncrierlaw06_Few.j0] at H
      by_cases c7 : x13_1 = true
      · subst c7
        have H1 : (some false) = some r := by rw [if_pos rfl] at H; exact H
        clear H
        have H := H1
        clear H1
        obtain rfl := Option.some.inj H
        go_wp2
        go_ret
        exact ⟨by first | rfl | (simp [errW_none, errW_some] <;> rfl) | (simp [*, errW_none, errW_some] <;> rfl), by repeat (first | (with_reducible first | exact HB.out | apply below_alloc | apply pw_below_drewN | apply below_drew1 | refine below_set ?_ GE102.out) | exact HB.out)⟩
      · replace c7 := Bool.eq_false_iff.mpr c7
        subst c7
        have H1 : (towncrierlaw06_Few.l0 kj1 0 a0_0 a0_1 l0_2) = some r := by rw [if_neg (show ¬ (false = true) by decide)] at H; exact H
        clear H
        have H := H1
        clear H1
        have H' := Aside0.mk H
        clear H
        go_wp2
        go_loopg [3] kj1 (fun kq v3 w' => ∃ (x3_2 : Int), v3 = .int .i64 x3_2 ∧ Aside0 (towncrierlaw06_Few.l0 kq x3_2 a0_0 a0_1 l0_2 = some r) ∧ Aside0 (kq ≤ kj1) ∧ Aside0 (w'.heap[gb102]? = some (.cells #[.string a0_0, .int .i64 a0_1, (.slice A0_2 l0_2.length c0_2)] 24 (0, 0))) ∧ Aside0 (Below w.heap.size w w'))
        case atStart => exact ⟨(0), (by first | rfl | (simp; done) | (simp [*]; done)), H', ⟨Nat.le_refl _⟩, ⟨by (with_reducible repeat (first | refine blk_drewN ?_ _ | refine blk_drew ?_ | refine blk_alloc ?_ _)); exact BK102.out⟩, ⟨by repeat (first | (with_reducible first | exact HB.out | apply below_alloc | apply pw_below_drewN | apply below_drew1 | refine below_set ?_ GE102.out) | exact HB.out)⟩⟩
        case round =>
          clear H'
          try clear c1
          try clear p2
          try clear c4
          try clear c4b0
          try clear c4b1
          try clear c7
          try clear hcz5_0
          try clear hcz5_1
          try clear hcz5_2
          try clear hcz6_0
          try clear hcz6_1
          try clear hcz6_2
          try clear hfz5_0
          try clear hfz5_1
          try clear hfz5_2
          try clear hfz6_0
          try clear hfz6_1
          try clear hfz6_2
          try clear p2
          obtain ⟨x3_2, rfl, HA, HK2, BK102, HB⟩ := hrel
          cases gk with
          | zero => exact absurd HA.out (by simp [towncrierlaw06_Few.l0])
          | succ k2 =>
            have H := HA.out
            clear HA
            simp only [towncrierlaw06_Few.l0] at H
            by_cases c8 : x3_2 < (l0_2.length : Int)
            · rw [if_pos c8] at H
              have c8b0 : decide (x3_2 < (l0_2.length : Int)) = true := decide_eq_true c8
              clear c8
              by_cases c9 : 0 ≤ x3_2
              · rw [if_pos c9] at H
                have c9b0 : decide (0 ≤ x3_2) = true := decide_eq_true c9
                clear c9
                by_cases c10 : (((rd_TValue l0_2 x3_2).f2).size : Int) > 100
                · rw [if_pos c10] at H
                  have c10b0 : decide (100 < (((rd_TValue l0_2 x3_2).f2).size : Int)) = true := decide_eq_true c10
                  have c10b1 : decide (100 < ((rd_TValue l0_2 x3_2).f2).size) = true := decide_eq_true (by omega)
                  clear c10
                  obtain rfl := Option.some.inj H
                  have hcz11_0 : wr.cell? ⟨gb102, 0, none⟩ = some (.string a0_0) := (blk_cell BK102.out 0).trans rfl
                  have hcz11_1 : wr.cell? ⟨gb102, 1, none⟩ = some (.int .i64 a0_1) := (blk_cell BK102.out 1).trans rfl
                  have hcz11_2 : wr.cell? ⟨gb102, 2, none⟩ = some (.slice A0_2 l0_2.length c0_2) := (blk_cell BK102.out 2).trans rfl
                  have hfz11_0 := blk_frozen BK102.out 0
                  have hfz11_1 := blk_frozen BK102.out 1
                  have hfz11_2 := blk_frozen BK102.out 2
                  have p103 : 0 ≤ (x3_2 : Int) := of_decide_eq_true (by first | (with_reducible assumption) | assumption)
                  have q103 : x3_2 < (l0_2.length : Int) := of_decide_eq_true (by first | (with_reducible assumption) | assumption)
                  obtain ⟨ad103, e103, hx103_0, hx103_1, hx103_2⟩ := at_TValue HR0_2.out x3_2 p103 q103
                  cases e103
                  replace hx103_0 := (HB.out.cell (World.block_lt_of_cell? w _ hx103_0)).trans hx103_0
                  replace hx103_1 := (HB.out.cell (World.block_lt_of_cell? w _ hx103_1)).trans hx103_1
                  replace hx103_2 := (HB.out.cell (World.block_lt_of_cell? w _ hx103_2)).trans hx103_2
                  replace p103 := eq_true p103
                  replace q103 := eq_true q103
                  go_wp2
                  go_ret
                  exact ⟨by first | rfl | (simp [errW_none, errW_some] <;> rfl) | (simp [*, errW_none, errW_some] <;> rfl), by repeat (first | (with_reducible first | exact HB.out | apply below_alloc | apply pw_below_drewN | apply below_drew1 | refine below_set ?_ GE102.out) | exact HB.out)⟩
                · rw [if_neg c10] at H
                  have c10b0 : decide (100 < (((rd_TValue l0_2 x3_2).f2).size : Int)) = false := decide_eq_false c10
                  have c10b1 : decide (100 < ((rd_TValue l0_2 x3_2).f2).size) = false := decide_eq_false (by omega)
                  clear c10
                  have H' := Aside0.mk H
                  clear H
                  have hcz12_0 : wr.cell? ⟨gb102, 0, none⟩ = some (.string a0_0) := (blk_cell BK102.out 0).trans rfl
                  have hcz12_1 : wr.cell? ⟨gb102, 1, none⟩ = some (.int .i64 a0_1) := (blk_cell BK102.out 1).trans rfl
                  have hcz12_2 : wr.cell? ⟨gb102, 2, none⟩ = some (.slice A0_2 l0_2.length c0_2) := (blk_cell BK102.out 2).trans rfl
                  have hfz12_0 := blk_frozen BK102.out 0
                  have hfz12_1 := blk_frozen BK102.out 1
                  have hfz12_2 := blk_frozen BK102.out 2
                  have p103 : 0 ≤ (x3_2 : Int) := of_decide_eq_true (by first | (with_reducible assumption) | assumption)
                  have q103 : x3_2 < (l0_2.length : Int) := of_decide_eq_true (by first | (with_reducible assumption) | assumption)
                  obtain ⟨ad103, e103, hx103_0, hx103_1, hx103_2⟩ := at_TValue HR0_2.out x3_2 p103 q103
                  cases e103
                  replace hx103_0 := (HB.out.cell (World.block_lt_of_cell? w _ hx103_0)).trans hx103_0
                  replace hx103_1 := (HB.out.cell (World.block_lt_of_cell? w _ hx103_1)).trans hx103_1
                  replace hx103_2 := (HB.out.cell (World.block_lt_of_cell? w _ hx103_2)).trans hx103_2
                  replace p103 := eq_true p103
                  replace q103 := eq_true q103
                  go_wp2
                  go_roundg k2
                  case measure => have := HJ1.out; have := HK2.out; omega
                  case rel => exact ⟨(wrap64 (x3_2 + 1)), (by first | rfl | (simp; done) | (simp [*]; done)), H', ⟨by have := HJ1.out; have := HK2.out; omega⟩, ⟨by (with_reducible repeat (first | refine blk_drewN ?_ _ | refine blk_drew ?_ | refine blk_alloc ?_ _)); exact BK102.out⟩, ⟨by repeat (first | (with_reducible first | exact HB.out | apply below_alloc | apply pw_below_drewN | apply below_drew1 | refine below_set ?_ GE102.out) | exact HB.out)⟩⟩
              · rw [if_neg c9] at H
                exact absurd H (by simp)
            · rw [if_neg c8] at H
              have c8b0 : decide (x3_2 < (l0_2.length : Int)) = false := decide_eq_false c8
              clear c8
              obtain rfl := Option.some.inj H
              have hcz13_0 : wr.cell? ⟨gb102, 0, none⟩ = some (.string a0_0) := (blk_cell BK102.out 0).trans rfl
              have hcz13_1 : wr.cell? ⟨gb102, 1, none⟩ = some (.int .i64 a0_1) := (blk_cell BK102.out 1).trans rfl
              have hcz13_2 : wr.cell? ⟨gb102, 2, none⟩ = some (.slice A0_2 l0_2.length c0_2) := (blk_cell BK102.out 2).trans rfl
              have hfz13_0 := blk_frozen BK102.out 0
              have hfz13_1 := blk_frozen BK102.out 1
              have hfz13_2 := blk_frozen BK102.out 2
              go_wp2
              go_ret
              exact ⟨by first | rfl | (simp [errW_none, errW_some] <;> rfl) | (simp [*, errW_none, errW_some] <;> rfl), by repeat (first | (with_reducible first | exact HB.out | apply below_alloc | apply pw_below_drewN | apply below_drew1 | refine below_set ?_ GE102.out) | exact HB.out)⟩
end Go.Proofs.Ytandlemjjlamoaa.P

namespace Go.Proofs.Ytandlemjjlamoaa.P
open Go.RowKit Go.Proofs.YtandlemjjlamoaaW.PrintWords Go.Proofs.YtandlemjjlamoaaW.PrintLast Go.Proofs.YtandlemjjlamoaaW.PrintMore
attribute [local go_sem] max2_int min2_int max_two min_two max_three min_three max_four min_four   -- for this text's walks alone
set_option linter.unusedVariables false
set_option linter.unusedSimpArgs false
theorem eqAValue (d : Nat) (w : World) (x0 y0 : Int) (x1 y1 : Int) (x2 y2 : ByteArray) :
    (Op.equalIn (d + 2) 37 (.agg #[.int .i64 x0, .int .i64 x1, .string x2]) (.agg #[.int .i64 y0, .int .i64 y1, .string y2])).run Try.prog w = .ok (x0 == y0 && (x1 == y1 && (x2.toList == y2.toList))) w := by
  refine eqA_of Try.underlying37 (by kernel_rfl) ?_
  refine eqf_cons (by rfl) (by go_simp; rfl) (by go_simp; rfl) (by go_simp) ?_
  refine eqf_cons (by rfl) (by go_simp; rfl) (by go_simp; rfl) (by go_simp) ?_
  exact eqf_last (by rfl) (by go_simp; rfl) (by go_simp; rfl) (by go_simp)
end Go.Proofs.Ytandlemjjlamoaa.P

namespace Go.Proofs.Ytandlemjjlamoaa.P
open Go.RowKit Go.Proofs.YtandlemjjlamoaaW.PrintWords Go.Proofs.YtandlemjjlamoaaW.PrintLast Go.Proofs.YtandlemjjlamoaaW.PrintMore
set_option linter.unusedVariables false
theorem i64V_of {v : SValue} (h : wfValue v) : i64V v := lit_i64 h.2.1
theorem getV_put {x : SValue} (rest : List Int) (hb : i64V x) (h : mayV x = true) : getV (bytesV x ++ rest) = some (x, (bytesV x).length) := by
  have hn := numV_lt hb h
  have hg : getN ((lePut (numV x) ++ bytesOf x.f2) ++ rest) = some (numV x, (lePut (numV x)).length) := by rw [List.append_assoc]; exact getN_put _ _ hn
  have hl : (bytesV x).length = (lePut (numV x)).length + 1 + x.f2.size := by unfold bytesV; simp [bytesOf_length]; omega
  unfold getV
  rw [show bytesV x ++ rest = x.f0 :: ((lePut (numV x) ++ bytesOf x.f2) ++ rest) from rfl]
  simp only [hg]
  have hm := mayV_iff.1 h
  obtain ⟨k, n, s⟩ := x
  rcases hm with ⟨h0, hs⟩ | ⟨h0, hs, h1, h2⟩ | ⟨h0, h1, h2⟩ | ⟨h0, hs, h1, h2⟩
  · replace h0 : k = 0 := h0
    obtain rfl : s = ⟨#[]⟩ := toList_nil hs
    subst h0
    rw [if_pos rfl, hl, show numV ⟨0, n, ⟨#[]⟩⟩ = zigN n from rfl, zag_zig]
    rfl
  · replace h0 : k = 1 := h0
    obtain rfl : s = ⟨#[]⟩ := toList_nil hs
    subst h0
    replace h1 : 0 ≤ n := h1
    replace h2 : n < 2 := h2
    rw [if_neg (show ¬ (1 : Int) = 0 by decide), if_neg (show ¬ (1 : Int) = 2 by decide), hl, show numV ⟨1, n, ⟨#[]⟩⟩ = n.toNat from rfl, if_pos (.inl ⟨rfl, by omega⟩), Int.toNat_of_nonneg h1]
    rfl
  · replace h0 : k = 2 := h0
    replace h1 : n = 0 := h1
    replace h2 : s.size ≤ 40 := h2
    subst h0
    subst h1
    rw [show numV ⟨2, 0, s⟩ = s.size from rfl] at hl ⊢
    rw [if_neg (show ¬ (2 : Int) = 0 by decide), if_pos rfl, if_pos ⟨h2, by simp only [List.length_append, bytesOf_length]; omega⟩, hl]
    have e : ((lePut s.size ++ bytesOf s ++ rest).drop (lePut s.size).length).take s.size = bytesOf s := by
      rw [List.append_assoc, List.drop_left, ← bytesOf_length s, List.take_left]
    show some ((⟨2, 0, strOfNums (((lePut s.size ++ bytesOf s ++ rest).drop (lePut s.size).length).take s.size)⟩ : SValue), _) = _
    rw [e, str_bytesOf]
  · replace h0 : k = 3 := h0
    obtain rfl : s = ⟨#[]⟩ := toList_nil hs
    subst h0
    replace h1 : 0 ≤ n := h1
    replace h2 : n ≤ 1125899906842624 := h2
    rw [if_neg (show ¬ (3 : Int) = 0 by decide), if_neg (show ¬ (3 : Int) = 2 by decide), hl, show numV ⟨3, n, ⟨#[]⟩⟩ = n.toNat from rfl, if_pos (.inr ⟨rfl, by omega⟩), Int.toNat_of_nonneg h1]
    rfl
theorem getVs_put : ∀ (F : List SValue) (rest : List Int), (∀ v ∈ F, i64V v) → (∀ v ∈ F, mayV v = true) → getVs F.length (valsL F ++ rest) = some (F, (valsL F).length)
  | [], rest, _, _ => by simp [getVs, valsL]
  | v :: F, rest, h, h2 => by
    have e : valsL (v :: F) ++ rest = bytesV v ++ (valsL F ++ rest) := by simp [valsL]
    have e2 : (valsL (v :: F)).length = (bytesV v).length + (valsL F).length := by simp [valsL]
    rw [List.length_cons, getVs, e, getV_put _ (h v (by simp)) (h2 v (by simp))]
    simp only [List.drop_left]
    rw [getVs_put F rest (fun w hw => h w (by simp [hw])) (fun w hw => h2 w (by simp [hw]))]
    simp only [e2]
theorem getRawE_put {x : SEvent} (rest : List Int) (hw : ∀ v ∈ x.f2, i64V v) (h : mayE x = true) : getRawE (bytesE x ++ rest) = some (x, (bytesE x).length) := by
  obtain ⟨hn, h1, h2, h3, h4⟩ := mayE_iff.1 h
  obtain ⟨vn, hv⟩ := Int.eq_ofNat_of_zero_le h1
  have e : bytesE x ++ rest = textL x.f0 ++ (lePut vn ++ (lePut x.f2.length ++ (valsL x.f2 ++ rest))) := by simp [bytesE, hv]
  have hlen : (bytesE x).length = (textL x.f0).length + (lePut vn).length + (lePut x.f2.length).length + (valsL x.f2).length := by simp [bytesE, hv]; omega
  have hd1 : (bytesE x ++ rest).drop (textL x.f0).length = lePut vn ++ (lePut x.f2.length ++ (valsL x.f2 ++ rest)) := by rw [e, List.drop_left]
  have hd2 : (bytesE x ++ rest).drop ((textL x.f0).length + (lePut vn).length) = lePut x.f2.length ++ (valsL x.f2 ++ rest) := by rw [← List.drop_drop, hd1, List.drop_left]
  have hd3 : (bytesE x ++ rest).drop ((textL x.f0).length + (lePut vn).length + (lePut x.f2.length).length) = valsL x.f2 ++ rest := by rw [← List.drop_drop, hd2, List.drop_left]
  unfold getRawE
  rw [show readT (bytesE x ++ rest) 12 = some (bytesOf x.f0, (textL x.f0).length) from by rw [e]; exact readT_put _ (nameB_size hn).2 (by decide)]
  simp only
  unfold contT
  rw [hd1, getM_put _ (by omega) (by decide)]
  simp only
  unfold contN
  rw [hd2, getM_put _ h3 (by decide)]
  simp only
  unfold contE
  rw [hd3, getVs_put x.f2 rest hw h4]
  simp only [List.nil_append, str_bytesOf, hlen, Option.some.injEq, Prod.mk.injEq]
  refine ⟨?_, trivial⟩
  cases x
  simp at hv ⊢
  exact hv.symm
theorem getE_put {x : SEvent} (rest : List Int) (hw : ∀ v ∈ x.f2, i64V v) (h : mayE x = true) : getE (bytesE x ++ rest) = some (x, (bytesE x).length) := by
  unfold getE
  rw [getRawE_put rest hw h]
  simp only
  rw [if_pos h]
theorem few6_loop (nm : ByteArray) (tm : Int) (l : List SValue) (hl : l.length ≤ 10) : ∀ (d i k : Nat), i + d = l.length → d < k → ∃ b, towncrierlaw06_Few.l0 k (i : Int) nm tm l = some b := by
  intro d
  induction d with
  | zero =>
    intro i k hi hk
    obtain ⟨k, rfl⟩ := rounds_of hk
    exact ⟨true, by simp only [towncrierlaw06_Few.l0]; rw [if_neg (by omega)]⟩
  | succ d ih =>
    intro i k hi hk
    obtain ⟨k, rfl⟩ := rounds_of hk
    simp only [towncrierlaw06_Few.l0]
    rw [if_pos (by omega), if_pos (by omega)]
    split
    · exact ⟨false, rfl⟩
    · rw [wrap_succ (by omega)]
      exact ih (i + 1) k (by omega) (by omega)
theorem few6_some (nm : ByteArray) (tm : Int) (l : List SValue) {k : Nat} (hk : 20 ≤ k) : ∃ b, towncrierlaw06_Few.f k nm tm l = some b ∧ (b = true → l.length ≤ 10) := by
  obtain ⟨k, rfl⟩ : ∃ m, k = m + 1 := ⟨k - 1, by omega⟩
  unfold towncrierlaw06_Few.f
  by_cases h1 : (nm.size : Int) > 60
  · rw [if_pos h1]
    exact ⟨false, by simp [towncrierlaw06_Few.j0], fun h => by cases h⟩
  · rw [if_neg h1]
    by_cases h2 : l.length ≤ 10
    · rw [decide_eq_false (show ¬ (l.length : Int) > 10 by omega)]
      simp only [towncrierlaw06_Few.j0]
      rw [if_neg (by simp)]
      obtain ⟨b, hb⟩ := few6_loop nm tm l h2 l.length 0 k (by omega) (by omega)
      exact ⟨b, hb, fun _ => h2⟩
    · rw [decide_eq_true (show (l.length : Int) > 10 by omega)]
      exact ⟨false, by simp [towncrierlaw06_Few.j0], fun h => by cases h⟩
theorem few6_told (x : SEvent) : ∃ b, (b = true → x.f2.length ≤ 10) ∧ ∀ (A : Option Addr) (c : Nat) (w : World), Kd.C kValue w A x.f2.length x.f2 → x.f2.length ≤ c → Calls Try.prog 10 #[.agg #[.string x.f0, .int .i64 x.f1, .slice A x.f2.length c]] w (boolPost b w) := by
  obtain ⟨b, h1, h2⟩ := few6_some x.f0 x.f1 x.f2 (k := 20) (by decide)
  exact ⟨b, h2, fun A c w hr hc => towncrierlaw06_Few.calls 20 x.f0 x.f1 A c x.f2 b w hr hc h1⟩
end Go.Proofs.Ytandlemjjlamoaa.P

namespace Go.Proofs.Ytandlemjjlamoaa.P
open Go.RowKit Go.Proofs.YtandlemjjlamoaaW.PrintWords Go.Proofs.YtandlemjjlamoaaW.PrintLast Go.Proofs.YtandlemjjlamoaaW.PrintMore
set_option linter.unusedVariables false
theorem wfE_vals {x : SEvent} (h : wfEvent x) : ∀ v ∈ x.f2, i64V v := fun v hv => i64V_of (h.2.2.2 v hv)
theorem wfE_few {x : SEvent} (h : wfEvent x) : x.f2.length < 4611686018427387904 := by have := h.2.2.1; omega
theorem gotE_some {l : List Int} {x : SEvent} {n : Nat} (h : getE l = some (x, n)) : gotE (getE l) = (x, n, true) := by rw [h]; rfl
theorem evGet_told {l : List Int} {x : SEvent} {m n : Nat} {b : Bool} (hq : gotE (getE l) = (x, m, b)) (hn : l.length = n) (w : World) (A : Option Addr) (c : Nat) (hr : Kd.C (Kd.int .u8) w A n l) (hc : n ≤ c) (hb : byteL l) (hl : n < 4611686018427387904) :
    Calls Try.prog 12 #[.slice A n c] w (evPost3 x m b w) := by
  subst hn
  exact event_Get.told w A c l hr hc hb hl hq
def exE : SEvent := ⟨⟨#[97]⟩, 5, []⟩
def exS6 : SSchema := ⟨⟨#[97]⟩, 1, []⟩
theorem exE_may : mayE exE = true := by decide +kernel
theorem exE_vals : ∀ v ∈ exE.f2, i64V v := fun _ h => by cases h
theorem exE_bytes : bytesE exE = [1, 97, 5, 0] := by
  unfold bytesE textL
  rw [show exE.f0.size = 1 from rfl, show exE.f1 = 5 from rfl, show exE.f2 = [] from rfl, lePut_small (by decide), show (5 : Int).toNat = 5 from rfl, show ([] : List SValue).length = 0 from rfl, lePut_small (by decide), lePut_small (by decide)]
  decide +kernel
theorem exE_get : getE [1, 97, 5, 0] = some (exE, 4) := by
  have h := getE_put (x := exE) [] exE_vals exE_may
  rw [List.append_nil, exE_bytes] at h
  exact h
theorem exE_valid : validE exS6 exE = 0 := by decide +kernel
set_option maxHeartbeats 2000000 in
set_option maxRecDepth 100000 in
theorem awake6_told (w : World) : Calls Try.prog 9 #[] w (boolPost true w) := by
  have hex0 : exE.f0.toList = [97] := by decide +kernel
  have HPUT := Aside0.mk (fun (W : World) => event_Put.told exE none 0 W (Kd.C_nil _ _) (Nat.le_refl _) exE_vals exE_may ((if_pos rfl).trans exE_bytes))
  go_enter Try.func9, Try.ntmps9
  go_wp2_with (first
    | (go_at_call 11; refine (HPUT.out _).mono ?_; rintro e w1 ⟨v1, rfl, ho1, hb1⟩; obtain ⟨A1, c1, hv1, hc1, hr1⟩ := Own8.reads ho1; subst hv1; have HR1 := Aside0.mk hr1; have HC1 := Aside0.mk hc1; clear ho1 hr1 hc1)
    | (go_at_call 12; refine (evGet_told (gotE_some exE_get) rfl _ A1 c1 HR1.out HC1.out (by decide) (by decide)).mono ?_; rintro e w2 ⟨A2, c2, ⟨rfl, hc2, hr2⟩, hb2⟩; have HR2 := Aside0.mk (Kd.C_below HR1.out hb2); have HE2 := Aside0.mk hr2; have HEC := Aside0.mk hc2; have HK2 := Aside0.mk (blk_new w2 (.cells #[.string exE.f0, .int .i64 exE.f1, .slice A2 exE.f2.length c2] 24)); obtain ⟨ad2, e2, hx2⟩ := Kd.at_int (Kd.C_alloc HR2.out (.cells #[.string exE.f0, .int .i64 exE.f1, .slice A2 exE.f2.length c2] 24)) 2 (by decide) (by decide); cases e2; have hx20 : (w2.alloc (.cells #[.string exE.f0, .int .i64 exE.f1, .slice A2 exE.f2.length c2] 24)).cell? ⟨ad2.block, ad2.off + 2, none⟩ = some (.int .u8 5) := hx2; clear hx2 hr2 hc2)
    | (go_at_call 13; refine (event_Valid.told exS6 exE none 0 A2 c2 _ (Kd.C_nil _ _) (Nat.le_refl _) (Kd.C_below HE2.out (below_alloc (Below.refl _ _) _)) HEC.out exE_vals exE_valid).mono ?_; rintro e w3 ⟨rfl, hb3⟩; have HK3 := Aside0.mk (blk_below HK2.out hb3); obtain ⟨k31, _, _, _⟩ := know HK3.out; have HB3 := Aside0.mk hb3; clear hb3)
    | (go_at_call 15; refine (event_May.told exE A2 c2 _ (Kd.C_below HE2.out (below_step (below_alloc (Below.refl _ _) _) HB3.out)) HEC.out exE_vals exE_may).mono ?_; rintro e w4 ⟨rfl, hb4⟩))
  go_ret
  exact ⟨rfl, below_step (below_step (below_alloc (below_step hb1 hb2) _) HB3.out) hb4⟩
end Go.Proofs.Ytandlemjjlamoaa.P

namespace Go.Proofs.Ytandlemjjlamoaa.P
open Go.RowKit Go.Proofs.YtandlemjjlamoaaW.PrintWords Go.Proofs.YtandlemjjlamoaaW.PrintLast Go.Proofs.YtandlemjjlamoaaW.PrintMore
attribute [local go_sem] max2_int min2_int max_two min_two max_three min_three max_four min_four   -- for this text's walks alone
set_option linter.unusedVariables false
set_option linter.unusedSimpArgs false
theorem openArg0_EventNone : Opens Try.prog 35 kSchema wfSchema := openSchema
theorem openArg1_EventNone : Opens Try.prog 24 kEvent wfEvent := openEvent
theorem openArg2_EventNone : Opens Try.prog 37 kValue wfValue := openValue
def EventNone.Stmt : Prop := ∀ (W : World) (x0 : SSchema) (cs0 : List Value) (K0 : kSchema.K W x0 cs0) (w0 : wfSchema x0) (x1 : SEvent) (cs1 : List Value) (K1 : kEvent.K W x1 cs1) (w1 : wfEvent x1) (x2 : SValue) (cs2 : List Value) (K2 : kValue.K W x2 cs2) (w2 : wfValue x2),
    Calls Try.prog 4 #[.agg cs0.toArray, .agg cs1.toArray, .agg cs2.toArray] W fun e w' => e = .returned (.bool true) ∧ Below W.heap.size W w'
end Go.Proofs.Ytandlemjjlamoaa.P

namespace Go.Proofs.Ytandlemjjlamoaa.P
open Go.RowKit Go.Proofs.YtandlemjjlamoaaW.PrintWords Go.Proofs.YtandlemjjlamoaaW.PrintLast Go.Proofs.YtandlemjjlamoaaW.PrintMore
set_option linter.unusedVariables false
set_option linter.unusedSimpArgs false
theorem C_single {α : Type} {d : Kd α} {W : World} {B T : Nat} {x : α} {cs : List Value} (h : W.heap[B]? = some (.cells cs.toArray T (0, 0))) (hk : d.K W x cs) (hl : cs.length = d.sz) : Kd.C d W (some ⟨B, 0, none⟩) 1 [x] := by
  refine ⟨rfl, by decide, fun _ => ⟨_, rfl, fun j l hj => ?_⟩⟩
  match j with
  | j + 1 => simp at hj
  | 0 =>
    simp at hj
    subst hj
    refine ⟨cs, hl, hk, fun i u hu => ?_⟩
    rw [Nat.zero_mul, add_plain, blk_cell h]
    simpa using hu
theorem blk_newN (w : World) (o : Obj) (n : Nat) (h : w.heap.size = n) : (w.alloc o).drew.heap[n]? = some o := by
  subst h
  exact blk_new w o
theorem validE_len {s : SSchema} {x : SEvent} (h : validE s x = 0) : s.f2.length = x.f2.length := by
  unfold validE at h
  by_cases h1 : mayS s = true ∧ mayE x = true
  · rw [if_pos h1] at h
    by_cases h2 : s.f0.toList = x.f0.toList
    · rw [if_pos h2] at h
      by_cases h3 : s.f2.length = x.f2.length
      · exact h3
      · rw [if_neg h3] at h; exact absurd h (by decide)
    · rw [if_neg h2] at h; exact absurd h (by decide)
  · rw [if_neg h1] at h; exact absurd h (by decide)
theorem validE_one {s : SSchema} {x : SEvent} (h : mayS s = false ∨ mayE x = false) : validE s x = 1 := by
  unfold validE
  rw [if_neg]
  rintro ⟨h1, h2⟩
  rw [h1, h2] at h
  simp at h
theorem validE_three {s : SSchema} {x : SEvent} (h1 : mayS s = true) (h2 : mayE x = true) (h : ¬ s.f0.toList = x.f0.toList) : validE s x = 3 := by
  unfold validE
  rw [if_pos ⟨h1, h2⟩, if_neg h]
set_option maxHeartbeats 40000000 in
set_option maxRecDepth 100000 in
theorem EventNone.walk : EventNone.Stmt := by
  intro W x0 cs0 K0 w0 x1 cs1 K1 w1 x2 cs2 K2 w2
  obtain ⟨A0, c0, rfl, hc0, hr0⟩ := kSchema_open K0
  obtain ⟨A1, c1, rfl, hc1, hr1⟩ := kEvent_open K1
  have HR0 := Aside0.mk hr0
  have HC0 := Aside0.mk hc0
  have HR1 := Aside0.mk hr1
  have HC1 := Aside0.mk hc1
  have HV1 := Aside0.mk (wfE_vals w1)
  have HL1 := Aside0.mk (wfE_few w1)
  have HOK0 := Aside0.mk (wf_okNames w0)
  obtain ⟨p, hp10, hpC⟩ := few6_told x1
  have HPC := Aside0.mk hpC
  obtain rfl := kValue_open K2
  have HV2 := Aside0.mk (i64V_of w2)
  have infoV_ := infoValue
  obtain ⟨ms, hms⟩ : ∃ b, mayS x0 = b := ⟨_, rfl⟩
  obtain ⟨me, hme⟩ : ∃ b, mayE x1 = b := ⟨_, rfl⟩
  obtain ⟨vd, hvd⟩ : ∃ b, validE x0 x1 = b := ⟨_, rfl⟩
  obtain ⟨FX, hFX⟩ : ∃ F, x1.f2 ++ [x2] = F := ⟨_, rfl⟩
  obtain ⟨ve, hve⟩ : ∃ b, validE x0 ⟨x1.f0, x1.f1, FX⟩ = b := ⟨_, rfl⟩
  have HMS := Aside0.mk hms
  have HME := Aside0.mk hme
  have HVD := Aside0.mk hvd
  have HVE := Aside0.mk hve
  have HFX := Aside0.mk hFX
  have HVX : Aside0 (∀ v ∈ FX, i64V v) := ⟨fun v hv => by
    rw [← hFX] at hv
    rcases List.mem_append.1 hv with h | h
    · exact HV1.out v h
    · rw [List.mem_singleton.1 h]; exact HV2.out⟩
  have HONE : Aside0 (ms = false ∨ me = false → vd = 1) := ⟨fun h => by rw [← hvd]; exact validE_one (by rw [hms, hme]; exact h)⟩
  have HTHREE : Aside0 (ms = true → me = true → ¬ x0.f0.toList = x1.f0.toList → vd = 3) := ⟨fun h1 h2 h3 => by rw [← hvd]; exact validE_three (hms.trans h1) (hme.trans h2) h3⟩
  have HBOTH : Aside0 (vd = 0 → ve = 0 → False) := ⟨fun h1 h2 => by
    have e1 := validE_len (hvd.trans h1)
    have e2 := validE_len (hve.trans h2)
    have e3 : FX.length = x1.f2.length + 1 := by rw [← hFX, List.length_append, List.length_singleton]
    simp only at e2
    omega⟩
  clear hr0 hc0 w0 K0 hr1 hc1 w1 K1 w2 K2 hpC hms hme hvd hve hFX
  by_cases hgo : p = true ∧ x0.f2.length ≤ 10 ∧ x0.f0.size ≤ 60 ∧ x2.f2.size ≤ 100
  · obtain ⟨rfl, h10, h60, h100⟩ := hgo
    have hl1 := hp10 rfl
    clear hp10
    go_enter Try.func4, Try.ntmps4
    go_wp2_with fail
    go_at_call 9; refine (awake6_told _).mono ?_; rintro e w1_ ⟨rfl, hb1_⟩; have HB1_ := Aside0.mk (below_step (below_alloc (below_alloc (below_alloc (Below.refl _ _) _) _) _) hb1_); have HKx01_ := Aside0.mk (blk_below (blk_alloc (blk_alloc (blk_new _ _) _) _) hb1_); have hcx01_0 : w1_.cell? ⟨W.heap.size, 0, none⟩ = some (.string x0.f0) := blk_cell HKx01_.out 0; have hdx01_0 : ∀ o, (w1_.alloc o).cell? ⟨W.heap.size, 0, none⟩ = some (.string x0.f0) := fun o => cell_later o hcx01_0; have hcx01_1 : w1_.cell? ⟨W.heap.size, 1, none⟩ = some (.int .i64 x0.f1) := blk_cell HKx01_.out 1; have hdx01_1 : ∀ o, (w1_.alloc o).cell? ⟨W.heap.size, 1, none⟩ = some (.int .i64 x0.f1) := fun o => cell_later o hcx01_1; have hcx01_2 : w1_.cell? ⟨W.heap.size, 2, none⟩ = some (.slice A0 x0.f2.length c0) := blk_cell HKx01_.out 2; have hdx01_2 : ∀ o, (w1_.alloc o).cell? ⟨W.heap.size, 2, none⟩ = some (.slice A0 x0.f2.length c0) := fun o => cell_later o hcx01_2; have HKx11_ := Aside0.mk (blk_below (blk_alloc (blk_new2 _ _ _) _) hb1_); have hcx11_0 : w1_.cell? ⟨W.heap.size + 1, 0, none⟩ = some (.string x1.f0) := blk_cell HKx11_.out 0; have hdx11_0 : ∀ o, (w1_.alloc o).cell? ⟨W.heap.size + 1, 0, none⟩ = some (.string x1.f0) := fun o => cell_later o hcx11_0; have hcx11_1 : w1_.cell? ⟨W.heap.size + 1, 1, none⟩ = some (.int .i64 x1.f1) := blk_cell HKx11_.out 1; have hdx11_1 : ∀ o, (w1_.alloc o).cell? ⟨W.heap.size + 1, 1, none⟩ = some (.int .i64 x1.f1) := fun o => cell_later o hcx11_1; have hcx11_2 : w1_.cell? ⟨W.heap.size + 1, 2, none⟩ = some (.slice A1 x1.f2.length c1) := blk_cell HKx11_.out 2; have hdx11_2 : ∀ o, (w1_.alloc o).cell? ⟨W.heap.size + 1, 2, none⟩ = some (.slice A1 x1.f2.length c1) := fun o => cell_later o hcx11_2; have HKx21_ := Aside0.mk (blk_below (blk_new3 _ _ _ _) hb1_); have hcx21_0 : w1_.cell? ⟨W.heap.size + 1 + 1, 0, none⟩ = some (.int .i64 x2.f0) := blk_cell HKx21_.out 0; have hdx21_0 : ∀ o, (w1_.alloc o).cell? ⟨W.heap.size + 1 + 1, 0, none⟩ = some (.int .i64 x2.f0) := fun o => cell_later o hcx21_0; have hcx21_1 : w1_.cell? ⟨W.heap.size + 1 + 1, 1, none⟩ = some (.int .i64 x2.f1) := blk_cell HKx21_.out 1; have hdx21_1 : ∀ o, (w1_.alloc o).cell? ⟨W.heap.size + 1 + 1, 1, none⟩ = some (.int .i64 x2.f1) := fun o => cell_later o hcx21_1; have hcx21_2 : w1_.cell? ⟨W.heap.size + 1 + 1, 2, none⟩ = some (.string x2.f2) := blk_cell HKx21_.out 2; have hdx21_2 : ∀ o, (w1_.alloc o).cell? ⟨W.heap.size + 1 + 1, 2, none⟩ = some (.string x2.f2) := fun o => cell_later o hcx21_2; clear hb1_
    go_wp2_with fail
    go_at_call_of 10 (Value.agg #[.string x1.f0, .int .i64 x1.f1, .slice A1 x1.f2.length c1]); refine (HPC.out A1 c1 _ (Kd.C_below HR1.out (HB1_.out)) HC1.out).mono ?_; rintro e w2_ ⟨rfl, hb2_⟩; have HB2_ := Aside0.mk (below_step (HB1_.out) hb2_); have HKx02_ := Aside0.mk (blk_below (HKx01_.out) hb2_); have hcx02_0 : w2_.cell? ⟨W.heap.size, 0, none⟩ = some (.string x0.f0) := blk_cell HKx02_.out 0; have hdx02_0 : ∀ o, (w2_.alloc o).cell? ⟨W.heap.size, 0, none⟩ = some (.string x0.f0) := fun o => cell_later o hcx02_0; have hcx02_1 : w2_.cell? ⟨W.heap.size, 1, none⟩ = some (.int .i64 x0.f1) := blk_cell HKx02_.out 1; have hdx02_1 : ∀ o, (w2_.alloc o).cell? ⟨W.heap.size, 1, none⟩ = some (.int .i64 x0.f1) := fun o => cell_later o hcx02_1; have hcx02_2 : w2_.cell? ⟨W.heap.size, 2, none⟩ = some (.slice A0 x0.f2.length c0) := blk_cell HKx02_.out 2; have hdx02_2 : ∀ o, (w2_.alloc o).cell? ⟨W.heap.size, 2, none⟩ = some (.slice A0 x0.f2.length c0) := fun o => cell_later o hcx02_2; have HKx12_ := Aside0.mk (blk_below (HKx11_.out) hb2_); have hcx12_0 : w2_.cell? ⟨W.heap.size + 1, 0, none⟩ = some (.string x1.f0) := blk_cell HKx12_.out 0; have hdx12_0 : ∀ o, (w2_.alloc o).cell? ⟨W.heap.size + 1, 0, none⟩ = some (.string x1.f0) := fun o => cell_later o hcx12_0; have hcx12_1 : w2_.cell? ⟨W.heap.size + 1, 1, none⟩ = some (.int .i64 x1.f1) := blk_cell HKx12_.out 1; have hdx12_1 : ∀ o, (w2_.alloc o).cell? ⟨W.heap.size + 1, 1, none⟩ = some (.int .i64 x1.f1) := fun o => cell_later o hcx12_1; have hcx12_2 : w2_.cell? ⟨W.heap.size + 1, 2, none⟩ = some (.slice A1 x1.f2.length c1) := blk_cell HKx12_.out 2; have hdx12_2 : ∀ o, (w2_.alloc o).cell? ⟨W.heap.size + 1, 2, none⟩ = some (.slice A1 x1.f2.length c1) := fun o => cell_later o hcx12_2; have HKx22_ := Aside0.mk (blk_below (HKx21_.out) hb2_); have hcx22_0 : w2_.cell? ⟨W.heap.size + 1 + 1, 0, none⟩ = some (.int .i64 x2.f0) := blk_cell HKx22_.out 0; have hdx22_0 : ∀ o, (w2_.alloc o).cell? ⟨W.heap.size + 1 + 1, 0, none⟩ = some (.int .i64 x2.f0) := fun o => cell_later o hcx22_0; have hcx22_1 : w2_.cell? ⟨W.heap.size + 1 + 1, 1, none⟩ = some (.int .i64 x2.f1) := blk_cell HKx22_.out 1; have hdx22_1 : ∀ o, (w2_.alloc o).cell? ⟨W.heap.size + 1 + 1, 1, none⟩ = some (.int .i64 x2.f1) := fun o => cell_later o hcx22_1; have hcx22_2 : w2_.cell? ⟨W.heap.size + 1 + 1, 2, none⟩ = some (.string x2.f2) := blk_cell HKx22_.out 2; have hdx22_2 : ∀ o, (w2_.alloc o).cell? ⟨W.heap.size + 1 + 1, 2, none⟩ = some (.string x2.f2) := fun o => cell_later o hcx22_2; clear hb2_
    go_wp2_with fail
    have hlt_x0 := blk_lt (HKx02_.out); have hlt_x1 := blk_lt (HKx12_.out); have hlt_x2 := blk_lt (HKx22_.out); have hex1_0 : ∀ o o2, ((w2_.alloc o).alloc o2).cell? ⟨W.heap.size + 1, 0, none⟩ = some (.string x1.f0) := fun o o2 => cell_later o2 (cell_later o hcx12_0); have hex1_1 : ∀ o o2, ((w2_.alloc o).alloc o2).cell? ⟨W.heap.size + 1, 1, none⟩ = some (.int .i64 x1.f1) := fun o o2 => cell_later o2 (cell_later o hcx12_1); have hex1_2 : ∀ o o2, ((w2_.alloc o).alloc o2).cell? ⟨W.heap.size + 1, 2, none⟩ = some (.slice A1 x1.f2.length c1) := fun o o2 => cell_later o2 (cell_later o hcx12_2); have hex2_0 : ∀ o o2, ((w2_.alloc o).alloc o2).cell? ⟨W.heap.size + 1 + 1, 0, none⟩ = some (.int .i64 x2.f0) := fun o o2 => cell_later o2 (cell_later o hcx22_0); have hex2_1 : ∀ o o2, ((w2_.alloc o).alloc o2).cell? ⟨W.heap.size + 1 + 1, 1, none⟩ = some (.int .i64 x2.f1) := fun o o2 => cell_later o2 (cell_later o hcx22_1); have hex2_2 : ∀ o o2, ((w2_.alloc o).alloc o2).cell? ⟨W.heap.size + 1 + 1, 2, none⟩ = some (.string x2.f2) := fun o o2 => cell_later o2 (cell_later o hcx22_2)
    go_upto_region 6 with fail
    go_cut [] (fun wx => ∃ A3_ c3_, wx.heap[W.heap.size]? = some (.cells #[.string x0.f0, .int .i64 x0.f1, .slice A0 x0.f2.length c0] 35 (0, 0)) ∧ wx.heap[W.heap.size + 1]? = some (.cells #[.string x1.f0, .int .i64 x1.f1, .slice A1 x1.f2.length c1] 24 (0, 0)) ∧ wx.heap[W.heap.size + 1 + 1]? = some (.cells #[.int .i64 x2.f0, .int .i64 x2.f1, .string x2.f2] 37 (0, 0)) ∧ wx.heap[w2_.heap.size]? = some (.cells #[.string x1.f0, .int .i64 x1.f1, Value.slice A3_ FX.length c3_] 24 (0, 0)) ∧ Below W.heap.size W wx ∧ FX.length ≤ c3_ ∧ Kd.C (kValue) wx A3_ FX.length FX)
    case first =>
      go_region_law (first | (refine Kd.R_append_rows_step (o := ⟨some 43, _, _, _, _, _⟩) (kValue) _ ?hw (.const (.slice none 0 0)) (.tmp 42) 22 37 (.agg #[(.int .i64 0), (.int .i64 0), (.string ⟨#[]⟩)]) 32 rfl Try.underlying22 infoValue rfl ?h0 ?h1 (.slice none 0 0) [] x1.f2 A1 x1.f2.length c1 (fun _ => True) (fun _ => False) ?hs ?hx (Kd.R_nil _ _ _ _ _) (Kd.C_below HR1.out (below_drew (below_alloc (HB2_.out) _))) ?aK (fun _ h => h.elim) (fun _ _ => trivial) (Below.refl _ _) (Nat.le_refl _) ?aL ?_; (case hw => rfl); (case h0 => decide); (case h1 => decide); (case hs => rfl); (case hx => rfl); (case aK => exact (fun x cs h => by rw [kValue_open h]; exact kValue_mkM _ _ _ x)); (case aL => simp only [List.length_nil]; omega); intro v3a_ w3a_ ho3a_ hb3A_ hg3a_ hat3a_; simp only [List.nil_append] at ho3a_; have HO3a_ := Aside0.mk ho3a_; clear ho3a_; have hckx2_0 : w3a_.cell? ⟨W.heap.size + 1 + 1, 0, none⟩ = some (.int .i64 x2.f0) := blk_cell (blk_below (blk_drew (blk_alloc (HKx22_.out) _)) hb3A_) 0; have hckx2_1 : w3a_.cell? ⟨W.heap.size + 1 + 1, 1, none⟩ = some (.int .i64 x2.f1) := blk_cell (blk_below (blk_drew (blk_alloc (HKx22_.out) _)) hb3A_) 1; have hckx2_2 : w3a_.cell? ⟨W.heap.size + 1 + 1, 2, none⟩ = some (.string x2.f2) := blk_cell (blk_below (blk_drew (blk_alloc (HKx22_.out) _)) hb3A_) 2) | (refine Kd.R_append_rows_step (o := ⟨some 43, _, _, _, _, _⟩) (kValue) _ ?hw (.const (.slice none 0 0)) (.tmp 42) 22 37 (.agg #[(.int .i64 0), (.int .i64 0), (.string ⟨#[]⟩)]) 32 rfl Try.underlying22 infoValue rfl ?h0 ?h1 (.slice none 0 0) [] x1.f2 A1 x1.f2.length c1 (fun _ => True) (fun _ => False) ?hs ?hx (Kd.R_nil _ _ _ _ _) (Kd.C_below HR1.out (below_alloc (below_drew (below_alloc (HB2_.out) _)) _)) ?aK (fun _ h => h.elim) (fun _ _ => trivial) (Below.refl _ _) (Nat.le_refl _) ?aL ?_; (case hw => rfl); (case h0 => decide); (case h1 => decide); (case hs => rfl); (case hx => rfl); (case aK => exact (fun x cs h => by rw [kValue_open h]; exact kValue_mkM _ _ _ x)); (case aL => simp only [List.length_nil]; omega); intro v3a_ w3a_ ho3a_ hb3B_ hg3a_ hat3a_; simp only [List.nil_append] at ho3a_; have HO3a_ := Aside0.mk ho3a_; clear ho3a_; have hckx2_0 : w3a_.cell? ⟨W.heap.size + 1 + 1, 0, none⟩ = some (.int .i64 x2.f0) := blk_cell (blk_below (blk_drew (blk_alloc (blk_alloc (HKx22_.out) _) _)) hb3B_) 0; have hckx2_1 : w3a_.cell? ⟨W.heap.size + 1 + 1, 1, none⟩ = some (.int .i64 x2.f1) := blk_cell (blk_below (blk_drew (blk_alloc (blk_alloc (HKx22_.out) _) _)) hb3B_) 1; have hckx2_2 : w3a_.cell? ⟨W.heap.size + 1 + 1, 2, none⟩ = some (.string x2.f2) := blk_cell (blk_below (blk_drew (blk_alloc (blk_alloc (HKx22_.out) _) _)) hb3B_) 2) | (refine Kd.R_append_rows_step (o := ⟨some 46, _, _, _, _, _⟩) (kValue) _ ?hw (.tmp 43) (.tmp 45) 22 37 (.agg #[(.int .i64 0), (.int .i64 0), (.string ⟨#[]⟩)]) 32 rfl Try.underlying22 infoValue rfl ?h0 ?h1 v3a_ x1.f2 [x2] _ 1 1 (fun _ => True) (fun _ => False) ?hs ?hx (Kd.R_alloc HO3a_.out _) (C_single (T := 37) (cs := [.int .i64 x2.f0, .int .i64 x2.f1, .string x2.f2]) (blk_new _ _) (kValue_mk _ x2) rfl) ?aK (fun _ h => h.elim) (fun _ _ => trivial) (below_alloc hb3A_ _) (below_size (below_alloc hb3A_ _)) ?aL ?_; (case hw => rfl); (case h0 => decide); (case h1 => decide); (case hs => rfl); (case hx => rfl); (case aK => exact (fun x cs h => by rw [kValue_open h]; exact kValue_mkM _ _ _ x)); (case aL => omega); intro v3_ w3b_ ho3_ hb3_ hg3_ hat3_; rw [HFX.out] at ho3_; obtain ⟨A3_, c3_, hv3_, hq3_, hp3_⟩ := Kd.R_reads ho3_; subst hv3_; have HQ3_ := Aside0.mk hq3_; have HO3_ := Aside0.mk ho3_; clear ho3_ hp3_ hq3_; (first | have HB3b_ := Aside0.mk (below_step (below_drew (below_alloc (HB2_.out) _)) hb3_) | have HB3b_ := Aside0.mk (below_step (below_alloc (below_drew (below_alloc (HB2_.out) _)) _) hb3_)); have HKx03b_ : Aside0 (w3b_.heap[W.heap.size]? = some (.cells #[.string x0.f0, .int .i64 x0.f1, .slice A0 x0.f2.length c0] 35 (0, 0))) := ⟨by first | exact blk_below (blk_drew (blk_alloc (HKx02_.out) _)) hb3_ | exact blk_below (blk_drew (blk_alloc (blk_alloc (HKx02_.out) _) _)) hb3_⟩; have HKx13b_ : Aside0 (w3b_.heap[W.heap.size + 1]? = some (.cells #[.string x1.f0, .int .i64 x1.f1, .slice A1 x1.f2.length c1] 24 (0, 0))) := ⟨by first | exact blk_below (blk_drew (blk_alloc (HKx12_.out) _)) hb3_ | exact blk_below (blk_drew (blk_alloc (blk_alloc (HKx12_.out) _) _)) hb3_⟩; have HKx23b_ : Aside0 (w3b_.heap[W.heap.size + 1 + 1]? = some (.cells #[.int .i64 x2.f0, .int .i64 x2.f1, .string x2.f2] 37 (0, 0))) := ⟨by first | exact blk_below (blk_drew (blk_alloc (HKx22_.out) _)) hb3_ | exact blk_below (blk_drew (blk_alloc (blk_alloc (HKx22_.out) _) _)) hb3_⟩; have HKd3b_ : Aside0 (w3b_.heap[w2_.heap.size]? = some (.cells #[.string x1.f0, .int .i64 x1.f1, .slice A1 x1.f2.length c1] 24 (0, 0))) := ⟨by first | exact blk_below (blk_drew (blk_new _ _)) hb3_ | exact blk_below (blk_drew (blk_alloc (blk_new _ _) _)) hb3_⟩; have hfz3_ : w3b_.frozen? ⟨w2_.heap.size, 2, none⟩ = false := blk_frozen HKd3b_.out 2; have hcb3_0 : w3b_.cell? ⟨w2_.heap.size, 0, none⟩ = some (.string x1.f0) := blk_cell HKd3b_.out 0; have hcb3_1 : w3b_.cell? ⟨w2_.heap.size, 1, none⟩ = some (.int .i64 x1.f1) := blk_cell HKd3b_.out 1; have hcb3_2 : w3b_.cell? ⟨w2_.heap.size, 2, none⟩ = some (.slice A1 x1.f2.length c1) := blk_cell HKd3b_.out 2) | (refine Kd.R_append_rows_step (o := ⟨some 46, _, _, _, _, _⟩) (kValue) _ ?hw (.tmp 43) (.tmp 45) 22 37 (.agg #[(.int .i64 0), (.int .i64 0), (.string ⟨#[]⟩)]) 32 rfl Try.underlying22 infoValue rfl ?h0 ?h1 v3a_ x1.f2 [x2] _ 1 1 (fun _ => True) (fun _ => False) ?hs ?hx HO3a_.out (C_single (B := w2_.heap.size + 1) (T := 37) (cs := [.int .i64 x2.f0, .int .i64 x2.f1, .string x2.f2]) (blk_below (blk_newN _ _ (w2_.heap.size + 1) (by simp)) hb3B_) (kValue_mk _ x2) rfl) ?aK (fun _ h => h.elim) (fun _ _ => trivial) hb3B_ (below_size hb3B_) ?aL ?_; (case hw => rfl); (case h0 => decide); (case h1 => decide); (case hs => rfl); (case hx => rfl); (case aK => exact (fun x cs h => by rw [kValue_open h]; exact kValue_mkM _ _ _ x)); (case aL => omega); intro v3_ w3b_ ho3_ hb3_ hg3_ hat3_; rw [HFX.out] at ho3_; obtain ⟨A3_, c3_, hv3_, hq3_, hp3_⟩ := Kd.R_reads ho3_; subst hv3_; have HQ3_ := Aside0.mk hq3_; have HO3_ := Aside0.mk ho3_; clear ho3_ hp3_ hq3_; (first | have HB3b_ := Aside0.mk (below_step (below_drew (below_alloc (HB2_.out) _)) hb3_) | have HB3b_ := Aside0.mk (below_step (below_alloc (below_drew (below_alloc (HB2_.out) _)) _) hb3_)); have HKx03b_ : Aside0 (w3b_.heap[W.heap.size]? = some (.cells #[.string x0.f0, .int .i64 x0.f1, .slice A0 x0.f2.length c0] 35 (0, 0))) := ⟨by first | exact blk_below (blk_drew (blk_alloc (HKx02_.out) _)) hb3_ | exact blk_below (blk_drew (blk_alloc (blk_alloc (HKx02_.out) _) _)) hb3_⟩; have HKx13b_ : Aside0 (w3b_.heap[W.heap.size + 1]? = some (.cells #[.string x1.f0, .int .i64 x1.f1, .slice A1 x1.f2.length c1] 24 (0, 0))) := ⟨by first | exact blk_below (blk_drew (blk_alloc (HKx12_.out) _)) hb3_ | exact blk_below (blk_drew (blk_alloc (blk_alloc (HKx12_.out) _) _)) hb3_⟩; have HKx23b_ : Aside0 (w3b_.heap[W.heap.size + 1 + 1]? = some (.cells #[.int .i64 x2.f0, .int .i64 x2.f1, .string x2.f2] 37 (0, 0))) := ⟨by first | exact blk_below (blk_drew (blk_alloc (HKx22_.out) _)) hb3_ | exact blk_below (blk_drew (blk_alloc (blk_alloc (HKx22_.out) _) _)) hb3_⟩; have HKd3b_ : Aside0 (w3b_.heap[w2_.heap.size]? = some (.cells #[.string x1.f0, .int .i64 x1.f1, .slice A1 x1.f2.length c1] 24 (0, 0))) := ⟨by first | exact blk_below (blk_drew (blk_new _ _)) hb3_ | exact blk_below (blk_drew (blk_alloc (blk_new _ _) _)) hb3_⟩; have hfz3_ : w3b_.frozen? ⟨w2_.heap.size, 2, none⟩ = false := blk_frozen HKd3b_.out 2; have hcb3_0 : w3b_.cell? ⟨w2_.heap.size, 0, none⟩ = some (.string x1.f0) := blk_cell HKd3b_.out 0; have hcb3_1 : w3b_.cell? ⟨w2_.heap.size, 1, none⟩ = some (.int .i64 x1.f1) := blk_cell HKd3b_.out 1; have hcb3_2 : w3b_.cell? ⟨w2_.heap.size, 2, none⟩ = some (.slice A1 x1.f2.length c1) := blk_cell HKd3b_.out 2))
      all_goals
        have HB3_ := Aside0.mk (below_set (v := Value.slice A3_ FX.length c3_) (g := w2_.heap.size) (j := 2) HB3b_.out (by omega))
        have HKx03_ := Aside0.mk (blk_far HKx03b_.out (p := ⟨w2_.heap.size, 2, none⟩) (show W.heap.size ≠ w2_.heap.size by omega) (Value.slice A3_ FX.length c3_))
        have HKx13_ := Aside0.mk (blk_far HKx13b_.out (p := ⟨w2_.heap.size, 2, none⟩) (show W.heap.size + 1 ≠ w2_.heap.size by omega) (Value.slice A3_ FX.length c3_))
        have HKx23_ := Aside0.mk (blk_far HKx23b_.out (p := ⟨w2_.heap.size, 2, none⟩) (show W.heap.size + 1 + 1 ≠ w2_.heap.size by omega) (Value.slice A3_ FX.length c3_))
        have HKd3_ := Aside0.mk (blk_put (cs' := #[.string x1.f0, .int .i64 x1.f1, Value.slice A3_ FX.length c3_]) HKd3b_.out 2 (Value.slice A3_ FX.length c3_) rfl)
        have HP3'_ := Aside0.mk (Kd.R_reads' (Kd.R_set HO3_.out HKd3b_.out (by decide) 2 (Value.slice A3_ FX.length c3_))).2.2
        go_wp2_with fail
        go_meet
        exact ⟨A3_, c3_, HKx03_.out, HKx13_.out, HKx23_.out, HKd3_.out, HB3_.out, HQ3_.out, HP3'_.out⟩
    case rest =>
      obtain ⟨A3_, c3_, hkx03_, hkx13_, hkx23_, hkd3_, hb3_, hq3_, hp3_⟩ := hcut
      obtain ⟨w3_, rfl⟩ : ∃ w3_, w3_ = wc := ⟨_, rfl⟩
      have HB3_ := Aside0.mk hb3_
      have HQ3_ := Aside0.mk hq3_
      have HP3'_ := Aside0.mk hp3_
      have HKx03_ := Aside0.mk hkx03_
      have HKx13_ := Aside0.mk hkx13_
      have HKx23_ := Aside0.mk hkx23_
      have HKd3_ := Aside0.mk hkd3_
      have hcx03_0 : w3_.cell? ⟨W.heap.size, 0, none⟩ = some (.string x0.f0) := blk_cell HKx03_.out 0
      have hdx03_0 : ∀ o, (w3_.alloc o).cell? ⟨W.heap.size, 0, none⟩ = some (.string x0.f0) := fun o => cell_later o hcx03_0
      have hcx03_1 : w3_.cell? ⟨W.heap.size, 1, none⟩ = some (.int .i64 x0.f1) := blk_cell HKx03_.out 1
      have hdx03_1 : ∀ o, (w3_.alloc o).cell? ⟨W.heap.size, 1, none⟩ = some (.int .i64 x0.f1) := fun o => cell_later o hcx03_1
      have hcx03_2 : w3_.cell? ⟨W.heap.size, 2, none⟩ = some (.slice A0 x0.f2.length c0) := blk_cell HKx03_.out 2
      have hdx03_2 : ∀ o, (w3_.alloc o).cell? ⟨W.heap.size, 2, none⟩ = some (.slice A0 x0.f2.length c0) := fun o => cell_later o hcx03_2
      have hcx13_0 : w3_.cell? ⟨W.heap.size + 1, 0, none⟩ = some (.string x1.f0) := blk_cell HKx13_.out 0
      have hdx13_0 : ∀ o, (w3_.alloc o).cell? ⟨W.heap.size + 1, 0, none⟩ = some (.string x1.f0) := fun o => cell_later o hcx13_0
      have hcx13_1 : w3_.cell? ⟨W.heap.size + 1, 1, none⟩ = some (.int .i64 x1.f1) := blk_cell HKx13_.out 1
      have hdx13_1 : ∀ o, (w3_.alloc o).cell? ⟨W.heap.size + 1, 1, none⟩ = some (.int .i64 x1.f1) := fun o => cell_later o hcx13_1
      have hcx13_2 : w3_.cell? ⟨W.heap.size + 1, 2, none⟩ = some (.slice A1 x1.f2.length c1) := blk_cell HKx13_.out 2
      have hdx13_2 : ∀ o, (w3_.alloc o).cell? ⟨W.heap.size + 1, 2, none⟩ = some (.slice A1 x1.f2.length c1) := fun o => cell_later o hcx13_2
      have hcd3_0 : w3_.cell? ⟨w2_.heap.size, 0, none⟩ = some (.string x1.f0) := blk_cell HKd3_.out 0
      have hdd3_0 : ∀ o, (w3_.alloc o).cell? ⟨w2_.heap.size, 0, none⟩ = some (.string x1.f0) := fun o => cell_later o hcd3_0
      have hcd3_1 : w3_.cell? ⟨w2_.heap.size, 1, none⟩ = some (.int .i64 x1.f1) := blk_cell HKd3_.out 1
      have hdd3_1 : ∀ o, (w3_.alloc o).cell? ⟨w2_.heap.size, 1, none⟩ = some (.int .i64 x1.f1) := fun o => cell_later o hcd3_1
      have hcd3_2 : w3_.cell? ⟨w2_.heap.size, 2, none⟩ = some (Value.slice A3_ FX.length c3_) := blk_cell HKd3_.out 2
      have hdd3_2 : ∀ o, (w3_.alloc o).cell? ⟨w2_.heap.size, 2, none⟩ = some (Value.slice A3_ FX.length c3_) := fun o => cell_later o hcd3_2
      clear hb3_ hq3_ hp3_ hkx03_ hkx13_ hkx23_ hkd3_
      go_wp2_with fail
      cases ms
      · obtain rfl := HONE.out (.inl rfl)
        go_wp2_with fail
        go_at_call 13; refine (event_Valid.told x0 x1 A0 c0 A1 c1 _ (Kd.C_below HR0.out (HB3_.out)) HC0.out (Kd.C_below HR1.out (HB3_.out)) HC1.out HV1.out HVD.out).mono ?_; rintro e w4_ ⟨rfl, hb4_⟩; have HB4_ := Aside0.mk (below_step (HB3_.out) hb4_); have HKx04_ := Aside0.mk (blk_below (HKx03_.out) hb4_); have hcx04_0 : w4_.cell? ⟨W.heap.size, 0, none⟩ = some (.string x0.f0) := blk_cell HKx04_.out 0; have hdx04_0 : ∀ o, (w4_.alloc o).cell? ⟨W.heap.size, 0, none⟩ = some (.string x0.f0) := fun o => cell_later o hcx04_0; have hcx04_1 : w4_.cell? ⟨W.heap.size, 1, none⟩ = some (.int .i64 x0.f1) := blk_cell HKx04_.out 1; have hdx04_1 : ∀ o, (w4_.alloc o).cell? ⟨W.heap.size, 1, none⟩ = some (.int .i64 x0.f1) := fun o => cell_later o hcx04_1; have hcx04_2 : w4_.cell? ⟨W.heap.size, 2, none⟩ = some (.slice A0 x0.f2.length c0) := blk_cell HKx04_.out 2; have hdx04_2 : ∀ o, (w4_.alloc o).cell? ⟨W.heap.size, 2, none⟩ = some (.slice A0 x0.f2.length c0) := fun o => cell_later o hcx04_2; have HKx14_ := Aside0.mk (blk_below (HKx13_.out) hb4_); have hcx14_0 : w4_.cell? ⟨W.heap.size + 1, 0, none⟩ = some (.string x1.f0) := blk_cell HKx14_.out 0; have hdx14_0 : ∀ o, (w4_.alloc o).cell? ⟨W.heap.size + 1, 0, none⟩ = some (.string x1.f0) := fun o => cell_later o hcx14_0; have hcx14_1 : w4_.cell? ⟨W.heap.size + 1, 1, none⟩ = some (.int .i64 x1.f1) := blk_cell HKx14_.out 1; have hdx14_1 : ∀ o, (w4_.alloc o).cell? ⟨W.heap.size + 1, 1, none⟩ = some (.int .i64 x1.f1) := fun o => cell_later o hcx14_1; have hcx14_2 : w4_.cell? ⟨W.heap.size + 1, 2, none⟩ = some (.slice A1 x1.f2.length c1) := blk_cell HKx14_.out 2; have hdx14_2 : ∀ o, (w4_.alloc o).cell? ⟨W.heap.size + 1, 2, none⟩ = some (.slice A1 x1.f2.length c1) := fun o => cell_later o hcx14_2; have HKd4_ := Aside0.mk (blk_below (HKd3_.out) hb4_); have hcd4_0 : w4_.cell? ⟨w2_.heap.size, 0, none⟩ = some (.string x1.f0) := blk_cell HKd4_.out 0; have hdd4_0 : ∀ o, (w4_.alloc o).cell? ⟨w2_.heap.size, 0, none⟩ = some (.string x1.f0) := fun o => cell_later o hcd4_0; have hcd4_1 : w4_.cell? ⟨w2_.heap.size, 1, none⟩ = some (.int .i64 x1.f1) := blk_cell HKd4_.out 1; have hdd4_1 : ∀ o, (w4_.alloc o).cell? ⟨w2_.heap.size, 1, none⟩ = some (.int .i64 x1.f1) := fun o => cell_later o hcd4_1; have hcd4_2 : w4_.cell? ⟨w2_.heap.size, 2, none⟩ = some (Value.slice A3_ FX.length c3_) := blk_cell HKd4_.out 2; have hdd4_2 : ∀ o, (w4_.alloc o).cell? ⟨w2_.heap.size, 2, none⟩ = some (Value.slice A3_ FX.length c3_) := fun o => cell_later o hcd4_2; have HRapp34_ := Aside0.mk (Kd.C_below (HP3'_.out) hb4_); clear hb4_
        go_wp2_with fail
        go_at_call 13; refine (event_Valid.told x0 ⟨x1.f0, x1.f1, FX⟩ A0 c0 A3_ c3_ _ (Kd.C_below HR0.out (HB4_.out)) HC0.out (HRapp34_.out) HQ3_.out HVX.out HVE.out).mono ?_; rintro e w5_ ⟨rfl, hb5_⟩; have HB5_ := Aside0.mk (below_step (HB4_.out) hb5_); have HKx05_ := Aside0.mk (blk_below (HKx04_.out) hb5_); have hcx05_0 : w5_.cell? ⟨W.heap.size, 0, none⟩ = some (.string x0.f0) := blk_cell HKx05_.out 0; have hdx05_0 : ∀ o, (w5_.alloc o).cell? ⟨W.heap.size, 0, none⟩ = some (.string x0.f0) := fun o => cell_later o hcx05_0; have hcx05_1 : w5_.cell? ⟨W.heap.size, 1, none⟩ = some (.int .i64 x0.f1) := blk_cell HKx05_.out 1; have hdx05_1 : ∀ o, (w5_.alloc o).cell? ⟨W.heap.size, 1, none⟩ = some (.int .i64 x0.f1) := fun o => cell_later o hcx05_1; have hcx05_2 : w5_.cell? ⟨W.heap.size, 2, none⟩ = some (.slice A0 x0.f2.length c0) := blk_cell HKx05_.out 2; have hdx05_2 : ∀ o, (w5_.alloc o).cell? ⟨W.heap.size, 2, none⟩ = some (.slice A0 x0.f2.length c0) := fun o => cell_later o hcx05_2; have HKx15_ := Aside0.mk (blk_below (HKx14_.out) hb5_); have hcx15_0 : w5_.cell? ⟨W.heap.size + 1, 0, none⟩ = some (.string x1.f0) := blk_cell HKx15_.out 0; have hdx15_0 : ∀ o, (w5_.alloc o).cell? ⟨W.heap.size + 1, 0, none⟩ = some (.string x1.f0) := fun o => cell_later o hcx15_0; have hcx15_1 : w5_.cell? ⟨W.heap.size + 1, 1, none⟩ = some (.int .i64 x1.f1) := blk_cell HKx15_.out 1; have hdx15_1 : ∀ o, (w5_.alloc o).cell? ⟨W.heap.size + 1, 1, none⟩ = some (.int .i64 x1.f1) := fun o => cell_later o hcx15_1; have hcx15_2 : w5_.cell? ⟨W.heap.size + 1, 2, none⟩ = some (.slice A1 x1.f2.length c1) := blk_cell HKx15_.out 2; have hdx15_2 : ∀ o, (w5_.alloc o).cell? ⟨W.heap.size + 1, 2, none⟩ = some (.slice A1 x1.f2.length c1) := fun o => cell_later o hcx15_2; have HKd5_ := Aside0.mk (blk_below (HKd4_.out) hb5_); have hcd5_0 : w5_.cell? ⟨w2_.heap.size, 0, none⟩ = some (.string x1.f0) := blk_cell HKd5_.out 0; have hdd5_0 : ∀ o, (w5_.alloc o).cell? ⟨w2_.heap.size, 0, none⟩ = some (.string x1.f0) := fun o => cell_later o hcd5_0; have hcd5_1 : w5_.cell? ⟨w2_.heap.size, 1, none⟩ = some (.int .i64 x1.f1) := blk_cell HKd5_.out 1; have hdd5_1 : ∀ o, (w5_.alloc o).cell? ⟨w2_.heap.size, 1, none⟩ = some (.int .i64 x1.f1) := fun o => cell_later o hcd5_1; have hcd5_2 : w5_.cell? ⟨w2_.heap.size, 2, none⟩ = some (Value.slice A3_ FX.length c3_) := blk_cell HKd5_.out 2; have hdd5_2 : ∀ o, (w5_.alloc o).cell? ⟨w2_.heap.size, 2, none⟩ = some (Value.slice A3_ FX.length c3_) := fun o => cell_later o hcd5_2; have HRapp35_ := Aside0.mk (Kd.C_below (HRapp34_.out) hb5_); clear hb5_
        go_wp2_with fail
        go_at_call 14; refine (mayS_told x0 A0 c0 _ (Kd.C_below HR0.out (HB5_.out)) HC0.out HMS.out).mono ?_; rintro e w6_ ⟨rfl, hb6_⟩; have HB6_ := Aside0.mk (below_step (HB5_.out) hb6_); have HKx06_ := Aside0.mk (blk_below (HKx05_.out) hb6_); have hcx06_0 : w6_.cell? ⟨W.heap.size, 0, none⟩ = some (.string x0.f0) := blk_cell HKx06_.out 0; have hdx06_0 : ∀ o, (w6_.alloc o).cell? ⟨W.heap.size, 0, none⟩ = some (.string x0.f0) := fun o => cell_later o hcx06_0; have hcx06_1 : w6_.cell? ⟨W.heap.size, 1, none⟩ = some (.int .i64 x0.f1) := blk_cell HKx06_.out 1; have hdx06_1 : ∀ o, (w6_.alloc o).cell? ⟨W.heap.size, 1, none⟩ = some (.int .i64 x0.f1) := fun o => cell_later o hcx06_1; have hcx06_2 : w6_.cell? ⟨W.heap.size, 2, none⟩ = some (.slice A0 x0.f2.length c0) := blk_cell HKx06_.out 2; have hdx06_2 : ∀ o, (w6_.alloc o).cell? ⟨W.heap.size, 2, none⟩ = some (.slice A0 x0.f2.length c0) := fun o => cell_later o hcx06_2; have HKx16_ := Aside0.mk (blk_below (HKx15_.out) hb6_); have hcx16_0 : w6_.cell? ⟨W.heap.size + 1, 0, none⟩ = some (.string x1.f0) := blk_cell HKx16_.out 0; have hdx16_0 : ∀ o, (w6_.alloc o).cell? ⟨W.heap.size + 1, 0, none⟩ = some (.string x1.f0) := fun o => cell_later o hcx16_0; have hcx16_1 : w6_.cell? ⟨W.heap.size + 1, 1, none⟩ = some (.int .i64 x1.f1) := blk_cell HKx16_.out 1; have hdx16_1 : ∀ o, (w6_.alloc o).cell? ⟨W.heap.size + 1, 1, none⟩ = some (.int .i64 x1.f1) := fun o => cell_later o hcx16_1; have hcx16_2 : w6_.cell? ⟨W.heap.size + 1, 2, none⟩ = some (.slice A1 x1.f2.length c1) := blk_cell HKx16_.out 2; have hdx16_2 : ∀ o, (w6_.alloc o).cell? ⟨W.heap.size + 1, 2, none⟩ = some (.slice A1 x1.f2.length c1) := fun o => cell_later o hcx16_2; have HKd6_ := Aside0.mk (blk_below (HKd5_.out) hb6_); have hcd6_0 : w6_.cell? ⟨w2_.heap.size, 0, none⟩ = some (.string x1.f0) := blk_cell HKd6_.out 0; have hdd6_0 : ∀ o, (w6_.alloc o).cell? ⟨w2_.heap.size, 0, none⟩ = some (.string x1.f0) := fun o => cell_later o hcd6_0; have hcd6_1 : w6_.cell? ⟨w2_.heap.size, 1, none⟩ = some (.int .i64 x1.f1) := blk_cell HKd6_.out 1; have hdd6_1 : ∀ o, (w6_.alloc o).cell? ⟨w2_.heap.size, 1, none⟩ = some (.int .i64 x1.f1) := fun o => cell_later o hcd6_1; have hcd6_2 : w6_.cell? ⟨w2_.heap.size, 2, none⟩ = some (Value.slice A3_ FX.length c3_) := blk_cell HKd6_.out 2; have hdd6_2 : ∀ o, (w6_.alloc o).cell? ⟨w2_.heap.size, 2, none⟩ = some (Value.slice A3_ FX.length c3_) := fun o => cell_later o hcd6_2; have HRapp36_ := Aside0.mk (Kd.C_below (HRapp35_.out) hb6_); clear hb6_
        go_wp2_with fail
        go_ret
        exact ⟨by rfl, HB6_.out⟩
      cases me
      · obtain rfl := HONE.out (.inr rfl)
        go_wp2_with fail
        go_at_call 13; refine (event_Valid.told x0 x1 A0 c0 A1 c1 _ (Kd.C_below HR0.out (HB3_.out)) HC0.out (Kd.C_below HR1.out (HB3_.out)) HC1.out HV1.out HVD.out).mono ?_; rintro e w4_ ⟨rfl, hb4_⟩; have HB4_ := Aside0.mk (below_step (HB3_.out) hb4_); have HKx04_ := Aside0.mk (blk_below (HKx03_.out) hb4_); have hcx04_0 : w4_.cell? ⟨W.heap.size, 0, none⟩ = some (.string x0.f0) := blk_cell HKx04_.out 0; have hdx04_0 : ∀ o, (w4_.alloc o).cell? ⟨W.heap.size, 0, none⟩ = some (.string x0.f0) := fun o => cell_later o hcx04_0; have hcx04_1 : w4_.cell? ⟨W.heap.size, 1, none⟩ = some (.int .i64 x0.f1) := blk_cell HKx04_.out 1; have hdx04_1 : ∀ o, (w4_.alloc o).cell? ⟨W.heap.size, 1, none⟩ = some (.int .i64 x0.f1) := fun o => cell_later o hcx04_1; have hcx04_2 : w4_.cell? ⟨W.heap.size, 2, none⟩ = some (.slice A0 x0.f2.length c0) := blk_cell HKx04_.out 2; have hdx04_2 : ∀ o, (w4_.alloc o).cell? ⟨W.heap.size, 2, none⟩ = some (.slice A0 x0.f2.length c0) := fun o => cell_later o hcx04_2; have HKx14_ := Aside0.mk (blk_below (HKx13_.out) hb4_); have hcx14_0 : w4_.cell? ⟨W.heap.size + 1, 0, none⟩ = some (.string x1.f0) := blk_cell HKx14_.out 0; have hdx14_0 : ∀ o, (w4_.alloc o).cell? ⟨W.heap.size + 1, 0, none⟩ = some (.string x1.f0) := fun o => cell_later o hcx14_0; have hcx14_1 : w4_.cell? ⟨W.heap.size + 1, 1, none⟩ = some (.int .i64 x1.f1) := blk_cell HKx14_.out 1; have hdx14_1 : ∀ o, (w4_.alloc o).cell? ⟨W.heap.size + 1, 1, none⟩ = some (.int .i64 x1.f1) := fun o => cell_later o hcx14_1; have hcx14_2 : w4_.cell? ⟨W.heap.size + 1, 2, none⟩ = some (.slice A1 x1.f2.length c1) := blk_cell HKx14_.out 2; have hdx14_2 : ∀ o, (w4_.alloc o).cell? ⟨W.heap.size + 1, 2, none⟩ = some (.slice A1 x1.f2.length c1) := fun o => cell_later o hcx14_2; have HKd4_ := Aside0.mk (blk_below (HKd3_.out) hb4_); have hcd4_0 : w4_.cell? ⟨w2_.heap.size, 0, none⟩ = some (.string x1.f0) := blk_cell HKd4_.out 0; have hdd4_0 : ∀ o, (w4_.alloc o).cell? ⟨w2_.heap.size, 0, none⟩ = some (.string x1.f0) := fun o => cell_later o hcd4_0; have hcd4_1 : w4_.cell? ⟨w2_.heap.size, 1, none⟩ = some (.int .i64 x1.f1) := blk_cell HKd4_.out 1; have hdd4_1 : ∀ o, (w4_.alloc o).cell? ⟨w2_.heap.size, 1, none⟩ = some (.int .i64 x1.f1) := fun o => cell_later o hcd4_1; have hcd4_2 : w4_.cell? ⟨w2_.heap.size, 2, none⟩ = some (Value.slice A3_ FX.length c3_) := blk_cell HKd4_.out 2; have hdd4_2 : ∀ o, (w4_.alloc o).cell? ⟨w2_.heap.size, 2, none⟩ = some (Value.slice A3_ FX.length c3_) := fun o => cell_later o hcd4_2; have HRapp34_ := Aside0.mk (Kd.C_below (HP3'_.out) hb4_); clear hb4_
        go_wp2_with fail
        go_at_call 13; refine (event_Valid.told x0 ⟨x1.f0, x1.f1, FX⟩ A0 c0 A3_ c3_ _ (Kd.C_below HR0.out (HB4_.out)) HC0.out (HRapp34_.out) HQ3_.out HVX.out HVE.out).mono ?_; rintro e w5_ ⟨rfl, hb5_⟩; have HB5_ := Aside0.mk (below_step (HB4_.out) hb5_); have HKx05_ := Aside0.mk (blk_below (HKx04_.out) hb5_); have hcx05_0 : w5_.cell? ⟨W.heap.size, 0, none⟩ = some (.string x0.f0) := blk_cell HKx05_.out 0; have hdx05_0 : ∀ o, (w5_.alloc o).cell? ⟨W.heap.size, 0, none⟩ = some (.string x0.f0) := fun o => cell_later o hcx05_0; have hcx05_1 : w5_.cell? ⟨W.heap.size, 1, none⟩ = some (.int .i64 x0.f1) := blk_cell HKx05_.out 1; have hdx05_1 : ∀ o, (w5_.alloc o).cell? ⟨W.heap.size, 1, none⟩ = some (.int .i64 x0.f1) := fun o => cell_later o hcx05_1; have hcx05_2 : w5_.cell? ⟨W.heap.size, 2, none⟩ = some (.slice A0 x0.f2.length c0) := blk_cell HKx05_.out 2; have hdx05_2 : ∀ o, (w5_.alloc o).cell? ⟨W.heap.size, 2, none⟩ = some (.slice A0 x0.f2.length c0) := fun o => cell_later o hcx05_2; have HKx15_ := Aside0.mk (blk_below (HKx14_.out) hb5_); have hcx15_0 : w5_.cell? ⟨W.heap.size + 1, 0, none⟩ = some (.string x1.f0) := blk_cell HKx15_.out 0; have hdx15_0 : ∀ o, (w5_.alloc o).cell? ⟨W.heap.size + 1, 0, none⟩ = some (.string x1.f0) := fun o => cell_later o hcx15_0; have hcx15_1 : w5_.cell? ⟨W.heap.size + 1, 1, none⟩ = some (.int .i64 x1.f1) := blk_cell HKx15_.out 1; have hdx15_1 : ∀ o, (w5_.alloc o).cell? ⟨W.heap.size + 1, 1, none⟩ = some (.int .i64 x1.f1) := fun o => cell_later o hcx15_1; have hcx15_2 : w5_.cell? ⟨W.heap.size + 1, 2, none⟩ = some (.slice A1 x1.f2.length c1) := blk_cell HKx15_.out 2; have hdx15_2 : ∀ o, (w5_.alloc o).cell? ⟨W.heap.size + 1, 2, none⟩ = some (.slice A1 x1.f2.length c1) := fun o => cell_later o hcx15_2; have HKd5_ := Aside0.mk (blk_below (HKd4_.out) hb5_); have hcd5_0 : w5_.cell? ⟨w2_.heap.size, 0, none⟩ = some (.string x1.f0) := blk_cell HKd5_.out 0; have hdd5_0 : ∀ o, (w5_.alloc o).cell? ⟨w2_.heap.size, 0, none⟩ = some (.string x1.f0) := fun o => cell_later o hcd5_0; have hcd5_1 : w5_.cell? ⟨w2_.heap.size, 1, none⟩ = some (.int .i64 x1.f1) := blk_cell HKd5_.out 1; have hdd5_1 : ∀ o, (w5_.alloc o).cell? ⟨w2_.heap.size, 1, none⟩ = some (.int .i64 x1.f1) := fun o => cell_later o hcd5_1; have hcd5_2 : w5_.cell? ⟨w2_.heap.size, 2, none⟩ = some (Value.slice A3_ FX.length c3_) := blk_cell HKd5_.out 2; have hdd5_2 : ∀ o, (w5_.alloc o).cell? ⟨w2_.heap.size, 2, none⟩ = some (Value.slice A3_ FX.length c3_) := fun o => cell_later o hcd5_2; have HRapp35_ := Aside0.mk (Kd.C_below (HRapp34_.out) hb5_); clear hb5_
        go_wp2_with fail
        go_at_call 14; refine (mayS_told x0 A0 c0 _ (Kd.C_below HR0.out (HB5_.out)) HC0.out HMS.out).mono ?_; rintro e w6_ ⟨rfl, hb6_⟩; have HB6_ := Aside0.mk (below_step (HB5_.out) hb6_); have HKx06_ := Aside0.mk (blk_below (HKx05_.out) hb6_); have hcx06_0 : w6_.cell? ⟨W.heap.size, 0, none⟩ = some (.string x0.f0) := blk_cell HKx06_.out 0; have hdx06_0 : ∀ o, (w6_.alloc o).cell? ⟨W.heap.size, 0, none⟩ = some (.string x0.f0) := fun o => cell_later o hcx06_0; have hcx06_1 : w6_.cell? ⟨W.heap.size, 1, none⟩ = some (.int .i64 x0.f1) := blk_cell HKx06_.out 1; have hdx06_1 : ∀ o, (w6_.alloc o).cell? ⟨W.heap.size, 1, none⟩ = some (.int .i64 x0.f1) := fun o => cell_later o hcx06_1; have hcx06_2 : w6_.cell? ⟨W.heap.size, 2, none⟩ = some (.slice A0 x0.f2.length c0) := blk_cell HKx06_.out 2; have hdx06_2 : ∀ o, (w6_.alloc o).cell? ⟨W.heap.size, 2, none⟩ = some (.slice A0 x0.f2.length c0) := fun o => cell_later o hcx06_2; have HKx16_ := Aside0.mk (blk_below (HKx15_.out) hb6_); have hcx16_0 : w6_.cell? ⟨W.heap.size + 1, 0, none⟩ = some (.string x1.f0) := blk_cell HKx16_.out 0; have hdx16_0 : ∀ o, (w6_.alloc o).cell? ⟨W.heap.size + 1, 0, none⟩ = some (.string x1.f0) := fun o => cell_later o hcx16_0; have hcx16_1 : w6_.cell? ⟨W.heap.size + 1, 1, none⟩ = some (.int .i64 x1.f1) := blk_cell HKx16_.out 1; have hdx16_1 : ∀ o, (w6_.alloc o).cell? ⟨W.heap.size + 1, 1, none⟩ = some (.int .i64 x1.f1) := fun o => cell_later o hcx16_1; have hcx16_2 : w6_.cell? ⟨W.heap.size + 1, 2, none⟩ = some (.slice A1 x1.f2.length c1) := blk_cell HKx16_.out 2; have hdx16_2 : ∀ o, (w6_.alloc o).cell? ⟨W.heap.size + 1, 2, none⟩ = some (.slice A1 x1.f2.length c1) := fun o => cell_later o hcx16_2; have HKd6_ := Aside0.mk (blk_below (HKd5_.out) hb6_); have hcd6_0 : w6_.cell? ⟨w2_.heap.size, 0, none⟩ = some (.string x1.f0) := blk_cell HKd6_.out 0; have hdd6_0 : ∀ o, (w6_.alloc o).cell? ⟨w2_.heap.size, 0, none⟩ = some (.string x1.f0) := fun o => cell_later o hcd6_0; have hcd6_1 : w6_.cell? ⟨w2_.heap.size, 1, none⟩ = some (.int .i64 x1.f1) := blk_cell HKd6_.out 1; have hdd6_1 : ∀ o, (w6_.alloc o).cell? ⟨w2_.heap.size, 1, none⟩ = some (.int .i64 x1.f1) := fun o => cell_later o hcd6_1; have hcd6_2 : w6_.cell? ⟨w2_.heap.size, 2, none⟩ = some (Value.slice A3_ FX.length c3_) := blk_cell HKd6_.out 2; have hdd6_2 : ∀ o, (w6_.alloc o).cell? ⟨w2_.heap.size, 2, none⟩ = some (Value.slice A3_ FX.length c3_) := fun o => cell_later o hcd6_2; have HRapp36_ := Aside0.mk (Kd.C_below (HRapp35_.out) hb6_); clear hb6_
        go_wp2_with fail
        go_at_call 15; refine (event_May.told x1 A1 c1 _ (Kd.C_below HR1.out (HB6_.out)) HC1.out HV1.out HME.out).mono ?_; rintro e w7_ ⟨rfl, hb7_⟩; have HB7_ := Aside0.mk (below_step (HB6_.out) hb7_); have HKx07_ := Aside0.mk (blk_below (HKx06_.out) hb7_); have hcx07_0 : w7_.cell? ⟨W.heap.size, 0, none⟩ = some (.string x0.f0) := blk_cell HKx07_.out 0; have hdx07_0 : ∀ o, (w7_.alloc o).cell? ⟨W.heap.size, 0, none⟩ = some (.string x0.f0) := fun o => cell_later o hcx07_0; have hcx07_1 : w7_.cell? ⟨W.heap.size, 1, none⟩ = some (.int .i64 x0.f1) := blk_cell HKx07_.out 1; have hdx07_1 : ∀ o, (w7_.alloc o).cell? ⟨W.heap.size, 1, none⟩ = some (.int .i64 x0.f1) := fun o => cell_later o hcx07_1; have hcx07_2 : w7_.cell? ⟨W.heap.size, 2, none⟩ = some (.slice A0 x0.f2.length c0) := blk_cell HKx07_.out 2; have hdx07_2 : ∀ o, (w7_.alloc o).cell? ⟨W.heap.size, 2, none⟩ = some (.slice A0 x0.f2.length c0) := fun o => cell_later o hcx07_2; have HKx17_ := Aside0.mk (blk_below (HKx16_.out) hb7_); have hcx17_0 : w7_.cell? ⟨W.heap.size + 1, 0, none⟩ = some (.string x1.f0) := blk_cell HKx17_.out 0; have hdx17_0 : ∀ o, (w7_.alloc o).cell? ⟨W.heap.size + 1, 0, none⟩ = some (.string x1.f0) := fun o => cell_later o hcx17_0; have hcx17_1 : w7_.cell? ⟨W.heap.size + 1, 1, none⟩ = some (.int .i64 x1.f1) := blk_cell HKx17_.out 1; have hdx17_1 : ∀ o, (w7_.alloc o).cell? ⟨W.heap.size + 1, 1, none⟩ = some (.int .i64 x1.f1) := fun o => cell_later o hcx17_1; have hcx17_2 : w7_.cell? ⟨W.heap.size + 1, 2, none⟩ = some (.slice A1 x1.f2.length c1) := blk_cell HKx17_.out 2; have hdx17_2 : ∀ o, (w7_.alloc o).cell? ⟨W.heap.size + 1, 2, none⟩ = some (.slice A1 x1.f2.length c1) := fun o => cell_later o hcx17_2; have HKd7_ := Aside0.mk (blk_below (HKd6_.out) hb7_); have hcd7_0 : w7_.cell? ⟨w2_.heap.size, 0, none⟩ = some (.string x1.f0) := blk_cell HKd7_.out 0; have hdd7_0 : ∀ o, (w7_.alloc o).cell? ⟨w2_.heap.size, 0, none⟩ = some (.string x1.f0) := fun o => cell_later o hcd7_0; have hcd7_1 : w7_.cell? ⟨w2_.heap.size, 1, none⟩ = some (.int .i64 x1.f1) := blk_cell HKd7_.out 1; have hdd7_1 : ∀ o, (w7_.alloc o).cell? ⟨w2_.heap.size, 1, none⟩ = some (.int .i64 x1.f1) := fun o => cell_later o hcd7_1; have hcd7_2 : w7_.cell? ⟨w2_.heap.size, 2, none⟩ = some (Value.slice A3_ FX.length c3_) := blk_cell HKd7_.out 2; have hdd7_2 : ∀ o, (w7_.alloc o).cell? ⟨w2_.heap.size, 2, none⟩ = some (Value.slice A3_ FX.length c3_) := fun o => cell_later o hcd7_2; have HRapp37_ := Aside0.mk (Kd.C_below (HRapp36_.out) hb7_); clear hb7_
        go_wp2_with fail
        go_ret
        exact ⟨by rfl, HB7_.out⟩
      by_cases hn : x0.f0.toList = x1.f0.toList
      case neg =>
        obtain rfl := HTHREE.out rfl rfl hn
        have hn2 : (x0.f0.toList == x1.f0.toList) = false := beq_eq_false_iff_ne.2 hn
        clear hn
        go_wp2_with fail
        go_at_call 13; refine (event_Valid.told x0 x1 A0 c0 A1 c1 _ (Kd.C_below HR0.out (HB3_.out)) HC0.out (Kd.C_below HR1.out (HB3_.out)) HC1.out HV1.out HVD.out).mono ?_; rintro e w4_ ⟨rfl, hb4_⟩; have HB4_ := Aside0.mk (below_step (HB3_.out) hb4_); have HKx04_ := Aside0.mk (blk_below (HKx03_.out) hb4_); have hcx04_0 : w4_.cell? ⟨W.heap.size, 0, none⟩ = some (.string x0.f0) := blk_cell HKx04_.out 0; have hdx04_0 : ∀ o, (w4_.alloc o).cell? ⟨W.heap.size, 0, none⟩ = some (.string x0.f0) := fun o => cell_later o hcx04_0; have hcx04_1 : w4_.cell? ⟨W.heap.size, 1, none⟩ = some (.int .i64 x0.f1) := blk_cell HKx04_.out 1; have hdx04_1 : ∀ o, (w4_.alloc o).cell? ⟨W.heap.size, 1, none⟩ = some (.int .i64 x0.f1) := fun o => cell_later o hcx04_1; have hcx04_2 : w4_.cell? ⟨W.heap.size, 2, none⟩ = some (.slice A0 x0.f2.length c0) := blk_cell HKx04_.out 2; have hdx04_2 : ∀ o, (w4_.alloc o).cell? ⟨W.heap.size, 2, none⟩ = some (.slice A0 x0.f2.length c0) := fun o => cell_later o hcx04_2; have HKx14_ := Aside0.mk (blk_below (HKx13_.out) hb4_); have hcx14_0 : w4_.cell? ⟨W.heap.size + 1, 0, none⟩ = some (.string x1.f0) := blk_cell HKx14_.out 0; have hdx14_0 : ∀ o, (w4_.alloc o).cell? ⟨W.heap.size + 1, 0, none⟩ = some (.string x1.f0) := fun o => cell_later o hcx14_0; have hcx14_1 : w4_.cell? ⟨W.heap.size + 1, 1, none⟩ = some (.int .i64 x1.f1) := blk_cell HKx14_.out 1; have hdx14_1 : ∀ o, (w4_.alloc o).cell? ⟨W.heap.size + 1, 1, none⟩ = some (.int .i64 x1.f1) := fun o => cell_later o hcx14_1; have hcx14_2 : w4_.cell? ⟨W.heap.size + 1, 2, none⟩ = some (.slice A1 x1.f2.length c1) := blk_cell HKx14_.out 2; have hdx14_2 : ∀ o, (w4_.alloc o).cell? ⟨W.heap.size + 1, 2, none⟩ = some (.slice A1 x1.f2.length c1) := fun o => cell_later o hcx14_2; have HKd4_ := Aside0.mk (blk_below (HKd3_.out) hb4_); have hcd4_0 : w4_.cell? ⟨w2_.heap.size, 0, none⟩ = some (.string x1.f0) := blk_cell HKd4_.out 0; have hdd4_0 : ∀ o, (w4_.alloc o).cell? ⟨w2_.heap.size, 0, none⟩ = some (.string x1.f0) := fun o => cell_later o hcd4_0; have hcd4_1 : w4_.cell? ⟨w2_.heap.size, 1, none⟩ = some (.int .i64 x1.f1) := blk_cell HKd4_.out 1; have hdd4_1 : ∀ o, (w4_.alloc o).cell? ⟨w2_.heap.size, 1, none⟩ = some (.int .i64 x1.f1) := fun o => cell_later o hcd4_1; have hcd4_2 : w4_.cell? ⟨w2_.heap.size, 2, none⟩ = some (Value.slice A3_ FX.length c3_) := blk_cell HKd4_.out 2; have hdd4_2 : ∀ o, (w4_.alloc o).cell? ⟨w2_.heap.size, 2, none⟩ = some (Value.slice A3_ FX.length c3_) := fun o => cell_later o hcd4_2; have HRapp34_ := Aside0.mk (Kd.C_below (HP3'_.out) hb4_); clear hb4_
        go_wp2_with fail
        go_at_call 13; refine (event_Valid.told x0 ⟨x1.f0, x1.f1, FX⟩ A0 c0 A3_ c3_ _ (Kd.C_below HR0.out (HB4_.out)) HC0.out (HRapp34_.out) HQ3_.out HVX.out HVE.out).mono ?_; rintro e w5_ ⟨rfl, hb5_⟩; have HB5_ := Aside0.mk (below_step (HB4_.out) hb5_); have HKx05_ := Aside0.mk (blk_below (HKx04_.out) hb5_); have hcx05_0 : w5_.cell? ⟨W.heap.size, 0, none⟩ = some (.string x0.f0) := blk_cell HKx05_.out 0; have hdx05_0 : ∀ o, (w5_.alloc o).cell? ⟨W.heap.size, 0, none⟩ = some (.string x0.f0) := fun o => cell_later o hcx05_0; have hcx05_1 : w5_.cell? ⟨W.heap.size, 1, none⟩ = some (.int .i64 x0.f1) := blk_cell HKx05_.out 1; have hdx05_1 : ∀ o, (w5_.alloc o).cell? ⟨W.heap.size, 1, none⟩ = some (.int .i64 x0.f1) := fun o => cell_later o hcx05_1; have hcx05_2 : w5_.cell? ⟨W.heap.size, 2, none⟩ = some (.slice A0 x0.f2.length c0) := blk_cell HKx05_.out 2; have hdx05_2 : ∀ o, (w5_.alloc o).cell? ⟨W.heap.size, 2, none⟩ = some (.slice A0 x0.f2.length c0) := fun o => cell_later o hcx05_2; have HKx15_ := Aside0.mk (blk_below (HKx14_.out) hb5_); have hcx15_0 : w5_.cell? ⟨W.heap.size + 1, 0, none⟩ = some (.string x1.f0) := blk_cell HKx15_.out 0; have hdx15_0 : ∀ o, (w5_.alloc o).cell? ⟨W.heap.size + 1, 0, none⟩ = some (.string x1.f0) := fun o => cell_later o hcx15_0; have hcx15_1 : w5_.cell? ⟨W.heap.size + 1, 1, none⟩ = some (.int .i64 x1.f1) := blk_cell HKx15_.out 1; have hdx15_1 : ∀ o, (w5_.alloc o).cell? ⟨W.heap.size + 1, 1, none⟩ = some (.int .i64 x1.f1) := fun o => cell_later o hcx15_1; have hcx15_2 : w5_.cell? ⟨W.heap.size + 1, 2, none⟩ = some (.slice A1 x1.f2.length c1) := blk_cell HKx15_.out 2; have hdx15_2 : ∀ o, (w5_.alloc o).cell? ⟨W.heap.size + 1, 2, none⟩ = some (.slice A1 x1.f2.length c1) := fun o => cell_later o hcx15_2; have HKd5_ := Aside0.mk (blk_below (HKd4_.out) hb5_); have hcd5_0 : w5_.cell? ⟨w2_.heap.size, 0, none⟩ = some (.string x1.f0) := blk_cell HKd5_.out 0; have hdd5_0 : ∀ o, (w5_.alloc o).cell? ⟨w2_.heap.size, 0, none⟩ = some (.string x1.f0) := fun o => cell_later o hcd5_0; have hcd5_1 : w5_.cell? ⟨w2_.heap.size, 1, none⟩ = some (.int .i64 x1.f1) := blk_cell HKd5_.out 1; have hdd5_1 : ∀ o, (w5_.alloc o).cell? ⟨w2_.heap.size, 1, none⟩ = some (.int .i64 x1.f1) := fun o => cell_later o hcd5_1; have hcd5_2 : w5_.cell? ⟨w2_.heap.size, 2, none⟩ = some (Value.slice A3_ FX.length c3_) := blk_cell HKd5_.out 2; have hdd5_2 : ∀ o, (w5_.alloc o).cell? ⟨w2_.heap.size, 2, none⟩ = some (Value.slice A3_ FX.length c3_) := fun o => cell_later o hcd5_2; have HRapp35_ := Aside0.mk (Kd.C_below (HRapp34_.out) hb5_); clear hb5_
        go_wp2_with fail
        go_at_call 14; refine (mayS_told x0 A0 c0 _ (Kd.C_below HR0.out (HB5_.out)) HC0.out HMS.out).mono ?_; rintro e w6_ ⟨rfl, hb6_⟩; have HB6_ := Aside0.mk (below_step (HB5_.out) hb6_); have HKx06_ := Aside0.mk (blk_below (HKx05_.out) hb6_); have hcx06_0 : w6_.cell? ⟨W.heap.size, 0, none⟩ = some (.string x0.f0) := blk_cell HKx06_.out 0; have hdx06_0 : ∀ o, (w6_.alloc o).cell? ⟨W.heap.size, 0, none⟩ = some (.string x0.f0) := fun o => cell_later o hcx06_0; have hcx06_1 : w6_.cell? ⟨W.heap.size, 1, none⟩ = some (.int .i64 x0.f1) := blk_cell HKx06_.out 1; have hdx06_1 : ∀ o, (w6_.alloc o).cell? ⟨W.heap.size, 1, none⟩ = some (.int .i64 x0.f1) := fun o => cell_later o hcx06_1; have hcx06_2 : w6_.cell? ⟨W.heap.size, 2, none⟩ = some (.slice A0 x0.f2.length c0) := blk_cell HKx06_.out 2; have hdx06_2 : ∀ o, (w6_.alloc o).cell? ⟨W.heap.size, 2, none⟩ = some (.slice A0 x0.f2.length c0) := fun o => cell_later o hcx06_2; have HKx16_ := Aside0.mk (blk_below (HKx15_.out) hb6_); have hcx16_0 : w6_.cell? ⟨W.heap.size + 1, 0, none⟩ = some (.string x1.f0) := blk_cell HKx16_.out 0; have hdx16_0 : ∀ o, (w6_.alloc o).cell? ⟨W.heap.size + 1, 0, none⟩ = some (.string x1.f0) := fun o => cell_later o hcx16_0; have hcx16_1 : w6_.cell? ⟨W.heap.size + 1, 1, none⟩ = some (.int .i64 x1.f1) := blk_cell HKx16_.out 1; have hdx16_1 : ∀ o, (w6_.alloc o).cell? ⟨W.heap.size + 1, 1, none⟩ = some (.int .i64 x1.f1) := fun o => cell_later o hcx16_1; have hcx16_2 : w6_.cell? ⟨W.heap.size + 1, 2, none⟩ = some (.slice A1 x1.f2.length c1) := blk_cell HKx16_.out 2; have hdx16_2 : ∀ o, (w6_.alloc o).cell? ⟨W.heap.size + 1, 2, none⟩ = some (.slice A1 x1.f2.length c1) := fun o => cell_later o hcx16_2; have HKd6_ := Aside0.mk (blk_below (HKd5_.out) hb6_); have hcd6_0 : w6_.cell? ⟨w2_.heap.size, 0, none⟩ = some (.string x1.f0) := blk_cell HKd6_.out 0; have hdd6_0 : ∀ o, (w6_.alloc o).cell? ⟨w2_.heap.size, 0, none⟩ = some (.string x1.f0) := fun o => cell_later o hcd6_0; have hcd6_1 : w6_.cell? ⟨w2_.heap.size, 1, none⟩ = some (.int .i64 x1.f1) := blk_cell HKd6_.out 1; have hdd6_1 : ∀ o, (w6_.alloc o).cell? ⟨w2_.heap.size, 1, none⟩ = some (.int .i64 x1.f1) := fun o => cell_later o hcd6_1; have hcd6_2 : w6_.cell? ⟨w2_.heap.size, 2, none⟩ = some (Value.slice A3_ FX.length c3_) := blk_cell HKd6_.out 2; have hdd6_2 : ∀ o, (w6_.alloc o).cell? ⟨w2_.heap.size, 2, none⟩ = some (Value.slice A3_ FX.length c3_) := fun o => cell_later o hcd6_2; have HRapp36_ := Aside0.mk (Kd.C_below (HRapp35_.out) hb6_); clear hb6_
        go_wp2_with fail
        go_at_call 15; refine (event_May.told x1 A1 c1 _ (Kd.C_below HR1.out (HB6_.out)) HC1.out HV1.out HME.out).mono ?_; rintro e w7_ ⟨rfl, hb7_⟩; have HB7_ := Aside0.mk (below_step (HB6_.out) hb7_); have HKx07_ := Aside0.mk (blk_below (HKx06_.out) hb7_); have hcx07_0 : w7_.cell? ⟨W.heap.size, 0, none⟩ = some (.string x0.f0) := blk_cell HKx07_.out 0; have hdx07_0 : ∀ o, (w7_.alloc o).cell? ⟨W.heap.size, 0, none⟩ = some (.string x0.f0) := fun o => cell_later o hcx07_0; have hcx07_1 : w7_.cell? ⟨W.heap.size, 1, none⟩ = some (.int .i64 x0.f1) := blk_cell HKx07_.out 1; have hdx07_1 : ∀ o, (w7_.alloc o).cell? ⟨W.heap.size, 1, none⟩ = some (.int .i64 x0.f1) := fun o => cell_later o hcx07_1; have hcx07_2 : w7_.cell? ⟨W.heap.size, 2, none⟩ = some (.slice A0 x0.f2.length c0) := blk_cell HKx07_.out 2; have hdx07_2 : ∀ o, (w7_.alloc o).cell? ⟨W.heap.size, 2, none⟩ = some (.slice A0 x0.f2.length c0) := fun o => cell_later o hcx07_2; have HKx17_ := Aside0.mk (blk_below (HKx16_.out) hb7_); have hcx17_0 : w7_.cell? ⟨W.heap.size + 1, 0, none⟩ = some (.string x1.f0) := blk_cell HKx17_.out 0; have hdx17_0 : ∀ o, (w7_.alloc o).cell? ⟨W.heap.size + 1, 0, none⟩ = some (.string x1.f0) := fun o => cell_later o hcx17_0; have hcx17_1 : w7_.cell? ⟨W.heap.size + 1, 1, none⟩ = some (.int .i64 x1.f1) := blk_cell HKx17_.out 1; have hdx17_1 : ∀ o, (w7_.alloc o).cell? ⟨W.heap.size + 1, 1, none⟩ = some (.int .i64 x1.f1) := fun o => cell_later o hcx17_1; have hcx17_2 : w7_.cell? ⟨W.heap.size + 1, 2, none⟩ = some (.slice A1 x1.f2.length c1) := blk_cell HKx17_.out 2; have hdx17_2 : ∀ o, (w7_.alloc o).cell? ⟨W.heap.size + 1, 2, none⟩ = some (.slice A1 x1.f2.length c1) := fun o => cell_later o hcx17_2; have HKd7_ := Aside0.mk (blk_below (HKd6_.out) hb7_); have hcd7_0 : w7_.cell? ⟨w2_.heap.size, 0, none⟩ = some (.string x1.f0) := blk_cell HKd7_.out 0; have hdd7_0 : ∀ o, (w7_.alloc o).cell? ⟨w2_.heap.size, 0, none⟩ = some (.string x1.f0) := fun o => cell_later o hcd7_0; have hcd7_1 : w7_.cell? ⟨w2_.heap.size, 1, none⟩ = some (.int .i64 x1.f1) := blk_cell HKd7_.out 1; have hdd7_1 : ∀ o, (w7_.alloc o).cell? ⟨w2_.heap.size, 1, none⟩ = some (.int .i64 x1.f1) := fun o => cell_later o hcd7_1; have hcd7_2 : w7_.cell? ⟨w2_.heap.size, 2, none⟩ = some (Value.slice A3_ FX.length c3_) := blk_cell HKd7_.out 2; have hdd7_2 : ∀ o, (w7_.alloc o).cell? ⟨w2_.heap.size, 2, none⟩ = some (Value.slice A3_ FX.length c3_) := fun o => cell_later o hcd7_2; have HRapp37_ := Aside0.mk (Kd.C_below (HRapp36_.out) hb7_); clear hb7_
        go_wp2_with fail
        go_ret
        exact ⟨by rfl, HB7_.out⟩
      have hn2 : (x0.f0.toList == x1.f0.toList) = true := by rw [hn]; exact beq_self_eq_true _
      clear hn
      by_cases hz : vd = 0
      · subst hz
        have hz2 : (ve == 0) = false := beq_eq_false_iff_ne.2 (fun h => HBOTH.out rfl h)
        have hz3 : (ve != 0) = true := bne_iff_ne.2 (fun h => HBOTH.out rfl h)
        go_wp2_with fail
        go_at_call 13; refine (event_Valid.told x0 x1 A0 c0 A1 c1 _ (Kd.C_below HR0.out (HB3_.out)) HC0.out (Kd.C_below HR1.out (HB3_.out)) HC1.out HV1.out HVD.out).mono ?_; rintro e w4_ ⟨rfl, hb4_⟩; have HB4_ := Aside0.mk (below_step (HB3_.out) hb4_); have HKx04_ := Aside0.mk (blk_below (HKx03_.out) hb4_); have hcx04_0 : w4_.cell? ⟨W.heap.size, 0, none⟩ = some (.string x0.f0) := blk_cell HKx04_.out 0; have hdx04_0 : ∀ o, (w4_.alloc o).cell? ⟨W.heap.size, 0, none⟩ = some (.string x0.f0) := fun o => cell_later o hcx04_0; have hcx04_1 : w4_.cell? ⟨W.heap.size, 1, none⟩ = some (.int .i64 x0.f1) := blk_cell HKx04_.out 1; have hdx04_1 : ∀ o, (w4_.alloc o).cell? ⟨W.heap.size, 1, none⟩ = some (.int .i64 x0.f1) := fun o => cell_later o hcx04_1; have hcx04_2 : w4_.cell? ⟨W.heap.size, 2, none⟩ = some (.slice A0 x0.f2.length c0) := blk_cell HKx04_.out 2; have hdx04_2 : ∀ o, (w4_.alloc o).cell? ⟨W.heap.size, 2, none⟩ = some (.slice A0 x0.f2.length c0) := fun o => cell_later o hcx04_2; have HKx14_ := Aside0.mk (blk_below (HKx13_.out) hb4_); have hcx14_0 : w4_.cell? ⟨W.heap.size + 1, 0, none⟩ = some (.string x1.f0) := blk_cell HKx14_.out 0; have hdx14_0 : ∀ o, (w4_.alloc o).cell? ⟨W.heap.size + 1, 0, none⟩ = some (.string x1.f0) := fun o => cell_later o hcx14_0; have hcx14_1 : w4_.cell? ⟨W.heap.size + 1, 1, none⟩ = some (.int .i64 x1.f1) := blk_cell HKx14_.out 1; have hdx14_1 : ∀ o, (w4_.alloc o).cell? ⟨W.heap.size + 1, 1, none⟩ = some (.int .i64 x1.f1) := fun o => cell_later o hcx14_1; have hcx14_2 : w4_.cell? ⟨W.heap.size + 1, 2, none⟩ = some (.slice A1 x1.f2.length c1) := blk_cell HKx14_.out 2; have hdx14_2 : ∀ o, (w4_.alloc o).cell? ⟨W.heap.size + 1, 2, none⟩ = some (.slice A1 x1.f2.length c1) := fun o => cell_later o hcx14_2; have HKd4_ := Aside0.mk (blk_below (HKd3_.out) hb4_); have hcd4_0 : w4_.cell? ⟨w2_.heap.size, 0, none⟩ = some (.string x1.f0) := blk_cell HKd4_.out 0; have hdd4_0 : ∀ o, (w4_.alloc o).cell? ⟨w2_.heap.size, 0, none⟩ = some (.string x1.f0) := fun o => cell_later o hcd4_0; have hcd4_1 : w4_.cell? ⟨w2_.heap.size, 1, none⟩ = some (.int .i64 x1.f1) := blk_cell HKd4_.out 1; have hdd4_1 : ∀ o, (w4_.alloc o).cell? ⟨w2_.heap.size, 1, none⟩ = some (.int .i64 x1.f1) := fun o => cell_later o hcd4_1; have hcd4_2 : w4_.cell? ⟨w2_.heap.size, 2, none⟩ = some (Value.slice A3_ FX.length c3_) := blk_cell HKd4_.out 2; have hdd4_2 : ∀ o, (w4_.alloc o).cell? ⟨w2_.heap.size, 2, none⟩ = some (Value.slice A3_ FX.length c3_) := fun o => cell_later o hcd4_2; have HRapp34_ := Aside0.mk (Kd.C_below (HP3'_.out) hb4_); clear hb4_
        go_wp2_with fail
        go_at_call 13; refine (event_Valid.told x0 ⟨x1.f0, x1.f1, FX⟩ A0 c0 A3_ c3_ _ (Kd.C_below HR0.out (HB4_.out)) HC0.out (HRapp34_.out) HQ3_.out HVX.out HVE.out).mono ?_; rintro e w5_ ⟨rfl, hb5_⟩; have HB5_ := Aside0.mk (below_step (HB4_.out) hb5_); have HKx05_ := Aside0.mk (blk_below (HKx04_.out) hb5_); have hcx05_0 : w5_.cell? ⟨W.heap.size, 0, none⟩ = some (.string x0.f0) := blk_cell HKx05_.out 0; have hdx05_0 : ∀ o, (w5_.alloc o).cell? ⟨W.heap.size, 0, none⟩ = some (.string x0.f0) := fun o => cell_later o hcx05_0; have hcx05_1 : w5_.cell? ⟨W.heap.size, 1, none⟩ = some (.int .i64 x0.f1) := blk_cell HKx05_.out 1; have hdx05_1 : ∀ o, (w5_.alloc o).cell? ⟨W.heap.size, 1, none⟩ = some (.int .i64 x0.f1) := fun o => cell_later o hcx05_1; have hcx05_2 : w5_.cell? ⟨W.heap.size, 2, none⟩ = some (.slice A0 x0.f2.length c0) := blk_cell HKx05_.out 2; have hdx05_2 : ∀ o, (w5_.alloc o).cell? ⟨W.heap.size, 2, none⟩ = some (.slice A0 x0.f2.length c0) := fun o => cell_later o hcx05_2; have HKx15_ := Aside0.mk (blk_below (HKx14_.out) hb5_); have hcx15_0 : w5_.cell? ⟨W.heap.size + 1, 0, none⟩ = some (.string x1.f0) := blk_cell HKx15_.out 0; have hdx15_0 : ∀ o, (w5_.alloc o).cell? ⟨W.heap.size + 1, 0, none⟩ = some (.string x1.f0) := fun o => cell_later o hcx15_0; have hcx15_1 : w5_.cell? ⟨W.heap.size + 1, 1, none⟩ = some (.int .i64 x1.f1) := blk_cell HKx15_.out 1; have hdx15_1 : ∀ o, (w5_.alloc o).cell? ⟨W.heap.size + 1, 1, none⟩ = some (.int .i64 x1.f1) := fun o => cell_later o hcx15_1; have hcx15_2 : w5_.cell? ⟨W.heap.size + 1, 2, none⟩ = some (.slice A1 x1.f2.length c1) := blk_cell HKx15_.out 2; have hdx15_2 : ∀ o, (w5_.alloc o).cell? ⟨W.heap.size + 1, 2, none⟩ = some (.slice A1 x1.f2.length c1) := fun o => cell_later o hcx15_2; have HKd5_ := Aside0.mk (blk_below (HKd4_.out) hb5_); have hcd5_0 : w5_.cell? ⟨w2_.heap.size, 0, none⟩ = some (.string x1.f0) := blk_cell HKd5_.out 0; have hdd5_0 : ∀ o, (w5_.alloc o).cell? ⟨w2_.heap.size, 0, none⟩ = some (.string x1.f0) := fun o => cell_later o hcd5_0; have hcd5_1 : w5_.cell? ⟨w2_.heap.size, 1, none⟩ = some (.int .i64 x1.f1) := blk_cell HKd5_.out 1; have hdd5_1 : ∀ o, (w5_.alloc o).cell? ⟨w2_.heap.size, 1, none⟩ = some (.int .i64 x1.f1) := fun o => cell_later o hcd5_1; have hcd5_2 : w5_.cell? ⟨w2_.heap.size, 2, none⟩ = some (Value.slice A3_ FX.length c3_) := blk_cell HKd5_.out 2; have hdd5_2 : ∀ o, (w5_.alloc o).cell? ⟨w2_.heap.size, 2, none⟩ = some (Value.slice A3_ FX.length c3_) := fun o => cell_later o hcd5_2; have HRapp35_ := Aside0.mk (Kd.C_below (HRapp34_.out) hb5_); clear hb5_
        go_wp2_with fail
        go_at_call 14; refine (mayS_told x0 A0 c0 _ (Kd.C_below HR0.out (HB5_.out)) HC0.out HMS.out).mono ?_; rintro e w6_ ⟨rfl, hb6_⟩; have HB6_ := Aside0.mk (below_step (HB5_.out) hb6_); have HKx06_ := Aside0.mk (blk_below (HKx05_.out) hb6_); have hcx06_0 : w6_.cell? ⟨W.heap.size, 0, none⟩ = some (.string x0.f0) := blk_cell HKx06_.out 0; have hdx06_0 : ∀ o, (w6_.alloc o).cell? ⟨W.heap.size, 0, none⟩ = some (.string x0.f0) := fun o => cell_later o hcx06_0; have hcx06_1 : w6_.cell? ⟨W.heap.size, 1, none⟩ = some (.int .i64 x0.f1) := blk_cell HKx06_.out 1; have hdx06_1 : ∀ o, (w6_.alloc o).cell? ⟨W.heap.size, 1, none⟩ = some (.int .i64 x0.f1) := fun o => cell_later o hcx06_1; have hcx06_2 : w6_.cell? ⟨W.heap.size, 2, none⟩ = some (.slice A0 x0.f2.length c0) := blk_cell HKx06_.out 2; have hdx06_2 : ∀ o, (w6_.alloc o).cell? ⟨W.heap.size, 2, none⟩ = some (.slice A0 x0.f2.length c0) := fun o => cell_later o hcx06_2; have HKx16_ := Aside0.mk (blk_below (HKx15_.out) hb6_); have hcx16_0 : w6_.cell? ⟨W.heap.size + 1, 0, none⟩ = some (.string x1.f0) := blk_cell HKx16_.out 0; have hdx16_0 : ∀ o, (w6_.alloc o).cell? ⟨W.heap.size + 1, 0, none⟩ = some (.string x1.f0) := fun o => cell_later o hcx16_0; have hcx16_1 : w6_.cell? ⟨W.heap.size + 1, 1, none⟩ = some (.int .i64 x1.f1) := blk_cell HKx16_.out 1; have hdx16_1 : ∀ o, (w6_.alloc o).cell? ⟨W.heap.size + 1, 1, none⟩ = some (.int .i64 x1.f1) := fun o => cell_later o hcx16_1; have hcx16_2 : w6_.cell? ⟨W.heap.size + 1, 2, none⟩ = some (.slice A1 x1.f2.length c1) := blk_cell HKx16_.out 2; have hdx16_2 : ∀ o, (w6_.alloc o).cell? ⟨W.heap.size + 1, 2, none⟩ = some (.slice A1 x1.f2.length c1) := fun o => cell_later o hcx16_2; have HKd6_ := Aside0.mk (blk_below (HKd5_.out) hb6_); have hcd6_0 : w6_.cell? ⟨w2_.heap.size, 0, none⟩ = some (.string x1.f0) := blk_cell HKd6_.out 0; have hdd6_0 : ∀ o, (w6_.alloc o).cell? ⟨w2_.heap.size, 0, none⟩ = some (.string x1.f0) := fun o => cell_later o hcd6_0; have hcd6_1 : w6_.cell? ⟨w2_.heap.size, 1, none⟩ = some (.int .i64 x1.f1) := blk_cell HKd6_.out 1; have hdd6_1 : ∀ o, (w6_.alloc o).cell? ⟨w2_.heap.size, 1, none⟩ = some (.int .i64 x1.f1) := fun o => cell_later o hcd6_1; have hcd6_2 : w6_.cell? ⟨w2_.heap.size, 2, none⟩ = some (Value.slice A3_ FX.length c3_) := blk_cell HKd6_.out 2; have hdd6_2 : ∀ o, (w6_.alloc o).cell? ⟨w2_.heap.size, 2, none⟩ = some (Value.slice A3_ FX.length c3_) := fun o => cell_later o hcd6_2; have HRapp36_ := Aside0.mk (Kd.C_below (HRapp35_.out) hb6_); clear hb6_
        go_wp2_with fail
        go_at_call 15; refine (event_May.told x1 A1 c1 _ (Kd.C_below HR1.out (HB6_.out)) HC1.out HV1.out HME.out).mono ?_; rintro e w7_ ⟨rfl, hb7_⟩; have HB7_ := Aside0.mk (below_step (HB6_.out) hb7_); have HKx07_ := Aside0.mk (blk_below (HKx06_.out) hb7_); have hcx07_0 : w7_.cell? ⟨W.heap.size, 0, none⟩ = some (.string x0.f0) := blk_cell HKx07_.out 0; have hdx07_0 : ∀ o, (w7_.alloc o).cell? ⟨W.heap.size, 0, none⟩ = some (.string x0.f0) := fun o => cell_later o hcx07_0; have hcx07_1 : w7_.cell? ⟨W.heap.size, 1, none⟩ = some (.int .i64 x0.f1) := blk_cell HKx07_.out 1; have hdx07_1 : ∀ o, (w7_.alloc o).cell? ⟨W.heap.size, 1, none⟩ = some (.int .i64 x0.f1) := fun o => cell_later o hcx07_1; have hcx07_2 : w7_.cell? ⟨W.heap.size, 2, none⟩ = some (.slice A0 x0.f2.length c0) := blk_cell HKx07_.out 2; have hdx07_2 : ∀ o, (w7_.alloc o).cell? ⟨W.heap.size, 2, none⟩ = some (.slice A0 x0.f2.length c0) := fun o => cell_later o hcx07_2; have HKx17_ := Aside0.mk (blk_below (HKx16_.out) hb7_); have hcx17_0 : w7_.cell? ⟨W.heap.size + 1, 0, none⟩ = some (.string x1.f0) := blk_cell HKx17_.out 0; have hdx17_0 : ∀ o, (w7_.alloc o).cell? ⟨W.heap.size + 1, 0, none⟩ = some (.string x1.f0) := fun o => cell_later o hcx17_0; have hcx17_1 : w7_.cell? ⟨W.heap.size + 1, 1, none⟩ = some (.int .i64 x1.f1) := blk_cell HKx17_.out 1; have hdx17_1 : ∀ o, (w7_.alloc o).cell? ⟨W.heap.size + 1, 1, none⟩ = some (.int .i64 x1.f1) := fun o => cell_later o hcx17_1; have hcx17_2 : w7_.cell? ⟨W.heap.size + 1, 2, none⟩ = some (.slice A1 x1.f2.length c1) := blk_cell HKx17_.out 2; have hdx17_2 : ∀ o, (w7_.alloc o).cell? ⟨W.heap.size + 1, 2, none⟩ = some (.slice A1 x1.f2.length c1) := fun o => cell_later o hcx17_2; have HKd7_ := Aside0.mk (blk_below (HKd6_.out) hb7_); have hcd7_0 : w7_.cell? ⟨w2_.heap.size, 0, none⟩ = some (.string x1.f0) := blk_cell HKd7_.out 0; have hdd7_0 : ∀ o, (w7_.alloc o).cell? ⟨w2_.heap.size, 0, none⟩ = some (.string x1.f0) := fun o => cell_later o hcd7_0; have hcd7_1 : w7_.cell? ⟨w2_.heap.size, 1, none⟩ = some (.int .i64 x1.f1) := blk_cell HKd7_.out 1; have hdd7_1 : ∀ o, (w7_.alloc o).cell? ⟨w2_.heap.size, 1, none⟩ = some (.int .i64 x1.f1) := fun o => cell_later o hcd7_1; have hcd7_2 : w7_.cell? ⟨w2_.heap.size, 2, none⟩ = some (Value.slice A3_ FX.length c3_) := blk_cell HKd7_.out 2; have hdd7_2 : ∀ o, (w7_.alloc o).cell? ⟨w2_.heap.size, 2, none⟩ = some (Value.slice A3_ FX.length c3_) := fun o => cell_later o hcd7_2; have HRapp37_ := Aside0.mk (Kd.C_below (HRapp36_.out) hb7_); clear hb7_
        go_wp2_with fail
        go_ret
        exact ⟨by simp, HB7_.out⟩
      · have hz2 : (vd == 0) = false := beq_eq_false_iff_ne.2 hz
        have hz3 : (vd != 0) = true := bne_iff_ne.2 hz
        clear hz
        go_wp2_with fail
        go_at_call 13; refine (event_Valid.told x0 x1 A0 c0 A1 c1 _ (Kd.C_below HR0.out (HB3_.out)) HC0.out (Kd.C_below HR1.out (HB3_.out)) HC1.out HV1.out HVD.out).mono ?_; rintro e w4_ ⟨rfl, hb4_⟩; have HB4_ := Aside0.mk (below_step (HB3_.out) hb4_); have HKx04_ := Aside0.mk (blk_below (HKx03_.out) hb4_); have hcx04_0 : w4_.cell? ⟨W.heap.size, 0, none⟩ = some (.string x0.f0) := blk_cell HKx04_.out 0; have hdx04_0 : ∀ o, (w4_.alloc o).cell? ⟨W.heap.size, 0, none⟩ = some (.string x0.f0) := fun o => cell_later o hcx04_0; have hcx04_1 : w4_.cell? ⟨W.heap.size, 1, none⟩ = some (.int .i64 x0.f1) := blk_cell HKx04_.out 1; have hdx04_1 : ∀ o, (w4_.alloc o).cell? ⟨W.heap.size, 1, none⟩ = some (.int .i64 x0.f1) := fun o => cell_later o hcx04_1; have hcx04_2 : w4_.cell? ⟨W.heap.size, 2, none⟩ = some (.slice A0 x0.f2.length c0) := blk_cell HKx04_.out 2; have hdx04_2 : ∀ o, (w4_.alloc o).cell? ⟨W.heap.size, 2, none⟩ = some (.slice A0 x0.f2.length c0) := fun o => cell_later o hcx04_2; have HKx14_ := Aside0.mk (blk_below (HKx13_.out) hb4_); have hcx14_0 : w4_.cell? ⟨W.heap.size + 1, 0, none⟩ = some (.string x1.f0) := blk_cell HKx14_.out 0; have hdx14_0 : ∀ o, (w4_.alloc o).cell? ⟨W.heap.size + 1, 0, none⟩ = some (.string x1.f0) := fun o => cell_later o hcx14_0; have hcx14_1 : w4_.cell? ⟨W.heap.size + 1, 1, none⟩ = some (.int .i64 x1.f1) := blk_cell HKx14_.out 1; have hdx14_1 : ∀ o, (w4_.alloc o).cell? ⟨W.heap.size + 1, 1, none⟩ = some (.int .i64 x1.f1) := fun o => cell_later o hcx14_1; have hcx14_2 : w4_.cell? ⟨W.heap.size + 1, 2, none⟩ = some (.slice A1 x1.f2.length c1) := blk_cell HKx14_.out 2; have hdx14_2 : ∀ o, (w4_.alloc o).cell? ⟨W.heap.size + 1, 2, none⟩ = some (.slice A1 x1.f2.length c1) := fun o => cell_later o hcx14_2; have HKd4_ := Aside0.mk (blk_below (HKd3_.out) hb4_); have hcd4_0 : w4_.cell? ⟨w2_.heap.size, 0, none⟩ = some (.string x1.f0) := blk_cell HKd4_.out 0; have hdd4_0 : ∀ o, (w4_.alloc o).cell? ⟨w2_.heap.size, 0, none⟩ = some (.string x1.f0) := fun o => cell_later o hcd4_0; have hcd4_1 : w4_.cell? ⟨w2_.heap.size, 1, none⟩ = some (.int .i64 x1.f1) := blk_cell HKd4_.out 1; have hdd4_1 : ∀ o, (w4_.alloc o).cell? ⟨w2_.heap.size, 1, none⟩ = some (.int .i64 x1.f1) := fun o => cell_later o hcd4_1; have hcd4_2 : w4_.cell? ⟨w2_.heap.size, 2, none⟩ = some (Value.slice A3_ FX.length c3_) := blk_cell HKd4_.out 2; have hdd4_2 : ∀ o, (w4_.alloc o).cell? ⟨w2_.heap.size, 2, none⟩ = some (Value.slice A3_ FX.length c3_) := fun o => cell_later o hcd4_2; have HRapp34_ := Aside0.mk (Kd.C_below (HP3'_.out) hb4_); clear hb4_
        go_wp2_with fail
        go_at_call 13; refine (event_Valid.told x0 ⟨x1.f0, x1.f1, FX⟩ A0 c0 A3_ c3_ _ (Kd.C_below HR0.out (HB4_.out)) HC0.out (HRapp34_.out) HQ3_.out HVX.out HVE.out).mono ?_; rintro e w5_ ⟨rfl, hb5_⟩; have HB5_ := Aside0.mk (below_step (HB4_.out) hb5_); have HKx05_ := Aside0.mk (blk_below (HKx04_.out) hb5_); have hcx05_0 : w5_.cell? ⟨W.heap.size, 0, none⟩ = some (.string x0.f0) := blk_cell HKx05_.out 0; have hdx05_0 : ∀ o, (w5_.alloc o).cell? ⟨W.heap.size, 0, none⟩ = some (.string x0.f0) := fun o => cell_later o hcx05_0; have hcx05_1 : w5_.cell? ⟨W.heap.size, 1, none⟩ = some (.int .i64 x0.f1) := blk_cell HKx05_.out 1; have hdx05_1 : ∀ o, (w5_.alloc o).cell? ⟨W.heap.size, 1, none⟩ = some (.int .i64 x0.f1) := fun o => cell_later o hcx05_1; have hcx05_2 : w5_.cell? ⟨W.heap.size, 2, none⟩ = some (.slice A0 x0.f2.length c0) := blk_cell HKx05_.out 2; have hdx05_2 : ∀ o, (w5_.alloc o).cell? ⟨W.heap.size, 2, none⟩ = some (.slice A0 x0.f2.length c0) := fun o => cell_later o hcx05_2; have HKx15_ := Aside0.mk (blk_below (HKx14_.out) hb5_); have hcx15_0 : w5_.cell? ⟨W.heap.size + 1, 0, none⟩ = some (.string x1.f0) := blk_cell HKx15_.out 0; have hdx15_0 : ∀ o, (w5_.alloc o).cell? ⟨W.heap.size + 1, 0, none⟩ = some (.string x1.f0) := fun o => cell_later o hcx15_0; have hcx15_1 : w5_.cell? ⟨W.heap.size + 1, 1, none⟩ = some (.int .i64 x1.f1) := blk_cell HKx15_.out 1; have hdx15_1 : ∀ o, (w5_.alloc o).cell? ⟨W.heap.size + 1, 1, none⟩ = some (.int .i64 x1.f1) := fun o => cell_later o hcx15_1; have hcx15_2 : w5_.cell? ⟨W.heap.size + 1, 2, none⟩ = some (.slice A1 x1.f2.length c1) := blk_cell HKx15_.out 2; have hdx15_2 : ∀ o, (w5_.alloc o).cell? ⟨W.heap.size + 1, 2, none⟩ = some (.slice A1 x1.f2.length c1) := fun o => cell_later o hcx15_2; have HKd5_ := Aside0.mk (blk_below (HKd4_.out) hb5_); have hcd5_0 : w5_.cell? ⟨w2_.heap.size, 0, none⟩ = some (.string x1.f0) := blk_cell HKd5_.out 0; have hdd5_0 : ∀ o, (w5_.alloc o).cell? ⟨w2_.heap.size, 0, none⟩ = some (.string x1.f0) := fun o => cell_later o hcd5_0; have hcd5_1 : w5_.cell? ⟨w2_.heap.size, 1, none⟩ = some (.int .i64 x1.f1) := blk_cell HKd5_.out 1; have hdd5_1 : ∀ o, (w5_.alloc o).cell? ⟨w2_.heap.size, 1, none⟩ = some (.int .i64 x1.f1) := fun o => cell_later o hcd5_1; have hcd5_2 : w5_.cell? ⟨w2_.heap.size, 2, none⟩ = some (Value.slice A3_ FX.length c3_) := blk_cell HKd5_.out 2; have hdd5_2 : ∀ o, (w5_.alloc o).cell? ⟨w2_.heap.size, 2, none⟩ = some (Value.slice A3_ FX.length c3_) := fun o => cell_later o hcd5_2; have HRapp35_ := Aside0.mk (Kd.C_below (HRapp34_.out) hb5_); clear hb5_
        go_wp2_with fail
        go_at_call 14; refine (mayS_told x0 A0 c0 _ (Kd.C_below HR0.out (HB5_.out)) HC0.out HMS.out).mono ?_; rintro e w6_ ⟨rfl, hb6_⟩; have HB6_ := Aside0.mk (below_step (HB5_.out) hb6_); have HKx06_ := Aside0.mk (blk_below (HKx05_.out) hb6_); have hcx06_0 : w6_.cell? ⟨W.heap.size, 0, none⟩ = some (.string x0.f0) := blk_cell HKx06_.out 0; have hdx06_0 : ∀ o, (w6_.alloc o).cell? ⟨W.heap.size, 0, none⟩ = some (.string x0.f0) := fun o => cell_later o hcx06_0; have hcx06_1 : w6_.cell? ⟨W.heap.size, 1, none⟩ = some (.int .i64 x0.f1) := blk_cell HKx06_.out 1; have hdx06_1 : ∀ o, (w6_.alloc o).cell? ⟨W.heap.size, 1, none⟩ = some (.int .i64 x0.f1) := fun o => cell_later o hcx06_1; have hcx06_2 : w6_.cell? ⟨W.heap.size, 2, none⟩ = some (.slice A0 x0.f2.length c0) := blk_cell HKx06_.out 2; have hdx06_2 : ∀ o, (w6_.alloc o).cell? ⟨W.heap.size, 2, none⟩ = some (.slice A0 x0.f2.length c0) := fun o => cell_later o hcx06_2; have HKx16_ := Aside0.mk (blk_below (HKx15_.out) hb6_); have hcx16_0 : w6_.cell? ⟨W.heap.size + 1, 0, none⟩ = some (.string x1.f0) := blk_cell HKx16_.out 0; have hdx16_0 : ∀ o, (w6_.alloc o).cell? ⟨W.heap.size + 1, 0, none⟩ = some (.string x1.f0) := fun o => cell_later o hcx16_0; have hcx16_1 : w6_.cell? ⟨W.heap.size + 1, 1, none⟩ = some (.int .i64 x1.f1) := blk_cell HKx16_.out 1; have hdx16_1 : ∀ o, (w6_.alloc o).cell? ⟨W.heap.size + 1, 1, none⟩ = some (.int .i64 x1.f1) := fun o => cell_later o hcx16_1; have hcx16_2 : w6_.cell? ⟨W.heap.size + 1, 2, none⟩ = some (.slice A1 x1.f2.length c1) := blk_cell HKx16_.out 2; have hdx16_2 : ∀ o, (w6_.alloc o).cell? ⟨W.heap.size + 1, 2, none⟩ = some (.slice A1 x1.f2.length c1) := fun o => cell_later o hcx16_2; have HKd6_ := Aside0.mk (blk_below (HKd5_.out) hb6_); have hcd6_0 : w6_.cell? ⟨w2_.heap.size, 0, none⟩ = some (.string x1.f0) := blk_cell HKd6_.out 0; have hdd6_0 : ∀ o, (w6_.alloc o).cell? ⟨w2_.heap.size, 0, none⟩ = some (.string x1.f0) := fun o => cell_later o hcd6_0; have hcd6_1 : w6_.cell? ⟨w2_.heap.size, 1, none⟩ = some (.int .i64 x1.f1) := blk_cell HKd6_.out 1; have hdd6_1 : ∀ o, (w6_.alloc o).cell? ⟨w2_.heap.size, 1, none⟩ = some (.int .i64 x1.f1) := fun o => cell_later o hcd6_1; have hcd6_2 : w6_.cell? ⟨w2_.heap.size, 2, none⟩ = some (Value.slice A3_ FX.length c3_) := blk_cell HKd6_.out 2; have hdd6_2 : ∀ o, (w6_.alloc o).cell? ⟨w2_.heap.size, 2, none⟩ = some (Value.slice A3_ FX.length c3_) := fun o => cell_later o hcd6_2; have HRapp36_ := Aside0.mk (Kd.C_below (HRapp35_.out) hb6_); clear hb6_
        go_wp2_with fail
        go_at_call 15; refine (event_May.told x1 A1 c1 _ (Kd.C_below HR1.out (HB6_.out)) HC1.out HV1.out HME.out).mono ?_; rintro e w7_ ⟨rfl, hb7_⟩; have HB7_ := Aside0.mk (below_step (HB6_.out) hb7_); have HKx07_ := Aside0.mk (blk_below (HKx06_.out) hb7_); have hcx07_0 : w7_.cell? ⟨W.heap.size, 0, none⟩ = some (.string x0.f0) := blk_cell HKx07_.out 0; have hdx07_0 : ∀ o, (w7_.alloc o).cell? ⟨W.heap.size, 0, none⟩ = some (.string x0.f0) := fun o => cell_later o hcx07_0; have hcx07_1 : w7_.cell? ⟨W.heap.size, 1, none⟩ = some (.int .i64 x0.f1) := blk_cell HKx07_.out 1; have hdx07_1 : ∀ o, (w7_.alloc o).cell? ⟨W.heap.size, 1, none⟩ = some (.int .i64 x0.f1) := fun o => cell_later o hcx07_1; have hcx07_2 : w7_.cell? ⟨W.heap.size, 2, none⟩ = some (.slice A0 x0.f2.length c0) := blk_cell HKx07_.out 2; have hdx07_2 : ∀ o, (w7_.alloc o).cell? ⟨W.heap.size, 2, none⟩ = some (.slice A0 x0.f2.length c0) := fun o => cell_later o hcx07_2; have HKx17_ := Aside0.mk (blk_below (HKx16_.out) hb7_); have hcx17_0 : w7_.cell? ⟨W.heap.size + 1, 0, none⟩ = some (.string x1.f0) := blk_cell HKx17_.out 0; have hdx17_0 : ∀ o, (w7_.alloc o).cell? ⟨W.heap.size + 1, 0, none⟩ = some (.string x1.f0) := fun o => cell_later o hcx17_0; have hcx17_1 : w7_.cell? ⟨W.heap.size + 1, 1, none⟩ = some (.int .i64 x1.f1) := blk_cell HKx17_.out 1; have hdx17_1 : ∀ o, (w7_.alloc o).cell? ⟨W.heap.size + 1, 1, none⟩ = some (.int .i64 x1.f1) := fun o => cell_later o hcx17_1; have hcx17_2 : w7_.cell? ⟨W.heap.size + 1, 2, none⟩ = some (.slice A1 x1.f2.length c1) := blk_cell HKx17_.out 2; have hdx17_2 : ∀ o, (w7_.alloc o).cell? ⟨W.heap.size + 1, 2, none⟩ = some (.slice A1 x1.f2.length c1) := fun o => cell_later o hcx17_2; have HKd7_ := Aside0.mk (blk_below (HKd6_.out) hb7_); have hcd7_0 : w7_.cell? ⟨w2_.heap.size, 0, none⟩ = some (.string x1.f0) := blk_cell HKd7_.out 0; have hdd7_0 : ∀ o, (w7_.alloc o).cell? ⟨w2_.heap.size, 0, none⟩ = some (.string x1.f0) := fun o => cell_later o hcd7_0; have hcd7_1 : w7_.cell? ⟨w2_.heap.size, 1, none⟩ = some (.int .i64 x1.f1) := blk_cell HKd7_.out 1; have hdd7_1 : ∀ o, (w7_.alloc o).cell? ⟨w2_.heap.size, 1, none⟩ = some (.int .i64 x1.f1) := fun o => cell_later o hcd7_1; have hcd7_2 : w7_.cell? ⟨w2_.heap.size, 2, none⟩ = some (Value.slice A3_ FX.length c3_) := blk_cell HKd7_.out 2; have hdd7_2 : ∀ o, (w7_.alloc o).cell? ⟨w2_.heap.size, 2, none⟩ = some (Value.slice A3_ FX.length c3_) := fun o => cell_later o hcd7_2; have HRapp37_ := Aside0.mk (Kd.C_below (HRapp36_.out) hb7_); clear hb7_
        go_wp2_with fail
        go_ret
        exact ⟨by simp, HB7_.out⟩
  · have HNO := Aside0.mk hgo
    clear hgo hp10
    have hcl : 10 < x0.f2.length ∨ (x0.f2.length ≤ 10 ∧ 60 < x0.f0.size) ∨ (x0.f2.length ≤ 10 ∧ x0.f0.size ≤ 60 ∧ 100 < x2.f2.size) ∨ (x0.f2.length ≤ 10 ∧ x0.f0.size ≤ 60 ∧ x2.f2.size ≤ 100) := by omega
    rcases hcl with h4 | ⟨h4, h5⟩ | ⟨h4, h5, h6⟩ | ⟨h4, h5, h6⟩ <;> cases p
    all_goals first
      | (exfalso; apply HNO.out; refine ⟨rfl, ?_, ?_, ?_⟩ <;> assumption)
      | skip
    all_goals
      go_enter Try.func4, Try.ntmps4
      go_wp2_with fail
      go_at_call 9; refine (awake6_told _).mono ?_; rintro e w1_ ⟨rfl, hb1_⟩; have HB1_ := Aside0.mk (below_step (below_alloc (below_alloc (below_alloc (Below.refl _ _) _) _) _) hb1_); have HKx01_ := Aside0.mk (blk_below (blk_alloc (blk_alloc (blk_new _ _) _) _) hb1_); have hcx01_0 : w1_.cell? ⟨W.heap.size, 0, none⟩ = some (.string x0.f0) := blk_cell HKx01_.out 0; have hdx01_0 : ∀ o, (w1_.alloc o).cell? ⟨W.heap.size, 0, none⟩ = some (.string x0.f0) := fun o => cell_later o hcx01_0; have hcx01_1 : w1_.cell? ⟨W.heap.size, 1, none⟩ = some (.int .i64 x0.f1) := blk_cell HKx01_.out 1; have hdx01_1 : ∀ o, (w1_.alloc o).cell? ⟨W.heap.size, 1, none⟩ = some (.int .i64 x0.f1) := fun o => cell_later o hcx01_1; have hcx01_2 : w1_.cell? ⟨W.heap.size, 2, none⟩ = some (.slice A0 x0.f2.length c0) := blk_cell HKx01_.out 2; have hdx01_2 : ∀ o, (w1_.alloc o).cell? ⟨W.heap.size, 2, none⟩ = some (.slice A0 x0.f2.length c0) := fun o => cell_later o hcx01_2; have HKx11_ := Aside0.mk (blk_below (blk_alloc (blk_new2 _ _ _) _) hb1_); have hcx11_0 : w1_.cell? ⟨W.heap.size + 1, 0, none⟩ = some (.string x1.f0) := blk_cell HKx11_.out 0; have hdx11_0 : ∀ o, (w1_.alloc o).cell? ⟨W.heap.size + 1, 0, none⟩ = some (.string x1.f0) := fun o => cell_later o hcx11_0; have hcx11_1 : w1_.cell? ⟨W.heap.size + 1, 1, none⟩ = some (.int .i64 x1.f1) := blk_cell HKx11_.out 1; have hdx11_1 : ∀ o, (w1_.alloc o).cell? ⟨W.heap.size + 1, 1, none⟩ = some (.int .i64 x1.f1) := fun o => cell_later o hcx11_1; have hcx11_2 : w1_.cell? ⟨W.heap.size + 1, 2, none⟩ = some (.slice A1 x1.f2.length c1) := blk_cell HKx11_.out 2; have hdx11_2 : ∀ o, (w1_.alloc o).cell? ⟨W.heap.size + 1, 2, none⟩ = some (.slice A1 x1.f2.length c1) := fun o => cell_later o hcx11_2; have HKx21_ := Aside0.mk (blk_below (blk_new3 _ _ _ _) hb1_); have hcx21_0 : w1_.cell? ⟨W.heap.size + 1 + 1, 0, none⟩ = some (.int .i64 x2.f0) := blk_cell HKx21_.out 0; have hdx21_0 : ∀ o, (w1_.alloc o).cell? ⟨W.heap.size + 1 + 1, 0, none⟩ = some (.int .i64 x2.f0) := fun o => cell_later o hcx21_0; have hcx21_1 : w1_.cell? ⟨W.heap.size + 1 + 1, 1, none⟩ = some (.int .i64 x2.f1) := blk_cell HKx21_.out 1; have hdx21_1 : ∀ o, (w1_.alloc o).cell? ⟨W.heap.size + 1 + 1, 1, none⟩ = some (.int .i64 x2.f1) := fun o => cell_later o hcx21_1; have hcx21_2 : w1_.cell? ⟨W.heap.size + 1 + 1, 2, none⟩ = some (.string x2.f2) := blk_cell HKx21_.out 2; have hdx21_2 : ∀ o, (w1_.alloc o).cell? ⟨W.heap.size + 1 + 1, 2, none⟩ = some (.string x2.f2) := fun o => cell_later o hcx21_2; clear hb1_
      go_wp2_with fail
      go_at_call_of 10 (Value.agg #[.string x1.f0, .int .i64 x1.f1, .slice A1 x1.f2.length c1]); refine (HPC.out A1 c1 _ (Kd.C_below HR1.out (HB1_.out)) HC1.out).mono ?_; rintro e w2_ ⟨rfl, hb2_⟩; have HB2_ := Aside0.mk (below_step (HB1_.out) hb2_); have HKx02_ := Aside0.mk (blk_below (HKx01_.out) hb2_); have hcx02_0 : w2_.cell? ⟨W.heap.size, 0, none⟩ = some (.string x0.f0) := blk_cell HKx02_.out 0; have hdx02_0 : ∀ o, (w2_.alloc o).cell? ⟨W.heap.size, 0, none⟩ = some (.string x0.f0) := fun o => cell_later o hcx02_0; have hcx02_1 : w2_.cell? ⟨W.heap.size, 1, none⟩ = some (.int .i64 x0.f1) := blk_cell HKx02_.out 1; have hdx02_1 : ∀ o, (w2_.alloc o).cell? ⟨W.heap.size, 1, none⟩ = some (.int .i64 x0.f1) := fun o => cell_later o hcx02_1; have hcx02_2 : w2_.cell? ⟨W.heap.size, 2, none⟩ = some (.slice A0 x0.f2.length c0) := blk_cell HKx02_.out 2; have hdx02_2 : ∀ o, (w2_.alloc o).cell? ⟨W.heap.size, 2, none⟩ = some (.slice A0 x0.f2.length c0) := fun o => cell_later o hcx02_2; have HKx12_ := Aside0.mk (blk_below (HKx11_.out) hb2_); have hcx12_0 : w2_.cell? ⟨W.heap.size + 1, 0, none⟩ = some (.string x1.f0) := blk_cell HKx12_.out 0; have hdx12_0 : ∀ o, (w2_.alloc o).cell? ⟨W.heap.size + 1, 0, none⟩ = some (.string x1.f0) := fun o => cell_later o hcx12_0; have hcx12_1 : w2_.cell? ⟨W.heap.size + 1, 1, none⟩ = some (.int .i64 x1.f1) := blk_cell HKx12_.out 1; have hdx12_1 : ∀ o, (w2_.alloc o).cell? ⟨W.heap.size + 1, 1, none⟩ = some (.int .i64 x1.f1) := fun o => cell_later o hcx12_1; have hcx12_2 : w2_.cell? ⟨W.heap.size + 1, 2, none⟩ = some (.slice A1 x1.f2.length c1) := blk_cell HKx12_.out 2; have hdx12_2 : ∀ o, (w2_.alloc o).cell? ⟨W.heap.size + 1, 2, none⟩ = some (.slice A1 x1.f2.length c1) := fun o => cell_later o hcx12_2; have HKx22_ := Aside0.mk (blk_below (HKx21_.out) hb2_); have hcx22_0 : w2_.cell? ⟨W.heap.size + 1 + 1, 0, none⟩ = some (.int .i64 x2.f0) := blk_cell HKx22_.out 0; have hdx22_0 : ∀ o, (w2_.alloc o).cell? ⟨W.heap.size + 1 + 1, 0, none⟩ = some (.int .i64 x2.f0) := fun o => cell_later o hcx22_0; have hcx22_1 : w2_.cell? ⟨W.heap.size + 1 + 1, 1, none⟩ = some (.int .i64 x2.f1) := blk_cell HKx22_.out 1; have hdx22_1 : ∀ o, (w2_.alloc o).cell? ⟨W.heap.size + 1 + 1, 1, none⟩ = some (.int .i64 x2.f1) := fun o => cell_later o hcx22_1; have hcx22_2 : w2_.cell? ⟨W.heap.size + 1 + 1, 2, none⟩ = some (.string x2.f2) := blk_cell HKx22_.out 2; have hdx22_2 : ∀ o, (w2_.alloc o).cell? ⟨W.heap.size + 1 + 1, 2, none⟩ = some (.string x2.f2) := fun o => cell_later o hcx22_2; clear hb2_
      go_wp2_with fail
      go_ret
      exact ⟨rfl, HB2_.out⟩
end Go.Proofs.Ytandlemjjlamoaa.P
