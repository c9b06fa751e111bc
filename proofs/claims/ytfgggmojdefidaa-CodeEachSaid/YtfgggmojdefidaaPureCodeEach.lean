/- CodeEach: of each kind, four bytes and what is written; what is more in its other fields cannot be encoded. -/
import Derived.Test.YtfgggmojdefidaaXCodeEachx
import Derived.Lib.Bytes
namespace Go.Proofs.Ytfgggmojdefidaa.Pure
open Go.RowKit Go.Proofs.Ytfgggmojdefidaa.XCodeEach Go.Proofs.YtfgggmojdefidaaW.PrintWords Go.Proofs.YtfgggmojdefidaaW.PrintLast

theorem wf64 {a : Int} (h : (Lit.int .i64 a).wf = true) : -9223372036854775808 ≤ a ∧ a ≤ 9223372036854775807 := by
  simp [Lit.wf, IntKind.min, IntKind.max, IntKind.bits, IntKind.signed] at h
  omega
theorem wfu64 {a : Int} (h : (Lit.int .u64 a).wf = true) : 0 ≤ a ∧ a ≤ 18446744073709551615 := by
  simp [Lit.wf, IntKind.min, IntKind.max, IntKind.bits, IntKind.signed] at h
  omega
theorem u64w (n : Int) : IntKind.u64.wrap n = n % 18446744073709551616 := by simp [IntKind.wrap, IntKind.bits, IntKind.signed]
theorem w64 {n : Int} (h : -9223372036854775808 ≤ n ∧ n ≤ 9223372036854775807) : wrap64 n = n := by unfold wrap64; omega
theorem tmodp {a b : Int} (h : 0 ≤ a) : Int.tmod a b = a % b := Int.tmod_eq_emod_of_nonneg h
theorem tdivp {a b : Int} (h : 0 ≤ a) : Int.tdiv a b = a / b := Int.tdiv_eq_ediv_of_nonneg h
theorem u64_wraps (n : Int) (h₀ : 0 ≤ n) (h₁ : n < 2 ^ 64) : IntKind.u64.wrap n = n := by rw [u64w]; omega
theorem u64_mask (i : Nat) (hi : i ≤ 64) (x : Int) (h₀ : 0 ≤ x) (h₁ : x < 2 ^ 64) : Go.bits .and .u64 x (2 ^ i - 1) = x % 2 ^ i :=
  bits_mask .u64 64 (by decide) u64_wraps i hi x h₀ h₁
theorem u64_and1 {x : Int} (h₀ : 0 ≤ x) (h₁ : x ≤ 18446744073709551615) : Go.bits .and .u64 x 1 = x % 2 := u64_mask 1 (by decide) x h₀ (by omega)
theorem u64_and3 {x : Int} (h₀ : 0 ≤ x) (h₁ : x ≤ 18446744073709551615) : Go.bits .and .u64 x 3 = x % 4 := u64_mask 2 (by decide) x h₀ (by omega)
theorem u64_or1 {x : Int} (h₀ : 0 ≤ x) (h₁ : x ≤ 18446744073709551615) (h : x % 2 = 0) : Go.bits .or .u64 x 1 = x + 1 :=
  bits_join .u64 64 (by decide) u64_wraps 1 x 1 h₀ h (by omega) (by decide) (by decide) (by decide)
theorem modw (a m : Int) (h : 0 < m) (hm : m ≤ 1000000) : wrap64 (Int.tmod (IntKind.u64.wrap a) m) = (a % 18446744073709551616) % m := by
  rw [u64w, tmodp (by omega), w64]
  have := Int.emod_nonneg (a % 18446744073709551616) (b := m) (by omega)
  have := Int.emod_lt_of_pos (a % 18446744073709551616) h
  omega
theorem ev_pos {α : Type} {c : Prop} [Decidable c] {a b : Nat → Option α} {r : α} (h : c) (k : Ev a r) : Ev (fun n => if c then a n else b n) r := by
  simp only [if_pos h]; exact k
theorem ev_neg {α : Type} {c : Prop} [Decidable c] {a b : Nat → Option α} {r : α} (h : ¬ c) (k : Ev b r) : Ev (fun n => if c then a n else b n) r := by
  simp only [if_neg h]; exact k
theorem ev_ite {α : Type} {c : Prop} [Decidable c] {a b : Nat → Option α} {r : α} (h1 : c → Ev a r) (h2 : ¬ c → Ev b r) : Ev (fun n => if c then a n else b n) r := by
  by_cases h : c
  · exact ev_pos h (h1 h)
  · exact ev_neg h (h2 h)
theorem ev_bindc {α β : Type} {o : Option α} {f : Nat → α → Option β} {a : α} {r : β} (h : o = some a) (k : Ev (fun n => f n a) r) : Ev (fun n => o.bind (f n)) r := by
  subst h; exact k
theorem ev_bind {α β : Type} {g : Nat → Option α} {f : Nat → α → Option β} {a : α} {r : β} (h : Ev g a) (k : Ev (fun n => f n a) r) : Ev (fun n => (g n).bind (f n)) r := Ev.bind h k
theorem ev_now {α : Type} {r s : α} (h : s = r) : Ev (fun _ => some s) r := by subst h; exact Ev.now _
theorem ev_some {α : Type} {o : Option α} {r : α} (h : o = some r) : Ev (fun _ => o) r := ⟨0, fun _ _ => h⟩
theorem ev_one {α : Type} {g : Nat → Option α} {r : α} (h : ∀ k, g (k + 1) = some r) : Ev g r := ⟨1, fun k hk => by obtain ⟨m, rfl⟩ : ∃ m, k = m + 1 := ⟨k - 1, by omega⟩; exact h m⟩
theorem ev_two {α : Type} {g : Nat → Option α} {r : α} (h : ∀ k, g (k + 2) = some r) : Ev g r := ⟨2, fun k hk => by obtain ⟨m, rfl⟩ : ∃ m, k = m + 2 := ⟨k - 2, by omega⟩; exact h m⟩
theorem rdo_mid (pre suf : List S26) (x : S26) : rd_T26 (pre ++ x :: suf) (pre.length : Int) = x := by
  unfold rd_T26
  rw [List.getD_eq_getElem?_getD, Int.toNat_natCast, List.getElem?_append_right (by omega)]
  simp
theorem rdo_last (pre suf : List S26) (x : S26) : rd_T26 ((pre ++ [x]) ++ suf) (((pre ++ [x]).length : Int) - 1) = x := by
  have e : (((pre ++ [x]).length : Int) - 1) = (pre.length : Int) := by simp
  rw [e, List.append_assoc]
  exact rdo_mid pre suf x
theorem rdo_get {l : List S26} {j : Int} (h0 : 0 ≤ j) (h1 : j < l.length) : ∃ h : j.toNat < l.length, rd_T26 l j = l[j.toNat]'h := by
  refine ⟨by omega, ?_⟩
  unfold rd_T26
  rw [List.getD_eq_getElem?_getD, List.getElem?_eq_getElem (by omega)]
  rfl
theorem rdo_mem {l : List S26} {j : Int} (h0 : 0 ≤ j) (h1 : j < l.length) : rd_T26 l j ∈ l := by
  obtain ⟨h, e⟩ := rdo_get h0 h1
  rw [e]
  exact List.getElem_mem h
def Byt (l : List Int) : Prop := ∀ x ∈ l, 0 ≤ x ∧ x ≤ 255
theorem byt_of {l : List Int} (h : ∀ x ∈ l, (Lit.int .u8 x).wf = true) : Byt l := by
  intro x hx
  have := h x hx
  simp [Lit.wf, IntKind.min, IntKind.max, IntKind.bits, IntKind.signed] at this
  omega
def dec1 (k v z : Int) (t : List Int) : Option S26 :=
  if k = 1 then some ⟨1, 0, v, 0, []⟩
  else if k = 2 then some ⟨2, v, 0, 0, []⟩
  else if k = 5 then some ⟨5, v, 0, 0, []⟩
  else if k = 4 then some ⟨4, v, 0, 0, t.take z.toNat⟩
  else if k = 3 then some ⟨3, v, z, 0, []⟩
  else if k = 7 then some ⟨7, 0, v, z, []⟩
  else if k = 6 then some ⟨6, 0, 0, 0, []⟩
  else if k = 8 then some ⟨8, 0, 0, 0, []⟩
  else none
def rst (k z : Int) (t : List Int) : List Int := if k = 4 then t.drop z.toNat else t
theorem rst_len (k z : Int) (t : List Int) : (rst k z t).length ≤ t.length := by
  unfold rst; split <;> simp
def decs : List Int → List S26
  | k :: a :: b :: z :: t => (dec1 k (a + 256 * b) z t).toList ++ decs (rst k z t)
  | _ => []
termination_by l => l.length
decreasing_by have := rst_len k z t; simp only [List.length_cons]; omega
theorem decs_four (k a b z : Int) (t : List Int) : decs (k :: a :: b :: z :: t) = (dec1 k (a + 256 * b) z t).toList ++ decs (rst k z t) := by rw [decs]
theorem decs_short {l : List Int} (h : l.length < 4) : decs l = [] := by
  rcases l with _ | ⟨a, _ | ⟨b, _ | ⟨c, _ | ⟨d, t⟩⟩⟩⟩ <;> first | (rw [decs]; simp; done) | (rw [decs]; intro k a b z t h'; simp at h'; done) | (simp at h; omega)
def hd (o : S26) : List Int :=
  if o.f0 = 1 then [1, o.f2 % 256, o.f2 / 256, 0]
  else if o.f0 = 3 then [3, o.f1 % 256, o.f1 / 256, o.f2]
  else if o.f0 = 4 then [4, o.f1 % 256, o.f1 / 256, (o.f4.length : Int)]
  else if o.f0 = 7 then [7, o.f2 % 256, o.f2 / 256, o.f3]
  else [o.f0, o.f1 % 256, o.f1 / 256, 0]
theorem hd_len (o : S26) : (hd o).length = 4 := by
  unfold hd
  repeat' split
  all_goals rfl
def may (o : S26) : Prop :=
  1 ≤ o.f0 ∧ o.f0 ≤ 8 ∧ 0 ≤ o.f1 ∧ o.f1 ≤ 65535 ∧ 0 ≤ o.f2 ∧ o.f2 ≤ 65535 ∧ 0 ≤ o.f3 ∧ o.f3 ≤ 255 ∧ o.f4.length ≤ 255 ∧ (o.f0 = 3 → o.f2 ≤ 255) ∧ (o.f0 ≠ 4 → o.f4 = []) ∧
  (o.f0 ≠ 7 → o.f3 = 0) ∧ (o.f0 = 1 ∨ o.f0 = 6 ∨ o.f0 = 7 ∨ o.f0 = 8 → o.f1 = 0) ∧ (o.f0 = 2 ∨ o.f0 = 4 ∨ o.f0 = 5 ∨ o.f0 = 6 ∨ o.f0 = 8 → o.f2 = 0)
instance (o : S26) : Decidable (may o) := by unfold may; infer_instance
def enc (o : S26) : List Int := hd o ++ o.f4
def encs (l : List S26) : List Int := l.flatMap enc
theorem enc_dec (o : S26) (h : may o) (t : List Int) : decs (enc o ++ t) = o :: decs t := by
  obtain ⟨k, f1, f2, f3, f4⟩ := o
  unfold may at h
  dsimp only at h
  obtain ⟨h1, h2, h3, h4, h5, h6, h7, h8, h9, h10, h11, h12, h13, h14⟩ := h
  have e : k = 1 ∨ k = 2 ∨ k = 3 ∨ k = 4 ∨ k = 5 ∨ k = 6 ∨ k = 7 ∨ k = 8 := by omega
  rcases e with rfl | rfl | rfl | rfl | rfl | rfl | rfl | rfl
  all_goals simp at h10 h11 h12 h13 h14
  all_goals subst_vars
  all_goals simp [enc, hd]
  all_goals rw [decs_four]
  all_goals simp [dec1, rst]
  all_goals omega
theorem encs_dec (l : List S26) (h : ∀ o ∈ l, may o) (t : List Int) : decs (encs l ++ t) = l ++ decs t := by
  induction l with
  | nil => simp [encs]
  | cons o l ih =>
    have := ih (fun o ho => h o (List.mem_cons_of_mem _ ho))
    simp only [encs, List.flatMap_cons, List.append_assoc] at this ⊢
    rw [enc_dec o (h o List.mem_cons_self), this]
    rfl
theorem decs_nil : decs [] = [] := decs_short (by decide)
theorem encs_decs (l : List S26) (h : ∀ o ∈ l, may o) : decs (encs l) = l := by
  have := encs_dec l h []
  simpa [decs_nil] using this
theorem four_cases (l : List Int) : l.length < 4 ∨ ∃ k a b z t, l = k :: a :: b :: z :: t := by
  rcases l with _ | ⟨a, _ | ⟨b, _ | ⟨c, _ | ⟨d, t⟩⟩⟩⟩
  · left; simp
  · left; simp
  · left; simp
  · left; simp
  · right; exact ⟨_, _, _, _, _, rfl⟩
theorem byt_rst {t : List Int} (h : Byt t) (k z : Int) : Byt (rst k z t) := by
  unfold rst; split
  · intro x hx; exact h x (List.mem_of_mem_drop hx)
  · exact h
theorem dec1_may {k a b z : Int} {t : List Int} (hk : 0 ≤ k ∧ k ≤ 255) (ha : 0 ≤ a ∧ a ≤ 255) (hb : 0 ≤ b ∧ b ≤ 255) (hz : 0 ≤ z ∧ z ≤ 255) {o : S26} (h : dec1 k (a + 256 * b) z t = some o) :
    may o ∧ (enc o).length + (rst k z t).length ≤ 4 + t.length := by
  unfold dec1 at h
  repeat' split at h
  all_goals first
    | (cases h; done)
    | (cases h; subst_vars; refine ⟨?_, ?_⟩
       · unfold may; simp; try omega
       · unfold enc; rw [List.length_append, hd_len]; unfold rst; simp [*]; try omega)
theorem decs_may (n : Nat) : ∀ l : List Int, l.length ≤ n → Byt l → (∀ o ∈ decs l, may o) ∧ (encs (decs l)).length ≤ l.length ∧ (decs l).length ≤ l.length := by
  induction n with
  | zero =>
    intro l hl hb
    rw [decs_short (by omega)]
    exact ⟨(fun o ho => nomatch ho), by simp [encs], by simp⟩
  | succ n ih =>
    intro l hl hb
    rcases four_cases l with h | ⟨k, a, b, z, t, rfl⟩
    · rw [decs_short h]
      exact ⟨(fun o ho => nomatch ho), by simp [encs], by simp⟩
    · rw [decs_four]
      have hbt : Byt t := fun x hx => hb x (by simp [hx])
      have hr := rst_len k z t
      simp only [List.length_cons] at hl ⊢
      obtain ⟨i1, i2, i3⟩ := ih (rst k z t) (by omega) (byt_rst hbt k z)
      rcases hd1 : dec1 k (a + 256 * b) z t with _ | o
      · refine ⟨by simpa using i1, ?_, ?_⟩ <;> simp <;> omega
      · obtain ⟨m1, m2⟩ := dec1_may (hb k (by simp)) (hb a (by simp)) (hb b (by simp)) (hb z (by simp)) hd1
        refine ⟨?_, ?_, ?_⟩
        · intro x hx
          simp at hx
          rcases hx with rfl | hx
          · exact m1
          · exact i1 x hx
        · simp only [Option.toList_some, List.cons_append, List.nil_append, encs, List.flatMap_cons, List.length_append] at i2 ⊢
          omega
        · simp; omega
-- the program's functions
theorem rd0 (k : Int) (t : List Int) : rd (k :: t) 0 = k := rfl
theorem rd1 (k a : Int) (t : List Int) : rd (k :: a :: t) 1 = a := rfl
theorem rd2 (k a b : Int) (t : List Int) : rd (k :: a :: b :: t) 2 = b := rfl
theorem rd3 (k a b z : Int) (t : List Int) : rd (k :: a :: b :: z :: t) 3 = z := rfl
def tup : Option S26 → Int × Int × Int × Int × List Int × Bool
  | some o => (o.f0, o.f1, o.f2, o.f3, o.f4, true)
  | none => (0, 0, 0, 0, [], false)
theorem decode_ev {k a b z : Int} {t : List Int} (hk : 0 ≤ k ∧ k ≤ 255) (ha : 0 ≤ a ∧ a ≤ 255) (hb : 0 ≤ b ∧ b ≤ 255) (hz : 0 ≤ z ∧ z ≤ 255) :
    Ev (fun n => code_decode.f n (k :: a :: b :: z :: t)) (tup (dec1 k (a + 256 * b) z [])) := by
  refine ev_two (fun n => ?_)
  have l1 : (1 : Int) < ((k :: a :: b :: z :: t).length : Int) := by simp only [List.length_cons]; omega
  have l2 : (2 : Int) < ((k :: a :: b :: z :: t).length : Int) := by simp only [List.length_cons]; omega
  have l3 : (3 : Int) < ((k :: a :: b :: z :: t).length : Int) := by simp only [List.length_cons]; omega
  have l0 : (0 : Int) < ((k :: a :: b :: z :: t).length : Int) := by simp only [List.length_cons]; omega
  unfold code_decode.f
  rw [if_pos l1, if_pos l2, if_pos l3, if_pos l0, rd0, rd1, rd2, rd3, w64 (n := k) (by omega), w64 (n := a) (by omega), w64 (n := b) (by omega), w64 (n := z) (by omega), w64 (n := 256 * b) (by omega), w64 (n := a + 256 * b) (by omega)]
  simp only [code_decode.j0, code_decode.j1, dec1]
  by_cases c1 : k = 1
  · subst c1; simp [tup]
  by_cases c2 : k = 2
  · subst c2; simp [tup]
  by_cases c3 : k = 3
  · subst c3; simp [tup]
  by_cases c4 : k = 4
  · subst c4; simp [tup]
  by_cases c5 : k = 5
  · subst c5; simp [tup]
  by_cases c6 : k = 6
  · subst c6; simp [tup]
  by_cases c7 : k = 7
  · subst c7; simp [tup]
  by_cases c8 : k = 8
  · subst c8; simp [tup]
  simp [c1, c2, c3, c4, c5, c6, c7, c8, tup]
theorem dec1_nil (k v z : Int) (t : List Int) (h : k ≠ 4) : dec1 k v z t = dec1 k v z [] := by
  unfold dec1; simp [h]
theorem dec1_k {k v z : Int} {t : List Int} {o : S26} (h : dec1 k v z t = some o) : o.f0 = k := by
  unfold dec1 at h
  repeat' split at h
  all_goals first
    | (cases h; done)
    | (cases h; subst_vars; rfl)
theorem Decode_l0 (n : Nat) : ∀ (x0 : List Int) (x3 : List S26), x0.length ≤ n → Byt x0 → x3.length + x0.length < 140737488355 → Ev (fun n => code_Decode.l0 n x0 x3) (x3 ++ decs x0) := by
  induction n with
  | zero =>
    intro x0 x3 hl hb hw
    refine Ev.step (fun k => by rw [code_Decode.l0]) ?_
    rw [decs_short (by omega), List.append_nil]
    exact ev_neg (by omega) (Ev.now _)
  | succ n ih =>
    intro x0 x3 hl hb hw
    refine Ev.step (fun k => by rw [code_Decode.l0]) ?_
    rcases four_cases x0 with h | ⟨k, a, b, z, t, rfl⟩
    · rw [decs_short h, List.append_nil]
      exact ev_neg (by omega) (Ev.now _)
    have hbt : Byt t := fun x hx => hb x (by simp [hx])
    have hk := hb k (by simp)
    have hz := hb z (by simp)
    simp only [List.length_cons] at hl hw
    refine ev_pos (by simp only [List.length_cons]; omega) ?_
    refine ev_bind (decode_ev hk (hb a (by simp)) (hb b (by simp)) hz) ?_
    refine ev_pos (by simp only [List.length_cons]; omega) ?_
    refine ev_pos (by simp only [List.length_cons]; omega) ?_
    refine ev_bindc rfl ?_
    rw [show (k :: a :: b :: z :: t).drop 4 = t from rfl, rd3, w64 (n := z) (by omega), decs_four]
    by_cases c4 : k = 4
    · subst c4
      have e1 : dec1 4 (a + 256 * b) z t = some ⟨4, a + 256 * b, 0, 0, t.take z.toNat⟩ := rfl
      have e2 : dec1 4 (a + 256 * b) z [] = some ⟨4, a + 256 * b, 0, 0, ([] : List Int).take z.toNat⟩ := rfl
      rw [e1, e2]
      have hm : (mn z (t.length : Int)).toNat = min z.toNat t.length := by unfold mn; split <;> omega
      have hm0 : 0 ≤ mn z (t.length : Int) := by unfold mn; split <;> omega
      have hm1 : mn z (t.length : Int) ≤ (t.length : Int) := by unfold mn; split <;> omega
      refine ev_pos rfl (ev_pos rfl (ev_pos hm0 (ev_pos hm1 (ev_bindc rfl ?_))))
      refine ev_pos (by simp only [List.length_nil, List.length_take]; omega) ?_
      refine ev_pos (by omega) ?_
      have t1 : t.take (mn z (t.length : Int)).toNat = t.take z.toNat := by
        rw [hm]
        rcases Nat.le_total z.toNat t.length with h | h
        · rw [Nat.min_eq_left h]
        · rw [Nat.min_eq_right h, List.take_of_length_le h, List.take_of_length_le (Nat.le_refl _)]
      have t2 : t.drop (mn z (t.length : Int)).toNat = t.drop z.toNat := by
        rw [hm]
        rcases Nat.le_total z.toNat t.length with h | h
        · rw [Nat.min_eq_left h]
        · rw [Nat.min_eq_right h, List.drop_of_length_le h, List.drop_of_length_le (Nat.le_refl _)]
      rw [t1, t2, List.nil_append]
      have hi := ih (t.drop z.toNat) (x3 ++ [⟨4, a + 256 * b, 0, 0, t.take z.toNat⟩]) (by simp only [List.length_drop]; omega) (byt_rst (k := 4) hbt z) (by simp only [List.length_drop, List.length_append, List.length_cons, List.length_nil]; omega)
      simpa [rst, tup] using hi
    · rw [dec1_nil _ _ _ t c4, show rst k z t = t from by unfold rst; rw [if_neg c4]]
      rcases hd1 : dec1 k (a + 256 * b) z [] with _ | o
      · refine ev_neg (by decide) ?_
        have hi := ih t x3 (by omega) hbt (by omega)
        simpa using hi
      · have hok : o.f0 ≠ 4 := by rw [dec1_k hd1]; exact c4
        refine ev_pos rfl (ev_neg hok (ev_pos (by omega) ?_))
        have hi := ih t (x3 ++ [o]) (by omega) hbt (by simp only [List.length_append, List.length_cons, List.length_nil]; omega)
        simpa [tup] using hi
theorem Decode_ev {l : List Int} (hb : Byt l) (hl : l.length < 140737488355) : Ev (fun n => code_Decode.f n l) (decs l) := by
  have := Decode_l0 l.length l [] (Nat.le_refl _) hb (by simpa using hl)
  simpa [code_Decode.f] using this
def rng (o : S26) : Prop :=
  1 ≤ o.f0 ∧ o.f0 ≤ 8 ∧ 0 ≤ o.f1 ∧ o.f1 ≤ 65535 ∧ 0 ≤ o.f2 ∧ o.f2 ≤ 65535 ∧ 0 ≤ o.f3 ∧ o.f3 ≤ 255 ∧ o.f4.length ≤ 255 ∧ (o.f0 = 3 → o.f2 ≤ 255) ∧ (o.f0 ≠ 4 → o.f4 = [])
theorem may_rng {o : S26} (h : may o) : rng o := by
  unfold may at h; unfold rng; simp only [h, true_and]; exact ⟨h.2.2.2.2.2.2.2.2.2.1, h.2.2.2.2.2.2.2.2.2.2.1⟩
theorem bytes_eq {o : S26} (h : rng o) : code_bytes.f o.f0 o.f1 o.f2 o.f3 o.f4 = some (hd o) := by
  obtain ⟨k, f1, f2, f3, f4⟩ := o
  unfold rng at h
  dsimp only at h ⊢
  obtain ⟨h1, h2, h3, h4, h5, h6, h7, h8, h9, h10, h11⟩ := h
  have e : k = 1 ∨ k = 2 ∨ k = 3 ∨ k = 4 ∨ k = 5 ∨ k = 6 ∨ k = 7 ∨ k = 8 := by omega
  rcases e with rfl | rfl | rfl | rfl | rfl | rfl | rfl | rfl
  all_goals simp at h10 h11
  all_goals simp [code_bytes.f, hd]
  all_goals omega
theorem May_j1 {o : S26} (h : rng o) : Ev (fun n => code_May.j1 n false o.f0 o.f1 o.f2 o.f3 o.f4) (decide (may o)) := by
  have hb := bytes_eq h
  refine Ev.step (fun n => by rw [code_May.j1]) ?_
  refine ev_neg (by decide) (ev_bindc hb ?_)
  clear hb
  obtain ⟨k, f1, f2, f3, f4⟩ := o
  unfold rng at h
  dsimp only at h ⊢
  obtain ⟨h1, h2, h3, h4, h5, h6, h7, h8, h9, h10, h11⟩ := h
  have e : k = 1 ∨ k = 2 ∨ k = 3 ∨ k = 4 ∨ k = 5 ∨ k = 6 ∨ k = 7 ∨ k = 8 := by omega
  rcases e with rfl | rfl | rfl | rfl | rfl | rfl | rfl | rfl
  all_goals simp at h10 h11
  all_goals
    refine ev_bind (decode_ev (by (try dsimp only); omega) (by (try dsimp only); omega) (by (try dsimp only); omega) (by (try dsimp only); omega)) ?_
    refine ev_ite (fun c1 => ev_ite (fun c2 => ev_now ?_) (fun c2 => ev_now ?_)) (fun c1 => ev_now ?_)
    all_goals
      rw [Bool.eq_iff_iff]
      simp [may, tup, dec1, h11] at *
      try omega
theorem mn_lt {a b c : Int} : mn a b < c ↔ a < c ∨ b < c := by unfold mn; split <;> omega
theorem mx_gt {a b c : Int} : mx a b > c ↔ a > c ∨ b > c := by unfold mx; split <;> omega
theorem May_ev (o : S26) : Ev (fun n => code_May.f n o.f0 o.f1 o.f2 o.f3 o.f4) (decide (may o)) := by
  have bad : ¬ may o → Ev (fun n => code_May.j0 n true o.f0 o.f1 o.f2 o.f3 o.f4) (decide (may o)) := by
    intro hm
    refine Ev.step (fun n => by rw [code_May.j0]) ?_
    exact ev_pos rfl (ev_now (by simp [hm]))
  have bad1 : ¬ may o → Ev (fun n => code_May.j1 n true o.f0 o.f1 o.f2 o.f3 o.f4) (decide (may o)) := by
    intro hm
    refine Ev.step (fun n => by rw [code_May.j1]) ?_
    exact ev_pos rfl (ev_now (by simp [hm]))
  unfold code_May.f
  refine ev_ite (fun c => bad (fun hm => by unfold may at hm; omega)) (fun c1 => ?_)
  refine ev_ite (fun c => bad (fun hm => by unfold may at hm; omega)) (fun c2 => ?_)
  refine ev_ite (fun c => bad (fun hm => by unfold may at hm; rw [mn_lt, mn_lt] at c; omega)) (fun c3 => ?_)
  refine ev_ite (fun c => bad (fun hm => by unfold may at hm; rw [mx_gt] at c; omega)) (fun c4 => ?_)
  rw [mn_lt, mn_lt] at c3
  rw [mx_gt] at c4
  by_cases c5 : mx o.f3 (o.f4.length : Int) > 255
  · rw [decide_eq_true c5]
    exact bad (fun hm => by unfold may at hm; rw [mx_gt] at c5; omega)
  rw [decide_eq_false c5]
  rw [mx_gt] at c5
  refine Ev.step (fun n => by rw [code_May.j0]) ?_
  refine ev_neg (by decide) ?_
  have go : (o.f0 = 3 → o.f2 ≤ 255) → (o.f0 ≠ 4 → o.f4 = []) → Ev (fun n => code_May.j1 n false o.f0 o.f1 o.f2 o.f3 o.f4) (decide (may o)) := by
    intro e1 e2
    exact May_j1 ⟨by omega, by omega, by omega, by omega, by omega, by omega, by omega, by omega, by omega, e1, e2⟩
  have data : o.f0 ≠ 4 → (o.f0 = 3 → o.f2 ≤ 255) → Ev (fun n => code_May.j1 n (decide ((o.f4.length : Int) > 0)) o.f0 o.f1 o.f2 o.f3 o.f4) (decide (may o)) := by
    intro e1 e2
    by_cases c : (o.f4.length : Int) > 0
    · rw [decide_eq_true c]
      exact bad1 (fun hm => by
        have := hm.2.2.2.2.2.2.2.2.2.2.1 e1
        rw [this] at c; simp at c)
    · rw [decide_eq_false c]
      exact go e2 (fun _ => List.eq_nil_of_length_eq_zero (by omega))
  refine ev_ite (fun c6 => ?_) (fun c6 => ?_)
  · refine ev_ite (fun c7 => bad1 (fun hm => by have := hm.2.2.2.2.2.2.2.2.2.1 c6; omega)) (fun c7 => ?_)
    refine ev_neg (by omega) (data (by omega) (fun _ => by omega))
  · refine ev_ite (fun c7 => go (fun h => absurd h c6) (fun h => absurd c7 h)) (fun c7 => data c7 (fun h => absurd h c6))
noncomputable def encR (l : List S26) : List Int × Bool := if ∀ o ∈ l, may o then (encs l, true) else ([], false)
theorem enc_len {o : S26} (h : may o) : (enc o).length ≤ 259 := by
  unfold enc; rw [List.length_append, hd_len]; unfold may at h; omega
theorem Encode_l0 : ∀ (suf pre : List S26) (x4 : List Int), x4.length + 259 * suf.length < 140737488355 → pre.length + suf.length < 140737488355 →
    Ev (fun n => code_Encode.l0 n x4 (pre ++ suf) ((pre ++ suf).length : Int) (pre.length : Int)) (if ∀ o ∈ suf, may o then (x4 ++ encs suf, true) else ([], false)) := by
  intro suf
  induction suf with
  | nil =>
    intro pre x4 h1 h2
    refine Ev.step (fun n => by rw [code_Encode.l0]) ?_
    refine ev_neg (by simp) (ev_now (by simp [encs]))
  | cons o suf ih =>
    intro pre x4 h1 h2
    simp only [List.length_cons] at h1 h2
    refine Ev.step (fun n => by rw [code_Encode.l0]) ?_
    refine ev_pos (by simp only [List.length_append, List.length_cons]; omega) (ev_pos (by omega) (ev_pos (by simp only [List.length_append, List.length_cons]; omega) ?_))
    rw [rdo_mid]
    refine ev_bind (May_ev o) ?_
    by_cases hm : may o
    · refine ev_pos (by simp [hm]) (ev_bindc (bytes_eq (may_rng hm)) ?_)
      have he := enc_len hm
      unfold enc at he
      rw [List.length_append] at he
      refine ev_pos (by omega) (ev_bindc rfl (ev_pos (by rw [List.length_append]; omega) ?_))
      rw [w64 (n := (pre.length : Int) + 1) (by omega)]
      have hi := ih (pre ++ [o]) (x4 ++ hd o ++ o.f4) (by simp only [List.length_append]; omega) (by simp only [List.length_append, List.length_cons, List.length_nil]; omega)
      simp only [List.append_assoc, List.cons_append, List.nil_append, List.length_append, List.length_cons, List.length_nil] at hi ⊢
      simpa [hm, encs, enc] using hi
    · exact ev_neg (by simp [hm]) (ev_now (by simp [hm]))
theorem Encode_ev {l : List S26} (h : l.length ≤ 100000) : Ev (fun n => code_Encode.f n l) (encR l) := by
  have := Encode_l0 l [] [] (by simp; omega) (by simp; omega)
  simpa [code_Encode.f, encR] using this
theorem awake_ev : Ev (fun k => darninglaw23_awake.f k) true := Ev.of (fun k => darninglaw23_awake.mono k) (k := 30) (by decide +kernel)
theorem encs_len {l : List S26} (h : ∀ o ∈ l, may o) : (encs l).length ≤ 259 * l.length := by
  induction l with
  | nil => simp [encs]
  | cons o l ih =>
    have h1 := ih (fun o ho => h o (List.mem_cons_of_mem _ ho))
    have h2 := enc_len (h o List.mem_cons_self)
    simp only [encs, List.flatMap_cons, List.length_append, List.length_cons] at h1 ⊢
    omega
theorem hd_byt {o : S26} (h : may o) : Byt (hd o) := by
  unfold may at h
  unfold hd
  intro x hx
  repeat' split at hx
  all_goals
    simp at hx
    rcases hx with rfl | rfl | rfl | rfl <;> omega
theorem encs_byt {l : List S26} (h : ∀ o ∈ l, may o) (h2 : ∀ o ∈ l, Byt o.f4) : Byt (encs l) := by
  intro x hx
  unfold encs at hx
  rw [List.mem_flatMap] at hx
  obtain ⟨o, ho, hx⟩ := hx
  unfold enc at hx
  rw [List.mem_append] at hx
  rcases hx with hx | hx
  · exact hd_byt (h o ho) x hx
  · exact h2 o ho x hx
theorem dec1_byt {k v z : Int} {t : List Int} (ht : Byt t) {o : S26} (h : dec1 k v z t = some o) : Byt o.f4 := by
  unfold dec1 at h
  repeat' split at h
  all_goals first
    | (cases h; done)
    | (cases h; intro x hx; exact ht x (List.mem_of_mem_take hx))
    | (cases h; intro x hx; simp at hx)
theorem decs_byt (n : Nat) : ∀ l : List Int, l.length ≤ n → Byt l → ∀ o ∈ decs l, Byt o.f4 := by
  induction n with
  | zero => intro l hl hb; rw [decs_short (by omega)]; intro o ho; cases ho
  | succ n ih =>
    intro l hl hb
    rcases four_cases l with h | ⟨k, a, b, z, t, rfl⟩
    · rw [decs_short h]; intro o ho; cases ho
    · rw [decs_four]
      have hbt : Byt t := fun x hx => hb x (by simp [hx])
      have hr := rst_len k z t
      simp only [List.length_cons] at hl
      intro o ho
      rw [List.mem_append] at ho
      rcases ho with ho | ho
      · rcases hd1 : dec1 k (a + 256 * b) z t with _ | p
        · rw [hd1] at ho; simp at ho
        · rw [hd1] at ho; simp at ho; subst ho; exact dec1_byt hbt hd1
      · exact ih _ (by omega) (byt_rst hbt k z) o ho
theorem RDec_l0 (n : Nat) : ∀ (x0 : List Int) (x3 : List S26), x0.length ≤ n → Byt x0 → x3.length + x0.length < 140737488355 → Ev (fun n => darningref4_DecodeOps.l0 n x0 x3) (x3 ++ decs x0) := by
  induction n with
  | zero =>
    intro x0 x3 hl hb hw
    refine Ev.step (fun k => by rw [darningref4_DecodeOps.l0]) ?_
    rw [decs_short (by omega), List.append_nil]
    exact ev_neg (by omega) (Ev.now _)
  | succ n ih =>
    intro x0 x3 hl hb hw
    refine Ev.step (fun k => by rw [darningref4_DecodeOps.l0]) ?_
    rcases four_cases x0 with h | ⟨k, a, b, z, t, rfl⟩
    · rw [decs_short h, List.append_nil]
      exact ev_neg (by omega) (Ev.now _)
    have hbt : Byt t := fun x hx => hb x (by simp [hx])
    have hk := hb k (by simp)
    have ha := hb a (by simp)
    have hbb := hb b (by simp)
    have hz := hb z (by simp)
    simp only [List.length_cons] at hl hw
    have hL : ((k :: a :: b :: z :: t).length : Int) = t.length + 4 := by simp only [List.length_cons]; omega
    refine ev_pos (by omega) (ev_pos (by omega) (ev_pos (by omega) (ev_pos (by omega) (ev_pos (by omega) (ev_pos (by omega) (ev_bindc rfl ?_))))))
    rw [show (k :: a :: b :: z :: t).drop 4 = t from rfl, rd0, rd1, rd2, rd3, w64 (n := k) (by omega), w64 (n := a) (by omega), w64 (n := b) (by omega), w64 (n := z) (by omega), w64 (n := 256 * b) (by omega), w64 (n := a + 256 * b) (by omega), decs_four]
    have one : ∀ o : S26, dec1 k (a + 256 * b) z t = some o → k ≠ 4 → Ev (fun n => darningref4_DecodeOps.l0 n t (x3 ++ [o])) (x3 ++ ((dec1 k (a + 256 * b) z t).toList ++ decs (rst k z t))) := by
      intro o e h4
      rw [e, show rst k z t = t from by unfold rst; rw [if_neg h4]]
      have hi := ih t (x3 ++ [o]) (by omega) hbt (by simp only [List.length_append, List.length_cons, List.length_nil]; omega)
      simpa using hi
    by_cases c1 : k = 1
    · subst c1
      refine ev_pos rfl (ev_pos (by omega) ?_)
      exact one _ rfl (by decide)
    refine ev_neg c1 ?_
    have eqs : (if k = 2 then (true : Bool) else (k == 5)) = (decide (k = 2 ∨ k = 5)) := by
      by_cases c2 : k = 2
      · simp [c2]
      · simp [c2]; rfl
    have go : Ev (fun n => darningref4_DecodeOps.j1 n t x3 k (a + 256 * b) z k (decide (k = 2 ∨ k = 5))) (x3 ++ ((dec1 k (a + 256 * b) z t).toList ++ decs (rst k z t))) := by
      refine Ev.step (fun n => by rw [darningref4_DecodeOps.j1]) ?_
      by_cases c2 : k = 2
      · subst c2
        exact ev_pos (by decide) (ev_pos (by omega) (one _ rfl (by decide)))
      by_cases c5 : k = 5
      · subst c5
        exact ev_pos (by decide) (ev_pos (by omega) (one _ rfl (by decide)))
      refine ev_neg (by simp [c2, c5]) ?_
      by_cases c3 : k = 3
      · subst c3
        exact ev_pos rfl (ev_pos (by omega) (one _ rfl (by decide)))
      refine ev_neg c3 ?_
      by_cases c4 : k = 4
      · subst c4
        have hm : (mn z (t.length : Int)).toNat = min z.toNat t.length := by unfold mn; split <;> omega
        have hm0 : 0 ≤ mn z (t.length : Int) := by unfold mn; split <;> omega
        have hm1 : mn z (t.length : Int) ≤ (t.length : Int) := by unfold mn; split <;> omega
        refine ev_pos rfl (ev_pos hm0 (ev_pos hm1 (ev_bindc rfl ?_)))
        refine ev_pos (by simp only [List.length_nil, List.length_take]; omega) ?_
        refine ev_pos (by omega) ?_
        have t1 : t.take (mn z (t.length : Int)).toNat = t.take z.toNat := by
          rw [hm]
          rcases Nat.le_total z.toNat t.length with h | h
          · rw [Nat.min_eq_left h]
          · rw [Nat.min_eq_right h, List.take_of_length_le h, List.take_of_length_le (Nat.le_refl _)]
        have t2 : t.drop (mn z (t.length : Int)).toNat = t.drop z.toNat := by
          rw [hm]
          rcases Nat.le_total z.toNat t.length with h | h
          · rw [Nat.min_eq_left h]
          · rw [Nat.min_eq_right h, List.drop_of_length_le h, List.drop_of_length_le (Nat.le_refl _)]
        rw [t1, t2, List.nil_append]
        have hi := ih (t.drop z.toNat) (x3 ++ [⟨4, a + 256 * b, 0, 0, t.take z.toNat⟩]) (by simp only [List.length_drop]; omega) (byt_rst (k := 4) hbt z) (by simp only [List.length_drop, List.length_append, List.length_cons, List.length_nil]; omega)
        simpa [rst, dec1] using hi
      refine ev_neg c4 ?_
      have go2 : Ev (fun n => darningref4_DecodeOps.j2 n t x3 k (a + 256 * b) z k (decide (k = 6 ∨ k = 8))) (x3 ++ ((dec1 k (a + 256 * b) z t).toList ++ decs (rst k z t))) := by
        refine Ev.step (fun n => by rw [darningref4_DecodeOps.j2]) ?_
        by_cases c6 : k = 6
        · subst c6
          exact ev_pos (by decide) (ev_pos (by omega) (one _ rfl (by decide)))
        by_cases c8 : k = 8
        · subst c8
          exact ev_pos (by decide) (ev_pos (by omega) (one _ rfl (by decide)))
        refine ev_neg (by simp [c6, c8]) ?_
        by_cases c7 : k = 7
        · subst c7
          exact ev_pos rfl (ev_pos (by omega) (one _ rfl (by decide)))
        refine ev_neg c7 ?_
        rw [show dec1 k (a + 256 * b) z t = none from by unfold dec1; simp [c1, c2, c3, c4, c5, c6, c7, c8], show rst k z t = t from by unfold rst; rw [if_neg c4]]
        have hi := ih t x3 (by omega) hbt (by omega)
        simpa using hi
      refine ev_ite (fun c => ?_) (fun c => ?_)
      · have e : (k == 6) = decide (k = 6 ∨ k = 8) := by rw [c]; decide
        rw [e]; exact go2
      · have e : (k == 8) = decide (k = 6 ∨ k = 8) := by simp [c]; rfl
        rw [e]; exact go2
    refine ev_ite (fun c => ?_) (fun c => ?_)
    · have e : (k == 2) = decide (k = 2 ∨ k = 5) := by rw [c]; decide
      rw [e]; exact go
    · have e : (k == 5) = decide (k = 2 ∨ k = 5) := by simp [c]; rfl
      rw [e]; exact go
theorem RDec_ev {l : List Int} (hb : Byt l) (hl : l.length < 140737488355) : Ev (fun n => darningref4_DecodeOps.f n l) (decs l) := by
  have := RDec_l0 l.length l [] (Nat.le_refl _) hb (by simpa using hl)
  simpa [darningref4_DecodeOps.f] using this
-- what the reference writes of an operation: four bytes and the data
def rhd (o : S26) : List Int :=
  if o.f0 = 1 then [1, o.f2 % 256, o.f2 / 256, 0]
  else if o.f0 = 2 then [2, o.f1 % 256, o.f1 / 256, 0]
  else if o.f0 = 5 then [5, o.f1 % 256, o.f1 / 256, 0]
  else if o.f0 = 3 then [3, o.f1 % 256, o.f1 / 256, o.f2 % 256]
  else if o.f0 = 4 then [4, o.f1 % 256, o.f1 / 256, (o.f4.length : Int)]
  else if o.f0 = 7 then [7, o.f2 % 256, o.f2 / 256, o.f3]
  else [o.f0, 0, 0, 0]
def rrng (o : S26) : Prop := 0 ≤ o.f1 ∧ o.f1 ≤ 65535 ∧ 0 ≤ o.f2 ∧ o.f2 ≤ 65535 ∧ 0 ≤ o.f3 ∧ o.f3 ≤ 255 ∧ o.f4.length ≤ 255
theorem opBytes_in {o : S26} (h : rrng o) (hk : 1 ≤ o.f0 ∧ o.f0 ≤ 8) : Ev (fun n => darningref4_opBytes.f n o.f0 o.f1 o.f2 o.f3 o.f4) (rhd o ++ o.f4) := by
  obtain ⟨k, f1, f2, f3, f4⟩ := o
  unfold rrng at h
  dsimp only at h hk ⊢
  obtain ⟨h3, h4, h5, h6, h7, h8, h9⟩ := h
  have e : k = 1 ∨ k = 2 ∨ k = 3 ∨ k = 4 ∨ k = 5 ∨ k = 6 ∨ k = 7 ∨ k = 8 := by omega
  have e1 : f1 / 256 % 256 = f1 / 256 := by omega
  have e2 : f2 / 256 % 256 = f2 / 256 := by omega
  have e3 : f3 % 256 = f3 := by omega
  have e4 : (f4.length : Int) % 256 = f4.length := by omega
  have lim : 4 + f4.length < 140737488355328 := by omega
  have lim' : ∀ a b c d : Int, ([a, b, c, d] : List Int).length + f4.length < 140737488355328 := fun a b c d => lim
  rcases e with rfl | rfl | rfl | rfl | rfl | rfl | rfl | rfl
  all_goals
    refine ev_two (fun n => ?_)
    simp [darningref4_opBytes.f, darningref4_opBytes.j0, rhd, e1, e2, e3, e4, lim]
    try omega
theorem opBytes_out {o : S26} (hk : ¬ (1 ≤ o.f0 ∧ o.f0 ≤ 8)) : Ev (fun n => darningref4_opBytes.f n o.f0 o.f1 o.f2 o.f3 o.f4) [] := by
  refine ev_two (fun n => ?_)
  have c1 : ¬ o.f0 = 1 := by omega
  have c2 : ¬ o.f0 = 2 := by omega
  have c3 : ¬ o.f0 = 3 := by omega
  have c4 : ¬ o.f0 = 4 := by omega
  have c5 : ¬ o.f0 = 5 := by omega
  have c6 : ¬ o.f0 = 6 := by omega
  have c7 : ¬ o.f0 = 7 := by omega
  have c8 : ¬ o.f0 = 8 := by omega
  simp [darningref4_opBytes.f, darningref4_opBytes.j0, c1, c2, c3, c4, c5, c6, c7, c8]
theorem rhd_may {o : S26} (h : may o) : rhd o = hd o := by
  obtain ⟨k, f1, f2, f3, f4⟩ := o
  unfold may at h
  dsimp only at h
  obtain ⟨h1, h2, h3, h4, h5, h6, h7, h8, h9, h10, h11, h12, h13, h14⟩ := h
  have e : k = 1 ∨ k = 2 ∨ k = 3 ∨ k = 4 ∨ k = 5 ∨ k = 6 ∨ k = 7 ∨ k = 8 := by omega
  rcases e with rfl | rfl | rfl | rfl | rfl | rfl | rfl | rfl
  all_goals simp at h10 h11 h12 h13 h14
  all_goals simp [rhd, hd]
  all_goals omega
def sameB (o p : S26) : Bool := decide (o.f0 = p.f0) && decide (o.f1 = p.f1) && decide (o.f2 = p.f2) && decide (o.f3 = p.f3) && ((strOfNums o.f4).toList == (strOfNums p.f4).toList)
theorem same_op_eq (o p : S26) : darningref4_SameOp.f o.f0 o.f1 o.f2 o.f3 o.f4 p.f0 p.f1 p.f2 p.f3 p.f4 = some (sameB o p) := by
  unfold darningref4_SameOp.f sameB
  by_cases c0 : o.f0 = p.f0
  · by_cases c1 : o.f1 = p.f1
    · by_cases c2 : o.f2 = p.f2
      · by_cases c3 : o.f3 = p.f3
        · simp [c0, c1, c2, c3]
        · simp [c0, c1, c2, c3]
      · simp [c0, c1, c2]
    · simp [c0, c1]
  · simp [c0]
theorem str_len {a b : List Int} (h : (strOfNums a).toList = (strOfNums b).toList) : a.length = b.length := by
  have e : ∀ xs : List Int, (strOfNums xs).toList.length = xs.length := by
    intro xs
    rw [Go.Lib.strOfNums_toList]
    unfold Go.Lib.bytesOf
    simp
  have h1 := congrArg List.length h
  rwa [e, e] at h1
theorem RMay_j0 {o : S26} (h : rrng o) (hb : Byt o.f4) : Ev (fun n => darningref4_MayOp.j0 n false o.f0 o.f1 o.f2 o.f3 o.f4) (decide (may o)) := by
  refine Ev.step (fun n => by rw [darningref4_MayOp.j0]) ?_
  refine ev_neg (by decide) ?_
  by_cases hk : 1 ≤ o.f0 ∧ o.f0 ≤ 8
  case neg =>
    refine ev_bind (opBytes_out hk) (ev_bind (RDec_ev (fun x hx => nomatch hx) (by decide)) ?_)
    rw [decs_nil]
    refine ev_neg (by decide) (ev_now ?_)
    have : ¬ may o := fun hm => hk ⟨hm.1, hm.2.1⟩
    simp [this]
  refine ev_bind (opBytes_in h hk) ?_
  have hB : Byt (rhd o ++ o.f4) := by
    intro x hx
    rw [List.mem_append] at hx
    rcases hx with hx | hx
    · unfold rrng at h
      unfold rhd at hx
      repeat' split at hx
      all_goals
        simp at hx
        rcases hx with rfl | rfl | rfl | rfl <;> omega
    · exact hb x hx
  have hL : (rhd o ++ o.f4).length ≤ 259 := by
    have : (rhd o).length = 4 := by
      unfold rhd
      repeat' split
      all_goals rfl
    rw [List.length_append, this]
    have := h.2.2.2.2.2.2
    omega
  refine ev_bind (RDec_ev hB (by omega)) ?_
  -- one operation, and what the data tell
  have key : ∃ p : S26, decs (rhd o ++ o.f4) = p :: (if o.f0 = 4 then [] else decs o.f4) ∧ p.f0 = o.f0 ∧ (p.f4 = if o.f0 = 4 then o.f4 else []) ∧ (may o ↔ (p.f1 = o.f1 ∧ p.f2 = o.f2 ∧ p.f3 = o.f3 ∧ (o.f0 ≠ 4 → o.f4 = []))) := by
    obtain ⟨k, f1, f2, f3, f4⟩ := o
    unfold rrng at h
    dsimp only at h hk ⊢
    obtain ⟨h3, h4, h5, h6, h7, h8, h9⟩ := h
    have e : k = 1 ∨ k = 2 ∨ k = 3 ∨ k = 4 ∨ k = 5 ∨ k = 6 ∨ k = 7 ∨ k = 8 := by omega
    rcases e with rfl | rfl | rfl | rfl | rfl | rfl | rfl | rfl
    all_goals
      simp only [rhd]
      simp
      rw [decs_four]
      simp [dec1, rst, decs_nil]
      simp [may]
      try simp only [← List.length_eq_zero_iff]
      try omega
  obtain ⟨p, e1, e2, e3, e4⟩ := key
  rw [e1]
  by_cases c4 : o.f0 = 4
  · rw [if_pos c4]
    refine ev_pos rfl (ev_pos (by simp) ?_)
    rw [show rd_T26 [p] 0 = p from rfl]
    refine ev_bindc (same_op_eq p o) (ev_now ?_)
    rw [if_pos c4] at e3
    rw [Bool.eq_iff_iff]
    simp [sameB, e2, e3, e4, c4]
    try omega
  · rw [if_neg c4]
    rw [if_neg c4] at e3
    by_cases cn : o.f4 = []
    · rw [show decs o.f4 = [] from by rw [cn]; exact decs_nil]
      refine ev_pos rfl (ev_pos (by simp) ?_)
      rw [show rd_T26 [p] 0 = p from rfl]
      refine ev_bindc (same_op_eq p o) (ev_now ?_)
      rw [Bool.eq_iff_iff]
      simp [sameB, e2, e3, e4, c4, cn]
      try omega
    · have hm : ¬ may o := fun hm => cn (e4.1 hm |>.2.2.2 c4)
      refine ev_ite (fun c => ?_) (fun c => ev_now (by simp [hm]))
      refine ev_pos (by simp only [List.length_cons]; omega) ?_
      rw [show rd_T26 (p :: decs o.f4) 0 = p from rfl]
      refine ev_bindc (same_op_eq p o) (ev_now ?_)
      have : ¬ ((strOfNums p.f4).toList = (strOfNums o.f4).toList) := by
        intro hs
        have := str_len hs
        rw [e3] at this
        exact cn (List.eq_nil_of_length_eq_zero this.symm)
      simp [hm, sameB, this]
theorem RMay_ev {o : S26} (hb : Byt o.f4) : Ev (fun n => darningref4_MayOp.f n o.f0 o.f1 o.f2 o.f3 o.f4) (decide (may o)) := by
  have bad : ¬ may o → Ev (fun n => darningref4_MayOp.j0 n true o.f0 o.f1 o.f2 o.f3 o.f4) (decide (may o)) := by
    intro hm
    refine Ev.step (fun n => by rw [darningref4_MayOp.j0]) ?_
    exact ev_pos rfl (ev_now (by simp [hm]))
  unfold darningref4_MayOp.f
  refine ev_ite (fun c => bad (fun hm => by unfold may at hm; omega)) (fun c1 => ?_)
  refine ev_ite (fun c => bad (fun hm => by unfold may at hm; omega)) (fun c2 => ?_)
  refine ev_ite (fun c => bad (fun hm => by unfold may at hm; omega)) (fun c3 => ?_)
  refine ev_ite (fun c => bad (fun hm => by unfold may at hm; omega)) (fun c4 => ?_)
  refine ev_ite (fun c => bad (fun hm => by unfold may at hm; omega)) (fun c5 => ?_)
  refine ev_ite (fun c => bad (fun hm => by unfold may at hm; omega)) (fun c6 => ?_)
  by_cases c7 : o.f3 > 255
  · rw [decide_eq_true c7]
    exact bad (fun hm => by unfold may at hm; omega)
  rw [decide_eq_false c7]
  exact RMay_j0 ⟨by omega, by omega, by omega, by omega, by omega, by omega, by omega⟩ hb
theorem enc_one_len (o : S26) : ((encs [o]).length : Int) = 4 + o.f4.length := by
  simp only [encs, List.flatMap_cons, List.flatMap_nil, List.append_nil, enc, List.length_append, hd_len]
  omega
theorem enc_no (a : S26) (h : ¬ may a) : Ev (fun k => code_Encode.f k [a]) (([] : List Int), false) := by
  have := Encode_ev (l := [a]) (by simp)
  rwa [show encR [a] = ([], false) from by unfold encR; rw [if_neg (fun hh => h (hh a (List.mem_singleton.mpr rfl)))]] at this
theorem Each_j1 (o a : S26) (h : may o) (na : ¬ may a) : Ev (fun k => darninglaw23_CodeEach.j1 k (encs [o]) true o.f0 o.f1 o.f2 o.f3 o.f4 a.f0 a.f1 a.f2 a.f3 a.f4) true := by
  have hm := h
  unfold may at hm
  have hl := enc_one_len o
  refine Ev.step (fun k => by rw [darninglaw23_CodeEach.j1]) ?_
  rw [w64 (n := 4 + (o.f4.length : Int)) (by omega)]
  refine ev_bind (enc_no a na) (ev_pos rfl (ev_pos hl (ev_neg (by decide) ?_)))
  exact ev_bind (May_ev a) (ev_neg (by simp [na]) (ev_bind awake_ev (Ev.now _)))
theorem CodeEach : darninglaw23_CodeEach.Pure := by
  intro k0 f1 f2 f3 f4 x h0 h1 h2 h3 h4 hx
  apply Ev.rounds
  obtain ⟨o, ho⟩ : ∃ o : S26, o = ⟨k0, f1, f2, f3, f4⟩ := ⟨_, rfl⟩
  have e0 : k0 = o.f0 := by rw [ho]
  have e1 : f1 = o.f1 := by rw [ho]
  have e2 : f2 = o.f2 := by rw [ho]
  have e3 : f3 = o.f3 := by rw [ho]
  have e4 : f4 = o.f4 := by rw [ho]
  have hB : Byt o.f4 := by rw [← e4]; exact byt_of h4.2
  rw [e0, e1, e2, e3, e4]
  unfold darninglaw23_CodeEach.f
  have out : Ev (fun k => darninglaw23_CodeEach.j0 k x true o.f0 o.f1 o.f2 o.f3 o.f4) true := by
    refine Ev.step (fun k => by rw [darninglaw23_CodeEach.j0]) ?_
    exact ev_pos rfl (ev_bind (May_ev o) (ev_bind (RMay_ev hB) (ev_pos (by simp) (ev_bind awake_ev (Ev.now _)))))
  refine ev_ite (fun _ => out) (fun _ => ev_bind (RMay_ev hB) ?_)
  by_cases hm : may o
  case neg =>
    rw [decide_eq_false hm]; exact out
  rw [decide_eq_true hm]
  refine Ev.step (fun k => by rw [darninglaw23_CodeEach.j0]) ?_
  have he : Ev (fun k => code_Encode.f k [(⟨o.f0, o.f1, o.f2, o.f3, o.f4⟩ : S26)]) (encs [o], true) := by
    have := Encode_ev (l := [o]) (by simp)
    rwa [show encR [o] = (encs [o], true) from by unfold encR; rw [if_pos (fun p hp => by rw [List.mem_singleton.mp hp]; exact hm)]] at this
  refine ev_neg (by decide) (ev_bind he ?_)
  have e : wrap64 (1 + wrap64 (Int.tmod (IntKind.u64.wrap x) 100)) = 1 + (x % 18446744073709551616) % 100 := by
    rw [modw x 100 (by decide) (by decide), w64]
    have := Int.emod_nonneg (x % 18446744073709551616) (b := 100) (by decide)
    have := Int.emod_lt_of_pos (x % 18446744073709551616) (b := 100) (by decide)
    omega
  have y0 := Int.emod_nonneg (x % 18446744073709551616) (b := 100) (by decide)
  rw [e]
  generalize hy : (x % 18446744073709551616) % 100 = y at y0
  have hm2 := hm
  unfold may at hm2
  have off : o.f0 = 1 ∨ o.f0 = 6 ∨ o.f0 = 8 ∨ o.f0 = 7 → ¬ may (⟨o.f0, 1 + y, o.f2, o.f3, o.f4⟩ : S26) := by
    intro hk hh
    unfold may at hh
    dsimp only at hh
    omega
  have mask : o.f0 ≠ 7 → ¬ may (⟨o.f0, o.f1, o.f2, 1 + y, o.f4⟩ : S26) := by
    intro hk hh
    unfold may at hh
    dsimp only at hh
    omega
  refine ev_ite (fun c => ?_) (fun c1 => ev_ite (fun c => ?_) (fun c6 => ev_ite (fun c => ?_) (fun c8 => ev_ite (fun c => ?_) (fun c7 => ?_))))
  · exact Each_j1 o _ hm (off (.inl c))
  · exact Each_j1 o _ hm (off (.inr (.inl c)))
  · exact Each_j1 o _ hm (off (.inr (.inr (.inl c))))
  · exact Each_j1 o _ hm (off (.inr (.inr (.inr c))))
  · exact Each_j1 o _ hm (mask c7)

end Go.Proofs.Ytfgggmojdefidaa.Pure
