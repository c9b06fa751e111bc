/- CodeCut: bytes that are cut short. -/
import Derived.Test.YtfgggmojdefidaaXCodeCutx
import Derived.Test.YtfgggmojdefidaaWSized
namespace Go.Proofs.Ytfgggmojdefidaa.Pure
open Go.RowKit Go.Proofs.Ytfgggmojdefidaa.XCodeCut Go.Proofs.YtfgggmojdefidaaW.PrintWords Go.Proofs.YtfgggmojdefidaaW.PrintLast

theorem wf64 {a : Int} (h : (Lit.int .i64 a).wf = true) : -9223372036854775808 ≤ a ∧ a ≤ 9223372036854775807 := by
  simp [Lit.wf, IntKind.min, IntKind.max, IntKind.bits, IntKind.signed] at h
  omega
theorem wfu64 {a : Int} (h : (Lit.int .u64 a).wf = true) : 0 ≤ a ∧ a ≤ 18446744073709551615 := by
  simp [Lit.wf, IntKind.min, IntKind.max, IntKind.bits, IntKind.signed] at h
  omega
theorem u64w (n : Int) : IntKind.u64.wrap n = n % 18446744073709551616 := by simp [IntKind.wrap, IntKind.bits, IntKind.signed]
theorem w64 {n : Int} (h : -9223372036854775808 ≤ n ∧ n ≤ 9223372036854775807) : wrap64 n = n := by unfold wrap64; omega
theorem tmodp {a b : Int} (h : 0 ≤ a) : Int.tmod a b = a % b := Int.tmod_eq_emod_of_nonneg h
theorem tdivp {a b : Int} (h : 0 ≤ a) : Int.tdiv a b = a / b := Int.tdiv_eq_ediv_of_nonneg h
theorem u64_wraps (n : Int) (h₀ : 0 ≤ n) (h₁ : n < 2 ^ 64) : IntKind.u64.wrap n = n := by rw [u64w]; omega
theorem u64_mask (i : Nat) (hi : i ≤ 64) (x : Int) (h₀ : 0 ≤ x) (h₁ : x < 2 ^ 64) : Go.bits .and .u64 x (2 ^ i - 1) = x % 2 ^ i :=
  bits_mask .u64 64 (by decide) u64_wraps i hi x h₀ h₁
theorem u64_and1 {x : Int} (h₀ : 0 ≤ x) (h₁ : x ≤ 18446744073709551615) : Go.bits .and .u64 x 1 = x % 2 := u64_mask 1 (by decide) x h₀ (by omega)
theorem u64_and3 {x : Int} (h₀ : 0 ≤ x) (h₁ : x ≤ 18446744073709551615) : Go.bits .and .u64 x 3 = x % 4 := u64_mask 2 (by decide) x h₀ (by omega)
theorem u64_or1 {x : Int} (h₀ : 0 ≤ x) (h₁ : x ≤ 18446744073709551615) (h : x % 2 = 0) : Go.bits .or .u64 x 1 = x + 1 :=
  bits_join .u64 64 (by decide) u64_wraps 1 x 1 h₀ h (by omega) (by decide) (by decide) (by decide)
theorem modw (a m : Int) (h : 0 < m) (hm : m ≤ 1000000) : wrap64 (Int.tmod (IntKind.u64.wrap a) m) = (a % 18446744073709551616) % m := by
  rw [u64w, tmodp (by omega), w64]
  have := Int.emod_nonneg (a % 18446744073709551616) (b := m) (by omega)
  have := Int.emod_lt_of_pos (a % 18446744073709551616) h
  omega
theorem ev_pos {α : Type} {c : Prop} [Decidable c] {a b : Nat → Option α} {r : α} (h : c) (k : Ev a r) : Ev (fun n => if c then a n else b n) r := by
  simp only [if_pos h]; exact k
theorem ev_neg {α : Type} {c : Prop} [Decidable c] {a b : Nat → Option α} {r : α} (h : ¬ c) (k : Ev b r) : Ev (fun n => if c then a n else b n) r := by
  simp only [if_neg h]; exact k
theorem ev_ite {α : Type} {c : Prop} [Decidable c] {a b : Nat → Option α} {r : α} (h1 : c → Ev a r) (h2 : ¬ c → Ev b r) : Ev (fun n => if c then a n else b n) r := by
  by_cases h : c
  · exact ev_pos h (h1 h)
  · exact ev_neg h (h2 h)
theorem ev_bindc {α β : Type} {o : Option α} {f : Nat → α → Option β} {a : α} {r : β} (h : o = some a) (k : Ev (fun n => f n a) r) : Ev (fun n => o.bind (f n)) r := by
  subst h; exact k
theorem ev_bind {α β : Type} {g : Nat → Option α} {f : Nat → α → Option β} {a : α} {r : β} (h : Ev g a) (k : Ev (fun n => f n a) r) : Ev (fun n => (g n).bind (f n)) r := Ev.bind h k
theorem ev_now {α : Type} {r s : α} (h : s = r) : Ev (fun _ => some s) r := by subst h; exact Ev.now _
theorem ev_some {α : Type} {o : Option α} {r : α} (h : o = some r) : Ev (fun _ => o) r := ⟨0, fun _ _ => h⟩
theorem ev_one {α : Type} {g : Nat → Option α} {r : α} (h : ∀ k, g (k + 1) = some r) : Ev g r := ⟨1, fun k hk => by obtain ⟨m, rfl⟩ : ∃ m, k = m + 1 := ⟨k - 1, by omega⟩; exact h m⟩
theorem ev_two {α : Type} {g : Nat → Option α} {r : α} (h : ∀ k, g (k + 2) = some r) : Ev g r := ⟨2, fun k hk => by obtain ⟨m, rfl⟩ : ∃ m, k = m + 2 := ⟨k - 2, by omega⟩; exact h m⟩
theorem rdo_mid (pre suf : List S26) (x : S26) : rd_T26 (pre ++ x :: suf) (pre.length : Int) = x := by
  unfold rd_T26
  rw [List.getD_eq_getElem?_getD, Int.toNat_natCast, List.getElem?_append_right (by omega)]
  simp
theorem rdo_last (pre suf : List S26) (x : S26) : rd_T26 ((pre ++ [x]) ++ suf) (((pre ++ [x]).length : Int) - 1) = x := by
  have e : (((pre ++ [x]).length : Int) - 1) = (pre.length : Int) := by simp
  rw [e, List.append_assoc]
  exact rdo_mid pre suf x
theorem rdo_get {l : List S26} {j : Int} (h0 : 0 ≤ j) (h1 : j < l.length) : ∃ h : j.toNat < l.length, rd_T26 l j = l[j.toNat]'h := by
  refine ⟨by omega, ?_⟩
  unfold rd_T26
  rw [List.getD_eq_getElem?_getD, List.getElem?_eq_getElem (by omega)]
  rfl
theorem rdo_mem {l : List S26} {j : Int} (h0 : 0 ≤ j) (h1 : j < l.length) : rd_T26 l j ∈ l := by
  obtain ⟨h, e⟩ := rdo_get h0 h1
  rw [e]
  exact List.getElem_mem h
def Byt (l : List Int) : Prop := ∀ x ∈ l, 0 ≤ x ∧ x ≤ 255
theorem byt_of {l : List Int} (h : ∀ x ∈ l, (Lit.int .u8 x).wf = true) : Byt l := by
  intro x hx
  have := h x hx
  simp [Lit.wf, IntKind.min, IntKind.max, IntKind.bits, IntKind.signed] at this
  omega
def dec1 (k v z : Int) (t : List Int) : Option S26 :=
  if k = 1 then some ⟨1, 0, v, 0, []⟩
  else if k = 2 then some ⟨2, v, 0, 0, []⟩
  else if k = 5 then some ⟨5, v, 0, 0, []⟩
  else if k = 4 then some ⟨4, v, 0, 0, t.take z.toNat⟩
  else if k = 3 then some ⟨3, v, z, 0, []⟩
  else if k = 7 then some ⟨7, 0, v, z, []⟩
  else if k = 6 then some ⟨6, 0, 0, 0, []⟩
  else if k = 8 then some ⟨8, 0, 0, 0, []⟩
  else none
def rst (k z : Int) (t : List Int) : List Int := if k = 4 then t.drop z.toNat else t
theorem rst_len (k z : Int) (t : List Int) : (rst k z t).length ≤ t.length := by
  unfold rst; split <;> simp
def decs : List Int → List S26
  | k :: a :: b :: z :: t => (dec1 k (a + 256 * b) z t).toList ++ decs (rst k z t)
  | _ => []
termination_by l => l.length
decreasing_by have := rst_len k z t; simp only [List.length_cons]; omega
theorem decs_four (k a b z : Int) (t : List Int) : decs (k :: a :: b :: z :: t) = (dec1 k (a + 256 * b) z t).toList ++ decs (rst k z t) := by rw [decs]
theorem decs_short {l : List Int} (h : l.length < 4) : decs l = [] := by
  rcases l with _ | ⟨a, _ | ⟨b, _ | ⟨c, _ | ⟨d, t⟩⟩⟩⟩ <;> first | (rw [decs]; simp; done) | (rw [decs]; intro k a b z t h'; simp at h'; done) | (simp at h; omega)
def hd (o : S26) : List Int :=
  if o.f0 = 1 then [1, o.f2 % 256, o.f2 / 256, 0]
  else if o.f0 = 3 then [3, o.f1 % 256, o.f1 / 256, o.f2]
  else if o.f0 = 4 then [4, o.f1 % 256, o.f1 / 256, (o.f4.length : Int)]
  else if o.f0 = 7 then [7, o.f2 % 256, o.f2 / 256, o.f3]
  else [o.f0, o.f1 % 256, o.f1 / 256, 0]
theorem hd_len (o : S26) : (hd o).length = 4 := by
  unfold hd
  repeat' split
  all_goals rfl
def may (o : S26) : Prop :=
  1 ≤ o.f0 ∧ o.f0 ≤ 8 ∧ 0 ≤ o.f1 ∧ o.f1 ≤ 65535 ∧ 0 ≤ o.f2 ∧ o.f2 ≤ 65535 ∧ 0 ≤ o.f3 ∧ o.f3 ≤ 255 ∧ o.f4.length ≤ 255 ∧ (o.f0 = 3 → o.f2 ≤ 255) ∧ (o.f0 ≠ 4 → o.f4 = []) ∧
  (o.f0 ≠ 7 → o.f3 = 0) ∧ (o.f0 = 1 ∨ o.f0 = 6 ∨ o.f0 = 7 ∨ o.f0 = 8 → o.f1 = 0) ∧ (o.f0 = 2 ∨ o.f0 = 4 ∨ o.f0 = 5 ∨ o.f0 = 6 ∨ o.f0 = 8 → o.f2 = 0)
instance (o : S26) : Decidable (may o) := by unfold may; infer_instance
def enc (o : S26) : List Int := hd o ++ o.f4
def encs (l : List S26) : List Int := l.flatMap enc
theorem enc_dec (o : S26) (h : may o) (t : List Int) : decs (enc o ++ t) = o :: decs t := by
  obtain ⟨k, f1, f2, f3, f4⟩ := o
  unfold may at h
  dsimp only at h
  obtain ⟨h1, h2, h3, h4, h5, h6, h7, h8, h9, h10, h11, h12, h13, h14⟩ := h
  have e : k = 1 ∨ k = 2 ∨ k = 3 ∨ k = 4 ∨ k = 5 ∨ k = 6 ∨ k = 7 ∨ k = 8 := by omega
  rcases e with rfl | rfl | rfl | rfl | rfl | rfl | rfl | rfl
  all_goals simp at h10 h11 h12 h13 h14
  all_goals subst_vars
  all_goals simp [enc, hd]
  all_goals rw [decs_four]
  all_goals simp [dec1, rst]
  all_goals omega
theorem encs_dec (l : List S26) (h : ∀ o ∈ l, may o) (t : List Int) : decs (encs l ++ t) = l ++ decs t := by
  induction l with
  | nil => simp [encs]
  | cons o l ih =>
    have := ih (fun o ho => h o (List.mem_cons_of_mem _ ho))
    simp only [encs, List.flatMap_cons, List.append_assoc] at this ⊢
    rw [enc_dec o (h o List.mem_cons_self), this]
    rfl
theorem decs_nil : decs [] = [] := decs_short (by decide)
theorem encs_decs (l : List S26) (h : ∀ o ∈ l, may o) : decs (encs l) = l := by
  have := encs_dec l h []
  simpa [decs_nil] using this
theorem four_cases (l : List Int) : l.length < 4 ∨ ∃ k a b z t, l = k :: a :: b :: z :: t := by
  rcases l with _ | ⟨a, _ | ⟨b, _ | ⟨c, _ | ⟨d, t⟩⟩⟩⟩
  · left; simp
  · left; simp
  · left; simp
  · left; simp
  · right; exact ⟨_, _, _, _, _, rfl⟩
theorem byt_rst {t : List Int} (h : Byt t) (k z : Int) : Byt (rst k z t) := by
  unfold rst; split
  · intro x hx; exact h x (List.mem_of_mem_drop hx)
  · exact h
theorem dec1_may {k a b z : Int} {t : List Int} (hk : 0 ≤ k ∧ k ≤ 255) (ha : 0 ≤ a ∧ a ≤ 255) (hb : 0 ≤ b ∧ b ≤ 255) (hz : 0 ≤ z ∧ z ≤ 255) {o : S26} (h : dec1 k (a + 256 * b) z t = some o) :
    may o ∧ (enc o).length + (rst k z t).length ≤ 4 + t.length := by
  unfold dec1 at h
  repeat' split at h
  all_goals first
    | (cases h; done)
    | (cases h; subst_vars; refine ⟨?_, ?_⟩
       · unfold may; simp; try omega
       · unfold enc; rw [List.length_append, hd_len]; unfold rst; simp [*]; try omega)
theorem decs_may (n : Nat) : ∀ l : List Int, l.length ≤ n → Byt l → (∀ o ∈ decs l, may o) ∧ (encs (decs l)).length ≤ l.length ∧ (decs l).length ≤ l.length := by
  induction n with
  | zero =>
    intro l hl hb
    rw [decs_short (by omega)]
    exact ⟨(fun o ho => nomatch ho), by simp [encs], by simp⟩
  | succ n ih =>
    intro l hl hb
    rcases four_cases l with h | ⟨k, a, b, z, t, rfl⟩
    · rw [decs_short h]
      exact ⟨(fun o ho => nomatch ho), by simp [encs], by simp⟩
    · rw [decs_four]
      have hbt : Byt t := fun x hx => hb x (by simp [hx])
      have hr := rst_len k z t
      simp only [List.length_cons] at hl ⊢
      obtain ⟨i1, i2, i3⟩ := ih (rst k z t) (by omega) (byt_rst hbt k z)
      rcases hd1 : dec1 k (a + 256 * b) z t with _ | o
      · refine ⟨by simpa using i1, ?_, ?_⟩ <;> simp <;> omega
      · obtain ⟨m1, m2⟩ := dec1_may (hb k (by simp)) (hb a (by simp)) (hb b (by simp)) (hb z (by simp)) hd1
        refine ⟨?_, ?_, ?_⟩
        · intro x hx
          simp at hx
          rcases hx with rfl | hx
          · exact m1
          · exact i1 x hx
        · simp only [Option.toList_some, List.cons_append, List.nil_append, encs, List.flatMap_cons, List.length_append] at i2 ⊢
          omega
        · simp; omega
-- the program's functions
theorem rd0 (k : Int) (t : List Int) : rd (k :: t) 0 = k := rfl
theorem rd1 (k a : Int) (t : List Int) : rd (k :: a :: t) 1 = a := rfl
theorem rd2 (k a b : Int) (t : List Int) : rd (k :: a :: b :: t) 2 = b := rfl
theorem rd3 (k a b z : Int) (t : List Int) : rd (k :: a :: b :: z :: t) 3 = z := rfl
def tup : Option S26 → Int × Int × Int × Int × List Int × Bool
  | some o => (o.f0, o.f1, o.f2, o.f3, o.f4, true)
  | none => (0, 0, 0, 0, [], false)
theorem decode_ev {k a b z : Int} {t : List Int} (hk : 0 ≤ k ∧ k ≤ 255) (ha : 0 ≤ a ∧ a ≤ 255) (hb : 0 ≤ b ∧ b ≤ 255) (hz : 0 ≤ z ∧ z ≤ 255) :
    Ev (fun n => code_decode.f n (k :: a :: b :: z :: t)) (tup (dec1 k (a + 256 * b) z [])) := by
  refine ev_two (fun n => ?_)
  have l1 : (1 : Int) < ((k :: a :: b :: z :: t).length : Int) := by simp only [List.length_cons]; omega
  have l2 : (2 : Int) < ((k :: a :: b :: z :: t).length : Int) := by simp only [List.length_cons]; omega
  have l3 : (3 : Int) < ((k :: a :: b :: z :: t).length : Int) := by simp only [List.length_cons]; omega
  have l0 : (0 : Int) < ((k :: a :: b :: z :: t).length : Int) := by simp only [List.length_cons]; omega
  unfold code_decode.f
  rw [if_pos l1, if_pos l2, if_pos l3, if_pos l0, rd0, rd1, rd2, rd3, w64 (n := k) (by omega), w64 (n := a) (by omega), w64 (n := b) (by omega), w64 (n := z) (by omega), w64 (n := 256 * b) (by omega), w64 (n := a + 256 * b) (by omega)]
  simp only [code_decode.j0, code_decode.j1, dec1]
  by_cases c1 : k = 1
  · subst c1; simp [tup]
  by_cases c2 : k = 2
  · subst c2; simp [tup]
  by_cases c3 : k = 3
  · subst c3; simp [tup]
  by_cases c4 : k = 4
  · subst c4; simp [tup]
  by_cases c5 : k = 5
  · subst c5; simp [tup]
  by_cases c6 : k = 6
  · subst c6; simp [tup]
  by_cases c7 : k = 7
  · subst c7; simp [tup]
  by_cases c8 : k = 8
  · subst c8; simp [tup]
  simp [c1, c2, c3, c4, c5, c6, c7, c8, tup]
theorem dec1_nil (k v z : Int) (t : List Int) (h : k ≠ 4) : dec1 k v z t = dec1 k v z [] := by
  unfold dec1; simp [h]
theorem dec1_k {k v z : Int} {t : List Int} {o : S26} (h : dec1 k v z t = some o) : o.f0 = k := by
  unfold dec1 at h
  repeat' split at h
  all_goals first
    | (cases h; done)
    | (cases h; subst_vars; rfl)
theorem Decode_l0 (n : Nat) : ∀ (x0 : List Int) (x3 : List S26), x0.length ≤ n → Byt x0 → x3.length + x0.length < 140737488355 → Ev (fun n => code_Decode.l0 n x0 x3) (x3 ++ decs x0) := by
  induction n with
  | zero =>
    intro x0 x3 hl hb hw
    refine Ev.step (fun k => by rw [code_Decode.l0]) ?_
    rw [decs_short (by omega), List.append_nil]
    exact ev_neg (by omega) (Ev.now _)
  | succ n ih =>
    intro x0 x3 hl hb hw
    refine Ev.step (fun k => by rw [code_Decode.l0]) ?_
    rcases four_cases x0 with h | ⟨k, a, b, z, t, rfl⟩
    · rw [decs_short h, List.append_nil]
      exact ev_neg (by omega) (Ev.now _)
    have hbt : Byt t := fun x hx => hb x (by simp [hx])
    have hk := hb k (by simp)
    have hz := hb z (by simp)
    simp only [List.length_cons] at hl hw
    refine ev_pos (by simp only [List.length_cons]; omega) ?_
    refine ev_bind (decode_ev hk (hb a (by simp)) (hb b (by simp)) hz) ?_
    refine ev_pos (by simp only [List.length_cons]; omega) ?_
    refine ev_pos (by simp only [List.length_cons]; omega) ?_
    refine ev_bindc rfl ?_
    rw [show (k :: a :: b :: z :: t).drop 4 = t from rfl, rd3, w64 (n := z) (by omega), decs_four]
    by_cases c4 : k = 4
    · subst c4
      have e1 : dec1 4 (a + 256 * b) z t = some ⟨4, a + 256 * b, 0, 0, t.take z.toNat⟩ := rfl
      have e2 : dec1 4 (a + 256 * b) z [] = some ⟨4, a + 256 * b, 0, 0, ([] : List Int).take z.toNat⟩ := rfl
      rw [e1, e2]
      have hm : (mn z (t.length : Int)).toNat = min z.toNat t.length := by unfold mn; split <;> omega
      have hm0 : 0 ≤ mn z (t.length : Int) := by unfold mn; split <;> omega
      have hm1 : mn z (t.length : Int) ≤ (t.length : Int) := by unfold mn; split <;> omega
      refine ev_pos rfl (ev_pos rfl (ev_pos hm0 (ev_pos hm1 (ev_bindc rfl ?_))))
      refine ev_pos (by simp only [List.length_nil, List.length_take]; omega) ?_
      refine ev_pos (by omega) ?_
      have t1 : t.take (mn z (t.length : Int)).toNat = t.take z.toNat := by
        rw [hm]
        rcases Nat.le_total z.toNat t.length with h | h
        · rw [Nat.min_eq_left h]
        · rw [Nat.min_eq_right h, List.take_of_length_le h, List.take_of_length_le (Nat.le_refl _)]
      have t2 : t.drop (mn z (t.length : Int)).toNat = t.drop z.toNat := by
        rw [hm]
        rcases Nat.le_total z.toNat t.length with h | h
        · rw [Nat.min_eq_left h]
        · rw [Nat.min_eq_right h, List.drop_of_length_le h, List.drop_of_length_le (Nat.le_refl _)]
      rw [t1, t2, List.nil_append]
      have hi := ih (t.drop z.toNat) (x3 ++ [⟨4, a + 256 * b, 0, 0, t.take z.toNat⟩]) (by simp only [List.length_drop]; omega) (byt_rst (k := 4) hbt z) (by simp only [List.length_drop, List.length_append, List.length_cons, List.length_nil]; omega)
      simpa [rst, tup] using hi
    · rw [dec1_nil _ _ _ t c4, show rst k z t = t from by unfold rst; rw [if_neg c4]]
      rcases hd1 : dec1 k (a + 256 * b) z [] with _ | o
      · refine ev_neg (by decide) ?_
        have hi := ih t x3 (by omega) hbt (by omega)
        simpa using hi
      · have hok : o.f0 ≠ 4 := by rw [dec1_k hd1]; exact c4
        refine ev_pos rfl (ev_neg hok (ev_pos (by omega) ?_))
        have hi := ih t (x3 ++ [o]) (by omega) hbt (by simp only [List.length_append, List.length_cons, List.length_nil]; omega)
        simpa [tup] using hi
theorem Decode_ev {l : List Int} (hb : Byt l) (hl : l.length < 140737488355) : Ev (fun n => code_Decode.f n l) (decs l) := by
  have := Decode_l0 l.length l [] (Nat.le_refl _) hb (by simpa using hl)
  simpa [code_Decode.f] using this
def rng (o : S26) : Prop :=
  1 ≤ o.f0 ∧ o.f0 ≤ 8 ∧ 0 ≤ o.f1 ∧ o.f1 ≤ 65535 ∧ 0 ≤ o.f2 ∧ o.f2 ≤ 65535 ∧ 0 ≤ o.f3 ∧ o.f3 ≤ 255 ∧ o.f4.length ≤ 255 ∧ (o.f0 = 3 → o.f2 ≤ 255) ∧ (o.f0 ≠ 4 → o.f4 = [])
theorem may_rng {o : S26} (h : may o) : rng o := by
  unfold may at h; unfold rng; simp only [h, true_and]; exact ⟨h.2.2.2.2.2.2.2.2.2.1, h.2.2.2.2.2.2.2.2.2.2.1⟩
theorem bytes_eq {o : S26} (h : rng o) : code_bytes.f o.f0 o.f1 o.f2 o.f3 o.f4 = some (hd o) := by
  obtain ⟨k, f1, f2, f3, f4⟩ := o
  unfold rng at h
  dsimp only at h ⊢
  obtain ⟨h1, h2, h3, h4, h5, h6, h7, h8, h9, h10, h11⟩ := h
  have e : k = 1 ∨ k = 2 ∨ k = 3 ∨ k = 4 ∨ k = 5 ∨ k = 6 ∨ k = 7 ∨ k = 8 := by omega
  rcases e with rfl | rfl | rfl | rfl | rfl | rfl | rfl | rfl
  all_goals simp at h10 h11
  all_goals simp [code_bytes.f, hd]
  all_goals omega
theorem May_j1 {o : S26} (h : rng o) : Ev (fun n => code_May.j1 n false o.f0 o.f1 o.f2 o.f3 o.f4) (decide (may o)) := by
  have hb := bytes_eq h
  refine Ev.step (fun n => by rw [code_May.j1]) ?_
  refine ev_neg (by decide) (ev_bindc hb ?_)
  clear hb
  obtain ⟨k, f1, f2, f3, f4⟩ := o
  unfold rng at h
  dsimp only at h ⊢
  obtain ⟨h1, h2, h3, h4, h5, h6, h7, h8, h9, h10, h11⟩ := h
  have e : k = 1 ∨ k = 2 ∨ k = 3 ∨ k = 4 ∨ k = 5 ∨ k = 6 ∨ k = 7 ∨ k = 8 := by omega
  rcases e with rfl | rfl | rfl | rfl | rfl | rfl | rfl | rfl
  all_goals simp at h10 h11
  all_goals
    refine ev_bind (decode_ev (by (try dsimp only); omega) (by (try dsimp only); omega) (by (try dsimp only); omega) (by (try dsimp only); omega)) ?_
    refine ev_ite (fun c1 => ev_ite (fun c2 => ev_now ?_) (fun c2 => ev_now ?_)) (fun c1 => ev_now ?_)
    all_goals
      rw [Bool.eq_iff_iff]
      simp [may, tup, dec1, h11] at *
      try omega
theorem mn_lt {a b c : Int} : mn a b < c ↔ a < c ∨ b < c := by unfold mn; split <;> omega
theorem mx_gt {a b c : Int} : mx a b > c ↔ a > c ∨ b > c := by unfold mx; split <;> omega
theorem May_ev (o : S26) : Ev (fun n => code_May.f n o.f0 o.f1 o.f2 o.f3 o.f4) (decide (may o)) := by
  have bad : ¬ may o → Ev (fun n => code_May.j0 n true o.f0 o.f1 o.f2 o.f3 o.f4) (decide (may o)) := by
    intro hm
    refine Ev.step (fun n => by rw [code_May.j0]) ?_
    exact ev_pos rfl (ev_now (by simp [hm]))
  have bad1 : ¬ may o → Ev (fun n => code_May.j1 n true o.f0 o.f1 o.f2 o.f3 o.f4) (decide (may o)) := by
    intro hm
    refine Ev.step (fun n => by rw [code_May.j1]) ?_
    exact ev_pos rfl (ev_now (by simp [hm]))
  unfold code_May.f
  refine ev_ite (fun c => bad (fun hm => by unfold may at hm; omega)) (fun c1 => ?_)
  refine ev_ite (fun c => bad (fun hm => by unfold may at hm; omega)) (fun c2 => ?_)
  refine ev_ite (fun c => bad (fun hm => by unfold may at hm; rw [mn_lt, mn_lt] at c; omega)) (fun c3 => ?_)
  refine ev_ite (fun c => bad (fun hm => by unfold may at hm; rw [mx_gt] at c; omega)) (fun c4 => ?_)
  rw [mn_lt, mn_lt] at c3
  rw [mx_gt] at c4
  by_cases c5 : mx o.f3 (o.f4.length : Int) > 255
  · rw [decide_eq_true c5]
    exact bad (fun hm => by unfold may at hm; rw [mx_gt] at c5; omega)
  rw [decide_eq_false c5]
  rw [mx_gt] at c5
  refine Ev.step (fun n => by rw [code_May.j0]) ?_
  refine ev_neg (by decide) ?_
  have go : (o.f0 = 3 → o.f2 ≤ 255) → (o.f0 ≠ 4 → o.f4 = []) → Ev (fun n => code_May.j1 n false o.f0 o.f1 o.f2 o.f3 o.f4) (decide (may o)) := by
    intro e1 e2
    exact May_j1 ⟨by omega, by omega, by omega, by omega, by omega, by omega, by omega, by omega, by omega, e1, e2⟩
  have data : o.f0 ≠ 4 → (o.f0 = 3 → o.f2 ≤ 255) → Ev (fun n => code_May.j1 n (decide ((o.f4.length : Int) > 0)) o.f0 o.f1 o.f2 o.f3 o.f4) (decide (may o)) := by
    intro e1 e2
    by_cases c : (o.f4.length : Int) > 0
    · rw [decide_eq_true c]
      exact bad1 (fun hm => by
        have := hm.2.2.2.2.2.2.2.2.2.2.1 e1
        rw [this] at c; simp at c)
    · rw [decide_eq_false c]
      exact go e2 (fun _ => List.eq_nil_of_length_eq_zero (by omega))
  refine ev_ite (fun c6 => ?_) (fun c6 => ?_)
  · refine ev_ite (fun c7 => bad1 (fun hm => by have := hm.2.2.2.2.2.2.2.2.2.1 c6; omega)) (fun c7 => ?_)
    refine ev_neg (by omega) (data (by omega) (fun _ => by omega))
  · refine ev_ite (fun c7 => go (fun h => absurd h c6) (fun h => absurd c7 h)) (fun c7 => data c7 (fun h => absurd h c6))
noncomputable def encR (l : List S26) : List Int × Bool := if ∀ o ∈ l, may o then (encs l, true) else ([], false)
theorem enc_len {o : S26} (h : may o) : (enc o).length ≤ 259 := by
  unfold enc; rw [List.length_append, hd_len]; unfold may at h; omega
theorem Encode_l0 : ∀ (suf pre : List S26) (x4 : List Int), x4.length + 259 * suf.length < 140737488355 → pre.length + suf.length < 140737488355 →
    Ev (fun n => code_Encode.l0 n x4 (pre ++ suf) ((pre ++ suf).length : Int) (pre.length : Int)) (if ∀ o ∈ suf, may o then (x4 ++ encs suf, true) else ([], false)) := by
  intro suf
  induction suf with
  | nil =>
    intro pre x4 h1 h2
    refine Ev.step (fun n => by rw [code_Encode.l0]) ?_
    refine ev_neg (by simp) (ev_now (by simp [encs]))
  | cons o suf ih =>
    intro pre x4 h1 h2
    simp only [List.length_cons] at h1 h2
    refine Ev.step (fun n => by rw [code_Encode.l0]) ?_
    refine ev_pos (by simp only [List.length_append, List.length_cons]; omega) (ev_pos (by omega) (ev_pos (by simp only [List.length_append, List.length_cons]; omega) ?_))
    rw [rdo_mid]
    refine ev_bind (May_ev o) ?_
    by_cases hm : may o
    · refine ev_pos (by simp [hm]) (ev_bindc (bytes_eq (may_rng hm)) ?_)
      have he := enc_len hm
      unfold enc at he
      rw [List.length_append] at he
      refine ev_pos (by omega) (ev_bindc rfl (ev_pos (by rw [List.length_append]; omega) ?_))
      rw [w64 (n := (pre.length : Int) + 1) (by omega)]
      have hi := ih (pre ++ [o]) (x4 ++ hd o ++ o.f4) (by simp only [List.length_append]; omega) (by simp only [List.length_append, List.length_cons, List.length_nil]; omega)
      simp only [List.append_assoc, List.cons_append, List.nil_append, List.length_append, List.length_cons, List.length_nil] at hi ⊢
      simpa [hm, encs, enc] using hi
    · exact ev_neg (by simp [hm]) (ev_now (by simp [hm]))
theorem Encode_ev {l : List S26} (h : l.length ≤ 100000) : Ev (fun n => code_Encode.f n l) (encR l) := by
  have := Encode_l0 l [] [] (by simp; omega) (by simp; omega)
  simpa [code_Encode.f, encR] using this
theorem awake_ev : Ev (fun k => darninglaw23_awake.f k) true := Ev.of (fun k => darninglaw23_awake.mono k) (k := 30) (by decide +kernel)
theorem encs_len {l : List S26} (h : ∀ o ∈ l, may o) : (encs l).length ≤ 259 * l.length := by
  induction l with
  | nil => simp [encs]
  | cons o l ih =>
    have h1 := ih (fun o ho => h o (List.mem_cons_of_mem _ ho))
    have h2 := enc_len (h o List.mem_cons_self)
    simp only [encs, List.flatMap_cons, List.length_append, List.length_cons] at h1 ⊢
    omega
theorem hd_byt {o : S26} (h : may o) : Byt (hd o) := by
  unfold may at h
  unfold hd
  intro x hx
  repeat' split at hx
  all_goals
    simp at hx
    rcases hx with rfl | rfl | rfl | rfl <;> omega
theorem encs_byt {l : List S26} (h : ∀ o ∈ l, may o) (h2 : ∀ o ∈ l, Byt o.f4) : Byt (encs l) := by
  intro x hx
  unfold encs at hx
  rw [List.mem_flatMap] at hx
  obtain ⟨o, ho, hx⟩ := hx
  unfold enc at hx
  rw [List.mem_append] at hx
  rcases hx with hx | hx
  · exact hd_byt (h o ho) x hx
  · exact h2 o ho x hx
theorem dec1_byt {k v z : Int} {t : List Int} (ht : Byt t) {o : S26} (h : dec1 k v z t = some o) : Byt o.f4 := by
  unfold dec1 at h
  repeat' split at h
  all_goals first
    | (cases h; done)
    | (cases h; intro x hx; exact ht x (List.mem_of_mem_take hx))
    | (cases h; intro x hx; simp at hx)
theorem decs_byt (n : Nat) : ∀ l : List Int, l.length ≤ n → Byt l → ∀ o ∈ decs l, Byt o.f4 := by
  induction n with
  | zero => intro l hl hb; rw [decs_short (by omega)]; intro o ho; cases ho
  | succ n ih =>
    intro l hl hb
    rcases four_cases l with h | ⟨k, a, b, z, t, rfl⟩
    · rw [decs_short h]; intro o ho; cases ho
    · rw [decs_four]
      have hbt : Byt t := fun x hx => hb x (by simp [hx])
      have hr := rst_len k z t
      simp only [List.length_cons] at hl
      intro o ho
      rw [List.mem_append] at ho
      rcases ho with ho | ho
      · rcases hd1 : dec1 k (a + 256 * b) z t with _ | p
        · rw [hd1] at ho; simp at ho
        · rw [hd1] at ho; simp at ho; subst ho; exact dec1_byt hbt hd1
      · exact ih _ (by omega) (byt_rst hbt k z) o ho
def sameB (o p : S26) : Bool := decide (o.f0 = p.f0) && decide (o.f1 = p.f1) && decide (o.f2 = p.f2) && decide (o.f3 = p.f3) && ((strOfNums o.f4).toList == (strOfNums p.f4).toList)
theorem same_op_eq (o p : S26) : darningref4_SameOp.f o.f0 o.f1 o.f2 o.f3 o.f4 p.f0 p.f1 p.f2 p.f3 p.f4 = some (sameB o p) := by
  unfold darningref4_SameOp.f sameB
  by_cases c0 : o.f0 = p.f0
  · by_cases c1 : o.f1 = p.f1
    · by_cases c2 : o.f2 = p.f2
      · by_cases c3 : o.f3 = p.f3
        · simp [c0, c1, c2, c3]
        · simp [c0, c1, c2, c3]
      · simp [c0, c1, c2]
    · simp [c0, c1]
  · simp [c0]
def short (o p : S26) : Prop := o.f0 = 4 ∧ p.f0 = 4 ∧ p.f4.length < o.f4.length ∧ o.f4.take p.f4.length = p.f4
def cutOf : List S26 → List S26 → Prop
  | _, [] => True
  | [], _ :: _ => False
  | o :: l, p :: m => (o = p ∧ cutOf l m) ∨ (m = [] ∧ short o p)
theorem cut_nil (l : List S26) : cutOf l [] := by cases l <;> trivial
theorem cut_app (a : Option S26) {l m : List S26} (h : cutOf l m) : cutOf (a.toList ++ l) (a.toList ++ m) := by
  cases a with
  | none => exact h
  | some o => exact Or.inl ⟨rfl, h⟩
theorem cut_len : ∀ (l m : List S26), cutOf l m → m.length ≤ l.length := by
  intro l m
  induction m generalizing l with
  | nil => intro _; simp
  | cons p m ih =>
    intro h
    cases l with
    | nil => exact h.elim
    | cons o l =>
      rcases h with ⟨_, h⟩ | ⟨rfl, _⟩
      · have := ih l h; simp; omega
      · simp
theorem cut_decs (n : Nat) : ∀ (l : List Int) (at_ : Nat), l.length ≤ n → Byt l → cutOf (decs l) (decs (l.take at_)) := by
  induction n with
  | zero => intro l a hl hb; rw [decs_short (l := l.take a) (by rw [List.length_take]; omega)]; exact cut_nil _
  | succ n ih =>
    intro l a hl hb
    rcases four_cases (l.take a) with h | ⟨k, a1, b1, z, t', e⟩
    · rw [decs_short h]; exact cut_nil _
    rcases four_cases l with h | ⟨k2, a2, b2, z2, t, rfl⟩
    · have := congrArg List.length e
      rw [List.length_take] at this
      simp only [List.length_cons] at this
      omega
    rcases a with _ | _ | _ | _ | c
    · simp at e
    · simp at e
    · simp at e
    · simp at e
    simp only [List.take_succ_cons] at e ⊢
    have hz := hb z2 (by simp)
    have hbt : Byt t := fun x hx => hb x (by simp [hx])
    simp only [List.length_cons] at hl
    rw [decs_four, decs_four]
    by_cases c4 : k2 = 4
    · subst c4
      have e1 : ∀ x, dec1 4 (a2 + 256 * b2) z2 x = some ⟨4, a2 + 256 * b2, 0, 0, x.take z2.toNat⟩ := fun x => rfl
      rw [e1, e1]
      show cutOf (_ :: _) (_ :: _)
      rcases Nat.le_total z2.toNat c with hc | hc
      · refine Or.inl ⟨by rw [List.take_take, Nat.min_eq_left hc], ?_⟩
        rw [show rst 4 z2 t = t.drop z2.toNat from rfl, show rst 4 z2 (t.take c) = (t.take c).drop z2.toNat from rfl, List.drop_take]
        exact ih _ _ (by rw [List.length_drop]; omega) (byt_rst (k := 4) hbt z2)
      · have er : rst 4 z2 (t.take c) = [] := by
          rw [show rst 4 z2 (t.take c) = (t.take c).drop z2.toNat from rfl, List.drop_of_length_le (by rw [List.length_take]; omega)]
        rw [er, show decs [] = [] from decs_nil, List.take_take, Nat.min_eq_right hc]
        rcases Nat.lt_or_ge c (min z2.toNat t.length) with hm | hm
        · refine Or.inr ⟨rfl, rfl, rfl, ?_, ?_⟩
          · simp only [List.length_take]; omega
          · simp only [List.length_take, List.take_take]
            rw [Nat.min_eq_left (a := c) (by omega), Nat.min_eq_left hc]
        · refine Or.inl ⟨?_, cut_nil _⟩
          have : t.take z2.toNat = t.take c := by
            rcases Nat.le_total z2.toNat t.length with h1 | h1
            · rw [show z2.toNat = c from by omega]
            · rw [List.take_of_length_le h1, List.take_of_length_le (by omega)]
          rw [this]
    · rw [dec1_nil _ _ _ t c4, dec1_nil _ _ _ (t.take c) c4]
      have er : ∀ x, rst k2 z2 x = x := fun x => by unfold rst; rw [if_neg c4]
      rw [er, er]
      exact cut_app _ (ih t c (by omega) hbt)
theorem loop (l m : List S26) (h2 : l.length ≤ 10000) : ∀ (s2 p1 p2 s1 : List S26), l = p1 ++ s1 → m = p2 ++ s2 → p1.length = p2.length → cutOf s1 s2 →
    Ev (fun k => darninglaw23_CodeCut.l0 k l m (m.length : Int) (p2.length : Int)) true := by
  intro s2
  induction s2 with
  | nil =>
    intro p1 p2 s1 e1 e2 e3 hc
    refine Ev.step (fun k => by rw [darninglaw23_CodeCut.l0]) ?_
    exact ev_neg (by rw [e2]; simp) (ev_bind awake_ev (Ev.now _))
  | cons p s2 ih =>
    intro p1 p2 s1 e1 e2 e3 hc
    cases s1 with
    | nil => exact hc.elim
    | cons o s1 =>
    have hl : l.length = p1.length + s1.length + 1 := by rw [e1]; simp; omega
    have hm : m.length = p2.length + s2.length + 1 := by rw [e2]; simp; omega
    have ro : rd_T26 l (p2.length : Int) = o := by rw [e1, ← e3]; exact rdo_mid p1 s1 o
    have rp : rd_T26 m (p2.length : Int) = p := by rw [e2]; exact rdo_mid p2 s2 p
    have on : ∀ s1', (∃ q, l = (p1 ++ [q]) ++ s1') → cutOf s1' s2 → Ev (fun k => darninglaw23_CodeCut.j1 k l m (m.length : Int) (p2.length : Int)) true := by
      intro s1' ⟨q, e⟩ hc'
      refine Ev.step (fun k => by rw [darninglaw23_CodeCut.j1]) ?_
      rw [w64 (n := (p2.length : Int) + 1) (by have := cut_len _ _ hc'; have := congrArg List.length e; simp at this; omega)]
      have := ih (p1 ++ [q]) (p2 ++ [p]) s1' e (by rw [e2]; simp) (by simp [e3]) hc'
      simpa using this
    have hlm : (p2.length : Int) < l.length := by omega
    refine Ev.step (fun k => by rw [darninglaw23_CodeCut.l0]) ?_
    refine ev_pos (by omega) (ev_pos (by omega) (ev_pos (by omega) (ev_pos (by omega) ?_)))
    rw [ro, rp]
    refine ev_bindc (same_op_eq o p) ?_
    rcases hc with ⟨rfl, hc⟩ | ⟨rfl, k1, k2, k3, k4⟩
    · refine ev_pos (by simp [sameB]) (on s1 ⟨o, by rw [e1]; simp⟩ hc)
    · have on' := on s1 ⟨o, by rw [e1]; simp⟩ (cut_nil _)
      refine ev_ite (fun _ => on') (fun _ => ?_)
      have hm' : m.length = p2.length + 1 := by simpa using hm
      refine ev_pos (by rw [w64 (by omega)]; omega) (ev_pos k2 (ev_pos k1 (ev_neg (by omega) (ev_pos (by omega) (ev_pos (by omega) ?_)))))
      exact ev_pos (by rw [Int.toNat_natCast, k4]) on'
theorem CodeCut : darninglaw23_CodeCut.Pure := by
  intro b a hbm hby hbw ha
  apply Ev.rounds
  have hB := byt_of hbw
  unfold darninglaw23_CodeCut.f
  refine ev_ite (fun _ => ev_bind awake_ev (Ev.now _)) (fun c1 => ?_)
  rw [w64 (n := (b.length : Int) + 1) (by omega), u64w ((b.length : Int) + 1), show ((b.length : Int) + 1) % 18446744073709551616 = b.length + 1 from by omega, modw a _ (by omega) (by omega)]
  have x0 := Int.emod_nonneg (a % 18446744073709551616) (b := (b.length : Int) + 1) (by omega)
  have x1 := Int.emod_lt_of_pos (a % 18446744073709551616) (b := (b.length : Int) + 1) (by omega)
  generalize a % 18446744073709551616 % ((b.length : Int) + 1) = x at x0 x1 ⊢
  refine ev_neg (by omega) (ev_bind (Decode_ev hB (by omega)) (ev_pos x0 (ev_pos (by omega) ?_)))
  refine ev_bind (Decode_ev (l := b.take x.toNat) (fun y hy => hB y (List.mem_of_mem_take hy)) (by rw [List.length_take]; omega)) ?_
  have hc := cut_decs b.length b x.toNat (Nat.le_refl _) hB
  have hl := cut_len _ _ hc
  have d3 := (decs_may b.length b (Nat.le_refl _) hB).2.2
  refine ev_neg (by omega) ?_
  exact loop (decs b) (decs (b.take x.toNat)) (by omega) _ [] [] _ rfl rfl rfl hc

end Go.Proofs.Ytfgggmojdefidaa.Pure

namespace Go.Proofs.Ytfgggmojdefidaa.PrintWords
open Go.ChangeShapes Go.WideShapes
/-- The printed words' lemma, under the name by which the printed row finds it. -/
theorem sized_ints {H : Type} {enc : TypeId × Value → H} {P : Program} {W : World} {base : Nat} {spare : Nat → Bool} {held : Bool} {t e : TypeId} {k : IntKind} {a : Option Addr} {len cap : Nat} {d : DataW H} {ps : List MemPlace} {ts : List TypeId} {ds : List (DataW H)} {j : Nat}
    (hsz : (DataW.weightsEach P ts ds).all (· ≤ reachBytes) = true) (ht : ts[j]? = some t) (hd : ds[j]? = some d) (hu : P.underlying t = some (.slice e)) (he : P.underlying e = some (.int k)) (hc : P.cellsOf e = 1) {B : Nat} (hB : P.bytesOf e = B)
    (h : DataW.Trod enc P W base spare held t (.slice a len cap) d ps) : len * B ≤ 140737488351232 :=
  Go.Proofs.YtfgggmojdefidaaW.PrintWords.sized_ints hsz ht hd hu he hc hB h
end Go.Proofs.Ytfgggmojdefidaa.PrintWords
