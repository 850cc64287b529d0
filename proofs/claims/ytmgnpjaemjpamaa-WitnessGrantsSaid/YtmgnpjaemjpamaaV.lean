/- The plain law of the lease protocol: the machine of three sites and a witness, and what holds after any events. No Go and no memory. -/
import Derived.Test.YtmgnpjaemjpamaaM
import Derived.Test.YtmgnpjaemjpamaaE
set_option linter.unusedSimpArgs false
set_option linter.unusedVariables false
namespace Go.Proofs.Ytmgnpjaemjpamaa

structure Ms where
  k : Int
  f : Int
  t : Int
  n : Int
  v : Int
  e : Int
structure Lz where
  S : Int
  E : Int
  U : Int
structure SS where
  E : Int
  H : Int
  U : Int
  l : Nat → Lz
  fl : List Ms
  sn : List Int
  now : Int
  ow : List Int
  rt : Bool

def SS.setL (s : SS) (i : Nat) (x : Lz) : SS := { s with l := fun j => if j = i then x else s.l j }
def beginS : SS := { E := 0, H := 0, U := 0, l := fun i => ⟨i, 0, 0⟩, fl := [], sn := [], now := 0, ow := List.replicate 80 0, rt := true }
def reqS (s : SS) (m : Ms) : SS := { s with sn := s.sn ++ [s.now], fl := s.fl ++ [{ m with n := s.sn.length }] }
def ansL (f n : Int) : Option (Int × Int × Int) → List Ms
  | none => []
  | some (k, e, v) => [⟨k, 4, f, n, v, e⟩]
def SS.owner (s : SS) (e : Int) : Int := s.ow.getD e.toNat 0
def ownS (s : SS) (f : Int) : Option (Int × Int × Int) → SS
  | none => s
  | some (k, e, v) => if k = 16 ∧ 0 ≤ e ∧ e < 80 then { s with rt := s.rt && (s.owner e == 0 || s.owner e == f + 1), ow := s.ow.set e.toNat (f + 1) } else s
def witS (s : SS) (m : Ms) (r : (Int × Int × Int) × Option (Int × Int × Int)) : SS :=
  ownS { s with E := r.1.1, H := r.1.2.1, U := r.1.2.2, fl := s.fl ++ ansL m.f m.n r.2, rt := s.rt && decide (s.E ≤ r.1.1) } m.f r.2
def rcvS (s : SS) (m : Ms) : SS :=
  if m.t = 4 then witS s m (handleS s.E s.H s.U s.now 20 m.k m.f m.e)
  else if m.t < 0 ∨ 2 < m.t ∨ m.n < 0 ∨ s.sn.length ≤ m.n then { s with rt := false }
  else
    let x := s.l m.t.toNat
    let p := learnS x.S x.E x.U (s.sn.getD m.n.toNat 0) 20 1 m.k m.t m.v m.e
    s.setL m.t.toNat ⟨x.S, p.1, p.2⟩
def flyS (s : SS) (kind which : Nat) : SS :=
  match s.fl[which % s.fl.length]? with
  | none => s
  | some m =>
    let s1 := if kind % 7 = 4 then s else { s with fl := s.fl.take (which % s.fl.length) ++ s.fl.drop (which % s.fl.length + 1) }
    if kind % 7 = 5 then s1 else rcvS s1 m
def stepS (s : SS) (kind site which : Nat) : SS :=
  let x := s.l (site % 3)
  if kind % 7 = 0 then
    (if askE x.S x.E x.U (max x.E s.E + (which % 3 : Nat)) = 0 then reqS s ⟨15, x.S, 4, 0, 0, max x.E s.E + (which % 3 : Nat)⟩ else s)
  else if kind % 7 = 1 then (if renE x.S x.E x.U = 0 then reqS s ⟨17, x.S, 4, 0, 0, x.E⟩ else s)
  else if kind % 7 = 2 then
    (if lOk x.S x.E x.U then reqS (s.setL (site % 3) ⟨x.S, min (x.E + 1) 1073741824, 0⟩) ⟨18, x.S, 4, 0, 0, x.E⟩ else reqS s ⟨0, 0, 0, 0, 0, 0⟩)
  else if kind % 7 = 6 then { s with now := s.now + (which % 8 : Nat) }
  else flyS s kind which

/-- A claim of site i in epoch e until u is past, or the witness bears it. -/
def Back (s : SS) (i e u : Int) : Prop := u ≤ s.now ∨ (s.H = i ∧ e ≤ s.E ∧ u + 1 ≤ s.U)
def Old (s : SS) (i e : Int) : Prop := ∃ j : Nat, j < 3 ∧ i = j ∧ e < (s.l j).E
def MsgOk (n : Nat) (s : SS) (m : Ms) : Prop :=
  0 ≤ m.n ∧ m.n < s.sn.length ∧ 0 ≤ m.e ∧ m.e ≤ 3 * n ∧
  ((m.t = 4 ∧ 0 ≤ m.f ∧ m.f ≤ 2 ∧ (m.k = 15 ∨ m.k = 17 ∨ m.k = 18 ∧ Old s m.f m.e)) ∨
   (0 ≤ m.t ∧ m.t ≤ 2 ∧ (m.k = 12 ∨ m.k = 16 ∧ m.v = 20 ∧ (Old s m.t m.e ∨ Back s m.t m.e (s.sn.getD m.n.toNat 0 + 19)))))
structure Inv (n : Nat) (s : SS) : Prop where
  now0 : 0 ≤ s.now
  nowN : s.now ≤ 7 * n
  E0 : 0 ≤ s.E
  EN : s.E ≤ 3 * n
  H0 : -1 ≤ s.H
  H2 : s.H ≤ 2
  U0 : 0 ≤ s.U
  UN : s.U ≤ s.now + 20
  lz : ∀ i : Nat, i < 3 → (s.l i).S = i ∧ 0 ≤ (s.l i).E ∧ (s.l i).E ≤ 3 * n ∧ 0 ≤ (s.l i).U ∧ (s.l i).U ≤ s.now + 19
  lease : ∀ i : Nat, i < 3 → Back s i (s.l i).E (s.l i).U
  sent : ∀ x ∈ s.sn, 0 ≤ x ∧ x ≤ s.now
  msgs : ∀ m ∈ s.fl, MsgOk n s m
  own : s.ow.length = 80
  fresh : ∀ e : Int, s.E < e → e < 80 → s.owner e = 0
  cur : s.E < 80 → s.owner s.E = 0 ∨ s.H = -1 ∨ s.owner s.E = s.H + 1
  rt : s.rt = true

theorem inv_begin : Inv 0 beginS := by
  refine ⟨by decide, by decide, by decide, by decide, by decide, by decide, by decide, by decide, fun i hi => ?_, fun i hi => ?_, by simp [beginS], by simp [beginS], by simp [beginS], fun e h1 h2 => ?_, fun _ => ?_, rfl⟩
  · simp [beginS]
  · left; simp [beginS]
  · simp only [SS.owner, beginS, List.getD_eq_getElem?_getD, List.getElem?_replicate]; split <;> rfl
  · left; decide

/-- What stays of a message when the state goes on. -/
theorem MsgOk.on {n n' : Nat} {s s' : SS} {m : Ms} (h : MsgOk n s m) (hn : n ≤ n') (hsn : ∃ t, s'.sn = s.sn ++ t)
    (hold : ∀ i e, Old s i e → Old s' i e) (hback : ∀ i e u, (0 ≤ i ∧ i ≤ 2) → Back s i e u → u ≤ s.now + 19 → Old s' i e ∨ Back s' i e u) (hs : ∀ x ∈ s.sn, x ≤ s.now) : MsgOk n' s' m := by
  obtain ⟨h1, h2, h3, h4, h5⟩ := h
  obtain ⟨t, ht⟩ := hsn
  have hlen : s'.sn.length = s.sn.length + t.length := by rw [ht]; simp
  refine ⟨h1, by omega, h3, by omega, ?_⟩
  rcases h5 with ⟨a, b, c, d⟩ | ⟨a, b, d⟩
  · refine .inl ⟨a, b, c, ?_⟩
    rcases d with d | d | ⟨d, d'⟩
    · exact .inl d
    · exact .inr (.inl d)
    · exact .inr (.inr ⟨d, hold _ _ d'⟩)
  · refine .inr ⟨a, b, ?_⟩
    rcases d with d | ⟨d, d', d''⟩
    · exact .inl d
    · refine .inr ⟨d, d', ?_⟩
      rcases d'' with o | bk
      · exact .inl (hold _ _ o)
      · have hlt : m.n.toNat < s.sn.length := by omega
        have e1 : s'.sn.getD m.n.toNat 0 = s.sn.getD m.n.toNat 0 := by
          rw [ht]; simp [List.getD_eq_getElem?_getD, List.getElem?_append_left hlt]
        rw [e1]
        have hx : s.sn.getD m.n.toNat 0 ∈ s.sn := by
          rw [List.getD_eq_getElem?_getD, List.getElem?_eq_getElem hlt]; exact List.getElem_mem hlt
        exact hback _ _ _ ⟨a, b⟩ bk (by have := hs _ hx; omega)

theorem Inv.mono {n n' : Nat} {s : SS} (h : Inv n s) (hn : n ≤ n') : Inv n' s := by
  refine { h with nowN := ?_, EN := ?_, lz := ?_, msgs := ?_ }
  · have := h.nowN; omega
  · have := h.EN; omega
  · intro i hi; obtain ⟨a, b, c, d, e⟩ := h.lz i hi; exact ⟨a, b, by omega, d, e⟩
  · intro m hm
    exact (h.msgs m hm).on hn ⟨[], by simp⟩ (fun _ _ o => o) (fun _ _ _ _ b _ => .inr b) (fun x hx => (h.sent x hx).2)

theorem inv_req {n : Nat} {s : SS} {m : Ms} (h : Inv n s) (he0 : 0 ≤ m.e) (he : m.e ≤ 3 * n) (ht : m.t = 4) (hf0 : 0 ≤ m.f) (hf : m.f ≤ 2) (hk : m.k = 15 ∨ m.k = 17 ∨ m.k = 18 ∧ Old s m.f m.e) : Inv n (reqS s m) := by
  refine { h with sent := ?_, msgs := ?_ }
  · intro x hx
    simp only [reqS, List.mem_append, List.mem_singleton] at hx
    rcases hx with hx | rfl
    · exact h.sent x hx
    · exact ⟨h.now0, Int.le_refl _⟩
  · intro x hx
    simp only [reqS, List.mem_append, List.mem_singleton] at hx
    rcases hx with hx | rfl
    · exact (h.msgs x hx).on (Nat.le_refl _) ⟨[s.now], rfl⟩ (fun _ _ o => o) (fun _ _ _ _ b _ => .inr b) (fun x hx => (h.sent x hx).2)
    · refine ⟨by simp, by simp [reqS]; omega, he0, he, .inl ⟨ht, hf0, hf, hk⟩⟩

theorem inv_time {n : Nat} {s : SS} (h : Inv n s) (d : Int) (h0 : 0 ≤ d) (h7 : d ≤ 7) : Inv (n + 1) { s with now := s.now + d } := by
  have hb : ∀ i e u, Back s i e u → Back { s with now := s.now + d } i e u := by
    intro i e u b
    rcases b with b | b
    · left; simp; omega
    · exact .inr b
  refine ⟨by simp; have := h.now0; omega, by simp; have := h.nowN; omega, h.E0, by have := h.EN; simp; omega, h.H0, h.H2, h.U0, by have := h.UN; simp; omega, ?_, ?_, ?_, ?_, h.own, h.fresh, h.cur, h.rt⟩
  · intro i hi; obtain ⟨a, b, c, d4, e⟩ := h.lz i hi; exact ⟨a, b, by simp; omega, d4, by simp; omega⟩
  · intro i hi; exact hb _ _ _ (h.lease i hi)
  · intro x hx; obtain ⟨a, b⟩ := h.sent x hx; exact ⟨a, by simp; omega⟩
  · intro m hm
    exact (h.msgs m hm).on (Nat.le_succ _) ⟨[], by simp⟩ (fun _ _ o => o) (fun _ _ _ _ b _ => .inr (hb _ _ _ b)) (fun x hx => (h.sent x hx).2)

/-- A site's lease changes: its epoch does not become less, and what it counts is borne. -/
theorem inv_setL {n : Nat} {s : SS} (h : Inv n s) (i : Nat) (hi : i < 3) (x : Lz) (hS : x.S = i) (hE : (s.l i).E ≤ x.E) (hEn : x.E ≤ 3 * n) (hU0 : 0 ≤ x.U) (hU : x.U ≤ s.now + 19) (hb : Back s i x.E x.U) : Inv n (s.setL i x) := by
  have hl : ∀ j, (s.l j).E ≤ ((s.setL i x).l j).E := by
    intro j; simp only [SS.setL]; split
    · rename_i e; rw [e]; exact hE
    · exact Int.le_refl _
  refine { h with lz := ?_, lease := ?_, msgs := ?_ }
  · intro j hj
    by_cases e : j = i
    · subst e; simp only [SS.setL, if_pos]; have := (h.lz j hj).2.1; exact ⟨hS, by omega, hEn, hU0, hU⟩
    · simp only [SS.setL, if_neg e]; exact h.lz j hj
  · intro j hj
    by_cases e : j = i
    · subst e; simp only [SS.setL, if_pos]; exact hb
    · simp only [SS.setL, if_neg e]; exact h.lease j hj
  · intro m hm
    refine (h.msgs m hm).on (Nat.le_refl _) ⟨[], by simp [SS.setL]⟩ ?_ (fun _ _ _ _ b _ => .inr b) (fun x hx => (h.sent x hx).2)
    rintro a e ⟨j, hj, ha, hlt⟩
    exact ⟨j, hj, ha, by have := hl j; omega⟩

theorem inv_sub {n : Nat} {s : SS} (h : Inv n s) (l : List Ms) (hl : ∀ m ∈ l, m ∈ s.fl) : Inv n { s with fl := l } := by
  refine { h with msgs := ?_ }
  intro m hm; exact h.msgs m (hl m hm)

/-- The witness's state changes, and a message is answered. -/
theorem inv_wit {n : Nat} {s : SS} (h : Inv n s) (E' H' U' : Int) (new : List Ms) (ow' : List Int) (rt' : Bool)
    (hE : s.E ≤ E') (hEn : E' ≤ 3 * n) (hH0 : -1 ≤ H') (hH2 : H' ≤ 2) (hU0 : 0 ≤ U') (hU : U' ≤ s.now + 20)
    (hback : ∀ i e u, (0 ≤ i ∧ i ≤ 2) → Back s i e u → u ≤ s.now + 19 → Old s i e ∨ (u ≤ s.now ∨ (H' = i ∧ e ≤ E' ∧ u + 1 ≤ U')))
    (hnew : ∀ m ∈ new, MsgOk n { s with E := E', H := H', U := U', fl := s.fl ++ new, ow := ow', rt := rt' } m)
    (how : ow'.length = 80) (hf : ∀ e : Int, E' < e → e < 80 → ow'.getD e.toNat 0 = 0) (hc : E' < 80 → ow'.getD E'.toNat 0 = 0 ∨ H' = -1 ∨ ow'.getD E'.toNat 0 = H' + 1) (hr : rt' = true) :
    Inv n { s with E := E', H := H', U := U', fl := s.fl ++ new, ow := ow', rt := rt' } := by
  refine ⟨h.now0, h.nowN, by have := h.E0; simp; omega, hEn, hH0, hH2, hU0, hU, h.lz, ?_, h.sent, ?_, how, hf, hc, hr⟩
  · intro i hi
    obtain ⟨a, b, c, d, e⟩ := h.lz i hi
    rcases hback i _ _ ⟨by omega, by omega⟩ (h.lease i hi) e with ⟨j, hj, hij, hlt⟩ | hb
    · have : j = i := by omega
      subst this; omega
    · exact hb
  · intro m hm
    simp only [List.mem_append] at hm
    rcases hm with hm | hm
    · exact (h.msgs m hm).on (Nat.le_refl _) ⟨[], by simp⟩ (fun _ _ o => o) (fun i e u hi b hu => hback i e u hi b hu) (fun x hx => (h.sent x hx).2)
    · exact hnew m hm

theorem sent_at {n : Nat} {s : SS} (h : Inv n s) (k : Int) (h0 : 0 ≤ k) (hk : k < s.sn.length) : 0 ≤ s.sn.getD k.toNat 0 ∧ s.sn.getD k.toNat 0 ≤ s.now := by
  have hlt : k.toNat < s.sn.length := by omega
  refine h.sent _ ?_
  rw [List.getD_eq_getElem?_getD, List.getElem?_eq_getElem hlt]; exact List.getElem_mem hlt

theorem own_set {l : List Int} (h : l.length = 80) (e x : Int) (h0 : 0 ≤ e) (h80 : e < 80) : (l.set e.toNat x).getD e.toNat 0 = x := by
  rw [List.getD_eq_getElem?_getD, List.getElem?_set_self (by omega)]; rfl
theorem own_set_ne {l : List Int} (e x e' : Int) (h0 : 0 ≤ e) (h0' : 0 ≤ e') (hne : e' ≠ e) : (l.set e.toNat x).getD e'.toNat 0 = l.getD e'.toNat 0 := by
  rw [List.getD_eq_getElem?_getD, List.getElem?_set_ne (by omega), ← List.getD_eq_getElem?_getD]

/-- A grant in an epoch that is not less: the site has the lease already, or the lease is not held by another one. -/
theorem inv_grant {n : Nat} {s : SS} (h : Inv n s) (f e k : Int) (hf0 : 0 ≤ f) (hf2 : f ≤ 2) (he : s.E ≤ e) (hen : e ≤ 3 * n) (hk0 : 0 ≤ k) (hk : k < s.sn.length)
    (hc : (s.E < e ∧ (heldB s.H s.U s.now = false ∨ s.H = f)) ∨ (e = s.E ∧ s.H = f)) :
    Inv n (witS s ⟨0, f, 0, k, 0, 0⟩ ((e, f, s.now + 20), some (16, e, 20))) := by
  have hs := sent_at h k hk0 hk
  have hn0 := h.now0
  have hE0 := h.E0
  have hback : ∀ i a u, (0 ≤ i ∧ i ≤ 2) → Back s i a u → u ≤ s.now + 19 → Old s i a ∨ (u ≤ s.now ∨ (f = i ∧ a ≤ e ∧ u + 1 ≤ s.now + 20)) := by
    intro i a u hi hb hu
    right
    rcases hb with hb | ⟨h1, h2, h3⟩
    · exact .inl hb
    · by_cases hnow : u ≤ s.now
      · exact .inl hnow
      · right
        have hfi : f = i := by
          rcases hc with ⟨_, hh | hh⟩ | ⟨_, hh⟩
          · exfalso
            have : s.H ≠ -1 := by omega
            simp [heldB] at hh
            have := hh this
            omega
          · omega
          · omega
        exact ⟨hfi, by omega, by omega⟩
  have hold0 : e < 80 → s.owner e = 0 ∨ s.owner e = f + 1 := by
    intro h80
    rcases hc with ⟨hlt, _⟩ | ⟨heq, hH⟩
    · exact .inl (h.fresh e hlt h80)
    · rw [heq] at h80 ⊢
      rcases h.cur h80 with c | c | c
      · exact .inl c
      · omega
      · right; omega
  unfold witS ownS
  simp only [ansL]
  have hmsg : ∀ (ow' : List Int) (rt' : Bool), ∀ m ∈ [(⟨16, 4, f, k, 20, e⟩ : Ms)], MsgOk n { s with E := e, H := f, U := s.now + 20, fl := s.fl ++ [⟨16, 4, f, k, 20, e⟩], ow := ow', rt := rt' } m := by
    intro ow' rt' m hm
    simp only [List.mem_singleton] at hm
    subst hm
    refine ⟨hk0, hk, by simp; omega, hen, .inr ⟨hf0, hf2, .inr ⟨rfl, rfl, .inr (.inr ⟨rfl, Int.le_refl _, by show s.sn.getD k.toNat 0 + 19 + 1 ≤ s.now + 20; omega⟩)⟩⟩⟩
  by_cases h80 : e < 80
  · rw [if_pos ⟨by trivial, by omega, h80⟩]
    refine inv_wit h e f (s.now + 20) _ (s.ow.set e.toNat (f + 1)) _ he hen (by omega) hf2 (by omega) (by omega) hback (hmsg _ _) (by simp [h.own]) ?_ ?_ ?_
    · intro e' h1 h2
      rw [own_set_ne _ _ _ (by omega) (by omega) (by omega)]
      exact h.fresh e' (by omega) h2
    · intro _; right; right; exact own_set h.own _ _ (by omega) h80
    · have := hold0 h80
      simp only [SS.owner] at this
      simp only [SS.owner, h.rt, Bool.true_and, Bool.and_eq_true, decide_eq_true_eq, Bool.or_eq_true, beq_iff_eq]
      exact ⟨he, this⟩
  · rw [if_neg (by omega)]
    refine inv_wit h e f (s.now + 20) _ s.ow _ he hen (by omega) hf2 (by omega) (by omega) hback (hmsg _ _) h.own ?_ ?_ ?_
    · intro e' h1 h2; omega
    · intro h2; omega
    · simp only [h.rt, Bool.true_and, decide_eq_true_eq]; exact he

theorem inv_refuse {n : Nat} {s : SS} (h : Inv n s) (f k : Int) (hf0 : 0 ≤ f) (hf2 : f ≤ 2) (hk0 : 0 ≤ k) (hk : k < s.sn.length) :
    Inv n (witS s ⟨0, f, 0, k, 0, 0⟩ ((s.E, s.H, s.U), some (12, s.E, 0))) := by
  unfold witS ownS
  simp only [ansL]
  rw [if_neg (by omega)]
  refine inv_wit h s.E s.H s.U _ s.ow _ (Int.le_refl _) h.EN h.H0 h.H2 h.U0 h.UN (fun i a u _ b _ => .inr b) ?_ h.own h.fresh h.cur (by simp [h.rt])
  intro m hm
  simp only [List.mem_singleton] at hm
  subst hm
  exact ⟨hk0, hk, h.E0, h.EN, .inr ⟨hf0, hf2, .inl rfl⟩⟩

theorem inv_release {n : Nat} {s : SS} (h : Inv n s) (f k : Int) (ho : Old s f s.E) (hH : s.H = f) :
    Inv n (witS s ⟨0, f, 0, k, 0, 0⟩ ((s.E, -1, 0), none)) := by
  unfold witS ownS
  simp only [ansL]
  refine inv_wit h s.E (-1) 0 _ s.ow _ (Int.le_refl _) h.EN (by omega) (by omega) (by omega) (by have := h.now0; omega) ?_ (by simp) h.own h.fresh (fun _ => .inr (.inl rfl)) (by simp [h.rt])
  intro i a u hi b hu
  rcases b with b | ⟨h1, h2, h3⟩
  · exact .inr (.inl b)
  · left
    obtain ⟨j, hj, hfj, hlt⟩ := ho
    exact ⟨j, hj, by omega, by omega⟩

theorem inv_none {n : Nat} {s : SS} (h : Inv n s) (f k : Int) : Inv n (witS s ⟨0, f, 0, k, 0, 0⟩ ((s.E, s.H, s.U), none)) := by
  unfold witS ownS
  simp only [ansL]
  exact inv_wit h s.E s.H s.U _ s.ow _ (Int.le_refl _) h.EN h.H0 h.H2 h.U0 h.UN (fun i a u _ b _ => .inr b) (by simp) h.own h.fresh h.cur (by simp [h.rt])

theorem witS_of (s : SS) (m : Ms) (r) : witS s m r = witS s ⟨0, m.f, 0, m.n, 0, 0⟩ r := by
  unfold witS; rfl

theorem inv_hand {n : Nat} {s : SS} (h : Inv n s) (hn : n ≤ 100) (m : Ms) (hm : MsgOk n s m) (ht : m.t = 4) : Inv n (witS s m (handleS s.E s.H s.U s.now 20 m.k m.f m.e)) := by
  obtain ⟨hk0, hk, he0, he, hm⟩ := hm
  have h1 := h.now0; have h2 := h.nowN; have h3 := h.E0; have h4 := h.EN; have h5 := h.H0; have h6 := h.H2; have h7 := h.U0; have h8 := h.UN
  obtain ⟨_, hf0, hf2, hkind⟩ : m.t = 4 ∧ 0 ≤ m.f ∧ m.f ≤ 2 ∧ (m.k = 15 ∨ m.k = 17 ∨ m.k = 18 ∧ Old s m.f m.e) := by
    rcases hm with hm | ⟨_, a, _⟩
    · exact hm
    · omega
  have hg : goodB s.E s.H s.U s.now 20 m.f m.e = true := by
    simp only [goodB, wOk, btw, Bool.and_eq_true, Bool.or_eq_true, decide_eq_true_eq, beq_iff_eq]; omega
  rw [witS_of]
  unfold handleS
  rw [hg, if_pos rfl]
  have hren : Inv n (witS s ⟨0, m.f, 0, m.n, 0, 0⟩ (renewS s.E s.H s.U s.now 20 m.f m.e)) := by
    unfold renewS
    rcases ho : ownB s.E s.H s.U s.now m.f m.e with _ | _
    · rw [if_neg (by decide)]; exact inv_refuse h _ _ hf0 hf2 hk0 hk
    · rw [if_pos rfl]
      simp only [ownB, Bool.and_eq_true, beq_iff_eq] at ho
      obtain ⟨⟨o1, o2⟩, _⟩ := ho
      have := inv_grant h m.f m.e m.n hf0 hf2 (by omega) he hk0 hk (.inr ⟨o1, o2⟩)
      rw [show max s.U (s.now + 20) = s.now + 20 from by omega, ← o1, o2]
      exact this
  by_cases k1 : m.k = 15
  · rw [if_pos k1]
    rcases ha : acqB s.E s.H s.U s.now m.f m.e with _ | _
    · rw [if_neg (by decide)]; exact hren
    · rw [if_pos rfl]
      simp only [acqB, Bool.and_eq_true, decide_eq_true_eq, Bool.or_eq_true, Bool.not_eq_true', beq_iff_eq] at ha
      exact inv_grant h m.f m.e m.n hf0 hf2 (by omega) he hk0 hk (.inl ha)
  rw [if_neg k1]
  by_cases k2 : m.k = 17
  · rw [if_pos k2]; exact hren
  rw [if_neg k2]
  have k3 : m.k = 18 := by omega
  rw [if_pos k3]
  rcases ho : (m.e == s.E && m.f == s.H) with _ | _
  · rw [if_neg (by decide)]; exact inv_none h _ _
  · rw [if_pos rfl]
    simp only [Bool.and_eq_true, beq_iff_eq] at ho
    have hold : Old s m.f m.e := by
      rcases hkind with c | c | ⟨_, c⟩
      · omega
      · omega
      · exact c
    exact inv_release h _ _ (ho.1 ▸ hold) (by omega)

theorem inv_learn {n : Nat} {s : SS} (h : Inv n s) (hn : n ≤ 100) (m : Ms) (hm : MsgOk n s m) (ht0 : 0 ≤ m.t) (ht2 : m.t ≤ 2) :
    Inv n (s.setL m.t.toNat ⟨(s.l m.t.toNat).S, (learnS (s.l m.t.toNat).S (s.l m.t.toNat).E (s.l m.t.toNat).U (s.sn.getD m.n.toNat 0) 20 1 m.k m.t m.v m.e).1, (learnS (s.l m.t.toNat).S (s.l m.t.toNat).E (s.l m.t.toNat).U (s.sn.getD m.n.toNat 0) 20 1 m.k m.t m.v m.e).2⟩) := by
  obtain ⟨hk0, hk, he0, he, hm⟩ := hm
  have hs := sent_at h m.n hk0 hk
  have hi : m.t.toNat < 3 := by omega
  obtain ⟨lS, lE0, lEn, lU0, lU⟩ := h.lz _ hi
  have lb := h.lease _ hi
  have h1 := h.now0; have h2 := h.nowN
  have hti : ((m.t.toNat : Nat) : Int) = m.t := by omega
  generalize hx : s.sn.getD m.n.toNat 0 = x at hs hm ⊢
  generalize hl : s.l m.t.toNat = l at *
  have hmm : m.k = 12 ∨ m.k = 16 ∧ m.v = 20 ∧ (Old s m.t m.e ∨ Back s m.t m.e (x + 19)) := by
    rcases hm with ⟨a, _⟩ | ⟨_, _, c⟩
    · omega
    · exact c
  have hok : learnOk l.S l.E l.U x 20 1 m.t m.e = true := by
    simp only [learnOk, lOk, btw, Bool.and_eq_true, decide_eq_true_eq, beq_iff_eq]; omega
  have same : Inv n (s.setL m.t.toNat ⟨l.S, l.E, l.U⟩) := inv_setL h _ hi _ (by simp; omega) (by rw [hl]; exact Int.le_refl _) lEn lU0 lU lb
  unfold learnS
  rw [hok, if_pos rfl]
  rcases hmm with k | ⟨k, hv, hb⟩
  · rw [if_neg (by omega), if_pos k]
    by_cases c : l.E < m.e
    · rw [if_pos c]
      exact inv_setL h _ hi _ (by simp; omega) (by rw [hl]; exact Int.le_refl _) lEn (by simp) (by simp; omega) (.inl h1)
    · rw [if_neg c]; exact same
  · rw [if_pos k, hv]
    have hu : untilS x 20 1 20 = x + 19 := by unfold untilS; omega
    rw [hu]
    have hnold : l.E ≤ m.e → Back s m.t m.e (x + 19) := by
      intro c
      rcases hb with ⟨j, hj, hij, hlt⟩ | hb
      · have : j = m.t.toNat := by omega
        subst this; rw [hl] at hlt; omega
      · exact hb
    by_cases c : l.E < m.e
    · rw [if_pos c]
      have := hnold (by omega)
      exact inv_setL h _ hi _ (by simp; omega) (by rw [hl]; simp; omega) he (by simp; omega) (by simp; omega) (by rw [hti]; exact this)
    rw [if_neg c]
    by_cases c2 : m.e = l.E
    · rw [if_pos c2]
      have hb2 := hnold (by omega)
      refine inv_setL h _ hi _ (by simp; omega) (by rw [hl]; exact Int.le_refl _) lEn (by simp; omega) (by simp; omega) ?_
      rw [hti] at lb ⊢
      simp only
      rcases lb with b1 | ⟨b1, b2, b3⟩
      · rcases hb2 with b4 | ⟨b4, b5, b6⟩
        · left; omega
        · by_cases hc : x + 19 ≤ s.now
          · left; omega
          · right; exact ⟨b4, by omega, by omega⟩
      · rcases hb2 with b4 | ⟨b4, b5, b6⟩
        · by_cases hc : l.U ≤ s.now
          · left; omega
          · right; exact ⟨b1, b2, by omega⟩
        · right; exact ⟨b1, b2, by omega⟩
    · rw [if_neg c2]; exact same

theorem inv_rcv {n : Nat} {s : SS} (h : Inv n s) (hn : n ≤ 100) (m : Ms) (hm : MsgOk n s m) : Inv n (rcvS s m) := by
  unfold rcvS
  by_cases ht : m.t = 4
  · rw [if_pos ht]; exact inv_hand h hn m hm ht
  · rw [if_neg ht]
    obtain ⟨hk0, hk, _, _, h5⟩ := id hm
    have h6 : 0 ≤ m.t ∧ m.t ≤ 2 := by
      rcases h5 with ⟨a, _⟩ | ⟨a, b, _⟩
      · omega
      · exact ⟨a, b⟩
    rw [if_neg (by omega)]
    exact inv_learn h hn m hm h6.1 h6.2

theorem inv_fly {n : Nat} {s : SS} (h : Inv n s) (hn : n ≤ 100) (kind which : Nat) : Inv n (flyS s kind which) := by
  unfold flyS
  split
  · exact h
  · rename_i m hmk
    have hmem : m ∈ s.fl := List.mem_of_getElem? hmk
    have hok := h.msgs m hmem
    have hsub : Inv n { s with fl := s.fl.take (which % s.fl.length) ++ s.fl.drop (which % s.fl.length + 1) } := by
      refine inv_sub h _ (fun x hx => ?_)
      rcases List.mem_append.mp hx with hx | hx
      · exact List.mem_of_mem_take hx
      · exact List.mem_of_mem_drop hx
    have hok2 : MsgOk n { s with fl := s.fl.take (which % s.fl.length) ++ s.fl.drop (which % s.fl.length + 1) } m :=
      hok.on (Nat.le_refl _) ⟨[], by simp⟩ (fun _ _ o => o) (fun _ _ _ _ b _ => .inr b) (fun x hx => (h.sent x hx).2)
    by_cases k4 : kind % 7 = 4
    · rw [if_pos k4, if_neg (by omega)]; exact inv_rcv h hn m hok
    · rw [if_neg k4]
      by_cases k5 : kind % 7 = 5
      · rw [if_pos k5]; exact hsub
      · rw [if_neg k5]; exact inv_rcv hsub hn m hok2

theorem inv_step {n : Nat} {s : SS} (h : Inv n s) (hn : n < 100) (kind site which : Nat) : Inv (n + 1) (stepS s kind site which) := by
  have hi : site % 3 < 3 := Nat.mod_lt _ (by omega)
  have hw := Nat.mod_lt which (by omega : 3 > 0)
  have hw8 := Nat.mod_lt which (by omega : 8 > 0)
  obtain ⟨lS, lE0, lEn, lU0, lU⟩ := h.lz _ hi
  have h1 := h.now0; have h2 := h.nowN; have h3 := h.E0; have h4 := h.EN
  have hM := h.mono (Nat.le_succ n)
  unfold stepS
  by_cases k0 : kind % 7 = 0
  · rw [if_pos k0]
    split
    · exact inv_req hM (by simp; omega) (by simp; omega) rfl (by simp; omega) (by simp; omega) (.inl rfl)
    · exact hM
  rw [if_neg k0]
  by_cases k1 : kind % 7 = 1
  · rw [if_pos k1]
    split
    · exact inv_req hM (by simp; omega) (by simp; omega) rfl (by simp; omega) (by simp; omega) (.inr (.inl rfl))
    · exact hM
  rw [if_neg k1]
  by_cases k2 : kind % 7 = 2
  · rw [if_pos k2]
    have hok : lOk (s.l (site % 3)).S (s.l (site % 3)).E (s.l (site % 3)).U = true := by
      simp only [lOk, btw, Bool.and_eq_true, decide_eq_true_eq]; omega
    rw [if_pos hok]
    refine inv_req (inv_setL hM _ hi _ lS ?_ ?_ (by simp) (by simp; omega) (.inl h1)) (by simp; omega) (by simp; omega) rfl (by simp; omega) (by simp; omega) (.inr (.inr ⟨rfl, site % 3, hi, lS, ?_⟩))
    · simp; omega
    · simp; omega
    · simp [SS.setL]; omega
  rw [if_neg k2]
  by_cases k6 : kind % 7 = 6
  · rw [if_pos k6]
    exact inv_time h _ (by omega) (by omega)
  rw [if_neg k6]
  exact (inv_fly h (by omega) kind which).mono (Nat.le_succ _)

def runS (s : SS) : List (Nat × Nat × Nat) → SS
  | [] => s
  | (k, i, x) :: r => runS (stepS s k i x) r
theorem inv_run {n : Nat} {s : SS} (h : Inv n s) (es : List (Nat × Nat × Nat)) (hn : n + es.length ≤ 100) : Inv (n + es.length) (runS s es) := by
  induction es generalizing n s with
  | nil => exact h
  | cons e r ih =>
    obtain ⟨k, i, x⟩ := e
    have := ih (inv_step h (by simp at hn; omega) k i x) (by simp at hn; omega)
    rw [show n + ((k, i, x) :: r).length = n + 1 + r.length from by simp; omega]
    exact this

/-- A site that holds its lease is the witness's holder. -/
theorem inv_holds {n : Nat} {s : SS} (h : Inv n s) (i : Nat) (hi : i < 3) (hh : holdsB (s.l i).S (s.l i).E (s.l i).U s.now = true) : s.H = i ∧ (s.l i).E ≤ s.E ∧ s.now < s.U := by
  simp only [holdsB, Bool.and_eq_true, decide_eq_true_eq] at hh
  rcases h.lease i hi with b | ⟨a, b, c⟩
  · omega
  · exact ⟨a, b, by omega⟩

end Go.Proofs.Ytmgnpjaemjpamaa
