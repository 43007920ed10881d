/- Part of the proofs: an abstract program logic, plain models and contracts of functions. -/
import Derived.Test.YtapmjpihennhaaaGreatDoorPi
set_option linter.unusedVariables false
set_option linter.unusedSimpArgs false
set_option maxRecDepth 100000
namespace Go.Abs
def TW (P : Program) (ops : Array Oper) (H₀ : List BL) : Nat → (Nat → AV) → List BL → List AV → ((Nat → AV) → List BL → Prop) → Prop
 | _, τ, H, [], K => K τ H
 | k, τ, H, v :: r, K => ∃ o H', ops[k]? = some o ∧ o.guard = none ∧ DS P o (ev τ) (H ++ H₀) v (H' ++ H₀) ∧ TW P ops H₀ (k + 1) (put τ o.dst v) H' r K
def Vz (fl : List Nat) (base : List Ez) : Bool := fl.all fun j => match base.getD j .skip with | .val _ => true | _ => false
def VK (ops : Array Oper) (e : Nat) (fl : List Nat) : Bool := (List.range ops.size).all fun i => Nat.blt i e || (List.range i).all fun j => (Nat.blt j e && fl.contains j) || LP ops j i
theorem Lr {ops : Array Oper} {e : Nat} {fl : List Nat} (h : VK ops e fl = true) {i j : Nat} (hi : e ≤ i) (hs : i < ops.size) (hj : j < i) (hf : ¬ (j < e ∧ j ∈ fl)) : Pred ops j i := by
 have := List.all_eq_true.1 h i (by simpa using hs)
 simp only [Bool.or_eq_true] at this
 rcases this with h1 | h1
 ·rw [Nat.blt_eq] at h1; omega
 ·have h2 := List.all_eq_true.1 h1 j (by simpa using hj)
  simp only [Bool.or_eq_true, Bool.and_eq_true, Nat.blt_eq] at h2
  rcases h2 with h2 | h2
  ·exact absurd ⟨h2.1, by simpa using h2.2⟩ hf
  ·exact Dy h2
theorem EV.facts4 {P : Program} {ops : Array Oper} {H₀ : List BL} {τ : Nat → AV} {base fb : List Ez} (hf : ∀ j, j < base.length → j < fb.length ∧ fb.getD j .skip = base.getD j .skip) (β : Nat → BV) : ∀ (r : List Ez) (k : Nat) (τk : Nat → AV) (K : (Nat → AV) → List BL → Prop), base.drop k = r → k + r.length = base.length → τk = τS ops (Fl β 0 fb) τ k → EV P ops H₀ k τk r K → (∀ j, k ≤ j → j < base.length → (base.getD j .skip).ok (β j)) →
  (∀ j, k ≤ j → j < base.length → ∃ o, ops[j]? = some o ∧ SA P ops H₀ o (τS ops (Fl β 0 fb) τ j) (base.getD j .skip)) ∧ K (τS ops (Fl β 0 fb) τ base.length) (Uw β k r)
 | [], k, τk, K, hd, hk, ht, h, hβ => by
  simp only [List.length_nil, Nat.add_zero] at hk
  subst hk
  exact ⟨fun j h1 h2 => by omega, by rw [← ht]; exact h⟩
 | e :: r, k, τk, K, hd, hk, ht, h, hβ => by
  obtain ⟨o, ho, hok, hn⟩ := h
  simp only [List.length_cons] at hk
  have hb : base.getD k .skip = e := by
   have : (base.drop k)[0]? = some e := by rw [hd]; rfl
   rw [List.getElem?_drop] at this
   rw [List.getD_eq_getElem?_getD, show k = k + 0 by omega, this]; rfl
  have hd2 : base.drop (k + 1) = r := by
   rw [← List.drop_drop, hd]; rfl
  obtain ⟨f1, f2⟩ := hf k Am
  obtain ⟨h1, h2⟩ := EV.facts4 (τ := τ) (base := base) hf β r (k + 1) _ _ hd2 Am (by simp only [τS, ho, Option.bind_some]; rw [FA β f1, f2, hb, ← ht]) (hn (β k) (by have := hβ k (Nat.le_refl _) Am; rwa [hb] at this)) (fun j h1 h2 => hβ j Am h2)
  refine ⟨fun j hj hl => ?_, h2⟩
  by_cases e2 : j = k
  ·subst e2; exact ⟨o, ho, by rw [hb, ← ht]; exact hok⟩
  ·exact h1 j Am hl
theorem TW.facts {P : Program} {ops : Array Oper} {H₀ : List BL} {τ : Nat → AV} {fb : List Ez} (β : Nat → BV) : ∀ (r : List AV) (k : Nat) (τk : Nat → AV) (H : List BL) (K : (Nat → AV) → List BL → Prop), (∀ m, m < r.length → k + m < fb.length ∧ fb.getD (k + m) .skip = .val (r.getD m (.p .any))) → τk = τS ops (Fl β 0 fb) τ k → TW P ops H₀ k τk H r K →
  ∃ Hm : Nat → List BL, Hm k = H ∧ (∀ j, k ≤ j → j < k + r.length → ∃ o, ops[j]? = some o ∧ o.guard = none ∧ DS P o (ev (τS ops (Fl β 0 fb) τ j)) (Hm j ++ H₀) ((fb.getD j .skip).v (β j)) (Hm (j + 1) ++ H₀)) ∧ K (τS ops (Fl β 0 fb) τ (k + r.length)) (Hm (k + r.length))
 | [], k, τk, H, K, hf, ht, h => ⟨fun _ => H, rfl, fun j h1 h2 => by simp at h2; omega, by simp only [List.length_nil, Nat.add_zero]; rw [← ht]; exact h⟩
 | v :: r, k, τk, H, K, hf, ht, h => by
  obtain ⟨o, H', ho, hg, hop, hn⟩ := h
  obtain ⟨f1, f2⟩ := hf 0 An
  simp only [Nat.add_zero, List.getD_cons_zero] at f1 f2
  obtain ⟨Hm, h1, h2, h3⟩ := TW.facts (τ := τ) (fb := fb) β r (k + 1) _ H' K (fun m hm => by have := hf (m + 1) (by simpa using hm); rw [show k + (m + 1) = k + 1 + m by omega] at this; simpa using this) (by simp only [τS, ho, Option.bind_some]; rw [FA β f1, f2, ← ht]; rfl) hn
  refine ⟨fun j => if j = k then H else Hm j, by simp, fun j hj hl => ?_, ?_⟩
  ·by_cases e : j = k
   ·subst e
    refine ⟨o, ho, hg, ?_⟩
    rw [f2, ← ht]
    show DS P o (ev τk) ((if j = j then H else Hm j) ++ H₀) v ((if j + 1 = j then H else Hm (j + 1)) ++ H₀)
    rw [if_pos rfl, if_neg Am, h1]
    exact hop
   ·show ∃ o, ops[j]? = some o ∧ o.guard = none ∧ DS P o _ ((if j = k then H else Hm j) ++ H₀) _ ((if j + 1 = k then H else Hm (j + 1)) ++ H₀)
    rw [if_neg e, if_neg Am]
    exact h2 j Am (by simp only [List.length_cons] at hl; omega)
  ·show K _ (if k + (v :: r).length = k then H else Hm (k + (v :: r).length))
   simp only [List.length_cons]
   rw [if_neg Am, show k + (r.length + 1) = k + 1 + r.length by omega]
   exact h3
theorem R6 {β : Nat → BV} {l : Nat → Bool} : ∀ (r : List Ez) (k : Nat), (∀ j, j < r.length → l (k + j) = true ∨ ∃ v, r.getD j .skip = .val v) → Ol β l k r = Uw β k r
 | [], k, h => rfl
 | e :: r, k, h => by
  simp only [Ol, Uw]
  rw [R6 r (k + 1) fun j hj => by have := h (j + 1) (by simpa using hj); rw [show k + (j + 1) = k + 1 + j by omega] at this; simpa using this]
  rcases h 0 An with h1 | ⟨v, h1⟩
  ·rw [Nat.add_zero] at h1; rw [if_pos h1]
  ·simp only [List.getD_cons_zero] at h1
   subst h1
   split <;> rfl
theorem T6 {P : Program} {r : Option Nat} {ops : Array Oper} {id n : Nat} {τ : Nat → AV} {H : List BL} {D : List Di} {Q : Ck → Bq → Prop} (base : List Ez) (tl : List AV) (fl : List Nat) (hm : P.follows .mixedOrders = true)
  (he : base.length + tl.length = ops.size) (chk : MC ops n [] = true) (late : VK ops base.length fl = true) (hfl : Vz fl base = true) (hne : Tl base)
  (h : EV P ops H 0 τ base (fun τ' Hs => TW P ops H base.length τ' Hs tl (fun τ'' Bs => Q .normal ⟨n, τ'', Bs ++ H, D⟩))) : Hj P r (.region id ops true) ⟨n, τ, H, D⟩ Q := by
 intro F₀ a₀ w₀ hs₀
 refine wpIn_region_any hm ?_
 have same : C2 F₀ w₀ F₀ { w₀ with drawn := w₀.drawn + 1 } := ⟨Nat.le_refl _, fun _ _ _ => rfl, fun _ h _ => h⟩
 have t₀ : Trans F₀ H w₀ F₀ H { w₀ with drawn := w₀.drawn + 1 } :=
  ⟨Nat.le_refl _, fun _ _ _ => rfl, fun _ h _ => h, fun _ h => .inl h, fun o ho b hb => .inl ⟨o, ho, hb⟩, rfl, rfl, rfl⟩
 have hs₁ : DB F₀ ⟨n, τ, H, D⟩ a₀ { w₀ with drawn := w₀.drawn + 1 } :=
  ⟨hs₀.size, fun t => CF.mono same _ _ (hs₀.tmp t), hs₀.heap.stable' same (fun _ h => h) (fun _ _ _ _ => rfl) hs₀.heap.bd, Eb.mono same _ _ hs₀.defs⟩
 obtain ⟨hdst, c0, c1, c2, _⟩ := I6 chk
 obtain ⟨fb, hfb⟩ : ∃ fb, fb = base ++ tl.map Ez.val := ⟨_, rfl⟩
 have hfl1 : fb.length = ops.size := by rw [hfb]; simp; omega
 have hf1 : ∀ j, j < base.length → j < fb.length ∧ fb.getD j .skip = base.getD j .skip := fun j hj => ⟨by omega, by
  rw [hfb, List.getD_eq_getElem?_getD, List.getD_eq_getElem?_getD, List.getElem?_append_left hj]⟩
 have hf2 : ∀ m, m < tl.length → base.length + m < fb.length ∧ fb.getD (base.length + m) .skip = .val (tl.getD m (.p .any)) := fun m hm => ⟨by omega, by
  rw [hfb, List.getD_eq_getElem?_getD, List.getElem?_append_right Am, Nat.add_sub_cancel_left, List.getElem?_map, List.getElem?_eq_getElem hm]
  simp [List.getElem?_eq_getElem hm]⟩
 have hd : ∀ β, LO P ops n (fun _ => False) τ H (Fl β 0 fb) := fun β =>
  ⟨hdst, fun _ _ _ h => h.elim, c0, c1, c2, fun i k _ _ h _ => (by rw [Q2] at h; cases h), fun i e ob v _ _ _ h _ _ => absurd h (O5 β fb 0 i ob v)⟩
 have flv : ∀ j, j ∈ fl → ∃ v, base.getD j .skip = .val v := fun j hj => by
  have := List.all_eq_true.1 hfl j hj
  cases hq : base.getD j .skip with
  | val v => exact ⟨v, rfl⟩
  | _ => simp only [hq] at this; cases this
 have hE : ∀ β, (∀ j, j < base.length → (base.getD j .skip).ok (β j)) → (∀ j, j < base.length → ∃ o, ops[j]? = some o ∧ SA P ops H o (τS ops (Fl β 0 fb) τ j) (base.getD j .skip)) ∧
   ∃ Hm : Nat → List BL, Hm base.length = Uw β 0 base ∧ (∀ j, base.length ≤ j → j < ops.size → ∃ o, ops[j]? = some o ∧ o.guard = none ∧ DS P o (ev (τS ops (Fl β 0 fb) τ j)) (Hm j ++ H) ((fb.getD j .skip).v (β j)) (Hm (j + 1) ++ H)) ∧ Q .normal ⟨n, τS ops (Fl β 0 fb) τ ops.size, Hm ops.size ++ H, D⟩ := fun β hβ => by
  obtain ⟨h1, h2⟩ := EV.facts4 (base := base) (fb := fb) hf1 β base 0 τ _ An An rfl h (fun j _ h => hβ j h)
  obtain ⟨Hm, g1, g2, g3⟩ := TW.facts (fb := fb) β tl base.length _ _ _ hf2 rfl h2
  rw [he] at g2 g3
  exact ⟨fun j hj => h1 j (Nat.zero_le _) hj, Hm, g1, g2, g3⟩
 obtain ⟨I, hI0⟩ : ∃ I : Array Bool → Act → World → Prop, I = fun l a w => l.size = ops.size ∧ ∃ β τ' F Hb, (∀ j, j < base.length → (base.getD j .skip).ok (β j)) ∧ Down ops (fun i => l.getD i false = true) ∧ El ops (Fl β 0 fb) τ (fun i => l.getD i false = true) τ' ∧ DB F ⟨n, τ', Hb ++ H, D⟩ a w ∧ Trans F₀ H w₀ F (Hb ++ H) w ∧
  (((∀ k, base.length ≤ k → l.getD k false = false) ∧ Hb.Perm (Ol β (fun k => l.getD k false) 0 base)) ∨
   (∃ (m : Nat) (Hm : Nat → List BL), (∀ j, base.length ≤ j → j < ops.size → ∃ o, ops[j]? = some o ∧ o.guard = none ∧ DS P o (ev (τS ops (Fl β 0 fb) τ j)) (Hm j ++ H) ((fb.getD j .skip).v (β j)) (Hm (j + 1) ++ H)) ∧ Q .normal ⟨n, τS ops (Fl β 0 fb) τ ops.size, Hm ops.size ++ H, D⟩ ∧ base.length ≤ m ∧ m ≤ ops.size ∧ (∀ k, base.length ≤ k → (l.getD k false = true ↔ k < m)) ∧ (∀ k, k < base.length → k ∉ fl → l.getD k false = true) ∧ Hb = Hm m)) := ⟨_, rfl⟩
 refine I9 (I := I) (fun l a w h => by rw [hI0] at h; exact h.1) ?_ ?_ _ _ _ _ ?_ ?_
 ·intro l a w hI i hi
  rw [hI0] at hI
  obtain ⟨hsz, β, τ', F, Hb, hβ, hdown, hτ, hs, ht, hI⟩ := hI
  obtain ⟨hun, o, ho, hall⟩ := mem_ready.1 hi
  have hlt : i < ops.size := by
   rcases Nat.lt_or_ge i ops.size with h | h
   ·exact h
   ·simp [Array.getElem?_eq_none h] at ho
  have hil : i < l.size := by omega
  have hnot : l.getD i false = false := by
   have : l[i] = false := by simpa [hil] using hun
   simp [hil, this]
  have hr : ∀ j ∈ Dm o, l.getD j false = true := by
   intro j hj
   simp only [Dm, List.mem_map, List.mem_filter] at hj
   obtain ⟨e, ⟨he, hb⟩, rfl⟩ := hj
   exact hall e (by simpa using he) hb
  have hset : ∀ k, (l.setIfInBounds i true).getD k false = true ↔ (l.getD k false = true ∨ k = i) := by
   intro k
   by_cases hk : k = i
   ·subst hk; simp [hil]
   ·simp [Array.getElem?_setIfInBounds_ne (Ne.symm hk), hk]
  have hset2 : ∀ k, (l.setIfInBounds i true).getD k false = (l.getD k false || k == i) := by
   intro k
   by_cases hk : k = i
   ·subst hk; simp [hil]
   ·simp [Array.getElem?_setIfInBounds_ne (Ne.symm hk), hk]
  have hsz' : (l.setIfInBounds i true).size = ops.size := by simp [hsz]
  have hdown' : Down ops (fun k => (l.setIfInBounds i true).getD k false = true) := by
   intro k o' j ho' hk hj
   rcases (hset k).1 hk with h | h
   ·exact (hset j).2 (.inl (hdown k o' j ho' h hj))
   ·subst h; rw [ho] at ho'; injection ho' with ho'; subst ho'; exact (hset j).2 (.inl (hr j hj))
  have hlook : ∀ t ∈ looks ops o, τ' t = τS ops (Fl β 0 fb) τ i t := fun t ht => JK (hd β) hdown hτ ho (by rw [hnot]; decide) hr ht
  have hops : ∀ x ∈ o.op.operands.toList, ev τ' x = ev (τS ops (Fl β 0 fb) τ i) x := by
   intro x hx
   cases x with
   | tmp t => exact hlook t (List.mem_append_left _ (List.mem_filterMap.2 ⟨.tmp t, hx, rfl⟩))
   | _ => rfl
  have hguard : ∀ j want d, o.guard = some (j, want) → (ops[j]?).bind (·.dst) = some d → τ' d = τS ops (Fl β 0 fb) τ i d := by
   intro j want d hg hj
   refine hlook d (List.mem_append_right _ ?_)
   simp [hg, hj]
  have hpred : ∀ {a}, Pred ops a i → l.getD a false = true := by
   have : ∀ {a b}, Pred ops a b → b = i → l.getD a false = true := by
    intro a b hab
    induction hab with
    | base ho' hj => intro e; subst e; rw [ho] at ho'; injection ho' with ho'; subst ho'; exact hr _ hj
    | trans p1 _ _ ih2 => intro e; exact hdown.pred p1 (ih2 e)
   exact fun {a} h => this h Ao
  have wants : C4 ops ⟨0, τS ops (Fl β 0 fb) τ i, [], []⟩ o → C4 ops ⟨n, τ', Hb ++ H, D⟩ o := by
   intro h
   unfold C4 at *
   cases hg : o.guard with
   | none => simp [hg]
   | some jw =>
    obtain ⟨j, want⟩ := jw
    simp only [hg] at h ⊢
    obtain ⟨d, h1, h2⟩ := h
    exact ⟨d, h1, by rw [← h2]; exact hguard j want d hg h1⟩
  -- one operation
  have exec : ∀ {Hx : List BL} {C : AV → List BL → Prop}, DB F ⟨n, τ', Hx, D⟩ a w → C4 ops ⟨n, τ', Hx, D⟩ o → C6 P o (ev (τS ops (Fl β 0 fb) τ i)) Hx (fun r H' => match r with | .val v => C v H' | .panic _ => False) → (∀ v H' a' w' F', C v H' → DB F' ⟨n, put τ' o.dst v, H', D⟩ a' w' → Trans F Hx w F' H' w' → I (l.setIfInBounds i true) a' w') → wpOpIn (W r) 0 P ops (post F₀ H w₀ Q) i (fun a' w' => I (l.setIfInBounds i true) a' w') a w := by
   intro Hx C hs hwant hop close
   unfold wpOpIn
   simp only [ho, Gp hs hwant, if_true]
   have hw := hop r F _ a w hs rfl (fun x hx => hops x hx) (fun t ht => hdst i o t ho ht)
   unfold Oper.wpIn at *
   refine ⟨hw.1, ?_⟩
   replace hw := hw.2
   generalize (o.semAt (W r).round a.eval).run P w = rr at *
   cases rr with
   | ok nx w' =>
    cases nx <;> simp only [Oper.uponIn] at hw ⊢
    case value u => obtain ⟨v', H'', F', h1, h3, h4⟩ := hw; exact close _ _ _ _ _ h1 h3 h4
    case skip => obtain ⟨v', H'', F', h1, h3, h4⟩ := hw; exact close _ _ _ _ _ h1 h3 h4
    case defer d => obtain ⟨v', H'', F', h1, h3, h4⟩ := hw; exact close _ _ _ _ _ h1 h3 h4
    case enter f args =>
     refine ⟨hw.1, hw.2.mono fun e w'' he => ?_⟩
     cases e with
     | returned u => obtain ⟨v', H'', F', h1, h3, h4⟩ := he; exact close _ _ _ _ _ h1 h3 h4
     | panicked c => obtain ⟨_, _, _, _, h, _⟩ := he; exact h.elim
     | outgrown => obtain ⟨_, _, _, _, _, _, h, _⟩ := he; exact h.elim
    case row row args => exact ⟨hw.1, hw.2.mono fun u w'' h => by obtain ⟨v', H'', F', h1, h3, h4⟩ := h; exact close _ _ _ _ _ h1 h3 h4⟩
    case round l' f tmps assign body =>
     refine ⟨hw.1, hw.2.mono fun e w'' he => ?_⟩
     cases e with
     | returned u => obtain ⟨v', H'', F', h1, h3, h4⟩ := he; exact close _ _ _ _ _ h1 h3 h4
     | panicked c => obtain ⟨_, _, _, _, h, _⟩ := he; exact h.elim
     | outgrown => obtain ⟨_, _, _, _, _, _, h, _⟩ := he; exact h.elim
   | halt x w' =>
    cases x <;> simp only [Oper.uponIn] at hw ⊢
    case panic u => obtain ⟨_, _, _, _, h, _⟩ := hw; exact h.elim
  have hτput : ∀ {v : AV}, v = ((Fl β 0 fb).getD i .skip).val → El ops (Fl β 0 fb) τ (fun k => (l.setIfInBounds i true).getD k false = true) (put τ' o.dst v) := by
   intro v hv
   have hτ3 := hτ.put (hd β) ho
   rw [← hv] at hτ3
   intro t
   exact ⟨fun k o' a1 a2 a3 => (hτ3 t).1 k o' a1 a2 ((hset k).1 a3), fun hn => (hτ3 t).2 fun k o' a1 a2 a3 => hn k o' a1 a2 ((hset k).2 a3)⟩
  -- a tail operation
  have goTail : ∀ Hm : Nat → List BL, (∀ j, base.length ≤ j → j < ops.size → ∃ o, ops[j]? = some o ∧ o.guard = none ∧ DS P o (ev (τS ops (Fl β 0 fb) τ j)) (Hm j ++ H) ((fb.getD j .skip).v (β j)) (Hm (j + 1) ++ H)) → Q .normal ⟨n, τS ops (Fl β 0 fb) τ ops.size, Hm ops.size ++ H, D⟩ → base.length ≤ i → (∀ k, base.length ≤ k → (l.getD k false = true ↔ k < i)) → (∀ k, k < base.length → k ∉ fl → l.getD k false = true) → DB F ⟨n, τ', Hm i ++ H, D⟩ a w → Trans F₀ H w₀ F (Hm i ++ H) w → wpOpIn (W r) 0 P ops (post F₀ H w₀ Q) i (fun a' w' => I (l.setIfInBounds i true) a' w') a w := by
   intro Hm g2 g3 hbi hk1 hk2 hs ht
   obtain ⟨o', ho', hg, hop⟩ := g2 i hbi hlt
   rw [ho] at ho'; injection ho' with ho'; subst ho'
   refine exec (C := fun v H' => v = (fb.getD i .skip).v (β i) ∧ H' = Hm (i + 1) ++ H) hs (by unfold C4; rw [hg]; trivial) (C6.mono hop (by
    intro r H' hR
    cases r with
    | val v' => exact hR
    | panic v' => exact hR.elim)) ?_
   rintro v H' a' w' F' ⟨hv, rfl⟩ h3 h4
   rw [hI0]
   refine ⟨hsz', β, _, F', Hm (i + 1), hβ, hdown', hτput (by rw [hv, FA β Am]), h3, ht.trans hs₀.heap.bd h4, .inr ⟨i + 1, Hm, g2, g3, by omega, by omega, fun k hk => ?_, fun k h1 h2 => (hset k).2 (.inl (hk2 k h1 h2)), rfl⟩⟩
   rw [hset k, hk1 k hk]; omega
  rcases hI with ⟨hno, hp⟩ | ⟨m, Hm, g2, g3, hm1, hm2, hk1, hk2, rfl⟩
  ·rcases Nat.lt_or_ge i base.length with hib | hib
   ·-- of the first part
    obtain ⟨o', ho', hok⟩ := (hE β hβ).1 i hib
    rw [ho] at ho'; injection ho' with ho'; subst ho'
    have hno' : ∀ k, base.length ≤ k → (l.setIfInBounds i true).getD k false = false := by
     intro k hk
     rw [hset2 k, hno k hk]
     simp; omega
    generalize hbe : base.getD i .skip = e at hok
    have close : ∀ {a' w' F' b H'}, e.ok b → H' = e.box b ++ (Hb ++ H) → DB F' ⟨n, put τ' o.dst (e.v b), H', D⟩ a' w' → Trans F (Hb ++ H) w F' H' w' → I (l.setIfInBounds i true) a' w' := by
     intro a' w' F' b H' hb0 hH h3 h4
     subst hH
     rw [hI0]
     have hspn : ∀ k, k < fb.length → ((Fl (fun j => if j = i then b else β j) 0 fb).getD k .skip).val = (fb.getD k .skip).v (if k = i then b else β k) := fun k hk => FA _ hk
     refine ⟨hsz', fun j => if j = i then b else β j, put τ' o.dst (e.v b), F', e.box b ++ Hb, (fun j hj => by
      by_cases e3 : j = i
      ·subst e3; simp only [if_true]; rw [hbe]; exact hb0
      ·simp only [if_neg e3]; exact hβ j hj), hdown', ?_, by rw [List.append_assoc]; exact h3, by rw [List.append_assoc]; exact ht.trans hs₀.heap.bd h4, .inl ⟨hno', ?_⟩⟩
     ·have hτ2 : El ops (Fl (fun j => if j = i then b else β j) 0 fb) τ (fun k => l.getD k false = true) τ' := by
       intro t
       refine ⟨fun k o' a1 a2 a3 => ?_, (hτ t).2⟩
       have a4 : l.getD k false = true := a3
       have hki : k ≠ i := fun e => by subst e; rw [hnot] at a4; cases a4
       rw [(hτ t).1 k o' a1 a2 a3]
       rcases Nat.lt_or_ge k fb.length with hk | hk
       ·rw [FA _ hk, FA _ hk, if_neg hki]
       ·rw [Lb _ hk, Lb _ hk]
      have hτ3 := hτ2.put (hd _) ho
      rw [FA _ Am, if_pos rfl, (hf1 i hib).2, hbe] at hτ3
      intro t
      exact ⟨fun k o' a1 a2 a3 => (hτ3 t).1 k o' a1 a2 ((hset k).1 a3), fun hn => (hτ3 t).2 fun k o' a1 a2 a3 => hn k o' a1 a2 ((hset k).2 a3)⟩
     ·have h1 := Oi (β := β) (l := fun k => l.getD k false) (i := i) (b := b) hnot base 0 (Nat.zero_le _) Am
      rw [Nat.sub_zero, hbe] at h1
      refine (hp.append_left _).trans (h1.trans (List.Perm.of_eq ?_))
      exact I7 base 0 fun j _ => ⟨(hset2 j).symm, fun _ => Ao⟩
    have yields : C4 ops ⟨n, τ', Hb ++ H, D⟩ o → C6 P o (ev (τS ops (Fl β 0 fb) τ i)) (Hb ++ H) (fun r H' => match r with | .val v => ∃ b, e.ok b ∧ v = e.v b ∧ H' = e.box b ++ (Hb ++ H) | .panic _ => False) → wpOpIn (W r) 0 P ops (post F₀ H w₀ Q) i (fun a' w' => I (l.setIfInBounds i true) a' w') a w := fun h1 h2 =>
     exec (C := fun v H' => ∃ b, e.ok b ∧ v = e.v b ∧ H' = e.box b ++ (Hb ++ H)) hs h1 h2 (by rintro v H' a' w' F' ⟨b, h0, rfl, h1⟩ h3 h4; exact close h0 h1 h3 h4)
    cases e with
    | val v => exact yields (wants hok.1) ((hok.2 Hb).mono (by
      intro r H' hR
      cases r with
      | val v' => obtain ⟨rfl, rfl⟩ := hR; exact ⟨(0, 0, .p .any), trivial, rfl, rfl⟩
      | panic v' => exact hR.elim))
    | new cs =>
     refine yields (by unfold C4; rw [hok.1]; trivial) ((hok.2 _).mono ?_)
     intro r H' hR
     cases r with
     | val v' => obtain ⟨b, rfl, rfl⟩ := hR; exact ⟨(b, 0, .p .any), trivial, rfl, rfl⟩
     | panic v' => exact hR.elim
    | newv sz rows =>
     refine yields (by unfold C4; rw [hok.1]; trivial) ((hok.2 _).mono ?_)
     intro r H' hR
     cases r with
     | val v' => obtain ⟨b, c, rfl, rfl⟩ := hR; exact ⟨(b, c, .p .any), trivial, rfl, rfl⟩
     | panic v' => exact hR.elim
    | rel R =>
     refine yields (by unfold C4; rw [hok.1]; trivial) ((hok.2 _).mono ?_)
     intro r H' hR
     cases r with
     | val v' => obtain ⟨h1, rfl⟩ := hR; exact ⟨(0, 0, v'), h1, rfl, rfl⟩
     | panic v' => exact hR.elim
    | skip =>
     obtain ⟨j, want, d, hg, hj, hb⟩ := hok
     have hw : Region.wanted o (yielded ops a.tmps) = false := Ib (S := ⟨n, τ', Hb ++ H, D⟩) hs hg hj (by show Tp (τ' d) want; rw [hguard j want d hg hj]; exact hb)
     unfold wpOpIn
     simp only [ho, hw, Bool.false_eq_true, if_false]
     refine ⟨fun _ _ => trivial, close (b := (0, 0, .p .any)) trivial Ao ?_ .refl⟩
     exact hs.put (fun t ht => hdst i o t ho ht) ⟨Nat.le_refl _, fun _ _ _ => Ao, fun _ h _ => h⟩ hs.heap (by simp only [Ez.v, CF, Bu, undef]; exact ⟨[], rfl, rfl⟩)
   ·-- the first of the rest
    have hpre : ∀ j, j < i → ¬ (j < base.length ∧ j ∈ fl) → l.getD j false = true := fun j hj hf => hpred (Lr late hib hlt hj hf)
    have hie : i = base.length := by
     rcases Nat.lt_or_ge base.length i with h | h
     ·have h1 := hpre base.length h (fun h => Nat.lt_irrefl _ h.1)
      rw [hno base.length (Nat.le_refl _)] at h1
      cases h1
     ·omega
    obtain ⟨Hm, g1, g2, g3⟩ := (hE β hβ).2
    have hp2 : (Hb ++ H).Perm (Hm i ++ H) := by
     rw [hie, g1]
     refine List.Perm.append_right H (hp.trans (List.Perm.of_eq (R6 base 0 fun j hj => ?_)))
     rw [Nat.zero_add]
     by_cases hq : j ∈ fl
     ·exact .inr (flv j hq)
     ·exact .inl (hpre j Am fun h => hq h.2)
    refine goTail Hm g2 g3 hib (fun k hk => ⟨fun h => ?_, fun h => by omega⟩) (fun k h1 h2 => hpre k Am fun h => h2 h.2) ⟨hs.size, hs.tmp, hs.heap.perm hp2, hs.defs⟩ { ht with keys := fun o ho => ht.keys o (hp2.mem_iff.2 ho) }
    rw [hno k hk] at h; cases h
  ·rcases Nat.lt_or_ge i base.length with hib | hib
   ·-- a value that floats
    have hif : i ∈ fl := Classical.byContradiction fun hq => by rw [hk2 i hib hq] at hnot; cases hnot
    obtain ⟨v, hv⟩ := flv i hif
    obtain ⟨o', ho', hok⟩ := (hE β hβ).1 i hib
    rw [ho] at ho'; injection ho' with ho'; subst ho'
    rw [hv] at hok
    refine exec (C := fun v' H' => v' = v ∧ H' = Hm m ++ H) hs (wants hok.1) ((hok.2 (Hm m)).mono (by
     intro r H' hR
     cases r with
     | val v' => exact hR
     | panic v' => exact hR.elim)) ?_
    rintro v' H' a' w' F' ⟨rfl, rfl⟩ h3 h4
    rw [hI0]
    refine ⟨hsz', β, _, F', Hm m, hβ, hdown', hτput (by rw [FA β Am, (hf1 i hib).2, hv]; rfl), h3, ht.trans hs₀.heap.bd h4, .inr ⟨m, Hm, g2, g3, hm1, hm2, fun k hk => ?_, fun k h1 h2 => (hset k).2 (.inl (hk2 k h1 h2)), Ao⟩⟩
    rw [hset k, hk1 k hk]
    exact ⟨fun h => h.resolve_right Am, .inl⟩
   ·have him : i = m := by
     rcases Nat.lt_trichotomy i m with h | h | h
     ·rw [(hk1 i hib).2 h] at hnot; cases hnot
     ·exact h
     ·have := hpred (Lr late (by omega : base.length ≤ i) hlt h (fun h => by omega))
      have := (hk1 m hm1).1 this
      omega
    subst him
    exact goTail Hm g2 g3 hib hk1 hk2 hs ht
 ·intro l a w hI hr
  rw [hI0] at hI
  obtain ⟨hsz, β, τ', F, Hb, hβ, hdown, hτ, hs, ht, hI⟩ := hI
  have hall : ∀ i, i < ops.size → l.getD i false = true := by
   intro i
   induction i using Nat.strongRecOn with
   | _ i ih =>
    intro hi
    cases hq : l.getD i false with
    | true => rfl
    | false =>
     have ho : ops[i]? = some ops[i] := Array.getElem?_eq_getElem hi
     have : i ∈ Region.ready .any ops l := by
      refine mem_ready.2 ⟨?_, ops[i], ho, ?_⟩
      ·have : i < l.size := by omega
       simp [this] at hq ⊢; exact hq
      ·intro e he hb
       have hj : e.on ∈ Dm ops[i] := by
        simp only [Dm, List.mem_map, List.mem_filter]
        exact ⟨e, ⟨by simpa using he, hb⟩, rfl⟩
       have hlt := c0 i _ _ ho hj
       exact ih e.on hlt Am
     rw [hr] at this
     cases this
  have hτe : τ' = τS ops (Fl β 0 fb) τ ops.size := by
   funext t
   have h2 := JD (hd β) ops.size (Nat.le_refl _) t
   by_cases hw : ∃ (k : Nat) (o' : Oper), ops[k]? = some o' ∧ o'.dst = some t
   ·obtain ⟨k, o', ho', hk⟩ := hw
    have hlt : k < ops.size := by
     rcases Nat.lt_or_ge k ops.size with h | h
     ·exact h
     ·simp [Array.getElem?_eq_none h] at ho'
    rw [(hτ t).1 k o' ho' hk (hall k hlt), h2.1 k o' ho' hk hlt]
   ·rw [(hτ t).2 fun k o' h1 h2 _ => hw ⟨k, o', h1, h2⟩, h2.2 fun k o' h1 h2 _ => hw ⟨k, o', h1, h2⟩]
  have fin : ∀ Hx : List BL, (Hb ++ H).Perm (Hx ++ H) → Q .normal ⟨n, τS ops (Fl β 0 fb) τ ops.size, Hx ++ H, D⟩ → post F₀ H w₀ Q .normal a w := fun Hx hp hq =>
   ⟨.normal, _, F, hq, rfl, ⟨by exact hs.size, by rw [← hτe]; exact hs.tmp, hs.heap.perm hp, hs.defs⟩, { ht with keys := fun o ho => ht.keys o (hp.mem_iff.2 ho) }⟩
  rcases hI with ⟨hno, hp⟩ | ⟨m, Hm, g2, g3, hm1, hm2, hk1, hk2, rfl⟩
  ·have hbs : base.length = ops.size := by
    rcases Nat.lt_or_ge base.length ops.size with h | h
    ·have := hall base.length h; rw [hno base.length (Nat.le_refl _)] at this; cases this
    ·omega
   obtain ⟨Hm, g1, g2, g3⟩ := (hE β hβ).2
   refine fin (Hm ops.size) ?_ g3
   rw [← hbs, g1]
   exact List.Perm.append_right H (hp.trans (List.Perm.of_eq (OR base 0 fun j _ hj => hall j Am)))
  ·have hms : m = ops.size := by
    rcases Nat.lt_or_ge m ops.size with h | h
    ·have := (hk1 m hm1).1 (hall m h); omega
    ·omega
   subst hms
   exact fin _ (List.Perm.refl _) g3
 ·obtain ⟨β0, hβ0⟩ := Tl.pick base hne
  rw [hI0]
  refine ⟨by simp, β0, τ, F₀, [], hβ0, ?_, ?_, hs₁, t₀, .inl ⟨?_, ?_⟩⟩
  ·intro i o j ho hi
   by_cases h : i < ops.size <;> simp [h] at hi
  ·intro t
   refine ⟨fun k o ho hk hl => ?_, fun _ => Ao⟩
   by_cases h : k < ops.size <;> simp [h] at hl
  ·intro k _
   by_cases h : k < ops.size <;> simp [h]
  ·rw [Mk base 0 fun j => by by_cases h : j < ops.size <;> simp [h]]
 ·have := List.length_filter_le (fun b : Bool => !b) (Array.replicate ops.size false).toList
  simp at this ⊢
section
variable {P : Program} {ops : Array Oper} {H₀ : List BL} {k : Nat} {τ : Nat → AV} {r : List AV} {K : (Nat → AV) → List BL → Prop} {dst : Option Tmp} {op : Op} {ty : TypeId} {pos : String} {aft : Array Edge} {v : AV} {H : List BL}
theorem OQ (H' : List BL) (ho : ops[k]? = some ⟨dst, op, ty, pos, aft, none⟩) (h : DS P ⟨dst, op, ty, pos, aft, none⟩ (ev τ) (H ++ H₀) v (H' ++ H₀)) (next : TW P ops H₀ (k + 1) (put τ dst v) H' r K) : TW P ops H₀ k τ H (v :: r) K :=
 ⟨_, H', ho, rfl, h, next⟩
theorem WN (h : K τ H) : TW P ops H₀ k τ H [] K := h
end
end Go.Abs
namespace Go.Proofs.YtapmjpihennhaaaGreatDoor
open Go.Abs Go.Eu
theorem Mh (a b : List Int) (h1 : a.length < Dp) (h2 : a = b) : G5 Tryz.prog 30 [.p (.lst (List.map Ca a)), .p (.lst (List.map Ca b))] (.p (.bool true)) := by
 have := SV a b h1
 rwa [Dl h2] at this
set_option maxHeartbeats 2000000 in
theorem KC : ∀ (GL : List (Nat × Obj)) (hG : Gh GL), Bl Tryz.prog 11 [] [.glob GL] (DG (.p (.bool true)) [.glob GL]) := by
 intro GL hG
 obtain ⟨e0, he0⟩ : ∃ e, e = ((.mk 0 4 ⟨#[]⟩ [] []) : Tm) := ⟨_, rfl⟩
 obtain ⟨e1, he1⟩ : ∃ e, e = ((.mk 0 2 ⟨#[]⟩ [] []) : Tm) := ⟨_, rfl⟩
 have hx0 : ([(.mk 0 4 ⟨#[]⟩ [] []), (.mk 0 2 ⟨#[]⟩ [] [])] : List Tm)[0]? = some e0 := by rw [he0]; rfl
 have hx1 : ([(.mk 0 4 ⟨#[]⟩ [] []), (.mk 0 2 ⟨#[]⟩ [] [])] : List Tm)[1]? = some e1 := by rw [he1]; rfl
 refine A3 Tryz.func11 Ao ZE (n := 126) Ao Ao ?_
 refine As ?_
 refine Aq ?_
 refine Ap Ao Ao (At Ao) ?_
 refine Au Ao ?_
 refine As ?_
 refine Aq ?_
 refine Ap Ao Ao (Bf Ao Ao (V2 ) Ao) ?_
 refine BH Ao Ao (BG Vu Ao) fun b1 => ?_
 refine Ap Ao Ao (A1 (i := 0) FE Ao Ao Ao Ao Ao (Uu _)) ?_
 refine Au Ao ?_
 refine As ?_
 refine Aq ?_
 refine Ap Ao Ao (Bf Ao Ao (Uq 4) Ao) ?_
 refine Ap Ao Ao (Bf Ao Ao (Uq 2) Ao) ?_
 refine Ap Ao Ao (C0 Ao Ao (Jx ⟨#[122, 101, 114, 111]⟩ [] AJ) (aw (we Ao) (aw (Cc Ao) (Ci)))) ?_
 refine BH Ao Ao (BG B0 Ao) fun b2 => ?_
 refine BH Ao Ao (BG B0 Ao) fun b3 => ?_
 refine BH Ao Ao (BG B0 Ao) fun b4 => ?_
 refine Ap Ao Ao (A1 (i := 2) BI Ao Ao Ao Af AX (B3 _)) ?_
 refine Ap Ao Ao (A1 (i := 1) BI Ao Ao Ao Af AX (B3 _)) ?_
 refine Ap Ao Ao (A1 (i := 0) BI Ao Ao Ao Af AX (B3 _)) ?_
 refine Au Ao ?_
 refine As ?_
 refine CJ (fun k => false) Dq ?_
 refine BK (j := 3) rfl rfl rfl (fun H i hi => Aw (i := i) FE rfl hi rfl) (by repeat' first | exact trivial | refine And.intro ?_ ?_ | ((refine Or.inr (And.intro ?_ ?_) <;> repeat (first | exact List.Mem.head _ | apply List.Mem.tail)); done) | exact Or.inl Ai) trivial ?_
 refine BK (j := 2) rfl rfl rfl (fun H i hi => Aw (i := i) BI rfl hi Af) (by repeat' first | exact trivial | refine And.intro ?_ ?_ | ((refine Or.inr (And.intro ?_ ?_) <;> repeat (first | exact List.Mem.head _ | apply List.Mem.tail)); done) | exact Or.inl Ai) trivial ?_
 refine BK (j := 1) rfl rfl rfl (fun H i hi => Aw (i := i) BI rfl hi Af) (by repeat' first | exact trivial | refine And.intro ?_ ?_ | ((refine Or.inr (And.intro ?_ ?_) <;> repeat (first | exact List.Mem.head _ | apply List.Mem.tail)); done) | exact Or.inl Ai) trivial ?_
 refine Ay Ao Ao (fun _ => Bf Ao Ao (L6 (.mk 0 2 ⟨#[]⟩ [] [])) Ao) trivial ?_
 refine Ay Ao Ao (fun _ => Bf Ao Ao (IT (.mk 0 4 ⟨#[]⟩ [] []) (BP ⟨#[110, 101, 103]⟩ [(.mk 0 2 ⟨#[]⟩ [] [])])) Ao) trivial ?_
 refine BK (j := 2) rfl rfl rfl (fun H i hi => Aw (i := i) BI rfl hi Af) (by repeat' first | exact trivial | refine And.intro ?_ ?_ | ((refine Or.inr (And.intro ?_ ?_) <;> repeat (first | exact List.Mem.head _ | apply List.Mem.tail)); done) | exact Or.inl Ai) trivial ?_
 refine Ay Ao Ao (fun _ => Bf Ao Ao (IT (BP ⟨#[97, 100, 100]⟩ [(.mk 0 4 ⟨#[]⟩ [] []), (BP ⟨#[110, 101, 103]⟩ [(.mk 0 2 ⟨#[]⟩ [] [])])]) (.mk 0 4 ⟨#[]⟩ [] [])) Ao) trivial ?_
 refine B1 [4] rfl rfl rfl (.inl ⟨rfl, rfl, rfl⟩) (Qp GL hG (BF.mk ⟨#[90]⟩ ⟨#[97, 100, 100]⟩ ⟨#[122, 101, 114, 111]⟩ ⟨#[110, 101, 103]⟩ ⟨#[111, 110, 101]⟩ ⟨#[108, 101, 113]⟩ [⟨#[108, 48]⟩, ⟨#[108, 49]⟩, ⟨#[108, 50]⟩, ⟨#[108, 51]⟩, ⟨#[108, 52]⟩, ⟨#[108, 53]⟩, ⟨#[108, 54]⟩, ⟨#[108, 55]⟩, ⟨#[108, 56]⟩, ⟨#[108, 57]⟩, ⟨#[108, 49, 48]⟩, ⟨#[108, 49, 49]⟩, ⟨#[108, 49, 50]⟩, ⟨#[108, 49, 51]⟩]) (BP ⟨#[97, 100, 100]⟩ [(BP ⟨#[97, 100, 100]⟩ [(.mk 0 4 ⟨#[]⟩ [] []), (BP ⟨#[110, 101, 103]⟩ [(.mk 0 2 ⟨#[]⟩ [] [])])]), (.mk 0 4 ⟨#[]⟩ [] [])]) [2, -1] ([(.mk 0 4 ⟨#[]⟩ [] []), (.mk 0 2 ⟨#[]⟩ [] [])]) 0 W5 Xl V4) ⟨_, _, rfl, rfl, rfl⟩ (Ce _) (aw (we rfl) (aw (we rfl) (Ci))) (by repeat' first | exact trivial | refine And.intro ?_ ?_ | ((refine Or.inr (And.intro ?_ ?_) <;> repeat (first | exact List.Mem.head _ | apply List.Mem.tail)); done) | exact Or.inl Ai) trivial ?_
 refine Ay Ao Ao (fun _ => Ar Ao) trivial ?_
 refine Ay Ao Ao (fun _ => BY Ao Ao) trivial ?_
 refine Ay Ao Ao (fun _ => BY Ao Ao) trivial ?_
 refine Ay Ao Ao (fun _ => BY Ao Ao) trivial ?_
 refine Ay Ao Ao (fun _ => At Ao) trivial ?_
 refine Ay Ao Ao (fun _ => At Ao) trivial ?_
 refine Ay Ao Ao (fun _ => At Ao) trivial ?_
 refine CA Ao Ai ?_
 refine As ?_
 refine CJ (fun k => false) Dq ?_
 refine BK (j := 3) rfl rfl rfl (fun H i hi => Aw (i := i) FE rfl hi rfl) (by repeat' first | exact trivial | refine And.intro ?_ ?_ | ((refine Or.inr (And.intro ?_ ?_) <;> repeat (first | exact List.Mem.head _ | apply List.Mem.tail)); done) | exact Or.inl Ai) trivial ?_
 refine BK (j := 2) rfl rfl rfl (fun H i hi => Aw (i := i) BI rfl hi Af) (by repeat' first | exact trivial | refine And.intro ?_ ?_ | ((refine Or.inr (And.intro ?_ ?_) <;> repeat (first | exact List.Mem.head _ | apply List.Mem.tail)); done) | exact Or.inl Ai) trivial ?_
 refine BK (j := 2) rfl rfl rfl (fun H i hi => Aw (i := i) BI rfl hi Af) (by repeat' first | exact trivial | refine And.intro ?_ ?_ | ((refine Or.inr (And.intro ?_ ?_) <;> repeat (first | exact List.Mem.head _ | apply List.Mem.tail)); done) | exact Or.inl Ai) trivial ?_
 refine Ay Ao Ao (fun _ => Bf Ao Ao (L6 (.mk 0 4 ⟨#[]⟩ [] [])) Ao) trivial ?_
 refine Ay Ao Ao (fun _ => Bf Ao Ao (IT (.mk 0 4 ⟨#[]⟩ [] []) (BP ⟨#[110, 101, 103]⟩ [(.mk 0 4 ⟨#[]⟩ [] [])])) Ao) trivial ?_
 refine B1 [4] rfl rfl rfl (.inl ⟨rfl, rfl, rfl⟩) (Qp GL hG (BF.mk ⟨#[90]⟩ ⟨#[97, 100, 100]⟩ ⟨#[122, 101, 114, 111]⟩ ⟨#[110, 101, 103]⟩ ⟨#[111, 110, 101]⟩ ⟨#[108, 101, 113]⟩ [⟨#[108, 48]⟩, ⟨#[108, 49]⟩, ⟨#[108, 50]⟩, ⟨#[108, 51]⟩, ⟨#[108, 52]⟩, ⟨#[108, 53]⟩, ⟨#[108, 54]⟩, ⟨#[108, 55]⟩, ⟨#[108, 56]⟩, ⟨#[108, 57]⟩, ⟨#[108, 49, 48]⟩, ⟨#[108, 49, 49]⟩, ⟨#[108, 49, 50]⟩, ⟨#[108, 49, 51]⟩]) (BP ⟨#[97, 100, 100]⟩ [(.mk 0 4 ⟨#[]⟩ [] []), (BP ⟨#[110, 101, 103]⟩ [(.mk 0 4 ⟨#[]⟩ [] [])])]) [0] ([(.mk 0 4 ⟨#[]⟩ [] [])]) 0 W3 Wv WB) ⟨_, _, rfl, rfl, rfl⟩ (Ce _) (aw (we rfl) (aw (we rfl) (Ci))) (by repeat' first | exact trivial | refine And.intro ?_ ?_ | ((refine Or.inr (And.intro ?_ ?_) <;> repeat (first | exact List.Mem.head _ | apply List.Mem.tail)); done) | exact Or.inl Ai) trivial ?_
 refine Ay Ao Ao (fun _ => Ar Ao) trivial ?_
 refine Ay Ao Ao (fun _ => BY Ao Ao) trivial ?_
 refine Ay Ao Ao (fun _ => BY Ao Ao) trivial ?_
 refine Ay Ao Ao (fun _ => BY Ao Ao) trivial ?_
 refine Ay Ao Ao (fun _ => At Ao) trivial ?_
 refine Ay Ao Ao (fun _ => At Ao) trivial ?_
 refine Ay Ao Ao (fun _ => At Ao) trivial ?_
 refine CA Ao Ai ?_
 refine As ?_
 refine Aq ?_
 refine Ap Ao Ao (Aw (i := 3) FE Ao Ao Ao) ?_
 refine Ap Ao Ao (Ar Ao) ?_
 refine Ap Ao Ao (Ar Ao) ?_
 refine Ap Ao Ao (Bf Ao Ao (J2 (BF.mk ⟨#[90]⟩ ⟨#[97, 100, 100]⟩ ⟨#[122, 101, 114, 111]⟩ ⟨#[110, 101, 103]⟩ ⟨#[111, 110, 101]⟩ ⟨#[108, 101, 113]⟩ [⟨#[108, 48]⟩, ⟨#[108, 49]⟩, ⟨#[108, 50]⟩, ⟨#[108, 51]⟩, ⟨#[108, 52]⟩, ⟨#[108, 53]⟩, ⟨#[108, 54]⟩, ⟨#[108, 55]⟩, ⟨#[108, 56]⟩, ⟨#[108, 57]⟩, ⟨#[108, 49, 48]⟩, ⟨#[108, 49, 49]⟩, ⟨#[108, 49, 50]⟩, ⟨#[108, 49, 51]⟩]) [2, -1] ([(.mk 0 4 ⟨#[]⟩ [] []), (.mk 0 2 ⟨#[]⟩ [] [])]) Al) Ao) ?_
 refine BH Ao Ao (BG B0 Ao) fun b11 => ?_
 refine Ap Ao Ao (A1 (i := 0) BI Ao Ao Ao Af AX (B3 _)) ?_
 refine Au Ao ?_
 refine As ?_
 refine T6 [.rel (fun v => ∃ ds : List Jp, v = .p (.lst (List.map DL ds)) ∧ ds.map Jp.name = [⟨#[69, 113]⟩, ⟨#[69, 113, 46, 114, 101, 102, 108]⟩, ⟨#[69, 113, 46, 115, 121, 109, 109]⟩, ⟨#[69, 113, 46, 116, 114, 97, 110, 115]⟩, ⟨#[69, 113, 46, 99, 111, 110, 103, 114]⟩, ⟨#[90]⟩, ⟨#[97, 100, 100]⟩, ⟨#[122, 101, 114, 111]⟩, ⟨#[110, 101, 103]⟩, ⟨#[111, 110, 101]⟩, ⟨#[108, 48]⟩, ⟨#[108, 49]⟩, ⟨#[108, 50]⟩, ⟨#[108, 51]⟩, ⟨#[108, 52]⟩, ⟨#[108, 53]⟩, ⟨#[108, 54]⟩] ∧ ∀ d ∈ ds, d.kind = 0), .val (.agg ((Ef (BF.mk ⟨#[90]⟩ ⟨#[97, 100, 100]⟩ ⟨#[122, 101, 114, 111]⟩ ⟨#[110, 101, 103]⟩ ⟨#[111, 110, 101]⟩ ⟨#[108, 101, 113]⟩ [⟨#[108, 48]⟩, ⟨#[108, 49]⟩, ⟨#[108, 50]⟩, ⟨#[108, 51]⟩, ⟨#[108, 52]⟩, ⟨#[108, 53]⟩, ⟨#[108, 54]⟩, ⟨#[108, 55]⟩, ⟨#[108, 56]⟩, ⟨#[108, 57]⟩, ⟨#[108, 49, 48]⟩, ⟨#[108, 49, 49]⟩, ⟨#[108, 49, 50]⟩, ⟨#[108, 49, 51]⟩])).map .p)), .val (.agg ((Ba (.mk 0 4 ⟨#[]⟩ [] [])).map .p)), .val (.agg ((Ba (BP ⟨#[122, 101, 114, 111]⟩ [])).map .p)), .val (.agg ((Ba (BP ⟨#[97, 100, 100]⟩ [(.mk 0 4 ⟨#[]⟩ [] []), (BP ⟨#[122, 101, 114, 111]⟩ [])])).map .p)), .val (.agg ((Ba (BP ⟨#[110, 101, 103]⟩ [(BP ⟨#[97, 100, 100]⟩ [(.mk 0 4 ⟨#[]⟩ [] []), (BP ⟨#[122, 101, 114, 111]⟩ [])])])).map .p)), .val (.agg ((Ba (BP ⟨#[110, 101, 103]⟩ [(BP ⟨#[110, 101, 103]⟩ [(BP ⟨#[97, 100, 100]⟩ [(.mk 0 4 ⟨#[]⟩ [] []), (BP ⟨#[122, 101, 114, 111]⟩ [])])])])).map .p)), .val (.tup [.agg ((Ba (Gd (BF.mk ⟨#[90]⟩ ⟨#[97, 100, 100]⟩ ⟨#[122, 101, 114, 111]⟩ ⟨#[110, 101, 103]⟩ ⟨#[111, 110, 101]⟩ ⟨#[108, 101, 113]⟩ [⟨#[108, 48]⟩, ⟨#[108, 49]⟩, ⟨#[108, 50]⟩, ⟨#[108, 51]⟩, ⟨#[108, 52]⟩, ⟨#[108, 53]⟩, ⟨#[108, 54]⟩, ⟨#[108, 55]⟩, ⟨#[108, 56]⟩, ⟨#[108, 57]⟩, ⟨#[108, 49, 48]⟩, ⟨#[108, 49, 49]⟩, ⟨#[108, 49, 50]⟩, ⟨#[108, 49, 51]⟩]) (Cq (BF.mk ⟨#[90]⟩ ⟨#[97, 100, 100]⟩ ⟨#[122, 101, 114, 111]⟩ ⟨#[110, 101, 103]⟩ ⟨#[111, 110, 101]⟩ ⟨#[108, 101, 113]⟩ [⟨#[108, 48]⟩, ⟨#[108, 49]⟩, ⟨#[108, 50]⟩, ⟨#[108, 51]⟩, ⟨#[108, 52]⟩, ⟨#[108, 53]⟩, ⟨#[108, 54]⟩, ⟨#[108, 55]⟩, ⟨#[108, 56]⟩, ⟨#[108, 57]⟩, ⟨#[108, 49, 48]⟩, ⟨#[108, 49, 49]⟩, ⟨#[108, 49, 50]⟩, ⟨#[108, 49, 51]⟩]) (BP ⟨#[110, 101, 103]⟩ [(BP ⟨#[110, 101, 103]⟩ [(BP ⟨#[97, 100, 100]⟩ [(.mk 0 4 ⟨#[]⟩ [] []), (BP ⟨#[122, 101, 114, 111]⟩ [])])])])).coefs (Cq (BF.mk ⟨#[90]⟩ ⟨#[97, 100, 100]⟩ ⟨#[122, 101, 114, 111]⟩ ⟨#[110, 101, 103]⟩ ⟨#[111, 110, 101]⟩ ⟨#[108, 101, 113]⟩ [⟨#[108, 48]⟩, ⟨#[108, 49]⟩, ⟨#[108, 50]⟩, ⟨#[108, 51]⟩, ⟨#[108, 52]⟩, ⟨#[108, 53]⟩, ⟨#[108, 54]⟩, ⟨#[108, 55]⟩, ⟨#[108, 56]⟩, ⟨#[108, 57]⟩, ⟨#[108, 49, 48]⟩, ⟨#[108, 49, 49]⟩, ⟨#[108, 49, 50]⟩, ⟨#[108, 49, 51]⟩]) (BP ⟨#[110, 101, 103]⟩ [(BP ⟨#[110, 101, 103]⟩ [(BP ⟨#[97, 100, 100]⟩ [(.mk 0 4 ⟨#[]⟩ [] []), (BP ⟨#[122, 101, 114, 111]⟩ [])])])])).atoms)).map .p), .agg ((Ba ((Bk (BF.mk ⟨#[90]⟩ ⟨#[97, 100, 100]⟩ ⟨#[122, 101, 114, 111]⟩ ⟨#[110, 101, 103]⟩ ⟨#[111, 110, 101]⟩ ⟨#[108, 101, 113]⟩ [⟨#[108, 48]⟩, ⟨#[108, 49]⟩, ⟨#[108, 50]⟩, ⟨#[108, 51]⟩, ⟨#[108, 52]⟩, ⟨#[108, 53]⟩, ⟨#[108, 54]⟩, ⟨#[108, 55]⟩, ⟨#[108, 56]⟩, ⟨#[108, 57]⟩, ⟨#[108, 49, 48]⟩, ⟨#[108, 49, 49]⟩, ⟨#[108, 49, 50]⟩, ⟨#[108, 49, 51]⟩]) (Cq (BF.mk ⟨#[90]⟩ ⟨#[97, 100, 100]⟩ ⟨#[122, 101, 114, 111]⟩ ⟨#[110, 101, 103]⟩ ⟨#[111, 110, 101]⟩ ⟨#[108, 101, 113]⟩ [⟨#[108, 48]⟩, ⟨#[108, 49]⟩, ⟨#[108, 50]⟩, ⟨#[108, 51]⟩, ⟨#[108, 52]⟩, ⟨#[108, 53]⟩, ⟨#[108, 54]⟩, ⟨#[108, 55]⟩, ⟨#[108, 56]⟩, ⟨#[108, 57]⟩, ⟨#[108, 49, 48]⟩, ⟨#[108, 49, 49]⟩, ⟨#[108, 49, 50]⟩, ⟨#[108, 49, 51]⟩]) (BP ⟨#[110, 101, 103]⟩ [(BP ⟨#[110, 101, 103]⟩ [(BP ⟨#[97, 100, 100]⟩ [(.mk 0 4 ⟨#[]⟩ [] []), (BP ⟨#[122, 101, 114, 111]⟩ [])])])])).atoms (size (BP ⟨#[110, 101, 103]⟩ [(BP ⟨#[110, 101, 103]⟩ [(BP ⟨#[97, 100, 100]⟩ [(.mk 0 4 ⟨#[]⟩ [] []), (BP ⟨#[122, 101, 114, 111]⟩ [])])])])) (BP ⟨#[110, 101, 103]⟩ [(BP ⟨#[110, 101, 103]⟩ [(BP ⟨#[97, 100, 100]⟩ [(.mk 0 4 ⟨#[]⟩ [] []), (BP ⟨#[122, 101, 114, 111]⟩ [])])])])).1.proof)).map .p), .p (I 0)]), .val (.tup [.agg ((Ba (Gd (BF.mk ⟨#[90]⟩ ⟨#[97, 100, 100]⟩ ⟨#[122, 101, 114, 111]⟩ ⟨#[110, 101, 103]⟩ ⟨#[111, 110, 101]⟩ ⟨#[108, 101, 113]⟩ [⟨#[108, 48]⟩, ⟨#[108, 49]⟩, ⟨#[108, 50]⟩, ⟨#[108, 51]⟩, ⟨#[108, 52]⟩, ⟨#[108, 53]⟩, ⟨#[108, 54]⟩, ⟨#[108, 55]⟩, ⟨#[108, 56]⟩, ⟨#[108, 57]⟩, ⟨#[108, 49, 48]⟩, ⟨#[108, 49, 49]⟩, ⟨#[108, 49, 50]⟩, ⟨#[108, 49, 51]⟩]) (Cq (BF.mk ⟨#[90]⟩ ⟨#[97, 100, 100]⟩ ⟨#[122, 101, 114, 111]⟩ ⟨#[110, 101, 103]⟩ ⟨#[111, 110, 101]⟩ ⟨#[108, 101, 113]⟩ [⟨#[108, 48]⟩, ⟨#[108, 49]⟩, ⟨#[108, 50]⟩, ⟨#[108, 51]⟩, ⟨#[108, 52]⟩, ⟨#[108, 53]⟩, ⟨#[108, 54]⟩, ⟨#[108, 55]⟩, ⟨#[108, 56]⟩, ⟨#[108, 57]⟩, ⟨#[108, 49, 48]⟩, ⟨#[108, 49, 49]⟩, ⟨#[108, 49, 50]⟩, ⟨#[108, 49, 51]⟩]) (BP ⟨#[110, 101, 103]⟩ [(BP ⟨#[110, 101, 103]⟩ [(BP ⟨#[97, 100, 100]⟩ [(.mk 0 4 ⟨#[]⟩ [] []), (BP ⟨#[122, 101, 114, 111]⟩ [])])])])).coefs (Cq (BF.mk ⟨#[90]⟩ ⟨#[97, 100, 100]⟩ ⟨#[122, 101, 114, 111]⟩ ⟨#[110, 101, 103]⟩ ⟨#[111, 110, 101]⟩ ⟨#[108, 101, 113]⟩ [⟨#[108, 48]⟩, ⟨#[108, 49]⟩, ⟨#[108, 50]⟩, ⟨#[108, 51]⟩, ⟨#[108, 52]⟩, ⟨#[108, 53]⟩, ⟨#[108, 54]⟩, ⟨#[108, 55]⟩, ⟨#[108, 56]⟩, ⟨#[108, 57]⟩, ⟨#[108, 49, 48]⟩, ⟨#[108, 49, 49]⟩, ⟨#[108, 49, 50]⟩, ⟨#[108, 49, 51]⟩]) (BP ⟨#[110, 101, 103]⟩ [(BP ⟨#[110, 101, 103]⟩ [(BP ⟨#[97, 100, 100]⟩ [(.mk 0 4 ⟨#[]⟩ [] []), (BP ⟨#[122, 101, 114, 111]⟩ [])])])])).atoms)).map .p), .agg ((Ba ((Bk (BF.mk ⟨#[90]⟩ ⟨#[97, 100, 100]⟩ ⟨#[122, 101, 114, 111]⟩ ⟨#[110, 101, 103]⟩ ⟨#[111, 110, 101]⟩ ⟨#[108, 101, 113]⟩ [⟨#[108, 48]⟩, ⟨#[108, 49]⟩, ⟨#[108, 50]⟩, ⟨#[108, 51]⟩, ⟨#[108, 52]⟩, ⟨#[108, 53]⟩, ⟨#[108, 54]⟩, ⟨#[108, 55]⟩, ⟨#[108, 56]⟩, ⟨#[108, 57]⟩, ⟨#[108, 49, 48]⟩, ⟨#[108, 49, 49]⟩, ⟨#[108, 49, 50]⟩, ⟨#[108, 49, 51]⟩]) (Cq (BF.mk ⟨#[90]⟩ ⟨#[97, 100, 100]⟩ ⟨#[122, 101, 114, 111]⟩ ⟨#[110, 101, 103]⟩ ⟨#[111, 110, 101]⟩ ⟨#[108, 101, 113]⟩ [⟨#[108, 48]⟩, ⟨#[108, 49]⟩, ⟨#[108, 50]⟩, ⟨#[108, 51]⟩, ⟨#[108, 52]⟩, ⟨#[108, 53]⟩, ⟨#[108, 54]⟩, ⟨#[108, 55]⟩, ⟨#[108, 56]⟩, ⟨#[108, 57]⟩, ⟨#[108, 49, 48]⟩, ⟨#[108, 49, 49]⟩, ⟨#[108, 49, 50]⟩, ⟨#[108, 49, 51]⟩]) (BP ⟨#[110, 101, 103]⟩ [(BP ⟨#[110, 101, 103]⟩ [(BP ⟨#[97, 100, 100]⟩ [(.mk 0 4 ⟨#[]⟩ [] []), (BP ⟨#[122, 101, 114, 111]⟩ [])])])])).atoms (size (BP ⟨#[110, 101, 103]⟩ [(BP ⟨#[110, 101, 103]⟩ [(BP ⟨#[97, 100, 100]⟩ [(.mk 0 4 ⟨#[]⟩ [] []), (BP ⟨#[122, 101, 114, 111]⟩ [])])])])) (BP ⟨#[110, 101, 103]⟩ [(BP ⟨#[110, 101, 103]⟩ [(BP ⟨#[97, 100, 100]⟩ [(.mk 0 4 ⟨#[]⟩ [] []), (BP ⟨#[122, 101, 114, 111]⟩ [])])])])).1.proof)).map .p), .p (I 0)]), .val (.agg ((Ba (Gd (BF.mk ⟨#[90]⟩ ⟨#[97, 100, 100]⟩ ⟨#[122, 101, 114, 111]⟩ ⟨#[110, 101, 103]⟩ ⟨#[111, 110, 101]⟩ ⟨#[108, 101, 113]⟩ [⟨#[108, 48]⟩, ⟨#[108, 49]⟩, ⟨#[108, 50]⟩, ⟨#[108, 51]⟩, ⟨#[108, 52]⟩, ⟨#[108, 53]⟩, ⟨#[108, 54]⟩, ⟨#[108, 55]⟩, ⟨#[108, 56]⟩, ⟨#[108, 57]⟩, ⟨#[108, 49, 48]⟩, ⟨#[108, 49, 49]⟩, ⟨#[108, 49, 50]⟩, ⟨#[108, 49, 51]⟩]) (Cq (BF.mk ⟨#[90]⟩ ⟨#[97, 100, 100]⟩ ⟨#[122, 101, 114, 111]⟩ ⟨#[110, 101, 103]⟩ ⟨#[111, 110, 101]⟩ ⟨#[108, 101, 113]⟩ [⟨#[108, 48]⟩, ⟨#[108, 49]⟩, ⟨#[108, 50]⟩, ⟨#[108, 51]⟩, ⟨#[108, 52]⟩, ⟨#[108, 53]⟩, ⟨#[108, 54]⟩, ⟨#[108, 55]⟩, ⟨#[108, 56]⟩, ⟨#[108, 57]⟩, ⟨#[108, 49, 48]⟩, ⟨#[108, 49, 49]⟩, ⟨#[108, 49, 50]⟩, ⟨#[108, 49, 51]⟩]) (BP ⟨#[110, 101, 103]⟩ [(BP ⟨#[110, 101, 103]⟩ [(BP ⟨#[97, 100, 100]⟩ [(.mk 0 4 ⟨#[]⟩ [] []), (BP ⟨#[122, 101, 114, 111]⟩ [])])])])).coefs (Cq (BF.mk ⟨#[90]⟩ ⟨#[97, 100, 100]⟩ ⟨#[122, 101, 114, 111]⟩ ⟨#[110, 101, 103]⟩ ⟨#[111, 110, 101]⟩ ⟨#[108, 101, 113]⟩ [⟨#[108, 48]⟩, ⟨#[108, 49]⟩, ⟨#[108, 50]⟩, ⟨#[108, 51]⟩, ⟨#[108, 52]⟩, ⟨#[108, 53]⟩, ⟨#[108, 54]⟩, ⟨#[108, 55]⟩, ⟨#[108, 56]⟩, ⟨#[108, 57]⟩, ⟨#[108, 49, 48]⟩, ⟨#[108, 49, 49]⟩, ⟨#[108, 49, 50]⟩, ⟨#[108, 49, 51]⟩]) (BP ⟨#[110, 101, 103]⟩ [(BP ⟨#[110, 101, 103]⟩ [(BP ⟨#[97, 100, 100]⟩ [(.mk 0 4 ⟨#[]⟩ [] []), (BP ⟨#[122, 101, 114, 111]⟩ [])])])])).atoms)).map .p)), .val (.agg ((Ba ((Bk (BF.mk ⟨#[90]⟩ ⟨#[97, 100, 100]⟩ ⟨#[122, 101, 114, 111]⟩ ⟨#[110, 101, 103]⟩ ⟨#[111, 110, 101]⟩ ⟨#[108, 101, 113]⟩ [⟨#[108, 48]⟩, ⟨#[108, 49]⟩, ⟨#[108, 50]⟩, ⟨#[108, 51]⟩, ⟨#[108, 52]⟩, ⟨#[108, 53]⟩, ⟨#[108, 54]⟩, ⟨#[108, 55]⟩, ⟨#[108, 56]⟩, ⟨#[108, 57]⟩, ⟨#[108, 49, 48]⟩, ⟨#[108, 49, 49]⟩, ⟨#[108, 49, 50]⟩, ⟨#[108, 49, 51]⟩]) (Cq (BF.mk ⟨#[90]⟩ ⟨#[97, 100, 100]⟩ ⟨#[122, 101, 114, 111]⟩ ⟨#[110, 101, 103]⟩ ⟨#[111, 110, 101]⟩ ⟨#[108, 101, 113]⟩ [⟨#[108, 48]⟩, ⟨#[108, 49]⟩, ⟨#[108, 50]⟩, ⟨#[108, 51]⟩, ⟨#[108, 52]⟩, ⟨#[108, 53]⟩, ⟨#[108, 54]⟩, ⟨#[108, 55]⟩, ⟨#[108, 56]⟩, ⟨#[108, 57]⟩, ⟨#[108, 49, 48]⟩, ⟨#[108, 49, 49]⟩, ⟨#[108, 49, 50]⟩, ⟨#[108, 49, 51]⟩]) (BP ⟨#[110, 101, 103]⟩ [(BP ⟨#[110, 101, 103]⟩ [(BP ⟨#[97, 100, 100]⟩ [(.mk 0 4 ⟨#[]⟩ [] []), (BP ⟨#[122, 101, 114, 111]⟩ [])])])])).atoms (size (BP ⟨#[110, 101, 103]⟩ [(BP ⟨#[110, 101, 103]⟩ [(BP ⟨#[97, 100, 100]⟩ [(.mk 0 4 ⟨#[]⟩ [] []), (BP ⟨#[122, 101, 114, 111]⟩ [])])])])) (BP ⟨#[110, 101, 103]⟩ [(BP ⟨#[110, 101, 103]⟩ [(BP ⟨#[97, 100, 100]⟩ [(.mk 0 4 ⟨#[]⟩ [] []), (BP ⟨#[122, 101, 114, 111]⟩ [])])])])).1.proof)).map .p)), .val (.p (I 0)), .new [.p (I 0), .p (I 0), .p (.str ⟨#[]⟩), .p (.nils), .p (.nils)], .new [.p (I 0), .p (I 0), .p (.str ⟨#[]⟩), .p (.nils), .p (.nils)]] [.p .any, .p .any, .p (I 0)] [10, 11] Dq Ao Ai Ai Ai ?_ ?_
 ·exact ⟨⟨_, ([⟨#[69, 113]⟩, ⟨#[69, 113, 46, 114, 101, 102, 108]⟩, ⟨#[69, 113, 46, 115, 121, 109, 109]⟩, ⟨#[69, 113, 46, 116, 114, 97, 110, 115]⟩, ⟨#[69, 113, 46, 99, 111, 110, 103, 114]⟩, ⟨#[90]⟩, ⟨#[97, 100, 100]⟩, ⟨#[122, 101, 114, 111]⟩, ⟨#[110, 101, 103]⟩, ⟨#[111, 110, 101]⟩, ⟨#[108, 48]⟩, ⟨#[108, 49]⟩, ⟨#[108, 50]⟩, ⟨#[108, 51]⟩, ⟨#[108, 52]⟩, ⟨#[108, 53]⟩, ⟨#[108, 54]⟩] : List ByteArray).map fun n => DN n 0 BQ, Ao, Ao, by simp [DN]⟩, trivial⟩
 refine Bd Ao (fun Bs => BR Ao Ao (WQ ) (.inl Ao)) ?_
 rintro _ ⟨ds, rfl, hgn, hgk⟩
 refine Br Ao (fun Bs => Aw (i := Bs.length + 4) FE Ao (Bn Ao) Ao) ?_
 refine Br Ao (fun Bs => Aw (i := Bs.length + 3) BI Ao (Bn Ao) Af) ?_
 refine Br Ao (fun Bs => Aw (i := Bs.length + 1) BI Ao (Bn Ao) Af) ?_
 refine Br Ao (fun Bs => Bf Ao Ao (IT (.mk 0 4 ⟨#[]⟩ [] []) (BP ⟨#[122, 101, 114, 111]⟩ [])) Ao) ?_
 refine Br Ao (fun Bs => Bf Ao Ao (L6 (BP ⟨#[97, 100, 100]⟩ [(.mk 0 4 ⟨#[]⟩ [] []), (BP ⟨#[122, 101, 114, 111]⟩ [])])) Ao) ?_
 refine Br Ao (fun Bs => Bf Ao Ao (L6 (BP ⟨#[110, 101, 103]⟩ [(BP ⟨#[97, 100, 100]⟩ [(.mk 0 4 ⟨#[]⟩ [] []), (BP ⟨#[122, 101, 114, 111]⟩ [])])])) Ao) ?_
 refine Br Ao (fun Bs => CC [5] Ao (.inl ⟨Ao, Ao, Ao⟩) (Ts GL hG ds (BF.mk ⟨#[90]⟩ ⟨#[97, 100, 100]⟩ ⟨#[122, 101, 114, 111]⟩ ⟨#[110, 101, 103]⟩ ⟨#[111, 110, 101]⟩ ⟨#[108, 101, 113]⟩ [⟨#[108, 48]⟩, ⟨#[108, 49]⟩, ⟨#[108, 50]⟩, ⟨#[108, 51]⟩, ⟨#[108, 52]⟩, ⟨#[108, 53]⟩, ⟨#[108, 54]⟩, ⟨#[108, 55]⟩, ⟨#[108, 56]⟩, ⟨#[108, 57]⟩, ⟨#[108, 49, 48]⟩, ⟨#[108, 49, 49]⟩, ⟨#[108, 49, 50]⟩, ⟨#[108, 49, 51]⟩]) (BP ⟨#[110, 101, 103]⟩ [(BP ⟨#[110, 101, 103]⟩ [(BP ⟨#[97, 100, 100]⟩ [(.mk 0 4 ⟨#[]⟩ [] []), (BP ⟨#[122, 101, 114, 111]⟩ [])])])]) (by have := congrArg List.length hgn; rw [List.length_map] at this; rw [this]; decide) hgk Ao (Zs hgn) XC Ws X7) ⟨_, _, Ao, Ao, Ao⟩ Al (aw (we Ao) (aw (we Ao) (aw (we Ao) (Ci))))) ?_
 refine Br Ao (fun Bs => Ar Ao) ?_
 refine Br Ao (fun Bs => BY Ao Ao) ?_
 refine Br Ao (fun Bs => BY Ao Ao) ?_
 refine Br Ao (fun Bs => BY Ao Ao) ?_
 refine Te Ao (fun Bs => BG B0 Ao) fun b12 => ?_
 refine Te Ao (fun Bs => BG B0 Ao) fun b13 => ?_
 refine SM ?_
 refine OQ [.box b12 ((Ba (Gd (BF.mk ⟨#[90]⟩ ⟨#[97, 100, 100]⟩ ⟨#[122, 101, 114, 111]⟩ ⟨#[110, 101, 103]⟩ ⟨#[111, 110, 101]⟩ ⟨#[108, 101, 113]⟩ [⟨#[108, 48]⟩, ⟨#[108, 49]⟩, ⟨#[108, 50]⟩, ⟨#[108, 51]⟩, ⟨#[108, 52]⟩, ⟨#[108, 53]⟩, ⟨#[108, 54]⟩, ⟨#[108, 55]⟩, ⟨#[108, 56]⟩, ⟨#[108, 57]⟩, ⟨#[108, 49, 48]⟩, ⟨#[108, 49, 49]⟩, ⟨#[108, 49, 50]⟩, ⟨#[108, 49, 51]⟩]) (Cq (BF.mk ⟨#[90]⟩ ⟨#[97, 100, 100]⟩ ⟨#[122, 101, 114, 111]⟩ ⟨#[110, 101, 103]⟩ ⟨#[111, 110, 101]⟩ ⟨#[108, 101, 113]⟩ [⟨#[108, 48]⟩, ⟨#[108, 49]⟩, ⟨#[108, 50]⟩, ⟨#[108, 51]⟩, ⟨#[108, 52]⟩, ⟨#[108, 53]⟩, ⟨#[108, 54]⟩, ⟨#[108, 55]⟩, ⟨#[108, 56]⟩, ⟨#[108, 57]⟩, ⟨#[108, 49, 48]⟩, ⟨#[108, 49, 49]⟩, ⟨#[108, 49, 50]⟩, ⟨#[108, 49, 51]⟩]) (BP ⟨#[110, 101, 103]⟩ [(BP ⟨#[110, 101, 103]⟩ [(BP ⟨#[97, 100, 100]⟩ [(.mk 0 4 ⟨#[]⟩ [] []), (BP ⟨#[122, 101, 114, 111]⟩ [])])])])).coefs (Cq (BF.mk ⟨#[90]⟩ ⟨#[97, 100, 100]⟩ ⟨#[122, 101, 114, 111]⟩ ⟨#[110, 101, 103]⟩ ⟨#[111, 110, 101]⟩ ⟨#[108, 101, 113]⟩ [⟨#[108, 48]⟩, ⟨#[108, 49]⟩, ⟨#[108, 50]⟩, ⟨#[108, 51]⟩, ⟨#[108, 52]⟩, ⟨#[108, 53]⟩, ⟨#[108, 54]⟩, ⟨#[108, 55]⟩, ⟨#[108, 56]⟩, ⟨#[108, 57]⟩, ⟨#[108, 49, 48]⟩, ⟨#[108, 49, 49]⟩, ⟨#[108, 49, 50]⟩, ⟨#[108, 49, 51]⟩]) (BP ⟨#[110, 101, 103]⟩ [(BP ⟨#[110, 101, 103]⟩ [(BP ⟨#[97, 100, 100]⟩ [(.mk 0 4 ⟨#[]⟩ [] []), (BP ⟨#[122, 101, 114, 111]⟩ [])])])])).atoms)).map .p), .box b13 [.p (I 0), .p (I 0), .p (.str ⟨#[]⟩), .p (.nils), .p (.nils)]] Ao (A1 (i := 0) BI Ao Ao Ao Af AX (B3 _)) ?_
 refine OQ [.box b12 ((Ba (Gd (BF.mk ⟨#[90]⟩ ⟨#[97, 100, 100]⟩ ⟨#[122, 101, 114, 111]⟩ ⟨#[110, 101, 103]⟩ ⟨#[111, 110, 101]⟩ ⟨#[108, 101, 113]⟩ [⟨#[108, 48]⟩, ⟨#[108, 49]⟩, ⟨#[108, 50]⟩, ⟨#[108, 51]⟩, ⟨#[108, 52]⟩, ⟨#[108, 53]⟩, ⟨#[108, 54]⟩, ⟨#[108, 55]⟩, ⟨#[108, 56]⟩, ⟨#[108, 57]⟩, ⟨#[108, 49, 48]⟩, ⟨#[108, 49, 49]⟩, ⟨#[108, 49, 50]⟩, ⟨#[108, 49, 51]⟩]) (Cq (BF.mk ⟨#[90]⟩ ⟨#[97, 100, 100]⟩ ⟨#[122, 101, 114, 111]⟩ ⟨#[110, 101, 103]⟩ ⟨#[111, 110, 101]⟩ ⟨#[108, 101, 113]⟩ [⟨#[108, 48]⟩, ⟨#[108, 49]⟩, ⟨#[108, 50]⟩, ⟨#[108, 51]⟩, ⟨#[108, 52]⟩, ⟨#[108, 53]⟩, ⟨#[108, 54]⟩, ⟨#[108, 55]⟩, ⟨#[108, 56]⟩, ⟨#[108, 57]⟩, ⟨#[108, 49, 48]⟩, ⟨#[108, 49, 49]⟩, ⟨#[108, 49, 50]⟩, ⟨#[108, 49, 51]⟩]) (BP ⟨#[110, 101, 103]⟩ [(BP ⟨#[110, 101, 103]⟩ [(BP ⟨#[97, 100, 100]⟩ [(.mk 0 4 ⟨#[]⟩ [] []), (BP ⟨#[122, 101, 114, 111]⟩ [])])])])).coefs (Cq (BF.mk ⟨#[90]⟩ ⟨#[97, 100, 100]⟩ ⟨#[122, 101, 114, 111]⟩ ⟨#[110, 101, 103]⟩ ⟨#[111, 110, 101]⟩ ⟨#[108, 101, 113]⟩ [⟨#[108, 48]⟩, ⟨#[108, 49]⟩, ⟨#[108, 50]⟩, ⟨#[108, 51]⟩, ⟨#[108, 52]⟩, ⟨#[108, 53]⟩, ⟨#[108, 54]⟩, ⟨#[108, 55]⟩, ⟨#[108, 56]⟩, ⟨#[108, 57]⟩, ⟨#[108, 49, 48]⟩, ⟨#[108, 49, 49]⟩, ⟨#[108, 49, 50]⟩, ⟨#[108, 49, 51]⟩]) (BP ⟨#[110, 101, 103]⟩ [(BP ⟨#[110, 101, 103]⟩ [(BP ⟨#[97, 100, 100]⟩ [(.mk 0 4 ⟨#[]⟩ [] []), (BP ⟨#[122, 101, 114, 111]⟩ [])])])])).atoms)).map .p), .box b13 ((Ba ((Bk (BF.mk ⟨#[90]⟩ ⟨#[97, 100, 100]⟩ ⟨#[122, 101, 114, 111]⟩ ⟨#[110, 101, 103]⟩ ⟨#[111, 110, 101]⟩ ⟨#[108, 101, 113]⟩ [⟨#[108, 48]⟩, ⟨#[108, 49]⟩, ⟨#[108, 50]⟩, ⟨#[108, 51]⟩, ⟨#[108, 52]⟩, ⟨#[108, 53]⟩, ⟨#[108, 54]⟩, ⟨#[108, 55]⟩, ⟨#[108, 56]⟩, ⟨#[108, 57]⟩, ⟨#[108, 49, 48]⟩, ⟨#[108, 49, 49]⟩, ⟨#[108, 49, 50]⟩, ⟨#[108, 49, 51]⟩]) (Cq (BF.mk ⟨#[90]⟩ ⟨#[97, 100, 100]⟩ ⟨#[122, 101, 114, 111]⟩ ⟨#[110, 101, 103]⟩ ⟨#[111, 110, 101]⟩ ⟨#[108, 101, 113]⟩ [⟨#[108, 48]⟩, ⟨#[108, 49]⟩, ⟨#[108, 50]⟩, ⟨#[108, 51]⟩, ⟨#[108, 52]⟩, ⟨#[108, 53]⟩, ⟨#[108, 54]⟩, ⟨#[108, 55]⟩, ⟨#[108, 56]⟩, ⟨#[108, 57]⟩, ⟨#[108, 49, 48]⟩, ⟨#[108, 49, 49]⟩, ⟨#[108, 49, 50]⟩, ⟨#[108, 49, 51]⟩]) (BP ⟨#[110, 101, 103]⟩ [(BP ⟨#[110, 101, 103]⟩ [(BP ⟨#[97, 100, 100]⟩ [(.mk 0 4 ⟨#[]⟩ [] []), (BP ⟨#[122, 101, 114, 111]⟩ [])])])])).atoms (size (BP ⟨#[110, 101, 103]⟩ [(BP ⟨#[110, 101, 103]⟩ [(BP ⟨#[97, 100, 100]⟩ [(.mk 0 4 ⟨#[]⟩ [] []), (BP ⟨#[122, 101, 114, 111]⟩ [])])])])) (BP ⟨#[110, 101, 103]⟩ [(BP ⟨#[110, 101, 103]⟩ [(BP ⟨#[97, 100, 100]⟩ [(.mk 0 4 ⟨#[]⟩ [] []), (BP ⟨#[122, 101, 114, 111]⟩ [])])])])).1.proof)).map .p)] Ao (A1 (i := 1) BI Ao Ao Ao Af AX (B3 _)) ?_
 refine OQ [.box b12 ((Ba (Gd (BF.mk ⟨#[90]⟩ ⟨#[97, 100, 100]⟩ ⟨#[122, 101, 114, 111]⟩ ⟨#[110, 101, 103]⟩ ⟨#[111, 110, 101]⟩ ⟨#[108, 101, 113]⟩ [⟨#[108, 48]⟩, ⟨#[108, 49]⟩, ⟨#[108, 50]⟩, ⟨#[108, 51]⟩, ⟨#[108, 52]⟩, ⟨#[108, 53]⟩, ⟨#[108, 54]⟩, ⟨#[108, 55]⟩, ⟨#[108, 56]⟩, ⟨#[108, 57]⟩, ⟨#[108, 49, 48]⟩, ⟨#[108, 49, 49]⟩, ⟨#[108, 49, 50]⟩, ⟨#[108, 49, 51]⟩]) (Cq (BF.mk ⟨#[90]⟩ ⟨#[97, 100, 100]⟩ ⟨#[122, 101, 114, 111]⟩ ⟨#[110, 101, 103]⟩ ⟨#[111, 110, 101]⟩ ⟨#[108, 101, 113]⟩ [⟨#[108, 48]⟩, ⟨#[108, 49]⟩, ⟨#[108, 50]⟩, ⟨#[108, 51]⟩, ⟨#[108, 52]⟩, ⟨#[108, 53]⟩, ⟨#[108, 54]⟩, ⟨#[108, 55]⟩, ⟨#[108, 56]⟩, ⟨#[108, 57]⟩, ⟨#[108, 49, 48]⟩, ⟨#[108, 49, 49]⟩, ⟨#[108, 49, 50]⟩, ⟨#[108, 49, 51]⟩]) (BP ⟨#[110, 101, 103]⟩ [(BP ⟨#[110, 101, 103]⟩ [(BP ⟨#[97, 100, 100]⟩ [(.mk 0 4 ⟨#[]⟩ [] []), (BP ⟨#[122, 101, 114, 111]⟩ [])])])])).coefs (Cq (BF.mk ⟨#[90]⟩ ⟨#[97, 100, 100]⟩ ⟨#[122, 101, 114, 111]⟩ ⟨#[110, 101, 103]⟩ ⟨#[111, 110, 101]⟩ ⟨#[108, 101, 113]⟩ [⟨#[108, 48]⟩, ⟨#[108, 49]⟩, ⟨#[108, 50]⟩, ⟨#[108, 51]⟩, ⟨#[108, 52]⟩, ⟨#[108, 53]⟩, ⟨#[108, 54]⟩, ⟨#[108, 55]⟩, ⟨#[108, 56]⟩, ⟨#[108, 57]⟩, ⟨#[108, 49, 48]⟩, ⟨#[108, 49, 49]⟩, ⟨#[108, 49, 50]⟩, ⟨#[108, 49, 51]⟩]) (BP ⟨#[110, 101, 103]⟩ [(BP ⟨#[110, 101, 103]⟩ [(BP ⟨#[97, 100, 100]⟩ [(.mk 0 4 ⟨#[]⟩ [] []), (BP ⟨#[122, 101, 114, 111]⟩ [])])])])).atoms)).map .p), .box b13 ((Ba ((Bk (BF.mk ⟨#[90]⟩ ⟨#[97, 100, 100]⟩ ⟨#[122, 101, 114, 111]⟩ ⟨#[110, 101, 103]⟩ ⟨#[111, 110, 101]⟩ ⟨#[108, 101, 113]⟩ [⟨#[108, 48]⟩, ⟨#[108, 49]⟩, ⟨#[108, 50]⟩, ⟨#[108, 51]⟩, ⟨#[108, 52]⟩, ⟨#[108, 53]⟩, ⟨#[108, 54]⟩, ⟨#[108, 55]⟩, ⟨#[108, 56]⟩, ⟨#[108, 57]⟩, ⟨#[108, 49, 48]⟩, ⟨#[108, 49, 49]⟩, ⟨#[108, 49, 50]⟩, ⟨#[108, 49, 51]⟩]) (Cq (BF.mk ⟨#[90]⟩ ⟨#[97, 100, 100]⟩ ⟨#[122, 101, 114, 111]⟩ ⟨#[110, 101, 103]⟩ ⟨#[111, 110, 101]⟩ ⟨#[108, 101, 113]⟩ [⟨#[108, 48]⟩, ⟨#[108, 49]⟩, ⟨#[108, 50]⟩, ⟨#[108, 51]⟩, ⟨#[108, 52]⟩, ⟨#[108, 53]⟩, ⟨#[108, 54]⟩, ⟨#[108, 55]⟩, ⟨#[108, 56]⟩, ⟨#[108, 57]⟩, ⟨#[108, 49, 48]⟩, ⟨#[108, 49, 49]⟩, ⟨#[108, 49, 50]⟩, ⟨#[108, 49, 51]⟩]) (BP ⟨#[110, 101, 103]⟩ [(BP ⟨#[110, 101, 103]⟩ [(BP ⟨#[97, 100, 100]⟩ [(.mk 0 4 ⟨#[]⟩ [] []), (BP ⟨#[122, 101, 114, 111]⟩ [])])])])).atoms (size (BP ⟨#[110, 101, 103]⟩ [(BP ⟨#[110, 101, 103]⟩ [(BP ⟨#[97, 100, 100]⟩ [(.mk 0 4 ⟨#[]⟩ [] []), (BP ⟨#[122, 101, 114, 111]⟩ [])])])])) (BP ⟨#[110, 101, 103]⟩ [(BP ⟨#[110, 101, 103]⟩ [(BP ⟨#[97, 100, 100]⟩ [(.mk 0 4 ⟨#[]⟩ [] []), (BP ⟨#[122, 101, 114, 111]⟩ [])])])])).1.proof)).map .p)] Ao (At Ao) ?_
 refine WN ?_
 refine As ?_
 refine As ?_
 refine Aq ?_
 refine Ap Ao Ao (Ar Ao) ?_
 refine Ap Ao Ao (A7 Ao Ao Ao) ?_
 refine Ap Ao Ao (Ar Ao) ?_
 refine Az Ao Ao Ao Ao (Ar Ao) ?_
 refine Az Ao Ao Ao Ao (A7 Ao Ao Ao) ?_
 refine Ap Ao Ao (A2 Ao Ao) ?_
 refine Ap Ao Ao (Ar Ao) ?_
 refine Az Ao Ao Ao Ao (Ar Ao) ?_
 refine Az Ao Ao Ao Ao (A7 Ao Ao Ao) ?_
 refine Ap Ao Ao (A2 Ao Ao) ?_
 refine Ap Ao Ao (Ar Ao) ?_
 refine Az Ao Ao Ao Ao (Ar Ao) ?_
 refine Az Ao Ao Ao Ao (Bx B4 Ao (Bt _)) ?_
 refine Az Ao Ao Ao Ao (A7 Ao Ao Ao) ?_
 refine Ap Ao Ao (A2 Ao Ao) ?_
 refine Ap Ao Ao (Ar Ao) ?_
 refine Bm 72 Ao (fun g => ?_) (fun g => ?_)
 ·(try simp only [sd, se] at g)
  refine A0 Ao Ao Ao Ao Ao ?_
  refine A0 Ao Ao Ao Ao Ao ?_
  refine A0 Ao Ao Ao Ao Ao ?_
  refine Ap Ao Ao (A2 Ao Ao) ?_
  refine Au Ao ?_
  refine A4 Ao (fun c => ?_) (fun c => by cases c)
  refine As ?_
  refine Aq ?_
  refine Ap Ao Ao (At Ao) ?_
  refine Au Ao ?_
  refine A5 ?_
  first | exact absurd g Al | exact absurd c Al
 ·(try simp only [sd, se] at g)
  refine Az Ao Ao Ao Ao (Ar Ao) ?_
  refine Az Ao Ao Ao Ao (Bx B4 Ao (Bt _)) ?_
  refine Az Ao Ao Ao Ao (A7 Ao Ao Ao) ?_
  refine Ap Ao Ao (A2 Ao Ao) ?_
  refine Au Ao ?_
  refine A4 Ao (fun c => ?_) (fun c => ?_)
  ·(try simp only [sd, se] at c)
   refine As ?_
   refine Aq ?_
   refine Ap Ao Ao (At Ao) ?_
   refine Au Ao ?_
   refine A5 ?_
   first | exact absurd g Al | exact absurd c Al
  ·(try simp only [sd, se] at c)
   refine BD ?_
   refine As ?_
   refine CJ (fun k => false) Dq ?_
   refine Ay Ao Ao (fun _ => Ar Ao) trivial ?_
   refine Ay Ao Ao (fun _ => CE E0 Tn Ao Ao Ao Ao Ao) trivial ?_
   refine Ay Ao Ao (fun _ => Bf Ao Ao (Mh [2, -1] [2, (-1)] Al Ao) Ao) trivial ?_
   refine Ay Ao Ao (fun _ => Ar Ao) trivial ?_
   refine CD Ao Ao Ao Ao (fun _ => Ar Ao) trivial ?_
   refine CD Ao Ao Ao Ao (fun _ => BJ B4 Ao Ao An (B9 hx0) (Bh _)) trivial ?_
   refine CD Ao Ao Ao Ao (fun _ => Be BI Ao (Bh _)) trivial ?_
   refine DF (i := 5) rfl rfl rfl rfl rfl (fun H i hi => Aw (i := i) BI rfl hi Af) (by repeat' first | exact trivial | refine And.intro ?_ ?_ | ((refine Or.inr (And.intro ?_ ?_) <;> repeat (first | exact List.Mem.head _ | apply List.Mem.tail)); done) | exact Or.inl Ai) trivial ?_
   refine CD Ao Ao Ao Ao (fun _ => Bf Ao Ao (JA e0 (.mk 0 4 ⟨#[]⟩ [] []) (he0 ▸ KZ.nd) he0) Ao) trivial ?_
   refine Ay Ao Ao (fun _ => A2 Ao Ao) trivial ?_
   refine Ay Ao Ao (fun _ => Ar Ao) trivial ?_
   refine CD Ao Ao Ao Ao (fun _ => Ar Ao) trivial ?_
   refine CD Ao Ao Ao Ao (fun _ => BJ B4 Ao Ao An (B9 hx1) (Bh _)) trivial ?_
   refine CD Ao Ao Ao Ao (fun _ => Be BI Ao (Bh _)) trivial ?_
   refine DF (i := 4) rfl rfl rfl rfl rfl (fun H i hi => Aw (i := i) BI rfl hi Af) (by repeat' first | exact trivial | refine And.intro ?_ ?_ | ((refine Or.inr (And.intro ?_ ?_) <;> repeat (first | exact List.Mem.head _ | apply List.Mem.tail)); done) | exact Or.inl Ai) trivial ?_
   refine CD Ao Ao Ao Ao (fun _ => Bf Ao Ao (JA e1 (.mk 0 2 ⟨#[]⟩ [] []) (he1 ▸ SY.nd) he1) Ao) trivial ?_
   refine Ay Ao Ao (fun _ => A2 Ao Ao) trivial ?_
   refine Ay Ao Ao (fun _ => Ar Ao) trivial ?_
   refine CD Ao Ao Ao Ao (fun _ => Ar Ao) trivial ?_
   refine CD Ao Ao Ao Ao (fun _ => CE E0 Tn Ao Ao Ao Ao Ao) trivial ?_
   refine CD Ao Ao Ao Ao (fun _ => Bf Ao Ao (Mh [0] [0] Al Ao) Ao) trivial ?_
   refine Ay Ao Ao (fun _ => A2 Ao Ao) trivial ?_
   refine Ay Ao Ao (fun _ => Ar Ao) trivial ?_
   refine DF (i := 2) rfl rfl rfl rfl rfl (fun H i hi => Aw (i := i) BI rfl hi Af) (by repeat' first | exact trivial | refine And.intro ?_ ?_ | ((refine Or.inr (And.intro ?_ ?_) <;> repeat (first | exact List.Mem.head _ | apply List.Mem.tail)); done) | exact Or.inl Ai) trivial ?_
   refine DF (i := 5) rfl rfl rfl rfl rfl (fun H i hi => Aw (i := i) BI rfl hi Af) (by repeat' first | exact trivial | refine And.intro ?_ ?_ | ((refine Or.inr (And.intro ?_ ?_) <;> repeat (first | exact List.Mem.head _ | apply List.Mem.tail)); done) | exact Or.inl Ai) trivial ?_
   refine DF (i := 5) rfl rfl rfl rfl rfl (fun H i hi => Aw (i := i) BI rfl hi Af) (by repeat' first | exact trivial | refine And.intro ?_ ?_ | ((refine Or.inr (And.intro ?_ ?_) <;> repeat (first | exact List.Mem.head _ | apply List.Mem.tail)); done) | exact Or.inl Ai) trivial ?_
   refine DF (i := 4) rfl rfl rfl rfl rfl (fun H i hi => Aw (i := i) BI rfl hi Af) (by repeat' first | exact trivial | refine And.intro ?_ ?_ | ((refine Or.inr (And.intro ?_ ?_) <;> repeat (first | exact List.Mem.head _ | apply List.Mem.tail)); done) | exact Or.inl Ai) trivial ?_
   refine CD Ao Ao Ao Ao (fun _ => Bf Ao Ao (L6 (.mk 0 2 ⟨#[]⟩ [] [])) Ao) trivial ?_
   refine DF (i := 3) rfl rfl rfl rfl rfl (fun H i hi => Aw (i := i) BI rfl hi Af) (by repeat' first | exact trivial | refine And.intro ?_ ?_ | ((refine Or.inr (And.intro ?_ ?_) <;> repeat (first | exact List.Mem.head _ | apply List.Mem.tail)); done) | exact Or.inl Ai) trivial ?_
   refine CD Ao Ao Ao Ao (fun _ => Bf Ao Ao (IT (BP ⟨#[110, 101, 103]⟩ [(.mk 0 2 ⟨#[]⟩ [] [])]) (BP ⟨#[122, 101, 114, 111]⟩ [])) Ao) trivial ?_
   refine CD Ao Ao Ao Ao (fun _ => Bf Ao Ao (IT (.mk 0 4 ⟨#[]⟩ [] []) (BP ⟨#[97, 100, 100]⟩ [(BP ⟨#[110, 101, 103]⟩ [(.mk 0 2 ⟨#[]⟩ [] [])]), (BP ⟨#[122, 101, 114, 111]⟩ [])])) Ao) trivial ?_
   refine CD Ao Ao Ao Ao (fun _ => Bf Ao Ao (IT (.mk 0 4 ⟨#[]⟩ [] []) (BP ⟨#[97, 100, 100]⟩ [(.mk 0 4 ⟨#[]⟩ [] []), (BP ⟨#[97, 100, 100]⟩ [(BP ⟨#[110, 101, 103]⟩ [(.mk 0 2 ⟨#[]⟩ [] [])]), (BP ⟨#[122, 101, 114, 111]⟩ [])])])) Ao) trivial ?_
   refine CD Ao Ao Ao Ao (fun _ => Bf Ao Ao (JA (Gd (BF.mk ⟨#[90]⟩ ⟨#[97, 100, 100]⟩ ⟨#[122, 101, 114, 111]⟩ ⟨#[110, 101, 103]⟩ ⟨#[111, 110, 101]⟩ ⟨#[108, 101, 113]⟩ [⟨#[108, 48]⟩, ⟨#[108, 49]⟩, ⟨#[108, 50]⟩, ⟨#[108, 51]⟩, ⟨#[108, 52]⟩, ⟨#[108, 53]⟩, ⟨#[108, 54]⟩, ⟨#[108, 55]⟩, ⟨#[108, 56]⟩, ⟨#[108, 57]⟩, ⟨#[108, 49, 48]⟩, ⟨#[108, 49, 49]⟩, ⟨#[108, 49, 50]⟩, ⟨#[108, 49, 51]⟩]) [2, -1] ([(.mk 0 4 ⟨#[]⟩ [] []), (.mk 0 2 ⟨#[]⟩ [] [])])) (BP ⟨#[97, 100, 100]⟩ [(.mk 0 4 ⟨#[]⟩ [] []), (BP ⟨#[97, 100, 100]⟩ [(.mk 0 4 ⟨#[]⟩ [] []), (BP ⟨#[97, 100, 100]⟩ [(BP ⟨#[110, 101, 103]⟩ [(.mk 0 2 ⟨#[]⟩ [] [])]), (BP ⟨#[122, 101, 114, 111]⟩ [])])])]) YB VI) Ao) trivial ?_
   refine Ay Ao Ao (fun _ => A2 Ao Ao) trivial ?_
   refine Ay Ao Ao (fun _ => Ar Ao) trivial ?_
   refine DF (i := 6) rfl rfl rfl rfl rfl (fun H i hi => Aw (i := i) FE rfl hi rfl) (by repeat' first | exact trivial | refine And.intro ?_ ?_ | ((refine Or.inr (And.intro ?_ ?_) <;> repeat (first | exact List.Mem.head _ | apply List.Mem.tail)); done) | exact Or.inl Ai) trivial ?_
   refine CD Ao Ao Ao Ao (fun _ => Ar Ao) trivial ?_
   refine CD Ao Ao Ao Ao (fun _ => Ar Ao) trivial ?_
   refine CD Ao Ao Ao Ao (fun _ => Bf Ao Ao (J2 (BF.mk ⟨#[90]⟩ ⟨#[97, 100, 100]⟩ ⟨#[122, 101, 114, 111]⟩ ⟨#[110, 101, 103]⟩ ⟨#[111, 110, 101]⟩ ⟨#[108, 101, 113]⟩ [⟨#[108, 48]⟩, ⟨#[108, 49]⟩, ⟨#[108, 50]⟩, ⟨#[108, 51]⟩, ⟨#[108, 52]⟩, ⟨#[108, 53]⟩, ⟨#[108, 54]⟩, ⟨#[108, 55]⟩, ⟨#[108, 56]⟩, ⟨#[108, 57]⟩, ⟨#[108, 49, 48]⟩, ⟨#[108, 49, 49]⟩, ⟨#[108, 49, 50]⟩, ⟨#[108, 49, 51]⟩]) [0] ([(.mk 0 4 ⟨#[]⟩ [] [])]) Al) Ao) trivial ?_
   refine DF (i := 3) rfl rfl rfl rfl rfl (fun H i hi => Aw (i := i) BI rfl hi Af) (by repeat' first | exact trivial | refine And.intro ?_ ?_ | ((refine Or.inr (And.intro ?_ ?_) <;> repeat (first | exact List.Mem.head _ | apply List.Mem.tail)); done) | exact Or.inl Ai) trivial ?_
   refine CD Ao Ao Ao Ao (fun _ => Bf Ao Ao (JA (Gd (BF.mk ⟨#[90]⟩ ⟨#[97, 100, 100]⟩ ⟨#[122, 101, 114, 111]⟩ ⟨#[110, 101, 103]⟩ ⟨#[111, 110, 101]⟩ ⟨#[108, 101, 113]⟩ [⟨#[108, 48]⟩, ⟨#[108, 49]⟩, ⟨#[108, 50]⟩, ⟨#[108, 51]⟩, ⟨#[108, 52]⟩, ⟨#[108, 53]⟩, ⟨#[108, 54]⟩, ⟨#[108, 55]⟩, ⟨#[108, 56]⟩, ⟨#[108, 57]⟩, ⟨#[108, 49, 48]⟩, ⟨#[108, 49, 49]⟩, ⟨#[108, 49, 50]⟩, ⟨#[108, 49, 51]⟩]) [0] ([(.mk 0 4 ⟨#[]⟩ [] [])])) (BP ⟨#[122, 101, 114, 111]⟩ []) Yd U2) Ao) trivial ?_
   refine Ay Ao Ao (fun _ => A2 Ao Ao) trivial ?_
   refine Ay Ao Ao (fun _ => Ar Ao) trivial ?_
   refine DF (i := 0) rfl rfl rfl rfl rfl (fun H i hi => Aw (i := i) BI rfl hi Af) (by repeat' first | exact trivial | refine And.intro ?_ ?_ | ((refine Or.inr (And.intro ?_ ?_) <;> repeat (first | exact List.Mem.head _ | apply List.Mem.tail)); done) | exact Or.inl Ai) trivial ?_
   refine DF (i := 5) rfl rfl rfl rfl rfl (fun H i hi => Aw (i := i) BI rfl hi Af) (by repeat' first | exact trivial | refine And.intro ?_ ?_ | ((refine Or.inr (And.intro ?_ ?_) <;> repeat (first | exact List.Mem.head _ | apply List.Mem.tail)); done) | exact Or.inl Ai) trivial ?_
   refine DF (i := 3) rfl rfl rfl rfl rfl (fun H i hi => Aw (i := i) BI rfl hi Af) (by repeat' first | exact trivial | refine And.intro ?_ ?_ | ((refine Or.inr (And.intro ?_ ?_) <;> repeat (first | exact List.Mem.head _ | apply List.Mem.tail)); done) | exact Or.inl Ai) trivial ?_
   refine CD Ao Ao Ao Ao (fun _ => Bf Ao Ao (IT (.mk 0 4 ⟨#[]⟩ [] []) (BP ⟨#[122, 101, 114, 111]⟩ [])) Ao) trivial ?_
   refine CD Ao Ao Ao Ao (fun _ => Bf Ao Ao (JA (Gd (BF.mk ⟨#[90]⟩ ⟨#[97, 100, 100]⟩ ⟨#[122, 101, 114, 111]⟩ ⟨#[110, 101, 103]⟩ ⟨#[111, 110, 101]⟩ ⟨#[108, 101, 113]⟩ [⟨#[108, 48]⟩, ⟨#[108, 49]⟩, ⟨#[108, 50]⟩, ⟨#[108, 51]⟩, ⟨#[108, 52]⟩, ⟨#[108, 53]⟩, ⟨#[108, 54]⟩, ⟨#[108, 55]⟩, ⟨#[108, 56]⟩, ⟨#[108, 57]⟩, ⟨#[108, 49, 48]⟩, ⟨#[108, 49, 49]⟩, ⟨#[108, 49, 50]⟩, ⟨#[108, 49, 51]⟩]) (Cq (BF.mk ⟨#[90]⟩ ⟨#[97, 100, 100]⟩ ⟨#[122, 101, 114, 111]⟩ ⟨#[110, 101, 103]⟩ ⟨#[111, 110, 101]⟩ ⟨#[108, 101, 113]⟩ [⟨#[108, 48]⟩, ⟨#[108, 49]⟩, ⟨#[108, 50]⟩, ⟨#[108, 51]⟩, ⟨#[108, 52]⟩, ⟨#[108, 53]⟩, ⟨#[108, 54]⟩, ⟨#[108, 55]⟩, ⟨#[108, 56]⟩, ⟨#[108, 57]⟩, ⟨#[108, 49, 48]⟩, ⟨#[108, 49, 49]⟩, ⟨#[108, 49, 50]⟩, ⟨#[108, 49, 51]⟩]) (BP ⟨#[110, 101, 103]⟩ [(BP ⟨#[110, 101, 103]⟩ [(BP ⟨#[97, 100, 100]⟩ [(.mk 0 4 ⟨#[]⟩ [] []), (BP ⟨#[122, 101, 114, 111]⟩ [])])])])).coefs (Cq (BF.mk ⟨#[90]⟩ ⟨#[97, 100, 100]⟩ ⟨#[122, 101, 114, 111]⟩ ⟨#[110, 101, 103]⟩ ⟨#[111, 110, 101]⟩ ⟨#[108, 101, 113]⟩ [⟨#[108, 48]⟩, ⟨#[108, 49]⟩, ⟨#[108, 50]⟩, ⟨#[108, 51]⟩, ⟨#[108, 52]⟩, ⟨#[108, 53]⟩, ⟨#[108, 54]⟩, ⟨#[108, 55]⟩, ⟨#[108, 56]⟩, ⟨#[108, 57]⟩, ⟨#[108, 49, 48]⟩, ⟨#[108, 49, 49]⟩, ⟨#[108, 49, 50]⟩, ⟨#[108, 49, 51]⟩]) (BP ⟨#[110, 101, 103]⟩ [(BP ⟨#[110, 101, 103]⟩ [(BP ⟨#[97, 100, 100]⟩ [(.mk 0 4 ⟨#[]⟩ [] []), (BP ⟨#[122, 101, 114, 111]⟩ [])])])])).atoms) (BP ⟨#[97, 100, 100]⟩ [(.mk 0 4 ⟨#[]⟩ [] []), (BP ⟨#[122, 101, 114, 111]⟩ [])]) Xq VA) Ao) trivial ?_
   refine Ay Ao Ao (fun _ => A2 Ao Ao) trivial ?_
   refine Ay Ao Ao (fun _ => At Ao) trivial ?_
   refine CA Ao Ai ?_
   refine A5 ?_
   refine ⟨Ao, _, _, ⟨_, _, Ao, Ao, Ao⟩, (Cf (is := [7]) Ao), ?_⟩
   all_goals exact ⟨rfl, rfl⟩
theorem WY : ∀ (GL : List (Nat × Obj)) (hG : Gh GL) (th : BF) (cs : List Int) (us : List Tm), (th.lemmas.length ≤ 8796093021952) → (cs.length < wide) → (TA us) → (us.length < wide) → Bl Tryz.prog 3 [.agg ((Ef th).map .p), .p (.lst (List.map Ca cs)), .p (.lst (BO us))] [.glob GL] (DG (.p (.bool true)) [.glob GL]) := by
 intro GL hG th cs us h1 h2 h3 h4
 have h2b := h2
 have h4b := h4
 simp only [wide] at h2b
 simp only [wide] at h4b
 refine A3 Tryz.func3 Ao bR (n := 38) Ao Ao ?_
 refine As ?_
 refine Aq ?_
 refine BH Ao Ao (Bb Ao) fun b3 => ?_
 refine Ap Ao Ao (At Ao) ?_
 refine Au Ao ?_
 refine As ?_
 refine As ?_
 refine CB [1, 2, 3] 24 (fun y => ∃ b : Bool, y = .p (.bool b) ∧ (b = false → ((GU th ∧ ∀ t ∈ us, Fb t ∧ size t ≤ 200) ∧ (cs.length : Int) ≤ 12))) ?_ ?_
 ·refine Aq ?_
  refine Ap Ao Ao (Aw (i := 0) FE Ao Ao Ao) ?_
  refine GY Ao Ao (BR Ao Ao (R3 th h1) (.inl Ao)) ?_
  rintro _ ⟨b, rfl, hb⟩
  refine Ap Ao Ao (Co Ao) ?_
  refine Ap Ao Ao (Ar Ao) ?_
  refine Bm 10 Ao (fun g => ?_) (fun g => ?_)
  ·(try simp only [sd, se] at g)
   refine A0 Ao Ao Ao Ao Ao ?_
   refine A0 Ao Ao Ao Ao Ao ?_
   refine A0 Ao Ao Ao Ao Ao ?_
   refine Ap Ao Ao (A2 Ao Ao) ?_
   refine Ap Ao Ao (Ar Ao) ?_
   refine A0 Ao Ao Ao Ao Ao ?_
   refine A0 Ao Ao Ao Ao Ao ?_
   refine A0 Ao Ao Ao Ao Ao ?_
   refine Ap Ao Ao (A2 Ao Ao) ?_
   refine Ap Ao Ao (Ar Ao) ?_
   refine A0 Ao Ao Ao Ao Ao ?_
   refine A0 Ao Ao Ao Ao Ao ?_
   refine A0 Ao Ao Ao Ao Ao ?_
   refine Ap Ao Ao (A2 Ao Ao) ?_
   refine Au Ao ?_
   exact ⟨Ao, Ao, AG, (by refine ⟨_, rfl, fun h => ?_⟩; first | (exact absurd h Al) | (simp_all; done) | (simp_all; omega)), ⟨Ao, Ao, Ao, trivial⟩⟩
  ·(try simp only [sd, se] at g)
   refine Az Ao Ao Ao Ao (Ar Ao) ?_
   refine Az Ao Ao Ao Ao (Bx E0 Ao (List.length_map _)) ?_
   refine Az Ao Ao Ao Ao (A7 Ao Ao Ao) ?_
   refine Ap Ao Ao (A2 Ao Ao) ?_
   refine Ap Ao Ao (Ar Ao) ?_
   refine Bm 15 Ao (fun g1 => ?_) (fun g1 => ?_)
   ·(try simp only [sd, se] at g1)
    refine A0 Ao Ao Ao Ao Ao ?_
    refine A0 Ao Ao Ao Ao Ao ?_
    refine A0 Ao Ao Ao Ao Ao ?_
    refine Ap Ao Ao (A2 Ao Ao) ?_
    refine Ap Ao Ao (Ar Ao) ?_
    refine A0 Ao Ao Ao Ao Ao ?_
    refine A0 Ao Ao Ao Ao Ao ?_
    refine A0 Ao Ao Ao Ao Ao ?_
    refine Ap Ao Ao (A2 Ao Ao) ?_
    refine Au Ao ?_
    exact ⟨Ao, Ao, AG, (by refine ⟨_, rfl, fun h => ?_⟩; first | (exact absurd h Al) | (simp_all; done) | (simp_all; omega)), ⟨Ao, Ao, Ao, trivial⟩⟩
   ·(try simp only [sd, se] at g1)
    refine Az Ao Ao Ao Ao (Ar Ao) ?_
    refine Az Ao Ao Ao Ao (Bx B4 Ao (Bt _)) ?_
    refine Az Ao Ao Ao Ao (A7 Ao Ao Ao) ?_
    refine Ap Ao Ao (A2 Ao Ao) ?_
    refine Ap Ao Ao (Ar Ao) ?_
    refine Bm 20 Ao (fun g2 => ?_) (fun g2 => ?_)
    ·(try simp only [sd, se] at g2)
     refine A0 Ao Ao Ao Ao Ao ?_
     refine A0 Ao Ao Ao Ao Ao ?_
     refine A0 Ao Ao Ao Ao Ao ?_
     refine Ap Ao Ao (A2 Ao Ao) ?_
     refine Au Ao ?_
     exact ⟨Ao, Ao, AG, (by refine ⟨_, rfl, fun h => ?_⟩; first | (exact absurd h Al) | (simp_all; done) | (simp_all; omega)), ⟨Ao, Ao, Ao, trivial⟩⟩
    ·(try simp only [sd, se] at g2)
     refine Az Ao Ao Ao Ao (Ar Ao) ?_
     refine J9 Ao Ao Ao Ao (BR Ao Ao (O7 us h3 h4) (.inl Ao)) ?_
     rintro _ ⟨b1, rfl, hb1⟩
     refine Az Ao Ao Ao Ao (Co Ao) ?_
     refine Ap Ao Ao (A2 Ao Ao) ?_
     refine Au Ao ?_
     exact ⟨Ao, Ao, AG, (by refine ⟨_, rfl, fun h => ?_⟩; first | (exact absurd h Al) | (simp_all; done) | (simp_all; omega)), ⟨Ao, Ao, Ao, trivial⟩⟩
 rintro _ ⟨q, rfl, hq⟩
 refine A4 Ao (fun c => ?_) (fun c => ?_)
 ·(try simp only [sd, se] at c)
  refine As ?_
  refine Aq ?_
  refine Ap Ao Ao (CH [1] Ao (.inl ⟨Ao, Ao, Ao⟩) (KC GL hG ) ⟨_, _, Ao, Ao, Ao⟩ Al Ao (.inl Ao)) ?_
  refine Ap Ao Ao (At Ao) ?_
  refine Au Ao ?_
  refine A5 ?_
  refine ⟨Ao, _, _, ⟨_, _, Ao, Ao, Ao⟩, (Cf (is := [1]) Ao), ?_⟩
  all_goals exact ⟨rfl, rfl⟩
 ·(try simp only [sd, se] at c)
  obtain ⟨hq1, hq2⟩ := hq (by simpa using c)
  have h2s : cs.length < Dp := by simp only [Dp]; omega
  refine BD ?_
  refine As ?_
  refine CB [] 6 (fun y => y = .p (.bool true)) ?_ ?_
  ·refine CJ (fun k => false) Dq ?_
   refine BK (j := 0) rfl rfl rfl (fun H i hi => Aw (i := i) FE rfl hi rfl) (by repeat' first | exact trivial | refine And.intro ?_ ?_ | ((refine Or.inr (And.intro ?_ ?_) <;> repeat (first | exact List.Mem.head _ | apply List.Mem.tail)); done) | exact Or.inl Ai) trivial ?_
   refine Ay Ao Ao (fun _ => Ar Ao) trivial ?_
   refine Ay Ao Ao (fun _ => Ar Ao) trivial ?_
   refine Ay Ao Ao (fun _ => Bf Ao Ao (J2 th cs us h2s) Ao) trivial ?_
   refine BK (j := 0) rfl rfl rfl (fun H i hi => Aw (i := i) FE rfl hi rfl) (by repeat' first | exact trivial | refine And.intro ?_ ?_ | ((refine Or.inr (And.intro ?_ ?_) <;> repeat (first | exact List.Mem.head _ | apply List.Mem.tail)); done) | exact Or.inl Ai) trivial ?_
   refine Ay Ao Ao (fun _ => Ar Ao) trivial ?_
   refine Ay Ao Ao (fun _ => Ar Ao) trivial ?_
   refine Ay Ao Ao (fun _ => Bf Ao Ao (Sb th cs us h2s) Ao) trivial ?_
   refine Ay rfl rfl (fun _ => Bf rfl rfl (JA (Gd th cs us) (Gd th cs us) (Tq hq1.1 fun t ht => (hq1.2 t ht).1.nd) rfl) rfl) trivial ?_
   refine Ay Ao Ao (fun _ => Ar Ao) trivial ?_
   refine Uo rfl rfl rfl rfl (CH [1] rfl (.inl ⟨rfl, rfl, rfl⟩) (KC GL hG ) ⟨_, _, rfl, rfl, rfl⟩ Al rfl (.inl rfl)) (by repeat' first | exact trivial | refine And.intro ?_ ?_ | ((refine Or.inr (And.intro ?_ ?_) <;> repeat (first | exact List.Mem.head _ | apply List.Mem.tail)); done) | exact Or.inl Ai) trivial ?_
   refine Ay Ao Ao (fun _ => A2 Ao Ao) trivial ?_
   refine Ay Ao Ao (fun _ => At Ao) trivial ?_
   refine CA Ao Ai ?_
   exact ⟨Ao, Ao, AG, (by first | rfl | (refine absurd g ?_; simp; done)), trivial⟩
  rintro _ rfl
  refine A5 ?_
  refine ⟨Ao, _, _, ⟨_, _, Ao, Ao, Ao⟩, (Cf (is := [1]) Ao), ?_⟩
  all_goals exact ⟨rfl, rfl⟩
theorem O0 {th : BF} {t : Tm} (h : Fb t) (hs : size t < 1000000) : (EP th t).1.length < 1000000 ∧ JS (EP th t).2.1 ∧ (EP th t).2.1.length < 1000000 := by
 have k := Qu th t
 have g := O3 (th := th) h hs
 have h1 := k.len
 have h2 := k.lt
 unfold EP
 split
 ·exact ⟨by simp, trivial, by simp⟩
 ·exact ⟨by show (Cq th t).coefs.length < 1000000; omega, g.nds, by show (Cq th t).atoms.length < 1000000; omega⟩
theorem TN (a b : List Tm) (h1 : JS a) (h2 : a.length < 1000000) (h3 : a = b) : G5 Tryz.prog 31 [.p (.lst (BO a)), .p (.lst (BO b))] (.p (.bool true)) := by
 have := SE a b h1 h2
 rwa [Dl h3] at this
theorem aC : ∀ (GL : List (Nat × Obj)) (hG : Gh GL) (th : BF) (t : Tm), (th.lemmas.length ≤ 8796093021952) → (Wd t) → Bl Tryz.prog 7 [.agg ((Ef th).map .p), .agg ((Ba t).map .p)] [.glob GL] (DG (.p (.bool true)) [.glob GL]) := by
 intro GL hG th t h1 h2
 refine A3 Tryz.func7 Ao bL (n := 51) Ao Ao ?_
 refine As ?_
 refine Aq ?_
 refine BH Ao Ao (Bb Ao) fun b2 => ?_
 refine BH Ao Ao (Bb Ao) fun b3 => ?_
 refine Ap Ao Ao (At Ao) ?_
 refine Au Ao ?_
 refine As ?_
 refine As ?_
 refine CB [2, 3] 19 (fun y => ∃ b : Bool, y = .p (.bool b) ∧ (b = false → Fb t ∧ size t ≤ 200)) ?_ ?_
 ·refine Aq ?_
  refine Ap Ao Ao (Aw (i := 1) FE Ao Ao Ao) ?_
  refine GY Ao Ao (BR Ao Ao (R3 th h1) (.inl Ao)) ?_
  rintro _ ⟨b, rfl, hb⟩
  refine Ap Ao Ao (Co Ao) ?_
  refine Ap Ao Ao (Ar Ao) ?_
  refine Bm 14 Ao (fun g => ?_) (fun g => ?_)
  ·(try simp only [sd, se] at g)
   refine A0 Ao Ao Ao Ao Ao ?_
   refine A0 Ao Ao Ao Ao Ao ?_
   refine A0 Ao Ao Ao Ao Ao ?_
   refine A0 Ao Ao Ao Ao Ao ?_
   refine Ap Ao Ao (A2 Ao Ao) ?_
   refine Au Ao ?_
   exact ⟨Ao, Ao, AG, (by refine ⟨_, rfl, fun h => ?_⟩; first | (exact absurd h Al) | (simp_all; done)), ⟨Ao, Ao, trivial⟩⟩
  ·(try simp only [sd, se] at g)
   refine Az Ao Ao Ao Ao (Aw (i := 0) BI Ao Ao Af) ?_
   refine Az Ao Ao Ao Ao (BN (rows := BO [t]) B4 B0 Ao Ao Ao Ao (Bv (B6 _)) (Cv _)) ?_
   refine J9 Ao Ao Ao Ao (BR Ao Ao (O7 [t] ⟨h2, trivial⟩ (by simp [wide])) (.inl Ao)) ?_
   rintro _ ⟨b1, rfl, hb1⟩
   refine Az Ao Ao Ao Ao (Co Ao) ?_
   refine Ap Ao Ao (A2 Ao Ao) ?_
   refine Au Ao ?_
   exact ⟨Ao, Ao, AG, (by refine ⟨_, rfl, fun h => ?_⟩; first | (exact absurd h Al) | (simp_all; done)), ⟨Ao, Ao, trivial⟩⟩
 rintro _ ⟨q, rfl, hq⟩
 refine A4 Ao (fun c => ?_) (fun c => ?_)
 ·(try simp only [sd, se] at c)
  refine As ?_
  refine Aq ?_
  refine Ap Ao Ao (CH [2] Ao (.inl ⟨Ao, Ao, Ao⟩) (KC GL hG ) ⟨_, _, Ao, Ao, Ao⟩ Al Ao (.inl Ao)) ?_
  refine Ap Ao Ao (At Ao) ?_
  refine Au Ao ?_
  refine A5 ?_
  refine ⟨Ao, _, _, ⟨_, _, Ao, Ao, Ao⟩, (Cf (is := [2]) Ao), ?_⟩
  all_goals exact ⟨rfl, rfl⟩
 ·(try simp only [sd, se] at c)
  have hq1 := hq (by simpa using c)
  have hff := O0 (th := th) hq1.1 (by have := hq1.2; omega)
  refine BD ?_
  refine As ?_
  refine Aq ?_
  refine Ap Ao Ao (Aw (i := 1) FE Ao Ao Ao) ?_
  refine Ap Ao Ao (Aw (i := 0) BI Ao Ao Af) ?_
  refine Ap Ao Ao (CH [2] Ao (.inl ⟨Ao, Ao, Ao⟩) (Q6 GL hG th t hq1.1 (by have := hq1.2; omega)) ⟨_, _, Ao, Ao, Ao⟩ Al Ao (.inl Ao)) ?_
  refine Ap Ao Ao (Ar Ao) ?_
  refine Ap Ao Ao (BY Ao Ao) ?_
  refine Ap Ao Ao (BY Ao Ao) ?_
  refine Ap Ao Ao (BY Ao Ao) ?_
  refine Ap Ao Ao (At Ao) ?_
  refine Ap Ao Ao (At Ao) ?_
  refine Ap Ao Ao (At Ao) ?_
  refine Au Ao ?_
  refine As ?_
  refine Aq ?_
  refine Ap Ao Ao (Aw (i := 1) FE Ao Ao Ao) ?_
  refine Ap Ao Ao (Aw (i := 0) BI Ao Ao Af) ?_
  refine Ap Ao Ao (Bf Ao Ao (Uk th t hq1.1 (by have := hq1.2; omega)) Ao) ?_
  refine Ap Ao Ao (Ar Ao) ?_
  refine Ap Ao Ao (BY Ao Ao) ?_
  refine Ap Ao Ao (BY Ao Ao) ?_
  refine Ap Ao Ao (BY Ao Ao) ?_
  refine Ap Ao Ao (At Ao) ?_
  refine Ap Ao Ao (At Ao) ?_
  refine Ap Ao Ao (At Ao) ?_
  refine Au Ao ?_
  refine As ?_
  refine CB [] 4 (fun y => y = .p (.bool true)) ?_ ?_
  ·refine Aq ?_
   refine Ap Ao Ao (Ar Ao) ?_
   refine Ap Ao Ao (Ar Ao) ?_
   refine Ap Ao Ao (A7 Ao Ao Ao) ?_
   refine Ap Ao Ao (Ar Ao) ?_
   refine Bm 38 Ao (fun g => ?_) (fun g => ?_)
   ·(try simp only [sd, se] at g)
    refine Az Ao Ao Ao Ao (Ar Ao) ?_
    refine Az Ao Ao Ao Ao (Ar Ao) ?_
    refine Az Ao Ao Ao Ao (Bf Ao Ao (Mh ((EP th t).1) ((EP th t).1) (by have := hff.1; simp only [Dp]; omega) Ao) Ao) ?_
    refine Ap Ao Ao (A2 Ao Ao) ?_
    refine Ap Ao Ao (Ar Ao) ?_
    refine Az Ao Ao Ao Ao (Ar Ao) ?_
    refine Az Ao Ao Ao Ao (Ar Ao) ?_
    refine Az Ao Ao Ao Ao (Bf Ao Ao (TN ((EP th t).2.1) ((EP th t).2.1) hff.2.1 hff.2.2 Ao) Ao) ?_
    refine Ap Ao Ao (A2 Ao Ao) ?_
    refine Ap Ao Ao (Ar Ao) ?_
    refine Az Ao Ao Ao Ao (CH [2] Ao (.inl ⟨Ao, Ao, Ao⟩) (KC GL hG ) ⟨_, _, Ao, Ao, Ao⟩ Al Ao (.inl Ao)) ?_
    refine Ap Ao Ao (A2 Ao Ao) ?_
    refine Ap Ao Ao (At Ao) ?_
    refine Au Ao ?_
    exact ⟨Ao, Ao, AG, (by first | rfl | (refine absurd g ?_; simp; done)), trivial⟩
   ·(try simp only [sd, se] at g)
    refine A0 Ao Ao Ao Ao Ao ?_
    refine A0 Ao Ao Ao Ao Ao ?_
    refine A0 Ao Ao Ao Ao Ao ?_
    refine Ap Ao Ao (A2 Ao Ao) ?_
    refine Ap Ao Ao (Ar Ao) ?_
    refine A0 Ao Ao Ao Ao Ao ?_
    refine A0 Ao Ao Ao Ao Ao ?_
    refine A0 Ao Ao Ao Ao Ao ?_
    refine Ap Ao Ao (A2 Ao Ao) ?_
    refine Ap Ao Ao (Ar Ao) ?_
    refine A0 Ao Ao Ao Ao Ao ?_
    refine Ap Ao Ao (A2 Ao Ao) ?_
    refine Ap Ao Ao (At Ao) ?_
    refine Au Ao ?_
    exact ⟨Ao, Ao, AG, (by first | rfl | (refine absurd g ?_; simp; done)), trivial⟩
  rintro _ rfl
  refine A5 ?_
  refine ⟨Ao, _, _, ⟨_, _, Ao, Ao, Ao⟩, (Cf (is := [2]) Ao), ?_⟩
  all_goals exact ⟨rfl, rfl⟩
end Go.Proofs.YtapmjpihennhaaaGreatDoor
