/- Part of the proofs: an abstract program logic, plain models and contracts of functions. -/
import Derived.Test.YtapmjpihennhaaaGreatDoorPb
import Derived.Test.YtapmjpihennhaaaGreatDoorProg
set_option linter.unusedVariables false
set_option linter.unusedSimpArgs false
namespace Go.Abs
def bP (mkv : Nat → AV) (cs : List AV) : DM → List BL → Prop
 | .val v, H' => ∃ b, v = mkv b ∧ H' = [.box b cs]
 | .panic _, _ => False
section
variable {P : Program} {ops : Array Oper} {n : Nat} {τ₀ τ : Nat → AV} {D : List Di} {Q : Ck → Bq → Prop} {opn : Nat → Bool} {k : Nat} {H : List BL} {dst : Option Tmp} {ty : TypeId} {pos : String} {aft : Array Edge} {c : Call} {f : Operand} {fid : FuncId} {first caps A : List AV} {mkv : Nat → AV} {cs : List AV}
end
def bp {α : Type} (mkv : α → AV) (mkp : Int → AV) (C : α → List BL → Prop) (x : Except Int α) : DM → List BL → Prop
 | .val v, H' => ∃ a, x = .ok a ∧ v = mkv a ∧ C a H'
 | .panic v, _ => ∃ e, x = .error e ∧ v = mkp e
theorem C6.permR {P : Program} {ρ : Operand → AV} {o : Oper} {H : List BL} {R R' : DM → List BL → Prop} (h : C6 P o ρ H R) (hp : ∀ r H1, R r H1 → ∃ H2, H1.Perm H2 ∧ R' r H2) : C6 P o ρ H R' := by
 intro r F S a w hs hH hρ hd
 have := h r F S a w hs hH hρ hd
 refine Ko this ?_ ?_
 ·rintro a' w' ⟨v', H1, F', hR, hs', ht⟩
  obtain ⟨H2, hp, hR'⟩ := hp _ _ hR
  exact ⟨v', H2, F', hR', ⟨hs'.size, hs'.tmp, hs'.heap.perm hp, hs'.defs⟩, { ht with keys := fun o ho => ht.keys o (hp.mem_iff.2 ho) }⟩
 ·rintro e a' w' ⟨v', H1, F', u, hR, h1, h2, hs', ht⟩
  obtain ⟨H2, hp, hR'⟩ := hp _ _ hR
  exact ⟨v', H2, F', u, hR', h1, h2, ⟨hs'.size, hs'.tmp, hs'.heap.perm hp, hs'.defs⟩, { ht with keys := fun o ho => ht.keys o (hp.mem_iff.2 ho) }⟩
section
variable {P : Program} {ops : Array Oper} {n : Nat} {τ₀ τ : Nat → AV} {D : List Di} {Q : Ck → Bq → Prop} {opn : Nat → Bool} {k : Nat} {T : List BL} {dst : Option Tmp} {ty : TypeId} {pos : String} {aft : Array Edge} {c : Call} {f : Operand} {fid : FuncId} {first caps A : List AV}
 {α : Type} {mkv : α → AV} {mkp : Int → AV} {C : α → List BL → Prop} {x : Except Int α}
end
section
variable {P : Program} {ops : Array Oper} {n : Nat} {τ₀ τ : Nat → AV} {D : List Di} {Q : Ck → Bq → Prop} {opn : Nat → Bool} {k : Nat} {H Hs : List BL} {dst : Option Tmp} {ty : TypeId} {pos : String} {aft : Array Edge} {c : Call} {f : Operand} {fid : FuncId} {first caps A : List AV}
 {α : Type} {mkv : α → AV} {mkp : Int → AV} {C : α → List BL → Prop} {x : Except Int α}
end
def ad (ops : Array Oper) (t : Nat) : Bool := ops.toList.all fun o => match o.dst with | some u => !(Nat.beq u t) | none => true
end Go.Abs
namespace Go.Eu
open Go.Abs
mutual
def Vp : Tm → Prop
 | .mk k i _ _ ks => (k = 0 → 0 ≤ i ∧ i < 1099511627776) ∧ Zm ks
def Zm : List Tm → Prop
 | [] => True
 | t :: ts => Vp t ∧ Zm ts
end
def Qe : Tm → Tm
 | .mk k i n l _ => .mk k i n l []
def SJ (i : Int) : Except Int Tm := if i > 65535 then .error 24 else .ok (Ra i)
def ZN (n m : Int) : Except Int Int := if wr (n + m) > 4096 then .error 5 else .ok (wr (n + m))
def bY (b fr : Int) (t : Tm) (d : Int) : Except Int Tm :=
 if t.index - d < fr then .ok (Qe t) else if b < 0 ∧ t.index - d < fr - b then .error 24 else SJ (t.index + b)
def Np {α β : Type} (f : α → β) : Except Int α → Except Int β
 | .error e => .error e
 | .ok x => .ok (f x)
def EG {α β : Type} (x : Except Int α) (f : α → Except Int β) : Except Int β :=
 match x with
 | .error e => .error e
 | .ok x => f x
def Ya (rep : Tm → Int → Except Int Tm) (s : Unit) (t : Tm) (d : Int) : Except Int ((Tm × Bool) × Unit) :=
 if t.kind = 0 then Np (fun x => ((x, true), ())) (rep t d) else .ok ((Qe t, false), ())
mutual
def MG {σ : Type} (vis : σ → Tm → Int → Except Int ((Tm × Bool) × σ)) : Tm → Int → σ → Except Int (Tm × σ)
 | .mk k i n l ks, d, s => EG (vis s (.mk k i n l ks) d) fun r =>
   if r.1.2 = true then .ok (r.1.1, r.2) else EG (Gf vis k 0 ks d r.2) fun q => .ok (Kb r.1.1 q.1, q.2)
def Gf {σ : Type} (vis : σ → Tm → Int → Except Int ((Tm × Bool) × σ)) (k : Int) : Nat → List Tm → Int → σ → Except Int (List Tm × σ)
 | _, [], _, s => .ok ([], s)
 | j, t :: ts, d, s => EG (MG vis t (d + below k j) s) fun r => EG (Gf vis k (j + 1) ts d r.2) fun q => .ok (r.1 :: q.1, q.2)
end
section
variable {σ : Type} {vis : σ → Tm → Int → Except Int ((Tm × Bool) × σ)}
def QG (vis : σ → Tm → Int → Except Int ((Tm × Bool) × σ)) (k : Int) (ts : List Tm) (d : Int) (q0 : σ) (i : Nat) (ys : List Tm) (q : σ) : Prop :=
 ys.length = i ∧ Gf vis k 0 ts d q0 = EG (Gf vis k i (ts.drop i) d q) fun r => .ok (ys ++ r.1, r.2)
theorem QG.zero (k : Int) (ts : List Tm) (d : Int) (q0 : σ) : QG vis k ts d q0 0 [] q0 := by
 refine ⟨Ao, ?_⟩
 simp only [List.drop_zero, List.nil_append]
 cases Gf vis k 0 ts d q0 <;> rfl
theorem QG.succ {k d : Int} {ts ys : List Tm} {q0 q q' : σ} {i : Nat} {x y : Tm} (h : QG vis k ts d q0 i ys q) (hx : ts[i]? = some x) (hb : MG vis x (d + below k i) q = .ok (y, q')) : QG vis k ts d q0 (i + 1) (ys ++ [y]) q' := by
 refine ⟨by simp [h.1], ?_⟩
 rw [h.2, Dc hx, Gf, hb]
 simp only [EG]
 cases Gf vis k (i + 1) (ts.drop (i + 1)) d q' <;> simp
theorem QG.fin {k d : Int} {ts ys : List Tm} {q0 q : σ} {i : Nat} (h : QG vis k ts d q0 i ys q) (hi : ts.length ≤ i) : Gf vis k 0 ts d q0 = .ok (ys, q) := by
 rw [h.2, List.drop_eq_nil_of_le hi, Gf]; simp [EG]
end
section
variable {b fr d k i : Int} {n : ByteArray} {l : List Eg} {ks : List Tm}
variable {rep : Tm → Int → Except Int Tm} {s : Unit}
end
def Vy (b fr : Int) (t : Tm) : Except Int Tm := Np Prod.fst (MG (Ya (bY b fr)) t 0 ())
def Tr (vs : List Tm) (dp ti d : Int) : Int := if 0 ≤ wr (wr (ti - d) - dp) ∧ wr (wr (ti - d) - dp) < (vs.length : Int) then wr (wr (ti - d) - dp) else -1
def aB (vs : List Tm) (sz : List Int) (dp : Int) (t : Tm) (d : Int) : Int :=
 if t.kind = 0 ∧ 0 ≤ Tr vs dp t.index d then sz.getD (Tr vs dp t.index d).toNat 0 else 1
def Y6 (vs : List Tm) (sz : List Int) (dp : Int) (n : Int) (t : Tm) (d : Int) : Except Int ((Tm × Bool) × Int) :=
 Np (fun m => ((BQ, decide (t.kind = 0)), m)) (ZN n (aB vs sz dp t d))
def Zh (vs : List Tm) (dp : Int) (t : Tm) (d : Int) : Except Int Tm :=
 if 0 ≤ Tr vs dp t.index d then Vy (wr (dp + d)) 0 (vs.getD (Tr vs dp t.index d).toNat BQ)
 else if wr (t.index - d) < dp then .ok (Qe t) else SJ (wr (t.index - vs.length))
def Wa (vs : List Tm) (dp : Int) (t : Tm) : Except Int Tm :=
 EG (MG (Y6 vs (vs.map fun v => (size v : Int)) dp) t 0 0) fun _ => Np Prod.fst (MG (Ya (Zh vs dp)) t 0 ())
def S5 (t : Tm) (vs : List Tm) (dp : Int) : Tm × Int :=
 match Wa vs dp t with
 | .error e => (BQ, e)
 | .ok x => if HG x > 200 then (BQ, 7) else (x, 0)
section
variable {vs : List Tm} {sz : List Int} {dp n d k i r m e : Int} {nm : ByteArray} {l : List Eg} {ks : List Tm}
end
theorem QU : ∀ {ts : List Tm}, (∀ t ∈ ts, Nd t) → JS ts
 | [], _ => trivial
 | t :: ts, h => ⟨h t An, QU fun x hx => h x (by simp [hx])⟩
section
variable {σ : Type} {vis : σ → Tm → Int → Except Int ((Tm × Bool) × σ)}
end
def Y2 (x : Tm × Int) : Except Int (Tm × Unit) := if x.2 = 0 then .ok (x.1, ()) else .error x.2
def Yl (x : List Tm × Int) : Except Int (List Tm × Unit) := if x.2 = 0 then .ok (x.1, ()) else .error x.2
section
variable {vs : List Tm} {d er nd k i : Int} {n : ByteArray} {l : List Eg} {ks : List Tm}
end
structure YJ (vs : List Tm) (dp : Int) : Prop where
 wt : ZD vs
 vp : Zm vs
 sz : ∀ x ∈ vs, size x < 1099511627776
 len : vs.length < 1099511627776
 lo : 0 ≤ dp
 hi : dp ≤ 65536
theorem YJ.size {vs : List Tm} {dp : Int} (V : YJ vs dp) : ∀ x ∈ vs, (size x : Int) ≤ 1099511627776 := fun x hx => by have := V.sz x hx; omega
def bE {α : Type} (x : Except Int (α × Int)) (m : Int) : Prop := (m > 4096 → x = .error 5) ∧ (m ≤ 4096 → ∃ z, x = .ok (z, m))
def bo (vs : List Tm) : List Int := vs.map fun v => (size v : Int)
structure Gm where
 dn : List (Int × Tm)
 op : List Int
 wk : Int
def Wp (i : Int) : List (Int × Tm) → Option Tm
 | [] => none
 | (j, x) :: r => if j = i then some x else Wp i r
def XL (i : Int) (v : Tm) : List (Int × Tm) → List (Int × Tm)
 | [] => [(i, v)]
 | (j, x) :: r => if j = i then (j, v) :: r else (j, x) :: XL i v r
def bq (l : List (Int × Tm)) : List (Int × AV) := l.map fun p => (p.1, TV p.2)
def W0 (x : Tm) (e : Int) : Except Int Tm := if e ≠ 0 ∨ Vw x = true then .error 11 else .ok x
def VC : Tm → List Tm → Except Int (Tm × List Tm)
 | v, [] => .ok (v, [])
 | v, a :: l => if v.kind = 5 then EG (W0 (S5 (v.kids.getD 1 BQ) [a] 0).1 (S5 (v.kids.getD 1 BQ) [a] 0).2) fun x => VC x l else .ok (v, a :: l)
def HJ (F : Gm → Tm → Except Int (Tm × Gm)) : Gm → List Tm → Except Int (List Tm × Gm)
 | st, [] => .ok ([], st)
 | st, t :: ts => EG (F st t) fun r => EG (HJ F r.2 ts) fun q => .ok (r.1 :: q.1, q.2)
def WC (F : Gm → Tm → Except Int (Tm × Gm)) (ms : List Mv) (st : Gm) (i : Int) : Except Int (Tm × Gm) :=
 match Wp i st.dn with
 | some v => .ok (v, st)
 | none => if i ∈ st.op then .error 22 else EG (F { st with op := st.op ++ [i] } (valueOf ms i)) fun r => .ok (r.1, { r.2 with dn := XL i r.1 r.2.dn })
def Xd (F : Gm → Tm → Except Int (Tm × Gm)) (ms : List Mv) (st : Gm) (h : Tm) : Except Int (Tm × Gm) :=
 if known ms h = true then WC F ms st h.index else Np (fun q => (Kb h q.1, q.2)) (HJ F st h.kids)
def Sg (ms : List Mv) : Nat → Gm → Tm → Except Int (Tm × Gm)
 | 0, st, t => .error 11
 | n + 1, st, t =>
  if st.wk + 1 > 8192000 then .error 11
  else EG (Xd (Sg ms n) ms { st with wk := st.wk + 1 } (Bo t).1) fun r =>
   EG (HJ (Sg ms n) r.2 (Bo t).2) fun q =>
   EG (if known ms (Bo t).1 = true then VC r.1 q.1 else .ok (r.1, q.1)) fun y =>
   Np (fun z => (z, q.2)) (W0 (apply y.1 y.2) 0)
structure Ok (S : Nat) (t : Tm) : Prop where
 nd : Nd t
 vp : Vp t
 wt : Wt t
 sz : size t ≤ S
structure Z6 (ms : List Mv) (st : Gm) : Prop where
 dn : ∀ p ∈ st.dn, Ok 4096 p.2
 w0 : 0 ≤ st.wk
 w1 : st.wk ≤ 8192000
abbrev br (l : List Tm) : Prop := ∀ x ∈ l, Ok 4096 x
def aP (st st' : Gm) : Prop := ∀ i, i ∈ st.op → i ∈ st'.op
def az (ms : List Mv) (B : Nat) (F : Gm → Tm → Except Int (Tm × Gm)) : Prop := ∀ st t r, Ok B t → Z6 ms st → F st t = .ok r → Ok 4096 r.1 ∧ Z6 ms r.2 ∧ aP st r.2
section
variable {F : Gm → Tm → Except Int (Tm × Gm)} {ms : List Mv} {st st' : Gm} {i e : Int} {z : Tm}
end
def QD (F : Gm → Tm → Except Int (Tm × Gm)) (ts : List Tm) (q0 : Gm) (i : Nat) (ys : List Tm) (q : Gm) : Prop :=
 ys.length = i ∧ HJ F q0 ts = EG (HJ F q (ts.drop i)) fun r => .ok (ys ++ r.1, r.2)
section
variable {F : Gm → Tm → Except Int (Tm × Gm)} {ts ys : List Tm} {q0 q q' : Gm} {i : Nat} {x y : Tm} {e : Int}
theorem QD.zero (F : Gm → Tm → Except Int (Tm × Gm)) (ts : List Tm) (q0 : Gm) : QD F ts q0 0 [] q0 := by
 refine ⟨Ao, ?_⟩
 simp only [List.drop_zero, EG]
 cases HJ F q0 ts <;> simp
theorem QD.succ (h : QD F ts q0 i ys q) (hx : ts[i]? = some x) (hb : F q x = .ok (y, q')) : QD F ts q0 (i + 1) (ys ++ [y]) q' := by
 refine ⟨by simp [h.1], ?_⟩
 rw [h.2, Dc hx, HJ, hb]
 simp only [EG]
 cases HJ F q' (ts.drop (i + 1)) <;> simp
theorem QD.fin (h : QD F ts q0 i ys q) (hi : ts.length ≤ i) : HJ F q0 ts = .ok (ys, q) := by
 rw [h.2, List.drop_eq_nil_of_le hi, HJ]; simp [EG]
end
section
variable {ms : List Mv} {n : Nat} {dn : List (Int × Tm)} {op : List Int} {wk e : Int} {t v vv z h : Tm} {us ls ks : List Tm} {st1 st2 : Gm}
end
end Go.Eu
namespace Go.Abs
def bT {β : Type} (mkv : β → AV) (mkH : β → List BL) : DM → List BL → Prop
 | .val v, H' => ∃ b, v = mkv b ∧ H' = mkH b
 | .panic _, _ => False
section
variable {P : Program} {ops : Array Oper} {n : Nat} {τ₀ τ : Nat → AV} {D : List Di} {Q : Ck → Bq → Prop} {opn : Nat → Bool} {k : Nat} {H : List BL} {dst : Option Tmp} {ty : TypeId} {pos : String} {aft : Array Edge} {c : Call} {f : Operand} {fid : FuncId} {first caps A : List AV} {β : Type} {mkv : β → AV} {mkH : β → List BL}
end
end Go.Abs
namespace Go.Eu
open Go.Abs
def Py (ms : List Mv) (n : Nat) (t : Tm) : Tm × Int :=
 match Sg ms n ⟨[], [], 0⟩ t with
 | .ok r => (r.1, 0)
 | .error e => (BQ, e)
def aj (ms : List Mv) (n : Nat) (t : Tm) : List Int × Int := if (Py ms n t).2 ≠ 0 then ([], (Py ms n t).2) else (QH [] (Py ms n t).1, 0)
mutual
def TP (p : Int → Int → ByteArray → List Eg → Prop) : Tm → Prop
 | .mk k i n l ks => p k i n l ∧ UO p ks
def UO (p : Int → Int → ByteArray → List Eg → Prop) : List Tm → Prop
 | [] => True
 | t :: ts => TP p t ∧ UO p ts
end
section
variable {p q : Int → Int → ByteArray → List Eg → Prop}
mutual
theorem TP.imp (h : ∀ k i n l, p k i n l → q k i n l) : ∀ (t : Tm), TP p t → TP q t
 | .mk k i n l ks, ht => ⟨h _ _ _ _ ht.1, UO.imp h ks ht.2⟩
theorem UO.imp (h : ∀ k i n l, p k i n l → q k i n l) : ∀ (ts : List Tm), UO p ts → UO q ts
 | [], _ => trivial
 | t :: ts, ht => ⟨TP.imp h t ht.1, UO.imp h ts ht.2⟩
end
end
def ae (ms : List Mv) (D : List Int) (k i : Int) (n : ByteArray) (l : List Eg) : Prop := known ms (.mk k i n l []) = true → i ∈ D
abbrev KM (ms : List Mv) (D : List Int) : Tm → Prop := TP (ae ms D)
abbrev Yb (ms : List Mv) (D : List Int) : List Tm → Prop := UO (ae ms D)
theorem KM.mono {ms : List Mv} {D D' : List Int} (h : ∀ i ∈ D, i ∈ D') {t : Tm} (ht : KM ms D t) : KM ms D' t := TP.imp (fun k i n l g e => h _ (g e)) t ht
theorem Yb.mono {ms : List Mv} {D D' : List Int} (h : ∀ i ∈ D, i ∈ D') {t : List Tm} (ht : Yb ms D t) : Yb ms D' t := UO.imp (fun k i n l g e => h _ (g e)) t ht
theorem KM.head {ms : List Mv} {D : List Int} {h : Tm} (hk : known ms h = true) (ht : KM ms D h) : h.index ∈ D := by
 obtain ⟨k, i, n, l, ks⟩ := h
 exact ht.1 hk
theorem KM.kids {ms : List Mv} {D : List Int} {h : Tm} (ht : KM ms D h) : Yb ms D h.kids := by
 obtain ⟨k, i, n, l, ks⟩ := h
 exact ht.2
inductive Ord (ms : List Mv) : List Int → Prop
 | nil : Ord ms []
 | snoc {D : List Int} {i : Int} : Ord ms D → i ∉ D → KM ms D (valueOf ms i) → Ord ms (D ++ [i])
theorem Ord.pre {ms : List Mv} {D : List Int} (h : Ord ms D) : ∀ i ∈ D, ∃ D', Ord ms D' ∧ (∀ j ∈ D', j ∈ D) ∧ i ∉ D' ∧ KM ms D' (valueOf ms i) := by
 induction h with
 | nil => intro i hi; simp at hi
 | @snoc D j h1 h2 h3 ih =>
  intro i hi
  rcases List.mem_append.1 hi with hi | hi
  ·obtain ⟨D', a, b, c, d⟩ := ih i hi
   exact ⟨D', a, fun j hj => List.mem_append_left _ (b j hj), c, d⟩
  ·simp at hi; subst hi
   exact ⟨D, h1, fun j hj => List.mem_append_left _ hj, h2, h3⟩
def W2 : Tm → List Tm → Tm × List Tm
 | v, [] => (v, [])
 | v, a :: l => if v.kind = 5 then W2 (OV (v.kids.getD 1 BQ) [a] 0).1 l else (v, a :: l)
section
variable {F F' : LG → Tm → Tm × Int × LG}
end
def WO (st : Gm) : List Int := st.dn.map Prod.fst
def aD (ms : List Mv) (t v : Tm) : Prop := ∃ n ab c d, Ih ms n ab c t = (v, 0, d) ∧ d.over = false
structure ZC (ms : List Mv) (ab : List Int) (st : Gm) : Prop where
 op : ∀ i, i ∈ st.op ↔ i ∈ WO st ∨ i ∈ ab
 ord : Ord ms (WO st)
 dis : ∀ i ∈ WO st, i ∉ ab
 val : ∀ p ∈ st.dn, aD ms (valueOf ms p.1) p.2
 ok : ∀ p ∈ st.dn, Ok 4096 p.2
 w0 : 0 ≤ st.wk
def pot (ms : List Mv) (B : Nat) (st : Gm) : Int := st.wk + (B * free ms st.op : Nat)
structure Step (ms : List Mv) (B : Nat) (ab : List Int) (st st' : Gm) (s : Nat) : Prop where
 inv : ZC ms ab st'
 mono : ∀ i ∈ WO st, i ∈ WO st'
 pot : pot ms B st' ≤ pot ms B st + s
theorem Step.trans {ms : List Mv} {B : Nat} {ab : List Int} {a b c : Gm} {s s' : Nat} (h : Step ms B ab a b s) (h' : Step ms B ab b c s') : Step ms B ab a c (s + s') :=
 ⟨h'.inv, fun i hi => h'.mono i (h.mono i hi), by have := h.pot; have := h'.pot; omega⟩
theorem Step.le {ms : List Mv} {B : Nat} {ab : List Int} {a b : Gm} {s s' : Nat} (h : Step ms B ab a b s) (hs : s ≤ s') : Step ms B ab a b s' := ⟨h.inv, h.mono, by have := h.pot; omega⟩
def bI (ms : List Mv) (B : Nat) (ab : List Int) (t : Tm) (s : Nat) (st : Gm) (F : Tm × Int × LG) (G : Except Int (Tm × Gm)) : Prop :=
 (F.2.1 = 0 ∧ ∃ st', G = .ok (F.1, st') ∧ Step ms B ab st st' s ∧ KM ms (WO st') t) ∨ (F.2.1 = 22 ∧ F.1 = BQ ∧ G = .error 22)
def bU (ms : List Mv) (B : Nat) (ab : List Int) (ts : List Tm) (st : Gm) (F : List Tm × Int × LG) (G : Except Int (List Tm × Gm)) : Prop :=
 (F.2.1 = 0 ∧ ∃ st', G = .ok (F.1, st') ∧ Step ms B ab st st' (By ts) ∧ Yb ms (WO st') ts) ∨ (F.2.1 = 22 ∧ G = .error 22)
def bV (m : Nat) (k i : Int) (n : ByteArray) (l : List Eg) : Prop := k = 12 → 0 ≤ i ∧ i < (m : Int)
def Yj (ms : List Mv) (k i : Int) (n : ByteArray) (l : List Eg) : Prop := (k = 12 → 0 ≤ i ∧ i < (ms.length : Int) ∧ known ms (.mk k i n l []) = false) ∧ (k = 4 → i = 0 ∧ n = ⟨#[]⟩ ∧ l = [])
def bJ (ms : List Mv) (B : Nat) (F : Gm → Tm → Except Int (Tm × Gm)) : Prop := ∀ st t r, Ok B t → Z6 ms st → TP (bV ms.length) t → (∀ p ∈ st.dn, TP (Yj ms) p.2) → F st t = .ok r → TP (Yj ms) r.1 ∧ ∀ p ∈ r.2.dn, TP (Yj ms) p.2
def a6 (ms : List Mv) (F : Gm → Tm → Except Int (Tm × Gm)) : Prop := ∀ st t, TP (Yj ms) t → F st t = .error 11 ∨ ∃ st', F st t = .ok (t, st')
def bX (F : Gm → Tm → Except Int (Tm × Gm)) : Prop := ∀ st t e, F st t = .error e → e = 11 ∨ e = 22
abbrev wide : Nat := 9223372036854775808
structure Wi (l : Eg) : Prop where
 vars : l.vars.length < wide
 c : II l.const
 v : ∀ v ∈ l.vars, II v.index ∧ II v.plus
mutual
def Wd : Tm → Prop
 | .mk k i n ls ks => n.size < wide ∧ ls.length < wide ∧ (∀ l ∈ ls, Wi l) ∧ ks.length < wide ∧ TA ks ∧ II k ∧ II i
def TA : List Tm → Prop
 | [] => True
 | t :: ts => Wd t ∧ TA ts
end
theorem Lf : ∀ {ts : List Tm} {i : Nat} {t : Tm}, TA ts → ts[i]? = some t → Wd t
 | [], i, t, _, h => by simp at h
 | a :: ts, 0, t, hn, h => by simp at h; subst h; exact hn.1
 | a :: ts, i + 1, t, hn, h => by simp at h; exact Lf hn.2 h
mutual
def Fw : Tm → Prop
 | .mk k i n ls ks => n.size ≤ 200 ∧ ls.length ≤ 20 ∧ (∀ l ∈ ls, l.vars.length ≤ 20) ∧ Pt ks
def Pt : List Tm → Prop
 | [] => True
 | t :: ts => Fw t ∧ Pt ts
end
theorem Sz : ∀ {ts : List Tm}, (∀ t ∈ ts, Fw t) → Pt ts
 | [], _ => trivial
 | t :: ts, h => ⟨h t An, Sz fun x hx => h x (by simp [hx])⟩
theorem LZ : ∀ {ts : List Tm} {t : Tm}, Pt ts → t ∈ ts → Fw t
 | [], t, _, h => by simp at h
 | a :: ts, t, hn, h => by
  rcases List.mem_cons.1 h with rfl | h
  ·exact hn.1
  ·exact LZ hn.2 h
def RR : Tm → Prop
 | .mk k i n ls ks => n.size ≤ 200 ∧ ls.length ≤ 20 ∧ (∀ l ∈ ls, l.vars.length ≤ 20) ∧ By ks ≤ 200 ∧ JS ks ∧ Pt ks
theorem Vi {t : Tm} (h : Wd t) (hf : RR t) : Nd t := by
 obtain ⟨k, i, n, ls, ks⟩ := t
 obtain ⟨h1, h2, h3, h4, h5⟩ := hf
 have := IF ks
 exact ⟨by simp only [Dp]; omega, by simp only [Dp]; omega, fun l hl => ⟨by have := h3 l hl; simp only [Dp]; omega, (h.2.2.1 l hl).c, (h.2.2.1 l hl).v⟩, by simp only [Dp]; omega, h5.1, h.2.2.2.2.2⟩
mutual
theorem Kt : ∀ (t : Tm) (most : Int), -1152921504606846976 ≤ most → most ≤ 1152921504606846976 → (size t : Int) ≤ 1152921504606846976 → 0 ≤ DZ t most ∧ DZ t most < size t ∧ (DZ t most ≤ most → DZ t most + 1 = size t)
 | .mk k i n l ks, most, h1, h2, h3 => by
  simp only [size] at h3 ⊢
  unfold DZ
  have := N2 ks most 0 h1 h2 Am Am
  exact ⟨this.1, by omega, fun h => by have := this.2.2 h; omega⟩
theorem N2 : ∀ (ts : List Tm) (most n : Int), -1152921504606846976 ≤ most → most ≤ 1152921504606846976 → 0 ≤ n → n + By ts ≤ 1152921504606846976 → n ≤ Dg ts most n ∧ Dg ts most n ≤ n + By ts ∧ (Dg ts most n ≤ most → Dg ts most n = n + By ts)
 | [], most, n, h1, h2, h3, h4 => by simp [Dg, By]
 | t :: ts, most, n, h1, h2, h3, h4 => by
  simp only [By] at h4 ⊢
  have hp := size_pos t
  unfold Dg
  by_cases hm : n > most
  ·rw [if_pos hm]; exact ⟨by omega, by omega, by omega⟩
  ·rw [if_neg hm]
   have e1 : wr (most - n) = most - n := HU ⟨by omega, by omega⟩
   have hT := Kt t (most - n) Am Am Am
   rw [e1]
   have e2 : wr (1 + DZ t (most - n)) = 1 + DZ t (most - n) := HU ⟨by omega, by omega⟩
   rw [e2]
   have e3 : wr (n + (1 + DZ t (most - n))) = n + (1 + DZ t (most - n)) := HU ⟨by omega, by omega⟩
   rw [e3]
   have hL := N2 ts most (n + (1 + DZ t (most - n))) h1 h2 Am Am
   refine ⟨by omega, by omega, fun h => ?_⟩
   have := hL.2.2 h
   have := hT.2.2 Am
   omega
end
theorem Sc {t : Tm} (h : RR t) : size t ≤ 201 := by
 obtain ⟨k, i, n, ls, ks⟩ := t
 have := h.2.2.2.1
 simp only [size]
 omega
theorem Nq : ∀ (ts : List Tm) (most n : Int), 0 ≤ most → most ≤ 1000 → 0 ≤ n → n ≤ 3000 → (∀ t ∈ ts, size t ≤ 201) → n ≤ Dg ts most n
 | [], most, n, h1, h2, h3, h4, hs => by simp [Dg]
 | t :: ts, most, n, h1, h2, h3, h4, hs => by
  have ht := hs t An
  unfold Dg
  by_cases hm : n > most
  ·rw [if_pos hm]; omega
  ·rw [if_neg hm]
   have e1 : wr (most - n) = most - n := HU ⟨by omega, by omega⟩
   have hT := Kt t (most - n) Am Am Am
   rw [e1]
   have e2 : wr (1 + DZ t (most - n)) = 1 + DZ t (most - n) := HU ⟨by omega, by omega⟩
   rw [e2]
   have e3 : wr (n + (1 + DZ t (most - n))) = n + (1 + DZ t (most - n)) := HU ⟨by omega, by omega⟩
   rw [e3]
   have hge := Nq ts most (n + (1 + DZ t (most - n))) h1 h2 Am Am (fun x hx => hs x (by simp [hx]))
   omega
theorem Ns : ∀ (ts : List Tm) (most n : Int), 0 ≤ most → most ≤ 1000 → 0 ≤ n → n ≤ 3000 → (∀ t ∈ ts, size t ≤ 201) → Dg ts most n ≤ most → Dg ts most n = n + By ts
 | [], most, n, h1, h2, h3, h4, hs, h => by simp [Dg, By]
 | t :: ts, most, n, h1, h2, h3, h4, hs, h => by
  have ht := hs t An
  simp only [By]
  unfold Dg at h ⊢
  by_cases hm : n > most
  ·rw [if_pos hm] at h; omega
  ·rw [if_neg hm] at h ⊢
   have e1 : wr (most - n) = most - n := HU ⟨by omega, by omega⟩
   have hT := Kt t (most - n) Am Am Am
   rw [e1] at h ⊢
   have e2 : wr (1 + DZ t (most - n)) = 1 + DZ t (most - n) := HU ⟨by omega, by omega⟩
   rw [e2] at h ⊢
   have e3 : wr (n + (1 + DZ t (most - n))) = n + (1 + DZ t (most - n)) := HU ⟨by omega, by omega⟩
   rw [e3] at h ⊢
   have hL := Ns ts most (n + (1 + DZ t (most - n))) h1 h2 Am Am (fun x hx => hs x (by simp [hx])) h
   have hge := Nq ts most (n + (1 + DZ t (most - n))) h1 h2 Am Am (fun x hx => hs x (by simp [hx]))
   have := hT.2.2 Am
   omega
structure Wn (l : List Tm) : Prop where
 sz : By l ≤ 200
 nd : JS l
 fw : Pt l
theorem T3 {l : List Tm} {m : Nat} (hm : l.length ≤ m) (hw : TA l) (hl : l.length < wide) (h : Dg l 200 0 ≤ 200) (hc : ∀ j, j < m → ∀ t, l[j]? = some t → RR t) : Wn l := by
 have hf : ∀ t ∈ l, RR t := fun t ht => by
  obtain ⟨i, hi⟩ := Fu ht
  exact hc i (by have := (List.getElem?_eq_some_iff.1 hi).1; omega) t hi
 have := Ns l 200 0 Am Am Am Am (fun t ht => Sc (hf t ht)) h
 exact ⟨by omega, QU fun t ht => by
  obtain ⟨i, hi⟩ := Fu ht
  exact Vi (Lf hw hi) (hf t ht), Sz fun t ht => by
  obtain ⟨k, i, n, ls, ks⟩ := t
  have h5 := hf _ ht
  exact ⟨h5.1, h5.2.1, h5.2.2.1, h5.2.2.2.2.2⟩⟩
structure YN (m : Nat) (x : Mv) : Prop where
 n1 : Nd x.type
 n2 : Nd x.value
 sz : size x.type + size x.value ≤ 40
 w1 : wf 0 m 0 x.type
 w2 : x.known = true → wf 0 m 0 x.value
 w3 : x.known = false → x.value = BQ
structure a8 (l : List Mv) : Prop where
 len : l.length ≤ 8
 all : ∀ m ∈ l, YN l.length m
structure Zz (m : Nat) (ctx terms : List Tm) : Prop where
 len : ctx.length ≤ 6
 s1 : By ctx ≤ 60
 s2 : By terms ≤ 60
 n1 : JS ctx
 n2 : JS terms
 w2 : ∀ t ∈ terms, wf ctx.length m 0 t
 w1 : ∀ (i : Nat) (t : Tm), ctx[i]? = some t → wf i m 0 t
structure bw (x : Mv) : Prop where
 w1 : Wd x.type
 w2 : Wd x.value
end Go.Eu
namespace Go.Proofs.YtapmjpihennhaaaGreatDoor
open Go.Abs
theorem Jg : E3 Tryz.prog 22 = some (9, 1, 16) := by kernel_rfl
theorem E0 : E3 Tryz.prog 25 = some (3, 1, 8) := by kernel_rfl
theorem B4 : E3 Tryz.prog 26 = some (33, 5, 80) := by kernel_rfl
theorem G8 : E3 Tryz.prog 31 = some (108, 2, 32) := by kernel_rfl
theorem Vb : E3 Tryz.prog 36 = some (122, 23, 360) := by kernel_rfl
theorem EO : E3 Tryz.prog 88 = some (145, 2, 16) := by kernel_rfl
theorem FJ : E3 Tryz.prog 106 = some (112, 2, 16) := by kernel_rfl
theorem I1 : E3 Tryz.prog 179 = some (87, 16, 248) := by kernel_rfl
theorem VD : E3 Tryz.prog 184 = some (5, 1, 1) := by kernel_rfl
theorem bR : BZ Tryz.prog 3 = true := by kernel_rfl
theorem bL : BZ Tryz.prog 7 = true := by kernel_rfl
theorem bO : BZ Tryz.prog 9 = true := by kernel_rfl
theorem ZX : BZ Tryz.prog 10 = true := by kernel_rfl
theorem ZE : BZ Tryz.prog 11 = true := by kernel_rfl
theorem Yy : BZ Tryz.prog 12 = true := by kernel_rfl
theorem aJ : BZ Tryz.prog 13 = true := by kernel_rfl
theorem Y8 : BZ Tryz.prog 14 = true := by kernel_rfl
theorem Yu : BZ Tryz.prog 16 = true := by kernel_rfl
theorem Zv : BZ Tryz.prog 18 = true := by kernel_rfl
theorem XR : BZ Tryz.prog 19 = true := by kernel_rfl
theorem aQ : BZ Tryz.prog 21 = true := by kernel_rfl
theorem Y7 : BZ Tryz.prog 22 = true := by kernel_rfl
theorem W9 : BZ Tryz.prog 23 = true := by kernel_rfl
theorem Yg : BZ Tryz.prog 24 = true := by kernel_rfl
theorem aS : BZ Tryz.prog 29 = true := by kernel_rfl
theorem ZJ : BZ Tryz.prog 30 = true := by kernel_rfl
theorem ZY : BZ Tryz.prog 31 = true := by kernel_rfl
theorem aO : BZ Tryz.prog 34 = true := by kernel_rfl
theorem XO : BZ Tryz.prog 35 = true := by kernel_rfl
theorem Zu : BZ Tryz.prog 36 = true := by kernel_rfl
theorem Z3 : BZ Tryz.prog 37 = true := by kernel_rfl
theorem Z0 : BZ Tryz.prog 38 = true := by kernel_rfl
theorem Yt : BZ Tryz.prog 39 = true := by kernel_rfl
theorem aI : BZ Tryz.prog 40 = true := by kernel_rfl
theorem ZS : BZ Tryz.prog 41 = true := by kernel_rfl
theorem Zr : BZ Tryz.prog 44 = true := by kernel_rfl
theorem YQ : BZ Tryz.prog 45 = true := by kernel_rfl
theorem ZZ : BZ Tryz.prog 46 = true := by kernel_rfl
theorem aR : BZ Tryz.prog 47 = true := by kernel_rfl
theorem ZA : BZ Tryz.prog 49 = true := by kernel_rfl
theorem aA : BZ Tryz.prog 52 = true := by kernel_rfl
theorem Y0 : BZ Tryz.prog 53 = true := by kernel_rfl
theorem Y3 : BZ Tryz.prog 54 = true := by kernel_rfl
theorem aK : BZ Tryz.prog 55 = true := by kernel_rfl
theorem aT : BZ Tryz.prog 56 = true := by kernel_rfl
theorem Zc : BZ Tryz.prog 57 = true := by kernel_rfl
theorem Z5 : BZ Tryz.prog 58 = true := by kernel_rfl
theorem aN : BZ Tryz.prog 59 = true := by kernel_rfl
theorem Y9 : BZ Tryz.prog 60 = true := by kernel_rfl
theorem ZG : BZ Tryz.prog 61 = true := by kernel_rfl
theorem ZV : BZ Tryz.prog 62 = true := by kernel_rfl
theorem Zx : BZ Tryz.prog 63 = true := by kernel_rfl
theorem ZH : BZ Tryz.prog 64 = true := by kernel_rfl
theorem YI : BZ Tryz.prog 65 = true := by kernel_rfl
theorem Yw : BZ Tryz.prog 66 = true := by kernel_rfl
theorem ZB : BZ Tryz.prog 67 = true := by kernel_rfl
theorem Z9 : BZ Tryz.prog 68 = true := by kernel_rfl
theorem Zq : BZ Tryz.prog 69 = true := by kernel_rfl
theorem aL : BZ Tryz.prog 70 = true := by kernel_rfl
theorem ZK : BZ Tryz.prog 71 = true := by kernel_rfl
theorem aM : BZ Tryz.prog 74 = true := by kernel_rfl
theorem aE : BZ Tryz.prog 75 = true := by kernel_rfl
theorem Z4 : BZ Tryz.prog 76 = true := by kernel_rfl
theorem Yx : BZ Tryz.prog 77 = true := by kernel_rfl
theorem Ze : BZ Tryz.prog 78 = true := by kernel_rfl
theorem ZT : BZ Tryz.prog 79 = true := by kernel_rfl
theorem Zg : BZ Tryz.prog 80 = true := by kernel_rfl
theorem Zb : BZ Tryz.prog 81 = true := by kernel_rfl
theorem Z1 : BZ Tryz.prog 82 = true := by kernel_rfl
theorem ZL : BZ Tryz.prog 83 = true := by kernel_rfl
theorem Zj : BZ Tryz.prog 84 = true := by kernel_rfl
theorem XT : BZ Tryz.prog 85 = true := by kernel_rfl
theorem Zd : BZ Tryz.prog 86 = true := by kernel_rfl
theorem Z2 : BZ Tryz.prog 87 = true := by kernel_rfl
theorem aG : BZ Tryz.prog 88 = true := by kernel_rfl
theorem Y4 : BZ Tryz.prog 89 = true := by kernel_rfl
theorem ZI : BZ Tryz.prog 90 = true := by kernel_rfl
theorem Zp : BZ Tryz.prog 91 = true := by kernel_rfl
theorem Z7 : BZ Tryz.prog 92 = true := by kernel_rfl
theorem Y1 : BZ Tryz.prog 93 = true := by kernel_rfl
theorem ZM : BZ Tryz.prog 97 = true := by kernel_rfl
theorem ZQ : BZ Tryz.prog 98 = true := by kernel_rfl
theorem aH : BZ Tryz.prog 99 = true := by kernel_rfl
theorem YC : BZ Tryz.prog 100 = true := by kernel_rfl
theorem Xc : BZ Tryz.prog 101 = true := by kernel_rfl
theorem Xb : BZ Tryz.prog 102 = true := by kernel_rfl
theorem YO : BZ Tryz.prog 103 = true := by kernel_rfl
theorem Wz : BZ Tryz.prog 104 = true := by kernel_rfl
theorem Xn : BZ Tryz.prog 111 = true := by kernel_rfl
theorem X4 : BZ Tryz.prog 112 = true := by kernel_rfl
theorem XM : BZ Tryz.prog 113 = true := by kernel_rfl
theorem XG : BZ Tryz.prog 114 = true := by kernel_rfl
theorem Xt : BZ Tryz.prog 115 = true := by kernel_rfl
theorem XH : BZ Tryz.prog 116 = true := by kernel_rfl
theorem X9 : BZ Tryz.prog 117 = true := by kernel_rfl
theorem XK : BZ Tryz.prog 118 = true := by kernel_rfl
theorem YV : BZ Tryz.prog 119 = true := by kernel_rfl
theorem YF : BZ Tryz.prog 120 = true := by kernel_rfl
theorem Wy : BZ Tryz.prog 121 = true := by kernel_rfl
theorem YE : BZ Tryz.prog 122 = true := by kernel_rfl
theorem U8 : BZ Tryz.prog 123 = true := by kernel_rfl
theorem YU : BZ Tryz.prog 124 = true := by kernel_rfl
theorem YT : BZ Tryz.prog 125 = true := by kernel_rfl
theorem X6 : BZ Tryz.prog 126 = true := by kernel_rfl
theorem X8 : BZ Tryz.prog 127 = true := by kernel_rfl
theorem Xv : BZ Tryz.prog 128 = true := by kernel_rfl
theorem XZ : BZ Tryz.prog 129 = true := by kernel_rfl
theorem Xy : BZ Tryz.prog 130 = true := by kernel_rfl
theorem YY : BZ Tryz.prog 131 = true := by kernel_rfl
theorem Ww : BZ Tryz.prog 132 = true := by kernel_rfl
theorem YR : BZ Tryz.prog 133 = true := by kernel_rfl
theorem W7 : BZ Tryz.prog 134 = true := by kernel_rfl
theorem YG : BZ Tryz.prog 135 = true := by kernel_rfl
theorem X5 : BZ Tryz.prog 140 = true := by kernel_rfl
theorem XW : BZ Tryz.prog 141 = true := by kernel_rfl
theorem YK : BZ Tryz.prog 142 = true := by kernel_rfl
theorem Xf : BZ Tryz.prog 143 = true := by kernel_rfl
theorem Xe : BZ Tryz.prog 144 = true := by kernel_rfl
theorem Wo : BZ Tryz.prog 145 = true := by kernel_rfl
theorem XD : BZ Tryz.prog 146 = true := by kernel_rfl
theorem XX : BZ Tryz.prog 147 = true := by kernel_rfl
theorem Ye : BZ Tryz.prog 148 = true := by kernel_rfl
theorem VO : BZ Tryz.prog 153 = true := by kernel_rfl
theorem Xj : BZ Tryz.prog 156 = true := by kernel_rfl
theorem Du : fieldsOf Tryz.prog 24 = some [(0, 1), (1, 1), (2, 1), (3, 1), (4, 1), (5, 1), (6, 1)] := by kernel_rfl
theorem CN : fieldsOf Tryz.prog 33 = some [(0, 1), (1, 1), (2, 1), (3, 1), (4, 1)] := by kernel_rfl
theorem Gk : fieldsOf Tryz.prog 81 = some [(0, 1), (1, 1), (2, 1), (3, 1)] := by kernel_rfl
theorem Gq : fieldsOf Tryz.prog 85 = some [(0, 7), (7, 1)] := by kernel_rfl
theorem EM : fieldsOf Tryz.prog 87 = some [(0, 5), (5, 5), (10, 5), (15, 1)] := by kernel_rfl
theorem WX : fieldsOf Tryz.prog 91 = some [(0, 1), (1, 1), (2, 1), (3, 1), (4, 5)] := by kernel_rfl
theorem HD : fieldsOf Tryz.prog 100 = some [(0, 1), (1, 1), (2, 1)] := by kernel_rfl
theorem Dh : fieldsOf Tryz.prog 108 = some [(0, 1), (1, 1)] := by kernel_rfl
theorem E4 : fieldsOf Tryz.prog 112 = some [(0, 1), (1, 1)] := by kernel_rfl
theorem Nw : fieldsOf Tryz.prog 122 = some [(0, 1), (1, 1), (2, 1), (3, 5), (8, 5), (13, 1), (14, 1), (15, 7), (22, 1)] := by kernel_rfl
theorem HE : fieldsOf Tryz.prog 145 = some [(0, 1), (1, 1)] := by kernel_rfl
theorem G9 : fieldsOf Tryz.prog 175 = some [(0, 1), (1, 1), (2, 1), (3, 1), (4, 1)] := by kernel_rfl
theorem LF : fieldsOf Tryz.prog 186 = some [(0, 1), (1, 1)] := by kernel_rfl
theorem O8 : fieldsOf Tryz.prog 198 = some [(0, 1), (1, 1)] := by kernel_rfl
theorem Dq : Tryz.prog.follows .mixedOrders = true := by kernel_rfl
theorem Xu : KW Tryz.prog 112 = true := by kernel_rfl
theorem DQ : DR Tryz.prog 3 = some (false, 1) := by kernel_rfl
theorem Uf : DR Tryz.prog 4 = some (false, 1) := by kernel_rfl
theorem GO : DR Tryz.prog 9 = some (false, 1) := by kernel_rfl
theorem Sa : DR Tryz.prog 22 = some (false, 1) := by kernel_rfl
theorem FE : DR Tryz.prog 24 = some (true, 7) := by kernel_rfl
theorem Lq : DR Tryz.prog 25 = some (false, 1) := by kernel_rfl
theorem DC : DR Tryz.prog 26 = some (false, 1) := by kernel_rfl
theorem IM : DR Tryz.prog 31 = some (false, 1) := by kernel_rfl
theorem BI : DR Tryz.prog 33 = some (true, 5) := by kernel_rfl
theorem Zw : DR Tryz.prog 36 = some (false, 1) := by kernel_rfl
theorem Tu : DR Tryz.prog 38 = some (false, 1) := by kernel_rfl
theorem UG : DR Tryz.prog 76 = some (false, 1) := by kernel_rfl
theorem VZ : DR Tryz.prog 79 = some (false, 1) := by kernel_rfl
theorem HK : DR Tryz.prog 83 = some (false, 1) := by kernel_rfl
theorem Cb : DR Tryz.prog 87 = some (true, 16) := by kernel_rfl
theorem YP : DR Tryz.prog 88 = some (false, 1) := by kernel_rfl
theorem OO : DR Tryz.prog 91 = some (true, 9) := by kernel_rfl
theorem Ge : DR Tryz.prog 106 = some (false, 1) := by kernel_rfl
theorem D1 : DR Tryz.prog 108 = some (true, 2) := by kernel_rfl
theorem Nh : DR Tryz.prog 112 = some (true, 2) := by kernel_rfl
theorem Oy : DR Tryz.prog 122 = some (true, 23) := by kernel_rfl
theorem GN : DR Tryz.prog 145 = some (true, 2) := by kernel_rfl
theorem KF : DR Tryz.prog 146 = some (false, 1) := by kernel_rfl
theorem Xm : DR Tryz.prog 151 = some (true, 4) := by kernel_rfl
theorem Wq : DR Tryz.prog 173 = some (false, 1) := by kernel_rfl
theorem U3 : DR Tryz.prog 175 = some (true, 5) := by kernel_rfl
theorem SP : DR Tryz.prog 176 = some (true, 65) := by kernel_rfl
theorem Na : DR Tryz.prog 178 = some (false, 1) := by kernel_rfl
theorem Qs : DR Tryz.prog 183 = some (false, 1) := by kernel_rfl
theorem Qv : DR Tryz.prog 184 = some (false, 1) := by kernel_rfl
theorem Pb : Tryz.prog.underlying 151 = some (.array 4 146) := by kernel_rfl
theorem VH : Tryz.prog.underlying 176 = some (.array 13 175) := by kernel_rfl
theorem Wf : Tryz.prog.underlying 9 = some .string := by kernel_rfl
theorem Tn : zeroOf Tryz.prog 3 = some (.int .i64 0) := by kernel_rfl
theorem bG : zeroOf Tryz.prog 5 = some (.int .u8 0) := by kernel_rfl
theorem YH : zeroOf Tryz.prog 9 = some (.string { data := { toList := [] } }) := by kernel_rfl
theorem Vu : zeroOf Tryz.prog 24 = some (.agg { toList := [.string { data := { toList := [] } }, .string { data := { toList := [] } }, .string { data := { toList := [] } }, .string { data := { toList := [] } }, .string { data := { toList := [] } }, .string { data := { toList := [] } }, .slice none 0 0] }) := by kernel_rfl
theorem Zl : zeroOf Tryz.prog 26 = some (.slice none 0 0) := by kernel_rfl
theorem B0 : zeroOf Tryz.prog 33 = some (.agg { toList := [.int .i64 0, .int .i64 0, .string { data := { toList := [] } }, .slice none 0 0, .slice none 0 0] }) := by kernel_rfl
theorem Zn : zeroOf Tryz.prog 38 = some (.int .i64 0) := by kernel_rfl
theorem Xg : zeroOf Tryz.prog 81 = some (.agg { toList := [.slice none 0 0, .slice none 0 0, .map none, .int .i64 0] }) := by kernel_rfl
theorem Zo : zeroOf Tryz.prog 85 = some (.agg { toList := [.string { data := { toList := [] } }, .string { data := { toList := [] } }, .string { data := { toList := [] } }, .string { data := { toList := [] } }, .string { data := { toList := [] } }, .string { data := { toList := [] } }, .slice none 0 0, .pointer none] }) := by kernel_rfl
theorem DW : zeroOf Tryz.prog 87 = some (.agg { toList := [.int .i64 0, .int .i64 0, .string { data := { toList := [] } }, .slice none 0 0, .slice none 0 0, .int .i64 0, .int .i64 0, .string { data := { toList := [] } }, .slice none 0 0, .slice none 0 0, .int .i64 0, .int .i64 0, .string { data := { toList := [] } }, .slice none 0 0, .slice none 0 0, .bool false] }) := by kernel_rfl
theorem Rd : zeroOf Tryz.prog 91 = some (.agg { toList := [.int .i64 0, .int .i64 0, .int .i64 0, .int .i64 0, .int .i64 0, .int .i64 0, .string { data := { toList := [] } }, .slice none 0 0, .slice none 0 0] }) := by kernel_rfl
theorem YA : zeroOf Tryz.prog 100 = some (.agg { toList := [.slice none 0 0, .slice none 0 0, .int .i64 0] }) := by kernel_rfl
theorem GQ : zeroOf Tryz.prog 108 = some (.agg { toList := [.int .i64 0, .slice none 0 0] }) := by kernel_rfl
theorem KT : zeroOf Tryz.prog 112 = some (.agg { toList := [.int .i64 0, .int .i64 0] }) := by kernel_rfl
theorem Qn : zeroOf Tryz.prog 122 = some (.agg { toList := [.int .i64 0, .string { data := { toList := [] } }, .int .i64 0, .int .i64 0, .int .i64 0, .string { data := { toList := [] } }, .slice none 0 0, .slice none 0 0, .int .i64 0, .int .i64 0, .string { data := { toList := [] } }, .slice none 0 0, .slice none 0 0, .int .i64 0, .slice none 0 0, .int .i64 0, .int .i64 0, .int .i64 0, .string { data := { toList := [] } }, .slice none 0 0, .slice none 0 0, .slice none 0 0, .slice none 0 0] }) := by kernel_rfl
theorem Hh : zeroOf Tryz.prog 145 = some (.agg { toList := [.int .i64 0, .bool false] }) := by kernel_rfl
theorem VM : zeroOf Tryz.prog 151 = some (.agg { toList := [.nilFunc, .nilFunc, .nilFunc, .nilFunc] }) := by kernel_rfl
theorem HS : zeroOf Tryz.prog 175 = some (.agg { toList := [.bool false, .bool false, .int .i64 0, .int .i64 0, .int .i64 0] }) := by kernel_rfl
theorem So : zeroOf Tryz.prog 176 = some (.agg { toList := [.bool false, .bool false, .int .i64 0, .int .i64 0, .int .i64 0, .bool false, .bool false, .int .i64 0, .int .i64 0, .int .i64 0, .bool false, .bool false, .int .i64 0, .int .i64 0, .int .i64 0, .bool false, .bool false, .int .i64 0, .int .i64 0, .int .i64 0, .bool false, .bool false, .int .i64 0, .int .i64 0, .int .i64 0, .bool false, .bool false, .int .i64 0, .int .i64 0, .int .i64 0, .bool false, .bool false, .int .i64 0, .int .i64 0, .int .i64 0, .bool false, .bool false, .int .i64 0, .int .i64 0, .int .i64 0, .bool false, .bool false, .int .i64 0, .int .i64 0, .int .i64 0, .bool false, .bool false, .int .i64 0, .int .i64 0, .int .i64 0, .bool false, .bool false, .int .i64 0, .int .i64 0, .int .i64 0, .bool false, .bool false, .int .i64 0, .int .i64 0, .int .i64 0, .bool false, .bool false, .int .i64 0, .int .i64 0, .int .i64 0] }) := by kernel_rfl
theorem XN : zeroOf Tryz.prog 178 = some .nilFunc := by kernel_rfl
theorem U0 : zeroOf Tryz.prog 186 = some (.agg { toList := [.pointer none, .slice none 0 0] }) := by kernel_rfl
theorem YZ : zeroOf Tryz.prog 198 = some (.agg { toList := [.int .i64 0, .int .i64 0] }) := by kernel_rfl
end Go.Proofs.YtapmjpihennhaaaGreatDoor
