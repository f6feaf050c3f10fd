/- The words in which functions come out of code: codecs for states, results and arguments; the evaluator's equations in the form in which a simplifier runs them. -/
import Derived.Test.YtaidpcnnggknnaaGreatVc
import Derived.Test.YtaidpcnnggknnaaGreatVa

set_option linter.unusedVariables false
set_option linter.unusedSimpArgs false
namespace Go.Vm
open Go Go.RowKit

structure Cdc (β α : Type) where
  enc : α → β
  dec : β → Option α
  ok : ∀ b a, dec b = some a → enc a = b

section
variable {α β γ τ : Type}
@[simp] def cI : Cdc CV Int where
  enc n := .d (I n)
  dec | .d (.sc (.int .i64 n)) => some n | _ => none
  ok b a h := by split at h <;> simp at h; subst h; rfl
@[simp] def cK (k : IntKind) : Cdc CV Int where
  enc n := .d (.sc (.int k n))
  dec | .d (.sc (.int j n)) => if j = k then some n else none | _ => none
  ok b a h := by
    split at h
    · split at h
      · rename_i hk; simp at h; subst h; subst hk; rfl
      · cases h
    · cases h
@[simp] def cB : Cdc CV Bool where
  enc n := .d (B n)
  dec | .d (.sc (.bool n)) => some n | _ => none
  ok b a h := by split at h <;> simp at h; subst h; rfl
@[simp] def cS : Cdc CV ByteArray where
  enc n := .d (S n)
  dec | .d (.sc (.string n)) => some n | _ => none
  ok b a h := by split at h <;> simp at h; subst h; rfl
@[simp] def cSl (e : Cel α) : Cdc CV (List α) where
  enc l := .d (.sl (l.map e.c))
  dec | .d (.sl l) => decL e.d l | _ => none
  ok b a h' := by
    split at h'
    · rw [decL_ok h']
    · cases h'
@[simp] def cUnk : Cdc CV Unit where
  enc _ := .unk
  dec | .unk => some () | _ => none
  ok b a h := by split at h <;> simp at h; rfl
@[simp] def cNil : Cdc CV Unit where
  enc _ := .nil
  dec | .nil => some () | _ => none
  ok b a h := by split at h <;> simp at h; rfl
@[simp] def cPtr (id n off : Nat) : Cdc CV Unit where
  enc _ := .ptr id n off
  dec | .ptr i m o => if i = id ∧ m = n ∧ o = off then some () else none | _ => none
  ok b a h := by
    split at h
    · split at h
      · rename_i hh; obtain ⟨rfl, rfl, rfl⟩ := hh; rfl
      · cases h
    · cases h
@[simp] def cClo (f : Nat) (fs cs : List (Nat × Nat)) : Cdc CV Unit where
  enc _ := .clo f fs cs
  dec | .clo f' fs' cs' => if f' = f ∧ fs' = fs ∧ cs' = cs then some () else none | _ => none
  ok b a h := by
    split at h
    · split at h
      · rename_i hh; obtain ⟨rfl, rfl, rfl⟩ := hh; rfl
      · cases h
    · cases h
@[simp] def cOwn (id : Nat) : Cdc CV Nat where
  enc n := .own id n
  dec | .own i m => if i = id then some m else none | _ => none
  ok b a h := by
    split at h
    · split at h
      · rename_i hh; subst hh; injection h with h; subst h; rfl
      · cases h
    · cases h
@[simp] def lNil : Cdc (List τ) Unit where
  enc _ := []
  dec | [] => some () | _ => none
  ok b a h := by split at h <;> simp at h; rfl
@[simp] def lCons (c : Cdc τ α) (cs : Cdc (List τ) β) : Cdc (List τ) (α × β) where
  enc p := c.enc p.1 :: cs.enc p.2
  dec | x :: xs => (c.dec x).bind fun a => (cs.dec xs).bind fun b => some (a, b) | _ => none
  ok b a h := by
    split at h
    · simp only [Option.bind_eq_some_iff, Option.some.injEq] at h
      obtain ⟨x, hx, y, hy, rfl⟩ := h
      simp [c.ok _ _ hx, cs.ok _ _ hy]
    · cases h
@[simp] def lSkip (c : Cdc τ Unit) (cs : Cdc (List τ) β) : Cdc (List τ) β where
  enc p := c.enc () :: cs.enc p
  dec | x :: xs => (c.dec x).bind fun _ => cs.dec xs | _ => none
  ok b a h := by
    split at h
    · simp only [Option.bind_eq_some_iff] at h
      obtain ⟨x, hx, hy⟩ := h
      simp [c.ok _ _ hx, cs.ok _ _ hy]
    · cases h
@[simp] def vOne (c : Cdc CV α) : Cdc TV α where
  enc a := .v (.one (c.enc a))
  dec | .v (.one x) => c.dec x | _ => none
  ok b a h := by
    split at h
    · rw [c.ok _ _ h]
    · cases h
@[simp] def vAgg (c : Cdc (List CV) α) : Cdc TV α where
  enc a := .v (.agg (c.enc a))
  dec | .v (.agg x) => c.dec x | _ => none
  ok b a h := by
    split at h
    · rw [c.ok _ _ h]
    · cases h
@[simp] def vUnk : Cdc TV Unit where
  enc _ := .unk
  dec | .unk => some () | _ => none
  ok b a h := by split at h <;> simp at h; rfl
@[simp] def vTup : Cdc TV Unit where
  enc _ := .tup []
  dec | .tup [] => some () | _ => none
  ok b a h := by split at h <;> simp at h; rfl
@[simp] def oBox (t : Nat) (c : Cdc (List CV) α) : Cdc Ob α where
  enc a := .box t (c.enc a)
  dec | .box t' x => if t' = t then c.dec x else none | _ => none
  ok b a h := by
    split at h
    · split at h
      · rename_i hh; subst hh; rw [c.ok _ _ h]
      · cases h
    · cases h
@[simp] def oArr (e k : Nat) (en : Cel α) : Cdc Ob (List α) where
  enc l := .arr e k (l.map en.c)
  dec | .arr e' k' l => if e' = e ∧ k' = k then decL en.d l else none | _ => none
  ok b a h' := by
    split at h'
    · split at h'
      · rename_i hh; obtain ⟨rfl, rfl⟩ := hh; rw [decL_ok h']
      · cases h'
    · cases h'
@[simp] def oFrz (e k : Nat) (en : Cel α) : Cdc Ob (List α) where
  enc l := .frz e k (l.map en.c)
  dec | .frz e' k' l => if e' = e ∧ k' = k then decL en.d l else none | _ => none
  ok b a h' := by
    split at h'
    · split at h'
      · rename_i hh; obtain ⟨rfl, rfl⟩ := hh; rw [decL_ok h']
      · cases h'
    · cases h'
end

@[simp] def allD : List CV → Option (List DV)
  | [] => some []
  | .d x :: cs => (allD cs).bind fun xs => some (x :: xs)
  | _ => none
theorem allD_ok : ∀ {l : List CV} {xs : List DV}, allD l = some xs → ddv xs = l
  | [], xs, h => by simp [allD] at h; subst h; rfl
  | .d x :: cs, xs, h => by
    simp only [allD, Option.bind_eq_some_iff, Option.some.injEq] at h
    obtain ⟨ys, hy, rfl⟩ := h
    have := allD_ok hy
    simp only [ddv] at this
    simp [ddv, this]
@[simp] def cStr {α : Type} (e : Cel α) : Cdc (List CV) α where
  enc a := ddv (e.c a)
  dec l := (allD l).bind e.d
  ok b a h' := by
    simp only [Option.bind_eq_some_iff] at h'
    obtain ⟨xs, hx, hf⟩ := h'
    rw [e.ok _ _ hf]; exact allD_ok hx

def mkAnn {σ α β : Type} (ce : Cdc Env α) (co : Cdc Objs β) (to : α → β → σ) (fe : σ → α) (fo : σ → β) (cond : α → β → Bool) (h : ∀ a b, cond a b = true → fe (to a b) = a ∧ fo (to a b) = b) : Ann where
  σ := σ
  st s := (ce.enc (fe s), co.enc (fo s))
  un e o := (ce.dec e).bind fun a => (co.dec o).bind fun b => if cond a b = true then some (to a b) else none
  ok e o s hs := by
    simp only [Option.bind_eq_some_iff] at hs
    obtain ⟨a, ha, b, hb, hs⟩ := hs
    split at hs
    · rename_i hc
      injection hs with hs; subst hs
      rw [(h a b hc).1, (h a b hc).2, ce.ok _ _ ha, co.ok _ _ hb]
    · cases hs

theorem mkAnn_un {σ α β γ : Type} (ce : Cdc Env α) (co : Cdc Objs β) (to : α → β → σ) (fe : σ → α) (fo : σ → β) (cond : α → β → Bool) (h : ∀ a b, cond a b = true → fe (to a b) = a ∧ fo (to a b) = b) (e : Env) (o : Objs) (f : σ → Option γ) :
    ((mkAnn ce co to fe fo cond h).un e o).bind f = (ce.dec e).bind fun a => (co.dec o).bind fun b => if cond a b = true then f (to a b) else none := by
  show (((ce.dec e).bind fun a => (co.dec o).bind fun b => if cond a b = true then some (to a b) else none).bind f) = _
  cases ce.dec e with
  | none => rfl
  | some a =>
    simp only [Option.bind_some]
    cases co.dec o with
    | none => rfl
    | some b =>
      simp only [Option.bind_some]
      split <;> rfl

abbrev Res (α : Type) := Cdc (List RV) α
section
variable {α β γ δ : Type}
@[simp] def rI : Cdc RV Int where
  enc n := .one (I n)
  dec | .one (.sc (.int .i64 n)) => some n | _ => none
  ok b a h := by split at h <;> simp at h; subst h; rfl
@[simp] def rB : Cdc RV Bool where
  enc n := .one (B n)
  dec | .one (.sc (.bool n)) => some n | _ => none
  ok b a h := by split at h <;> simp at h; subst h; rfl
@[simp] def rS : Cdc RV ByteArray where
  enc n := .one (S n)
  dec | .one (.sc (.string n)) => some n | _ => none
  ok b a h := by split at h <;> simp at h; subst h; rfl
@[simp] def rAgg (e : Cel α) : Cdc RV α where
  enc a := .agg (e.c a)
  dec | .agg l => e.d l | _ => none
  ok b a h' := by
    split at h'
    · rw [e.ok _ _ h']
    · cases h'
@[simp] def rSl (e : Cel α) : Cdc RV (List α) where
  enc l := .one (.sl (l.map e.c))
  dec | .one (.sl l) => decL e.d l | _ => none
  ok b a h' := by
    split at h'
    · rw [decL_ok h']
    · cases h'
@[simp] def rOwn (et k : Nat) (e : Cel α) : Cdc RV (List α) where
  enc l := .own et k (l.map e.c)
  dec | .own et' k' l => if et' = et ∧ k' = k then decL e.d l else none | _ => none
  ok b a h' := by
    split at h'
    · split at h'
      · rename_i hh; obtain ⟨rfl, rfl⟩ := hh; rw [decL_ok h']
      · cases h'
    · cases h'
@[simp] def rK (k : IntKind) : Cdc RV Int where
  enc n := .one (.sc (.int k n))
  dec | .one (.sc (.int j n)) => if j = k then some n else none | _ => none
  ok b a h := by
    split at h
    · split at h
      · rename_i hk; simp at h; subst h; subst hk; rfl
      · cases h
    · cases h
@[simp] def res0 : Res Unit where
  enc a := []
  dec | [] => some () | _ => none
  ok b a h := by
    split at h
    · rfl
    · cases h
@[simp] def res1 (c : Cdc RV α) : Res α where
  enc a := [c.enc a]
  dec | [x] => c.dec x | _ => none
  ok b a h := by
    split at h
    · rw [c.ok _ _ h]
    · cases h
@[simp] def res2 (c : Cdc RV α) (d : Cdc RV β) : Res (α × β) where
  enc a := [c.enc a.1, d.enc a.2]
  dec | [x, y] => (c.dec x).bind fun a => (d.dec y).bind fun b => some (a, b) | _ => none
  ok b a h := by
    split at h
    · simp only [Option.bind_eq_some_iff, Option.some.injEq] at h
      obtain ⟨x, hx, y, hy, rfl⟩ := h
      simp [c.ok _ _ hx, d.ok _ _ hy]
    · cases h
@[simp] def res3 (c : Cdc RV α) (d : Cdc RV β) (e : Cdc RV γ) : Res (α × β × γ) where
  enc a := [c.enc a.1, d.enc a.2.1, e.enc a.2.2]
  dec | [x, y, z] => (c.dec x).bind fun a => (d.dec y).bind fun b => (e.dec z).bind fun c => some (a, b, c) | _ => none
  ok b a h := by
    split at h
    · simp only [Option.bind_eq_some_iff, Option.some.injEq] at h
      obtain ⟨x, hx, y, hy, z, hz, rfl⟩ := h
      simp [c.ok _ _ hx, d.ok _ _ hy, e.ok _ _ hz]
    · cases h
@[simp] def res4 (c : Cdc RV α) (d : Cdc RV β) (e : Cdc RV γ) (f : Cdc RV δ) : Res (α × β × γ × δ) where
  enc a := [c.enc a.1, d.enc a.2.1, e.enc a.2.2.1, f.enc a.2.2.2]
  dec | [x, y, z, u] => (c.dec x).bind fun a => (d.dec y).bind fun b => (e.dec z).bind fun c => (f.dec u).bind fun d => some (a, b, c, d) | _ => none
  ok b a h := by
    split at h
    · simp only [Option.bind_eq_some_iff, Option.some.injEq] at h
      obtain ⟨x, hx, y, hy, z, hz, u, hu, rfl⟩ := h
      simp [c.ok _ _ hx, d.ok _ _ hy, e.ok _ _ hz, f.ok _ _ hu]
    · cases h
end

def kfin {α : Type} (C : Cfg) (fn : Func) (r : Res α) : Kon α
  | .normal, e, o => (evRes C fn.results.toList e o).bind r.dec
  | .ret, e, o => (evRes C fn.results.toList e o).bind r.dec
  | _, _, _ => none

noncomputable def Wf {α : Type} (C : Cfg) (T : List (Nat × LoopA)) (G : List Lab) (c : Code) (fn : Func) (r : Res α) (das : List DA) : Option α := W C T G 200 c (env0 das fn.ntmps) [] (kfin C fn r)

theorem callC_of_W {α : Type} {P : Program} {C : Cfg} (hE : Env1 P C) {T : List (Nat × LoopA)} {G : List Lab} {f : Nat} {fn : Func} {c : Code} (hf : P.funcs[f]? = some fn) (hb : fn.body = some c) (hst : stat C c = true) {r : Res α} {F : List DA → Option (List RV)}
    (h : ∀ das rs, F das = some rs → ∃ a, rs = r.enc a ∧ Wf C T G c fn r das = some a) : CallC P f F := by
  refine callC_of_A hE.cfg hf hb fun das rs hF => ?_
  obtain ⟨a, rfl, hw⟩ := h das rs hF
  refine (W_ok hE 200 c _ _ _ a hst hw).mono fun ex e o hq => ?_
  cases ex with
  | normal =>
    simp only [kfin, Option.bind_eq_some_iff] at hq
    obtain ⟨rs, h1, h2⟩ := hq
    exact ⟨.inl rfl, by rw [h1, r.ok _ _ h2]⟩
  | ret =>
    simp only [kfin, Option.bind_eq_some_iff] at hq
    obtain ⟨rs, h1, h2⟩ := hq
    exact ⟨.inr rfl, by rw [h1, r.ok _ _ h2]⟩
  | exit i => simp [kfin] at hq
  | goto i => simp [kfin] at hq

section
variable {P : Program} {C : Cfg} {T : List (Nat × LoopA)} {G : List Lab} {f : Nat} {fn : Func} {c : Code} {ρ α β γ δ : Type} {r : Res ρ}
theorem cc1 (hE : Env1 P C) (hf : P.funcs[f]? = some fn) (hb : fn.body = some c) (hst : stat C c = true) {e1 : Enc α} {F : α → Option ρ}
    (h : ∀ a, Wf C T G c fn r [e1.enc a] = F a) : CallC P f (con1 e1 fun a => (F a).map r.enc) := by
  refine callC_of_W hE hf hb hst (T := T) (G := G) (r := r) fun das rs hF => ?_
  obtain ⟨a, rfl, hF2⟩ := con1_spec hF
  obtain ⟨x, hx, rfl⟩ := Option.map_eq_some_iff.1 hF2
  exact ⟨x, rfl, (h a).trans hx⟩
theorem cc2 (hE : Env1 P C) (hf : P.funcs[f]? = some fn) (hb : fn.body = some c) (hst : stat C c = true) {e1 : Enc α} {e2 : Enc β} {F : α → β → Option ρ}
    (h : ∀ a b, Wf C T G c fn r [e1.enc a, e2.enc b] = F a b) : CallC P f (con2 e1 e2 fun a b => (F a b).map r.enc) := by
  refine callC_of_W hE hf hb hst (T := T) (G := G) (r := r) fun das rs hF => ?_
  obtain ⟨a, b, rfl, hF2⟩ := con2_spec hF
  obtain ⟨x, hx, rfl⟩ := Option.map_eq_some_iff.1 hF2
  exact ⟨x, rfl, (h a b).trans hx⟩
theorem cc3 (hE : Env1 P C) (hf : P.funcs[f]? = some fn) (hb : fn.body = some c) (hst : stat C c = true) {e1 : Enc α} {e2 : Enc β} {e3 : Enc γ} {F : α → β → γ → Option ρ}
    (h : ∀ a b d, Wf C T G c fn r [e1.enc a, e2.enc b, e3.enc d] = F a b d) : CallC P f (con3 e1 e2 e3 fun a b c => (F a b c).map r.enc) := by
  refine callC_of_W hE hf hb hst (T := T) (G := G) (r := r) fun das rs hF => ?_
  obtain ⟨a, b, d, rfl, hF2⟩ := con3_spec hF
  obtain ⟨x, hx, rfl⟩ := Option.map_eq_some_iff.1 hF2
  exact ⟨x, rfl, (h a b d).trans hx⟩
theorem cc4 (hE : Env1 P C) (hf : P.funcs[f]? = some fn) (hb : fn.body = some c) (hst : stat C c = true) {e1 : Enc α} {e2 : Enc β} {e3 : Enc γ} {e4 : Enc δ} {F : α → β → γ → δ → Option ρ}
    (h : ∀ a b d e, Wf C T G c fn r [e1.enc a, e2.enc b, e3.enc d, e4.enc e] = F a b d e) : CallC P f (con4 e1 e2 e3 e4 fun a b c d => (F a b c d).map r.enc) := by
  refine callC_of_W hE hf hb hst (T := T) (G := G) (r := r) fun das rs hF => ?_
  obtain ⟨a, b, d, e, rfl, hF2⟩ := con4_spec hF
  obtain ⟨x, hx, rfl⟩ := Option.map_eq_some_iff.1 hF2
  exact ⟨x, rfl, (h a b d e).trans hx⟩
theorem cc5 {ε : Type} (hE : Env1 P C) (hf : P.funcs[f]? = some fn) (hb : fn.body = some c) (hst : stat C c = true) {e1 : Enc α} {e2 : Enc β} {e3 : Enc γ} {e4 : Enc δ} {e5 : Enc ε} {F : α → β → γ → δ → ε → Option ρ}
    (h : ∀ a b d e g, Wf C T G c fn r [e1.enc a, e2.enc b, e3.enc d, e4.enc e, e5.enc g] = F a b d e g) : CallC P f (con5 e1 e2 e3 e4 e5 fun a b c d e => (F a b c d e).map r.enc) := by
  refine callC_of_W hE hf hb hst (T := T) (G := G) (r := r) fun das rs hF => ?_
  obtain ⟨a, b, d, e, g, rfl, hF2⟩ := con5_spec hF
  obtain ⟨x, hx, rfl⟩ := Option.map_eq_some_iff.1 hF2
  exact ⟨x, rfl, (h a b d e g).trans hx⟩
theorem cc0 (hE : Env1 P C) (hf : P.funcs[f]? = some fn) (hb : fn.body = some c) (hst : stat C c = true) {F : Option ρ}
    (h : Wf C T G c fn r [] = F) : CallC P f (con0 (F.map r.enc)) := by
  refine callC_of_W hE hf hb hst (T := T) (G := G) (r := r) fun das rs hF => ?_
  unfold con0 at hF
  split at hF
  · obtain ⟨x, hx, rfl⟩ := Option.map_eq_some_iff.1 hF
    exact ⟨x, rfl, h.trans hx⟩
  · cases hF
end

def deepF {α ρ : Type} (G : (α → Option ρ) → α → Option ρ) : Nat → α → Option ρ
  | 0 => fun _ => none
  | n + 1 => G (deepF G n)
theorem rec1 {α ρ : Type} {P : Program} {k : Nat} {e : Enc α} {r : Res ρ} {G : (α → Option ρ) → α → Option ρ} (hG : ∀ F : α → Option ρ, CallC P k (con1 e fun a => (F a).map r.enc) → CallC P k (con1 e fun a => (G F a).map r.enc))
    {f : α → Option ρ} (hf : ∀ a x, f a = some x → ∃ n, deepF G n a = some x) : CallC P k (con1 e fun a => (f a).map r.enc) := by
  have deep : ∀ n, CallC P k (con1 e fun a => (deepF G n a).map r.enc) := by
    intro n
    induction n with
    | zero =>
      intro Φ w das args rs hsat hda hF
      obtain ⟨a, _, h⟩ := con1_spec hF
      cases h
    | succ n ih => exact hG _ ih
  intro Φ w das args rs hsat hda hF
  unfold con1 at hF
  split at hF
  case h_2 => cases hF
  case h_1 d =>
  simp only [Option.bind_eq_some_iff] at hF
  obtain ⟨a, ha, h⟩ := hF
  obtain ⟨x, hx, hr⟩ := Option.map_eq_some_iff.1 h
  obtain ⟨n, hn⟩ := hf a x hx
  refine deep n Φ w [d] args rs hsat hda ?_
  simp only [con1, ha, Option.bind_some, hn, Option.map_some, hr]

def kinl (C : Cfg) (fn : Func) : Kon (TV × Objs)
  | .normal, e, o => (resVs C e o fn.results.toList).bind fun vs => some (packV vs, o)
  | .ret, e, o => (resVs C e o fn.results.toList).bind fun vs => some (packV vs, o)
  | _, _, _ => none
noncomputable def Wi (C : Cfg) (T : List (Nat × LoopA)) (G : List Lab) (fn : Func) (vs : List V1) (objs : Objs) : Option (TV × Objs) :=
  match fn.body with
  | some c => W C T G 200 c (envI vs fn.ntmps) objs (kinl C fn)
  | none => none
theorem inlC_of_W {P : Program} {C : Cfg} (hE : Env1 P C) {T : List (Nat × LoopA)} {G : List Lab} {f : Nat} {fn : Func} {c : Code} (hf : P.funcs[f]? = some fn) (hb : fn.body = some c) (hst : stat C c = true) : InlC P f (Wi C T G fn) := by
  refine inlC_of_A hE.cfg hf hb fun vs objs v objs' h => ?_
  unfold Wi at h
  rw [hb] at h
  refine (W_ok hE 200 c _ _ _ _ hst h).mono fun ex e o hq => ?_
  cases ex with
  | normal =>
    simp only [kinl, Option.bind_eq_some_iff, Option.some.injEq, Prod.mk.injEq] at hq
    obtain ⟨us, h1, h2, h3⟩ := hq
    exact ⟨.inl rfl, us, h1, h2.symm, h3.symm⟩
  | ret =>
    simp only [kinl, Option.bind_eq_some_iff, Option.some.injEq, Prod.mk.injEq] at hq
    obtain ⟨us, h1, h2, h3⟩ := hq
    exact ⟨.inr rfl, us, h1, h2.symm, h3.symm⟩
  | exit i => simp [kinl] at hq
  | goto i => simp [kinl] at hq

def mkI (C : Cfg) (tbl : List (Nat × (List V1 → Objs → Option (TV × Objs)))) : Cfg := { C with inls := tbl.map (·.1), inl := fun f => (tbl.lookup f).getD fun _ _ => none }
def AllI (P : Program) : List (Nat × (List V1 → Objs → Option (TV × Objs))) → Prop
  | [] => True
  | (f, F) :: l => (Enters P f ∧ InlC P f F) ∧ AllI P l
theorem AllI.ok {P : Program} : ∀ {tbl : List (Nat × (List V1 → Objs → Option (TV × Objs)))}, AllI P tbl → ∀ f, (tbl.map (·.1)).contains f = true → Enters P f ∧ InlC P f ((tbl.lookup f).getD fun _ _ => none)
  | [], _, f, hf => by simp at hf
  | (g, G) :: l, h, f, hf => by
    by_cases hfg : f = g
    · subst hfg; simpa [List.lookup] using h.1
    · have : (f == g) = false := by simpa using hfg
      simp only [List.lookup, this]
      refine AllI.ok h.2 f ?_
      simpa [hfg, this] using hf
theorem mkI_ok {P : Program} {C : Cfg} (h : Env1 P C) {tbl : List (Nat × (List V1 → Objs → Option (TV × Objs)))} (h2 : AllI P tbl) : Env1 P (mkI C tbl) :=
  ⟨⟨h.cfg.ty, h.cfg.eq⟩, ⟨fun f hf => (AllI.ok h2 f hf).1, fun f hf => (AllI.ok h2 f hf).2, h.calls.enters, h.calls.call⟩, h.mixed⟩

section
variable {C : Cfg} {T : List (Nat × LoopA)} {G : List Lab} {n : Nat} {R : Type} {env : Env} {objs : Objs} {k : Kon R}
noncomputable def Wk (C : Cfg) (T : List (Nat × LoopA)) (G : List Lab) (n : Nat) (b : Code) : Env → Objs → Kon R → Option R := fun e o k => W C T G n b e o k
def rg (x : Option (Env × Objs)) (k : Kon R) : Option R := x.bind fun p => k .normal p.1 p.2
def selim {α β γ : Type} (f : α → γ) (g : β → γ) : α ⊕ β → γ
  | .inl a => f a
  | .inr b => g b

theorem W_skip : W C T G (n + 1) .skip env objs k = k .normal env objs := rfl
theorem W_label {i : Nat} : W C T G (n + 1) (.label i) env objs k = k .normal env objs := rfl
theorem W_exit {i : Nat} : W C T G (n + 1) (.exit i) env objs k = k (.exit i) env objs := rfl
theorem W_goto {i : Nat} : W C T G (n + 1) (.goto i) env objs k = k (.goto i) env objs := rfl
theorem W_ret : W C T G (n + 1) .ret env objs k = k .ret env objs := rfl
theorem evReg_plain {id : Nat} {ops : Array Oper} : evReg C id ops false env objs = if C.vars.contains 999999 = true then evOpsG C ops [] ops.toList env objs else evOps C ops [] ops.toList env objs := by
  unfold evReg; simp only [Bool.not_false, Bool.true_and]; split <;> rfl
theorem evReg_draw {id : Nat} {ops : Array Oper} : evReg C id ops true env objs = (pinAll ((C.pins.lookup id).getD []) env objs).bind fun p => thenP ops p.2.length ((C.pins.lookup id).getD []) (evOps C ops (flagsOf C id true) ops.toList p.1 p.2) := rfl
theorem W_region {id : Nat} {ops : Array Oper} {draw : Bool} : W C T G (n + 1) (.region id ops draw) env objs k = rg (evReg C id ops draw env objs) k := rfl
theorem W_seq {a b : Code} : W C T G (n + 1) (.seq a b) env objs k = W C T G n a env objs (kseq (Wk C T G n b) k) := rfl
theorem W_cond {a b : Code} {x : Operand} : W C T G (n + 1) (.cond x a b) env objs k = wcond (rd1 env x) (rdB env x) (W C T G n a env objs k) (W C T G n b env objs k) := rfl

noncomputable def wloop (C : Cfg) (T : List (Nat × LoopA)) (G : List Lab) (n id : Nat) (d : Code) (env : Env) (objs : Objs) (k : Kon R) : Option LoopA → Option R
  | some .un => wun C objs.length id (Wk C T G n d) k 60 env objs
  | some (.tr an) => (an.un (settle (an.c C) objs.length env objs).1 (settle (an.c C) objs.length env objs).2).bind fun s =>
        (run (fun s => W C T G n d (an.st s).1 (an.st s).2 (kloopT C objs.length id an)) s).bind (selim (fun s => k .normal (an.st s).1 (an.st s).2) fun s => k .ret (an.st s).1 (an.st s).2)
  | some (.ty an) => (an.un (settle (an.c C) objs.length env objs).1 (settle (an.c C) objs.length env objs).2).bind fun s =>
        (run (fun s => W C T G n d (an.st s).1 (an.st s).2 (kloop C objs.length id an k)) s).bind (selim (fun s => k .normal (an.st s).1 (an.st s).2) fun r => some r)
  | none => none

theorem W_loop {d : Code} {id : Nat} : W C T G (n + 1) (.block id (.loop d)) env objs k = wloop C T G n id d env objs k (T.lookup id) := by
  simp only [W]
  cases h : T.lookup id with
  | none => rfl
  | some an =>
    cases an with
    | un => rfl
    | tr an =>
      have hk : koutT an k = selim (fun s => k .normal (an.st s).1 (an.st s).2) fun s => k .ret (an.st s).1 (an.st s).2 := by
        funext x; cases x <;> rfl
      simp only [wloop, hk]
    | ty an =>
    have hk : kout an k = selim (fun s => k .normal (an.st s).1 (an.st s).2) fun r => some r := by
      funext x; cases x <;> rfl
    simp only [wloop, hk]
theorem wloop_some {d : Code} {id : Nat} {an : Ann} : wloop C T G n id d env objs k (some (.ty an)) = (an.un (settle (an.c C) objs.length env objs).1 (settle (an.c C) objs.length env objs).2).bind fun s =>
        (run (fun s => W C T G n d (an.st s).1 (an.st s).2 (kloop C objs.length id an k)) s).bind (selim (fun s => k .normal (an.st s).1 (an.st s).2) fun r => some r) := rfl

theorem W_block_seq {a b : Code} {id : Nat} : W C T G (n + 1) (.block id (.seq a b)) env objs k = W C T G n (.seq a b) env objs (kblk id k) := rfl
theorem W_block_region {i : Nat} {ops : Array Oper} {dr : Bool} {id : Nat} : W C T G (n + 1) (.block id (.region i ops dr)) env objs k = W C T G n (.region i ops dr) env objs (kblk id k) := rfl
theorem W_block_cond {x : Operand} {a b : Code} {id : Nat} : W C T G (n + 1) (.block id (.cond x a b)) env objs k = W C T G n (.cond x a b) env objs (kblk id k) := rfl
theorem W_block_block {b : Code} {i id : Nat} : W C T G (n + 1) (.block id (.block i b)) env objs k = W C T G n (.block i b) env objs (kblk id k) := rfl
theorem W_block_skip {id : Nat} : W C T G (n + 1) (.block id .skip) env objs k = W C T G n .skip env objs (kblk id k) := rfl
theorem W_block_exit {i id : Nat} : W C T G (n + 1) (.block id (.exit i)) env objs k = W C T G n (.exit i) env objs (kblk id k) := rfl
theorem W_block_goto {i id : Nat} : W C T G (n + 1) (.block id (.goto i)) env objs k = W C T G n (.goto i) env objs (kblk id k) := rfl
theorem W_block_ret {id : Nat} : W C T G (n + 1) (.block id .ret) env objs k = W C T G n .ret env objs (kblk id k) := rfl
theorem W_block_scope {b : Code} {id : Nat} : W C T G (n + 1) (.block id (.scope b)) env objs k = W C T G n (.scope b) env objs (kblk id k) := rfl

noncomputable def wscope (C : Cfg) (T : List (Nat × LoopA)) (G : List Lab) (n : Nat) (lb : Lab) (env : Env) (objs : Objs) (k : Kon R) : Option (Code × Code) → Option R
  | some p => if objs.length ≤ lb.L then W C T G n p.1 env objs (kscope C lb (fun s => W C T G n p.2 (lb.an.st s).1 (lb.an.st s).2 (kgoto C lb.L lb.l lb.an k)) k) else none
  | none => none
theorem W_scope {b : Code} {lb : Lab} : W C T [lb] (n + 1) (.scope b) env objs k = wscope C T [lb] n lb env objs k (splitL lb.l b) := by
  simp only [W]
  cases h : splitL lb.l b with
  | none => rfl
  | some p => rfl
theorem wscope_some {lb : Lab} {p q : Code} : wscope C T G n lb env objs k (some (p, q)) = if objs.length ≤ lb.L then W C T G n p env objs (kscope C lb (fun s => W C T G n q (lb.an.st s).1 (lb.an.st s).2 (kgoto C lb.L lb.l lb.an k)) k) else none := rfl

theorem wloop_tr {d : Code} {id : Nat} {an : Ann} : wloop C T G n id d env objs k (some (.tr an)) = (an.un (settle (an.c C) objs.length env objs).1 (settle (an.c C) objs.length env objs).2).bind fun s =>
        (run (fun s => W C T G n d (an.st s).1 (an.st s).2 (kloopT C objs.length id an)) s).bind (selim (fun s => k .normal (an.st s).1 (an.st s).2) fun s => k .ret (an.st s).1 (an.st s).2) := rfl
theorem wloop_un {d : Code} {id : Nat} : wloop C T G n id d env objs k (some .un) = wun C objs.length id (Wk C T G n d) k 60 env objs := rfl
theorem wun_succ {L id m : Nat} {w : Env → Objs → Kon R → Option R} : wun C L id w k (m + 1) env objs = w (settle C L env objs).1 (settle C L env objs).2 (kun (wun C L id w k m) id k) := rfl
theorem kun_n {next : Env → Objs → Option R} {id : Nat} : kun next id k .normal env objs = next env objs := rfl
theorem kun_e {next : Env → Objs → Option R} {id i : Nat} : kun next id k (.exit i) env objs = if i = id then k .normal env objs else k (.exit i) env objs := rfl
theorem kun_r {next : Env → Objs → Option R} {id : Nat} : kun next id k .ret env objs = k .ret env objs := rfl
theorem kun_g {next : Env → Objs → Option R} {id i : Nat} : kun next id k (.goto i) env objs = k (.goto i) env objs := rfl
theorem wcond_some {c : CV} {b : Bool} {p q : Option R} (h : c ≠ .unkB) : wcond (some c) (some b) p q = if b = true then p else q := by
  unfold wcond
  split
  · rename_i hc; injection hc with hc; exact absurd hc h
  · rfl
theorem wcond_B {b : Bool} {p q : Option R} : wcond (some (.d (.sc (.bool b)))) (some b) p q = if b = true then p else q := rfl
theorem wcond_unk {b : Option Bool} {p q : Option R} : wcond (some .unkB) b p q = wboth p q := rfl
theorem wboth_same {p : Option R} : wboth p p = p := by unfold wboth; simp
theorem wboth_some {a b : R} : wboth (some a) (some b) = @ite _ (a = b) (Classical.propDecidable _) (some a) none := by
  unfold wboth
  by_cases h : a = b
  · simp [h]
  · rw [if_neg (by simp [h]), if_neg h]
section
variable {w : Env → Objs → Kon R → Option R} {i id L : Nat} {an : Ann}
theorem Wk_eq {b : Code} : Wk C T G n b env objs k = W C T G n b env objs k := rfl
theorem kseq_n : kseq w k .normal env objs = w env objs k := rfl
theorem kseq_r : kseq w k .ret env objs = k .ret env objs := rfl
theorem kseq_e : kseq w k (.exit i) env objs = k (.exit i) env objs := rfl
theorem kseq_g : kseq w k (.goto i) env objs = k (.goto i) env objs := rfl
theorem kblk_n : kblk id k .normal env objs = k .normal env objs := rfl
theorem kblk_r : kblk id k .ret env objs = k .ret env objs := rfl
theorem kblk_e : kblk id k (.exit i) env objs = if i = id then k .normal env objs else k (.exit i) env objs := rfl
theorem kblk_g : kblk id k (.goto i) env objs = k (.goto i) env objs := rfl
theorem kloop_n : kloop C L id an k .normal env objs = (an.un (settle (an.c C) L env objs).1 (settle (an.c C) L env objs).2).bind fun s => some (.inl s) := rfl
theorem kloop_r : kloop C L id an k .ret env objs = (k .ret env objs).bind fun r => some (.inr (.inr r)) := rfl
theorem kloop_e : kloop C L id an k (.exit i) env objs = if i = id then (an.un (settle (an.c C) L env objs).1 (settle (an.c C) L env objs).2).bind fun s => some (.inr (.inl s)) else (k (.exit i) env objs).bind fun r => some (.inr (.inr r)) := rfl
theorem kloop_g : kloop C L id an k (.goto i) env objs = (k (.goto i) env objs).bind fun r => some (.inr (.inr r)) := rfl
theorem kloopT_n : kloopT C L id an .normal env objs = (an.un (settle (an.c C) L env objs).1 (settle (an.c C) L env objs).2).bind fun s => some (.inl s) := rfl
theorem kloopT_r : kloopT C L id an .ret env objs = (an.un (settle (an.c C) L env objs).1 (settle (an.c C) L env objs).2).bind fun s => some (.inr (.inr s)) := rfl
theorem kloopT_e : kloopT C L id an (.exit i) env objs = if i = id then (an.un (settle (an.c C) L env objs).1 (settle (an.c C) L env objs).2).bind fun s => some (.inr (.inl s)) else none := rfl
theorem kloopT_g : kloopT C L id an (.goto i) env objs = none := rfl
theorem kgoto_n : kgoto C L id an k .normal env objs = (k .normal env objs).bind fun r => some (.inr r) := rfl
theorem kgoto_r : kgoto C L id an k .ret env objs = (k .ret env objs).bind fun r => some (.inr r) := rfl
theorem kgoto_e : kgoto C L id an k (.exit i) env objs = (k (.exit i) env objs).bind fun r => some (.inr r) := rfl
theorem kgoto_g : kgoto C L id an k (.goto i) env objs = if i = id then (an.un (settle C L env objs).1 (settle C L env objs).2).bind fun s => some (.inl s) else none := rfl
theorem kscope_n {lb : Lab} {st : lb.an.σ → Option (lb.an.σ ⊕ R)} : kscope C lb st k .normal env objs = k .normal env objs := rfl
theorem kscope_r {lb : Lab} {st : lb.an.σ → Option (lb.an.σ ⊕ R)} : kscope C lb st k .ret env objs = k .ret env objs := rfl
theorem kscope_e {lb : Lab} {st : lb.an.σ → Option (lb.an.σ ⊕ R)} : kscope C lb st k (.exit i) env objs = k (.exit i) env objs := rfl
theorem kscope_g {lb : Lab} {st : lb.an.σ → Option (lb.an.σ ⊕ R)} : kscope C lb st k (.goto i) env objs = if i = lb.l ∧ objs.length ≤ lb.L then (lb.an.un (settle C lb.L env objs).1 (settle C lb.L env objs).2).bind fun s => run st s else none := rfl
theorem kinl_n {fn : Func} : kinl C fn .normal env objs = (resVs C env objs fn.results.toList).bind fun vs => some (packV vs, objs) := rfl
theorem kinl_r {fn : Func} : kinl C fn .ret env objs = (resVs C env objs fn.results.toList).bind fun vs => some (packV vs, objs) := rfl
theorem kfin_n {α : Type} {fn : Func} {r : Res α} : kfin C fn r .normal env objs = (evRes C fn.results.toList env objs).bind r.dec := rfl
theorem kfin_r {α : Type} {fn : Func} {r : Res α} : kfin C fn r .ret env objs = (evRes C fn.results.toList env objs).bind r.dec := rfl
end

section
variable {α β : Type}
theorem bind_ite {c : Prop} [Decidable c] {x y : Option α} {f : α → Option β} : (if c then x else y).bind f = if c then x.bind f else y.bind f := by split <;> rfl
theorem rg_some {e : Env} {o : Objs} : rg (some (e, o)) k = k .normal e o := rfl
theorem rg_none : rg none k = none := rfl
theorem rg_ite {c : Prop} [Decidable c] {x y : Option (Env × Objs)} : rg (if c then x else y) k = if c then rg x k else rg y k := by split <;> rfl
theorem rg_bind {x : Option α} {f : α → Option (Env × Objs)} : rg (x.bind f) k = x.bind fun a => rg (f a) k := by cases x <;> rfl
end

section
variable {ops : Array Oper} {fl : List Bool} {os : List Oper} {o : Oper} {strict : Bool}
def thenOps (C : Cfg) (ops : Array Oper) (fl : List Bool) (os : List Oper) (x : Option (Env × Objs)) : Option (Env × Objs) := x.bind fun p => evOps C ops fl os p.1 p.2
theorem evOps_nil : evOps C ops fl [] env objs = some (env, objs) := by unfold evOps; rfl
theorem evOps_cons : evOps C ops fl (o :: os) env objs = thenOps C ops fl.tail os (evOne C (fl.headD false) ops o env objs) := by
  unfold thenOps
  rw [evOps]
  cases evOne C (fl.headD false) ops o env objs <;> rfl
theorem thenOps_some {e : Env} {ob : Objs} : thenOps C ops fl os (some (e, ob)) = evOps C ops fl os e ob := rfl
theorem thenOps_none : thenOps C ops fl os none = none := rfl
theorem thenOps_ite {c : Prop} [Decidable c] {x y : Option (Env × Objs)} : thenOps C ops fl os (if c then x else y) = if c then thenOps C ops fl os x else thenOps C ops fl os y := by split <;> rfl
theorem thenOps_bind {α : Type} {x : Option α} {f : α → Option (Env × Objs)} : thenOps C ops fl os (x.bind f) = x.bind fun a => thenOps C ops fl os (f a) := by cases x <;> rfl

def thenPut (env : Env) (d : Option Nat) (x : Option (TV × Objs)) : Option (Env × Objs) := x.bind fun p => some (putE env d p.1, p.2)
theorem thenPut_some {d : Option Nat} {v : TV} {ob : Objs} : thenPut env d (some (v, ob)) = some (putE env d v, ob) := rfl
theorem thenPut_none {d : Option Nat} : thenPut env d none = none := rfl
theorem thenPut_ite {d : Option Nat} {c : Prop} [Decidable c] {x y : Option (TV × Objs)} : thenPut env d (if c then x else y) = if c then thenPut env d x else thenPut env d y := by split <;> rfl
theorem thenPut_bind {d : Option Nat} {α : Type} {x : Option α} {f : α → Option (TV × Objs)} : thenPut env d (x.bind f) = x.bind fun a => thenPut env d (f a) := by cases x <;> rfl

theorem evOne_plain (h : o.guard = none) : evOne C strict ops o env objs = thenPut env o.dst (evOp C strict o env objs) := by
  unfold evOne guardOf
  rw [h]
  simp only
  cases evOp C strict o env objs <;> rfl
def evGd (C : Cfg) (strict : Bool) (o : Oper) (env : Env) (objs : Objs) : Option Bool → Option (Env × Objs)
  | some b => if b = true then thenPut env o.dst (evOp C strict o env objs) else some (putE env o.dst (.tup []), objs)
  | none => none
theorem evOne_guard : evOne C strict ops o env objs = evGd C strict o env objs (guardOf ops env o) := by
  unfold evOne
  cases guardOf ops env o with
  | none => rfl
  | some b =>
    cases b with
    | false => rfl
    | true => simp only [evGd]; cases evOp C strict o env objs <;> rfl
theorem evGd_some {b : Bool} : evGd C strict o env objs (some b) = if b = true then thenPut env o.dst (evOp C strict o env objs) else some (putE env o.dst (.tup []), objs) := rfl

def gdRun (C : Cfg) (ops : Array Oper) (fl : List Bool) (o : Oper) (os : List Oper) (objs : Objs) (v c : Bool) (env : Env) : Option (Env × Objs) :=
  if (c == v) = true then thenOps C ops fl.tail os (thenPut env o.dst (evOp C (fl.headD false) o env objs)) else evOps C ops fl.tail os (putE env o.dst (.tup [])) objs
def gd1 (C : Cfg) (ops : Array Oper) (fl : List Bool) (o : Oper) (os : List Oper) (objs : Objs) (v : Bool) (env : Env) (t : Nat) : Option TV → Option (Env × Objs)
  | some (.v (.one (.d (.sc (.bool b))))) => if b = true then gdRun C ops fl o os objs v true (env.set t (.v (.one (.d (.sc (.bool true)))))) else gdRun C ops fl o os objs v false (env.set t (.v (.one (.d (.sc (.bool false))))))
  | some (.tup []) => evOps C ops fl.tail os (putE env o.dst (.tup [])) objs
  | _ => none
def gd0 (C : Cfg) (ops : Array Oper) (fl : List Bool) (o : Oper) (os : List Oper) (objs : Objs) (v : Bool) (env : Env) : Option Nat → Option (Env × Objs)
  | some t => gd1 C ops fl o os objs v env t env[t]?
  | none => none
theorem set_same {l : Env} {t : Nat} {x : TV} (h : l[t]? = some x) : l.set t x = l := by
  apply List.ext_getElem?
  intro i
  rw [List.getElem?_set]
  split
  · rename_i hi; subst hi
    have := (List.getElem?_eq_some_iff.1 h).1
    rw [if_pos this, h]
  · rfl
theorem evOps_guard {j : Nat} {v : Bool} {d : Option Nat} {p : Op} {t : Nat} {ps : String} {af : Array Edge} : evOps C ops fl (⟨d, p, t, ps, af, some (j, v)⟩ :: os) env objs = gd0 C ops fl ⟨d, p, t, ps, af, some (j, v)⟩ os objs v env ((ops[j]?).bind (·.dst)) := by
  rw [evOps_cons, evOne_guard]
  unfold guardOf
  simp only
  cases h : (ops[j]?).bind (·.dst) with
  | none => rfl
  | some u =>
    simp only [gd0]
    cases hv : env[u]? with
    | none => rfl
    | some x =>
      cases x with
      | unk => rfl
      | tup l => cases l <;> rfl
      | v y =>
        cases y with
        | agg l => rfl
        | one c =>
          cases c with
          | d z =>
            cases z with
            | sl l => rfl
            | sc w =>
              cases w with
              | bool b =>
                simp only [gd1, evGd_some]
                cases b with
                | true =>
                  rw [set_same hv]
                  simp only [gdRun, if_true]
                  cases v <;> rfl
                | false =>
                  rw [set_same hv]
                  simp only [gdRun, Bool.false_eq_true, if_false]
                  cases v <;> rfl
              | _ => rfl
          | _ => rfl

def thenOwn (l : List (Nat × Nat × Nat)) (x : Option (TV × Objs)) : Option (TV × Objs) := x.bind fun p => some (ownV l p.1 p.2)
theorem thenOwn_some {l : List (Nat × Nat × Nat)} {v : TV} {ob : Objs} : thenOwn l (some (v, ob)) = some (ownV l v ob) := rfl
theorem thenOwn_none {l : List (Nat × Nat × Nat)} : thenOwn l none = none := rfl
theorem thenOwn_ite {l : List (Nat × Nat × Nat)} {c : Prop} [Decidable c] {x y : Option (TV × Objs)} : thenOwn l (if c then x else y) = if c then thenOwn l x else thenOwn l y := by split <;> rfl
theorem thenOwn_bind {l : List (Nat × Nat × Nat)} {α : Type} {x : Option α} {f : α → Option (TV × Objs)} : thenOwn l (x.bind f) = x.bind fun a => thenOwn l (f a) := by cases x <;> rfl

def pureOp : Op → Bool
  | .move _ | .assign _ | .pick .. | .build .. | .binOp .. | .unOp .. | .nilCheck _ | .fieldAddr .. | .field .. | .indexAddr .. | .index .. | .extract .. => true
  | _ => false
def asP (objs : Objs) (x : Option TV) : Option (TV × Objs) := x.bind fun v => some (v, objs)
theorem asP_some {v : TV} : asP objs (some v) = some (v, objs) := rfl
theorem asP_none : asP objs none = none := rfl
theorem asP_ite {c : Prop} [Decidable c] {x y : Option TV} : asP objs (if c then x else y) = if c then asP objs x else asP objs y := by split <;> rfl
theorem asP_bind {α : Type} {x : Option α} {f : α → Option TV} : asP objs (x.bind f) = x.bind fun a => asP objs (f a) := by cases x <;> rfl
theorem pure_loud (h : pureOp o.op = true) : evLoud C strict o env objs = none := by
  unfold evLoud
  cases ho : o.op <;> first | rfl | (rw [ho] at h; cases h)
theorem evOp_pure (h : pureOp o.op = true) : evOp C false o env objs = thenOwn (ownsOf C o.dst) (asP objs (evBlind C o env)) := by
  unfold evOp
  rw [pure_loud h]
  cases evBlind C o env <;> rfl
theorem evOp_pure_s (h : pureOp o.op = true) : evOp C true o env objs = asP objs (evBlind C o env) := by
  unfold evOp
  rw [pure_loud h]
  cases evBlind C o env <;> rfl
def loudOp : Op → Bool
  | .alloc .. | .box .. | .load .. | .store .. | .buildSlice .. | .makeSlice .. => true
  | _ => false
theorem loud_blind (h : loudOp o.op = true) : evBlind C o env = none := by
  unfold evBlind
  cases ho : o.op <;> first | rfl | (rw [ho] at h; cases h)
theorem evOp_loud (h : loudOp o.op = true) : evOp C false o env objs = thenOwn (ownsOf C o.dst) (evLoud C false o env objs) := by
  unfold evOp
  rw [loud_blind h]
  cases evLoud C false o env objs <;> rfl
theorem evOp_loud_s (h : loudOp o.op = true) : evOp C true o env objs = evLoud C true o env objs := by
  unfold evOp
  rw [loud_blind h]
theorem evOp_move {d : Option Nat} {x0 : Operand} {t : Nat} {ps : String} {af : Array Edge} {g : Option (Nat × Bool)} : evOp C false ⟨d, .move x0, t, ps, af, g⟩ env objs = thenOwn (ownsOf C d) (asP objs (evBlind C ⟨d, .move x0, t, ps, af, g⟩ env)) := evOp_pure rfl
theorem evOp_move_s {d : Option Nat} {x0 : Operand} {t : Nat} {ps : String} {af : Array Edge} {g : Option (Nat × Bool)} : evOp C true ⟨d, .move x0, t, ps, af, g⟩ env objs = asP objs (evBlind C ⟨d, .move x0, t, ps, af, g⟩ env) := evOp_pure_s rfl
theorem evOp_assign {d : Option Nat} {x0 : Operand} {t : Nat} {ps : String} {af : Array Edge} {g : Option (Nat × Bool)} : evOp C false ⟨d, .assign x0, t, ps, af, g⟩ env objs = thenOwn (ownsOf C d) (asP objs (evBlind C ⟨d, .assign x0, t, ps, af, g⟩ env)) := evOp_pure rfl
theorem evOp_assign_s {d : Option Nat} {x0 : Operand} {t : Nat} {ps : String} {af : Array Edge} {g : Option (Nat × Bool)} : evOp C true ⟨d, .assign x0, t, ps, af, g⟩ env objs = asP objs (evBlind C ⟨d, .assign x0, t, ps, af, g⟩ env) := evOp_pure_s rfl
theorem evOp_pick {d : Option Nat} {x0 : Operand} {x1 : Operand} {x2 : Operand} {t : Nat} {ps : String} {af : Array Edge} {g : Option (Nat × Bool)} : evOp C false ⟨d, .pick x0 x1 x2, t, ps, af, g⟩ env objs = thenOwn (ownsOf C d) (asP objs (evBlind C ⟨d, .pick x0 x1 x2, t, ps, af, g⟩ env)) := evOp_pure rfl
theorem evOp_pick_s {d : Option Nat} {x0 : Operand} {x1 : Operand} {x2 : Operand} {t : Nat} {ps : String} {af : Array Edge} {g : Option (Nat × Bool)} : evOp C true ⟨d, .pick x0 x1 x2, t, ps, af, g⟩ env objs = asP objs (evBlind C ⟨d, .pick x0 x1 x2, t, ps, af, g⟩ env) := evOp_pure_s rfl
theorem evOp_build {d : Option Nat} {x0 : Nat} {x1 : Array (Nat × Operand)} {t : Nat} {ps : String} {af : Array Edge} {g : Option (Nat × Bool)} : evOp C false ⟨d, .build x0 x1, t, ps, af, g⟩ env objs = thenOwn (ownsOf C d) (asP objs (evBlind C ⟨d, .build x0 x1, t, ps, af, g⟩ env)) := evOp_pure rfl
theorem evOp_build_s {d : Option Nat} {x0 : Nat} {x1 : Array (Nat × Operand)} {t : Nat} {ps : String} {af : Array Edge} {g : Option (Nat × Bool)} : evOp C true ⟨d, .build x0 x1, t, ps, af, g⟩ env objs = asP objs (evBlind C ⟨d, .build x0 x1, t, ps, af, g⟩ env) := evOp_pure_s rfl
theorem evOp_binOp {d : Option Nat} {x0 : BinOp} {x1 : Nat} {x2 : Operand} {x3 : Operand} {x4 : Nat} {t : Nat} {ps : String} {af : Array Edge} {g : Option (Nat × Bool)} : evOp C false ⟨d, .binOp x0 x1 x2 x3 x4, t, ps, af, g⟩ env objs = thenOwn (ownsOf C d) (asP objs (evBlind C ⟨d, .binOp x0 x1 x2 x3 x4, t, ps, af, g⟩ env)) := evOp_pure rfl
theorem evOp_binOp_s {d : Option Nat} {x0 : BinOp} {x1 : Nat} {x2 : Operand} {x3 : Operand} {x4 : Nat} {t : Nat} {ps : String} {af : Array Edge} {g : Option (Nat × Bool)} : evOp C true ⟨d, .binOp x0 x1 x2 x3 x4, t, ps, af, g⟩ env objs = asP objs (evBlind C ⟨d, .binOp x0 x1 x2 x3 x4, t, ps, af, g⟩ env) := evOp_pure_s rfl
theorem evOp_unOp {d : Option Nat} {x0 : UnOp} {x1 : Nat} {x2 : Operand} {t : Nat} {ps : String} {af : Array Edge} {g : Option (Nat × Bool)} : evOp C false ⟨d, .unOp x0 x1 x2, t, ps, af, g⟩ env objs = thenOwn (ownsOf C d) (asP objs (evBlind C ⟨d, .unOp x0 x1 x2, t, ps, af, g⟩ env)) := evOp_pure rfl
theorem evOp_unOp_s {d : Option Nat} {x0 : UnOp} {x1 : Nat} {x2 : Operand} {t : Nat} {ps : String} {af : Array Edge} {g : Option (Nat × Bool)} : evOp C true ⟨d, .unOp x0 x1 x2, t, ps, af, g⟩ env objs = asP objs (evBlind C ⟨d, .unOp x0 x1 x2, t, ps, af, g⟩ env) := evOp_pure_s rfl
theorem evOp_nilCheck {d : Option Nat} {x0 : Operand} {t : Nat} {ps : String} {af : Array Edge} {g : Option (Nat × Bool)} : evOp C false ⟨d, .nilCheck x0, t, ps, af, g⟩ env objs = thenOwn (ownsOf C d) (asP objs (evBlind C ⟨d, .nilCheck x0, t, ps, af, g⟩ env)) := evOp_pure rfl
theorem evOp_nilCheck_s {d : Option Nat} {x0 : Operand} {t : Nat} {ps : String} {af : Array Edge} {g : Option (Nat × Bool)} : evOp C true ⟨d, .nilCheck x0, t, ps, af, g⟩ env objs = asP objs (evBlind C ⟨d, .nilCheck x0, t, ps, af, g⟩ env) := evOp_pure_s rfl
theorem evOp_fieldAddr {d : Option Nat} {x0 : Nat} {x1 : Operand} {x2 : Nat} {t : Nat} {ps : String} {af : Array Edge} {g : Option (Nat × Bool)} : evOp C false ⟨d, .fieldAddr x0 x1 x2, t, ps, af, g⟩ env objs = thenOwn (ownsOf C d) (asP objs (evBlind C ⟨d, .fieldAddr x0 x1 x2, t, ps, af, g⟩ env)) := evOp_pure rfl
theorem evOp_fieldAddr_s {d : Option Nat} {x0 : Nat} {x1 : Operand} {x2 : Nat} {t : Nat} {ps : String} {af : Array Edge} {g : Option (Nat × Bool)} : evOp C true ⟨d, .fieldAddr x0 x1 x2, t, ps, af, g⟩ env objs = asP objs (evBlind C ⟨d, .fieldAddr x0 x1 x2, t, ps, af, g⟩ env) := evOp_pure_s rfl
theorem evOp_field {d : Option Nat} {x0 : Nat} {x1 : Operand} {x2 : Nat} {t : Nat} {ps : String} {af : Array Edge} {g : Option (Nat × Bool)} : evOp C false ⟨d, .field x0 x1 x2, t, ps, af, g⟩ env objs = thenOwn (ownsOf C d) (asP objs (evBlind C ⟨d, .field x0 x1 x2, t, ps, af, g⟩ env)) := evOp_pure rfl
theorem evOp_field_s {d : Option Nat} {x0 : Nat} {x1 : Operand} {x2 : Nat} {t : Nat} {ps : String} {af : Array Edge} {g : Option (Nat × Bool)} : evOp C true ⟨d, .field x0 x1 x2, t, ps, af, g⟩ env objs = asP objs (evBlind C ⟨d, .field x0 x1 x2, t, ps, af, g⟩ env) := evOp_pure_s rfl
theorem evOp_indexAddr {d : Option Nat} {x0 : Nat} {x1 : Operand} {x2 : Operand} {t : Nat} {ps : String} {af : Array Edge} {g : Option (Nat × Bool)} : evOp C false ⟨d, .indexAddr x0 x1 x2, t, ps, af, g⟩ env objs = thenOwn (ownsOf C d) (asP objs (evBlind C ⟨d, .indexAddr x0 x1 x2, t, ps, af, g⟩ env)) := evOp_pure rfl
theorem evOp_indexAddr_s {d : Option Nat} {x0 : Nat} {x1 : Operand} {x2 : Operand} {t : Nat} {ps : String} {af : Array Edge} {g : Option (Nat × Bool)} : evOp C true ⟨d, .indexAddr x0 x1 x2, t, ps, af, g⟩ env objs = asP objs (evBlind C ⟨d, .indexAddr x0 x1 x2, t, ps, af, g⟩ env) := evOp_pure_s rfl
theorem evOp_index {d : Option Nat} {x0 : Nat} {x1 : Operand} {x2 : Operand} {t : Nat} {ps : String} {af : Array Edge} {g : Option (Nat × Bool)} : evOp C false ⟨d, .index x0 x1 x2, t, ps, af, g⟩ env objs = thenOwn (ownsOf C d) (asP objs (evBlind C ⟨d, .index x0 x1 x2, t, ps, af, g⟩ env)) := evOp_pure rfl
theorem evOp_index_s {d : Option Nat} {x0 : Nat} {x1 : Operand} {x2 : Operand} {t : Nat} {ps : String} {af : Array Edge} {g : Option (Nat × Bool)} : evOp C true ⟨d, .index x0 x1 x2, t, ps, af, g⟩ env objs = asP objs (evBlind C ⟨d, .index x0 x1 x2, t, ps, af, g⟩ env) := evOp_pure_s rfl
theorem evOp_extract {d : Option Nat} {x0 : Operand} {x1 : Nat} {t : Nat} {ps : String} {af : Array Edge} {g : Option (Nat × Bool)} : evOp C false ⟨d, .extract x0 x1, t, ps, af, g⟩ env objs = thenOwn (ownsOf C d) (asP objs (evBlind C ⟨d, .extract x0 x1, t, ps, af, g⟩ env)) := evOp_pure rfl
theorem evOp_extract_s {d : Option Nat} {x0 : Operand} {x1 : Nat} {t : Nat} {ps : String} {af : Array Edge} {g : Option (Nat × Bool)} : evOp C true ⟨d, .extract x0 x1, t, ps, af, g⟩ env objs = asP objs (evBlind C ⟨d, .extract x0 x1, t, ps, af, g⟩ env) := evOp_pure_s rfl
theorem evOp_alloc {d : Option Nat} {x0 : Nat} {t : Nat} {ps : String} {af : Array Edge} {g : Option (Nat × Bool)} : evOp C false ⟨d, .alloc x0, t, ps, af, g⟩ env objs = thenOwn (ownsOf C d) (evLoud C false ⟨d, .alloc x0, t, ps, af, g⟩ env objs) := evOp_loud rfl
theorem evOp_alloc_s {d : Option Nat} {x0 : Nat} {t : Nat} {ps : String} {af : Array Edge} {g : Option (Nat × Bool)} : evOp C true ⟨d, .alloc x0, t, ps, af, g⟩ env objs = evLoud C true ⟨d, .alloc x0, t, ps, af, g⟩ env objs := evOp_loud_s rfl
theorem evOp_box {d : Option Nat} {x0 : Nat} {x1 : Operand} {t : Nat} {ps : String} {af : Array Edge} {g : Option (Nat × Bool)} : evOp C false ⟨d, .box x0 x1, t, ps, af, g⟩ env objs = thenOwn (ownsOf C d) (evLoud C false ⟨d, .box x0 x1, t, ps, af, g⟩ env objs) := evOp_loud rfl
theorem evOp_box_s {d : Option Nat} {x0 : Nat} {x1 : Operand} {t : Nat} {ps : String} {af : Array Edge} {g : Option (Nat × Bool)} : evOp C true ⟨d, .box x0 x1, t, ps, af, g⟩ env objs = evLoud C true ⟨d, .box x0 x1, t, ps, af, g⟩ env objs := evOp_loud_s rfl
theorem evOp_load {d : Option Nat} {x0 : Nat} {x1 : Operand} {t : Nat} {ps : String} {af : Array Edge} {g : Option (Nat × Bool)} : evOp C false ⟨d, .load x0 x1, t, ps, af, g⟩ env objs = thenOwn (ownsOf C d) (evLoud C false ⟨d, .load x0 x1, t, ps, af, g⟩ env objs) := evOp_loud rfl
theorem evOp_load_s {d : Option Nat} {x0 : Nat} {x1 : Operand} {t : Nat} {ps : String} {af : Array Edge} {g : Option (Nat × Bool)} : evOp C true ⟨d, .load x0 x1, t, ps, af, g⟩ env objs = evLoud C true ⟨d, .load x0 x1, t, ps, af, g⟩ env objs := evOp_loud_s rfl
theorem evOp_store {d : Option Nat} {x0 : Nat} {x1 : Operand} {x2 : Operand} {t : Nat} {ps : String} {af : Array Edge} {g : Option (Nat × Bool)} : evOp C false ⟨d, .store x0 x1 x2, t, ps, af, g⟩ env objs = thenOwn (ownsOf C d) (evLoud C false ⟨d, .store x0 x1 x2, t, ps, af, g⟩ env objs) := evOp_loud rfl
theorem evOp_store_s {d : Option Nat} {x0 : Nat} {x1 : Operand} {x2 : Operand} {t : Nat} {ps : String} {af : Array Edge} {g : Option (Nat × Bool)} : evOp C true ⟨d, .store x0 x1 x2, t, ps, af, g⟩ env objs = evLoud C true ⟨d, .store x0 x1 x2, t, ps, af, g⟩ env objs := evOp_loud_s rfl
theorem evOp_buildSlice {d : Option Nat} {x0 : Nat} {x1 : Nat} {x2 : Array (Nat × Operand)} {t : Nat} {ps : String} {af : Array Edge} {g : Option (Nat × Bool)} : evOp C false ⟨d, .buildSlice x0 x1 x2, t, ps, af, g⟩ env objs = thenOwn (ownsOf C d) (evLoud C false ⟨d, .buildSlice x0 x1 x2, t, ps, af, g⟩ env objs) := evOp_loud rfl
theorem evOp_buildSlice_s {d : Option Nat} {x0 : Nat} {x1 : Nat} {x2 : Array (Nat × Operand)} {t : Nat} {ps : String} {af : Array Edge} {g : Option (Nat × Bool)} : evOp C true ⟨d, .buildSlice x0 x1 x2, t, ps, af, g⟩ env objs = evLoud C true ⟨d, .buildSlice x0 x1 x2, t, ps, af, g⟩ env objs := evOp_loud_s rfl
theorem evOp_makeSlice {d : Option Nat} {x0 : Nat} {x1 : Operand} {x2 : Operand} {t : Nat} {ps : String} {af : Array Edge} {g : Option (Nat × Bool)} : evOp C false ⟨d, .makeSlice x0 x1 x2, t, ps, af, g⟩ env objs = thenOwn (ownsOf C d) (evLoud C false ⟨d, .makeSlice x0 x1 x2, t, ps, af, g⟩ env objs) := evOp_loud rfl
theorem evOp_makeSlice_s {d : Option Nat} {x0 : Nat} {x1 : Operand} {x2 : Operand} {t : Nat} {ps : String} {af : Array Edge} {g : Option (Nat × Bool)} : evOp C true ⟨d, .makeSlice x0 x1 x2, t, ps, af, g⟩ env objs = evLoud C true ⟨d, .makeSlice x0 x1 x2, t, ps, af, g⟩ env objs := evOp_loud_s rfl
def orLoud (C : Cfg) (strict : Bool) (o : Oper) (env : Env) (objs : Objs) : Option TV → Option (TV × Objs)
  | some v => some (v, objs)
  | none => evLoud C strict o env objs
theorem orLoud_some {v : TV} : orLoud C strict o env objs (some v) = some (v, objs) := rfl
theorem orLoud_none : orLoud C strict o env objs none = evLoud C strict o env objs := rfl
theorem orLoud_ite {c : Prop} [Decidable c] {x y : Option TV} : orLoud C strict o env objs (if c then x else y) = if c then orLoud C strict o env objs x else orLoud C strict o env objs y := by split <;> rfl
theorem evOp_else : evOp C false o env objs = thenOwn (ownsOf C o.dst) (orLoud C false o env objs (evBlind C o env)) := by
  unfold evOp
  cases evBlind C o env with
  | some v => rfl
  | none => simp only [orLoud]; cases evLoud C false o env objs <;> rfl
theorem evOp_else_s : evOp C true o env objs = orLoud C true o env objs (evBlind C o env) := by
  unfold evOp
  cases evBlind C o env with
  | some v => rfl
  | none => rfl
end

theorem txL_bytes (l : List UInt8) : txL (l.map fun b => [DV.sc (.int .u8 b.toNat)]) = some l := by
  induction l with
  | nil => rfl
  | cons b l ih =>
    have h1 : (0 : Int) ≤ (b.toNat : Int) ∧ (b.toNat : Int) < 256 := by have := b.toNat_lt; omega
    simp only [List.map_cons, txL, if_pos h1, ih, Option.map_some]
    simp
theorem txL_app : ∀ (xs : List (List DV)) (l : List UInt8), txL (xs ++ l.map fun b => [DV.sc (.int .u8 b.toNat)]) = (txL xs).map (· ++ l)
  | [], l => by rw [List.nil_append, txL_bytes]; simp [txL]
  | x :: xs, l => by
    rw [List.cons_append]
    unfold txL
    split
    · cases ‹_ :: _ = []›
    · rename_i n ys heq
      injection heq with h1 h2; subst h1; subst h2
      simp only
      split
      · rw [txL_app xs l]; cases txL xs <;> simp
      · rfl
    · rename_i h1 h2
      split
      · cases ‹_ :: _ = []›
      · rename_i n ys heq
        injection heq with h3 h4; subst h3; subst h4
        exact absurd rfl (h2 _ _)
      · rfl
theorem txt_nil : txt [] = some ByteArray.empty := rfl
theorem txt_bytes (s : ByteArray) : txt (bytesOf s) = some s := by
  unfold txt bytesOf; rw [txL_bytes]; rfl
theorem txt_app (xs : List (List DV)) (s : ByteArray) : txt (xs ++ bytesOf s) = (txt xs).map (· ++ s) := by
  unfold txt bytesOf; rw [txL_app]
  cases txL xs with
  | none => rfl
  | some l =>
    simp only [Option.map_some, Option.some.injEq]
    apply ByteArray.ext
    simp [ByteArray.data_append]
theorem txL_pre : ∀ (l : List UInt8) (ys : List (List DV)), txL ((l.map fun b => [DV.sc (.int .u8 b.toNat)]) ++ ys) = (txL ys).map (l ++ ·)
  | [], ys => by simp
  | b :: l, ys => by
    have h1 : (0 : Int) ≤ (b.toNat : Int) ∧ (b.toNat : Int) < 256 := by have := b.toNat_lt; omega
    simp only [List.map_cons, List.cons_append, txL, if_pos h1, txL_pre l ys]
    cases txL ys <;> simp
theorem txt_pre (s : ByteArray) (ys : List (List DV)) : txt (bytesOf s ++ ys) = (txt ys).map (s ++ ·) := by
  unfold txt bytesOf; rw [txL_pre]
  cases txL ys with
  | none => rfl
  | some l =>
    simp only [Option.map_some, Option.some.injEq]
    apply ByteArray.ext
    simp [ByteArray.data_append]
theorem txt_b (s : ByteArray) : txt ((byts s).map uC) = some s := by rw [← bytesOf_eq]; exact txt_bytes s
theorem txt_bs (s : ByteArray) (ys : List (List DV)) : txt ((byts s).map uC ++ ys) = (txt ys).map (s ++ ·) := by rw [← bytesOf_eq]; exact txt_pre s ys
theorem bytesOf_length (s : ByteArray) : (bytesOf s).length = s.size := bytesOf_len s

section
theorem evIndexAddr_sl {t : Nat} {xs : List (List DV)} {i : Int} : evIndexAddr C t (some (.d (.sl xs))) (some i) = (C.ti t).bind fun ti => match ti.kind with
    | .slice e => (C.ti e).bind fun te => if 0 ≤ i then (xs[i.toNat]?).bind fun x => if x.length = te.size then some (.v (.one (.fp x))) else none else none
    | _ => none := by
  unfold evIndexAddr
  cases h1 : C.ti t with
  | none => rfl
  | some ti =>
    simp only [Option.bind_some]
    cases hk : ti.kind <;> try rfl
    rename_i e
    simp only
    cases h2 : C.ti e with
    | none => rfl
    | some te =>
      simp only [Option.bind_some]
      split
      · cases xs[i.toNat]? <;> rfl
      · rfl
theorem evIndexAddr_map {α : Type} {t : Nat} {l : List α} {f : α → List DV} {i : Int} : evIndexAddr C t (some (.d (.sl (l.map f)))) (some i) = (C.ti t).bind fun ti => match ti.kind with
    | .slice e => (C.ti e).bind fun te => if 0 ≤ i then (l[i.toNat]?).bind fun x => if (f x).length = te.size then some (.v (.one (.fp (f x)))) else none else none
    | _ => none := by
  rw [evIndexAddr_sl]
  congr 1; funext ti
  split
  · congr 1; funext te
    split
    · rw [List.getElem?_map]; cases l[i.toNat]? <;> rfl
    · rfl
  · rfl
theorem evIndexAddr_own {t id n : Nat} {i : Int} : evIndexAddr C t (some (.own id n)) (some i) = (C.ti t).bind fun ti => match ti.kind with
    | .slice e => (C.ti e).bind fun te => if 0 ≤ i ∧ i < n then some (.v (.one (.ptr id n (i.toNat * te.size)))) else none
    | _ => none := by
  unfold evIndexAddr
  cases h1 : C.ti t with
  | none => rfl
  | some ti =>
    simp only [Option.bind_some]
    cases hk : ti.kind <;> try rfl
    rename_i e
    simp only
    cases h2 : C.ti e <;> rfl
theorem evIndexAddr_arr {t id n off : Nat} {i : Int} : evIndexAddr C t (some (.ptr id n off)) (some i) = (C.ti t).bind fun ti => match ti.kind with
    | .array m e => (C.ti e).bind fun te => if 0 ≤ i ∧ i < m then some (.v (.one (.ptr id n (off + i.toNat * te.size)))) else none
    | _ => none := by
  unfold evIndexAddr
  cases h1 : C.ti t with
  | none => rfl
  | some ti =>
    simp only [Option.bind_some]
    cases hk : ti.kind <;> try rfl
    rename_i m e
    simp only
    cases h2 : C.ti e <;> rfl
theorem evIndexAddr_vw {t id n lo hi k : Nat} {i : Int} : evIndexAddr C t (some (.vw id n lo hi k)) (some i) = (C.ti t).bind fun ti => match ti.kind with
    | .slice e => (C.ti e).bind fun te => if te.size = k ∧ 0 ≤ i ∧ i < (hi : Int) - lo then some (.v (.one (.ptr id n ((lo + i.toNat) * te.size)))) else none
    | _ => none := by
  unfold evIndexAddr
  cases h1 : C.ti t with
  | none => rfl
  | some ti =>
    simp only [Option.bind_some]
    cases hk : ti.kind <;> try rfl
    rename_i e
    simp only
    cases h2 : C.ti e <;> rfl
theorem evIndex_agg {t : Nat} {cs : List CV} {i : Int} : evIndex C t (some (.v (.agg cs))) (some i) = (C.ti t).bind fun ti => match ti.kind with
    | .array m e => (C.ti e).bind fun te => if 0 ≤ i ∧ i < m ∧ i.toNat * te.size + te.size ≤ cs.length then mk1 te.agg ((cs.drop (i.toNat * te.size)).take te.size) else none
    | _ => none := by
  unfold evIndex
  cases h1 : C.ti t with
  | none => rfl
  | some ti =>
    simp only [Option.bind_some]
    cases hk : ti.kind <;> try rfl
    rename_i m e
    simp only
    cases h2 : C.ti e <;> rfl
theorem binV_bool {op : BinOp} {t : Nat} {a b : Bool} : binV C op t (.v (.one (.d (.sc (.bool a))))) (.v (.one (.d (.sc (.bool b))))) = binB op (C.ti t) a b := rfl
theorem binV_agg {op : BinOp} {t : Nat} {a b : List CV} : binV C op t (.v (.agg a)) (.v (.agg b)) = binA C op t a b := rfl
theorem binV_nil {op : BinOp} {t : Nat} {c : CV} (h : ∀ v, c ≠ .d (.sc v)) : binV C op t (.v (.one c)) (.v (.one .nil)) = binN C op t c := by
  unfold binV
  cases c with
  | d x =>
    cases x with
    | sc v => exact absurd rfl (h v)
    | sl xs => rfl
  | _ => rfl
theorem nilC_map {α : Type} {l : List α} {f : α → List DV} [Decidable (l = [])] : nilC (.d (.sl (l.map f))) = if l = [] then some .unkB else some (.d (.sc (.bool false))) := by
  cases l with
  | nil => simp
  | cons x l => simp
theorem nilC_nil : nilC .nil = some (.d (.sc (.bool true))) := rfl
theorem nilC_e : nilC (.d (.sl [])) = some .unkB := rfl
theorem nilC_cons {x : List DV} {xs : List (List DV)} : nilC (.d (.sl (x :: xs))) = some (.d (.sc (.bool false))) := rfl
theorem nilC_vw {id n lo hi k : Nat} : nilC (.vw id n lo hi k) = if lo < hi then some (.d (.sc (.bool false))) else some .unkB := rfl
theorem nilC_own {id n : Nat} : nilC (.own id n) = if 0 < n then some (.d (.sc (.bool false))) else some .unkB := rfl
theorem omap_ite {α β : Type} {c : Prop} [Decidable c] {x y : Option α} {f : α → β} : (if c then x else y).map f = if c then x.map f else y.map f := by split <;> rfl
theorem loadC_fp {size : Nat} {cs : List DV} : loadC objs size (.fp cs) = if size ≤ cs.length then some (ddv (cs.take size)) else none := rfl
theorem evIndex_str {t : Nat} {s : ByteArray} {i : Int} : evIndex C t (some (.v (.one (.d (.sc (.string s)))))) (some i) = (C.ti t).bind fun ti => match ti.kind with
    | .str => if 0 ≤ i then (s[i.toNat]?).bind fun b => some (sv (.int .u8 b.toNat)) else none
    | _ => none := by
  unfold evIndex
  cases h1 : C.ti t with
  | none => rfl
  | some ti =>
    simp only [Option.bind_some]
    cases hk : ti.kind <;> try rfl
    simp only
    split
    · cases s[i.toNat]? <;> rfl
    · rfl
theorem evPick_B {c x y : Bool} : evPick (some c) (some (.v (.one (.d (.sc (.bool x)))))) (some (.v (.one (.d (.sc (.bool y)))))) = some (.v (.one (.d (.sc (.bool (if c = true then x else y)))))) := by cases c <;> rfl
theorem evPick_I {c : Bool} {k : IntKind} {x y : Int} : evPick (some c) (some (.v (.one (.d (.sc (.int k x)))))) (some (.v (.one (.d (.sc (.int k y)))))) = some (.v (.one (.d (.sc (.int k (if c = true then x else y)))))) := by cases c <;> rfl
theorem evPick_o {c : Bool} {x y : Option TV} : evPick (some c) x y = if c = true then x else y := by cases c <;> rfl
theorem binV_int {op : BinOp} {t : Nat} {k j : IntKind} {a b : Int} : binV C op t (.v (.one (.d (.sc (.int k a))))) (.v (.one (.d (.sc (.int j b))))) = (binS op (.int k a) (.int j b)).bind fun v => some (sv v) := by
  unfold binV
  simp only
  cases binS op (.int k a) (.int j b) <;> rfl
theorem binV_str {op : BinOp} {t : Nat} {a b : ByteArray} : binV C op t (.v (.one (.d (.sc (.string a))))) (.v (.one (.d (.sc (.string b))))) = (binS op (.string a) (.string b)).bind fun v => some (sv v) := by
  unfold binV
  simp only
  cases binS op (.string a) (.string b) <;> rfl
def thenLd (agg : Bool) (objs : Objs) (x : Option (List CV)) : Option (TV × Objs) := x.bind fun cs => (mk1 agg cs).bind fun v => some (v, objs)
theorem thenLd_some {agg : Bool} {cs : List CV} : thenLd agg objs (some cs) = (mk1 agg cs).bind fun v => some (v, objs) := rfl
theorem thenLd_none {agg : Bool} : thenLd agg objs none = none := rfl
theorem thenLd_ite {agg : Bool} {c : Prop} [Decidable c] {x y : Option (List CV)} : thenLd agg objs (if c then x else y) = if c then thenLd agg objs x else thenLd agg objs y := by split <;> rfl
theorem thenLd_bind {agg : Bool} {α : Type} {x : Option α} {f : α → Option (List CV)} : thenLd agg objs (x.bind f) = x.bind fun a => thenLd agg objs (f a) := by cases x <;> rfl
theorem evLoad_eq {ti : TI} {c : CV} : evLoad (some ti) (some c) objs = thenLd ti.agg objs (loadC objs ti.size c) := by
  unfold evLoad thenLd
  simp only
  cases loadC objs ti.size c with
  | none => rfl
  | some cs => simp only [Option.bind_some]; cases mk1 ti.agg cs <;> rfl
def thenSt (x : Option Objs) : Option (TV × Objs) := x.bind fun o => some (.tup [], o)
theorem thenSt_some {o : Objs} : thenSt (some o) = some (.tup [], o) := rfl
theorem thenSt_none : thenSt none = none := rfl
theorem thenSt_ite {c : Prop} [Decidable c] {x y : Option Objs} : thenSt (if c then x else y) = if c then thenSt x else thenSt y := by split <;> rfl
theorem thenSt_bind {α : Type} {x : Option α} {f : α → Option Objs} : thenSt (x.bind f) = x.bind fun a => thenSt (f a) := by cases x <;> rfl
def evSt (ti : TI) (c : CV) (objs : Objs) : Option (List CV) → Option (TV × Objs)
  | some cs => if cs.length = ti.size then thenSt (storeC objs c cs) else none
  | none => none
theorem evStore_eq {ti : TI} {c : CV} {v : TV} : evStore (some ti) (some c) (some v) objs = evSt ti c objs (cellsOf v) := by
  unfold evStore
  simp only
  cases cellsOf v with
  | none => rfl
  | some cs =>
    simp only [evSt, thenSt]
    split
    · cases storeC objs c cs <;> rfl
    · rfl
theorem evSt_some {ti : TI} {c : CV} {cs : List CV} : evSt ti c objs (some cs) = if cs.length = ti.size then thenSt (storeC objs c cs) else none := rfl
def stEl (objs : Objs) (id e k off : Nat) (xs : List (List DV)) (ds : List DV) : Option (List DV) → Option Objs
  | some x => if off % k + ds.length ≤ x.length then some (objs.set id (.arr e k (xs.set (off / k) (setRangeD x (off % k) ds)))) else none
  | none => none
def stArr (id n off : Nat) (objs : Objs) : Option Ob → Option (List DV) → Option Objs
  | some (.arr e k xs), some ds => if xs.length = n ∧ k ≠ 0 then stEl objs id e k off xs ds (xs[off / k]?) else none
  | _, _ => none
def stOb (objs : Objs) (id n off : Nat) (cs : List CV) : Option Ob → Option Objs
  | some (.box t old) => if off + cs.length ≤ old.length then some (objs.set id (.box t (setRange old off cs))) else none
  | some (.arr _ _ _) => stArr id n off (frzs objs cs) (frzs objs cs)[id]? (toDVs objs cs)
  | _ => none
theorem storeC_ptr {id n off : Nat} {cs : List CV} : storeC objs (.ptr id n off) cs = stOb objs id n off cs objs[id]? := by
  unfold storeC
  simp only
  cases objs[id]? with
  | none => rfl
  | some o =>
    cases o with
    | arr e0 k0 xs0 =>
      simp only [stOb]
      cases (frzs objs cs)[id]? with
      | none => rfl
      | some o2 =>
        cases o2 with
        | arr e k xs =>
          cases toDVs objs cs with
          | none => rfl
          | some ds =>
            simp only [stArr]
            split
            · cases xs[off / k]? <;> rfl
            · rfl
        | _ => cases toDVs objs cs <;> rfl
    | _ => rfl
theorem stEl_map {α : Type} {id e k off i : Nat} {l : List α} {f : α → List DV} {ds : List DV} : stEl objs id e k off (l.map f) ds ((l.map f)[i]?) = (l[i]?).bind fun x => if off % k + ds.length ≤ (f x).length then some (objs.set id (.arr e k ((l.map f).set (off / k) (setRangeD (f x) (off % k) ds)))) else none := by
  rw [List.getElem?_map]
  cases l[i]? <;> rfl
theorem stEl_some {id e k off : Nat} {xs : List (List DV)} {ds x : List DV} : stEl objs id e k off xs ds (some x) = if off % k + ds.length ≤ x.length then some (objs.set id (.arr e k (xs.set (off / k) (setRangeD x (off % k) ds)))) else none := rfl
theorem stEl_omap {α : Type} {id e k off : Nat} {xs : List (List DV)} {o : Option α} {f : α → List DV} {ds : List DV} : stEl objs id e k off xs ds (o.map f) = o.bind fun x => if off % k + ds.length ≤ (f x).length then some (objs.set id (.arr e k (xs.set (off / k) (setRangeD (f x) (off % k) ds)))) else none := by
  cases o <;> rfl
def ldArr (objs : Objs) (size n off k : Nat) (xs : List (List DV)) : Option (List CV) :=
  if xs.length = n ∧ k ≠ 0 then (xs[off / k]?).bind fun x => if off % k + size ≤ x.length then some (ddv ((x.drop (off % k)).take size)) else none else none
def ldOb (objs : Objs) (size n off : Nat) : Option Ob → Option (List CV)
  | some (.box _ cs) => if off + size ≤ cs.length then some ((cs.drop off).take size) else none
  | some (.arr _ k xs) => ldArr objs size n off k xs
  | some (.frz _ k xs) => ldArr objs size n off k xs
  | _ => none
theorem loadC_ptr {size id n off : Nat} : loadC objs size (.ptr id n off) = ldOb objs size n off objs[id]? := by
  unfold loadC
  simp only
  generalize objs[id]? = x
  have key : ∀ (k : Nat) (xs : List (List DV)), (if xs.length = n ∧ k ≠ 0 then match xs[off / k]? with
      | some x => if off % k + size ≤ x.length then some (ddv ((x.drop (off % k)).take size)) else none
      | none => none
      else none) = ldArr objs size n off k xs := by
    intro k xs
    unfold ldArr
    split
    · cases xs[off / k]? <;> rfl
    · rfl
  cases x with
  | none => rfl
  | some o =>
    cases o with
    | nil => rfl
    | box cs => rfl
    | arr e k xs => exact key k xs
    | frz e k xs => exact key k xs
    | tab l => rfl
theorem ldArr_map {α : Type} {size n off k : Nat} {l : List α} {f : α → List DV} : ldArr objs size n off k (l.map f) = if l.length = n ∧ k ≠ 0 then (l[off / k]?).bind fun x => if off % k + size ≤ (f x).length then some (ddv (((f x).drop (off % k)).take size)) else none else none := by
  unfold ldArr
  rw [List.length_map]
  split
  · rw [List.getElem?_map]; cases l[off / k]? <;> rfl
  · rfl
def callR (C : Cfg) (strict : Bool) (f : Nat) (args : List V1) (objs : Objs) (rs : List RV) : Option (TV × Objs) :=
      if (strict && rs.any RV.isOwn) = true then none
      else if C.scal.contains f = true then if rs.all RV.scal = true then some (retV rs objs) else none
      else if (strict && (args.flatMap v1cells).any isOwn) = true then none
      else some (retV rs (frzs objs (args.flatMap v1cells)))
def thenCall (C : Cfg) (strict : Bool) (f : Nat) (args : List V1) (objs : Objs) (x : Option (List RV)) : Option (TV × Objs) := x.bind (callR C strict f args objs)
theorem thenCall_map {α : Type} {strict : Bool} {f : Nat} {args : List V1} {g : α → List RV} {x : Option α} : thenCall C strict f args objs (x.map g) = x.bind fun a => callR C strict f args objs (g a) := by cases x <;> rfl
theorem thenCall_some {strict : Bool} {f : Nat} {args : List V1} {x : List RV} : thenCall C strict f args objs (some x) = callR C strict f args objs x := rfl
theorem thenCall_none {strict : Bool} {f : Nat} {args : List V1} : thenCall C strict f args objs none = none := rfl
theorem thenCall_ite {strict : Bool} {f : Nat} {args : List V1} {c : Prop} [Decidable c] {x y : Option (List RV)} : thenCall C strict f args objs (if c then x else y) = if c then thenCall C strict f args objs x else thenCall C strict f args objs y := by split <;> rfl
theorem callV_eq {strict : Bool} {f : Nat} {args : List V1} : callV C strict f args objs = (toDAs objs args).bind fun das => thenCall C strict f args objs (C.call f das) := by
  unfold callV
  cases toDAs objs args with
  | none => rfl
  | some das =>
    simp only [Option.bind_some, thenCall, callR]
    cases C.call f das <;> rfl
end
end

theorem at_div {i k c : Nat} (h : c < k) : (i * k + c) / k = i := by
  rw [Nat.mul_comm, Nat.mul_add_div (by omega), Nat.div_eq_of_lt h, Nat.add_zero]
theorem at_mod {i k c : Nat} (h : c < k) : (i * k + c) % k = c := by
  rw [Nat.mul_comm, Nat.mul_add_mod, Nat.mod_eq_of_lt h]

section
variable {α β γ : Type} {C : Cfg} {ops : Array Oper} {fl : List Bool} {os : List Oper} {env : Env} {d : Option Nat} {R : Type} {k : Kon R}
theorem thenOwn_sel {l : List (Nat × Nat × Nat)} {f : α → Option (TV × Objs)} {g : β → Option (TV × Objs)} {x : α ⊕ β} : thenOwn l (selim f g x) = selim (fun a => thenOwn l (f a)) (fun b => thenOwn l (g b)) x := by cases x <;> rfl
theorem thenPut_sel {f : α → Option (TV × Objs)} {g : β → Option (TV × Objs)} {x : α ⊕ β} : thenPut env d (selim f g x) = selim (fun a => thenPut env d (f a)) (fun b => thenPut env d (g b)) x := by cases x <;> rfl
theorem thenOps_sel {f : α → Option (Env × Objs)} {g : β → Option (Env × Objs)} {x : α ⊕ β} : thenOps C ops fl os (selim f g x) = selim (fun a => thenOps C ops fl os (f a)) (fun b => thenOps C ops fl os (g b)) x := by cases x <;> rfl
theorem rg_sel {f : α → Option (Env × Objs)} {g : β → Option (Env × Objs)} {x : α ⊕ β} : rg (selim f g x) k = selim (fun a => rg (f a) k) (fun b => rg (g b) k) x := by cases x <;> rfl
theorem bind_sel {δ : Type} {f : α → Option γ} {g : β → Option γ} {x : α ⊕ β} {h : γ → Option δ} : (selim f g x).bind h = selim (fun a => (f a).bind h) (fun b => (g b).bind h) x := by cases x <;> rfl
end
section
variable {objs : Objs} {C : Cfg} {c : CV} {cs : List CV} {v : V1} {vs : List V1} {i : Nat}
theorem toDVs_b : toDVs objs (c :: cs) = (toDV objs c).bind fun x => (toDVs objs cs).bind fun xs => some (x :: xs) := by
  rw [toDVs]
  cases toDV objs c with
  | none => rfl
  | some x => simp only [Option.bind_some]; cases toDVs objs cs <;> rfl
theorem toDAs_b : toDAs objs (v :: vs) = (toDA objs v).bind fun x => (toDAs objs vs).bind fun xs => some (x :: xs) := by
  rw [toDAs]
  cases toDA objs v with
  | none => rfl
  | some x => simp only [Option.bind_some]; cases toDAs objs vs <;> rfl
theorem resRs_b : resRs C objs i (v :: vs) = (resR C objs i v).bind fun x => (resRs C objs (i + 1) vs).bind fun xs => some (x :: xs) := by
  rw [resRs]
  cases resR C objs i v with
  | none => rfl
  | some x => simp only [Option.bind_some]; cases resRs C objs (i + 1) vs <;> rfl
theorem toDVs_nil : toDVs objs [] = some [] := rfl
theorem toDAs_nil : toDAs objs [] = some [] := rfl
theorem resRs_nil : resRs C objs i [] = some [] := rfl
theorem map_bind' {α β γ : Type} {x : Option α} {f : α → Option β} {g : β → γ} : (x.bind f).map g = x.bind fun a => (f a).map g := by cases x <;> rfl
end
attribute [simp high] toDVs_nil toDAs_nil resRs_nil toDVs_b toDAs_b resRs_b map_bind' thenOwn_sel thenPut_sel thenOps_sel rg_sel bind_sel thenLd_some thenLd_none thenLd_ite thenLd_bind thenSt_some thenSt_none thenSt_ite thenSt_bind evSt_some storeC_ptr stEl_some stEl_omap
attribute [simp 20000] stEl_map
attribute [simp] stOb stArr Option.bind_assoc
attribute [simp high] evOps_nil evOps_cons thenOps_some thenOps_none thenOps_ite thenOps_bind thenPut_some thenPut_none thenPut_ite thenPut_bind evOne_plain evGd_some thenOwn_some thenOwn_none thenOwn_ite thenOwn_bind
  asP_some asP_none asP_ite asP_bind evOp_move evOp_move_s evOp_assign evOp_assign_s evOp_pick evOp_pick_s evOp_build evOp_build_s evOp_binOp evOp_binOp_s evOp_unOp evOp_unOp_s evOp_nilCheck evOp_nilCheck_s evOp_fieldAddr evOp_fieldAddr_s evOp_field evOp_field_s evOp_indexAddr evOp_indexAddr_s evOp_index evOp_index_s evOp_extract evOp_extract_s evOp_alloc evOp_alloc_s evOp_box evOp_box_s evOp_load evOp_load_s evOp_store evOp_store_s evOp_buildSlice evOp_buildSlice_s evOp_makeSlice evOp_makeSlice_s evIndexAddr_own evIndexAddr_arr evIndexAddr_vw evIndex_agg binV_bool binV_agg binV_nil loadC_fp evIndex_str evPick_B evPick_I binV_int binV_str evLoad_eq evStore_eq loadC_ptr callV_eq
attribute [simp 9000] evOne_guard evOp_else evOp_else_s evPick_o
attribute [simp high] thenCall_map thenCall_some thenCall_none thenCall_ite
attribute [simp] callR
attribute [simp] omap_ite nilC_nil nilC_e nilC_cons nilC_own nilC_vw
attribute [simp 20000] nilC_map evIndexAddr_map ldArr_map evOps_guard
attribute [simp] gd0 gd1 gdRun
attribute [simp 9000] evIndexAddr_sl
theorem ldArr_eq {objs : Objs} {size n off k : Nat} {xs : List (List DV)} : ldArr objs size n off k xs = if xs.length = n ∧ k ≠ 0 then (xs[off / k]?).bind fun x => if off % k + size ≤ x.length then some (ddv ((x.drop (off % k)).take size)) else none else none := rfl
attribute [simp 500] ldArr_eq
attribute [simp high] orLoud_some orLoud_none orLoud_ite
attribute [simp] txt_nil txt_b txt_bs
@[simp] theorem bits_i64 : IntKind.i64.bits = 64 := rfl
@[simp] theorem bits_u8 : IntKind.u8.bits = 8 := rfl
@[simp] theorem bits_u64 : IntKind.u64.bits = 64 := rfl
attribute [simp] pureOp loudOp ldOb rowsOf at_div at_mod bind_ite rg_some rg_none rg_ite rg_bind wloop_some wloop_un wloop_tr wun_succ kun_n kun_e kun_r kun_g wcond_B wcond_unk wboth_same wscope_some
attribute [simp] kseq_n kseq_r kseq_e kseq_g kblk_n kblk_r kblk_e kblk_g kloop_n kloop_r kloop_e kloop_g kloopT_n kloopT_r kloopT_e kloopT_g kgoto_n kgoto_r kgoto_e kgoto_g kscope_n kscope_r kscope_e kscope_g kfin_n kfin_r kinl_n kinl_r envI Wk_eq
attribute [simp] evReg_plain evReg_draw
attribute [simp] W_skip W_label W_exit W_goto W_ret W_region W_seq W_cond W_loop W_block_seq W_block_region W_block_cond W_block_block W_block_skip W_block_exit W_block_goto W_block_ret W_block_scope W_scope
end Go.Vm

/- A Go function whose code is evaluated under hypotheses: what it comes to, by name. -/
namespace Go.Vm
open Go Go.RowKit
noncomputable def Wfn {α : Type} (C : Cfg) (T : List (Nat × LoopA)) (G : List Lab) (fn : Func) (r : Res α) (das : List DA) : Option α := match fn.body with | some c => Wf C T G c fn r das | none => none
theorem Wfn_eq {α : Type} {C : Cfg} {T : List (Nat × LoopA)} {G : List Lab} {fn : Func} {c : Code} {r : Res α} {das : List DA} (hb : fn.body = some c) : Wf C T G c fn r das = Wfn C T G fn r das := by unfold Wfn; rw [hb]
@[simp] def oNil : Cdc Ob Unit where
  enc _ := .nil
  dec | .nil => some () | _ => none
  ok b a h := by split at h <;> simp at h; rfl
end Go.Vm

/- The head of a row of the function's own, given back: from there on a row of its own. -/
set_option linter.unusedVariables false
set_option linter.unusedSimpArgs false
namespace Go.Vm
open Go Go.RowKit

section
variable {P : Program} {Φ : Fz} {θ : Th} {base : Nat} {objs objs' : Objs} {env : Env} {a : Act} {w : World}

theorem cut_post (hs : StR Φ θ base w env objs a.tmps) {id n hi k e : Nat} {xs : List (List DV)} (hob : objs[id]? = some (.arr e k xs)) (hn : xs.length = n) {u : Value} (hr : CR Φ θ objs (.vw id n 0 hi k) u) :
    ∃ θ', Go2 θ θ' objs (objs.set id .nil ++ [.arr e k (xs.take hi)]) ∧ StR Φ θ' base w env (objs.set id .nil ++ [.arr e k (xs.take hi)]) a.tmps ∧ CR Φ θ' (objs.set id .nil ++ [.arr e k (xs.take hi)]) (.own objs.length hi) u := by
  obtain ⟨_, hhi, ad, c, hv, hc, hz, _⟩ := hr
  have hθ : θ id = .slice ad n c := by
    obtain ⟨s, hs', hr⟩ := hz rfl
    rw [Lr_of hob] at hs'; injection hs' with hs'
    exact (hr _ hs'.symm).2 hn.symm
  rw [Nat.sub_zero] at hv hc
  obtain ⟨vs, hown, hden, hall, hk0, hno⟩ := hs.ob id _ hob
  have hlt := (List.getElem?_eq_some_iff.1 hob).1
  have hmb : mblk θ objs id = pblk (θ id) := by unfold mblk; rw [hob]
  have hg1 : Go2 θ θ objs (objs.set id .nil) := by
    have := go_set (θ := θ) (v := θ id) (ob := .nil) hob (fun m' hm' => by cases hm')
    rwa [thAt_self] at this
  have hs1 : StR Φ θ base w env (objs.set id .nil) a.tmps := by
    have := hs.change (w' := w) (ob := .nil) (θ id) hob (by rw [thAt_self]; exact hg1) trivial hs.sat (fun i b hi hm => ⟨rfl, fun e => hi (hs.apart i id b hm (by rw [hmb]; exact e))⟩) hs.base
    rwa [thAt_self] at this
  have hlen : (objs.set id .nil).length = objs.length := by simp
  have hg2 := go_push θ (objs.set id .nil) (.arr e k (xs.take hi)) u
  have hs2 := hs1.push (.arr e k (xs.take hi)) u
    (by
      refine ⟨vs.take (hi * k), ?_, ?_, fun x hx => hall x (List.mem_of_mem_take hx), hk0, fun b hb o => ?_⟩
      · rw [thAt_same]
        have ht : (xs.take hi).length = hi := by rw [List.length_take]; omega
        rw [ht]
        obtain ⟨hvl, hcase⟩ := hown
        refine ⟨by rw [List.length_take]; have : hi * k ≤ xs.length * k := Nat.mul_le_mul_right _ (by omega); omega, ?_⟩
        rcases hcase with ⟨h1, h2⟩ | ⟨g, cap, cur, h1, h2, h3, h4, h5, h6, h7⟩
        · left
          rw [hθ] at h1
          injection h1 with e1 e2 e3
          subst e1
          have : hi = 0 := by omega
          exact ⟨by rw [hv]; congr 1, this⟩
        · right
          rw [hθ] at h1
          injection h1 with e1 e2 e3
          subst e1
          refine ⟨g, cap, cur, by rw [hv, e3], h2, h3, by omega, h5, h6, ?_⟩
          rw [← h7, List.take_take, Nat.min_eq_left (Nat.mul_le_mul_right _ (by omega))]
      · have := hden.take (hi * k)
        rw [flat_take hall]
        exact this
      · rw [thAt_same] at hb
        refine hno b ?_ o
        rw [hθ]
        rw [hv] at hb
        cases ad with
        | none => cases hb
        | some a0 => exact hb)
    (fun i b hb hp => by
      have hine : i ≠ id := fun e => by
        subst e
        unfold mblk at hb
        rw [List.getElem?_set_self hlt] at hb; cases hb
      have hb' : mblk θ objs i = some b := by
        unfold mblk at hb ⊢
        rwa [List.getElem?_set_ne (Ne.symm hine)] at hb
      refine hine (hs.apart i id b hb' ?_)
      rw [hmb, hθ]
      rw [hv] at hp
      cases ad with
      | none => cases hp
      | some a0 => exact hp)
  rw [hlen] at hg2 hs2
  refine ⟨_, hg1.trans hg2, hs2, ⟨ad, c, hv, fun h => ?_, by omega⟩, some hi, ?_, fun m hm => ⟨by injection hm with hm; omega, fun _ => (thAt_same _ _ _).symm⟩⟩
  · obtain ⟨hvl, hcase⟩ := hown
    rcases hcase with ⟨h1, h2⟩ | ⟨g, cap, cur, h1, _⟩
    · omega
    · rw [hθ] at h1
      injection h1 with e1 e2 e3
      exact ⟨g, e1⟩
  · have := Lr_push (objs := objs.set id .nil) (ob := .arr e k (xs.take hi)) (s := some hi) (by simp only [len1, List.length_take]; congr 1; omega)
    rwa [hlen] at this
end

@[simp] def cutR (v : TV) (objs : Objs) : Option (TV × Objs) := match v with
  | .v (.one (.vw id n 0 hi k)) => match objs[id]? with
    | some (.arr e k' xs) => if xs.length = n ∧ k' = k then some (.v (.one (.own objs.length hi)), objs.set id .nil ++ [.arr e k (xs.take hi)]) else none
    | _ => none
  | .v (.one (.own id n)) => match objs[id]? with
    | some (.arr e k xs) => if xs.length = n then some (.v (.one (.own objs.length n)), objs.set id .nil ++ [.arr e k xs]) else none
    | _ => none
  | v => some (v, objs)

def cutI (I : List V1 → Objs → Option (TV × Objs)) (vs : List V1) (objs : Objs) : Option (TV × Objs) := (I vs objs).bind fun p => cutR p.1 p.2

theorem cutI_ok {P : Program} {f : Nat} {I : List V1 → Objs → Option (TV × Objs)} (h : InlC P f I) : InlC P f (cutI I) := by
  intro Φ θ base w objs vs args v objs' hs ha hI
  unfold cutI at hI
  obtain ⟨⟨v0, objs0⟩, h1, h2⟩ := Option.bind_eq_some_iff.1 hI
  refine (h Φ θ base w objs vs args v0 objs0 hs ha h1).mono fun e w' hp => ?_
  obtain ⟨u, Φ1, θ1, he, hg, hs1, hv⟩ := hp
  unfold cutR at h2
  split at h2
  · rename_i id n hi k heq
    cases heq
    split at h2
    case h_2 => cases h2
    case h_1 e1 k' xs hob =>
    split at h2
    case isFalse => cases h2
    case isTrue hc =>
    obtain ⟨hn, rfl⟩ := hc
    simp only [Option.some.injEq, Prod.mk.injEq] at h2
    obtain ⟨rfl, rfl⟩ := h2
    obtain ⟨θ2, h3, h4, h5⟩ := cut_post (a := { tmps := #[], defers := [] }) hs1 hob hn hv
    exact ⟨u, Φ1, θ2, he, ⟨hg.le, hg.go.trans h3, hg.new, hg.below⟩, h4, h5⟩
  · rename_i id n heq
    cases heq
    split at h2
    case h_2 => cases h2
    case h_1 e1 k xs hob =>
    split at h2
    case isFalse => cases h2
    case isTrue hn =>
    simp only [Option.some.injEq, Prod.mk.injEq] at h2
    obtain ⟨rfl, rfl⟩ := h2
    obtain ⟨⟨ad, c, hu, hb, hnc⟩, hrf⟩ := hv
    have hr : CR Φ1 θ1 objs0 (.vw id n 0 n k) u := by
      refine ⟨Nat.zero_le _, Nat.le_refl _, ad, c, hu, hnc, fun _ => ?_, fun hlt => ?_⟩
      · obtain ⟨s, hs', hr⟩ := hrf
        exact ⟨s, hs', fun m hm => ⟨(hr m hm).1, fun e => by rw [← (hr m hm).2 e, hu]⟩⟩
      · obtain ⟨b, hb⟩ := hb hlt
        obtain ⟨s, hs', hr⟩ := hrf
        exact ⟨b, by rw [hb, Nat.zero_mul], s, hs', fun m hm => ⟨(hr m hm).1, fun e => ⟨c, by rw [← (hr m hm).2 e, hu, hb]⟩⟩⟩
    obtain ⟨θ2, h3, h4, h5⟩ := cut_post (a := { tmps := #[], defers := [] }) hs1 hob hn hr
    rw [List.take_of_length_le (by omega)] at h3 h4 h5
    exact ⟨u, Φ1, θ2, he, ⟨hg.le, hg.go.trans h3, hg.new, hg.below⟩, h4, h5⟩
  · simp only [Option.some.injEq, Prod.mk.injEq] at h2
    obtain ⟨rfl, rfl⟩ := h2
    exact ⟨u, Φ1, θ1, he, hg, hs1, hv⟩
end Go.Vm

/- Environments as trees: so that each step of a run touches few of their nodes. -/
set_option linter.unusedVariables false
set_option linter.unusedSimpArgs false
namespace Go.Vm
open Go Go.RowKit

inductive Tr where
  | leaf (x : TV)
  | node (l r : Tr)

def Tr.flat : Nat → Tr → List TV
  | 0, .leaf x => [x]
  | 0, .node _ _ => [.unk]
  | d + 1, .leaf x => List.replicate (2 ^ (d + 1)) x
  | d + 1, .node l r => Tr.flat d l ++ Tr.flat d r

theorem Tr.flat_leaf (d : Nat) (x : TV) : Tr.flat d (.leaf x) = List.replicate (2 ^ d) x := by
  cases d <;> rfl
theorem Tr.flat_len : ∀ (d : Nat) (T : Tr), (Tr.flat d T).length = 2 ^ d
  | 0, .leaf x => rfl
  | 0, .node _ _ => rfl
  | d + 1, .leaf x => by simp [Tr.flat]
  | d + 1, .node l r => by
    simp only [Tr.flat, List.length_append, Tr.flat_len d l, Tr.flat_len d r]
    rw [Nat.pow_succ]; omega

def Tr.get : Nat → Tr → Nat → Option TV
  | 0, .leaf x, i => if i = 0 then some x else none
  | 0, .node _ _, i => if i = 0 then some .unk else none
  | d + 1, .leaf x, i => if i < 2 ^ (d + 1) then some x else none
  | d + 1, .node l r, i => if i < 2 ^ d then Tr.get d l i else Tr.get d r (i - 2 ^ d)

theorem Tr.flat_get : ∀ (d : Nat) (T : Tr) (i : Nat), (Tr.flat d T)[i]? = Tr.get d T i
  | 0, .leaf x, i => by cases i <;> simp [Tr.flat, Tr.get]
  | 0, .node _ _, i => by cases i <;> simp [Tr.flat, Tr.get]
  | d + 1, .leaf x, i => by simp only [Tr.flat, Tr.get, List.getElem?_replicate]
  | d + 1, .node l r, i => by
    simp only [Tr.flat, Tr.get]
    by_cases h : i < 2 ^ d
    · rw [if_pos h, List.getElem?_append_left (by rw [Tr.flat_len]; exact h), Tr.flat_get d l i]
    · rw [if_neg h, List.getElem?_append_right (by rw [Tr.flat_len]; omega), Tr.flat_len, Tr.flat_get d r]

def Tr.set : Nat → Tr → Nat → TV → Tr
  | 0, .leaf x, i, y => if i = 0 then .leaf y else .leaf x
  | 0, .node l r, i, y => if i = 0 then .leaf y else .node l r
  | d + 1, .leaf x, i, y => if i < 2 ^ d then .node (Tr.set d (.leaf x) i y) (.leaf x) else .node (.leaf x) (Tr.set d (.leaf x) (i - 2 ^ d) y)
  | d + 1, .node l r, i, y => if i < 2 ^ d then .node (Tr.set d l i y) r else .node l (Tr.set d r (i - 2 ^ d) y)

theorem Tr.flat_set : ∀ (d : Nat) (T : Tr) (i : Nat) (y : TV), Tr.flat d (Tr.set d T i y) = (Tr.flat d T).set i y
  | 0, .leaf x, i, y => by cases i <;> simp [Tr.flat, Tr.set]
  | 0, .node _ _, i, y => by cases i <;> simp [Tr.flat, Tr.set]
  | d + 1, .leaf x, i, y => by
    have e : Tr.flat (d + 1) (.leaf x) = Tr.flat d (.leaf x) ++ Tr.flat d (.leaf x) := by
      simp only [Tr.flat_leaf, List.replicate_append_replicate]
      rw [Nat.pow_succ]; congr 1; omega
    rw [e]
    simp only [Tr.set]
    by_cases h : i < 2 ^ d
    · rw [if_pos h]
      simp only [Tr.flat]
      rw [Tr.flat_set d _ i y, List.set_append_left _ _ (by rw [Tr.flat_len]; exact h)]
    · rw [if_neg h]
      simp only [Tr.flat]
      rw [Tr.flat_set d _ _ y, List.set_append_right _ _ (by rw [Tr.flat_len]; omega), Tr.flat_len]
  | d + 1, .node l r, i, y => by
    simp only [Tr.set]
    by_cases h : i < 2 ^ d
    · rw [if_pos h]
      simp only [Tr.flat]
      rw [Tr.flat_set d _ i y, List.set_append_left _ _ (by rw [Tr.flat_len]; exact h)]
    · rw [if_neg h]
      simp only [Tr.flat]
      rw [Tr.flat_set d _ _ y, List.set_append_right _ _ (by rw [Tr.flat_len]; omega), Tr.flat_len]

def toL (n : Nat) (T : Tr) : Env := (Tr.flat 8 T).take n

theorem toL_get {n : Nat} {T : Tr} {i : Nat} : (toL n T)[i]? = if i < n then Tr.get 8 T i else none := by
  unfold toL
  rw [List.getElem?_take, Tr.flat_get]
theorem toL_set {n : Nat} {T : Tr} {i : Nat} {y : TV} : (toL n T).set i y = toL n (Tr.set 8 T i y) := by
  unfold toL
  rw [Tr.flat_set, List.take_set]

def Tr.fill : Nat → List TV → Tr → Tr
  | _, [], T => T
  | k, x :: xs, T => Tr.fill (k + 1) xs (Tr.set 8 T k x)
theorem trf_nil {k : Nat} {T : Tr} : Tr.fill k [] T = T := rfl
theorem trf_cons {k : Nat} {T : Tr} {x : TV} {xs : List TV} : Tr.fill k (x :: xs) T = Tr.fill (k + 1) xs (Tr.set 8 T k x) := rfl

theorem trf_mid {α : Type} : ∀ (p : List α) (x y : α) (q : List α), (p ++ x :: q).set p.length y = p ++ y :: q
  | [], x, y, q => rfl
  | a :: p, x, y, q => by simp [trf_mid p x y q]

theorem trf_ok (n : Nat) (u : TV) : ∀ (xs p : List TV) (T : Tr), toL n T = p ++ List.replicate (n - p.length) u → p.length + xs.length ≤ n → toL n (Tr.fill p.length xs T) = p ++ xs ++ List.replicate (n - (p.length + xs.length)) u
  | [], p, T, h, hl => by rw [trf_nil]; simpa using h
  | x :: xs, p, T, h, hl => by
    simp only [List.length_cons] at hl
    have hs : toL n (Tr.set 8 T p.length x) = (p ++ [x]) ++ List.replicate (n - (p ++ [x]).length) u := by
      rw [← toL_set, h]
      obtain ⟨m, hm⟩ : ∃ m, n - p.length = m + 1 := ⟨n - p.length - 1, by omega⟩
      rw [hm, List.replicate_succ, trf_mid]
      have : n - (p ++ [x]).length = m := by simp; omega
      rw [this]
      simp
    have := trf_ok n u xs (p ++ [x]) _ hs (by simp; omega)
    simp only [List.length_append, List.length_singleton] at this
    rw [show Tr.fill p.length (x :: xs) T = Tr.fill (p.length + 1) xs (Tr.set 8 T p.length x) from rfl, this]
    rw [show p.length + 1 + xs.length = p.length + (x :: xs).length from by simp; omega]
    simp

theorem env_tree {n : Nat} {xs : List TV} (hn : n ≤ 256) (h : xs.length ≤ n) : xs ++ List.replicate (n - xs.length) (.tup []) = toL n (Tr.fill 0 xs (.leaf (.tup []))) := by
  have h0 : toL n (.leaf (.tup [])) = [] ++ List.replicate (n - ([] : List TV).length) (.tup []) := by
    unfold toL
    rw [Tr.flat_leaf, List.take_replicate]
    simp only [List.length_nil, Nat.sub_zero, List.nil_append]
    congr 1
    omega
  have := trf_ok n (.tup []) xs [] _ h0 (by simpa using h)
  simpa using this.symm

theorem env0_tree {n : Nat} {das : List DA} (hn : n ≤ 256) (h : das.length ≤ n) : env0 das n = toL n (Tr.fill 0 (das.map argV) (.leaf (.tup []))) := by
  rw [← env_tree hn (by simpa using h)]
  simp [env0]

theorem envI_tree {n : Nat} {vs : List V1} (hn : n ≤ 256) (h : vs.length ≤ n) : envI vs n = toL n (Tr.fill 0 (vs.map TV.v) (.leaf (.tup []))) := by
  rw [← env_tree hn (by simpa using h)]
  simp [envI]

def Tr.lst : Nat → Tr → Nat → List TV → List TV
  | 0, .leaf x, n, tl => if n = 0 then tl else x :: tl
  | 0, .node _ _, n, tl => if n = 0 then tl else .unk :: tl
  | d + 1, .leaf x, n, tl => List.replicate (min n (2 ^ (d + 1))) x ++ tl
  | d + 1, .node l r, n, tl => Tr.lst d l n (Tr.lst d r (n - 2 ^ d) tl)
theorem Tr.lst_ok : ∀ (d : Nat) (T : Tr) (n : Nat) (tl : List TV), Tr.lst d T n tl = (Tr.flat d T).take n ++ tl
  | 0, .leaf x, n, tl => by cases n <;> simp [Tr.lst, Tr.flat]
  | 0, .node _ _, n, tl => by cases n <;> simp [Tr.lst, Tr.flat]
  | d + 1, .leaf x, n, tl => by simp [Tr.lst, Tr.flat, List.take_replicate]
  | d + 1, .node l r, n, tl => by
    simp only [Tr.lst, Tr.flat]
    rw [Tr.lst_ok d l, Tr.lst_ok d r, List.take_append, Tr.flat_len, List.append_assoc]
theorem Tr.lst_zero {d : Nat} {T : Tr} {tl : List TV} : Tr.lst d T 0 tl = tl := by rw [Tr.lst_ok]; simp

theorem toL_mask {vars : List Nat} {i n : Nat} {T : Tr} : maskE vars i (toL n T) = maskE vars i (Tr.lst 8 T n []) := by
  rw [Tr.lst_ok, List.append_nil]; rfl

section
variable {C : Cfg} {ops : Array Oper} {cs : List (Nat × Bool)} {os : List Oper} {env : Env} {objs : Objs} {d : Option Nat} {g s : Bool} {o : Oper}
theorem evOpsG_nil : evOpsG C ops cs [] env objs = some (dropG cs env, objs) := by unfold evOpsG; rfl
def thenG (C : Cfg) (ops : Array Oper) (cs : List (Nat × Bool)) (d : Option Nat) (os : List Oper) (env : Env) (x : Option (TV × Objs)) : Option (Env × Objs) := x.bind fun r => evOpsG C ops cs os (putE env d r.1) r.2
theorem thenG_some {v : TV} {ob : Objs} : thenG C ops cs d os env (some (v, ob)) = evOpsG C ops cs os (putE env d v) ob := rfl
theorem thenG_none : thenG C ops cs d os env none = none := rfl
theorem thenG_ite {c : Prop} [Decidable c] {x y : Option (TV × Objs)} : thenG C ops cs d os env (if c then x else y) = if c then thenG C ops cs d os env x else thenG C ops cs d os env y := by split <;> rfl
theorem thenG_bind {α : Type} {x : Option α} {f : α → Option (TV × Objs)} : thenG C ops cs d os env (x.bind f) = x.bind fun a => thenG C ops cs d os env (f a) := by cases x <;> rfl
def thenGg (C : Cfg) (ops : Array Oper) (cs : List (Nat × Bool)) (o : Oper) (os : List Oper) (env : Env) (objs : Objs) (g : Option Bool) : Option (Env × Objs) := g.bind fun g => thenG C ops (addG cs g o.dst) o.dst os env (evG C cs g true o env objs)
theorem thenGg_some : thenGg C ops cs o os env objs (some g) = thenG C ops (addG cs g o.dst) o.dst os env (evG C cs g true o env objs) := rfl
theorem evOpsG_u {p : Op} {t : Nat} {ps : String} {af : Array Edge} : evOpsG C ops cs (⟨d, p, t, ps, af, none⟩ :: os) env objs = if dstOk cs d = true then thenG C ops cs d os env (evG C cs true false ⟨d, p, t, ps, af, none⟩ env objs) else none := by
  conv => lhs; unfold evOpsG
  rfl
theorem evOpsG_g {p : Op} {t : Nat} {ps : String} {af : Array Edge} {j : Nat} {v : Bool} : evOpsG C ops cs (⟨d, p, t, ps, af, some (j, v)⟩ :: os) env objs = if dstOk cs d = true then thenGg C ops cs ⟨d, p, t, ps, af, some (j, v)⟩ os env objs (guardG ops cs env j v) else none := by
  conv => lhs; unfold evOpsG
  rfl
def gG1 (cs : List (Nat × Bool)) (t : Nat) (v : Bool) : Option TV → Option Bool
  | some (.v (.one (.d (.sc (.bool c))))) => some ((cs.all fun p => p.1 != t || p.2) && (c == v))
  | _ => none
def gG0 (cs : List (Nat × Bool)) (v : Bool) (env : Env) : Option Nat → Option Bool
  | some t => gG1 cs t v env[t]?
  | none => none
theorem guardG_eq {j : Nat} {v : Bool} : guardG ops cs env j v = gG0 cs v env ((ops[j]?).bind (·.dst)) := by
  unfold guardG gG0 gG1
  split <;> rename_i h <;> rw [h]
  rfl
theorem gG0_some {v : Bool} {t : Nat} : gG0 cs v env (some t) = gG1 cs t v env[t]? := rfl
theorem gG1_some {v c : Bool} {t : Nat} : gG1 cs t v (some (.v (.one (.d (.sc (.bool c)))))) = some ((cs.all fun p => p.1 != t || p.2) && (c == v)) := rfl
theorem evG_move {x : Operand} {t : Nat} {ps : String} {af : Array Edge} {gd : Option (Nat × Bool)} : evG C cs g s ⟨d, .move x, t, ps, af, gd⟩ env objs = if okO cs g ⟨d, .move x, t, ps, af, gd⟩ = true then evOp C s ⟨d, .move x, t, ps, af, gd⟩ env objs else none := rfl
theorem evG_assign {x : Operand} {t : Nat} {ps : String} {af : Array Edge} {gd : Option (Nat × Bool)} : evG C cs g s ⟨d, .assign x, t, ps, af, gd⟩ env objs = if okO cs g ⟨d, .assign x, t, ps, af, gd⟩ = true then evOp C s ⟨d, .assign x, t, ps, af, gd⟩ env objs else none := rfl
theorem evG_alloc {e : Nat} {t : Nat} {ps : String} {af : Array Edge} {gd : Option (Nat × Bool)} : evG C cs g s ⟨d, .alloc e, t, ps, af, gd⟩ env objs = if okO cs g ⟨d, .alloc e, t, ps, af, gd⟩ = true then evOp C s ⟨d, .alloc e, t, ps, af, gd⟩ env objs else none := rfl
theorem evG_box {e : Nat} {v : Operand} {t : Nat} {ps : String} {af : Array Edge} {gd : Option (Nat × Bool)} : evG C cs g s ⟨d, .box e v, t, ps, af, gd⟩ env objs = if okO cs g ⟨d, .box e v, t, ps, af, gd⟩ = true then evOp C s ⟨d, .box e v, t, ps, af, gd⟩ env objs else none := rfl
theorem evG_build {tt : Nat} {parts : Array (Nat × Operand)} {t : Nat} {ps : String} {af : Array Edge} {gd : Option (Nat × Bool)} : evG C cs g s ⟨d, .build tt parts, t, ps, af, gd⟩ env objs = if okO cs g ⟨d, .build tt parts, t, ps, af, gd⟩ = true then evOp C s ⟨d, .build tt parts, t, ps, af, gd⟩ env objs else none := rfl
theorem evG_buildSlice {tt : Nat} {len : Nat} {parts : Array (Nat × Operand)} {t : Nat} {ps : String} {af : Array Edge} {gd : Option (Nat × Bool)} : evG C cs g s ⟨d, .buildSlice tt len parts, t, ps, af, gd⟩ env objs = if okO cs g ⟨d, .buildSlice tt len parts, t, ps, af, gd⟩ = true then evOp C s ⟨d, .buildSlice tt len parts, t, ps, af, gd⟩ env objs else none := rfl
theorem evG_load {tt : Nat} {addr : Operand} {t : Nat} {ps : String} {af : Array Edge} {gd : Option (Nat × Bool)} : evG C cs g s ⟨d, .load tt addr, t, ps, af, gd⟩ env objs = if okO cs g ⟨d, .load tt addr, t, ps, af, gd⟩ = true then evOp C s ⟨d, .load tt addr, t, ps, af, gd⟩ env objs else none := rfl
theorem evG_store {tt : Nat} {addr val : Operand} {t : Nat} {ps : String} {af : Array Edge} {gd : Option (Nat × Bool)} : evG C cs g s ⟨d, .store tt addr val, t, ps, af, gd⟩ env objs = if okO cs g ⟨d, .store tt addr val, t, ps, af, gd⟩ = true then evOp C s ⟨d, .store tt addr val, t, ps, af, gd⟩ env objs else none := rfl
theorem evG_nilCheck {x : Operand} {t : Nat} {ps : String} {af : Array Edge} {gd : Option (Nat × Bool)} : evG C cs g s ⟨d, .nilCheck x, t, ps, af, gd⟩ env objs = if okO cs g ⟨d, .nilCheck x, t, ps, af, gd⟩ = true then evOp C s ⟨d, .nilCheck x, t, ps, af, gd⟩ env objs else none := rfl
theorem evG_binOp {op : BinOp} {xt : Nat} {x y : Operand} {yt : Nat} {t : Nat} {ps : String} {af : Array Edge} {gd : Option (Nat × Bool)} : evG C cs g s ⟨d, .binOp op xt x y yt, t, ps, af, gd⟩ env objs = if okO cs g ⟨d, .binOp op xt x y yt, t, ps, af, gd⟩ = true then evOp C s ⟨d, .binOp op xt x y yt, t, ps, af, gd⟩ env objs else none := rfl
theorem evG_unOp {op : UnOp} {xt : Nat} {x : Operand} {t : Nat} {ps : String} {af : Array Edge} {gd : Option (Nat × Bool)} : evG C cs g s ⟨d, .unOp op xt x, t, ps, af, gd⟩ env objs = if okO cs g ⟨d, .unOp op xt x, t, ps, af, gd⟩ = true then evOp C s ⟨d, .unOp op xt x, t, ps, af, gd⟩ env objs else none := rfl
theorem evG_convert {src dst : Nat} {x : Operand} {t : Nat} {ps : String} {af : Array Edge} {gd : Option (Nat × Bool)} : evG C cs g s ⟨d, .convert src dst x, t, ps, af, gd⟩ env objs = if okO cs g ⟨d, .convert src dst x, t, ps, af, gd⟩ = true then evOp C s ⟨d, .convert src dst x, t, ps, af, gd⟩ env objs else none := rfl
theorem evG_makeFunc {fn : Fn} {first captured : Array Operand} {t : Nat} {ps : String} {af : Array Edge} {gd : Option (Nat × Bool)} : evG C cs g s ⟨d, .makeFunc fn first captured, t, ps, af, gd⟩ env objs = if okO cs g ⟨d, .makeFunc fn first captured, t, ps, af, gd⟩ = true then evOp C s ⟨d, .makeFunc fn first captured, t, ps, af, gd⟩ env objs else none := rfl
theorem evG_makeSlice {tt : Nat} {len cap : Operand} {t : Nat} {ps : String} {af : Array Edge} {gd : Option (Nat × Bool)} : evG C cs g s ⟨d, .makeSlice tt len cap, t, ps, af, gd⟩ env objs = if okO cs g ⟨d, .makeSlice tt len cap, t, ps, af, gd⟩ = true then evOp C s ⟨d, .makeSlice tt len cap, t, ps, af, gd⟩ env objs else none := rfl
theorem evG_slice {xt : Nat} {x : Operand} {low high max : Option Operand} {t : Nat} {ps : String} {af : Array Edge} {gd : Option (Nat × Bool)} : evG C cs g s ⟨d, .slice xt x low high max, t, ps, af, gd⟩ env objs = if okO cs g ⟨d, .slice xt x low high max, t, ps, af, gd⟩ = true then evOp C s ⟨d, .slice xt x low high max, t, ps, af, gd⟩ env objs else none := rfl
theorem evG_fieldAddr {xt : Nat} {x : Operand} {fi : Nat} {t : Nat} {ps : String} {af : Array Edge} {gd : Option (Nat × Bool)} : evG C cs g s ⟨d, .fieldAddr xt x fi, t, ps, af, gd⟩ env objs = if okO cs g ⟨d, .fieldAddr xt x fi, t, ps, af, gd⟩ = true then evOp C s ⟨d, .fieldAddr xt x fi, t, ps, af, gd⟩ env objs else none := rfl
theorem evG_field {xt : Nat} {x : Operand} {fi : Nat} {t : Nat} {ps : String} {af : Array Edge} {gd : Option (Nat × Bool)} : evG C cs g s ⟨d, .field xt x fi, t, ps, af, gd⟩ env objs = if okO cs g ⟨d, .field xt x fi, t, ps, af, gd⟩ = true then evOp C s ⟨d, .field xt x fi, t, ps, af, gd⟩ env objs else none := rfl
theorem evG_indexAddr {xt : Nat} {x ix : Operand} {t : Nat} {ps : String} {af : Array Edge} {gd : Option (Nat × Bool)} : evG C cs g s ⟨d, .indexAddr xt x ix, t, ps, af, gd⟩ env objs = if okO cs g ⟨d, .indexAddr xt x ix, t, ps, af, gd⟩ = true then evOp C s ⟨d, .indexAddr xt x ix, t, ps, af, gd⟩ env objs else none := rfl
theorem evG_index {xt : Nat} {x ix : Operand} {t : Nat} {ps : String} {af : Array Edge} {gd : Option (Nat × Bool)} : evG C cs g s ⟨d, .index xt x ix, t, ps, af, gd⟩ env objs = if okO cs g ⟨d, .index xt x ix, t, ps, af, gd⟩ = true then evOp C s ⟨d, .index xt x ix, t, ps, af, gd⟩ env objs else none := rfl
theorem evG_extract {tuple : Operand} {ix : Nat} {t : Nat} {ps : String} {af : Array Edge} {gd : Option (Nat × Bool)} : evG C cs g s ⟨d, .extract tuple ix, t, ps, af, gd⟩ env objs = if okO cs g ⟨d, .extract tuple ix, t, ps, af, gd⟩ = true then evOp C s ⟨d, .extract tuple ix, t, ps, af, gd⟩ env objs else none := rfl
theorem evG_call {c : Call} {t : Nat} {ps : String} {af : Array Edge} {gd : Option (Nat × Bool)} : evG C cs g s ⟨d, .call c, t, ps, af, gd⟩ env objs = if okO cs g ⟨d, .call c, t, ps, af, gd⟩ = true then evOp C s ⟨d, .call c, t, ps, af, gd⟩ env objs else none := rfl
def pickG (C : Cfg) (cs : List (Nat × Bool)) (g s : Bool) (o : Oper) (env : Env) (objs : Objs) (c x y : Operand) : Option Bool → Option Bool → Option Bool → Option (TV × Objs)
  | some cv, some a, some b => if okT cs g c && okT cs (g && cv) x && okT cs (g && !cv) y then some (sv (.bool (bif cv then a else b)), objs) else none
  | _, _, _ => if okO cs g o then evOp C s o env objs else none
theorem evG_pick {c x y : Operand} {t : Nat} {ps : String} {af : Array Edge} {gd : Option (Nat × Bool)} : evG C cs g s ⟨d, .pick c x y, t, ps, af, gd⟩ env objs = pickG C cs g s ⟨d, .pick c x y, t, ps, af, gd⟩ env objs c x y (rdB env c) (rdB env x) (rdB env y) := by
  unfold evG pickG
  rfl
theorem pickG_sss {c x y : Operand} {cv a b : Bool} : pickG C cs g s o env objs c x y (some cv) (some a) (some b) = if okT cs g c && okT cs (g && cv) x && okT cs (g && !cv) y then some (sv (.bool (bif cv then a else b)), objs) else none := rfl
theorem pickG_n1 {c x y : Operand} {b : Option Bool} {cv : Option Bool} : pickG C cs g s o env objs c x y cv none b = if okO cs g o then evOp C s o env objs else none := by cases cv <;> rfl
theorem pickG_n2 {c x y : Operand} {a : Option Bool} {cv : Option Bool} : pickG C cs g s o env objs c x y cv a none = if okO cs g o then evOp C s o env objs else none := by cases cv <;> cases a <;> rfl
theorem okT_tmp {t : Nat} : okT cs g (.tmp t) = cs.all fun p => p.1 != t || (!g || p.2) := rfl
theorem okT_const {v : Value} : okT cs g (.const v) = true := rfl
theorem okT_func {f : Nat} : okT cs g (.func f) = true := rfl
end

attribute [simp] evOpsG_nil thenG_some thenG_none thenG_ite thenG_bind thenGg_some evOpsG_u evOpsG_g guardG_eq gG0_some gG1_some evG_move evG_assign evG_alloc evG_box evG_build evG_buildSlice evG_load evG_store evG_nilCheck evG_binOp evG_unOp evG_convert evG_makeFunc evG_makeSlice evG_slice evG_fieldAddr evG_field evG_indexAddr evG_index evG_extract evG_call evG_pick pickG_sss pickG_n1 pickG_n2 okT_tmp okT_const okT_func okO dstOk addG dropG Op.operands Call.operands
attribute [simp] toL_get toL_set trf_nil trf_cons toL_mask Tr.get Tr.set Tr.lst Tr.lst_zero

end Go.Vm

/- Short forms for the printed texts: what a configuration holds, all at once; runs of what is not kept. -/
set_option linter.unusedVariables false
namespace Go.Vm
open Go Go.RowKit

abbrev CIs (C : Cfg) (ty : List (Nat × TI)) (eqs : List (Nat × List LK)) (call : List (Nat × (List DA → Option (List RV)))) (calls scal : List Nat) (owns : List (Nat × List (Nat × Nat × Nat)))
    (vars ores : List Nat) (flags : List (Nat × List Bool)) (pins : List (Nat × List Nat)) (inls : List Nat) : Prop :=
  C.ty = ty ∧ C.eqs = eqs ∧ (C.call = fun f => (call.lookup f).getD fun _ => none) ∧ C.calls = calls ∧ C.scal = scal ∧ C.owns = owns ∧ C.vars = vars ∧ C.ores = ores ∧ C.flags = flags ∧ C.pins = pins ∧ C.inls = inls
abbrev CIl (C : Cfg) (inl : List (Nat × (List V1 → Objs → Option (TV × Objs)))) : Prop := C.inl = fun f => (inl.lookup f).getD fun _ _ => none
abbrev U8 (l : List TV) : List TV := .unk :: .unk :: .unk :: .unk :: .unk :: .unk :: .unk :: .unk :: l
abbrev U64 (l : List TV) : List TV := U8 <| U8 <| U8 <| U8 <| U8 <| U8 <| U8 <| U8 l
abbrev K8 {β : Type} (c : Cdc (List TV) β) : Cdc (List TV) β := lSkip vUnk <| lSkip vUnk <| lSkip vUnk <| lSkip vUnk <| lSkip vUnk <| lSkip vUnk <| lSkip vUnk <| lSkip vUnk c
abbrev K64 {β : Type} (c : Cdc (List TV) β) : Cdc (List TV) β := K8 <| K8 <| K8 <| K8 <| K8 <| K8 <| K8 <| K8 c

@[reducible] def setC (an : Ann) (f : Cfg → Cfg) : Ann := { an with c := f }

@[simp] def cloEq : CV → CV → Bool
  | .clo f a b, .clo g c d => decide (f = g) && decide (a = c) && decide (b = d)
  | _, _ => false
@[simp] def tabEq : List (Int × CV) → List (Int × CV) → Bool
  | [], [] => true
  | p :: ps, q :: qs => decide (p.1 = q.1) && cloEq p.2 q.2 && tabEq ps qs
  | _, _ => false
theorem cloEq_ok {x y : CV} (h : cloEq x y = true) : x = y := by
  unfold cloEq at h
  split at h
  · simp only [Bool.and_eq_true, decide_eq_true_eq] at h
    obtain ⟨⟨rfl, rfl⟩, rfl⟩ := h
    rfl
  · cases h
theorem tabEq_ok : ∀ {l m : List (Int × CV)}, tabEq l m = true → l = m
  | [], [], _ => rfl
  | p :: ps, q :: qs, h => by
    simp only [tabEq, Bool.and_eq_true, decide_eq_true_eq] at h
    obtain ⟨⟨h1, h2⟩, h3⟩ := h
    rw [tabEq_ok h3]
    exact congrArg (· :: qs) (Prod.ext h1 (cloEq_ok h2))
  | [], _ :: _, h => by simp at h
  | _ :: _, [], h => by simp at h
@[simp] def oTab (l : List (Int × CV)) : Cdc Ob Unit where
  enc _ := .tab l
  dec | .tab m => if tabEq m l = true then some () else none | _ => none
  ok b a h := by
    split at h
    · split at h
      · rename_i hm
        simp only [tabEq_ok hm]
      · cases h
    · cases h

end Go.Vm

/- The types that the functions use. -/
namespace Go.Vm
open Go

@[simp] def ti3 : Nat × TI := (3, { size := 1, bytes := 8, agg := false, zero := [.sc (.int .i64 0)], kind := .int .i64 })
@[simp] def ti4 : Nat × TI := (4, { size := 1, bytes := 1, agg := false, zero := [.sc (.bool false)], kind := .bool })
@[simp] def ti5 : Nat × TI := (5, { size := 1, bytes := 1, agg := false, zero := [.sc (.int .u8 0)], kind := .int .u8 })
@[simp] def ti9 : Nat × TI := (9, { size := 1, bytes := 16, agg := false, zero := [.sc (.string "".toByteArray)], kind := .str })
@[simp] def ti23 : Nat × TI := (23, { size := 8, bytes := 64, agg := true, zero := [.sc (.int .i64 0), .sc (.int .i64 0), .sc (.int .i64 0), .sc (.int .i64 0), .sc (.int .i64 0), .sc (.int .i64 0), .sc (.int .i64 0), .sc (.int .i64 0)], kind := .struct [(0, 1, false), (1, 1, false), (2, 1, false), (3, 1, false), (4, 1, false), (5, 1, false), (6, 1, false), (7, 1, false)] })
@[simp] def ti24 : Nat × TI := (24, { size := 1, bytes := 24, agg := false, zero := [.sl []], kind := .slice 65 })
@[simp] def ti26 : Nat × TI := (26, { size := 5, bytes := 48, agg := true, zero := [.sc (.int .i64 0), .sc (.int .i64 0), .sc (.int .i64 0), .sc (.int .i64 0), .sc (.string "".toByteArray)], kind := .struct [(0, 1, false), (1, 1, false), (2, 1, false), (3, 1, false), (4, 1, false)] })
@[simp] def ti29 : Nat × TI := (29, { size := 1, bytes := 8, agg := false, zero := [.sc (.int .i64 0)], kind := .int .i64 })
@[simp] def ti31 : Nat × TI := (31, { size := 6, bytes := 56, agg := true, zero := [.sc (.int .i64 0), .sc (.int .i64 0), .sc (.int .i64 0), .sc (.int .i64 0), .sc (.int .i64 0), .sc (.string "".toByteArray)], kind := .struct [(0, 1, false), (1, 1, false), (2, 1, false), (3, 1, false), (4, 1, false), (5, 1, false)] })
@[simp] def ti32 : Nat × TI := (32, { size := 1, bytes := 24, agg := false, zero := [.sl []], kind := .slice 31 })
@[simp] def ti34 : Nat × TI := (34, { size := 9, bytes := 96, agg := true, zero := [.sc (.int .i64 0), .sc (.int .i64 0), .sc (.int .i64 0), .sc (.int .i64 0), .sc (.int .i64 0), .sc (.int .i64 0), .sc (.string "".toByteArray), .sl [], .sc (.int .i64 0)], kind := .struct [(0, 1, false), (1, 6, true), (7, 1, false), (8, 1, false)] })
@[simp] def ti35 : Nat × TI := (35, { size := 1, bytes := 24, agg := false, zero := [.sl []], kind := .slice 68 })
@[simp] def ti38 : Nat × TI := (38, { size := 5, bytes := 48, agg := true, zero := [.sc (.int .i64 0), .sc (.int .i64 0), .sc (.int .i64 0), .sc (.int .i64 0), .sc (.string "".toByteArray)], kind := .struct [(0, 1, false), (1, 1, false), (2, 1, false), (3, 1, false), (4, 1, false)] })
@[simp] def ti39 : Nat × TI := (39, { size := 9, bytes := 96, agg := true, zero := [.sc (.int .i64 0), .sc (.int .i64 0), .sc (.int .i64 0), .sc (.int .i64 0), .sc (.int .i64 0), .sc (.int .i64 0), .sc (.string "".toByteArray), .sl [], .sc (.int .i64 0)], kind := .struct [(0, 1, false), (1, 6, true), (7, 1, false), (8, 1, false)] })
@[simp] def ti49 : Nat × TI := (49, { size := 1, bytes := 24, agg := false, zero := [.sl []], kind := .slice 26 })
@[simp] def ti51 : Nat × TI := (51, { size := 1, bytes := 24, agg := false, zero := [.sl []], kind := .slice 34 })
@[simp] def ti54 : Nat × TI := (54, { size := 1, bytes := 24, agg := false, zero := [.sl []], kind := .slice 38 })
@[simp] def ti56 : Nat × TI := (56, { size := 1, bytes := 24, agg := false, zero := [.sl []], kind := .slice 39 })
@[simp] def ti63 : Nat × TI := (63, { size := 2, bytes := 32, agg := true, zero := [.sl [], .sc (.int .i64 0)], kind := .struct [(0, 1, false), (1, 1, false)] })
@[simp] def ti65 : Nat × TI := (65, { size := 3, bytes := 40, agg := true, zero := [.sc (.int .i64 0), .sc (.int .i64 0), .sl []], kind := .struct [(0, 1, false), (1, 1, false), (2, 1, false)] })
@[simp] def ti68 : Nat × TI := (68, { size := 8, bytes := 72, agg := true, zero := [.sc (.int .i64 0), .sc (.int .i64 0), .sc (.int .i64 0), .sc (.int .i64 0), .sc (.int .i64 0), .sc (.int .i64 0), .sc (.string "".toByteArray), .sc (.int .i64 0)], kind := .struct [(0, 1, false), (1, 6, true), (7, 1, false)] })
@[simp] def ti74 : Nat × TI := (74, { size := 1, bytes := 8, agg := false, zero := [.sc .nilFunc], kind := .plain })
@[simp] def ti82 : Nat × TI := (82, { size := 15, bytes := 176, agg := true, zero := [.sc (.bool false), .sc (.int .i64 0), .sc (.int .i64 0), .sc (.int .i64 0), .sl [], .sl [], .sc (.int .i64 0), .sc (.int .i64 0), .sc (.int .i64 0), .sc (.int .i64 0), .sc (.int .i64 0), .sc (.int .i64 0), .sc (.string "".toByteArray), .sl [], .sc (.int .i64 0)], kind := .struct [(0, 1, false), (1, 1, false), (2, 3, true), (5, 1, false), (6, 9, true)] })
@[simp] def ti85 : Nat × TI := (85, { size := 1, bytes := 24, agg := false, zero := [.sl []], kind := .slice 3 })
@[simp] def ti87 : Nat × TI := (87, { size := 2, bytes := 16, agg := true, zero := [.sc (.int .i64 0), .sc (.int .i64 0)], kind := .struct [(0, 1, false), (1, 1, false)] })
@[simp] def ti88 : Nat × TI := (88, { size := 1, bytes := 24, agg := false, zero := [.sl []], kind := .slice 63 })
@[simp] def ti90 : Nat × TI := (90, { size := 12, bytes := 128, agg := true, zero := [.sc (.int .i64 0), .sc (.int .i64 0), .sc (.int .i64 0), .sc (.int .i64 0), .sc (.int .i64 0), .sc (.int .i64 0), .sc (.int .i64 0), .sc (.int .i64 0), .sl [], .sc (.int .i64 0), .sc (.int .i64 0), .sl []], kind := .struct [(0, 8, true), (8, 1, false), (9, 2, true), (11, 1, false)] })
@[simp] def ti94 : Nat × TI := (94, { size := 32, bytes := 344, agg := true, zero := [.sc (.int .i64 0), .sc (.int .i64 0), .sc (.int .i64 0), .sc (.int .i64 0), .sc (.string "".toByteArray), .sc (.int .i64 0), .sc (.int .i64 0), .sc (.bool false), .sc (.int .i64 0), .sc (.int .i64 0), .sc (.int .i64 0), .sl [], .sl [], .sc (.int .i64 0), .sc (.int .i64 0), .sc (.int .i64 0), .sc (.int .i64 0), .sc (.int .i64 0), .sc (.int .i64 0), .sc (.string "".toByteArray), .sl [], .sc (.int .i64 0), .sc (.int .i64 0), .sc (.int .i64 0), .sc (.int .i64 0), .sc (.int .i64 0), .sc (.int .i64 0), .sc (.int .i64 0), .sc (.string "".toByteArray), .sl [], .sc (.int .i64 0), .sc (.bool false)], kind := .struct [(0, 5, true), (5, 1, false), (6, 1, false), (7, 15, true), (22, 9, true), (31, 1, false)] })
@[simp] def ti96 : Nat × TI := (96, { size := 1, bytes := 24, agg := false, zero := [.sl []], kind := .slice 3 })
@[simp] def ti97 : Nat × TI := (97, { size := 2, bytes := 16, agg := true, zero := [.sc (.int .i64 0), .sc (.int .i64 0)], kind := .struct [(0, 1, false), (1, 1, false)] })
@[simp] def ti98 : Nat × TI := (98, { size := 1, bytes := 24, agg := false, zero := [.sl []], kind := .slice 113 })
@[simp] def ti100 : Nat × TI := (100, { size := 12, bytes := 128, agg := true, zero := [.sc (.int .i64 0), .sc (.int .i64 0), .sc (.int .i64 0), .sc (.int .i64 0), .sc (.int .i64 0), .sc (.int .i64 0), .sc (.int .i64 0), .sc (.int .i64 0), .sl [], .sc (.int .i64 0), .sc (.int .i64 0), .sl []], kind := .struct [(0, 8, true), (8, 1, false), (9, 2, true), (11, 1, false)] })
@[simp] def ti107 : Nat × TI := (107, { size := 10, bytes := 96, agg := true, zero := [.sc (.int .i64 0), .sc (.int .i64 0), .sc (.int .i64 0), .sc (.int .i64 0), .sc (.string "".toByteArray), .sc (.int .i64 0), .sc (.int .i64 0), .sc (.int .i64 0), .sc (.int .i64 0), .sc (.string "".toByteArray)], kind := .array 2 26 })
@[simp] def ti108 : Nat × TI := (108, { size := 1, bytes := 24, agg := false, zero := [.sl []], kind := .slice 4 })
@[simp] def ti109 : Nat × TI := (109, { size := 64, bytes := 688, agg := true, zero := [.sc (.int .i64 0), .sc (.int .i64 0), .sc (.int .i64 0), .sc (.int .i64 0), .sc (.string "".toByteArray), .sc (.int .i64 0), .sc (.int .i64 0), .sc (.bool false), .sc (.int .i64 0), .sc (.int .i64 0), .sc (.int .i64 0), .sl [], .sl [], .sc (.int .i64 0), .sc (.int .i64 0), .sc (.int .i64 0), .sc (.int .i64 0), .sc (.int .i64 0), .sc (.int .i64 0), .sc (.string "".toByteArray), .sl [], .sc (.int .i64 0), .sc (.int .i64 0), .sc (.int .i64 0), .sc (.int .i64 0), .sc (.int .i64 0), .sc (.int .i64 0), .sc (.int .i64 0), .sc (.string "".toByteArray), .sl [], .sc (.int .i64 0), .sc (.bool false), .sc (.int .i64 0), .sc (.int .i64 0), .sc (.int .i64 0), .sc (.int .i64 0), .sc (.string "".toByteArray), .sc (.int .i64 0), .sc (.int .i64 0), .sc (.bool false), .sc (.int .i64 0), .sc (.int .i64 0), .sc (.int .i64 0), .sl [], .sl [], .sc (.int .i64 0), .sc (.int .i64 0), .sc (.int .i64 0), .sc (.int .i64 0), .sc (.int .i64 0), .sc (.int .i64 0), .sc (.string "".toByteArray), .sl [], .sc (.int .i64 0), .sc (.int .i64 0), .sc (.int .i64 0), .sc (.int .i64 0), .sc (.int .i64 0), .sc (.int .i64 0), .sc (.int .i64 0), .sc (.string "".toByteArray), .sl [], .sc (.int .i64 0), .sc (.bool false)], kind := .array 2 94 })
@[simp] def ti112 : Nat × TI := (112, { size := 1, bytes := 8, agg := false, zero := [.sc (.pointer none)], kind := .ptr 115 })
@[simp] def ti113 : Nat × TI := (113, { size := 2, bytes := 32, agg := true, zero := [.sl [], .sc (.int .i64 0)], kind := .struct [(0, 1, false), (1, 1, false)] })
@[simp] def ti115 : Nat × TI := (115, { size := 11, bytes := 120, agg := true, zero := [.sc (.int .i64 0), .sc (.int .i64 0), .sc (.int .i64 0), .sc (.int .i64 0), .sc (.int .i64 0), .sc (.int .i64 0), .sc (.int .i64 0), .sc (.int .i64 0), .sl [], .sc (.int .i64 0), .sl []], kind := .struct [(0, 8, true), (8, 2, true), (10, 1, false)] })
@[simp] def ti118 : Nat × TI := (118, { size := 1, bytes := 8, agg := false, zero := [.sc (.map none)], kind := .map 3 116 })
@[simp] def ti130 : Nat × TI := (130, { size := 1, bytes := 24, agg := false, zero := [.sl []], kind := .slice 32 })
@[simp] def ti134 : Nat × TI := (134, { size := 1, bytes := 8, agg := false, zero := [.sc .nilFunc], kind := .plain })
@[simp] def ti150 : Nat × TI := (150, { size := 1, bytes := 8, agg := false, zero := [.sc (.pointer none)], kind := .ptr 152 })
@[simp] def ti152 : Nat × TI := (152, { size := 48, bytes := 520, agg := true, zero := [.sc (.int .i64 0), .sc (.int .i64 0), .sc (.int .i64 0), .sc (.int .i64 0), .sc (.string "".toByteArray), .sc (.int .i64 0), .sc (.int .i64 0), .sc (.bool false), .sc (.int .i64 0), .sc (.int .i64 0), .sc (.int .i64 0), .sl [], .sl [], .sc (.int .i64 0), .sc (.int .i64 0), .sc (.int .i64 0), .sc (.int .i64 0), .sc (.int .i64 0), .sc (.int .i64 0), .sc (.string "".toByteArray), .sl [], .sc (.int .i64 0), .sc (.int .i64 0), .sc (.int .i64 0), .sc (.int .i64 0), .sc (.int .i64 0), .sc (.int .i64 0), .sc (.int .i64 0), .sc (.string "".toByteArray), .sl [], .sc (.int .i64 0), .sc (.bool false), .sc (.int .i64 0), .sc (.int .i64 0), .sc (.int .i64 0), .sc (.int .i64 0), .sc (.int .i64 0), .sc (.int .i64 0), .sc (.int .i64 0), .sc (.int .i64 0), .sl [], .sc (.int .i64 0), .sc (.int .i64 0), .sl [], .sc (.int .i64 0), .sc (.int .i64 0), .sl [], .sc (.bool false)], kind := .struct [(0, 32, true), (32, 12, true), (44, 1, false), (45, 1, false), (46, 1, false), (47, 1, false)] })
@[simp] def ti153 : Nat × TI := (153, { size := 1, bytes := 8, agg := false, zero := [.sc .nilFunc], kind := .plain })
@[simp] def ti154 : Nat × TI := (154, { size := 6, bytes := 48, agg := true, zero := [.sc .nilFunc, .sc .nilFunc, .sc .nilFunc, .sc .nilFunc, .sc .nilFunc, .sc .nilFunc], kind := .array 6 153 })
@[simp] def ti165 : Nat × TI := (165, { size := 1, bytes := 24, agg := false, zero := [.sl []], kind := .slice 5 })
@[simp] def ti166 : Nat × TI := (166, { size := 1, bytes := 8, agg := false, zero := [.sc (.pointer none)], kind := .ptr 168 })
@[simp] def ti168 : Nat × TI := (168, { size := 18, bytes := 216, agg := true, zero := [.sc (.bool false), .sc (.int .i64 0), .sc (.int .i64 0), .sc (.int .i64 0), .sl [], .sl [], .sc (.int .i64 0), .sc (.int .i64 0), .sc (.int .i64 0), .sc (.int .i64 0), .sc (.int .i64 0), .sc (.int .i64 0), .sc (.string "".toByteArray), .sl [], .sc (.int .i64 0), .sc (.int .i64 0), .sc (.int .i64 0), .sl []], kind := .struct [(0, 15, true), (15, 3, true)] })
@[simp] def ti173 : Nat × TI := (173, { size := 1, bytes := 8, agg := false, zero := [.sc (.pointer none)], kind := .ptr 3 })
@[simp] def ti174 : Nat × TI := (174, { size := 5, bytes := 40, agg := true, zero := [.sc (.pointer none), .sc (.pointer none), .sc (.pointer none), .sc (.pointer none), .sc (.pointer none)], kind := .array 5 173 })
@[simp] def ti189 : Nat × TI := (189, { size := 5, bytes := 40, agg := true, zero := [.sc (.int .i64 0), .sc (.int .i64 0), .sc (.int .i64 0), .sc (.int .i64 0), .sc (.int .i64 0)], kind := .array 5 3 })
@[simp] def ti199 : Nat × TI := (199, { size := 1, bytes := 8, agg := false, zero := [.sc (.int .u64 0)], kind := .int .u64 })
@[simp] def ti210 : Nat × TI := (210, { size := 1, bytes := 8, agg := false, zero := [.sc (.pointer none)], kind := .ptr 215 })
@[simp] def ti211 : Nat × TI := (211, { size := 1, bytes := 24, agg := false, zero := [.sl []], kind := .slice 216 })
@[simp] def ti213 : Nat × TI := (213, { size := 1, bytes := 8, agg := false, zero := [.sc (.map none)], kind := .plain })
@[simp] def ti215 : Nat × TI := (215, { size := 4, bytes := 64, agg := true, zero := [.sc (.int .i64 0), .sl [], .sc (.map none), .sl []], kind := .struct [(0, 1, false), (1, 1, false), (2, 1, false), (3, 1, false)] })
@[simp] def ti216 : Nat × TI := (216, { size := 1, bytes := 8, agg := false, zero := [.sc (.pointer none)], kind := .ptr 218 })
@[simp] def ti218 : Nat × TI := (218, { size := 1, bytes := 24, agg := true, zero := [.sl []], kind := .struct [(0, 1, false)] })
@[simp] def ti225 : Nat × TI := (225, { size := 9, bytes := 9, agg := true, zero := [.sc (.int .u8 0), .sc (.int .u8 0), .sc (.int .u8 0), .sc (.int .u8 0), .sc (.int .u8 0), .sc (.int .u8 0), .sc (.int .u8 0), .sc (.int .u8 0), .sc (.int .u8 0)], kind := .array 9 5 })
@[simp] def ti234 : Nat × TI := (234, { size := 1, bytes := 8, agg := false, zero := [.sc (.map none)], kind := .plain })
@[simp] def ti235 : Nat × TI := (235, { size := 1, bytes := 8, agg := false, zero := [.sc (.pointer none)], kind := .ptr 237 })
@[simp] def ti237 : Nat × TI := (237, { size := 2, bytes := 32, agg := true, zero := [.sc (.pointer none), .sl []], kind := .struct [(0, 1, false), (1, 1, false)] })
@[simp] def ti247 : Nat × TI := (247, { size := 1, bytes := 8, agg := false, zero := [.sc (.pointer none)], kind := .ptr 5 })

end Go.Vm

/- The Go types as Lean data, and how they lie in cells. -/
set_option linter.unusedVariables false
set_option linter.unusedSimpArgs false
namespace Go.Vm
open Go Go.RowKit
structure Config where
  shards : Int
  soft : Int
  hard : Int
  per : Int
  bump : Int
  feed : Int
  workers : Int
  room : Int
def Config.c (x : Config) : List DV := [.sc (.int .i64 (x.shards)), .sc (.int .i64 (x.soft)), .sc (.int .i64 (x.hard)), .sc (.int .i64 (x.per)), .sc (.int .i64 (x.bump)), .sc (.int .i64 (x.feed)), .sc (.int .i64 (x.workers)), .sc (.int .i64 (x.room))]
@[simp] def dConfig : List DV → Option Config
  | [.sc (.int .i64 v0), .sc (.int .i64 v1), .sc (.int .i64 v2), .sc (.int .i64 v3), .sc (.int .i64 v4), .sc (.int .i64 v5), .sc (.int .i64 v6), .sc (.int .i64 v7)] => some (Config.mk v0 v1 v2 v3 v4 v5 v6 v7)
  | _ => none
theorem Config.ok (l : List DV) (t : Config) (h : dConfig l = some t) : t.c = l := by
  unfold dConfig at h
  split at h
  · injection h with h
    subst h
    rfl
  · cases h
def ceConfig : Cel Config := ⟨Config.c, dConfig, Config.ok⟩
@[simp] theorem ceConfig_c : ceConfig.c = Config.c := rfl
@[simp] theorem ceConfig_d : ceConfig.d = dConfig := rfl
@[simp] theorem Config.eta_ (x : Config) : Config.mk x.shards x.soft x.hard x.per x.bump x.feed x.workers x.room = x := rfl
theorem Config.dc (x : Config) : dConfig x.c = some x := by simp [Config.c]
@[simp] theorem Config.dmap (l : List Config) : decL dConfig (l.map Config.c) = some l := decL_map Config.dc
@[simp] theorem Config.dtake (l : List Config) (n : Nat) : decL dConfig ((l.map Config.c).take n) = some (l.take n) := decL_take Config.dc
@[simp] theorem Config.ddrop (l : List Config) (n : Nat) : decL dConfig ((l.map Config.c).drop n) = some (l.drop n) := decL_drop Config.dc
@[simp] theorem Config.dtd (l : List Config) (n m : Nat) : decL dConfig (((l.map Config.c).take n).drop m) = some ((l.take n).drop m) := decL_take_drop Config.dc
@[simp] theorem Config.dset (l : List Config) (i : Nat) (x : List DV) : decL dConfig ((l.map Config.c).set i x) = if i < l.length then (dConfig x).bind fun a => some (l.set i a) else some l := decL_set Config.dc

structure Tx where
  sender : Int
  nonce : Int
  tip : Int
  cap : Int
  gas : Int
  data : ByteArray
def Tx.c (x : Tx) : List DV := [.sc (.int .i64 (x.sender)), .sc (.int .i64 (x.nonce)), .sc (.int .i64 (x.tip)), .sc (.int .i64 (x.cap)), .sc (.int .i64 (x.gas)), .sc (.string (x.data))]
@[simp] def dTx : List DV → Option Tx
  | [.sc (.int .i64 v0), .sc (.int .i64 v1), .sc (.int .i64 v2), .sc (.int .i64 v3), .sc (.int .i64 v4), .sc (.string v5)] => some (Tx.mk v0 v1 v2 v3 v4 v5)
  | _ => none
theorem Tx.ok (l : List DV) (t : Tx) (h : dTx l = some t) : t.c = l := by
  unfold dTx at h
  split at h
  · injection h with h
    subst h
    rfl
  · cases h
def ceTx : Cel Tx := ⟨Tx.c, dTx, Tx.ok⟩
@[simp] theorem ceTx_c : ceTx.c = Tx.c := rfl
@[simp] theorem ceTx_d : ceTx.d = dTx := rfl
@[simp] theorem Tx.eta_ (x : Tx) : Tx.mk x.sender x.nonce x.tip x.cap x.gas x.data = x := rfl
theorem Tx.dc (x : Tx) : dTx x.c = some x := by simp [Tx.c]
@[simp] theorem Tx.dmap (l : List Tx) : decL dTx (l.map Tx.c) = some l := decL_map Tx.dc
@[simp] theorem Tx.dtake (l : List Tx) (n : Nat) : decL dTx ((l.map Tx.c).take n) = some (l.take n) := decL_take Tx.dc
@[simp] theorem Tx.ddrop (l : List Tx) (n : Nat) : decL dTx ((l.map Tx.c).drop n) = some (l.drop n) := decL_drop Tx.dc
@[simp] theorem Tx.dtd (l : List Tx) (n m : Nat) : decL dTx (((l.map Tx.c).take n).drop m) = some ((l.take n).drop m) := decL_take_drop Tx.dc
@[simp] theorem Tx.dset (l : List Tx) (i : Nat) (x : List DV) : decL dTx ((l.map Tx.c).set i x) = if i < l.length then (dTx x).bind fun a => some (l.set i a) else some l := decL_set Tx.dc

structure Acc where
  sender : Int
  base : Int
  txs : (List Tx)
def Acc.c (x : Acc) : List DV := [.sc (.int .i64 (x.sender)), .sc (.int .i64 (x.base)), .sl ((x.txs).map Tx.c)]
@[simp] def dAcc : List DV → Option Acc
  | [.sc (.int .i64 v0), .sc (.int .i64 v1), .sl v2] => (decL dTx v2).bind fun v2 => some (Acc.mk v0 v1 v2)
  | _ => none
theorem Acc.ok (l : List DV) (t : Acc) (h : dAcc l = some t) : t.c = l := by
  unfold dAcc at h
  split at h
  · simp only [Option.bind_eq_some_iff, Option.some.injEq] at h
    obtain ⟨y0, hy0, h⟩ := h
    have k0 := decL_ok (e := ceTx) hy0
    subst h
    simp only [Acc.c, ← k0]
    rfl
  · cases h
def ceAcc : Cel Acc := ⟨Acc.c, dAcc, Acc.ok⟩
@[simp] theorem ceAcc_c : ceAcc.c = Acc.c := rfl
@[simp] theorem ceAcc_d : ceAcc.d = dAcc := rfl
@[simp] theorem Acc.eta_ (x : Acc) : Acc.mk x.sender x.base x.txs = x := rfl
theorem Acc.dc (x : Acc) : dAcc x.c = some x := by simp [Acc.c]
@[simp] theorem Acc.dmap (l : List Acc) : decL dAcc (l.map Acc.c) = some l := decL_map Acc.dc
@[simp] theorem Acc.dtake (l : List Acc) (n : Nat) : decL dAcc ((l.map Acc.c).take n) = some (l.take n) := decL_take Acc.dc
@[simp] theorem Acc.ddrop (l : List Acc) (n : Nat) : decL dAcc ((l.map Acc.c).drop n) = some (l.drop n) := decL_drop Acc.dc
@[simp] theorem Acc.dtd (l : List Acc) (n m : Nat) : decL dAcc (((l.map Acc.c).take n).drop m) = some ((l.take n).drop m) := decL_take_drop Acc.dc
@[simp] theorem Acc.dset (l : List Acc) (i : Nat) (x : List DV) : decL dAcc ((l.map Acc.c).set i x) = if i < l.length then (dAcc x).bind fun a => some (l.set i a) else some l := decL_set Acc.dc

structure Event where
  kind : Int
  tx : Tx
  n : Int
def Event.c (x : Event) : List DV := [.sc (.int .i64 (x.kind)), .sc (.int .i64 (x.tx.sender)), .sc (.int .i64 (x.tx.nonce)), .sc (.int .i64 (x.tx.tip)), .sc (.int .i64 (x.tx.cap)), .sc (.int .i64 (x.tx.gas)), .sc (.string (x.tx.data)), .sc (.int .i64 (x.n))]
@[simp] def dEvent : List DV → Option Event
  | [.sc (.int .i64 v0), .sc (.int .i64 v1), .sc (.int .i64 v2), .sc (.int .i64 v3), .sc (.int .i64 v4), .sc (.int .i64 v5), .sc (.string v6), .sc (.int .i64 v7)] => some (Event.mk v0 (Tx.mk v1 v2 v3 v4 v5 v6) v7)
  | _ => none
theorem Event.ok (l : List DV) (t : Event) (h : dEvent l = some t) : t.c = l := by
  unfold dEvent at h
  split at h
  · injection h with h
    subst h
    rfl
  · cases h
def ceEvent : Cel Event := ⟨Event.c, dEvent, Event.ok⟩
@[simp] theorem ceEvent_c : ceEvent.c = Event.c := rfl
@[simp] theorem ceEvent_d : ceEvent.d = dEvent := rfl
@[simp] theorem Event.eta_ (x : Event) : Event.mk x.kind x.tx x.n = x := rfl
theorem Event.dc (x : Event) : dEvent x.c = some x := by simp [Event.c]
@[simp] theorem Event.dmap (l : List Event) : decL dEvent (l.map Event.c) = some l := decL_map Event.dc
@[simp] theorem Event.dtake (l : List Event) (n : Nat) : decL dEvent ((l.map Event.c).take n) = some (l.take n) := decL_take Event.dc
@[simp] theorem Event.ddrop (l : List Event) (n : Nat) : decL dEvent ((l.map Event.c).drop n) = some (l.drop n) := decL_drop Event.dc
@[simp] theorem Event.dtd (l : List Event) (n m : Nat) : decL dEvent (((l.map Event.c).take n).drop m) = some ((l.take n).drop m) := decL_take_drop Event.dc
@[simp] theorem Event.dset (l : List Event) (i : Nat) (x : List DV) : decL dEvent ((l.map Event.c).set i x) = if i < l.length then (dEvent x).bind fun a => some (l.set i a) else some l := decL_set Event.dc

structure Op where
  kind : Int
  sender : Int
  nonce : Int
  gas : Int
  data : ByteArray
def Op.c (x : Op) : List DV := [.sc (.int .i64 (x.kind)), .sc (.int .i64 (x.sender)), .sc (.int .i64 (x.nonce)), .sc (.int .i64 (x.gas)), .sc (.string (x.data))]
@[simp] def dOp : List DV → Option Op
  | [.sc (.int .i64 v0), .sc (.int .i64 v1), .sc (.int .i64 v2), .sc (.int .i64 v3), .sc (.string v4)] => some (Op.mk v0 v1 v2 v3 v4)
  | _ => none
theorem Op.ok (l : List DV) (t : Op) (h : dOp l = some t) : t.c = l := by
  unfold dOp at h
  split at h
  · injection h with h
    subst h
    rfl
  · cases h
def ceOp : Cel Op := ⟨Op.c, dOp, Op.ok⟩
@[simp] theorem ceOp_c : ceOp.c = Op.c := rfl
@[simp] theorem ceOp_d : ceOp.d = dOp := rfl
@[simp] theorem Op.eta_ (x : Op) : Op.mk x.kind x.sender x.nonce x.gas x.data = x := rfl
theorem Op.dc (x : Op) : dOp x.c = some x := by simp [Op.c]
@[simp] theorem Op.dmap (l : List Op) : decL dOp (l.map Op.c) = some l := decL_map Op.dc
@[simp] theorem Op.dtake (l : List Op) (n : Nat) : decL dOp ((l.map Op.c).take n) = some (l.take n) := decL_take Op.dc
@[simp] theorem Op.ddrop (l : List Op) (n : Nat) : decL dOp ((l.map Op.c).drop n) = some (l.drop n) := decL_drop Op.dc
@[simp] theorem Op.dtd (l : List Op) (n m : Nat) : decL dOp (((l.map Op.c).take n).drop m) = some ((l.take n).drop m) := decL_take_drop Op.dc
@[simp] theorem Op.dset (l : List Op) (i : Nat) (x : List DV) : decL dOp ((l.map Op.c).set i x) = if i < l.length then (dOp x).bind fun a => some (l.set i a) else some l := decL_set Op.dc

structure Result where
  err : Int
  tx : Tx
  txs : (List Tx)
  slots : Int
def Result.c (x : Result) : List DV := [.sc (.int .i64 (x.err)), .sc (.int .i64 (x.tx.sender)), .sc (.int .i64 (x.tx.nonce)), .sc (.int .i64 (x.tx.tip)), .sc (.int .i64 (x.tx.cap)), .sc (.int .i64 (x.tx.gas)), .sc (.string (x.tx.data)), .sl ((x.txs).map Tx.c), .sc (.int .i64 (x.slots))]
@[simp] def dResult : List DV → Option Result
  | [.sc (.int .i64 v0), .sc (.int .i64 v1), .sc (.int .i64 v2), .sc (.int .i64 v3), .sc (.int .i64 v4), .sc (.int .i64 v5), .sc (.string v6), .sl v7, .sc (.int .i64 v8)] => (decL dTx v7).bind fun v7 => some (Result.mk v0 (Tx.mk v1 v2 v3 v4 v5 v6) v7 v8)
  | _ => none
theorem Result.ok (l : List DV) (t : Result) (h : dResult l = some t) : t.c = l := by
  unfold dResult at h
  split at h
  · simp only [Option.bind_eq_some_iff, Option.some.injEq] at h
    obtain ⟨y0, hy0, h⟩ := h
    have k0 := decL_ok (e := ceTx) hy0
    subst h
    simp only [Result.c, ← k0]
    rfl
  · cases h
def ceResult : Cel Result := ⟨Result.c, dResult, Result.ok⟩
@[simp] theorem ceResult_c : ceResult.c = Result.c := rfl
@[simp] theorem ceResult_d : ceResult.d = dResult := rfl
@[simp] theorem Result.eta_ (x : Result) : Result.mk x.err x.tx x.txs x.slots = x := rfl
theorem Result.dc (x : Result) : dResult x.c = some x := by simp [Result.c]
@[simp] theorem Result.dmap (l : List Result) : decL dResult (l.map Result.c) = some l := decL_map Result.dc
@[simp] theorem Result.dtake (l : List Result) (n : Nat) : decL dResult ((l.map Result.c).take n) = some (l.take n) := decL_take Result.dc
@[simp] theorem Result.ddrop (l : List Result) (n : Nat) : decL dResult ((l.map Result.c).drop n) = some (l.drop n) := decL_drop Result.dc
@[simp] theorem Result.dtd (l : List Result) (n m : Nat) : decL dResult (((l.map Result.c).take n).drop m) = some ((l.take n).drop m) := decL_take_drop Result.dc
@[simp] theorem Result.dset (l : List Result) (i : Nat) (x : List DV) : decL dResult ((l.map Result.c).set i x) = if i < l.length then (dResult x).bind fun a => some (l.set i a) else some l := decL_set Result.dc

structure Plan where
  changes : Bool
  delta : Int
  after : Acc
  events : (List Event)
  result : Result
def Plan.c (x : Plan) : List DV := [.sc (.bool (x.changes)), .sc (.int .i64 (x.delta)), .sc (.int .i64 (x.after.sender)), .sc (.int .i64 (x.after.base)), .sl ((x.after.txs).map Tx.c), .sl ((x.events).map Event.c), .sc (.int .i64 (x.result.err)), .sc (.int .i64 (x.result.tx.sender)), .sc (.int .i64 (x.result.tx.nonce)), .sc (.int .i64 (x.result.tx.tip)), .sc (.int .i64 (x.result.tx.cap)), .sc (.int .i64 (x.result.tx.gas)), .sc (.string (x.result.tx.data)), .sl ((x.result.txs).map Tx.c), .sc (.int .i64 (x.result.slots))]
@[simp] def dPlan : List DV → Option Plan
  | [.sc (.bool v0), .sc (.int .i64 v1), .sc (.int .i64 v2), .sc (.int .i64 v3), .sl v4, .sl v5, .sc (.int .i64 v6), .sc (.int .i64 v7), .sc (.int .i64 v8), .sc (.int .i64 v9), .sc (.int .i64 v10), .sc (.int .i64 v11), .sc (.string v12), .sl v13, .sc (.int .i64 v14)] => (decL dTx v4).bind fun v4 => (decL dEvent v5).bind fun v5 => (decL dTx v13).bind fun v13 => some (Plan.mk v0 v1 (Acc.mk v2 v3 v4) v5 (Result.mk v6 (Tx.mk v7 v8 v9 v10 v11 v12) v13 v14))
  | _ => none
theorem Plan.ok (l : List DV) (t : Plan) (h : dPlan l = some t) : t.c = l := by
  unfold dPlan at h
  split at h
  · simp only [Option.bind_eq_some_iff, Option.some.injEq] at h
    obtain ⟨y0, hy0, ⟨y1, hy1, ⟨y2, hy2, h⟩⟩⟩ := h
    have k0 := decL_ok (e := ceTx) hy0
    have k1 := decL_ok (e := ceEvent) hy1
    have k2 := decL_ok (e := ceTx) hy2
    subst h
    simp only [Plan.c, ← k0, ← k1, ← k2]
    rfl
  · cases h
def cePlan : Cel Plan := ⟨Plan.c, dPlan, Plan.ok⟩
@[simp] theorem cePlan_c : cePlan.c = Plan.c := rfl
@[simp] theorem cePlan_d : cePlan.d = dPlan := rfl
@[simp] theorem Plan.eta_ (x : Plan) : Plan.mk x.changes x.delta x.after x.events x.result = x := rfl
theorem Plan.dc (x : Plan) : dPlan x.c = some x := by simp [Plan.c]
@[simp] theorem Plan.dmap (l : List Plan) : decL dPlan (l.map Plan.c) = some l := decL_map Plan.dc
@[simp] theorem Plan.dtake (l : List Plan) (n : Nat) : decL dPlan ((l.map Plan.c).take n) = some (l.take n) := decL_take Plan.dc
@[simp] theorem Plan.ddrop (l : List Plan) (n : Nat) : decL dPlan ((l.map Plan.c).drop n) = some (l.drop n) := decL_drop Plan.dc
@[simp] theorem Plan.dtd (l : List Plan) (n m : Nat) : decL dPlan (((l.map Plan.c).take n).drop m) = some ((l.take n).drop m) := decL_take_drop Plan.dc
@[simp] theorem Plan.dset (l : List Plan) (i : Nat) (x : List DV) : decL dPlan ((l.map Plan.c).set i x) = if i < l.length then (dPlan x).bind fun a => some (l.set i a) else some l := decL_set Plan.dc

structure Planner where
  plan : Plan
  a : Acc
def Planner.c (x : Planner) : List DV := [.sc (.bool (x.plan.changes)), .sc (.int .i64 (x.plan.delta)), .sc (.int .i64 (x.plan.after.sender)), .sc (.int .i64 (x.plan.after.base)), .sl ((x.plan.after.txs).map Tx.c), .sl ((x.plan.events).map Event.c), .sc (.int .i64 (x.plan.result.err)), .sc (.int .i64 (x.plan.result.tx.sender)), .sc (.int .i64 (x.plan.result.tx.nonce)), .sc (.int .i64 (x.plan.result.tx.tip)), .sc (.int .i64 (x.plan.result.tx.cap)), .sc (.int .i64 (x.plan.result.tx.gas)), .sc (.string (x.plan.result.tx.data)), .sl ((x.plan.result.txs).map Tx.c), .sc (.int .i64 (x.plan.result.slots)), .sc (.int .i64 (x.a.sender)), .sc (.int .i64 (x.a.base)), .sl ((x.a.txs).map Tx.c)]
@[simp] def dPlanner : List DV → Option Planner
  | [.sc (.bool v0), .sc (.int .i64 v1), .sc (.int .i64 v2), .sc (.int .i64 v3), .sl v4, .sl v5, .sc (.int .i64 v6), .sc (.int .i64 v7), .sc (.int .i64 v8), .sc (.int .i64 v9), .sc (.int .i64 v10), .sc (.int .i64 v11), .sc (.string v12), .sl v13, .sc (.int .i64 v14), .sc (.int .i64 v15), .sc (.int .i64 v16), .sl v17] => (decL dTx v4).bind fun v4 => (decL dEvent v5).bind fun v5 => (decL dTx v13).bind fun v13 => (decL dTx v17).bind fun v17 => some (Planner.mk (Plan.mk v0 v1 (Acc.mk v2 v3 v4) v5 (Result.mk v6 (Tx.mk v7 v8 v9 v10 v11 v12) v13 v14)) (Acc.mk v15 v16 v17))
  | _ => none
theorem Planner.ok (l : List DV) (t : Planner) (h : dPlanner l = some t) : t.c = l := by
  unfold dPlanner at h
  split at h
  · simp only [Option.bind_eq_some_iff, Option.some.injEq] at h
    obtain ⟨y0, hy0, ⟨y1, hy1, ⟨y2, hy2, ⟨y3, hy3, h⟩⟩⟩⟩ := h
    have k0 := decL_ok (e := ceTx) hy0
    have k1 := decL_ok (e := ceEvent) hy1
    have k2 := decL_ok (e := ceTx) hy2
    have k3 := decL_ok (e := ceTx) hy3
    subst h
    simp only [Planner.c, ← k0, ← k1, ← k2, ← k3]
    rfl
  · cases h
def cePlanner : Cel Planner := ⟨Planner.c, dPlanner, Planner.ok⟩
@[simp] theorem cePlanner_c : cePlanner.c = Planner.c := rfl
@[simp] theorem cePlanner_d : cePlanner.d = dPlanner := rfl
@[simp] theorem Planner.eta_ (x : Planner) : Planner.mk x.plan x.a = x := rfl
theorem Planner.dc (x : Planner) : dPlanner x.c = some x := by simp [Planner.c]
@[simp] theorem Planner.dmap (l : List Planner) : decL dPlanner (l.map Planner.c) = some l := decL_map Planner.dc
@[simp] theorem Planner.dtake (l : List Planner) (n : Nat) : decL dPlanner ((l.map Planner.c).take n) = some (l.take n) := decL_take Planner.dc
@[simp] theorem Planner.ddrop (l : List Planner) (n : Nat) : decL dPlanner ((l.map Planner.c).drop n) = some (l.drop n) := decL_drop Planner.dc
@[simp] theorem Planner.dtd (l : List Planner) (n m : Nat) : decL dPlanner (((l.map Planner.c).take n).drop m) = some ((l.take n).drop m) := decL_take_drop Planner.dc
@[simp] theorem Planner.dset (l : List Planner) (i : Nat) (x : List DV) : decL dPlanner ((l.map Planner.c).set i x) = if i < l.length then (dPlanner x).bind fun a => some (l.set i a) else some l := decL_set Planner.dc

end Go.Vm

/- More Go types as Lean data (layers 7, 11, 16). -/
set_option linter.unusedVariables false
set_option linter.unusedSimpArgs false
namespace Go.Vm
open Go Go.RowKit
structure Shard where
  accounts : (List Acc)
  version : Int
def Shard.c (x : Shard) : List DV := [.sl ((x.accounts).map Acc.c), .sc (.int .i64 (x.version))]
@[simp] def dShard : List DV → Option Shard
  | [.sl v0, .sc (.int .i64 v1)] => (decL dAcc v0).bind fun v0 => some (Shard.mk v0 v1)
  | _ => none
theorem Shard.ok (l : List DV) (t : Shard) (h : dShard l = some t) : t.c = l := by
  unfold dShard at h
  split at h
  · simp only [Option.bind_eq_some_iff, Option.some.injEq] at h
    obtain ⟨y0, hy0, h⟩ := h
    have k0 := decL_ok (e := ceAcc) hy0
    subst h
    simp only [Shard.c, ← k0]
    rfl
  · cases h
def ceShard : Cel Shard := ⟨Shard.c, dShard, Shard.ok⟩
@[simp] theorem ceShard_c : ceShard.c = Shard.c := rfl
@[simp] theorem ceShard_d : ceShard.d = dShard := rfl
@[simp] theorem Shard.eta_ (x : Shard) : Shard.mk x.accounts x.version = x := rfl
theorem Shard.dc (x : Shard) : dShard x.c = some x := by simp [Shard.c]
@[simp] theorem Shard.dmap (l : List Shard) : decL dShard (l.map Shard.c) = some l := decL_map Shard.dc
@[simp] theorem Shard.dtake (l : List Shard) (n : Nat) : decL dShard ((l.map Shard.c).take n) = some (l.take n) := decL_take Shard.dc
@[simp] theorem Shard.ddrop (l : List Shard) (n : Nat) : decL dShard ((l.map Shard.c).drop n) = some (l.drop n) := decL_drop Shard.dc
@[simp] theorem Shard.dtd (l : List Shard) (n m : Nat) : decL dShard (((l.map Shard.c).take n).drop m) = some ((l.take n).drop m) := decL_take_drop Shard.dc
@[simp] theorem Shard.dset (l : List Shard) (i : Nat) (x : List DV) : decL dShard ((l.map Shard.c).set i x) = if i < l.length then (dShard x).bind fun a => some (l.set i a) else some l := decL_set Shard.dc

structure Pot where
  taken : Int
  most : Int
def Pot.c (x : Pot) : List DV := [.sc (.int .i64 (x.taken)), .sc (.int .i64 (x.most))]
@[simp] def dPot : List DV → Option Pot
  | [.sc (.int .i64 v0), .sc (.int .i64 v1)] => some (Pot.mk v0 v1)
  | _ => none
theorem Pot.ok (l : List DV) (t : Pot) (h : dPot l = some t) : t.c = l := by
  unfold dPot at h
  split at h
  · injection h with h
    subst h
    rfl
  · cases h
def cePot : Cel Pot := ⟨Pot.c, dPot, Pot.ok⟩
@[simp] theorem cePot_c : cePot.c = Pot.c := rfl
@[simp] theorem cePot_d : cePot.d = dPot := rfl
@[simp] theorem Pot.eta_ (x : Pot) : Pot.mk x.taken x.most = x := rfl
theorem Pot.dc (x : Pot) : dPot x.c = some x := by simp [Pot.c]
@[simp] theorem Pot.dmap (l : List Pot) : decL dPot (l.map Pot.c) = some l := decL_map Pot.dc
@[simp] theorem Pot.dtake (l : List Pot) (n : Nat) : decL dPot ((l.map Pot.c).take n) = some (l.take n) := decL_take Pot.dc
@[simp] theorem Pot.ddrop (l : List Pot) (n : Nat) : decL dPot ((l.map Pot.c).drop n) = some (l.drop n) := decL_drop Pot.dc
@[simp] theorem Pot.dtd (l : List Pot) (n m : Nat) : decL dPot (((l.map Pot.c).take n).drop m) = some ((l.take n).drop m) := decL_take_drop Pot.dc
@[simp] theorem Pot.dset (l : List Pot) (i : Nat) (x : List DV) : decL dPot ((l.map Pot.c).set i x) = if i < l.length then (dPot x).bind fun a => some (l.set i a) else some l := decL_set Pot.dc

structure Sight where
  config : Config
  locks : (List Int)
  pot : Pot
  shards : (List Shard)
def Sight.c (x : Sight) : List DV := [.sc (.int .i64 (x.config.shards)), .sc (.int .i64 (x.config.soft)), .sc (.int .i64 (x.config.hard)), .sc (.int .i64 (x.config.per)), .sc (.int .i64 (x.config.bump)), .sc (.int .i64 (x.config.feed)), .sc (.int .i64 (x.config.workers)), .sc (.int .i64 (x.config.room)), .sl ((x.locks).map iC), .sc (.int .i64 (x.pot.taken)), .sc (.int .i64 (x.pot.most)), .sl ((x.shards).map Shard.c)]
@[simp] def dSight : List DV → Option Sight
  | [.sc (.int .i64 v0), .sc (.int .i64 v1), .sc (.int .i64 v2), .sc (.int .i64 v3), .sc (.int .i64 v4), .sc (.int .i64 v5), .sc (.int .i64 v6), .sc (.int .i64 v7), .sl v8, .sc (.int .i64 v9), .sc (.int .i64 v10), .sl v11] => (decL iD v8).bind fun v8 => (decL dShard v11).bind fun v11 => some (Sight.mk (Config.mk v0 v1 v2 v3 v4 v5 v6 v7) v8 (Pot.mk v9 v10) v11)
  | _ => none
theorem Sight.ok (l : List DV) (t : Sight) (h : dSight l = some t) : t.c = l := by
  unfold dSight at h
  split at h
  · simp only [Option.bind_eq_some_iff, Option.some.injEq] at h
    obtain ⟨y0, hy0, ⟨y1, hy1, h⟩⟩ := h
    have k0 := decL_ok (e := ceI) hy0
    have k1 := decL_ok (e := ceShard) hy1
    subst h
    simp only [Sight.c, ← k0, ← k1]
    rfl
  · cases h
def ceSight : Cel Sight := ⟨Sight.c, dSight, Sight.ok⟩
@[simp] theorem ceSight_c : ceSight.c = Sight.c := rfl
@[simp] theorem ceSight_d : ceSight.d = dSight := rfl
@[simp] theorem Sight.eta_ (x : Sight) : Sight.mk x.config x.locks x.pot x.shards = x := rfl
theorem Sight.dc (x : Sight) : dSight x.c = some x := by simp [Sight.c]
@[simp] theorem Sight.dmap (l : List Sight) : decL dSight (l.map Sight.c) = some l := decL_map Sight.dc
@[simp] theorem Sight.dtake (l : List Sight) (n : Nat) : decL dSight ((l.map Sight.c).take n) = some (l.take n) := decL_take Sight.dc
@[simp] theorem Sight.ddrop (l : List Sight) (n : Nat) : decL dSight ((l.map Sight.c).drop n) = some (l.drop n) := decL_drop Sight.dc
@[simp] theorem Sight.dtd (l : List Sight) (n m : Nat) : decL dSight (((l.map Sight.c).take n).drop m) = some ((l.take n).drop m) := decL_take_drop Sight.dc
@[simp] theorem Sight.dset (l : List Sight) (i : Nat) (x : List DV) : decL dSight ((l.map Sight.c).set i x) = if i < l.length then (dSight x).bind fun a => some (l.set i a) else some l := decL_set Sight.dc

structure Task where
  op : Op
  phase : Int
  sender : Int
  plan : Plan
  result : Result
  point : Bool
def Task.c (x : Task) : List DV := [.sc (.int .i64 (x.op.kind)), .sc (.int .i64 (x.op.sender)), .sc (.int .i64 (x.op.nonce)), .sc (.int .i64 (x.op.gas)), .sc (.string (x.op.data)), .sc (.int .i64 (x.phase)), .sc (.int .i64 (x.sender)), .sc (.bool (x.plan.changes)), .sc (.int .i64 (x.plan.delta)), .sc (.int .i64 (x.plan.after.sender)), .sc (.int .i64 (x.plan.after.base)), .sl ((x.plan.after.txs).map Tx.c), .sl ((x.plan.events).map Event.c), .sc (.int .i64 (x.plan.result.err)), .sc (.int .i64 (x.plan.result.tx.sender)), .sc (.int .i64 (x.plan.result.tx.nonce)), .sc (.int .i64 (x.plan.result.tx.tip)), .sc (.int .i64 (x.plan.result.tx.cap)), .sc (.int .i64 (x.plan.result.tx.gas)), .sc (.string (x.plan.result.tx.data)), .sl ((x.plan.result.txs).map Tx.c), .sc (.int .i64 (x.plan.result.slots)), .sc (.int .i64 (x.result.err)), .sc (.int .i64 (x.result.tx.sender)), .sc (.int .i64 (x.result.tx.nonce)), .sc (.int .i64 (x.result.tx.tip)), .sc (.int .i64 (x.result.tx.cap)), .sc (.int .i64 (x.result.tx.gas)), .sc (.string (x.result.tx.data)), .sl ((x.result.txs).map Tx.c), .sc (.int .i64 (x.result.slots)), .sc (.bool (x.point))]
@[simp] def dTask : List DV → Option Task
  | [.sc (.int .i64 v0), .sc (.int .i64 v1), .sc (.int .i64 v2), .sc (.int .i64 v3), .sc (.string v4), .sc (.int .i64 v5), .sc (.int .i64 v6), .sc (.bool v7), .sc (.int .i64 v8), .sc (.int .i64 v9), .sc (.int .i64 v10), .sl v11, .sl v12, .sc (.int .i64 v13), .sc (.int .i64 v14), .sc (.int .i64 v15), .sc (.int .i64 v16), .sc (.int .i64 v17), .sc (.int .i64 v18), .sc (.string v19), .sl v20, .sc (.int .i64 v21), .sc (.int .i64 v22), .sc (.int .i64 v23), .sc (.int .i64 v24), .sc (.int .i64 v25), .sc (.int .i64 v26), .sc (.int .i64 v27), .sc (.string v28), .sl v29, .sc (.int .i64 v30), .sc (.bool v31)] => (decL dTx v11).bind fun v11 => (decL dEvent v12).bind fun v12 => (decL dTx v20).bind fun v20 => (decL dTx v29).bind fun v29 => some (Task.mk (Op.mk v0 v1 v2 v3 v4) v5 v6 (Plan.mk v7 v8 (Acc.mk v9 v10 v11) v12 (Result.mk v13 (Tx.mk v14 v15 v16 v17 v18 v19) v20 v21)) (Result.mk v22 (Tx.mk v23 v24 v25 v26 v27 v28) v29 v30) v31)
  | _ => none
theorem Task.ok (l : List DV) (t : Task) (h : dTask l = some t) : t.c = l := by
  unfold dTask at h
  split at h
  · simp only [Option.bind_eq_some_iff, Option.some.injEq] at h
    obtain ⟨y0, hy0, ⟨y1, hy1, ⟨y2, hy2, ⟨y3, hy3, h⟩⟩⟩⟩ := h
    have k0 := decL_ok (e := ceTx) hy0
    have k1 := decL_ok (e := ceEvent) hy1
    have k2 := decL_ok (e := ceTx) hy2
    have k3 := decL_ok (e := ceTx) hy3
    subst h
    simp only [Task.c, ← k0, ← k1, ← k2, ← k3]
    rfl
  · cases h
def ceTask : Cel Task := ⟨Task.c, dTask, Task.ok⟩
@[simp] theorem ceTask_c : ceTask.c = Task.c := rfl
@[simp] theorem ceTask_d : ceTask.d = dTask := rfl
@[simp] theorem Task.eta_ (x : Task) : Task.mk x.op x.phase x.sender x.plan x.result x.point = x := rfl
theorem Task.dc (x : Task) : dTask x.c = some x := by simp [Task.c]
@[simp] theorem Task.dmap (l : List Task) : decL dTask (l.map Task.c) = some l := decL_map Task.dc
@[simp] theorem Task.dtake (l : List Task) (n : Nat) : decL dTask ((l.map Task.c).take n) = some (l.take n) := decL_take Task.dc
@[simp] theorem Task.ddrop (l : List Task) (n : Nat) : decL dTask ((l.map Task.c).drop n) = some (l.drop n) := decL_drop Task.dc
@[simp] theorem Task.dtd (l : List Task) (n m : Nat) : decL dTask (((l.map Task.c).take n).drop m) = some ((l.take n).drop m) := decL_take_drop Task.dc
@[simp] theorem Task.dset (l : List Task) (i : Nat) (x : List DV) : decL dTask ((l.map Task.c).set i x) = if i < l.length then (dTask x).bind fun a => some (l.set i a) else some l := decL_set Task.dc

end Go.Vm
