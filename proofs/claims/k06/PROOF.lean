import PyProof.Rows.All
import Wide.All
import OpenK.AllK
import Wide.FinOn
import HandS.ForMost
import HandS.Exc
import HandS.TryOnly
import HandS.ExcOwn
import HandS.WordsExc
import HandS.Deep
import HandS.TupAny
import HandS.TupLe
import HandS.Zip
import HandS.Rev
import HandS.IsInst
import HandS.Conv
import KE.SortData
import KE.DataMinMax
import HandS.Lambda
import HandS.HeadHook4
import HandS.Wide
import HandS.Defaults
import KE.GoesNew
import HandS.Comp
import HandS.Head0
import HandS.Head1
import HandS.Head2
import HandS.HeadEnd
import HandS.HeadHook1
import HandS.HeadHook2
import KE.KStateDown
import HandS.Set
import HandS.SetFor
import HandS.Text
import HandS.Style
import KE.SortKeyHeap
import KE.KLam
import HandS.HeadWalk
import HandS.Nested
import KE.DataMinKey
import HandS.Dict
import KE.KIndexOf
import KE.KIndexWalk
import HandS.TryMany
import PySem.Challenge.RW_tastehouse_k06_first_refusals

set_option Elab.async false
set_option linter.all false
set_option maxRecDepth 100000
namespace Mi
open PySem PySem.Spec L2

/-! ### data, own objects, results -/
abbrev D := PyData
/-- a thing that one place owns -/
inductive O where
  | dat (d : D)
  | lst (ds : List D)
  | dct (kvs : List (Key × D))
  /-- a tuple whose object is known to have no dict of its own -/
  | tpl (ds : List D)
abbrev Env := List (Option O)
inductive Rs (α : Type) where
  | ok (a : α) (env : Env)
  | ex (c : String) (env : Env)
  | stuck
abbrev M (α : Type) := Env → Rs α
/-- what an expression gives: data, a new thing, a thing of a slot -/
inductive Rv where
  | d (x : D)
  | own (o : O)
  | pl (i : Nat)

mutual
inductive RD (K : PySem.W.Frag) (B : Hp) : D → V → Prop
  | non : RD K B .none .non
  | bl (b : Bool) : RD K B (.bool b) (.bl b)
  | int (i : Int) : RD K B (.int i) (.int i)
  | str (x : Str) : RD K B (.str x) (.str x)
  | lst {a : Addr} {vs : List V} {ds : List D} : SqL K B a vs → RDs K B ds vs → RD K B (.list ds) (.ref a)
  | tup {a : Addr} {vs : List V} {ds : List D} : SqT K B a vs → RDs K B ds vs → RD K B (.tuple ds) (.ref a)
  | dct {a : Addr} {kvs : List (Key × V)} : B a = some (.dK kvs) → RD K B (.dict []) (.ref a)
inductive RDs (K : PySem.W.Frag) (B : Hp) : List D → List V → Prop
  | nil : RDs K B [] []
  | cons {d : D} {v : V} {ds : List D} {vs : List V} : RD K B d v → RDs K B ds vs → RDs K B (d :: ds) (v :: vs)
end

def Sub (B H : Hp) : Prop := ∀ a o, B a = some o → H a = some o
theorem Sub.refl {B : Hp} : Sub B B := fun _ _ h => h
theorem Sub.trans {A B C : Hp} (h : Sub A B) (k : Sub B C) : Sub A C := fun a o e => k a o (h a o e)
theorem Sub.rd {B H : Hp} (h : Sub B H) {a : Addr} {u : HO} : Rd B a u → Rd H a u
  | .inl e => .inl (h _ _ e)
  | .inr ⟨o, e⟩ => .inr ⟨o, h _ _ e⟩
theorem Sub.sqL {K : PySem.W.Frag} {B H : Hp} (h : Sub B H) {a : Addr} {vs : List V} : SqL K B a vs → SqL K H a vs
  | .inl e => .inl (h.rd e)
  | .inr e => .inr e
theorem Sub.sqT {K : PySem.W.Frag} {B H : Hp} (h : Sub B H) {a : Addr} {vs : List V} : SqT K B a vs → SqT K H a vs
  | .inl e => .inl (h.rd e)
  | .inr e => .inr e
theorem Sub.upd {B : Hp} {a : Addr} {o : HO} (h : B a = none) : Sub B (upd B a o) := fun b u e => by
  rw [upd_ne (ne_of_none e h)]; exact e

section
variable {K : PySem.W.Frag} {B B' : Hp}
mutual
theorem RD.mono (h : Sub B B') : ∀ (d : D) (v : V), RD K B d v → RD K B' d v
  | .none, _, r => by cases r; exact .non
  | .bool b, _, r => by cases r; exact .bl b
  | .int i, _, r => by cases r; exact .int i
  | .str x, _, r => by cases r; exact .str x
  | .list ds, _, r => by
    cases r with
    | lst hs hr => exact .lst (h.sqL hs) (RDs.mono h ds _ hr)
  | .tuple ds, _, r => by
    cases r with
    | tup hs hr => exact .tup (h.sqT hs) (RDs.mono h ds _ hr)
  | .dict _, _, r => by
    cases r with
    | dct e => exact .dct (h _ _ e)
theorem RDs.mono (h : Sub B B') : ∀ (ds : List D) (vs : List V), RDs K B ds vs → RDs K B' ds vs
  | [], _, r => by cases r; exact .nil
  | d :: ds, _, r => by
    cases r with
    | cons r1 r2 => exact .cons (RD.mono h d _ r1) (RDs.mono h ds _ r2)
end
mutual
/-- no dict within -/
def noD : D → Bool
  | .none => true | .bool _ => true | .int _ => true | .str _ => true
  | .list ds => noDs ds
  | .tuple ds => noDs ds
  | .dict _ => false
def noDs : List D → Bool
  | [] => true
  | d :: ds => noD d && noDs ds
end
mutual
/-- tuples alone -/
def flat : D → Bool
  | .none => true | .bool _ => true | .int _ => true | .str _ => true
  | .list _ => false
  | .tuple ds => flats ds
  | .dict _ => false
def flats : List D → Bool
  | [] => true
  | d :: ds => flat d && flats ds
end
mutual
theorem RD.dp : ∀ (d : D) (v : V), noD d = true → RD K B d v → Dp K B v d
  | .none, _, _, r => by cases r; exact .non
  | .bool b, _, _, r => by cases r; exact .bl b
  | .int i, _, _, r => by cases r; exact .int i
  | .str x, _, _, r => by cases r; exact .str x
  | .list ds, _, n, r => by
    cases r with
    | lst hs hr => exact .lst hs (RDs.dp ds _ (by simpa only [noD] using n) hr)
  | .tuple ds, _, n, r => by
    cases r with
    | tup hs hr => exact .tup hs (RDs.dp ds _ (by simpa only [noD] using n) hr)
  | .dict _, _, n, r => by simp [noD] at n
theorem RDs.dp : ∀ (ds : List D) (vs : List V), noDs ds = true → RDs K B ds vs → DpAll K B vs ds
  | [], _, _, r => by cases r; exact .nil
  | d :: ds, _, n, r => by
    cases r with
    | cons r1 r2 =>
      simp only [noDs, Bool.and_eq_true] at n
      exact .cons (RD.dp d _ n.1 r1) (RDs.dp ds _ n.2 r2)
end
mutual
/-- flat data lean on tuples alone -/
theorem RD.flat (h : ∀ a vs, Rd B a (.tup vs) → Rd B' a (.tup vs)) : ∀ (d : D) (v : V), Mi.flat d = true → RD K B d v → RD K B' d v
  | .none, _, _, r => by cases r; exact .non
  | .bool b, _, _, r => by cases r; exact .bl b
  | .int i, _, _, r => by cases r; exact .int i
  | .str x, _, _, r => by cases r; exact .str x
  | .list ds, _, n, r => by simp [Mi.flat] at n
  | .tuple ds, _, n, r => by
    cases r with
    | tup hs hr => exact .tup (hs.elim (fun e => .inl (h _ _ e)) .inr) (RDs.flat h ds _ (by simpa only [Mi.flat] using n) hr)
  | .dict _, _, n, r => by simp [Mi.flat] at n
theorem RDs.flat (h : ∀ a vs, Rd B a (.tup vs) → Rd B' a (.tup vs)) : ∀ (ds : List D) (vs : List V), flats ds = true → RDs K B ds vs → RDs K B' ds vs
  | [], _, _, r => by cases r; exact .nil
  | d :: ds, _, n, r => by
    cases r with
    | cons r1 r2 =>
      simp only [flats, Bool.and_eq_true] at n
      exact .cons (RD.flat h d _ n.1 r1) (RDs.flat h ds _ n.2 r2)
end
theorem RDs.length : ∀ (ds : List D) (vs : List V), RDs K B ds vs → vs.length = ds.length
  | [], _, r => by cases r; rfl
  | d :: ds, _, r => by
    cases r with
    | cons r1 r2 => rw [List.length_cons, List.length_cons, RDs.length ds _ r2]
theorem RDs.append : ∀ {ds es : List D} {vs ws : List V}, RDs K B ds vs → RDs K B es ws → RDs K B (ds ++ es) (vs ++ ws)
  | _, _, _, _, .nil, r => r
  | _, _, _, _, .cons a t, r => .cons a (RDs.append t r)
theorem RDs.get : ∀ {ds : List D} {vs : List V} {i : Nat} {d : D}, RDs K B ds vs → ds[i]? = some d → ∃ v, vs[i]? = some v ∧ RD K B d v
  | _, _, _, _, .nil, e => by simp at e
  | _, _, 0, _, .cons r t, e => by simp at e; subst e; exact ⟨_, rfl, r⟩
  | _, _, i + 1, d, .cons _ t, e => by
    obtain ⟨u, h1, h2⟩ := RDs.get (i := i) (d := d) t (by simpa using e)
    exact ⟨u, by simpa using h1, h2⟩
theorem RDs.getV : ∀ {ds : List D} {vs : List V} {i : Nat} {v : V}, RDs K B ds vs → vs[i]? = some v → ∃ d, ds[i]? = some d ∧ RD K B d v
  | _, _, _, _, .nil, e => by simp at e
  | _, _, 0, _, .cons r t, e => by simp at e; subst e; exact ⟨_, rfl, r⟩
  | _, _, i + 1, d, .cons _ t, e => by
    obtain ⟨u, h1, h2⟩ := RDs.getV (i := i) (v := d) t (by simpa using e)
    exact ⟨u, by simpa using h1, h2⟩
theorem RDs.take : ∀ {ds : List D} {vs : List V} (n : Nat), RDs K B ds vs → RDs K B (ds.take n) (vs.take n)
  | _, _, 0, _ => .nil
  | _, _, _ + 1, .nil => .nil
  | _, _, n + 1, .cons r t => .cons r (RDs.take n t)
theorem RDs.drop : ∀ {ds : List D} {vs : List V} (n : Nat), RDs K B ds vs → RDs K B (ds.drop n) (vs.drop n)
  | _, _, 0, r => r
  | _, _, _ + 1, .nil => .nil
  | _, _, n + 1, .cons r t => RDs.drop n t
theorem RDs.reverse : ∀ {ds : List D} {vs : List V}, RDs K B ds vs → RDs K B ds.reverse vs.reverse
  | _, _, .nil => .nil
  | _, _, .cons r t => by rw [List.reverse_cons, List.reverse_cons]; exact RDs.append (RDs.reverse t) (.cons r .nil)
theorem RDs.set : ∀ {ds : List D} {vs : List V} {d : D} {v : V} (i : Nat), RDs K B ds vs → RD K B d v → RDs K B (ds.set i d) (vs.set i v)
  | _, _, _, _, _, .nil, _ => .nil
  | _, _, _, _, 0, .cons r t, q => .cons q t
  | _, _, _, _, i + 1, .cons r t, q => .cons r (RDs.set i t q)
theorem RDs.erase : ∀ {ds : List D} {vs : List V} (i : Nat), RDs K B ds vs → RDs K B (ds.eraseIdx i) (vs.eraseIdx i)
  | _, _, _, .nil => .nil
  | _, _, 0, .cons r t => t
  | _, _, i + 1, .cons r t => .cons r (RDs.erase i t)
theorem RDs.dropLast : ∀ {ds : List D} {vs : List V}, RDs K B ds vs → RDs K B ds.dropLast vs.dropLast
  | _, _, .nil => .nil
  | _, _, .cons r .nil => .nil
  | _, _, .cons r (.cons r2 t) => by
    show RDs K B (_ :: (_ :: _).dropLast) (_ :: (_ :: _).dropLast)
    exact .cons r (RDs.dropLast (.cons r2 t))
theorem RDs.insert : ∀ {ds : List D} {vs : List V} {d : D} {v : V} (i : Nat), RDs K B ds vs → RD K B d v → RDs K B (ds.insertIdx i d) (vs.insertIdx i v)
  | _, _, _, _, 0, r, q => by rw [List.insertIdx_zero, List.insertIdx_zero]; exact .cons q r
  | _, _, _, _, _ + 1, .nil, q => by rw [List.insertIdx_succ_nil, List.insertIdx_succ_nil]; exact .nil
  | _, _, _, _, i + 1, .cons r t, q => by rw [List.insertIdx_succ_cons, List.insertIdx_succ_cons]; exact .cons r (RDs.insert i t q)
end

/-- a dict's entries -/
def RKs (K : PySem.W.Frag) (B : Hp) : List (Key × D) → List (Key × V) → Prop := Paired fun p q => p.1 = q.1 ∧ RD K B p.2 q.2

/-- what a place owns, with the addresses of it -/
inductive OwnR (K : PySem.W.Frag) (B H : Hp) : O → V → List Addr → Prop
  | dat {d : D} {v : V} : RD K B d v → OwnR K B H (.dat d) v []
  | lst {a : Addr} {vs : List V} {ds : List D} : H a = some (.lst vs) → RDs K B ds vs → OwnR K B H (.lst ds) (.ref a) [a]
  | dct {a : Addr} {kvs : List (Key × V)} {kds : List (Key × D)} : H a = some (.dK kvs) → RKs K B kds kvs → OwnR K B H (.dct kds) (.ref a) [a]
  | tpl {a : Addr} {vs : List V} {ds : List D} {ob : Obj} : B a = some (.frz ob (.tup vs)) → ob.dict = none → RDs K B ds vs → OwnR K B H (.tpl ds) (.ref a) []
theorem RKs.mono {K : PySem.W.Frag} {B B' : Hp} (h : Sub B B') : ∀ {kds : List (Key × D)} {kvs : List (Key × V)}, RKs K B kds kvs → RKs K B' kds kvs
  | _, _, .nil => .nil
  | _, _, .cons r t => .cons ⟨r.1, RD.mono h _ _ r.2⟩ (RKs.mono h t)
theorem OwnR.congr {K : PySem.W.Frag} {B B' H H' : Hp} {o : O} {v : V} {fp : List Addr} (r : OwnR K B H o v fp) (hb : Sub B B') (hh : ∀ a ∈ fp, H' a = H a) : OwnR K B' H' o v fp := by
  cases r with
  | dat r => exact .dat (RD.mono hb _ _ r)
  | lst e r => exact .lst (by rw [hh _ (by simp)]; exact e) (RDs.mono hb _ _ r)
  | dct e r => exact .dct (by rw [hh _ (by simp)]; exact e) (r.mono hb)
  | tpl e n r => exact .tpl (hb _ _ e) n (RDs.mono hb _ _ r)
theorem OwnR.dom {K : PySem.W.Frag} {B H : Hp} {o : O} {v : V} {fp : List Addr} (r : OwnR K B H o v fp) : ∀ a ∈ fp, H a ≠ none := by
  cases r with
  | dat r => intro a h; simp at h
  | lst e r => intro a h; simp at h; subst h; rw [e]; simp
  | dct e r => intro a h; simp at h; subst h; rw [e]; simp
  | tpl e n r => intro a h; simp at h

theorem OwnR.ownT {K : PySem.W.Frag} {B H : Hp} {o : O} {v : V} {fp : List Addr} (r : OwnR K B H o v fp) : ∀ a ∈ fp, ∀ ps, H a ≠ some (.tbl ps) := by
  cases r with
  | dat r => intro a h; simp at h
  | lst e r => intro a h; simp at h; subst h; rw [e]; intro ps h; cases h
  | dct e r => intro a h; simp at h; subst h; rw [e]; intro ps h; cases h
  | tpl e n r => intro a h; simp at h
theorem OwnR.lst_inv {K : PySem.W.Frag} {B H : Hp} {ds : List D} {v : V} {fp : List Addr} (r : OwnR K B H (.lst ds) v fp) : ∃ a vs, v = .ref a ∧ fp = [a] ∧ H a = some (.lst vs) ∧ RDs K B ds vs := by
  cases r with
  | lst e r => exact ⟨_, _, rfl, rfl, e, r⟩
theorem OwnR.dct_inv {K : PySem.W.Frag} {B H : Hp} {kds : List (Key × D)} {v : V} {fp : List Addr} (r : OwnR K B H (.dct kds) v fp) : ∃ a kvs, v = .ref a ∧ fp = [a] ∧ H a = some (.dK kvs) ∧ RKs K B kds kvs := by
  cases r with
  | dct e r => exact ⟨_, _, rfl, rfl, e, r⟩
theorem OwnR.tpl_inv {K : PySem.W.Frag} {B H : Hp} {ds : List D} {v : V} {fp : List Addr} (r : OwnR K B H (.tpl ds) v fp) : ∃ a vs ob, v = .ref a ∧ fp = [] ∧ B a = some (.frz ob (.tup vs)) ∧ ob.dict = none ∧ RDs K B ds vs := by
  cases r with
  | tpl e n r => exact ⟨_, _, _, rfl, rfl, e, n, r⟩
theorem OwnR.dat_inv {K : PySem.W.Frag} {B H : Hp} {d : D} {v : V} {fp : List Addr} (r : OwnR K B H (.dat d) v fp) : RD K B d v ∧ fp = [] := by
  cases r with
  | dat r => exact ⟨r, rfl⟩

/-! ### tables of code objects -/
/-- the defs with one lambda each -/
def lam3 : Str := "_law_asked"
def lamDefs : List Str := ["all_by", "_law_found", lam3]
def lamQ (x : Str) : Str := x ++ ".<locals>.<lambda>"
def hasG (K : PySem.W.Frag) (x : Str) : Bool := match PySem.W.nsIn K mainGlobals x with
  | some (some (.ref _)) => true
  | _ => false
def tabsOf (K : PySem.W.Frag) : List (Addr × Str) := (lamDefs.filter fun x => hasG K x).map fun x => ((He.cT K (x, none)).2, lamQ x)
def noT (B : Hp) : Prop := ∀ a ps, B a ≠ some (.tbl ps)
def notC (o : HO) : Prop := ∀ c q, o ≠ LamX.CodeO c q
theorem notC_lst {vs : List V} : notC (.lst vs) := fun c q h => by unfold LamX.CodeO at h; cases h
theorem notC_tup {vs : List V} : notC (.tup vs) := fun c q h => by unfold LamX.CodeO at h; cases h
theorem notC_dK {vs : List (Key × V)} : notC (.dK vs) := fun c q h => by unfold LamX.CodeO at h; cases h
def TabF (K : PySem.W.Frag) (B H : Hp) : Prop := (∀ a q, H a = some (LamX.CodeO a q) → B a = some (LamX.CodeO a q)) ∧
  ∀ p ∈ tabsOf K, ∃ ps, H p.1 = some (.tbl ps) ∧ TriplesOk ps.toList ∧ ∀ (pos : Pos) (cv : Value), codeAmong pos ps.toList = some cv → ∃ c, cv = .ref c ∧ B c = some (LamX.CodeO c p.2)
theorem TabF.mono {K : PySem.W.Frag} {B B' H : Hp} (h : TabF K B H) (s : Sub B B') : TabF K B' H := ⟨fun a q e => s _ _ (h.1 a q e), fun p hp => by
  obtain ⟨ps, h1, h2, h3⟩ := h.2 p hp
  exact ⟨ps, h1, h2, fun pos cv e => by
    obtain ⟨c, e1, e2⟩ := h3 pos cv e
    exact ⟨c, e1, s _ _ e2⟩⟩⟩
theorem TabF.put {K : PySem.W.Frag} {B H : Hp} (h : TabF K B H) {p : Addr} {o' : HO} (n : ∀ ps, H p ≠ some (.tbl ps)) (ho : notC o') : TabF K B (upd H p o') := ⟨fun a q e => by
  by_cases z : a = p
  · subst z; rw [upd_same] at e; exact absurd (Option.some.inj e) (ho a q)
  · rw [upd_ne z] at e; exact h.1 a q e, fun q hq => by
  obtain ⟨ps, h1, h2, h3⟩ := h.2 q hq
  exact ⟨ps, by rw [upd_ne (fun z => by rw [z] at h1; exact n _ h1)]; exact h1, h2, h3⟩⟩
theorem TabF.alloc {K : PySem.W.Frag} {B H : Hp} (h : TabF K B H) {p : Addr} {o : HO} (n : H p = none) (ho : notC o) : TabF K B (upd H p o) := h.put (fun ps e => by rw [n] at e; cases e) ho
theorem noT.upd {B : Hp} (h : noT B) {p : Addr} {o : HO} (ho : ∀ ps, o ≠ .tbl ps) : noT (L2.upd B p o) := fun a ps e => by
  by_cases z : a = p
  · subst z; rw [upd_same] at e; exact ho _ (Option.some.inj e)
  · rw [upd_ne z] at e; exact h a ps e
/-- all but the tables -/
def noTb (H : Hp) : Hp := fun a => match H a with
  | some (.tbl _) => none
  | o => o
theorem noTb_some {H : Hp} {a : Addr} {o : HO} (h : noTb H a = some o) : H a = some o := by
  unfold noTb at h
  split at h
  · cases h
  · exact h
theorem noTb_of {H : Hp} {a : Addr} (h : ∀ ps, H a ≠ some (.tbl ps)) : noTb H a = H a := by
  unfold noTb
  split
  · rename_i ps e
    exact absurd e (h ps)
  · rfl
theorem noTb_noT (H : Hp) (a : Addr) (ps : Array Value) : noTb H a ≠ some (.tbl ps) := fun e => by
  have e2 := noTb_some e
  unfold noTb at e
  rw [e2] at e
  cases e

/-! ### the frame -/
structure Fm (K : PySem.W.Frag) (P B H : Hp) (σ : L2.St) (env : Env) (fps : Nat → List Addr) : Prop where
  len : env.length = σ.length
  sub : Sub B H
  prt : Sub P H
  slot : ∀ i o, env[i]? = some (some o) → ∃ v, σ[i]? = some (some v) ∧ OwnR K B H o v (fps i)
  emp : ∀ i, env[i]? = some none ∨ env[i]? = none → fps i = []
  dis : ∀ i j a, a ∈ fps i → a ∈ fps j → i = j
  off : ∀ i a, a ∈ fps i → B a = none ∧ P a = none
  tab : TabF K B H
  nbT : noT B
  npT : noT P
def Ext (P B B' : Hp) : Prop := Sub B B' ∧ ∀ a o, P a = some o → B' a = B a
theorem Ext.refl {P B : Hp} : Ext P B B := ⟨Sub.refl, fun _ _ _ => rfl⟩
theorem Ext.trans {P A B C : Hp} (h : Ext P A B) (k : Ext P B C) : Ext P A C := ⟨h.1.trans k.1, fun a o e => (k.2 a o e).trans (h.2 a o e)⟩
theorem Ext.upd {P B : Hp} {p : Addr} {o : HO} (h : B p = none) (k : P p = none) : Ext P B (upd B p o) :=
  ⟨Sub.upd h, fun a u e => upd_ne (ne_of_none e k)⟩
section
variable {K : PySem.W.Frag} {P B B' H H' : Hp} {σ : L2.St} {env : Env} {fps : Nat → List Addr}
theorem Fm.dom (F : Fm K P B H σ env fps) : ∀ i a, a ∈ fps i → H a ≠ none := by
  intro i a h
  cases e : env[i]? with
  | none => rw [F.emp i (.inr e)] at h; simp at h
  | some o =>
    cases o with
    | none => rw [F.emp i (.inl e)] at h; simp at h
    | some o =>
      obtain ⟨v, _, r⟩ := F.slot i o e
      exact r.dom a h
theorem Fm.ownT (F : Fm K P B H σ env fps) : ∀ i a, a ∈ fps i → ∀ ps, H a ≠ some (.tbl ps) := by
  intro i a h
  cases e : env[i]? with
  | none => rw [F.emp i (.inr e)] at h; simp at h
  | some o =>
    cases o with
    | none => rw [F.emp i (.inl e)] at h; simp at h
    | some o =>
      obtain ⟨v, _, r⟩ := F.slot i o e
      exact r.ownT a h
theorem Fm.newB (F : Fm K P B H σ env fps) {p : Addr} (h : H p = none) : B p = none ∧ P p = none ∧ ∀ i, p ∉ fps i := by
  refine ⟨?_, ?_, fun i hp => F.dom i p hp h⟩
  · cases e : B p with
    | none => rfl
    | some o => rw [F.sub _ _ e] at h; cases h
  · cases e : P p with
    | none => rfl
    | some o => rw [F.prt _ _ e] at h; cases h
/-- the heap has grown at a new place (not frozen) -/
theorem Fm.alloc (F : Fm K P B H σ env fps) {p : Addr} {o : HO} (h : H p = none) (hc : notC o := by first | exact notC_lst | exact notC_tup | exact notC_dK | assumption) : Fm K P B (upd H p o) σ env fps := by
  obtain ⟨_, _, hn⟩ := F.newB h
  exact ⟨F.len, F.sub.trans (Sub.upd h), F.prt.trans (Sub.upd h), fun i o e => by
    obtain ⟨v, e1, r⟩ := F.slot i o e
    exact ⟨v, e1, r.congr Sub.refl fun a ha => upd_ne (fun z => hn i (z ▸ ha))⟩, F.emp, F.dis, F.off, F.tab.alloc h hc, F.nbT, F.npT⟩
/-- .. and it is frozen -/
theorem Fm.allocB (F : Fm K P B H σ env fps) {p : Addr} {o : HO} (h : H p = none) (ho : ∀ ps, o ≠ .tbl ps := by intro _ h; cases h) (hc : notC o := by first | exact notC_lst | exact notC_tup | exact notC_dK | assumption) : Fm K P (L2.upd B p o) (L2.upd H p o) σ env fps := by
  obtain ⟨hb, hp, hn⟩ := F.newB h
  refine ⟨F.len, fun a u e => ?_, F.prt.trans (Sub.upd h), fun i o e => ?_, F.emp, F.dis, fun i a ha => ?_, (F.tab.alloc h hc).mono (Sub.upd hb), F.nbT.upd ho, F.npT⟩
  · by_cases z : a = p
    · subst z; rw [upd_same] at e ⊢; exact e
    · rw [upd_ne z] at e ⊢; exact F.sub _ _ e
  · obtain ⟨v, e1, r⟩ := F.slot i o e
    exact ⟨v, e1, r.congr (Sub.upd hb) fun a ha => upd_ne (fun z => hn i (z ▸ ha))⟩
  · obtain ⟨q1, q2⟩ := F.off i a ha
    have z : a ≠ p := by
      intro z; subst z; exact hn i ha
    exact ⟨by rw [upd_ne z]; exact q1, q2⟩
end
end Mi

set_option Elab.async false
set_option linter.all false
set_option maxRecDepth 100000
namespace Mi
open PySem PySem.Spec L2

/-! ### the monad -/
def Rs.bind {α β : Type} (r : Rs α) (k : α → M β) : Rs β := match r with
  | .ok a env => k a env
  | .ex c env => .ex c env
  | .stuck => .stuck
def bnd {α β : Type} (m : M α) (k : α → M β) : M β := fun env => (m env).bind k
def ret {α : Type} (a : α) : M α := fun env => .ok a env
def stk {α : Type} : M α := fun _ => .stuck
@[simp] theorem bind_ok {α β : Type} (a : α) (env : Env) (k : α → M β) : (Rs.ok a env).bind k = k a env := rfl
@[simp] theorem bind_ex {α β : Type} (c : String) (env : Env) (k : α → M β) : (Rs.ex c env).bind k = .ex c env := rfl
@[simp] theorem bind_stuck {α β : Type} (k : α → M β) : (Rs.stuck).bind k = (.stuck : Rs β) := rfl
def ofO {α : Type} (o : Option α) : M α := match o with
  | some a => ret a
  | none => stk
@[simp] theorem ofO_some {α : Type} (a : α) (env : Env) : ofO (some a) env = .ok a env := rfl
@[simp] theorem ofO_none {α : Type} (env : Env) : (ofO (none : Option α)) env = .stuck := rfl

/-- own things of an expression are frozen -/
def Rv.frz : Rv → Rv
  | .own (.lst ds) => .d (.list ds)
  | .own (.dct _) => .d (.dict [])
  | .own (.dat x) => .d x
  | .own (.tpl ds) => .d (.tuple ds)
  | r => r
def vm (m : M Rv) : M Rv := bnd m fun r => ret r.frz

/-- the thing as data, where it is data, or a list of a slot -/
def res (env : Env) : Rv → Option D
  | .d x => some x
  | .pl i => match env[i]? with
    | some (some (.lst ds)) => some (.list ds)
    | _ => none
  | .own _ => none

def RvR (K : PySem.W.Frag) (P B H : Hp) (σ : L2.St) (fps : Nat → List Addr) : Rv → V → Prop
  | .d x, v => RD K B x v
  | .own o, v => ∃ fp, OwnR K B H o v fp ∧ ∀ a ∈ fp, B a = none ∧ P a = none ∧ ∀ i, a ∉ fps i
  | .pl i, v => σ[i]? = some (some v)
def RvS (K : PySem.W.Frag) (B : Hp) (σ : L2.St) : Rv → V → Prop
  | .d x, v => RD K B x v
  | .own _, _ => False
  | .pl i, v => σ[i]? = some (some v)
theorem RvS.mono {K : PySem.W.Frag} {B B' : Hp} {σ : L2.St} (h : Sub B B') {r : Rv} {v : V} (q : RvS K B σ r v) : RvS K B' σ r v := by
  cases r with
  | d x => exact RD.mono h _ _ q
  | own o => exact q
  | pl i => exact q

/-- read at the moment: frozen data, or a list that is owned by a slot -/
def Rd1 (K : PySem.W.Frag) (B H : Hp) (x : D) (v : V) : Prop :=
  RD K B x v ∨ ∃ ds a vs, x = .list ds ∧ v = .ref a ∧ H a = some (.lst vs) ∧ RDs K B ds vs
theorem Rd1.rd {K : PySem.W.Frag} {B H : Hp} {x : D} {v : V} (hs : Sub B H) (h : Rd1 K B H x v) : RD K H x v := by
  rcases h with h | ⟨ds, a, vs, rfl, rfl, e, r⟩
  · exact RD.mono hs _ _ h
  · exact .lst (.inl (.inl e)) (RDs.mono hs _ _ r)

section
variable (K : PySem.W.Frag) (cl : String → Addr) (E : XK)
def PostE (P B : Hp) (σ : L2.St) (r : Rs Rv) (Q : VK) : Prop := match r with
  | .ok r env => ∀ v H' B' fps, Ext P B B' → Fm K P B' H' σ env fps → RvR K P B' H' σ fps r v → Q v H'
  | .ex c env => ∀ H' B' fps, Ext P B B' → Fm K P B' H' σ env fps → E (.ref (cl c)) none H'
  | .stuck => False
def tM (m : M Rv) : TE := fun σ H Q => ∃ P B env fps, Fm K P B H σ env fps ∧ PostE K cl E P B σ (m env) Q
end
section
variable {K : PySem.W.Frag} {cl : String → Addr} {E : XK} {P B B' H H' : Hp} {σ : L2.St} {env : Env} {fps : Nat → List Addr}
theorem PostE.ext {r : Rs Rv} {Q : VK} (x : Ext P B B') (h : PostE K cl E P B σ r Q) : PostE K cl E P B' σ r Q := by
  cases r with
  | ok r env => exact fun v H' B2 fps x2 => h v H' B2 fps (x.trans x2)
  | ex c env => exact fun H' B2 fps x2 => h H' B2 fps (x.trans x2)
  | stuck => exact h
theorem Fm.pl (F : Fm K P B H σ env fps) {i : Nat} {o : O} {v : V} (e : env[i]? = some (some o)) (h : σ[i]? = some (some v)) : OwnR K B H o v (fps i) := by
  obtain ⟨w, e1, r⟩ := F.slot i o e
  rw [h] at e1
  cases e1
  exact r
/-- own cells are frozen: a temporary list -/
theorem Fm.freezeT (F : Fm K P B H σ env fps) {a : Addr} {o : HO} (e : H a = some o) (hb : B a = none) (hp : P a = none) (hf : ∀ i, a ∉ fps i) (ho : ∀ ps, o ≠ .tbl ps := by intro _ h; cases h) : Fm K P (upd B a o) H σ env fps ∧ Ext P B (upd B a o) := by
  refine ⟨⟨F.len, fun b u q => ?_, F.prt, fun i o' q => ?_, F.emp, F.dis, fun i b hb' => ?_, F.tab.mono (Sub.upd hb), F.nbT.upd ho, F.npT⟩, Ext.upd hb hp⟩
  · by_cases z : b = a
    · subst z; rw [upd_same] at q; cases q; exact e
    · rw [upd_ne z] at q; exact F.sub _ _ q
  · obtain ⟨v, e1, r⟩ := F.slot i o' q
    exact ⟨v, e1, r.congr (Sub.upd hb) fun _ _ => rfl⟩
  · have z : b ≠ a := by
      intro z; subst z; exact hf i hb'
    obtain ⟨q1, q2⟩ := F.off i b hb'
    exact ⟨by rw [upd_ne z]; exact q1, q2⟩
/-- freezing what an expression gave -/
theorem freeze_rv (F : Fm K P B H σ env fps) {r : Rv} {v : V} (q : RvR K P B H σ fps r v) : ∃ B', Ext P B B' ∧ Fm K P B' H σ env fps ∧ RvS K B' σ r.frz v := by
  cases r with
  | d x => exact ⟨B, Ext.refl, F, show RD K B x v from q⟩
  | pl i => exact ⟨B, Ext.refl, F, show σ[i]? = some (some v) from q⟩
  | own o =>
    obtain ⟨fp, r, hf⟩ := q
    cases r with
    | dat r => exact ⟨B, Ext.refl, F, show RD K B _ v from r⟩
    | tpl e n r => exact ⟨B, Ext.refl, F, show RD K B (.tuple _) _ from .tup (.inl (.inr ⟨_, e⟩)) r⟩
    | @lst a vs ds e r =>
      obtain ⟨h1, h2, h3⟩ := hf a (by simp)
      obtain ⟨F', x⟩ := F.freezeT e h1 h2 h3
      exact ⟨_, x, F', show RD K _ (.list ds) (.ref a) from .lst (.inl (.inl upd_same)) (RDs.mono x.1 _ _ r)⟩
    | @dct a kvs kds e r =>
      obtain ⟨h1, h2, h3⟩ := hf a (by simp)
      obtain ⟨F', x⟩ := F.freezeT e h1 h2 h3
      exact ⟨_, x, F', show RD K _ (.dict []) (.ref a) from .dct upd_same⟩
theorem frz_S {r : Rv} {v : V} (q : RvS K B σ r v) : RvR K P B H σ fps r v := by
  cases r with
  | d x => exact q
  | own o => exact q.elim
  | pl i => exact q
/-- an operand, then the rest -/
theorem post_vm {m : M Rv} {k : Rv → M Rv} {Q : VK} (h : PostE K cl E P B σ ((bnd (vm m) k) env) Q) :
    PostE K cl E P B σ (m env) fun v H1 => ∃ B1 env1 fps1 r, Ext P B B1 ∧ Fm K P B1 H1 σ env1 fps1 ∧ RvS K B1 σ r v ∧ PostE K cl E P B1 σ (k r env1) Q := by
  unfold bnd vm at h
  unfold bnd at h
  cases q : m env with
  | ok r env1 =>
    rw [q] at h
    intro v H1 B1 fps1 x F1 r1
    obtain ⟨B2, x2, F2, s2⟩ := freeze_rv F1 r1
    exact ⟨B2, env1, fps1, r.frz, x.trans x2, F2, s2, PostE.ext (x.trans x2) h⟩
  | ex c env1 => rw [q] at h; exact h
  | stuck => rw [q] at h; exact h.elim
theorem Fm.res (F : Fm K P B H σ env fps) {r : Rv} {v : V} {x : D} (q : RvS K B σ r v) (e : Mi.res env r = some x) : Rd1 K B H x v := by
  cases r with
  | d y => cases e; exact .inl q
  | own o => cases e
  | pl i =>
    unfold Mi.res at e
    simp only at e
    split at e
    · rename_i ds he
      cases e
      obtain ⟨a, vs, rfl, _, e1, r1⟩ := (F.pl he q).lst_inv
      exact .inr ⟨_, _, _, rfl, rfl, e1, r1⟩
    · cases e
end

/-! ### operators over data -/
/-- what an operator gives: data there, a new tuple, a new list -/
inductive Out where
  | val (d : D)
  | tup (ds : List D)
  | lst (ds : List D)
def Out.rv : Out → Rv
  | .val d => .d d
  | .tup ds => .d (.tuple ds)
  | .lst ds => .own (.lst ds)
def OutR (K : PySem.W.Frag) (B H : Hp) : Out → V → Hp → Prop
  | .val d, v, H' => H' = H ∧ RD K B d v
  | .tup ds, v, H' => (∃ p vs, v = .ref p ∧ H p = none ∧ H' = upd H p (.tup vs) ∧ RDs K B ds vs) ∨ (H' = H ∧ RD K B (.tuple ds) v)
  | .lst ds, v, H' => ∃ p vs, v = .ref p ∧ H p = none ∧ H' = upd H p (.lst vs) ∧ RDs K B ds vs
def OpD (X : Cx) (f : Value → Value → Sem Value) (g : D → D → Option Out) : Prop :=
  ∀ (pins : List (Addr × Obj)) (s : Shared) (σ : L2.St) (H B : Hp) (x y : D) (v w : V) (vv ww : Value) (o : Out), Inv X pins σ H s → Sub B H → Rd1 X.K B H x v → Rd1 X.K B H y w → RelV v vv → RelV w ww → g x y = some o →
    wpAny (model X.prog X.w) X.A (f vv ww) (EP X pins σ (OutR X.K B H o)) X.xe s
theorem OpD.of {X : Cx} {f : Value → Value → Sem Value} {r : R2} {g : D → D → Option Out} (ho : OpR X f r)
    (h : ∀ (H B : Hp) (x y : D) (v w : V) (o : Out), Sub B H → Rd1 X.K B H x v → Rd1 X.K B H y w → g x y = some o → r v w H (OutR X.K B H o)) : OpD X f g :=
  fun pins s σ H B x y v w vv ww o I hs r1 r2 q1 q2 e => ho pins s σ H v w vv ww _ I q1 q2 (h H B x y v w o hs r1 r2 e)
def CallD (X : Cx) (f : Value) (g : List D → Option Out) : Prop :=
  ∀ (pins : List (Addr × Obj)) (s : Shared) (σ : L2.St) (H B : Hp) (xs : List D) (vs : List V) (us : List Value) (o : Out), Inv X pins σ H s → Sub B H → Paired (Rd1 X.K B H) xs vs → Vals vs us → g xs = some o →
    wpAny (model X.prog X.w) X.A (call f us) (EP X pins σ (OutR X.K B H o)) X.xe s
theorem CallD.of {X : Cx} {f : Value} {r : List V → Hp → VK → Prop} {g : List D → Option Out} (ho : CallR X f r)
    (h : ∀ (H B : Hp) (xs : List D) (vs : List V) (o : Out), Sub B H → Paired (Rd1 X.K B H) xs vs → g xs = some o → r vs H (OutR X.K B H o)) : CallD X f g :=
  fun pins s σ H B xs vs us o I hs r1 q1 e => ho pins s σ H vs us _ I q1 (h H B xs vs o hs r1 e)

section
variable {K : PySem.W.Frag} {cl : String → Addr} {E : XK} {P B H : Hp} {σ : L2.St} {env : Env} {fps : Nat → List Addr}
theorem OutR.post (F : Fm K P B H σ env fps) {o : Out} {v : V} {H' : Hp} {Q : VK} (h : OutR K B H o v H') (q : PostE K cl E P B σ (.ok o.rv env) Q) : Q v H' := by
  cases o with
  | val d =>
    obtain ⟨rfl, r⟩ := h
    exact q v H' B fps Ext.refl F r
  | tup ds =>
    rcases h with ⟨p, vs, rfl, hp, rfl, r⟩ | ⟨rfl, r⟩
    · obtain ⟨h1, h2, h3⟩ := F.newB hp
      have x : Ext P B (upd B p (.tup vs)) := Ext.upd h1 h2
      exact q _ _ _ fps x (F.allocB hp) (.tup (.inl (.inl upd_same)) (RDs.mono x.1 _ _ r))
    · exact q v H' B fps Ext.refl F r
  | lst ds =>
    obtain ⟨p, vs, rfl, hp, rfl, r⟩ := h
    obtain ⟨h1, h2, h3⟩ := F.newB hp
    exact q _ _ _ fps Ext.refl (F.alloc hp) ⟨_, .lst upd_same r, fun a ha => by simp at ha; subst ha; exact ⟨h1, h2, h3⟩⟩
end

/-! ### the judgements -/
def DE (X : Cx) (cl : String → Addr) (E : XK) (e : Expr) (m : M Rv) : Prop := PE X e (tM X.K cl E m)
section
variable {X : Cx} {cl : String → Addr} {E : XK} {a b e : Expr} {ma mb m : M Rv} {pos : Pos}

def mC (d : D) : M Rv := ret (.d d)
def mVar (i : Nat) : M Rv := fun env => match env[i]? with
  | some (some (.dat d)) => .ok (.d d) env
  | some (some (.tpl ds)) => .ok (.d (.tuple ds)) env
  | some (some _) => .ok (.pl i) env
  | _ => .stuck
theorem tC_of {d : D} {v : V} {σ : L2.St} {H : Hp} {Q : VK} (r : ∀ B, RD X.K B d v) (h : tM X.K cl E (mC d) σ H Q) : Q v H := by
  obtain ⟨P, B, env, fps, F, h⟩ := h
  exact h v H B fps Ext.refl F (r B)
theorem de_int {i j pos} : DE X cl E (.Constant (.int i) j pos) (mC (.int i)) := ⟨fun pins s σ H Q I h => pe_int.run pins s σ H Q I (tC_of (fun _ => .int i) h)⟩
theorem de_bl {b j pos} : DE X cl E (.Constant (.bool b) j pos) (mC (.bool b)) := ⟨fun pins s σ H Q I h => pe_bl.run pins s σ H Q I (tC_of (fun _ => .bl b) h)⟩
theorem de_non {j pos} : DE X cl E (.Constant .none j pos) (mC .none) := ⟨fun pins s σ H Q I h => pe_non.run pins s σ H Q I (tC_of (fun _ => .non) h)⟩
theorem de_str {x j pos} : DE X cl E (.Constant (.str x) j pos) (mC (.str x)) := ⟨fun pins s σ H Q I h => pe_str.run pins s σ H Q I (tC_of (fun _ => .str x) h)⟩
theorem de_var {i : Nat} {x : Str} (hN : X.N[i]? = some x) (hv : Vis X.env.scope x) (hd : (x == ("__debug__" : Str)) = false := by decide) (hcd : (x == ("__classdict__" : Str)) = false := by decide) : DE X cl E (.Name x pos) (mVar i) := by
  refine ⟨fun pins s σ H Q I h => (pe_var hN hv hd hcd).run pins s σ H Q I ?_⟩
  obtain ⟨P, B, env, fps, F, h⟩ := h
  unfold mVar at h
  split at h
  · rename_i d he
    obtain ⟨v, e1, r⟩ := F.slot i _ he
    exact ⟨v, e1, h v H B fps Ext.refl F r.dat_inv.1⟩
  · rename_i ds he
    obtain ⟨v, e1, r⟩ := F.slot i _ he
    obtain ⟨a, vs, ob, rfl, _, e2, _, r2⟩ := r.tpl_inv
    exact ⟨_, e1, h _ H B fps Ext.refl F (.tup (.inl (.inr ⟨_, e2⟩)) r2)⟩
  · rename_i o hno hno2 he
    obtain ⟨v, e1, r⟩ := F.slot i _ he
    exact ⟨v, e1, h v H B fps Ext.refl F e1⟩
  · exact h.elim
/-- a module's constant -/
theorem de_glob {x : Str} {v : V} {u : Value} {d : D} (hg : Gl X x) (hm : X.mg x = some u) (r : RelV v u) (rd : RD X.K (fun _ => none) d v) (hd : (x == ("__debug__" : Str)) = false := by decide) : DE X cl E (.Name x pos) (mC d) :=
  ⟨fun pins s σ H Q I h => (pe_glob hg hm r hd).run pins s σ H Q I (tC_of (fun B => RD.mono (fun _ _ q => by cases q) _ _ rd) h)⟩

/-- two operands, an operator -/
def mBin (g : D → D → Option Out) (ma mb : M Rv) : M Rv := bnd (vm ma) fun r1 => bnd (vm mb) fun r2 env => match res env r1, res env r2 with
  | some x, some y => match g x y with
    | some o => .ok o.rv env
    | none => .stuck
  | _, _ => .stuck
theorem two {g : D → D → Option Out} {f : Value → Value → Sem Value} (ha : DE X cl E a ma) (hb : DE X cl E b mb) (ho : OpD X f g) {pins : List (Addr × Obj)} {s : Shared} {σ : L2.St} {H : Hp} {Q : VK} (I : Inv X pins σ H s) (h : tM X.K cl E (mBin g ma mb) σ H Q) :
    wpAny (model X.prog X.w) X.A (eval a X.env) (fun v s₁ => wpAny (model X.prog X.w) X.A (eval b X.env) (fun u s₂ => wpAny (model X.prog X.w) X.A (f v u) (EP X pins σ Q) X.xe s₂) X.xe s₁) X.xe s := by
  obtain ⟨P, B, env, fps, F, h⟩ := h
  refine thn (ha.run pins s σ H _ I ⟨P, B, env, fps, F, post_vm h⟩) fun v s1 ⟨x, H1, I1, r1, B1, env1, fps1, q1, x1, F1, w1, h1⟩ => ?_
  refine thn (hb.run pins s1 σ H1 _ I1 ⟨P, B1, env1, fps1, F1, post_vm h1⟩) fun u s2 ⟨y, H2, I2, r2, B2, env2, fps2, q2, x2, F2, w2, h2⟩ => ?_

  split at h2
  · rename_i dx dy e1 e2
    split at h2
    · rename_i o eo
      refine thn (ho pins s2 σ H2 B2 dx dy x y v u o I2 F2.sub (F2.res (w1.mono x2.1) e1) (F2.res w2 e2) r1 r2 eo) fun z s3 ⟨z', H3, I3, r3, ho3⟩ => ?_
      exact ⟨z', H3, I3, r3, ho3.post F2 h2⟩
    · exact h2.elim
  · exact h2.elim
theorem de_bin {op : Operator} {g : D → D → Option Out} (ha : DE X cl E a ma) (hb : DE X cl E b mb) (ho : OpD X (binaryOp op) g) : DE X cl E (.BinOp a op b pos) (mBin g ma mb) :=
  ⟨fun pins s σ H Q I h => wpAny_BinOp (two ha hb ho I h)⟩
theorem de_cmp {op : CmpOp} {g : D → D → Option Out} (ha : DE X cl E a ma) (hb : DE X cl E b mb) (ho : OpD X (compareOp op) g) (hm : behindInMarks op b = false := by first | exact nobehind _ (by decide) (by decide) | rfl) : DE X cl E (.Compare a [op] [b] pos) (mBin g ma mb) :=
  ⟨fun pins s σ H Q I h => wpAny_Compare1 (two ha hb ho I h) hm⟩
end
end Mi

set_option Elab.async false
set_option linter.all false
set_option maxRecDepth 100000
namespace Mi
open PySem PySem.Spec L2

section
variable (K : PySem.W.Frag) (cl : String → Addr) (E : XK)
/-- the end of anything -/
def PostX {α : Type} (P B : Hp) (σ : L2.St) (r : Rs α) (R : α → Hp → Hp → (Nat → List Addr) → Env → Prop) : Prop := match r with
  | .ok a env => ∀ H' B' fps, Ext P B B' → Fm K P B' H' σ env fps → R a H' B' fps env
  | .ex c env => ∀ H' B' fps, Ext P B B' → Fm K P B' H' σ env fps → E (.ref (cl c)) none H'
  | .stuck => False
def tMT (m : M Bool) : TT := fun σ H Q => ∃ P B env fps, Fm K P B H σ env fps ∧ PostX K cl E P B σ (m env) fun b H' _ _ _ => Q b H'
def tMA (m : M (List Rv)) : TA := fun σ H Q => ∃ P B env fps, Fm K P B H σ env fps ∧ PostX K cl E P B σ (m env) fun rs H' B' _ _ => ∀ vs, Paired (RvS K B' σ) rs vs → Q vs H'
end
section
variable {K : PySem.W.Frag} {cl : String → Addr} {E : XK} {P B B' H H' : Hp} {σ : L2.St} {env : Env} {fps : Nat → List Addr}
theorem PostX.ext {α : Type} {r : Rs α} {R : α → Hp → Hp → (Nat → List Addr) → Env → Prop} (x : Ext P B B') (h : PostX K cl E P B σ r R) : PostX K cl E P B' σ r R := by
  cases r with
  | ok r env => exact fun H' B2 fps x2 => h H' B2 fps (x.trans x2)
  | ex c env => exact fun H' B2 fps x2 => h H' B2 fps (x.trans x2)
  | stuck => exact h
/-- an operand, then the rest -/
theorem postX_vm {α : Type} {m : M Rv} {k : Rv → M α} {R : α → Hp → Hp → (Nat → List Addr) → Env → Prop} (h : PostX K cl E P B σ ((bnd (vm m) k) env) R) :
    PostE K cl E P B σ (m env) fun v H1 => ∃ B1 env1 fps1 r, Ext P B B1 ∧ Fm K P B1 H1 σ env1 fps1 ∧ RvS K B1 σ r v ∧ PostX K cl E P B1 σ (k r env1) R := by
  unfold bnd vm at h
  unfold bnd at h
  cases q : m env with
  | ok r env1 =>
    rw [q] at h
    intro v H1 B1 fps1 x F1 r1
    obtain ⟨B2, x2, F2, s2⟩ := freeze_rv F1 r1
    exact ⟨B2, env1, fps1, r.frz, x.trans x2, F2, s2, PostX.ext (x.trans x2) h⟩
  | ex c env1 => rw [q] at h; exact h
  | stuck => rw [q] at h; exact h.elim
/-- anything, then the rest -/
theorem postX_bnd {α β : Type} {m : M α} {k : α → M β} {R : β → Hp → Hp → (Nat → List Addr) → Env → Prop} (h : PostX K cl E P B σ ((bnd m k) env) R) :
    PostX K cl E P B σ (m env) fun a H1 B1 fps1 env1 => PostX K cl E P B1 σ (k a env1) R := by
  unfold bnd at h
  cases q : m env with
  | ok r env1 =>
    rw [q] at h
    intro H1 B1 fps1 x F1
    exact PostX.ext x h
  | ex c env1 => rw [q] at h; exact h
  | stuck => rw [q] at h; exact h.elim
theorem PostX.mono {α : Type} {r : Rs α} {R R' : α → Hp → Hp → (Nat → List Addr) → Env → Prop} (h : PostX K cl E P B σ r R) (k : ∀ a H' B' fps env, Ext P B B' → Fm K P B' H' σ env fps → R a H' B' fps env → R' a H' B' fps env) : PostX K cl E P B σ r R' := by
  cases r with
  | ok r env => exact fun H' B2 fps x2 F => k _ _ _ _ _ x2 F (h H' B2 fps x2 F)
  | ex c env => exact h
  | stuck => exact h
/-- .. where an expression follows -/
theorem postE_bnd {α : Type} {m : M α} {k : α → M Rv} {Q : VK} (h : PostE K cl E P B σ ((bnd m k) env) Q) :
    PostX K cl E P B σ (m env) fun a H1 B1 fps1 env1 => PostE K cl E P B1 σ (k a env1) Q := by
  unfold bnd at h
  cases q : m env with
  | ok r env1 =>
    rw [q] at h
    intro H1 B1 fps1 x F1
    exact PostE.ext x h
  | ex c env1 => rw [q] at h; exact h
  | stuck => rw [q] at h; exact h.elim
/-- an expression as it is, then an expression -/
theorem postE_e {m : M Rv} {k : Rv → M Rv} {Q : VK} (h : PostE K cl E P B σ ((bnd m k) env) Q) :
    PostE K cl E P B σ (m env) fun v H1 => ∃ B1 env1 fps1 r, Ext P B B1 ∧ Fm K P B1 H1 σ env1 fps1 ∧ RvR K P B1 H1 σ fps1 r v ∧ PostE K cl E P B1 σ (k r env1) Q := by
  unfold bnd at h
  cases q : m env with
  | ok r env1 =>
    rw [q] at h
    intro v H1 B1 fps1 x F1 r1
    exact ⟨B1, env1, fps1, r, x, F1, r1, PostE.ext x h⟩
  | ex c env1 => rw [q] at h; exact h
  | stuck => rw [q] at h; exact h.elim
theorem postX_e {α : Type} {m : M Rv} {k : Rv → M α} {R : α → Hp → Hp → (Nat → List Addr) → Env → Prop} (h : PostX K cl E P B σ ((bnd m k) env) R) :
    PostE K cl E P B σ (m env) fun v H1 => ∃ B1 env1 fps1 r, Ext P B B1 ∧ Fm K P B1 H1 σ env1 fps1 ∧ RvR K P B1 H1 σ fps1 r v ∧ PostX K cl E P B1 σ (k r env1) R := by
  unfold bnd at h
  cases q : m env with
  | ok r env1 =>
    rw [q] at h
    intro v H1 B1 fps1 x F1 r1
    exact ⟨B1, env1, fps1, r, x, F1, r1, PostX.ext x h⟩
  | ex c env1 => rw [q] at h; exact h
  | stuck => rw [q] at h; exact h.elim
end

def DT (X : Cx) (cl : String → Addr) (E : XK) (e : Expr) (m : M Bool) : Prop := PT X e (tMT X.K cl E m)
def DW (X : Cx) (cl : String → Addr) (E : XK) (e : Expr) (m : M Bool) : Prop := PW X e (tMT X.K cl E m)
def DA (X : Cx) (cl : String → Addr) (E : XK) (es : List Expr) (m : M (List Rv)) : Prop := PA X es (tMA X.K cl E m)
section
variable {X : Cx} {cl : String → Addr} {E : XK} {a b e : Expr} {ma mb m : M Rv} {t u : M Bool} {pos : Pos} {rest es : List Expr}

/-! ### tests -/
def tst (m : M Rv) : M Bool := bnd m fun r => match r with
  | .d (.bool b) => ret b
  | _ => stk
theorem tst_in {P B : Hp} {σ : L2.St} {env : Env} {Q : Bool → Hp → Prop} (h : PostX X.K cl E P B σ (tst m env) fun b H' _ _ _ => Q b H') :
    PostE X.K cl E P B σ (m env) fun x H1 => ∃ c, x = .bl c ∧ Q c H1 := by
  unfold tst at h
  have h := postX_e h
  cases q : m env with
  | ok r env1 =>
    rw [q] at h
    intro v H1 B1 fps1 x F1 r1
    obtain ⟨B2, env2, fps2, r2, x2, F2, s2, h2⟩ := h v H1 B1 fps1 x F1 r1
    split at h2
    · cases (show RD X.K B2 (.bool _) v from s2)
      exact ⟨_, rfl, h2 H1 B2 fps2 Ext.refl F2⟩
    · exact h2.elim
  | ex c env1 => rw [q] at h; exact h
  | stuck => rw [q] at h; exact h.elim
theorem dt_val (h : DE X cl E e m) (he : ∀ whole, isTrue e X.env whole = (do let v ← whole; standAt e.pos; holding [v] (truthy v)) := by intro _; rfl) : DT X cl E e (tst m) :=
  ⟨fun pins s σ H Q I ⟨P, B, env, fps, F, q⟩ => (pt_val h he).run pins s σ H Q I ⟨P, B, env, fps, F, tst_in q⟩⟩
theorem dt_cmp {op : CmpOp} {g : D → D → Option Out} (ha : DE X cl E a ma) (hb : DE X cl E b mb) (ho : OpD X (compareOp op) g) (hm : behindInMarks op b = false := by first | exact nobehind _ (by decide) (by decide) | rfl) : DT X cl E (.Compare a [op] [b] pos) (tst (mBin g ma mb)) := by
  refine ⟨fun pins s σ H Q I ⟨P, B, env, fps, F, q⟩ => ?_⟩
  refine wpAny_isTrue_Compare1 (thn (two ha hb ho I ⟨P, B, env, fps, F, tst_in q⟩) fun v s1 h1 => thn h1 fun u s2 h2 => thn h2 fun c s3 ⟨x, H1, I1, r1, q1⟩ => ?_) hm
  obtain ⟨d, rfl, q⟩ := q1
  cases r1
  exact wpAny_truthy_bool ⟨H1, I1, q⟩
def mAnd (t u : M Bool) : M Bool := bnd t fun c => if c = true then u else ret false
def mOr (t u : M Bool) : M Bool := bnd t fun c => if c = true then ret true else u
def mNot (t : M Bool) : M Bool := bnd t fun c => ret (!c)
theorem tMT_bnd {σ : L2.St} {H : Hp} {Q : Bool → Hp → Prop} {k : Bool → M Bool} {R : Bool → Hp → Prop} (h : tMT X.K cl E (bnd t k) σ H Q)
    (hk : ∀ c H1 P B env fps, Fm X.K P B H1 σ env fps → (PostX X.K cl E P B σ (k c env) fun b H' _ _ _ => Q b H') → R c H1) : tMT X.K cl E t σ H R := by
  obtain ⟨P, B, env, fps, F, h⟩ := h
  exact ⟨P, B, env, fps, F, (postX_bnd h).mono fun c H1 B1 fps1 env1 x F1 q => hk c H1 P B1 env1 fps1 F1 q⟩
theorem tMT_ret {σ : L2.St} {H : Hp} {Q : Bool → Hp → Prop} {P B : Hp} {env : Env} {fps : Nat → List Addr} {c : Bool} (F : Fm X.K P B H σ env fps) (h : PostX X.K cl E P B σ (ret c env) fun b H' _ _ _ => Q b H') : Q c H := h H B fps Ext.refl F
theorem dw_and1 (ha : DT X cl E a t) : DW X cl E (.BoolOp .And [a] pos) t := pw_and1 ha
theorem dw_or1 (ha : DT X cl E a t) : DW X cl E (.BoolOp .Or [a] pos) t := pw_or1 ha
theorem dw_and (ha : DT X cl E a t) (hb : DW X cl E (.BoolOp .And (b :: rest) pos) u) : DW X cl E (.BoolOp .And (a :: b :: rest) pos) (mAnd t u) := by
  refine ⟨fun w pins s σ H Q I h => (pw_and ha hb).run w pins s σ H Q I ?_⟩
  refine tMT_bnd h fun c H1 P B env fps F q => ?_
  cases c with
  | true => exact ⟨P, B, env, fps, F, q⟩
  | false => exact tMT_ret F q
theorem dw_or (ha : DT X cl E a t) (hb : DW X cl E (.BoolOp .Or (b :: rest) pos) u) : DW X cl E (.BoolOp .Or (a :: b :: rest) pos) (mOr t u) := by
  refine ⟨fun w pins s σ H Q I h => (pw_or ha hb).run w pins s σ H Q I ?_⟩
  refine tMT_bnd h fun c H1 P B env fps F q => ?_
  cases c with
  | true => exact tMT_ret F q
  | false => exact ⟨P, B, env, fps, F, q⟩
theorem dt_w (h : DW X cl E e t) : DT X cl E e t := PW.pt h
theorem dt_not (ha : DT X cl E a t) : DT X cl E (.UnaryOp .Not a pos) (mNot t) := by
  refine ⟨fun pins s σ H Q I h => (pt_not ha).run pins s σ H Q I ?_⟩
  exact tMT_bnd h fun c H1 P B env fps F q => tMT_ret F q

/-! ### .. as values -/
def mAndV (ma mb : M Rv) : M Rv := bnd ma fun r => match r with
  | .d (.bool true) => mb
  | .d (.bool false) => ret (.d (.bool false))
  | _ => stk
def mOrV (ma mb : M Rv) : M Rv := bnd ma fun r => match r with
  | .d (.bool true) => ret (.d (.bool true))
  | .d (.bool false) => mb
  | _ => stk
def mNotV (ma : M Rv) : M Rv := bnd ma fun r => match r with
  | .d (.bool b) => ret (.d (.bool (!b)))
  | _ => stk
theorem ret_d {K : PySem.W.Frag} {P B H : Hp} {σ : L2.St} {env : Env} {fps : Nat → List Addr} {d : D} {v : V} {Q : VK} (F : Fm K P B H σ env fps) (r : RD K B d v) (h : PostE K cl E P B σ (ret (.d d) env) Q) : Q v H := h v H B fps Ext.refl F r
theorem de_one {op} (h : DE X cl E a m) : DE X cl E (.BoolOp op [a] pos) m := pe_one h
theorem tM_e {k : Rv → M Rv} {σ : L2.St} {H : Hp} {Q : VK} {R : VK} (h : tM X.K cl E (bnd m k) σ H Q)
    (hk : ∀ r v H1 P B env fps, Fm X.K P B H1 σ env fps → RvR X.K P B H1 σ fps r v → PostE X.K cl E P B σ (k r env) Q → R v H1) : tM X.K cl E m σ H R := by
  obtain ⟨P, B, env, fps, F, h⟩ := h
  refine ⟨P, B, env, fps, F, ?_⟩
  have h2 := postE_e h
  cases q : m env with
  | ok r env1 =>
    rw [q] at h2
    intro v H1 B1 fps1 x F1 r1
    obtain ⟨B2, env2, fps2, r2, x2, F2, s2, h3⟩ := h2 v H1 B1 fps1 x F1 r1
    exact hk r2 v H1 P B2 env2 fps2 F2 s2 h3
  | ex c env1 => rw [q] at h2; exact h2
  | stuck => rw [q] at h2; exact h2.elim
theorem de_and (ha : DE X cl E a ma) (hb : DE X cl E (.BoolOp .And (b :: rest) pos) mb) : DE X cl E (.BoolOp .And (a :: b :: rest) pos) (mAndV ma mb) := by
  refine ⟨fun pins s σ H Q I h => (pe_and ha hb).run pins s σ H Q I ?_⟩
  refine tM_e h fun r v H1 P B env fps F s2 h2 => ?_
  split at h2
  · cases (show RD X.K B (.bool _) v from s2)
    exact ⟨_, rfl, ⟨P, B, env, fps, F, h2⟩⟩
  · cases (show RD X.K B (.bool _) v from s2)
    exact ⟨_, rfl, ret_d F (.bl false) h2⟩
  · exact h2.elim
theorem de_or (ha : DE X cl E a ma) (hb : DE X cl E (.BoolOp .Or (b :: rest) pos) mb) : DE X cl E (.BoolOp .Or (a :: b :: rest) pos) (mOrV ma mb) := by
  refine ⟨fun pins s σ H Q I h => (pe_or ha hb).run pins s σ H Q I ?_⟩
  refine tM_e h fun r v H1 P B env fps F s2 h2 => ?_
  split at h2
  · cases (show RD X.K B (.bool _) v from s2)
    exact ⟨_, rfl, ret_d F (.bl true) h2⟩
  · cases (show RD X.K B (.bool _) v from s2)
    exact ⟨_, rfl, ⟨P, B, env, fps, F, h2⟩⟩
  · exact h2.elim
theorem de_not (ha : DE X cl E a ma) : DE X cl E (.UnaryOp .Not a pos) (mNotV ma) := by
  refine ⟨fun pins s σ H Q I h => (pe_not ha).run pins s σ H Q I ?_⟩
  refine tM_e h fun r v H1 P B env fps F s2 h2 => ?_
  split at h2
  · cases (show RD X.K B (.bool _) v from s2)
    exact ⟨_, rfl, ret_d F (.bl _) h2⟩
  · exact h2.elim
def mIf (t : M Bool) (ma mb : M Rv) : M Rv := bnd t fun c => if c = true then ma else mb
theorem de_ifExp {c : Expr} (hc : DT X cl E c t) (ha : DE X cl E a ma) (hb : DE X cl E b mb) : DE X cl E (.IfExp c a b pos) (mIf t ma mb) := by
  refine ⟨fun pins s σ H Q I h => (pe_ifExp hc ha hb).run pins s σ H Q I ?_⟩
  obtain ⟨P, B, env, fps, F, h⟩ := h
  refine ⟨P, B, env, fps, F, (postE_bnd h).mono fun c H1 B1 fps1 env1 x F1 q => ?_⟩
  cases c with
  | true => exact ⟨P, B1, env1, fps1, F1, q⟩
  | false => exact ⟨P, B1, env1, fps1, F1, q⟩

/-! ### arguments, displays -/
def mNil : M (List Rv) := ret []
def mCons (m : M Rv) (ms : M (List Rv)) : M (List Rv) := bnd (vm m) fun r => bnd ms fun rs => ret (r :: rs)
theorem da_nil : DA X cl E [] mNil := ⟨fun pos pins s σ H Q I ⟨P, B, env, fps, F, h⟩ => pa_nil.run pos pins s σ H Q I (h H B fps Ext.refl F [] .nil)⟩
theorem da_cons {ms : M (List Rv)} (ha : DE X cl E e m) (hr : DA X cl E es ms) (hs : starEach (e :: es) X.env = (false, eval e X.env) :: starEach es X.env := by rfl) : DA X cl E (e :: es) (mCons m ms) := by
  refine ⟨fun pos pins s σ H Q I ⟨P, B, env, fps, F, h⟩ => (pa_cons ha hr hs).run pos pins s σ H Q I ?_⟩
  refine ⟨P, B, env, fps, F, ?_⟩
  have h1 := postX_vm h
  cases q : m env with
  | ok r env1 =>
    rw [q] at h1
    intro v H1 B1 fps1 x F1 r1
    obtain ⟨B2, env2, fps2, r2, x2, F2, s2, h2⟩ := h1 v H1 B1 fps1 x F1 r1
    exact ⟨P, B2, env2, fps2, F2, (postX_bnd h2).mono fun rs H3 B3 fps3 env3 x3 F3 h3 vs hv => h3 H3 B3 fps3 Ext.refl F3 (v :: vs) (.cons (s2.mono x3.1) hv)⟩
  | ex c env1 => rw [q] at h1; exact h1
  | stuck => rw [q] at h1; exact h1.elim
/-- a thing of a slot that is laid into another one is frozen there -/
def frzR (r : Rv) : M D := fun env => match r with
  | .d x => .ok x env
  | .pl i => match env[i]? with
    | some (some (.lst ds)) => .ok (.list ds) (env.set i (some (.dat (.list ds))))
    | some (some (.dct _)) => .ok (.dict []) (env.set i (some (.dat (.dict []))))
    | some (some (.dat d)) => .ok d env
    | _ => .stuck
  | .own _ => .stuck
def frzAll : List Rv → M (List D)
  | [] => ret []
  | r :: rs => bnd (frzR r) fun d => bnd (frzAll rs) fun ds => ret (d :: ds)
end
end Mi

set_option Elab.async false
set_option linter.all false
set_option maxRecDepth 100000
namespace Mi
open PySem PySem.Spec L2

def setF (fps : Nat → List Addr) (i : Nat) (fp : List Addr) : Nat → List Addr := fun j => if j = i then fp else fps j
theorem setF_same {fps : Nat → List Addr} {i : Nat} {fp : List Addr} : setF fps i fp i = fp := by unfold setF; rw [if_pos rfl]
theorem setF_ne {fps : Nat → List Addr} {i j : Nat} {fp : List Addr} (h : j ≠ i) : setF fps i fp j = fps j := by unfold setF; rw [if_neg h]
theorem env_set {env : Env} {i j : Nat} {o o' : Option O} (h : (env.set i o)[j]? = some o') : (j = i ∧ o' = o) ∨ (j ≠ i ∧ env[j]? = some o') := by
  by_cases z : j = i
  · subst z
    rw [List.getElem?_set] at h
    simp only [if_pos] at h
    split at h
    · exact .inl ⟨rfl, (Option.some.inj h).symm⟩
    · cases h
  · rw [List.getElem?_set_ne (Ne.symm z)] at h
    exact .inr ⟨z, h⟩
theorem env_set_none {env : Env} {i j : Nat} {o : Option O} (h : (env.set i o)[j]? = none) : env[j]? = none := by
  rw [List.getElem?_eq_none_iff] at h ⊢
  simpa using h

section
variable {K : PySem.W.Frag} {cl : String → Addr} {E : XK} {P B B' H H' : Hp} {σ : L2.St} {env : Env} {fps : Nat → List Addr}
theorem setF_mem {i j : Nat} {a : Addr} (h : a ∈ setF fps i [] j) : a ∈ fps j ∧ j ≠ i := by
  by_cases z : j = i
  · subst z; rw [setF_same] at h; simp at h
  · rw [setF_ne z] at h; exact ⟨h, z⟩
/-- a slot's own cell is frozen, the slot keeps the data -/
theorem Fm.freezeS (F : Fm K P B H σ env fps) {i : Nat} {a : Addr} {o : HO} {d : D} {v : V} (ei : ∃ o, env[i]? = some (some o)) (e : H a = some o) (hf : fps i = [a]) (hv : σ[i]? = some (some v)) (r : RD K (upd B a o) d v) (ho : ∀ ps, o ≠ .tbl ps := by intro _ h; cases h) :
    Fm K P (upd B a o) H σ (env.set i (some (.dat d))) (setF fps i []) ∧ Ext P B (upd B a o) := by
  obtain ⟨hb, hp⟩ := F.off i a (by rw [hf]; simp)
  have ha : ∀ {j b}, b ∈ fps j → j ≠ i → b ≠ a := fun {j b} hb' hj z => hj (F.dis j i b hb' (by rw [hf, z]; simp))
  refine ⟨⟨by simpa using F.len, fun b u q => ?_, F.prt, fun j o' q => ?_, fun j q => ?_, fun j k b h1 h2 => ?_, fun j b hb' => ?_, F.tab.mono (Sub.upd hb), F.nbT.upd ho, F.npT⟩, Ext.upd hb hp⟩
  · by_cases z : b = a
    · subst z; rw [upd_same] at q; cases q; exact e
    · rw [upd_ne z] at q; exact F.sub _ _ q
  · rcases env_set q with ⟨rfl, z⟩ | ⟨hj, q⟩
    · cases z
      rw [setF_same]
      exact ⟨v, hv, .dat r⟩
    · rw [setF_ne hj]
      obtain ⟨v, e1, r⟩ := F.slot j o' q
      exact ⟨v, e1, r.congr (Sub.upd hb) fun _ _ => rfl⟩
  · by_cases z : j = i
    · subst z; exact setF_same
    · rw [setF_ne z]
      rcases q with q | q
      · rcases env_set q with ⟨y, _⟩ | ⟨_, q⟩
        · exact absurd y z
        · exact F.emp j (.inl q)
      · exact F.emp j (.inr (env_set_none q))
  · exact F.dis j k b (setF_mem h1).1 (setF_mem h2).1
  · obtain ⟨h1, h2⟩ := setF_mem hb'
    obtain ⟨q1, q2⟩ := F.off j b h1
    exact ⟨by rw [upd_ne (ha h1 h2)]; exact q1, q2⟩
theorem frzR_ok (F : Fm K P B H σ env fps) {r : Rv} {v : V} {d : D} {env' : Env} (s : RvS K B σ r v) (e : frzR r env = .ok d env') : ∃ B' fps', Ext P B B' ∧ Fm K P B' H σ env' fps' ∧ RD K B' d v := by
  cases r with
  | d x => cases e; exact ⟨B, fps, Ext.refl, F, s⟩
  | own o => cases e
  | pl i =>
    unfold frzR at e
    split at e
    · rename_i eq
      cases eq
    · rename_i j eq
      cases eq
      split at e
      · rename_i ds he
        cases e
        obtain ⟨a, vs, rfl, hf, e1, r1⟩ := (F.pl he s).lst_inv
        obtain ⟨F', x⟩ := F.freezeS (d := .list ds) ⟨_, he⟩ e1 hf s (.lst (.inl (.inl upd_same)) (RDs.mono (Sub.upd (F.off i a (by rw [hf]; simp)).1) _ _ r1))
        exact ⟨_, _, x, F', .lst (.inl (.inl upd_same)) (RDs.mono x.1 _ _ r1)⟩
      · rename_i kv he
        cases e
        obtain ⟨a, vs, rfl, hf, e1, r1⟩ := (F.pl he s).dct_inv
        obtain ⟨F', x⟩ := F.freezeS (d := .dict []) ⟨_, he⟩ e1 hf s (.dct upd_same)
        exact ⟨_, _, x, F', .dct upd_same⟩
      · rename_i d' he
        cases e
        exact ⟨B, fps, Ext.refl, F, (F.pl he s).dat_inv.1⟩
      · cases e
    · cases e
theorem frzR_nex {r : Rv} {c : String} {env' : Env} : frzR r env ≠ .ex c env' := by
  unfold frzR
  intro h
  split at h
  · cases h
  · split at h <;> cases h
  · cases h
theorem frzAll_ok : ∀ {rs : List Rv} {vs : List V} {ds : List D} {env env' : Env} {B : Hp} {fps : Nat → List Addr}, Fm K P B H σ env fps → Paired (RvS K B σ) rs vs → frzAll rs env = .ok ds env' → ∃ B' fps', Ext P B B' ∧ Fm K P B' H σ env' fps' ∧ RDs K B' ds vs
  | _, _, _, _, _, B, fps, F, .nil, e => by cases e; exact ⟨B, fps, Ext.refl, F, .nil⟩
  | r :: rs, v :: vs, _, env, env', B, fps, F, .cons s t, e => by
    unfold frzAll bnd at e
    cases q : frzR r env with
    | ok d env1 =>
      rw [q] at e
      obtain ⟨B1, fps1, x1, F1, r1⟩ := frzR_ok F s q
      simp only [bind_ok] at e
      cases q2 : frzAll rs env1 with
      | ok ds2 env2 =>
        rw [q2] at e
        cases e
        obtain ⟨B2, fps2, x2, F2, r2⟩ := frzAll_ok F1 (L2.Paired.mapP t fun _ _ z => z.mono x1.1) q2
        exact ⟨B2, fps2, x1.trans x2, F2, .cons (RD.mono x2.1 _ _ r1) r2⟩
      | ex c env2 => rw [q2] at e; cases e
      | stuck => rw [q2] at e; cases e
    | ex c env1 => exact absurd q frzR_nex
    | stuck => rw [q] at e; cases e
theorem frzAll_len : ∀ {rs : List Rv} {ds : List D} {env env' : Env}, frzAll rs env = .ok ds env' → ds.length = rs.length
  | [], _, _, _, e => by cases e; rfl
  | r :: rs, _, env, env', e => by
    unfold frzAll bnd at e
    cases q : frzR r env with
    | ok d env1 =>
      rw [q] at e
      simp only [bind_ok] at e
      cases q2 : frzAll rs env1 with
      | ok ds2 env2 =>
        rw [q2] at e
        cases e
        rw [List.length_cons, List.length_cons, frzAll_len q2]
      | ex c env2 => rw [q2] at e; cases e
      | stuck => rw [q2] at e; cases e
    | ex c env1 => exact absurd q frzR_nex
    | stuck => rw [q] at e; cases e
theorem frzAll_nex : ∀ {rs : List Rv} {env env' : Env} {c : String}, frzAll rs env ≠ .ex c env'
  | [], _, _, _, e => by cases e
  | r :: rs, env, env', c, e => by
    unfold frzAll bnd at e
    cases q : frzR r env with
    | ok d env1 =>
      rw [q] at e
      simp only [bind_ok] at e
      cases q2 : frzAll rs env1 with
      | ok ds2 env2 => rw [q2] at e; cases e
      | ex c env2 => exact frzAll_nex q2
      | stuck => rw [q2] at e; cases e
    | ex c env1 => exact absurd q frzR_nex
    | stuck => rw [q] at e; cases e
end

/-- how many arguments there are -/
def Len (m : M (List Rv)) (n : Nat) : Prop := ∀ env rs env', m env = .ok rs env' → rs.length = n
theorem len_nil : Len mNil 0 := fun _ _ _ e => by cases e; rfl
theorem len_cons {m : M Rv} {ms : M (List Rv)} {n : Nat} (h : Len ms n) : Len (mCons m ms) (n + 1) := fun env rs env' e => by
  unfold mCons bnd at e
  cases q : vm m env with
  | ok r env1 =>
    rw [q] at e
    simp only [bind_ok] at e
    cases q2 : ms env1 with
    | ok rs2 env2 =>
      rw [q2] at e
      cases e
      rw [List.length_cons, h _ _ _ q2]
    | ex c env2 => rw [q2] at e; cases e
    | stuck => rw [q2] at e; cases e
  | ex c env1 => rw [q] at e; cases e
  | stuck => rw [q] at e; cases e

section
variable {X : Cx} {cl : String → Addr} {E : XK} {a b e : Expr} {ma mb m : M Rv} {ms : M (List Rv)} {t u : M Bool} {pos : Pos} {rest es : List Expr} {n : Nat}
/-- arguments that are frozen, then the rest -/
def mFr (ms : M (List Rv)) : M (List D) := bnd ms frzAll
def mTup (ms : M (List Rv)) : M Rv := bnd (mFr ms) fun ds => ret (.d (.tuple ds))
def mLst (ms : M (List Rv)) : M Rv := bnd (mFr ms) fun ds => ret (.own (.lst ds))
theorem post_fr {P B : Hp} {σ : L2.St} {env : Env} {k : List D → M Rv} {Q : VK} (hl : Len ms n) (h : PostE X.K cl E P B σ (bnd (mFr ms) k env) Q) :
    PostX X.K cl E P B σ (ms env) fun rs H1 B1 _ env1 => ∀ vs, Paired (RvS X.K B1 σ) rs vs → ∃ ds B2 fps2 env2, ds.length = n ∧ Ext P B1 B2 ∧ Fm X.K P B2 H1 σ env2 fps2 ∧ RDs X.K B2 ds vs ∧ PostE X.K cl E P B2 σ (k ds env2) Q := by
  unfold mFr bnd at h
  cases q : ms env with
  | ok rs env1 =>
    rw [q] at h
    simp only [bind_ok] at h
    intro H1 B1 fps1 x1 F1 vs hv
    cases q2 : frzAll rs env1 with
    | ok ds env2 =>
      rw [q2] at h
      obtain ⟨B2, fps2, x2, F2, r2⟩ := frzAll_ok F1 hv q2
      exact ⟨ds, B2, fps2, env2, by rw [frzAll_len q2]; exact hl _ _ _ q, x2, F2, r2, PostE.ext (x1.trans x2) h⟩
    | ex c env2 => exact absurd q2 frzAll_nex
    | stuck => rw [q2] at h; exact h.elim
  | ex c env1 => rw [q] at h; exact h
  | stuck => rw [q] at h; exact h.elim
theorem de_tup {x1} (ha : DA X cl E es ms) (hl : Len ms n) (hn : n ≤ sizeLine) : DE X cl E (.Tuple es x1 pos) (mTup ms) := by
  refine ⟨fun pins s σ H Q I ⟨P, B, env, fps, F, h⟩ => (pe_tup ha).run pins s σ H Q I ?_⟩
  refine ⟨P, B, env, fps, F, (post_fr hl h).mono fun rs H1 B1 fps1 env1 x F1 q vs hv => ?_⟩
  obtain ⟨ds, B2, fps2, env2, e1, x2, F2, r2, h2⟩ := q vs hv
  refine ⟨by rw [RDs.length _ _ r2, e1]; exact hn, fun p hp => ?_⟩
  obtain ⟨h1, h2', h3⟩ := F2.newB hp
  have x3 : Ext P B2 (upd B2 p (.tup vs)) := Ext.upd h1 h2'
  exact h2 _ _ _ fps2 x3 (F2.allocB hp) (.tup (.inl (.inl upd_same)) (RDs.mono x3.1 _ _ r2))
theorem de_lst (ha : DA X cl E es ms) (hl : Len ms n) (hn : n ≤ sizeLine) : DE X cl E (.List es pos) (mLst ms) := by
  refine ⟨fun pins s σ H Q I ⟨P, B, env, fps, F, h⟩ => (pe_lst ha).run pins s σ H Q I ?_⟩
  refine ⟨P, B, env, fps, F, (post_fr hl h).mono fun rs H1 B1 fps1 env1 x F1 q vs hv => ?_⟩
  obtain ⟨ds, B2, fps2, env2, e1, x2, F2, r2, h2⟩ := q vs hv
  refine ⟨by rw [RDs.length _ _ r2, e1]; exact hn, fun p hp => ?_⟩
  obtain ⟨h1, h2', h3⟩ := F2.newB hp
  exact h2 _ _ _ fps2 Ext.refl (F2.alloc hp) ⟨_, .lst upd_same r2, fun a ha => by simp at ha; subst ha; exact ⟨h1, h2', h3⟩⟩

/-! ### rules by readings of the layer -/
/-- the layer's reading of an operator serves g -/
def RuD (K : PySem.W.Frag) (r : R2) (g : D → D → Option Out) : Prop :=
  ∀ (H B : Hp) (x y : D) (v w : V) (o : Out) (Q : VK), Sub B H → Rd1 K B H x v → Rd1 K B H y w → g x y = some o → (∀ v' H', OutR K B H o v' H' → Q v' H') → r v w H Q
theorem OpD.ru {f : Value → Value → Sem Value} {r : R2} {g : D → D → Option Out} (ho : OpR X f r) (h : RuD X.K r g) : OpD X f g :=
  OpD.of ho fun H B x y v w o hs r1 r2 e => h H B x y v w o _ hs r1 r2 e fun _ _ q => q
theorem OpD.or {f : Value → Value → Sem Value} {g g' : D → D → Option Out} (h : OpD X f g) (h' : OpD X f g') : OpD X f (fun x y => (g x y).or (g' x y)) := by
  intro pins s σ H B x y v w vv ww o I hs r1 r2 q1 q2 e
  have e : (g x y).or (g' x y) = some o := e
  cases q : g x y with
  | some o' =>
    rw [q] at e
    cases e
    exact h pins s σ H B x y v w vv ww _ I hs r1 r2 q1 q2 q
  | none =>
    rw [q] at e
    exact h' pins s σ H B x y v w vv ww _ I hs r1 r2 q1 q2 e
/-- a subscript, a slice .. : operands, then a reading -/
theorem tOp_of {r : R2} {g : D → D → Option Out} (hr : RuD X.K r g) {σ : L2.St} {H : Hp} {Q : VK} (h : tM X.K cl E (mBin g ma mb) σ H Q) : tOp r (tM X.K cl E ma) (tM X.K cl E mb) σ H Q := by
  obtain ⟨P, B, env, fps, F, h⟩ := h
  have h1 := post_vm h
  refine ⟨P, B, env, fps, F, ?_⟩
  cases q : ma env with
  | ok r1 env1 =>
    rw [q] at h1
    intro v H1 B1 fps1 x F1 rr
    obtain ⟨B2, env2, fps2, r2, x2, F2, w2, h2⟩ := h1 v H1 B1 fps1 x F1 rr
    have h3 := post_vm h2
    refine ⟨P, B2, env2, fps2, F2, ?_⟩
    cases q3 : mb env2 with
    | ok r3 env3 =>
      rw [q3] at h3
      intro w H3 B3 fps3 x3 F3 rr3
      obtain ⟨B4, env4, fps4, r4, x4, F4, w4, h4⟩ := h3 w H3 B3 fps3 x3 F3 rr3
      split at h4
      · rename_i dx dy e1 e2
        split at h4
        · rename_i o eo
          exact hr H3 B4 dx dy v w o Q F4.sub (F4.res (w2.mono x4.1) e1) (F4.res w4 e2) eo fun v' H' ho => ho.post F4 h4
        · exact h4.elim
      · exact h4.elim
    | ex c env3 => rw [q3] at h3; exact h3
    | stuck => rw [q3] at h3; exact h3.elim
  | ex c env1 => rw [q] at h1; exact h1
  | stuck => rw [q] at h1; exact h1.elim
theorem de_ix {r : R2} {g : D → D → Option Out} (hr : IxR X r) (hg : RuD X.K r g) (ha : DE X cl E a ma) (hb : DE X cl E b mb) (hs : PlainIx b) : DE X cl E (.Subscript a b pos) (mBin g ma mb) :=
  ⟨fun pins s σ H Q I h => (pe_ix hr ha hb hs).run pins s σ H Q I (tOp_of hg h)⟩
/-- a[i] of a list or a tuple, s[i] of a text -/
def gIx : D → D → Option Out
  | .list ds, .int i => (atI ds i).map .val
  | .tuple ds, .int i => (atI ds i).map .val
  | .str z, .int i => if z.length ≤ sizeLine then (atI z.cps.toList i).map fun c => .val (.str ⟨#[c]⟩) else none
  | _, _ => none
theorem RDs.atI {K : PySem.W.Frag} {B : Hp} {ds : List D} {vs : List V} {i : Int} {d : D} (r : RDs K B ds vs) (e : L2.atI ds i = some d) : ∃ v, L2.atI vs i = some v ∧ RD K B d v := by
  unfold L2.atI at e ⊢
  rw [RDs.length _ _ r]
  cases q : ixN ds.length i with
  | none => rw [q] at e; cases e
  | some j =>
    rw [q] at e
    exact r.get e
theorem Rd1.int {K : PySem.W.Frag} {B H : Hp} {i : Int} {v : V} (h : Rd1 K B H (.int i) v) : v = .int i := by
  rcases h with h | ⟨_, _, _, e, _⟩
  · cases h; rfl
  · cases e
theorem Rd1.str {K : PySem.W.Frag} {B H : Hp} {x : Str} {v : V} (h : Rd1 K B H (.str x) v) : v = .str x := by
  rcases h with h | ⟨_, _, _, e, _⟩
  · cases h; rfl
  · cases e
theorem Rd1.bool {K : PySem.W.Frag} {B H : Hp} {x : Bool} {v : V} (h : Rd1 K B H (.bool x) v) : v = .bl x := by
  rcases h with h | ⟨_, _, _, e, _⟩
  · cases h; rfl
  · cases e
theorem Rd1.none {K : PySem.W.Frag} {B H : Hp} {v : V} (h : Rd1 K B H .none v) : v = .non := by
  rcases h with h | ⟨_, _, _, e, _⟩
  · cases h; rfl
  · cases e
theorem Rd1.list {K : PySem.W.Frag} {B H : Hp} {ds : List D} {v : V} (hs : Sub B H) (h : Rd1 K B H (.list ds) v) : ∃ a vs, v = .ref a ∧ SqL K H a vs ∧ RDs K B ds vs := by
  rcases h with h | ⟨_, a, vs, e, rfl, e1, r⟩
  · cases h with
    | lst h1 r => exact ⟨_, _, rfl, hs.sqL h1, r⟩
  · cases e
    exact ⟨a, vs, rfl, .inl (.inl e1), r⟩
theorem Rd1.tuple {K : PySem.W.Frag} {B H : Hp} {ds : List D} {v : V} (hs : Sub B H) (h : Rd1 K B H (.tuple ds) v) : ∃ a vs, v = .ref a ∧ SqT K H a vs ∧ RDs K B ds vs := by
  rcases h with h | ⟨_, a, vs, e, rfl, e1, r⟩
  · cases h with
    | tup h1 r => exact ⟨_, _, rfl, hs.sqT h1, r⟩
  · cases e
theorem ru_ix {K : PySem.W.Frag} : RuD K (rIx K) gIx := by
  intro H B x y v w o Q hs r1 r2 e hq
  unfold gIx at e
  split at e
  · cases r2.int
    obtain ⟨a, vs, rfl, h1, r⟩ := r1.list hs
    obtain ⟨d, e1, rfl⟩ := Option.map_eq_some_iff.mp e
    obtain ⟨u, e2, rd⟩ := r.atI e1
    exact .inl ⟨a, vs, _, u, rfl, rfl, h1, e2, hq _ _ ⟨rfl, rd⟩⟩
  · cases r2.int
    obtain ⟨a, vs, rfl, h1, r⟩ := r1.tuple hs
    obtain ⟨d, e1, rfl⟩ := Option.map_eq_some_iff.mp e
    obtain ⟨u, e2, rd⟩ := r.atI e1
    exact .inr (.inl ⟨a, vs, _, u, rfl, rfl, h1, e2, hq _ _ ⟨rfl, rd⟩⟩)
  · cases r2.int
    cases r1.str
    split at e
    · rename_i hz
      obtain ⟨c, e1, rfl⟩ := Option.map_eq_some_iff.mp e
      exact .inr (.inr ⟨_, _, c, rfl, rfl, hz, e1, hq _ _ ⟨rfl, .str _⟩⟩)
    · cases e
  · cases e
theorem de_item (ha : DE X cl E a ma) (hb : DE X cl E b mb) (hs : PlainIx b) : DE X cl E (.Subscript a b pos) (mBin gIx ma mb) := de_ix ix_seq ru_ix ha hb hs
end
end Mi

set_option Elab.async false
set_option linter.all false
set_option maxRecDepth 100000
namespace Mi
open PySem PySem.Spec L2

/-! ### what may be compared -/
mutual
/-- no dict, no odd sign, at most n deep -/
def okd : D → Nat → Bool
  | .none, _ => true | .bool _, _ => true | .int _, _ => true
  | .str x, _ => PyData.strOk x
  | .list ds, n => match n with
    | 0 => false
    | n + 1 => okds ds n
  | .tuple ds, n => match n with
    | 0 => false
    | n + 1 => okds ds n
  | .dict _, _ => false
def okds : List D → Nat → Bool
  | [], _ => true
  | d :: ds, n => okd d n && okds ds n
end
mutual
theorem okd_noD : ∀ (d : D) (n : Nat), okd d n = true → noD d = true
  | .none, _, _ => by simp [noD]
  | .bool _, _, _ => by simp [noD]
  | .int _, _, _ => by simp [noD]
  | .str _, _, _ => by simp [noD]
  | .list ds, 0, h => by simp [okd] at h
  | .list ds, n + 1, h => by simp only [noD]; exact okds_noD ds n (by simpa [okd] using h)
  | .tuple ds, 0, h => by simp [okd] at h
  | .tuple ds, n + 1, h => by simp only [noD]; exact okds_noD ds n (by simpa [okd] using h)
  | .dict _, _, h => by simp [okd] at h
theorem okds_noD : ∀ (ds : List D) (n : Nat), okds ds n = true → noDs ds = true
  | [], _, _ => by simp [noDs]
  | d :: ds, n, h => by
    simp only [okds, Bool.and_eq_true] at h
    simp only [noDs, Bool.and_eq_true]
    exact ⟨okd_noD d n h.1, okds_noD ds n h.2⟩
end
mutual
theorem okd_can : ∀ (d : D) (n : Nat), okd d n = true → d.canLay0 = true
  | .none, _, _ => by simp [PyData.canLay0]
  | .bool _, _, _ => by simp [PyData.canLay0]
  | .int _, _, _ => by simp [PyData.canLay0]
  | .str _, _, h => by simpa [PyData.canLay0, okd] using h
  | .list ds, 0, h => by simp [okd] at h
  | .list ds, n + 1, h => by simp only [PyData.canLay0]; exact okds_can ds n (by simpa [okd] using h)
  | .tuple ds, 0, h => by simp [okd] at h
  | .tuple ds, n + 1, h => by simp only [PyData.canLay0]; exact okds_can ds n (by simpa [okd] using h)
  | .dict _, _, h => by simp [okd] at h
theorem okds_can : ∀ (ds : List D) (n : Nat), okds ds n = true → PyData.canLayAll0 ds = true
  | [], _, _ => by simp [PyData.canLayAll0]
  | d :: ds, n, h => by
    simp only [okds, Bool.and_eq_true] at h
    simp only [PyData.canLayAll0, Bool.and_eq_true]
    exact ⟨okd_can d n h.1, okds_can ds n h.2⟩
end
mutual
theorem okd_dep : ∀ (d : D) (n : Nat), okd d n = true → d.depth ≤ n
  | .none, _, _ => by simp [PyData.depth]
  | .bool _, _, _ => by simp [PyData.depth]
  | .int _, _, _ => by simp [PyData.depth]
  | .str _, _, h => by simp [PyData.depth]
  | .list ds, 0, h => by simp [okd] at h
  | .list ds, n + 1, h => by simp only [PyData.depth]; exact Nat.succ_le_succ (okds_dep ds n (by simpa [okd] using h))
  | .tuple ds, 0, h => by simp [okd] at h
  | .tuple ds, n + 1, h => by simp only [PyData.depth]; exact Nat.succ_le_succ (okds_dep ds n (by simpa [okd] using h))
  | .dict _, _, h => by simp [okd] at h
theorem okds_dep : ∀ (ds : List D) (n : Nat), okds ds n = true → PyData.depthAll ds ≤ n
  | [], _, _ => by simp [PyData.depthAll]
  | d :: ds, n, h => by
    simp only [okds, Bool.and_eq_true] at h
    simp only [PyData.depthAll]
    exact Nat.max_le.mpr ⟨okd_dep d n h.1, okds_dep ds n h.2⟩
end
theorem okd_shaped {d : D} (h : okd d 60 = true) : SeqAt.shaped d = true := by
  unfold SeqAt.shaped
  rw [Bool.and_eq_true]
  exact ⟨okd_can d 60 h, decide_eq_true (Nat.le_trans (okd_dep d 60 h) (by decide))⟩
theorem Rd1.dp {K : PySem.W.Frag} {B H : Hp} {x : D} {v : V} (hs : Sub B H) (h : Rd1 K B H x v) (n : noD x = true) : Dp K H v x := RD.dp x v n (h.rd hs)

def vB (b : Bool) : Option Out := some (.val (.bool b))
def vI (i : Int) : Option Out := some (.val (.int i))
section
variable {X : Cx}

/-! ### ints -/
def gI (f : Int → Int → Option Out) : D → D → Option Out
  | .int i, .int j => f i j
  | _, _ => none
theorem ru_I {K : PySem.W.Frag} {C : Int → Int → Prop} {g : Int → Int → V} {f : Int → Int → Option Out}
    (h : ∀ i j o, f i j = some o → C i j ∧ ∃ d, o = .val d ∧ ∀ B, RD K B d (g i j)) : RuD K (rI C g) (gI f) := by
  intro H B x y v w o Q hs r1 r2 e hq
  unfold gI at e
  split at e
  · cases r1.int
    cases r2.int
    obtain ⟨c, d, rfl, r⟩ := h _ _ _ e
    exact ⟨_, _, rfl, rfl, c, hq _ _ ⟨rfl, r B⟩⟩
  · cases e
theorem ru_I0 {K : PySem.W.Frag} {g : Int → Int → V} {f : Int → Int → Option Out}
    (h : ∀ i j o, f i j = some o → ∃ d, o = .val d ∧ ∀ B, RD K B d (g i j)) : RuD K (rI0 g) (gI f) := by
  intro H B x y v w o Q hs r1 r2 e hq
  unfold gI at e
  split at e
  · cases r1.int
    cases r2.int
    obtain ⟨d, rfl, r⟩ := h _ _ _ e
    exact ⟨_, _, rfl, rfl, hq _ _ ⟨rfl, r B⟩⟩
  · cases e
theorem vI_inv {K : PySem.W.Frag} {i : Int} {o : Out} (e : vI i = some o) : ∃ d, o = .val d ∧ ∀ B, RD K B d (.int i) := ⟨_, (Option.some.inj e).symm, fun _ => .int i⟩
theorem vB_inv {K : PySem.W.Frag} {i : Bool} {o : Out} (e : vB i = some o) : ∃ d, o = .val d ∧ ∀ B, RD K B d (.bl i) := ⟨_, (Option.some.inj e).symm, fun _ => .bl i⟩
def gAddI : D → D → Option Out := gI fun i j => vI (i + j)
theorem od_addI : OpD X (binaryOp .Add) gAddI := OpD.ru op_add (ru_I0 fun _ _ _ e => vI_inv e)
def gSub : D → D → Option Out := gI fun i j => vI (i - j)
theorem od_sub : OpD X (binaryOp .Sub) gSub := OpD.ru op_sub (ru_I0 fun _ _ _ e => vI_inv e)
def gMulI : D → D → Option Out := gI fun i j => if -(2 ^ 64) < i ∧ i < 2 ^ 64 then vI (i * j) else none
theorem od_mulI : OpD X (binaryOp .Mult) gMulI := OpD.ru op_mul (ru_I fun i j o e => by
  split at e
  · rename_i h
    exact ⟨.inl h, vI_inv e⟩
  · cases e)
def gFdiv : D → D → Option Out := gI fun i j => if 0 < j ∧ j < 1073741824 then vI (i / j) else none
theorem od_fdiv : OpD X (binaryOp .FloorDiv) gFdiv := OpD.ru op_fdiv (ru_I fun i j o e => by
  split at e
  · rename_i h
    exact ⟨h, vI_inv e⟩
  · cases e)
def gMod : D → D → Option Out := gI fun i j => if 0 < j then vI (i % j) else none
theorem od_mod : OpD X (binaryOp .Mod) gMod := OpD.ru op_mod (ru_I fun i j o e => by
  split at e
  · rename_i h
    exact ⟨h, vI_inv e⟩
  · cases e)
def gPow : D → D → Option Out := gI fun i j => if 0 ≤ j ∧ j ≤ 1000000 ∧ i.natAbs < 2 ^ 64 then vI (i ^ j.toNat) else none
theorem od_pow : OpD X (binaryOp .Pow) gPow := OpD.ru op_pow (ru_I fun i j o e => by
  split at e
  · rename_i h
    exact ⟨h, vI_inv e⟩
  · cases e)

/-! ### texts, tuples, lists: + -/
def gAddS : D → D → Option Out
  | .str x, .str y => if x.length + y.length ≤ sizeLine then some (.val (.str (x ++ y))) else none
  | _, _ => none
theorem od_addS : OpD X (binaryOp .Add) gAddS := OpD.ru op_add_str (by
  intro H B x y v w o Q hs r1 r2 e hq
  unfold gAddS at e
  split at e
  · split at e
    · rename_i hz
      cases e
      exact ⟨_, _, r1.str, r2.str, hz, hq _ _ ⟨rfl, .str _⟩⟩
    · cases e
  · cases e)
def gAddT : D → D → Option Out
  | .tuple xs, .tuple ys => if xs.length + ys.length ≤ sizeLine then some (.tup (xs ++ ys)) else none
  | _, _ => none
theorem od_addT : OpD X (binaryOp .Add) gAddT := OpD.ru op_catA (by
  intro H B x y v w o Q hs r1 r2 e hq
  unfold gAddT at e
  split at e
  · rename_i xs ys
    split at e
    · rename_i hz
      cases e
      have q1 := r1
      have q2 := r2
      obtain ⟨a, vs, rfl, h1, s1⟩ := r1.tuple hs
      obtain ⟨b, ws, rfl, h2, s2⟩ := r2.tuple hs
      have l1 := RDs.length _ _ s1
      have l2 := RDs.length _ _ s2
      have d1 : RD X.K B (.tuple xs) (.ref a) := q1.elim id fun ⟨_, _, _, z, _⟩ => nomatch z
      have d2 : RD X.K B (.tuple ys) (.ref b) := q2.elim id fun ⟨_, _, _, z, _⟩ => nomatch z
      refine ⟨a, b, vs, ws, rfl, rfl, h1, h2, by rw [l1, l2]; exact hz, fun z => hq _ _ (.inr ⟨rfl, ?_⟩), fun _ z => hq _ _ (.inr ⟨rfl, ?_⟩), fun _ _ p hp => hq _ _ (.inl ⟨p, _, rfl, hp, rfl, s1.append s2⟩)⟩
      · subst z
        cases s1
        exact d2
      · subst z
        cases s2
        rw [List.append_nil]
        exact d1
    · cases e
  · cases e)
/-- list + list, wherever they stand -/
def rCatL (K : PySem.W.Frag) : R2 := fun x y H Q => ∃ l b xs zs, x = .ref l ∧ y = .ref b ∧ SqL K H l xs ∧ SqL K H b zs ∧ xs.length + zs.length ≤ sizeLine ∧ ∀ p, H p = none → Q (.ref p) (upd H p (.lst (xs ++ zs)))
theorem op_catL : OpR X (binaryOp .Add) (rCatL X.K) := by
  intro pins s σ H x y v u Q I rx ry h
  obtain ⟨l, b, xs, zs, rfl, rfl, hH, hB, hz, q⟩ := h
  cases rx
  cases ry
  obtain ⟨its, r, pl, z⟩ := I.list hH
  obtain ⟨its2, r2, pl2, z2⟩ := I.list hB
  have hl := r.length
  have hl2 := r2.length
  obtain ⟨⟨cls, dd, data, sl⟩, ho, hc, n, hd⟩ := pl.isList
  obtain ⟨⟨cls2, dd2, data2, sl2⟩, ho2, hc2, n2, hd2⟩ := pl2.isList
  simp only at hc hd hc2 hd2
  subst hc hd hc2 hd2
  have e : its.toArray ++ its2.toArray = (its ++ its2).toArray := by simp
  refine concat_meets ⟨_, ho, rfl⟩ ⟨_, ho2, rfl⟩ noFill_list_add seq_list_add PySem.F.slot_list_add PySem.F.entry_list_add (PySem.F.args_list_add_2 _ _) (PyProof.Rows.list_addW l b its.toArray its2.toArray n n2 dd dd2 sl sl2 (by simp; omega)) ⟨ho, ho2, ?_⟩
  rw [e]
  exact ⟨.ref _, _, I.lnew (t' := s.toks) (r.append r2) (by rw [List.length_append]; omega), rfl, q _ I.fresh⟩
def gAddL : D → D → Option Out
  | .list xs, .list ys => if xs.length + ys.length ≤ sizeLine then some (.lst (xs ++ ys)) else none
  | _, _ => none
theorem od_addL : OpD X (binaryOp .Add) gAddL := OpD.ru op_catL (by
  intro H B x y v w o Q hs r1 r2 e hq
  unfold gAddL at e
  split at e
  · split at e
    · rename_i hz
      cases e
      obtain ⟨a, vs, rfl, h1, s1⟩ := r1.list hs
      obtain ⟨b, ws, rfl, h2, s2⟩ := r2.list hs
      exact ⟨a, b, vs, ws, rfl, rfl, h1, h2, by rw [RDs.length _ _ s1, RDs.length _ _ s2]; exact hz, fun p hp => hq _ _ ⟨p, _, rfl, hp, rfl, s1.append s2⟩⟩
    · cases e
  · cases e)
/-- + of whatever -/
def gAdd : D → D → Option Out
  | .int i, .int j => vI (i + j)
  | .str x, .str y => if x.length + y.length ≤ sizeLine then some (.val (.str (x ++ y))) else none
  | .tuple xs, .tuple ys => if xs.length + ys.length ≤ sizeLine then some (.tup (xs ++ ys)) else none
  | .list xs, .list ys => if xs.length + ys.length ≤ sizeLine then some (.lst (xs ++ ys)) else none
  | _, _ => none
theorem OpD.imp {f : Value → Value → Sem Value} {g g' : D → D → Option Out} (h : OpD X f g) (k : ∀ x y o, g' x y = some o → g x y = some o) : OpD X f g' :=
  fun pins s σ H B x y v w vv ww o I hs r1 r2 q1 q2 e => h pins s σ H B x y v w vv ww o I hs r1 r2 q1 q2 (k _ _ _ e)
theorem od_add : OpD X (binaryOp .Add) gAdd := (od_addI.or (od_addS.or (od_addT.or od_addL))).imp fun x y o e => by
  unfold gAdd at e
  split at e
  · exact e
  · simp only [gAddI, gI, gAddS, Option.none_or]; rw [e]; rfl
  · simp only [gAddI, gI, gAddS, gAddT, Option.none_or]; rw [e]; rfl
  · simp only [gAddI, gI, gAddS, gAddT, gAddL, Option.none_or]; rw [e]
  · cases e
def gMulL : D → D → Option Out
  | .list xs, .int k => if 0 ≤ k ∧ k < 2 ^ 63 ∧ xs.length * k.toNat ≤ sizeLine then some (.lst (List.replicate k.toNat xs).flatten) else none
  | _, _ => none

/-! ### ==, !=, in, not in -/
def gEq (x y : D) : Option Out := if okd x 60 = true ∧ okd y 60 = true then vB (PyData.eqv x y) else none
def gNe (x y : D) : Option Out := if okd x 60 = true ∧ okd y 60 = true then vB (!PyData.eqv x y) else none
theorem od_eq (hu : X.A.units + 64 < cLine) : OpD X (compareOp .Eq) gEq := OpD.ru (op_eqD hu) (by
  intro H B x y v w o Q hs r1 r2 e hq
  unfold gEq at e
  split at e
  · rename_i h
    cases e
    exact ⟨x, y, r1.dp hs (okd_noD _ _ h.1), r2.dp hs (okd_noD _ _ h.2), okd_shaped h.1, okd_shaped h.2, hq _ _ ⟨rfl, .bl _⟩⟩
  · cases e)
theorem od_ne (hu : X.A.units + 64 < cLine) : OpD X (compareOp .NotEq) gNe := OpD.ru (op_neD hu) (by
  intro H B x y v w o Q hs r1 r2 e hq
  unfold gNe at e
  split at e
  · rename_i h
    cases e
    exact ⟨x, y, r1.dp hs (okd_noD _ _ h.1), r2.dp hs (okd_noD _ _ h.2), okd_shaped h.1, okd_shaped h.2, hq _ _ ⟨rfl, .bl _⟩⟩
  · cases e)
def rInD2 (K : PySem.W.Frag) (neg : Bool) : R2 := fun x y H Q => ∃ d ds e, Dp K H x d ∧ Dp K H y e ∧ (e = .list ds ∨ e = .tuple ds) ∧ SeqAt.shaped d = true ∧ SeqAt.shaped e = true ∧ Q (.bl (xor neg (ds.any fun z => PyData.eqv z d))) H
theorem canAll_of {ds : List D} {e : D} (he : e = .list ds ∨ e = .tuple ds) (h : SeqAt.shaped e = true) : PyData.canLayAll0 ds = true := by
  have q := SeqAt.canLay_of_shaped h
  rcases he with rfl | rfl <;> simpa only [PyData.canLay0] using q
theorem room_in {A : Around} {n m : Nat} (h : m ≤ 64) (hu : A.units + 65 < cLine) : A.units + 1 + min n m < cLine := by
  have := Nat.min_le_right n m
  omega
theorem op_inD2 (hu : X.A.units + 65 < cLine) : OpR X (compareOp .In) (rInD2 X.K false) := by
  intro pins s σ H x y v u Q I rx ry h
  obtain ⟨d, ds, e, hd, he, hh, sd, se, q⟩ := h
  obtain ⟨as, r1⟩ := Dp.reads I d x v hd rx
  obtain ⟨bs, r2⟩ := Dp.reads I e y u he ry
  rw [Bool.false_xor] at q
  rcases hh with rfl | rfl
  · exact SeqAt.in_list_reads r2 r1 (canAll_of (.inl rfl) se) (SeqAt.canLay_of_shaped sd) (room_in (SeqAt.depth_of_shaped sd) hu) ⟨.bl _, H, I, rfl, q⟩
  · exact SeqAt.in_tuple_reads r2 r1 (canAll_of (.inr rfl) se) (SeqAt.canLay_of_shaped sd) (room_in (SeqAt.depth_of_shaped sd) hu) ⟨.bl _, H, I, rfl, q⟩
theorem op_notInD2 (hu : X.A.units + 65 < cLine) : OpR X (compareOp .NotIn) (rInD2 X.K true) := by
  intro pins s σ H x y v u Q I rx ry h
  obtain ⟨d, ds, e, hd, he, hh, sd, se, q⟩ := h
  obtain ⟨as, r1⟩ := Dp.reads I d x v hd rx
  obtain ⟨bs, r2⟩ := Dp.reads I e y u he ry
  rw [Bool.true_xor] at q
  rcases hh with rfl | rfl
  · exact SeqAt.notIn_list_reads r2 r1 (canAll_of (.inl rfl) se) (SeqAt.canLay_of_shaped sd) (room_in (SeqAt.depth_of_shaped sd) hu) ⟨.bl _, H, I, rfl, q⟩
  · exact SeqAt.notIn_tuple_reads r2 r1 (canAll_of (.inr rfl) se) (SeqAt.canLay_of_shaped sd) (room_in (SeqAt.depth_of_shaped sd) hu) ⟨.bl _, H, I, rfl, q⟩
def hasD (x : D) (ds : List D) : Bool := ds.any fun z => PyData.eqv z x
def gInX (neg : Bool) (x y : D) : Option Out := if okd x 60 = true ∧ okd y 60 = true then
    match y with
    | .list ds => vB (xor neg (hasD x ds))
    | .tuple ds => vB (xor neg (hasD x ds))
    | _ => none
  else none
theorem ru_in {K : PySem.W.Frag} {neg : Bool} : RuD K (rInD2 K neg) (gInX neg) := by
  intro H B x y v w o Q hs r1 r2 e hq
  unfold gInX at e
  split at e
  · rename_i h
    split at e
    · cases e
      exact ⟨x, _, _, r1.dp hs (okd_noD _ _ h.1), r2.dp hs (okd_noD _ _ h.2), .inl rfl, okd_shaped h.1, okd_shaped h.2, hq _ _ ⟨rfl, .bl _⟩⟩
    · cases e
      exact ⟨x, _, _, r1.dp hs (okd_noD _ _ h.1), r2.dp hs (okd_noD _ _ h.2), .inr rfl, okd_shaped h.1, okd_shaped h.2, hq _ _ ⟨rfl, .bl _⟩⟩
    · cases e
  · cases e
def gIn := gInX false
def gNotIn := gInX true
theorem od_in (hu : X.A.units + 65 < cLine) : OpD X (compareOp .In) gIn := OpD.ru (op_inD2 hu) ru_in
theorem od_notIn (hu : X.A.units + 65 < cLine) : OpD X (compareOp .NotIn) gNotIn := OpD.ru (op_notInD2 hu) ru_in
/-- one sign in a text -/
def gInS (neg : Bool) : D → D → Option Out
  | .str c, .str z => if c.cps.size = 1 then vB (xor neg (decide (c.cps.toList.headD 0 ∈ z.cps.toList))) else none
  | _, _ => none
theorem sign_of {c : Str} (h : c.cps.size = 1) : c = ⟨#[c.cps.toList.headD 0]⟩ := by
  obtain ⟨⟨l⟩⟩ := c
  match l, h with
  | [k], _ => rfl
theorem od_inS : OpD X (compareOp .In) (gInS false) := OpD.ru op_in_sign (by
  intro H B x y v w o Q hs r1 r2 e hq
  unfold gInS at e
  split at e
  · split at e
    · rename_i h
      cases e
      rw [Bool.false_xor] at hq
      exact ⟨_, _, by rw [r1.str]; exact congrArg V.str (sign_of h), r2.str, hq _ _ ⟨rfl, .bl _⟩⟩
    · cases e
  · cases e)
theorem od_notInS : OpD X (compareOp .NotIn) (gInS true) := OpD.ru op_notIn_sign (by
  intro H B x y v w o Q hs r1 r2 e hq
  unfold gInS at e
  split at e
  · split at e
    · rename_i h
      cases e
      rw [Bool.true_xor] at hq
      exact ⟨_, _, by rw [r1.str]; exact congrArg V.str (sign_of h), r2.str, hq _ _ ⟨rfl, .bl _⟩⟩
    · cases e
  · cases e)

/-! ### order -/
def gLt : D → D → Option Out
  | .int i, .int j => vB (decide (i < j))
  | .str x, .str y => vB (decide (x.cps.toList < y.cps.toList))
  | .tuple xs, .tuple ys => if okd (.tuple xs) 60 = true ∧ okd (.tuple ys) 60 = true ∧ PySem.W.alike (.tuple xs) (.tuple ys) = true then vB (PySem.W.dataLt (.tuple xs) (.tuple ys)) else none
  | _, _ => none
theorem od_ltT (hu : X.A.units + 64 < cLine) : OpD X (compareOp .Lt) fun x y => match x, y with
    | .tuple xs, .tuple ys => if okd (.tuple xs) 60 = true ∧ okd (.tuple ys) 60 = true ∧ PySem.W.alike (.tuple xs) (.tuple ys) = true then vB (PySem.W.dataLt (.tuple xs) (.tuple ys)) else none
    | _, _ => none := by
  intro pins s σ H B x y v w vv ww o I hs r1 r2 q1 q2 e
  dsimp only at e
  split at e
  · split at e
    · rename_i xs ys h
      cases e
      obtain ⟨as, s1⟩ := Dp.reads I _ v vv (r1.dp hs (okd_noD _ _ h.1)) q1
      obtain ⟨bs, s2⟩ := Dp.reads I _ w ww (r2.dp hs (okd_noD _ _ h.2.1)) q2
      have hd := okd_dep _ _ h.1
      have hm := Nat.min_le_left (PyData.depth (.tuple xs)) (PyData.depth (.tuple ys))
      exact PySem.W.lt_data s1 s2 h.2.2 (fun z => nomatch z) (by omega) ⟨.bl _, H, I, rfl, rfl, .bl _⟩
    · cases e
  · cases e
theorem od_ltI : OpD X (compareOp .Lt) (gI fun i j => vB (decide (i < j))) := OpD.ru op_lt (ru_I0 fun _ _ _ e => vB_inv e)
def gS (f : Str → Str → Option Out) : D → D → Option Out
  | .str i, .str j => f i j
  | _, _ => none
theorem ru_S {K : PySem.W.Frag} {g : Str → Str → Bool} : RuD K (fun x y H Q => ∃ i j, x = .str i ∧ y = .str j ∧ Q (.bl (g i j)) H) (gS fun i j => vB (g i j)) := by
  intro H B x y v w o Q hs r1 r2 e hq
  unfold gS at e
  split at e
  · cases e
    exact ⟨_, _, r1.str, r2.str, hq _ _ ⟨rfl, .bl _⟩⟩
  · cases e
theorem od_lt (hu : X.A.units + 64 < cLine) : OpD X (compareOp .Lt) gLt := (od_ltI.or ((OpD.ru op_lt_str (ru_S (g := fun i j => decide (i.cps.toList < j.cps.toList)))).or (od_ltT hu))).imp fun x y o e => by
  unfold gLt at e
  split at e
  · exact e
  · simp only [gI, gS, Option.none_or]; rw [e]; rfl
  · simp only [gI, gS, Option.none_or]; exact e
  · cases e
def gLe : D → D → Option Out
  | .int i, .int j => vB (decide (i ≤ j))
  | .str x, .str y => vB (!decide (y.cps.toList < x.cps.toList))
  | _, _ => none
theorem od_le : OpD X (compareOp .LtE) gLe := ((OpD.ru op_le (ru_I0 (f := fun i j => vB (decide (i ≤ j))) fun _ _ _ e => vB_inv e)).or (OpD.ru op_le_str (ru_S (g := fun i j => !decide (j.cps.toList < i.cps.toList))))).imp fun x y o e => by
  unfold gLe at e
  split at e
  · exact e
  · simp only [gI, gS, Option.none_or]; exact e
  · cases e
def gGt : D → D → Option Out := gI fun i j => vB (decide (j < i))
theorem od_gt : OpD X (compareOp .Gt) gGt := OpD.ru op_gt (ru_I0 fun _ _ _ e => vB_inv e)
def gGe : D → D → Option Out := gI fun i j => vB (decide (j ≤ i))
theorem od_ge : OpD X (compareOp .GtE) gGe := OpD.ru op_ge (ru_I0 fun _ _ _ e => vB_inv e)
end

section
variable {X : Cx} {cl : String → Addr} {E : XK} {a b c e : Expr} {ma mb mc m : M Rv} {pos : Pos}
/-! ### is None, minus, chains -/
def isNoneR (r : Rv) : Bool := match r with
  | .d .none => true
  | _ => false
def mIsN (neg : Bool) (m : M Rv) : M Rv := bnd (vm m) fun r => match r with
  | .d x => ret (.d (.bool (xor neg (isNoneR (.d x)))))
  | _ => stk
theorem RD.non_iff {K : PySem.W.Frag} {B : Hp} {x : D} {v : V} (r : RD K B x v) : decide (v = .non) = isNoneR (.d x) := by
  cases r <;> rfl
theorem tM_v {k : Rv → M Rv} {σ : L2.St} {H : Hp} {Q : VK} {R : VK} (h : tM X.K cl E (bnd (vm m) k) σ H Q)
    (hk : ∀ r v H1 P B env fps, Fm X.K P B H1 σ env fps → RvS X.K B σ r v → PostE X.K cl E P B σ (k r env) Q → R v H1) : tM X.K cl E m σ H R := by
  obtain ⟨P, B, env, fps, F, h⟩ := h
  refine ⟨P, B, env, fps, F, ?_⟩
  have h2 := post_vm h
  cases q : m env with
  | ok r env1 =>
    rw [q] at h2
    intro v H1 B1 fps1 x F1 r1
    obtain ⟨B2, env2, fps2, r2, x2, F2, s2, h3⟩ := h2 v H1 B1 fps1 x F1 r1
    exact hk r2 v H1 P B2 env2 fps2 F2 s2 h3
  | ex c env1 => rw [q] at h2; exact h2
  | stuck => rw [q] at h2; exact h2.elim
theorem de_isN {j pos'} (ha : DE X cl E a ma) : DE X cl E (.Compare a [.Is] [.Constant .none j pos'] pos) (mIsN false ma) := by
  refine ⟨fun pins s σ H Q I h => (pe_cmp (pc_isN (j := j) (pos' := pos') ha)).run pins s σ H Q I ?_⟩
  refine tM_v h fun r v H1 P B env fps F s2 h2 => ?_
  split at h2
  · have z := RD.non_iff (show RD X.K B _ v from s2)
    show Q (.bl (decide (v = .non))) H1
    rw [z]
    exact ret_d F (by rw [Bool.false_xor]; exact .bl _) h2
  · exact h2.elim
theorem de_notN {j pos'} (ha : DE X cl E a ma) : DE X cl E (.Compare a [.IsNot] [.Constant .none j pos'] pos) (mIsN true ma) := by
  refine ⟨fun pins s σ H Q I h => (pe_cmp (pc_notN (j := j) (pos' := pos') ha)).run pins s σ H Q I ?_⟩
  refine tM_v h fun r v H1 P B env fps F s2 h2 => ?_
  split at h2
  · have z := RD.non_iff (show RD X.K B _ v from s2)
    show Q (.bl (!decide (v = .non))) H1
    rw [z]
    exact ret_d F (by rw [Bool.true_xor]; exact .bl _) h2
  · exact h2.elim
def mNeg (m : M Rv) : M Rv := bnd (vm m) fun r => match r with
  | .d (.int i) => ret (.d (.int (-i)))
  | _ => stk
theorem de_neg (ha : DE X cl E a ma) : DE X cl E (.UnaryOp .USub a pos) (mNeg ma) := by
  refine ⟨fun pins s σ H Q I h => (pe_un un_neg ha).run pins s σ H Q I ?_⟩
  refine tM_v h fun r v H1 P B env fps F s2 h2 => ?_
  split at h2
  · cases (show RD X.K B (.int _) v from s2)
    exact ⟨_, rfl, ret_d F (.int _) h2⟩
  · exact h2.elim
/-- a op b op' c -/
def mChain (g g' : D → D → Option Out) (ma mb mc : M Rv) : M Rv := bnd (vm ma) fun r1 => bnd (vm mb) fun r2 env => match res env r1, res env r2 with
  | some x, some y => match g x y with
    | some (.val (.bool true)) => bnd (vm mc) (fun r3 env => match res env r2, res env r3 with
      | some y, some z => match g' y z with
        | some (.val d) => .ok (.d d) env
        | _ => .stuck
      | _, _ => .stuck) env
    | some (.val (.bool false)) => .ok (.d (.bool false)) env
    | _ => .stuck
  | _, _ => .stuck
theorem de_chain {op op' : CmpOp} {g g' : D → D → Option Out} {r r' : R2} (ha : DE X cl E a ma) (hb : DE X cl E b mb) (hc : DE X cl E c mc) (ho : OpR X (compareOp op) r) (ho' : OpR X (compareOp op') r') (hr : RuD X.K r g) (hr' : RuD X.K r' g')
    (hpe : PE X (.Compare a [op, op'] [b, c] pos) (tChain r r' (tM X.K cl E ma) (tM X.K cl E mb) (tM X.K cl E mc))) : DE X cl E (.Compare a [op, op'] [b, c] pos) (mChain g g' ma mb mc) := by
  refine ⟨fun pins s σ H Q I ⟨P, B, env, fps, F, h⟩ => hpe.run pins s σ H Q I ?_⟩
  have h1 := post_vm h
  refine ⟨P, B, env, fps, F, ?_⟩
  cases q : ma env with
  | ok r1 env1 =>
    rw [q] at h1
    intro v H1 B1 fps1 x F1 rr
    obtain ⟨B2, env2, fps2, r2, x2, F2, w2, h2⟩ := h1 v H1 B1 fps1 x F1 rr
    have h3 := post_vm h2
    refine ⟨P, B2, env2, fps2, F2, ?_⟩
    cases q3 : mb env2 with
    | ok r3 env3 =>
      rw [q3] at h3
      intro w H3 B3 fps3 x3 F3 rr3
      obtain ⟨B4, env4, fps4, r4, x4, F4, w4, h4⟩ := h3 w H3 B3 fps3 x3 F3 rr3
      split at h4
      · rename_i dx dy e1 e2
        split at h4
        · rename_i eo
          refine hr H3 B4 dx dy v w _ _ F4.sub (F4.res (w2.mono x4.1) e1) (F4.res w4 e2) eo fun v' H' ho => ?_
          obtain ⟨rfl, hv⟩ := ho
          cases hv
          refine ⟨true, rfl, ?_⟩
          rw [if_pos rfl]
          have h5 := post_vm h4
          refine ⟨P, B4, env4, fps4, F4, ?_⟩
          cases q5 : mc env4 with
          | ok r5 env5 =>
            rw [q5] at h5
            intro u H5 B5 fps5 x5 F5 rr5
            obtain ⟨B6, env6, fps6, r6, x6, F6, w6, h6⟩ := h5 u H5 B5 fps5 x5 F5 rr5
            split at h6
            · rename_i dy' dz e3 e4
              split at h6
              · rename_i d eo'
                refine hr' H5 B6 dy' dz w u _ _ F6.sub (F6.res (w4.mono x6.1) e3) (F6.res w6 e4) eo' fun v' H' ho => ?_
                obtain ⟨rfl, hv⟩ := ho
                exact h6 v' H' B6 fps6 Ext.refl F6 hv
              · exact h6.elim
            · exact h6.elim
          | ex c env5 => rw [q5] at h5; exact h5
          | stuck => rw [q5] at h5; exact h5.elim
        · rename_i eo
          refine hr H3 B4 dx dy v w _ _ F4.sub (F4.res (w2.mono x4.1) e1) (F4.res w4 e2) eo fun v' H' ho => ?_
          obtain ⟨rfl, hv⟩ := ho
          cases hv
          refine ⟨false, rfl, ?_⟩
          rw [if_neg Bool.false_ne_true]
          exact h4 _ H' B4 fps4 Ext.refl F4 (.bl false)
        · exact h4.elim
      · exact h4.elim
    | ex c env3 => rw [q3] at h3; exact h3
    | stuck => rw [q3] at h3; exact h3.elim
  | ex c env1 => rw [q] at h1; exact h1
  | stuck => rw [q] at h1; exact h1.elim
end
end Mi

set_option Elab.async false
set_option linter.all false
set_option maxRecDepth 100000
namespace Mi
open PySem PySem.Spec L2

section
variable {X : Cx} {cl : String → Addr} {E : XK} {a b c e : Expr} {ma mb mc m : M Rv} {ms : M (List Rv)} {pos : Pos} {es : List Expr} {n : Nat}

/-! ### slices -/
def tMO (K : PySem.W.Frag) (cl : String → Addr) (E : XK) (m : M (Option Int)) : TO := fun σ H Q => ∃ P B env fps, Fm K P B H σ env fps ∧ PostX K cl E P B σ (m env) fun o H' _ _ _ => Q o H'
def DO (X : Cx) (cl : String → Addr) (E : XK) (e : Option Expr) (m : M (Option Int)) : Prop := PO X e (tMO X.K cl E m)
def mNo : M (Option Int) := ret none
def mSo (m : M Rv) : M (Option Int) := bnd (vm m) fun r => match r with
  | .d (.int i) => ret (some i)
  | _ => stk
theorem do_none : DO X cl E none mNo := ⟨fun pins s σ H Q I ⟨P, B, env, fps, F, h⟩ => po_none.run pins s σ H Q I (h H B fps Ext.refl F)⟩
theorem do_some (h : DE X cl E e m) : DO X cl E (some e) (mSo m) := by
  refine ⟨fun pins s σ H Q I ⟨P, B, env, fps, F, q⟩ => (po_some h).run pins s σ H Q I ?_⟩
  refine ⟨P, B, env, fps, F, ?_⟩
  have h1 := postX_vm q
  cases z : m env with
  | ok r env1 =>
    rw [z] at h1
    intro v H1 B1 fps1 x F1 r1
    obtain ⟨B2, env2, fps2, r2, x2, F2, s2, h2⟩ := h1 v H1 B1 fps1 x F1 r1
    split at h2
    · cases (show RD X.K B2 (.int _) v from s2)
      exact ⟨_, rfl, h2 H1 B2 fps2 Ext.refl F2⟩
    · exact h2.elim
  | ex c env1 => rw [z] at h1; exact h1
  | stuck => rw [z] at h1; exact h1.elim
def cutL {α : Type} (xs : List α) (lo hi : Option Int) : List α := (xs.drop (HT.sIx xs.length 0 lo)).take (HT.sIx xs.length xs.length hi - HT.sIx xs.length 0 lo)
def gCut : D → Option Int → Option Int → Option Out
  | .list ds, lo, hi => some (.lst (cutL ds lo hi))
  | .tuple ds, lo, hi => some (.tup (cutL ds lo hi))
  | .str z, lo, hi => if z.length ≤ sizeLine then some (.val (.str (cutS z lo hi))) else none
  | _, _, _ => none
def rSl3 (K : PySem.W.Frag) : V → Option Int → Option Int → Hp → VK → Prop := fun x lo hi H Q => rSlL K x lo hi H Q ∨ rSlA K x lo hi H Q ∨ rSlS x lo hi H Q
theorem sl_3 : SlR X (rSl3 X.K) := sl_list.or (sl_tupA.or sl_str)
theorem RDs.cut {K : PySem.W.Frag} {B : Hp} {ds : List D} {vs : List V} (r : RDs K B ds vs) (lo hi : Option Int) : RDs K B (cutL ds lo hi) (cutV vs lo hi) := by
  unfold cutL cutV
  rw [RDs.length _ _ r]
  exact (r.drop _).take _
theorem ru_cut {K : PySem.W.Frag} {H B : Hp} {x : D} {v : V} {lo hi : Option Int} {o : Out} {Q : VK} (hs : Sub B H) (r1 : Rd1 K B H x v) (e : gCut x lo hi = some o) (hq : ∀ v' H', OutR K B H o v' H' → Q v' H') : rSl3 K v lo hi H Q := by
  unfold gCut at e
  split at e
  · cases e
    obtain ⟨a, vs, rfl, h1, r⟩ := r1.list hs
    exact .inl ⟨a, vs, rfl, h1, fun p hp => hq _ _ ⟨p, _, rfl, hp, rfl, r.cut _ _⟩⟩
  · cases e
    have d1 := r1
    obtain ⟨a, vs, rfl, h1, r⟩ := r1.tuple hs
    refine .inr (.inl ⟨a, vs, rfl, h1, fun hw => hq _ _ (.inr ⟨rfl, ?_⟩), fun _ p hp => hq _ _ (.inl ⟨p, _, rfl, hp, rfl, r.cut _ _⟩)⟩)
    have hl := RDs.length _ _ r
    unfold cutL
    rw [← hl, hw.1, hw.2, List.drop_zero, Nat.sub_zero, hl, List.take_length]
    exact d1.elim id fun ⟨_, _, _, z, _⟩ => nomatch z
  · split at e
    · rename_i hz
      cases e
      cases r1.str
      exact .inr (.inr ⟨_, rfl, hz, hq _ _ ⟨rfl, .str _⟩⟩)
    · cases e
  · cases e
def mSl (m : M Rv) (lo hi : M (Option Int)) : M Rv := bnd (vm m) fun r => bnd lo fun l => bnd hi fun u env => match res env r with
  | some x => match gCut x l u with
    | some o => .ok o.rv env
    | none => .stuck
  | none => .stuck
theorem de_slice {lo hi : Option Expr} {ml mh : M (Option Int)} {p2 : Pos} (he : DE X cl E e m) (hl : DO X cl E lo ml) (hu : DO X cl E hi mh) : DE X cl E (.Subscript e (.Slice lo hi none p2) pos) (mSl m ml mh) := by
  refine ⟨fun pins s σ H Q I ⟨P, B, env, fps, F, h⟩ => (pe_slice sl_3 he hl hu).run pins s σ H Q I ?_⟩
  have h1 := post_vm h
  refine ⟨P, B, env, fps, F, ?_⟩
  cases q : m env with
  | ok r1 env1 =>
    rw [q] at h1
    intro v H1 B1 fps1 x F1 rr
    obtain ⟨B2, env2, fps2, r2, x2, F2, w2, h2⟩ := h1 v H1 B1 fps1 x F1 rr
    refine ⟨P, B2, env2, fps2, F2, (postE_bnd h2).mono fun l H3 B3 fps3 env3 x3 F3 h3 => ?_⟩
    refine ⟨P, B3, env3, fps3, F3, (postE_bnd h3).mono fun u H4 B4 fps4 env4 x4 F4 h4 => ?_⟩
    split at h4
    · rename_i dx e1
      split at h4
      · rename_i o eo
        exact ru_cut F4.sub (F4.res (w2.mono (x3.trans x4).1) e1) eo fun v' H' ho => ho.post F4 h4
      · exact h4.elim
    · exact h4.elim
  | ex c env1 => rw [q] at h1; exact h1
  | stuck => rw [q] at h1; exact h1.elim

/-! ### built-in calls -/
def resAll (env : Env) : List Rv → Option (List D)
  | [] => some []
  | r :: rs => match res env r, resAll env rs with
    | some d, some ds => some (d :: ds)
    | _, _ => none
theorem Fm.resAll {K : PySem.W.Frag} {P B H : Hp} {σ : L2.St} {env : Env} {fps : Nat → List Addr} (F : Fm K P B H σ env fps) : ∀ {rs : List Rv} {vs : List V} {xs : List D}, Paired (RvS K B σ) rs vs → Mi.resAll env rs = some xs → Paired (Rd1 K B H) xs vs
  | _, _, _, .nil, e => by cases e; exact .nil
  | r :: rs, v :: vs, xs, .cons s t, e => by
    unfold Mi.resAll at e
    split at e
    · rename_i d ds e1 e2
      cases e
      exact .cons (F.res s e1) (F.resAll t e2)
    · cases e
def mCB (g : List D → Option Out) (ms : M (List Rv)) : M Rv := bnd ms fun rs env => match resAll env rs with
  | some xs => match g xs with
    | some o => .ok o.rv env
    | none => .stuck
  | none => .stuck
/-- the layer's reading of a call serves g -/
def RuL (K : PySem.W.Frag) (r : List V → Hp → VK → Prop) (g : List D → Option Out) : Prop :=
  ∀ (H B : Hp) (xs : List D) (vs : List V) (o : Out) (Q : VK), Sub B H → Paired (Rd1 K B H) xs vs → g xs = some o → (∀ v' H', OutR K B H o v' H' → Q v' H') → r vs H Q
theorem tCB_of {r : List V → Hp → VK → Prop} {g : List D → Option Out} (hr : RuL X.K r g) {σ : L2.St} {H : Hp} {Q : VK} (h : tM X.K cl E (mCB g ms) σ H Q) : tCB r (tMA X.K cl E ms) σ H Q := by
  obtain ⟨P, B, env, fps, F, h⟩ := h
  refine ⟨P, B, env, fps, F, (postE_bnd h).mono fun rs H1 B1 fps1 env1 x F1 h1 vs hv => ?_⟩
  split at h1
  · rename_i xs e1
    split at h1
    · rename_i o eo
      exact hr H1 B1 xs vs o Q F1.sub (F1.resAll hv e1) eo fun v' H' ho => ho.post F1 h1
    · exact h1.elim
  · exact h1.elim
theorem de_callB {x : Str} {p : Pos} {id : String} {r : List V → Hp → VK → Prop} {g : List D → Option Out} (hc : CallR X (.builtin id) r) (hr : RuL X.K r g) (hg : Gl X x) (hm : X.mg x = none) (hv : bootBuiltins x = some (.builtin id)) (ha : DA X cl E (e :: es) ms)
    (hn : x ≠ "__name__" := by decide) (hdb : (x == ("__debug__" : Str)) = false := by decide)
    (he : starEach (e :: es) X.env = (false, eval e X.env) :: starEach es X.env := by rfl) (hpl : (backTo pos (starEach es X.env)).any (·.1) = false := by rfl) : DE X cl E (.Call (.Name x p) (e :: es) [] pos) (mCB g ms) :=
  ⟨fun pins s σ H Q I h => (pe_callB hc hg hm hv ha hn hdb he hpl).run pins s σ H Q I (tCB_of hr h)⟩
theorem de_callTy {x : Str} {p : Pos} {T : String} {r : List V → Hp → VK → Prop} {g : List D → Option Out} (hc : CallR X (.type T) r) (hr : RuL X.K r g) (hg : Gl X x) (hm : X.mg x = none) (hv : bootBuiltins x = some (.type T)) (ha : DA X cl E (e :: es) ms)
    (hn : x ≠ "__name__" := by decide) (hdb : (x == ("__debug__" : Str)) = false := by decide)
    (he : starEach (e :: es) X.env = (false, eval e X.env) :: starEach es X.env := by rfl) (hpl : (backTo pos (starEach es X.env)).any (·.1) = false := by rfl) : DE X cl E (.Call (.Name x p) (e :: es) [] pos) (mCB g ms) :=
  ⟨fun pins s σ H Q I h => (pe_callTy hc hg hm hv ha hn hdb he hpl).run pins s σ H Q I (tCB_of hr h)⟩

theorem paired1 {α β : Type} {R : α → β → Prop} {x : α} {vs : List β} (h : Paired R [x] vs) : ∃ v, vs = [v] ∧ R x v := by
  cases h with
  | cons r t => cases t; exact ⟨_, rfl, r⟩
theorem paired2 {α β : Type} {R : α → β → Prop} {x y : α} {vs : List β} (h : Paired R [x, y] vs) : ∃ v w, vs = [v, w] ∧ R x v ∧ R y w := by
  cases h with
  | cons r t =>
    cases t with
    | cons r2 t => cases t; exact ⟨_, _, rfl, r, r2⟩
def gLen : List D → Option Out
  | [.list ds] => vI ds.length
  | [.tuple ds] => vI ds.length
  | [.str z] => if z.length ≤ sizeLine then vI z.length else none
  | _ => none
theorem ru_len {K : PySem.W.Frag} : RuL K (fun xs H Q => ∃ x n, xs = [x] ∧ LenV K x H n ∧ Q (.int n) H) gLen := by
  intro H B xs vs o Q hs hp e hq
  unfold gLen at e
  split at e
  · obtain ⟨v, rfl, r1⟩ := paired1 hp
    cases e
    obtain ⟨a, ws, rfl, h1, r⟩ := r1.list hs
    exact ⟨_, _, rfl, .inl ⟨ws, h1, rfl⟩, by rw [RDs.length _ _ r]; exact hq _ _ ⟨rfl, .int _⟩⟩
  · obtain ⟨v, rfl, r1⟩ := paired1 hp
    cases e
    obtain ⟨a, ws, rfl, h1, r⟩ := r1.tuple hs
    exact ⟨_, _, rfl, .inr ⟨ws, h1, rfl⟩, by rw [RDs.length _ _ r]; exact hq _ _ ⟨rfl, .int _⟩⟩
  · split at e
    · rename_i hz
      obtain ⟨v, rfl, r1⟩ := paired1 hp
      cases e
      cases r1.str
      exact ⟨_, _, rfl, ⟨hz, rfl⟩, hq _ _ ⟨rfl, .int _⟩⟩
    · cases e
  · cases e
def gTuple : List D → Option Out
  | [.list ds] => some (.tup ds)
  | [.tuple ds] => some (.tup ds)
  | _ => none
theorem ru_tuple {K : PySem.W.Frag} : RuL K (fun xs H Q => ∃ p ys, xs = [.ref p] ∧ ((SqL K H p ys ∧ ∀ l, H l = none → Q (.ref l) (upd H l (.tup ys))) ∨ (SqT K H p ys ∧ Q (.ref p) H))) gTuple := by
  intro H B xs vs o Q hs hp e hq
  unfold gTuple at e
  split at e
  · obtain ⟨v, rfl, r1⟩ := paired1 hp
    cases e
    obtain ⟨a, ws, rfl, h1, r⟩ := r1.list hs
    exact ⟨_, _, rfl, .inl ⟨h1, fun l hl => hq _ _ (.inl ⟨l, _, rfl, hl, rfl, r⟩)⟩⟩
  · obtain ⟨v, rfl, r1⟩ := paired1 hp
    cases e
    have d1 := r1
    obtain ⟨a, ws, rfl, h1, r⟩ := r1.tuple hs
    exact ⟨_, _, rfl, .inr ⟨h1, hq _ _ (.inr ⟨rfl, d1.elim id fun ⟨_, _, _, z, _⟩ => nomatch z⟩)⟩⟩
  · cases e
def gList : List D → Option Out
  | [.list ds] => some (.lst ds)
  | [.tuple ds] => some (.lst ds)
  | _ => none
theorem ru_list {K : PySem.W.Frag} : RuL K (fun xs H Q => ∃ p ys, xs = [.ref p] ∧ (SqL K H p ys ∨ SqT K H p ys) ∧ ∀ l, H l = none → Q (.ref l) (upd H l (.lst ys))) gList := by
  intro H B xs vs o Q hs hp e hq
  unfold gList at e
  split at e
  · obtain ⟨v, rfl, r1⟩ := paired1 hp
    cases e
    obtain ⟨a, ws, rfl, h1, r⟩ := r1.list hs
    exact ⟨_, _, rfl, .inl h1, fun l hl => hq _ _ ⟨l, _, rfl, hl, rfl, r⟩⟩
  · obtain ⟨v, rfl, r1⟩ := paired1 hp
    cases e
    obtain ⟨a, ws, rfl, h1, r⟩ := r1.tuple hs
    exact ⟨_, _, rfl, .inr h1, fun l hl => hq _ _ ⟨l, _, rfl, hl, rfl, r⟩⟩
  · cases e
def gInt : List D → Option Out
  | [.int i] => vI i
  | [.bool b] => vI (if b = true then 1 else 0)
  | _ => none
theorem ru_int {K : PySem.W.Frag} : RuL K (fun xs H Q => (∃ i, xs = [.int i] ∧ Q (.int i) H) ∨ ∃ k, xs = [.bl k] ∧ Q (.int (if k then 1 else 0)) H) gInt := by
  intro H B xs vs o Q hs hp e hq
  unfold gInt at e
  split at e
  · obtain ⟨v, rfl, r1⟩ := paired1 hp
    cases e
    cases r1.int
    exact .inl ⟨_, rfl, hq _ _ ⟨rfl, .int _⟩⟩
  · obtain ⟨v, rfl, r1⟩ := paired1 hp
    cases e
    cases r1.bool
    exact .inr ⟨_, rfl, hq _ _ ⟨rfl, .int _⟩⟩
  · cases e
def gMax2 : List D → Option Out
  | [.int i, .int j] => vI (if j > i then j else i)
  | _ => none
theorem ru_max2 {K : PySem.W.Frag} : RuL K (fun xs H Q => ∃ i j, xs = [.int i, .int j] ∧ Q (.int (if j > i then j else i)) H) gMax2 := by
  intro H B xs vs o Q hs hp e hq
  unfold gMax2 at e
  split at e
  · obtain ⟨v, w, rfl, r1, r2⟩ := paired2 hp
    cases e
    cases r1.int
    cases r2.int
    exact ⟨_, _, rfl, hq _ _ ⟨rfl, .int _⟩⟩
  · cases e
def gMin2 : List D → Option Out
  | [.int i, .int j] => vI (if j < i then j else i)
  | _ => none
theorem ru_min2 {K : PySem.W.Frag} : RuL K (fun xs H Q => ∃ i j, xs = [.int i, .int j] ∧ Q (.int (if j < i then j else i)) H) gMin2 := by
  intro H B xs vs o Q hs hp e hq
  unfold gMin2 at e
  split at e
  · obtain ⟨v, w, rfl, r1, r2⟩ := paired2 hp
    cases e
    cases r1.int
    cases r2.int
    exact ⟨_, _, rfl, hq _ _ ⟨rfl, .int _⟩⟩
  · cases e
/-- all items are ints, bools -/
def intsD : List D → Option (List Int)
  | [] => some []
  | .int i :: r => (intsD r).map (i :: ·)
  | _ :: _ => none
def boolsD : List D → Option (List Bool)
  | [] => some []
  | .bool i :: r => (boolsD r).map (i :: ·)
  | _ :: _ => none
theorem intsD_vals {K : PySem.W.Frag} {B : Hp} : ∀ {ds : List D} {vs : List V} {ns : List Int}, RDs K B ds vs → intsD ds = some ns → vs = ns.map V.int
  | _, _, _, .nil, e => by cases e; rfl
  | d :: ds, _, ns, .cons r t, e => by
    unfold intsD at e
    cases r with
    | int i =>
      obtain ⟨ns', e1, rfl⟩ := Option.map_eq_some_iff.mp e
      rw [intsD_vals t e1]
      rfl
    | _ => cases e
theorem boolsD_vals {K : PySem.W.Frag} {B : Hp} : ∀ {ds : List D} {vs : List V} {ns : List Bool}, RDs K B ds vs → boolsD ds = some ns → vs = ns.map V.bl
  | _, _, _, .nil, e => by cases e; rfl
  | d :: ds, _, ns, .cons r t, e => by
    unfold boolsD at e
    cases r with
    | bl i =>
      obtain ⟨ns', e1, rfl⟩ := Option.map_eq_some_iff.mp e
      rw [boolsD_vals t e1]
      rfl
    | _ => cases e
def gSum : List D → Option Out
  | [.list ds] => (intsD ds).bind fun ns => vI ns.sum
  | _ => none
theorem ru_sum {K : PySem.W.Frag} : RuL K (rSum K) gSum := by
  intro H B xs vs o Q hs hp e hq
  unfold gSum at e
  split at e
  · obtain ⟨v, rfl, r1⟩ := paired1 hp
    obtain ⟨ns, e1, e2⟩ := Option.bind_eq_some_iff.mp e
    cases e2
    obtain ⟨a, ws, rfl, h1, r⟩ := r1.list hs
    rw [intsD_vals r e1] at h1
    exact ⟨_, _, rfl, h1, hq _ _ ⟨rfl, .int _⟩⟩
  · cases e
def gAll : List D → Option Out
  | [.list ds] => (boolsD ds).bind fun ns => vB (ns.all id)
  | _ => none
theorem ru_all {K : PySem.W.Frag} : RuL K (rAll K) gAll := by
  intro H B xs vs o Q hs hp e hq
  unfold gAll at e
  split at e
  · obtain ⟨v, rfl, r1⟩ := paired1 hp
    obtain ⟨ns, e1, e2⟩ := Option.bind_eq_some_iff.mp e
    cases e2
    obtain ⟨a, ws, rfl, h1, r⟩ := r1.list hs
    rw [boolsD_vals r e1] at h1
    exact ⟨_, _, rfl, h1, hq _ _ ⟨rfl, .bl _⟩⟩
  · cases e
def gAny : List D → Option Out
  | [.list ds] => (boolsD ds).bind fun ns => vB (ns.any id)
  | _ => none
theorem ru_any {K : PySem.W.Frag} : RuL K (rAny K) gAny := by
  intro H B xs vs o Q hs hp e hq
  unfold gAny at e
  split at e
  · obtain ⟨v, rfl, r1⟩ := paired1 hp
    obtain ⟨ns, e1, e2⟩ := Option.bind_eq_some_iff.mp e
    cases e2
    obtain ⟨a, ws, rfl, h1, r⟩ := r1.list hs
    rw [boolsD_vals r e1] at h1
    exact ⟨_, _, rfl, h1, hq _ _ ⟨rfl, .bl _⟩⟩
  · cases e

/-! ### isinstance -/
def tyD : D → String
  | .none => "NoneType" | .bool _ => "bool" | .int _ => "int" | .str _ => "str" | .list _ => "list" | .tuple _ => "tuple" | .dict _ => "dict"
def isiD (T : String) (x : D) : Bool := tyD x == T || (T == "int" && tyD x == "bool")
theorem RD.ty {K : PySem.W.Frag} {H : Hp} {x : D} {v : V} (r : RD K H x v) : TyX K H v (.type (tyD x)) := by
  cases r with
  | non => exact .base .non
  | bl b => exact .base (.bl b)
  | int i => exact .base (.int i)
  | str s => exact .base (.str s)
  | lst h _ =>
    rcases h with (h | ⟨o, h⟩) | ⟨o, its, n, h1, h2, _⟩
    · exact .base (.lst h)
    · exact .base (.frz h)
    · exact .kList h1 h2
  | tup h _ =>
    rcases h with (h | ⟨o, h⟩) | ⟨o, its, n, h1, h2, _⟩
    · exact .base (.tup h)
    · exact .fTuple h
    · exact .kTuple h1 h2
  | dct h => exact .base (.dK h)
theorem kit_all (K : PySem.W.Frag) : ∀ t ∈ ["NoneType", "bool", "int", "str", "list", "tuple", "dict"], ∀ T ∈ ["bool", "int", "str", "list", "tuple", "dict"], PySem.W.kitOne K (.type t) (.type T) = some (t == T || (T == "int" && t == "bool")) := by
  intro t ht T hT
  simp only [List.mem_cons, List.not_mem_nil, or_false] at ht hT
  rcases ht with rfl | rfl | rfl | rfl | rfl | rfl | rfl <;> rcases hT with rfl | rfl | rfl | rfl | rfl | rfl <;> (first | rfl | decide +kernel | exact kit_ty (by decide +kernel))
end
end Mi

set_option Elab.async false
set_option linter.all false
set_option maxRecDepth 100000
namespace Mi
open PySem PySem.Spec L2

section
variable {X : Cx} {cl : String → Addr} {E : XK} {a b c e : Expr} {ma mb mc m : M Rv} {ms : M (List Rv)} {pos : Pos} {es : List Expr} {n : Nat}

/-! ### isinstance with a built-in type -/
def mIsi (T : String) (m : M Rv) : M Rv := bnd (vm m) fun r env => match res env r with
  | some x => .ok (.d (.bool (isiD T x))) env
  | none => .stuck
theorem de_isi {T : String} {Tn : Str} {p p2 : Pos} (hT : T ∈ ["bool", "int", "str", "list", "tuple", "dict"]) (hg : Gl X "isinstance") (hm : X.mg "isinstance" = none) (hg2 : Gl X Tn) (hm2 : X.mg Tn = none) (hv2 : bootBuiltins Tn = some (.type T)) (ha : DE X cl E a ma)
    (hv : bootBuiltins "isinstance" = some (.builtin "isinstance") := by decide +kernel)
    (hn2 : Tn ≠ "__name__" := by decide) (hd2 : (Tn == ("__debug__" : Str)) = false := by decide)
    (he : starEach (a :: [.Name Tn p2]) X.env = (false, eval a X.env) :: starEach [.Name Tn p2] X.env := by rfl) (hpl : (backTo pos (starEach [.Name Tn p2] X.env)).any (·.1) = false := by rfl) :
    DE X cl E (.Call (.Name "isinstance" p) [a, .Name Tn p2] [] pos) (mIsi T ma) := by
  refine ⟨fun pins s σ H Q I h => (pe_callB call_isi hg hm hv (pa_cons ha (pa_cons (pe_bltn hg2 hm2 hv2 (v := .ty T) rfl hn2 hd2) pa_nil (by rfl)) he) (by decide) (by decide) he hpl).run pins s σ H Q I ?_⟩
  refine tM_v h fun r v H1 P B env fps F s2 h2 => ?_
  refine ⟨v, .ty T, .type (tyD ((res env r).getD .none)), .type T, isiD T ((res env r).getD .none), rfl, .ty T, ?_, ?_, ?_⟩
  · split at h2
    · rename_i x e1
      rw [e1]
      exact RD.ty ((F.res s2 e1).rd F.sub)
    · exact h2.elim
  · exact kit_all X.K _ (by cases (res env r).getD .none <;> simp [tyD]) T hT
  · split at h2
    · rename_i x e1
      rw [e1]
      exact h2 _ H1 B fps Ext.refl F (.bl _)
    · exact h2.elim
end

/-! ### calls of defs -/
/-- what a callee's parameter k gets: its own thing where it may change it, else data -/
def argO (io : List Nat) (env : Env) (k : Nat) : Rv → Option O
  | .d x => some (.dat x)
  | .pl j => match env[j]? with
    | some (some (.lst ds)) => if io.contains k = true then some (.lst ds) else some (.dat (.list ds))
    | some (some (.dct kv)) => if io.contains k = true then some (.dct kv) else none
    | _ => none
  | .own _ => none
def argOs (io : List Nat) (env : Env) : Nat → List Rv → Option Env
  | _, [] => some []
  | k, r :: rs => match argO io env k r, argOs io env (k + 1) rs with
    | some o, some os => some (some o :: os)
    | _, _ => none
/-- the slots that are handed in to be changed, by parameter -/
def ioSlots (io : List Nat) : Nat → List Rv → List (Nat × Nat)
  | _, [] => []
  | k, .pl j :: rs => if io.contains k = true then (k, j) :: ioSlots io (k + 1) rs else ioSlots io (k + 1) rs
  | k, _ :: rs => ioSlots io (k + 1) rs
/-- the slots that are lent -/
def lentSlots (io : List Nat) : Nat → List Rv → List Nat
  | _, [] => []
  | k, .pl j :: rs => if io.contains k = true then lentSlots io (k + 1) rs else j :: lentSlots io (k + 1) rs
  | k, _ :: rs => lentSlots io (k + 1) rs
def apart : List (Nat × Nat) → List Nat → Bool
  | [], _ => true
  | (_, j) :: r, l => !l.contains j && !(r.any fun q => q.2 == j) && apart r l
/-- the slots behind the call -/
def backEnv (cenv : Env) : List (Nat × Nat) → Env → Option Env
  | [], env => some env
  | (k, j) :: r, env => match cenv[k]? with
    | some (some o) => backEnv cenv r (env.set j (some o))
    | _ => none
def O.flat : O → Bool
  | .dat d => Mi.flat d
  | .lst ds => flats ds
  | .dct kvs => kvs.all fun q => Mi.flat q.2
  | .tpl _ => false
def allFlat (cenv : Env) : List (Nat × Nat) → Bool
  | [] => true
  | (k, _) :: r => (match cenv[k]? with
    | some (some o) => o.flat
    | _ => false) && allFlat cenv r
def O.rv : O → Rv
  | .dat d => .d d
  | o => .own o
def mCall (io : List Nat) (F : M O) (ms : M (List Rv)) : M Rv := bnd ms fun rs env => match argOs io env 0 rs with
  | some cenv => if apart (ioSlots io 0 rs) (lentSlots io 0 rs) = true then
      match F cenv with
      | .ok o cenv' => if ((lentSlots io 0 rs).isEmpty || (o.flat && allFlat cenv' (ioSlots io 0 rs))) = true then
          match backEnv cenv' (ioSlots io 0 rs) env with
          | some env' => .ok o.rv env'
          | none => .stuck
        else .stuck
      | .ex x cenv' => if ((lentSlots io 0 rs).isEmpty || allFlat cenv' (ioSlots io 0 rs)) = true then
          match backEnv cenv' (ioSlots io 0 rs) env with
          | some env' => .ex x env'
          | none => .stuck
        else .stuck
      | .stuck => .stuck
    else .stuck
  | none => .stuck

section
variable (K : PySem.W.Frag) (cl : String → Addr)
/-- a def's end: what it gives back, the frame behind it, the parameters of io where they were -/
def PostF (E : XK) (io : List Nat) (vs : List V) (P B : Hp) (r : Rs O) (Q : VK) : Prop := match r with
  | .ok o env => ∀ v H' B' fps σ' fp, Ext P B B' → Fm K P B' H' σ' env fps → (∀ i ∈ io, σ'[i]? = (vs.map some)[i]?) → OwnR K B' H' o v fp → (∀ a ∈ fp, B' a = none ∧ P a = none ∧ ∀ i ∈ io, a ∉ fps i) → Q v H'
  | .ex c env => ∀ H' B' fps σ', Ext P B B' → Fm K P B' H' σ' env fps → (∀ i ∈ io, σ'[i]? = (vs.map some)[i]?) → E (.ref (cl c)) none H'
  | .stuck => False
/-- a def's promise by its mirror -/
def spF (n : Nat) (io : List Nat) (F : M O) : Sp := fun vs H Q E => vs.length = n ∧ ∃ P B env fps, Fm K P B H (vs.map some) env fps ∧ PostF K cl E io vs P B (F env) Q
end

section
variable {K : PySem.W.Frag} {cl : String → Addr} {E : XK} {P B B' H H' : Hp} {σ : L2.St} {env : Env} {fps : Nat → List Addr} {io : List Nat}
theorem ioSlots_mem : ∀ {rs : List Rv} {k0 k j : Nat}, (k, j) ∈ ioSlots io k0 rs → k0 ≤ k ∧ rs[k - k0]? = some (.pl j) ∧ io.contains k = true
  | [], _, _, _, h => by simp [ioSlots] at h
  | r :: rs, k0, k, j, h => by
    have tl : (k, j) ∈ ioSlots io (k0 + 1) rs → k0 ≤ k ∧ (r :: rs)[k - k0]? = some (.pl j) ∧ io.contains k = true := fun h => by
      obtain ⟨h1, h2, h3⟩ := ioSlots_mem h
      refine ⟨by omega, ?_, h3⟩
      have e : k - k0 = (k - (k0 + 1)) + 1 := by omega
      rw [e, List.getElem?_cons_succ]
      exact h2
    unfold ioSlots at h
    split at h
    · rename_i eq; cases eq
    · rename_i eq
      cases eq
      split at h
      · rename_i hc
        rcases List.mem_cons.mp h with e | h
        · cases e
          exact ⟨Nat.le_refl _, by simp, hc⟩
        · exact tl h
      · exact tl h
    · rename_i eq
      cases eq
      exact tl h
theorem ioSlots_of : ∀ {rs : List Rv} {k0 k j : Nat}, k0 ≤ k → rs[k - k0]? = some (.pl j) → io.contains k = true → (k, j) ∈ ioSlots io k0 rs
  | [], _, _, _, _, h, _ => by simp at h
  | r :: rs, k0, k, j, h0, h, hc => by
    by_cases e : k = k0
    · subst e
      simp only [Nat.sub_self, List.getElem?_cons_zero, Option.some.injEq] at h
      subst h
      unfold ioSlots
      rw [if_pos hc]
      exact List.mem_cons_self
    · have h1 : k0 + 1 ≤ k := by omega
      have e2 : k - k0 = (k - (k0 + 1)) + 1 := by omega
      rw [e2, List.getElem?_cons_succ] at h
      have q := ioSlots_of h1 h hc
      unfold ioSlots
      split
      · rename_i eq; cases eq
      · rename_i eq
        cases eq
        split
        · exact List.mem_cons_of_mem _ q
        · exact q
      · rename_i eq
        cases eq
        exact q
theorem lentSlots_of : ∀ {rs : List Rv} {k0 k j : Nat}, k0 ≤ k → rs[k - k0]? = some (.pl j) → ¬ io.contains k = true → j ∈ lentSlots io k0 rs
  | [], _, _, _, _, h, _ => by simp at h
  | r :: rs, k0, k, j, h0, h, hc => by
    by_cases e : k = k0
    · subst e
      simp only [Nat.sub_self, List.getElem?_cons_zero, Option.some.injEq] at h
      subst h
      unfold lentSlots
      rw [if_neg hc]
      exact List.mem_cons_self
    · have h1 : k0 + 1 ≤ k := by omega
      have e2 : k - k0 = (k - (k0 + 1)) + 1 := by omega
      rw [e2, List.getElem?_cons_succ] at h
      have q := lentSlots_of h1 h hc
      unfold lentSlots
      split
      · rename_i eq; cases eq
      · rename_i eq
        cases eq
        split
        · exact q
        · exact List.mem_cons_of_mem _ q
      · rename_i eq
        cases eq
        exact q
theorem apart_of : ∀ {js : List (Nat × Nat)} {l : List Nat}, apart js l = true → (∀ q ∈ js, q.2 ∉ l) ∧ js.Pairwise (fun p q => p.2 ≠ q.2)
  | [], _, _ => ⟨fun _ h => by simp at h, .nil⟩
  | (k, j) :: r, l, h => by
    unfold apart at h
    simp only [Bool.and_eq_true, Bool.not_eq_true', List.any_eq_false, beq_iff_eq] at h
    obtain ⟨⟨h1, h2⟩, h3⟩ := h
    obtain ⟨q1, q2⟩ := apart_of h3
    refine ⟨fun q hq => ?_, .cons (fun q hq e => h2 q hq e.symm) q2⟩
    rcases List.mem_cons.mp hq with rfl | hq
    · intro hm
      have : l.contains j = true := List.contains_iff_mem.mpr hm
      rw [h1] at this
      cases this
    · exact q1 q hq
theorem argOs_get : ∀ {rs : List Rv} {k0 : Nat} {cenv : Env}, argOs io env k0 rs = some cenv → cenv.length = rs.length ∧ ∀ i r, rs[i]? = some r → ∃ o, argO io env (k0 + i) r = some o ∧ cenv[i]? = some (some o)
  | [], _, _, e => by cases e; exact ⟨rfl, fun i r h => by simp at h⟩
  | r :: rs, k0, cenv, e => by
    unfold argOs at e
    split at e
    · rename_i o os e1 e2
      cases e
      obtain ⟨h1, h2⟩ := argOs_get e2
      refine ⟨by simp [h1], fun i r' h => ?_⟩
      cases i with
      | zero =>
        simp only [List.getElem?_cons_zero, Option.some.injEq] at h
        subst h
        exact ⟨o, e1, rfl⟩
      | succ i =>
        simp only [List.getElem?_cons_succ] at h
        obtain ⟨o', q1, q2⟩ := h2 i r' h
        exact ⟨o', by rw [← q1]; congr 1; omega, by simpa using q2⟩
    · cases e
theorem pairedGet {α β : Type} {R : α → β → Prop} : ∀ {xs : List α} {ys : List β} {i : Nat} {y : β}, Paired R xs ys → ys[i]? = some y → ∃ x, xs[i]? = some x ∧ R x y
  | _, _, _, _, .nil, e => by simp at e
  | _, _, 0, _, .cons r t, e => by simp at e; subst e; exact ⟨_, rfl, r⟩
  | _, _, i + 1, y, .cons _ t, e => by
    obtain ⟨u, h1, h2⟩ := pairedGet (i := i) (y := y) t (by simpa using e)
    exact ⟨u, by simpa using h1, h2⟩
theorem pairedGet' {α β : Type} {R : α → β → Prop} : ∀ {xs : List α} {ys : List β} {i : Nat} {x : α}, Paired R xs ys → xs[i]? = some x → ∃ y, ys[i]? = some y ∧ R x y
  | _, _, _, _, .nil, e => by simp at e
  | _, _, 0, _, .cons r t, e => by simp at e; subst e; exact ⟨_, rfl, r⟩
  | _, _, i + 1, x, .cons _ t, e => by
    obtain ⟨u, h1, h2⟩ := pairedGet' (i := i) (x := x) t (by simpa using e)
    exact ⟨u, by simpa using h1, h2⟩
theorem backEnv_get : ∀ {js : List (Nat × Nat)} {cenv env env' : Env}, js.Pairwise (fun p q => p.2 ≠ q.2) → backEnv cenv js env = some env' →
    env'.length = env.length ∧ (∀ j, (∀ q ∈ js, q.2 ≠ j) → env'[j]? = env[j]?) ∧ ∀ k j, (k, j) ∈ js → j < env.length → ∃ o, cenv[k]? = some (some o) ∧ env'[j]? = some (some o)
  | [], _, _, _, _, e => by cases e; exact ⟨rfl, fun _ _ => rfl, fun _ _ h => by simp at h⟩
  | (k, j) :: r, cenv, env, env', hp, e => by
    unfold backEnv at e
    split at e
    · rename_i o eo
      have hp' := List.pairwise_cons.mp hp
      obtain ⟨h1, h2, h3⟩ := backEnv_get hp'.2 e
      refine ⟨by simpa using h1, fun i hi => ?_, fun k' j' hm hlt => ?_⟩
      · rw [h2 i fun q hq => hi q (List.mem_cons_of_mem _ hq), List.getElem?_set_ne (hi (k, j) List.mem_cons_self)]
      · rcases List.mem_cons.mp hm with e' | hm
        · cases e'
          refine ⟨o, eo, ?_⟩
          rw [h2 j fun q hq => (hp'.1 q hq).symm, List.getElem?_set_self hlt]
        · exact h3 k' j' hm (by simpa using hlt)
    · cases e
theorem allFlat_get : ∀ {js : List (Nat × Nat)} {cenv : Env}, allFlat cenv js = true → ∀ k j o, (k, j) ∈ js → cenv[k]? = some (some o) → o.flat = true
  | [], _, _, _, _, _, h, _ => by simp at h
  | (k, j) :: r, cenv, h, k', j', o, hm, ho => by
    unfold allFlat at h
    rw [Bool.and_eq_true] at h
    rcases List.mem_cons.mp hm with e' | hm
    · cases e'
      have h1 := h.1
      rw [ho] at h1
      exact h1
    · exact allFlat_get h.2 k' j' o hm ho
theorem RKs.flat {B B' : Hp} (h : ∀ a vs, Rd B a (.tup vs) → Rd B' a (.tup vs)) : ∀ {kds : List (Key × D)} {kvs : List (Key × V)}, (kds.all fun q => Mi.flat q.2) = true → RKs K B kds kvs → RKs K B' kds kvs
  | _, _, _, .nil => .nil
  | _, _, n, .cons r t => by
    rw [List.all_cons, Bool.and_eq_true] at n
    exact .cons ⟨r.1, RD.flat h _ _ n.1 r.2⟩ (RKs.flat h n.2 t)
theorem OwnR.flat {o : O} {v : V} {fp : List Addr} (r : OwnR K B H o v fp) (hf : o.flat = true) (h : ∀ a vs, Rd B a (.tup vs) → Rd B' a (.tup vs)) : OwnR K B' H o v fp := by
  cases r with
  | dat r => exact .dat (RD.flat h _ _ hf r)
  | lst e r => exact .lst e (RDs.flat h _ _ hf r)
  | dct e r => exact .dct e (RKs.flat h hf r)
  | tpl e n r => cases hf
end
end Mi

set_option Elab.async false
set_option linter.all false
set_option maxRecDepth 100000
namespace Mi
open PySem PySem.Spec L2
open Classical

section
variable {K : PySem.W.Frag} {cl : String → Addr} {E : XK} {P B H : Hp} {σ : L2.St} {env : Env} {fps : Nat → List Addr} {io : List Nat} {rs : List Rv} {vs : List V} {F : M O} {Q : VK}

def inIo (fps : Nat → List Addr) (js : List (Nat × Nat)) (a : Addr) : Prop := ∃ q ∈ js, a ∈ fps q.2
def inLent (fps : Nat → List Addr) (ls : List Nat) (a : Addr) : Prop := ∃ j ∈ ls, a ∈ fps j
noncomputable def calleeP (H : Hp) (fps : Nat → List Addr) (js : List (Nat × Nat)) : Hp := fun a => if inIo fps js a then none else noTb H a
noncomputable def calleeB (B H : Hp) (fps : Nat → List Addr) (ls : List Nat) : Hp := fun a => if inLent fps ls a then H a else B a
noncomputable def callerB (B : Hp) (fps : Nat → List Addr) (ls : List Nat) : Hp := fun a => if inLent fps ls a then none else B a
def calleeF (fps : Nat → List Addr) (io : List Nat) (rs : List Rv) : Nat → List Addr := fun k => if io.contains k = true then (match rs[k]? with
  | some (.pl j) => fps j
  | _ => []) else []
noncomputable def callerF (fps fps2 : Nat → List Addr) (js : List (Nat × Nat)) : Nat → List Addr := fun j => if h : ∃ k, (k, j) ∈ js then fps2 (choose h) else fps j

theorem pw_inj {js : List (Nat × Nat)} (h : js.Pairwise (fun p q => p.2 ≠ q.2)) {i k j : Nat} (h1 : (i, j) ∈ js) (h2 : (k, j) ∈ js) : i = k := by
  induction h with
  | nil => simp at h1
  | @cons a l hl _ ih =>
    rcases List.mem_cons.mp h1 with e1 | h1
    · rcases List.mem_cons.mp h2 with e2 | h2
      · rw [← e1] at e2; cases e2; rfl
      · exact absurd (by rw [← e1]) (hl _ h2)
    · rcases List.mem_cons.mp h2 with e2 | h2
      · exact absurd (by rw [← e2]) (hl _ h1)
      · exact ih h1 h2
theorem calleeF_mem {k : Nat} {a : Addr} (h : a ∈ calleeF fps io rs k) : ∃ j, (k, j) ∈ ioSlots io 0 rs ∧ a ∈ fps j := by
  unfold calleeF at h
  split at h
  · rename_i hc
    split at h
    · rename_i j e
      exact ⟨j, ioSlots_of (Nat.zero_le _) (by simpa using e) hc, h⟩
    · simp at h
  · simp at h
theorem call_in (Fr : Fm K P B H σ env fps) (hv : Paired (RvS K B σ) rs vs) {cenv : Env} (ec : argOs io env 0 rs = some cenv) (ha : apart (ioSlots io 0 rs) (lentSlots io 0 rs) = true) :
    Fm K (calleeP H fps (ioSlots io 0 rs)) (calleeB B H fps (lentSlots io 0 rs)) H (vs.map some) cenv (calleeF fps io rs) := by
  obtain ⟨ap1, ap2⟩ := apart_of ha
  obtain ⟨len, get⟩ := argOs_get ec
  have hlv : rs.length = vs.length := hv.length
  have sub1 : Sub B (calleeB B H fps (lentSlots io 0 rs)) := fun a o e => by
    unfold calleeB
    split
    · exact Fr.sub _ _ e
    · exact e
  refine ⟨by simp [len, hlv], fun a o e => ?_, fun a o e => ?_, fun i o e => ?_, fun i e => ?_, fun i k a h1 h2 => ?_, fun i a h => ?_, Fr.tab.mono sub1, fun a ps e => ?_, fun a ps e => ?_⟩
  rotate_right 2
  · unfold calleeB at e
    split at e
    · rename_i hl
      obtain ⟨j, _, hj⟩ := hl
      exact Fr.ownT j a hj ps e
    · exact Fr.nbT a ps e
  · unfold calleeP at e
    split at e
    · cases e
    · exact noTb_noT _ _ _ e
  · unfold calleeB at e
    split at e
    · exact e
    · exact Fr.sub _ _ e
  · unfold calleeP at e
    split at e
    · cases e
    · exact noTb_some e
  · have hi : i < rs.length := by rw [← len]; exact (List.getElem?_eq_some_iff.mp e).1
    have er : rs[i]? = some rs[i] := by simp [hi]
    obtain ⟨o', q1, q2⟩ := get i _ er
    rw [e] at q2
    cases q2
    rw [Nat.zero_add] at q1
    obtain ⟨v, hv1, hv2⟩ := pairedGet' hv er
    refine ⟨v, by simp [hv1], ?_⟩
    generalize rs[i] = r at q1 hv2 er
    cases r with
    | d x =>
      cases q1
      have : calleeF fps io rs i = [] := by unfold calleeF; rw [er]; split <;> rfl
      rw [this]
      exact .dat (RD.mono sub1 _ _ hv2)
    | own o => cases q1
    | pl j =>
      unfold argO at q1
      simp only at q1
      have hs : σ[j]? = some (some v) := hv2
      split at q1
      · rename_i ds he
        split at q1
        · rename_i hc
          cases q1
          have : calleeF fps io rs i = fps j := by unfold calleeF; rw [if_pos hc, er]
          rw [this]
          exact (Fr.pl he hs).congr sub1 fun _ _ => rfl
        · rename_i hc
          cases q1
          have : calleeF fps io rs i = [] := by unfold calleeF; rw [if_neg hc]
          rw [this]
          obtain ⟨a, ws, rfl, hf, e1, r1⟩ := (Fr.pl he hs).lst_inv
          refine .dat (.lst (.inl (.inl ?_)) (RDs.mono sub1 _ _ r1))
          unfold calleeB
          rw [if_pos ⟨j, lentSlots_of (Nat.zero_le _) (by simpa using er) hc, by rw [hf]; simp⟩]
          exact e1
      · rename_i kv he
        split at q1
        · rename_i hc
          cases q1
          have : calleeF fps io rs i = fps j := by unfold calleeF; rw [if_pos hc, er]
          rw [this]
          exact (Fr.pl he hs).congr sub1 fun _ _ => rfl
        · cases q1
      · cases q1
  · have hi : rs[i]? = none := by
      rcases e with e | e
      · have hi : i < rs.length := by rw [← len]; exact (List.getElem?_eq_some_iff.mp e).1
        obtain ⟨o', _, q2⟩ := get i rs[i] (by simp [hi])
        rw [e] at q2
        cases q2
      · rw [List.getElem?_eq_none_iff] at e ⊢
        omega
    unfold calleeF
    rw [hi]
    split <;> rfl
  · obtain ⟨j, m1, a1⟩ := calleeF_mem h1
    obtain ⟨j', m2, a2⟩ := calleeF_mem h2
    have := Fr.dis j j' a a1 a2
    subst this
    exact pw_inj ap2 m1 m2
  · obtain ⟨j, m1, a1⟩ := calleeF_mem h
    obtain ⟨o1, o2⟩ := Fr.off j a a1
    constructor
    · unfold calleeB
      rw [if_neg]
      · exact o1
      · rintro ⟨j', m2, a2⟩
        have := Fr.dis j j' a a1 a2
        subst this
        exact ap1 _ m1 m2
    · unfold calleeP
      rw [if_pos ⟨(i, j), m1, a1⟩]

/-- back in the caller -/
theorem call_out (Fr : Fm K P B H σ env fps) (hv : Paired (RvS K B σ) rs vs) {cenv cenv' env' : Env} (ec : argOs io env 0 rs = some cenv) (ha : apart (ioSlots io 0 rs) (lentSlots io 0 rs) = true)
    {H2 B2 : Hp} {σ2 : L2.St} {fps2 : Nat → List Addr} (x : Ext (calleeP H fps (ioSlots io 0 rs)) (calleeB B H fps (lentSlots io 0 rs)) B2)
    (F2 : Fm K (calleeP H fps (ioSlots io 0 rs)) B2 H2 σ2 cenv' fps2) (hs2 : ∀ i ∈ io, σ2[i]? = (vs.map some)[i]?) (hb : backEnv cenv' (ioSlots io 0 rs) env = some env')
    (hf : (lentSlots io 0 rs).isEmpty = true ∨ allFlat cenv' (ioSlots io 0 rs) = true) :
    Ext P B (callerB B2 fps (lentSlots io 0 rs)) ∧ Fm K P (callerB B2 fps (lentSlots io 0 rs)) H2 σ env' (callerF fps fps2 (ioSlots io 0 rs)) ∧
      (∀ o v fp, OwnR K B2 H2 o v fp → ((lentSlots io 0 rs).isEmpty = true ∨ o.flat = true) → OwnR K (callerB B2 fps (lentSlots io 0 rs)) H2 o v fp) ∧
      (∀ a, B2 a = none → calleeP H fps (ioSlots io 0 rs) a = none → (∀ i ∈ io, a ∉ fps2 i) → callerB B2 fps (lentSlots io 0 rs) a = none ∧ P a = none ∧ ∀ i, a ∉ callerF fps fps2 (ioSlots io 0 rs) i) := by
  obtain ⟨ap1, ap2⟩ := apart_of ha
  obtain ⟨len, get⟩ := argOs_get ec
  obtain ⟨bl, bk, bj⟩ := backEnv_get ap2 hb
  generalize hjs : ioSlots io 0 rs = js at *
  generalize hls : lentSlots io 0 rs = ls at *
  have mio : ∀ {k j}, (k, j) ∈ js → rs[k]? = some (.pl j) ∧ k ∈ io := fun {k j} h => by
    rw [← hjs] at h
    obtain ⟨_, h2, h3⟩ := ioSlots_mem h
    exact ⟨by simpa using h2, List.contains_iff_mem.mp h3⟩
  have notIo : ∀ {j a}, a ∈ fps j → (∀ k, (k, j) ∉ js) → ¬ inIo fps js a := fun {j a} h1 h2 ⟨q, m, h3⟩ => by
    have := Fr.dis j q.2 a h1 h3
    subst this
    exact h2 q.1 m
  have pIo : ∀ {a}, (∀ ps, H a ≠ some (.tbl ps)) → ¬ inIo fps js a → calleeP H fps js a = H a := fun {a} hT h => by unfold calleeP; rw [if_neg h, noTb_of hT]
  have ownNone : ∀ {j a}, a ∈ fps j → P a = none := fun {j a} h => (Fr.off j a h).2
  have ioP : ∀ {a}, inIo fps js a → P a = none := fun {a} ⟨q, _, h⟩ => ownNone h
  have lentB : ∀ {a}, inLent fps ls a → B a = none ∧ P a = none := fun {a} ⟨j, _, h⟩ => Fr.off j a h
  have pl : ∀ {a o}, P a = some o → calleeP H fps js a = some o := fun {a o} e => by
    rw [pIo (fun ps e2 => Fr.npT a ps (by rw [e]; rw [Fr.prt _ _ e] at e2; exact e2)) fun z => by rw [ioP z] at e; cases e]
    exact Fr.prt _ _ e
  have cB : ∀ {a}, ¬ inLent fps ls a → calleeB B H fps ls a = B a := fun {a} h => by unfold calleeB; rw [if_neg h]
  have kB : ∀ {a}, ¬ inLent fps ls a → callerB B2 fps ls a = B2 a := fun {a} h => by unfold callerB; rw [if_neg h]
  have subB : Sub B (callerB B2 fps ls) := fun a o e => by
    have nl : ¬ inLent fps ls a := fun z => by rw [(lentB z).1] at e; cases e
    rw [kB nl]
    exact x.1 _ _ (by rw [cB nl]; exact e)
  have ext : Ext P B (callerB B2 fps ls) := ⟨subB, fun a o e => by
    have nl : ¬ inLent fps ls a := fun z => by rw [(lentB z).2] at e; cases e
    rw [kB nl, x.2 _ _ (pl e), cB nl]⟩
  -- what is flat leans on no lent list
  have lentL : ∀ {a}, inLent fps ls a → ∃ vs', B2 a = some (.lst vs') := fun {a} ⟨j, hj, hm⟩ => by
      -- the lent list stands in the callee's frozen part as a list
      have hp : calleeP H fps js a = H a := pIo (Fr.ownT _ _ hm) (notIo hm fun k hk => ap1 _ hk hj)
      have hd := Fr.dom j a hm
      cases e : H a with
      | none => exact absurd e hd
      | some o =>
        rw [e] at hp
        have e2 : B2 a = some o := by
          rw [x.2 _ _ hp]
          unfold calleeB
          rw [if_pos ⟨j, hj, hm⟩]
          exact e
        -- o is a list: it came from a lent slot
        rw [← hls] at hj
        have key : ∃ vs', o = .lst vs' := by
          have := hj
          have lm : ∀ (rs : List Rv) (k0 : Nat), j ∈ lentSlots io k0 rs → ∃ k, k0 ≤ k ∧ rs[k - k0]? = some (.pl j) ∧ ¬ io.contains k = true := by
            intro rs
            induction rs with
            | nil => intro k0 h; simp [lentSlots] at h
            | cons r rs ih =>
              intro k0 h
              have tl : j ∈ lentSlots io (k0 + 1) rs → ∃ k, k0 ≤ k ∧ (r :: rs)[k - k0]? = some (.pl j) ∧ ¬ io.contains k = true := fun h => by
                obtain ⟨k, q1, q2, q3⟩ := ih (k0 + 1) h
                refine ⟨k, by omega, ?_, q3⟩
                have e' : k - k0 = (k - (k0 + 1)) + 1 := by omega
                rw [e', List.getElem?_cons_succ]
                exact q2
              unfold lentSlots at h
              split at h
              · rename_i eq; cases eq
              · rename_i eq
                cases eq
                split at h
                · exact tl h
                · rename_i hc
                  rcases List.mem_cons.mp h with e' | h
                  · subst e'
                    exact ⟨_, Nat.le_refl _, by simp, hc⟩
                  · exact tl h
              · rename_i eq
                cases eq
                exact tl h
          obtain ⟨k, _, q2, q3⟩ := lm rs 0 hj
          obtain ⟨o', w1, w2⟩ := get k _ (by simpa using q2)
          rw [Nat.zero_add] at w1
          unfold argO at w1
          simp only at w1
          obtain ⟨v, _, hs⟩ := pairedGet' hv (by simpa using q2)
          split at w1
          · rename_i ds he
            obtain ⟨b, ws', rfl, hf', e1, _⟩ := (Fr.pl he hs).lst_inv
            rw [hf'] at hm
            have : a = b := by simpa using hm
            subst this
            rw [e] at e1
            exact ⟨ws', Option.some.inj e1⟩
          · rw [if_neg q3] at w1
            cases w1
          · cases w1
        obtain ⟨vs', rfl⟩ := key
        exact ⟨vs', e2⟩
  have tupK : ∀ a ws, Rd B2 a (.tup ws) → Rd (callerB B2 fps ls) a (.tup ws) := fun a ws h => by
    have nl : ¬ inLent fps ls a := fun z => by
      obtain ⟨vs', e2⟩ := lentL z
      rcases h with h | ⟨_, h⟩ <;> · rw [e2] at h; cases h
    rcases h with h | ⟨o, h⟩
    · exact .inl (by rw [kB nl]; exact h)
    · exact .inr ⟨o, by rw [kB nl]; exact h⟩
  have same : ls.isEmpty = true → callerB B2 fps ls = B2 := fun h => by
    funext a
    exact kB fun ⟨j, hj, _⟩ => by rw [List.isEmpty_iff.mp h] at hj; simp at hj
  have trans : ∀ o v fp, OwnR K B2 H2 o v fp → (ls.isEmpty = true ∨ o.flat = true) → OwnR K (callerB B2 fps ls) H2 o v fp := fun o v fp r h => by
    rcases h with h | h
    · rw [same h]; exact r
    · exact r.flat h tupK
  have fIo : ∀ {k j}, (k, j) ∈ js → callerF fps fps2 js j = fps2 k := fun {k j} h => by
    unfold callerF
    have hex : ∃ k, (k, j) ∈ js := ⟨k, h⟩
    rw [dif_pos hex, pw_inj ap2 (choose_spec hex) h]
  have fNo : ∀ {j}, (∀ k, (k, j) ∉ js) → callerF fps fps2 js j = fps j := fun {j} h => by
    unfold callerF
    rw [dif_neg fun ⟨k, hk⟩ => h k hk]
  have keepP : ∀ {a o}, calleeP H fps js a = some o → H2 a = some o := fun {a o} e => F2.prt _ _ e
  refine ⟨ext, ⟨by rw [bl]; exact Fr.len, fun a o e => ?_, fun a o e => keepP (pl e), fun j o e => ?_, fun j e => ?_, fun i j a h1 h2 => ?_, fun j a h => ?_, ?_, fun a ps e => ?_, Fr.npT⟩, trans, fun a hb2 hp2 hi2 => ?_⟩
  rotate_left 5
  · have cdK : ∀ {c q}, B2 c = some (LamX.CodeO c q) → callerB B2 fps ls c = some (LamX.CodeO c q) := fun {c q} e2 => by
      rw [kB fun z => ?_]
      · exact e2
      · obtain ⟨vs', e3⟩ := lentL z
        rw [e3] at e2
        exact notC_lst c q (Option.some.inj e2)
    refine ⟨fun a q e => cdK (F2.tab.1 a q e), fun p hp => ?_⟩
    obtain ⟨ps, h1, h2, h3⟩ := F2.tab.2 p hp
    refine ⟨ps, h1, h2, fun pos cv e => ?_⟩
    obtain ⟨c, e1, e2⟩ := h3 pos cv e
    exact ⟨c, e1, cdK e2⟩
  · unfold callerB at e
    split at e
    · cases e
    · exact F2.nbT a ps e
  rotate_left 1
  · unfold callerB at e
    split at e
    · cases e
    · exact F2.sub _ _ e
  · by_cases hj : ∃ k, (k, j) ∈ js
    · obtain ⟨k, hk⟩ := hj
      obtain ⟨hr, hkio⟩ := mio hk
      have hlt : j < env.length := by
        have : j < env'.length := (List.getElem?_eq_some_iff.mp e).1
        rw [bl] at this
        exact this
      obtain ⟨o', e1, e2⟩ := bj k j hk hlt
      rw [e] at e2
      cases e2
      obtain ⟨v, s1, r1⟩ := F2.slot k o e1
      rw [hs2 k hkio] at s1
      obtain ⟨v', hv1, hv2⟩ := pairedGet' hv hr
      have : v = v' := by
        rw [List.getElem?_map, hv1] at s1
        simpa using s1.symm
      subst this
      rw [fIo hk]
      refine ⟨v, hv2, trans _ _ _ r1 (hf.imp id fun q => allFlat_get q k j o hk e1)⟩
    · have hj' : ∀ k, (k, j) ∉ js := fun k hk => hj ⟨k, hk⟩
      rw [bk j fun q hq hqj => hj' q.1 (by rw [← hqj]; exact hq)] at e
      obtain ⟨v, s1, r1⟩ := Fr.slot j o e
      rw [fNo hj']
      refine ⟨v, s1, r1.congr subB fun a ha' => ?_⟩
      cases e3 : H a with
      | none => exact absurd e3 (Fr.dom j a ha')
      | some u =>
        exact keepP (by rw [pIo (Fr.ownT _ _ ha') (notIo ha' hj')]; exact e3)
  · by_cases hj : ∃ k, (k, j) ∈ js
    · obtain ⟨k, hk⟩ := hj
      by_cases hlt : j < env.length
      · obtain ⟨o', e1, e2⟩ := bj k j hk hlt
        rcases e with e | e <;> · rw [e2] at e; cases e
      · obtain ⟨hr, hkio⟩ := mio hk
        obtain ⟨v', hv1, hv2⟩ := pairedGet' hv hr
        have : σ[j]? = some (some v') := hv2
        have h2 : j < σ.length := (List.getElem?_eq_some_iff.mp this).1
        rw [← Fr.len] at h2
        exact absurd h2 hlt
    · have hj' : ∀ k, (k, j) ∉ js := fun k hk => hj ⟨k, hk⟩
      rw [bk j fun q hq hqj => hj' q.1 (by rw [← hqj]; exact hq)] at e
      rw [fNo hj']
      exact Fr.emp j e
  · -- unlike slots own unlike cells
    have cross : ∀ {k i j}, (k, i) ∈ js → a ∈ fps2 k → a ∈ fps j → (∀ k, (k, j) ∉ js) → False := fun {k i j} hk h1 h2 hj => by
      have q := (F2.off k a h1).2
      rw [pIo (Fr.ownT _ _ h2) (notIo h2 hj)] at q
      exact Fr.dom j a h2 q
    by_cases hi : ∃ k, (k, i) ∈ js
    · obtain ⟨k, hk⟩ := hi
      rw [fIo hk] at h1
      by_cases hj : ∃ k, (k, j) ∈ js
      · obtain ⟨k', hk'⟩ := hj
        rw [fIo hk'] at h2
        have := F2.dis k k' a h1 h2
        subst this
        have q1 := (mio hk).1
        rw [(mio hk').1] at q1
        cases q1
        rfl
      · have hj' : ∀ k, (k, j) ∉ js := fun k hk => hj ⟨k, hk⟩
        rw [fNo hj'] at h2
        exact (cross hk h1 h2 hj').elim
    · have hi' : ∀ k, (k, i) ∉ js := fun k hk => hi ⟨k, hk⟩
      rw [fNo hi'] at h1
      by_cases hj : ∃ k, (k, j) ∈ js
      · obtain ⟨k', hk'⟩ := hj
        rw [fIo hk'] at h2
        exact (cross hk' h2 h1 hi').elim
      · have hj' : ∀ k, (k, j) ∉ js := fun k hk => hj ⟨k, hk⟩
        rw [fNo hj'] at h2
        exact Fr.dis i j a h1 h2
  · by_cases hj : ∃ k, (k, j) ∈ js
    · obtain ⟨k, hk⟩ := hj
      rw [fIo hk] at h
      obtain ⟨o1, o2⟩ := F2.off k a h
      refine ⟨?_, ?_⟩
      · unfold callerB
        split
        · rfl
        · exact o1
      · cases e : P a with
        | none => rfl
        | some o => rw [pl e] at o2; cases o2
    · have hj' : ∀ k, (k, j) ∉ js := fun k hk => hj ⟨k, hk⟩
      rw [fNo hj'] at h
      obtain ⟨o1, o2⟩ := Fr.off j a h
      refine ⟨?_, o2⟩
      by_cases hl : inLent fps ls a
      · unfold callerB
        rw [if_pos hl]
      · rw [kB hl]
        have hp : calleeP H fps js a = H a := pIo (Fr.ownT _ _ h) (notIo h hj')
        cases e : H a with
        | none => exact absurd e (Fr.dom j a h)
        | some u =>
          rw [e] at hp
          rw [x.2 _ _ hp, cB hl]
          exact o1
  · refine ⟨?_, ?_, fun j hj => ?_⟩
    · unfold callerB
      split
      · rfl
      · exact hb2
    · cases e : P a with
      | none => rfl
      | some o => rw [pl e] at hp2; cases hp2
    · by_cases hex : ∃ k, (k, j) ∈ js
      · obtain ⟨k, hk⟩ := hex
        rw [fIo hk] at hj
        exact hi2 k (mio hk).2 hj
      · have hj' : ∀ k, (k, j) ∉ js := fun k hk => hex ⟨k, hk⟩
        rw [fNo hj'] at hj
        rw [pIo (Fr.ownT _ _ hj) (notIo hj hj')] at hp2
        exact Fr.dom j a hj hp2
end

section
variable {X : Cx} {cl : String → Addr} {E : XK} {e : Expr} {es : List Expr} {ms : M (List Rv)} {pos p : Pos} {n k : Nat} {io : List Nat} {F : M O} {CXc : CXT} {f : Addr} {fd : FuncData} {ps : List Str} {x : Str}
theorem call_post {P B H : Hp} {σ : L2.St} {env : Env} {fps : Nat → List Addr} {rs : List Rv} {vs : List V} {Q : VK} (Fr : Fm X.K P B H σ env fps) (hv : Paired (RvS X.K B σ) rs vs)
    (h : PostE X.K cl E P B σ (match argOs io env 0 rs with
  | some cenv => if apart (ioSlots io 0 rs) (lentSlots io 0 rs) = true then
      match F cenv with
      | .ok o cenv' => if ((lentSlots io 0 rs).isEmpty || (o.flat && allFlat cenv' (ioSlots io 0 rs))) = true then
          match backEnv cenv' (ioSlots io 0 rs) env with
          | some env' => .ok o.rv env'
          | none => .stuck
        else .stuck
      | .ex x cenv' => if ((lentSlots io 0 rs).isEmpty || allFlat cenv' (ioSlots io 0 rs)) = true then
          match backEnv cenv' (ioSlots io 0 rs) env with
          | some env' => .ex x env'
          | none => .stuck
        else .stuck
      | .stuck => .stuck
    else .stuck
  | none => .stuck) Q) : ∃ P B env fps, Fm X.K P B H (vs.map some) env fps ∧ PostF X.K cl E io vs P B (F env) Q := by
  split at h
  · rename_i cenv ec
    split at h
    · rename_i ha
      refine ⟨_, _, cenv, _, call_in Fr hv ec ha, ?_⟩
      split at h
      · rename_i o cenv' eF
        rw [eF]
        split at h
        · rename_i hc
          split at h
          · rename_i env' eb
            intro v H' B' fps2 σ' fp x2 F2 hs2 r2 off2
            have hc' : (lentSlots io 0 rs).isEmpty = true ∨ (o.flat = true ∧ allFlat cenv' (ioSlots io 0 rs) = true) := by
              rw [Bool.or_eq_true, Bool.and_eq_true] at hc
              exact hc
            obtain ⟨ex, F3, tr, nw⟩ := call_out Fr hv ec ha x2 F2 hs2 eb (hc'.imp id And.right)
            have r3 := tr o v fp r2 (hc'.imp id And.left)
            refine h v H' _ _ ex F3 ?_
            cases o with
            | dat d => exact r3.dat_inv.1
            | lst ds => exact ⟨fp, r3, fun a hm => nw a (off2 a hm).1 (off2 a hm).2.1 (off2 a hm).2.2⟩
            | tpl ds => exact ⟨fp, r3, fun a hm => nw a (off2 a hm).1 (off2 a hm).2.1 (off2 a hm).2.2⟩
            | dct ds => exact ⟨fp, r3, fun a hm => nw a (off2 a hm).1 (off2 a hm).2.1 (off2 a hm).2.2⟩
          · exact h.elim
        · exact h.elim
      · rename_i c cenv' eF
        rw [eF]
        split at h
        · rename_i hc
          split at h
          · rename_i env' eb
            intro H' B' fps2 σ' x2 F2 hs2
            rw [Bool.or_eq_true] at hc
            obtain ⟨ex, F3, tr, nw⟩ := call_out Fr hv ec ha x2 F2 hs2 eb hc
            exact h H' _ _ ex F3
          · exact h.elim
        · exact h.elim
      · exact h.elim
    · exact h.elim
  · exact h.elim
theorem tCall_of (hl : Len ms n) {σ : L2.St} {H : Hp} {Q : VK} (h : tM X.K cl E (mCall io F ms) σ H Q) : tCall (spF X.K cl n io F) [] E (tMA X.K cl E ms) σ H Q := by
  obtain ⟨P, B, env, fps, Fr, h⟩ := h
  refine ⟨P, B, env, fps, Fr, ?_⟩
  have h1 := postE_bnd h
  cases q : ms env with
  | ok rs env1 =>
    rw [q] at h1
    intro H1 B1 fps1 x1 F1 vs hv
    show spF X.K cl n io F (vs ++ []) H1 Q E
    rw [List.append_nil]
    exact ⟨by rw [← hv.length]; exact hl _ _ _ q, call_post F1 hv (h1 H1 B1 fps1 x1 F1)⟩
  | ex c env1 => rw [q] at h1; exact h1
  | stuck => rw [q] at h1; exact h1.elim
theorem de_call (Fn : FnOk X.prog X.w X.K X.mg X.base CXc k f fd ps (spF X.K cl n io F)) (hr : Room k X.A) (hg : Gl X x) (hm : X.mg x = some (.ref f)) (hk : PySem.W.keepIn X.K (.ref f) = true) (hb : Binds X.K fd ps []) (hx : Passes CXc X E)
    (ha : DA X cl E (e :: es) ms) (hl : Len ms n) (hdb : (x == ("__debug__" : Str)) = false := by decide) (he : starEach (e :: es) X.env = (false, eval e X.env) :: starEach es X.env := by rfl) (hpl : (backTo pos (starEach es X.env)).any (·.1) = false := by rfl) :
    DE X cl E (.Call (.Name x p) (e :: es) [] pos) (mCall io F ms) :=
  ⟨fun pins s σ H Q I h => (pe_call Fn hr hg hm hk hb .nil hx ha hdb he hpl).run pins s σ H Q I (tCall_of hl h)⟩
theorem de_call0 (Fn : FnOk X.prog X.w X.K X.mg X.base CXc k f fd ps (spF X.K cl 0 io F)) (hr : Room k X.A) (hg : Gl X x) (hm : X.mg x = some (.ref f)) (hk : PySem.W.keepIn X.K (.ref f) = true) (hb : Binds X.K fd ps []) (hx : Passes CXc X E)
    (hdb : (x == ("__debug__" : Str)) = false := by decide) : DE X cl E (.Call (.Name x p) [] [] pos) (mCall io F mNil) := by
  refine ⟨fun pins s σ H Q I h => (pe_call0 Fn hr hg hm hk hb .nil hx hdb).run pins s σ H Q I ?_⟩
  obtain ⟨P, B, env, fps, Fr, h⟩ := h
  show spF X.K cl 0 io F ([] ++ []) H Q E
  exact ⟨rfl, call_post (rs := []) Fr .nil h⟩
end
end Mi

set_option Elab.async false
set_option linter.all false
set_option maxRecDepth 100000
namespace Mi
open PySem PySem.Spec L2

/-! ### methods that change a slot's own list -/
section
variable {K : PySem.W.Frag} {cl : String → Addr} {E : XK} {P B H : Hp} {σ : L2.St} {env : Env} {fps : Nat → List Addr}
theorem getElem?_lt {α : Type} {l : List α} {i : Nat} {x : α} (h : l[i]? = some x) : i < l.length := (List.getElem?_eq_some_iff.mp h).1
/-- a slot's own cell has another content -/
theorem Fm.write (F : Fm K P B H σ env fps) {i : Nat} {a : Addr} {h : HO} {o o' : O} {v : V} (e : env[i]? = some (some o)) (hv : σ[i]? = some (some v)) (hf : fps i = [a]) (r : OwnR K B (upd H a h) o' v [a]) (hc : notC h := by first | exact notC_lst | exact notC_tup | exact notC_dK | assumption) :
    Fm K P B (upd H a h) σ (env.set i (some o')) fps := by
  obtain ⟨hb, hp⟩ := F.off i a (by rw [hf]; simp)
  refine ⟨by simpa using F.len, fun b u q => ?_, fun b u q => ?_, fun j o2 q => ?_, fun j q => ?_, F.dis, F.off, F.tab.put (F.ownT i a (by rw [hf]; simp)) hc, F.nbT, F.npT⟩
  · rw [upd_ne (ne_of_none q hb)]; exact F.sub _ _ q
  · rw [upd_ne (ne_of_none q hp)]; exact F.prt _ _ q
  · rcases env_set q with ⟨rfl, z⟩ | ⟨hj, q⟩
    · cases z
      exact ⟨v, hv, by rw [hf]; exact r⟩
    · obtain ⟨w, e1, r1⟩ := F.slot j o2 q
      refine ⟨w, e1, r1.congr Sub.refl fun b hb' => upd_ne fun z => hj (F.dis j i b hb' (by rw [hf, z]; simp))⟩
  · rcases q with q | q
    · rcases env_set q with ⟨_, z⟩ | ⟨_, q⟩
      · cases z
      · exact F.emp j (.inl q)
    · exact F.emp j (.inr (env_set_none q))
end
/-- what a method gives and leaves -/
def RuM (K : PySem.W.Frag) (r : V → List V → Hp → VK → Prop) (g : List D → List D → Option (D × List D)) : Prop :=
  ∀ (H B : Hp) (a : Addr) (ws : List V) (zs xs : List D) (vs : List V) (d : D) (zs' : List D) (Q : VK), Sub B H → H a = some (.lst ws) → RDs K B zs ws → Paired (Rd1 K B H) xs vs → g zs xs = some (d, zs') →
    (∀ v' ws', RD K B d v' → RDs K B zs' ws' → Q v' (upd H a (.lst ws'))) → r (.ref a) vs H Q
/-- .. whose arguments are kept in the list -/
def RuMF (K : PySem.W.Frag) (r : V → List V → Hp → VK → Prop) (g : List D → List D → Option (D × List D)) : Prop :=
  ∀ (H B : Hp) (a : Addr) (ws : List V) (zs xs : List D) (vs : List V) (d : D) (zs' : List D) (Q : VK), Sub B H → H a = some (.lst ws) → RDs K B zs ws → RDs K B xs vs → g zs xs = some (d, zs') →
    (∀ v' ws', RD K B d v' → RDs K B zs' ws' → Q v' (upd H a (.lst ws'))) → r (.ref a) vs H Q
def chkL (i : Nat) : M Unit := fun env => match env[i]? with
  | some (some (.lst _)) => .ok () env
  | _ => .stuck
/-- o.m(..) with arguments that are read -/
def mMet (i : Nat) (g : List D → List D → Option (D × List D)) (ms : M (List Rv)) : M Rv := bnd (chkL i) fun _ => bnd ms fun rs env => match env[i]?, resAll env rs with
  | some (some (.lst zs)), some xs => match g zs xs with
    | some (d, zs') => .ok (.d d) (env.set i (some (.lst zs')))
    | none => .stuck
  | _, _ => .stuck
/-- .. that are kept -/
def mMetF (i : Nat) (g : List D → List D → Option (D × List D)) (ms : M (List Rv)) : M Rv := bnd (chkL i) fun _ => bnd (mFr ms) fun xs env => match env[i]? with
  | some (some (.lst zs)) => match g zs xs with
    | some (d, zs') => .ok (.d d) (env.set i (some (.lst zs')))
    | none => .stuck
  | _ => .stuck
section
variable {X : Cx} {cl : String → Addr} {E : XK} {e : Expr} {es : List Expr} {ms : M (List Rv)} {i n : Nat} {g : List D → List D → Option (D × List D)} {r : V → List V → Hp → VK → Prop} {x name : Str} {id : String} {p apos cpos : Pos}
theorem chk_in {α : Type} {k : M Rv} {P B H : Hp} {σ : L2.St} {env : Env} {Q : VK} (h : PostE X.K cl E P B σ (bnd (chkL i) (fun _ => k) env) Q) : (∃ zs, env[i]? = some (some (.lst zs))) ∧ PostE X.K cl E P B σ (k env) Q := by
  unfold bnd chkL at h
  split at h
  · rename_i zs e
    exact ⟨⟨_, e⟩, h⟩
  · exact h.elim
theorem met_to {P B H : Hp} {σ : L2.St} {env : Env} {fps : Nat → List Addr} (F : Fm X.K P B H σ env fps) {zs : List D} (e : env[i]? = some (some (.lst zs))) : ∃ a ws, σ[i]? = some (some (.ref a)) ∧ fps i = [a] ∧ H a = some (.lst ws) ∧ RDs X.K B zs ws := by
  obtain ⟨v, e1, r⟩ := F.slot i _ e
  obtain ⟨a, ws, rfl, hf, h, rd⟩ := r.lst_inv
  exact ⟨a, ws, e1, hf, h, rd⟩
theorem de_met (slot : Slot "list" name id) (pa : PlainAttrs "list") (hty : typeOf (.builtin id) = pure (.type "method_descriptor")) (hm : MtR X id r) (hr : RuM X.K r g) (hN : X.N[i]? = some x) (hv : Vis X.env.scope x) (ha : DA X cl E (e :: es) ms)
    (hdb : (x == ("__debug__" : Str)) = false := by decide) (hcd : (x == ("__classdict__" : Str)) = false := by decide)
    (hbase : attributeBase (.Name x p) name X.env (eval (.Name x p) X.env) = eval (.Name x p) X.env := by rfl)
    (hfew : ((backTo cpos (starEach (e :: es) X.env)).all (fun x => !x.1) && (backToKw cpos (keywordEach [] X.env)).all (fun x => x.1.isSome)
      && decide ((e :: es).length + ([] : List Keyword).length + (if ([] : List Keyword).isEmpty then 0 else 1) < 30)) = true := by rfl)
    (hline : (apos.endLine == cpos.line) = true := by rfl) (hs : starEach (e :: es) X.env = (false, eval e X.env) :: starEach es X.env := by rfl) (hplain : (backTo cpos (starEach es X.env)).any (·.1) = false := by rfl) :
    DE X cl E (.Call (.Attribute (.Name x p) name apos) (e :: es) [] cpos) (mMet i g ms) := by
  refine ⟨fun pins s σ H Q I h => (pe_bm pa slot hty hm (pe_var hN hv hdb hcd) ha hbase hfew hline hs hplain).run pins s σ H Q I ?_⟩
  obtain ⟨P, B, env, fps, F, h⟩ := h
  obtain ⟨⟨zs0, e0⟩, h⟩ := chk_in (H := H) (α := Unit) h
  obtain ⟨a, ws0, s0, hf0, h0, _⟩ := met_to F e0
  refine ⟨_, s0, .inl ⟨rfl, _, SqL.of h0⟩, P, B, env, fps, F, (postE_bnd h).mono fun rs H1 B1 fps1 env1 x1 F1 h1 vs hv => ?_⟩
  split at h1
  · rename_i zs xs e1 e2
    split at h1
    · rename_i d zs' eg
      obtain ⟨b, ws, s1, hf, hb, rd⟩ := met_to F1 e1
      rw [s0] at s1
      cases s1
      refine hr H1 B1 a ws zs xs vs d zs' Q F1.sub hb rd (F1.resAll hv e2) eg fun v' ws' r1 r2 => ?_
      exact h1 v' _ B1 fps1 Ext.refl (F1.write e1 s0 hf (.lst upd_same r2)) r1
    · exact h1.elim
  · exact h1.elim
theorem de_metF (slot : Slot "list" name id) (pa : PlainAttrs "list") (hty : typeOf (.builtin id) = pure (.type "method_descriptor")) (hm : MtR X id r) (hr : RuMF X.K r g) (hN : X.N[i]? = some x) (hv : Vis X.env.scope x) (ha : DA X cl E (e :: es) ms) (hl : Len ms n)
    (hdb : (x == ("__debug__" : Str)) = false := by decide) (hcd : (x == ("__classdict__" : Str)) = false := by decide)
    (hbase : attributeBase (.Name x p) name X.env (eval (.Name x p) X.env) = eval (.Name x p) X.env := by rfl)
    (hfew : ((backTo cpos (starEach (e :: es) X.env)).all (fun x => !x.1) && (backToKw cpos (keywordEach [] X.env)).all (fun x => x.1.isSome)
      && decide ((e :: es).length + ([] : List Keyword).length + (if ([] : List Keyword).isEmpty then 0 else 1) < 30)) = true := by rfl)
    (hline : (apos.endLine == cpos.line) = true := by rfl) (hs : starEach (e :: es) X.env = (false, eval e X.env) :: starEach es X.env := by rfl) (hplain : (backTo cpos (starEach es X.env)).any (·.1) = false := by rfl) :
    DE X cl E (.Call (.Attribute (.Name x p) name apos) (e :: es) [] cpos) (mMetF i g ms) := by
  refine ⟨fun pins s σ H Q I h => (pe_bm pa slot hty hm (pe_var hN hv hdb hcd) ha hbase hfew hline hs hplain).run pins s σ H Q I ?_⟩
  obtain ⟨P, B, env, fps, F, h⟩ := h
  obtain ⟨⟨zs0, e0⟩, h⟩ := chk_in (H := H) (α := Unit) h
  obtain ⟨a, ws0, s0, hf0, h0, _⟩ := met_to F e0
  refine ⟨_, s0, .inl ⟨rfl, _, SqL.of h0⟩, P, B, env, fps, F, (post_fr hl h).mono fun rs H1 B1 fps1 env1 x1 F1 q vs hv => ?_⟩
  obtain ⟨xs, B2, fps2, env2, en, x2, F2, r2, h1⟩ := q vs hv
  split at h1
  · rename_i zs e1
    split at h1
    · rename_i d zs' eg
      obtain ⟨b, ws, s1, hf, hb, rd⟩ := met_to F2 e1
      rw [s0] at s1
      cases s1
      refine hr H1 B2 a ws zs xs vs d zs' Q F2.sub hb rd r2 eg fun v' ws' r1 r3 => ?_
      exact h1 v' _ B2 fps2 Ext.refl (F2.write e1 s0 hf (.lst upd_same r3)) r1
    · exact h1.elim
  · exact h1.elim
theorem de_met0 (slot : Slot "list" name id) (pa : PlainAttrs "list") (hty : typeOf (.builtin id) = pure (.type "method_descriptor")) (hm : MtR X id r) (hr : RuM X.K r g) (hN : X.N[i]? = some x) (hv : Vis X.env.scope x)
    (hdb : (x == ("__debug__" : Str)) = false := by decide) (hcd : (x == ("__classdict__" : Str)) = false := by decide)
    (hbase : attributeBase (.Name x p) name X.env (eval (.Name x p) X.env) = eval (.Name x p) X.env := by rfl) (hline : (apos.endLine == cpos.line) = true := by rfl) :
    DE X cl E (.Call (.Attribute (.Name x p) name apos) [] [] cpos) (mMet i g mNil) := by
  refine ⟨fun pins s σ H Q I h => (pe_bm0 pa slot hty hm (pe_var hN hv hdb hcd) hbase hline).run pins s σ H Q I ?_⟩
  obtain ⟨P, B, env, fps, F, h⟩ := h
  obtain ⟨⟨zs0, e0⟩, h⟩ := chk_in (H := H) (α := Unit) h
  obtain ⟨a, ws0, s0, hf0, h0, rd⟩ := met_to F e0
  refine ⟨_, s0, .inl ⟨rfl, _, SqL.of h0⟩, ?_⟩
  have h1 : PostE X.K cl E P B σ (match env[i]?, resAll env [] with
    | some (some (.lst zs)), some xs => match g zs xs with
      | some (d, zs') => .ok (.d d) (env.set i (some (.lst zs')))
      | none => .stuck
    | _, _ => .stuck) Q := h
  rw [e0] at h1
  unfold resAll at h1
  dsimp only at h1
  split at h1
  · rename_i d zs' eg
    exact hr H B a ws0 zs0 [] [] d zs' Q F.sub h0 rd .nil eg fun v' ws' r1 r2 => h1 v' _ B fps Ext.refl (F.write e0 s0 hf0 (.lst upd_same r2)) r1
  · exact h1.elim

/-! the methods -/
def gApp : List D → List D → Option (D × List D)
  | zs, [x] => if zs.length < sizeLine then some (.none, zs ++ [x]) else none
  | _, _ => none
theorem ru_app {K : PySem.W.Frag} : RuMF K rAppend gApp := by
  intro H B a ws zs xs vs d zs' Q hs ha rz rx e hq
  unfold gApp at e
  split at e
  · split at e
    · rename_i hz
      cases e
      cases rx with
      | cons r t =>
        cases t
        exact ⟨a, ws, _, rfl, rfl, ha, by rw [RDs.length _ _ rz]; exact hz, hq _ _ .non (rz.append (.cons r .nil))⟩
    · cases e
  · cases e
def gIns : List D → List D → Option (D × List D)
  | zs, [.int i, x] => if zs.length < sizeLine ∧ 0 ≤ i ∧ i < 2 ^ 63 then some (.none, zs.take i.toNat ++ [x] ++ zs.drop i.toNat) else none
  | _, _ => none
theorem ru_ins {K : PySem.W.Frag} : RuMF K (fun x vs H Q => ∃ (l : Addr) (xs : List V) (i : Int) (y : V), x = .ref l ∧ vs = [.int i, y] ∧ H l = some (.lst xs) ∧ xs.length < sizeLine ∧ 0 ≤ i ∧ i < 2 ^ 63 ∧
    Q .non (upd H l (.lst (xs.take i.toNat ++ [y] ++ xs.drop i.toNat)))) gIns := by
  intro H B a ws zs xs vs d zs' Q hs ha rz rx e hq
  unfold gIns at e
  split at e
  · split at e
    · rename_i hz
      cases e
      cases rx with
      | cons r t =>
        cases t with
        | cons r2 t =>
          cases t
          cases r
          exact ⟨a, ws, _, _, rfl, rfl, ha, by rw [RDs.length _ _ rz]; exact hz.1, hz.2.1, hz.2.2, hq _ _ .non (((rz.take _).append (.cons r2 .nil)).append (rz.drop _))⟩
    · cases e
  · cases e
def gPop0 : List D → List D → Option (D × List D)
  | zs, [] => zs[zs.length - 1]?.map fun d => (d, zs.dropLast)
  | _, _ => none
theorem ru_pop0 {K : PySem.W.Frag} : RuM K rPop gPop0 := by
  intro H B a ws zs xs vs d zs' Q hs ha rz rx e hq
  unfold gPop0 at e
  split at e
  · obtain ⟨d', e1, e2⟩ := Option.map_eq_some_iff.mp e
    cases e2
    cases rx
    obtain ⟨v, hv, r⟩ := rz.get e1
    exact ⟨a, ws, v, rfl, rfl, ha, by rw [RDs.length _ _ rz]; exact hv, hq _ _ r rz.dropLast⟩
  · cases e
def gPopI : List D → List D → Option (D × List D)
  | zs, [.int i] => if -(2 ^ 63) ≤ i ∧ i < 2 ^ 63 then (match seqIndex? i zs.length with
    | some k => zs[k]?.map fun d => (d, zs.eraseIdx k)
    | none => none) else none
  | _, _ => none
theorem ru_popI {K : PySem.W.Frag} : RuM K rPopAt gPopI := by
  intro H B a ws zs xs vs d zs' Q hs ha rz rx e hq
  unfold gPopI at e
  split at e
  · split at e
    · rename_i hi
      split at e
      · rename_i k hk
        obtain ⟨d', e1, e2⟩ := Option.map_eq_some_iff.mp e
        cases e2
        obtain ⟨v', rfl, r1⟩ := paired1 rx
        cases r1.int
        obtain ⟨v, hv, r⟩ := rz.get e1
        exact ⟨a, ws, _, k, v, rfl, rfl, ha, hi.1, hi.2, by rw [RDs.length _ _ rz]; exact hk, hv, hq _ _ r (rz.erase k)⟩
      · cases e
    · cases e
  · cases e
def gRev : List D → List D → Option (D × List D)
  | zs, [] => some (.none, zs.reverse)
  | _, _ => none
theorem ru_rev {K : PySem.W.Frag} : RuM K rReverse gRev := by
  intro H B a ws zs xs vs d zs' Q hs ha rz rx e hq
  unfold gRev at e
  split at e
  · cases e
    cases rx
    exact ⟨a, ws, rfl, rfl, ha, hq _ _ .non rz.reverse⟩
  · cases e
def gClr : List D → List D → Option (D × List D)
  | _, [] => some (.none, [])
  | _, _ => none
theorem ru_clr {K : PySem.W.Frag} : RuM K rClear gClr := by
  intro H B a ws zs xs vs d zs' Q hs ha rz rx e hq
  unfold gClr at e
  split at e
  · cases e
    cases rx
    exact ⟨a, ws, rfl, rfl, ha, hq _ _ .non .nil⟩
  · cases e
/-- extend by a list or a tuple, wherever it stands -/
theorem list_extendW (T : String) (hT : T = "list" ∨ T = "tuple") (l : Addr) (items : Array Value) (n : Nat) (b : Addr) (items2 : Array Value) (n2 : Nat) (dd2 : Option Addr) (sl2 : Array (Option Value)) (hs0 : ¬(!items.isEmpty && Builtin.List.listTooLong (items.size + items2.size)) = true) (hs1 : items.size ≤ sizeLine) (hs2 : items.size + items2.size ≤ sizeLine + 1) :
    Meets (Builtin.«list.extend» ⟨[.ref l, .ref b], []⟩) (fun _ R s => s.heap.get? l = some { cls := .type "list", dict := none, data := .seq items n, slots := #[] } ∧ s.heap.get? b = some { cls := .type T, dict := dd2, data := .seq items2 n2, slots := sl2 } ∧ R (.ok (.ret Value.none)) { s with heap := s.heap.update l (Obj.mapSeq fun x => x ++ items2), toks := s.toks }) :=
  .of_wp fun prog w A R s h => by
    obtain ⟨hp, g, d, tk, os⟩ := s; obtain ⟨hl, hb, h⟩ := h; have f1 := AutoSeq1.idx_int; have f2 := AutoSeq1.sub_tuple_tuple; have f3 := AutoSeq1.sub_list_list; have f4 := AutoSeq1.sub_tuple_list; have f5 := AutoSeq1.sub_list_tuple
    have hz' : (items ++ items2).size ≤ sizeLine + 1 := by rw [Array.size_append]; exact hs2
    rcases hT with rfl | rfl
    · wp_walk using (wpAny_updateSeq hl rfl (hz := hs1) (_hz' := hz')), AutoSeq1.wpAny_loadPart' hl, AutoSeq1.wpAny_loadPart' hb; exact ⟨_, rfl, h⟩
    · wp_walk using (wpAny_updateSeq hl rfl (hz := hs1) (_hz' := hz')), AutoSeq1.wpAny_loadPart' hl, AutoSeq1.wpAny_loadPart' hb; exact ⟨_, rfl, h⟩
/-- extend by a list or a tuple -/
def rExtA (K : PySem.W.Frag) : V → List V → Hp → VK → Prop := fun x vs H Q => ∃ l b xs zs, x = .ref l ∧ vs = [.ref b] ∧ H l = some (.lst xs) ∧ (SqL K H b zs ∨ SqT K H b zs) ∧ xs.length + zs.length ≤ sizeLine ∧ Q .non (upd H l (.lst (xs ++ zs)))
theorem mt_extA {X : Cx} : MtR X "list.extend" (rExtA X.K) := by
  intro pins s σ H x vs v us Q I rx rv h
  obtain ⟨l, b, xs, zs, rfl, rfl, hH, hB, hz, q⟩ := h
  cases rx
  obtain ⟨u, rfl, ru⟩ := vals1 rv
  cases ru
  obtain ⟨z, its, n, r, hl, e⟩ := I.lstM hH
  have key : ∃ (T : String) (its2 : List Value) (n2 : Nat) (dd2 : Option Addr) (sl2 : Array (Option Value)), (T = "list" ∨ T = "tuple") ∧ Vals zs its2 ∧ s.heap.get? b = some { cls := .type T, dict := dd2, data := .seq its2.toArray n2, slots := sl2 } := by
    rcases hB with hB | hB
    · obtain ⟨its2, r2, pl, _⟩ := I.list hB
      obtain ⟨⟨cls, dd, data, sl⟩, ho, hc, n, hd⟩ := pl.isList
      simp only at hc hd
      subst hc hd
      exact ⟨"list", its2, _, _, _, .inl rfl, r2, ho⟩
    · obtain ⟨its2, r2, pl, _⟩ := I.tuple hB
      obtain ⟨⟨cls, dd, data, sl⟩, ho, hc, n, hd⟩ := pl
      simp only at hc hd
      subst hc hd
      exact ⟨"tuple", its2, _, _, _, .inr rfl, r2, ho⟩
  obtain ⟨T, its2, n2, dd2, sl2, hT, r2, e2⟩ := key
  have hl2 := r2.length
  have hsz : its.toArray.size + its2.toArray.size ≤ sizeLine := by rw [List.size_toArray, List.size_toArray]; omega
  have hlong : ¬ (!its.toArray.isEmpty && Builtin.List.listTooLong (its.toArray.size + its2.toArray.size)) = true := by
    rw [notLongL hsz, Bool.and_false]
    exact Bool.false_ne_true
  refine call_meets F.slot_list_extend ⟨_, e, rfl⟩ F.entry_list_extend (F.args_list_extend_2 _ _)
    (list_extendW T hT l its.toArray n b its2.toArray n2 dd2 sl2 hlong (by rw [List.size_toArray]; omega) (by omega)) ⟨e, e2, ?_⟩
  refine ⟨.non, _, I.lset (its' := its ++ its2) hH e (by simp) (r.append r2) ?_, rfl, q⟩
  rw [List.length_append]
  omega
def gExt : List D → List D → Option (D × List D)
  | zs, [.list ds] => if zs.length + ds.length ≤ sizeLine then some (.none, zs ++ ds) else none
  | zs, [.tuple ds] => if zs.length + ds.length ≤ sizeLine then some (.none, zs ++ ds) else none
  | _, _ => none
theorem ru_ext {K : PySem.W.Frag} : RuM K (rExtA K) gExt := by
  intro H B a ws zs xs vs d zs' Q hs ha rz rx e hq
  unfold gExt at e
  split at e
  · split at e
    · rename_i hz
      cases e
      obtain ⟨v', rfl, r1⟩ := paired1 rx
      obtain ⟨b, us, rfl, h1, r⟩ := r1.list hs
      exact ⟨a, b, ws, us, rfl, rfl, ha, .inl h1, by rw [RDs.length _ _ rz, RDs.length _ _ r]; exact hz, hq _ _ .non (rz.append r)⟩
    · cases e
  · split at e
    · rename_i hz
      cases e
      obtain ⟨v', rfl, r1⟩ := paired1 rx
      obtain ⟨b, us, rfl, h1, r⟩ := r1.tuple hs
      exact ⟨a, b, ws, us, rfl, rfl, ha, .inr h1, by rw [RDs.length _ _ rz, RDs.length _ _ r]; exact hz, hq _ _ .non (rz.append r)⟩
    · cases e
  · cases e
end
end Mi

set_option Elab.async false
set_option linter.all false
set_option maxRecDepth 100000
namespace Mi
open PySem PySem.Spec L2

/-! ### statements -/
inductive Fl where
  | nx
  | rt (o : O)
  | bk
  | ct
section
variable (K : PySem.W.Frag) (cl : String → Addr) (E : XK) (io : List Nat)
def EndS (P B : Hp) (D : Ends) (fl : Fl) (σ' : L2.St) (H' B' : Hp) (fps' : Nat → List Addr) : Prop := match fl with
  | .nx => D.nx σ' H'
  | .bk => D.bk σ' H'
  | .ct => D.ct σ' H'
  | .rt o => ∀ v fp, OwnR K B' H' o v fp → (∀ a ∈ fp, B' a = none ∧ P a = none ∧ ∀ i ∈ io, a ∉ fps' i) → D.rt v H'
/-- the slots of io hold what they held -/
def SameIo (σ σ' : L2.St) : Prop := ∀ i ∈ io, σ'[i]? = σ[i]?
/-- the end of a statement: R of the new slots, heaps, frame -/
def PostS {α : Type} (σ : L2.St) (P B : Hp) (r : Rs α) (R : α → L2.St → Hp → Hp → (Nat → List Addr) → Env → Prop) : Prop := match r with
  | .ok a env => ∀ σ' H' B' fps', Ext P B B' → Fm K P B' H' σ' env fps' → SameIo io σ σ' → R a σ' H' B' fps' env
  | .ex c env => ∀ σ' H' B' fps', Ext P B B' → Fm K P B' H' σ' env fps' → SameIo io σ σ' → E (.ref (cl c)) none H'
  | .stuck => False
def tMS (m : M Fl) : TS := fun D σ H => ∃ P B env fps, Fm K P B H σ env fps ∧ PostS K cl E io σ P B (m env) fun fl σ' H' B' fps' _ => EndS K io P B D fl σ' H' B' fps'
end
theorem SameIo.refl {io : List Nat} {σ : L2.St} : SameIo io σ σ := fun _ _ => rfl
theorem SameIo.trans {io : List Nat} {σ σ1 σ2 : L2.St} (h : SameIo io σ σ1) (k : SameIo io σ1 σ2) : SameIo io σ σ2 := fun i hi => (k i hi).trans (h i hi)
def DS (X : Cx) (cl : String → Addr) (E : XK) (io : List Nat) (st : Stmt) (m : M Fl) : Prop := PS X st (tMS X.K cl E io m)
def DSs (X : Cx) (cl : String → Addr) (E : XK) (io : List Nat) (st : List Stmt) (m : M Fl) : Prop := PSs X st (tMS X.K cl E io m)
section
variable {K : PySem.W.Frag} {cl : String → Addr} {E : XK} {io : List Nat} {P B B' H : Hp} {σ σ' : L2.St} {env : Env} {fps : Nat → List Addr}
theorem PostS.ext {α : Type} {r : Rs α} {R : α → L2.St → Hp → Hp → (Nat → List Addr) → Env → Prop} (x : Ext P B B') (s : SameIo io σ σ') (h : PostS K cl E io σ P B r R) : PostS K cl E io σ' P B' r R := by
  cases r with
  | ok r env => exact fun σ2 H' B2 fps x2 F s2 => h σ2 H' B2 fps (x.trans x2) F (s.trans s2)
  | ex c env => exact fun σ2 H' B2 fps x2 F s2 => h σ2 H' B2 fps (x.trans x2) F (s.trans s2)
  | stuck => exact h
theorem PostS.mono {α : Type} {r : Rs α} {R R' : α → L2.St → Hp → Hp → (Nat → List Addr) → Env → Prop} (h : PostS K cl E io σ P B r R) (k : ∀ a σ' H' B' fps env, Ext P B B' → Fm K P B' H' σ' env fps → SameIo io σ σ' → R a σ' H' B' fps env → R' a σ' H' B' fps env) : PostS K cl E io σ P B r R' := by
  cases r with
  | ok r env => exact fun σ2 H' B2 fps x2 F s2 => k _ _ _ _ _ _ x2 F s2 (h σ2 H' B2 fps x2 F s2)
  | ex c env => exact h
  | stuck => exact h
/-- something, then something -/
theorem postS_bnd {α β : Type} {m : M α} {k : α → M β} {R : β → L2.St → Hp → Hp → (Nat → List Addr) → Env → Prop} (h : PostS K cl E io σ P B ((bnd m k) env) R) :
    PostS K cl E io σ P B (m env) fun a σ1 H1 B1 fps1 env1 => PostS K cl E io σ1 P B1 (k a env1) R := by
  unfold bnd at h
  cases q : m env with
  | ok r env1 =>
    rw [q] at h
    intro σ1 H1 B1 fps1 x F1 s1
    exact PostS.ext x s1 h
  | ex c env1 => rw [q] at h; exact h
  | stuck => rw [q] at h; exact h.elim
/-- an expression, then something -/
theorem postS_e {α : Type} {m : M Rv} {k : Rv → M α} {R : α → L2.St → Hp → Hp → (Nat → List Addr) → Env → Prop} (h : PostS K cl E io σ P B ((bnd m k) env) R) :
    PostE K cl E P B σ (m env) fun v H1 => ∃ B1 env1 fps1 r, Ext P B B1 ∧ Fm K P B1 H1 σ env1 fps1 ∧ RvR K P B1 H1 σ fps1 r v ∧ PostS K cl E io σ P B1 (k r env1) R := by
  unfold bnd at h
  cases q : m env with
  | ok r env1 =>
    rw [q] at h
    intro v H1 B1 fps1 x F1 r1
    exact ⟨B1, env1, fps1, r, x, F1, r1, PostS.ext x SameIo.refl h⟩
  | ex c env1 => rw [q] at h; exact fun H' B' fps' x F => h σ H' B' fps' x F SameIo.refl
  | stuck => rw [q] at h; exact h.elim
theorem postS_t {α β : Type} {m : M α} {k : α → M β} {R : β → L2.St → Hp → Hp → (Nat → List Addr) → Env → Prop} (h : PostS K cl E io σ P B ((bnd m k) env) R) :
    PostX K cl E P B σ (m env) fun a H1 B1 fps1 env1 => PostS K cl E io σ P B1 (k a env1) R := by
  unfold bnd at h
  cases q : m env with
  | ok r env1 =>
    rw [q] at h
    intro H1 B1 fps1 x F1
    exact PostS.ext x SameIo.refl h
  | ex c env1 => rw [q] at h; exact fun H' B' fps' x F => h σ H' B' fps' x F SameIo.refl
  | stuck => rw [q] at h; exact h.elim
theorem PostS.nx (F : Fm K P B H σ env fps) {D : Ends} (h : PostS K cl E io σ P B (.ok .nx env) fun fl σ' H' B' fps' _ => EndS K io P B' D fl σ' H' B' fps') : D.nx σ H := h σ H B fps Ext.refl F SameIo.refl
end

/-! small ones -/
def mSeq (a b : M Fl) : M Fl := bnd a fun fl => match fl with
  | .nx => b
  | fl => ret fl
def mEx (m : M Rv) : M Fl := bnd m fun _ => ret .nx
def mRet (io : List Nat) (m : M Rv) : M Fl := bnd m fun r env => match r with
  | .d x => .ok (.rt (.dat x)) env
  | .own o => .ok (.rt o) env
  | .pl i => if io.contains i = true then .stuck else match env[i]? with
    | some (some o) => .ok (.rt o) env
    | _ => .stuck
def mIte (t : M Bool) (a b : M Fl) : M Fl := bnd t fun c => if c = true then a else b
section
variable {X : Cx} {cl : String → Addr} {E : XK} {io : List Nat} {e : Expr} {st : Stmt} {sts rest : List Stmt} {m : M Rv} {t : M Bool} {a b : M Fl} {pos : Pos}
theorem tMS_nx {D : Ends} {σ : L2.St} {H : Hp} (h : tMS X.K cl E io (ret .nx) D σ H) : D.nx σ H := by
  obtain ⟨P, B, env, fps, F, h⟩ := h
  exact h σ H B fps Ext.refl F SameIo.refl
theorem ds_pass : DS X cl E io (.Pass pos) (ret .nx) := ⟨fun pins s σ H D I h => ps_pass.run pins s σ H D I (tMS_nx h)⟩
theorem ds_break : DS X cl E io (.Break pos) (ret .bk) := ⟨fun pins s σ H D I ⟨P, B, env, fps, F, h⟩ => ps_break.run pins s σ H D I (h σ H B fps Ext.refl F SameIo.refl)⟩
theorem ds_continue : DS X cl E io (.Continue pos) (ret .ct) := ⟨fun pins s σ H D I ⟨P, B, env, fps, F, h⟩ => ps_continue.run pins s σ H D I (h σ H B fps Ext.refl F SameIo.refl)⟩
theorem dss_nil : DSs X cl E io [] (ret .nx) := ⟨fun pins s σ H D I h => pss_nil.run pins s σ H D I (tMS_nx h)⟩
theorem dss_cons (h1 : DS X cl E io st a) (h2 : DSs X cl E io rest b) : DSs X cl E io (st :: rest) (mSeq a b) := by
  refine ⟨fun pins s σ H D I ⟨P, B, env, fps, F, h⟩ => (pss_cons h1 h2).run pins s σ H D I ?_⟩
  refine ⟨P, B, env, fps, F, (postS_bnd h).mono fun fl σ1 H1 B1 fps1 env1 x1 F1 s1 h3 => ?_⟩
  cases fl with
  | nx => exact ⟨P, B1, env1, fps1, F1, h3⟩
  | bk => exact h3 σ1 H1 B1 fps1 Ext.refl F1 SameIo.refl
  | ct => exact h3 σ1 H1 B1 fps1 Ext.refl F1 SameIo.refl
  | rt o => exact h3 σ1 H1 B1 fps1 Ext.refl F1 SameIo.refl
theorem dss_one (h1 : DS X cl E io st a) : DSs X cl E io [st] a := pss_one h1
theorem ds_expr (he : DE X cl E e m) (hs : swapsWith e none pos.line X.env = pure false := by rfl) : DS X cl E io (.Expr e pos) (mEx m) := by
  refine ⟨fun pins s σ H D I ⟨P, B, env, fps, F, h⟩ => (ps_expr he hs).run pins s σ H D I ?_⟩
  refine ⟨P, B, env, fps, F, ?_⟩
  have h1 := postS_e h
  cases q : m env with
  | ok r env1 =>
    rw [q] at h1
    intro v H1 B1 fps1 x1 F1 r1
    obtain ⟨B2, env2, fps2, r2, x2, F2, s2, h2⟩ := h1 v H1 B1 fps1 x1 F1 r1
    exact h2 σ H1 B2 fps2 Ext.refl F2 SameIo.refl
  | ex c env1 => rw [q] at h1; exact h1
  | stuck => rw [q] at h1; exact h1.elim
theorem ds_ret (he : DE X cl E e m) : DS X cl E io (.Return (some e) pos) (mRet io m) := by
  refine ⟨fun pins s σ H D I ⟨P, B, env, fps, F, h⟩ => (ps_ret he).run pins s σ H D I ?_⟩
  refine ⟨P, B, env, fps, F, ?_⟩
  have h1 := postS_e h
  cases q : m env with
  | ok r env1 =>
    rw [q] at h1
    intro v H1 B1 fps1 x1 F1 r1
    obtain ⟨B2, env2, fps2, r2, x2, F2, s2, h2⟩ := h1 v H1 B1 fps1 x1 F1 r1
    cases r2 with
    | d x => exact h2 σ H1 B2 fps2 Ext.refl F2 SameIo.refl v [] (.dat s2) (fun a ha => by simp at ha)
    | own o =>
      obtain ⟨fp, o1, o2⟩ := s2
      exact h2 σ H1 B2 fps2 Ext.refl F2 SameIo.refl v fp o1 fun a ha => ⟨(o2 a ha).1, (o2 a ha).2.1, fun i _ => (o2 a ha).2.2 i⟩
    | pl i =>
      dsimp only at h2
      split at h2
      · exact h2.elim
      · rename_i hio
        split at h2
        · rename_i o eo
          have r3 := F2.pl eo s2
          refine h2 σ H1 B2 fps2 Ext.refl F2 SameIo.refl v (fps2 i) r3 fun a ha => ⟨(F2.off i a ha).1, (F2.off i a ha).2, fun j hj z => ?_⟩
          have := F2.dis i j a ha z
          subst this
          exact hio (List.contains_iff_mem.mpr hj)
        · exact h2.elim
  | ex c env1 => rw [q] at h1; exact h1
  | stuck => rw [q] at h1; exact h1.elim
theorem ds_retN : DS X cl E io (.Return none pos) (ret (.rt (.dat .none))) := ⟨fun pins s σ H D I ⟨P, B, env, fps, F, h⟩ => ps_retN.run pins s σ H D I (h σ H B fps Ext.refl F SameIo.refl .non [] (.dat .non) (fun a ha => by simp at ha))⟩
theorem ds_if {c : Expr} {sa sb : List Stmt} (hc : DT X cl E c t) (ha : DSs X cl E io sa a) (hb : DSs X cl E io sb b) : DS X cl E io (.If c sa sb pos) (mIte t a b) := by
  refine ⟨fun pins s σ H D I ⟨P, B, env, fps, F, h⟩ => (ps_if hc ha hb).run pins s σ H D I ?_⟩
  refine ⟨P, B, env, fps, F, (postS_t h).mono fun c H1 B1 fps1 env1 x1 F1 h1 => ?_⟩
  cases c with
  | true => exact ⟨P, B1, env1, fps1, F1, h1⟩
  | false => exact ⟨P, B1, env1, fps1, F1, h1⟩
theorem ds_never : DS X cl E io st stk := ⟨fun pins s σ H D I ⟨P, B, env, fps, F, h⟩ => h.elim⟩
theorem dss_never : DSs X cl E io sts stk := ⟨fun pins s σ H D I ⟨P, B, env, fps, F, h⟩ => h.elim⟩
end

/-! ### stores -/
def setEnv (i : Nat) (r : Rv) : M Unit := fun env => match r with
  | .d x => .ok () (env.set i (some (.dat x)))
  | .own o => .ok () (env.set i (some o))
  | .pl _ => .stuck
def setK (i : Nat) (r : Rv) : M Fl := match r with
  | .pl j => bnd (frzR (.pl j)) fun d => bnd (setEnv i (.d d)) fun _ => ret .nx
  | r => bnd (setEnv i r) fun _ => ret .nx
def mSet (i : Nat) (m : M Rv) : M Fl := bnd m (setK i)
section
variable {K : PySem.W.Frag} {cl : String → Addr} {E : XK} {io : List Nat} {P B B' H : Hp} {σ σ' : L2.St} {env : Env} {fps : Nat → List Addr}
/-- a slot is stored anew -/
theorem Fm.store (F : Fm K P B H σ env fps) {i : Nat} {o : O} {v : V} {fp : List Addr} (hi : i < σ.length) (r : OwnR K B H o v fp) (hf : ∀ a ∈ fp, B a = none ∧ P a = none ∧ ∀ j, a ∉ fps j) :
    Fm K P B H (σ.set i (some v)) (env.set i (some o)) (setF fps i fp) := by
  have hj : ∀ {j a}, a ∈ setF fps i fp j → (j = i ∧ a ∈ fp) ∨ (j ≠ i ∧ a ∈ fps j) := fun {j a} h => by
    by_cases z : j = i
    · subst z; rw [setF_same] at h; exact .inl ⟨rfl, h⟩
    · rw [setF_ne z] at h; exact .inr ⟨z, h⟩
  refine ⟨by simpa using F.len, F.sub, F.prt, fun j o' q => ?_, fun j q => ?_, fun j k a h1 h2 => ?_, fun j a h => ?_, F.tab, F.nbT, F.npT⟩
  · rcases env_set q with ⟨rfl, z⟩ | ⟨hj, q⟩
    · cases z
      exact ⟨v, by rw [List.getElem?_set_self hi], by rw [setF_same]; exact r⟩
    · obtain ⟨w, e1, r1⟩ := F.slot j o' q
      exact ⟨w, by rw [List.getElem?_set_ne (Ne.symm hj)]; exact e1, by rw [setF_ne hj]; exact r1⟩
  · by_cases z : j = i
    · subst z
      rcases q with q | q
      · rcases env_set q with ⟨_, z⟩ | ⟨z, _⟩
        · cases z
        · exact absurd rfl z
      · rw [List.getElem?_eq_none_iff] at q
        rw [List.length_set, F.len] at q
        omega
    · rw [setF_ne z]
      rcases q with q | q
      · rcases env_set q with ⟨y, _⟩ | ⟨_, q⟩
        · exact absurd y z
        · exact F.emp j (.inl q)
      · exact F.emp j (.inr (env_set_none q))
  · rcases hj h1 with ⟨rfl, m1⟩ | ⟨n1, m1⟩ <;> rcases hj h2 with ⟨rfl, m2⟩ | ⟨n2, m2⟩
    · rfl
    · exact absurd m2 ((hf a m1).2.2 k)
    · exact absurd m1 ((hf a m2).2.2 j)
    · exact F.dis j k a m1 m2
  · rcases hj h with ⟨rfl, m1⟩ | ⟨n1, m1⟩
    · exact ⟨(hf a m1).1, (hf a m1).2.1⟩
    · exact F.off j a m1
theorem sameIo_set {i : Nat} {v : Option V} (h : io.contains i = false) : SameIo io σ (σ.set i v) := fun j hj => by
  have : i ≠ j := by
    rintro rfl
    rw [List.contains_iff_mem.mpr hj] at h
    cases h
  rw [List.getElem?_set_ne this]
/-- storing what an expression gave -/
theorem setEnv_ok (F : Fm K P B H σ env fps) {i : Nat} {r : Rv} {v : V} {env' : Env} {u : Unit} (hi : i < σ.length) (q : RvR K P B H σ fps r v) (e : setEnv i r env = .ok u env') : ∃ fps', Fm K P B H (σ.set i (some v)) env' fps' := by
  cases r with
  | d x =>
    cases e
    exact ⟨_, F.store hi (.dat q) fun a ha => by simp at ha⟩
  | own o =>
    cases e
    obtain ⟨fp, r, hf⟩ := q
    exact ⟨_, F.store hi r hf⟩
  | pl j => cases e
end
section
variable {X : Cx} {cl : String → Addr} {E : XK} {io : List Nat} {e : Expr} {m : M Rv} {pos : Pos} {i : Nat} {x : Str} {pos' : Pos}
theorem post_set {P B H : Hp} {σ : L2.St} {env : Env} {fps : Nat → List Addr} {r : Rv} {v : V} {D : Ends} (F : Fm X.K P B H σ env fps) (hi : i < σ.length) (hio : io.contains i = false) (q : RvR X.K P B H σ fps r v)
    (h : PostS X.K cl E io σ P B (setK i r env) fun fl σ' H' B' fps' _ => EndS X.K io P B' D fl σ' H' B' fps') : D.nx (σ.set i (some v)) H := by
  cases r with
  | d x =>
    obtain ⟨fps', F'⟩ := setEnv_ok (u := ()) F hi q rfl
    exact h _ H B fps' Ext.refl F' (sameIo_set hio)
  | own o =>
    obtain ⟨fps', F'⟩ := setEnv_ok (u := ()) F hi q rfl
    exact h _ H B fps' Ext.refl F' (sameIo_set hio)
  | pl j =>
    unfold setK bnd at h
    dsimp only at h
    cases z : frzR (.pl j) env with
    | ok d env1 =>
      rw [z] at h
      obtain ⟨B1, fps1, x1, F1, r1⟩ := frzR_ok (r := .pl j) F q z
      obtain ⟨fps', F'⟩ := setEnv_ok (u := ()) (r := .d d) F1 hi r1 rfl
      exact h _ H B1 fps' x1 F' (sameIo_set hio)
    | ex c env1 => exact absurd z frzR_nex
    | stuck => rw [z] at h; exact h.elim
theorem ds_set (hN : X.N.Nodup) (hi : X.N[i]? = some x) (hx : Loc X.env.scope x) (hio : io.contains i = false) (he : DE X cl E e m) (hs : swapsWith e (some (.Name x pos')) pos.line X.env = pure false := by rfl) (hf : X.fn x = true ∨ X.env.scope.names.lookup x = some .local := by first | exact .inl rfl | exact .inr rfl | assumption) :
    DS X cl E io (.Assign [.Name x pos'] e pos) (mSet i m) := by
  refine ⟨fun pins s σ H D I ⟨P, B, env, fps, F, h⟩ => (ps_set hN hi hx he hs hf).run pins s σ H D I ?_⟩
  have hlt : i < σ.length := by rw [I.len]; exact getElem?_lt hi
  refine ⟨P, B, env, fps, F, ?_⟩
  have h1 := postS_e h
  cases q : m env with
  | ok r env1 =>
    rw [q] at h1
    intro v H1 B1 fps1 x1 F1 r1
    obtain ⟨B2, env2, fps2, r2, x2, F2, s2, h2⟩ := h1 v H1 B1 fps1 x1 F1 r1
    exact post_set F2 hlt hio s2 h2
  | ex c env1 => rw [q] at h1; exact h1
  | stuck => rw [q] at h1; exact h1.elim
end

/-! ### a def by its body -/
/-- the frame at the entry; the end -/
@[irreducible] def runF (n : Nat) (m : M Fl) : M O := fun os => match m (os ++ List.replicate (n - os.length) none) with
  | .ok (.rt o) env => .ok o env
  | .ok .nx env => .ok (.dat .none) env
  | .ok _ _ => .stuck
  | .ex c env => .ex c env
  | .stuck => .stuck
theorem Fm.start {K : PySem.W.Frag} {P B H : Hp} {vs : List V} {os : Env} {fps : Nat → List Addr} {N : List Str} (F : Fm K P B H (vs.map some) os fps) : Fm K P B H (L2.start N vs) (os ++ List.replicate (N.length - os.length) none) fps := by
  have hl : os.length = vs.length := by rw [F.len, List.length_map]
  unfold L2.start
  refine ⟨by simp [hl], F.sub, F.prt, fun i o e => ?_, fun i e => ?_, F.dis, F.off, F.tab, F.nbT, F.npT⟩
  · by_cases hi : i < os.length
    · rw [List.getElem?_append_left hi] at e
      obtain ⟨v, e1, r⟩ := F.slot i o e
      exact ⟨v, by rw [List.getElem?_append_left (by simpa using hl ▸ hi)]; exact e1, r⟩
    · rw [List.getElem?_append_right (by omega), List.getElem?_replicate] at e
      split at e <;> cases e
  · by_cases hi : i < os.length
    · rw [List.getElem?_append_left hi] at e
      exact F.emp i e
    · refine F.emp i (.inr ?_)
      rw [List.getElem?_eq_none_iff]
      omega
theorem fn_by {P : Program} {w : World} {K : PySem.W.Frag} {mg : Str → Option Value} {base : Heap} {CXc : CXT} {x qual : Str} {params : Arguments} {body : List Stmt} {scope : Scope} {f : Addr} {fd : FuncData} {N ps : List Str} {k n : Nat} {cl : String → Addr} {io : List Nat} {m : M Fl}
    (F : FunD K x qual params body scope [] [] f fd) (S : FnScope N ps scope) (hn : ps.length = n) (hio : ∀ i ∈ io, i < n)
    (hbody : ∀ (cdv : Value) (A : Around) (outer : List PySem.Env) (s : Shared) (H : Hp) (E : XK), Room k (A.deeper (PyProof.Rows.envOfC qual scope s.heap.objs.size f cdv)) →
      DSs (cxOf CXc P w K mg base N qual scope f cdv A outer s H E) cl E io body m) : FnOk P w K mg base CXc (k + 1) f fd ps (spF K cl n io (runF N.length m)) := by
  refine F.ok S (fun vs H Q E h => by rw [hn]; exact h.1) fun cdv A outer s H vs Q E hr h => ⟨_, hbody cdv A outer s H E hr, ?_⟩
  obtain ⟨hl, P', B, os, fps, F1, h⟩ := h
  refine ⟨P', B, _, fps, F1.start, ?_⟩
  have same : ∀ {σ' : L2.St}, SameIo io (L2.start N vs) σ' → ∀ i ∈ io, σ'[i]? = (vs.map some)[i]? := fun {σ'} s i hi => by
    rw [s i hi]
    unfold L2.start
    rw [List.getElem?_append_left (by rw [List.length_map, hl]; exact hio i hi)]
  unfold runF at h
  cases q : m (os ++ List.replicate (N.length - os.length) none) with
  | ok fl env =>
    rw [q] at h
    cases fl with
    | rt o =>
      intro σ' H' B' fps' x F' s v fp r off
      exact h v H' B' fps' σ' fp x F' (same s) r off
    | nx =>
      intro σ' H' B' fps' x F' s
      exact h .non H' B' fps' σ' [] x F' (same s) (.dat .non) fun a ha => by simp at ha
    | bk => exact h.elim
    | ct => exact h.elim
  | ex c env =>
    rw [q] at h
    intro σ' H' B' fps' x F' s
    exact h H' B' fps' σ' x F' (same s)
  | stuck => rw [q] at h; exact h.elim
end Mi

set_option Elab.async false
set_option linter.all false
set_option maxRecDepth 100000
/-! what is walked: enumerate and zip of lists and tuples in any mix -/
namespace Mi
open PySem PySem.Spec L2

/-! ### a list or a tuple -/
def SqK (k : Bool) (K : PySem.W.Frag) (H : Hp) (a : Addr) (xs : List V) : Prop := if k = true then SqL K H a xs else SqT K H a xs
def SeqAt1 (k : Bool) (h : Heap) (a : Addr) (its : Array Value) : Prop := if k = true then h.IsList a its else h.IsTuple a its
def SeqIter (k : Bool) (h : Heap) (it a : Addr) (i : Nat) : Prop := if k = true then h.IsListIter it a i else h.IsTupleIter it a i
def seqIterO (k : Bool) (a : Addr) : Obj := if k = true then { cls := .type "list_iterator", data := .fields #[.ref a, .int 0 0] } else { cls := .type "tuple_iterator", data := .fields #[.ref a, .int 0 0] }
theorem SeqIter.new {k : Bool} {h : Heap} {it a : Addr} (e : h.get? it = some (seqIterO k a)) : SeqIter k h it a 0 := by
  cases k
  · exact ⟨_, e, rfl, rfl⟩
  · exact ⟨_, e, rfl, rfl⟩
theorem SeqIter.at {k : Bool} {h h' : Heap} {it a : Addr} {i : Nat} (x : SeqIter k h it a i) (kk : ∀ o, h.get? it = some o → h'.get? it = some o) : SeqIter k h' it a i := by
  cases k
  · exact Heap.IsTupleIter.at (show h.IsTupleIter it a i from x) kk
  · exact Heap.IsListIter.at (show h.IsListIter it a i from x) kk
theorem SeqIter.obj {k : Bool} {h : Heap} {it a : Addr} {i : Nat} (x : SeqIter k h it a i) : ∃ o, h.get? it = some o ∧ ∀ v, o.data ≠ .cell v := by
  cases k
  · obtain ⟨o, e, _, d⟩ := (show h.IsTupleIter it a i from x)
    exact ⟨o, e, fun v z => by rw [d] at z; cases z⟩
  · obtain ⟨o, e, _, d⟩ := (show h.IsListIter it a i from x)
    exact ⟨o, e, fun v z => by rw [d] at z; cases z⟩
theorem inv_sq {X : Cx} {pins : List (Addr × Obj)} {σ : L2.St} {H : Hp} {s : Shared} {k : Bool} {a : Addr} {xs : List V} (I : Inv X pins σ H s) (h : SqK k X.K H a xs) : ∃ its : List Value, Vals xs its ∧ SeqAt1 k s.heap a its.toArray ∧ xs.length ≤ sizeLine := by
  cases k
  · obtain ⟨its, r, p, z⟩ := I.tuple (show SqT X.K H a xs from h)
    exact ⟨its, r, (show s.heap.IsTuple a its.toArray from p), z⟩
  · obtain ⟨its, r, p, z⟩ := I.list (show SqL X.K H a xs from h)
    exact ⟨its, r, p.isList, z⟩
theorem inv_sq_inj {X : Cx} {pins : List (Addr × Obj)} {σ : L2.St} {H : Hp} {s : Shared} {k : Bool} {a : Addr} {xs ys : List V} (I : Inv X pins σ H s) (h : SqK k X.K H a xs) (h' : SqK k X.K H a ys) : xs = ys := by
  cases k
  · exact I.tuple_inj h h'
  · exact I.list_inj h h'
theorem SeqAt1.lt {k : Bool} {h : Heap} {a : Addr} {its : Array Value} (x : SeqAt1 k h a its) : a < h.objs.size := by
  cases k
  · obtain ⟨o, e, _⟩ := (show h.IsTuple a its from x)
    exact Heap.lt_size e
  · obtain ⟨o, e, _⟩ := (show h.IsList a its from x)
    exact Heap.lt_size e
theorem draws_sq {prog : Program} {w : World} {A : Around} (hh : A.handled = none) (k : Bool) (it a : Addr) (hne : a ≠ it) (items : Array Value) :
    Draws prog w A it [it, a] items.size (fun i v => items[i]? = some v) (fun i h => SeqIter k h it a i ∧ SeqAt1 k h a items) := by
  cases k
  · exact Draws.tuple hh it a hne items
  · exact Draws.list hh it a hne items
theorem begins_sq (k : Bool) (a : Addr) (items : Array Value) : Begins (.ref a) (seqIterO k a) fun h => SeqAt1 k h a items := by
  cases k
  · exact begins_tuple a items
  · exact begins_list a items

/-! ### enumerate -/
def IteK (k : Bool) (K : PySem.W.Frag) (a : Addr) : It :=
  ⟨fun i H => ∃ (xs : List V) (x : V), SqK k K H a xs ∧ xs[i]? = some x, fun i H v H' => ∃ T x, v = .ref T ∧ H T = none ∧ H' = upd H T (.tup [.int (i : Nat), x]) ∧ ∀ xs, SqK k K H a xs → xs[i]? = some x, fun i H => ∃ xs : List V, SqK k K H a xs ∧ xs.length = i⟩
theorem turn_enumK {P : Program} {w : World} {K : PySem.W.Frag} {elts : List Expr} {kk : Nat} {tpos : Pos} (k : Bool) (a e it : Addr) (hea : e ≠ a) (hia : a ≠ it) :
    Turn P w K (.Tuple elts kk tpos) (IteK k K a) [e, it] e (fun i h => (∃ old, IsEnum h e it ((i : Nat) : Int) old) ∧ SeqIter k h it a i ∧ e ≠ it) where
  mem := by simp
  obj := fun i h st b hb => by
    obtain ⟨⟨old, he⟩, hi, _⟩ := st
    have e' : b = e ∨ b = it := by simpa using hb
    rcases e' with z | z
    · rw [z]; exact ⟨_, he, fun v q => nomatch q⟩
    · rw [z]; exact hi.obj
  keep := fun i h h' st kp => let ⟨⟨old, he⟩, hi, hne⟩ := st; ⟨⟨old, kp e (by simp) _ he⟩, hi.at fun o q => kp it (by simp) o q, hne⟩
  item := by
    intro X hP hw hK hc i pins s σ H E I hf st hg
    subst hP hw hK
    obtain ⟨⟨old, he⟩, hit, hne⟩ := st
    obtain ⟨xs, x, hq, hx⟩ := hg
    obtain ⟨its, rv, p, hz⟩ := inv_sq I hq
    obtain ⟨u, hu, ru⟩ := rv.get hx
    have hel : e < s.heap.objs.size := Heap.lt_size he
    have hil : it < s.heap.objs.size := by obtain ⟨o, q, _⟩ := hit.obj; exact Heap.lt_size q
    have hlt : i < its.toArray.size := by
      have := (List.getElem?_eq_some_iff.mp hu).1
      simpa using this
    have G := GoesN.enumFrom (prog := X.prog) (w := X.w) (A := X.A) (elts := elts) (x1 := kk) (pos := tpos) 0 (draws_sq (prog := X.prog) (w := X.w) (A := X.A.in1) (I.ok.hd hc) k it a hia its.toArray) e hne (by simp [hne, hea]) (by simp)
    refine G.goes i s _ E hlt ⟨⟨old, by rw [Int.zero_add]; exact he⟩, hit, p⟩ fun v h' tk hY st' hk htk => ?_
    obtain ⟨T, t, y, rfl, hT, hy, hTup⟩ := hY
    obtain ⟨⟨old', he'⟩, hit', p'⟩ := st'
    have ey : y = u := by
      have q : its.toArray[i]? = some u := by simpa using hu
      rw [q] at hy
      exact (Option.some.inj hy).symm
    subst ey
    have new : ObjOk X.prog X.w (upd H T (.tup [.int (i : Nat), x])) h' T (.tup [.int (i : Nat), x]) :=
      ⟨by show 2 ≤ sizeLine; decide, [.int (0 + (i : Int)) t, y], .cons ⟨_, by rw [Int.zero_add]⟩ (.cons ru .nil), hTup⟩
    have I1 : Inv X pins σ (upd H T (.tup [.int (i : Nat), x])) { s with heap := h', toks := tk } :=
      I.turnedNew (ch := [e, it]) (fun b ob hb q => hk b ob hb q) hf hT new
    refine ⟨.ref T, _, I1, rfl, ⟨T, x, rfl, I.hok.fresh hT, rfl, fun ys hy => by rw [inv_sq_inj I hy hq]; exact hx⟩, ⟨⟨old', ?_⟩, hit', hne⟩, fun b hb => ?_⟩
    · have e1 : (0 : Int) + ((i + 1 : Nat) : Int) = ((i + 1 : Nat) : Int) := by omega
      rw [e1] at he'; exact he'
    · have hb' : b < s.heap.objs.size := by
        have e' : b = e ∨ b = it := by simpa using hb
        rcases e' with z | z
        · rw [z]; exact hel
        · rw [z]; exact hil
      rw [upd_ne (Nat.ne_of_lt (Nat.lt_of_lt_of_le hb' hT))]
      exact (hf b hb).1
  done := by
    intro X hP hw hK hc i pins s σ H E I hf st hg
    subst hP hw hK
    obtain ⟨⟨old, he⟩, hit, hne⟩ := st
    obtain ⟨xs, hq, hx⟩ := hg
    obtain ⟨its, rv, p, hz⟩ := inv_sq I hq
    have hl := rv.length
    have G := GoesN.enumFrom (prog := X.prog) (w := X.w) (A := X.A) (elts := elts) (x1 := kk) (pos := tpos) 0 (draws_sq (prog := X.prog) (w := X.w) (A := X.A.in1) (I.ok.hd hc) k it a hia its.toArray) e hne (by simp [hne, hea]) (by simp)
    have hi : i = its.toArray.size := by simp only [List.size_toArray]; omega
    subst hi
    exact G.stops s _ E ⟨⟨old, by rw [Int.zero_add]; exact he⟩, hit, p⟩ fun h' tk hk htk => I.turnedL (ch := [e, it]) (fun b o hb q => hk b o hb q) hf
  self := fun A i s Q E st h => let ⟨⟨_, he⟩, _⟩ := st; wpAny_pyIter_enum he h

set_option maxHeartbeats 1000000 in
theorem meets_enumerate_newB1 {v : Value} {o : Obj} {H : Heap → Prop} (B : Begins v o H) :
    Meets (Builtin.«enumerate.__new__» ⟨[.type "enumerate", v], []⟩) (fun _ R s => H s.heap ∧
      R (.ok (.ret (.ref (s.heap.push o).objs.size))) { s with heap := (s.heap.push o).push { cls := .type "enumerate", data := .fields #[.none, .bool false, .ref s.heap.objs.size, rawInt 0, .none, .none] } }) :=
  .of_wp fun prog w A R s h => by
    obtain ⟨hp, g, d, tk, os⟩ := s; obtain ⟨h1, h⟩ := h
    have hsub := sub_enumerate
    have q1 : ∀ {A' : Around} {E : Value → Shared → Prop} {Q : Value → Shared → Prop}, Q (.ref hp.objs.size) ⟨hp.push o, g, d, tk, os⟩ → wpAny (model prog w) A' (pyIter v) Q E ⟨hp, g, d, tk, os⟩ :=
      fun q => B.iter prog w _ _ ⟨hp, g, d, tk, os⟩ _ h1 q
    wp_walk using q1
    refine wpAny_stack_any fun st => wpAny_pure ?_
    split
    · rename_i c _ _ _ _ _
      cases (c == Value.type "enumerate")
      · wp_walk using q1
        exact ⟨_, rfl, h⟩
      · wp_walk using q1
        exact ⟨_, rfl, h⟩
    · wp_walk using q1
      exact ⟨_, rfl, h⟩
theorem enum_begins1 {prog : Program} {w : World} {A : Around} {E : Value → Shared → Prop} {s : Shared} {v : Value} {o : Obj} {H : Heap → Prop} {Q : Value → Shared → Prop} (B : Begins v o H) (h1 : H s.heap)
    (h : ∀ h', IsEnum h' (s.heap.objs.size + 1) s.heap.objs.size 0 .none → h'.get? s.heap.objs.size = some o → h'.objs.size = s.heap.objs.size + 2 →
      (∀ b o, s.heap.get? b = some o → h'.get? b = some o) → Q (.ref (s.heap.objs.size + 1)) { s with heap := h' }) :
    wpAny (model prog w) A (call (.type "enumerate") [v]) Q E s := by
  refine callType_new F.called_enumerate (by decide) (F.typeCall_enumerate_1 _) (F.newCall_enumerate_1 _) (fun obj => F.args_object_init_2 obj _) F.entry_enumerate_new
    (meets_enumerate_newB1 B) ⟨h1, ?_⟩
  have hz : (s.heap.push o).objs.size = s.heap.objs.size + 1 := Heap.size_push ..
  show _ ∧ _
  rw [hz]
  have he : IsEnum ((s.heap.push o).push { cls := .type "enumerate", data := .fields #[.none, .bool false, .ref s.heap.objs.size, rawInt 0, .none, .none] }) (s.heap.objs.size + 1) s.heap.objs.size 0 .none := by
    have := Heap.get?_push_size (s.heap.push o) (o := { cls := .type "enumerate", data := .fields #[.none, .bool false, .ref s.heap.objs.size, rawInt 0, .none, .none] }) rfl
    rw [hz] at this; exact this
  refine ⟨⟨_, he, rfl⟩, h _ he (Heap.get?_push_of_some _ (Heap.get?_push_size _ B.free)) (by rw [Heap.size_push, hz]) fun b o x => Heap.get?_push_of_some _ (Heap.get?_push_of_some _ x)⟩
def iEnumK (K : PySem.W.Frag) (ta : TA) : TI := fun σ H R => ta σ H fun vs H1 => ∃ k a xs, vs = [.ref a] ∧ SqK k K H1 a xs ∧ R (IteK k K a) H1
theorem pi_enumK {X : Cx} {e : Expr} {ta : TA} {p pos tpos : Pos} {elts : List Expr} {kk : Nat} (hg : Gl X "enumerate") (hm : X.mg "enumerate" = none) (ha : PA X [e] ta) (hs : starEach [e] X.env = [(false, eval e X.env)] := by rfl) :
    PI X (.Tuple elts kk tpos) (.Call (.Name "enumerate" p) [e] [] pos) (iEnumK X.K ta) := by
  refine ⟨fun pins s σ H R I h => ?_⟩
  refine PyProof.Rows.Call_ (ld_blt I hg hm PyProof.Rows.boot_enumerate (PyProof.Rows.callWith_type1 (thn (ha.run pos pins s σ H _ I h) fun us s1 ⟨vs, H1, I1, r1, q1⟩ => ?_) hs rfl))
  obtain ⟨k, a, xs, ex, hq, q⟩ := q1
  subst ex
  cases r1 with
  | cons r rr =>
    cases rr
    cases r
    obtain ⟨its, rv, p', hz⟩ := inv_sq I1 hq
    have hlt := p'.lt
    refine enum_begins1 (begins_sq k a its.toArray) p' fun h' he hit hsz hk => wpAny_pyIter_enum he ?_
    have I2 : Inv X pins σ H1 { s1 with heap := h' } := I1.kept (t' := s1.toks) hk
    refine ⟨s1.heap.objs.size + 1, [s1.heap.objs.size + 1, s1.heap.objs.size], _, _, H1, rfl, I2, turn_enumK k a (s1.heap.objs.size + 1) s1.heap.objs.size (Nat.ne_of_gt (Nat.lt_succ_of_lt hlt)) (Nat.ne_of_lt hlt), ⟨⟨.none, he⟩, SeqIter.new hit, Nat.succ_ne_self _⟩, fun b hb => ?_, q⟩
    have e' : b = s1.heap.objs.size + 1 ∨ b = s1.heap.objs.size := by simpa using hb
    have hle : s1.heap.objs.size ≤ b := by
      rcases e' with z | z
      · rw [z]; exact Nat.le_add_right _ _
      · rw [z]; exact Nat.le_refl _
    exact I1.fpOk hle (I1.hok.fresh hle)

/-! ### zip of two -/
theorem mem45 {c z TI TO i1 i2 : Addr} (h : c ∈ [z, TO, i1, i2]) : c ∈ [z, TI, TO, i1, i2] := by
  simp only [List.mem_cons, List.not_mem_nil, or_false] at h ⊢
  rcases h with h | h | h | h
  · exact .inl h
  · exact .inr (.inr (.inl h))
  · exact .inr (.inr (.inr (.inl h)))
  · exact .inr (.inr (.inr (.inr h)))
def ItzK (k k2 : Bool) (K : PySem.W.Frag) (a b : Addr) : It :=
  ⟨fun i H => ∃ (xs ys : List V) (x y : V), SqK k K H a xs ∧ SqK k2 K H b ys ∧ xs[i]? = some x ∧ ys[i]? = some y,
    fun i H v H' => ∃ T x y, v = .ref T ∧ H T = none ∧ H' = upd H T (.tup [x, y]) ∧ (∀ xs, SqK k K H a xs → xs[i]? = some x) ∧ ∀ ys, SqK k2 K H b ys → ys[i]? = some y,
    fun i H => ∃ xs ys : List V, SqK k K H a xs ∧ SqK k2 K H b ys ∧ min xs.length ys.length = i⟩
theorem turn_zipK {P : Program} {w : World} {K : PySem.W.Frag} {elts : List Expr} {kk : Nat} {tpos : Pos} (k k2 : Bool) {a b z TI TO i1 i2 : Addr} (D : ZipSep2 z TI TO i1 i2 [i1, a] [i2, b]) (h1a : a ≠ i1) (h2b : b ≠ i2) :
    Turn P w K (.Tuple elts kk tpos) (ItzK k k2 K a b) [z, TI, TO, i1, i2] z (fun i h => IsZip h z TI TO .none ∧ IsTupOf2 h TI (.ref i1) (.ref i2) ∧ (∃ x y, IsTupOf2 h TO x y) ∧ SeqIter k h i1 a i ∧ SeqIter k2 h i2 b i) where
  mem := by simp
  obj := fun i h st c hc => by
    obtain ⟨hz, hTI, ⟨x, y, hTO⟩, h1, h2⟩ := st
    have e' : c = z ∨ c = TI ∨ c = TO ∨ c = i1 ∨ c = i2 := by simpa using hc
    rcases e' with q | q | q | q | q
    · rw [q]; exact ⟨_, hz, fun v q => nomatch q⟩
    · rw [q]; exact ⟨_, hTI, fun v q => nomatch q⟩
    · rw [q]; exact ⟨_, hTO, fun v q => nomatch q⟩
    · rw [q]; exact h1.obj
    · rw [q]; exact h2.obj
  keep := fun i h h' st k => by
    obtain ⟨hz, hTI, ⟨x, y, hTO⟩, h1, h2⟩ := st
    exact ⟨k z (by simp) _ hz, k TI (by simp) _ hTI, ⟨x, y, k TO (by simp) _ hTO⟩, h1.at fun o q => k i1 (by simp) o q, h2.at fun o q => k i2 (by simp) o q⟩
  item := by
    intro X hP hw hK hc i pins s σ H E I hf st hg
    subst hP hw hK
    obtain ⟨hz, hTI, hTO, h1, h2⟩ := st
    obtain ⟨xs, ys, x, y, hqx, hqy, hx, hy⟩ := hg
    obtain ⟨its, rv, p, _⟩ := inv_sq I hqx
    obtain ⟨its2, rv2, p2, _⟩ := inv_sq I hqy
    obtain ⟨u, hu, ru⟩ := rv.get hx
    obtain ⟨u2, hu2, ru2⟩ := rv2.get hy
    have l1 : i < its.toArray.size := by simpa using (List.getElem?_eq_some_iff.mp hu).1
    have l2 : i < its2.toArray.size := by simpa using (List.getElem?_eq_some_iff.mp hu2).1
    have G := GoesN.zip2 (prog := X.prog) (w := X.w) (A := X.A) (elts := elts) (x1 := kk) (pos := tpos) D (draws_sq (prog := X.prog) (w := X.w) (A := X.A.in1) (I.ok.hd hc) k i1 a h1a its.toArray) (draws_sq (prog := X.prog) (w := X.w) (A := X.A.in1) (I.ok.hd hc) k2 i2 b h2b its2.toArray)
    refine G.goes i s _ E (by omega) ⟨hz, hTI, hTO, ⟨h1, p⟩, ⟨h2, p2⟩⟩ fun v h' tk hY st' hk htk => ?_
    obtain ⟨T, y1, y2, rfl, hT, hy1, hy2, hTup⟩ := hY
    obtain ⟨hz', hTI', hTO', ⟨h1', _⟩, ⟨h2', _⟩⟩ := st'
    have e1 : y1 = u := by
      have q : its.toArray[i]? = some u := by simpa using hu
      rw [q] at hy1
      exact (Option.some.inj hy1).symm
    have e2 : y2 = u2 := by
      have q : its2.toArray[i]? = some u2 := by simpa using hu2
      rw [q] at hy2
      exact (Option.some.inj hy2).symm
    subst e1 e2
    have new : ObjOk X.prog X.w (upd H T (.tup [x, y])) h' T (.tup [x, y]) :=
      ⟨by show 2 ≤ sizeLine; decide, [y1, y2], .cons ru (.cons ru2 .nil), hTup⟩
    have I1 : Inv X pins σ (upd H T (.tup [x, y])) { s with heap := h', toks := tk } :=
      I.turnedNew (ch := [z, TI, TO, i1, i2]) (fun c o hb q => hk c o (fun q' => hb (mem45 q')) q) hf hT new
    refine ⟨.ref T, _, I1, rfl, ⟨T, x, y, rfl, I.hok.fresh hT, rfl, fun l hl => by rw [inv_sq_inj I hl hqx]; exact hx, fun l hl => by rw [inv_sq_inj I hl hqy]; exact hy⟩, ⟨hz', hTI', hTO', h1', h2'⟩, fun c hcm => ?_⟩
    have hlt : c < s.heap.objs.size := by
      obtain ⟨x0, y0, hTO0⟩ := hTO
      have e' : c = z ∨ c = TI ∨ c = TO ∨ c = i1 ∨ c = i2 := by simpa using hcm
      rcases e' with q | q | q | q | q
      · rw [q]; exact Heap.lt_size hz
      · rw [q]; exact Heap.lt_size hTI
      · rw [q]; exact Heap.lt_size hTO0
      · rw [q]; obtain ⟨_, e1, _⟩ := h1.obj; exact Heap.lt_size e1
      · rw [q]; obtain ⟨_, e2, _⟩ := h2.obj; exact Heap.lt_size e2
    rw [upd_ne (Nat.ne_of_lt (Nat.lt_of_lt_of_le hlt hT))]
    exact (hf c hcm).1
  done := by
    intro X hP hw hK hc i pins s σ H E I hf st hg
    subst hP hw hK
    obtain ⟨hz, hTI, hTO, h1, h2⟩ := st
    obtain ⟨xs, ys, hqx, hqy, hend⟩ := hg
    obtain ⟨its, rv, p, _⟩ := inv_sq I hqx
    obtain ⟨its2, rv2, p2, _⟩ := inv_sq I hqy
    have l1 := rv.length
    have l2 := rv2.length
    have G := GoesN.zip2 (prog := X.prog) (w := X.w) (A := X.A) (elts := elts) (x1 := kk) (pos := tpos) D (draws_sq (prog := X.prog) (w := X.w) (A := X.A.in1) (I.ok.hd hc) k i1 a h1a its.toArray) (draws_sq (prog := X.prog) (w := X.w) (A := X.A.in1) (I.ok.hd hc) k2 i2 b h2b its2.toArray)
    have hi : i = min its.toArray.size its2.toArray.size := by simp only [List.size_toArray]; omega
    subst hi
    exact G.stops s _ E ⟨hz, hTI, hTO, ⟨h1, p⟩, ⟨h2, p2⟩⟩ fun h' tk hk htk => I.turnedL (ch := [z, TI, TO, i1, i2]) (fun c o hb q => hk c o (fun q' => hb (mem45 q')) q) hf
  self := fun A i s Q E st h => wpAny_pyIter_zip st.1 h
def iZipK (K : PySem.W.Frag) (ta : TA) : TI := fun σ H R => ta σ H fun vs H1 => ∃ k k2 a b xs ys, vs = [.ref a, .ref b] ∧ SqK k K H1 a xs ∧ SqK k2 K H1 b ys ∧ R (ItzK k k2 K a b) H1
theorem pi_zipK {X : Cx} {e e2 : Expr} {ta : TA} {p pos tpos : Pos} {elts : List Expr} {kk : Nat} (hg : Gl X "zip") (hm : X.mg "zip" = none) (ha : PA X [e, e2] ta)
    (hs : starEach [e, e2] X.env = (false, eval e X.env) :: starEach [e2] X.env := by rfl) (hpl : (backTo pos (starEach [e2] X.env)).any (·.1) = false := by rfl) :
    PI X (.Tuple elts kk tpos) (.Call (.Name "zip" p) [e, e2] [] pos) (iZipK X.K ta) := by
  refine ⟨fun pins s σ H R I h => ?_⟩
  refine PyProof.Rows.Call_ (ld_blt I hg hm PyProof.Rows.boot_zip (PyProof.Rows.callWith_type1 (thn (ha.run pos pins s σ H _ I h) fun us s1 ⟨vs, H1, I1, r1, q1⟩ => ?_) hs hpl))
  obtain ⟨k, k2, a, b, xs, ys, ex, hqx, hqy, q⟩ := q1
  subst ex
  cases r1 with
  | cons r rr =>
    cases rr with
    | cons r' rr =>
      cases rr
      cases r
      cases r'
      have fresh5 : ∀ c, c ∈ [s1.heap.objs.size + 4, s1.heap.objs.size + 2, s1.heap.objs.size + 3, s1.heap.objs.size, s1.heap.objs.size + 1] → FpOk X pins H1 c := fun c hcm => by
        have e' : c = s1.heap.objs.size + 4 ∨ c = s1.heap.objs.size + 2 ∨ c = s1.heap.objs.size + 3 ∨ c = s1.heap.objs.size ∨ c = s1.heap.objs.size + 1 := by simpa using hcm
        have hle : s1.heap.objs.size ≤ c := by
          rcases e' with z | z | z | z | z
          · rw [z]; exact Nat.le_add_right _ _
          · rw [z]; exact Nat.le_add_right _ _
          · rw [z]; exact Nat.le_add_right _ _
          · rw [z]; exact Nat.le_refl _
          · rw [z]; exact Nat.le_add_right _ _
        exact I1.fpOk hle (I1.hok.fresh hle)
      obtain ⟨its, rv, p1, _⟩ := inv_sq I1 hqx
      obtain ⟨its2, rv2, p2, _⟩ := inv_sq I1 hqy
      refine zip_begins2 (begins_sq k a its.toArray) (begins_sq k2 b its2.toArray) p1 p2 fun h' hz hTI hTO h1 h2 hsz hk => wpAny_pyIter_zip hz ?_
      have I2 : Inv X pins σ H1 { s1 with heap := h' } := I1.kept (t' := s1.toks) hk
      refine ⟨s1.heap.objs.size + 4, [s1.heap.objs.size + 4, s1.heap.objs.size + 2, s1.heap.objs.size + 3, s1.heap.objs.size, s1.heap.objs.size + 1], _, _, H1, rfl, I2,
        turn_zipK k k2 (zip_sep2 (N := s1.heap.objs.size) (fp1 := [a]) (fp2 := [b]) (by simpa using p1.lt) (by simpa using p2.lt)) (Nat.ne_of_lt p1.lt) (Nat.ne_of_lt (Nat.lt_succ_of_lt p2.lt)), ⟨hz, hTI, ⟨_, _, hTO⟩, SeqIter.new h1, SeqIter.new h2⟩, fresh5, q⟩
/-- an expression that gives a list, a tuple or a text -/
def iSeq (K : PySem.W.Frag) (te : TE) : TI := fun σ H R => te σ H fun x H1 => (∃ a xs, x = .ref a ∧ SqL K H1 a xs ∧ R (Itl K a) H1) ∨ (∃ a xs, x = .ref a ∧ SqT K H1 a xs ∧ R (Itt K a) H1) ∨ ∃ z, x = .str z ∧ R (Its z) H1
theorem pi_seq {X : Cx} {tg e : Expr} {te : TE} (he : PE X e te) : PI X tg e (iSeq X.K te) := by
  refine ⟨fun pins s σ H R I h => ?_⟩
  -- one of the three rules, behind the expression
  have A : ∀ (Q : VK), te σ H Q → wpAny (model X.prog X.w) X.A (eval e X.env) (EP X pins σ Q) X.xe s := fun Q q => he.run pins s σ H Q I q
  refine thn (he.run pins s σ H _ I h) fun v s1 ⟨x, H1, I1, r1, q1⟩ => ?_
  rcases q1 with ⟨a, xs, rfl, hq, q⟩ | ⟨a, xs, rfl, hq, q⟩ | ⟨z, rfl, q⟩
  · cases r1
    obtain ⟨its, rv, p, hz⟩ := I1.list hq
    refine wpAny_pyIter_list p.isList ?_
    refine ⟨s1.heap.objs.size, [s1.heap.objs.size], _, _, H1, rfl, I1.kept (t' := s1.toks) fun b o e => Heap.get?_push_of_some _ e, turn_list a _, ⟨_, Heap.get?_push_size _ rfl, rfl, rfl⟩, fun b hb => ?_, q⟩
    have e : b = s1.heap.objs.size := by simpa using hb
    subst e
    exact I1.fpOk (Nat.le_refl _) (I1.hok.fresh (Nat.le_refl _))
  · cases r1
    obtain ⟨its, rv, p, hz⟩ := I1.tuple hq
    refine wpAny_pyIter_tuple (show s1.heap.IsTuple a its.toArray from p) ?_
    refine ⟨s1.heap.objs.size, [s1.heap.objs.size], _, _, H1, rfl, I1.kept (t' := s1.toks) fun b o e => Heap.get?_push_of_some _ e, turn_tuple a _, ⟨_, Heap.get?_push_size _ rfl, rfl, rfl⟩, fun b hb => ?_, q⟩
    have e : b = s1.heap.objs.size := by simpa using hb
    subst e
    exact I1.fpOk (Nat.le_refl _) (I1.hok.fresh (Nat.le_refl _))
  · obtain ⟨t, rfl⟩ := r1
    -- as the layer's rule of a text
    refine wpAny_pyIter_strU (pi_one (tk := s1.toks) I1 _ (turn_str _ z t (strIterType z) ?_) ⟨_, Heap.get?_push_size _ rfl, rfl, rfl⟩ q)
    unfold strIterType
    split
    · exact .inl rfl
    · exact .inr rfl
end Mi

set_option Elab.async false
set_option linter.all false
set_option maxRecDepth 100000
/-! targets, for, while, comprehensions -/
namespace Mi
open PySem PySem.Spec L2

/-! ### equal data, decided -/
mutual
def eqD : D → D → Bool
  | .none, .none => true
  | .bool a, .bool b => a == b
  | .int a, .int b => decide (a = b)
  | .str a, .str b => decide (a = b)
  | .list a, .list b => eqDs a b
  | .tuple a, .tuple b => eqDs a b
  | .dict a, .dict b => a.isEmpty && b.isEmpty
  | _, _ => false
def eqDs : List D → List D → Bool
  | [], [] => true
  | x :: xs, y :: ys => eqD x y && eqDs xs ys
  | _, _ => false
end
mutual
theorem eqD_eq : ∀ (a b : D), eqD a b = true → a = b
  | .none, b, h => by cases b <;> simp [eqD] at h ⊢
  | .bool a, b, h => by cases b <;> simp [eqD] at h ⊢ <;> exact h
  | .int a, b, h => by cases b <;> simp [eqD] at h ⊢ <;> exact h
  | .str a, b, h => by cases b <;> simp [eqD] at h ⊢ <;> exact h
  | .list a, b, h => by
    cases b <;> simp [eqD] at h ⊢
    exact eqDs_eq a _ h
  | .tuple a, b, h => by
    cases b <;> simp [eqD] at h ⊢
    exact eqDs_eq a _ h
  | .dict a, b, h => by
    cases b <;> simp [eqD] at h ⊢
    rw [h.1, h.2]
theorem eqDs_eq : ∀ (a b : List D), eqDs a b = true → a = b
  | [], b, h => by cases b <;> simp [eqDs] at h ⊢
  | x :: xs, b, h => by
    cases b with
    | nil => simp [eqDs] at h
    | cons y ys =>
      simp [eqDs] at h
      rw [eqD_eq x y h.1, eqDs_eq xs ys h.2]
end

/-! ### targets -/
inductive Tg where
  | nm (i : Nat)
  | tp (ts : List Tg)
mutual
def asgT : Tg → D → Env → Option Env
  | .nm i, d, env => some (env.set i (some (.dat d)))
  | .tp ts, .tuple ds, env => asgTs ts ds env
  | .tp _, _, _ => none
def asgTs : List Tg → List D → Env → Option Env
  | [], [], env => some env
  | t :: ts, d :: ds, env => match asgT t d env with
    | some env' => asgTs ts ds env'
    | none => none
  | _, _, _ => none
end
mutual
def Tg.slots : Tg → List Nat
  | .nm i => [i]
  | .tp ts => slotsTs ts
def slotsTs : List Tg → List Nat
  | [] => []
  | t :: ts => t.slots ++ slotsTs ts
end
/-- all other slots hold what they held -/
def SameBut (js : List Nat) (σ σ' : L2.St) : Prop := σ'.length = σ.length ∧ ∀ i, i ∉ js → σ'[i]? = σ[i]?
theorem SameBut.refl {js : List Nat} {σ : L2.St} : SameBut js σ σ := ⟨rfl, fun _ _ => rfl⟩
def tGd (K : PySem.W.Frag) (tg : Tg) : TG := fun v σ H Q => ∃ P B env fps d env', Fm K P B H σ env fps ∧ RD K B d v ∧ asgT tg d env = some env' ∧ ∀ σ' fps', Fm K P B H σ' env' fps' → SameBut tg.slots σ σ' → Q σ' H
def tGds (K : PySem.W.Frag) (ts : List Tg) : TGs := fun vs σ H Q => ∃ P B env fps ds env', Fm K P B H σ env fps ∧ RDs K B ds vs ∧ asgTs ts ds env = some env' ∧ ∀ σ' fps', Fm K P B H σ' env' fps' → SameBut (slotsTs ts) σ σ' → Q σ' H
def DG (X : Cx) (e : Expr) (tg : Tg) : Prop := PG X e (tGd X.K tg)
def DGs (X : Cx) (es : List Expr) (ts : List Tg) : Prop := PGs X es (tGds X.K ts)
section
variable {X : Cx} {x : Str} {i n : Nat} {e : Expr} {es : List Expr} {t : Tg} {ts : List Tg} {pos : Pos}
theorem dg_name (hN : X.N.Nodup) (hi : X.N[i]? = some x) (hx : Loc X.env.scope x) (hf : X.fn x = true ∨ X.env.scope.names.lookup x = some .local := by first | exact .inl rfl | exact .inr rfl | assumption) : DG X (.Name x pos) (.nm i) := by
  refine ⟨fun pins s σ H v u Q I r h => (pg_name hN hi hx hf).run pins s σ H v u Q I r ?_⟩
  obtain ⟨P, B, env, fps, d, env', F, rd, e, h⟩ := h
  cases e
  have hlt : i < σ.length := by rw [I.len]; exact getElem?_lt hi
  refine h _ _ (F.store hlt (.dat rd) fun a ha => by simp at ha) ⟨by simp, fun j hj => ?_⟩
  rw [List.getElem?_set_ne]
  intro z
  subst z
  exact hj (by simp [Tg.slots])
theorem dgs_nil : DGs X [] [] := by
  refine ⟨fun pins s σ H vs us Q I r h => pgs_nil.run pins s σ H vs us Q I r ?_⟩
  obtain ⟨P, B, env, fps, ds, env', F, rd, e, h⟩ := h
  cases ds with
  | nil =>
    cases e
    cases rd
    exact ⟨rfl, h _ _ F SameBut.refl⟩
  | cons d ds => simp [asgTs] at e
theorem dgs_cons (h1 : DG X e t) (h2 : DGs X es ts) (hs : (assignEach (e :: es) X.env).map (·.2) = assign e X.env :: (assignEach es X.env).map (·.2) := by rfl) : DGs X (e :: es) (t :: ts) := by
  refine ⟨fun pins s σ H vs us Q I r h => (pgs_cons h1 h2 hs).run pins s σ H vs us Q I r ?_⟩
  obtain ⟨P, B, env, fps, ds, env', F, rd, e, h⟩ := h
  cases rd with
  | nil => simp [asgTs] at e
  | cons r1 r2 =>
    unfold asgTs at e
    split at e
    · rename_i env1 e1
      refine ⟨_, _, rfl, P, B, env, fps, _, env1, F, r1, e1, fun σ1 fps1 F1 s1 => ?_⟩
      refine ⟨P, B, env1, fps1, _, env', F1, r2, e, fun σ2 fps2 F2 s2 => h σ2 fps2 F2 ⟨s2.1.trans s1.1, fun j hj => ?_⟩⟩
      have q : j ∉ t.slots ∧ j ∉ slotsTs ts := by
        constructor <;> intro z <;> apply hj <;> simp [slotsTs, z]
      rw [s2.2 j q.2, s1.2 j q.1]
    · cases e
theorem dg_tup {k : Nat} (hc : X.calm = true) (h : DGs X es ts) (hn : (assignEach es X.env).length = n := by rfl) (hst : (assignEach es X.env).findIdx? (·.1) = none := by rfl) (hl : ts.length = n := by rfl) : DG X (.Tuple es k pos) (.tp ts) := by
  refine ⟨fun pins s σ H v u Q I r hw => (pg_tup hc h hn hst).run pins s σ H v u Q I r ?_⟩
  obtain ⟨P, B, env, fps, d, env', F, rd, e, h⟩ := hw
  cases rd with
  | tup hq hr =>
    rename_i a vs ds
    have ln : ∀ (ts : List Tg) (ds : List D) (env env' : Env), asgTs ts ds env = some env' → ts.length = ds.length := by
      intro ts
      induction ts with
      | nil =>
        intro ds env env' e
        cases ds with
        | nil => rfl
        | cons _ _ => simp [asgTs] at e
      | cons t ts ih =>
        intro ds env env' e
        cases ds with
        | nil => simp [asgTs] at e
        | cons d ds =>
          unfold asgTs at e
          split at e
          · rw [List.length_cons, List.length_cons, ih _ _ _ e]
          · cases e
    have e2 : asgTs ts ds env = some env' := by simpa [asgT] using e
    refine ⟨a, vs, rfl, F.sub.sqT hq, by rw [RDs.length _ _ hr, ← ln _ _ _ _ e2, hl], P, B, env, fps, ds, env', F, hr, e2, fun σ' fps' F' s' => h σ' fps' F' ?_⟩
    simpa [Tg.slots] using s'
  | _ => simp [asgT] at e
end

/-! ### what is walked -/
/-- the items, and the slot whose own list they are -/
structure Wk where
  items : List D
  src : Option (Nat × List D) := none
def srcOk (env : Env) : Option (Nat × List D) → Bool
  | none => true
  | some (j, ds) => match env[j]? with
    | some (some (.lst zs)) => eqDs zs ds
    | _ => false
theorem srcOk_get {env : Env} {j : Nat} {ds : List D} (h : srcOk env (some (j, ds)) = true) : env[j]? = some (some (.lst ds)) := by
  unfold srcOk at h
  simp only at h
  split at h
  · rename_i zs e
    rw [e, eqDs_eq _ _ h]
  · cases h
/-- the iterator gives the items, while the source stands -/
def JD (K : PySem.W.Frag) (J : It) (w : Wk) (σ0 : L2.St) (B0 : Hp) : Prop :=
  ∀ (P B H : Hp) (σ : L2.St) (env : Env) (fps : Nat → List Addr), Sub B0 B → Fm K P B H σ env fps → (∀ j ds, w.src = some (j, ds) → env[j]? = some (some (.lst ds)) ∧ σ[j]? = σ0[j]?) → ∀ i,
    (i = w.items.length → J.stop i H) ∧ ∀ d, w.items[i]? = some d → J.go i H ∧ ∀ x H', J.yld i H x H' → ∃ B', Ext P B B' ∧ Fm K P B' H' σ env fps ∧ RD K B' d x
def tI (K : PySem.W.Frag) (cl : String → Addr) (E : XK) (m : M Wk) : TI := fun σ H R => ∃ P B env fps, Fm K P B H σ env fps ∧ PostX K cl E P B σ (m env) fun w H1 B1 fps1 env1 => ∀ J, JD K J w σ B1 → R J H1
def DI (X : Cx) (cl : String → Addr) (E : XK) (tg iter : Expr) (m : M Wk) : Prop := PI X tg iter (tI X.K cl E m)

/-! ### for -/
def forL (tg : Tg) (src : Option (Nat × List D)) (body : M Fl) : List D → M Fl
  | [], env => if srcOk env src = true then .ok .nx env else .stuck
  | d :: ds, env => if srcOk env src = true then match asgT tg d env with
      | some env1 => match body env1 with
        | .ok .nx env2 => forL tg src body ds env2
        | .ok .ct env2 => forL tg src body ds env2
        | .ok .bk env2 => .ok .nx env2
        | .ok (.rt o) env2 => .ok (.rt o) env2
        | .ex c env2 => .ex c env2
        | .stuck => .stuck
      | none => .stuck
    else .stuck
def mFor (it : M Wk) (tg : Tg) (body : M Fl) : M Fl := bnd it fun w => forL tg w.src body w.items
section
variable {K : PySem.W.Frag} {cl : String → Addr} {E : XK} {io js : List Nat} {P B B' H : Hp} {σ σ' : L2.St} {env : Env} {fps : Nat → List Addr}
theorem srcOk_of {src : Option (Nat × List D)} (h : srcOk env src = true) : ∀ j ds, src = some (j, ds) → env[j]? = some (some (.lst ds)) := fun j ds e => by subst e; exact srcOk_get h
theorem sameIo_but (h : SameBut js σ σ') (hio : ∀ i ∈ js, io.contains i = false) : SameIo io σ σ' := fun i hi => h.2 i fun hj => by
  have := hio i hj
  rw [List.contains_iff_mem.mpr hi] at this
  cases this
end
section
variable {X : Cx} {cl : String → Addr} {E : XK} {io : List Nat} {tgt iter : Expr} {sts : List Stmt} {it : M Wk} {tg : Tg} {body : M Fl} {pos : Pos}
/-- ios: the slots that the body may not store anew: those of io, and the slot that is walked -/
theorem ds_for {ios : List Nat} (hp : PassesOwn (model X.prog X.w) X.A X.env X.xe) (hc : X.calm = true) (hi : DI X cl E tgt iter it) (hg : DG X tgt tg) (hb : DSs X cl E ios sts body) (hsub : ∀ i ∈ io, i ∈ ios) (hw : ∀ env w env' j ds, it env = .ok w env' → w.src = some (j, ds) → j ∈ ios)
    (hio : ∀ i ∈ tg.slots, ios.contains i = false) (hs : ∀ x, foldedSetIterable iter X.env x = pure x := by intro _; rfl) : DS X cl E io (.For tgt iter sts [] pos) (mFor it tg body) := by
  refine ⟨fun pins s σ H D I ⟨P, B, env, fps, F, h⟩ => (ps_for hp hc hi hg hb hs).run pins s σ H D I ?_⟩
  refine ⟨P, B, env, fps, F, ?_⟩
  have h1 := postS_t h
  cases q : it env with
  | ex c env1 => rw [q] at h1; exact h1
  | stuck => rw [q] at h1; exact h1.elim
  | ok w env1 =>
    rw [q] at h1
    intro H1 B1 fps1 x1 F1 J jd
    have h1 := h1 H1 B1 fps1 x1 F1
    refine ⟨fun i m σ' H' => m = w.items.length - i ∧ i ≤ w.items.length ∧ ∃ B' env' fps', Ext P B1 B' ∧ Fm X.K P B' H' σ' env' fps' ∧ SameIo ios σ σ' ∧ PostS X.K cl E io σ P B' (forL tg w.src body (w.items.drop i) env') fun fl σ2 H2 B2 fps2 _ => EndS X.K io P B2 D fl σ2 H2 B2 fps2,
      ⟨_, rfl, Nat.zero_le _, B1, env1, fps1, Ext.refl, F1, SameIo.refl, by rw [List.drop_zero]; exact h1⟩, ?_⟩
    rintro i m σ' H' ⟨rfl, hi, B', env', fps', x', F', s', h'⟩
    have sio : SameIo io σ σ' := fun j hj => s' j (hsub j hj)
    have src : srcOk env' w.src = true → ∀ j ds, w.src = some (j, ds) → env'[j]? = some (some (.lst ds)) ∧ σ'[j]? = σ[j]? := fun ho j ds e => ⟨srcOk_of ho j ds e, s' j (hw _ _ _ j ds q e)⟩
    by_cases hlt : i < w.items.length
    · have ed : w.items.drop i = w.items[i] :: w.items.drop (i + 1) := List.drop_eq_getElem_cons hlt
      rw [ed] at h'
      unfold forL at h'
      split at h'
      · rename_i ho
        split at h'
        · rename_i env2 ea
          obtain ⟨_, j2⟩ := jd P B' H' σ' env' fps' x'.1 F' (src ho) i
          obtain ⟨g1, g2⟩ := j2 w.items[i] (List.getElem?_eq_getElem hlt)
          refine .inr ⟨g1, fun σ3 H3 => i + 1 ≤ w.items.length ∧ ∃ B3 env3 fps3, Ext P B1 B3 ∧ Fm X.K P B3 H3 σ3 env3 fps3 ∧ SameIo ios σ σ3 ∧ PostS X.K cl E io σ P B3 (forL tg w.src body (w.items.drop (i + 1)) env3) fun fl σ2 H2 B2 fps2 _ => EndS X.K io P B2 D fl σ2 H2 B2 fps2,
            fun σ3 H3 ⟨l3, r3⟩ => ⟨w.items.length - (i + 1), by omega, rfl, l3, r3⟩, fun x H2 hy => ?_⟩
          obtain ⟨B2, x2, F2, rd⟩ := g2 x H2 hy
          refine ⟨P, B2, env', fps', _, env2, F2, rd, ea, fun σ3 fps3 F3 s3 => ?_⟩
          have s33 : SameIo ios σ' σ3 := sameIo_but s3 hio
          have s34 : SameIo io σ σ3 := fun j hj => (s33 j (hsub j hj)).trans (sio j hj)
          refine ⟨P, B2, env2, fps3, F3, ?_⟩
          have xx : Ext P B1 B2 := x'.trans x2
          cases qb : body env2 with
          | ok fl env4 =>
            rw [qb] at h'
            intro σ4 H4 B4 fps4 x4 F4 s4
            have s44 : SameIo io σ σ4 := fun j hj => (s4 j (hsub j hj)).trans (s34 j hj)
            have sw : SameIo ios σ σ4 := s'.trans (s33.trans s4)
            cases fl with
            | nx => exact ⟨by omega, B4, env4, fps4, xx.trans x4, F4, sw, PostS.ext (x2.trans x4) SameIo.refl h'⟩
            | ct => exact ⟨by omega, B4, env4, fps4, xx.trans x4, F4, sw, PostS.ext (x2.trans x4) SameIo.refl h'⟩
            | bk => exact h' σ4 H4 B4 fps4 (x2.trans x4) F4 s44
            | rt o =>
              intro v fp r off
              exact h' σ4 H4 B4 fps4 (x2.trans x4) F4 s44 v fp r fun a ha => ⟨(off a ha).1, (off a ha).2.1, fun j hj => (off a ha).2.2 j (hsub j hj)⟩
          | ex c env4 =>
            rw [qb] at h'
            intro σ4 H4 B4 fps4 x4 F4 s4
            exact h' σ4 H4 B4 fps4 (x2.trans x4) F4 fun j hj => (s4 j (hsub j hj)).trans (s34 j hj)
          | stuck => rw [qb] at h'; exact h'.elim
        · exact h'.elim
      · exact h'.elim
    · have e : i = w.items.length := by omega
      subst e
      rw [List.drop_length] at h'
      unfold forL at h'
      split at h'
      · rename_i ho
        obtain ⟨j1, _⟩ := jd P B' H' σ' env' fps' x'.1 F' (src ho) w.items.length
        exact .inl ⟨j1 rfl, h' σ' H' B' fps' Ext.refl F' sio⟩
      · exact h'.elim
end
end Mi

set_option Elab.async false
set_option linter.all false
set_option maxRecDepth 100000
namespace Mi
open PySem PySem.Spec L2

/-! ### what is walked -/
def seqOf (js : List Nat) (env : Env) : Rv → Option (Bool × List D × Option (Nat × List D))
  | .d (.list ds) => some (true, ds, none)
  | .d (.tuple ds) => some (false, ds, none)
  | .pl i => if js.contains i = true then match env[i]? with
    | some (some (.lst ds)) => some (true, ds, some (i, ds))
    | _ => none
    else none
  | _ => none
def SrcAt (σ0 σ : L2.St) (env : Env) (src : Option (Nat × List D)) : Prop := ∀ j ds, src = some (j, ds) → env[j]? = some (some (.lst ds)) ∧ σ[j]? = σ0[j]?
def SeqW (K : PySem.W.Frag) (σ0 : L2.St) (B0 : Hp) (k : Bool) (a : Addr) (ds : List D) (src : Option (Nat × List D)) : Prop :=
  ∀ (P B H : Hp) (σ : L2.St) (env : Env) (fps : Nat → List Addr), Sub B0 B → Fm K P B H σ env fps → SrcAt σ0 σ env src → ∃ vs, SqK k K H a vs ∧ RDs K B ds vs
section
variable {K : PySem.W.Frag} {cl : String → Addr} {E : XK} {js : List Nat} {P B B' H : Hp} {σ : L2.St} {env : Env} {fps : Nat → List Addr} {r : Rv} {v : V} {k : Bool} {ds : List D} {src : Option (Nat × List D)}
theorem seq_w (q : RvS K B σ r v) (F : Fm K P B H σ env fps) (e : seqOf js env r = some (k, ds, src)) : ∃ a, v = .ref a ∧ SeqW K σ B k a ds src ∧ ∀ B', Sub B B' → SeqW K σ B' k a ds src := by
  unfold seqOf at e
  split at e
  · cases e
    cases (show RD K B (.list _) v from q) with
    | lst h r => exact ⟨_, rfl, fun P B2 H2 σ2 env2 fps2 x F2 _ => ⟨_, (x.trans F2.sub).sqL h, RDs.mono x _ _ r⟩, fun B1 x1 P B2 H2 σ2 env2 fps2 x F2 _ => ⟨_, ((x1.trans x).trans F2.sub).sqL h, RDs.mono (x1.trans x) _ _ r⟩⟩
  · cases e
    cases (show RD K B (.tuple _) v from q) with
    | tup h r => exact ⟨_, rfl, fun P B2 H2 σ2 env2 fps2 x F2 _ => ⟨_, (x.trans F2.sub).sqT h, RDs.mono x _ _ r⟩, fun B1 x1 P B2 H2 σ2 env2 fps2 x F2 _ => ⟨_, ((x1.trans x).trans F2.sub).sqT h, RDs.mono (x1.trans x) _ _ r⟩⟩
  · rename_i i
    split at e
    · split at e
      · rename_i ds' he
        cases e
        obtain ⟨a, vs, rfl, hf, e1, r1⟩ := (F.pl he q).lst_inv
        have w : ∀ B', SeqW K σ B' true a ds (some (i, ds)) := by
          intro B' P2 B2 H2 σ2 env2 fps2 x F2 s
          obtain ⟨s1, s2⟩ := s i ds rfl
          have q' : σ2[i]? = some (some (.ref a)) := s2.trans q
          obtain ⟨a', vs', e3, hf', e4, r4⟩ := (F2.pl s1 q').lst_inv
          cases e3
          exact ⟨vs', SqL.of e4, r4⟩
        exact ⟨a, rfl, w B, fun B' _ => w B'⟩
      · cases e
    · cases e
  · cases e
theorem PostE.mono {K : PySem.W.Frag} {cl : String → Addr} {E : XK} {P B : Hp} {σ : L2.St} {r : Rs Rv} {Q Q' : VK} (h : PostE K cl E P B σ r Q) (k : ∀ v H, Q v H → Q' v H) : PostE K cl E P B σ r Q' := by
  cases r with
  | ok r env => exact fun v H' B2 fps x2 F r => k _ _ (h v H' B2 fps x2 F r)
  | ex c env => exact h
  | stuck => exact h
theorem seqOf_env {i : Nat} {xs : List D} (e : seqOf js env r = some (k, ds, some (i, xs))) : env[i]? = some (some (.lst xs)) := by
  unfold seqOf at e
  split at e
  · cases e
  · cases e
  · rename_i i
    split at e
    · split at e
      · rename_i he
        cases e
        exact he
      · cases e
    · cases e
  · cases e
theorem srcAt_of {σ : L2.St} (e : seqOf js env r = some (k, ds, src)) : SrcAt σ σ env src := fun j xs h => by
  subst h
  exact ⟨seqOf_env e, rfl⟩
theorem seqOf_src {j : Nat} {xs : List D} (e : seqOf js env r = some (k, ds, some (j, xs))) : j ∈ js := by
  unfold seqOf at e
  split at e
  · cases e
  · cases e
  · rename_i i
    split at e
    · rename_i hc
      split at e
      · cases e
        exact List.contains_iff_mem.mp hc
      · cases e
    · cases e
  · cases e
end

def txtD (z : Str) : List D := z.cps.toList.map fun c => .str ⟨#[c]⟩
def rngD (lo : Int) (n : Nat) : List D := (List.range n).map fun i => .int (lo + (i : Nat))
def rngCD (lo c : Int) (n : Nat) : List D := (List.range n).map fun i => .int (lo + (i : Nat) * c)
def enumD (ds : List D) : List D := ds.mapIdx fun i d => .tuple [.int (i : Nat), d]
def zipD (xs ys : List D) : List D := List.zipWith (fun x y => .tuple [x, y]) xs ys

section
variable {K : PySem.W.Frag} {σ : L2.St} {B : Hp} {k k2 : Bool} {a b : Addr} {ds es : List D} {src : Option (Nat × List D)}
theorem jd_l (w : SeqW K σ B true a ds src) : JD K (Itl K a) ⟨ds, src⟩ σ B := by
  intro P B1 H1 σ1 env1 fps1 x F s i
  obtain ⟨vs, h, r⟩ := w P B1 H1 σ1 env1 fps1 x F s
  refine ⟨fun e => ⟨vs, h, by rw [RDs.length _ _ r]; exact Nat.le_of_eq e.symm⟩, fun d e => ?_⟩
  obtain ⟨v, e1, r1⟩ := r.get e
  refine ⟨⟨vs, v, h, e1⟩, fun y H2 ⟨e2, e3⟩ => ?_⟩
  subst e2
  have e4 := e3 vs h
  rw [e1] at e4
  cases e4
  exact ⟨B1, Ext.refl, F, r1⟩
theorem jd_t (w : SeqW K σ B false a ds src) : JD K (Itt K a) ⟨ds, src⟩ σ B := by
  intro P B1 H1 σ1 env1 fps1 x F s i
  obtain ⟨vs, h, r⟩ := w P B1 H1 σ1 env1 fps1 x F s
  refine ⟨fun e => ⟨vs, h, by rw [RDs.length _ _ r]; exact Nat.le_of_eq e.symm⟩, fun d e => ?_⟩
  obtain ⟨v, e1, r1⟩ := r.get e
  refine ⟨⟨vs, v, h, e1⟩, fun y H2 ⟨e2, e3⟩ => ?_⟩
  subst e2
  have e4 := e3 vs h
  rw [e1] at e4
  cases e4
  exact ⟨B1, Ext.refl, F, r1⟩
theorem jd_s (z : Str) : JD K (Its z) ⟨txtD z, none⟩ σ B := by
  intro P B1 H1 σ1 env1 fps1 x F s i
  refine ⟨fun e => ?_, fun d e => ?_⟩
  · have e' : i = (txtD z).length := e
    show z.cps.size ≤ i
    rw [e']; unfold txtD; simp
  · have e' : (txtD z)[i]? = some d := e
    unfold txtD at e'
    rw [List.getElem?_map] at e'
    cases q : z.cps.toList[i]? with
    | none => rw [q] at e'; cases e'
    | some c =>
      rw [q] at e'
      cases e'
      have q2 : z.cps[i]? = some c := by simpa using q
      refine ⟨?_, fun y H2 ⟨e2, c', e3, e4⟩ => ?_⟩
      · show i < z.cps.size
        exact (Array.getElem?_eq_some_iff.mp q2).1
      · subst e2
        rw [q2] at e3
        cases e3
        subst e4
        exact ⟨B1, Ext.refl, F, .str _⟩
theorem jd_r (lo : Int) (n : Nat) : JD K (Itr lo n) ⟨rngD lo n, none⟩ σ B := by
  intro P B1 H1 σ1 env1 fps1 x F s i
  refine ⟨fun e => ?_, fun d e => ?_⟩
  · have e' : i = (rngD lo n).length := e
    show n ≤ i
    rw [e']; unfold rngD; simp
  · have e' : (rngD lo n)[i]? = some d := e
    unfold rngD at e'
    rw [List.getElem?_map] at e'
    cases q : (List.range n)[i]? with
    | none => rw [q] at e'; cases e'
    | some c =>
      rw [q] at e'
      cases e'
      obtain ⟨h1, h2⟩ := List.getElem?_eq_some_iff.mp q
      rw [List.getElem_range] at h2
      subst h2
      refine ⟨(by simpa using h1 : i < n), fun y H2 ⟨e2, e3⟩ => ?_⟩
      subst e2
      subst e3
      exact ⟨B1, Ext.refl, F, .int _⟩
theorem jd_c (lo c : Int) (n : Nat) : JD K (Itc lo c n) ⟨rngCD lo c n, none⟩ σ B := by
  intro P B1 H1 σ1 env1 fps1 x F s i
  refine ⟨fun e => ?_, fun d e => ?_⟩
  · have e' : i = (rngCD lo c n).length := e
    show n ≤ i
    rw [e']; unfold rngCD; simp
  · have e' : (rngCD lo c n)[i]? = some d := e
    unfold rngCD at e'
    rw [List.getElem?_map] at e'
    cases q : (List.range n)[i]? with
    | none => rw [q] at e'; cases e'
    | some c' =>
      rw [q] at e'
      cases e'
      obtain ⟨h1, h2⟩ := List.getElem?_eq_some_iff.mp q
      rw [List.getElem_range] at h2
      subst h2
      refine ⟨(by simpa using h1 : i < n), fun y H2 ⟨e2, e3⟩ => ?_⟩
      subst e2
      subst e3
      exact ⟨B1, Ext.refl, F, .int _⟩
theorem jd_e (w : SeqW K σ B k a ds src) : JD K (IteK k K a) ⟨enumD ds, src⟩ σ B := by
  intro P B1 H1 σ1 env1 fps1 x F s i
  obtain ⟨vs, h, r⟩ := w P B1 H1 σ1 env1 fps1 x F s
  have le : (enumD ds).length = vs.length := by rw [RDs.length _ _ r]; unfold enumD; simp
  refine ⟨fun e => ⟨vs, h, by rw [← le]; exact e.symm⟩, fun d e => ?_⟩
  have e' : (enumD ds)[i]? = some d := e
  unfold enumD at e'
  rw [List.getElem?_mapIdx] at e'
  cases q : ds[i]? with
  | none => rw [q] at e'; cases e'
  | some d0 =>
    rw [q] at e'
    cases e'
    obtain ⟨v, e1, r1⟩ := r.get q
    refine ⟨⟨vs, v, h, e1⟩, fun y H2 ⟨T, y0, ey, hT, e2, e3⟩ => ?_⟩
    have e4 := e3 vs h
    rw [e1] at e4
    cases e4
    subst e2 ey
    obtain ⟨h1, h2, h3⟩ := F.newB hT
    have xx : Ext P B1 (upd B1 T (.tup [.int (i : Nat), v])) := Ext.upd h1 h2
    exact ⟨_, xx, F.allocB hT, .tup (.inl (.inl upd_same)) (.cons (.int _) (.cons (RD.mono xx.1 _ _ r1) .nil))⟩
theorem jd_z {src2 : Option (Nat × List D)} (w : SeqW K σ B k a ds src) (w2 : SeqW K σ B k2 b es src2) (hs : src2 = none) : JD K (ItzK k k2 K a b) ⟨zipD ds es, src⟩ σ B := by
  intro P B1 H1 σ1 env1 fps1 x F s i
  obtain ⟨vs, h, r⟩ := w P B1 H1 σ1 env1 fps1 x F s
  obtain ⟨vs2, h2, r2⟩ := w2 P B1 H1 σ1 env1 fps1 x F (fun j xs e => by rw [hs] at e; cases e)
  have le : (zipD ds es).length = min vs.length vs2.length := by rw [RDs.length _ _ r, RDs.length _ _ r2]; unfold zipD; simp
  refine ⟨fun e => ⟨vs, vs2, h, h2, by rw [← le]; exact e.symm⟩, fun d e => ?_⟩
  have e' : (zipD ds es)[i]? = some d := e
  unfold zipD at e'
  rw [List.getElem?_zipWith] at e'
  cases q : ds[i]? with
  | none => rw [q] at e'; cases e'
  | some d0 =>
    cases q2 : es[i]? with
    | none => rw [q, q2] at e'; cases e'
    | some d1 =>
      rw [q, q2] at e'
      cases e'
      obtain ⟨v, e1, r1⟩ := r.get q
      obtain ⟨v2, e12, r12⟩ := r2.get q2
      refine ⟨⟨vs, vs2, v, v2, h, h2, e1, e12⟩, fun y H2 ⟨T, y0, y1, ey, hT, e2, e3, e5⟩ => ?_⟩
      have e4 := e3 vs h
      rw [e1] at e4
      cases e4
      have e6 := e5 vs2 h2
      rw [e12] at e6
      cases e6
      subst e2 ey
      obtain ⟨h1, h2, h3⟩ := F.newB hT
      have xx : Ext P B1 (upd B1 T (.tup [v, v2])) := Ext.upd h1 h2
      exact ⟨_, xx, F.allocB hT, .tup (.inl (.inl upd_same)) (.cons (RD.mono xx.1 _ _ r1) (.cons (RD.mono xx.1 _ _ r12) .nil))⟩
end

/-! ### the walks -/
def wkOf (js : List Nat) (env : Env) (r : Rv) : Option Wk := match r with
  | .d (.str z) => some ⟨txtD z, none⟩
  | r => match seqOf js env r with
    | some (_, ds, src) => some ⟨ds, src⟩
    | none => none
def mWk (js : List Nat) (m : M Rv) : M Wk := bnd (vm m) fun r env => ofO (wkOf js env r) env
def mRng1 (ms : M (List Rv)) : M Wk := bnd ms fun rs => match rs with
  | [.d (.int j)] => if -(2 ^ 62) ≤ j ∧ j < 2 ^ 62 then ret ⟨rngD 0 j.toNat, none⟩ else stk
  | _ => stk
def mRng2 (ms : M (List Rv)) : M Wk := bnd ms fun rs => match rs with
  | [.d (.int i), .d (.int j)] => if -(2 ^ 62) ≤ i ∧ i < 2 ^ 62 ∧ -(2 ^ 62) ≤ j ∧ j < 2 ^ 62 then ret ⟨rngD i (j - i).toNat, none⟩ else stk
  | _ => stk
def mRng3 (ms : M (List Rv)) : M Wk := bnd ms fun rs => match rs with
  | [.d (.int i), .d (.int j), .d (.int (-1))] => if -(2 ^ 62) ≤ i ∧ i < 2 ^ 62 ∧ -(2 ^ 62) ≤ j ∧ j < 2 ^ 62 then ret ⟨rngCD i (-1) (i - j).toNat, none⟩ else stk
  | _ => stk
def mEnu (js : List Nat) (ms : M (List Rv)) : M Wk := bnd ms fun rs env => match rs with
  | [r] => match seqOf js env r with
    | some (_, ds, src) => .ok ⟨enumD ds, src⟩ env
    | none => .stuck
  | _ => .stuck
def mZip (js : List Nat) (ms : M (List Rv)) : M Wk := bnd ms fun rs env => match rs with
  | [r, r2] => match seqOf js env r, seqOf [] env r2 with
    | some (_, ds, src), some (_, es, _) => .ok ⟨zipD ds es, src⟩ env
    | _, _ => .stuck
  | _ => .stuck

section
variable {X : Cx} {cl : String → Addr} {E : XK} {js : List Nat} {tg e e2 : Expr} {m : M Rv} {ms : M (List Rv)} {p pos : Pos}
theorem di_seq (he : DE X cl E e m) : DI X cl E tg e (mWk js m) := by
  refine ⟨fun pins s σ H R I ⟨P, B, env, fps, F, h⟩ => (pi_seq he).run pins s σ H R I ⟨P, B, env, fps, F, ?_⟩⟩
  refine (postX_vm h).mono ?_
  intro v H1 ⟨B2, env2, fps2, r, x2, F2, q, h2⟩
  cases e2 : wkOf js env2 r with
  | none => simp only [e2] at h2; exact h2.elim
  | some wk =>
    simp only [e2] at h2
    have h3 := h2 H1 B2 fps2 Ext.refl F2
    unfold wkOf at e2
    split at e2
    · rename_i z
      cases e2
      cases (show RD X.K B2 (.str z) v from q)
      exact .inr (.inr ⟨z, rfl, h3 _ (jd_s z)⟩)
    · split at e2
      · rename_i k ds src e3
        cases e2
        obtain ⟨a, rfl, w, _⟩ := seq_w q F2 e3
        obtain ⟨vs, hs, _⟩ := w P B2 H1 σ env2 fps2 Sub.refl F2 (srcAt_of e3)
        cases k with
        | true => exact .inl ⟨a, vs, rfl, hs, h3 _ (jd_l w)⟩
        | false => exact .inr (.inl ⟨a, vs, rfl, hs, h3 _ (jd_t w)⟩)
      · cases e2
theorem rvs1 {K : PySem.W.Frag} {B : Hp} {σ : L2.St} {r : Rv} {vs : List V} (h : Paired (RvS K B σ) [r] vs) : ∃ v, vs = [v] ∧ RvS K B σ r v := by
  cases h with
  | cons a t => cases t; exact ⟨_, rfl, a⟩
theorem rvs2 {K : PySem.W.Frag} {B : Hp} {σ : L2.St} {r r2 : Rv} {vs : List V} (h : Paired (RvS K B σ) [r, r2] vs) : ∃ v v2, vs = [v, v2] ∧ RvS K B σ r v ∧ RvS K B σ r2 v2 := by
  cases h with
  | cons a t =>
    obtain ⟨v2, rfl, q⟩ := rvs1 t
    exact ⟨_, _, rfl, a, q⟩
theorem rvs_int {K : PySem.W.Frag} {B : Hp} {σ : L2.St} {i : Int} {v : V} (h : RvS K B σ (.d (.int i)) v) : v = .int i := by
  cases (show RD K B (.int i) v from h); rfl
theorem di_rng1 {a : Expr} (hg : Gl X "range") (hm : X.mg "range" = none) (ha : DA X cl E [a] ms) (hs : starEach [a] X.env = [(false, eval a X.env)] := by rfl) : DI X cl E tg (.Call (.Name "range" p) [a] [] pos) (mRng1 ms) := by
  refine ⟨fun pins s σ H R I ⟨P, B, env, fps, F, h⟩ => (pi_range1 hg hm ha hs).run pins s σ H R I ⟨P, B, env, fps, F, ?_⟩⟩
  refine (postX_bnd h).mono fun rs H1 B1 fps1 env1 x1 F1 h1 vs hv => ?_
  split at h1
  · rename_i j
    split at h1
    · rename_i hj
      obtain ⟨v, rfl, q⟩ := rvs1 hv
      cases rvs_int q
      exact ⟨j, rfl, hj.1, hj.2, h1 H1 B1 fps1 Ext.refl F1 _ (jd_r 0 _)⟩
    · exact h1.elim
  · exact h1.elim
theorem di_rng2 {a b : Expr} (hg : Gl X "range") (hm : X.mg "range" = none) (ha : DA X cl E [a, b] ms) (hs : starEach [a, b] X.env = [(false, eval a X.env), (false, eval b X.env)] := by rfl) (hs2 : starEach [b] X.env = [(false, eval b X.env)] := by rfl) : DI X cl E tg (.Call (.Name "range" p) [a, b] [] pos) (mRng2 ms) := by
  refine ⟨fun pins s σ H R I ⟨P, B, env, fps, F, h⟩ => (pi_range2 hg hm ha hs hs2).run pins s σ H R I ⟨P, B, env, fps, F, ?_⟩⟩
  refine (postX_bnd h).mono fun rs H1 B1 fps1 env1 x1 F1 h1 vs hv => ?_
  split at h1
  · rename_i i j
    split at h1
    · rename_i hj
      obtain ⟨v, v2, rfl, q, q2⟩ := rvs2 hv
      cases rvs_int q
      cases rvs_int q2
      exact ⟨i, j, rfl, hj, h1 H1 B1 fps1 Ext.refl F1 _ (jd_r i _)⟩
    · exact h1.elim
  · exact h1.elim
theorem di_rng3 {a b c : Expr} (hg : Gl X "range") (hm : X.mg "range" = none) (ha : DA X cl E [a, b, c] ms) (hs : starEach [a, b, c] X.env = (false, eval a X.env) :: starEach [b, c] X.env := by rfl) (hpl : (backTo pos (starEach [b, c] X.env)).any (·.1) = false := by rfl) :
    DI X cl E tg (.Call (.Name "range" p) [a, b, c] [] pos) (mRng3 ms) := by
  refine ⟨fun pins s σ H R I ⟨P, B, env, fps, F, h⟩ => (pi_range3 hg hm ha hs hpl).run pins s σ H R I ⟨P, B, env, fps, F, ?_⟩⟩
  refine (postX_bnd h).mono fun rs H1 B1 fps1 env1 x1 F1 h1 vs hv => ?_
  split at h1
  · rename_i i j
    split at h1
    · rename_i hj
      cases hv with
      | cons q hv =>
        obtain ⟨v2, v3, rfl, q2, q3⟩ := rvs2 hv
        cases rvs_int q
        cases rvs_int q2
        cases rvs_int q3
        exact ⟨i, j, -1, _, rfl, RgC.neg hj.1 hj.2.1 hj.2.2.1 hj.2.2.2, h1 H1 B1 fps1 Ext.refl F1 _ (jd_c i (-1) _)⟩
    · exact h1.elim
  · exact h1.elim
theorem di_enu {a : Expr} {tpos : Pos} {elts : List Expr} {kk : Nat} (hg : Gl X "enumerate") (hm : X.mg "enumerate" = none) (ha : DA X cl E [a] ms) (hs : starEach [a] X.env = [(false, eval a X.env)] := by rfl) :
    DI X cl E (.Tuple elts kk tpos) (.Call (.Name "enumerate" p) [a] [] pos) (mEnu js ms) := by
  refine ⟨fun pins s σ H R I ⟨P, B, env, fps, F, h⟩ => (pi_enumK hg hm ha hs).run pins s σ H R I ⟨P, B, env, fps, F, ?_⟩⟩
  refine (postX_bnd h).mono fun rs H1 B1 fps1 env1 x1 F1 h1 vs hv => ?_
  split at h1
  · rename_i r
    split at h1
    · rename_i k ds src e3
      obtain ⟨v, rfl, q⟩ := rvs1 hv
      obtain ⟨a, rfl, w, _⟩ := seq_w q F1 e3
      obtain ⟨vs, hs, _⟩ := w P B1 H1 σ env1 fps1 Sub.refl F1 (srcAt_of e3)
      exact ⟨k, a, vs, rfl, hs, h1 H1 B1 fps1 Ext.refl F1 _ (jd_e w)⟩
    · exact h1.elim
  · exact h1.elim
theorem di_zip {a b : Expr} {tpos : Pos} {elts : List Expr} {kk : Nat} (hg : Gl X "zip") (hm : X.mg "zip" = none) (ha : DA X cl E [a, b] ms) (hs : starEach [a, b] X.env = (false, eval a X.env) :: starEach [b] X.env := by rfl) (hpl : (backTo pos (starEach [b] X.env)).any (·.1) = false := by rfl) :
    DI X cl E (.Tuple elts kk tpos) (.Call (.Name "zip" p) [a, b] [] pos) (mZip js ms) := by
  refine ⟨fun pins s σ H R I ⟨P, B, env, fps, F, h⟩ => (pi_zipK hg hm ha hs hpl).run pins s σ H R I ⟨P, B, env, fps, F, ?_⟩⟩
  refine (postX_bnd h).mono fun rs H1 B1 fps1 env1 x1 F1 h1 vs hv => ?_
  split at h1
  · rename_i r r2
    split at h1
    · rename_i k ds src k2 es src2 e3 e4
      obtain ⟨v, v2, rfl, q, q2⟩ := rvs2 hv
      obtain ⟨a, rfl, w, _⟩ := seq_w q F1 e3
      obtain ⟨a2, rfl, w2, _⟩ := seq_w q2 F1 e4
      have hs2 : src2 = none := by
        cases src2 with
        | none => rfl
        | some z =>
          have := seqOf_src (j := z.1) (xs := z.2) e4
          cases this
      obtain ⟨vs, hs, _⟩ := w P B1 H1 σ env1 fps1 Sub.refl F1 (srcAt_of e3)
      obtain ⟨vs2, hs3, _⟩ := w2 P B1 H1 σ env1 fps1 Sub.refl F1 (srcAt_of e4)
      exact ⟨k, k2, a, a2, vs, vs2, rfl, hs, hs3, h1 H1 B1 fps1 Ext.refl F1 _ (jd_z w w2 hs2)⟩
    · exact h1.elim
  · exact h1.elim

/-! ### reversed -/
def mRev (js : List Nat) (m : M Rv) : M Wk := bnd (vm m) fun r env => match seqOf js env r with
  | some (_, ds, src) => .ok ⟨ds.reverse, src⟩ env
  | none => .stuck
theorem jd_v {K : PySem.W.Frag} {σ : L2.St} {B : Hp} {a : Addr} {ds : List D} {src : Option (Nat × List D)} {n : Nat} (w : SeqW K σ B true a ds src) (hn : n = ds.length) : JD K (Itv K a n) ⟨ds.reverse, src⟩ σ B := by
  intro P B1 H1 σ1 env1 fps1 x F s i
  obtain ⟨vs, h, r⟩ := w P B1 H1 σ1 env1 fps1 x F s
  have hl := RDs.length _ _ r
  refine ⟨fun e => ?_, fun d e => ?_⟩
  · have e' : i = ds.reverse.length := e
    show n ≤ i
    rw [e', List.length_reverse, hn]; exact Nat.le_refl _
  · have e' : ds.reverse[i]? = some d := e
    have hi : i < ds.length := by
      have := (List.getElem?_eq_some_iff.mp e').1
      simpa using this
    rw [List.getElem?_reverse hi] at e'
    obtain ⟨v, e1, r1⟩ := r.get e'
    rw [← hn] at e1
    refine ⟨⟨by rw [hn]; exact hi, vs, v, h, e1⟩, fun y H2 ⟨e2, e3⟩ => ?_⟩
    subst e2
    have e4 := e3 vs h
    rw [e1] at e4
    cases e4
    exact ⟨B1, Ext.refl, F, r1⟩
theorem jd_vt {K : PySem.W.Frag} {σ : L2.St} {B : Hp} {a : Addr} {ds : List D} {src : Option (Nat × List D)} {n : Nat} (w : SeqW K σ B false a ds src) (hn : n = ds.length) : JD K (RT.ItvT K a n) ⟨ds.reverse, src⟩ σ B := by
  intro P B1 H1 σ1 env1 fps1 x F s i
  obtain ⟨vs, h, r⟩ := w P B1 H1 σ1 env1 fps1 x F s
  have hl := RDs.length _ _ r
  refine ⟨fun e => ?_, fun d e => ?_⟩
  · have e' : i = ds.reverse.length := e
    show n ≤ i
    rw [e', List.length_reverse, hn]; exact Nat.le_refl _
  · have e' : ds.reverse[i]? = some d := e
    have hi : i < ds.length := by
      have := (List.getElem?_eq_some_iff.mp e').1
      simpa using this
    rw [List.getElem?_reverse hi] at e'
    obtain ⟨v, e1, r1⟩ := r.get e'
    rw [← hn] at e1
    refine ⟨⟨by rw [hn]; exact hi, vs, v, h, e1⟩, fun y H2 ⟨e2, e3⟩ => ?_⟩
    subst e2
    have e4 := e3 vs h
    rw [e1] at e4
    cases e4
    exact ⟨B1, Ext.refl, F, r1⟩
theorem di_rev (hg : Gl X "reversed") (hm : X.mg "reversed" = none) (he : DE X cl E e m) (hs : starEach [e] X.env = (false, eval e X.env) :: starEach [] X.env := by rfl) : DI X cl E tg (.Call (.Name "reversed" p) [e] [] pos) (mRev js m) := by
  refine ⟨fun pins s σ H R I ⟨P, B, env, fps, F, h⟩ => (RT.pi_revA hg hm he hs).run pins s σ H R I ⟨P, B, env, fps, F, ?_⟩⟩
  refine (postX_vm h).mono ?_
  intro v H1 ⟨B2, env2, fps2, r, x2, F2, q, h2⟩
  split at h2
  · rename_i k ds src e3
    have h3 := h2 H1 B2 fps2 Ext.refl F2
    obtain ⟨a, rfl, w, _⟩ := seq_w q F2 e3
    obtain ⟨vs, hs, r⟩ := w P B2 H1 σ env2 fps2 Sub.refl F2 (srcAt_of e3)
    have hl := RDs.length _ _ r
    cases k with
    | true => exact ⟨a, vs, rfl, .inl ⟨hs, h3 _ (jd_v w hl)⟩⟩
    | false => exact ⟨a, vs, rfl, .inr ⟨hs, h3 _ (jd_vt w hl)⟩⟩
  · exact h2.elim

/-! ### where a walked list comes from -/
theorem hw_wk {js ios : List Nat} (hj : ∀ j ∈ js, j ∈ ios) : ∀ env w env' j ds, mWk js m env = .ok w env' → w.src = some (j, ds) → j ∈ ios := by
  intro env w env' j ds e h
  unfold mWk vm bnd at e
  cases q : m env with
  | ok r env1 =>
    rw [q] at e
    simp only [bind_ok, ret] at e
    cases e2 : wkOf js env1 r.frz with
    | none => rw [e2] at e; cases e
    | some wk =>
      rw [e2] at e
      cases e
      unfold wkOf at e2
      split at e2
      · cases e2; cases h
      · split at e2
        · rename_i k ds src e3
          cases e2
          cases h
          exact hj _ (seqOf_src e3)
        · cases e2
  | ex c env1 => rw [q] at e; cases e
  | stuck => rw [q] at e; cases e
theorem hw_rng1 {ios : List Nat} : ∀ env w env' j ds, mRng1 ms env = .ok w env' → w.src = some (j, ds) → j ∈ ios := by
  intro env w env' j ds e h
  unfold mRng1 bnd at e
  cases q : ms env with
  | ok r env1 =>
    rw [q] at e
    simp only [bind_ok] at e
    split at e
    · split at e
      · cases e; cases h
      · cases e
    · cases e
  | ex c env1 => rw [q] at e; cases e
  | stuck => rw [q] at e; cases e
theorem hw_rng2 {ios : List Nat} : ∀ env w env' j ds, mRng2 ms env = .ok w env' → w.src = some (j, ds) → j ∈ ios := by
  intro env w env' j ds e h
  unfold mRng2 bnd at e
  cases q : ms env with
  | ok r env1 =>
    rw [q] at e
    simp only [bind_ok] at e
    split at e
    · split at e
      · cases e; cases h
      · cases e
    · cases e
  | ex c env1 => rw [q] at e; cases e
  | stuck => rw [q] at e; cases e
theorem hw_rng3 {ios : List Nat} : ∀ env w env' j ds, mRng3 ms env = .ok w env' → w.src = some (j, ds) → j ∈ ios := by
  intro env w env' j ds e h
  unfold mRng3 bnd at e
  cases q : ms env with
  | ok r env1 =>
    rw [q] at e
    simp only [bind_ok] at e
    split at e
    · split at e
      · cases e; cases h
      · cases e
    · cases e
  | ex c env1 => rw [q] at e; cases e
  | stuck => rw [q] at e; cases e
theorem hw_enu {js ios : List Nat} (hj : ∀ j ∈ js, j ∈ ios) : ∀ env w env' j ds, mEnu js ms env = .ok w env' → w.src = some (j, ds) → j ∈ ios := by
  intro env w env' j ds e h
  unfold mEnu bnd at e
  cases q : ms env with
  | ok r env1 =>
    rw [q] at e
    simp only [bind_ok] at e
    split at e
    · split at e
      · rename_i k ds src e3
        cases e
        cases h
        exact hj _ (seqOf_src e3)
      · cases e
    · cases e
  | ex c env1 => rw [q] at e; cases e
  | stuck => rw [q] at e; cases e
theorem hw_zip {js ios : List Nat} (hj : ∀ j ∈ js, j ∈ ios) : ∀ env w env' j ds, mZip js ms env = .ok w env' → w.src = some (j, ds) → j ∈ ios := by
  intro env w env' j ds e h
  unfold mZip bnd at e
  cases q : ms env with
  | ok r env1 =>
    rw [q] at e
    simp only [bind_ok] at e
    split at e
    · split at e
      · rename_i k ds src k2 es src2 e3 e4
        cases e
        cases h
        exact hj _ (seqOf_src e3)
      · cases e
    · cases e
  | ex c env1 => rw [q] at e; cases e
  | stuck => rw [q] at e; cases e
theorem hw_rev {js ios : List Nat} (hj : ∀ j ∈ js, j ∈ ios) : ∀ env w env' j ds, mRev js m env = .ok w env' → w.src = some (j, ds) → j ∈ ios := by
  intro env w env' j ds e h
  unfold mRev vm bnd at e
  cases q : m env with
  | ok r env1 =>
    rw [q] at e
    simp only [bind_ok, ret] at e
    split at e
    · rename_i k ds src e3
      cases e
      cases h
      exact hj _ (seqOf_src e3)
    · cases e
  | ex c env1 => rw [q] at e; cases e
  | stuck => rw [q] at e; cases e
end
end Mi

set_option Elab.async false
set_option linter.all false
set_option maxRecDepth 100000
namespace Mi
open PySem PySem.Spec L2

/-! ### list comprehensions -/
def wipeE (env : Env) : List Nat → Env
  | [] => env
  | v :: vs => (wipeE env vs).set v none
def ownFree (env : Env) (vs : List Nat) : Bool := vs.all fun v => match env[v]? with
  | some (some (.lst _)) => false
  | some (some (.dct _)) => false
  | some (some (.tpl _)) => false
  | _ => true
def restE (env0 env : Env) : List Nat → Env
  | [] => env
  | v :: vs => (restE env0 env vs).set v ((env0[v]?).getD none)
def lcL (tg : Tg) (src : Option (Nat × List D)) (tt : M Bool) (te : M Rv) (vs : List Nat) : List D → List D → M (List D)
  | [], acc, env => if srcOk env src = true then .ok acc env else .stuck
  | d :: ds, acc, env => if srcOk env src = true then match asgT tg d env with
      | some env1 => match tt env1 with
        | .ok true env2 => match (bnd (vm te) frzR) env2 with
          | .ok y env3 => if ownFree env3 vs = true then lcL tg src tt te vs ds (acc ++ [y]) (wipeE env3 vs) else .stuck
          | _ => .stuck
        | .ok false env2 => if ownFree env2 vs = true then lcL tg src tt te vs ds acc (wipeE env2 vs) else .stuck
        | _ => .stuck
      | none => .stuck
    else .stuck
def mLc (it : M Wk) (tg : Tg) (tt : M Bool) (te : M Rv) (vs : List Nat) : M Rv := bnd it fun w env => if ownFree env vs = true ∧ w.items.length ≤ sizeLine then match lcL tg w.src tt te vs w.items [] (wipeE env vs) with
    | .ok acc env2 => .ok (.own (.lst acc)) (restE env env2 vs)
    | _ => .stuck
  else .stuck

section
variable {K : PySem.W.Frag} {P B B' H H' : Hp} {σ σ' : L2.St} {env env0 : Env} {fps : Nat → List Addr} {vs : List Nat}
theorem wipeE_length : ∀ vs : List Nat, (wipeE env vs).length = env.length
  | [] => rfl
  | v :: vs => by unfold wipeE; rw [List.length_set, wipeE_length vs]
theorem wipeE_get {i : Nat} : ∀ {vs : List Nat}, i ∉ vs → (wipeE env vs)[i]? = env[i]?
  | [], _ => rfl
  | v :: vs, h => by
    unfold wipeE
    simp only [List.mem_cons, not_or] at h
    rw [List.getElem?_set_ne (Ne.symm h.1)]
    exact wipeE_get h.2
theorem wipeE_some {i : Nat} {o : O} : ∀ {vs : List Nat}, (wipeE env vs)[i]? = some (some o) → env[i]? = some (some o) ∧ i ∉ vs
  | [], h => ⟨h, by simp⟩
  | v :: vs, h => by
    unfold wipeE at h
    by_cases hi : v = i
    · subst hi
      by_cases hv : v < (wipeE env vs).length
      · rw [List.getElem?_set_self hv] at h; cases h
      · rw [List.getElem?_eq_none (by simpa using hv)] at h; cases h
    · rw [List.getElem?_set_ne hi] at h
      obtain ⟨h1, h2⟩ := wipeE_some h
      exact ⟨h1, by simp only [List.mem_cons, not_or]; exact ⟨fun e => hi e.symm, h2⟩⟩
theorem wipe_get {i : Nat} : ∀ {vs : List Nat}, i ∉ vs → (wipe σ vs)[i]? = σ[i]?
  | [], _ => rfl
  | v :: vs, h => by
    unfold wipe
    simp only [List.mem_cons, not_or] at h
    rw [List.getElem?_set_ne (Ne.symm h.1)]
    exact wipe_get h.2
theorem wipe_mem {i : Nat} : ∀ {vs : List Nat}, i ∈ vs → (wipe σ vs)[i]? = if i < σ.length then some none else none
  | [], h => by simp at h
  | v :: vs, h => by
    unfold wipe
    by_cases hi : v = i
    · subst hi
      by_cases hv : v < (wipe σ vs).length
      · rw [List.getElem?_set_self hv, if_pos (by rwa [wipe_length] at hv)]
      · rw [List.getElem?_eq_none (by simpa using hv), if_neg (by rwa [wipe_length] at hv)]
    · rw [List.getElem?_set_ne hi]
      simp only [List.mem_cons] at h
      rcases h with h | h
      · exact absurd h.symm hi
      · exact wipe_mem h
theorem wipe_eq (hl : σ'.length = σ.length) (h : ∀ i, i ∉ vs → σ'[i]? = σ[i]?) : wipe σ' vs = wipe σ vs := by
  apply List.ext_getElem?
  intro i
  by_cases hi : i ∈ vs
  · rw [wipe_mem hi, wipe_mem hi, hl]
  · rw [wipe_get hi, wipe_get hi, h i hi]
theorem restE_length : ∀ vs : List Nat, (restE env0 env vs).length = env.length
  | [] => rfl
  | v :: vs => by unfold restE; rw [List.length_set, restE_length vs]
theorem restE_get {i : Nat} {o : O} : ∀ {vs : List Nat}, (restE env0 env vs)[i]? = some (some o) → (i ∈ vs ∧ env0[i]? = some (some o)) ∨ (i ∉ vs ∧ env[i]? = some (some o))
  | [], h => .inr ⟨by simp, h⟩
  | v :: vs, h => by
    unfold restE at h
    by_cases hi : v = i
    · subst hi
      by_cases hv : v < (restE env0 env vs).length
      · rw [List.getElem?_set_self hv] at h
        refine .inl ⟨by simp, ?_⟩
        cases q : env0[v]? with
        | none => rw [q] at h; cases h
        | some z => rw [q] at h; exact h
      · rw [List.getElem?_eq_none (by simpa using hv)] at h; cases h
    · rw [List.getElem?_set_ne hi] at h
      rcases restE_get h with ⟨h1, h2⟩ | ⟨h1, h2⟩
      · exact .inl ⟨List.mem_cons_of_mem _ h1, h2⟩
      · exact .inr ⟨by simp only [List.mem_cons, not_or]; exact ⟨fun e => hi e.symm, h1⟩, h2⟩
theorem Fm.free (F : Fm K P B H σ env fps) (h : ownFree env vs = true) : ∀ v ∈ vs, fps v = [] := by
  intro v hv
  unfold ownFree at h
  have h := List.all_eq_true.mp h v hv
  cases e : env[v]? with
  | none => exact F.emp v (.inr e)
  | some o =>
    cases o with
    | none => exact F.emp v (.inl e)
    | some o =>
      obtain ⟨x, _, r⟩ := F.slot v o e
      cases o with
      | dat d => exact r.dat_inv.2
      | lst ds => rw [e] at h; cases h
      | dct kv => rw [e] at h; cases h
      | tpl ds => rw [e] at h; cases h
/-- the comprehension's own slots forgotten -/
theorem Fm.wipe (F : Fm K P B H σ env fps) (h : ownFree env vs = true) : Fm K P B H (L2.wipe σ vs) (wipeE env vs) fps := by
  refine ⟨by rw [wipeE_length, wipe_length]; exact F.len, F.sub, F.prt, fun i o e => ?_, fun i e => ?_, F.dis, F.off, F.tab, F.nbT, F.npT⟩
  · obtain ⟨e1, e2⟩ := wipeE_some e
    obtain ⟨v, e3, r⟩ := F.slot i o e1
    exact ⟨v, by rw [wipe_get e2]; exact e3, r⟩
  · by_cases hi : i ∈ vs
    · exact F.free h i hi
    · rw [wipeE_get hi] at e
      exact F.emp i e
/-- the outer slots are back -/
theorem Fm.rest {B0 H0 : Hp} {fps0 : Nat → List Addr} (F0 : Fm K P B0 H0 σ env0 fps0) (h : ownFree env0 vs = true) (F : Fm K P B H (L2.wipe σ vs) env fps) (hw : ownFree env vs = true) (hb : Sub B0 B) : Fm K P B H σ (restE env0 env vs) fps := by
  refine ⟨by rw [restE_length, F.len, wipe_length], F.sub, F.prt, fun i o e => ?_, fun i e => ?_, F.dis, F.off, F.tab, F.nbT, F.npT⟩
  · rcases restE_get e with ⟨h1, h2⟩ | ⟨h1, h2⟩
    · obtain ⟨v, e3, r⟩ := F0.slot i o h2
      have z := F0.free h i h1
      rw [z] at r
      rw [F.free hw i h1]
      refine ⟨v, e3, r.congr hb fun a ha => by simp at ha⟩
    · obtain ⟨v, e3, r⟩ := F.slot i o h2
      rw [wipe_get h1] at e3
      exact ⟨v, e3, r⟩
  · by_cases hi : i ∈ vs
    · exact F.free hw i hi
    · have q : ∀ vs : List Nat, i ∉ vs → (restE env0 env vs)[i]? = env[i]? := by
        intro vs
        induction vs with
        | nil => intro _; rfl
        | cons v vs ih =>
          intro hn
          simp only [List.mem_cons, not_or] at hn
          unfold restE
          rw [List.getElem?_set_ne (Ne.symm hn.1)]
          exact ih hn.2
      rw [q vs hi] at e
      exact F.emp i e
theorem wipeE_free (env : Env) (vs : List Nat) : ownFree (wipeE env vs) vs = true := by
  unfold ownFree
  refine List.all_eq_true.mpr fun v hv => ?_
  cases e : (wipeE env vs)[v]? with
  | none => rfl
  | some o =>
    cases o with
    | none => rfl
    | some o => exact absurd hv (wipeE_some e).2
/-- a list that is under way is protected -/
theorem Fm.guard (F : Fm K P B H σ env fps) {a : Addr} {o : HO} (e : H a = some o) (hb : B a = none) (hf : ∀ i, a ∉ fps i) (hp : P a = none) (ho : ∀ ps, o ≠ .tbl ps := by intro _ h; cases h) : Fm K (upd P a o) B H σ env fps := by
  refine ⟨F.len, F.sub, fun b u q => ?_, F.slot, F.emp, F.dis, fun i b hb' => ?_, F.tab, F.nbT, F.npT.upd ho⟩
  · by_cases z : b = a
    · subst z; rw [upd_same] at q; cases q; exact e
    · rw [upd_ne z] at q; exact F.prt _ _ q
  · have z : b ≠ a := by
      intro z; subst z; exact hf i hb'
    obtain ⟨q1, q2⟩ := F.off i b hb'
    exact ⟨q1, by rw [upd_ne z]; exact q2⟩
/-- it is written anew -/
theorem noT_un {P : Hp} {a : Addr} {o : HO} (h : noT (upd P a o)) (hp : P a = none) : noT P := fun b ps e => by
  have z : b ≠ a := by
    intro z; subst z; rw [hp] at e; cases e
  exact h b ps (by rw [upd_ne z]; exact e)
theorem Fm.grow {a : Addr} {o o' : HO} (F : Fm K (upd P a o) B H σ env fps) (hb : B a = none) (hp : P a = none) (hc : notC o' := by first | exact notC_lst | exact notC_tup | exact notC_dK | assumption) : Fm K P B (upd H a o') σ env fps ∧ (∀ i, a ∉ fps i) := by
  have hf : ∀ i, a ∉ fps i := fun i h => by
    have q := (F.off i a h).2
    rw [upd_same] at q; cases q
  refine ⟨⟨F.len, fun b u q => ?_, fun b u q => ?_, fun i o e => ?_, F.emp, F.dis, fun i b hb' => ?_, F.tab.put (fun ps e => F.npT a ps (by rw [upd_same]; have := F.prt a o upd_same; rw [this] at e; exact e)) hc, F.nbT, noT_un F.npT hp⟩, hf⟩
  · have z : b ≠ a := by
      intro z; subst z; rw [hb] at q; cases q
    rw [upd_ne z]; exact F.sub _ _ q
  · have z : b ≠ a := by
      intro z; subst z; rw [hp] at q; cases q
    rw [upd_ne z]
    exact F.prt _ _ (by rw [upd_ne z]; exact q)
  · obtain ⟨v, e1, r⟩ := F.slot i o e
    exact ⟨v, e1, r.congr Sub.refl fun b hb' => upd_ne (fun z => hf i (z ▸ hb'))⟩
  · have z : b ≠ a := by
      intro z; subst z; exact hf i hb'
    obtain ⟨q1, q2⟩ := F.off i b hb'
    exact ⟨q1, by rw [upd_ne z] at q2; exact q2⟩
theorem Fm.ungrd {a : Addr} {o : HO} (F : Fm K (upd P a o) B H σ env fps) (hp : P a = none) : Fm K P B H σ env fps :=
  ⟨F.len, F.sub, fun b u q => F.prt _ _ (by
    have z : b ≠ a := by
      intro z; subst z; rw [hp] at q; cases q
    rw [upd_ne z]; exact q), F.slot, F.emp, F.dis, fun i b hb' => ⟨(F.off i b hb').1, by
    have q := (F.off i b hb').2
    by_cases z : b = a
    · subst z; exact hp
    · rw [upd_ne z] at q; exact q⟩, F.tab, F.nbT, noT_un F.npT hp⟩
theorem Ext.ungrd {a : Addr} {o : HO} (hp : P a = none) (x : Ext (L2.upd P a o) B B') : Ext P B B' ∧ B' a = B a :=
  ⟨⟨x.1, fun b u q => x.2 b u (by
    have z : b ≠ a := by
      intro z; subst z; rw [hp] at q; cases q
    rw [upd_ne z]; exact q)⟩, x.2 a o upd_same⟩
end

def DTs (X : Cx) (cl : String → Addr) (E : XK) (ifs : List Expr) (t : M Bool) : Prop := PTs X ifs (tMT X.K cl E t)
section
variable {X : Cx} {cl : String → Addr} {E : XK} {elt tgt iter : Expr} {ifs : List Expr} {scope : Scope} {own : List (Str × Nat)} {pos : Pos} {it : M Wk} {tg : Tg} {tt : M Bool} {te : M Rv} {vs : List Nat}
theorem dts_nil : DTs X cl E [] (ret true) := ⟨fun pins s σ H Q I ⟨P, B, env, fps, F, h⟩ => pts_nil.run pins s σ H Q I (h H B fps Ext.refl F)⟩
theorem dts_one {c : Expr} {t : M Bool} (h : DT X cl E c t) : DTs X cl E [c] t := pts_one h
/-- nothing is raised within -/
abbrev XN : XK := fun _ _ _ => False
theorem mem_wipe_src {env : Env} {j : Nat} {ds : List D} (h : ownFree env vs = true) (e : env[j]? = some (some (.lst ds))) : j ∉ vs := fun hj => by
  have q := List.all_eq_true.mp h j hj
  rw [e] at q
  cases q
theorem lc_ok {K : PySem.W.Frag} {σ : L2.St} {P : Hp} {w : Wk} {J : It} {Q : VK} {B1 : Hp} {env1 : Env} {fps1 : Nat → List Addr} {H1 : Hp} (hg : ∀ i ∈ tg.slots, vs.contains i = true) (F1 : Fm K P B1 H1 σ env1 fps1) (jd : JD K J w σ B1) (hf1 : ownFree env1 vs = true) (hlen : w.items.length ≤ sizeLine)
    (hend : match lcL tg w.src tt te vs w.items [] (wipeE env1 vs) with
      | .ok acc env2 => PostE K cl E P B1 σ (.ok (.own (.lst acc)) (restE env1 env2 vs)) Q
      | _ => False) {D0 : Addr} (hD : H1 D0 = none) :
    ∃ W : Nat → Nat → Hp → Prop, (∃ m, W 0 m (upd H1 D0 (.lst []))) ∧ ∀ i m H, W i m H →
      (J.stop i H ∧ Q (.ref D0) H) ∨ (J.go i H ∧ ∃ Nx : Hp → Prop, (∀ H', Nx H' → ∃ m', m' < m ∧ W (i + 1) m' H') ∧ ∀ x H', J.yld i H x H' → tGd K tg x (L2.wipe σ vs) H' fun σ2 H2 => L2.wipe σ2 vs = L2.wipe σ vs ∧ tMT K cl XN tt σ2 H2 fun b H3 =>
        if b = true then tM K cl XN te σ2 H3 fun y H4 => ∃ acc, H4 D0 = some (.lst acc) ∧ acc.length < sizeLine ∧ Nx (upd H4 D0 (.lst (acc ++ [y]))) else Nx H3) := by
  obtain ⟨hDb, hDp, hDf⟩ := F1.newB hD
  obtain ⟨R, hR⟩ : ∃ R, R = lcL tg w.src tt te vs w.items [] (wipeE env1 vs) := ⟨_, rfl⟩
  rw [← hR] at hend
  -- the loop's frame
  let Lp : Nat → Hp → Prop := fun i H => i ≤ w.items.length ∧ ∃ (B' : Hp) (env' : Env) (fps' : Nat → List Addr) (acc : List V) (ds : List D), Ext P B1 B' ∧ B' D0 = none ∧ Fm K P B' H (L2.wipe σ vs) env' fps' ∧ ownFree env' vs = true ∧ (∀ i, D0 ∉ fps' i) ∧
    H D0 = some (.lst acc) ∧ RDs K B' ds acc ∧ ds.length ≤ i ∧ lcL tg w.src tt te vs (w.items.drop i) ds env' = R
  refine ⟨fun i m H => m = w.items.length - i ∧ Lp i H, ⟨_, rfl, Nat.zero_le _, B1, wipeE env1 vs, fps1, [], [], Ext.refl, hDb, ((F1.wipe hf1).alloc hD), wipeE_free _ _, hDf, upd_same, .nil, Nat.le_refl _, by rw [List.drop_zero, hR]⟩, ?_⟩
  rintro i m H ⟨rfl, hi, B', env', fps', acc, ds, x', hDb', F', hf', hDf', eD, rds, hds, elc⟩
  have srcA : srcOk env' w.src = true → SrcAt σ (L2.wipe σ vs) env' w.src := fun ho j xs e => by
    have e2 := srcOk_of ho j xs e
    exact ⟨e2, wipe_get (mem_wipe_src hf' e2)⟩
  by_cases hlt : i < w.items.length
  · have ed : w.items.drop i = w.items[i] :: w.items.drop (i + 1) := List.drop_eq_getElem_cons hlt
    rw [ed] at elc
    unfold lcL at elc
    rw [← elc] at hend
    split at hend
    case h_2 => exact hend.elim
    case h_1 accF envF eq =>
    split at eq
    case isFalse => cases eq
    case isTrue ho =>
    split at eq
    case h_2 => cases eq
    case h_1 env2 ea =>
    obtain ⟨_, j2⟩ := jd (L2.upd P D0 (.lst acc)) B' H (L2.wipe σ vs) env' fps' x'.1 (F'.guard eD hDb' hDf' hDp) (srcA ho) i
    obtain ⟨g1, g2⟩ := j2 w.items[i] (List.getElem?_eq_getElem hlt)
    refine .inr ⟨g1, fun H3 => Lp (i + 1) H3, fun H3 h3 => ⟨w.items.length - (i + 1), by omega, rfl, h3⟩, fun x H2 hy => ?_⟩
    obtain ⟨B2, x2, F2, rd⟩ := g2 x H2 hy
    refine ⟨_, B2, env', fps', _, env2, F2, rd, ea, fun σ3 fps3 F3 s3 => ?_⟩
    have hσ : L2.wipe σ3 vs = L2.wipe σ vs := wipe_eq (by rw [s3.1, wipe_length]) fun j hj => by
      rw [s3.2 j (fun h => hj (List.contains_iff_mem.mp (hg j h))), wipe_get hj]
    refine ⟨hσ, _, B2, env2, fps3, F3, ?_⟩
    cases qt : tt env2 with
    | stuck => rw [qt] at eq; cases eq
    | ex c e => rw [qt] at eq; cases eq
    | ok b env3 =>
    rw [qt] at eq
    intro H4 B4 fps4 x4 F4
    cases b with
    | false =>
      simp only [Bool.false_eq_true, if_false] at eq ⊢
      by_cases hf3 : ownFree env3 vs = true
      · rw [if_pos hf3] at eq
        have xx := Ext.ungrd hDp (x2.trans x4)
        have F5 := F4.ungrd hDp
        have F6 := F5.wipe hf3
        rw [hσ] at F6
        refine ⟨hlt, B4, _, fps4, acc, ds, x'.trans xx.1, xx.2.trans hDb', F6, wipeE_free _ _, fun i h => ?_, F4.prt _ _ upd_same, RDs.mono xx.1.1 _ _ rds, Nat.le_succ_of_le hds, ?_⟩
        · have q := (F4.off i _ h).2
          rw [upd_same] at q; cases q
        · rw [← elc, if_pos ho, ea]
          simp only [qt]
          rw [if_pos hf3]
      · rw [if_neg hf3] at eq; cases eq
    | true =>
      simp only [if_true] at eq ⊢
      refine ⟨_, B4, env3, fps4, F4, ?_⟩
      cases qe : te env3 with
      | stuck => simp only [bnd, vm, qe, bind_stuck] at eq; cases eq
      | ex c e => simp only [bnd, vm, qe, bind_ex] at eq; cases eq
      | ok r env4 =>
        intro v H5 B5 fps5 x5 F5 r5
        obtain ⟨B6, x6, F6, s6⟩ := freeze_rv F5 r5
        cases qf : frzR r.frz env4 with
        | stuck => simp only [bnd, vm, qe, bind_ok, ret, qf] at eq; cases eq
        | ex c e => exact absurd qf frzR_nex
        | ok y env5 =>
          have hb : (bnd (vm te) frzR) env3 = .ok y env5 := by simp only [bnd, vm, qe, bind_ok, ret, qf]
          rw [hb] at eq
          obtain ⟨B7, fps7, x7, F7, r7⟩ := frzR_ok F6 s6 qf
          by_cases hf5 : ownFree env5 vs = true
          · simp only at eq
            rw [if_pos hf5] at eq
            have xx := Ext.ungrd hDp (x2.trans (x4.trans (x5.trans (x6.trans x7))))
            have eD7 : H5 D0 = some (.lst acc) := F7.prt _ _ upd_same
            have hl := RDs.length _ _ rds
            obtain ⟨F8, hDf8⟩ := F7.grow (o' := .lst (acc ++ [v])) (xx.2.trans hDb') hDp
            have F9 := F8.wipe hf5
            rw [hσ] at F9
            refine ⟨acc, eD7, by rw [hl]; omega, hlt, B7, _, fps7, acc ++ [v], ds ++ [y], x'.trans xx.1, xx.2.trans hDb', F9, wipeE_free _ _, hDf8, upd_same, RDs.append (RDs.mono xx.1.1 _ _ rds) (.cons r7 .nil), by simp; omega, ?_⟩
            rw [← elc, if_pos ho, ea]
            simp only [qt, hb]
            rw [if_pos hf5]
          · simp only at eq
            rw [if_neg hf5] at eq; cases eq
  · have e : i = w.items.length := by omega
    subst e
    rw [List.drop_length] at elc
    unfold lcL at elc
    rw [← elc] at hend
    split at hend
    case h_2 => exact hend.elim
    case h_1 accF envF eq =>
    split at eq
    case isFalse => cases eq
    case isTrue ho =>
    cases eq
    obtain ⟨j1, _⟩ := jd P B' H (L2.wipe σ vs) env' fps' x'.1 F' (srcA ho) w.items.length
    refine .inl ⟨j1 rfl, hend _ H B' fps' x' (F1.rest hf1 F' hf' x'.1) ⟨_, .lst eD rds, fun a ha => ?_⟩⟩
    simp at ha
    subst ha
    refine ⟨hDb', hDp, hDf'⟩
theorem mLc_in {K : PySem.W.Frag} {σ : L2.St} {H : Hp} {Q : VK} (hg : ∀ i ∈ tg.slots, vs.contains i = true) (h : tM K cl E (mLc it tg tt te vs) σ H Q) : tLc (tI K cl E it) (tGd K tg) (tMT K cl XN tt) (tM K cl XN te) vs σ H Q := by
  obtain ⟨P, B, env, fps, F, h⟩ := h
  refine ⟨P, B, env, fps, F, (postE_bnd h).mono fun w H1 B1 fps1 env1 x1 F1 h1 J jd D0 hD => ?_⟩
  by_cases hc : ownFree env1 vs = true ∧ w.items.length ≤ sizeLine
  · rw [if_pos hc] at h1
    refine lc_ok (E := E) hg F1 jd hc.1 hc.2 ?_ hD
    cases q : lcL tg w.src tt te vs w.items [] (wipeE env1 vs) with
    | ok acc env2 => rw [q] at h1; exact h1
    | ex c e => rw [q] at h1; exact h1.elim
    | stuck => rw [q] at h1; exact h1.elim
  · rw [if_neg hc] at h1; exact h1.elim
theorem de_lc (hc : X.calm = true) (hN : X.N.Nodup) (hi : DI X cl E tgt iter it) (ok : blkC X.N X.env.scope scope own = true) (hsl : ∀ i ∈ tg.slots, (own.map (·.2)).contains i = true)
    (hg : ∀ (s : Shared) (H : Hp) (C : Addr) (clo : List (Str × Addr)) (fp : List Addr), DG (X.blk s H scope (compEnvC scope clo C X.env) fp) tgt tg) (ht : ∀ (s : Shared) (H : Hp) (C : Addr) (clo : List (Str × Addr)) (fp : List Addr), DTs (X.blk s H scope (compEnvC scope clo C X.env) fp) cl XN ifs tt)
    (he : ∀ (s : Shared) (H : Hp) (C : Addr) (clo : List (Str × Addr)) (fp : List Addr), DE (X.blk s H scope (compEnvC scope clo C X.env) fp) cl XN elt te) (hs : ∀ x, foldedSetIterable iter X.env x = pure x := by intro _; rfl) :
    DE X cl E (.ListComp elt [⟨tgt, iter, ifs, 0⟩] scope pos) (mLc it tg tt te (own.map (·.2))) := by
  have hp := pe_lc (pos := pos) (g := tGd X.K tg) (tt := tMT X.K cl XN tt) (te := tM X.K cl XN te) hc hN hi (blkOk_by ok) hg ht he hs
  exact ⟨fun pins s σ H Q I h => hp.run pins s σ H Q I (mLc_in hsl h)⟩
end
end Mi

set_option Elab.async false
set_option linter.all false
set_option maxRecDepth 100000
namespace Mi
open PySem PySem.Spec L2

/-! ### name = [.. for ..] -/
section
variable {X : Cx} {cl : String → Addr} {E : XK} {io : List Nat} {e : Expr} {m : M Rv} {pos : Pos} {i : Nat} {x : Str} {pos' : Pos}
theorem set_in {P B H : Hp} {σ : L2.St} {env : Env} {fps : Nat → List Addr} {D : Ends} (hlt : i < σ.length) (hio : io.contains i = false) (F : Fm X.K P B H σ env fps)
    (h : PostS X.K cl E io σ P B (mSet i m env) fun fl σ' H' B' fps' _ => EndS X.K io P B' D fl σ' H' B' fps') : tM X.K cl E m σ H (fun v H1 => D.nx (σ.set i (some v)) H1) := by
  refine ⟨P, B, env, fps, F, ?_⟩
  have h1 := postS_e h
  cases q : m env with
  | ok r env1 =>
    rw [q] at h1
    intro v H1 B1 fps1 x1 F1 r1
    obtain ⟨B2, env2, fps2, r2, x2, F2, s2, h2⟩ := h1 v H1 B1 fps1 x1 F1 r1
    exact post_set F2 hlt hio s2 h2
  | ex c env1 =>
    rw [q] at h1
    exact h1
  | stuck => rw [q] at h1; exact h1.elim
theorem ds_setLc {elt tgt iter : Expr} {ifs : List Expr} {scope : Scope} {own : List (Str × Nat)} {py : Pos} {it : M Wk} {tg : Tg} {tt : M Bool} {te : M Rv} {spos : Pos} (hc : X.calm = true) (hN : X.N.Nodup) (hy : X.N[i]? = some x) (hyl : X.env.scope.names.lookup x = some .local) (hio : io.contains i = false)
    (hsw : swapsWith (.ListComp elt [⟨tgt, iter, ifs, 0⟩] scope pos) (some (.Name x py)) spos.line X.env = pure true) (hi : DI X cl E tgt iter it) (ok : blkC X.N X.env.scope scope own = true) (hsl : ∀ i ∈ tg.slots, (own.map (·.2)).contains i = true)
    (hg : ∀ (s : Shared) (H : Hp) (C : Addr) (clo : List (Str × Addr)) (fp : List Addr), DG (X.blk s H scope (compEnvC scope clo C X.env) fp) tgt tg) (ht : ∀ (s : Shared) (H : Hp) (C : Addr) (clo : List (Str × Addr)) (fp : List Addr), DTs (X.blk s H scope (compEnvC scope clo C X.env) fp) cl XN ifs tt)
    (he : ∀ (s : Shared) (H : Hp) (C : Addr) (clo : List (Str × Addr)) (fp : List Addr), DE (X.blk s H scope (compEnvC scope clo C X.env) fp) cl XN elt te) (hs : ∀ x, foldedSetIterable iter X.env x = pure x := by intro _; rfl) :
    DS X cl E io (.Assign [.Name x py] (.ListComp elt [⟨tgt, iter, ifs, 0⟩] scope pos) spos) (mSet i (mLc it tg tt te (own.map (·.2)))) := by
  refine ⟨fun pins s σ H D I ⟨P, B, env, fps, F, h⟩ => ?_⟩
  have hlt : i < σ.length := by rw [I.len]; exact getElem?_lt hy
  have hp := ps_setLc (py := py) (pos := pos) (spos := spos) (g := tGd X.K tg) (tt := tMT X.K cl XN tt) (te := tM X.K cl XN te) hc hN hy hyl hsw hi (blkOk_by ok) hg ht he hs
  exact hp.run pins s σ H D I (mLc_in (Q := fun v H1 => gName i v σ H1 D.nx) hsl (set_in hlt hio F h))
end

/-! ### a, b = .. (a tuple unpacked) -/
def mTgt (tg : Tg) (m : M Rv) : M Fl := bnd (vm m) fun r env => match r with
  | .d x => match asgT tg x env with
    | some env' => .ok .nx env'
    | none => .stuck
  | _ => .stuck
section
variable {X : Cx} {cl : String → Addr} {E : XK} {io : List Nat} {e tgt : Expr} {m : M Rv} {pos : Pos} {tg : Tg}
theorem ds_tgt (he : DE X cl E e m) (hg : DG X tgt tg) (hio : ∀ i ∈ tg.slots, io.contains i = false) (hs : swapsWithSole [tgt] e pos.line X.env = pure false := by rfl) (hw : swappedStores [tgt] e X.env = pure none := by rfl)
    (h1 : (assignEach [tgt] X.env).map (·.2) = [assign tgt X.env] := by rfl) : DS X cl E io (.Assign [tgt] e pos) (mTgt tg m) := by
  refine ⟨fun pins s σ H D I ⟨P, B, env, fps, F, h⟩ => (ps_asg he hg hs hw h1).run pins s σ H D I ⟨P, B, env, fps, F, ?_⟩⟩
  unfold mTgt vm at h
  have h : PostS X.K cl E io σ P B ((bnd m fun r => fun env => match r.frz with
    | .d x => match asgT tg x env with
      | some env' => .ok .nx env'
      | none => .stuck
    | _ => .stuck) env) fun fl σ' H' B' fps' _ => EndS X.K io P B' D fl σ' H' B' fps' := by
      have e : (bnd (bnd m fun r => ret r.frz) fun r env => match r with
        | .d x => match asgT tg x env with
          | some env' => .ok Fl.nx env'
          | none => .stuck
        | _ => .stuck) env = (bnd m fun r => fun env => match r.frz with
        | .d x => match asgT tg x env with
          | some env' => .ok .nx env'
          | none => .stuck
        | _ => .stuck) env := by
          unfold bnd
          cases m env <;> rfl
      rw [← e]; exact h
  have h1 := postS_e h
  cases q : m env with
  | ok r env1 =>
    rw [q] at h1
    intro v H1 B1 fps1 x1 F1 r1
    obtain ⟨B2, env2, fps2, r2, x2, F2, s2, h2⟩ := h1 v H1 B1 fps1 x1 F1 r1
    obtain ⟨B3, x3, F3, s3⟩ := freeze_rv F2 s2
    cases e3 : r2.frz with
    | own o => rw [e3] at h2; exact h2.elim
    | pl j => rw [e3] at h2; exact h2.elim
    | d x =>
      rw [e3] at h2 s3
      cases e4 : asgT tg x env2 with
      | none => simp only [e4] at h2; exact h2.elim
      | some env' =>
        simp only [e4] at h2
        exact ⟨P, B3, env2, fps2, x, env', F3, s3, e4, fun σ' fps' F' sb => h2 σ' H1 B3 fps' x3 F' (sameIo_but sb hio)⟩
  | ex c env1 =>
    rw [q] at h1
    exact fun H' B' fps' x F => h1 H' B' fps' x F
  | stuck => rw [q] at h1; exact h1.elim
end

/-! ### x[i] = .. -/
def mStore (j : Nat) (me mi : M Rv) : M Fl := bnd (vm me) fun r => bnd (chkL j) fun _ => bnd (vm mi) fun ri => bnd (frzR r) fun y env => match ri, env[j]? with
  | .d (.int k), some (some (.lst ds)) => match ixN ds.length k with
    | some n => .ok .nx (env.set j (some (.lst (ds.set n y))))
    | none => .stuck
  | _, _ => .stuck
section
variable {X : Cx} {cl : String → Addr} {E : XK} {io : List Nat} {e ie : Expr} {me mi : M Rv} {pos spos px : Pos} {j : Nat} {x : Str}
theorem postS_vm {α : Type} {K : PySem.W.Frag} {P B : Hp} {σ : L2.St} {env : Env} {m : M Rv} {k : Rv → M α} {R : α → L2.St → Hp → Hp → (Nat → List Addr) → Env → Prop} (h : PostS K cl E io σ P B ((bnd (vm m) k) env) R) :
    PostE K cl E P B σ (m env) fun v H1 => ∃ B1 env1 fps1 r, Ext P B B1 ∧ Fm K P B1 H1 σ env1 fps1 ∧ RvS K B1 σ r v ∧ PostS K cl E io σ P B1 (k r env1) R := by
  have e : (bnd (vm m) k) env = (bnd m fun r => k r.frz) env := by
    unfold vm bnd
    cases m env <;> rfl
  rw [e] at h
  have h1 := postS_e h
  cases q : m env with
  | ok r env1 =>
    rw [q] at h1
    intro v H1 B1 fps1 x1 F1 r1
    obtain ⟨B2, env2, fps2, r2, x2, F2, s2, h2⟩ := h1 v H1 B1 fps1 x1 F1 r1
    obtain ⟨B3, x3, F3, s3⟩ := freeze_rv F2 s2
    exact ⟨B3, env2, fps2, r2.frz, x2.trans x3, F3, s3, PostS.ext x3 SameIo.refl h2⟩
  | ex c env1 => rw [q] at h1; exact h1
  | stuck => rw [q] at h1; exact h1.elim
theorem ds_store (hN : X.N[j]? = some x) (hv : Vis X.env.scope x) (he : DE X cl E e me) (hi : DE X cl E ie mi) (hd : (x == ("__debug__" : Str)) = false := by decide) (hcd : (x == ("__classdict__" : Str)) = false := by decide)
    (hs : swapsWithSole [.Subscript (.Name x px) ie spos] e pos.line X.env = pure false := by rfl) (hw : swappedStores [.Subscript (.Name x px) ie spos] e X.env = pure none := by rfl)
    (ha : ∀ v, assign (.Subscript (.Name x px) ie spos) X.env v = (do
      let ov ← holding [v] (eval (.Name x px) X.env)
      let iv ← holding [v, ov] (eval ie X.env)
      standAt spos
      holding [v, ov, iv] (setItem ov iv v)
      release [v, ov, iv] []) := by intro _; rfl)
    (h1 : (assignEach [.Subscript (.Name x px) ie spos] X.env).map (·.2) = [assign (.Subscript (.Name x px) ie spos) X.env] := by rfl) : DS X cl E io (.Assign [.Subscript (.Name x px) ie spos] e pos) (mStore j me mi) := by
  refine ⟨fun pins s σ H D I ⟨P, B, env, fps, F, h⟩ => (ps_asg he (pg_sub (pe_var hN hv hd hcd) hi set_list ha) hs hw h1).run pins s σ H D I ⟨P, B, env, fps, F, ?_⟩⟩
  have h1 := postS_vm h
  cases q : me env with
  | ex c env1 => rw [q] at h1; exact h1
  | stuck => rw [q] at h1; exact h1.elim
  | ok r env1 =>
    rw [q] at h1
    intro v H1 B1 fps1 x1 F1 r1
    obtain ⟨B2, env2, fps2, r2, x2, F2, s2, h2⟩ := h1 v H1 B1 fps1 x1 F1 r1
    unfold bnd chkL at h2
    cases ee : env2[j]? with
    | none => simp only [ee, bind_stuck] at h2; exact h2.elim
    | some oo =>
    cases oo with
    | none => simp only [ee, bind_stuck] at h2; exact h2.elim
    | some oo =>
    cases oo with
    | dat d => simp only [ee, bind_stuck] at h2; exact h2.elim
    | dct d => simp only [ee, bind_stuck] at h2; exact h2.elim
    | tpl d => simp only [ee, bind_stuck] at h2; exact h2.elim
    | lst zs =>
    simp only [ee, bind_ok] at h2
    obtain ⟨w, ew, rw0⟩ := F2.slot j _ ee
    refine ⟨w, ew, P, B2, env2, fps2, F2, ?_⟩
    have h3 := postS_vm (m := mi) h2
    cases q3 : mi env2 with
    | ex c env1 => rw [q3] at h3; exact h3
    | stuck => rw [q3] at h3; exact h3.elim
    | ok ri env3 =>
      rw [q3] at h3
      intro v4 H4 B4 fps4 x4 F4 r4
      obtain ⟨B5, env5, fps5, r5, x5, F5, s5, h5⟩ := h3 v4 H4 B4 fps4 x4 F4 r4
      cases q6 : frzR r2 env5 with
      | stuck => rw [q6] at h5; exact h5.elim
      | ex c e => exact absurd q6 frzR_nex
      | ok y env6 =>
        rw [q6] at h5
        simp only [bind_ok] at h5
        obtain ⟨B7, fps7, x7, F7, r7⟩ := frzR_ok F5 (s2.mono x5.1) q6
        split at h5
        · rename_i k ds e8
          split at h5
          · rename_i n e9
            cases (show RD X.K B5 (.int k) v4 from s5)
            obtain ⟨a, vs, ea, hf, e10, r10⟩ := (F7.pl e8 ew).lst_inv
            cases ea
            refine ⟨a, vs, k, n, rfl, rfl, e10, by rw [RDs.length _ _ r10]; exact e9, ?_⟩
            have hr : OwnR X.K B7 (upd H4 a (.lst (vs.set n v))) (.lst (ds.set n y)) (.ref a) [a] := .lst upd_same (RDs.set n r10 r7)
            exact h5 σ _ B7 fps7 x7 (F7.write e8 ew hf hr) SameIo.refl
          · exact h5.elim
        · exact h5.elim
end

/-! ### while -/
def whileL (t : M Bool) (body : M Fl) : Nat → M Fl
  | 0 => stk
  | n + 1 => bnd t fun c => if c = true then bnd body fun fl => match fl with
      | .nx => whileL t body n
      | .ct => whileL t body n
      | .bk => ret .nx
      | .rt o => ret (.rt o)
    else ret .nx
def mWhile (n : Nat) (t : M Bool) (body : M Fl) : M Fl := whileL t body n
section
variable {X : Cx} {cl : String → Addr} {E : XK} {io : List Nat} {c : Expr} {sts : List Stmt} {t : M Bool} {body : M Fl} {pos : Pos}
theorem ds_while {n : Nat} (hp : PassesOwn (model X.prog X.w) X.A X.env X.xe) (hc : DT X cl E c t) (hb : DSs X cl E io sts body) : DS X cl E io (.While c sts [] pos) (mWhile n t body) := by
  refine ⟨fun pins s σ H D I ⟨P, B, env, fps, F, h⟩ => (ps_while hp hc hb).run pins s σ H D I ?_⟩
  refine ⟨fun m σ' H' => ∃ B' env' fps', Ext P B B' ∧ Fm X.K P B' H' σ' env' fps' ∧ SameIo io σ σ' ∧ PostS X.K cl E io σ' P B' (whileL t body m env') fun fl σ2 H2 B2 fps2 _ => EndS X.K io P B2 D fl σ2 H2 B2 fps2,
    ⟨n, B, env, fps, Ext.refl, F, SameIo.refl, h⟩, ?_⟩
  rintro m σ' H' ⟨B', env', fps', x', F', s', h'⟩
  cases m with
  | zero => exact h'.elim
  | succ m =>
    unfold whileL at h'
    refine ⟨P, B', env', fps', F', ?_⟩
    have h1 := postS_t h'
    cases q : t env' with
    | stuck => rw [q] at h1; exact h1.elim
    | ex c env1 =>
      rw [q] at h1
      exact h1
    | ok b env1 =>
      rw [q] at h1
      intro H1 B1 fps1 x1 F1
      have h2 := h1 H1 B1 fps1 x1 F1
      cases b with
      | false =>
        simp only [Bool.false_eq_true, if_false] at h2 ⊢
        exact h2 σ' H1 B1 fps1 Ext.refl F1 SameIo.refl
      | true =>
        simp only [if_true] at h2 ⊢
        refine ⟨fun σ3 H3 => ∃ B3 env3 fps3, Ext P B B3 ∧ Fm X.K P B3 H3 σ3 env3 fps3 ∧ SameIo io σ σ3 ∧ PostS X.K cl E io σ3 P B3 (whileL t body m env3) fun fl σ2 H2 B2 fps2 _ => EndS X.K io P B2 D fl σ2 H2 B2 fps2,
          fun σ3 H3 r3 => ⟨m, Nat.lt_succ_self m, r3⟩, P, B1, env1, fps1, F1, ?_⟩
        unfold bnd at h2
        cases qb : body env1 with
        | stuck => rw [qb] at h2; exact h2.elim
        | ex c env4 => rw [qb] at h2; exact h2
        | ok fl env4 =>
          rw [qb] at h2
          simp only [bind_ok] at h2
          intro σ4 H4 B4 fps4 x4 F4 s4
          cases fl with
          | nx => exact ⟨B4, env4, fps4, x'.trans (x1.trans x4), F4, s'.trans s4, PostS.ext x4 s4 h2⟩
          | ct => exact ⟨B4, env4, fps4, x'.trans (x1.trans x4), F4, s'.trans s4, PostS.ext x4 s4 h2⟩
          | bk => exact h2 σ4 H4 B4 fps4 x4 F4 s4
          | rt o =>
            intro v fp r off
            exact h2 σ4 H4 B4 fps4 x4 F4 s4 v fp r off
end
end Mi

set_option Elab.async false
set_option linter.all false
set_option maxRecDepth 100000
namespace Mi
open PySem PySem.Spec L2

/-! ### a def of the program, where it stands -/
def DefAt (K : PySem.W.Frag) (mg : Str → Option Value) (x : Str) (ps : List Str) (st : Stmt) : Prop :=
  ∃ f fd, mg x = some (.ref f) ∧ FunD K x x (defArgs st) (defBody st) (defScope st) [] [] f fd ∧ Binds K fd ps []
/-- a def keeps its mirror, k steps of room -/
def Has (P : Program) (w : World) (K : PySem.W.Frag) (mg : Str → Option Value) (base : Heap) (cl : String → Addr) (k : Nat) (x : Str) (ps : List Str) (n : Nat) (io : List Nat) (F : M O) : Prop :=
  ∃ f fd, mg x = some (.ref f) ∧ PySem.W.keepIn K (.ref f) = true ∧ Binds K fd ps [] ∧ FnOk P w K mg base (L2.CX P w) k f fd ps (spF K cl n io F)
section
variable {P : Program} {w : World} {K : PySem.W.Frag} {mg : Str → Option Value} {base : Heap} {cl : String → Addr} {x : Str} {ps N : List Str} {st : Stmt} {k n : Nat} {io : List Nat} {m : M Fl} {F : M O}
/-- the context of a def's body -/
abbrev Bd (P : Program) (w : World) (K : PySem.W.Frag) (mg : Str → Option Value) (base : Heap) (cl : String → Addr) (k : Nat) (x : Str) (N : List Str) (io : List Nat) (st : Stmt) (m : M Fl) : Prop :=
  ∀ (f : Addr) (cdv : Value) (A : Around) (outer : List PySem.Env) (s : Shared) (H : Hp) (E : XK), Room k (A.deeper (PyProof.Rows.envOfC x (defScope st) s.heap.objs.size f cdv)) →
    DSs (cxOf (L2.CX P w) P w K mg base N x (defScope st) f cdv A outer s H E) cl E io (defBody st) m
theorem has_by (d : DefAt K mg x ps st) (S : FnScope N ps (defScope st)) (hn : ps.length = n) (hio : ∀ i ∈ io, i < n) (hb : Bd P w K mg base cl k x N io st m) : Has P w K mg base cl (k + 1) x ps n io (runF N.length m) := by
  obtain ⟨f, fd, h1, h2, h3⟩ := d
  exact ⟨f, fd, h1, h2.kp, h3, fn_by h2 S hn hio fun cdv A outer s H E hr => hb f cdv A outer s H E hr⟩
theorem Has.mono {j : Nat} (h : Has P w K mg base cl j x ps n io F) (hk : j ≤ k) : Has P w K mg base cl k x ps n io F := by
  obtain ⟨f, fd, h1, h2, h3, h4⟩ := h
  exact ⟨f, fd, h1, h2, h3, h4.mono hk⟩
end
/-- what a callee lets out is taken: a def's own context -/
theorem pass_fn {P : Program} {w : World} {K : PySem.W.Frag} {mg : Str → Option Value} {base : Heap} {N : List Str} {qual : Str} {scope : Scope} {f : Addr} {cd : Value} {A : Around} {outer : List PySem.Env} {s : Shared} {H : Hp} {E : XK} :
    Passes (L2.CX P w) (cxOf (L2.CX P w) P w K mg base N qual scope f cd A outer s H E) E := by
  have tk := L2.takes_of (X := cxOf (L2.CX P w) P w K mg base N qual scope f cd A outer s H E) (E := E) rfl rfl rfl rfl
  exact L2.passes_call tk fun _ _ _ _ e => e
/-- .. within a comprehension nothing is let out -/
theorem pass_xn {P : Program} {w : World} {X : Cx} : Passes (L2.CX P w) X XN := fun _ _ _ _ _ _ _ h => by
  obtain ⟨_, _, _, _, _, _, _, _, _, _, _, _, z⟩ := h
  exact z.elim
theorem pow_fn {P : Program} {w : World} {K : PySem.W.Frag} {mg : Str → Option Value} {base : Heap} {N : List Str} {qual : Str} {scope : Scope} {f : Addr} {cd : Value} {A : Around} {outer : List PySem.Env} {s : Shared} {H : Hp} {E : XK} :
    PassesOwn (model P w) (A.deeper (PyProof.Rows.envOfC qual scope s.heap.objs.size f cd)) (PyProof.Rows.envOfC qual scope s.heap.objs.size f cd) (cxOf (L2.CX P w) P w K mg base N qual scope f cd A outer s H E).xe :=
  L2.passes_of (X := cxOf (L2.CX P w) P w K mg base N qual scope f cd A outer s H E) rfl

section
variable {X : Cx} {cl : String → Addr} {E : XK} {a b e : Expr} {es : List Expr} {m ma mb : M Rv} {ms : M (List Rv)} {p apos cpos pos : Pos} {i n k : Nat} {x : Str}
theorem de_never : DE X cl E e stk := ⟨fun pins s σ H Q I ⟨P, B, env, fps, F, h⟩ => h.elim⟩
theorem dt_never : DT X cl E e stk := ⟨fun pins s σ H Q I ⟨P, B, env, fps, F, h⟩ => h.elim⟩
theorem da_never {es : List Expr} : DA X cl E es stk := ⟨fun pos pins s σ H Q I ⟨P, B, env, fps, F, h⟩ => h.elim⟩
theorem units_of (hr : Room k X.A) : X.A.units + 64 < cLine := hr.units
theorem units1_of (hr : Room k X.A) : X.A.units + 65 < cLine := by have := hr.un; omega
/-- a def of the program is called -/
theorem de_def {ps : List Str} {io : List Nat} {F : M O} {j : Nat} (h : Has X.prog X.w X.K X.mg X.base cl j x ps n io F) (hr : Room k X.A) (hk : j ≤ k) (hg : Gl X x) (hx : Passes (L2.CX X.prog X.w) X E) (ha : DA X cl E (e :: es) ms) (hl : Len ms n)
    (hdb : (x == ("__debug__" : Str)) = false := by decide) (he : starEach (e :: es) X.env = (false, eval e X.env) :: starEach es X.env := by rfl) (hpl : (backTo pos (starEach es X.env)).any (·.1) = false := by rfl) :
    DE X cl E (.Call (.Name x p) (e :: es) [] pos) (mCall io F ms) := by
  obtain ⟨f, fd, h1, h2, h3, h4⟩ := h
  exact de_call h4 (hr.mono hk) hg h1 h2 h3 hx ha hl hdb he hpl
theorem de_def0 {ps : List Str} {io : List Nat} {F : M O} {j : Nat} (h : Has X.prog X.w X.K X.mg X.base cl j x ps 0 io F) (hr : Room k X.A) (hk : j ≤ k) (hg : Gl X x) (hx : Passes (L2.CX X.prog X.w) X E)
    (hdb : (x == ("__debug__" : Str)) = false := by decide) : DE X cl E (.Call (.Name x p) [] [] pos) (mCall io F mNil) := by
  obtain ⟨f, fd, h1, h2, h3, h4⟩ := h
  exact de_call0 h4 (hr.mono hk) hg h1 h2 h3 hx hdb

/-! ### builtins, short -/
theorem de_len (hg : Gl X "len") (hm : X.mg "len" = none) (ha : DA X cl E [e] ms) (he : starEach [e] X.env = (false, eval e X.env) :: starEach [] X.env := by rfl) : DE X cl E (.Call (.Name "len" p) [e] [] pos) (mCB gLen ms) :=
  de_callB call_len ru_len hg hm boot_len ha (by decide) (by decide) he rfl
theorem de_tuple (hg : Gl X "tuple") (hm : X.mg "tuple" = none) (ha : DA X cl E [e] ms) (he : starEach [e] X.env = (false, eval e X.env) :: starEach [] X.env := by rfl) : DE X cl E (.Call (.Name "tuple" p) [e] [] pos) (mCB gTuple ms) :=
  de_callTy call_tuple_of ru_tuple hg hm PyProof.Rows.boot_tuple ha (by decide) (by decide) he rfl
theorem de_list (hg : Gl X "list") (hm : X.mg "list" = none) (ha : DA X cl E [e] ms) (he : starEach [e] X.env = (false, eval e X.env) :: starEach [] X.env := by rfl) : DE X cl E (.Call (.Name "list" p) [e] [] pos) (mCB gList ms) :=
  de_callTy call_list_of ru_list hg hm PyProof.Rows.boot_list ha (by decide) (by decide) he rfl
theorem de_toInt (hg : Gl X "int") (hm : X.mg "int" = none) (ha : DA X cl E [e] ms) (he : starEach [e] X.env = (false, eval e X.env) :: starEach [] X.env := by rfl) : DE X cl E (.Call (.Name "int" p) [e] [] pos) (mCB gInt ms) :=
  de_callTy call_int1 ru_int hg hm PyProof.Rows.boot_int ha (by decide) (by decide) he rfl
theorem de_max2 (hc : X.calm = true) (hg : Gl X "max") (hm : X.mg "max" = none) (ha : DA X cl E [a, b] ms) (he : starEach [a, b] X.env = (false, eval a X.env) :: starEach [b] X.env := by rfl) (hpl : (backTo pos (starEach [b] X.env)).any (·.1) = false := by rfl) : DE X cl E (.Call (.Name "max" p) [a, b] [] pos) (mCB gMax2 ms) :=
  de_callB (call_max2 hc) ru_max2 hg hm PyProof.Rows.boot_max ha (by decide) (by decide) he hpl
theorem de_min2 (hc : X.calm = true) (hg : Gl X "min") (hm : X.mg "min" = none) (ha : DA X cl E [a, b] ms) (he : starEach [a, b] X.env = (false, eval a X.env) :: starEach [b] X.env := by rfl) (hpl : (backTo pos (starEach [b] X.env)).any (·.1) = false := by rfl) : DE X cl E (.Call (.Name "min" p) [a, b] [] pos) (mCB gMin2 ms) :=
  de_callB (call_min2 hc) ru_min2 hg hm PyProof.Rows.boot_min ha (by decide) (by decide) he hpl
theorem de_sum (hc : X.calm = true) (hg : Gl X "sum") (hm : X.mg "sum" = none) (ha : DA X cl E [e] ms) (he : starEach [e] X.env = (false, eval e X.env) :: starEach [] X.env := by rfl) : DE X cl E (.Call (.Name "sum" p) [e] [] pos) (mCB gSum ms) :=
  de_callB (cr_sum hc) ru_sum hg hm PyProof.Rows.boot_sum ha (by decide) (by decide) he rfl
theorem de_all (hc : X.calm = true) (hg : Gl X "all") (hm : X.mg "all" = none) (ha : DA X cl E [e] ms) (he : starEach [e] X.env = (false, eval e X.env) :: starEach [] X.env := by rfl) : DE X cl E (.Call (.Name "all" p) [e] [] pos) (mCB gAll ms) :=
  de_callB (cr_all hc) ru_all hg hm PyProof.Rows.boot_all ha (by decide) (by decide) he rfl
theorem de_any (hc : X.calm = true) (hg : Gl X "any") (hm : X.mg "any" = none) (ha : DA X cl E [e] ms) (he : starEach [e] X.env = (false, eval e X.env) :: starEach [] X.env := by rfl) : DE X cl E (.Call (.Name "any" p) [e] [] pos) (mCB gAny ms) :=
  de_callB (cr_any hc) ru_any hg hm PyProof.Rows.boot_any ha (by decide) (by decide) he rfl
/-- list(range(n)) -/
def mLstR (m : M Rv) : M Rv := bnd (vm m) fun r => match r with
  | .d (.int j) => if 0 ≤ j ∧ j ≤ 16777216 then ret (.own (.lst (rngD 0 j.toNat))) else stk
  | _ => stk
theorem rgV_rd {K : PySem.W.Frag} {B : Hp} (lo : Int) : ∀ n, RDs K B ((List.range n).map fun i => .int (lo + (i : Nat))) ((List.range n).map fun i => V.int (lo + (i : Nat)))
  | 0 => .nil
  | n + 1 => by
    rw [List.range_succ, List.map_append, List.map_append]
    exact RDs.append (rgV_rd lo n) (.cons (.int _) .nil)
theorem de_lstR {p2 pos2 : Pos} (hc : X.calm = true) (hg : Gl X "list") (hm : X.mg "list" = none) (hg2 : Gl X "range") (hm2 : X.mg "range" = none) (ha : DE X cl E a ma) (na : starEach [a] X.env = (false, eval a X.env) :: starEach [] X.env := by rfl)
    (nb : starEach [.Call (.Name "range" p2) [a] [] pos2] X.env = (false, eval (.Call (.Name "range" p2) [a] [] pos2) X.env) :: starEach [] X.env := by rfl) :
    DE X cl E (.Call (.Name "list" p) [.Call (.Name "range" p2) [a] [] pos2] [] pos) (mLstR ma) := by
  refine ⟨fun pins s σ H Q I ⟨P, B, env, fps, F, h⟩ => (pe_listRg hc hg hm (prg_1 hg2 hm2 ha na) nb).run pins s σ H Q I ⟨P, B, env, fps, F, ?_⟩⟩
  refine (post_vm h).mono ?_
  intro v H1 ⟨B2, env2, fps2, r, x2, F2, q, h2⟩
  split at h2
  · rename_i j
    split at h2
    · rename_i hj
      cases rvs_int q
      refine ⟨j, rfl, RgOk.of_le (by omega) (by omega) (by omega) (by omega), fun l hl => ?_⟩
      obtain ⟨h3, h4, h5⟩ := F2.newB hl
      refine h2 _ _ B2 fps2 Ext.refl (F2.alloc hl) ⟨_, .lst upd_same ?_, fun a ha => by simp at ha; subst ha; exact ⟨h3, h4, h5⟩⟩
      have e : (j - 0).toNat = j.toNat := by omega
      unfold rgV rngD
      rw [e]
      exact rgV_rd 0 _
    · exact h2.elim
  · exact h2.elim
end

section
variable {X : Cx} {cl : String → Addr} {E : XK} {e : Expr} {es : List Expr} {ms : M (List Rv)} {i n : Nat} {x : Str} {p apos cpos : Pos}
theorem de_app (hN : X.N[i]? = some x) (hv : Vis X.env.scope x) (ha : DA X cl E [e] ms) (hl : Len ms 1) (hdb : (x == ("__debug__" : Str)) = false := by decide) (hcd : (x == ("__classdict__" : Str)) = false := by decide)
    (hbase : attributeBase (.Name x p) "append" X.env (eval (.Name x p) X.env) = eval (.Name x p) X.env := by rfl)
    (hfew : ((backTo cpos (starEach [e] X.env)).all (fun x => !x.1) && (backToKw cpos (keywordEach [] X.env)).all (fun x => x.1.isSome)
      && decide (([e] : List Expr).length + ([] : List Keyword).length + (if ([] : List Keyword).isEmpty then 0 else 1) < 30)) = true := by rfl)
    (hline : (apos.endLine == cpos.line) = true := by rfl) (hs : starEach [e] X.env = (false, eval e X.env) :: starEach [] X.env := by rfl) :
    DE X cl E (.Call (.Attribute (.Name x p) "append" apos) [e] [] cpos) (mMetF i gApp ms) :=
  de_metF PySem.F.slot_list_append PySem.F.plainAttrs_list PySem.F.type_list_append mt_append ru_app hN hv ha hl hdb hcd hbase hfew hline hs rfl
theorem de_pop (hN : X.N[i]? = some x) (hv : Vis X.env.scope x) (hdb : (x == ("__debug__" : Str)) = false := by decide) (hcd : (x == ("__classdict__" : Str)) = false := by decide)
    (hbase : attributeBase (.Name x p) "pop" X.env (eval (.Name x p) X.env) = eval (.Name x p) X.env := by rfl) (hline : (apos.endLine == cpos.line) = true := by rfl) :
    DE X cl E (.Call (.Attribute (.Name x p) "pop" apos) [] [] cpos) (mMet i gPop0 mNil) :=
  de_met0 PySem.F.slot_list_pop PySem.F.plainAttrs_list PySem.F.type_list_pop mt_pop ru_pop0 hN hv hdb hcd hbase hline
theorem de_popI (hN : X.N[i]? = some x) (hv : Vis X.env.scope x) (ha : DA X cl E [e] ms) (hdb : (x == ("__debug__" : Str)) = false := by decide) (hcd : (x == ("__classdict__" : Str)) = false := by decide)
    (hbase : attributeBase (.Name x p) "pop" X.env (eval (.Name x p) X.env) = eval (.Name x p) X.env := by rfl)
    (hfew : ((backTo cpos (starEach [e] X.env)).all (fun x => !x.1) && (backToKw cpos (keywordEach [] X.env)).all (fun x => x.1.isSome)
      && decide (([e] : List Expr).length + ([] : List Keyword).length + (if ([] : List Keyword).isEmpty then 0 else 1) < 30)) = true := by rfl)
    (hline : (apos.endLine == cpos.line) = true := by rfl) (hs : starEach [e] X.env = (false, eval e X.env) :: starEach [] X.env := by rfl) :
    DE X cl E (.Call (.Attribute (.Name x p) "pop" apos) [e] [] cpos) (mMet i gPopI ms) :=
  de_met PySem.F.slot_list_pop PySem.F.plainAttrs_list PySem.F.type_list_pop mt_popAt ru_popI hN hv ha hdb hcd hbase hfew hline hs rfl
theorem de_rev (hN : X.N[i]? = some x) (hv : Vis X.env.scope x) (hdb : (x == ("__debug__" : Str)) = false := by decide) (hcd : (x == ("__classdict__" : Str)) = false := by decide)
    (hbase : attributeBase (.Name x p) "reverse" X.env (eval (.Name x p) X.env) = eval (.Name x p) X.env := by rfl) (hline : (apos.endLine == cpos.line) = true := by rfl) :
    DE X cl E (.Call (.Attribute (.Name x p) "reverse" apos) [] [] cpos) (mMet i gRev mNil) :=
  de_met0 PySem.F.slot_list_reverse PySem.F.plainAttrs_list PySem.F.type_list_reverse mt_reverse ru_rev hN hv hdb hcd hbase hline
end
end Mi

set_option Elab.async false
set_option linter.all false
set_option maxRecDepth 100000
namespace Mi
open PySem PySem.Spec L2

/-- a law lets nothing out -/
theorem FnOk_cx0 {P : Program} {w : World} {K : PySem.W.Frag} {mg : Str → Option Value} {base : Heap} {k : Nat} {f : Addr} {fd : FuncData} {ps : List Str} {sp : Sp} (F : FnOk P w K mg base (L2.CX P w) k f fd ps sp) :
    FnOk P w K mg base CX0 k f fd ps fun vs H Q E => sp vs H Q fun _ _ _ => False := by
  refine ⟨fun vs H Q E h => F.len vs H Q _ h, fun A outer s H args us vs Q E hr e0 hb hv h => ?_⟩
  refine codeAny_mono (F.run A outer s H args us vs Q _ hr e0 hb hv h) fun r s' q => ?_
  cases r with
  | error e =>
    obtain ⟨_, _, _, _, _, _, _, _, _, _, _, _, z⟩ := (show L2.CX P w outer H s (fun _ _ _ => False) e s' from q)
    exact z.elim
  | ok r => cases r <;> exact q
theorem ints_rd {K : PySem.W.Frag} {B : Hp} : ∀ ns : List Int, RDs K B (ns.map PyData.int) (ns.map V.int)
  | [] => .nil
  | n :: ns => .cons (.int n) (ints_rd ns)
/-- what a law's mirror must do -/
def Holds (n : Nat) (F : M O) : Prop := ∀ ns : List Int, ns.length ≤ n → ∃ env', F [some (.dat (.list (ns.map PyData.int)))] = .ok (.dat (.bool true)) env'
theorem rd_noTb {H : Hp} {a : Addr} {xs : List V} (h : Rd H a (.lst xs)) : Rd (noTb H) a (.lst xs) := by
  rcases h with h | ⟨o, h⟩
  · exact .inl (by rw [noTb_of fun ps e => by rw [h] at e; cases e]; exact h)
  · exact .inr ⟨o, by rw [noTb_of fun ps e => by rw [h] at e; cases e]; exact h⟩
theorem law_sp {K : PySem.W.Frag} {cl : String → Addr} {F : M O} {n : Nat} (h : Holds n F) (H : Hp) (a : Addr) (ns : List Int) (hl : ns.length ≤ n) (hS : SqL K H a (ns.map V.int)) (hT : ∀ p ∈ tabsOf K, H p.1 = some (.tbl #[])) :
    spF K cl 1 [] F [.ref a] H (fun v _ => v = .bl true) fun _ _ _ => False := by
  obtain ⟨env', e⟩ := h ns hl
  have hS' : SqL K (noTb H) a (ns.map V.int) := hS.imp rd_noTb id
  refine ⟨rfl, fun _ => none, noTb H, [some (.dat (.list (ns.map PyData.int)))], fun _ => [], ⟨rfl, fun _ _ q => noTb_some q, fun _ _ q => by (cases q), fun i o q => ?_, fun i _ => rfl, fun i j b q => by simp at q, fun i b q => by simp at q, ⟨fun a q e => by rw [noTb_of fun ps e2 => by rw [e] at e2; cases e2]; exact e, fun p hp => ⟨#[], hT p hp, trivial, fun pos cv e => by cases e⟩⟩, fun a ps => noTb_noT H a ps, fun a ps e => by cases e⟩, ?_⟩
  · cases i with
    | zero =>
      cases q
      exact ⟨.ref a, rfl, .dat (.lst hS' (ints_rd ns))⟩
    | succ i => cases q
  · rw [e]
    intro v H' B' fps' σ' fp x F' same r off
    cases r with
    | dat r => cases r; rfl
theorem defAt_of {K : PySem.W.Frag} {h : Heap} {mg : Str → Option Value} {x : Str} {ps : List Str} {st : Stmt} {fa : List He.Fa} {fn : List He.DefD} (X : K.In h) (G : h.Ns mainGlobals mg) (c : He.SaysD fa fn K) (i : Nat)
    (h1 : fa[i]? = some (.glo x)) (h2 : fn[i]? = some ⟨(x, none), x, x, defArgs st, defBody st, defScope st, [], []⟩)
    (hb : ∀ (kV doc pm : Value) (an : Option Addr) (cdv ct : Value) (us : List Value), us.length = ps.length → bindArgs (PySem.W.fnOf x x (defArgs st) (defBody st) (defScope st) .none kV doc pm an cdv ct) ⟨us, []⟩ = pure (ps.zip us)) : DefAt K mg x ps st := by
  obtain ⟨fd, F⟩ := c.def_ i h2
  exact ⟨_, fd, He.glo_ok X G (c.fact i h1), F, FunD.bindsN F hb⟩
end Mi

set_option Elab.async false
set_option linter.all false
set_option maxRecDepth 100000
namespace Mi
open PySem PySem.Spec L2

/-! ### sets of whole numbers or texts -/
def keyM (e : Int × Value) : Key := match e.2 with
  | .int k _ => .inl k
  | .str x _ => .inr x
  | _ => .inl 0
def GoodM (w : World) (e : Int × Value) : Prop := ∃ k, keyIs k e.2 = true ∧ e.1 = keyH w k
theorem keyM_of {k : Key} {e : Int × Value} (h : keyIs k e.2 = true) : keyM e = k := by
  unfold keyM
  rcases keyIs_shape h with ⟨i, t, rfl, e2⟩ | ⟨x, t, rfl, e2⟩ <;> rw [e2]
theorem scan_of {k : Key} {v : Value} (h : keyIs k v = true) : v.scannable = true := by
  rcases keyIs_shape h with ⟨i, t, rfl, rfl⟩ | ⟨x, t, rfl, rfl⟩ <;> rfl
theorem nodup_le {α : Type} [DecidableEq α] : ∀ (l ks : List α), l.Nodup → (∀ x ∈ l, x ∈ ks) → l.length ≤ ks.length
  | [], _, _, _ => Nat.zero_le _
  | x :: l, ks, nd, h => by
    obtain ⟨h1, h2⟩ := List.nodup_cons.mp nd
    have hx := h x List.mem_cons_self
    have q := nodup_le l (ks.erase x) h2 fun y hy => (List.mem_erase_of_ne (by rintro rfl; exact h1 hy)).2 (h y (List.mem_cons_of_mem _ hy))
    rw [List.length_erase_of_mem hx] at q
    have : 0 < ks.length := List.length_pos_of_mem hx
    rw [List.length_cons]
    omega
structure SetM (w : World) (h : Heap) (a : Addr) (ks : List Key) : Prop where
  ex : ∃ o es ep t, h.get? a = some o ∧ o.ExactSet ∧ o.data = .set es ep t ∧ (∀ e ∈ es.toList, GoodM w e) ∧ (es.toList.map keyM).Nodup ∧ (∀ k, k ∈ ks ↔ k ∈ es.toList.map keyM) ∧
    es.size < scanBound ∧ t.fits es.size = true ∧ Ris t.place.toList ∧ (w.params.followText "set-order" = true ∨ t.led = true)
section
variable {P : Program} {w : World} {A : Around} {E : Value → Shared → Prop} {s : Shared} {a : Addr} {ks : List Key}
theorem SetM.at {h h' : Heap} (R : SetM w h a ks) (k : ∀ o, h.get? a = some o → h'.get? a = some o) : SetM w h' a ks := by
  obtain ⟨o, es, ep, t, ho, r⟩ := R
  exact ⟨o, es, ep, t, k o ho, r⟩
theorem goodM_elems {l : List (Int × Value)} (g : ∀ e ∈ l, GoodM w e) : ElemsOf (mixKind P w) l := fun e he => by
  obtain ⟨k, h1, h2⟩ := g e he
  exact ⟨⟨k, h1, h2⟩, scan_of h1⟩
theorem goodM_mem {l : List (Int × Value)} (g : ∀ e ∈ l, GoodM w e) (k : Key) : k ∈ l.map keyM ↔ ∃ e ∈ l, keyIs k e.2 = true := by
  rw [List.mem_map]
  constructor
  · rintro ⟨e, he, q⟩
    obtain ⟨k0, h1, _⟩ := g e he
    rw [keyM_of h1] at q
    exact ⟨e, he, q ▸ h1⟩
  · rintro ⟨e, he, q⟩
    exact ⟨e, he, keyM_of q⟩
theorem setM_tail {g : Bool → Sem Unit} (hg : ∀ (b : Bool) (s₁ : Shared) (Q' : Unit → Shared → Prop), Q' () s₁ → wpAny (model P w) A (g b) Q' E s₁)
    {o : Obj} {es : Array (Int × Value)} {ep : Nat} {t : SetTable} (ho : s.heap.get? a = some o) (hex : o.ExactSet) (hd : o.data = .set es ep t)
    {es1 : Array (Int × Value)} {t2 : SetTable} {ks' : List Key} (g1 : ∀ e ∈ es1.toList, GoodM w e) (nd1 : (es1.toList.map keyM).Nodup) (m1 : ∀ k, k ∈ ks' ↔ k ∈ es1.toList.map keyM)
    (hb1 : es1.size < scanBound) (hf2 : t2.fits es1.size = true) (hr : Ris t2.place.toList) (hl : w.params.followText "set-order" = true ∨ t2.led = true) {wasDummy : Bool} {R : Option Bool → Shared → Prop}
    (hR : ∀ h', Heap.SameBut a s.heap h' → SetM w h' a ks' → R (some true) { s with heap := h' }) :
    wpAny (model P w) A (do
        storeSet a es1 t2
        if (!wasDummy && t2.tooFull) = true then do
            g (relayAll t2 es1 (SetTable.grown es1.size)).2.2
            storeSet a (relayAll t2 es1 (SetTable.grown es1.size)).1 (relayAll t2 es1 (SetTable.grown es1.size)).2.1
            pure (some true)
          else pure (some true)) R E s := by
  refine wpAny_bind (wpAny_storeSet_of ho hd ?_ (fits_of_scanBound hb1))
  have at1 := store_at (es' := es1) (t' := t2) ho hd
  have but1 := Heap.SameBut.update s.heap a (Obj.putSet es1 t2)
  split
  · have pm := relayAll_perm t2 es1 (SetTable.grown es1.size)
    have fit3 := relayAll_fits t2 es1 (SetTable.grown es1.size)
    have ris3 := relayAll_ris t2 es1 (SetTable.grown es1.size)
    have led3 := relayAll_led t2 es1 (SetTable.grown es1.size)
    generalize relayAll t2 es1 (SetTable.grown es1.size) = Z at pm fit3 ris3 led3 ⊢
    obtain ⟨es2, t3, gave⟩ := Z
    dsimp only at pm fit3 ris3 led3 ⊢
    have sz2 : es2.size = es1.size := by
      have q := pm.length_eq
      rwa [Array.length_toList, Array.length_toList] at q
    have bd2 : es2.size < scanBound := by omega
    refine wpAny_bind (hg _ _ _ ?_)
    refine wpAny_bind (wpAny_storeSet_of at1 rfl ?_ (fits_of_scanBound bd2))
    have at2 := store_at (es' := es2) (t' := t3) at1 rfl
    refine wpAny_pure (hR _ (but1.trans (Heap.SameBut.update _ a _)) ⟨_, es2, _, t3, at2, hex, rfl, fun e he => g1 e (pm.mem_iff.mp he), (pm.map keyM).nodup_iff.mpr nd1, fun k => (m1 k).trans (pm.map keyM).mem_iff.symm, bd2, fit3, ris3, ?_⟩)
    exact hl.imp id fun z => by rw [led3]; exact z
  · exact wpAny_pure (hR _ but1 ⟨_, es1, _, t2, at1, hex, rfl, g1, nd1, m1, hb1, hf2, hr, hl⟩)
theorem setM_add {k : Key} {v : Value} {Q : Bool → Shared → Prop} (R : SetM w s.heap a ks) (hk : keyIs k v = true) (room : ks.length + 1 < scanBound)
    (hQ : ∀ b h', Heap.SameBut a s.heap h' → SetM w h' a (k :: ks) → Q b { s with heap := h' }) : wpAny (model P w) A (setAddHashed a v (keyH w k)) Q E s := by
  obtain ⟨o, es, ep, t, ho, hex, hd, g, nd, hm, hb, hf, hr, hl⟩ := R.ex
  have hel : ElemsOf (mixKind P w) es.toList := goodM_elems g
  have hsc := scan_of hk
  have hszk : es.size ≤ ks.length := by
    have q : (es.toList.map keyM).length ≤ ks.length := nodup_le _ _ nd fun x hx => (hm x).2 hx
    rw [List.length_map, Array.length_toList] at q
    exact q
  unfold setAddHashed setAddHashedIn
  refine wpAny_holding (wpAny_bind (wpAny_setState_of ho hd hf ?_))
  dsimp only
  rw [byScan_of hsc hb hel]
  simp only [↓reduceIte]
  unfold setAddByScan
  refine wpAny_bind ?_
  refine wpAny_bind (wpAny_rule ?_)
  refine wpAny_bind (wpAny_setScan_of (knd := mixKind P w) (k := k) hk ho hd hf hel ?_)
  cases hfi : List.findIdx? (fun e => (mixKind P w).is k e.2) es.toList with
  | some j =>
    dsimp only
    obtain ⟨hj, pj, _⟩ := List.findIdx?_eq_some_iff_getElem.mp hfi
    have hin : k ∈ ks := (hm k).2 ((goodM_mem g k).2 ⟨es.toList[j], List.getElem_mem hj, pj⟩)
    refine wpAny_pure (wpAny_pure ?_)
    refine hQ _ s.heap (Heap.SameBut.refl a s.heap) ⟨o, es, ep, t, ho, hex, hd, g, nd, fun i => ?_, hb, hf, hr, hl⟩
    rw [List.mem_cons, ← hm i]
    exact ⟨fun z => z.elim (fun e => e ▸ hin) id, .inr⟩
  | none =>
    dsimp only
    have hnk : k ∉ es.toList.map keyM := fun z => by
      obtain ⟨e, he, q⟩ := (goodM_mem g k).1 z
      have c := List.findIdx?_eq_none_iff.mp hfi e he
      rw [show (mixKind P w).is k e.2 = true from q] at c
      cases c
    have hgw : ∀ (b : Bool) {s₁ : Shared} {Q' : Unit → Shared → Prop}, Q' () s₁ → wpAny (model P w) A (match b with | true => rule "set.scan.the-table-gave-way" | false => pure ()) Q' E s₁ :=
      fun b s₁ Q' q => by cases b <;> first | exact wpAny_pure q | exact wpAny_rule q
    have pm := layNew_perm t es (keyH w k) v
    have hf1 := layNew_fits t es (keyH w k) v
    have hr1 := layNew_ris t es (keyH w k) v hr
    have hl1 := layNew_led t es (keyH w k) v
    generalize layNew t es (keyH w k) v = Z at pm hf1 hr1 hl1 ⊢
    obtain ⟨es1, t1, wasDummy, gave⟩ := Z
    dsimp only at pm hf1 hr1 hl1 ⊢
    rw [Array.toList_push] at pm
    have pc : es1.toList.Perm ((keyH w k, v) :: es.toList) := pm.trans (List.perm_append_singleton _ _)
    have pk : (es1.toList.map keyM).Perm (k :: es.toList.map keyM) := by
      have q := pc.map keyM
      rw [List.map_cons, keyM_of (e := (keyH w k, v)) hk] at q
      exact q
    have g1 : ∀ e ∈ es1.toList, GoodM w e := fun e he => by
      rcases List.mem_cons.mp (pc.mem_iff.mp he) with z | z
      · rw [z]; exact ⟨k, hk, rfl⟩
      · exact g e z
    have nd1 : (es1.toList.map keyM).Nodup := pk.nodup_iff.mpr (List.nodup_cons.mpr ⟨hnk, nd⟩)
    have m1 : ∀ i, i ∈ k :: ks ↔ i ∈ es1.toList.map keyM := fun i => by
      rw [pk.mem_iff, List.mem_cons, List.mem_cons, hm i]
    have hb1 : es1.size < scanBound := by
      have q := pc.length_eq
      rw [List.length_cons, Array.length_toList, Array.length_toList] at q
      omega
    have hled : w.params.followText "set-order" = true ∨ t1.led = true := hl.imp id fun z => by rw [hl1]; exact z
    refine wpAny_bind (hgw _ ?_)
    split
    · refine wpAny_bind ?_
      rw [hashByValue_scannable 8 hsc]
      refine wpAny_pure ?_
      refine setM_tail ?_ ho hex hd g1 nd1 m1 hb1 ?_ ?_ ?_ ?_
      · intro b s₁ Q' q; cases b <;> first | exact wpAny_pure q | exact wpAny_rule q
      · first | (split <;> first | exact hf1 | exact SetTable.fits_plain_off hf1) | exact hf1
      · first | (split <;> exact hr1) | exact hr1
      · first | (split <;> exact hled) | exact hled
      · intro h' sb r; dsimp only; exact wpAny_pure (hQ _ h' sb r)
    · refine wpAny_bind (wpAny_pure ?_)
      simp only [↓reduceIte]
      refine setM_tail ?_ ho hex hd g1 nd1 m1 hb1 hf1 hr1 hled ?_
      · intro b s₁ Q' q; cases b <;> first | exact wpAny_pure q | exact wpAny_rule q
      · intro h' sb r; dsimp only; exact wpAny_pure (hQ _ h' sb r)

/-! ### set(xs) -/
theorem setM_new {h : Heap} {a : Addr} (ho : h.get? a = some { cls := .type "set", dict := none, data := .set #[] 0 (.fresh 0 0 (!w.params.followText "set-order")) }) : SetM w h a [] :=
  ⟨_, #[], 0, _, ho, ⟨rfl, rfl, rfl⟩, rfl, (fun e he => by simp at he), (by simp), (fun k => by simp), (by decide), (by rfl), List.Pairwise.nil, by
    show _ ∨ (!w.params.followText "set-order") = true
    cases w.params.followText "set-order"
    · exact .inr rfl
    · exact .inl rfl⟩
theorem setM_loop {I : Addr} {fp wr : List Addr} {G : Array GenState → Array GenState → Prop} {n : Nat} {Pv : Nat → Value → Prop} {St : Nat → Shared → Prop} {R : Result → Shared → Prop}
    (W : WalksS P w A.in1 I fp wr G n Pv St) (S : Addr) (hSf : S ∉ fp) (ks : List Key) (hn : n = ks.length) (hb : ks.length + 1 < scanBound) (hval : ∀ i v, Pv i v → ∃ k, ks[i]? = some k ∧ keyIs k v = true) :
    ∀ (j i : Nat) (s : Shared), n - i = j → i ≤ n → St i s → (∃ ls, (∀ k, k ∈ ls ↔ k ∈ ks.take i) ∧ ls.length ≤ i ∧ SetM w s.heap S ls) →
      (∀ s' ls, Moved (S :: wr) G s s' → (∀ k, k ∈ ls ↔ k ∈ ks) → SetM w s'.heap S ls → R (.ok (.ret .none)) s') →
      codeAny (model P w) A (.builtin "set.update.loop" ⟨[.ref S, .ref I], []⟩) R s := by
  have hSw : S ∉ wr := fun h => hSf (W.sub _ h)
  have hsub : ∀ b ∈ wr, b ∈ S :: wr := fun b hb => List.mem_cons_of_mem _ hb
  intro j
  induction j with
  | zero =>
    intro i s hj hi hst ⟨ls, hls, _, hS⟩ hR
    obtain rfl : i = n := by omega
    refine codeAny_builtin PyProof.Rows.F.entry_set_update_loop ?_
    rw [Around.under_plainId PyProof.Rows.F.plain_set_update_loop _]
    show wpAny _ A.in1 (pyNext (.ref I) >>= _) _ _ s
    refine wpAny_bind (W.done s _ _ hst fun s' hm => ?_)
    show wpAny _ A.in1 (PySem.ret Value.none) _ _ s'
    refine wpAny_pure (hR s' ls (hm.mono hsub) (fun k => ?_) (hS.at fun o e => hm.heap S o hSw e))
    rw [hls k, List.take_of_length_le (by omega)]
  | succ j ih =>
    intro i s hj hi hst ⟨ls, hls, hll, hS⟩ hR
    have hlt : i < n := by omega
    refine codeAny_builtin PyProof.Rows.F.entry_set_update_loop ?_
    rw [Around.under_plainId PyProof.Rows.F.plain_set_update_loop _]
    show wpAny _ A.in1 (pyNext (.ref I) >>= _) _ _ s
    refine wpAny_bind (W.item i s _ _ hlt hst fun v s' hP hst' hm => ?_)
    obtain ⟨k, hk, hkv⟩ := hval i v hP
    have hS' : SetM w s'.heap S ls := hS.at fun o e => hm.heap S o hSw e
    show wpAny _ A.in1 (holding [v] (setAdd S v) >>= _) _ _ s'
    refine wpAny_bind (wpAny_holding ?_)
    unfold setAdd
    refine wpAny_holding ?_
    refine wpAny_bind ((mixKind P w).pyHash (k := k) hkv ?_)
    refine setM_add (s := { s' with toks := s'.toks + 1 }) hS' hkv (by omega) fun b h' hsb hS2 => ?_
    refine wpAny_pure ⟨plainId_quiet PyProof.Rows.F.plain_set_update_loop _, ih (i + 1) _ (by omega) hlt (W.frame _ s' _ _ hst' (Nat.le_succ _) fun b hb o e => ?_) ⟨k :: ls, fun k' => ?_, by rw [List.length_cons]; omega, hS2⟩ fun s'' ls2 hm'' hls2 hS'' => ?_⟩
    · rw [hsb.2 b (fun h : b = S => hSf (by rw [← h]; exact hb))]; exact e
    · rw [List.take_add_one, hk, List.mem_cons, hls k', List.mem_append]
      simp [or_comm]
    · refine hR s'' ls2 (Moved.trans W.gtrans ((hm.mono hsub).then_heap (Nat.le_succ _) fun b o hb e => ?_) hm'') hls2 hS''
      rw [hsb.2 b (fun h : b = S => hb (by rw [h]; exact List.mem_cons_self))]; exact e
theorem paired_length {α β : Type} {R : α → β → Prop} : ∀ {xs : List α} {ys : List β}, Paired R xs ys → xs.length = ys.length
  | _, _, .nil => rfl
  | _, _, .cons _ t => congrArg (· + 1) (paired_length t)
theorem paired_getR {α β : Type} {R : α → β → Prop} : ∀ {xs : List α} {ys : List β} {i : Nat} {y : β}, Paired R xs ys → ys[i]? = some y → ∃ x, xs[i]? = some x ∧ R x y
  | _, _, _, _, .nil, e => by simp at e
  | _, _, 0, _, .cons h t, e => by simp at e; subst e; exact ⟨_, rfl, h⟩
  | _, _, i + 1, _, .cons h t, e => paired_getR (i := i) t (by simpa using e)
set_option maxHeartbeats 3200000 in
theorem call_set_list {l : Addr} {items : Array Value} (ks : List Key) {Q : Value → Shared → Prop} (hh : A.handled = none) (hl : s.heap.IsList l items) (hit : Paired (fun k v => keyIs k v = true) ks items.toList) (hb : ks.length + 1 < scanBound)
    (h : ∀ (h' : Heap) (tk : Nat) ls, SetM w h' s.heap.objs.size ls → (∀ k, k ∈ ls ↔ k ∈ ks) → (∀ b o, s.heap.get? b = some o → h'.get? b = some o) → Q (.ref s.heap.objs.size) { s with heap := h', toks := tk }) :
    wpAny (model P w) A (call (.type "set") [.ref l]) Q E s := by
  have hisz : items.size = ks.length := by rw [← Array.length_toList]; exact (paired_length hit).symm
  obtain ⟨c, tl, hmro⟩ := PySem.F.called_set.mro
  have hmade := PySem.F.called_set.made
  have hsub := PySem.F.called_set.sub
  have N0 : ∀ o, o = ({ cls := .type "set", dict := none, data := .set #[] 0 (.fresh 0 0 (!w.params.followText "set-order")) } : Obj) → (s.heap.push o).get? s.heap.objs.size = some o := fun o e => Heap.get?_push_size _ (by subst e; rfl)
  refine wpAny_call (codeAny_of_tree ?_)
  show wpAny _ _ (callAny (.type "set") _) _ _ _
  refine wpAny_pure ⟨Code.quiet_builtin _ (by decide +kernel), codeAny_builtin PySem.F.entry_type_call ?_⟩
  rw [Around.under_plain (weight_type_call_type "set" [.ref l] []) rfl]
  have h1 := PySem.F.called_set.notType
  have h2 := PySem.F.called_set.canCreate
  have hct := PySem.F.typeCall_set_1 (.ref l)
  repeat (any_goals (first | assumption | wp_step))
  refine codeAny_mono (L2.code_set_led1 (.ref l) (E := E) (Q₁ := fun obj s₁ => obj = .ref s.heap.objs.size ∧ s₁ = { s with heap := s.heap.push { cls := .type "set", dict := none, data := .set #[] 0 (.fresh 0 0 (!w.params.followText "set-order")) } }) ⟨rfl, rfl⟩) fun r s₁ hr => ?_
  cases r with
  | error e => exact hr
  | ok fl =>
    cases fl with
    | ret obj =>
      obtain ⟨rfl, rfl⟩ := hr
      have hS := N0 _ rfl
      have hT : Shared.TypeIs { s with heap := s.heap.push { cls := .type "set", dict := none, data := .set #[] 0 (.fresh 0 0 (!w.params.followText "set-order")) } } (.ref s.heap.objs.size) "set" := ⟨_, hS, rfl⟩
      have hli := PySem.F.called_set.init.lookup
      have hbi := PySem.F.called_set.init.bind (.ref s.heap.objs.size)
      repeat (any_goals (first | assumption | wp_step))
      refine codeAny_mono (codeAny_call_builtin (R := wants (fun r s₂ => r = .none ∧ ∃ h' tk ls, s₂ = { s with heap := h', toks := tk } ∧ SetM w h' s.heap.objs.size ls ∧ (∀ k, k ∈ ls ↔ k ∈ ks) ∧
          (∀ b o, s.heap.get? b = some o → h'.get? b = some o)) E) PySem.F.called_set.init.plain PySem.F.entry_set_init (check_set_init_1 hT ?_)) fun r₂ s₂ hr₂ => ?_
      · obtain ⟨ol, hol, hcl, nl, hdl⟩ := hl
        obtain ⟨ocls, odict, odata, oslots⟩ := ol
        simp only at hcl hdl
        subst hcl; subst hdl
        have hol' : (s.heap.push { cls := .type "set", dict := none, data := .set #[] 0 (.fresh 0 0 (!w.params.followText "set-order")) }).get? l = some { cls := .type "list", dict := odict, data := .seq items nl, slots := oslots } := Heap.get?_push_of_some _ hol
        have hsls := PySem.F.sub_list_set
        have hslf := PySem.F.sub_list_frozenset
        have hne : (Value.type "list" == Value.type "dict") = false := by decide
        have hl1 : (s.heap.push { cls := .type "set", dict := none, data := .set #[] 0 (.fresh 0 0 (!w.params.followText "set-order")) }).IsList l items := ⟨_, hol', rfl, nl, rfl⟩
        unfold Builtin.«set.__init__» noKeywords Builtin.Frozenset.updateFrom
        generalize hPI : pyIter = PI
        wp_walk
        subst hPI
        refine wpAny_pyIter_list hl1 ?_
        refine wpAny_bind (wpAny_runValue ?_)
        have hlS : l < s.heap.objs.size := Heap.lt_size hol
        have hh3 : A.in1.in1.in1.handled = none := by simp [hh]
        have hneI : l ≠ (s.heap.push { cls := .type "set", dict := none, data := .set #[] 0 (.fresh 0 0 (!w.params.followText "set-order")) }).objs.size := by
          rw [Heap.size_push]; exact Nat.ne_of_lt (Nat.lt_succ_of_lt hlS)
        have hSf : s.heap.objs.size ∉ [(s.heap.push { cls := .type "set", dict := none, data := .set #[] 0 (.fresh 0 0 (!w.params.followText "set-order")) }).objs.size, l] := by
          rw [Heap.size_push]; simp only [List.mem_cons, List.mem_singleton, List.not_mem_nil, or_false, not_or]
          exact ⟨Nat.ne_of_lt (Nat.lt_succ_self _), Nat.ne_of_gt hlS⟩
        have hval : ∀ (i : Nat) (v : Value), items[i]? = some v → ∃ k, ks[i]? = some k ∧ keyIs k v = true := fun i v hv => paired_getR (R := fun k v => keyIs k v = true) hit (by rw [Array.getElem?_toList]; exact hv)
        refine setM_loop ((Walks.list hh3 _ l hneI items).toS) s.heap.objs.size
          hSf ks hisz hb hval (items.size - 0) 0 _ (by omega) (Nat.zero_le _)
          ⟨⟨_, Heap.get?_push_size _ rfl, rfl, rfl⟩, (hl1.push _)⟩ ?hS0 ?hR
        case hS0 => exact ⟨[], fun k => by simp, Nat.zero_le _, setM_new (Heap.get?_push_of_some _ hS)⟩
        case hR =>
          intro s' ls hm hls hS'
          obtain ⟨h', g2, d', tk', os'⟩ := s'
          have eg : g2 = s.gens := hm.gens
          have ed : d' = s.drawn := hm.drawn
          have eo : os' = s.os := hm.os
          subst eg; subst ed; subst eo
          show wpAny _ _ _ _ _ _
          refine wpAny_pure ?_
          show wpAny _ _ (PySem.ret Value.none) _ _ _
          refine wpAny_pure ⟨rfl, h', tk', ls, rfl, hS', hls, fun b o e => ?_⟩
          have hb0 : b < s.heap.objs.size := Heap.lt_size e
          have hb2 : b ≠ (s.heap.push { cls := .type "set", dict := none, data := .set #[] 0 (.fresh 0 0 (!w.params.followText "set-order")) }).objs.size := by
            rw [Heap.size_push]; exact Nat.ne_of_lt (Nat.lt_succ_of_lt hb0)
          exact hm.heap b o (by simp only [List.mem_cons, List.mem_singleton, List.not_mem_nil, or_false, not_or]; exact ⟨Nat.ne_of_lt hb0, hb2⟩) (Heap.get?_push_of_some _ (Heap.get?_push_of_some _ e))
      · cases r₂ with
        | error e => exact hr₂
        | ok fl₂ =>
          cases fl₂ with
          | ret r =>
            obtain ⟨rfl, h', tk, ls, rfl, hS', hls, hk'⟩ := hr₂
            repeat (any_goals (first | assumption | wp_step))
            exact h _ _ _ hS' hls hk'
          | _ => exact hr₂.elim
    | _ => exact hr.elim
set_option maxHeartbeats 3200000 in
theorem call_set_tuple {l : Addr} {items : Array Value} (ks : List Key) {Q : Value → Shared → Prop} (hh : A.handled = none) (hl : s.heap.IsTuple l items) (hit : Paired (fun k v => keyIs k v = true) ks items.toList) (hb : ks.length + 1 < scanBound)
    (h : ∀ (h' : Heap) (tk : Nat) ls, SetM w h' s.heap.objs.size ls → (∀ k, k ∈ ls ↔ k ∈ ks) → (∀ b o, s.heap.get? b = some o → h'.get? b = some o) → Q (.ref s.heap.objs.size) { s with heap := h', toks := tk }) :
    wpAny (model P w) A (call (.type "set") [.ref l]) Q E s := by
  have hisz : items.size = ks.length := by rw [← Array.length_toList]; exact (paired_length hit).symm
  obtain ⟨c, tl, hmro⟩ := PySem.F.called_set.mro
  have hmade := PySem.F.called_set.made
  have hsub := PySem.F.called_set.sub
  have N0 : ∀ o, o = ({ cls := .type "set", dict := none, data := .set #[] 0 (.fresh 0 0 (!w.params.followText "set-order")) } : Obj) → (s.heap.push o).get? s.heap.objs.size = some o := fun o e => Heap.get?_push_size _ (by subst e; rfl)
  refine wpAny_call (codeAny_of_tree ?_)
  show wpAny _ _ (callAny (.type "set") _) _ _ _
  refine wpAny_pure ⟨Code.quiet_builtin _ (by decide +kernel), codeAny_builtin PySem.F.entry_type_call ?_⟩
  rw [Around.under_plain (weight_type_call_type "set" [.ref l] []) rfl]
  have h1 := PySem.F.called_set.notType
  have h2 := PySem.F.called_set.canCreate
  have hct := PySem.F.typeCall_set_1 (.ref l)
  repeat (any_goals (first | assumption | wp_step))
  refine codeAny_mono (L2.code_set_led1 (.ref l) (E := E) (Q₁ := fun obj s₁ => obj = .ref s.heap.objs.size ∧ s₁ = { s with heap := s.heap.push { cls := .type "set", dict := none, data := .set #[] 0 (.fresh 0 0 (!w.params.followText "set-order")) } }) ⟨rfl, rfl⟩) fun r s₁ hr => ?_
  cases r with
  | error e => exact hr
  | ok fl =>
    cases fl with
    | ret obj =>
      obtain ⟨rfl, rfl⟩ := hr
      have hS := N0 _ rfl
      have hT : Shared.TypeIs { s with heap := s.heap.push { cls := .type "set", dict := none, data := .set #[] 0 (.fresh 0 0 (!w.params.followText "set-order")) } } (.ref s.heap.objs.size) "set" := ⟨_, hS, rfl⟩
      have hli := PySem.F.called_set.init.lookup
      have hbi := PySem.F.called_set.init.bind (.ref s.heap.objs.size)
      repeat (any_goals (first | assumption | wp_step))
      refine codeAny_mono (codeAny_call_builtin (R := wants (fun r s₂ => r = .none ∧ ∃ h' tk ls, s₂ = { s with heap := h', toks := tk } ∧ SetM w h' s.heap.objs.size ls ∧ (∀ k, k ∈ ls ↔ k ∈ ks) ∧
          (∀ b o, s.heap.get? b = some o → h'.get? b = some o)) E) PySem.F.called_set.init.plain PySem.F.entry_set_init (check_set_init_1 hT ?_)) fun r₂ s₂ hr₂ => ?_
      · obtain ⟨ol, hol, hcl, nl, hdl⟩ := hl
        obtain ⟨ocls, odict, odata, oslots⟩ := ol
        simp only at hcl hdl
        subst hcl; subst hdl
        have hol' : (s.heap.push { cls := .type "set", dict := none, data := .set #[] 0 (.fresh 0 0 (!w.params.followText "set-order")) }).get? l = some { cls := .type "tuple", dict := odict, data := .seq items nl, slots := oslots } := Heap.get?_push_of_some _ hol
        have hsls := PySem.F.sub_tuple_set
        have hslf := PySem.F.sub_tuple_frozenset
        have hne : (Value.type "tuple" == Value.type "dict") = false := by decide
        have hl1 : (s.heap.push { cls := .type "set", dict := none, data := .set #[] 0 (.fresh 0 0 (!w.params.followText "set-order")) }).IsTuple l items := ⟨_, hol', rfl, nl, rfl⟩
        unfold Builtin.«set.__init__» noKeywords Builtin.Frozenset.updateFrom
        generalize hPI : pyIter = PI
        wp_walk
        subst hPI
        refine wpAny_pyIter_tuple hl1 ?_
        refine wpAny_bind (wpAny_runValue ?_)
        have hlS : l < s.heap.objs.size := Heap.lt_size hol
        have hh3 : A.in1.in1.in1.handled = none := by simp [hh]
        have hneI : l ≠ (s.heap.push { cls := .type "set", dict := none, data := .set #[] 0 (.fresh 0 0 (!w.params.followText "set-order")) }).objs.size := by
          rw [Heap.size_push]; exact Nat.ne_of_lt (Nat.lt_succ_of_lt hlS)
        have hSf : s.heap.objs.size ∉ [(s.heap.push { cls := .type "set", dict := none, data := .set #[] 0 (.fresh 0 0 (!w.params.followText "set-order")) }).objs.size, l] := by
          rw [Heap.size_push]; simp only [List.mem_cons, List.mem_singleton, List.not_mem_nil, or_false, not_or]
          exact ⟨Nat.ne_of_lt (Nat.lt_succ_self _), Nat.ne_of_gt hlS⟩
        have hval : ∀ (i : Nat) (v : Value), items[i]? = some v → ∃ k, ks[i]? = some k ∧ keyIs k v = true := fun i v hv => paired_getR (R := fun k v => keyIs k v = true) hit (by rw [Array.getElem?_toList]; exact hv)
        refine setM_loop ((Walks.tuple hh3 _ l hneI items).toS) s.heap.objs.size
          hSf ks hisz hb hval (items.size - 0) 0 _ (by omega) (Nat.zero_le _)
          ⟨⟨_, Heap.get?_push_size _ rfl, rfl, rfl⟩, (hl1.push _)⟩ ?hS0 ?hR
        case hS0 => exact ⟨[], fun k => by simp, Nat.zero_le _, setM_new (Heap.get?_push_of_some _ hS)⟩
        case hR =>
          intro s' ls hm hls hS'
          obtain ⟨h', g2, d', tk', os'⟩ := s'
          have eg : g2 = s.gens := hm.gens
          have ed : d' = s.drawn := hm.drawn
          have eo : os' = s.os := hm.os
          subst eg; subst ed; subst eo
          show wpAny _ _ _ _ _ _
          refine wpAny_pure ?_
          show wpAny _ _ (PySem.ret Value.none) _ _ _
          refine wpAny_pure ⟨rfl, h', tk', ls, rfl, hS', hls, fun b o e => ?_⟩
          have hb0 : b < s.heap.objs.size := Heap.lt_size e
          have hb2 : b ≠ (s.heap.push { cls := .type "set", dict := none, data := .set #[] 0 (.fresh 0 0 (!w.params.followText "set-order")) }).objs.size := by
            rw [Heap.size_push]; exact Nat.ne_of_lt (Nat.lt_succ_of_lt hb0)
          exact hm.heap b o (by simp only [List.mem_cons, List.mem_singleton, List.not_mem_nil, or_false, not_or]; exact ⟨Nat.ne_of_lt hb0, hb2⟩) (Heap.get?_push_of_some _ (Heap.get?_push_of_some _ e))
      · cases r₂ with
        | error e => exact hr₂
        | ok fl₂ =>
          cases fl₂ with
          | ret r =>
            obtain ⟨rfl, h', tk, ls, rfl, hS', hls, hk'⟩ := hr₂
            repeat (any_goals (first | assumption | wp_step))
            exact h _ _ _ hS' hls hk'
          | _ => exact hr₂.elim
    | _ => exact hr.elim
end
end Mi

set_option Elab.async false
set_option linter.all false
set_option maxRecDepth 100000
namespace Mi
open PySem PySem.Spec L2

/-! ### what sorted(set(..)) gives -/
def dedup {α : Type} [DecidableEq α] (l : List α) : List α := l.foldr (fun x acc => if x ∈ acc then acc else x :: acc) []
theorem mem_dedup {α : Type} [DecidableEq α] (x : α) : ∀ l : List α, x ∈ dedup l ↔ x ∈ l
  | [] => Iff.rfl
  | y :: l => by
    have ih := mem_dedup x l
    show x ∈ (if y ∈ dedup l then dedup l else y :: dedup l) ↔ _
    split
    · rename_i h
      rw [ih, List.mem_cons]
      exact ⟨.inr, fun z => z.elim (fun e => e ▸ (mem_dedup y l).1 h) id⟩
    · rw [List.mem_cons, List.mem_cons, ih]
theorem nodup_dedup {α : Type} [DecidableEq α] : ∀ l : List α, (dedup l).Nodup
  | [] => List.Pairwise.nil
  | y :: l => by
    show (if y ∈ dedup l then dedup l else y :: dedup l).Nodup
    split
    · exact nodup_dedup l
    · rename_i h
      exact List.nodup_cons.mpr ⟨h, nodup_dedup l⟩
def sortI (ns : List Int) : List Int := (dedup ns).mergeSort fun a b => decide (a ≤ b)
def sortS (xs : List Str) : List Str := (dedup xs).mergeSort fun a b => decide (a.cps.toList ≤ b.cps.toList)
theorem perm_of {α : Type} [DecidableEq α] {l l' : List α} (h : l.Nodup) (h' : l'.Nodup) (m : ∀ x, x ∈ l ↔ x ∈ l') : l.Perm l' := (List.perm_ext_iff_of_nodup h h').mpr m
theorem sortI_eq {l ns : List Int} (nd : l.Nodup) (m : ∀ x, x ∈ l ↔ x ∈ ns) : l.mergeSort (fun a b => decide (a ≤ b)) = sortI ns := by
  have p : l.Perm (dedup ns) := perm_of nd (nodup_dedup ns) fun x => (m x).trans (mem_dedup x ns).symm
  have tr : ∀ a b c : Int, decide (a ≤ b) = true → decide (b ≤ c) = true → decide (a ≤ c) = true := fun a b c h k => by
    simp only [decide_eq_true_eq] at *; omega
  have tt : ∀ a b : Int, (decide (a ≤ b) || decide (b ≤ a)) = true := fun a b => by
    simp only [Bool.or_eq_true, decide_eq_true_eq]; omega
  refine List.Perm.eq_of_pairwise (le := fun a b : Int => decide (a ≤ b) = true) (fun a b _ _ h k => ?_) (List.pairwise_mergeSort tr tt l) (List.pairwise_mergeSort tr tt (dedup ns)) ((List.mergeSort_perm l _).trans (p.trans (List.mergeSort_perm _ _).symm))
  simp only [decide_eq_true_eq] at h k; omega
theorem str_ext {a b : Str} (h : a.cps.toList = b.cps.toList) : a = b := by
  cases a; cases b
  simp only at h
  congr 1
  exact Array.toList_inj.mp h
theorem sortS_eq {l xs : List Str} (nd : l.Nodup) (m : ∀ x, x ∈ l ↔ x ∈ xs) : l.mergeSort (fun a b => decide (a.cps.toList ≤ b.cps.toList)) = sortS xs := by
  have p : l.Perm (dedup xs) := perm_of nd (nodup_dedup xs) fun x => (m x).trans (mem_dedup x xs).symm
  have tr : ∀ a b c : Str, decide (a.cps.toList ≤ b.cps.toList) = true → decide (b.cps.toList ≤ c.cps.toList) = true → decide (a.cps.toList ≤ c.cps.toList) = true := fun a b c h k => by
    simp only [decide_eq_true_eq] at *; exact List.le_trans h k
  have tt : ∀ a b : Str, (decide (a.cps.toList ≤ b.cps.toList) || decide (b.cps.toList ≤ a.cps.toList)) = true := fun a b => by
    simp only [Bool.or_eq_true, decide_eq_true_eq]; exact List.le_total _ _
  refine List.Perm.eq_of_pairwise (le := fun a b : Str => decide (a.cps.toList ≤ b.cps.toList) = true) (fun a b _ _ h k => ?_) (List.pairwise_mergeSort tr tt l) (List.pairwise_mergeSort tr tt (dedup xs)) ((List.mergeSort_perm l _).trans (p.trans (List.mergeSort_perm _ _).symm))
  simp only [decide_eq_true_eq] at h k
  exact str_ext (List.le_antisymm h k)

/-! ### sorted(S), len(S) over the heap -/
section
variable {P : Program} {w : World} {A : Around} {E : Value → Shared → Prop} {s : Shared} {a : Addr} {ks : List Key}
open PySem.W
/-- the members as values of one kind -/
theorem members {β : Type} (enc : β → PyData) (un : Key → Option β) (R : Value → β → Prop) (hun : ∀ k v, keyIs k v = true → ∀ b, un k = some b → R v b) {es : List (Int × Value)} (g : ∀ e ∈ es, GoodM w e) (hk : ∀ e ∈ es, ∃ b, un (keyM e) = some b) :
    ∀ {vs : List Value}, vs.Perm (es.map (·.2)) → ∃ bs : List β, EachIs R vs bs ∧ (bs.map some).Perm (es.map fun e => un (keyM e)) := by
  intro vs pm
  have key : ∀ l : List Value, (∀ v ∈ l, ∃ e ∈ es, e.2 = v) → ∃ bs : List β, EachIs R l bs ∧ bs.map some = l.map fun v => un (keyM (0, v)) := by
    intro l
    induction l with
    | nil => intro _; exact ⟨[], .nil, rfl⟩
    | cons v l ih =>
      intro h
      obtain ⟨bs, h1, h2⟩ := ih fun u hu => h u (List.mem_cons_of_mem _ hu)
      obtain ⟨e, he, rfl⟩ := h v List.mem_cons_self
      obtain ⟨b, hb⟩ := hk e he
      obtain ⟨k, h3, _⟩ := g e he
      have hb' : un k = some b := by rw [← keyM_of h3]; exact hb
      refine ⟨b :: bs, .cons (hun k _ h3 b hb') h1, ?_⟩
      rw [List.map_cons, List.map_cons, h2]
      congr 1
      exact hb.symm
  obtain ⟨bs, h1, h2⟩ := key vs fun v hv => by
    obtain ⟨e, he, q⟩ := List.mem_map.mp (pm.mem_iff.mp hv)
    exact ⟨e, he, q⟩
  refine ⟨bs, h1, ?_⟩
  rw [h2]
  have q := pm.map fun v => un (keyM (0, v))
  rw [List.map_map] at q
  exact q
theorem sorted_setM {β : Type} [DecidableEq β] (enc : β → PyData) (un : Key → Option β) (mk : β → Key) (R : Value → β → Prop) (hun : ∀ k v, keyIs k v = true → ∀ b, un k = some b → R v b) (hmk : ∀ k b, un k = some b → k = mk b) (hinj : ∀ b, un (mk b) = some b)
    (hR : ∀ (h : Heap) v b, R v b → ∃ as, Reads h v (enc b) as ∧ as = []) (hal : ∀ b b', alike (enc b) (enc b') = true) (hs : ∀ b, enc b ≠ .none ∧ ∀ xs, enc b ≠ .tuple xs) (hd : ∀ b, (enc b).depth ≤ 1)
    {Q : Value → Shared → Prop} (S : SetM w s.heap a ks) (hh : A.handled = none) (hu : A.units + 64 < cLine) (hk : ∀ k ∈ ks, ∃ b, un k = some b)
    (hQ : ∀ s' p (out : List Value) (c : Nat) (bs : List β), (∀ b o, s.heap.get? b = some o → s'.heap.get? b = some o) → s'.gens = s.gens → s'.os = s.os → s.heap.objs.size ≤ p → s'.heap.get? p = some (PyProof.Rows.seqObj "list" out.toArray c) →
      bs.Nodup → (∀ b, b ∈ bs ↔ mk b ∈ ks) → bs.length < scanBound → EachIs R out (bs.mergeSort (dataLe false enc)) → Q (.ref p) s') :
    wpAny (model P w) A (call (.builtin "sorted") [.ref a]) Q E s := by
  obtain ⟨o, es, ep, t, ho, hex, hdt, g, nd, hm, hb, hf, hr, hl⟩ := S.ex
  refine Calls.call_function_entry PyProof.Rows.kind_sorted PyProof.Rows.plain_sorted PyProof.Rows.entry_sorted (PyProof.Rows.args_sorted1 _) ?_
  unfold Builtin.«sorted»
  refine wpAny_bind (m := checkCount "sorted" 1 1 _) (wpAny_pure ?_)
  refine wpAny_bind (collect_set (A := A.in1) hh ⟨o, ho, hex.1, hdt⟩ hf hb hr hl fun s1 vs k1 hz g1 o1 pm => ?_)
  have hke : ∀ e ∈ es.toList, ∃ b, un (keyM e) = some b := fun e he => hk _ ((hm _).2 (List.mem_map.mpr ⟨e, he, rfl⟩))
  obtain ⟨bs, e1, pb⟩ := members enc un R hun g hke pm
  have pmk : (bs.map mk).Perm (es.toList.map keyM) := by
    have q := pb.map fun o : Option β => match o with
      | some b => mk b
      | none => .inl 0
    rw [List.map_map, List.map_map] at q
    have e2 : es.toList.map ((fun o : Option β => match o with
      | some b => mk b
      | none => .inl 0) ∘ fun e => un (keyM e)) = es.toList.map keyM := List.map_congr_left fun e he => by
        obtain ⟨b, hb⟩ := hke e he
        show (match un (keyM e) with
          | some b => mk b
          | none => .inl 0) = keyM e
        rw [hb]
        exact (hmk _ _ hb).symm
    rw [e2] at q
    exact q
  have mkinj : ∀ b b', mk b = mk b' → b = b' := fun b b' e => by
    have h1 := hinj b
    rw [e, hinj b'] at h1
    exact (Option.some.inj h1).symm
  have ndb : bs.Nodup := by
    have q := pmk.nodup_iff.mpr nd
    exact List.Pairwise.imp (fun h e => h (congrArg mk e)) (List.pairwise_map.mp q)
  have memb : ∀ b, b ∈ bs ↔ mk b ∈ ks := fun b => by
    rw [hm (mk b), ← pmk.mem_iff]
    constructor
    · exact fun h => List.mem_map.mpr ⟨b, h, rfl⟩
    · intro h
      obtain ⟨b', h1, h2⟩ := List.mem_map.mp h
      rw [← mkinj _ _ h2]; exact h1
  have hlen : bs.length = es.size := by
    have q := pmk.length_eq
    rwa [List.length_map, List.length_map, Array.length_toList] at q
  have hvl : vs.length = bs.length := e1.length
  have hsl : bs.length ≤ sizeLine := by
    have : scanBound ≤ sizeLine := by decide
    omega
  refine wpAny_bind (wpAny_newList ?_ (by rw [hvl]; exact hsl))
  have hoL : (s1.heap.push (PyProof.Rows.seqObj "list" vs.toArray 0)).get? s1.heap.objs.size = some (PyProof.Rows.seqObj "list" vs.toArray 0) := Heap.get?_push_size _ rfl
  refine wpAny_bind (wpAny_holding (list_sort_data (s := { s1 with heap := s1.heap.push (PyProof.Rows.seqObj "list" vs.toArray 0) }) (enc := enc) (R := R) hoL e1 (e1.mono fun v b r => ?_) ?_ (.inr fun d hd' => ?_) hsl (fun b _ => ?_) fun out hol eo => ?_))
  · obtain ⟨as, q, e⟩ := hR _ v b r
    exact ⟨as, q, by rw [e]; simp⟩
  · intro d hd1 d' hd2
    obtain ⟨b, _, rfl⟩ := List.mem_map.mp hd1
    obtain ⟨b', _, rfl⟩ := List.mem_map.mp hd2
    exact hal b b'
  · obtain ⟨b, _, rfl⟩ := List.mem_map.mp hd'
    exact hs b
  · have := hd b
    show A.units + 1 + 1 + (enc b).depth < cLine
    omega
  · obtain ⟨c, hc⟩ := PyProof.Rows.sortedHeap_at (vs := vs) (out := out.toArray) hoL
    refine wpAny_pure ⟨_, rfl, hQ { s1 with heap := PyProof.Rows.sortedHeap (s1.heap.push (PyProof.Rows.seqObj "list" vs.toArray 0)) s1.heap.objs.size vs out.toArray } s1.heap.objs.size out c bs (fun b u e => ?_) g1 o1 hz hc ndb memb (by omega) eo⟩
    have q := k1 b u e
    have hlt := Heap.lt_size q
    show (PyProof.Rows.sortedHeap (s1.heap.push (PyProof.Rows.seqObj "list" vs.toArray 0)) s1.heap.objs.size vs out.toArray).get? b = some u
    rw [PyProof.Rows.sortedHeap_old (Nat.ne_of_lt hlt) (by rw [Heap.size_push]; exact Nat.lt_succ_of_lt hlt)]
    exact Heap.get?_push_of_some _ q
end
end Mi

set_option Elab.async false
set_option linter.all false
set_option maxRecDepth 100000
set_option autoImplicit false
namespace Mi
open PySem PySem.Spec L2

def strsD : List D → Option (List Str)
  | [] => some []
  | .str i :: r => (strsD r).map (i :: ·)
  | _ :: _ => none
theorem strsD_vals {K : PySem.W.Frag} {B : Hp} : ∀ {ds : List D} {vs : List V} {xs : List Str}, RDs K B ds vs → strsD ds = some xs → vs = xs.map V.str
  | _, _, _, .nil, e => by cases e; rfl
  | d :: ds, _, xs, .cons r t, e => by
    unfold strsD at e
    split at e
    · rename_i h; cases h
    · rename_i i r' h
      cases h
      cases q : strsD ds with
      | none => rw [q] at e; cases e
      | some ys =>
        rw [q] at e
        cases e
        cases r
        rw [strsD_vals t q]; rfl
    · cases e
/-- the members' keys -/
def keysD (ds : List D) : Option (List Key ⊕ List Key) := match intsD ds with
  | some ns => some (.inl (ns.map .inl))
  | none => match strsD ds with
    | some xs => some (.inr (xs.map .inr))
    | none => none
theorem keys_int : ∀ {ns : List Int} {us : List Value}, Vals (ns.map V.int) us → Paired (fun k v => keyIs k v = true) (ns.map (Sum.inl : Int → Key)) us
  | [], _, .nil => .nil
  | n :: ns, _, .cons r t => by
    obtain ⟨k, rfl⟩ := r
    exact .cons (keyIs_int _ _) (keys_int t)
theorem keys_str : ∀ {ns : List Str} {us : List Value}, Vals (ns.map V.str) us → Paired (fun k v => keyIs k v = true) (ns.map (Sum.inr : Str → Key)) us
  | [], _, .nil => .nil
  | n :: ns, _, .cons r t => by
    obtain ⟨k, rfl⟩ := r
    exact .cons (keyIs_str _ _) (keys_str t)
def seqD : D → Option (List D)
  | .list ds => some ds
  | .tuple ds => some ds
  | _ => none
/-- a set of these -/
def setOf (ds : List D) : Option (List Int ⊕ List Str) := match intsD ds with
  | some ns => if ns.length + 1 < scanBound then some (.inl ns) else none
  | none => match strsD ds with
    | some xs => if xs.length + 1 < scanBound then some (.inr xs) else none
    | none => none
def keysS : List Int ⊕ List Str → List Key
  | .inl ns => ns.map .inl
  | .inr xs => xs.map .inr
def sortedS : List Int ⊕ List Str → List D
  | .inl ns => (sortI ns).map .int
  | .inr xs => (sortS xs).map .str
def lenS : List Int ⊕ List Str → Nat
  | .inl ns => (dedup ns).length
  | .inr xs => (dedup xs).length
def mSetE (f : List Int ⊕ List Str → Rv) (m : M Rv) : M Rv := bnd (vm m) fun r env => match (res env r).bind seqD with
  | some ds => match setOf ds with
    | some z => .ok (f z) env
    | none => .stuck
  | none => .stuck
section
variable {X : Cx} {cl : String → Addr} {E : XK} {e : Expr} {m : M Rv} {p p2 q pos : Pos}
theorem rd1_seq {K : PySem.W.Frag} {B H : Hp} {x : D} {v : V} {ds : List D} (hs : Sub B H) (r : Rd1 K B H x v) (hx : seqD x = some ds) : ∃ k a vs, v = .ref a ∧ SqK k K H a vs ∧ RDs K B ds vs := by
  rcases r with r | ⟨ds', a, vs, rfl, rfl, e, r⟩
  · cases x with
    | list ds' =>
      cases hx
      cases r with
      | lst h r => exact ⟨true, _, _, rfl, hs.sqL h, r⟩
    | tuple ds' =>
      cases hx
      cases r with
      | tup h r => exact ⟨false, _, _, rfl, hs.sqT h, r⟩
    | _ => cases hx
  · cases hx
    exact ⟨true, a, vs, rfl, SqL.of e, r⟩
theorem keys_of {K : PySem.W.Frag} {B : Hp} {ds : List D} {vs : List V} {us : List Value} {z : List Int ⊕ List Str} (r : RDs K B ds vs) (h : setOf ds = some z) (hv : Vals vs us) : Paired (fun k v => keyIs k v = true) (keysS z) us ∧ (keysS z).length + 1 < scanBound := by
  unfold setOf at h
  split at h
  · rename_i ns e
    split at h
    · rename_i hl
      cases h
      rw [intsD_vals r e] at hv
      exact ⟨keys_int hv, by show (ns.map _).length + 1 < _; rw [List.length_map]; exact hl⟩
    · cases h
  · split at h
    · rename_i xs e
      split at h
      · rename_i hl
        cases h
        rw [strsD_vals r e] at hv
        exact ⟨keys_str hv, by show (xs.map _).length + 1 < _; rw [List.length_map]; exact hl⟩
      · cases h
    · cases h
/-- set(e), then something of the new set -/
theorem set_then {f : List Int ⊕ List Str → Rv} {pins : List (Addr × Obj)} {σ : L2.St} {H : Hp} {s : Shared} {Q : VK} {cont : Value → Sem Value} (hg2 : Gl X "set") (hm2 : X.mg "set" = none) (ha : DE X cl E e m) (I : Inv X pins σ H s) (h : tM X.K cl E (mSetE f m) σ H Q)
    (na : starEach [e] X.env = (false, eval e X.env) :: starEach [] X.env) (hc : X.calm = true)
    (hk : ∀ (P B H1 : Hp) (env : Env) (fps : Nat → List Addr) (S : Addr) (ls : List Key) (z : List Int ⊕ List Str) (s1 : Shared), Inv X pins σ H1 s1 → Fm X.K P B H1 σ env fps → SetM X.w s1.heap S ls → (∀ k, k ∈ ls ↔ k ∈ keysS z) → PostE X.K cl E P B σ (.ok (f z) env) Q →
      wpAny (model X.prog X.w) X.A (cont (.ref S)) (EP X pins σ Q) X.xe s1) :
    wpAny (model X.prog X.w) X.A (eval (.Call (.Name "set" p2) [e] [] q) X.env) (fun v s1 => wpAny (model X.prog X.w) X.A (cont v) (EP X pins σ Q) X.xe s1) X.xe s := by
  obtain ⟨P, B, env, fps, F, h⟩ := h
  refine PyProof.Rows.Call_ (ld_blt I hg2 hm2 PyProof.Rows.boot_set ?_)
  refine PyProof.Rows.callWith_type1 (PyProof.Rows.args_cons (thn (ha.run pins s σ H _ I ⟨P, B, env, fps, F, post_vm h⟩) fun v s1 ⟨x, H1, I1, r1, B1, env1, fps1, r, x1, F1, w1, h1⟩ => PyProof.Rows.args_nil ?_) na) na rfl
  cases e1 : (res env1 r).bind seqD with
  | none => simp only [e1] at h1; exact h1.elim
  | some ds =>
  simp only [e1] at h1
  cases e2 : setOf ds with
  | none => simp only [e2] at h1; exact h1.elim
  | some z =>
  simp only [e2] at h1
  obtain ⟨x0, e3, e4⟩ := Option.bind_eq_some_iff.mp e1
  obtain ⟨k, a, vs, rfl, hq, rds⟩ := rd1_seq F1.sub (F1.res w1 e3) e4
  cases r1
  have fin : ∀ (h' : Heap) (tk : Nat) ls, SetM X.w h' s1.heap.objs.size ls → (∀ k, k ∈ ls ↔ k ∈ keysS z) → (∀ b o, s1.heap.get? b = some o → h'.get? b = some o) →
      wpAny (model X.prog X.w) X.A (cont (.ref s1.heap.objs.size)) (EP X pins σ Q) X.xe { s1 with heap := h', toks := tk } := fun h' tk ls S hls hk' =>
    hk P B1 H1 env1 fps1 _ ls z _ (I1.kept (t' := tk) hk') F1 S hls h1
  cases k with
  | true =>
    obtain ⟨its, rv, pl, hz⟩ := I1.list hq
    obtain ⟨c1, c2⟩ := keys_of rds e2 rv
    exact call_set_list (keysS z) (I1.ok.hd hc) pl.isList (by simpa using c1) c2 fun h' tk ls S hls hk' => fin h' tk ls S hls hk'
  | false =>
    obtain ⟨its, rv, pl, hz⟩ := I1.tuple hq
    obtain ⟨c1, c2⟩ := keys_of rds e2 rv
    exact call_set_tuple (keysS z) (I1.ok.hd hc) pl (by simpa using c1) c2 fun h' tk ls S hls hk' => fin h' tk ls S hls hk'
theorem sorted_vals {β : Type} {R : Value → β → Prop} {g : β → V} {enc : β → D} {K : PySem.W.Frag} {B : Hp} (hR : ∀ v b, R v b → RelV (g b) v) (hB : ∀ b, RD K B (enc b) (g b)) : ∀ {us : List Value} {bs : List β}, PySem.W.EachIs R us bs → Vals (bs.map g) us ∧ RDs K B (bs.map enc) (bs.map g)
  | _, _, .nil => ⟨.nil, .nil⟩
  | _, _, .cons h t => ⟨.cons (hR _ _ h) (sorted_vals hR hB t).1, .cons (hB _) (sorted_vals hR hB t).2⟩
theorem new_list {pins : List (Addr × Obj)} {σ : L2.St} {P B H : Hp} {s s' : Shared} {env : Env} {fps : Nat → List Addr} {Q : VK} {p : Addr} {out : List Value} {c : Nat} {vs : List V} {ds : List D} (I : Inv X pins σ H s) (F : Fm X.K P B H σ env fps)
    (k : ∀ b o, s.heap.get? b = some o → s'.heap.get? b = some o) (g : s'.gens = s.gens) (o : s'.os = s.os) (hp : s.heap.objs.size ≤ p) (hg : s'.heap.get? p = some (PyProof.Rows.seqObj "list" out.toArray c)) (hv : Vals vs out) (hr : RDs X.K B ds vs) (hl : vs.length ≤ sizeLine)
    (h : PostE X.K cl E P B σ (.ok (.own (.lst ds)) env) Q) : EP X pins σ Q (.ref p) s' := by
  have hn : H p = none := I.hok.fresh hp
  have J : Inv X pins σ (upd H p (.lst vs)) { s with heap := s'.heap, gens := s'.gens, drawn := s'.drawn, toks := s'.toks } :=
    I.call (ch := []) (Un.laid k hp hn) (I.hok.laid k hp ⟨hl, out, c, hv, hg⟩) (by rw [g]; exact I.bare) (fun _ z => nomatch z)
  have e : s' = { s with heap := s'.heap, gens := s'.gens, drawn := s'.drawn, toks := s'.toks } := by
    cases s'
    cases s
    cases o
    rfl
  rw [e]
  obtain ⟨h1, h2, h3⟩ := F.newB hn
  exact ⟨.ref p, _, J, rfl, h _ _ B fps Ext.refl (F.alloc hn) ⟨_, .lst upd_same hr, fun a ha => by simp at ha; subst ha; exact ⟨h1, h2, h3⟩⟩⟩
/-- sorted(set(e)), whole numbers or texts -/
theorem de_sortSet {k : Nat} (hr : Room k X.A) (hc : X.calm = true) (hg : Gl X "sorted") (hm : X.mg "sorted" = none) (hg2 : Gl X "set") (hm2 : X.mg "set" = none) (ha : DE X cl E e m) (na : starEach [e] X.env = (false, eval e X.env) :: starEach [] X.env := by rfl) :
    DE X cl E (.Call (.Name "sorted" p) [.Call (.Name "set" p2) [e] [] q] [] pos) (mSetE (fun z => .own (.lst (sortedS z))) m) := by
  refine ⟨fun pins s σ H Q I h => ?_⟩
  refine PyProof.Rows.Call_ (ld_blt I hg hm PyProof.Rows.boot_sorted ?_)
  refine PyProof.Rows.callWith_builtin1 (PyProof.Rows.args_cons (thn (set_then (cont := fun v => call (.builtin "sorted") [v]) hg2 hm2 ha I h na hc fun P B H1 env fps S ls z s1 I1 F1 SM hls h1 => ?_) fun v s1 h1 => PyProof.Rows.args_nil h1) rfl) rfl rfl
  have hh := I1.ok.hd hc
  cases z with
  | inl ns =>
    refine sorted_setM (β := Int) PyData.int (fun k => match k with
      | .inl i => some i
      | .inr _ => none) (Sum.inl : Int → Key) (fun v i => ∃ t, v = .int i t) ?_ ?_ (fun b => rfl) (fun h v b ⟨t, e⟩ => ⟨[], by rw [e]; exact .int _ _, rfl⟩) (fun _ _ => rfl) (fun b => ⟨fun z => (nomatch z), fun xs z => nomatch z⟩) (fun b => by simp [PyData.depth]) SM hh (units_of hr) (fun k hk => ?_) fun s' pp out c bs kk g o hp hgt nd mb hb eo => ?_
    · intro k v hkv b hb
      rcases keyIs_shape hkv with ⟨i, t, rfl, rfl⟩ | ⟨x, t, rfl, rfl⟩
      · cases hb; exact ⟨t, rfl⟩
      · cases hb
    · intro k b hb
      cases k with
      | inl i => cases hb; rfl
      | inr x => cases hb
    · have := (hls k).1 hk
      obtain ⟨i, _, rfl⟩ := List.mem_map.mp this
      exact ⟨i, rfl⟩
    · have em : ∀ b, b ∈ bs ↔ b ∈ ns := fun b => by
        rw [mb b, hls]
        constructor
        · intro h
          obtain ⟨i, h1, h2⟩ := List.mem_map.mp h
          cases h2; exact h1
        · exact fun h => List.mem_map.mpr ⟨b, h, rfl⟩
      have eq0 : bs.mergeSort (PySem.W.dataLe false PyData.int) = sortI ns := by
        rw [show PySem.W.dataLe false PyData.int = fun a b => decide (a ≤ b) from PySem.W.dataLe_int fun b => b]
        exact sortI_eq nd em
      rw [eq0] at eo
      obtain ⟨v1, v2⟩ := sorted_vals (K := X.K) (B := B) (g := V.int) (enc := PyData.int) (fun v b ⟨t, e⟩ => ⟨t, e⟩) (fun b => .int b) eo
      refine new_list I1 F1 kk g o hp hgt v1 v2 ?_ h1
      have l2 : (sortI ns).length = bs.length := by rw [← eq0]; exact (List.mergeSort_perm _ _).length_eq
      have : scanBound ≤ sizeLine := by decide
      rw [List.length_map]; omega
  | inr xs =>
    refine sorted_setM (β := Str) PyData.str (fun k => match k with
      | .inr i => some i
      | .inl _ => none) (Sum.inr : Str → Key) (fun v i => ∃ t, v = .str i t) ?_ ?_ (fun b => rfl) (fun h v b ⟨t, e⟩ => ⟨[], by rw [e]; exact .str _ _, rfl⟩) (fun _ _ => rfl) (fun b => ⟨fun z => (nomatch z), fun xs z => nomatch z⟩) (fun b => by simp [PyData.depth]) SM hh (units_of hr) (fun k hk => ?_) fun s' pp out c bs kk g o hp hgt nd mb hb eo => ?_
    · intro k v hkv b hb
      rcases keyIs_shape hkv with ⟨i, t, rfl, rfl⟩ | ⟨x, t, rfl, rfl⟩
      · cases hb
      · cases hb; exact ⟨t, rfl⟩
    · intro k b hb
      cases k with
      | inr i => cases hb; rfl
      | inl x => cases hb
    · have := (hls k).1 hk
      obtain ⟨i, _, rfl⟩ := List.mem_map.mp this
      exact ⟨i, rfl⟩
    · have em : ∀ b, b ∈ bs ↔ b ∈ xs := fun b => by
        rw [mb b, hls]
        constructor
        · intro h
          obtain ⟨i, h1, h2⟩ := List.mem_map.mp h
          cases h2; exact h1
        · exact fun h => List.mem_map.mpr ⟨b, h, rfl⟩
      have eq0 : bs.mergeSort (PySem.W.dataLe false PyData.str) = sortS xs := by
        rw [show PySem.W.dataLe false PyData.str = fun a b : Str => decide (a.cps.toList ≤ b.cps.toList) from PySem.W.dataLe_str fun b => b]
        exact sortS_eq nd em
      rw [eq0] at eo
      obtain ⟨v1, v2⟩ := sorted_vals (K := X.K) (B := B) (g := V.str) (enc := PyData.str) (fun v b ⟨t, e⟩ => ⟨t, e⟩) (fun b => .str b) eo
      refine new_list I1 F1 kk g o hp hgt v1 v2 ?_ h1
      have l2 : (sortS xs).length = bs.length := by rw [← eq0]; exact (List.mergeSort_perm _ _).length_eq
      have : scanBound ≤ sizeLine := by decide
      rw [List.length_map]; omega
end
end Mi

set_option Elab.async false
set_option linter.all false
set_option maxRecDepth 100000
set_option autoImplicit false
namespace Mi
open PySem PySem.Spec L2

/-! ### x[::-1] -/
section
variable {prog : Program} {w : World} {A : Around} {E : Value → Shared → Prop} {s : Shared}
theorem fm_congr {α β : Type} {f g : α → Option β} : ∀ {l : List α}, (∀ x ∈ l, f x = g x) → l.filterMap f = l.filterMap g
  | [], _ => rfl
  | x :: l, h => by rw [List.filterMap_cons, List.filterMap_cons, h x List.mem_cons_self, fm_congr (l := l) fun y hy => h y (List.mem_cons_of_mem _ hy)]
theorem pick_back (xs : Array Value) : ((List.range xs.size).filterMap fun (m : Nat) => xs[(((xs.size : Int) - 1) + (m : Int) * (-1)).toNat]?).toArray = xs.toList.reverse.toArray := by
  have h := PySem.W.krv_pick xs
  unfold slicePick at h
  rw [PySem.W.krv_bounds] at h
  have h : ((sliceRange ((xs.size : Int) - 1) (-1) (-1)).filterMap (xs[·]?)).toArray = xs.toList.reverse.toArray := h
  rw [PySem.W.krv_sliceRange, List.filterMap_map] at h
  rw [← h]
  congr 1
  refine fm_congr fun m hm => ?_
  have hl : m < xs.size := List.mem_range.mp hm
  have e : (((xs.size : Int) - 1) + (m : Int) * (-1)).toNat = xs.size - 1 - m := by omega
  show xs[(((xs.size : Int) - 1) + (m : Int) * (-1)).toNat]? = xs[xs.size - 1 - m]?
  rw [e]
theorem tup_back {t sl : Addr} {items : Array Value} {vl vu vs : Value} {Q : Value → Shared → Prop} (ht : PyProof.Rows.IsTup s.heap t items) (hs : s.heap.IsSliceOf sl vl vu vs) (pl : IsPart vl none) (pu : IsPart vu none) (ps : IsPart vs (some (-1)))
    (h : Q (.ref s.heap.objs.size) { s with heap := s.heap.push { cls := .type "tuple", data := .seq items.toList.reverse.toArray } }) (hsz : items.size ≤ sizeLine) : wpAny (model prog w) A (getItem (.ref t) (.ref sl)) Q E s := by
  have hfit : sizeOk (.seq items.toList.reverse.toArray) := by
    show items.toList.reverse.toArray.size ≤ sizeLine
    rw [List.size_toArray, List.length_reverse, Array.length_toList]
    exact hsz
  obtain ⟨os, hos, hcs, hds⟩ := id hs
  have hTs : s.TypeIs (.ref sl) "slice" := ⟨os, hos, hcs⟩
  unfold getItem
  try with_reducible refine wpAny_holding ?_
  first | refine wpAny_bind (wpAny_pure ?_) | skip
  refine wpAny_bind (wpAny_sequenceKey ht.typeIs (by decide) ?_)
  refine wpAny_bind (wpAny_callSpecial?_slot (name := Str.ofString "__getitem__") ht.typeIs PyProof.Rows.slot_tuple_getitem
    (wpAny_call_entry PyProof.Rows.slot_tuple_getitem ht.typeIs PyProof.Rows.entry_tuple_getitem ?_ (PyProof.Rows.args_tuple_getitem _ _)))
  show wpAny _ _ (Builtin.Tuple.tupleItemsOf (.ref t) >>= _) _ _ s
  refine wpAny_bind (PyProof.Rows.tupleItemsOf_ ht ?_)
  refine wpAny_bind (wpAny_typeOf hTs ?_)
  rw [if_pos (by decide)]
  have ap : ∀ {A : Around} {Q' : Int × Int × Nat → Shared → Prop}, Q' ((items.size : Int) - 1, -1, items.size) s → wpAny (model prog w) A (Builtin.Slice.sliceApplied (.ref sl) (pure (items.size : Int))) Q' E s := by
    intro A Q' h'
    unfold Builtin.Slice.sliceApplied Builtin.Slice.sliceFields
    refine wpAny_bind (wpAny_bind (wpAny_field hos hds (x := vl) rfl (wpAny_bind (wpAny_field hos hds (x := vu) rfl (wpAny_bind (wpAny_field hos hds (x := vs) rfl (wpAny_pure ?_)))))))
    refine wpAny_bind (HT.slicePart_ ps ?_)
    show wpAny _ _ (if ((-1 : Int) == 0) = true then _ else _) _ _ s
    rw [if_neg (by decide)]
    refine wpAny_bind (HT.slicePart_ pl (wpAny_bind (HT.slicePart_ pu (wpAny_bind (wpAny_pure ?_)))))
    have e1 : Builtin.Slice.sliceAdjust none none (-1) (items.size : Int) = ((items.size : Int) - 1, -1) := by
      unfold Builtin.Slice.sliceAdjust
      simp
    have e2 : Builtin.Slice.slicePlaces ((items.size : Int) - 1) (-1) (-1) = items.size := by
      unfold Builtin.Slice.slicePlaces
      simp
      omega
    show wpAny _ _ (match Builtin.Slice.sliceAdjust none none (-1) (items.size : Int) with | (lo, hi) => pure (lo, (-1 : Int), Builtin.Slice.slicePlaces lo hi (-1))) _ _ s
    rw [e1]
    show wpAny _ _ (pure ((items.size : Int) - 1, (-1 : Int), Builtin.Slice.slicePlaces ((items.size : Int) - 1) (-1) (-1))) _ _ s
    rw [e2]
    exact wpAny_pure h'
  refine wpAny_bind (ap ?_)
  have hno : ¬ (((items.size : Int) - 1 == 0 && (-1 : Int) == 1 && items.size == items.size) = true) := by
    intro q
    rw [Bool.and_eq_true, Bool.and_eq_true] at q
    exact absurd q.1.2 (by decide)
  show wpAny _ _ (if ((items.size : Int) - 1 == 0 && (-1 : Int) == 1 && items.size == items.size) = true then _ else _) _ _ s
  rw [if_neg hno, pick_back]
  first
    | exact wpAny_bind (m := Builtin.Tuple.tupleExact _) (wpAny_newObj_type (wpAny_pure ⟨_, rfl, wpAny_pure h⟩) hfit)
    | exact wpAny_bind (m := Builtin.Tuple.tupleExact _) (wpAny_newObj_type (wpAny_bind (wpAny_pure (wpAny_pure ⟨_, rfl, wpAny_pure h⟩))) hfit)
    | exact wpAny_bind (wpAny_bind (m := Builtin.Tuple.tupleExact _) (wpAny_newObj_type (wpAny_pure (wpAny_pure ⟨_, rfl, wpAny_pure h⟩)) hfit))
    | exact wpAny_bind (wpAny_bind (m := Builtin.Tuple.tupleExact _) (wpAny_newObj_type (wpAny_pure ⟨_, rfl, wpAny_pure h⟩) hfit))
end
def mBack (m : M Rv) : M Rv := bnd (vm m) fun r env => match res env r with
  | some (.list ds) => .ok (.own (.lst ds.reverse)) env
  | some (.tuple ds) => .ok (.d (.tuple ds.reverse)) env
  | _ => .stuck
section
variable {X : Cx} {cl : String → Addr} {E : XK} {e o : Expr} {m mo : M Rv} {p p1 p2 p3 q pos apos : Pos} {k : Nat}
theorem de_back (he : DE X cl E e m) (hc : X.calm = true) : DE X cl E (.Subscript e (.Slice none none (some (.UnaryOp .USub (.Constant (.int 1) k p1) p2)) p3) pos) (mBack m) := by
  refine ⟨fun pins s σ H Q I ⟨P, B, env, fps, F, h⟩ => ?_⟩
  refine PyProof.Rows.Subscript_ (thn (he.run pins s σ H _ I ⟨P, B, env, fps, F, post_vm h⟩) fun v s1 ⟨x, H1, I1, r1, B1, env1, fps1, r, x1, F1, w1, h1⟩ => ?_)
  have hst : PO X (some (.UnaryOp .USub (.Constant (.int 1) k p1) p2)) (tPart (tUn (rU fun i => .int (-i)) (tC (.int 1)))) := po_some (pe_un un_neg pe_int)
  refine wpAny_Slice (thn (po_none.run pins s1 σ H1 (fun o H2 => o = none ∧ H2 = H1) I1 ⟨rfl, rfl⟩) fun vl s2 ⟨l, H2, I2, pl, el, e2⟩ => ?_)
  subst el e2
  refine thn (po_none.run pins s2 σ H2 (fun o H3 => o = none ∧ H3 = H2) I2 ⟨rfl, rfl⟩) fun vu s3 ⟨u, H3, I3, pu, eu, e3⟩ => ?_
  subst eu e3
  refine thn (hst.run pins s3 σ H3 (fun o H4 => o = some (-1) ∧ H4 = H3) I3 ⟨1, rfl, -1, rfl, rfl, rfl⟩) fun vs s4 ⟨o, H4, I4, ps, eo, e4⟩ => ?_
  subst eo e4
  have I5 : Inv X pins σ H4 { s4 with heap := s4.heap.push { cls := .type "slice", data := .fields #[vl, vu, vs] } } := I4.kept (t' := s4.toks) fun b ob q => Heap.get?_push_of_some _ q
  have look : ∀ ds, (∃ x0, res env1 r = some x0 ∧ seqD x0 = some ds) → ∃ k a vs, x = .ref a ∧ SqK k X.K H4 a vs ∧ RDs X.K B1 ds vs := fun ds ⟨x0, e1, e2⟩ => rd1_seq F1.sub (F1.res w1 e1) e2
  split at h1
  · rename_i ds e1
    rcases F1.res w1 e1 with rr | ⟨ds', a, us, ed, rfl, ea, rr⟩
    · cases rr with
      | lst hx rr =>
        cases r1
        obtain ⟨its, rv, ht, hz⟩ := I5.list (F1.sub.sqL hx)
        have hlen := rv.length
        show wpAny (model X.prog X.w) X.A (PyProof.Rows.subscriptTail e (.Slice none none (some (.UnaryOp .USub (.Constant (.int 1) k p1) p2)) p3) _ (.ref s4.heap.objs.size)) (EP X pins σ Q) X.xe { s4 with heap := s4.heap.push { cls := .type "slice", data := .fields #[vl, vu, vs] } }
        refine PyProof.Rows.tail_any (ops := [_, .ref s4.heap.objs.size]) ht.isList.typeIs (PySem.slot_list_getitem.lookup) ?_ (by with_unfolding_all rfl)
        refine wpAny_getItem_list_slice ht.isList (Heap.IsSliceOf.new _ vl vu vs) pl pu ps (by decide) ?_ (by rw [List.size_toArray]; omega)
        rw [PySem.W.krv_pick]
        have hn := I5.hok.fresh (Nat.le_refl _)
        obtain ⟨h3, h4, h5⟩ := F1.newB hn
        refine ⟨.ref _, _, I5.laid (t' := s4.toks) (o := .lst _) (fun b ob q => Heap.get?_push_of_some _ q) (Nat.le_refl _) ?_, rfl, h1 _ _ B1 fps1 Ext.refl (F1.alloc hn) ⟨_, .lst upd_same rr.reverse, fun a ha => by rw [List.mem_singleton.mp ha]; exact ⟨h3, h4, h5⟩⟩⟩
        exact ⟨by rw [List.length_reverse]; exact hz, _, 0, rv.reverse, Heap.get?_push_size _ rfl⟩
    · cases ed
      cases r1
      obtain ⟨its, rv, ht, hz⟩ := I5.list (SqL.of (K := X.K) ea)
      have hlen := rv.length
      show wpAny (model X.prog X.w) X.A (PyProof.Rows.subscriptTail e (.Slice none none (some (.UnaryOp .USub (.Constant (.int 1) k p1) p2)) p3) _ (.ref s4.heap.objs.size)) (EP X pins σ Q) X.xe { s4 with heap := s4.heap.push { cls := .type "slice", data := .fields #[vl, vu, vs] } }
      refine PyProof.Rows.tail_any (ops := [_, .ref s4.heap.objs.size]) ht.isList.typeIs (PySem.slot_list_getitem.lookup) ?_ (by with_unfolding_all rfl)
      refine wpAny_getItem_list_slice ht.isList (Heap.IsSliceOf.new _ vl vu vs) pl pu ps (by decide) ?_ (by rw [List.size_toArray]; omega)
      rw [PySem.W.krv_pick]
      have hn := I5.hok.fresh (Nat.le_refl _)
      obtain ⟨h3, h4, h5⟩ := F1.newB hn
      refine ⟨.ref _, _, I5.laid (t' := s4.toks) (o := .lst _) (fun b ob q => Heap.get?_push_of_some _ q) (Nat.le_refl _) ?_, rfl, h1 _ _ B1 fps1 Ext.refl (F1.alloc hn) ⟨_, .lst upd_same rr.reverse, fun a ha => by rw [List.mem_singleton.mp ha]; exact ⟨h3, h4, h5⟩⟩⟩
      exact ⟨by rw [List.length_reverse]; exact hz, _, 0, rv.reverse, Heap.get?_push_size _ rfl⟩
  · rename_i ds e1
    obtain ⟨k', a, us, rfl, hx, rr⟩ := look ds ⟨_, e1, rfl⟩
    rcases F1.res w1 e1 with r2 | ⟨ds', a', us', ed, _, _, _⟩
    · cases r2 with
      | @tup a0 vs0 ds0 hx rr =>
        cases r1
        obtain ⟨its, rv, ht, hz⟩ := I5.tuple (F1.sub.sqT hx)
        have hlen := rv.length
        show wpAny (model X.prog X.w) X.A (PyProof.Rows.subscriptTail e (.Slice none none (some (.UnaryOp .USub (.Constant (.int 1) k p1) p2)) p3) _ (.ref s4.heap.objs.size)) (EP X pins σ Q) X.xe { s4 with heap := s4.heap.push { cls := .type "slice", data := .fields #[vl, vu, vs] } }
        refine PyProof.Rows.tail_any (ops := [_, .ref s4.heap.objs.size]) (show PyProof.Rows.IsTup _ _ its.toArray from ht).typeIs (PyProof.Rows.slot_tuple_getitem.lookup) ?_ (by with_unfolding_all rfl)
        refine tup_back (show PyProof.Rows.IsTup _ _ its.toArray from ht) (Heap.IsSliceOf.new _ vl vu vs) pl pu ps ?_ (by rw [List.size_toArray]; omega)
        have hn := I5.hok.fresh (Nat.le_refl _)
        obtain ⟨h3, h4, h5⟩ := F1.newB hn
        have xx := Ext.upd (o := .tup vs0.reverse) h3 h4
        refine ⟨.ref _, _, I5.laid (t' := s4.toks) (o := .tup _) (fun b ob q => Heap.get?_push_of_some _ q) (Nat.le_refl _) ?_, rfl, h1 _ _ _ fps1 xx (F1.allocB hn) (.tup (.inl (.inl upd_same)) (RDs.mono xx.1 _ _ rr.reverse))⟩
        exact ⟨by rw [List.length_reverse]; exact hz, _, rv.reverse, PyProof.Rows.IsTup.new _ _⟩
    · cases ed
  · exact h1.elim
end
end Mi

set_option Elab.async false
set_option linter.all false
set_option maxRecDepth 100000
set_option autoImplicit false
namespace Mi
open PySem PySem.Spec L2

/-! ### methods of a text -/
/-- t.m() -/
def mTx0 (g : Str → Option Out) (m : M Rv) : M Rv := bnd (vm m) fun r env => match r with
  | .d (.str z) => match g z with
    | some o => .ok o.rv env
    | none => .stuck
  | _ => .stuck
/-- t.m(e) -/
def mTx1 (g : Str → D → Option Out) (m me : M Rv) : M Rv := bnd (vm m) fun r => match r with
  | .d (.str z) => bnd (vm me) fun re env => match res env re with
    | some x => match g z x with
      | some o => .ok o.rv env
      | none => .stuck
    | none => .stuck
  | _ => stk
section
variable {X : Cx} {cl : String → Addr} {E : XK} {e o : Expr} {m me : M Rv} {pos apos : Pos}
theorem tx0_in {r : V → List V → Hp → VK → Prop} {g : Str → Option Out} (hr : ∀ (H B : Hp) (z : Str) (o : Out) (Q : VK), Sub B H → g z = some o → (∀ v H', OutR X.K B H o v H' → Q v H') → r (.str z) [] H Q) {σ : L2.St} {H : Hp} {Q : VK} (h : tM X.K cl E (mTx0 g m) σ H Q) :
    tM0 r (tM X.K cl E m) σ H Q := by
  obtain ⟨P, B, env, fps, F, h⟩ := h
  refine ⟨P, B, env, fps, F, (post_vm h).mono ?_⟩
  intro v H1 ⟨B2, env2, fps2, r2, x2, F2, q, h2⟩
  split at h2
  · rename_i z
    cases (show RD X.K B2 (.str z) v from q)
    split at h2
    · rename_i o eo
      exact ⟨⟨z, rfl⟩, hr H1 B2 z o Q F2.sub eo fun v H' ho => ho.post F2 h2⟩
    · exact h2.elim
  · exact h2.elim
theorem tx1_in {r : V → List V → Hp → VK → Prop} {g : Str → D → Option Out} (hr : ∀ (H B : Hp) (z : Str) (x : D) (y : V) (o : Out) (Q : VK), Sub B H → Rd1 X.K B H x y → g z x = some o → (∀ v H', OutR X.K B H o v H' → Q v H') → r (.str z) [y] H Q) {σ : L2.St} {H : Hp} {Q : VK} (h : tM X.K cl E (mTx1 g m me) σ H Q) :
    tM1 r (tM X.K cl E m) (tM X.K cl E me) σ H Q := by
  obtain ⟨P, B, env, fps, F, h⟩ := h
  refine ⟨P, B, env, fps, F, (post_vm h).mono ?_⟩
  intro v H1 ⟨B2, env2, fps2, r2, x2, F2, q, h2⟩
  split at h2
  · rename_i z
    cases (show RD X.K B2 (.str z) v from q)
    refine ⟨⟨z, rfl⟩, P, B2, env2, fps2, F2, (post_vm h2).mono ?_⟩
    intro y H3 ⟨B4, env4, fps4, r4, x4, F4, q4, h4⟩
    split at h4
    · rename_i x ex
      split at h4
      · rename_i o eo
        exact hr H3 B4 z x y o Q F4.sub (F4.res q4 ex) eo fun v H' ho => ho.post F4 h4
      · exact h4.elim
    · exact h4.elim
  · exact h2.elim
def gUpper (z : Str) : Option Out := if z.length ≤ 5592405 then some (.val (.str (Txt.upper z))) else none
theorem de_upper (ho : DE X cl E o m) (hbase : attributeBase o "upper" X.env (eval o X.env) = eval o X.env := by rfl) (hline : (apos.endLine == pos.line) = true := by rfl) : DE X cl E (.Call (.Attribute o "upper" apos) [] [] pos) (mTx0 gUpper m) :=
  ⟨fun pins s σ H Q I h => (pe_upper ho hbase hline).run pins s σ H Q I (tx0_in (fun H B z o Q hs e hq => by
    unfold gUpper at e
    split at e
    · rename_i hz
      cases e
      exact ⟨z, rfl, rfl, hz, hq _ _ ⟨rfl, .str _⟩⟩
    · cases e) h)⟩
def gJoin (z : Str) (x : D) : Option Out := match (seqD x).bind strsD with
  | some ys => if (ys.map (·.length)).sum + ys.length * z.length ≤ 16777216 then some (.val (.str (Txt.join z ys))) else none
  | none => none
theorem rd1_sq {K : PySem.W.Frag} {B H : Hp} {x : D} {v : V} {ds : List D} (hs : Sub B H) (r : Rd1 K B H x v) (hx : seqD x = some ds) : ∃ a vs, v = .ref a ∧ (SqL K H a vs ∨ SqT K H a vs) ∧ RDs K B ds vs := by
  obtain ⟨k, a, vs, e, h, r⟩ := rd1_seq hs r hx
  cases k with
  | true => exact ⟨a, vs, e, .inl h, r⟩
  | false => exact ⟨a, vs, e, .inr h, r⟩
theorem de_join (ho : DE X cl E o m) (he : DE X cl E e me) (hs : starEach [e] X.env = [(false, eval e X.env)] := by rfl) (hbase : attributeBase o "join" X.env (eval o X.env) = eval o X.env := by rfl) (hline : (apos.endLine == pos.line) = true := by rfl) :
    DE X cl E (.Call (.Attribute o "join" apos) [e] [] pos) (mTx1 gJoin m me) :=
  ⟨fun pins s σ H Q I h => (pe_join ho he hs hbase hline).run pins s σ H Q I (tx1_in (fun H B z x y o Q hs r e hq => by
    unfold gJoin at e
    split at e
    · rename_i ys ey
      split at e
      · rename_i hz
        cases e
        obtain ⟨ds, e1, e2⟩ := Option.bind_eq_some_iff.mp ey
        obtain ⟨a, vs, rfl, hq2, rr⟩ := rd1_sq hs r e1
        rw [strsD_vals rr e2] at hq2
        exact ⟨z, a, ys, rfl, rfl, hq2, hz, hq _ _ ⟨rfl, .str _⟩⟩
      · cases e
    · cases e) h)⟩

/-! ### str(n) -/
def gStr : List D → Option Out
  | [.int i] => if i.natAbs.log2 < 1920 then some (.val (.str (toString i))) else none
  | [.str z] => none
  | _ => none
theorem ru_str {K : PySem.W.Frag} : RuL K (fun xs H Q => ∃ i : Int, xs = [.int i] ∧ i.natAbs.log2 < 1920 ∧ Q (.str (toString i)) H) gStr := by
  intro H B xs vs o Q hs r e hq
  unfold gStr at e
  split at e
  · rename_i i
    split at e
    · rename_i hz
      cases e
      cases r with
      | cons r1 r2 =>
        cases r2
        rcases r1 with r1 | ⟨_, _, _, q, _⟩
        · cases r1
          exact ⟨i, rfl, hz, hq _ _ ⟨rfl, .str _⟩⟩
        · cases q
    · cases e
  · cases e
  · cases e
theorem de_toStr {ms : M (List Rv)} {p : Pos} (hg : Gl X "str") (hm : X.mg "str" = none) (ha : DA X cl E [e] ms) (he : starEach [e] X.env = (false, eval e X.env) :: starEach [] X.env := by rfl) : DE X cl E (.Call (.Name "str" p) [e] [] pos) (mCB gStr ms) :=
  de_callTy call_str_int ru_str hg hm PyProof.Rows.boot_str ha (by decide) (by decide) he rfl

/-! ### {'a': e}: a dict that is only looked at as a thing -/
def mDic1 (m : M Rv) : M Rv := bnd (vm m) fun r => bnd (frzR r) fun _ => ret (.d (.dict []))
theorem de_dic1 {key : Str} {kj : Nat} {kp : Pos} (he : DE X cl E e m) : DE X cl E (.Dict [some (.Constant (.str key) kj kp)] [e] pos) (mDic1 m) := by
  refine ⟨fun pins s σ H Q I ⟨P, B, env, fps, F, h⟩ => (pe_disp (pps_cons pe_str he pps_nil) rfl rfl (by simp) (by simp)).run pins s σ H Q I fun a ha => ?_⟩
  obtain ⟨hb, hp, hf⟩ := F.newB ha
  refine ⟨L2.upd P a (.dK []), B, env, fps, (F.alloc ha).guard upd_same hb hf hp, ?_⟩
  unfold mDic1 at h
  have ee : (bnd (vm m) fun r => bnd (frzR r) fun _ => ret (Rv.d (.dict []))) env = (bnd m fun r => bnd (frzR r.frz) fun _ => ret (Rv.d (.dict []))) env := by
    unfold vm bnd
    cases m env <;> rfl
  rw [ee] at h
  unfold bnd at h
  cases q : m env with
  | stuck => rw [q] at h; exact h.elim
  | ex c env1 =>
    rw [q] at h
    intro H1 B1 fps1 x1 F1
    exact h H1 B1 fps1 (Ext.ungrd hp x1).1 (F1.ungrd hp)
  | ok r env1 =>
    rw [q] at h
    intro v H1 B1 fps1 x1 F1 r1
    obtain ⟨B2, x2, F2, s2⟩ := freeze_rv F1 r1
    simp only [bind_ok] at h
    cases qf : frzR r.frz env1 with
    | stuck => rw [qf] at h; exact h.elim
    | ex c e => exact absurd qf frzR_nex
    | ok d env3 =>
      rw [qf] at h
      simp only [bind_ok] at h
      obtain ⟨B3, fps3, x3, F3, r3⟩ := frzR_ok F2 s2 qf
      have xx := Ext.ungrd hp (x1.trans (x2.trans x3))
      refine ⟨F3.prt _ _ upd_same, [(.inr key, v)], rfl, by simp, ?_⟩
      have hb3 : B3 a = none := xx.2.trans hb
      obtain ⟨F4, hf4⟩ := F3.grow (o' := .dK (mergeK [] [(.inr key, v)])) hb3 hp
      obtain ⟨F5, x5⟩ := F4.freezeT upd_same hb3 hp hf4
      exact h _ _ _ fps3 (xx.1.trans x5) F5 (.dct upd_same)
end
end Mi

set_option Elab.async false
set_option linter.all false
namespace Mi
open PySem PySem.Spec L2
section
variable {X : Cx}
/-- == with an empty list or tuple at either side -/
def rEmp (K : PySem.W.Frag) (neg : Bool) : R2 := fun x y H Q => ∃ l b xs zs, x = .ref l ∧ y = .ref b ∧ ((SqL K H l xs ∧ SqL K H b zs) ∨ (SqT K H l xs ∧ SqT K H b zs)) ∧ (xs = [] ∨ zs = []) ∧ Q (.bl (xor neg (xs.isEmpty && zs.isEmpty))) H
theorem emp_sz {α β : Type} {xs : List V} {zs : List V} {its : List α} {its2 : List β} (h1 : xs.length = its.length) (h2 : zs.length = its2.length) (h : xs = [] ∨ zs = []) : (its.toArray.size == its2.toArray.size) = (xs.isEmpty && zs.isEmpty) ∧ min its.toArray.size its2.toArray.size = 0 := by
  simp only [List.size_toArray]
  rcases h with rfl | rfl
  · simp only [List.length_nil] at h1
    rw [← h1]
    cases zs with
    | nil => simp only [List.length_nil] at h2; rw [← h2]; exact ⟨rfl, rfl⟩
    | cons z zs => simp only [List.length_cons] at h2; rw [← h2]; exact ⟨rfl, by omega⟩
  · simp only [List.length_nil] at h2
    rw [← h2]
    cases xs with
    | nil => simp only [List.length_nil] at h1; rw [← h1]; exact ⟨rfl, rfl⟩
    | cons z zs => simp only [List.length_cons] at h1; rw [← h1]; exact ⟨rfl, by omega⟩
theorem op_eqEmp (hu : X.A.units + 64 < cLine) : OpR X (compareOp .Eq) (rEmp X.K false) := by
  intro pins s σ H x y v u Q I rx ry h
  obtain ⟨l, b, xs, zs, rfl, rfl, hh, he, q⟩ := h
  cases rx
  cases ry
  have hu' : X.A.units < cLine := by omega
  rw [Bool.false_xor] at q
  rcases hh with ⟨hH, hB⟩ | ⟨hH, hB⟩
  · obtain ⟨its, r, p1, _⟩ := I.list hH
    obtain ⟨its2, r2, p2, _⟩ := I.list hB
    have e := emp_sz r.length r2.length he
    by_cases hsz : its.toArray.size = its2.toArray.size
    · have h0 : its.toArray.size = 0 := by omega
      refine SeqAt.eq_listAt (e := fun _ => true) p1.isList p2.isList hsz hu' (fun j h1 h2 => by omega) ?_
      rw [h0]
      refine ⟨.bl _, H, I, ?_, q⟩
      rw [← e.1, hsz]
      simp [RelV]
    · refine SeqAt.eq_list_lengthsAt p1.isList p2.isList (by simpa using hsz) hu' ⟨.bl _, H, I, ?_, q⟩
      rw [← e.1, show (its.toArray.size == its2.toArray.size) = false by simpa using hsz]
      rfl
  · obtain ⟨its, r, p1, _⟩ := I.tuple hH
    obtain ⟨its2, r2, p2, _⟩ := I.tuple hB
    have e := emp_sz r.length r2.length he
    refine SeqAt.eq_tupleAt (e := fun _ => true) p1 p2 hu' (fun j h1 h2 => by omega) ?_
    rw [e.2, e.1]
    exact ⟨.bl _, H, I, rfl, q⟩
theorem op_neEmp (hu : X.A.units + 64 < cLine) : OpR X (compareOp .NotEq) (rEmp X.K true) := by
  intro pins s σ H x y v u Q I rx ry h
  obtain ⟨l, b, xs, zs, rfl, rfl, hh, he, q⟩ := h
  cases rx
  cases ry
  have hu' : X.A.units < cLine := by omega
  rw [Bool.true_xor] at q
  rcases hh with ⟨hH, hB⟩ | ⟨hH, hB⟩
  · obtain ⟨its, r, p1, _⟩ := I.list hH
    obtain ⟨its2, r2, p2, _⟩ := I.list hB
    have e := emp_sz r.length r2.length he
    by_cases hsz : its.toArray.size = its2.toArray.size
    · have h0 : its.toArray.size = 0 := by omega
      refine SeqAt.RcNeAt.lists (e := fun _ => true) p1.isList p2.isList hsz hu' (fun j h1 h2 => by omega) _ _ _ _ ?_
      rw [h0]
      refine ⟨.bl _, H, I, ?_, q⟩
      rw [← e.1, hsz]
      simp [RelV]
    · refine SeqAt.RcNeAt.lists_lengths p1.isList p2.isList (by simpa using hsz) hu' _ _ _ _ ⟨.bl _, H, I, ?_, q⟩
      rw [← e.1, show (its.toArray.size == its2.toArray.size) = false by simpa using hsz]
      rfl
  · obtain ⟨its, r, p1, _⟩ := I.tuple hH
    obtain ⟨its2, r2, p2, _⟩ := I.tuple hB
    have e := emp_sz r.length r2.length he
    refine SeqAt.RcNeAt.tuples (e := fun _ => true) p1 p2 hu' (fun j h1 h2 => by omega) _ _ _ _ ?_
    rw [e.2, e.1]
    exact ⟨.bl _, H, I, rfl, q⟩
def gEmp (neg : Bool) : D → D → Option Out
  | .list xs, .list ys => if xs.isEmpty = true ∨ ys.isEmpty = true then vB (xor neg (xs.isEmpty && ys.isEmpty)) else none
  | .tuple xs, .tuple ys => if xs.isEmpty = true ∨ ys.isEmpty = true then vB (xor neg (xs.isEmpty && ys.isEmpty)) else none
  | _, _ => none
theorem RDs.emp {K : PySem.W.Frag} {B : Hp} {ds : List D} {vs : List V} (r : RDs K B ds vs) : vs.isEmpty = ds.isEmpty := by
  cases r <;> rfl
theorem RDs.nilE {K : PySem.W.Frag} {B : Hp} {ds : List D} {vs : List V} (r : RDs K B ds vs) (h : ds.isEmpty = true) : vs = [] := by
  have := r.emp
  rw [h] at this
  exact List.isEmpty_iff.mp this
theorem ru_emp {K : PySem.W.Frag} {neg : Bool} : RuD K (rEmp K neg) (gEmp neg) := by
  intro H B x y v w o Q hs r1 r2 e hq
  unfold gEmp at e
  split at e
  · split at e
    · rename_i h
      cases e
      obtain ⟨a, vs, rfl, h1, s1⟩ := r1.list hs
      obtain ⟨b, ws, rfl, h2, s2⟩ := r2.list hs
      refine ⟨a, b, vs, ws, rfl, rfl, .inl ⟨h1, h2⟩, h.imp s1.nilE s2.nilE, ?_⟩
      rw [s1.emp, s2.emp]
      exact hq _ _ ⟨rfl, .bl _⟩
    · cases e
  · split at e
    · rename_i h
      cases e
      obtain ⟨a, vs, rfl, h1, s1⟩ := r1.tuple hs
      obtain ⟨b, ws, rfl, h2, s2⟩ := r2.tuple hs
      refine ⟨a, b, vs, ws, rfl, rfl, .inr ⟨h1, h2⟩, h.imp s1.nilE s2.nilE, ?_⟩
      rw [s1.emp, s2.emp]
      exact hq _ _ ⟨rfl, .bl _⟩
    · cases e
  · cases e
def gEqE := gEmp false
def gNeE := gEmp true
theorem od_eqE (hu : X.A.units + 64 < cLine) : OpD X (compareOp .Eq) gEqE := OpD.ru (op_eqEmp hu) ru_emp
theorem od_neE (hu : X.A.units + 64 < cLine) : OpD X (compareOp .NotEq) gNeE := OpD.ru (op_neEmp hu) ru_emp
theorem gEqE_l {ds : List D} : gEqE (.list ds) (.list []) = vB ds.isEmpty := by
  show (if ds.isEmpty = true ∨ ([] : List D).isEmpty = true then vB (xor false (ds.isEmpty && ([] : List D).isEmpty)) else none) = _
  rw [if_pos (.inr rfl), Bool.false_xor, List.isEmpty_nil, Bool.and_true]
theorem gNeE_l {ds : List D} : gNeE (.list ds) (.list []) = vB (!ds.isEmpty) := by
  show (if ds.isEmpty = true ∨ ([] : List D).isEmpty = true then vB (xor true (ds.isEmpty && ([] : List D).isEmpty)) else none) = _
  rw [if_pos (.inr rfl), Bool.true_xor, List.isEmpty_nil, Bool.and_true]
theorem gEqE_t {ds : List D} : gEqE (.tuple ds) (.tuple []) = vB ds.isEmpty := by
  show (if ds.isEmpty = true ∨ ([] : List D).isEmpty = true then vB (xor false (ds.isEmpty && ([] : List D).isEmpty)) else none) = _
  rw [if_pos (.inr rfl), Bool.false_xor, List.isEmpty_nil, Bool.and_true]
theorem gNeE_t {ds : List D} : gNeE (.tuple ds) (.tuple []) = vB (!ds.isEmpty) := by
  show (if ds.isEmpty = true ∨ ([] : List D).isEmpty = true then vB (xor true (ds.isEmpty && ([] : List D).isEmpty)) else none) = _
  rw [if_pos (.inr rfl), Bool.true_xor, List.isEmpty_nil, Bool.and_true]
end
end Mi

set_option Elab.async false
set_option linter.all false
set_option maxRecDepth 100000
namespace Mi
open PySem PySem.Spec L2 PySem.Calls
/-! ### the key of a lambda: len(cap[i][x][j]), or that negated -/
section
variable {prog : Program} {w : World} {A : Around} {E : Value → Shared → Prop} {env : Env}
/-- e gives v in the heap h, and leaves all as it is -/
def Gv (prog : Program) (w : World) (A : Around) (E : Value → Shared → Prop) (env : PySem.Env) (h : Heap) (e : Expr) (R : Value → Prop) : Prop :=
  ∀ (s : Shared) (Q : Value → Shared → Prop), s.heap = h → (∀ v tk, R v → Q v { s with toks := tk }) → wpAny (model prog w) A (eval e env) Q E s
variable {env : PySem.Env} {h : Heap} {a b e : Expr} {p pos : Pos} {x : Str}
def RInt (i : Int) (v : Value) : Prop := ∃ t, v = .int i t
def RRef (a : Addr) (v : Value) : Prop := v = .ref a
theorem gv_int {i : Int} {k : Nat} : Gv prog w A E env h (.Constant (.int i) k pos) (RInt i) := fun s Q hs hq => wpAny_Constant_int (hq _ _ ⟨_, rfl⟩)
theorem gv_local {m : Str → Option Value} {v : Value} (hk : env.scope.kind = .function) (hl : env.kindOf x = some .local) (hn : h.Ns env.locals m) (hv : m x = some v) (hd : (x == ("__debug__" : Str)) = false) : Gv prog w A E env h (.Name x pos) (fun u => u = v) :=
  fun s Q hs hq => wpAny_Name (wpAny_loadName_local hk hl (by rw [hs]; exact hn) hv (hq v s.toks rfl)) hd
theorem gv_free {c : Addr} {v : Value} (hk : env.scope.kind = .function) (hl : env.kindOf x = some .free) (hc : env.cells.lookup x = some c) (hv : h.IsCell c (some v)) (hd : (x == ("__debug__" : Str)) = false) (hcd : (x == ("__classdict__" : Str)) = false) : Gv prog w A E env h (.Name x pos) (fun u => u = v) :=
  fun s Q hs hq => wpAny_Name (wpAny_loadName_free hk hl hc (by rw [hs]; exact hv) (hq v s.toks rfl) hcd) hd
theorem gv_item {t : Addr} {its : Array Value} {i : Int} {j : Nat} {y : Value} {Ra Rb : Value → Prop} (ha : Gv prog w A E env h a Ra) (hb : Gv prog w A E env h b Rb) (ra : ∀ v, Ra v → v = .ref t) (rb : ∀ v, Rb v → RInt i v) (ht : PyProof.Rows.IsTup h t its) (hlo : -(2 ^ 63) ≤ i) (hhi : i < 2 ^ 63)
    (hj : seqIndex? i its.size = some j) (hy : its[j]? = some y) (hs : PlainIxT b) : Gv prog w A E env h (.Subscript a b pos) (fun u => u = y) := fun s Q hs' hq => by
  refine PyProof.Rows.Subscript_ (ha s _ hs' fun v tk rv => hb { s with toks := tk } _ hs' fun u tk2 ru => ?_)
  obtain rfl := ra v rv
  obtain ⟨tt, rfl⟩ := rb u ru
  have ht' : PyProof.Rows.IsTup ({ s with toks := tk2 } : Shared).heap t its := by rw [show ({ s with toks := tk2 } : Shared).heap = h from hs']; exact ht
  exact PyProof.Rows.tail_any ht'.typeIs PyProof.Rows.slot_tuple_getitem.lookup (PyProof.Rows.getItem_tuple ht' hlo hhi hj hy (hq _ _ rfl)) (hs _ _)
theorem gv_len {mg mb : Str → Option Value} {t : Addr} {its : Array Value} {Ra : Value → Prop} (ha : Gv prog w A E env h a Ra) (ra : ∀ v, Ra v → v = .ref t) (ht : PyProof.Rows.IsTup h t its) (hfit : (its.size : Int) < 2 ^ 63) (hk : env.scope.kind = .function) (hg : env.kindOf "len" = some .globalImplicit)
    (hn : h.Ns env.globals mg) (hm : mg "len" = none) (hb : h.Ns env.builtins mb) (hbv : mb "len" = some (.builtin "len")) (he : starEach [a] env = (false, eval a env) :: starEach [] env := by rfl) :
    Gv prog w A E env h (.Call (.Name "len" p) [a] [] pos) (RInt its.size) := fun s Q hs hq => by
  subst hs
  refine wpAny_Call_Name_kw (Calls.Name_function_global hk hg (Calls.loadGlobal_builtin hn hm hb hbv ?_))
  refine PyProof.Rows.callWith_builtin1 ?_ he rfl
  rw [he]
  show wpAny _ _ (spliced ((false, eval a env) :: backTo pos (starEach [] env))) _ _ s
  refine Calls.spliced_cons (ha s _ rfl fun v tk rv => Calls.spliced_nil ?_)
  obtain rfl := ra v rv
  exact PyProof.Rows.len_tuple (by exact ht) hfit (hq _ _ ⟨_, rfl⟩)
theorem gv_neg {i : Int} {Ra : Value → Prop} (ha : Gv prog w A E env h a Ra) (ra : ∀ v, Ra v → RInt i v) : Gv prog w A E env h (.UnaryOp .USub a pos) (RInt (-i)) := fun s Q hs hq => by
  refine PyProof.Rows.UnaryOp_ (ha s _ hs fun v tk rv => ?_)
  obtain ⟨t, rfl⟩ := ra v rv
  exact PyProof.Rows.neg_int (hq _ _ ⟨_, rfl⟩)
end

section
variable {prog : Program} {w : World} {A : Around}
/-- the key's text: len(cap[i][prm][j]), negated or not -/
def keyC (b : Expr) (cap prm : Str) (i j : Int) : Prop := ∃ (p1 p2 p3 p4 p5 p6 p7 p8 p9 : Pos) (k1 k2 : Nat),
  b = .Call (.Name "len" p1) [.Subscript (.Subscript (.Subscript (.Name cap p2) (.Constant (.int i) k1 p3) p4) (.Name prm p5) p6) (.Constant (.int j) k2 p7) p8] [] p9
def keyE (neg : Bool) (b : Expr) (cap prm : Str) (i j : Int) : Prop := if neg = true then ∃ p c, b = .UnaryOp .USub c p ∧ keyC c cap prm i j else keyC b cap prm i j
def keyI (neg : Bool) (n : Nat) : Int := if neg = true then -(n : Int) else n
theorem lam_key {mg mb : Str → Option Value} {s : Shared} {f c' cc th tr t2 t3 : Addr} {qual cap prm : Str} {params : Arguments} {body : Expr} {scope : Scope} {cl : List (Str × Addr)} {pm ctv v : Value} {neg : Bool} {i j n : Int} {i' j' n' : Nat} {tk0 : Tok} {its0 its1 its2 its3 : Array Value}
    (hof : s.heap.get? f = some (PySem.W.kla_obj "<lambda>" qual params body scope cl pm c' ctv)) (hcd : s.heap.CodeRec (.ref c') qual) (hroom : A.depth < recursionLimit) (hnl : s.heap.NoLimit)
    (hbind : bindArgs (PySem.W.kla_fn "<lambda>" qual params body scope cl pm (.ref c') ctv) ⟨[v], []⟩ = pure [(prm, v)]) (hk : scope.kind = .function) (hco : scope.isCoroutine = false) (hgen : scope.isGenerator = false) (hcell : ∀ x ∈ scope.names, x.2 ≠ .cell)
    (hprm : scope.names.lookup prm = some .local) (hcap : scope.names.lookup cap = some .free) (hlen : (PySem.W.envX qual scope s.heap.objs.size f (.ref c') cl).kindOf "len" = some .globalImplicit)
    (hdp : (prm == ("__debug__" : Str)) = false) (hdc : (cap == ("__debug__" : Str)) = false) (hcc : (cap == ("__classdict__" : Str)) = false)
    (hcl : cl.lookup cap = some cc) (hcv : s.heap.IsCell cc (some (.ref th))) (hb : keyE neg body cap prm i j) (hmg : s.heap.Ns mainGlobals mg) (hm : mg "len" = none) (hmb : s.heap.Ns builtinsNs mb) (hbv : mb "len" = some (.builtin "len"))
    (hv : v = .int n tk0) (h0 : PyProof.Rows.IsTup s.heap th its0) (hi : seqIndex? i its0.size = some i') (hi1 : -(2 ^ 63) ≤ i) (hi2 : i < 2 ^ 63) (e0 : its0[i']? = some (.ref tr)) (h1 : PyProof.Rows.IsTup s.heap tr its1) (hn : seqIndex? n its1.size = some n') (hn1 : -(2 ^ 63) ≤ n) (hn2 : n < 2 ^ 63)
    (e1 : its1[n']? = some (.ref t2)) (h2 : PyProof.Rows.IsTup s.heap t2 its2) (hj : seqIndex? j its2.size = some j') (hj1 : -(2 ^ 63) ≤ j) (hj2 : j < 2 ^ 63) (e2 : its2[j']? = some (.ref t3)) (h3 : PyProof.Rows.IsTup s.heap t3 its3) (hfit : (its3.size : Int) < 2 ^ 63) :
    wpAny (model prog w) A (call (.ref f) [v]) (PySem.W.KeyPure (.int (keyI neg its3.size)) s) (fun _ _ => False) s := by
  refine wpAny_call (PySem.W.kla_callFunE hroom hof rfl hco hgen rfl hcd ?_)
  rw [hbind]
  refine wpAny_pure (wpAny_newFunctionEnv hcell (fun y hy => ?_) (fun h₁ hns hsb => ⟨hnl.fresh _ hsb, ?_⟩) hk)
  · simp only [List.mem_singleton] at hy
    subst hy
    exact hprm
  show codeAny _ _ (.expr body (PySem.W.envX qual scope s.heap.objs.size f (.ref c') cl)) _ _
  have kp : ∀ b o, s.heap.get? b = some o → h₁.get? b = some o := fun b o e => hsb.extBut b o (Nat.ne_of_lt (Heap.lt_size e)) (Heap.get?_push_of_some _ e)
  have tupK : ∀ {t : Addr} {its : Array Value}, PyProof.Rows.IsTup s.heap t its → PyProof.Rows.IsTup h₁ t its := fun {t its} x => x.keeps kp
  have hcv1 : h₁.IsCell cc (some (.ref th)) := by
    obtain ⟨o, ho, hd⟩ := hcv
    exact ⟨o, kp _ _ ho, hd⟩
  have key : ∀ {c : Expr} {E : Value → Shared → Prop}, keyC c cap prm i j → Gv prog w (A.deeper (PySem.W.envX qual scope s.heap.objs.size f (.ref c') cl)) E (PySem.W.envX qual scope s.heap.objs.size f (.ref c') cl) h₁ c (RInt its3.size) := fun {c E} hc => by
    obtain ⟨p1, p2, p3, p4, p5, p6, p7, p8, p9, k1, k2, rfl⟩ := hc
    have g1 := gv_free (prog := prog) (w := w) (A := A.deeper (PySem.W.envX qual scope s.heap.objs.size f (.ref c') cl)) (E := E) (env := PySem.W.envX qual scope s.heap.objs.size f (.ref c') cl) (pos := p2) hk hcap hcl hcv1 hdc hcc
    have g2 := gv_item (pos := p4) g1 (gv_int (i := i) (k := k1) (pos := p3)) (fun _ e => e) (fun _ e => e) (tupK h0) hi1 hi2 hi e0 (fun _ _ => rfl)
    have g3 := gv_local (prog := prog) (w := w) (A := A.deeper (PySem.W.envX qual scope s.heap.objs.size f (.ref c') cl)) (E := E) (env := PySem.W.envX qual scope s.heap.objs.size f (.ref c') cl) (pos := p5) hk hprm hns (show ([(prm, v)] : List (Str × Value)).reverse.lookup prm = some v by simp [List.lookup]) hdp
    have g4 := gv_item (pos := p6) g2 g3 (fun _ e => e) (fun u e => ⟨tk0, by rw [e, hv]⟩) (tupK h1) hn1 hn2 hn e1 (fun _ _ => rfl)
    have g5 := gv_item (pos := p8) g4 (gv_int (i := j) (k := k2) (pos := p7)) (fun _ e => e) (fun _ e => e) (tupK h2) hj1 hj2 hj e2 (fun _ _ => rfl)
    exact gv_len (p := p1) (pos := p9) g5 (fun _ e => e) (tupK h3) hfit hk hlen (hmg.keeps kp) hm (hmb.keeps kp) hbv
  refine PySem.W.kla_codeExpr ?_
  cases neg with
  | false =>
    refine key hb _ _ rfl fun u tk ru => ?_
    obtain ⟨t, rfl⟩ := ru
    exact ⟨h₁, tk, rfl, kp, .int _ _⟩
  | true =>
    obtain ⟨p, c, rfl, hc⟩ := hb
    refine gv_neg (key hc) (fun _ e => e) _ _ rfl fun u tk ru => ?_
    obtain ⟨t, rfl⟩ := ru
    exact ⟨h₁, tk, rfl, kp, .int _ _⟩
end
end Mi

set_option Elab.async false
set_option linter.all false
set_option maxRecDepth 100000
namespace Mi
open PySem PySem.Spec L2
section
variable {K : PySem.W.Frag} {P B H H1 : Hp} {σ : L2.St} {env : Env} {fps : Nat → List Addr}
open Classical in
noncomputable def codeB (B H1 : Hp) : Hp := fun a => if ∃ q, H1 a = some (LamX.CodeO a q) then H1 a else B a
theorem Fm.keepN (F : Fm K P B H σ env fps) (x : LamX.ExtN H H1) {a : Addr} {o : HO} (e : B a = some o) : H1 a = some o :=
  x a o (F.sub a o e) fun ps z => F.nbT a ps (by rw [e, z])
/-- tables and code objects alone have changed -/
theorem Fm.lam (F : Fm K P B H σ env fps) (x : LamX.ExtN H H1) (T : LamX.Tabs (tabsOf K) H1) : ∃ B1, Ext P B B1 ∧ Fm K P B1 H1 σ env fps := by
  have sb : Sub B (codeB B H1) := fun a o e => by
    unfold codeB
    split
    · exact F.keepN x e
    · exact e
  have pk : ∀ {a o}, P a = some o → H1 a = some o := fun {a o} e => x a o (F.prt a o e) fun ps z => F.npT a ps (by rw [e, z])
  have same : ∀ {a o}, P a = some o → codeB B H1 a = B a := fun {a o} e => by
    unfold codeB
    split
    · rename_i h
      obtain ⟨q, h⟩ := h
      have z : H a = some (LamX.CodeO a q) := by rw [F.prt a o e, ← h, pk e]
      rw [F.tab.1 a q z, h]
    · rfl
  have own : ∀ {i a}, a ∈ fps i → codeB B H1 a = B a ∧ H1 a = H a := fun {i a} h => by
    have hx : H1 a = H a := by
      cases e : H a with
      | none => exact absurd e (F.dom i a h)
      | some o => exact x a o e fun ps z => F.ownT i a h ps (by rw [e, z])
    refine ⟨?_, hx⟩
    unfold codeB
    split
    · rename_i h2
      obtain ⟨q, h2⟩ := h2
      rw [hx] at h2
      have := F.tab.1 a q h2
      rw [(F.off i a h).1] at this
      cases this
    · rfl
  refine ⟨codeB B H1, ⟨sb, fun a o e => same e⟩, ⟨F.len, fun a o e => ?_, fun a o e => pk e, fun i o e => ?_, F.emp, F.dis, fun i a h => ⟨by rw [(own h).1]; exact (F.off i a h).1, (F.off i a h).2⟩, ⟨fun a q e => ?_, fun p hp => ?_⟩, fun a ps e => ?_, F.npT⟩⟩
  · unfold codeB at e
    split at e
    · exact e
    · exact F.keepN x e
  · obtain ⟨v, e1, r⟩ := F.slot i o e
    exact ⟨v, e1, r.congr sb fun a ha => (own ha).2⟩
  · unfold codeB
    rw [if_pos ⟨q, e⟩]
    exact e
  · obtain ⟨ps, h1, h2, h3⟩ := T p hp
    refine ⟨ps, h1, h2, fun pos cv e => ?_⟩
    obtain ⟨c, e1, e2⟩ := h3 pos cv e
    refine ⟨c, e1, ?_⟩
    unfold codeB
    rw [if_pos ⟨_, e2⟩]
    exact e2
  · unfold codeB at e
    split at e
    · rename_i h
      obtain ⟨q, h⟩ := h
      rw [h] at e
      have := Option.some.inj e
      unfold LamX.CodeO at this
      cases this
    · exact F.nbT a ps e
end
end Mi

set_option Elab.async false
set_option linter.all false
set_option maxRecDepth 100000
namespace Mi
open PySem PySem.Spec L2 PySem.Calls
theorem ix_seq {n : Nat} {i : Int} {k : Nat} (h : ixN n i = some k) : seqIndex? i n = some k := by
  unfold ixN at h
  unfold seqIndex?
  split at h
  · split at h
    · cases h
      rename_i h1 h2
      have e : (if i < 0 then i + (n : Int) else i) = i := if_neg (by omega)
      simp only [e]
      rw [if_pos (by simp; omega)]
    · cases h
  · split at h
    · cases h
      rename_i h1 h2
      have e : (if i < 0 then i + (n : Int) else i) = i + n := if_pos (by omega)
      simp only [e]
      rw [if_pos (by simp; omega)]
    · cases h
theorem ix_bnd {n : Nat} {i : Int} {k : Nat} (h : ixN n i = some k) (hn : n ≤ sizeLine) : -(2 ^ 63) ≤ i ∧ i < 2 ^ 63 ∧ k < n := by
  have e : sizeLine = 16777216 := rfl
  unfold ixN at h
  split at h
  · split at h
    · cases h
      omega
    · cases h
  · split at h
    · cases h
      omega
    · cases h
theorem Vals.at {vs : List V} {us : List Value} (r : Vals vs us) {i : Nat} {v : V} (e : vs[i]? = some v) : ∃ u, us[i]? = some u ∧ RelV v u := r.get e
section
variable {X : Cx} {pins : List (Addr × Obj)} {σ : L2.St} {P B H : Hp} {s : Shared}
/-- a tuple of data in the heap, item by item -/
theorem tup_step (I : Inv X pins σ H s) (sub : Sub B H) {ds : List D} {u : Value} {v : V} (rd : RD X.K B (.tuple ds) v) (ru : RelV v u) : ∃ (t : Addr) (its : Array Value), u = .ref t ∧ PyProof.Rows.IsTup s.heap t its ∧ its.size = ds.length ∧ its.size ≤ sizeLine ∧
    ∀ (i : Int) (d : D), atI ds i = some d → ∃ (k : Nat) (u' : Value) (v' : V), seqIndex? i its.size = some k ∧ -(2 ^ 63) ≤ i ∧ i < 2 ^ 63 ∧ its[k]? = some u' ∧ RelV v' u' ∧ RD X.K B d v' := by
  obtain ⟨a, vs, rfl, hS, r⟩ := Rd1.tuple sub (.inl rd)
  cases ru
  obtain ⟨its, hv, hp, hz⟩ := I.tuple hS
  have hl : vs.length = its.length := hv.length
  have hd : ds.length = vs.length := (RDs.length _ _ r).symm
  refine ⟨a, its.toArray, rfl, hp, by simp; omega, by simp; omega, fun i d e => ?_⟩
  obtain ⟨v', e1, r1⟩ := r.atI e
  unfold atI at e1
  cases q : ixN vs.length i with
  | none => rw [q] at e1; cases e1
  | some k =>
    rw [q] at e1
    obtain ⟨u', e2, r2⟩ := hv.get e1
    have b := ix_bnd q (by omega)
    exact ⟨k, u', v', by rw [List.size_toArray, ← hl]; exact ix_seq q, b.1, b.2.1, by simpa using e2, r2, r1⟩
end
/-! ### the keys -/
def keyOf (neg : Bool) (i j : Int) (hs x : D) : Option Int := match hs, x with
  | .tuple hs, .int n => match atI hs i with
    | some (.tuple rs) => match atI rs n with
      | some (.tuple q) => match atI q j with
        | some (.tuple z) => some (keyI neg z.length)
        | _ => none
      | _ => none
    | _ => none
  | _, _ => none
theorem keyOf_inv {neg : Bool} {i j : Int} {hs x : D} {k : Int} (h : keyOf neg i j hs x = some k) : ∃ hs' n rs q z, hs = .tuple hs' ∧ x = .int n ∧ atI hs' i = some (.tuple rs) ∧ atI rs n = some (.tuple q) ∧ atI q j = some (.tuple z) ∧ k = keyI neg z.length := by
  unfold keyOf at h
  split at h
  · split at h
    · split at h
      · split at h
        · cases h
          exact ⟨_, _, _, _, _, rfl, rfl, by assumption, by assumption, by assumption, rfl⟩
        · cases h
      · cases h
    · cases h
  · cases h
def keysOf (f : D → Option Int) : List D → Option (List (D × Int))
  | [] => some []
  | d :: ds => (f d).bind fun k => (keysOf f ds).map fun r => (d, k) :: r
theorem keysOf_all {f : D → Option Int} : ∀ {ds : List D} {bs : List (D × Int)}, keysOf f ds = some bs → bs.map (·.1) = ds ∧ ∀ p ∈ bs, f p.1 = some p.2
  | [], bs, h => by cases h; simp
  | d :: ds, bs, h => by
    unfold keysOf at h
    cases e : f d with
    | none => rw [e] at h; cases h
    | some k =>
      cases e2 : keysOf f ds with
      | none => rw [e, e2] at h; cases h
      | some r =>
        rw [e, e2] at h
        cases h
        obtain ⟨h1, h2⟩ := keysOf_all e2
        refine ⟨by simp [h1], fun p hp => ?_⟩
        rcases List.mem_cons.mp hp with rfl | hp
        · exact e
        · exact h2 p hp
def sortK (bs : List (D × Int)) : List D := (bs.mergeSort (PySem.W.dataLe false fun p => PyData.int p.2)).map (·.1)
/-- sorted(e, key=lambda x: ..) -/
def mSortK (neg : Bool) (jc : Nat) (i j : Int) (m : M Rv) : M Rv := bnd (vm m) fun r env => match res env r, env[jc]? with
  | some (.list xs), some (some (.dat hs)) => match keysOf (keyOf neg i j hs) xs with
    | some bs => if xs.length ≤ sizeLine then .ok (.own (.lst (sortK bs))) env else .stuck
    | none => .stuck
  | _, _ => .stuck
/-- v stands for data -/
def RV (K : PySem.W.Frag) (B : Hp) (v : Value) (p : D × Int) : Prop := ∃ w : V, RelV w v ∧ RD K B p.1 w
theorem each_of {K : PySem.W.Frag} {B : Hp} : ∀ {bs : List (D × Int)} {vs : List V} {us : List Value}, RDs K B (bs.map (·.1)) vs → Vals vs us → PySem.W.EachIs (RV K B) us bs
  | [], _, _, .nil, .nil => .nil
  | p :: bs, _, _, .cons r t, .cons v q => .cons ⟨_, v, r⟩ (each_of t q)
theorem each_to {K : PySem.W.Frag} {B : Hp} : ∀ {bs : List (D × Int)} {us : List Value}, PySem.W.EachIs (RV K B) us bs → ∃ vs, Vals vs us ∧ RDs K B (bs.map (·.1)) vs
  | _, _, .nil => ⟨[], .nil, .nil⟩
  | _, _, .cons ⟨w, h1, h2⟩ t => by
    obtain ⟨vs, q1, q2⟩ := each_to t
    exact ⟨w :: vs, .cons h1 q1, .cons h2 q2⟩
end Mi

set_option Elab.async false
set_option linter.all false
set_option maxRecDepth 100000
namespace Mi
open PySem PySem.Spec L2 PySem.Calls
/-- the lambda's text: one parameter, one captured name -/
structure LamT (sc : Scope) (params : Arguments) (body : Expr) (scope : Scope) (cap prm : Str) (neg : Bool) (i j : Int) : Prop where
  h_dfl : params.defaults = [] ∧ ∀ env : PySem.Env, defaultsOf params env = ([], [])
  h_kind : scope.kind = .function
  h_co : scope.isCoroutine = false
  h_gen : scope.isGenerator = false
  h_nocell : ∀ x ∈ scope.names, x.2 ≠ .cell
  h_prm : scope.names.lookup prm = some .local
  h_cap : scope.names.lookup cap = some .free
  h_free : ∀ y ∈ scope.names, y.2 = .free → y.1 = cap
  h_len : scope.names.lookup (Str.ofString "len") = some .globalImplicit
  h_own : sc.names.lookup cap = some .cell
  h_bind : ∀ (qual : Str) (cl : List (Str × Addr)) (pm cd ct v : Value), bindArgs (PySem.W.kla_fn "<lambda>" qual params body scope cl pm cd ct) ⟨[v], []⟩ = pure [(prm, v)]
  h_dp : (prm == ("__debug__" : Str)) = false
  h_dc : (cap == ("__debug__" : Str)) = false
  h_cc : (cap == ("__classdict__" : Str)) = false
  h_key : keyE neg body cap prm i j
theorem keyE_t {b : Expr} {cap prm : Str} {i j : Int} (h : ∃ p c, b = .UnaryOp .USub c p ∧ keyC c cap prm i j) : keyE true b cap prm i j := h
theorem keyE_f {b : Expr} {cap prm : Str} {i j : Int} (h : keyC b cap prm i j) : keyE false b cap prm i j := h
/-- the def's code object and its table -/
structure LamH (X : Cx) : Prop where
  code : ∃ c P, LamX.TabB X.base X.mg c P ∧ X.env.code = .ref c ∧ (P, X.env.qual ++ "<lambda>") ∈ tabsOf X.K ∧ ∀ p ∈ tabsOf X.K, p.1 = P → p.2 = X.env.qual ++ "<lambda>"
section
variable {X : Cx} {cl : String → Addr} {E : XK} {a : Expr} {m : M Rv} {cap prm : Str} {params : Arguments} {body : Expr} {scope : Scope} {neg : Bool} {i j : Int} {jc : Nat} {p pos lpos kpos : Pos}
theorem tabs_of {K : PySem.W.Frag} {B H : Hp} (sub : Sub B H) (h : TabF K B H) : LamX.Tabs (tabsOf K) H := fun p hp => by
  obtain ⟨ps, h1, h2, h3⟩ := h.2 p hp
  exact ⟨ps, h1, h2, fun pos cv e => by
    obtain ⟨c, e1, e2⟩ := h3 pos cv e
    exact ⟨c, e1, sub _ _ e2⟩⟩
/-- the lambda's call as a key -/
theorem key_run {pins : List (Addr × Obj)} {σ : L2.St} {P B H : Hp} {s : Shared} {env : Env} {fps : Nat → List Addr} {A : Around} {f c' : Addr} {pm ctv : Value} {hs : D} {v : Value} {q : D × Int} (I : Inv X pins σ H s) (F : Fm X.K P B H σ env fps)
    (L : LamT X.env.scope params body scope cap prm neg i j) (hN : X.N[jc]? = some cap) (hj : env[jc]? = some (some (.dat hs))) (hm : X.mg "len" = none)
    (hf : s.heap.get? f = some (PySem.W.kla_obj "<lambda>" (X.env.qual ++ "<lambda>") params body scope (cloFrom X.env.cells scope.names []) pm c' ctv)) (hc : H c' = some (LamX.CodeO c' (X.env.qual ++ "<lambda>")))
    (hroom : A.depth < recursionLimit) (hv : RV X.K B v q) (hk : keyOf neg i j hs q.1 = some q.2) (h : Heap) (tk : Nat) (kp : ∀ b o, s.heap.get? b = some o → h.get? b = some o) :
    wpAny (model X.prog X.w) A (call (.ref f) [v]) (PySem.W.KeyPure (.int q.2) { s with heap := h, toks := tk }) (fun _ _ => False) { s with heap := h, toks := tk } := by
  obtain ⟨hs', n, rs, z2, z3, rfl, e1, a0, a1, a2, e2⟩ := keyOf_inv hk
  obtain ⟨w, hw1, hw2⟩ := hv
  rw [e1] at hw2
  cases hw2
  obtain ⟨tk0, rfl⟩ := hw1
  -- the captured value
  obtain ⟨vh, sh, rh⟩ := F.slot jc _ hj
  have rh := rh.dat_inv.1
  obtain ⟨mm, hn, hl⟩ := I.loc
  obtain ⟨u, ru, l⟩ := hl jc cap vh hN sh (.inr (.inl L.h_own))
  have lc : ∃ c, X.env.cells.lookup cap = some c ∧ s.heap.IsCell c (some u) := by
    rcases l with ⟨k, _⟩ | ⟨_, c, e, z⟩
    · have := L.h_own
      rw [show X.env.scope.names.lookup cap = some .local from k] at this
      cases this
    · exact ⟨c, e, z⟩
  obtain ⟨cc, hcc, hcell⟩ := lc
  obtain ⟨th, its0, rfl, t0, _, _, g0⟩ := tup_step I F.sub rh ru
  obtain ⟨k0, u0, w0, i1, i2, i3, i4, i5, r0⟩ := g0 _ _ a0
  obtain ⟨tr, its1, rfl, t1, _, _, g1⟩ := tup_step I F.sub r0 i5
  obtain ⟨k1, u1, w1, n1, n2, n3, n4, n5, r1⟩ := g1 _ _ a1
  obtain ⟨t2, its2, rfl, h2, _, _, g2⟩ := tup_step I F.sub r1 n5
  obtain ⟨k2, u2, w2, j1, j2, j3, j4, j5, r2⟩ := g2 _ _ a2
  obtain ⟨t3, its3, rfl, h3, sz, hz, _⟩ := tup_step I F.sub r2 j5
  have clo : (cloFrom X.env.cells scope.names []).lookup cap = some cc := by
    have hy : (cap, NameKind.free) ∈ scope.names := PySem.mem_of_lookup L.h_cap
    obtain ⟨c2, h2⟩ := mem_lookup (cloFrom_has (cells := X.env.cells) (acc := []) hy)
    rcases cloFrom_mem (PySem.mem_of_lookup h2) with hm | ⟨_, h3⟩
    · cases hm
    · rw [h2, h3, hcc]; rfl
  have rec_ : h.CodeRec (.ref c') (X.env.qual ++ "<lambda>") := by
    obtain ⟨c, oc, vs, t, e1, e2, e3, e4⟩ := NdefX.codeO_at I.hok hc
    exact ⟨c, oc, vs, t, e1, kp _ _ e2, e3, e4⟩
  have hcell2 : h.IsCell cc (some (.ref th)) := by
    obtain ⟨o, ho, hd⟩ := hcell
    exact ⟨o, kp _ _ ho, hd⟩
  obtain ⟨mb, hb1, hb2⟩ := I.mod.blt
  have kq : q.2 = keyI neg its3.size := by rw [e2, sz]
  rw [kq]
  have hz' : sizeLine = 16777216 := rfl
  refine lam_key (s := { s with heap := h, toks := tk }) (kp _ _ hf) rec_ hroom (I.nolimit.keeps kp) (L.h_bind _ _ _ _ _ _) L.h_kind L.h_co L.h_gen L.h_nocell L.h_prm L.h_cap L.h_len L.h_dp L.h_dc L.h_cc clo hcell2 L.h_key ((I.mod.glob.keeps I.bk).keeps kp) hm ((hb1.keeps I.bk).keeps kp) (by rw [hb2 "len" (by decide)]; rfl)
    rfl (t0.keeps kp) i1 i2 i3 i4 (t1.keeps kp) n1 n2 n3 n4 (h2.keeps kp) j1 j2 j3 j4 (h3.keeps kp) (by omega)
theorem bs_ints {bs : List (D × Int)} : PySem.W.AllAlike (bs.map fun p => PyData.int p.2) ∧ PySem.W.Sortable (bs.map fun p => PyData.int p.2) := by
  constructor
  · intro d hd d' hd'
    obtain ⟨x, _, rfl⟩ := List.mem_map.mp hd
    obtain ⟨y, _, rfl⟩ := List.mem_map.mp hd'
    rfl
  · refine .inr fun d hd => ?_
    obtain ⟨x, _, rfl⟩ := List.mem_map.mp hd
    exact ⟨fun h => (by cases h), fun xs h => (by cases h)⟩
/-- the lambda is made, then what comes on -/
theorem lam_then {pins : List (Addr × Obj)} {σ : L2.St} {P B H : Hp} {s : Shared} {env : Env} {fps : Nat → List Addr} {R : Value → Shared → Prop} (I : Inv X pins σ H s) (F : Fm X.K P B H σ env fps) (L : LamT X.env.scope params body scope cap prm neg i j) (LH : LamH X)
    (h : ∀ (f c' : Addr) (pm ctv : Value) (B1 H1 : Hp) (s' : Shared), Inv X pins σ H1 s' → Ext P B B1 → Fm X.K P B1 H1 σ env fps → s'.heap.get? f = some (PySem.W.kla_obj "<lambda>" (X.env.qual ++ "<lambda>") params body scope (cloFrom X.env.cells scope.names []) pm c' ctv) →
      H1 c' = some (LamX.CodeO c' (X.env.qual ++ "<lambda>")) → R (.ref f) s') : wpAny (model X.prog X.w) X.A (eval (.Lambda params body scope lpos) X.env) R X.xe s := by
  obtain ⟨c, Pt, TB, hcode, hm, hu⟩ := LH.code
  refine LamX.lam_make2 I TB hcode hm hu (tabs_of F.sub F.tab) (L.h_dfl.2 _) (fun y hy e => ?_) fun f c' pm ctv H1 s' I1 x1 T1 hof hfn hfr hco => ?_
  · rw [L.h_free y hy e]
    exact I.ok.has _ (.inl L.h_own)
  · obtain ⟨B1, x2, F1⟩ := F.lam x1 T1
    exact h f c' pm ctv B1 H1 s' I1 x2 F1 hof hco
theorem de_sortK (hg : Gl X "sorted") (hm : X.mg "sorted" = none) (hml : X.mg "len" = none) (hu : X.A.units + 64 < cLine) (hroom : X.A.depth < recursionLimit) (ha : DE X cl E a m) (L : LamT X.env.scope params body scope cap prm neg i j) (LH : LamH X) (hN : X.N[jc]? = some cap)
    (hst : starEach [a] X.env = (false, eval a X.env) :: starEach [] X.env := by rfl) :
    DE X cl E (.Call (.Name "sorted" p) [a] [⟨some "key", .Lambda params body scope lpos, kpos⟩] pos) (mSortK neg jc i j m) := by
  refine ⟨fun pins s σ H Q I h => ?_⟩
  obtain ⟨P, B, env, fps, F, h⟩ := h
  refine wpAny_Call_Name_kw (ld_blt (u := .builtin "sorted") I hg hm (by decide +kernel) ?_)
  refine PyProof.Rows.callWith_kw ?_ (by rw [show backTo pos (starEach [a] X.env) = (false, eval a X.env) :: backTo pos (starEach [] X.env) by rw [hst]; rfl]) (by rw [hst]; rfl)
  rw [hst]
  show wpAny _ _ (spliced ((false, eval a X.env) :: backTo pos (starEach [] X.env))) _ _ s
  refine Calls.spliced_cons (thn (ha.run pins s σ H _ I ⟨P, B, env, fps, F, post_vm h⟩) fun u s1 ⟨v, H1, I1, r1, B1, env1, fps1, q1, x1, F1, w1, h1⟩ => Calls.spliced_nil ?_)
  show wpAny _ _ (evalAll [do let v ← eval (.Lambda params body scope lpos) X.env; standAt pos; pure v]) _ _ s1
  refine wpAny_evalAll_cons (wpAny_bind (lam_then I1 F1 L LH fun f c' pm ctv B2 H2 s2 I2 x2 F2 hof hco => wpAny_bind (wpAny_standAt (wpAny_pure (wpAny_evalAll_nil ?_)))))
  show wpAny _ _ (call (.builtin "sorted") [u] [("key", .ref f)]) _ _ s2
  have h1 := PostE.ext x2 h1
  split at h1
  · rename_i xs hs e1 e2
    split at h1
    · rename_i bs eb
      split at h1
      · rename_i hz
        obtain ⟨l, vs, rfl, hS, rds⟩ := (F2.res (w1.mono x2.1) e1).list F2.sub
        cases r1
        obtain ⟨its, hvals, hp, _⟩ := I2.list hS
        obtain ⟨eb1, eb2⟩ := keysOf_all eb
        rw [← eb1] at rds
        have hlen : bs.length = xs.length := by rw [← eb1, List.length_map]
        refine PySem.W.sorted_key_data (R := RV X.K B2) (bs := bs) (b := false) (fun q : D × Int => PyData.int q.2) hp.isList (each_of rds hvals) bs_ints.1 bs_ints.2 (by rw [hlen]; exact hz) (fun x _ => ?_) ?_ (fun x => ?_) (fun x => rfl)
          (fun v x hv hx h tk kp => ?_) fun out c h' tk kp _ hnew hol he => ?_
        · show X.A.units + 2 + 0 < cLine
          omega
        · exact PyProof.Rows.ksk_s1 _ _
        · exact PyProof.Rows.ksk_l1 _ _
        · exact key_run (A := X.A.in1.in1) I2 F2 L hN e2 hml hof hco hroom hv (eb2 x hx) h tk kp
        · obtain ⟨vs', hv', rds'⟩ := each_to he
          exact new_list (s' := { s2 with heap := h', toks := tk }) I2 F2 kp rfl rfl (Nat.le_succ _) hnew hv' rds' (by rw [hv'.length, hol, hlen]; exact hz) h1
      · exact h1.elim
    · exact h1.elim
  · exact h1.elim
end
end Mi

set_option Elab.async false
set_option linter.all false
set_option maxRecDepth 100000
namespace Mi
open PySem PySem.Spec L2
/-- a def's words, with the code object that stands in K -/
theorem fn_byC {P : Program} {w : World} {K : PySem.W.Frag} {mg : Str → Option Value} {base : Heap} {CXc : CXT} {x qual : Str} {params : Arguments} {body : List Stmt} {scope : Scope} {f : Addr} {fd : FuncData} {N ps : List Str} {k n : Nat} {cl : String → Addr} {io : List Nat} {m : M Fl}
    (F : FunD K x qual params body scope [] [] f fd) (S : FnScope N ps scope) (hn : ps.length = n) (hio : ∀ i ∈ io, i < n)
    (hbody : ∀ (cdv : Value) (A : Around) (outer : List PySem.Env) (s : Shared) (H : Hp) (E : XK), (∃ oc od osl, K.lookup f = some ⟨oc, od, .func fd, osl⟩ ∧ fd.code = cdv ∧ PySem.W.codeIn K cdv qual = true) → Room k (A.deeper (PyProof.Rows.envOfC qual scope s.heap.objs.size f cdv)) →
      DSs (cxOf CXc P w K mg base N qual scope f cdv A outer s H E) cl E io body m) : FnOk P w K mg base CXc (k + 1) f fd ps (spF K cl n io (runF N.length m)) := by
  obtain ⟨oc, od, dV, kV, doc, pm, an, cdv0, ct, osl, rfl, lk, hcd, _, _⟩ := F.ex
  refine fn_of lk hcd S (fun vs H Q E h => by rw [hn]; exact h.1) fun A outer s H vs Q E hr h => ⟨_, hbody cdv0 A outer s H E ⟨oc, od, osl, lk, rfl, hcd⟩ hr, ?_⟩
  obtain ⟨hl, P', B, os, fps, F1, h⟩ := h
  refine ⟨P', B, _, fps, F1.start, ?_⟩
  have same : ∀ {σ' : L2.St}, SameIo io (L2.start N vs) σ' → ∀ i ∈ io, σ'[i]? = (vs.map some)[i]? := fun {σ'} s i hi => by
    rw [s i hi]
    unfold L2.start
    rw [List.getElem?_append_left (by rw [List.length_map, hl]; exact hio i hi)]
  unfold runF at h
  cases q : m (os ++ List.replicate (N.length - os.length) none) with
  | ok fl env =>
    rw [q] at h
    cases fl with
    | rt o =>
      intro σ' H' B' fps' x F' s v fp r off
      exact h v H' B' fps' σ' fp x F' (same s) r off
    | nx =>
      intro σ' H' B' fps' x F' s
      exact h .non H' B' fps' σ' [] x F' (same s) (.dat .non) fun a ha => by simp at ha
    | bk => exact h.elim
    | ct => exact h.elim
  | ex c env =>
    rw [q] at h
    intro σ' H' B' fps' x F' s
    exact h H' B' fps' σ' x F' (same s)
  | stuck => rw [q] at h; exact h.elim
/-- what a def with a lambda asks of its code object's table -/
structure LamB (K : PySem.W.Frag) (mg : Str → Option Value) (base : Heap) (x : Str) : Prop where
  tb : LamX.TabB base mg (He.cT K (x, none)).1 (He.cT K (x, none)).2
  tm : ((He.cT K (x, none)).2, lamQ x) ∈ tabsOf K
  tu : ∀ p ∈ tabsOf K, ∀ q ∈ tabsOf K, p.1 = q.1 → p.2 = q.2
  ga : mg x = some (.ref (He.fAd K (x, none)))
section
variable {P : Program} {w : World} {K : PySem.W.Frag} {mg : Str → Option Value} {base : Heap} {cl : String → Addr} {x : Str} {ps N : List Str} {st : Stmt} {k n : Nat} {io : List Nat} {m : M Fl} {F : M O}
abbrev BdC (P : Program) (w : World) (K : PySem.W.Frag) (mg : Str → Option Value) (base : Heap) (cl : String → Addr) (k : Nat) (x : Str) (N : List Str) (io : List Nat) (st : Stmt) (m : M Fl) : Prop :=
  ∀ (f : Addr) (A : Around) (outer : List PySem.Env) (s : Shared) (H : Hp) (E : XK), Room k (A.deeper (PyProof.Rows.envOfC x (defScope st) s.heap.objs.size f (.ref (He.cT K (x, none)).1))) →
    DSs (cxOf (L2.CX P w) P w K mg base N x (defScope st) f (.ref (He.cT K (x, none)).1) A outer s H E) cl E io (defBody st) m
theorem has_byC (d : DefAt K mg x ps st) (S : FnScope N ps (defScope st)) (hn : ps.length = n) (hio : ∀ i ∈ io, i < n) (lb : LamB K mg base x) (hb : BdC P w K mg base cl k x N io st m) : Has P w K mg base cl (k + 1) x ps n io (runF N.length m) := by
  obtain ⟨f, fd, h1, h2, h3⟩ := d
  have ef : f = He.fAd K (x, none) := by
    have := h1.symm.trans lb.ga
    cases this
    rfl
  refine ⟨f, fd, h1, h2.kp, h3, fn_byC h2 S hn hio fun cdv A outer s H E hc hr => ?_⟩
  obtain ⟨oc, od, osl, lk, rfl, hcd⟩ := hc
  obtain ⟨c, ec⟩ := He.codeIn_ref hcd
  have e1 : (He.cT K (x, none)).1 = c := He.codeOf_eq (by rw [← ef]; exact lk) ec
  have e2 : fd.code = .ref (He.cT K (x, none)).1 := by rw [ec, e1]
  rw [e2] at hr ⊢
  exact hb f A outer s H E hr
/-- in the def's own context a lambda may be made -/
theorem lamH_of' {f c Pt : Addr} {A : Around} {outer : List PySem.Env} {s : Shared} {H : Hp} {E : XK} {q : Str} (tb : LamX.TabB base mg c Pt) (tm : (Pt, q) ∈ tabsOf K) (tu : ∀ p ∈ tabsOf K, ∀ q ∈ tabsOf K, p.1 = q.1 → p.2 = q.2)
    (hq : (cxOf (L2.CX P w) P w K mg base N x (defScope st) f (.ref c) A outer s H E).env.qual ++ Str.ofString "<lambda>" = q) : LamH (cxOf (L2.CX P w) P w K mg base N x (defScope st) f (.ref c) A outer s H E) := by
  refine ⟨c, Pt, tb, rfl, ?_, ?_⟩
  · rw [hq]
    exact tm
  · rw [hq]
    exact fun p hp e => tu p hp _ tm e
end
/-- a whole number among the module's names -/
theorem de_globI {X : Cx} {cl : String → Addr} {E : XK} {x : Str} {pos : Pos} {i : Int} (hg : Gl X x) (hm : ∃ t, X.mg x = some (.int i t)) (hd : (x == ("__debug__" : Str)) = false := by decide) : DE X cl E (.Name x pos) (mC (.int i)) := by
  obtain ⟨t, hm⟩ := hm
  exact de_glob (v := .int i) hg hm ⟨t, rfl⟩ (.int i) hd
end Mi

set_option Elab.async false
set_option linter.all false
set_option maxRecDepth 100000
namespace Mi
open PySem PySem.Spec L2 PySem.Calls
def keyAt (bs : List (D × Int)) (a : Nat) : Int := (bs[a]?.map (·.2)).getD 0
def maxK (bs : List (D × Int)) : D := match bs[argBest (fun a b => decide (keyAt bs b < keyAt bs a)) (bs.length - 1)]? with
  | some p => p.1
  | none => .none
/-- max(e, key=lambda x: .., default=None) -/
def mMaxK (neg : Bool) (jc : Nat) (i j : Int) (m : M Rv) : M Rv := bnd (vm m) fun r env => match res env r, env[jc]? with
  | some (.list xs), some (some (.dat hs)) => match keysOf (keyOf neg i j hs) xs with
    | some bs => if xs.length ≤ sizeLine then .ok (.d (maxK bs)) env else .stuck
    | none => .stuck
  | _, _ => .stuck
section
variable {prog : Program} {w : World} {A : Around} {E : Value → Shared → Prop}
/-- all of h stands, and nothing but the heap and the tokens is another -/
def Kp (s s' : Shared) : Prop := (∀ b o, s.heap.get? b = some o → s'.heap.get? b = some o) ∧ s'.gens = s.gens ∧ s'.drawn = s.drawn ∧ s'.os = s.os
theorem Kp.eta {s s' : Shared} (h : Kp s s') : s' = { s with heap := s'.heap, toks := s'.toks } := by
  obtain ⟨_, h1, h2, h3⟩ := h
  cases s'
  cases s
  cases h1
  cases h2
  cases h3
  rfl
theorem max_run {s : Shared} {l q : Addr} {vs : List Value} {Q : Value → Shared → Prop} (kf : Nat → Int) (hh : A.handled = none) (hl : s.heap.IsList l vs.toArray)
    (turn : ∀ i v, vs[i]? = some v → ∀ (h : Heap) (tk : Nat), (∀ b o, s.heap.get? b = some o → h.get? b = some o) →
      wpAny (model prog w) A.in1 (call (.ref q) [v]) (PySem.W.KeyPure (.int (kf i)) { s with heap := h, toks := tk }) (fun _ _ => False) { s with heap := h, toks := tk })
    (h0 : vs = [] → ∀ s', Kp s s' → Q .none s') (hQ : ∀ v, vs[argBest (fun i j => decide (kf i > kf j)) (vs.length - 1)]? = some v → 0 < vs.length → ∀ s', Kp s s' → Q v s') :
    wpAny (model prog w) A (call (.builtin "max") [.ref l] [(Str.ofString "key", .ref q), (Str.ofString "default", .none)]) Q E s := by
  have hsz : vs.toArray.size = vs.length := List.size_toArray ..
  obtain ⟨ol, hol, _⟩ := id hl
  have hll : l < s.heap.objs.size := Heap.lt_size hol
  have fr : ∀ {b o}, s.heap.get? b = some o → b ≠ s.heap.objs.size ∧ b ≠ s.heap.objs.size + 1 := fun {b o} e => by
    have := Heap.lt_size e
    exact ⟨Nat.ne_of_lt this, Nat.ne_of_lt (Nat.lt_succ_of_lt this)⟩
  refine call_max_walkKD (wpAny_pyIter_list hl ?_)
  have szp : (s.heap.push { cls := .type "list_iterator", data := .fields #[.ref l, .int 0 0] }).objs.size = s.heap.objs.size + 1 := by simp [Heap.push]
  have W := (Walks.list (prog := prog) (w := w) (A := A.in1) hh s.heap.objs.size l (Nat.ne_of_lt hll) vs.toArray).toS
  refine ⟨s.heap.objs.size, _, _, _, _, _, _, Kp s, fun i k _ => ∃ t, k = .int (kf i) t, fun i j => decide (kf i > kf j), rfl, W, ?_, ?_, ?_, ?_, ?_, ?_⟩
  · exact ⟨⟨_, Heap.get?_push_size _ rfl, rfl, rfl⟩, hl.at fun o e => Heap.get?_push_of_some _ e⟩
  · intro b hb
    simp only [List.mem_cons, List.not_mem_nil, or_false] at hb
    show b < (s.heap.push { cls := .type "list_iterator", data := .fields #[.ref l, .int 0 0] }).objs.size
    rw [szp]
    rcases hb with rfl | rfl
    · exact Nat.lt_succ_self _
    · exact Nat.lt_succ_of_lt hll
  · show KeyRun prog w A.in1 (.ref q) .Gt (s.heap.push { cls := .type "list_iterator", data := .fields #[.ref l, .int 0 0] }).objs.size _ _ _ _ _ _ _ _
    rw [szp]
    refine ⟨fun s1 s2 hJ m => ⟨fun b o e => m.heap b o ?_ (hJ.1 b o e), m.gens.trans hJ.2.1, m.drawn.trans hJ.2.2.1, m.os.trans hJ.2.2.2⟩, fun _ _ _ _ h _ => h, ?_, ?_⟩
    · have := fr e
      simp only [List.mem_cons, List.not_mem_nil, or_false]
      rintro (h | h)
      · exact this.2 h
      · exact this.1 h
    · intro i v s1 o Q1 E1 hi hP hJ hSt hS hq
      have hv : vs[i]? = some v := by simpa using hP
      rw [hJ.eta]
      refine wpAny_mono (turn i v hv s1.heap s1.toks hJ.1) (fun k s2 hk => ?_) fun _ _ hF => hF.elim
      obtain ⟨h', tk, rfl, kp, rd⟩ := hk
      have hkk : ∃ t, k = .int (kf i) t := by
        cases rd with
        | int _ t => exact ⟨t, rfl⟩
      refine hq k _ ⟨fun b o e => kp b o (hJ.1 b o e), rfl, rfl, rfl⟩ ⟨hSt.1.at fun o e => kp _ _ e, hSt.2.at fun o e => kp _ _ e⟩ (kp _ _ hS) hkk fun _ _ h => h
    · intro i j ki kj s1 Q1 E1 _ hi hj h
      exact CmpOf.ints_gt (prog := prog) (w := w) (A := A.in1) (P := fun i v => ∃ t, v = .int (kf i) t) kf (fun i v h => h) i j ki kj s1 Q1 E1 hi hj h
  · exact ⟨fun b o e => Heap.get?_push_of_some _ e, rfl, rfl, rfl⟩
  · intro hn s' hJ
    rw [hsz] at hn
    exact h0 (List.length_eq_zero_iff.mp hn) s' hJ
  · intro hn v s' hP hJ
    rw [hsz] at hn hP
    exact hQ v (by simpa using hP) hn s' hJ
end
section
variable {X : Cx} {cl : String → Addr} {E : XK} {a : Expr} {m : M Rv} {cap prm : Str} {params : Arguments} {body : Expr} {scope : Scope} {neg : Bool} {i j : Int} {jc : Nat} {p pos lpos kpos kpos2 npos : Pos} {nk : Nat}
theorem vals_len {vs : List V} {us : List Value} (h : Vals vs us) : vs.length = us.length := h.length
theorem de_maxK (hg : Gl X "max") (hm : X.mg "max" = none) (hml : X.mg "len" = none) (hh : X.A.handled = none) (hroom : X.A.depth < recursionLimit) (ha : DE X cl E a m) (L : LamT X.env.scope params body scope cap prm neg i j) (LH : LamH X) (hN : X.N[jc]? = some cap)
    (hst : starEach [a] X.env = (false, eval a X.env) :: starEach [] X.env := by rfl) :
    DE X cl E (.Call (.Name "max" p) [a] [⟨some "key", .Lambda params body scope lpos, kpos⟩, ⟨some "default", .Constant .none nk npos, kpos2⟩] pos) (mMaxK neg jc i j m) := by
  refine ⟨fun pins s σ H Q I h => ?_⟩
  obtain ⟨P, B, env, fps, F, h⟩ := h
  refine wpAny_Call_Name_kw (ld_blt (u := .builtin "max") I hg hm (by decide +kernel) ?_)
  refine PyProof.Rows.callWith_kw ?_ (by rw [show backTo pos (starEach [a] X.env) = (false, eval a X.env) :: backTo pos (starEach [] X.env) by rw [hst]; rfl]) (by rw [hst]; rfl)
  rw [hst]
  show wpAny _ _ (spliced ((false, eval a X.env) :: backTo pos (starEach [] X.env))) _ _ s
  refine Calls.spliced_cons (thn (ha.run pins s σ H _ I ⟨P, B, env, fps, F, post_vm h⟩) fun u s1 ⟨v, H1, I1, r1, B1, env1, fps1, q1, x1, F1, w1, h1⟩ => Calls.spliced_nil ?_)
  show wpAny _ _ (evalAll [do let v ← eval (.Lambda params body scope lpos) X.env; standAt pos; pure v, do let v ← eval (.Constant .none nk npos) X.env; standAt pos; pure v]) _ _ s1
  refine wpAny_evalAll_cons (wpAny_bind (lam_then I1 F1 L LH fun f c' pm ctv B2 H2 s2 I2 x2 F2 hof hco => wpAny_bind (wpAny_standAt (wpAny_pure ?_))))
  refine wpAny_evalAll_cons (wpAny_bind (PyProof.Rows.Constant_none (wpAny_bind (wpAny_standAt (wpAny_pure (wpAny_evalAll_nil ?_))))))
  show wpAny _ _ (call (.builtin "max") [u] [(Str.ofString "key", .ref f), (Str.ofString "default", .none)]) _ _ s2
  have h1 := PostE.ext x2 h1
  split at h1
  · rename_i xs hs e1 e2
    split at h1
    · rename_i bs eb
      split at h1
      · rename_i hz
        obtain ⟨l, vs, rfl, hS, rds⟩ := (F2.res (w1.mono x2.1) e1).list F2.sub
        cases r1
        obtain ⟨its, hvals, hp, _⟩ := I2.list hS
        obtain ⟨eb1, eb2⟩ := keysOf_all eb
        have hlen : bs.length = xs.length := by rw [← eb1, List.length_map]
        have hl2 : bs.length = its.length := by rw [hlen, ← RDs.length _ _ rds, vals_len hvals]
        have fin : ∀ (d : D) (v : V) (u : Value) (s' : Shared), maxK bs = d → RD X.K B2 d v → RelV v u → Kp s2 s' → EP X pins σ Q u s' := fun d v u s' ed rd ru k => by
          rw [k.eta]
          subst ed
          exact ⟨v, H2, I2.kept k.1, ru, ret_d F2 rd h1⟩
        refine max_run (keyAt bs) hh hp.isList (fun t v hv h tk kp => ?_) (fun hn s' k => ?_) (fun v hv hpos s' k => ?_)
        · have ht : t < bs.length := by
            rw [hl2]
            exact (List.getElem?_eq_some_iff.mp hv).1
          have ek : keyAt bs t = bs[t].2 := by
            unfold keyAt
            rw [List.getElem?_eq_getElem ht]
            rfl
          rw [ek]
          have hvs : t < vs.length := by rw [vals_len hvals, ← hl2]; exact ht
          obtain ⟨u2, hu2, ru2⟩ := hvals.get (List.getElem?_eq_getElem hvs)
          rw [hv] at hu2
          cases hu2
          have hx : t < xs.length := by rw [← hlen]; exact ht
          have ex : xs[t]? = some bs[t].1 := by
            rw [← eb1, List.getElem?_map, List.getElem?_eq_getElem ht]
            rfl
          obtain ⟨w2, hw2, rw2⟩ := RDs.get rds ex
          rw [List.getElem?_eq_getElem hvs] at hw2
          cases hw2
          exact key_run (A := X.A.in1) I2 F2 L hN e2 hml hof hco hroom ⟨_, ru2, rw2⟩ (eb2 _ (List.getElem_mem ht)) h tk kp
        · have hb : bs = [] := List.length_eq_zero_iff.mp (by rw [hl2, hn]; rfl)
          exact fin .none .non .none s' (by rw [hb]; rfl) .non rfl k
        · have ht : argBest (fun a b => decide (keyAt bs a > keyAt bs b)) (its.length - 1) < bs.length := by
            rw [hl2]
            exact (List.getElem?_eq_some_iff.mp hv).1
          have hvs : argBest (fun a b => decide (keyAt bs a > keyAt bs b)) (its.length - 1) < vs.length := Nat.lt_of_lt_of_eq ht (hl2.trans (vals_len hvals).symm)
          obtain ⟨u2, hu2, ru2⟩ := hvals.get (List.getElem?_eq_getElem hvs)
          rw [hv] at hu2
          cases hu2
          have ex : xs[argBest (fun a b => decide (keyAt bs a > keyAt bs b)) (its.length - 1)]? = some bs[argBest (fun a b => decide (keyAt bs a > keyAt bs b)) (its.length - 1)].1 := by
            rw [← eb1, List.getElem?_map, List.getElem?_eq_getElem ht]
            rfl
          obtain ⟨w2, hw2, rw2⟩ := RDs.get rds ex
          rw [List.getElem?_eq_getElem hvs] at hw2
          cases hw2
          refine fin _ _ _ s' ?_ rw2 ru2 k
          have e9 : ∀ n, n = its.length → (match bs[argBest (fun a b => decide (keyAt bs b < keyAt bs a)) (n - 1)]? with
              | some p => p.1
              | none => .none) = bs[argBest (fun a b => decide (keyAt bs a > keyAt bs b)) (its.length - 1)].1 := by
            rintro n rfl
            rw [List.getElem?_eq_getElem ht]
          exact e9 _ hl2
      · exact h1.elim
    · exact h1.elim
  · exact h1.elim
end
end Mi

set_option Elab.async false
set_option linter.all false
set_option maxRecDepth 100000
namespace Mi
open PySem PySem.Spec L2
/-! ### the head with tables -/
theorem hasG_glo {K : PySem.W.Frag} {x : Str} (h : (He.Fa.glo x).ok K = true) : hasG K x = true := by
  have e := He.eqO_ok (show He.eqO (PySem.W.nsIn K mainGlobals x) (some (some (.ref (He.ga K x)))) = true from h)
  unfold hasG
  rw [e]
theorem hasG_free {K : PySem.W.Frag} {x : Str} (h : (He.Fa.free x).ok K = true) : hasG K x = false := by
  have e := He.eqO_ok (show He.eqO (PySem.W.nsIn K mainGlobals x) (some none) = true from h)
  unfold hasG
  rw [e]
theorem tabsOf_three {K : PySem.W.Frag} {b1 b2 b3 : Bool} (h1 : hasG K "all_by" = b1) (h2 : hasG K "_law_found" = b2) (h3 : hasG K lam3 = b3) :
    tabsOf K = (if b1 = true then [((He.cT K (("all_by" : Str), none)).2, lamQ "all_by")] else []) ++ ((if b2 = true then [((He.cT K (("_law_found" : Str), none)).2, lamQ "_law_found")] else []) ++ (if b3 = true then [((He.cT K (lam3, none)).2, lamQ lam3)] else [])) := by
  unfold tabsOf lamDefs
  generalize lam3 = z at h3 ⊢
  cases b1 <;> cases b2 <;> cases b3 <;> simp [h1, h2, h3]
def tabsU (K : PySem.W.Frag) : Bool := (tabsOf K).all fun p => (tabsOf K).all fun q => !(decide (p.1 = q.1)) || decide (p.2 = q.2)
theorem tabsU_ok {K : PySem.W.Frag} (h : tabsU K = true) : ∀ p ∈ tabsOf K, ∀ q ∈ tabsOf K, p.1 = q.1 → p.2 = q.2 := fun p hp q hq e => by
  have := List.all_eq_true.mp (List.all_eq_true.mp h p hp) q hq
  rw [e] at this
  simpa using this
theorem law_at {l : PySem.W.OpenLaw} {w : World} {K : PySem.W.Frag} {h : Heap} {mg : Str → Option Value} {f : Addr} {fd : FuncData} {fas : List He.Fa} {dfn : List He.DefD} {tfs : List He.Defn} {exB : PySem.W.Frag → Bool} {k n : Nat} {x : Str} {F : M O} {T : List (Addr × Str)}
    (cx : He.SaysX fas dfn [] tfs exB w h K) (X : K.In h) (te : tabsOf K = T) (tt : T = tfs.map fun p => ((He.cT K p).2, lamQ p.1)) (hb : ∀ (s : Shared) (v : Value), BindsTo s fd ⟨[v], []⟩ [(x, v)]) (pl : Holds n F)
    (hF : ∀ base : Heap, K.In base → base.Ns mainGlobals mg → (∀ p ∈ tfs, LamX.TabB base mg (He.cT K p).1 (He.cT K p).2) → FnOk l.prog w K mg base CX0 k f fd [x] fun vs H Q E => spF K (fun _ => 0) 1 [] F vs H Q fun _ _ _ => False) :
    LamX.LawAtS l w K CX0 k n x mg f h := by
  refine ⟨fd, tfs.map (He.cT K), fun vs H Q _ => spF K (fun _ => 0) 1 [] F vs H Q fun _ _ _ => False, fun p hp => ?_, fun p hp => ?_, fun p hp => ?_, hb, fun H a ns hl _ hT hS => law_sp pl H a ns hl hS fun p hp => ?_, fun base hb1 hb2 tb => hF base hb1 hb2 fun p hp => tb _ (List.mem_map.mpr ⟨p, hp, rfl⟩)⟩
  · obtain ⟨q, hq, rfl⟩ := List.mem_map.mp hp
    exact cx.empty q hq
  · obtain ⟨q, hq, rfl⟩ := List.mem_map.mp hp
    exact cx.out q hq
  · obtain ⟨q, hq, rfl⟩ := List.mem_map.mp hp
    exact PySem.W.codeHd_of_K X (cx.hd q hq)
  · rw [te, tt] at hp
    obtain ⟨q, hq, rfl⟩ := List.mem_map.mp hp
    exact hT _ (List.mem_map.mpr ⟨q, hq, rfl⟩)
/-! ### a slot's own thing is frozen first -/
def frzV (i : Nat) : M Unit := fun env => match env[i]? with
  | some (some (.lst ds)) => .ok () (env.set i (some (.dat (.list ds))))
  | some (some (.dct _)) => .ok () (env.set i (some (.dat (.dict []))))
  | some (some (.tpl ds)) => .ok () (env.set i (some (.dat (.tuple ds))))
  | _ => .ok () env
theorem Fm.untag {K : PySem.W.Frag} {P B H : Hp} {σ : L2.St} {env : Env} {fps : Nat → List Addr} {i : Nat} {ds : List D} (F : Fm K P B H σ env fps) (he : env[i]? = some (some (.tpl ds))) : Fm K P B H σ (env.set i (some (.dat (.tuple ds)))) fps := by
  obtain ⟨v, hv, r⟩ := F.slot i _ he
  obtain ⟨a, vs, ob, rfl, hf, e1, e2, r1⟩ := r.tpl_inv
  have hi : i < env.length := (List.getElem?_eq_some_iff.mp he).1
  refine ⟨by rw [List.length_set]; exact F.len, F.sub, F.prt, fun j o e => ?_, fun j e => ?_, F.dis, F.off, F.tab, F.nbT, F.npT⟩
  · by_cases hj : i = j
    · subst hj
      rw [List.getElem?_set_self hi] at e
      cases e
      refine ⟨_, hv, ?_⟩
      rw [hf]
      exact .dat (.tup (.inl (.inr ⟨_, e1⟩)) r1)
    · rw [List.getElem?_set_ne hj] at e
      exact F.slot j o e
  · by_cases hj : i = j
    · subst hj
      exact hf
    · rw [List.getElem?_set_ne hj] at e
      exact F.emp j e
theorem de_frz {X : Cx} {cl : String → Addr} {E : XK} {e : Expr} {m : M Rv} (i : Nat) (h : DE X cl E e m) : DE X cl E e (bnd (frzV i) fun _ => m) := by
  refine ⟨fun pins s σ H Q I ⟨P, B, env, fps, F, q⟩ => ?_⟩
  unfold bnd frzV at q
  split at q
  · rename_i ds he
    obtain ⟨v, hv, r⟩ := F.slot i _ he
    obtain ⟨a, vs, rfl, hf, e1, r1⟩ := r.lst_inv
    obtain ⟨F', x⟩ := F.freezeS (d := .list ds) ⟨_, he⟩ e1 hf hv (.lst (.inl (.inl upd_same)) (RDs.mono (Sub.upd (F.off i a (by rw [hf]; simp)).1) _ _ r1))
    exact h.run pins s σ H Q I ⟨P, _, _, _, F', PostE.ext x q⟩
  · rename_i kv he
    obtain ⟨v, hv, r⟩ := F.slot i _ he
    obtain ⟨a, vs, rfl, hf, e1, r1⟩ := r.dct_inv
    obtain ⟨F', x⟩ := F.freezeS (d := .dict []) ⟨_, he⟩ e1 hf hv (.dct upd_same)
    exact h.run pins s σ H Q I ⟨P, _, _, _, F', PostE.ext x q⟩
  · rename_i ds he
    exact h.run pins s σ H Q I ⟨P, B, _, fps, F.untag he, q⟩
  · exact h.run pins s σ H Q I ⟨P, B, env, fps, F, q⟩
end Mi

set_option Elab.async false
set_option linter.all false
set_option maxRecDepth 100000
namespace Mi
open PySem PySem.Spec L2 PySem.Calls
/-! ### sorted(xs) of data that are alike -/
def likeAll (ds : List D) : Bool := (ds.all fun a => ds.all fun b => PySem.W.alike a b) && (ds.all fun d => okd d 60) && (ds.all (fun d => match d with | .tuple (_ :: _) => true | _ => false) || ds.all (fun d => match d with | .none => false | .tuple _ => false | _ => true))
def gSorted : List D → Option Out
  | [.list ds] => if likeAll ds = true ∧ ds.length ≤ sizeLine then some (.lst (ds.mergeSort (PySem.W.dataLe false fun d => d))) else none
  | _ => none
def RV0 (K : PySem.W.Frag) (B : Hp) (v : Value) (d : D) : Prop := ∃ w : V, RelV w v ∧ RD K B d w
theorem each_of0 {K : PySem.W.Frag} {B : Hp} : ∀ {ds : List D} {vs : List V} {us : List Value}, RDs K B ds vs → Vals vs us → PySem.W.EachIs (RV0 K B) us ds
  | [], _, _, .nil, .nil => .nil
  | p :: bs, _, _, .cons r t, .cons v q => .cons ⟨_, v, r⟩ (each_of0 t q)
theorem each_to0 {K : PySem.W.Frag} {B : Hp} : ∀ {ds : List D} {us : List Value}, PySem.W.EachIs (RV0 K B) us ds → ∃ vs, Vals vs us ∧ RDs K B ds vs
  | _, _, .nil => ⟨[], .nil, .nil⟩
  | _, _, .cons ⟨w, h1, h2⟩ t => by
    obtain ⟨vs, q1, q2⟩ := each_to0 t
    exact ⟨w :: vs, .cons h1 q1, .cons h2 q2⟩
theorem each_mono {α β : Type} {R S : α → β → Prop} : ∀ {as : List α} {bs : List β}, PySem.W.EachIs R as bs → (∀ a b, b ∈ bs → R a b → S a b) → PySem.W.EachIs S as bs
  | _, _, .nil, _ => .nil
  | _, _, .cons h t, k => .cons (k _ _ (by simp) h) (each_mono t fun a b hb => k a b (by simp [hb]))
theorem like_inv {ds : List D} (h : likeAll ds = true) : PySem.W.AllAlike (ds.map fun d => d) ∧ PySem.W.Sortable (ds.map fun d => d) ∧ ∀ d ∈ ds, okd d 60 = true := by
  unfold likeAll at h
  simp only [Bool.and_eq_true, Bool.or_eq_true, List.all_eq_true] at h
  obtain ⟨⟨h1, h2⟩, h3⟩ := h
  simp only [List.map_id']
  refine ⟨fun d hd d' hd' => h1 d hd d' hd', ?_, h2⟩
  rcases h3 with h3 | h3
  · refine .inl fun d hd => ?_
    have := h3 d hd
    split at this
    · exact ⟨_, _, rfl⟩
    · cases this
  · refine .inr fun d hd => ?_
    have := h3 d hd
    constructor
    · rintro rfl; cases this
    · rintro xs rfl; cases this
section
variable {X : Cx} {cl : String → Addr} {E : XK} {e : Expr} {ms : M (List Rv)} {p pos : Pos}
theorem cd_sorted (hu : X.A.units + 64 < cLine) : CallD X (.builtin "sorted") gSorted := by
  intro pins s σ H B xs vs us o I hs hp hv e
  unfold gSorted at e
  split at e
  · rename_i ds
    split at e
    · rename_i hc
      cases e
      obtain ⟨hl, hz⟩ := hc
      obtain ⟨h1, h2, h3⟩ := like_inv hl
      cases hp with
      | cons r1 t =>
        cases t
        cases hv with
        | cons rv tv =>
          cases tv
          obtain ⟨l, ws, rfl, hS, rds⟩ := r1.list hs
          cases rv
          obtain ⟨its, hvals, hpl, _⟩ := I.list hS
          refine PySem.W.sorted_data (R := RV0 X.K B) (enc := fun d : D => d) hpl.isList (each_of0 rds hvals) (each_mono (each_of0 rds hvals) fun v d hd hr => ?_) h1 h2 hz (fun d hd => ?_) fun out hol he => ?_
          · obtain ⟨w, q1, q2⟩ := hr
            exact Dp.reads I d w v (RD.dp d w (okd_noD _ _ (h3 d hd)) (RD.mono hs _ _ q2)) q1
          · have := okd_dep d 60 (h3 d hd)
            show X.A.units + 2 + d.depth < cLine
            omega
          · obtain ⟨vs', hv', rds'⟩ := each_to0 he
            obtain ⟨c, hg⟩ := PyProof.Rows.sortedAll_at s.heap its (List.toArray out)
            have hn := I.hok.fresh (Nat.le_succ s.heap.objs.size)
            have hlen : vs'.length ≤ sizeLine := by rw [hv'.length, hol]; exact hz
            refine ⟨.ref _, _, I.laid (t' := s.toks) (o := .lst vs') (fun b o q => PyProof.Rows.sortedAll_old q) (Nat.le_succ _) ⟨hlen, out, c, hv', hg⟩, rfl, _, vs', rfl, hn, rfl, rds'⟩
    · cases e
  · cases e
def rSo (K : PySem.W.Frag) : List V → Hp → VK → Prop := fun vs H Q => ∃ B xs o, Sub B H ∧ Paired (Rd1 K B H) xs vs ∧ gSorted xs = some o ∧ ∀ v H', OutR K B H o v H' → Q v H'
theorem cr_sorted (hu : X.A.units + 64 < cLine) : CallR X (.builtin "sorted") (rSo X.K) := by
  intro pins s σ H vs us Q I hv h
  obtain ⟨B, xs, o, hs, hp, e, q⟩ := h
  refine wpAny_mono (cd_sorted hu pins s σ H B xs vs us o I hs hp hv e) (fun v s' hq => ?_) fun _ _ x => x
  obtain ⟨v', H', I', r, ho⟩ := hq
  exact ⟨v', H', I', r, q _ _ ho⟩
theorem ru_sorted {K : PySem.W.Frag} : RuL K (rSo K) gSorted := fun H B xs vs o Q hs hp e hq => ⟨B, xs, o, hs, hp, e, hq⟩
theorem de_sorted (hu : X.A.units + 64 < cLine) (hg : Gl X "sorted") (hm : X.mg "sorted" = none) (ha : DA X cl E [e] ms) (he : starEach [e] X.env = (false, eval e X.env) :: starEach [] X.env := by rfl) : DE X cl E (.Call (.Name "sorted" p) [e] [] pos) (mCB gSorted ms) :=
  de_callB (cr_sorted hu) ru_sorted hg hm (by decide +kernel) ha (by decide) (by decide) he rfl
end
end Mi

set_option Elab.async false
set_option linter.all false
set_option maxRecDepth 100000
namespace Mi
open PySem PySem.Spec L2
section
variable {X : Cx} {cl : String → Addr} {E : XK} {e a b : Expr} {ms : M (List Rv)} {i : Nat} {x : Str} {p apos cpos : Pos}
theorem de_ext (hN : X.N[i]? = some x) (hv : Vis X.env.scope x) (ha : DA X cl E [e] ms) (hdb : (x == ("__debug__" : Str)) = false := by decide) (hcd : (x == ("__classdict__" : Str)) = false := by decide)
    (hbase : attributeBase (.Name x p) "extend" X.env (eval (.Name x p) X.env) = eval (.Name x p) X.env := by rfl)
    (hfew : ((backTo cpos (starEach [e] X.env)).all (fun x => !x.1) && (backToKw cpos (keywordEach [] X.env)).all (fun x => x.1.isSome)
      && decide (([e] : List Expr).length + ([] : List Keyword).length + (if ([] : List Keyword).isEmpty then 0 else 1) < 30)) = true := by rfl)
    (hline : (apos.endLine == cpos.line) = true := by rfl) (hs : starEach [e] X.env = (false, eval e X.env) :: starEach [] X.env := by rfl) :
    DE X cl E (.Call (.Attribute (.Name x p) "extend" apos) [e] [] cpos) (mMet i gExt ms) :=
  de_met PySem.F.slot_list_extend PySem.F.plainAttrs_list PySem.F.type_list_extend mt_extA ru_ext hN hv ha hdb hcd hbase hfew hline hs rfl
theorem de_clr (hN : X.N[i]? = some x) (hv : Vis X.env.scope x) (hdb : (x == ("__debug__" : Str)) = false := by decide) (hcd : (x == ("__classdict__" : Str)) = false := by decide)
    (hbase : attributeBase (.Name x p) "clear" X.env (eval (.Name x p) X.env) = eval (.Name x p) X.env := by rfl) (hline : (apos.endLine == cpos.line) = true := by rfl) :
    DE X cl E (.Call (.Attribute (.Name x p) "clear" apos) [] [] cpos) (mMet i gClr mNil) :=
  de_met0 PySem.F.slot_list_clear PySem.F.plainAttrs_list PySem.F.type_list_clear mt_clear ru_clr hN hv hdb hcd hbase hline
theorem de_ins (hN : X.N[i]? = some x) (hv : Vis X.env.scope x) (ha : DA X cl E [a, b] ms) (hl : Len ms 2) (hdb : (x == ("__debug__" : Str)) = false := by decide) (hcd : (x == ("__classdict__" : Str)) = false := by decide)
    (hbase : attributeBase (.Name x p) "insert" X.env (eval (.Name x p) X.env) = eval (.Name x p) X.env := by rfl)
    (hfew : ((backTo cpos (starEach [a, b] X.env)).all (fun x => !x.1) && (backToKw cpos (keywordEach [] X.env)).all (fun x => x.1.isSome)
      && decide (([a, b] : List Expr).length + ([] : List Keyword).length + (if ([] : List Keyword).isEmpty then 0 else 1) < 30)) = true := by rfl)
    (hline : (apos.endLine == cpos.line) = true := by rfl) (hs : starEach [a, b] X.env = (false, eval a X.env) :: starEach [b] X.env := by rfl) (hpl : (backTo cpos (starEach [b] X.env)).any (·.1) = false := by rfl) :
    DE X cl E (.Call (.Attribute (.Name x p) "insert" apos) [a, b] [] cpos) (mMetF i gIns ms) :=
  de_metF PySem.F.slot_list_insert PySem.F.plainAttrs_list PySem.F.type_list_insert mt_insert ru_ins hN hv ha hl hdb hcd hbase hfew hline hs hpl

end
/-! ### max(e, default=d), whole numbers -/
def maxI (d : Int) (ns : List Int) : Int := (ns[argBest (fun i j => decide (ns.getD i 0 > ns.getD j 0)) (ns.length - 1)]?).getD d
def mMaxD (d : Int) (m : M Rv) : M Rv := bnd (vm m) fun r env => match res env r with
  | some (.list xs) => match intsD xs with
    | some ns => if xs.length ≤ sizeLine then .ok (.d (.int (maxI d ns))) env else .stuck
    | none => .stuck
  | _ => .stuck
section
variable {X : Cx} {cl : String → Addr} {E : XK} {a : Expr} {m : M Rv} {p pos kpos npos : Pos} {nk : Nat} {d : Int}
theorem max_dflt {prog : Program} {w : World} {A : Around} {E : Value → Shared → Prop} {s : Shared} {l : Addr} {vs : List Value} {ns : List Int} {dv : Value} {Q : Value → Shared → Prop} (hh : A.handled = none) (hl : s.heap.IsList l vs.toArray) (hi : Vals (ns.map V.int) vs)
    (h0 : ns = [] → ∀ s', Kp s s' → Q dv s') (hQ : ∀ (i : Int) (t : Tok), ns[argBest (fun i j => decide (ns.getD i 0 > ns.getD j 0)) (ns.length - 1)]? = some i → ∀ s', Kp s s' → Q (.int i t) s') :
    wpAny (model prog w) A (PySem.call (.builtin "max") [.ref l] [(Str.ofString "default", dv)]) Q E s := by
  have hsz : vs.toArray.size = vs.length := List.size_toArray ..
  have hnl : ns.length = vs.length := by have := hi.length; simpa using this
  obtain ⟨ol, hol, _⟩ := id hl
  have hll : l < s.heap.objs.size := Heap.lt_size hol
  refine call_max_walkD (wpAny_pyIter_list hl ?_)
  have szp : (s.heap.push { cls := .type "list_iterator", data := .fields #[.ref l, .int 0 0] }).objs.size = s.heap.objs.size + 1 := by simp [Heap.push]
  have W := (Walks.list (prog := prog) (w := w) (A := A.in1) hh s.heap.objs.size l (Nat.ne_of_lt hll) vs.toArray).toS
  have item : ∀ (i : Nat) (v : Value), vs.toArray[i]? = some v → ∃ t, v = .int (ns.getD i 0) t ∧ ns[i]? = some (ns.getD i 0) := fun i v hv => by
    have hv : vs[i]? = some v := by simpa using hv
    have hlt : i < ns.length := by rw [hnl]; exact (List.getElem?_eq_some_iff.mp hv).1
    have e : (ns.map V.int)[i]? = some (V.int ns[i]) := by rw [List.getElem?_map, List.getElem?_eq_getElem hlt]; rfl
    obtain ⟨u, hu, ru⟩ := hi.get e
    rw [hv] at hu
    cases hu
    obtain ⟨t, rfl⟩ := ru
    have e2 : ns.getD i 0 = ns[i] := by rw [List.getD_eq_getElem?_getD, List.getElem?_eq_getElem hlt]; rfl
    exact ⟨t, by rw [e2], by rw [e2]; exact List.getElem?_eq_getElem hlt⟩
  have kp : ∀ s', Moved [s.heap.objs.size] (fun a b => b = a) { s with heap := s.heap.push { cls := .type "list_iterator", data := .fields #[.ref l, .int 0 0] } } s' → Kp s s' := fun s' m =>
    ⟨fun b o e => m.heap b o (by rw [List.mem_singleton]; exact Nat.ne_of_lt (Heap.lt_size e)) (Heap.get?_push_of_some _ e), m.gens, m.drawn, m.os⟩
  refine ⟨s.heap.objs.size, _, _, _, _, _, _, s.heap, fun i j => decide (ns.getD i 0 > ns.getD j 0), rfl, W, ?_, ?_, ?_, ?_, ?_, ?_⟩
  · exact ⟨⟨_, Heap.get?_push_size _ rfl, rfl, rfl⟩, hl.at fun o e => Heap.get?_push_of_some _ e⟩
  · intro b hb
    simp only [List.mem_cons, List.not_mem_nil, or_false] at hb
    show b < (s.heap.push { cls := .type "list_iterator", data := .fields #[.ref l, .int 0 0] }).objs.size
    rw [szp]
    rcases hb with rfl | rfl
    · exact Nat.lt_succ_self _
    · exact Nat.lt_succ_of_lt hll
  · intro b o e
    rw [List.mem_singleton]
    exact Nat.ne_of_lt (Heap.lt_size e)
  · exact fun b o e => Heap.get?_push_of_some _ e
  · intro hn s' hm
    rw [hsz, ← hnl] at hn
    exact h0 (List.length_eq_zero_iff.mp hn) s' (kp s' hm)
  · intro hn
    refine ⟨fun i j vi vj s1 Q1 E1 _ hi' hj' h => ?_, fun v s' hP hm => ?_⟩
    · exact CmpOf.ints_gt (prog := prog) (w := w) (A := A.in1) (P := fun i v => ∃ t, v = .int (ns.getD i 0) t) (fun i => ns.getD i 0) (fun i v h => h) i j vi vj s1 Q1 E1 (by obtain ⟨t, h, _⟩ := item i vi hi'; exact ⟨t, h⟩) (by obtain ⟨t, h, _⟩ := item j vj hj'; exact ⟨t, h⟩) h
    · obtain ⟨t, rfl, e⟩ := item _ v hP
      rw [hsz, ← hnl] at e
      rw [hsz, ← hnl]
      exact hQ _ t e s' (kp s' hm)
theorem de_maxD (hg : Gl X "max") (hm : X.mg "max" = none) (hh : X.A.handled = none) (ha : DE X cl E a m) (hst : starEach [a] X.env = (false, eval a X.env) :: starEach [] X.env := by rfl) :
    DE X cl E (.Call (.Name "max" p) [a] [⟨some "default", .Constant (.int d) nk npos, kpos⟩] pos) (mMaxD d m) := by
  refine ⟨fun pins s σ H Q I h => ?_⟩
  obtain ⟨P, B, env, fps, F, h⟩ := h
  refine wpAny_Call_Name_kw (ld_blt (u := .builtin "max") I hg hm (by decide +kernel) ?_)
  refine PyProof.Rows.callWith_kw ?_ (by rw [show backTo pos (starEach [a] X.env) = (false, eval a X.env) :: backTo pos (starEach [] X.env) by rw [hst]; rfl]) (by rw [hst]; rfl)
  rw [hst]
  show wpAny _ _ (spliced ((false, eval a X.env) :: backTo pos (starEach [] X.env))) _ _ s
  refine Calls.spliced_cons (thn (ha.run pins s σ H _ I ⟨P, B, env, fps, F, post_vm h⟩) fun u s1 ⟨v, H1, I1, r1, B1, env1, fps1, q1, x1, F1, w1, h1⟩ => Calls.spliced_nil ?_)
  show wpAny _ _ (evalAll [do let v ← eval (.Constant (.int d) nk npos) X.env; standAt pos; pure v]) _ _ s1
  refine wpAny_evalAll_cons (wpAny_bind (wpAny_Constant_int (wpAny_bind (wpAny_standAt (wpAny_pure (wpAny_evalAll_nil ?_))))))
  have I2 : Inv X pins σ H1 { s1 with toks := s1.toks + 1 } := I1.tok _
  show wpAny _ _ (PySem.call (.builtin "max") [u] [(Str.ofString "default", .int d s1.toks)]) _ _ _
  split at h1
  · rename_i xs e1
    split at h1
    · rename_i ns en
      split at h1
      · rename_i hz
        obtain ⟨l, vs, rfl, hS, rds⟩ := (F1.res w1 e1).list F1.sub
        cases r1
        obtain ⟨its, hvals, hp, _⟩ := I2.list hS
        have hv := intsD_vals rds en
        rw [hv] at hvals
        have fin : ∀ (n : Int) (t : Tok) (s' : Shared), maxI d ns = n → Kp { s1 with toks := s1.toks + 1 } s' → EP X pins σ Q (.int n t) s' := fun n t s' en k => by
          rw [k.eta]
          subst en
          exact ⟨.int _, H1, I2.kept k.1, ⟨_, rfl⟩, ret_d F1 (.int _) h1⟩
        refine max_dflt (ns := ns) hh hp.isList hvals (fun hn s' k => fin _ _ s' (by rw [hn]; rfl) k) (fun i t hi s' k => fin _ _ s' ?_ k)
        unfold maxI
        rw [hi]
        rfl
      · exact h1.elim
    · exact h1.elim
  · exact h1.elim
end
/-! ### e is None, as a test -/
section
variable {X : Cx} {cl : String → Addr} {E : XK} {a : Expr} {ma : M Rv} {pos : Pos}
theorem dt_isN {j pos'} (ha : DE X cl E a ma) : DT X cl E (.Compare a [.Is] [.Constant .none j pos'] pos) (tst (mIsN false ma)) := by
  refine ⟨fun pins s σ H Q I ⟨P, B, env, fps, F, q⟩ => (pt_cmp (pc_isN (j := j) (pos' := pos') ha)).run pins s σ H Q I ?_⟩
  refine tM_v ⟨P, B, env, fps, F, tst_in q⟩ fun r v H1 P B env fps F s2 h2 => ?_
  split at h2
  · have z := RD.non_iff (show RD X.K B _ v from s2)
    show ∃ c, V.bl (decide (v = .non)) = .bl c ∧ Q c H1
    rw [z]
    exact ret_d F (by rw [Bool.false_xor]; exact .bl _) h2
  · exact h2.elim
theorem dt_notN {j pos'} (ha : DE X cl E a ma) : DT X cl E (.Compare a [.IsNot] [.Constant .none j pos'] pos) (tst (mIsN true ma)) := by
  refine ⟨fun pins s σ H Q I ⟨P, B, env, fps, F, q⟩ => (pt_cmp (pc_notN (j := j) (pos' := pos') ha)).run pins s σ H Q I ?_⟩
  refine tM_v ⟨P, B, env, fps, F, tst_in q⟩ fun r v H1 P B env fps F s2 h2 => ?_
  split at h2
  · have z := RD.non_iff (show RD X.K B _ v from s2)
    show ∃ c, V.bl (!decide (v = .non)) = .bl c ∧ Q c H1
    rw [z]
    exact ret_d F (by rw [Bool.true_xor]; exact .bl _) h2
  · exact h2.elim
end
end Mi

set_option Elab.async false
set_option linter.all false
set_option maxRecDepth 100000
namespace Mi
open PySem PySem.Spec L2
/-! ### a statement behind a slot that is frozen -/
theorem ds_frz {X : Cx} {cl : String → Addr} {E : XK} {io : List Nat} {st : Stmt} {m : M Fl} (i : Nat) (h : DS X cl E io st m) : DS X cl E io st (bnd (frzV i) fun _ => m) := by
  refine ⟨fun pins s σ H D I ⟨P, B, env, fps, F, q⟩ => ?_⟩
  unfold bnd frzV at q
  split at q
  · rename_i ds he
    obtain ⟨v, hv, r⟩ := F.slot i _ he
    obtain ⟨a, vs, rfl, hf, e1, r1⟩ := r.lst_inv
    obtain ⟨F', x⟩ := F.freezeS (d := .list ds) ⟨_, he⟩ e1 hf hv (.lst (.inl (.inl upd_same)) (RDs.mono (Sub.upd (F.off i a (by rw [hf]; simp)).1) _ _ r1))
    exact h.run pins s σ H D I ⟨P, _, _, _, F', PostS.ext x SameIo.refl q⟩
  · rename_i kv he
    obtain ⟨v, hv, r⟩ := F.slot i _ he
    obtain ⟨a, vs, rfl, hf, e1, r1⟩ := r.dct_inv
    obtain ⟨F', x⟩ := F.freezeS (d := .dict []) ⟨_, he⟩ e1 hf hv (.dct upd_same)
    exact h.run pins s σ H D I ⟨P, _, _, _, F', PostS.ext x SameIo.refl q⟩
  · rename_i ds he
    exact h.run pins s σ H D I ⟨P, B, _, fps, F.untag he, q⟩
  · exact h.run pins s σ H D I ⟨P, B, env, fps, F, q⟩
end Mi

set_option Elab.async false
set_option linter.all false
set_option maxRecDepth 100000
set_option autoImplicit false
namespace Mi
open PySem PySem.Spec L2
/-! ### a, b = x, y: each thing stays what it is (an own list stays one) -/
def dz : Rv → M Rv
  | .pl i => bnd (frzR (.pl i)) fun d => ret (.d d)
  | r => ret r
def mOw (m : M Rv) : M Rv := bnd m dz
def rO : Rv → O
  | .d x => .dat x
  | .own o => o
  | .pl _ => .dat .none
def isPl : Rv → Bool
  | .pl _ => true
  | _ => false
def mPar (i j : Nat) (ma mb : M Rv) : M Fl := bnd (mOw ma) fun r => bnd (mOw mb) fun q => fun env => .ok .nx ((env.set i (some (rO r))).set j (some (rO q)))
section
variable {K : PySem.W.Frag} {cl : String → Addr} {E : XK} {io : List Nat} {P B B' H : Hp} {σ σ' : L2.St} {env : Env} {fps : Nat → List Addr}
theorem dz_ok (F : Fm K P B H σ env fps) {r : Rv} {v : V} {q : Rv} {env' : Env} (s : RvR K P B H σ fps r v) (e : dz r env = .ok q env') : ∃ B' fps', Ext P B B' ∧ Fm K P B' H σ env' fps' ∧ RvR K P B' H σ fps' q v ∧ isPl q = false := by
  cases r with
  | d x => cases e; exact ⟨B, fps, Ext.refl, F, s, rfl⟩
  | own o => cases e; exact ⟨B, fps, Ext.refl, F, s, rfl⟩
  | pl i =>
    unfold dz bnd at e
    cases z : frzR (.pl i) env with
    | ok d env1 =>
      simp only [z] at e
      cases e
      obtain ⟨B1, fps1, x1, F1, r1⟩ := frzR_ok (r := .pl i) F s z
      exact ⟨B1, fps1, x1, F1, r1, rfl⟩
    | ex c env1 => exact absurd z frzR_nex
    | stuck => simp only [z] at e; cases e
theorem dz_nex {r : Rv} {c : String} {env' : Env} : dz r env ≠ .ex c env' := by
  intro z
  cases r with
  | d x => cases z
  | own o => cases z
  | pl i =>
    unfold dz bnd at z
    cases z2 : frzR (.pl i) env with
    | ok d e => simp only [z2] at z; cases z
    | ex c e => exact absurd z2 frzR_nex
    | stuck => simp only [z2] at z; cases z
theorem dz_np {r q : Rv} {env env' : Env} (e : dz r env = .ok q env') : isPl q = false := by
  cases r with
  | d x => cases e; rfl
  | own o => cases e; rfl
  | pl i =>
    unfold dz bnd at e
    cases z : frzR (.pl i) env with
    | ok d env1 => simp only [z] at e; cases e; rfl
    | ex c env1 => exact absurd z frzR_nex
    | stuck => simp only [z] at e; cases e
theorem ow_np {m : M Rv} {q : Rv} {env env' : Env} (e : mOw m env = .ok q env') : isPl q = false := by
  unfold mOw bnd at e
  cases z : m env with
  | ok r env1 => rw [z] at e; exact dz_np e
  | ex c env1 => rw [z] at e; cases e
  | stuck => rw [z] at e; cases e
theorem postE_ow {m : M Rv} {Q : VK} (h : PostE K cl E P B σ (mOw m env) Q) : PostE K cl E P B σ (m env) Q := by
  unfold mOw bnd at h
  cases q : m env with
  | ok r env1 =>
    rw [q] at h
    intro v H1 B1 fps1 x1 F1 s1
    change PostE K cl E P B σ (dz r env1) Q at h
    cases z : dz r env1 with
    | ok r2 env2 =>
      rw [z] at h
      obtain ⟨B2, fps2, x2, F2, s2, hp⟩ := dz_ok F1 s1 z
      exact h v H1 B2 fps2 (x1.trans x2) F2 s2
    | ex c env2 => exact absurd z dz_nex
    | stuck => rw [z] at h; exact h.elim
  | ex c env1 => rw [q] at h; exact h
  | stuck => rw [q] at h; exact h.elim
theorem de_ow {X : Cx} {e : Expr} {m : M Rv} (h : DE X cl E e m) : DE X cl E e (mOw m) :=
  ⟨fun pins s σ H Q I ⟨P, B, env, fps, F, q⟩ => h.run pins s σ H Q I ⟨P, B, env, fps, F, postE_ow q⟩⟩
/-- a thing is held: its own cells are kept -/
theorem Fm.hold (F : Fm K P B H σ env fps) {r : Rv} {v : V} (q : RvR K P B H σ fps r v) (hp : isPl r = false) :
    ∃ P' fp, (∀ a o, P a = some o → P' a = some o) ∧ Fm K P' B H σ env fps ∧ (∀ a ∈ fp, P' a ≠ none ∧ P a = none ∧ B a = none) ∧
      ∀ B2 H2, Sub B B2 → Sub P' H2 → OwnR K B2 H2 (rO r) v fp := by
  cases r with
  | d x => exact ⟨P, [], fun _ _ e => e, F, fun a ha => by simp at ha, fun B2 H2 s _ => .dat (q.mono s)⟩
  | pl j => cases hp
  | own o =>
    obtain ⟨fp, r1, hf⟩ := q
    have hs : ∀ a o, P a = some o → (fun a => if a ∈ fp then H a else P a) a = some o := fun a o e => by
      have : a ∉ fp := fun h => by rw [(hf a h).2.1] at e; cases e
      show (if a ∈ fp then H a else P a) = some o
      rw [if_neg this]; exact e
    have hin : ∀ a ∈ fp, (fun a => if a ∈ fp then H a else P a) a = H a := fun a h => if_pos h
    refine ⟨fun a => if a ∈ fp then H a else P a, fp, hs, ⟨F.len, F.sub, ?_, F.slot, F.emp, F.dis, ?_, F.tab, F.nbT, ?_⟩, fun a h => ⟨by rw [hin a h]; exact r1.dom a h, (hf a h).2.1, (hf a h).1⟩, ?_⟩
    · intro a o e
      by_cases h : a ∈ fp
      · rw [← hin a h]; exact e
      · exact F.prt _ _ (by have e : (if a ∈ fp then H a else P a) = some o := e; rw [if_neg h] at e; exact e)
    · intro i a h
      refine ⟨(F.off i a h).1, ?_⟩
      show (if a ∈ fp then H a else P a) = none
      rw [if_neg fun h2 => (hf a h2).2.2 i h]
      exact (F.off i a h).2
    · intro a ps e
      have e : (if a ∈ fp then H a else P a) = some (.tbl ps) := e
      by_cases h : a ∈ fp
      · rw [if_pos h] at e; exact r1.ownT a h ps e
      · rw [if_neg h] at e; exact F.npT a ps e
    · intro B2 H2 s h2
      refine r1.congr s fun a h => ?_
      cases e : H a with
      | none => exact absurd e (r1.dom a h)
      | some o => exact h2 a o (by rw [← e]; exact hin a h)
theorem Ext.less {P P' : Hp} (hs : ∀ a o, P a = some o → P' a = some o) (x : Ext P' B B') : Ext P B B' := ⟨x.1, fun a o e => x.2 a o (hs a o e)⟩
theorem lessN {P P' : Hp} (hs : ∀ a o, P a = some o → P' a = some o) {a : Addr} (h : P' a = none) : P a = none := by
  cases e : P a with
  | none => rfl
  | some o => rw [hs a o e] at h; cases h
theorem Fm.less {P P' : Hp} (hs : ∀ a o, P a = some o → P' a = some o) (n : noT P) (F : Fm K P' B H σ env fps) : Fm K P B H σ env fps :=
  ⟨F.len, F.sub, fun a o e => F.prt a o (hs a o e), F.slot, F.emp, F.dis, fun i a h => ⟨(F.off i a h).1, lessN hs (F.off i a h).2⟩, F.tab, F.nbT, n⟩
theorem rO_own {r : Rv} {v : V} (s : RvR K P B H σ fps r v) (hp : isPl r = false) : ∃ fp, OwnR K B H (rO r) v fp ∧ ∀ a ∈ fp, B a = none ∧ P a = none ∧ ∀ i, a ∉ fps i := by
  cases r with
  | d x => exact ⟨[], .dat s, fun a ha => by simp at ha⟩
  | own o => exact s
  | pl j => cases hp
end
section
variable {X : Cx} {cl : String → Addr} {E : XK} {io : List Nat} {a b : Expr} {ma mb : M Rv} {pos px py pt : Pos} {i j : Nat} {x y : Str} {kt k2 pt2}
theorem ds_par (hc : X.calm = true) (hN : X.N.Nodup) (hi : X.N[i]? = some x) (hj : X.N[j]? = some y) (hij : (i == j) = false) (hio : io.contains i = false) (hjo : io.contains j = false)
    (hx : X.env.scope.names.lookup x = some .local) (hy : X.env.scope.names.lookup y = some .local) (ha : DE X cl E a ma) (hb : DE X cl E b mb)
    (hw : swappedStores [.Tuple [.Name x px, .Name y py] kt pt] (.Tuple [a, b] k2 pt2) X.env = pure (some [x, y]) := by rfl)
    (hs : swapsWithSole [.Tuple [.Name x px, .Name y py] kt pt] (.Tuple [a, b] k2 pt2) pos.line X.env = pure false := by rfl)
    (n1 : starEach [a, b] X.env = (false, eval a X.env) :: starEach [b] X.env := by rfl) (n2 : starEach [b] X.env = (false, eval b X.env) :: starEach [] X.env := by rfl) :
    DS X cl E io (.Assign [.Tuple [.Name x px, .Name y py] kt pt] (.Tuple [a, b] k2 pt2) pos) (mPar i j ma mb) := by
  have hij : i ≠ j := by intro e; subst e; simp at hij
  refine ⟨fun pins s σ H D I ⟨P, B, env, fps, F, h⟩ => (ps_par hc hN hi hj hij hx hy (pa_cons (de_ow ha) (pa_cons (de_ow hb) pa_nil n2) n1) hw hs).run pins s σ H D I ?_⟩
  have hli : i < σ.length := by rw [I.len]; exact getElem?_lt hi
  have hlj : j < σ.length := by rw [I.len]; exact getElem?_lt hj
  refine ⟨P, B, env, fps, F, ?_⟩
  unfold mPar bnd at h
  cases q : mOw ma env with
  | stuck => rw [q] at h; exact h.elim
  | ex c env1 => rw [q] at h; exact fun H' B' fps x F => h σ H' B' fps x F SameIo.refl
  | ok r1 env1 =>
    rw [q] at h
    replace h : PostS X.K cl E io σ P B ((mOw mb env1).bind fun q env => Rs.ok Fl.nx ((List.set env i (some (rO r1))).set j (some (rO q)))) fun fl σ' H' B' fps' _ => EndS X.K io P B D fl σ' H' B' fps' := h
    intro v H1 B1 fps1 x1 F1 s1
    obtain ⟨P', fp, hP, F1', hfp, hold⟩ := F1.hold s1 (ow_np q)
    refine ⟨P', B1, env1, fps1, F1', ?_⟩
    have F0 := F.npT
    cases q2 : mOw mb env1 with
    | stuck => rw [q2] at h; exact h.elim
    | ex c env2 => rw [q2] at h; exact fun H' B' fps x F => h σ H' B' fps (x1.trans (Ext.less hP x)) (Fm.less hP F0 F) SameIo.refl
    | ok r2 env2 =>
      rw [q2] at h
      intro w H2 B2 fps2 x2 F2 s2
      have r1 := hold B2 H2 x2.1 F2.prt
      obtain ⟨fp2, r2, hf2⟩ := rO_own s2 (ow_np q2)
      have G := Fm.less hP F0 F2
      have hb2 : ∀ a ∈ fp, B2 a = none := fun a h => by
        obtain ⟨h1, _, h3⟩ := hfp a h
        cases e : P' a with
        | none => exact absurd e h1
        | some o => rw [x2.2 a o e]; exact h3
      have nf : ∀ a ∈ fp, ∀ k, a ∉ fps2 k := fun a h k hk => (hfp a h).1 (F2.off k a hk).2
      have G1 := G.store hli r1 fun a h => ⟨hb2 a h, (hfp a h).2.1, nf a h⟩
      have G2 := G1.store (i := j) (by rw [List.length_set]; exact hlj) r2 fun a ha2 => ⟨(hf2 a ha2).1, lessN hP (hf2 a ha2).2.1, fun k hk => by
        by_cases z : k = i
        · subst z
          rw [setF_same] at hk
          exact (hfp a hk).1 (hf2 a ha2).2.1
        · rw [setF_ne z] at hk
          exact (hf2 a ha2).2.2 k hk⟩
      exact ⟨v, w, rfl, h _ H2 B2 _ (x1.trans (Ext.less hP x2)) G2 ((sameIo_set hio).trans (sameIo_set hjo))⟩
end
/-! ### x[::e], e = 1 or -1 -/
theorem pick_fwd (its : Array Value) : slicePick its none none (some 1) = its := by
  have hb : sliceBounds none none (some 1) its.size = (0, (its.size : Int), 1) := by
    first
    | rfl
    | simp [sliceBounds]
  have hr : sliceRange 0 (its.size : Int) 1 = List.range its.size := by
    unfold sliceRange
    rw [if_pos (by decide)]
    have : (if (0 : Int) < (its.size : Int) then ((its.size : Int) - 0 + 1 - 1) / 1 else 0).toNat = its.size := by
      split <;> omega
    show (List.range (if (0 : Int) < (its.size : Int) then ((its.size : Int) - 0 + 1 - 1) / 1 else 0).toNat).map (fun (k : Nat) => (0 + 1 * (k : Int)).toNat) = _
    rw [this]
    conv => rhs; rw [← List.map_id (List.range its.size)]
    refine List.map_congr_left fun k _ => ?_
    show (0 + 1 * (k : Int)).toNat = k
    omega
  unfold slicePick
  rw [hb]
  show ((sliceRange 0 (its.size : Int) 1).filterMap (its[·]?)).toArray = its
  rw [hr, PySem.W.krv_all]
def mStep (m me : M Rv) : M Rv := bnd (vm m) fun r => bnd (mSo me) fun o env => match res env r with
  | some (.list ds) => if o = some 1 then .ok (.own (.lst ds)) env else if o = some (-1) then .ok (.own (.lst ds.reverse)) env else .stuck
  | _ => .stuck
section
variable {X : Cx} {cl : String → Addr} {E : XK} {e a : Expr} {m me : M Rv} {p3 pos : Pos}
theorem de_step (he : DE X cl E e m) (ha : DE X cl E a me) (hc : X.calm = true) : DE X cl E (.Subscript e (.Slice none none (some a) p3) pos) (mStep m me) := by
  refine ⟨fun pins s σ H Q I ⟨P, B, env, fps, F, h⟩ => ?_⟩
  refine PyProof.Rows.Subscript_ (thn (he.run pins s σ H _ I ⟨P, B, env, fps, F, post_vm h⟩) fun v s1 ⟨x, H1, I1, r1, B1, env1, fps1, r, x1, F1, w1, h1⟩ => ?_)
  refine wpAny_Slice (thn (po_none.run pins s1 σ H1 (fun o H2 => o = none ∧ H2 = H1) I1 ⟨rfl, rfl⟩) fun vl s2 ⟨l, H2, I2, pl, el, e2⟩ => ?_)
  subst el e2
  refine thn (po_none.run pins s2 σ H2 (fun o H3 => o = none ∧ H3 = H2) I2 ⟨rfl, rfl⟩) fun vu s3 ⟨u, H3, I3, pu, eu, e3⟩ => ?_
  subst eu e3
  refine thn ((do_some ha).run pins s3 σ H3 (fun o H4 => ∃ B2 env2 fps2, Ext P B1 B2 ∧ Fm X.K P B2 H4 σ env2 fps2 ∧ PostE X.K cl E P B2 σ ((fun o env => match res env r with
    | some (.list ds) => if o = some 1 then .ok (.own (.lst ds)) env else if o = some (-1) then .ok (.own (.lst ds.reverse)) env else .stuck
    | _ => .stuck : Option Int → M Rv) o env2) Q) I3 ⟨P, B1, env1, fps1, F1, (postE_bnd h1).mono fun c H1 B2 fps2 env2 x F q => ⟨B2, env2, fps2, x, F, q⟩⟩) fun vs s4 ⟨o, H4, I4, ps, B2, env2, fps2, x2, F2, h2⟩ => ?_
  have w2 := w1.mono x2.1
  have I5 : Inv X pins σ H4 { s4 with heap := s4.heap.push { cls := .type "slice", data := .fields #[vl, vu, vs] } } := I4.kept (t' := s4.toks) fun b ob q => Heap.get?_push_of_some _ q
  dsimp only at h2
  split at h2
  · rename_i ds e1
    obtain ⟨zs, ho0, hpick, h3⟩ : ∃ zs, o ≠ some 0 ∧ (∀ (its : List Value) (us : List V), zs = (if o = some 1 then ds else ds.reverse) ∧ slicePick its.toArray none none o = (if o = some 1 then its else its.reverse).toArray) ∧ PostE X.K cl E P B2 σ (.ok (.own (.lst zs)) env2) Q := by
      split at h2
      · rename_i ho
        refine ⟨ds, by rw [ho]; decide, fun its us => ⟨by rw [if_pos ho], ?_⟩, h2⟩
        rw [if_pos ho, ho, pick_fwd]
      · rename_i hn
        split at h2
        · rename_i ho
          refine ⟨ds.reverse, by rw [ho]; decide, fun its us => ⟨by rw [if_neg hn], ?_⟩, h2⟩
          rw [if_neg hn, ho, PySem.W.krv_pick]
        · exact h2.elim
    have hz0 := (hpick [] []).1
    rcases F2.res w2 e1 with rr | ⟨ds', a', us, ed, rfl, ea, rr⟩
    · cases rr with
      | @lst a0 vs0 ds0 hx rr =>
        cases r1
        obtain ⟨its, rv, ht, hz⟩ := I5.list (F2.sub.sqL hx)
        have hlen := rv.length
        show wpAny (model X.prog X.w) X.A (PyProof.Rows.subscriptTail e (.Slice none none (some a) p3) _ (.ref s4.heap.objs.size)) (EP X pins σ Q) X.xe { s4 with heap := s4.heap.push { cls := .type "slice", data := .fields #[vl, vu, vs] } }
        refine PyProof.Rows.tail_any (ops := [_, .ref s4.heap.objs.size]) ht.isList.typeIs (PySem.slot_list_getitem.lookup) ?_ (by with_unfolding_all rfl)
        refine wpAny_getItem_list_slice ht.isList (Heap.IsSliceOf.new _ vl vu vs) pl pu ps ho0 ?_ (by rw [List.size_toArray]; omega)
        rw [(hpick its []).2]
        have hn := I5.hok.fresh (Nat.le_refl _)
        obtain ⟨h3', h4, h5⟩ := F2.newB hn
        refine ⟨.ref _, upd H4 _ (.lst (if o = some 1 then vs0 else vs0.reverse)), I5.laid (t' := s4.toks) (o := .lst _) (fun b ob q => Heap.get?_push_of_some _ q) (Nat.le_refl _) ?_, rfl, h3 _ _ B2 fps2 Ext.refl (F2.alloc hn) ⟨_, .lst upd_same ?_, fun a ha => by rw [List.mem_singleton.mp ha]; exact ⟨h3', h4, h5⟩⟩⟩
        · split
          · exact ⟨hz, _, 0, rv, Heap.get?_push_size _ rfl⟩
          · exact ⟨by rw [List.length_reverse]; exact hz, _, 0, rv.reverse, Heap.get?_push_size _ rfl⟩
        · rw [hz0]
          split
          · exact rr
          · exact rr.reverse
    · cases ed
      cases r1
      obtain ⟨its, rv, ht, hz⟩ := I5.list (SqL.of (K := X.K) ea)
      have hlen := rv.length
      show wpAny (model X.prog X.w) X.A (PyProof.Rows.subscriptTail e (.Slice none none (some a) p3) _ (.ref s4.heap.objs.size)) (EP X pins σ Q) X.xe { s4 with heap := s4.heap.push { cls := .type "slice", data := .fields #[vl, vu, vs] } }
      refine PyProof.Rows.tail_any (ops := [_, .ref s4.heap.objs.size]) ht.isList.typeIs (PySem.slot_list_getitem.lookup) ?_ (by with_unfolding_all rfl)
      refine wpAny_getItem_list_slice ht.isList (Heap.IsSliceOf.new _ vl vu vs) pl pu ps ho0 ?_ (by rw [List.size_toArray]; omega)
      rw [(hpick its []).2]
      have hn := I5.hok.fresh (Nat.le_refl _)
      obtain ⟨h3', h4, h5⟩ := F2.newB hn
      refine ⟨.ref _, upd H4 _ (.lst (if o = some 1 then us else us.reverse)), I5.laid (t' := s4.toks) (o := .lst _) (fun b ob q => Heap.get?_push_of_some _ q) (Nat.le_refl _) ?_, rfl, h3 _ _ B2 fps2 Ext.refl (F2.alloc hn) ⟨_, .lst upd_same ?_, fun a ha => by rw [List.mem_singleton.mp ha]; exact ⟨h3', h4, h5⟩⟩⟩
      · split
        · exact ⟨hz, _, 0, rv, Heap.get?_push_size _ rfl⟩
        · exact ⟨by rw [List.length_reverse]; exact hz, _, 0, rv.reverse, Heap.get?_push_size _ rfl⟩
      · rw [hz0]
        split
        · exact rr
        · exact rr.reverse
  · exact h2.elim
end
/-! ### len(set(x)) -/
section
variable {X : Cx} {cl : String → Addr} {E : XK} {e : Expr} {m : M Rv} {p p2 q pos : Pos}
theorem size_set {β : Type} [DecidableEq β] {es : Array (Int × Value)} {ls : List Key} {f : β → Key} (hf : ∀ a b, f a = f b → a = b) {bs : List β} (hnd : (es.toList.map keyM).Nodup) (hm : ∀ k, k ∈ ls ↔ k ∈ es.toList.map keyM) (h : ∀ k, k ∈ ls ↔ k ∈ bs.map f) :
    es.size = (dedup bs).length := by
  have nd : ((dedup bs).map f).Nodup := List.pairwise_map.mpr ((nodup_dedup bs).imp fun hne he => hne (hf _ _ he))
  have p : (es.toList.map keyM).Perm ((dedup bs).map f) := perm_of hnd nd fun k => by
    rw [← hm k, h k]
    constructor
    · intro hk
      obtain ⟨b, hb, rfl⟩ := List.mem_map.mp hk
      exact List.mem_map.mpr ⟨b, (mem_dedup b bs).mpr hb, rfl⟩
    · intro hk
      obtain ⟨b, hb, rfl⟩ := List.mem_map.mp hk
      exact List.mem_map.mpr ⟨b, (mem_dedup b bs).mp hb, rfl⟩
  have := p.length_eq
  rw [List.length_map, List.length_map] at this
  rw [← this, Array.length_toList]
theorem de_lenSet (hc : X.calm = true) (hg : Gl X "len") (hm : X.mg "len" = none) (hg2 : Gl X "set") (hm2 : X.mg "set" = none) (ha : DE X cl E e m) (na : starEach [e] X.env = (false, eval e X.env) :: starEach [] X.env := by rfl) :
    DE X cl E (.Call (.Name "len" p) [.Call (.Name "set" p2) [e] [] q] [] pos) (mSetE (fun z => .d (.int (lenS z))) m) := by
  refine ⟨fun pins s σ H Q I h => ?_⟩
  refine PyProof.Rows.Call_ (ld_blt I hg hm boot_len ?_)
  refine PyProof.Rows.callWith_builtin1 (PyProof.Rows.args_cons (thn (set_then (cont := fun v => call (.builtin "len") [v]) hg2 hm2 ha I h na hc fun P B H1 env fps S ls z s1 I1 F1 SM hls h1 => ?_) fun v s1 h1 => PyProof.Rows.args_nil h1) rfl) rfl rfl
  obtain ⟨o, es, ep, t, ho, hex, hd, _, hnd, hmm, hsz, hf, _, _⟩ := SM
  have hn : es.size = lenS z := by
    cases z with
    | inl ns => exact size_set (f := (Sum.inl : Int → Key)) (fun a b h => Sum.inl.inj h) hnd hmm hls
    | inr xs => exact size_set (f := (Sum.inr : Str → Key)) (fun a b h => Sum.inr.inj h) hnd hmm hls
  exact call_len_set ho hex hd hf (by unfold scanBound at hsz; omega) ⟨.int (lenS z), H1, I1.tok _, ⟨_, by rw [hn]⟩, h1 _ _ _ fps Ext.refl F1 (.int _)⟩
end
/-! ### tuple(range(a, b)) -/
def mTupR (ma mb : M Rv) : M Rv := bnd (vm ma) fun r => bnd (vm mb) fun r2 => match r, r2 with
  | .d (.int i), .d (.int j) => if 0 ≤ i ∧ i ≤ 16777216 ∧ 0 ≤ j ∧ j ≤ 16777216 then ret (.d (.tuple (rngD i (j - i).toNat))) else stk
  | _, _ => stk
section
variable {X : Cx} {cl : String → Addr} {E : XK} {a b : Expr} {ma mb : M Rv} {p p2 pos pos2 : Pos}
theorem de_tupR (hc : X.calm = true) (hg : Gl X "tuple") (hm : X.mg "tuple" = none) (hg2 : Gl X "range") (hm2 : X.mg "range" = none) (ha : DE X cl E a ma) (hb : DE X cl E b mb)
    (na : starEach [a, b] X.env = (false, eval a X.env) :: starEach [b] X.env := by rfl) (nb : starEach [b] X.env = (false, eval b X.env) :: starEach [] X.env := by rfl) (hp : (backTo pos2 (starEach [b] X.env)).any (·.1) = false := by rfl)
    (nc : starEach [.Call (.Name "range" p2) [a, b] [] pos2] X.env = (false, eval (.Call (.Name "range" p2) [a, b] [] pos2) X.env) :: starEach [] X.env := by rfl) :
    DE X cl E (.Call (.Name "tuple" p) [.Call (.Name "range" p2) [a, b] [] pos2] [] pos) (mTupR ma mb) := by
  refine ⟨fun pins s σ H Q I ⟨P, B, env, fps, F, h⟩ => (pe_tupRg hc hg hm (prg_2 hg2 hm2 ha hb na nb hp) nc).run pins s σ H Q I ⟨P, B, env, fps, F, ?_⟩⟩
  refine (post_vm h).mono ?_
  rintro v H1 ⟨B1, env1, fps1, r, x1, F1, w1, h1⟩
  refine ⟨P, B1, env1, fps1, F1, ?_⟩
  refine (post_vm h1).mono ?_
  rintro v2 H2 ⟨B2, env2, fps2, r2, x2, F2, w2, h2⟩
  split at h2
  · rename_i i j
    split at h2
    · rename_i hj
      have e1 := rvs_int w1
      have e2 := rvs_int w2
      refine ⟨i, j, e1, e2, RgOk.of_le (by omega) (by omega) (by omega) (by omega), fun l hl => ?_⟩
      obtain ⟨h3, h4, h5⟩ := F2.newB hl
      have xx := Ext.upd (o := .tup (rgV i j)) h3 h4
      exact h2 _ _ _ fps2 xx (F2.allocB hl) (.tup (.inl (.inl upd_same)) (RDs.mono xx.1 _ _ (rgV_rd i (j - i).toNat)))
    · exact h2.elim
  · exact h2.elim
end
/-! ### a op b op c, ints -/
def mCh (g1 g2 : Int → Int → Bool) (ma mb mc : M Rv) : M Bool := bnd (vm ma) fun r1 => bnd (vm mb) fun r2 => match r1, r2 with
  | .d (.int i), .d (.int j) => if g1 i j = true then bnd (vm mc) fun r3 => match r3 with
      | .d (.int k) => ret (g2 j k)
      | _ => stk
    else ret false
  | _, _ => stk
section
variable {X : Cx} {cl : String → Addr} {E : XK} {a b c : Expr} {ma mb mc : M Rv} {pos : Pos} {op op' : CmpOp} {g1 g2 : Int → Int → Bool}
theorem dt_ch (h1 : OpR X (compareOp op) (rI0 fun i j => .bl (g1 i j))) (h2 : OpR X (compareOp op') (rI0 fun i j => .bl (g2 i j))) (ha : DE X cl E a ma) (hb : DE X cl E b mb) (hc : DE X cl E c mc)
    (hm : lastMarks [op, op'] [b, c] = false := by with_unfolding_all rfl) : DT X cl E (.Compare a [op, op'] [b, c] pos) (mCh g1 g2 ma mb mc) := by
  refine ⟨fun pins s σ H Q I h => (pt_chain h1 h2 ha hb hc hm).run pins s σ H Q I ?_⟩
  obtain ⟨P, B, env, fps, F, h⟩ := h
  refine ⟨P, B, env, fps, F, (postX_vm h).mono ?_⟩
  rintro v H1 ⟨B1, env1, fps1, r1, x1, F1, w1, h3⟩
  refine ⟨P, B1, env1, fps1, F1, (postX_vm h3).mono ?_⟩
  rintro v2 H2 ⟨B2, env2, fps2, r2, x2, F2, w2, h4⟩
  split at h4
  · rename_i i j
    refine ⟨i, j, rvs_int w1, rvs_int w2, _, rfl, ?_⟩
    split at h4
    · rename_i hg
      rw [if_pos hg]
      refine ⟨P, B2, env2, fps2, F2, (postX_vm h4).mono ?_⟩
      rintro v3 H3 ⟨B3, env3, fps3, r3, x3, F3, w3, h5⟩
      split at h5
      · rename_i k
        exact ⟨j, k, rvs_int w2, rvs_int w3, _, rfl, h5 _ _ _ Ext.refl F3⟩
      · exact h5.elim
    · rename_i hg
      rw [if_neg hg]
      exact ⟨_, rfl, h4 _ _ _ Ext.refl F2⟩
  · exact h4.elim
end
end Mi

set_option Elab.async false
set_option linter.all false
namespace Mi
open PySem PySem.Spec L2

/-! ### what a mirror comes to -/
def Opt {α : Type} (o : Option α) (Q : α → Prop) : Prop := match o with
  | some a => Q a
  | none => False
def Ok {α : Type} (r : Rs α) (Q : α → Env → Prop) : Prop := match r with
  | .ok a e => Q a e
  | _ => False
section
variable {α β : Type} {Q : α → Env → Prop} {Q' : α → Env → Prop}
theorem opt_some {a : α} {Q : α → Prop} : Opt (some a) Q ↔ Q a := Iff.rfl
theorem opt_none {Q : α → Prop} : Opt (none : Option α) Q ↔ False := Iff.rfl
theorem opt_map {f : α → β} {o : Option α} {Q : β → Prop} : Opt (o.map f) Q ↔ Opt o fun a => Q (f a) := by cases o <;> exact Iff.rfl
theorem opt_bind {f : α → Option β} {o : Option α} {Q : β → Prop} : Opt (o.bind f) Q ↔ Opt o fun a => Opt (f a) Q := by cases o <;> exact Iff.rfl
theorem opt_ite {c : Prop} [Decidable c] {o : Option α} {Q : α → Prop} : Opt (if c then o else none) Q ↔ c ∧ Opt o Q := by
  by_cases h : c
  · simp only [h, if_true, true_and]
  · simp only [h, if_false, false_and, opt_none]
theorem Opt.mono {o : Option α} {Q R : α → Prop} (h : Opt o Q) (f : ∀ a, Q a → R a) : Opt o R := by
  cases o with
  | none => exact h
  | some a => exact f a h
theorem Opt.get {o : Option α} {Q : α → Prop} (h : Opt o Q) : ∃ a, o = some a ∧ Q a := by
  cases o with
  | none => exact h.elim
  | some a => exact ⟨a, rfl, h⟩
theorem ok_ok {a : α} {e : Env} : Ok (.ok a e) Q ↔ Q a e := Iff.rfl
theorem ok_ex {c : String} {e : Env} : Ok (.ex c e) Q ↔ False := Iff.rfl
theorem ok_stuck : Ok (Rs.stuck : Rs α) Q ↔ False := Iff.rfl
theorem ok_ret {a : α} {e : Env} : Ok (ret a e) Q ↔ Q a e := Iff.rfl
theorem ok_stk {e : Env} : Ok ((stk : M α) e) Q ↔ False := Iff.rfl
theorem Ok.mono {r : Rs α} (h : Ok r Q) (f : ∀ a e, Q a e → Q' a e) : Ok r Q' := by
  cases r with
  | ok a e => exact f a e h
  | ex c e => exact h
  | stuck => exact h
theorem Ok.get {r : Rs α} (h : Ok r Q) : ∃ a e, r = .ok a e ∧ Q a e := by
  cases r with
  | ok a e => exact ⟨a, e, rfl, h⟩
  | ex c e => exact h.elim
  | stuck => exact h.elim
theorem ok_bnd {m : M α} {k : α → M β} {env : Env} {R : β → Env → Prop} : Ok (bnd m k env) R ↔ Ok (m env) fun a e => Ok (k a e) R := by
  unfold bnd
  cases m env <;> exact Iff.rfl
theorem ok_ofO {o : Option α} {e : Env} : Ok (ofO o e) Q ↔ Opt o fun a => Q a e := by
  cases o <;> exact Iff.rfl
theorem ok_ite' {c : Prop} [Decidable c] {a b : M α} {e : Env} : Ok ((if c then a else b) e) Q ↔ (c → Ok (a e) Q) ∧ (¬c → Ok (b e) Q) := by
  by_cases h : c
  · simp only [h, if_true, true_implies, not_true, false_implies, and_true]
  · simp only [h, if_false, false_implies, not_false_iff, true_implies, true_and]
end
def RB (r : Rv) (K : Bool → Prop) : Prop := match r with
  | .d (.bool b) => K b
  | _ => False
theorem rb_b {b : Bool} {K : Bool → Prop} : RB (.d (.bool b)) K ↔ K b := Iff.rfl
section
variable {env : Env} {Q : Rv → Env → Prop} {QB : Bool → Env → Prop} {QL : List Rv → Env → Prop} {QD : D → Env → Prop} {QF : Fl → Env → Prop}
theorem ok_vm {m : M Rv} : Ok (vm m env) Q ↔ Ok (m env) fun r e => Q r.frz e := ok_bnd
theorem ok_mC {d : D} : Ok (mC d env) Q ↔ Q (.d d) env := Iff.rfl
theorem ok_bin {g : D → D → Option Out} {ma mb : M Rv} : Ok (mBin g ma mb env) Q ↔ Ok (ma env) fun r1 e1 => Ok (mb e1) fun r2 e2 => Opt (res e2 r1.frz) fun x => Opt (res e2 r2.frz) fun y => Opt (g x y) fun o => Q o.rv e2 := by
  unfold mBin
  rw [ok_bnd, ok_vm]
  refine Iff.of_eq (congrArg _ (funext fun r1 => funext fun e1 => propext ?_))
  rw [ok_bnd, ok_vm]
  refine Iff.of_eq (congrArg _ (funext fun r2 => funext fun e2 => propext ?_))
  cases h1 : res e2 r1.frz with
  | none => simp only [ok_stuck, opt_none]
  | some x =>
    cases h2 : res e2 r2.frz with
    | none => simp only [ok_stuck, opt_none, opt_some]
    | some y =>
      simp only [opt_some]
      cases g x y <;> exact Iff.rfl
theorem ok_isi {T : String} {m : M Rv} : Ok (mIsi T m env) Q ↔ Ok (m env) fun r e => Opt (res e r.frz) fun x => Q (.d (.bool (isiD T x))) e := by
  unfold mIsi
  rw [ok_bnd, ok_vm]
  refine Iff.of_eq (congrArg _ (funext fun r1 => funext fun e1 => propext ?_))
  cases h1 : res e1 r1.frz <;> exact Iff.rfl
theorem ok_tst {m : M Rv} : Ok (tst m env) QB ↔ Ok (m env) fun r e => RB r fun b => QB b e := by
  unfold tst
  rw [ok_bnd]
  refine Iff.of_eq (congrArg _ (funext fun r1 => funext fun e1 => propext ?_))
  rcases r1 with (_ | b | _ | _ | _ | _ | _) | _ | _ <;> exact Iff.rfl
theorem ok_and {t u : M Bool} : Ok (mAnd t u env) QB ↔ Ok (t env) fun c e => (c = true → Ok (u e) QB) ∧ (c = false → QB false e) := by
  unfold mAnd
  rw [ok_bnd]
  refine Iff.of_eq (congrArg _ (funext fun c => funext fun e1 => propext ?_))
  cases c <;> simp [ok_ret]
theorem ok_or {t u : M Bool} : Ok (mOr t u env) QB ↔ Ok (t env) fun c e => (c = true → QB true e) ∧ (c = false → Ok (u e) QB) := by
  unfold mOr
  rw [ok_bnd]
  refine Iff.of_eq (congrArg _ (funext fun c => funext fun e1 => propext ?_))
  cases c <;> simp [ok_ret]
theorem ok_not {t : M Bool} : Ok (mNot t env) QB ↔ Ok (t env) fun c e => QB (!c) e := ok_bnd
theorem ok_andV {ma mb : M Rv} : Ok (mAndV ma mb env) Q ↔ Ok (ma env) fun r e => RB r fun c => (c = true → Ok (mb e) Q) ∧ (c = false → Q (.d (.bool false)) e) := by
  unfold mAndV
  rw [ok_bnd]
  refine Iff.of_eq (congrArg _ (funext fun r => funext fun e1 => propext ?_))
  rcases r with (_ | b | _ | _ | _ | _ | _) | _ | _ <;> try exact Iff.rfl
  cases b <;> simp [RB, ok_ret]
theorem ok_orV {ma mb : M Rv} : Ok (mOrV ma mb env) Q ↔ Ok (ma env) fun r e => RB r fun c => (c = true → Q (.d (.bool true)) e) ∧ (c = false → Ok (mb e) Q) := by
  unfold mOrV
  rw [ok_bnd]
  refine Iff.of_eq (congrArg _ (funext fun r => funext fun e1 => propext ?_))
  rcases r with (_ | b | _ | _ | _ | _ | _) | _ | _ <;> try exact Iff.rfl
  cases b <;> simp [RB, ok_ret]
theorem ok_notV {ma : M Rv} : Ok (mNotV ma env) Q ↔ Ok (ma env) fun r e => RB r fun c => Q (.d (.bool (!c))) e := by
  unfold mNotV
  rw [ok_bnd]
  refine Iff.of_eq (congrArg _ (funext fun r => funext fun e1 => propext ?_))
  rcases r with (_ | b | _ | _ | _ | _ | _) | _ | _ <;> exact Iff.rfl
theorem ok_mif {t : M Bool} {ma mb : M Rv} : Ok (mIf t ma mb env) Q ↔ Ok (t env) fun c e => (c = true → Ok (ma e) Q) ∧ (c = false → Ok (mb e) Q) := by
  unfold mIf
  rw [ok_bnd]
  refine Iff.of_eq (congrArg _ (funext fun c => funext fun e1 => propext ?_))
  cases c <;> simp
theorem ok_nil : Ok (mNil env) QL ↔ QL [] env := Iff.rfl
theorem ok_cons {m : M Rv} {ms : M (List Rv)} : Ok (mCons m ms env) QL ↔ Ok (m env) fun r e => Ok (ms e) fun rs e2 => QL (r.frz :: rs) e2 := by
  unfold mCons
  rw [ok_bnd, ok_vm]
  refine Iff.of_eq (congrArg _ (funext fun c => funext fun e1 => propext ?_))
  exact ok_bnd
theorem ok_frz_d {d : D} : Ok (frzR (.d d) env) QD ↔ QD d env := Iff.rfl
theorem ok_frz_pl {i : Nat} : Ok (frzR (.pl i) env) QD ↔ Opt (env[i]?) fun o => Opt o fun o => match o with
    | .lst ds => QD (.list ds) (env.set i (some (.dat (.list ds))))
    | .dct _ => QD (.dict []) (env.set i (some (.dat (.dict []))))
    | .dat d => QD d env
    | .tpl _ => False := by
  show Ok (match env[i]? with
    | some (some (.lst ds)) => .ok (.list ds) (env.set i (some (.dat (.list ds))))
    | some (some (.dct _)) => .ok (.dict []) (env.set i (some (.dat (.dict []))))
    | some (some (.dat d)) => .ok d env
    | _ => .stuck) QD ↔ _
  rcases env[i]? with _ | _ | _ | _ | _ | _ <;> exact Iff.rfl
theorem ok_frzAll_nil {QL : List D → Env → Prop} : Ok (frzAll [] env) QL ↔ QL [] env := Iff.rfl
theorem ok_frzAll_cons {r : Rv} {rs : List Rv} {QL : List D → Env → Prop} : Ok (frzAll (r :: rs) env) QL ↔ Ok (frzR r env) fun d e => Ok (frzAll rs e) fun ds e2 => QL (d :: ds) e2 := by
  show Ok (bnd (frzR r) (fun d => bnd (frzAll rs) fun ds => ret (d :: ds)) env) QL ↔ _
  rw [ok_bnd]
  refine Iff.of_eq (congrArg _ (funext fun c => funext fun e1 => propext ?_))
  exact ok_bnd
theorem ok_tup {ms : M (List Rv)} : Ok (mTup ms env) Q ↔ Ok (ms env) fun rs e => Ok (frzAll rs e) fun ds e2 => Q (.d (.tuple ds)) e2 := by
  unfold mTup mFr
  rw [ok_bnd, ok_bnd]; exact Iff.rfl
theorem ok_lst {ms : M (List Rv)} : Ok (mLst ms env) Q ↔ Ok (ms env) fun rs e => Ok (frzAll rs e) fun ds e2 => Q (.own (.lst ds)) e2 := by
  unfold mLst mFr
  rw [ok_bnd, ok_bnd]; exact Iff.rfl
theorem ok_no {QO : Option Int → Env → Prop} : Ok (mNo env) QO ↔ QO none env := Iff.rfl
def RI (r : Rv) (K : Int → Prop) : Prop := match r with
  | .d (.int b) => K b
  | _ => False
theorem ri_i {b : Int} {K : Int → Prop} : RI (.d (.int b)) K ↔ K b := Iff.rfl
theorem ok_so {m : M Rv} {QO : Option Int → Env → Prop} : Ok (mSo m env) QO ↔ Ok (m env) fun r e => RI r.frz fun i => QO (some i) e := by
  unfold mSo
  rw [ok_bnd, ok_vm]
  refine Iff.of_eq (congrArg _ (funext fun r => funext fun e1 => propext ?_))
  generalize r.frz = r
  rcases r with (_ | b | _ | _ | _ | _ | _) | _ | _ <;> exact Iff.rfl
theorem ok_sl {m : M Rv} {lo hi : M (Option Int)} : Ok (mSl m lo hi env) Q ↔ Ok (m env) fun r e => Ok (lo e) fun l e1 => Ok (hi e1) fun u e2 => Opt (res e2 r.frz) fun x => Opt (gCut x l u) fun o => Q o.rv e2 := by
  unfold mSl
  rw [ok_bnd, ok_vm]
  refine Iff.of_eq (congrArg _ (funext fun r => funext fun e1 => propext ?_))
  rw [ok_bnd]
  refine Iff.of_eq (congrArg _ (funext fun l => funext fun e1 => propext ?_))
  rw [ok_bnd]
  refine Iff.of_eq (congrArg _ (funext fun u => funext fun e1 => propext ?_))
  cases res e1 r.frz with
  | none => exact Iff.rfl
  | some x =>
    simp only [opt_some]
    cases gCut x l u <;> exact Iff.rfl
theorem ok_cb {g : List D → Option Out} {ms : M (List Rv)} : Ok (mCB g ms env) Q ↔ Ok (ms env) fun rs e => Opt (resAll e rs) fun xs => Opt (g xs) fun o => Q o.rv e := by
  unfold mCB
  rw [ok_bnd]
  refine Iff.of_eq (congrArg _ (funext fun r => funext fun e1 => propext ?_))
  cases resAll e1 r with
  | none => exact Iff.rfl
  | some x =>
    simp only [opt_some]
    cases g x <;> exact Iff.rfl
theorem resAll_nil : resAll env [] = some [] := rfl
theorem resAll_cons {r : Rv} {rs : List Rv} : resAll env (r :: rs) = (res env r).bind fun d => (resAll env rs).map fun ds => d :: ds := by
  show (match res env r, resAll env rs with
    | some d, some ds => some (d :: ds)
    | _, _ => none) = _
  cases res env r <;> cases resAll env rs <;> rfl
theorem ok_call {io : List Nat} {F : M O} {ms : M (List Rv)} : Ok (mCall io F ms env) Q ↔ Ok (ms env) fun rs e => Opt (argOs io e 0 rs) fun cenv => apart (ioSlots io 0 rs) (lentSlots io 0 rs) = true ∧ Ok (F cenv) fun o ce => ((lentSlots io 0 rs).isEmpty || (o.flat && allFlat ce (ioSlots io 0 rs))) = true ∧ Opt (backEnv ce (ioSlots io 0 rs) e) fun e' => Q o.rv e' := by
  unfold mCall
  rw [ok_bnd]
  refine Iff.of_eq (congrArg _ (funext fun rs => funext fun e1 => propext ?_))
  cases argOs io e1 0 rs with
  | none => exact Iff.rfl
  | some cenv =>
    simp only [opt_some]
    by_cases ha : apart (ioSlots io 0 rs) (lentSlots io 0 rs) = true
    · simp only [ha, if_true, true_and]
      cases F cenv with
      | ex => simp only [ok_ex, iff_false]; intro h; split at h
              · split at h <;> exact h
              · exact h
      | stuck => exact Iff.rfl
      | ok o ce =>
        simp only [ok_ok]
        by_cases hf : ((lentSlots io 0 rs).isEmpty || (o.flat && allFlat ce (ioSlots io 0 rs))) = true
        · simp only [hf, if_true, true_and]
          cases backEnv ce (ioSlots io 0 rs) e1 <;> exact Iff.rfl
        · simp [hf, ok_stuck]
    · simp [ha, ok_stuck]
def seqQ (b : M Fl) (Q : Fl → Env → Prop) : Fl → Env → Prop
  | .nx, e => Ok (b e) Q
  | fl, e => Q fl e
theorem ok_seq {a b : M Fl} : Ok (mSeq a b env) QF ↔ Ok (a env) (seqQ b QF) := by
  unfold mSeq
  rw [ok_bnd]
  refine Iff.of_eq (congrArg _ (funext fun rs => funext fun e1 => propext ?_))
  cases rs <;> exact Iff.rfl
theorem seqQ_nx {b : M Fl} {e : Env} : seqQ b QF .nx e ↔ Ok (b e) QF := Iff.rfl
theorem seqQ_rt {b : M Fl} {e : Env} {o : O} : seqQ b QF (.rt o) e ↔ QF (.rt o) e := Iff.rfl
theorem seqQ_bk {b : M Fl} {e : Env} : seqQ b QF .bk e ↔ QF .bk e := Iff.rfl
theorem seqQ_ct {b : M Fl} {e : Env} : seqQ b QF .ct e ↔ QF .ct e := Iff.rfl
theorem ok_mEx {m : M Rv} : Ok (mEx m env) QF ↔ Ok (m env) fun _ e => QF .nx e := ok_bnd
def RO (io : List Nat) (e : Env) (r : Rv) (K : O → Prop) : Prop := match r with
  | .d x => K (.dat x)
  | .own o => K o
  | .pl i => io.contains i = false ∧ Opt (e[i]?) fun o => Opt o K
theorem ro_d {io : List Nat} {e : Env} {x : D} {K : O → Prop} : RO io e (.d x) K ↔ K (.dat x) := Iff.rfl
theorem ro_own {io : List Nat} {e : Env} {x : O} {K : O → Prop} : RO io e (.own x) K ↔ K x := Iff.rfl
theorem ro_pl {io : List Nat} {e : Env} {i : Nat} {K : O → Prop} : RO io e (.pl i) K ↔ io.contains i = false ∧ Opt (e[i]?) fun o => Opt o K := Iff.rfl
theorem ok_mRet {io : List Nat} {m : M Rv} : Ok (mRet io m env) QF ↔ Ok (m env) fun r e => RO io e r fun o => QF (.rt o) e := by
  unfold mRet
  rw [ok_bnd]
  refine Iff.of_eq (congrArg _ (funext fun r => funext fun e1 => propext ?_))
  cases r with
  | d x => exact Iff.rfl
  | own x => exact Iff.rfl
  | pl i =>
    simp only [ro_pl]
    cases io.contains i with
    | true => simp [ok_stuck]
    | false =>
      simp only [Bool.false_eq_true, if_false, true_and]
      rcases e1[i]? with _ | _ | _ <;> exact Iff.rfl
theorem ok_ite {t : M Bool} {a b : M Fl} : Ok (mIte t a b env) QF ↔ Ok (t env) fun c e => (c = true → Ok (a e) QF) ∧ (c = false → Ok (b e) QF) := by
  unfold mIte
  rw [ok_bnd]
  refine Iff.of_eq (congrArg _ (funext fun c => funext fun e1 => propext ?_))
  cases c <;> simp
theorem ok_set {i : Nat} {m : M Rv} : Ok (mSet i m env) QF ↔ Ok (m env) fun r e => Ok (setK i r e) QF := ok_bnd
theorem ok_setK_d {i : Nat} {x : D} : Ok (setK i (.d x) env) QF ↔ QF .nx (env.set i (some (.dat x))) := Iff.rfl
theorem ok_setK_own {i : Nat} {x : O} : Ok (setK i (.own x) env) QF ↔ QF .nx (env.set i (some x)) := Iff.rfl
theorem ok_setK_pl {i j : Nat} : Ok (setK i (.pl j) env) QF ↔ Ok (frzR (.pl j) env) fun d e => QF .nx (e.set i (some (.dat d))) := by
  show Ok (bnd (frzR (.pl j)) (fun d => bnd (setEnv i (.d d)) fun _ => ret .nx) env) QF ↔ _
  rw [ok_bnd]; exact Iff.rfl
def runQ (Q : O → Env → Prop) : Fl → Env → Prop
  | .rt o, e => Q o e
  | .nx, e => Q (.dat .none) e
  | _, _ => False
theorem ok_runF {n : Nat} {m : M Fl} {os : Env} {QO : O → Env → Prop} : Ok (runF n m os) QO ↔ Ok (m (os ++ List.replicate (n - os.length) none)) (runQ QO) := by
  unfold runF
  cases m (os ++ List.replicate (n - os.length) none) with
  | ex => exact Iff.rfl
  | stuck => exact Iff.rfl
  | ok fl e => cases fl <;> exact Iff.rfl
theorem runQ_rt {QO : O → Env → Prop} {o : O} {e : Env} : runQ QO (.rt o) e ↔ QO o e := Iff.rfl
theorem runQ_nx {QO : O → Env → Prop} {e : Env} : runQ QO .nx e ↔ QO (.dat .none) e := Iff.rfl
theorem frz_d {x : D} : Rv.frz (.d x) = .d x := rfl
theorem frz_lst {x : List D} : Rv.frz (.own (.lst x)) = .d (.list x) := rfl
theorem frz_dat {x : D} : Rv.frz (.own (.dat x)) = .d x := rfl
theorem frz_pl {i : Nat} : Rv.frz (.pl i) = .pl i := rfl
theorem res_d {x : D} : res env (.d x) = some x := rfl
theorem res_pl {i : Nat} : res env (.pl i) = match env[i]? with
  | some (some (.lst ds)) => some (.list ds)
  | _ => none := rfl
theorem rv_val {d : D} : Out.rv (.val d) = .d d := rfl
theorem rv_tup {d : List D} : Out.rv (.tup d) = .d (.tuple d) := rfl
theorem rv_lst {d : List D} : Out.rv (.lst d) = .own (.lst d) := rfl
theorem orv_dat {d : D} : O.rv (.dat d) = .d d := rfl
theorem orv_lst {d : List D} : O.rv (.lst d) = .own (.lst d) := rfl
theorem ok_neg {m : M Rv} : Ok (mNeg m env) Q ↔ Ok (m env) fun r e => RI r.frz fun i => Q (.d (.int (-i))) e := by
  unfold mNeg
  rw [ok_bnd, ok_vm]
  refine Iff.of_eq (congrArg _ (funext fun r => funext fun e1 => propext ?_))
  generalize r.frz = r
  rcases r with (_ | b | _ | _ | _ | _ | _) | _ | _ <;> exact Iff.rfl
theorem ok_lstR {m : M Rv} : Ok (mLstR m env) Q ↔ Ok (m env) fun r e => RI r.frz fun j => (0 ≤ j ∧ j ≤ 16777216) ∧ Q (.own (.lst (rngD 0 j.toNat))) e := by
  unfold mLstR
  rw [ok_bnd, ok_vm]
  refine Iff.of_eq (congrArg _ (funext fun r => funext fun e1 => propext ?_))
  generalize r.frz = r
  rcases r with (_ | b | j | _ | _ | _ | _) | _ | _ <;> try exact Iff.rfl
  simp only [ri_i]
  split
  · rename_i h; simp only [h, true_and, ok_ret, and_self]
  · rename_i h; simp only [h, false_and, ok_stk]
def lstAt (i : Nat) (e : Env) (K : List D → Prop) : Prop := match e[i]? with
  | some (some (.lst ds)) => K ds
  | _ => False
theorem lstAt_of {i : Nat} {e : Env} {K : List D → Prop} {ds : List D} (h : e[i]? = some (some (.lst ds))) : lstAt i e K ↔ K ds := by
  unfold lstAt; rw [h]
theorem ok_chkL {i : Nat} {QU : Unit → Env → Prop} : Ok (chkL i env) QU ↔ lstAt i env fun _ => QU () env := by
  unfold chkL lstAt
  rcases env[i]? with _ | _ | _ | _ | _ <;> exact Iff.rfl
theorem ok_mMet {i : Nat} {g : List D → List D → Option (D × List D)} {ms : M (List Rv)} : Ok (mMet i g ms env) Q ↔ lstAt i env fun _ => Ok (ms env) fun rs e => lstAt i e fun zs => Opt (resAll e rs) fun xs => Opt (g zs xs) fun p => Q (.d p.1) (e.set i (some (.lst p.2))) := by
  unfold mMet
  rw [ok_bnd, ok_chkL]
  refine Iff.of_eq (congrArg (lstAt i env) (funext fun _ => propext ?_))
  rw [ok_bnd]
  refine Iff.of_eq (congrArg _ (funext fun r => funext fun e1 => propext ?_))
  unfold lstAt
  rcases e1[i]? with _ | _ | _ | _ | _ <;> try exact Iff.rfl
  cases resAll e1 r with
  | none => exact Iff.rfl
  | some xs =>
    simp only [opt_some]
    rename_i zs
    rcases g zs xs with _ | ⟨_, _⟩ <;> exact Iff.rfl
theorem ok_mMetF {i : Nat} {g : List D → List D → Option (D × List D)} {ms : M (List Rv)} : Ok (mMetF i g ms env) Q ↔ lstAt i env fun _ => Ok (ms env) fun rs e => Ok (frzAll rs e) fun xs e => lstAt i e fun zs => Opt (g zs xs) fun p => Q (.d p.1) (e.set i (some (.lst p.2))) := by
  unfold mMetF mFr
  rw [ok_bnd, ok_chkL]
  refine Iff.of_eq (congrArg (lstAt i env) (funext fun _ => propext ?_))
  rw [ok_bnd, ok_bnd]
  refine Iff.of_eq (congrArg _ (funext fun r => funext fun e1 => propext ?_))
  refine Iff.of_eq (congrArg _ (funext fun xs => funext fun e1 => propext ?_))
  unfold lstAt
  rcases e1[i]? with _ | _ | _ | zs | _ <;> try exact Iff.rfl
  show Ok (match g zs xs with
    | some (d, zs') => Rs.ok (Rv.d d) (e1.set i (some (.lst zs')))
    | none => .stuck) Q ↔ Opt (g zs xs) fun p => Q (.d p.1) (e1.set i (some (.lst p.2)))
  rcases g zs xs with _ | ⟨_, _⟩ <;> exact Iff.rfl
theorem ok_store {j : Nat} {me mi : M Rv} : Ok (mStore j me mi env) QF ↔ Ok (me env) fun r e => lstAt j e fun _ => Ok (mi e) fun ri e => Ok (frzR r.frz e) fun y e => RI ri.frz fun k => lstAt j e fun ds => Opt (ixN ds.length k) fun n => QF .nx (e.set j (some (.lst (ds.set n y)))) := by
  unfold mStore
  rw [ok_bnd, ok_vm]
  refine Iff.of_eq (congrArg _ (funext fun r => funext fun e => propext ?_))
  rw [ok_bnd, ok_chkL]
  refine Iff.of_eq (congrArg (lstAt j e) (funext fun _ => propext ?_))
  rw [ok_bnd, ok_vm]
  refine Iff.of_eq (congrArg _ (funext fun ri => funext fun e => propext ?_))
  rw [ok_bnd]
  refine Iff.of_eq (congrArg _ (funext fun y => funext fun e => propext ?_))
  generalize ri.frz = ri
  unfold lstAt
  rcases ri with (_ | b | k | _ | _ | _ | _) | _ | _ <;> try exact Iff.rfl
  simp only [ri_i]
  rcases e[j]? with _ | _ | _ | ds | _ <;> try exact Iff.rfl
  show Ok (match ixN ds.length k with
    | some n => Rs.ok Fl.nx (e.set j (some (.lst (ds.set n y))))
    | none => .stuck) QF ↔ Opt (ixN ds.length k) fun n => QF .nx (e.set j (some (.lst (ds.set n y))))
  cases ixN ds.length k <;> exact Iff.rfl
/-! #### walks -/
theorem ok_mFor {it : M Wk} {tg : Tg} {body : M Fl} : Ok (mFor it tg body env) QF ↔ Ok (it env) fun w e => Ok (forL tg w.src body w.items e) QF := ok_bnd
def forQ (I : Env → Prop) (Q : Fl → Env → Prop) : Fl → Env → Prop
  | .nx, e => I e
  | .ct, e => I e
  | .bk, e => Q .nx e
  | .rt o, e => Q (.rt o) e
theorem forQ_nx {I : Env → Prop} {e : Env} : forQ I QF .nx e ↔ I e := Iff.rfl
theorem forQ_ct {I : Env → Prop} {e : Env} : forQ I QF .ct e ↔ I e := Iff.rfl
theorem forQ_bk {I : Env → Prop} {e : Env} : forQ I QF .bk e ↔ QF .nx e := Iff.rfl
theorem forQ_rt {I : Env → Prop} {e : Env} {o : O} : forQ I QF (.rt o) e ↔ QF (.rt o) e := Iff.rfl
theorem ok_forL {tg : Tg} {src : Option (Nat × List D)} {body : M Fl} (I : List D → Env → Prop) (hend : ∀ e, I [] e → srcOk e src = true ∧ QF .nx e)
    (hstep : ∀ d ds e, I (d :: ds) e → srcOk e src = true ∧ Opt (asgT tg d e) fun e1 => Ok (body e1) (forQ (I ds) QF)) : ∀ {ds : List D} {env : Env}, I ds env → Ok (forL tg src body ds env) QF
  | [], env, h => by
    unfold forL
    rw [if_pos (hend env h).1]
    exact (hend env h).2
  | d :: ds, env, h => by
    obtain ⟨h1, h2⟩ := hstep d ds env h
    obtain ⟨e1, q1, h2⟩ := h2.get
    obtain ⟨fl, e2, q2, h2⟩ := h2.get
    unfold forL
    simp only [h1, if_true, q1, q2]
    cases fl with
    | nx => exact ok_forL I hend hstep (ds := ds) h2
    | ct => exact ok_forL I hend hstep (ds := ds) h2
    | bk => exact h2
    | rt o => exact h2
theorem ok_mLc {it : M Wk} {tg : Tg} {tt : M Bool} {te : M Rv} {vs : List Nat} : Ok (mLc it tg tt te vs env) Q ↔ Ok (it env) fun w e => (ownFree e vs = true ∧ w.items.length ≤ sizeLine) ∧ Ok (lcL tg w.src tt te vs w.items [] (wipeE e vs)) fun acc e2 => Q (.own (.lst acc)) (restE e e2 vs) := by
  unfold mLc
  rw [ok_bnd]
  refine Iff.of_eq (congrArg _ (funext fun w => funext fun e => propext ?_))
  split
  · rename_i h
    simp only [h, true_and, and_self]
    cases lcL tg w.src tt te vs w.items [] (wipeE e vs) <;> exact Iff.rfl
  · rename_i h
    simp only [h, false_and, ok_stuck]
theorem ok_lcL {tg : Tg} {src : Option (Nat × List D)} {tt : M Bool} {te : M Rv} {vs : List Nat} {QL : List D → Env → Prop} (I : List D → List D → Env → Prop) (hend : ∀ acc e, I [] acc e → srcOk e src = true ∧ QL acc e)
    (hstep : ∀ d ds acc e, I (d :: ds) acc e → srcOk e src = true ∧ Opt (asgT tg d e) fun e1 => Ok (tt e1) fun b e2 =>
      (b = true → Ok (te e2) fun r e3 => Ok (frzR r.frz e3) fun y e4 => ownFree e4 vs = true ∧ I ds (acc ++ [y]) (wipeE e4 vs)) ∧ (b = false → ownFree e2 vs = true ∧ I ds acc (wipeE e2 vs))) :
    ∀ {ds acc : List D} {env : Env}, I ds acc env → Ok (lcL tg src tt te vs ds acc env) QL
  | [], acc, env, h => by
    unfold lcL
    rw [if_pos (hend acc env h).1]
    exact (hend acc env h).2
  | d :: ds, acc, env, h => by
    obtain ⟨h1, h2⟩ := hstep d ds acc env h
    obtain ⟨e1, q1, h2⟩ := h2.get
    obtain ⟨b, e2, q2, h2⟩ := h2.get
    unfold lcL
    simp only [h1, if_true, q1, q2]
    cases b with
    | false =>
      simp only [(h2.2 rfl).1, if_true]
      exact ok_lcL I hend hstep (ds := ds) (h2.2 rfl).2
    | true =>
      have h3 : Ok ((bnd (vm te) frzR) e2) fun y e4 => ownFree e4 vs = true ∧ I ds (acc ++ [y]) (wipeE e4 vs) := by
        rw [ok_bnd, ok_vm]; exact h2.1 rfl
      obtain ⟨y, e4, q4, h3⟩ := h3.get
      simp only [q4, h3.1, if_true]
      exact ok_lcL I hend hstep (ds := ds) h3.2
/-- a walk that changes nothing -/
theorem ok_lcP {tg : Tg} {src : Option (Nat × List D)} {tt : M Bool} {te : M Rv} {vs : List Nat} {QL : List D → Env → Prop} (t : D → Bool) (f : D → D) {items : List D} {e0 : Env} (hs : srcOk e0 src = true)
    (hstep : ∀ d ∈ items, Opt (asgT tg d e0) fun e1 => Ok (tt e1) fun b e2 => b = t d ∧
      (b = true → Ok (te e2) fun r e3 => Ok (frzR r.frz e3) fun y e4 => y = f d ∧ ownFree e4 vs = true ∧ wipeE e4 vs = e0) ∧ (b = false → ownFree e2 vs = true ∧ wipeE e2 vs = e0))
    (hq : QL ((items.filter t).map f) e0) : Ok (lcL tg src tt te vs items [] e0) QL := by
  refine ok_lcL (fun ds acc e => e = e0 ∧ ∃ ys, items = ys ++ ds ∧ acc = (ys.filter t).map f) ?_ ?_ ⟨rfl, [], rfl, rfl⟩
  · rintro acc e ⟨rfl, ys, rfl, rfl⟩
    rw [List.append_nil] at hq
    exact ⟨hs, hq⟩
  · rintro d ds acc e ⟨rfl, ys, rfl, rfl⟩
    refine ⟨hs, (hstep d (by simp)).mono fun e1 h1 => h1.mono fun b e2 h2 => ?_⟩
    obtain ⟨rfl, h2, h3⟩ := h2
    refine ⟨fun hb => (h2 hb).mono fun r e3 h3 => h3.mono fun y e4 h4 => ?_, fun hb => ?_⟩
    · obtain ⟨rfl, h4, h5⟩ := h4
      exact ⟨h4, h5, ys ++ [d], by simp, by simp [hb]⟩
    · exact ⟨(h3 hb).1, (h3 hb).2, ys ++ [d], by simp, by simp [hb]⟩
theorem ok_mWk {js : List Nat} {m : M Rv} {QW : Wk → Env → Prop} : Ok (mWk js m env) QW ↔ Ok (m env) fun r e => Opt (wkOf js e r.frz) fun w => QW w e := by
  unfold mWk
  rw [ok_bnd, ok_vm]
  refine Iff.of_eq (congrArg _ (funext fun r => funext fun e => propext ?_))
  cases wkOf js e r.frz <;> exact Iff.rfl
theorem wkOf_str {js : List Nat} {z : Str} : wkOf js env (.d (.str z)) = some ⟨txtD z, none⟩ := rfl
theorem wkOf_list {js : List Nat} {ds : List D} : wkOf js env (.d (.list ds)) = some ⟨ds, none⟩ := rfl
theorem wkOf_tuple {js : List Nat} {ds : List D} : wkOf js env (.d (.tuple ds)) = some ⟨ds, none⟩ := rfl
theorem wkOf_pl {js : List Nat} {i : Nat} : wkOf js env (.pl i) = if js.contains i = true then match env[i]? with
    | some (some (.lst ds)) => some ⟨ds, some (i, ds)⟩
    | _ => none
    else none := by
  unfold wkOf seqOf
  by_cases h : js.contains i = true
  · simp only [h, if_true]
    rcases env[i]? with _ | _ | _ | _ | _ <;> rfl
  · simp only [h, if_false]; rfl
def rsI (rs : List Rv) (K : Int → Prop) : Prop := match rs with
  | [.d (.int j)] => K j
  | _ => False
theorem rsI_i {j : Int} {K : Int → Prop} : rsI [.d (.int j)] K ↔ K j := Iff.rfl
theorem ok_rng1 {ms : M (List Rv)} {QW : Wk → Env → Prop} : Ok (mRng1 ms env) QW ↔ Ok (ms env) fun rs e => rsI rs fun j => (-(2 ^ 62) ≤ j ∧ j < 2 ^ 62) ∧ QW ⟨rngD 0 j.toNat, none⟩ e := by
  unfold mRng1
  rw [ok_bnd]
  refine Iff.of_eq (congrArg _ (funext fun rs => funext fun e => propext ?_))
  rcases rs with _ | ⟨(_ | _ | j | _ | _ | _ | _) | _ | _, _ | ⟨_, _⟩⟩ <;> try exact Iff.rfl
  simp only [rsI_i]
  split
  · rename_i h; simp only [h, true_and, ok_ret, and_self]
  · rename_i h; simp only [h, false_and, ok_stk]
def rsI2 (rs : List Rv) (K : Int → Int → Prop) : Prop := match rs with
  | [.d (.int i), .d (.int j)] => K i j
  | _ => False
theorem rsI2_i {i j : Int} {K : Int → Int → Prop} : rsI2 [.d (.int i), .d (.int j)] K ↔ K i j := Iff.rfl
theorem ok_rng2 {ms : M (List Rv)} {QW : Wk → Env → Prop} : Ok (mRng2 ms env) QW ↔ Ok (ms env) fun rs e => rsI2 rs fun i j => (-(2 ^ 62) ≤ i ∧ i < 2 ^ 62 ∧ -(2 ^ 62) ≤ j ∧ j < 2 ^ 62) ∧ QW ⟨rngD i (j - i).toNat, none⟩ e := by
  unfold mRng2
  rw [ok_bnd]
  refine Iff.of_eq (congrArg _ (funext fun rs => funext fun e => propext ?_))
  unfold rsI2
  split
  · split
    · rename_i h; simp only [h, true_and, ok_ret, and_self]
    · rename_i h; simp only [h, false_and, ok_stk]
  · rename_i h
    first
      | exact Iff.rfl
      | exact ok_stk
      | (split
         · exact absurd rfl (h _ _)
         · exact Iff.rfl)
def rsI3 (rs : List Rv) (K : Int → Int → Prop) : Prop := match rs with
  | [.d (.int i), .d (.int j), .d (.int (-1))] => K i j
  | _ => False
theorem rsI3_i {i j : Int} {K : Int → Int → Prop} : rsI3 [.d (.int i), .d (.int j), .d (.int (-1))] K ↔ K i j := Iff.rfl
theorem ok_rng3 {ms : M (List Rv)} {QW : Wk → Env → Prop} : Ok (mRng3 ms env) QW ↔ Ok (ms env) fun rs e => rsI3 rs fun i j => (-(2 ^ 62) ≤ i ∧ i < 2 ^ 62 ∧ -(2 ^ 62) ≤ j ∧ j < 2 ^ 62) ∧ QW ⟨rngCD i (-1) (i - j).toNat, none⟩ e := by
  unfold mRng3
  rw [ok_bnd]
  refine Iff.of_eq (congrArg _ (funext fun rs => funext fun e => propext ?_))
  unfold rsI3
  split
  · split
    · rename_i h; simp only [h, true_and, ok_ret, and_self]
    · rename_i h; simp only [h, false_and, ok_stk]
  · rename_i h
    first
      | exact Iff.rfl
      | exact ok_stk
      | (split
         · exact absurd rfl (h _ _)
         · exact Iff.rfl)
theorem ok_enu {js : List Nat} {ms : M (List Rv)} {QW : Wk → Env → Prop} : Ok (mEnu js ms env) QW ↔ Ok (ms env) fun rs e => match rs with
    | [r] => Opt (seqOf js e r) fun p => QW ⟨enumD p.2.1, p.2.2⟩ e
    | _ => False := by
  unfold mEnu
  rw [ok_bnd]
  refine Iff.of_eq (congrArg _ (funext fun rs => funext fun e => propext ?_))
  rcases rs with _ | ⟨r, _ | ⟨_, _⟩⟩ <;> try exact Iff.rfl
  show Ok (match seqOf js e r with
    | some (_, ds, src) => Rs.ok ⟨enumD ds, src⟩ e
    | none => .stuck) QW ↔ Opt (seqOf js e r) fun p => QW ⟨enumD p.2.1, p.2.2⟩ e
  rcases seqOf js e r with _ | ⟨_, _, _⟩ <;> exact Iff.rfl
theorem ok_zip {js : List Nat} {ms : M (List Rv)} {QW : Wk → Env → Prop} : Ok (mZip js ms env) QW ↔ Ok (ms env) fun rs e => match rs with
    | [r, r2] => Opt (seqOf js e r) fun p => Opt (seqOf [] e r2) fun q => QW ⟨zipD p.2.1 q.2.1, p.2.2⟩ e
    | _ => False := by
  unfold mZip
  rw [ok_bnd]
  refine Iff.of_eq (congrArg _ (funext fun rs => funext fun e => propext ?_))
  rcases rs with _ | ⟨r, _ | ⟨r2, _ | ⟨_, _⟩⟩⟩ <;> try exact Iff.rfl
  show Ok (match seqOf js e r, seqOf [] e r2 with
    | some (_, ds, src), some (_, es, _) => Rs.ok ⟨zipD ds es, src⟩ e
    | _, _ => .stuck) QW ↔ Opt (seqOf js e r) fun p => Opt (seqOf [] e r2) fun q => QW ⟨zipD p.2.1 q.2.1, p.2.2⟩ e
  rcases seqOf js e r with _ | ⟨_, _, _⟩ <;> rcases seqOf [] e r2 with _ | ⟨_, _, _⟩ <;> exact Iff.rfl
theorem seqOf_list {js : List Nat} {ds : List D} : seqOf js env (.d (.list ds)) = some (true, ds, none) := rfl
theorem seqOf_tuple {js : List Nat} {ds : List D} : seqOf js env (.d (.tuple ds)) = some (false, ds, none) := rfl
theorem seqOf_pl {js : List Nat} {i : Nat} : seqOf js env (.pl i) = if js.contains i = true then match env[i]? with
    | some (some (.lst ds)) => some (true, ds, some (i, ds))
    | _ => none
    else none := rfl
theorem ok_setE {f : List Int ⊕ List Str → Rv} {m : M Rv} : Ok (mSetE f m env) Q ↔ Ok (m env) fun r e => Opt ((res e r.frz).bind seqD) fun ds => Opt (setOf ds) fun z => Q (f z) e := by
  unfold mSetE
  rw [ok_bnd, ok_vm]
  refine Iff.of_eq (congrArg _ (funext fun r => funext fun e => propext ?_))
  cases (res e r.frz).bind seqD with
  | none => exact Iff.rfl
  | some ds =>
    simp only [opt_some]
    cases setOf ds <;> exact Iff.rfl
theorem ok_back {m : M Rv} : Ok (mBack m env) Q ↔ Ok (m env) fun r e => Opt (res e r.frz) fun x => match x with
    | .list ds => Q (.own (.lst ds.reverse)) e
    | .tuple ds => Q (.d (.tuple ds.reverse)) e
    | _ => False := by
  unfold mBack
  rw [ok_bnd, ok_vm]
  refine Iff.of_eq (congrArg _ (funext fun r => funext fun e => propext ?_))
  rcases res e r.frz with _ | (_ | _ | _ | _ | _ | _ | _) <;> exact Iff.rfl
def RS (r : Rv) (K : Str → Prop) : Prop := match r with
  | .d (.str b) => K b
  | _ => False
theorem rs_s {b : Str} {K : Str → Prop} : RS (.d (.str b)) K ↔ K b := Iff.rfl
theorem ok_tx0 {g : Str → Option Out} {m : M Rv} : Ok (mTx0 g m env) Q ↔ Ok (m env) fun r e => RS r.frz fun z => Opt (g z) fun o => Q o.rv e := by
  unfold mTx0
  rw [ok_bnd, ok_vm]
  refine Iff.of_eq (congrArg _ (funext fun r => funext fun e => propext ?_))
  generalize r.frz = r
  rcases r with (_ | _ | _ | z | _ | _ | _) | _ | _ <;> try exact Iff.rfl
  show Ok (match g z with
    | some o => Rs.ok o.rv e
    | none => .stuck) Q ↔ Opt (g z) fun o => Q o.rv e
  cases g z <;> exact Iff.rfl
theorem ok_tx1 {g : Str → D → Option Out} {m me : M Rv} : Ok (mTx1 g m me env) Q ↔ Ok (m env) fun r e => RS r.frz fun z => Ok (me e) fun r2 e => Opt (res e r2.frz) fun x => Opt (g z x) fun o => Q o.rv e := by
  unfold mTx1
  rw [ok_bnd, ok_vm]
  refine Iff.of_eq (congrArg _ (funext fun r => funext fun e => propext ?_))
  generalize r.frz = r
  rcases r with (_ | _ | _ | z | _ | _ | _) | _ | _ <;> try exact Iff.rfl
  show Ok (bnd (vm me) (fun re env => match res env re with
    | some x => match g z x with
      | some o => .ok o.rv env
      | none => .stuck
    | none => .stuck) e) Q ↔ Ok (me e) fun r2 e => Opt (res e r2.frz) fun x => Opt (g z x) fun o => Q o.rv e
  rw [ok_bnd, ok_vm]
  refine Iff.of_eq (congrArg _ (funext fun r => funext fun e => propext ?_))
  cases res e r.frz with
  | none => exact Iff.rfl
  | some x =>
    simp only [opt_some]
    cases g z x <;> exact Iff.rfl
theorem ok_dic1 {m : M Rv} : Ok (mDic1 m env) Q ↔ Ok (m env) fun r e => Ok (frzR r.frz e) fun _ e => Q (.d (.dict [])) e := by
  unfold mDic1
  rw [ok_bnd, ok_vm]
  refine Iff.of_eq (congrArg _ (funext fun r => funext fun e => propext ?_))
  exact ok_bnd
def lst1 (x : D) (K : List D → Prop) : Prop := match x with
  | .list xs => K xs
  | _ => False
theorem lst1_l {xs : List D} {K : List D → Prop} : lst1 (.list xs) K ↔ K xs := Iff.rfl
def datAt (i : Nat) (e : Env) (K : D → Prop) : Prop := match e[i]? with
  | some (some (.dat d)) => K d
  | _ => False
theorem ok_sortK {neg : Bool} {jc : Nat} {i j : Int} {m : M Rv} : Ok (mSortK neg jc i j m env) Q ↔ Ok (m env) fun r e => Opt (res e r.frz) fun x => lst1 x fun xs => datAt jc e fun hs => Opt (keysOf (keyOf neg i j hs) xs) fun bs => xs.length ≤ sizeLine ∧ Q (.own (.lst (sortK bs))) e := by
  unfold mSortK
  rw [ok_bnd, ok_vm]
  refine Iff.of_eq (congrArg _ (funext fun r => funext fun e => propext ?_))
  cases res e r.frz with
  | none => exact Iff.rfl
  | some x =>
    cases x <;> try exact Iff.rfl
    rename_i xs
    simp only [opt_some, lst1_l]
    unfold datAt
    rcases e[jc]? with _ | _ | hs | _ | _ | _ <;> try exact Iff.rfl
    show Ok (match keysOf (keyOf neg i j hs) xs with
      | some bs => if xs.length ≤ sizeLine then .ok (.own (.lst (sortK bs))) e else .stuck
      | none => .stuck) Q ↔ Opt (keysOf (keyOf neg i j hs) xs) fun bs => xs.length ≤ sizeLine ∧ Q (.own (.lst (sortK bs))) e
    cases keysOf (keyOf neg i j hs) xs with
    | none => exact Iff.rfl
    | some bs =>
      simp only [opt_some]
      by_cases h : xs.length ≤ sizeLine
      · simp only [h, if_true, true_and, ok_ok]
      · simp only [h, if_false, false_and, ok_stuck]
theorem ok_maxK {neg : Bool} {jc : Nat} {i j : Int} {m : M Rv} : Ok (mMaxK neg jc i j m env) Q ↔ Ok (m env) fun r e => Opt (res e r.frz) fun x => lst1 x fun xs => datAt jc e fun hs => Opt (keysOf (keyOf neg i j hs) xs) fun bs => xs.length ≤ sizeLine ∧ Q (.d (maxK bs)) e := by
  unfold mMaxK
  rw [ok_bnd, ok_vm]
  refine Iff.of_eq (congrArg _ (funext fun r => funext fun e => propext ?_))
  cases res e r.frz with
  | none => exact Iff.rfl
  | some x =>
    cases x <;> try exact Iff.rfl
    rename_i xs
    simp only [opt_some, lst1_l]
    unfold datAt
    rcases e[jc]? with _ | _ | hs | _ | _ <;> try exact Iff.rfl
    show Ok (match keysOf (keyOf neg i j hs) xs with
      | some bs => if xs.length ≤ sizeLine then .ok (.d (maxK bs)) e else .stuck
      | none => .stuck) Q ↔ Opt (keysOf (keyOf neg i j hs) xs) fun bs => xs.length ≤ sizeLine ∧ Q (.d (maxK bs)) e
    cases keysOf (keyOf neg i j hs) xs with
    | none => exact Iff.rfl
    | some bs =>
      simp only [opt_some]
      by_cases h : xs.length ≤ sizeLine
      · simp only [h, if_true, true_and, ok_ok]
      · simp only [h, if_false, false_and, ok_stuck]
def RD1 (r : Rv) (K : D → Prop) : Prop := match r with
  | .d x => K x
  | _ => False
theorem rd1_d {x : D} {K : D → Prop} : RD1 (.d x) K ↔ K x := Iff.rfl
theorem ok_mTgt {tg : Tg} {m : M Rv} : Ok (mTgt tg m env) QF ↔ Ok (m env) fun r e => RD1 r.frz fun x => Opt (asgT tg x e) fun e' => QF .nx e' := by
  unfold mTgt
  rw [ok_bnd, ok_vm]
  refine Iff.of_eq (congrArg _ (funext fun r => funext fun e => propext ?_))
  generalize r.frz = r
  cases r with
  | d x =>
    show Ok (match asgT tg x e with
      | some env' => Rs.ok Fl.nx env'
      | none => .stuck) QF ↔ Opt (asgT tg x e) fun e' => QF .nx e'
    cases asgT tg x e <;> exact Iff.rfl
  | own o => exact Iff.rfl
  | pl i => exact Iff.rfl
theorem ok_isN {neg : Bool} {m : M Rv} : Ok (mIsN neg m env) Q ↔ Ok (m env) fun r e => RD1 r.frz fun x => Q (.d (.bool (xor neg (isNoneR (.d x))))) e := by
  unfold mIsN
  rw [ok_bnd, ok_vm]
  refine Iff.of_eq (congrArg _ (funext fun r => funext fun e => propext ?_))
  generalize r.frz = r
  cases r <;> exact Iff.rfl
theorem ok_maxD {d : Int} {m : M Rv} : Ok (mMaxD d m env) Q ↔ Ok (m env) fun r e => Opt (res e r.frz) fun x => lst1 x fun xs => Opt (intsD xs) fun ns => xs.length ≤ sizeLine ∧ Q (.d (.int (maxI d ns))) e := by
  unfold mMaxD
  rw [ok_bnd, ok_vm]
  refine Iff.of_eq (congrArg _ (funext fun r => funext fun e => propext ?_))
  cases res e r.frz with
  | none => exact Iff.rfl
  | some x =>
    cases x <;> try exact Iff.rfl
    rename_i xs
    simp only [opt_some, lst1_l]
    cases intsD xs with
    | none => exact Iff.rfl
    | some ns =>
      simp only [opt_some]
      by_cases h : xs.length ≤ sizeLine
      · simp only [h, if_true, true_and, ok_ok]
      · simp only [h, if_false, false_and, ok_stuck]
/-- a walk under a condition, with what goes down -/
theorem ok_whileL {t : M Bool} {body : M Fl} (I : Nat → Env → Prop) (hstep : ∀ k e, I k e → Ok (t e) fun c e2 => (c = true → 0 < k ∧ Ok (body e2) (forQ (fun e3 => ∃ k', k' < k ∧ I k' e3) QF)) ∧ (c = false → QF .nx e2)) :
    ∀ {n k : Nat} {env : Env}, k < n → I k env → Ok (whileL t body n env) QF
  | 0, k, env, hk, h => by omega
  | n + 1, k, env, hk, h => by
    unfold whileL
    rw [ok_bnd]
    refine (hstep k env h).mono fun c e2 h2 => ?_
    cases c with
    | false => exact h2.2 rfl
    | true =>
      obtain ⟨hk0, h3⟩ := h2.1 rfl
      show Ok (bnd body (fun fl => match fl with
        | .nx => whileL t body n
        | .ct => whileL t body n
        | .bk => ret .nx
        | .rt o => ret (.rt o)) e2) QF
      rw [ok_bnd]
      refine h3.mono fun fl e3 h4 => ?_
      cases fl with
      | nx =>
        obtain ⟨k', h5, h6⟩ := (show ∃ k', k' < k ∧ I k' e3 from h4)
        exact ok_whileL I hstep (by omega) h6
      | ct =>
        obtain ⟨k', h5, h6⟩ := (show ∃ k', k' < k ∧ I k' e3 from h4)
        exact ok_whileL I hstep (by omega) h6
      | bk => exact h4
      | rt o => exact h4
theorem set_getD {i : Nat} (hi : i < env.length) : env.set i (env[i]) = env := List.set_getElem_self hi
def noOwn (x : Option O) : Prop := x = none ∨ ∃ d, x = some (.dat d)
theorem ok_frz_any {i : Nat} {QU : Unit → Env → Prop} (hi : i < env.length) (h : ∀ x, noOwn x → QU () (env.set i x)) : Ok (frzV i env) QU := by
  have e : env[i]? = some env[i] := List.getElem?_eq_getElem hi
  unfold frzV
  rw [e]
  cases q : env[i] with
  | none =>
    show QU () env
    have := h env[i] (.inl q)
    rw [set_getD hi] at this
    exact this
  | some o =>
    cases o with
    | dat d =>
      show QU () env
      have := h env[i] (.inr ⟨d, q⟩)
      rw [set_getD hi] at this
      exact this
    | lst ds => exact h _ (.inr ⟨_, rfl⟩)
    | dct kv => exact h _ (.inr ⟨_, rfl⟩)
    | tpl ds => exact h _ (.inr ⟨_, rfl⟩)
end
end Mi

set_option Elab.async false
set_option linter.all false
set_option maxRecDepth 20000
namespace Mi
open PySem PySem.Spec L2
/-! ### the calculus: a, b = x, y; x[::e] -/
section
variable {env : Env} {QF : Fl → Env → Prop} {Q : Rv → Env → Prop}
theorem ok_dz_d {d : D} : Ok (dz (.d d) env) Q ↔ Q (.d d) env := Iff.rfl
theorem ok_dz_own {o : O} : Ok (dz (.own o) env) Q ↔ Q (.own o) env := Iff.rfl
theorem ok_dz_pl {i : Nat} : Ok (dz (.pl i) env) Q ↔ Ok (frzR (.pl i) env) fun d e => Q (.d d) e := by
  unfold dz
  rw [ok_bnd]
  exact Iff.rfl
theorem ok_mPar {i j : Nat} {ma mb : M Rv} : Ok (mPar i j ma mb env) QF ↔ Ok (ma env) fun r e => Ok (dz r e) fun r1 e1 => Ok (mb e1) fun q e2 => Ok (dz q e2) fun q1 e3 => QF .nx ((e3.set i (some (rO r1))).set j (some (rO q1))) := by
  unfold mPar mOw
  rw [ok_bnd, ok_bnd]
  refine Iff.of_eq (congrArg _ (funext fun r => funext fun e => congrArg _ (funext fun r1 => funext fun e1 => propext ?_)))
  rw [ok_bnd, ok_bnd]
  exact Iff.rfl
theorem ok_mStep {m me : M Rv} : Ok (mStep m me env) Q ↔ Ok (m env) fun r e => Ok (mSo me e) fun o e2 => Opt (res e2 r.frz) fun d => match d with
    | .list ds => (o = some 1 ∧ Q (.own (.lst ds)) e2) ∨ (o = some (-1) ∧ Q (.own (.lst ds.reverse)) e2)
    | _ => False := by
  unfold mStep
  rw [ok_bnd, ok_vm]
  refine Iff.of_eq (congrArg _ (funext fun r => funext fun e => propext ?_))
  rw [ok_bnd]
  refine Iff.of_eq (congrArg _ (funext fun o => funext fun e2 => propext ?_))
  cases res e2 r.frz with
  | none => exact Iff.rfl
  | some d =>
    cases d <;> try exact Iff.rfl
    rename_i ds
    show Ok (if o = some 1 then _ else if o = some (-1) then _ else _) Q ↔ _
    by_cases h : o = some 1
    · subst h
      rw [if_pos rfl]
      show Q _ _ ↔ (_ ∧ Q _ _) ∨ _
      simp
    · rw [if_neg h]
      by_cases h2 : o = some (-1)
      · subst h2
        rw [if_pos rfl]
        show Q _ _ ↔ _ ∨ (_ ∧ Q _ _)
        simp
      · rw [if_neg h2]
        show False ↔ _
        simp [h, h2, Opt]
theorem ok_mTupR {ma mb : M Rv} : Ok (mTupR ma mb env) Q ↔ Ok (ma env) fun r e => Ok (mb e) fun r2 e2 => RI r.frz fun i => RI r2.frz fun j => (0 ≤ i ∧ i ≤ 16777216 ∧ 0 ≤ j ∧ j ≤ 16777216) ∧ Q (.d (.tuple (rngD i (j - i).toNat))) e2 := by
  unfold mTupR
  rw [ok_bnd, ok_vm]
  refine Iff.of_eq (congrArg _ (funext fun r => funext fun e => propext ?_))
  rw [ok_bnd, ok_vm]
  refine Iff.of_eq (congrArg _ (funext fun r2 => funext fun e2 => propext ?_))
  generalize r.frz = r
  generalize r2.frz = r2
  rcases r with (_ | b | i | _ | _ | _ | _) | _ | _ <;> try exact Iff.rfl
  rcases r2 with (_ | b | j | _ | _ | _ | _) | _ | _ <;> try exact Iff.rfl
  simp only [ri_i]
  split
  · rename_i h; simp only [h, true_and, ok_ret, and_self]
  · rename_i h; simp only [h, false_and]; exact Iff.rfl
theorem ok_mCh {g1 g2 : Int → Int → Bool} {ma mb mc : M Rv} {QB : Bool → Env → Prop} : Ok (mCh g1 g2 ma mb mc env) QB ↔ Ok (ma env) fun r e => Ok (mb e) fun r2 e2 => RI r.frz fun i => RI r2.frz fun j =>
    (g1 i j = true → Ok (mc e2) fun r3 e3 => RI r3.frz fun k => QB (g2 j k) e3) ∧ (g1 i j = false → QB false e2) := by
  unfold mCh
  rw [ok_bnd, ok_vm]
  refine Iff.of_eq (congrArg _ (funext fun r => funext fun e => propext ?_))
  rw [ok_bnd, ok_vm]
  refine Iff.of_eq (congrArg _ (funext fun r2 => funext fun e2 => propext ?_))
  generalize r.frz = r
  generalize r2.frz = r2
  rcases r with (_ | b | i | _ | _ | _ | _) | _ | _ <;> try exact Iff.rfl
  rcases r2 with (_ | b | j | _ | _ | _ | _) | _ | _ <;> try exact Iff.rfl
  simp only [ri_i]
  cases hg : g1 i j with
  | false =>
    simp only [Bool.false_eq_true, if_false, false_implies, true_and, true_implies]
    exact Iff.rfl
  | true =>
    simp only [if_true, true_implies, Bool.true_eq_false, false_implies, and_true]
    rw [ok_bnd, ok_vm]
    refine Iff.of_eq (congrArg _ (funext fun r3 => funext fun e3 => propext ?_))
    generalize r3.frz = r3
    rcases r3 with (_ | b | k | _ | _ | _ | _) | _ | _ <;> exact Iff.rfl
end
end Mi

set_option Elab.async false
set_option linter.all false
set_option maxRecDepth 100000
set_option autoImplicit false
namespace Mi
open PySem PySem.Spec L2
/-! ### a dict of a slot: {}, k not in d, d[k] = v -/
def putD (kds : List (Key × D)) (k : Key) (d : D) : List (Key × D) :=
  if (kds.any fun q => decide (q.1 = k)) = true then kds.map (fun q => if q.1 = k then (q.1, d) else q) else kds ++ [(k, d)]
def hasKey (kds : List (Key × D)) (k : Key) : Bool := kds.any fun q => decide (q.1 = k)
def mDNew : M Rv := ret (.own (.dct []))
def mDNotIn (j : Nat) (me : M Rv) : M Bool := bnd (vm me) fun r env => match r, env[j]? with
  | .d (.int k), some (some (.dct kds)) => .ok (!hasKey kds (.inl k)) env
  | _, _ => .stuck
def chkD (j : Nat) : M Unit := fun env => match env[j]? with
  | some (some (.dct _)) => .ok () env
  | _ => .stuck
def mDPut (j : Nat) (mi mv : M Rv) : M Fl := bnd (vm mv) fun rv => bnd (chkD j) fun _ => bnd (vm mi) fun ri env => match rv, ri, env[j]? with
  | .d d, .d (.int k), some (some (.dct kds)) => if kds.length < sizeLine then .ok .nx (env.set j (some (.dct (putD kds (.inl k) d)))) else .stuck
  | _, _, _ => .stuck
section
variable {K : PySem.W.Frag} {B : Hp}
theorem has_rel {k : Key} : ∀ {kds : List (Key × D)} {kvs : List (Key × V)}, RKs K B kds kvs → (valV kvs k).isSome = hasKey kds k ∧ (kvs.any fun q => decide (q.1 = k)) = hasKey kds k
  | [], [], .nil => ⟨rfl, rfl⟩
  | p :: kds, q :: kvs, .cons hp hr => by
    obtain ⟨h1, h2⟩ := has_rel (k := k) hr
    have e : decide (q.1 = k) = decide (p.1 = k) := by rw [hp.1]
    constructor
    · unfold valV
      rw [List.find?_cons]
      unfold hasKey
      rw [List.any_cons, ← e]
      by_cases hk : q.1 = k
      · simp [hk]
      · rw [decide_eq_false hk]
        exact h1
    · unfold hasKey
      rw [List.any_cons, List.any_cons, e]
      exact congrArg _ h2
theorem put_rel {k : Key} {d : D} {v : V} (hv : RD K B d v) {kds : List (Key × D)} {kvs : List (Key × V)} (h : RKs K B kds kvs) : RKs K B (putD kds k d) (putK kvs k v) := by
  have map_rel : ∀ {kds : List (Key × D)} {kvs : List (Key × V)}, RKs K B kds kvs → RKs K B (kds.map fun q => if q.1 = k then (q.1, d) else q) (kvs.map fun q => if q.1 = k then (q.1, v) else q) := by
    intro kds kvs h
    induction h with
    | nil => exact .nil
    | @cons p q ps qs hp hr ih =>
      refine .cons ?_ ih
      obtain ⟨pk, pd⟩ := p
      obtain ⟨qk, qv⟩ := q
      obtain ⟨hp1, hp2⟩ := hp
      have hp1 : pk = qk := hp1
      subst hp1
      by_cases hk : pk = k
      · simp only [hk, if_true]
        exact ⟨trivial, hv⟩
      · simp only [hk, if_false]
        exact ⟨trivial, hp2⟩
  have app_rel : ∀ {kds : List (Key × D)} {kvs : List (Key × V)}, RKs K B kds kvs → RKs K B (kds ++ [(k, d)]) (kvs ++ [(k, v)]) := by
    intro kds kvs h
    induction h with
    | nil => exact .cons ⟨rfl, hv⟩ .nil
    | cons hp hr ih => exact .cons hp ih
  unfold putD putK
  rw [(has_rel (k := k) h).2]
  unfold hasKey
  split
  · exact map_rel h
  · exact app_rel h
theorem len_rel {kds : List (Key × D)} {kvs : List (Key × V)} (h : RKs K B kds kvs) : kds.length = kvs.length := by
  induction h with
  | nil => rfl
  | cons _ _ ih => rw [List.length_cons, List.length_cons, ih]
end
section
variable {X : Cx} {cl : String → Addr} {E : XK} {io : List Nat} {e value i : Expr} {me mi mv : M Rv} {pos pos' p : Pos} {j : Nat} {x : Str}
theorem de_dnew : DE X cl E (.Dict [] [] pos) mDNew := by
  refine ⟨fun pins s σ H Q I ⟨P, B, env, fps, F, h⟩ => pe_dnewK.run pins s σ H Q I fun l hl => ?_⟩
  obtain ⟨h3, h4, h5⟩ := F.newB hl
  exact h _ _ B fps Ext.refl (F.alloc hl) ⟨_, .dct upd_same .nil, fun a ha => by rw [List.mem_singleton.mp ha]; exact ⟨h3, h4, h5⟩⟩
theorem dt_dnotin (hu : X.A.units + 64 < cLine) (hN : X.N[j]? = some x) (hv : Vis X.env.scope x) (he : DE X cl E e me) (hdb : (x == ("__debug__" : Str)) = false := by decide) (hcd : (x == ("__classdict__" : Str)) = false := by decide)
    (hb : behindInMarks .NotIn (.Name x p) = false := by rfl) : DT X cl E (.Compare e [.NotIn] [.Name x p] pos) (mDNotIn j me) := by
  refine ⟨fun pins s σ H Q I ⟨P, B, env, fps, F, h⟩ => (pt_cmp (pc_dnotin (by omega) he (pe_var hN hv hdb hcd)) hb).run pins s σ H Q I ⟨P, B, env, fps, F, (postX_vm h).mono ?_⟩⟩
  rintro v H1 ⟨B1, env1, fps1, r, x1, F1, w1, h1⟩
  split at h1
  · rename_i k kds e1
    obtain ⟨u, s1, r1⟩ := F1.slot j _ e1
    obtain ⟨a, kvs, rfl, hf, ha, rd⟩ := r1.dct_inv
    refine ⟨_, s1, a, valV kvs (.inl k), rfl, ?_, _, rfl, ?_⟩
    · rw [rvs_int w1]
      exact DGet.k (k := .inl k) ha
    · have h1 := h1 H1 B1 fps1 Ext.refl F1
      rw [(has_rel (k := .inl k) rd).1]
      exact h1
  · exact h1.elim
theorem ds_dput (hu : X.A.units + 64 < cLine) (hN : X.N[j]? = some x) (hv : Vis X.env.scope x) (hi : DE X cl E i mi) (hvl : DE X cl E value mv) (hdb : (x == ("__debug__" : Str)) = false := by decide) (hcd : (x == ("__classdict__" : Str)) = false := by decide)
    (hs : swapsWith value (some (.Subscript (.Name x p) i pos')) pos.line X.env = pure false := by rfl) : DS X cl E io (.Assign [.Subscript (.Name x p) i pos'] value pos) (mDPut j mi mv) := by
  refine ⟨fun pins s σ H D I ⟨P, B, env, fps, F, h⟩ => (ps_dput (by omega) (pe_var hN hv hdb hcd) hi hvl hs).run pins s σ H D I ⟨P, B, env, fps, F, ?_⟩⟩
  refine (postS_vm h).mono ?_
  rintro v H1 ⟨B1, env1, fps1, r1, x1, F1, w1, h1⟩
  unfold bnd chkD at h1
  cases ee : env1[j]? with
  | none => simp only [ee, bind_stuck] at h1; exact h1.elim
  | some oo =>
  cases oo with
  | none => simp only [ee, bind_stuck] at h1; exact h1.elim
  | some oo =>
  cases oo with
  | dat d => simp only [ee, bind_stuck] at h1; exact h1.elim
  | lst d => simp only [ee, bind_stuck] at h1; exact h1.elim
  | tpl d => simp only [ee, bind_stuck] at h1; exact h1.elim
  | dct zs =>
  simp only [ee, bind_ok] at h1
  obtain ⟨w, ew, rw0⟩ := F1.slot j _ ee
  obtain ⟨a, kvs0, rfl, _, _, _⟩ := rw0.dct_inv
  refine ⟨_, ew, P, B1, env1, fps1, F1, (postS_vm (m := mi) h1).mono ?_⟩
  rintro y H2 ⟨B2, env2, fps2, r2, x2, F2, w2, h2⟩
  split at h2
  · rename_i d k kds e3
    split at h2
    · rename_i hz
      obtain ⟨u, s3, r3⟩ := F2.slot j _ e3
      obtain ⟨a', kvs, rfl, hf, ha, rd⟩ := r3.dct_inv
      rw [ew] at s3
      cases s3
      have hv2 : RD X.K B2 d v := (w1.mono x2.1)
      refine ⟨a, _, rfl, .inl ⟨kvs, .inl k, ha, rvs_int w2, by rw [← len_rel rd]; exact hz, rfl⟩, ?_⟩
      exact h2 σ _ B2 fps2 Ext.refl (F2.write e3 ew hf (.dct upd_same (put_rel hv2 rd))) SameIo.refl
    · exact h2.elim
  · exact h2.elim
/-! ### the calculus -/
section
variable {env : Env} {QF : Fl → Env → Prop} {QB : Bool → Env → Prop} {QV : Rv → Env → Prop}
def dctAt (j : Nat) (e : Env) (Q : List (Key × D) → Prop) : Prop := match e[j]? with
  | some (some (.dct kds)) => Q kds
  | _ => False
theorem ok_dnew : Ok (mDNew env) QV ↔ QV (.own (.dct [])) env := Iff.rfl
theorem ok_dnotin {j : Nat} {me : M Rv} : Ok (mDNotIn j me env) QB ↔ Ok (me env) fun r e => RI r.frz fun k => dctAt j e fun kds => QB (!hasKey kds (.inl k)) e := by
  unfold mDNotIn
  rw [ok_bnd, ok_vm]
  refine Iff.of_eq (congrArg _ (funext fun r => funext fun e => propext ?_))
  generalize r.frz = r
  unfold dctAt
  rcases r with (_ | b | k | _ | _ | _ | _) | _ | _ <;> try exact Iff.rfl
  simp only [ri_i]
  rcases e[j]? with _ | _ | (_ | _ | kds) <;> exact Iff.rfl
theorem ok_dput {j : Nat} {mi mv : M Rv} : Ok (mDPut j mi mv env) QF ↔ Ok (mv env) fun r e => dctAt j e fun _ => Ok (mi e) fun ri e2 => RD1 r.frz fun d => RI ri.frz fun k => dctAt j e2 fun kds => kds.length < sizeLine ∧ QF .nx (e2.set j (some (.dct (putD kds (.inl k) d)))) := by
  unfold mDPut
  rw [ok_bnd, ok_vm]
  refine Iff.of_eq (congrArg _ (funext fun r => funext fun e => propext ?_))
  rw [ok_bnd]
  unfold dctAt chkD
  rcases e[j]? with _ | _ | (_ | _ | kds0) <;> try exact Iff.rfl
  show Ok (bnd (vm mi) _ e) QF ↔ _
  rw [ok_bnd, ok_vm]
  refine Iff.of_eq (congrArg _ (funext fun ri => funext fun e2 => propext ?_))
  generalize r.frz = r
  generalize ri.frz = ri
  rcases r with d | _ | _ <;> try exact Iff.rfl
  rcases ri with (_ | b | k | _ | _ | _ | _) | _ | _ <;> try exact Iff.rfl
  simp only [ri_i]
  rcases e2[j]? with _ | _ | (_ | _ | kds) <;> try exact Iff.rfl
  show Ok (if kds.length < sizeLine then _ else _) QF ↔ (kds.length < sizeLine ∧ _)
  split
  · rename_i hz; simp only [hz, true_and]; exact Iff.rfl
  · rename_i hz; simp only [hz, false_and]; exact Iff.rfl
end
end
end Mi

set_option Elab.async false
set_option linter.all false
set_option maxRecDepth 100000
set_option autoImplicit false
namespace Mi
open PySem PySem.Spec L2
/-! ### min(t) of a tuple of ints -/
theorem reads_ints {h : Heap} : ∀ {ns : List Int} {us : List Value}, Vals (ns.map V.int) us → ∃ as, ReadsAll h us (ns.map PyData.int) as
  | [], _, .nil => ⟨[], .nil⟩
  | n :: ns, _, .cons ⟨t, e⟩ r => by
    obtain ⟨as, h2⟩ := reads_ints r
    subst e
    exact ⟨[] ++ as, .cons (.int n t) h2⟩
theorem depth_ints : ∀ ns : List Int, PyData.depthAll (ns.map PyData.int) ≤ 1
  | [] => by simp [PyData.depthAll]
  | n :: ns => by
    have := depth_ints ns
    rw [List.map_cons]
    simp [PyData.depthAll, PyData.depth]
    omega
def gMinT : D → Option D
  | .tuple ds => match intsD ds with
    | some (n :: ns) => some (.int (ns.foldl min n))
    | _ => none
  | _ => none
def mMinT (m : M Rv) : M Rv := bnd (vm m) fun r env => match (res env r).bind gMinT with
  | some d => .ok (.d d) env
  | none => .stuck
section
variable {X : Cx} {cl : String → Addr} {E : XK} {a : Expr} {m : M Rv} {p pos : Pos}
theorem de_minT (hc : X.calm = true) (hu : X.A.units + 64 < cLine) (hg : Gl X "min") (hm : X.mg "min" = none) (ha : DE X cl E a m) (hst : starEach [a] X.env = (false, eval a X.env) :: starEach [] X.env := by rfl) :
    DE X cl E (.Call (.Name "min" p) [a] [] pos) (mMinT m) := by
  refine ⟨fun pins s σ H Q I ⟨P, B, env, fps, F, h⟩ => ?_⟩
  refine PyProof.Rows.Call_ (ld_blt I hg hm PyProof.Rows.boot_min ?_)
  refine PyProof.Rows.callWith_builtin1 (PyProof.Rows.args_cons (thn (ha.run pins s σ H _ I ⟨P, B, env, fps, F, post_vm h⟩) fun v s1 ⟨x, H1, I1, r1, B1, env1, fps1, r, x1, F1, w1, h1⟩ => PyProof.Rows.args_nil ?_) hst) hst rfl
  cases e1 : (res env1 r).bind gMinT with
  | none => simp only [e1] at h1; exact h1.elim
  | some d =>
    simp only [e1] at h1
    obtain ⟨y, e2, e3⟩ := Option.bind_eq_some_iff.mp e1
    unfold gMinT at e3
    split at e3
    · rename_i ds
      split at e3
      · rename_i n ns en
        cases e3
        rcases F1.res w1 e2 with rr | ⟨ds', a', us, ed, _⟩
        · cases rr with
          | tup hx rr =>
            cases r1
            obtain ⟨its, rv, ht, hz⟩ := I1.tuple (F1.sub.sqT hx)
            have hv := intsD_vals rr en
            rw [hv] at rv
            obtain ⟨as, hra⟩ := reads_ints (h := s1.heap) rv
            rw [List.map_cons] at hra
            refine PySem.W.min_tuple_data (I1.ok.hd hc) (vs := its.toArray) ht (by simpa using hra) ?_ ?_ ?_
            · refine ⟨fun x hx y hy => ?_, fun x hx => ?_⟩
              · rw [← List.map_cons] at hx hy
                obtain ⟨a, _, rfl⟩ := List.mem_map.mp hx
                obtain ⟨b, _, rfl⟩ := List.mem_map.mp hy
                rfl
              · rw [← List.map_cons] at hx
                obtain ⟨a, _, rfl⟩ := List.mem_map.mp hx
                exact fun h => by cases h
            · have := depth_ints (n :: ns)
              rw [List.map_cons] at this
              omega
            · intro i v h' tk bs hi hrd hk
              rw [PySem.W.minD_ints] at hrd
              cases hrd with
              | int _ t => exact ⟨.int _, H1, I1.kept (t' := tk) hk, ⟨t, rfl⟩, h1 _ _ B1 fps1 Ext.refl F1 (.int _)⟩
        · cases ed
      · cases e3
    · cases e3
end
theorem ok_minT {m : M Rv} {env : Env} {Q : Rv → Env → Prop} : Ok (mMinT m env) Q ↔ Ok (m env) fun r e => Opt ((res e r.frz).bind gMinT) fun d => Q (.d d) e := by
  unfold mMinT
  rw [ok_bnd, ok_vm]
  refine Iff.of_eq (congrArg _ (funext fun r => funext fun e => propext ?_))
  cases (res e r.frz).bind gMinT <;> exact Iff.rfl
/-! ### a or b, a None or a tuple -/
def mOrD (ma mb : M Rv) : M Rv := bnd (vm ma) fun r env => match r with
  | .d .none => mb env
  | .d (.tuple []) => mb env
  | .d (.tuple (d :: ds)) => .ok (.d (.tuple (d :: ds))) env
  | _ => .stuck
section
variable {X : Cx} {cl : String → Addr} {E : XK} {a b : Expr} {ma mb : M Rv} {pos : Pos}
theorem de_orD (ha : DE X cl E a ma) (hb : DE X cl E b mb) : DE X cl E (.BoolOp .Or [a, b] pos) (mOrD ma mb) := by
  refine ⟨fun pins s σ H Q I ⟨P, B, env, fps, F, h⟩ => ?_⟩
  refine PyProof.Rows.BoolOp_or (thn (ha.run pins s σ H _ I ⟨P, B, env, fps, F, post_vm h⟩) fun v s1 ⟨x, H1, I1, r1, B1, env1, fps1, r, x1, F1, w1, h1⟩ => ?_)
  have two : PostE X.K cl E P B1 σ (mb env1) Q → ∀ s2, Inv X pins σ H1 s2 → wpAny (model X.prog X.w) X.A (eval (.BoolOp .Or [b] pos) X.env) (EP X pins σ Q) X.xe s2 := fun h2 s2 I2 =>
    (pe_one hb).run pins s2 σ H1 Q I2 ⟨P, B1, env1, fps1, F1, h2⟩
  split at h1
  · cases (show RD X.K B1 .none x from w1)
    cases r1
    show wpAny (model X.prog X.w) X.A (pure false) _ X.xe s1
    exact wpAny_pure (two h1 s1 I1)
  · cases (show RD X.K B1 (.tuple []) x from w1) with
    | tup hx rr =>
      cases rr
      cases r1
      obtain ⟨its, rv, ht, hz⟩ := I1.tuple (F1.sub.sqT hx)
      cases rv
      refine PyProof.Rows.truthy_tuple ht (by decide) ?_
      exact two h1 _ (I1.tok _)
  · cases (show RD X.K B1 (.tuple (_ :: _)) x from w1) with
    | tup hx rr =>
      have rr0 := rr
      cases rr with
      | cons q1 q2 =>
      cases r1
      obtain ⟨its, rv, ht, hz⟩ := I1.tuple (F1.sub.sqT hx)
      cases rv with
      | cons q3 q4 =>
      refine PyProof.Rows.truthy_tuple ht ?_ ?_
      · have e1 := q4.length
        simp only [List.length_cons] at hz
        simp only [List.size_toArray, List.length_cons]
        have : sizeLine < 2 ^ 62 := by decide
        omega
      · show EP X pins σ Q _ _
        exact ⟨.ref _, H1, I1.tok _, (show RelV (.ref _) (.ref _) from rfl), h1 _ _ B1 fps1 Ext.refl F1 (.tup hx rr0)⟩
  · exact h1.elim
theorem ok_orD {env : Env} {Q : Rv → Env → Prop} : Ok (mOrD ma mb env) Q ↔ Ok (ma env) fun r e => match r.frz with
    | .d .none => Ok (mb e) Q
    | .d (.tuple []) => Ok (mb e) Q
    | .d (.tuple (d :: ds)) => Q (.d (.tuple (d :: ds))) e
    | _ => False := by
  unfold mOrD
  rw [ok_bnd, ok_vm]
  refine Iff.of_eq (congrArg _ (funext fun r => funext fun e => propext ?_))
  generalize r.frz = r
  rcases r with (_ | _ | _ | _ | _ | (_ | ⟨d, ds⟩) | _) | _ | _ <;> exact Iff.rfl
end
end Mi

set_option Elab.async false
set_option linter.all false
set_option maxRecDepth 100000
set_option autoImplicit false
namespace Mi
open PySem PySem.Spec L2
/-! ### l.index(k) of whole numbers; tuple(l) whose object is known; t.index(k) -/
theorem upd_self {H : Hp} {a : Addr} {o : HO} (h : H a = some o) : upd H a o = H := by
  funext b
  by_cases e : b = a
  · subst e; rw [upd_same, h]
  · rw [upd_ne e]
def gIdx : List D → List D → Option (D × List D)
  | zs, [.int k] => match intsD zs with
    | some ns => if k ∈ ns then some (.int (ns.idxOf k : Nat), zs) else none
    | none => none
  | _, _ => none
theorem ru_idx {K : PySem.W.Frag} : RuM K (rIndex K) gIdx := by
  intro H B a ws zs xs vs d zs' Q hs ha rz rx e hq
  unfold gIdx at e
  split at e
  · rename_i zs k
    split at e
    · rename_i ns en
      split at e
      · rename_i hk
        cases e
        obtain ⟨v, rfl, rv⟩ := paired1 rx
        have hv : v = .int k := by
          rcases rv with r | ⟨_, _, _, z, _⟩
          · cases r; rfl
          · cases z
        subst hv
        have hw := intsD_vals rz en
        subst hw
        have hlt := List.idxOf_lt_length_iff.mpr hk
        refine ⟨a, ns.map V.int, .int k, ns.idxOf k, .int k, rfl, rfl, SqL.of ha, rfl, ?_, ?_, by simp [eqV], fun m z' hm hz' => ?_, ?_⟩
        · rw [List.all_map, List.all_eq_true]
          intro x _; rfl
        · rw [List.getElem?_map, List.getElem?_eq_getElem hlt, List.getElem_idxOf hlt]; rfl
        · rw [List.getElem?_map] at hz'
          have hml : m < ns.length := by omega
          rw [List.getElem?_eq_getElem hml] at hz'
          cases hz'
          have := List.not_of_lt_findIdx (p := (· == k)) (xs := ns) (i := m) (by unfold List.idxOf at hm; exact hm)
          have h2 : ns[m] ≠ k := fun z => by rw [z] at this; simp at this
          simp [eqV, h2]
        · have := hq (.int (ns.idxOf k : Nat)) _ (.int _) rz
          rw [upd_self ha] at this
          exact this
      · cases e
    · cases e
  · cases e
def mTupC (m : M Rv) : M Rv := bnd (vm m) fun r env => match (res env r).bind seqD with
  | some ds => match res env r with
    | some (.list _) => .ok (.own (.tpl ds)) env
    | _ => .stuck
  | none => .stuck
def mIdxT (i : Nat) (ms : M (List Rv)) : M Rv := fun env => match env[i]? with
  | some (some (.tpl ds)) => (bnd ms fun rs env2 => match resAll env2 rs, intsD ds with
    | some [.int k], some ns => if k ∈ ns then .ok (.d (.int (ns.idxOf k : Nat))) env2 else .stuck
    | _, _ => .stuck) env
  | _ => .stuck
section
variable {X : Cx} {cl : String → Addr} {E : XK} {e : Expr} {m : M Rv} {ms : M (List Rv)} {i : Nat} {x : Str} {p pos apos cpos : Pos}
theorem de_idx (hN : X.N[i]? = some x) (hv : Vis X.env.scope x) (ha : DA X cl E [e] ms) (hdb : (x == ("__debug__" : Str)) = false := by decide) (hcd : (x == ("__classdict__" : Str)) = false := by decide)
    (hbase : attributeBase (.Name x p) "index" X.env (eval (.Name x p) X.env) = eval (.Name x p) X.env := by rfl)
    (hfew : ((backTo cpos (starEach [e] X.env)).all (fun x => !x.1) && (backToKw cpos (keywordEach [] X.env)).all (fun x => x.1.isSome)
      && decide (([e] : List Expr).length + ([] : List Keyword).length + (if ([] : List Keyword).isEmpty then 0 else 1) < 30)) = true := by rfl)
    (hline : (apos.endLine == cpos.line) = true := by rfl) (hs : starEach [e] X.env = (false, eval e X.env) :: starEach [] X.env := by rfl) :
    DE X cl E (.Call (.Attribute (.Name x p) "index" apos) [e] [] cpos) (mMet i gIdx ms) :=
  de_met PySem.F.slot_list_index PySem.F.plainAttrs_list PySem.F.type_list_index mt_index ru_idx hN hv ha hdb hcd hbase hfew hline hs rfl
theorem de_tupC (hg : Gl X "tuple") (hm : X.mg "tuple" = none) (ha : DE X cl E e m) (na : starEach [e] X.env = (false, eval e X.env) :: starEach [] X.env := by rfl) :
    DE X cl E (.Call (.Name "tuple" p) [e] [] pos) (mTupC m) := by
  refine ⟨fun pins s σ H Q I ⟨P, B, env, fps, F, h⟩ => ?_⟩
  refine PyProof.Rows.Call_ (ld_blt I hg hm PyProof.Rows.boot_tuple ?_)
  refine PyProof.Rows.callWith_type1 (PyProof.Rows.args_cons (thn (ha.run pins s σ H _ I ⟨P, B, env, fps, F, post_vm h⟩) fun v s1 ⟨x, H1, I1, r1, B1, env1, fps1, r, x1, F1, w1, h1⟩ => PyProof.Rows.args_nil ?_) na) na rfl
  cases e2 : res env1 r with
  | none => simp only [e2, Option.bind_none] at h1; exact h1.elim
  | some d =>
    simp only [e2, Option.bind_some] at h1
    cases d with
    | list ds =>
      simp only [seqD] at h1
      have key : ∃ a vs, x = .ref a ∧ SqL X.K H1 a vs ∧ RDs X.K B1 ds vs := by
        rcases F1.res w1 e2 with rr | ⟨ds', a', us, ed, ea, ha', rr⟩
        · cases rr with
          | lst hx rr => exact ⟨_, _, rfl, F1.sub.sqL hx, rr⟩
        · cases ed
          exact ⟨_, _, ea, SqL.of ha', rr⟩
      obtain ⟨a, vs, rfl, hq, rds⟩ := key
      cases r1
      · skip
        obtain ⟨its, rv, pl, hz⟩ := I1.list hq
        have hlen := rv.length
        refine call_tuple_list pl.isList (fun h' kp => ?_) (by simp only [List.size_toArray]; omega)
        have J1 : Inv X pins σ H1 { s1 with heap := h' } := I1.kept (t' := s1.toks) kp
        have hn : H1 h'.objs.size = none := J1.hok.fresh (Nat.le_refl _)
        have hgt : (h'.push { cls := .type "tuple", data := .seq its.toArray }).get? h'.objs.size = some { cls := .type "tuple", data := .seq its.toArray } := Heap.get?_push_size _ rfl
        have J2 : Inv X pins σ (upd H1 h'.objs.size (.frz { cls := .type "tuple", data := .seq its.toArray } (.tup vs))) { s1 with heap := h'.push { cls := .type "tuple", data := .seq its.toArray } } :=
          J1.laid (t' := s1.toks) (fun b o e => Heap.get?_push_of_some _ e) (Nat.le_refl _) ⟨hgt, hz, its, rv, PyProof.Rows.IsTup.new _ _⟩
        obtain ⟨h3, h4, h5⟩ := F1.newB hn
        have hnc : notC (.frz { cls := .type "tuple", data := .seq its.toArray } (.tup vs)) := fun c q h => by unfold LamX.CodeO at h; cases h
        have xx := Ext.upd (o := .frz { cls := .type "tuple", data := .seq its.toArray } (.tup vs)) h3 h4
        exact ⟨.ref h'.objs.size, _, J2, rfl, h1 _ _ _ fps1 xx (F1.allocB hn) ⟨[], .tpl upd_same rfl (RDs.mono xx.1 _ _ rds), fun _ z => nomatch z⟩⟩
    | _ => simp only [seqD] at h1; exact h1.elim
theorem de_idxT (hN : X.N[i]? = some x) (hv : Vis X.env.scope x) (ha : DA X cl E [e] ms) (hl : Len ms 1) (hdb : (x == ("__debug__" : Str)) = false := by decide) (hcd : (x == ("__classdict__" : Str)) = false := by decide)
    (hbase : attributeBase (.Name x p) "index" X.env (eval (.Name x p) X.env) = eval (.Name x p) X.env := by rfl)
    (hfew : ((backTo cpos (starEach [e] X.env)).all (fun x => !x.1) && (backToKw cpos (keywordEach [] X.env)).all (fun x => x.1.isSome)
      && decide (([e] : List Expr).length + ([] : List Keyword).length + (if ([] : List Keyword).isEmpty then 0 else 1) < 30)) = true := by rfl)
    (hline : (apos.endLine == cpos.line) = true := by rfl) (hs : starEach [e] X.env = (false, eval e X.env) :: starEach [] X.env := by rfl) :
    DE X cl E (.Call (.Attribute (.Name x p) "index" apos) [e] [] cpos) (mIdxT i ms) := by
  refine ⟨fun pins s σ H Q I ⟨P, B, env, fps, F, h⟩ => ?_⟩
  unfold mIdxT at h
  split at h
  · rename_i ds he
    obtain ⟨v0, s0, r0⟩ := F.slot i _ he
    obtain ⟨a, vs, ob, rfl, _, hB, hnd, rds⟩ := r0.tpl_inv
    refine wpAny_Call_method_late hbase hfew hline rfl (thn ((pe_var hN hv hdb hcd).run pins s σ H (fun v H1 => v = .ref a ∧ H1 = H) I ⟨_, s0, rfl, rfl⟩) fun v s1 ⟨x1, H1, I1, r1, q1, q2⟩ => ?_)
    subst q1 q2
    cases r1
    obtain ⟨hob, hto⟩ := I1.hok a _ (F.sub _ _ hB)
    obtain ⟨hz, its, rv, htup⟩ := hto
    refine ⟨"tuple", "tuple.index", PySem.F.plainAttrs_tuple, PySem.F.slot_tuple_index, PySem.F.type_tuple_index, ?_, fun b eb => ?_, ?_⟩
    · obtain ⟨o, ho, hc, _⟩ := htup
      exact ⟨o, ho, hc⟩
    · cases eb
      exact ⟨ob, hob, hnd⟩
    · have hA := ha.run cpos pins s1 σ H1 (fun vs H2 => ∃ B2 env2 fps2 rs, Ext P B B2 ∧ Fm X.K P B2 H2 σ env2 fps2 ∧ Paired (RvS X.K B2 σ) rs vs ∧ PostE X.K cl E P B2 σ ((match resAll env2 rs, intsD ds with
        | some [.int k], some ns => if k ∈ ns then .ok (.d (.int (ns.idxOf k : Nat))) env2 else .stuck
        | _, _ => .stuck : Rs Rv)) Q) I1 ⟨P, B, env, fps, F, (postE_bnd h).mono fun rs H2 B2 fps2 env2 x2 F2 h2 vs hv => ⟨B2, env2, fps2, rs, x2, F2, hv, h2⟩⟩
      rw [hs] at hA ⊢
      refine Calls.callWith_builtin (by rfl) (Calls.evalArgs_plain ?_)
      refine thn hA fun us s2 ⟨vs2, H2, I2, r2, B2, env2, fps2, rs, x2, F2, hv2, h2⟩ => ?_
      split at h2
      · rename_i k ns e3 e4
        split at h2
        · rename_i hk
          obtain ⟨v2, rfl, rv2⟩ := paired1 (F2.resAll hv2 e3)
          have hv3 : v2 = .int k := by
            rcases rv2 with r | ⟨_, _, _, z, _⟩
            · cases r; rfl
            · cases z
          subst hv3
          obtain ⟨u, rfl, t, rfl⟩ := vals1 r2
          obtain ⟨hob2, hz2, its2, rv3, htup2⟩ := I2.hok a _ (F2.sub _ _ (x2.1 _ _ hB))
          have hw := intsD_vals rds e4
          subst hw
          refine PySem.SeqAt.tuple_index_ints (vs := its2) htup2 ?_ hk ?_
          · exact Vals.ints rv3
          · exact ⟨.int (ns.idxOf k : Nat), H2, I2.tok _, ⟨_, rfl⟩, h2 _ _ B2 fps2 Ext.refl F2 (.int _)⟩
        · exact h2.elim
      · exact h2.elim
  · exact h.elim
end
end Mi
namespace Mi
open PySem PySem.Spec L2
theorem frz_tpl {ds : List D} : (Rv.own (.tpl ds)).frz = .d (.tuple ds) := rfl
theorem orv_tpl {ds : List D} : O.rv (.tpl ds) = .own (.tpl ds) := rfl
theorem ok_tupC {m : M Rv} {env : Env} {Q : Rv → Env → Prop} : Ok (mTupC m env) Q ↔ Ok (m env) fun r e => Opt (res e r.frz) fun x => lst1 x fun ds => Q (.own (.tpl ds)) e := by
  unfold mTupC
  rw [ok_bnd, ok_vm]
  refine Iff.of_eq (congrArg _ (funext fun r => funext fun e => propext ?_))
  cases res e r.frz with
  | none => exact Iff.rfl
  | some x => cases x <;> exact Iff.rfl
def tplAt (i : Nat) (e : Env) (K : List D → Prop) : Prop := match e[i]? with
  | some (some (.tpl ds)) => K ds
  | _ => False
def gIxT (ds xs : List D) : Option D := match xs, intsD ds with
  | [.int k], some ns => if k ∈ ns then some (.int (ns.idxOf k : Nat)) else none
  | _, _ => none
theorem ok_idxT {i : Nat} {ms : M (List Rv)} {env : Env} {Q : Rv → Env → Prop} : Ok (mIdxT i ms env) Q ↔ tplAt i env fun ds => Ok (ms env) fun rs e => Opt (resAll e rs) fun xs => Opt (gIxT ds xs) fun d => Q (.d d) e := by
  unfold mIdxT tplAt
  rcases env[i]? with _ | _ | _ | _ | _ | ds <;> try exact Iff.rfl
  show Ok (bnd ms _ env) Q ↔ _
  rw [ok_bnd]
  refine Iff.of_eq (congrArg _ (funext fun rs => funext fun e => propext ?_))
  cases resAll e rs with
  | none => exact Iff.rfl
  | some xs =>
    rw [opt_some]
    unfold gIxT
    rcases xs with _ | ⟨a, _ | ⟨b, t⟩⟩
    · exact Iff.rfl
    · cases a <;> try exact Iff.rfl
      cases intsD ds with
      | none => exact Iff.rfl
      | some ns =>
        simp only
        split <;> exact Iff.rfl
    · cases a <;> exact Iff.rfl
end Mi

set_option Elab.async false
set_option linter.all false
set_option maxRecDepth 100000
set_option autoImplicit false
namespace Mi
open PySem PySem.Spec L2
/-! ### raise X("..") of an own class; try .. except X: return ".." -/
def clK (K : PySem.W.Frag) (c : String) : Addr := He.ga K (Str.ofString c)
structure ExF (K : PySem.W.Frag) (mg : Str → Option Value) (c : String) : Prop where
  gC : mg (Str.ofString c) = some (.ref (clK K c))
  kC : PySem.W.keepIn K (.ref (clK K c)) = true
  q : PySem.W.excIn K (clK K c) He.veBase "ValueError.__new__" = true
  r1 : PySem.W.subIn K (.ref (clK K c)) (.type "BaseException") = some true
  r2 : PySem.W.typeIn K (.ref (clK K c)) = some (.type "type")
theorem exF_of {K : PySem.W.Frag} {h : Heap} {mg : Str → Option Value} {c : String} (X : K.In h) (G : h.Ns mainGlobals mg) (h1 : (He.Fa.glo (Str.ofString c)).ok K = true) (h2 : (He.Fa.exc (Str.ofString c)).ok K = true) : ExF K mg c := by
  obtain ⟨a, b, d, e⟩ := He.exc_ok h2
  exact ⟨He.glo_ok X G h1, b, a, d, e⟩
def mRaise (c : String) : M Fl := fun env => .ex c env
def exmT (errs : List String) (c x : String) : Option Bool := if c ∈ errs ∧ x ∈ errs then some (decide (c = x)) else none
def pickH (errs : List String) (c : String) : List (String × Str) → Option (Option Str)
  | [] => some none
  | (x, d) :: r => match exmT errs c x with
    | some true => some (some d)
    | some false => pickH errs c r
    | none => none
def mTry (errs : List String) (body : M Fl) (hs : List (String × Str)) : M Fl := fun env => match body env with
  | .ok fl e => .ok fl e
  | .ex c e => match pickH errs c hs with
    | some (some d) => .ok (.rt (.dat (.str d))) e
    | some none => .ex c e
    | none => .stuck
  | .stuck => .stuck
section
variable {X : Cx} {E : XK} {io : List Nat} {m : M Fl} {body : List Stmt} {h₀ : ExceptHandler} {hds : List ExceptHandler} {l : List (String × Str)} {errs : List String} {pos pos' p p2 : Pos} {j : Nat} {x t : Str} {c : String}
theorem ds_raise (F : ExF X.K X.mg c) (hg : Gl X (Str.ofString c)) (hc : X.calm = true) (tk : L2.Takes X fun cls d _ H => E cls d H) (hdb : ((Str.ofString c) == ("__debug__" : Str)) = false := by decide) :
    DS X (clK X.K) E io (.Raise (some (.Call (.Name (Str.ofString c) p) [.Constant (.str t) j p2] [] pos)) none pos') (mRaise c) :=
  ⟨fun pins s σ H D I ⟨P, B, env, fps, Fr, h⟩ => (L2.ps_raise hc tk (L2.pmk_own PySem.F.excBase_ValueError F.q F.gC F.kC (L2.raises_own F.r1 F.r2) hg hdb)).run pins s σ H D I (h σ H B fps Ext.refl Fr SameIo.refl)⟩
/-- the clauses, each with the text that it gives back -/
inductive HdsC (X : Cx) (cl : String → Addr) : List ExceptHandler → List (String × Str) → Prop
  | nil : HdsC X cl [] []
  | cons {c : String} {t : Str} {j : Nat} {np p p' pos' : Pos} {hds : List ExceptHandler} {l : List (String × Str)} (hc : L2.Names X (Str.ofString c) (.ref (cl c))) (r : HdsC X cl hds l) :
      HdsC X cl (.ExceptHandler (some (.Name (Str.ofString c) np)) none [.Return (some (.Constant (.str t) j p)) p'] pos' :: hds) ((c, t) :: l)
def hdT (K : PySem.W.Frag) (cl : String → Addr) (l : List (String × Str)) : List (Value × (Addr → Value → Option Addr → TS)) := l.map fun q => (.ref (cl q.1), fun _ _ _ D _ H => D.rt (.str q.2) H)
theorem hdsOk_of {cl : String → Addr} (h : HdsC X cl hds l) : L2.HdsOk X hds (hdT X.K cl l) := by
  induction h with
  | nil => exact .nil
  | @cons c t j np p p' pos' hds l hc r ih =>
    refine .cons hc (fun a oe cls d pn hz hf => ?_) ih
    exact pss_one ⟨fun pins s σ H D I h => (ps_ret pe_str).run pins s σ H D I h⟩
theorem many_of {cl : String → Addr} {D : Ends} {σ : L2.St} {H : Hp} {W : L2.WX} (hx : ∀ c ∈ errs, ∀ x ∈ errs, PySem.W.exmOne X.K (.ref (cl c)) (.ref (cl x)) = some (decide (c = x))) :
    ∀ {l : List (String × Str)} {r : Option Str}, pickH errs c l = some r → (∀ t, r = some t → D.rt (.str t) H) → (r = none → W (.ref (cl c)) none σ H) → L2.wMany X.K W D (hdT X.K cl l) (.ref (cl c)) none σ H
  | [], r, e, h1, h2 => by cases e; exact h2 rfl
  | (x, t) :: l, r, e, h1, h2 => by
    unfold pickH at e
    cases he : exmT errs c x with
    | none => rw [he] at e; cases e
    | some b =>
      have hb : PySem.W.exmOne X.K (.ref (cl c)) (.ref (cl x)) = some b := by
        unfold exmT at he
        split at he
        · rename_i hm
          cases he
          exact hx c hm.1 x hm.2
        · cases he
      rw [he] at e
      refine ⟨b, hb, fun hb1 a ha => ?_, fun hb0 => ?_⟩
      · subst hb1
        cases e
        exact h1 t rfl
      · subst hb0
        exact many_of hx e h1 h2
theorem ds_try (hs : X.stack = X.env :: X.outer) (hf : X.env.frame = some X.env.locals) (tk : L2.Takes X fun cls d _ H => E cls d H)
    (hx : ∀ c ∈ errs, ∀ x ∈ errs, PySem.W.exmOne X.K (.ref (clK X.K c)) (.ref (clK X.K x)) = some (decide (c = x)))
    (hb : ∀ (E' : XK) (pn : List (Addr × Obj)) (xe : Value → Shared → Prop), L2.Takes (X.tr pn xe) (fun cls d _ H => E' cls d H) → PassesOwn (model X.prog X.w) X.A X.env xe → DSs (X.tr pn xe) (clK X.K) E' io body m)
    (hh : HdsC X (clK X.K) (h₀ :: hds) l) : DS X (clK X.K) E io (.Try body (h₀ :: hds) [] [] pos) (mTry errs m l) := by
  refine ⟨fun pins s σ H D I ⟨P, B, env, fps, Fr, h⟩ => ?_⟩
  refine (L2.ps_try_many (tb := fun W => tMS X.K (clK X.K) (fun cls d H => ∀ σ, W cls d σ H) io m) hs hf tk (fun W pn xe tkW po => hb _ pn xe (tkW.imp fun cls d σ H w => w σ) po) (hdsOk_of hh)).run pins s σ H D I ⟨P, B, env, fps, Fr, ?_⟩
  unfold mTry at h
  cases q : m env with
  | stuck => rw [q] at h; exact h.elim
  | ok fl e => rw [q] at h; exact h
  | ex c e =>
    rw [q] at h
    simp only at h
    intro σ' H' B' fps' xx F' ss σ2
    cases r : pickH errs c l with
    | none => rw [r] at h; exact h.elim
    | some r2 =>
      rw [r] at h
      refine many_of hx r (fun t et => ?_) (fun en => ?_)
      · subst et
        exact h σ' H' B' fps' xx F' ss (.str t) [] (.dat (.str t)) (fun a ha => by simp at ha)
      · subst en
        exact h σ' H' B' fps' xx F' ss
end
theorem law_atC {cl : String → Addr} {l : PySem.W.OpenLaw} {w : World} {K : PySem.W.Frag} {h : Heap} {mg : Str → Option Value} {f : Addr} {fd : FuncData} {fas : List He.Fa} {dfn : List He.DefD} {tfs : List He.Defn} {exB : PySem.W.Frag → Bool} {k n : Nat} {x : Str} {F : M O} {T : List (Addr × Str)}
    (cx : He.SaysX fas dfn [] tfs exB w h K) (X : K.In h) (te : tabsOf K = T) (tt : T = tfs.map fun p => ((He.cT K p).2, lamQ p.1)) (hb : ∀ (s : Shared) (v : Value), BindsTo s fd ⟨[v], []⟩ [(x, v)]) (pl : Holds n F)
    (hF : ∀ base : Heap, K.In base → base.Ns mainGlobals mg → (∀ p ∈ tfs, LamX.TabB base mg (He.cT K p).1 (He.cT K p).2) → FnOk l.prog w K mg base CX0 k f fd [x] fun vs H Q E => spF K cl 1 [] F vs H Q fun _ _ _ => False) :
    LamX.LawAtS l w K CX0 k n x mg f h := by
  refine ⟨fd, tfs.map (He.cT K), fun vs H Q _ => spF K cl 1 [] F vs H Q fun _ _ _ => False, fun p hp => ?_, fun p hp => ?_, fun p hp => ?_, hb, fun H a ns hl _ hT hS => law_sp pl H a ns hl hS fun p hp => ?_, fun base hb1 hb2 tb => hF base hb1 hb2 fun p hp => tb _ (List.mem_map.mpr ⟨p, hp, rfl⟩)⟩
  · obtain ⟨q, hq, rfl⟩ := List.mem_map.mp hp
    exact cx.empty q hq
  · obtain ⟨q, hq, rfl⟩ := List.mem_map.mp hp
    exact cx.out q hq
  · obtain ⟨q, hq, rfl⟩ := List.mem_map.mp hp
    exact PySem.W.codeHd_of_K X (cx.hd q hq)
  · rw [te, tt] at hp
    obtain ⟨q, hq, rfl⟩ := List.mem_map.mp hp
    exact hT _ (List.mem_map.mpr ⟨q, hq, rfl⟩)
/-- .. wp rules: what is let out -/
@[irreducible] def Okc {α : Type} (r : Rs α) (Q : α → Env → Prop) (QE : String → Env → Prop) : Prop := match r with
  | .ok a e => Q a e
  | .ex c e => QE c e
  | .stuck => False
theorem okd_ok {α : Type} {a : α} {e : Env} {Q : α → Env → Prop} {QE : String → Env → Prop} : Okc (.ok a e) Q QE ↔ Q a e := by unfold Okc; exact Iff.rfl
theorem okd_ex {α : Type} {c : String} {e : Env} {Q : α → Env → Prop} {QE : String → Env → Prop} : Okc (.ex c e) Q QE ↔ QE c e := by unfold Okc; exact Iff.rfl
theorem okd_st {α : Type} {Q : α → Env → Prop} {QE : String → Env → Prop} : Okc (.stuck) Q QE ↔ False := by unfold Okc; exact Iff.rfl
theorem okc_ok {α : Type} {r : Rs α} {Q : α → Env → Prop} {QE : String → Env → Prop} (h : Ok r Q) : Okc r Q QE := by
  unfold Okc
  cases r with
  | ok a e => exact h
  | ex c e => exact h.elim
  | stuck => exact h.elim
theorem okc_bnd {α β : Type} {m : M α} {k : α → M β} {env : Env} {Q : β → Env → Prop} {QE : String → Env → Prop} (h : Okc (m env) (fun a e => Okc (k a e) Q QE) QE) : Okc (bnd m k env) Q QE := by
  unfold bnd
  cases q : m env with
  | ok a e => rw [q] at h; exact okd_ok.mp h
  | ex c e => rw [q] at h; exact okd_ex.mpr (okd_ex.mp h)
  | stuck => rw [q] at h; exact (okd_st.mp h).elim
theorem okc_mono {α : Type} {r : Rs α} {Q Q' : α → Env → Prop} {QE QE' : String → Env → Prop} (h : Okc r Q QE) (h1 : ∀ a e, Q a e → Q' a e) (h2 : ∀ c e, QE c e → QE' c e) : Okc r Q' QE' := by
  unfold Okc at h ⊢
  cases r with
  | ok a e => exact h1 _ _ h
  | ex c e => exact h2 _ _ h
  | stuck => exact h
theorem ok_mTry {errs : List String} {m : M Fl} {l : List (String × Str)} {env : Env} {Q : Fl → Env → Prop} (h : Okc (m env) Q fun c e => ∃ d, pickH errs c l = some (some d) ∧ Q (.rt (.dat (.str d))) e) : Ok (mTry errs m l env) Q := by
  unfold mTry
  unfold Okc at h
  cases q : m env with
  | ok fl e => rw [q] at h; exact h
  | ex c e =>
    rw [q] at h
    obtain ⟨d, h1, h2⟩ := h
    simp only [h1]
    exact h2
  | stuck => rw [q] at h; exact h
theorem okc_call {io : List Nat} {F : M O} {ms : M (List Rv)} {env : Env} {Q : Rv → Env → Prop} {QE : String → Env → Prop}
    (h : Ok (ms env) fun rs e => Opt (argOs io e 0 rs) fun cenv => apart (ioSlots io 0 rs) (lentSlots io 0 rs) = true ∧
      Okc (F cenv) (fun o ce => ((lentSlots io 0 rs).isEmpty || (o.flat && allFlat ce (ioSlots io 0 rs))) = true ∧ Opt (backEnv ce (ioSlots io 0 rs) e) fun e' => Q o.rv e')
        (fun c ce => ((lentSlots io 0 rs).isEmpty || allFlat ce (ioSlots io 0 rs)) = true ∧ Opt (backEnv ce (ioSlots io 0 rs) e) fun e' => QE c e')) : Okc (mCall io F ms env) Q QE := by
  unfold mCall
  refine okc_bnd ?_
  refine okc_mono (okc_ok h) (fun rs e h1 => ?_) fun c e z => z
  cases ec : argOs io e 0 rs with
  | none => rw [ec] at h1; exact h1.elim
  | some cenv =>
    rw [ec, opt_some] at h1
    obtain ⟨h2, h3⟩ := h1
    simp only [h2, if_true]
    cases q : F cenv with
    | stuck => rw [q] at h3; unfold Okc at h3; exact h3.elim
    | ok o ce =>
      rw [q] at h3
      unfold Okc at h3
      obtain ⟨h4, h5⟩ := h3
      simp only [h4, if_true]
      cases eb : backEnv ce (ioSlots io 0 rs) e with
      | none => rw [eb] at h5; exact h5.elim
      | some e' => rw [eb] at h5; unfold Okc; exact h5
    | ex c ce =>
      rw [q] at h3
      unfold Okc at h3
      obtain ⟨h4, h5⟩ := h3
      simp only [h4, if_true]
      cases eb : backEnv ce (ioSlots io 0 rs) e with
      | none => rw [eb] at h5; exact h5.elim
      | some e' => rw [eb] at h5; unfold Okc; exact h5
section
variable {env : Env} {Q : Fl → Env → Prop} {QE : String → Env → Prop}
theorem okc_ex {m : M Rv} (h : Okc (m env) (fun _ e => Q .nx e) QE) : Okc (mEx m env) Q QE := by
  unfold mEx
  exact okc_bnd (okc_mono h (fun _ _ z => by unfold Okc; exact z) fun _ _ z => z)
def nxQ (Q : Fl → Env → Prop) (K : Env → Prop) : Fl → Env → Prop := fun fl e => match fl with
  | .nx => K e
  | fl => Q fl e
theorem okc_seq {a b : M Fl} (h : Okc (a env) (nxQ Q fun e => Okc (b e) Q QE) QE) : Okc (mSeq a b env) Q QE := by
  unfold mSeq
  refine okc_bnd (okc_mono h (fun fl e z => ?_) fun _ _ z => z)
  cases fl <;> first | exact z | (unfold Okc; exact z)
theorem okc_ite {t : M Bool} {a b : M Fl} (h : Ok (t env) fun c e => (c = true → Okc (a e) Q QE) ∧ (c = false → Okc (b e) Q QE)) : Okc (mIte t a b env) Q QE := by
  unfold mIte
  refine okc_bnd (okc_mono (okc_ok h) (fun c e z => ?_) fun _ _ z => z)
  cases c with
  | true => exact z.1 rfl
  | false => exact z.2 rfl
theorem okc_raise {c : String} (h : QE c env) : Okc (mRaise c env) Q QE := by unfold Okc; exact h
theorem okc_runF {n : Nat} {m : M Fl} {os : Env} {Q : O → Env → Prop} {QE : String → Env → Prop}
    (h : Okc (m (os ++ List.replicate (n - os.length) none)) (fun fl e => match fl with
      | .rt o => Q o e
      | .nx => Q (.dat .none) e
      | _ => False) QE) : Okc (runF n m os) Q QE := by
  unfold runF
  unfold Okc at h ⊢
  cases q : m (os ++ List.replicate (n - os.length) none) with
  | ok fl e =>
    rw [q] at h
    cases fl <;> exact h
  | ex c e => rw [q] at h; exact h
  | stuck => rw [q] at h; exact h
end
/-! ### a <= b < c as a value -/
def mChV (g1 g2 : Int → Int → Bool) (ma mb mc : M Rv) : M Rv := bnd (mCh g1 g2 ma mb mc) fun b => ret (.d (.bool b))
section
variable {X : Cx} {cl : String → Addr} {E : XK} {a b c : Expr} {ma mb mc : M Rv} {pos : Pos} {op op' : CmpOp} {g1 g2 : Int → Int → Bool}
theorem de_ch (h1 : OpR X (compareOp op) (rI0 fun i j => .bl (g1 i j))) (h2 : OpR X (compareOp op') (rI0 fun i j => .bl (g2 i j))) (ha : DE X cl E a ma) (hb : DE X cl E b mb) (hc : DE X cl E c mc)
    (hm : lastMarks [op, op'] [b, c] = false := by with_unfolding_all rfl) : DE X cl E (.Compare a [op, op'] [b, c] pos) (mChV g1 g2 ma mb mc) := by
  refine ⟨fun pins s σ H Q I h => (pe_chain h1 h2 ha hb hc hm).run pins s σ H Q I ?_⟩
  obtain ⟨P, B, env, fps, F, h⟩ := h
  unfold mChV mCh at h
  have h0 := postE_bnd h
  refine ⟨P, B, env, fps, F, (postX_vm h0).mono ?_⟩
  rintro v H1 ⟨B1, env1, fps1, r1, x1, F1, w1, h3⟩
  refine ⟨P, B1, env1, fps1, F1, (postX_vm h3).mono ?_⟩
  rintro v2 H2 ⟨B2, env2, fps2, r2, x2, F2, w2, h4⟩
  split at h4
  · rename_i i j
    refine ⟨i, j, rvs_int w1, rvs_int w2, _, rfl, ?_⟩
    split at h4
    · rename_i hg
      rw [if_pos hg]
      refine ⟨P, B2, env2, fps2, F2, (postX_vm h4).mono ?_⟩
      rintro v3 H3 ⟨B3, env3, fps3, r3, x3, F3, w3, h5⟩
      split at h5
      · rename_i k
        exact ⟨j, k, rvs_int w2, rvs_int w3, h5 _ _ _ Ext.refl F3 _ _ _ _ Ext.refl F3 (.bl _)⟩
      · exact h5.elim
    · rename_i hg
      rw [if_neg hg]
      exact h4 _ _ _ Ext.refl F2 _ _ _ _ Ext.refl F2 (.bl false)
  · exact h4.elim
theorem ok_chV {ma mb mc : M Rv} {env : Env} {Q : Rv → Env → Prop} : Ok (mChV g1 g2 ma mb mc env) Q ↔ Ok (mCh g1 g2 ma mb mc env) fun b e => Q (.d (.bool b)) e := ok_bnd
end
end Mi

set_option Elab.async false
set_option linter.all false
set_option maxRecDepth 100000
namespace Mi
open PySem PySem.Spec L2
/-! ### a <= b <= c of texts -/
def leS (i j : Str) : Bool := !decide (j.cps.toList < i.cps.toList)
def mChS (ma mb mc : M Rv) : M Rv := mChain (gS fun i j => vB (leS i j)) (gS fun i j => vB (leS i j)) ma mb mc
section
variable {X : Cx} {cl : String → Addr} {E : XK} {a b c : Expr} {ma mb mc : M Rv} {pos : Pos}
theorem de_chS (ha : DE X cl E a ma) (hb : DE X cl E b mb) (hc : DE X cl E c mc) (hm : lastMarks [.LtE, .LtE] [b, c] = false := by with_unfolding_all rfl) : DE X cl E (.Compare a [.LtE, .LtE] [b, c] pos) (mChS ma mb mc) :=
  de_chain ha hb hc op_le_str op_le_str (ru_S (g := leS)) (ru_S (g := leS)) (pe_chain op_le_str op_le_str ha hb hc hm)
theorem ok_chS {env : Env} {Q : Rv → Env → Prop} {x y z : Str} (h1 : ma env = .ok (.d (.str x)) env) (h2 : mb env = .ok (.d (.str y)) env) (h3 : mc env = .ok (.d (.str z)) env) (h : Q (.d (.bool (leS x y && leS y z))) env) : Ok (mChS ma mb mc env) Q := by
  unfold mChS mChain
  rw [ok_bnd, ok_vm, h1]
  show Ok (bnd (vm mb) _ env) Q
  rw [ok_bnd, ok_vm, h2]
  show Ok (match gS (fun i j => vB (leS i j)) (.str x) (.str y) with
    | some (.val (.bool true)) => _
    | some (.val (.bool false)) => _
    | _ => _) Q
  show Ok (match vB (leS x y) with
    | some (.val (.bool true)) => _
    | some (.val (.bool false)) => _
    | _ => _) Q
  cases e : leS x y with
  | false =>
    rw [e] at h
    exact h
  | true =>
    rw [e] at h
    show Ok (bnd (vm mc) _ env) Q
    rw [ok_bnd, ok_vm, h3]
    exact h
/-! ### tuple(range(a)) -/
def mTupR1 (ma : M Rv) : M Rv := bnd (vm ma) fun r => match r with
  | .d (.int j) => if 0 ≤ j ∧ j ≤ 16777216 then ret (.d (.tuple (rngD 0 j.toNat))) else stk
  | _ => stk
variable {p p2 pos2 : Pos}
theorem de_tupR1 (hc : X.calm = true) (hg : Gl X "tuple") (hm : X.mg "tuple" = none) (hg2 : Gl X "range") (hm2 : X.mg "range" = none) (ha : DE X cl E a ma)
    (na : starEach [a] X.env = (false, eval a X.env) :: starEach [] X.env := by rfl)
    (nc : starEach [.Call (.Name "range" p2) [a] [] pos2] X.env = (false, eval (.Call (.Name "range" p2) [a] [] pos2) X.env) :: starEach [] X.env := by rfl) :
    DE X cl E (.Call (.Name "tuple" p) [.Call (.Name "range" p2) [a] [] pos2] [] pos) (mTupR1 ma) := by
  refine ⟨fun pins s σ H Q I ⟨P, B, env, fps, F, h⟩ => (pe_tupRg hc hg hm (prg_1 hg2 hm2 ha na) nc).run pins s σ H Q I ⟨P, B, env, fps, F, ?_⟩⟩
  refine (post_vm h).mono ?_
  rintro v H1 ⟨B1, env1, fps1, r, x1, F1, w1, h1⟩
  split at h1
  · rename_i j
    split at h1
    · rename_i hj
      have e1 := rvs_int w1
      refine ⟨j, e1, RgOk.of_le (by omega) (by omega) (by omega) (by omega), fun l hl => ?_⟩
      obtain ⟨h3, h4, h5⟩ := F1.newB hl
      have xx := Ext.upd (o := .tup (rgV 0 j)) h3 h4
      have ej : (j - 0).toNat = j.toNat := by omega
      refine h1 _ _ _ fps1 xx (F1.allocB hl) (.tup (.inl (.inl upd_same)) ?_)
      have rr := RDs.mono (K := X.K) xx.1 _ _ (rgV_rd (B := B1) 0 (j - 0).toNat)
      have ed : rngD 0 j.toNat = rngD 0 (j - 0).toNat := by rw [ej]
      rw [ed]
      exact rr
    · exact h1.elim
  · exact h1.elim
theorem ok_mTupR1 {env : Env} {Q : Rv → Env → Prop} : Ok (mTupR1 ma env) Q ↔ Ok (ma env) fun r e => RI r.frz fun j => (0 ≤ j ∧ j ≤ 16777216) ∧ Q (.d (.tuple (rngD 0 j.toNat))) e := by
  unfold mTupR1
  rw [ok_bnd, ok_vm]
  refine Iff.of_eq (congrArg _ (funext fun r => funext fun e => propext ?_))
  generalize r.frz = r
  rcases r with (_ | b | k | _ | _ | _ | _) | _ | _ <;> try exact Iff.rfl
  simp only [ri_i]
  by_cases hj : 0 ≤ k ∧ k ≤ 16777216
  · rw [if_pos hj]
    exact ⟨fun h => ⟨hj, h⟩, fun h => h.2⟩
  · rw [if_neg hj]
    exact ⟨fun h => h.elim, fun h => absurd h.1 hj⟩
end
end Mi

set_option Elab.async false
set_option linter.all false
set_option maxRecDepth 100000
set_option autoImplicit false
namespace Mi
open PySem PySem.Spec L2
/-! ### a def that calls the lambda handed to it and tells which refusal came -/
def mWord (errs : List String) (hs : List (String × Str)) (last : Str) (m : M Rv) : M Rv := fun env => match m env with
  | .ok _ e => .ok (.d (.str last)) e
  | .ex c e => match pickH errs c hs with
    | some (some w) => .ok (.d (.str w)) e
    | _ => .stuck
  | .stuck => .stuck
/-- what it makes of the lambda's reading -/
def TTw (X : Cx) (l : List (String × Str)) (last : Str) : (XK → Hp → VK → Prop) → Hp → VK → Prop := fun tl H Q =>
  tl (fun cls d H' => ∀ σ, wMany X.K (fun _ _ _ _ => False) { nx := fun _ _ => False, rt := Q } (hdT X.K (clK X.K) l) cls d σ H') H (fun _ H' => Q (.str last) H')
theorem pass_lam {X : Cx} {A : Around} {outer : List PySem.Env} {s : Shared} {H : Hp} {E : XK} {scope : Scope} {f c' : Addr} : Passes (L2.CX (LamX.lamCx X A outer s H E scope f c').prog (LamX.lamCx X A outer s H E scope f c').w) (LamX.lamCx X A outer s H E scope f c') E := by
  have tk := L2.takes_of (X := LamX.lamCx X A outer s H E scope f c') (E := E) rfl rfl rfl rfl
  exact L2.passes_call tk fun _ _ _ _ e => e
section
variable {X : Cx} {errs : List String} {l : List (String × Str)} {last : Str} {x a q : Str} {Ng : List Str} {sg : Scope} {g : Addr} {cdg : Value} {h₀ : ExceptHandler} {hds : List ExceptHandler} {p1 p2 p3 p4 p5 p6 : Pos} {j : Nat}
theorem wMany_rt {K : PySem.W.Frag} {nx nx' : L2.St → Hp → Prop} {Q : VK} : ∀ {l : List (String × Str)} {cls : Value} {d : Option Addr} {σ : L2.St} {H : Hp}, wMany K (fun _ _ _ _ => False) { nx := nx, rt := Q } (hdT K (clK K) l) cls d σ H → wMany K (fun _ _ _ _ => False) { nx := nx', rt := Q } (hdT K (clK K) l) cls d σ H
  | [], _, _, _, _, h => h
  | (c, t) :: l, _, _, _, _, h => by
    obtain ⟨b, h1, h2, h3⟩ := h
    exact ⟨b, h1, h2, fun e => wMany_rt (h3 e)⟩
theorem word_gives (h0 : ∀ f : Addr, (L2.start Ng [V.ref f])[0]? = some (some (V.ref f))) (hh : ∀ s H, HdsC (cxOf C8.CX0 X.prog X.w X.K X.mg X.base Ng x sg g cdg X.A X.stack s H C8.E0).nox (clK X.K) (h₀ :: hds) l) :
    LamX.GivesTo X Ng x sg g cdg [.Try [.Expr (.Call (.Name a p1) [] [] p2) p3] (h₀ :: hds) [] [] p4, .Return (some (.Constant (.str last) j p5)) p6] a q (TTw X l last) := by
  intro f c' s H Q tl act hc h
  refine ⟨_, pss_cons (L2.ps_try_many (X := (cxOf C8.CX0 X.prog X.w X.K X.mg X.base Ng x sg g cdg X.A X.stack s H C8.E0).nox)
      (tb := fun W D σ H => ∃ Ech : XK, (∀ cls d σ' H', Ech cls d H' → W cls d σ' H') ∧ σ[0]? = some (some (.ref f)) ∧ H c' = some (LamX.CodeO c' q) ∧ tl Ech H fun _ H' => D.nx σ H')
      rfl rfl LamX.takes0 (fun W pn xe tk _ => ?_) (hdsOk_of (hh s H))) (pss_one (ps_ret pe_str)), ?_⟩
  · refine ⟨fun pins s' σ H' D I h' => ?_⟩
    obtain ⟨Ech, hW, h1, h2, h3⟩ := h'
    have hp := act W pn xe Ech p1 p2 tk hW
    have hq := pss_one (ps_expr (pos := p3) hp)
    exact hq.run pins s' σ H' D I ⟨h1, h2, h3⟩
  · exact ⟨_, fun cls d σ' H' e => wMany_rt (e σ'), h0 f, hc, h⟩
end
section
variable {X : Cx} {E : XK} {errs : List String} {l : List (String × Str)} {last : Str} {x a : Str} {Ng : List Str} {st : Stmt} {h₀ : ExceptHandler} {hds : List ExceptHandler} {p1 p2 p3 p4 p5 p6 p lpos pos : Pos} {j k : Nat} {params : Arguments} {body : Expr} {scope : Scope} {m : M Rv}
theorem de_word (hg : Gl X x) (d : DefAt X.K X.mg x [a] st) (Sg : FnScope Ng [a] (defScope st)) (hNg : Ng[0]? = some a) (hva : Vis (defScope st) a)
    (hbd : defBody st = [.Try [.Expr (.Call (.Name a p1) [] [] p2) p3] (h₀ :: hds) [] [] p4, .Return (some (.Constant (.str last) j p5)) p6])
    (hh : ∀ g cdg s H, HdsC (cxOf C8.CX0 X.prog X.w X.K X.mg X.base Ng x (defScope st) g cdg X.A X.stack s H C8.E0).nox (clK X.K) (h₀ :: hds) l)
    (hx : ∀ c ∈ errs, ∀ x ∈ errs, PySem.W.exmOne X.K (.ref (clK X.K c)) (.ref (clK X.K x)) = some (decide (c = x)))
    (LH : LamH X) (hr : Room (k + 2) X.A) (L : LamX.LamS X.env.scope scope) (hdef : defaultsOf params X.env = ([], []))
    (hbind : ∀ (q : Str) (cl : List (Str × Addr)) (pm cv ctv : Value), bindArgs (PySem.W.kla_fn "<lambda>" q params body scope cl pm cv ctv) ⟨[], []⟩ = pure [])
    (hbody : ∀ (A : Around) (outer : List PySem.Env) (s : Shared) (H : Hp) (E' : XK) (f c' : Addr), Room k (A.deeper (LamX.lamEnv X scope s.heap.objs.size f c')) → DE (LamX.lamCx X A outer s H E' scope f c') (clK X.K) E' body m)
    (h0 : ∀ f : Addr, (L2.start Ng [V.ref f])[0]? = some (some (V.ref f)))
    (hdb : (x == ("__debug__" : Str)) = false := by decide) (hd : (a == ("__debug__" : Str)) = false := by decide) (hcd : (a == ("__classdict__" : Str)) = false := by decide) :
    DE X (clK X.K) E (.Call (.Name x p) [.Lambda params body scope lpos] [] pos) (mWord errs l last m) := by
  obtain ⟨g, fd, h1, h2, h3⟩ := d
  obtain ⟨oc, od, dV, kV, doc, pm, an, cdv, ct, osl, rfl, lk, hcd2, _, _⟩ := h2.ex
  rw [hbd] at lk h3
  obtain ⟨c, Pt, TB, hcode, hm, hu⟩ := LH.code
  have P0 := LamX.pe_lamcall (p := p) (lpos := lpos) (pos := pos) (T := tabsOf X.K) (TT := TTw X l last) (t := fun E' => tM X.K (clK X.K) E' m) hg h1 h2.kp lk hcd2 h3 Sg hNg hva (word_gives h0 fun s H => hh _ _ s H) TB hcode hm hu hr L hdef hbind hbody hdb hd hcd
  refine ⟨fun pins s σ H Q I h => P0.run pins s σ H Q I ?_⟩
  obtain ⟨P, B, env, fps, F, h⟩ := h
  refine ⟨tabs_of F.sub F.tab, fun H1 x1 T1 => ?_⟩
  obtain ⟨B1, x2, F1⟩ := F.lam x1 T1
  refine ⟨P, B1, env, fps, F1, ?_⟩
  unfold mWord at h
  cases e : m env with
  | stuck => rw [e] at h; exact h.elim
  | ok r e1 =>
    rw [e] at h
    intro v H2 B2 fps2 x3 F2 rr
    exact h (.str last) H2 B2 fps2 (x2.trans x3) F2 (.str last)
  | ex cc e1 =>
    rw [e] at h
    intro H2 B2 fps2 x3 F2 σ2
    simp only at h
    split at h
    · rename_i w hw
      refine many_of hx hw (fun t et => ?_) (fun en => by cases en)
      cases et
      exact h (.str w) H2 B2 fps2 (x2.trans x3) F2 (.str w)
    · exact h.elim
/-! ### the calculus -/
theorem ok_word {env : Env} {Q : Rv → Env → Prop} (h : Okc (m env) (fun _ e => Q (.d (.str last)) e) fun c e => ∃ w, pickH errs c l = some (some w) ∧ Q (.d (.str w)) e) : Ok (mWord errs l last m env) Q := by
  unfold mWord
  cases e : m env with
  | ok r e1 =>
    rw [e] at h
    have h2 := okd_ok.mp h
    exact h2
  | ex c e1 =>
    rw [e] at h
    obtain ⟨w, h1, h2⟩ := okd_ex.mp h
    simp only [h1]
    exact h2
  | stuck =>
    rw [e] at h
    exact (okd_st.mp h).elim
end
end Mi

set_option Elab.async false
set_option linter.all false
set_option maxRecDepth 100000
set_option autoImplicit false
namespace Mi
open PySem PySem.Spec L2
/-! ### x, y, z = a, b, c of data -/
def mPar3 (i j l : Nat) (ma mb mc : M Rv) : M Fl := bnd (vm ma) fun r1 => bnd (vm mb) fun r2 => bnd (vm mc) fun r3 env => match r1, r2, r3 with
  | .d a, .d b, .d c => .ok .nx (((env.set i (some (.dat a))).set j (some (.dat b))).set l (some (.dat c)))
  | _, _, _ => .stuck
section
variable {X : Cx} {cl : String → Addr} {E : XK} {io : List Nat} {a b c : Expr} {ma mb mc : M Rv} {pos px py pz pt pt2 : Pos} {i j l : Nat} {x y z : Str} {kt k2}
theorem ds_par3 (hc : X.calm = true) (hN : X.N.Nodup) (hi : X.N[i]? = some x) (hj : X.N[j]? = some y) (hl : X.N[l]? = some z) (hij : (i == j) = false) (hil : (i == l) = false) (hjl : (j == l) = false) (hio : io.contains i = false) (hjo : io.contains j = false) (hlo : io.contains l = false)
    (hx : X.env.scope.names.lookup x = some .local) (hy : X.env.scope.names.lookup y = some .local) (hz : X.env.scope.names.lookup z = some .local) (ha : DE X cl E a ma) (hb : DE X cl E b mb) (hcc : DE X cl E c mc)
    (hw : swappedStores [.Tuple [.Name x px, .Name y py, .Name z pz] kt pt] (.Tuple [a, b, c] k2 pt2) X.env = pure (some [x, y, z]) := by rfl)
    (hs : swapsWithSole [.Tuple [.Name x px, .Name y py, .Name z pz] kt pt] (.Tuple [a, b, c] k2 pt2) pos.line X.env = pure false := by rfl)
    (n1 : starEach [a, b, c] X.env = (false, eval a X.env) :: starEach [b, c] X.env := by rfl) (n2 : starEach [b, c] X.env = (false, eval b X.env) :: starEach [c] X.env := by rfl) (n3 : starEach [c] X.env = (false, eval c X.env) :: starEach [] X.env := by rfl) :
    DS X cl E io (.Assign [.Tuple [.Name x px, .Name y py, .Name z pz] kt pt] (.Tuple [a, b, c] k2 pt2) pos) (mPar3 i j l ma mb mc) := by
  have hij : i ≠ j := by intro e; subst e; simp at hij
  have hil : i ≠ l := by intro e; subst e; simp at hil
  have hjl : j ≠ l := by intro e; subst e; simp at hjl
  refine ⟨fun pins s σ H D I ⟨P, B, env, fps, F, h⟩ => (ps_par3 hc hN hi hj hl hij hil hjl hx hy hz (pa_cons ha (pa_cons hb (pa_cons hcc pa_nil n3) n2) n1) hw hs).run pins s σ H D I ?_⟩
  have hli : i < σ.length := by rw [I.len]; exact getElem?_lt hi
  have hlj : j < σ.length := by rw [I.len]; exact getElem?_lt hj
  have hll : l < σ.length := by rw [I.len]; exact getElem?_lt hl
  refine ⟨P, B, env, fps, F, (postS_vm h).mono ?_⟩
  rintro v1 H1 ⟨B1, env1, fps1, r1, x1, F1, w1, h1⟩
  refine ⟨P, B1, env1, fps1, F1, (postS_vm h1).mono ?_⟩
  rintro v2 H2 ⟨B2, env2, fps2, r2, x2, F2, w2, h2⟩
  refine ⟨P, B2, env2, fps2, F2, (postS_vm h2).mono ?_⟩
  rintro v3 H3 ⟨B3, env3, fps3, r3, x3, F3, w3, h3⟩
  split at h3
  · rename_i d1 d2 d3
    have q1 := w1.mono (x2.trans x3).1
    have q2 := w2.mono x3.1
    have G1 := F3.store (o := .dat d1) hli (.dat q1) fun a h => by simp at h
    have G2 := G1.store (i := j) (o := .dat d2) (by rw [List.length_set]; exact hlj) (.dat q2) fun a h => by simp at h
    have G3 := G2.store (i := l) (o := .dat d3) (by rw [List.length_set, List.length_set]; exact hll) (.dat w3) fun a h => by simp at h
    exact ⟨v1, v2, v3, rfl, h3 _ H3 B3 _ Ext.refl G3 (((sameIo_set hio).trans (sameIo_set hjo)).trans (sameIo_set hlo))⟩
  · exact h3.elim
end
section
variable {env : Env} {Q : Fl → Env → Prop} {i j l : Nat} {ma mb mc : M Rv}
theorem ok_par3 (h : Ok (ma env) fun r1 e1 => Ok (mb e1) fun r2 e2 => Ok (mc e2) fun r3 e3 => RD1 r1.frz fun a => RD1 r2.frz fun b => RD1 r3.frz fun c => Q .nx (((e3.set i (some (.dat a))).set j (some (.dat b))).set l (some (.dat c)))) : Ok (mPar3 i j l ma mb mc env) Q := by
  unfold mPar3
  rw [ok_bnd, ok_vm]
  refine h.mono fun r1 e1 h => ?_
  rw [ok_bnd, ok_vm]
  refine h.mono fun r2 e2 h => ?_
  rw [ok_bnd, ok_vm]
  refine h.mono fun r3 e3 h => ?_
  generalize r1.frz = r1 at h ⊢
  generalize r2.frz = r2 at h ⊢
  generalize r3.frz = r3 at h ⊢
  cases r1 <;> cases r2 <;> cases r3 <;> first | exact h | exact h.elim
end
end Mi

set_option Elab.async false
set_option maxRecDepth 20000
set_option linter.all false
namespace Mi
open PySem PySem.Spec L2

/-! ### operators at values -/
section
variable {i j : Int} {b c : Bool} {z y : Str} {ds es : List D} {kv : List (PyData × PyData)} {Q : D → Prop}
theorem opt_vB {Q : Out → Prop} {b : Bool} : Opt (vB b) Q ↔ Q (.val (.bool b)) := Iff.rfl
theorem opt_vI {Q : Out → Prop} {b : Int} : Opt (vI b) Q ↔ Q (.val (.int b)) := Iff.rfl
theorem gLt_i : gLt (.int i) (.int j) = vB (decide (i < j)) := rfl
theorem gLe_i : gLe (.int i) (.int j) = vB (decide (i ≤ j)) := rfl
theorem gGt_i : gGt (.int i) (.int j) = vB (decide (j < i)) := rfl
theorem gGe_i : gGe (.int i) (.int j) = vB (decide (j ≤ i)) := rfl
theorem gAdd_i : gAdd (.int i) (.int j) = vI (i + j) := rfl
theorem gAdd_t : gAdd (.tuple ds) (.tuple es) = if ds.length + es.length ≤ sizeLine then some (.tup (ds ++ es)) else none := rfl
theorem gAdd_l : gAdd (.list ds) (.list es) = if ds.length + es.length ≤ sizeLine then some (.lst (ds ++ es)) else none := rfl
theorem gAdd_s : gAdd (.str z) (.str y) = if z.length + y.length ≤ sizeLine then some (.val (.str (z ++ y))) else none := rfl
theorem gSub_i : gSub (.int i) (.int j) = vI (i - j) := rfl
theorem gMul_i : gMulI (.int i) (.int j) = if -(2 ^ 64) < i ∧ i < 2 ^ 64 then vI (i * j) else none := rfl
theorem gFdiv_i : gFdiv (.int i) (.int j) = if 0 < j ∧ j < 1073741824 then vI (i / j) else none := rfl
theorem gMod_i : gMod (.int i) (.int j) = if 0 < j then vI (i % j) else none := rfl
theorem gPow_i : gPow (.int i) (.int j) = if 0 ≤ j ∧ j ≤ 1000000 ∧ i.natAbs < 2 ^ 64 then vI (i ^ j.toNat) else none := rfl
theorem gIx_l : gIx (.list ds) (.int i) = (atI ds i).map .val := rfl
theorem gIx_t : gIx (.tuple ds) (.int i) = (atI ds i).map .val := rfl
theorem gIx_s : gIx (.str z) (.int i) = if z.length ≤ sizeLine then (atI z.cps.toList i).map fun c => .val (.str ⟨#[c]⟩) else none := rfl
theorem gLen_l : gLen [.list ds] = vI ds.length := rfl
theorem gLen_t : gLen [.tuple ds] = vI ds.length := rfl
theorem gLen_s : gLen [.str z] = if z.length ≤ sizeLine then vI z.length else none := rfl
theorem gTuple_l : gTuple [.list ds] = some (.tup ds) := rfl
theorem gTuple_t : gTuple [.tuple ds] = some (.tup ds) := rfl
theorem gList_l : gList [.list ds] = some (.lst ds) := rfl
theorem gList_t : gList [.tuple ds] = some (.lst ds) := rfl
theorem gInt_i : gInt [.int i] = vI i := rfl
theorem gInt_b : gInt [.bool b] = vI (if b = true then 1 else 0) := rfl
theorem gMax2_i : gMax2 [.int i, .int j] = vI (if j > i then j else i) := rfl
theorem gMin2_i : gMin2 [.int i, .int j] = vI (if j < i then j else i) := rfl
theorem gCut_l {lo hi : Option Int} : gCut (.list ds) lo hi = some (.lst (cutL ds lo hi)) := rfl
theorem gCut_t {lo hi : Option Int} : gCut (.tuple ds) lo hi = some (.tup (cutL ds lo hi)) := rfl
theorem gCut_s {lo hi : Option Int} : gCut (.str z) lo hi = if z.length ≤ sizeLine then some (.val (.str (cutS z lo hi))) else none := rfl
theorem gAll_l : gAll [.list ds] = (boolsD ds).bind fun ns => vB (ns.all id) := rfl
theorem gAny_l : gAny [.list ds] = (boolsD ds).bind fun ns => vB (ns.any id) := rfl
theorem gSum_l : gSum [.list ds] = (intsD ds).bind fun ns => vI ns.sum := rfl
theorem gEq_d {x y : D} : gEq x y = if okd x 60 = true ∧ okd y 60 = true then vB (PyData.eqv x y) else none := rfl
theorem gNe_d {x y : D} : gNe x y = if okd x 60 = true ∧ okd y 60 = true then vB (!PyData.eqv x y) else none := rfl
theorem gEq_i : gEq (.int i) (.int j) = vB (decide (i = j)) := rfl
theorem gNe_i : gNe (.int i) (.int j) = vB (decide (i ≠ j)) := by
  show vB (!(decide (i = j))) = _
  by_cases h : i = j <;> simp [h]
theorem gEq_b : gEq (.bool b) (.bool c) = vB (b == c) := rfl
theorem gNe_b : gNe (.bool b) (.bool c) = vB (b != c) := rfl
theorem gApp_1 {x : D} : gApp ds [x] = if ds.length < sizeLine then some (.none, ds ++ [x]) else none := rfl
theorem gPopI_1 : gPopI ds [.int i] = if -(2 ^ 63) ≤ i ∧ i < 2 ^ 63 then (match seqIndex? i ds.length with
    | some k => ds[k]?.map fun d => (d, ds.eraseIdx k)
    | none => none) else none := rfl
theorem gExt_l : gExt ds [.list es] = if ds.length + es.length ≤ sizeLine then some (.none, ds ++ es) else none := rfl
theorem gExt_t : gExt ds [.tuple es] = if ds.length + es.length ≤ sizeLine then some (.none, ds ++ es) else none := rfl
theorem gIns_0 {x : D} : gIns ds [.int i, x] = if ds.length < sizeLine ∧ 0 ≤ i ∧ i < 2 ^ 63 then some (.none, ds.take i.toNat ++ [x] ++ ds.drop i.toNat) else none := rfl
theorem gClr_0 : gClr ds [] = some (.none, []) := rfl
theorem gSorted_l : gSorted [.list ds] = if likeAll ds = true ∧ ds.length ≤ sizeLine then some (.lst (ds.mergeSort (PySem.W.dataLe false fun d => d))) else none := rfl
theorem asgT_nm {i : Nat} {d : D} {env : Env} : asgT (.nm i) d env = some (env.set i (some (.dat d))) := by simp only [asgT]
theorem asgT_tp {ts : List Tg} {ds : List D} {env : Env} : asgT (.tp ts) (.tuple ds) env = asgTs ts ds env := by simp only [asgT]
theorem asgTs_nil {env : Env} : asgTs [] [] env = some env := by simp only [asgTs]
theorem asgTs_cons {t : Tg} {ts : List Tg} {d : D} {ds : List D} {env : Env} : asgTs (t :: ts) (d :: ds) env = (asgT t d env).bind fun e => asgTs ts ds e := by
  simp only [asgTs]
  cases asgT t d env <;> rfl
theorem gStr_i : gStr [.int i] = if i.natAbs.log2 < 1920 then some (.val (.str (toString i))) else none := rfl
theorem seqD_l : seqD (.list ds) = some ds := rfl
theorem seqD_t : seqD (.tuple ds) = some ds := rfl

theorem isi_bool_bool : isiD "bool" (.bool b) = true := by rfl
theorem isi_bool_int : isiD "bool" (.int i) = false := by simp [isiD, tyD]
theorem isi_bool_str : isiD "bool" (.str z) = false := by simp [isiD, tyD]
theorem isi_bool_list : isiD "bool" (.list ds) = false := by simp [isiD, tyD]
theorem isi_bool_tuple : isiD "bool" (.tuple ds) = false := by simp [isiD, tyD]
theorem isi_bool_none : isiD "bool" (.none) = false := by simp [isiD, tyD]
theorem isi_bool_dict : isiD "bool" (.dict kv) = false := by simp [isiD, tyD]
theorem isi_int_bool : isiD "int" (.bool b) = true := by rfl
theorem isi_int_int : isiD "int" (.int i) = true := by rfl
theorem isi_int_str : isiD "int" (.str z) = false := by simp [isiD, tyD]
theorem isi_int_list : isiD "int" (.list ds) = false := by simp [isiD, tyD]
theorem isi_int_tuple : isiD "int" (.tuple ds) = false := by simp [isiD, tyD]
theorem isi_int_none : isiD "int" (.none) = false := by simp [isiD, tyD]
theorem isi_int_dict : isiD "int" (.dict kv) = false := by simp [isiD, tyD]
theorem isi_str_bool : isiD "str" (.bool b) = false := by simp [isiD, tyD]
theorem isi_str_int : isiD "str" (.int i) = false := by simp [isiD, tyD]
theorem isi_str_str : isiD "str" (.str z) = true := by rfl
theorem isi_str_list : isiD "str" (.list ds) = false := by simp [isiD, tyD]
theorem isi_str_tuple : isiD "str" (.tuple ds) = false := by simp [isiD, tyD]
theorem isi_str_none : isiD "str" (.none) = false := by simp [isiD, tyD]
theorem isi_str_dict : isiD "str" (.dict kv) = false := by simp [isiD, tyD]
theorem isi_list_bool : isiD "list" (.bool b) = false := by simp [isiD, tyD]
theorem isi_list_int : isiD "list" (.int i) = false := by simp [isiD, tyD]
theorem isi_list_str : isiD "list" (.str z) = false := by simp [isiD, tyD]
theorem isi_list_list : isiD "list" (.list ds) = true := by rfl
theorem isi_list_tuple : isiD "list" (.tuple ds) = false := by simp [isiD, tyD]
theorem isi_list_none : isiD "list" (.none) = false := by simp [isiD, tyD]
theorem isi_list_dict : isiD "list" (.dict kv) = false := by simp [isiD, tyD]
theorem isi_tuple_bool : isiD "tuple" (.bool b) = false := by simp [isiD, tyD]
theorem isi_tuple_int : isiD "tuple" (.int i) = false := by simp [isiD, tyD]
theorem isi_tuple_str : isiD "tuple" (.str z) = false := by simp [isiD, tyD]
theorem isi_tuple_list : isiD "tuple" (.list ds) = false := by simp [isiD, tyD]
theorem isi_tuple_tuple : isiD "tuple" (.tuple ds) = true := by rfl
theorem isi_tuple_none : isiD "tuple" (.none) = false := by simp [isiD, tyD]
theorem isi_tuple_dict : isiD "tuple" (.dict kv) = false := by simp [isiD, tyD]
theorem isi_dict_bool : isiD "dict" (.bool b) = false := by simp [isiD, tyD]
theorem isi_dict_int : isiD "dict" (.int i) = false := by simp [isiD, tyD]
theorem isi_dict_str : isiD "dict" (.str z) = false := by simp [isiD, tyD]
theorem isi_dict_list : isiD "dict" (.list ds) = false := by simp [isiD, tyD]
theorem isi_dict_tuple : isiD "dict" (.tuple ds) = false := by simp [isiD, tyD]
theorem isi_dict_none : isiD "dict" (.none) = false := by simp [isiD, tyD]
theorem isi_dict_dict : isiD "dict" (.dict kv) = true := by rfl
theorem atI_0 {α : Type} {xs : List α} : atI xs 0 = xs[0]? := by
  cases xs <;> simp [atI, ixN]
theorem atI_lt {α : Type} {xs : List α} {i : Int} (h0 : 0 ≤ i) (h1 : i < xs.length) : atI xs i = some (xs[i.toNat]'(by omega)) := by
  unfold atI ixN
  rw [if_pos h0, if_pos h1]
  simp only [Option.bind_some]
  exact List.getElem?_eq_getElem _
theorem atI_neg {α : Type} {xs : List α} {i : Int} (h0 : i < 0) (h1 : -(xs.length : Int) ≤ i) : atI xs i = some (xs[(i + xs.length).toNat]'(by omega)) := by
  unfold atI ixN
  rw [if_neg (by omega), if_pos h1]
  simp only [Option.bind_some]
  exact List.getElem?_eq_getElem _
theorem opt_at {α : Type} {xs : List α} {i : Int} {Q : α → Prop} (h0 : 0 ≤ i) (h1 : i < xs.length) (h : ∀ x ∈ xs, Q x) : Opt (atI xs i) Q := by
  rw [atI_lt h0 h1]
  exact h _ (List.getElem_mem _)
end

end Mi

set_option Elab.async false
set_option linter.all false
set_option maxRecDepth 100000
set_option maxHeartbeats 0
namespace Mi
open PySem PySem.Spec L2
def fuelN : Nat := 1073741824
abbrev top (i : Nat) : Stmt := PySem.Challenge.pw_tastehouse_k06_first_refusals.main.body.getD i (.Pass ⟨0, 0, 0, 0⟩)
def errs : List String := ["NoSpot", "NoRecipe", "NoTasting", "NoNumber"]
structure Ev (K : PySem.W.Frag) (mg : Str → Option Value) (base : Heap) : Prop where
  b_all : mg "all" = none
  b_bool : mg "bool" = none
  b_enumerate : mg "enumerate" = none
  b_int : mg "int" = none
  b_isinstance : mg "isinstance" = none
  b_len : mg "len" = none
  b_list : mg "list" = none
  b_min : mg "min" = none
  b_range : mg "range" = none
  b_set : mg "set" = none
  b_sorted : mg "sorted" = none
  b_str : mg "str" = none
  b_tuple : mg "tuple" = none
  c_NAMES : ∃ t, mg "NAMES" = some (.int 8 t)
  l_all_by : LamB K mg base "all_by"
  l_law_asked : LamB K mg base "_law_asked"
  x_NoSpot : ExF K mg "NoSpot"
  x_NoRecipe : ExF K mg "NoRecipe"
  x_NoTasting : ExF K mg "NoTasting"
  x_NoNumber : ExF K mg "NoNumber"
  em : ∀ c ∈ errs, ∀ x ∈ errs, PySem.W.exmOne K (.ref (clK K c)) (.ref (clK K x)) = some (decide (c = x))
  d_is_whole : DefAt K mg "is_whole" ["thing"] (top 8)
  d_is_below : DefAt K mg "is_below" ["thing", "many"] (top 9)
  d_is_spot_of : DefAt K mg "is_spot_of" ["tables", "thing"] (top 10)
  d_is_spot : DefAt K mg "is_spot" ["house", "thing"] (top 11)
  d_ask_spot : DefAt K mg "ask_spot" ["house", "thing"] (top 12)
  d_ask_recipe : DefAt K mg "ask_recipe" ["house", "thing"] (top 13)
  d_ask_tasting : DefAt K mg "ask_tasting" ["house", "thing"] (top 14)
  d_ask_name : DefAt K mg "ask_name" ["thing"] (top 15)
  d_all_by : DefAt K mg "all_by" ["house", "spot", "name"] (top 17)
  d_first_of : DefAt K mg "first_of" ["row"] (top 18)
  d_needs_by : DefAt K mg "needs_by" ["house", "number"] (top 19)
  d_tasting_by : DefAt K mg "tasting_by" ["house", "number"] (top 20)
  d_found_at : DefAt K mg "found_at" ["house", "spot", "name"] (top 21)
  d_all_at : DefAt K mg "all_at" ["house", "spot", "name"] (top 22)
  d_straight_of : DefAt K mg "straight_of" ["house", "recipe"] (top 23)
  d_tasting_needs : DefAt K mg "tasting_needs" ["house", "tasting"] (top 24)
  d_law_cell_at : DefAt K mg "_law_cell_at" ["_law_script", "_law_k"] (top 26)
  d_law_pen : DefAt K mg "_law_pen" ["_law_cell"] (top 27)
  d_law_draw : DefAt K mg "_law_draw" ["_law_pen_here", "_law_bound"] (top 28)
  d_law_spots : DefAt K mg "_law_spots" ["_law_tables"] (top 29)
  d_law_needs : DefAt K mg "_law_needs" ["_law_pen_here", "_law_names"] (top 30)
  d_law_words : DefAt K mg "_law_words" ["_law_pen_here"] (top 31)
  d_law_raw : DefAt K mg "_law_raw" ["_law_pen_here"] (top 32)
  d_law_thing : DefAt K mg "_law_thing" ["_law_pen_here", "_law_deep"] (top 33)
  d_law_spoilt : DefAt K mg "_law_spoilt" ["_law_pen_here", "_law_thing_here"] (top 34)
  d_law_word : DefAt K mg "_law_word" ["_law_call"] (top 35)
  d_law_is_in : DefAt K mg "_law_is_in" ["_law_thing_here", "_law_many"] (top 36)
  d_law_is_place : DefAt K mg "_law_is_place" ["_law_house", "_law_thing_here"] (top 37)
  d_law_asked : DefAt K mg "_law_asked" ["_law_house", "_law_spot", "_law_name", "_law_at"] (top 38)
  d_law : DefAt K mg "law" ["_law_script"] (top 39)
section
variable {P : Program} {w : World} {K : PySem.W.Frag} {mg : Str → Option Value} {base : Heap}
theorem sc_is_whole : FnScope ["thing"] ["thing"] (defScope (top 8)) := ⟨rfl, rfl, rfl, by decide +kernel, rfl, by decide +kernel, by decide +kernel⟩
def m_is_whole : M Fl :=
  (mRet [] (mAndV (mIsi "int" (mVar 0)) (mAndV (mNotV (mIsi "bool" (mVar 0))) (mBin gGe (mVar 0) (mC (.int 0))))))
def f_is_whole : M O := runF 1 m_is_whole
theorem b_is_whole (ev : Ev K mg base) : Bd P w K mg base (clK K) 0 "is_whole" ["thing"] [] (top 8) m_is_whole := fun f cdv A outer s H E hr =>
  (dss_one (ds_ret (de_and (de_isi (T := "int") (by decide) rfl ev.b_isinstance rfl ev.b_int PyProof.Rows.boot_int (de_var (i := 0) rfl (.inl rfl))) (de_and (de_not (de_isi (T := "bool") (by decide) rfl ev.b_isinstance rfl ev.b_bool PyProof.Rows.boot_bool (de_var (i := 0) rfl (.inl rfl)))) (de_one (de_cmp (de_var (i := 0) rfl (.inl rfl)) de_int (od_ge)))))))
theorem h_is_whole (ev : Ev K mg base) : Has P w K mg base (clK K) 1 "is_whole" ["thing"] 1 [] f_is_whole := has_by (k := 0) ev.d_is_whole sc_is_whole rfl (by decide) (b_is_whole ev)
theorem sc_is_below : FnScope ["thing", "many"] ["thing", "many"] (defScope (top 9)) := ⟨rfl, rfl, rfl, by decide +kernel, rfl, by decide +kernel, by decide +kernel⟩
def m_is_below : M Fl :=
  (mRet [] (mAndV (mCall [] f_is_whole (mCons (mVar 0) mNil)) (mBin gLt (mVar 0) (mVar 1))))
def f_is_below : M O := runF 2 m_is_below
theorem b_is_below (ev : Ev K mg base) : Bd P w K mg base (clK K) 1 "is_below" ["thing", "many"] [] (top 9) m_is_below := fun f cdv A outer s H E hr =>
  (dss_one (ds_ret (de_and (de_def (h_is_whole ev) hr (by omega) rfl pass_fn (da_cons (de_var (i := 0) rfl (.inl rfl)) da_nil) (len_cons len_nil)) (de_one (de_cmp (de_var (i := 0) rfl (.inl rfl)) (de_var (i := 1) rfl (.inl rfl)) (od_lt (units_of hr)))))))
theorem h_is_below (ev : Ev K mg base) : Has P w K mg base (clK K) 2 "is_below" ["thing", "many"] 2 [] f_is_below := has_by (k := 1) ev.d_is_below sc_is_below rfl (by decide) (b_is_below ev)
theorem sc_is_spot_of : FnScope ["tables", "thing"] ["tables", "thing"] (defScope (top 10)) := ⟨rfl, rfl, rfl, by decide +kernel, rfl, by decide +kernel, by decide +kernel⟩
def m_is_spot_of : M Fl :=
  (mSeq (mIte (mOr (mNot (tst (mIsi "tuple" (mVar 1)))) (tst (mBin gGt (mCB gLen (mCons (mVar 1) mNil)) (mC (.int 2)))))
  (mRet [] (mC (.bool false)))
  (ret .nx))
  (mSeq (mIte (mAnd (tst (mBin gGt (mCB gLen (mCons (mVar 1) mNil)) (mC (.int 0)))) (mNot (tst (mCall [] f_is_below (mCons (mBin gIx (mVar 1) (mC (.int 0))) (mCons (mCB gLen (mCons (mVar 0) mNil)) mNil))))))
  (mRet [] (mC (.bool false)))
  (ret .nx))
  (mRet [] (mOrV (mBin gLt (mCB gLen (mCons (mVar 1) mNil)) (mC (.int 2))) (mCall [] f_is_below (mCons (mBin gIx (mVar 1) (mC (.int 1))) (mCons (mBin gIx (mVar 0) (mBin gIx (mVar 1) (mC (.int 0)))) mNil)))))))
def f_is_spot_of : M O := runF 2 m_is_spot_of
theorem b_is_spot_of (ev : Ev K mg base) : Bd P w K mg base (clK K) 2 "is_spot_of" ["tables", "thing"] [] (top 10) m_is_spot_of := fun f cdv A outer s H E hr =>
  (dss_cons (ds_if (dt_w (dw_or (dt_not (dt_val (de_isi (T := "tuple") (by decide) rfl ev.b_isinstance rfl ev.b_tuple PyProof.Rows.boot_tuple (de_var (i := 1) rfl (.inl rfl))))) (dw_or1 (dt_cmp (de_len rfl ev.b_len (da_cons (de_var (i := 1) rfl (.inl rfl)) da_nil)) de_int (od_gt)))))
  (dss_one (ds_ret de_bl))
  dss_nil)
  (dss_cons (ds_if (dt_w (dw_and (dt_cmp (de_len rfl ev.b_len (da_cons (de_var (i := 1) rfl (.inl rfl)) da_nil)) de_int (od_gt)) (dw_and1 (dt_not (dt_val (de_def (h_is_below ev) hr (by omega) rfl pass_fn (da_cons (de_item (de_var (i := 1) rfl (.inl rfl)) de_int fun _ _ => rfl) (da_cons (de_len rfl ev.b_len (da_cons (de_var (i := 0) rfl (.inl rfl)) da_nil)) da_nil)) (len_cons (len_cons len_nil))))))))
  (dss_one (ds_ret de_bl))
  dss_nil)
  (dss_one (ds_ret (de_or (de_cmp (de_len rfl ev.b_len (da_cons (de_var (i := 1) rfl (.inl rfl)) da_nil)) de_int (od_lt (units_of hr))) (de_one (de_def (h_is_below ev) hr (by omega) rfl pass_fn (da_cons (de_item (de_var (i := 1) rfl (.inl rfl)) de_int fun _ _ => rfl) (da_cons (de_item (de_var (i := 0) rfl (.inl rfl)) (de_item (de_var (i := 1) rfl (.inl rfl)) de_int fun _ _ => rfl) fun _ _ => rfl) da_nil)) (len_cons (len_cons len_nil)))))))))
theorem h_is_spot_of (ev : Ev K mg base) : Has P w K mg base (clK K) 3 "is_spot_of" ["tables", "thing"] 2 [] f_is_spot_of := has_by (k := 2) ev.d_is_spot_of sc_is_spot_of rfl (by decide) (b_is_spot_of ev)
theorem sc_is_spot : FnScope ["house", "thing"] ["house", "thing"] (defScope (top 11)) := ⟨rfl, rfl, rfl, by decide +kernel, rfl, by decide +kernel, by decide +kernel⟩
def m_is_spot : M Fl :=
  (mRet [] (mCall [] f_is_spot_of (mCons (mBin gIx (mVar 0) (mC (.int 0))) (mCons (mVar 1) mNil))))
def f_is_spot : M O := runF 2 m_is_spot
theorem b_is_spot (ev : Ev K mg base) : Bd P w K mg base (clK K) 3 "is_spot" ["house", "thing"] [] (top 11) m_is_spot := fun f cdv A outer s H E hr =>
  (dss_one (ds_ret (de_def (h_is_spot_of ev) hr (by omega) rfl pass_fn (da_cons (de_item (de_var (i := 0) rfl (.inl rfl)) de_int fun _ _ => rfl) (da_cons (de_var (i := 1) rfl (.inl rfl)) da_nil)) (len_cons (len_cons len_nil)))))
theorem h_is_spot (ev : Ev K mg base) : Has P w K mg base (clK K) 4 "is_spot" ["house", "thing"] 2 [] f_is_spot := has_by (k := 3) ev.d_is_spot sc_is_spot rfl (by decide) (b_is_spot ev)
theorem sc_ask_spot : FnScope ["house", "thing"] ["house", "thing"] (defScope (top 12)) := ⟨rfl, rfl, rfl, by decide +kernel, rfl, by decide +kernel, by decide +kernel⟩
def m_ask_spot : M Fl :=
  (mIte (mNot (tst (mCall [] f_is_spot (mCons (mVar 0) (mCons (mVar 1) mNil)))))
  (mRaise "NoSpot")
  (ret .nx))
def f_ask_spot : M O := runF 2 m_ask_spot
theorem b_ask_spot (ev : Ev K mg base) : Bd P w K mg base (clK K) 4 "ask_spot" ["house", "thing"] [] (top 12) m_ask_spot := fun f cdv A outer s H E hr =>
  (dss_one (ds_if (dt_not (dt_val (de_def (h_is_spot ev) hr (by omega) rfl pass_fn (da_cons (de_var (i := 0) rfl (.inl rfl)) (da_cons (de_var (i := 1) rfl (.inl rfl)) da_nil)) (len_cons (len_cons len_nil)))))
  (dss_one (ds_raise (c := "NoSpot") ev.x_NoSpot rfl rfl (L2.takes_of rfl rfl rfl rfl)))
  dss_nil))
theorem h_ask_spot (ev : Ev K mg base) : Has P w K mg base (clK K) 5 "ask_spot" ["house", "thing"] 2 [] f_ask_spot := has_by (k := 4) ev.d_ask_spot sc_ask_spot rfl (by decide) (b_ask_spot ev)
theorem sc_ask_recipe : FnScope ["house", "thing"] ["house", "thing"] (defScope (top 13)) := ⟨rfl, rfl, rfl, by decide +kernel, rfl, by decide +kernel, by decide +kernel⟩
def m_ask_recipe : M Fl :=
  (mIte (mNot (tst (mCall [] f_is_below (mCons (mVar 1) (mCons (mCB gLen (mCons (mBin gIx (mVar 0) (mC (.int 1))) mNil)) mNil)))))
  (mRaise "NoRecipe")
  (ret .nx))
def f_ask_recipe : M O := runF 2 m_ask_recipe
theorem b_ask_recipe (ev : Ev K mg base) : Bd P w K mg base (clK K) 2 "ask_recipe" ["house", "thing"] [] (top 13) m_ask_recipe := fun f cdv A outer s H E hr =>
  (dss_one (ds_if (dt_not (dt_val (de_def (h_is_below ev) hr (by omega) rfl pass_fn (da_cons (de_var (i := 1) rfl (.inl rfl)) (da_cons (de_len rfl ev.b_len (da_cons (de_item (de_var (i := 0) rfl (.inl rfl)) de_int fun _ _ => rfl) da_nil)) da_nil)) (len_cons (len_cons len_nil)))))
  (dss_one (ds_raise (c := "NoRecipe") ev.x_NoRecipe rfl rfl (L2.takes_of rfl rfl rfl rfl)))
  dss_nil))
theorem h_ask_recipe (ev : Ev K mg base) : Has P w K mg base (clK K) 3 "ask_recipe" ["house", "thing"] 2 [] f_ask_recipe := has_by (k := 2) ev.d_ask_recipe sc_ask_recipe rfl (by decide) (b_ask_recipe ev)
theorem sc_ask_tasting : FnScope ["house", "thing"] ["house", "thing"] (defScope (top 14)) := ⟨rfl, rfl, rfl, by decide +kernel, rfl, by decide +kernel, by decide +kernel⟩
def m_ask_tasting : M Fl :=
  (mIte (mNot (tst (mCall [] f_is_below (mCons (mVar 1) (mCons (mCB gLen (mCons (mBin gIx (mVar 0) (mC (.int 2))) mNil)) mNil)))))
  (mRaise "NoTasting")
  (ret .nx))
def f_ask_tasting : M O := runF 2 m_ask_tasting
theorem b_ask_tasting (ev : Ev K mg base) : Bd P w K mg base (clK K) 2 "ask_tasting" ["house", "thing"] [] (top 14) m_ask_tasting := fun f cdv A outer s H E hr =>
  (dss_one (ds_if (dt_not (dt_val (de_def (h_is_below ev) hr (by omega) rfl pass_fn (da_cons (de_var (i := 1) rfl (.inl rfl)) (da_cons (de_len rfl ev.b_len (da_cons (de_item (de_var (i := 0) rfl (.inl rfl)) de_int fun _ _ => rfl) da_nil)) da_nil)) (len_cons (len_cons len_nil)))))
  (dss_one (ds_raise (c := "NoTasting") ev.x_NoTasting rfl rfl (L2.takes_of rfl rfl rfl rfl)))
  dss_nil))
theorem h_ask_tasting (ev : Ev K mg base) : Has P w K mg base (clK K) 3 "ask_tasting" ["house", "thing"] 2 [] f_ask_tasting := has_by (k := 2) ev.d_ask_tasting sc_ask_tasting rfl (by decide) (b_ask_tasting ev)
theorem sc_ask_name : FnScope ["thing"] ["thing"] (defScope (top 15)) := ⟨rfl, rfl, rfl, by decide +kernel, rfl, by decide +kernel, by decide +kernel⟩
def m_ask_name : M Fl :=
  (mIte (mNot (tst (mCall [] f_is_below (mCons (mVar 0) (mCons (mC (.int 8)) mNil)))))
  (mRaise "NoNumber")
  (ret .nx))
def f_ask_name : M O := runF 1 m_ask_name
theorem b_ask_name (ev : Ev K mg base) : Bd P w K mg base (clK K) 2 "ask_name" ["thing"] [] (top 15) m_ask_name := fun f cdv A outer s H E hr =>
  (dss_one (ds_if (dt_not (dt_val (de_def (h_is_below ev) hr (by omega) rfl pass_fn (da_cons (de_var (i := 0) rfl (.inl rfl)) (da_cons (de_globI rfl ev.c_NAMES) da_nil)) (len_cons (len_cons len_nil)))))
  (dss_one (ds_raise (c := "NoNumber") ev.x_NoNumber rfl rfl (L2.takes_of rfl rfl rfl rfl)))
  dss_nil))
theorem h_ask_name (ev : Ev K mg base) : Has P w K mg base (clK K) 3 "ask_name" ["thing"] 1 [] f_ask_name := has_by (k := 2) ev.d_ask_name sc_ask_name rfl (by decide) (b_ask_name ev)
theorem sc_all_by : FnScope ["house", "spot", "name", "there", "number", "recipe"] ["house", "spot", "name"] (defScope (top 17)) := ⟨rfl, rfl, rfl, by decide +kernel, rfl, by decide +kernel, by decide +kernel⟩
def m_all_by : M Fl :=
  (mSeq (mSet 3 (mLst mNil))
  (mSeq (mFor (mEnu [] (mCons (mBin gIx (mVar 0) (mC (.int 1))) mNil)) (.tp [(.nm 4), (.nm 5)])
  (mIte (mAnd (tst (mBin gEq (mBin gIx (mVar 5) (mC (.int 0))) (mVar 2))) (tst (mBin gEq (mSl (mVar 1) mNo (mSo (mCB gLen (mCons (mBin gIx (mVar 5) (mC (.int 1))) mNil)))) (mBin gIx (mVar 5) (mC (.int 1))))))
  (mEx (mMetF 3 gApp (mCons (mVar 4) mNil)))
  (ret .nx)))
  (mRet [] (mSortK true 0 (1) (1) (mVar 3)))))
def f_all_by : M O := runF 6 m_all_by
theorem b_all_by (ev : Ev K mg base) : BdC P w K mg base (clK K) 0 "all_by" ["house", "spot", "name", "there", "number", "recipe"] [] (top 17) m_all_by := fun f A outer s H E hr =>
  have lb := ev.l_all_by
  (dss_cons (ds_set (i := 3) sc_all_by.nd rfl (.inl rfl) rfl (de_lst da_nil len_nil (by decide)))
  (dss_cons (ds_for (ios := []) pow_fn rfl (di_enu (js := []) rfl ev.b_enumerate (da_cons (de_item (de_var (i := 0) rfl (.inr (.inl rfl))) de_int fun _ _ => rfl) da_nil)) (dg_tup rfl (dgs_cons (dg_name (i := 4) sc_all_by.nd rfl (.inl rfl)) (dgs_cons (dg_name (i := 5) sc_all_by.nd rfl (.inl rfl)) dgs_nil)))
  (dss_one (ds_if (dt_w (dw_and (dt_cmp (de_item (de_var (i := 5) rfl (.inl rfl)) de_int fun _ _ => rfl) (de_var (i := 2) rfl (.inl rfl)) (od_eq (units_of hr))) (dw_and1 (dt_cmp (de_slice (de_var (i := 1) rfl (.inl rfl)) do_none (do_some (de_len rfl ev.b_len (da_cons (de_item (de_var (i := 5) rfl (.inl rfl)) de_int fun _ _ => rfl) da_nil)))) (de_item (de_var (i := 5) rfl (.inl rfl)) de_int fun _ _ => rfl) (od_eq (units_of hr))))))
  (dss_one (ds_expr (de_app (i := 3) rfl (.inl rfl) (da_cons (de_var (i := 4) rfl (.inl rfl)) da_nil) (len_cons len_nil))))
  dss_nil)) (by decide) (hw_enu (by decide)) (by decide))
  (dss_one (ds_ret (de_sortK (cap := "house") (prm := "number") rfl ev.b_sorted ev.b_len (units_of hr) hr.depth (de_var (i := 3) rfl (.inl rfl)) ⟨⟨rfl, fun _ => rfl⟩, rfl, rfl, rfl, by decide +kernel, rfl, rfl, by decide +kernel, rfl, rfl, fun _ _ _ _ _ _ => rfl, by decide, by decide, by decide, (keyE_t ⟨_, _, rfl, _, _, _, _, _, _, _, _, _, _, _, rfl⟩)⟩ (lamH_of' lb.tb lb.tm lb.tu (by rfl)) rfl)))))
theorem h_all_by (ev : Ev K mg base) : Has P w K mg base (clK K) 1 "all_by" ["house", "spot", "name"] 3 [] f_all_by := has_byC (k := 0) ev.d_all_by sc_all_by rfl (by decide) ev.l_all_by (b_all_by ev)
theorem sc_first_of : FnScope ["row"] ["row"] (defScope (top 18)) := ⟨rfl, rfl, rfl, by decide +kernel, rfl, by decide +kernel, by decide +kernel⟩
def m_first_of : M Fl :=
  (mSeq (mIte (tst (mBin gEq (mCB gLen (mCons (mVar 0) mNil)) (mC (.int 0))))
  (mRet [] (mC .none))
  (ret .nx))
  (mRet [] (mBin gIx (mVar 0) (mC (.int 0)))))
def f_first_of : M O := runF 1 m_first_of
theorem b_first_of (ev : Ev K mg base) : Bd P w K mg base (clK K) 0 "first_of" ["row"] [] (top 18) m_first_of := fun f cdv A outer s H E hr =>
  (dss_cons (ds_if (dt_cmp (de_len rfl ev.b_len (da_cons (de_var (i := 0) rfl (.inl rfl)) da_nil)) de_int (od_eq (units_of hr)))
  (dss_one (ds_ret de_non))
  dss_nil)
  (dss_one (ds_ret (de_item (de_var (i := 0) rfl (.inl rfl)) de_int fun _ _ => rfl))))
theorem h_first_of (ev : Ev K mg base) : Has P w K mg base (clK K) 1 "first_of" ["row"] 1 [] f_first_of := has_by (k := 0) ev.d_first_of sc_first_of rfl (by decide) (b_first_of ev)
theorem sc_needs_by : FnScope ["house", "number", "own", "spot", "keep", "sorts", "needs", "found", "name", "row", "other"] ["house", "number"] (defScope (top 19)) := ⟨rfl, rfl, rfl, by decide +kernel, rfl, by decide +kernel, by decide +kernel⟩
def m_needs_by : M Fl :=
  (mSeq (mTgt (.tp [(.nm 2), (.nm 3), (.nm 4), (.nm 5), (.nm 6)]) (mBin gIx (mBin gIx (mVar 0) (mC (.int 1))) (mVar 1)))
  (mSeq (mSet 7 (mLst mNil))
  (mSeq (mFor (mWk [6] (mVar 6)) (.nm 8)
  (mSeq (mSet 9 (mCall [] f_all_by (mCons (mVar 0) (mCons (mVar 3) (mCons (mVar 8) mNil)))))
  (mSeq (mIte (tst (mBin gEq (mVar 8) (mVar 2)))
  (mSet 9 (mLc (mWk [9] (mVar 9)) (.nm 10) (tst (mBin gLt (mCB gLen (mCons (mBin gIx (mBin gIx (mBin gIx (mVar 0) (mC (.int 1))) (mVar 10)) (mC (.int 1))) mNil)) (mCB gLen (mCons (mVar 3) mNil)))) (mVar 10) [10]))
  (ret .nx))
  (mEx (mMetF 7 gApp (mCons (mCall [] f_first_of (mCons (mVar 9) mNil)) mNil))))))
  (mRet [] (mCB gTuple (mCons (mVar 7) mNil))))))
def f_needs_by : M O := runF 11 m_needs_by
theorem b_needs_by (ev : Ev K mg base) : Bd P w K mg base (clK K) 1 "needs_by" ["house", "number", "own", "spot", "keep", "sorts", "needs", "found", "name", "row", "other"] [] (top 19) m_needs_by := fun f cdv A outer s H E hr =>
  (dss_cons (ds_tgt (de_item (de_item (de_var (i := 0) rfl (.inr (.inl rfl))) de_int fun _ _ => rfl) (de_var (i := 1) rfl (.inl rfl)) fun _ _ => rfl) (dg_tup rfl (dgs_cons (dg_name (i := 2) sc_needs_by.nd rfl (.inl rfl)) (dgs_cons (dg_name (i := 3) sc_needs_by.nd rfl (.inr rfl)) (dgs_cons (dg_name (i := 4) sc_needs_by.nd rfl (.inl rfl)) (dgs_cons (dg_name (i := 5) sc_needs_by.nd rfl (.inl rfl)) (dgs_cons (dg_name (i := 6) sc_needs_by.nd rfl (.inl rfl)) dgs_nil)))))) (by decide))
  (dss_cons (ds_set (i := 7) sc_needs_by.nd rfl (.inl rfl) rfl (de_lst da_nil len_nil (by decide)))
  (dss_cons (ds_for (ios := [6]) pow_fn rfl (di_seq (js := [6]) (de_var (i := 6) rfl (.inl rfl))) (dg_name (i := 8) sc_needs_by.nd rfl (.inl rfl))
  (dss_cons (ds_set (i := 9) sc_needs_by.nd rfl (.inl rfl) rfl (de_def (h_all_by ev) hr (by omega) rfl pass_fn (da_cons (de_var (i := 0) rfl (.inr (.inl rfl))) (da_cons (de_var (i := 3) rfl (.inr (.inl rfl))) (da_cons (de_var (i := 8) rfl (.inl rfl)) da_nil))) (len_cons (len_cons (len_cons len_nil)))))
  (dss_cons (ds_if (dt_cmp (de_var (i := 8) rfl (.inl rfl)) (de_var (i := 2) rfl (.inl rfl)) (od_eq (units_of hr)))
  (dss_one (ds_setLc (i := 9) (own := [("other", 10)]) rfl sc_needs_by.nd rfl rfl rfl (sw_true rfl rfl rfl rfl) (di_seq (js := [9]) (de_var (i := 9) rfl (.inl rfl))) (by kernel_rfl) (by decide) (fun _ _ _ _ _ => (dg_name (i := 10) sc_needs_by.nd rfl (.inl rfl))) (fun _ _ _ _ _ => (dts_one (dt_cmp (de_len rfl ev.b_len (da_cons (de_item (de_item (de_item (de_var (i := 0) rfl (.inr (.inl rfl))) de_int fun _ _ => rfl) (de_var (i := 10) rfl (.inl rfl)) fun _ _ => rfl) de_int fun _ _ => rfl) da_nil)) (de_len rfl ev.b_len (da_cons (de_var (i := 3) rfl (.inr (.inl rfl))) da_nil)) (od_lt (units_of hr))))) (fun _ _ _ _ _ => (de_var (i := 10) rfl (.inl rfl)))))
  dss_nil)
  (dss_one (ds_expr (de_app (i := 7) rfl (.inl rfl) (da_cons (de_def (h_first_of ev) hr (by omega) rfl pass_fn (da_cons (de_var (i := 9) rfl (.inl rfl)) da_nil) (len_cons len_nil)) da_nil) (len_cons len_nil)))))) (by decide) (hw_wk (by decide)) (by decide))
  (dss_one (ds_ret (de_tuple rfl ev.b_tuple (da_cons (de_var (i := 7) rfl (.inl rfl)) da_nil)))))))
theorem h_needs_by (ev : Ev K mg base) : Has P w K mg base (clK K) 2 "needs_by" ["house", "number"] 2 [] f_needs_by := has_by (k := 1) ev.d_needs_by sc_needs_by rfl (by decide) (b_needs_by ev)
theorem sc_tasting_by : FnScope ["house", "number", "spot", "needs", "words", "name"] ["house", "number"] (defScope (top 20)) := ⟨rfl, rfl, rfl, by decide +kernel, rfl, by decide +kernel, by decide +kernel⟩
def m_tasting_by : M Fl :=
  (mSeq (mTgt (.tp [(.nm 2), (.nm 3), (.nm 4)]) (mBin gIx (mBin gIx (mVar 0) (mC (.int 2))) (mVar 1)))
  (mRet [] (mCB gTuple (mCons (mLc (mWk [3] (mVar 3)) (.nm 5) (ret true) (mCall [] f_first_of (mCons (mCall [] f_all_by (mCons (mVar 0) (mCons (mVar 2) (mCons (mVar 5) mNil)))) mNil)) [5]) mNil))))
def f_tasting_by : M O := runF 6 m_tasting_by
theorem b_tasting_by (ev : Ev K mg base) : Bd P w K mg base (clK K) 1 "tasting_by" ["house", "number", "spot", "needs", "words", "name"] [] (top 20) m_tasting_by := fun f cdv A outer s H E hr =>
  (dss_cons (ds_tgt (de_item (de_item (de_var (i := 0) rfl (.inr (.inl rfl))) de_int fun _ _ => rfl) (de_var (i := 1) rfl (.inl rfl)) fun _ _ => rfl) (dg_tup rfl (dgs_cons (dg_name (i := 2) sc_tasting_by.nd rfl (.inr rfl)) (dgs_cons (dg_name (i := 3) sc_tasting_by.nd rfl (.inl rfl)) (dgs_cons (dg_name (i := 4) sc_tasting_by.nd rfl (.inl rfl)) dgs_nil)))) (by decide))
  (dss_one (ds_ret (de_tuple rfl ev.b_tuple (da_cons (de_lc (own := [("name", 5)]) rfl sc_tasting_by.nd (di_seq (js := [3]) (de_var (i := 3) rfl (.inl rfl))) (by kernel_rfl) (by decide) (fun _ _ _ _ _ => (dg_name (i := 5) sc_tasting_by.nd rfl (.inl rfl))) (fun _ _ _ _ _ => dts_nil) (fun _ _ _ _ _ => (de_def (h_first_of ev) hr (by omega) rfl pass_xn (da_cons (de_def (h_all_by ev) hr (by omega) rfl pass_xn (da_cons (de_var (i := 0) rfl (.inr (.inl rfl))) (da_cons (de_var (i := 2) rfl (.inr (.inl rfl))) (da_cons (de_var (i := 5) rfl (.inl rfl)) da_nil))) (len_cons (len_cons (len_cons len_nil)))) da_nil) (len_cons len_nil)))) da_nil)))))
theorem h_tasting_by (ev : Ev K mg base) : Has P w K mg base (clK K) 2 "tasting_by" ["house", "number"] 2 [] f_tasting_by := has_by (k := 1) ev.d_tasting_by sc_tasting_by rfl (by decide) (b_tasting_by ev)
theorem sc_found_at : FnScope ["house", "spot", "name"] ["house", "spot", "name"] (defScope (top 21)) := ⟨rfl, rfl, rfl, by decide +kernel, rfl, by decide +kernel, by decide +kernel⟩
def m_found_at : M Fl :=
  (mSeq (mEx (mCall [] f_ask_spot (mCons (mVar 0) (mCons (mVar 1) mNil))))
  (mSeq (mEx (mCall [] f_ask_name (mCons (mVar 2) mNil)))
  (mRet [] (mCall [] f_first_of (mCons (mCall [] f_all_by (mCons (mVar 0) (mCons (mVar 1) (mCons (mVar 2) mNil)))) mNil)))))
def f_found_at : M O := runF 3 m_found_at
theorem b_found_at (ev : Ev K mg base) : Bd P w K mg base (clK K) 5 "found_at" ["house", "spot", "name"] [] (top 21) m_found_at := fun f cdv A outer s H E hr =>
  (dss_cons (ds_expr (de_def (h_ask_spot ev) hr (by omega) rfl pass_fn (da_cons (de_var (i := 0) rfl (.inl rfl)) (da_cons (de_var (i := 1) rfl (.inl rfl)) da_nil)) (len_cons (len_cons len_nil))))
  (dss_cons (ds_expr (de_def (h_ask_name ev) hr (by omega) rfl pass_fn (da_cons (de_var (i := 2) rfl (.inl rfl)) da_nil) (len_cons len_nil)))
  (dss_one (ds_ret (de_def (h_first_of ev) hr (by omega) rfl pass_fn (da_cons (de_def (h_all_by ev) hr (by omega) rfl pass_fn (da_cons (de_var (i := 0) rfl (.inl rfl)) (da_cons (de_var (i := 1) rfl (.inl rfl)) (da_cons (de_var (i := 2) rfl (.inl rfl)) da_nil))) (len_cons (len_cons (len_cons len_nil)))) da_nil) (len_cons len_nil))))))
theorem h_found_at (ev : Ev K mg base) : Has P w K mg base (clK K) 6 "found_at" ["house", "spot", "name"] 3 [] f_found_at := has_by (k := 5) ev.d_found_at sc_found_at rfl (by decide) (b_found_at ev)
theorem sc_all_at : FnScope ["house", "spot", "name"] ["house", "spot", "name"] (defScope (top 22)) := ⟨rfl, rfl, rfl, by decide +kernel, rfl, by decide +kernel, by decide +kernel⟩
def m_all_at : M Fl :=
  (mSeq (mEx (mCall [] f_ask_spot (mCons (mVar 0) (mCons (mVar 1) mNil))))
  (mSeq (mEx (mCall [] f_ask_name (mCons (mVar 2) mNil)))
  (mRet [] (mCB gTuple (mCons (mCall [] f_all_by (mCons (mVar 0) (mCons (mVar 1) (mCons (mVar 2) mNil)))) mNil)))))
def f_all_at : M O := runF 3 m_all_at
theorem b_all_at (ev : Ev K mg base) : Bd P w K mg base (clK K) 5 "all_at" ["house", "spot", "name"] [] (top 22) m_all_at := fun f cdv A outer s H E hr =>
  (dss_cons (ds_expr (de_def (h_ask_spot ev) hr (by omega) rfl pass_fn (da_cons (de_var (i := 0) rfl (.inl rfl)) (da_cons (de_var (i := 1) rfl (.inl rfl)) da_nil)) (len_cons (len_cons len_nil))))
  (dss_cons (ds_expr (de_def (h_ask_name ev) hr (by omega) rfl pass_fn (da_cons (de_var (i := 2) rfl (.inl rfl)) da_nil) (len_cons len_nil)))
  (dss_one (ds_ret (de_tuple rfl ev.b_tuple (da_cons (de_def (h_all_by ev) hr (by omega) rfl pass_fn (da_cons (de_var (i := 0) rfl (.inl rfl)) (da_cons (de_var (i := 1) rfl (.inl rfl)) (da_cons (de_var (i := 2) rfl (.inl rfl)) da_nil))) (len_cons (len_cons (len_cons len_nil)))) da_nil))))))
theorem h_all_at (ev : Ev K mg base) : Has P w K mg base (clK K) 6 "all_at" ["house", "spot", "name"] 3 [] f_all_at := has_by (k := 5) ev.d_all_at sc_all_at rfl (by decide) (b_all_at ev)
theorem sc_straight_of : FnScope ["house", "recipe"] ["house", "recipe"] (defScope (top 23)) := ⟨rfl, rfl, rfl, by decide +kernel, rfl, by decide +kernel, by decide +kernel⟩
def m_straight_of : M Fl :=
  (mSeq (mEx (mCall [] f_ask_recipe (mCons (mVar 0) (mCons (mVar 1) mNil))))
  (mRet [] (mCall [] f_needs_by (mCons (mVar 0) (mCons (mVar 1) mNil)))))
def f_straight_of : M O := runF 2 m_straight_of
theorem b_straight_of (ev : Ev K mg base) : Bd P w K mg base (clK K) 3 "straight_of" ["house", "recipe"] [] (top 23) m_straight_of := fun f cdv A outer s H E hr =>
  (dss_cons (ds_expr (de_def (h_ask_recipe ev) hr (by omega) rfl pass_fn (da_cons (de_var (i := 0) rfl (.inl rfl)) (da_cons (de_var (i := 1) rfl (.inl rfl)) da_nil)) (len_cons (len_cons len_nil))))
  (dss_one (ds_ret (de_def (h_needs_by ev) hr (by omega) rfl pass_fn (da_cons (de_var (i := 0) rfl (.inl rfl)) (da_cons (de_var (i := 1) rfl (.inl rfl)) da_nil)) (len_cons (len_cons len_nil))))))
theorem h_straight_of (ev : Ev K mg base) : Has P w K mg base (clK K) 4 "straight_of" ["house", "recipe"] 2 [] f_straight_of := has_by (k := 3) ev.d_straight_of sc_straight_of rfl (by decide) (b_straight_of ev)
theorem sc_tasting_needs : FnScope ["house", "tasting"] ["house", "tasting"] (defScope (top 24)) := ⟨rfl, rfl, rfl, by decide +kernel, rfl, by decide +kernel, by decide +kernel⟩
def m_tasting_needs : M Fl :=
  (mSeq (mEx (mCall [] f_ask_tasting (mCons (mVar 0) (mCons (mVar 1) mNil))))
  (mRet [] (mCall [] f_tasting_by (mCons (mVar 0) (mCons (mVar 1) mNil)))))
def f_tasting_needs : M O := runF 2 m_tasting_needs
theorem b_tasting_needs (ev : Ev K mg base) : Bd P w K mg base (clK K) 3 "tasting_needs" ["house", "tasting"] [] (top 24) m_tasting_needs := fun f cdv A outer s H E hr =>
  (dss_cons (ds_expr (de_def (h_ask_tasting ev) hr (by omega) rfl pass_fn (da_cons (de_var (i := 0) rfl (.inl rfl)) (da_cons (de_var (i := 1) rfl (.inl rfl)) da_nil)) (len_cons (len_cons len_nil))))
  (dss_one (ds_ret (de_def (h_tasting_by ev) hr (by omega) rfl pass_fn (da_cons (de_var (i := 0) rfl (.inl rfl)) (da_cons (de_var (i := 1) rfl (.inl rfl)) da_nil)) (len_cons (len_cons len_nil))))))
theorem h_tasting_needs (ev : Ev K mg base) : Has P w K mg base (clK K) 4 "tasting_needs" ["house", "tasting"] 2 [] f_tasting_needs := has_by (k := 3) ev.d_tasting_needs sc_tasting_needs rfl (by decide) (b_tasting_needs ev)
theorem sc_law_cell_at : FnScope ["_law_script", "_law_k"] ["_law_script", "_law_k"] (defScope (top 26)) := ⟨rfl, rfl, rfl, by decide +kernel, rfl, by decide +kernel, by decide +kernel⟩
def m_law_cell_at : M Fl :=
  (mSeq (mIte (tst (mBin gLt (mVar 1) (mCB gLen (mCons (mVar 0) mNil))))
  (mRet [] (mBin gIx (mVar 0) (mVar 1)))
  (ret .nx))
  (mRet [] (mC (.int 0))))
def f_law_cell_at : M O := runF 2 m_law_cell_at
theorem b_law_cell_at (ev : Ev K mg base) : Bd P w K mg base (clK K) 0 "_law_cell_at" ["_law_script", "_law_k"] [] (top 26) m_law_cell_at := fun f cdv A outer s H E hr =>
  (dss_cons (ds_if (dt_cmp (de_var (i := 1) rfl (.inl rfl)) (de_len rfl ev.b_len (da_cons (de_var (i := 0) rfl (.inl rfl)) da_nil)) (od_lt (units_of hr)))
  (dss_one (ds_ret (de_item (de_var (i := 0) rfl (.inl rfl)) (de_var (i := 1) rfl (.inl rfl)) fun _ _ => rfl)))
  dss_nil)
  (dss_one (ds_ret de_int)))
theorem h_law_cell_at (ev : Ev K mg base) : Has P w K mg base (clK K) 1 "_law_cell_at" ["_law_script", "_law_k"] 2 [] f_law_cell_at := has_by (k := 0) ev.d_law_cell_at sc_law_cell_at rfl (by decide) (b_law_cell_at ev)
theorem sc_law_pen : FnScope ["_law_cell"] ["_law_cell"] (defScope (top 27)) := ⟨rfl, rfl, rfl, by decide +kernel, rfl, by decide +kernel, by decide +kernel⟩
def m_law_pen : M Fl :=
  (mRet [] (mLst (mCons (mVar 0) (mCons (mCB gInt (mCons (mBin gGe (mVar 0) (mBin gPow (mC (.int 10)) (mC (.int 18)))) mNil)) (mCons (mC (.int 0)) (mCons (mBin gMod (mVar 0) (mC (.int 1000000007))) mNil))))))
def f_law_pen : M O := runF 1 m_law_pen
theorem b_law_pen (ev : Ev K mg base) : Bd P w K mg base (clK K) 0 "_law_pen" ["_law_cell"] [] (top 27) m_law_pen := fun f cdv A outer s H E hr =>
  (dss_one (ds_ret (de_lst (da_cons (de_var (i := 0) rfl (.inl rfl)) (da_cons (de_toInt rfl ev.b_int (da_cons (de_cmp (de_var (i := 0) rfl (.inl rfl)) (de_bin de_int de_int od_pow) (od_ge)) da_nil)) (da_cons de_int (da_cons (de_bin (de_var (i := 0) rfl (.inl rfl)) de_int od_mod) da_nil)))) (len_cons (len_cons (len_cons (len_cons len_nil)))) (by decide))))
theorem h_law_pen (ev : Ev K mg base) : Has P w K mg base (clK K) 1 "_law_pen" ["_law_cell"] 1 [] f_law_pen := has_by (k := 0) ev.d_law_pen sc_law_pen rfl (by decide) (b_law_pen ev)
theorem sc_law_draw : FnScope ["_law_pen_here", "_law_bound", "_law_found", "_law_stir"] ["_law_pen_here", "_law_bound"] (defScope (top 28)) := ⟨rfl, rfl, rfl, by decide +kernel, rfl, by decide +kernel, by decide +kernel⟩
def m_law_draw : M Fl :=
  (mSeq (mIte (mAnd (tst (mBin gEq (mBin gIx (mVar 0) (mC (.int 1))) (mC (.int 1)))) (tst (mBin gGt (mBin gIx (mVar 0) (mC (.int 0))) (mC (.int 0)))))
  (mSeq (mSet 2 (mBin gMod (mBin gIx (mVar 0) (mC (.int 0))) (mVar 1)))
  (mSeq (mStore 0 (mBin gFdiv (mBin gIx (mVar 0) (mC (.int 0))) (mVar 1)) (mC (.int 0)))
  (mRet [0] (mVar 2))))
  (ret .nx))
  (mSeq (mStore 0 (mBin gAdd (mBin gIx (mVar 0) (mC (.int 2))) (mC (.int 1))) (mC (.int 2)))
  (mSeq (mSet 3 (mBin gMod (mBin gMulI (mBin gAdd (mBin gIx (mVar 0) (mC (.int 3))) (mC (.int 17))) (mBin gAdd (mC (.int 69621)) (mBin gMulI (mC (.int 2)) (mBin gIx (mVar 0) (mC (.int 2)))))) (mC (.int 2147483647))))
  (mSeq (mSet 3 (mBin gMod (mBin gAdd (mBin gAdd (mBin gMulI (mVar 3) (mVar 3)) (mBin gMulI (mC (.int 40503)) (mBin gIx (mVar 0) (mC (.int 2))))) (mC (.int 5))) (mC (.int 2147483629))))
  (mRet [0] (mBin gMod (mBin gFdiv (mBin gMod (mBin gMulI (mVar 3) (mC (.int 48271))) (mC (.int 2147483647))) (mC (.int 32))) (mVar 1)))))))
def f_law_draw : M O := runF 4 m_law_draw
theorem b_law_draw (ev : Ev K mg base) : Bd P w K mg base (clK K) 0 "_law_draw" ["_law_pen_here", "_law_bound", "_law_found", "_law_stir"] [0] (top 28) m_law_draw := fun f cdv A outer s H E hr =>
  (dss_cons (ds_if (dt_w (dw_and (dt_cmp (de_item (de_var (i := 0) rfl (.inl rfl)) de_int fun _ _ => rfl) de_int (od_eq (units_of hr))) (dw_and1 (dt_cmp (de_item (de_var (i := 0) rfl (.inl rfl)) de_int fun _ _ => rfl) de_int (od_gt)))))
  (dss_cons (ds_set (i := 2) sc_law_draw.nd rfl (.inl rfl) rfl (de_bin (de_item (de_var (i := 0) rfl (.inl rfl)) de_int fun _ _ => rfl) (de_var (i := 1) rfl (.inl rfl)) od_mod))
  (dss_cons (ds_store (j := 0) rfl (.inl rfl) (de_bin (de_item (de_var (i := 0) rfl (.inl rfl)) de_int fun _ _ => rfl) (de_var (i := 1) rfl (.inl rfl)) od_fdiv) de_int)
  (dss_one (ds_ret (de_var (i := 2) rfl (.inl rfl))))))
  dss_nil)
  (dss_cons (ds_store (j := 0) rfl (.inl rfl) (de_bin (de_item (de_var (i := 0) rfl (.inl rfl)) de_int fun _ _ => rfl) de_int od_add) de_int)
  (dss_cons (ds_set (i := 3) sc_law_draw.nd rfl (.inl rfl) rfl (de_bin (de_bin (de_bin (de_item (de_var (i := 0) rfl (.inl rfl)) de_int fun _ _ => rfl) de_int od_add) (de_bin de_int (de_bin de_int (de_item (de_var (i := 0) rfl (.inl rfl)) de_int fun _ _ => rfl) od_mulI) od_add) od_mulI) de_int od_mod))
  (dss_cons (ds_set (i := 3) sc_law_draw.nd rfl (.inl rfl) rfl (de_bin (de_bin (de_bin (de_bin (de_var (i := 3) rfl (.inl rfl)) (de_var (i := 3) rfl (.inl rfl)) od_mulI) (de_bin de_int (de_item (de_var (i := 0) rfl (.inl rfl)) de_int fun _ _ => rfl) od_mulI) od_add) de_int od_add) de_int od_mod))
  (dss_one (ds_ret (de_bin (de_bin (de_bin (de_bin (de_var (i := 3) rfl (.inl rfl)) de_int od_mulI) de_int od_mod) de_int od_fdiv) (de_var (i := 1) rfl (.inl rfl)) od_mod)))))))
theorem h_law_draw (ev : Ev K mg base) : Has P w K mg base (clK K) 1 "_law_draw" ["_law_pen_here", "_law_bound"] 2 [0] f_law_draw := has_by (k := 0) ev.d_law_draw sc_law_draw rfl (by decide) (b_law_draw ev)
theorem sc_law_spots : FnScope ["_law_tables", "_law_found", "_law_evening", "_law_many", "_law_table"] ["_law_tables"] (defScope (top 29)) := ⟨rfl, rfl, rfl, by decide +kernel, rfl, by decide +kernel, by decide +kernel⟩
def m_law_spots : M Fl :=
  (mSeq (mSet 1 (mLst (mCons (mTup mNil) mNil)))
  (mSeq (mFor (mEnu [0] (mCons (mVar 0) mNil)) (.tp [(.nm 2), (.nm 3)])
  (mSet 1 (mBin gAdd (mBin gAdd (mVar 1) (mLst (mCons (mTup (mCons (mVar 2) mNil)) mNil))) (mLc (mRng1 (mCons (mVar 3) mNil)) (.nm 4) (ret true) (mTup (mCons (mVar 2) (mCons (mVar 4) mNil))) [4]))))
  (mRet [] (mVar 1))))
def f_law_spots : M O := runF 5 m_law_spots
theorem b_law_spots (ev : Ev K mg base) : Bd P w K mg base (clK K) 0 "_law_spots" ["_law_tables", "_law_found", "_law_evening", "_law_many", "_law_table"] [] (top 29) m_law_spots := fun f cdv A outer s H E hr =>
  (dss_cons (ds_set (i := 1) sc_law_spots.nd rfl (.inl rfl) rfl (de_lst (da_cons (de_tup da_nil len_nil (by decide)) da_nil) (len_cons len_nil) (by decide)))
  (dss_cons (ds_for (ios := [0]) pow_fn rfl (di_enu (js := [0]) rfl ev.b_enumerate (da_cons (de_var (i := 0) rfl (.inl rfl)) da_nil)) (dg_tup rfl (dgs_cons (dg_name (i := 2) sc_law_spots.nd rfl (.inr rfl)) (dgs_cons (dg_name (i := 3) sc_law_spots.nd rfl (.inl rfl)) dgs_nil)))
  (dss_one (ds_set (i := 1) sc_law_spots.nd rfl (.inl rfl) rfl (de_bin (de_bin (de_var (i := 1) rfl (.inl rfl)) (de_lst (da_cons (de_tup (da_cons (de_var (i := 2) rfl (.inr (.inl rfl))) da_nil) (len_cons len_nil) (by decide)) da_nil) (len_cons len_nil) (by decide)) od_add) (de_lc (own := [("_law_table", 4)]) rfl sc_law_spots.nd (di_rng1 rfl ev.b_range (da_cons (de_var (i := 3) rfl (.inl rfl)) da_nil)) (by kernel_rfl) (by decide) (fun _ _ _ _ _ => (dg_name (i := 4) sc_law_spots.nd rfl (.inl rfl))) (fun _ _ _ _ _ => dts_nil) (fun _ _ _ _ _ => (de_tup (da_cons (de_var (i := 2) rfl (.inr (.inl rfl))) (da_cons (de_var (i := 4) rfl (.inl rfl)) da_nil)) (len_cons (len_cons len_nil)) (by decide)))) od_add))) (by decide) (hw_enu (by decide)) (by decide))
  (dss_one (ds_ret (de_var (i := 1) rfl (.inl rfl))))))
theorem h_law_spots (ev : Ev K mg base) : Has P w K mg base (clK K) 1 "_law_spots" ["_law_tables"] 1 [] f_law_spots := has_by (k := 0) ev.d_law_spots sc_law_spots rfl (by decide) (b_law_spots ev)
theorem sc_law_needs : FnScope ["_law_pen_here", "_law_names", "_law_left", "_law_k"] ["_law_pen_here", "_law_names"] (defScope (top 30)) := ⟨rfl, rfl, rfl, by decide +kernel, rfl, by decide +kernel, by decide +kernel⟩
def m_law_needs : M Fl :=
  (mSeq (mSet 2 (mLstR (mVar 1)))
  (mRet [0] (mCB gTuple (mCons (mLc (mRng1 (mCons (mCB gMin2 (mCons (mVar 1) (mCons (mCall [0] f_law_draw (mCons (mVar 0) (mCons (mC (.int 4)) mNil))) mNil))) mNil)) (.nm 3) (ret true) (mMet 2 gPopI (mCons (mCall [0] f_law_draw (mCons (mVar 0) (mCons (mCB gLen (mCons (mVar 2) mNil)) mNil))) mNil)) [3]) mNil))))
def f_law_needs : M O := runF 4 m_law_needs
theorem b_law_needs (ev : Ev K mg base) : Bd P w K mg base (clK K) 1 "_law_needs" ["_law_pen_here", "_law_names", "_law_left", "_law_k"] [0] (top 30) m_law_needs := fun f cdv A outer s H E hr =>
  (dss_cons (ds_set (i := 2) sc_law_needs.nd rfl (.inr rfl) rfl (de_lstR rfl rfl ev.b_list rfl ev.b_range (de_var (i := 1) rfl (.inl rfl))))
  (dss_one (ds_ret (de_tuple rfl ev.b_tuple (da_cons (de_lc (own := [("_law_k", 3)]) rfl sc_law_needs.nd (di_rng1 rfl ev.b_range (da_cons (de_min2 rfl rfl ev.b_min (da_cons (de_var (i := 1) rfl (.inl rfl)) (da_cons (de_def (h_law_draw ev) hr (by omega) rfl pass_fn (da_cons (de_var (i := 0) rfl (.inr (.inl rfl))) (da_cons de_int da_nil)) (len_cons (len_cons len_nil))) da_nil))) da_nil)) (by kernel_rfl) (by decide) (fun _ _ _ _ _ => (dg_name (i := 3) sc_law_needs.nd rfl (.inl rfl))) (fun _ _ _ _ _ => dts_nil) (fun _ _ _ _ _ => (de_popI (i := 2) rfl (.inr (.inl rfl)) (da_cons (de_def (h_law_draw ev) hr (by omega) rfl pass_xn (da_cons (de_var (i := 0) rfl (.inr (.inl rfl))) (da_cons (de_len rfl ev.b_len (da_cons (de_var (i := 2) rfl (.inr (.inl rfl))) da_nil)) da_nil)) (len_cons (len_cons len_nil))) da_nil)))) da_nil)))))
theorem h_law_needs (ev : Ev K mg base) : Has P w K mg base (clK K) 2 "_law_needs" ["_law_pen_here", "_law_names"] 2 [0] f_law_needs := has_by (k := 1) ev.d_law_needs sc_law_needs rfl (by decide) (b_law_needs ev)
theorem sc_law_words : FnScope ["_law_pen_here", "_law_found", "_law_k", "_law_long", "_law_most", "_law_j"] ["_law_pen_here"] (defScope (top 31)) := ⟨rfl, rfl, rfl, by decide +kernel, rfl, by decide +kernel, by decide +kernel⟩
def m_law_words : M Fl :=
  (mSeq (mSet 1 (mLst mNil))
  (mSeq (mFor (mRng1 (mCons (mCall [0] f_law_draw (mCons (mVar 0) (mCons (mC (.int 5)) mNil))) mNil)) (.nm 2)
  (mSeq (mSet 3 (mBin gIx (mLst (mCons (mC (.int 1)) (mCons (mC (.int 1)) (mCons (mC (.int 2)) (mCons (mC (.int 8)) mNil))))) (mCall [0] f_law_draw (mCons (mVar 0) (mCons (mC (.int 4)) mNil)))))
  (mSeq (mSet 4 (mBin gIx (mLst (mCons (mC (.int 4)) (mCons (mC (.int 26)) mNil))) (mCB gInt (mCons (mBin gGt (mVar 3) (mC (.int 1))) mNil))))
  (mEx (mMetF 1 gApp (mCons (mTx1 gJoin (mC (.str "")) (mLc (mRng1 (mCons (mVar 3) mNil)) (.nm 5) (ret true) (mBin gIx (mC (.str "abcdefghijklmnopqrstuvwxyz")) (mCall [0] f_law_draw (mCons (mVar 0) (mCons (mVar 4) mNil)))) [5])) mNil))))))
  (mRet [0] (mCB gTuple (mCons (mSetE (fun z => .own (.lst (sortedS z))) (mVar 1)) mNil)))))
def f_law_words : M O := runF 6 m_law_words
theorem b_law_words (ev : Ev K mg base) : Bd P w K mg base (clK K) 1 "_law_words" ["_law_pen_here", "_law_found", "_law_k", "_law_long", "_law_most", "_law_j"] [0] (top 31) m_law_words := fun f cdv A outer s H E hr =>
  (dss_cons (ds_set (i := 1) sc_law_words.nd rfl (.inl rfl) rfl (de_lst da_nil len_nil (by decide)))
  (dss_cons (ds_for (ios := [0]) pow_fn rfl (di_rng1 rfl ev.b_range (da_cons (de_def (h_law_draw ev) hr (by omega) rfl pass_fn (da_cons (de_var (i := 0) rfl (.inr (.inl rfl))) (da_cons de_int da_nil)) (len_cons (len_cons len_nil))) da_nil)) (dg_name (i := 2) sc_law_words.nd rfl (.inl rfl))
  (dss_cons (ds_set (i := 3) sc_law_words.nd rfl (.inl rfl) rfl (de_item (de_lst (da_cons de_int (da_cons de_int (da_cons de_int (da_cons de_int da_nil)))) (len_cons (len_cons (len_cons (len_cons len_nil)))) (by decide)) (de_def (h_law_draw ev) hr (by omega) rfl pass_fn (da_cons (de_var (i := 0) rfl (.inr (.inl rfl))) (da_cons de_int da_nil)) (len_cons (len_cons len_nil))) fun _ _ => rfl))
  (dss_cons (ds_set (i := 4) sc_law_words.nd rfl (.inr rfl) rfl (de_item (de_lst (da_cons de_int (da_cons de_int da_nil)) (len_cons (len_cons len_nil)) (by decide)) (de_toInt rfl ev.b_int (da_cons (de_cmp (de_var (i := 3) rfl (.inl rfl)) de_int (od_gt)) da_nil)) fun _ _ => rfl))
  (dss_one (ds_expr (de_app (i := 1) rfl (.inl rfl) (da_cons (de_join de_str (de_lc (own := [("_law_j", 5)]) rfl sc_law_words.nd (di_rng1 rfl ev.b_range (da_cons (de_var (i := 3) rfl (.inl rfl)) da_nil)) (by kernel_rfl) (by decide) (fun _ _ _ _ _ => (dg_name (i := 5) sc_law_words.nd rfl (.inl rfl))) (fun _ _ _ _ _ => dts_nil) (fun _ _ _ _ _ => (de_item de_str (de_def (h_law_draw ev) hr (by omega) rfl pass_xn (da_cons (de_var (i := 0) rfl (.inr (.inl rfl))) (da_cons (de_var (i := 4) rfl (.inr (.inl rfl))) da_nil)) (len_cons (len_cons len_nil))) fun _ _ => rfl)))) da_nil) (len_cons len_nil)))))) (by decide) hw_rng1 (by decide))
  (dss_one (ds_ret (de_tuple rfl ev.b_tuple (da_cons (de_sortSet hr rfl rfl ev.b_sorted rfl ev.b_set (de_var (i := 1) rfl (.inl rfl))) da_nil))))))
theorem h_law_words (ev : Ev K mg base) : Has P w K mg base (clK K) 2 "_law_words" ["_law_pen_here"] 1 [0] f_law_words := has_by (k := 1) ev.d_law_words sc_law_words rfl (by decide) (b_law_words ev)
theorem sc_law_raw : FnScope ["_law_pen_here", "_law_tables", "_law_k", "_law_spots_here", "_law_names", "_law_recipes", "_law_row", "_law_one", "_law_tastings", "_law_at"] ["_law_pen_here"] (defScope (top 32)) := ⟨rfl, rfl, rfl, by decide +kernel, rfl, by decide +kernel, by decide +kernel⟩
def m_law_raw : M Fl :=
  (mSeq (mSet 1 (mCB gTuple (mCons (mLc (mRng1 (mCons (mBin gAdd (mC (.int 1)) (mCall [0] f_law_draw (mCons (mVar 0) (mCons (mC (.int 3)) mNil)))) mNil)) (.nm 2) (ret true) (mBin gAdd (mC (.int 1)) (mCall [0] f_law_draw (mCons (mVar 0) (mCons (mC (.int 3)) mNil)))) [2]) mNil)))
  (mSeq (mSet 3 (mCall [] f_law_spots (mCons (mVar 1) mNil)))
  (mSeq (mSet 4 (mBin gIx (mLst (mCons (mC (.int 2)) (mCons (mC (.int 4)) (mCons (mC (.int 8)) mNil)))) (mCall [0] f_law_draw (mCons (mVar 0) (mCons (mC (.int 3)) mNil)))))
  (mSeq (mSet 5 (mLst mNil))
  (mSeq (mFor (mRng1 (mCons (mCall [0] f_law_draw (mCons (mVar 0) (mCons (mC (.int 9)) mNil))) mNil)) (.nm 2)
  (mSeq (mSet 6 (mTup (mCons (mCall [0] f_law_draw (mCons (mVar 0) (mCons (mVar 4) mNil))) (mCons (mBin gIx (mVar 3) (mCall [0] f_law_draw (mCons (mVar 0) (mCons (mCB gLen (mCons (mVar 3) mNil)) mNil)))) (mCons (mCall [0] f_law_draw (mCons (mVar 0) (mCons (mC (.int 4)) mNil))) mNil)))))
  (mSeq (mSet 6 (mBin gAdd (mVar 6) (mTup (mCons (mBin gAdd (mC (.int 1)) (mCall [0] f_law_draw (mCons (mVar 0) (mCons (mC (.int 3)) mNil)))) (mCons (mCall [0] f_law_needs (mCons (mVar 0) (mCons (mVar 4) mNil))) mNil)))))
  (mIte (tst (mBin gNotIn (mSl (mVar 6) mNo (mSo (mC (.int 2)))) (mLc (mWk [5] (mVar 5)) (.nm 7) (ret true) (mSl (mVar 7) mNo (mSo (mC (.int 2)))) [7])))
  (mEx (mMetF 5 gApp (mCons (mVar 6) mNil)))
  (ret .nx)))))
  (mSeq (mSet 8 (mLst mNil))
  (mSeq (mFor (mRng1 (mCons (mCall [0] f_law_draw (mCons (mVar 0) (mCons (mC (.int 7)) mNil))) mNil)) (.nm 2)
  (mSeq (mSet 9 (mCall [0] f_law_draw (mCons (mVar 0) (mCons (mCB gLen (mCons (mVar 1) mNil)) mNil))))
  (mEx (mMetF 8 gApp (mCons (mTup (mCons (mTup (mCons (mVar 9) (mCons (mCall [0] f_law_draw (mCons (mVar 0) (mCons (mBin gIx (mVar 1) (mVar 9)) mNil))) mNil))) (mCons (mCall [0] f_law_needs (mCons (mVar 0) (mCons (mVar 4) mNil))) (mCons (mCall [0] f_law_words (mCons (mVar 0) mNil)) mNil)))) mNil)))))
  (mRet [0] (mTup (mCons (mVar 1) (mCons (mCB gTuple (mCons (mVar 5) mNil)) (mCons (mCB gTuple (mCons (mVar 8) mNil)) mNil))))))))))))
def f_law_raw : M O := runF 10 m_law_raw
theorem b_law_raw (ev : Ev K mg base) : Bd P w K mg base (clK K) 2 "_law_raw" ["_law_pen_here", "_law_tables", "_law_k", "_law_spots_here", "_law_names", "_law_recipes", "_law_row", "_law_one", "_law_tastings", "_law_at"] [0] (top 32) m_law_raw := fun f cdv A outer s H E hr =>
  (dss_cons (ds_set (i := 1) sc_law_raw.nd rfl (.inl rfl) rfl (de_tuple rfl ev.b_tuple (da_cons (de_lc (own := [("_law_k", 2)]) rfl sc_law_raw.nd (di_rng1 rfl ev.b_range (da_cons (de_bin de_int (de_def (h_law_draw ev) hr (by omega) rfl pass_fn (da_cons (de_var (i := 0) rfl (.inr (.inl rfl))) (da_cons de_int da_nil)) (len_cons (len_cons len_nil))) od_add) da_nil)) (by kernel_rfl) (by decide) (fun _ _ _ _ _ => (dg_name (i := 2) sc_law_raw.nd rfl (.inl rfl))) (fun _ _ _ _ _ => dts_nil) (fun _ _ _ _ _ => (de_bin de_int (de_def (h_law_draw ev) hr (by omega) rfl pass_xn (da_cons (de_var (i := 0) rfl (.inr (.inl rfl))) (da_cons de_int da_nil)) (len_cons (len_cons len_nil))) od_add))) da_nil)))
  (dss_cons (ds_set (i := 3) sc_law_raw.nd rfl (.inl rfl) rfl (de_def (h_law_spots ev) hr (by omega) rfl pass_fn (da_cons (de_var (i := 1) rfl (.inl rfl)) da_nil) (len_cons len_nil)))
  (dss_cons (ds_set (i := 4) sc_law_raw.nd rfl (.inl rfl) rfl (de_item (de_lst (da_cons de_int (da_cons de_int (da_cons de_int da_nil))) (len_cons (len_cons (len_cons len_nil))) (by decide)) (de_def (h_law_draw ev) hr (by omega) rfl pass_fn (da_cons (de_var (i := 0) rfl (.inr (.inl rfl))) (da_cons de_int da_nil)) (len_cons (len_cons len_nil))) fun _ _ => rfl))
  (dss_cons (ds_set (i := 5) sc_law_raw.nd rfl (.inl rfl) rfl (de_lst da_nil len_nil (by decide)))
  (dss_cons (ds_for (ios := [0]) pow_fn rfl (di_rng1 rfl ev.b_range (da_cons (de_def (h_law_draw ev) hr (by omega) rfl pass_fn (da_cons (de_var (i := 0) rfl (.inr (.inl rfl))) (da_cons de_int da_nil)) (len_cons (len_cons len_nil))) da_nil)) (dg_name (i := 2) sc_law_raw.nd rfl (.inl rfl))
  (dss_cons (ds_set (i := 6) sc_law_raw.nd rfl (.inl rfl) rfl (de_tup (da_cons (de_def (h_law_draw ev) hr (by omega) rfl pass_fn (da_cons (de_var (i := 0) rfl (.inr (.inl rfl))) (da_cons (de_var (i := 4) rfl (.inl rfl)) da_nil)) (len_cons (len_cons len_nil))) (da_cons (de_item (de_var (i := 3) rfl (.inl rfl)) (de_def (h_law_draw ev) hr (by omega) rfl pass_fn (da_cons (de_var (i := 0) rfl (.inr (.inl rfl))) (da_cons (de_len rfl ev.b_len (da_cons (de_var (i := 3) rfl (.inl rfl)) da_nil)) da_nil)) (len_cons (len_cons len_nil))) fun _ _ => rfl) (da_cons (de_def (h_law_draw ev) hr (by omega) rfl pass_fn (da_cons (de_var (i := 0) rfl (.inr (.inl rfl))) (da_cons de_int da_nil)) (len_cons (len_cons len_nil))) da_nil))) (len_cons (len_cons (len_cons len_nil))) (by decide)))
  (dss_cons (ds_set (i := 6) sc_law_raw.nd rfl (.inl rfl) rfl (de_bin (de_var (i := 6) rfl (.inl rfl)) (de_tup (da_cons (de_bin de_int (de_def (h_law_draw ev) hr (by omega) rfl pass_fn (da_cons (de_var (i := 0) rfl (.inr (.inl rfl))) (da_cons de_int da_nil)) (len_cons (len_cons len_nil))) od_add) (da_cons (de_def (h_law_needs ev) hr (by omega) rfl pass_fn (da_cons (de_var (i := 0) rfl (.inr (.inl rfl))) (da_cons (de_var (i := 4) rfl (.inl rfl)) da_nil)) (len_cons (len_cons len_nil))) da_nil)) (len_cons (len_cons len_nil)) (by decide)) od_add))
  (dss_one (ds_if (dt_cmp (de_slice (de_var (i := 6) rfl (.inl rfl)) do_none (do_some de_int)) (de_lc (own := [("_law_one", 7)]) rfl sc_law_raw.nd (di_seq (js := [5]) (de_var (i := 5) rfl (.inl rfl))) (by kernel_rfl) (by decide) (fun _ _ _ _ _ => (dg_name (i := 7) sc_law_raw.nd rfl (.inl rfl))) (fun _ _ _ _ _ => dts_nil) (fun _ _ _ _ _ => (de_slice (de_var (i := 7) rfl (.inl rfl)) do_none (do_some de_int)))) (od_notIn (units1_of hr)))
  (dss_one (ds_expr (de_app (i := 5) rfl (.inl rfl) (da_cons (de_var (i := 6) rfl (.inl rfl)) da_nil) (len_cons len_nil))))
  dss_nil)))) (by decide) hw_rng1 (by decide))
  (dss_cons (ds_set (i := 8) sc_law_raw.nd rfl (.inl rfl) rfl (de_lst da_nil len_nil (by decide)))
  (dss_cons (ds_for (ios := [0]) pow_fn rfl (di_rng1 rfl ev.b_range (da_cons (de_def (h_law_draw ev) hr (by omega) rfl pass_fn (da_cons (de_var (i := 0) rfl (.inr (.inl rfl))) (da_cons de_int da_nil)) (len_cons (len_cons len_nil))) da_nil)) (dg_name (i := 2) sc_law_raw.nd rfl (.inl rfl))
  (dss_cons (ds_set (i := 9) sc_law_raw.nd rfl (.inl rfl) rfl (de_def (h_law_draw ev) hr (by omega) rfl pass_fn (da_cons (de_var (i := 0) rfl (.inr (.inl rfl))) (da_cons (de_len rfl ev.b_len (da_cons (de_var (i := 1) rfl (.inl rfl)) da_nil)) da_nil)) (len_cons (len_cons len_nil))))
  (dss_one (ds_expr (de_app (i := 8) rfl (.inl rfl) (da_cons (de_tup (da_cons (de_tup (da_cons (de_var (i := 9) rfl (.inl rfl)) (da_cons (de_def (h_law_draw ev) hr (by omega) rfl pass_fn (da_cons (de_var (i := 0) rfl (.inr (.inl rfl))) (da_cons (de_item (de_var (i := 1) rfl (.inl rfl)) (de_var (i := 9) rfl (.inl rfl)) fun _ _ => rfl) da_nil)) (len_cons (len_cons len_nil))) da_nil)) (len_cons (len_cons len_nil)) (by decide)) (da_cons (de_def (h_law_needs ev) hr (by omega) rfl pass_fn (da_cons (de_var (i := 0) rfl (.inr (.inl rfl))) (da_cons (de_var (i := 4) rfl (.inl rfl)) da_nil)) (len_cons (len_cons len_nil))) (da_cons (de_def (h_law_words ev) hr (by omega) rfl pass_fn (da_cons (de_var (i := 0) rfl (.inr (.inl rfl))) da_nil) (len_cons len_nil)) da_nil))) (len_cons (len_cons (len_cons len_nil))) (by decide)) da_nil) (len_cons len_nil))))) (by decide) hw_rng1 (by decide))
  (dss_one (ds_ret (de_tup (da_cons (de_var (i := 1) rfl (.inl rfl)) (da_cons (de_tuple rfl ev.b_tuple (da_cons (de_var (i := 5) rfl (.inl rfl)) da_nil)) (da_cons (de_tuple rfl ev.b_tuple (da_cons (de_var (i := 8) rfl (.inl rfl)) da_nil)) da_nil))) (len_cons (len_cons (len_cons len_nil))) (by decide)))))))))))
theorem h_law_raw (ev : Ev K mg base) : Has P w K mg base (clK K) 3 "_law_raw" ["_law_pen_here"] 1 [0] f_law_raw := has_by (k := 2) ev.d_law_raw sc_law_raw rfl (by decide) (b_law_raw ev)
theorem sc_law_thing : FnScope ["_law_pen_here", "_law_deep", "_law_way", "_law_parts", "_law_k"] ["_law_pen_here", "_law_deep"] (defScope (top 33)) := ⟨rfl, rfl, rfl, by decide +kernel, rfl, by decide +kernel, by decide +kernel⟩
def m_law_thing (rc : M O) : M Fl :=
  (mSeq (mSet 2 (mCall [0] f_law_draw (mCons (mVar 0) (mCons (mC (.int 12)) mNil))))
  (mSeq (mIte (mOr (tst (mBin gLt (mVar 2) (mC (.int 8)))) (tst (mBin gEq (mVar 1) (mC (.int 0)))))
  (mRet [0] (mBin gIx (mLst (mCons (mC .none) (mCons (mC (.bool true)) (mCons (mC (.bool false)) (mCons (mC (.int 0)) (mCons (mC (.int 1)) (mCons (mNeg (mC (.int 1))) (mCons (mC (.int 9)) (mCons (mBin gPow (mC (.int 10)) (mC (.int 39))) (mCons (mC (.str "")) (mCons (mC (.str "a")) (mCons (mTup mNil) (mCons (mLst mNil) mNil))))))))))))) (mCall [0] f_law_draw (mCons (mVar 0) (mCons (mC (.int 12)) mNil)))))
  (ret .nx))
  (mSeq (mSet 3 (mLc (mRng1 (mCons (mCall [0] f_law_draw (mCons (mVar 0) (mCons (mC (.int 4)) mNil))) mNil)) (.nm 4) (ret true) (mCall [0] rc (mCons (mVar 0) (mCons (mBin gSub (mVar 1) (mC (.int 1))) mNil))) [4]))
  (mSeq (mIte (tst (mBin gEq (mVar 2) (mC (.int 8))))
  (mRet [0] (mVar 3))
  (ret .nx))
  (mSeq (mIte (tst (mBin gEq (mVar 2) (mC (.int 9))))
  (mRet [0] (mDic1 (mVar 3)))
  (ret .nx))
  (mRet [0] (mCB gTuple (mCons (mVar 3) mNil))))))))
def f_law_thing : Nat → M O
  | 0 => runF 5 stk
  | n + 1 => runF 5 (m_law_thing (f_law_thing n))
theorem h_law_thing (ev : Ev K mg base) : ∀ fu : Nat, Has P w K mg base (clK K) (1 + fu + 1) "_law_thing" ["_law_pen_here", "_law_deep"] 2 [0] (f_law_thing fu)
  | 0 => has_by (m := stk) ev.d_law_thing sc_law_thing rfl (by decide) fun f cdv A outer s H E hr => dss_never
  | fu + 1 => by
    have ih : Has P w K mg base (clK K) (1 + fu + 1) "_law_thing" ["_law_pen_here", "_law_deep"] 2 [0] (f_law_thing fu) := h_law_thing ev fu
    exact has_by (k := 1 + fu + 1) ev.d_law_thing sc_law_thing rfl (by decide) fun f cdv A outer s H E hr =>
  (dss_cons (ds_set (i := 2) sc_law_thing.nd rfl (.inl rfl) rfl (de_def (h_law_draw ev) hr (by omega) rfl pass_fn (da_cons (de_var (i := 0) rfl (.inr (.inl rfl))) (da_cons de_int da_nil)) (len_cons (len_cons len_nil))))
  (dss_cons (ds_if (dt_w (dw_or (dt_cmp (de_var (i := 2) rfl (.inl rfl)) de_int (od_lt (units_of hr))) (dw_or1 (dt_cmp (de_var (i := 1) rfl (.inr (.inl rfl))) de_int (od_eq (units_of hr))))))
  (dss_one (ds_ret (de_item (de_lst (da_cons de_non (da_cons de_bl (da_cons de_bl (da_cons de_int (da_cons de_int (da_cons (de_neg de_int) (da_cons de_int (da_cons (de_bin de_int de_int od_pow) (da_cons de_str (da_cons de_str (da_cons (de_tup da_nil len_nil (by decide)) (da_cons (de_lst da_nil len_nil (by decide)) da_nil)))))))))))) (len_cons (len_cons (len_cons (len_cons (len_cons (len_cons (len_cons (len_cons (len_cons (len_cons (len_cons (len_cons len_nil)))))))))))) (by decide)) (de_def (h_law_draw ev) hr (by omega) rfl pass_fn (da_cons (de_var (i := 0) rfl (.inr (.inl rfl))) (da_cons de_int da_nil)) (len_cons (len_cons len_nil))) fun _ _ => rfl)))
  dss_nil)
  (dss_cons (ds_setLc (i := 3) (own := [("_law_k", 4)]) rfl sc_law_thing.nd rfl rfl rfl (sw_true rfl rfl rfl rfl) (di_rng1 rfl ev.b_range (da_cons (de_def (h_law_draw ev) hr (by omega) rfl pass_fn (da_cons (de_var (i := 0) rfl (.inr (.inl rfl))) (da_cons de_int da_nil)) (len_cons (len_cons len_nil))) da_nil)) (by kernel_rfl) (by decide) (fun _ _ _ _ _ => (dg_name (i := 4) sc_law_thing.nd rfl (.inl rfl))) (fun _ _ _ _ _ => dts_nil) (fun _ _ _ _ _ => (de_def ih hr (by omega) rfl pass_xn (da_cons (de_var (i := 0) rfl (.inr (.inl rfl))) (da_cons (de_bin (de_var (i := 1) rfl (.inr (.inl rfl))) de_int od_sub) da_nil)) (len_cons (len_cons len_nil)))))
  (dss_cons (ds_if (dt_cmp (de_var (i := 2) rfl (.inl rfl)) de_int (od_eq (units_of hr)))
  (dss_one (ds_ret (de_var (i := 3) rfl (.inl rfl))))
  dss_nil)
  (dss_cons (ds_if (dt_cmp (de_var (i := 2) rfl (.inl rfl)) de_int (od_eq (units_of hr)))
  (dss_one (ds_ret (de_dic1 (de_var (i := 3) rfl (.inl rfl)))))
  dss_nil)
  (dss_one (ds_ret (de_tuple rfl ev.b_tuple (da_cons (de_var (i := 3) rfl (.inl rfl)) da_nil)))))))))
theorem sc_law_spoilt : FnScope ["_law_pen_here", "_law_thing_here", "_law_at", "_law_way"] ["_law_pen_here", "_law_thing_here"] (defScope (top 34)) := ⟨rfl, rfl, rfl, by decide +kernel, rfl, by decide +kernel, by decide +kernel⟩
def m_law_spoilt (rc : M O) : M Fl :=
  (mSeq (mIte (mAnd (tst (mIsi "tuple" (mVar 1))) (mAnd (tst (mBin gNeE (mVar 1) (mTup mNil))) (tst (mBin gGt (mCall [0] f_law_draw (mCons (mVar 0) (mCons (mC (.int 6)) mNil))) (mC (.int 0))))))
  (mSeq (mSet 2 (mCall [0] f_law_draw (mCons (mVar 0) (mCons (mCB gLen (mCons (mVar 1) mNil)) mNil))))
  (mRet [0] (mBin gAdd (mBin gAdd (mSl (mVar 1) mNo (mSo (mVar 2))) (mTup (mCons (mCall [0] rc (mCons (mVar 0) (mCons (mBin gIx (mVar 1) (mVar 2)) mNil))) mNil))) (mSl (mVar 1) (mSo (mBin gAdd (mVar 2) (mC (.int 1)))) mNo))))
  (ret .nx))
  (mSeq (mSet 3 (mCall [0] f_law_draw (mCons (mVar 0) (mCons (mC (.int 8)) mNil))))
  (mSeq (mIte (mAnd (tst (mIsi "tuple" (mVar 1))) (tst (mBin gLt (mVar 3) (mC (.int 4)))))
  (mRet [0] (mBin gIx (mLst (mCons (mBin gAdd (mVar 1) (mSl (mVar 1) (mSo (mNeg (mC (.int 1)))) mNo)) (mCons (mSl (mVar 1) mNo (mSo (mNeg (mC (.int 1))))) (mCons (mCB gList (mCons (mVar 1) mNil)) (mCons (mBack (mVar 1)) mNil))))) (mVar 3)))
  (ret .nx))
  (mSeq (mIte (mAnd (tst (mIsi "int" (mVar 1))) (tst (mBin gLt (mVar 3) (mC (.int 4)))))
  (mRet [0] (mBin gIx (mLst (mCons (mBin gAdd (mVar 1) (mC (.int 1))) (mCons (mBin gSub (mVar 1) (mC (.int 1))) (mCons (mBin gGt (mVar 1) (mC (.int 0))) (mCons (mCB gStr (mCons (mVar 1) mNil)) mNil))))) (mVar 3)))
  (ret .nx))
  (mSeq (mIte (mAnd (tst (mIsi "str" (mVar 1))) (tst (mBin gLt (mVar 3) (mC (.int 4)))))
  (mRet [0] (mBin gIx (mLst (mCons (mBin gAdd (mVar 1) (mC (.str "a"))) (mCons (mTx0 gUpper (mVar 1)) (mCons (mSl (mVar 1) mNo (mSo (mNeg (mC (.int 1))))) (mCons (mBin gAdd (mC (.str "1")) (mVar 1)) mNil))))) (mVar 3)))
  (ret .nx))
  (mRet [0] (mCall [0] (f_law_thing 3) (mCons (mVar 0) (mCons (mC (.int 2)) mNil)))))))))
def f_law_spoilt : Nat → M O
  | 0 => runF 4 stk
  | n + 1 => runF 4 (m_law_spoilt (f_law_spoilt n))
theorem h_law_spoilt (ev : Ev K mg base) : ∀ fu : Nat, Has P w K mg base (clK K) (5 + fu + 1) "_law_spoilt" ["_law_pen_here", "_law_thing_here"] 2 [0] (f_law_spoilt fu)
  | 0 => has_by (m := stk) ev.d_law_spoilt sc_law_spoilt rfl (by decide) fun f cdv A outer s H E hr => dss_never
  | fu + 1 => by
    have ih : Has P w K mg base (clK K) (5 + fu + 1) "_law_spoilt" ["_law_pen_here", "_law_thing_here"] 2 [0] (f_law_spoilt fu) := h_law_spoilt ev fu
    exact has_by (k := 5 + fu + 1) ev.d_law_spoilt sc_law_spoilt rfl (by decide) fun f cdv A outer s H E hr =>
  (dss_cons (ds_if (dt_w (dw_and (dt_val (de_isi (T := "tuple") (by decide) rfl ev.b_isinstance rfl ev.b_tuple PyProof.Rows.boot_tuple (de_var (i := 1) rfl (.inl rfl)))) (dw_and (dt_cmp (de_var (i := 1) rfl (.inl rfl)) (de_tup da_nil len_nil (by decide)) (od_neE (units_of hr))) (dw_and1 (dt_cmp (de_def (h_law_draw ev) hr (by omega) rfl pass_fn (da_cons (de_var (i := 0) rfl (.inl rfl)) (da_cons de_int da_nil)) (len_cons (len_cons len_nil))) de_int (od_gt))))))
  (dss_cons (ds_set (i := 2) sc_law_spoilt.nd rfl (.inl rfl) rfl (de_def (h_law_draw ev) hr (by omega) rfl pass_fn (da_cons (de_var (i := 0) rfl (.inl rfl)) (da_cons (de_len rfl ev.b_len (da_cons (de_var (i := 1) rfl (.inl rfl)) da_nil)) da_nil)) (len_cons (len_cons len_nil))))
  (dss_one (ds_ret (de_bin (de_bin (de_slice (de_var (i := 1) rfl (.inl rfl)) do_none (do_some (de_var (i := 2) rfl (.inl rfl)))) (de_tup (da_cons (de_def ih hr (by omega) rfl pass_fn (da_cons (de_var (i := 0) rfl (.inl rfl)) (da_cons (de_item (de_var (i := 1) rfl (.inl rfl)) (de_var (i := 2) rfl (.inl rfl)) fun _ _ => rfl) da_nil)) (len_cons (len_cons len_nil))) da_nil) (len_cons len_nil) (by decide)) od_add) (de_slice (de_var (i := 1) rfl (.inl rfl)) (do_some (de_bin (de_var (i := 2) rfl (.inl rfl)) de_int od_add)) do_none) od_add))))
  dss_nil)
  (dss_cons (ds_set (i := 3) sc_law_spoilt.nd rfl (.inl rfl) rfl (de_def (h_law_draw ev) hr (by omega) rfl pass_fn (da_cons (de_var (i := 0) rfl (.inl rfl)) (da_cons de_int da_nil)) (len_cons (len_cons len_nil))))
  (dss_cons (ds_if (dt_w (dw_and (dt_val (de_isi (T := "tuple") (by decide) rfl ev.b_isinstance rfl ev.b_tuple PyProof.Rows.boot_tuple (de_var (i := 1) rfl (.inl rfl)))) (dw_and1 (dt_cmp (de_var (i := 3) rfl (.inl rfl)) de_int (od_lt (units_of hr))))))
  (dss_one (ds_ret (de_item (de_lst (da_cons (de_bin (de_var (i := 1) rfl (.inl rfl)) (de_slice (de_var (i := 1) rfl (.inl rfl)) (do_some (de_neg de_int)) do_none) od_add) (da_cons (de_slice (de_var (i := 1) rfl (.inl rfl)) do_none (do_some (de_neg de_int))) (da_cons (de_list rfl ev.b_list (da_cons (de_var (i := 1) rfl (.inl rfl)) da_nil)) (da_cons (de_back (de_var (i := 1) rfl (.inl rfl)) rfl) da_nil)))) (len_cons (len_cons (len_cons (len_cons len_nil)))) (by decide)) (de_var (i := 3) rfl (.inl rfl)) fun _ _ => rfl)))
  dss_nil)
  (dss_cons (ds_if (dt_w (dw_and (dt_val (de_isi (T := "int") (by decide) rfl ev.b_isinstance rfl ev.b_int PyProof.Rows.boot_int (de_var (i := 1) rfl (.inl rfl)))) (dw_and1 (dt_cmp (de_var (i := 3) rfl (.inl rfl)) de_int (od_lt (units_of hr))))))
  (dss_one (ds_ret (de_item (de_lst (da_cons (de_bin (de_var (i := 1) rfl (.inl rfl)) de_int od_add) (da_cons (de_bin (de_var (i := 1) rfl (.inl rfl)) de_int od_sub) (da_cons (de_cmp (de_var (i := 1) rfl (.inl rfl)) de_int (od_gt)) (da_cons (de_toStr rfl ev.b_str (da_cons (de_var (i := 1) rfl (.inl rfl)) da_nil)) da_nil)))) (len_cons (len_cons (len_cons (len_cons len_nil)))) (by decide)) (de_var (i := 3) rfl (.inl rfl)) fun _ _ => rfl)))
  dss_nil)
  (dss_cons (ds_if (dt_w (dw_and (dt_val (de_isi (T := "str") (by decide) rfl ev.b_isinstance rfl ev.b_str PyProof.Rows.boot_str (de_var (i := 1) rfl (.inl rfl)))) (dw_and1 (dt_cmp (de_var (i := 3) rfl (.inl rfl)) de_int (od_lt (units_of hr))))))
  (dss_one (ds_ret (de_item (de_lst (da_cons (de_bin (de_var (i := 1) rfl (.inl rfl)) de_str od_add) (da_cons (de_upper (de_var (i := 1) rfl (.inl rfl))) (da_cons (de_slice (de_var (i := 1) rfl (.inl rfl)) do_none (do_some (de_neg de_int))) (da_cons (de_bin de_str (de_var (i := 1) rfl (.inl rfl)) od_add) da_nil)))) (len_cons (len_cons (len_cons (len_cons len_nil)))) (by decide)) (de_var (i := 3) rfl (.inl rfl)) fun _ _ => rfl)))
  dss_nil)
  (dss_one (ds_ret (de_def (h_law_thing ev 3) hr (by omega) rfl pass_fn (da_cons (de_var (i := 0) rfl (.inl rfl)) (da_cons de_int da_nil)) (len_cons (len_cons len_nil))))))))))
theorem sc_law_word : FnScope ["_law_call"] ["_law_call"] (defScope (top 35)) := ⟨rfl, rfl, rfl, by decide +kernel, rfl, by decide +kernel, by decide +kernel⟩
theorem sc_law_is_in : FnScope ["_law_thing_here", "_law_many"] ["_law_thing_here", "_law_many"] (defScope (top 36)) := ⟨rfl, rfl, rfl, by decide +kernel, rfl, by decide +kernel, by decide +kernel⟩
def m_law_is_in : M Fl :=
  (mRet [] (mAndV (mIsi "int" (mVar 0)) (mAndV (mNotV (mIsi "bool" (mVar 0))) (mChV (fun i j => decide (i ≤ j)) (fun i j => decide (i < j)) (mC (.int 0)) (mVar 0) (mVar 1)))))
def f_law_is_in : M O := runF 2 m_law_is_in
theorem b_law_is_in (ev : Ev K mg base) : Bd P w K mg base (clK K) 0 "_law_is_in" ["_law_thing_here", "_law_many"] [] (top 36) m_law_is_in := fun f cdv A outer s H E hr =>
  (dss_one (ds_ret (de_and (de_isi (T := "int") (by decide) rfl ev.b_isinstance rfl ev.b_int PyProof.Rows.boot_int (de_var (i := 0) rfl (.inl rfl))) (de_and (de_not (de_isi (T := "bool") (by decide) rfl ev.b_isinstance rfl ev.b_bool PyProof.Rows.boot_bool (de_var (i := 0) rfl (.inl rfl)))) (de_one (de_ch op_le op_lt de_int (de_var (i := 0) rfl (.inl rfl)) (de_var (i := 1) rfl (.inl rfl))))))))
theorem h_law_is_in (ev : Ev K mg base) : Has P w K mg base (clK K) 1 "_law_is_in" ["_law_thing_here", "_law_many"] 2 [] f_law_is_in := has_by (k := 0) ev.d_law_is_in sc_law_is_in rfl (by decide) (b_law_is_in ev)
theorem sc_law_is_place : FnScope ["_law_house", "_law_thing_here", "_law_part"] ["_law_house", "_law_thing_here"] (defScope (top 37)) := ⟨rfl, rfl, rfl, by decide +kernel, rfl, by decide +kernel, by decide +kernel⟩
def m_law_is_place : M Fl :=
  (mSeq (mIte (mOr (mNot (tst (mIsi "tuple" (mVar 1)))) (mOr (tst (mBin gGt (mCB gLen (mCons (mVar 1) mNil)) (mC (.int 2)))) (mNot (tst (mCB gAll (mCons (mLc (mWk [1] (mVar 1)) (.nm 2) (ret true) (mCall [] f_law_is_in (mCons (mVar 2) (mCons (mC (.int 3)) mNil))) [2]) mNil))))))
  (mRet [] (mC (.bool false)))
  (ret .nx))
  (mRet [] (mBin gIn (mVar 1) (mCall [] f_law_spots (mCons (mBin gIx (mVar 0) (mC (.int 0))) mNil)))))
def f_law_is_place : M O := runF 3 m_law_is_place
theorem b_law_is_place (ev : Ev K mg base) : Bd P w K mg base (clK K) 1 "_law_is_place" ["_law_house", "_law_thing_here", "_law_part"] [] (top 37) m_law_is_place := fun f cdv A outer s H E hr =>
  (dss_cons (ds_if (dt_w (dw_or (dt_not (dt_val (de_isi (T := "tuple") (by decide) rfl ev.b_isinstance rfl ev.b_tuple PyProof.Rows.boot_tuple (de_var (i := 1) rfl (.inl rfl))))) (dw_or (dt_cmp (de_len rfl ev.b_len (da_cons (de_var (i := 1) rfl (.inl rfl)) da_nil)) de_int (od_gt)) (dw_or1 (dt_not (dt_val (de_all rfl rfl ev.b_all (da_cons (de_lc (own := [("_law_part", 2)]) rfl sc_law_is_place.nd (di_seq (js := [1]) (de_var (i := 1) rfl (.inl rfl))) (by kernel_rfl) (by decide) (fun _ _ _ _ _ => (dg_name (i := 2) sc_law_is_place.nd rfl (.inl rfl))) (fun _ _ _ _ _ => dts_nil) (fun _ _ _ _ _ => (de_def (h_law_is_in ev) hr (by omega) rfl pass_xn (da_cons (de_var (i := 2) rfl (.inl rfl)) (da_cons de_int da_nil)) (len_cons (len_cons len_nil))))) da_nil))))))))
  (dss_one (ds_ret de_bl))
  dss_nil)
  (dss_one (ds_ret (de_cmp (de_var (i := 1) rfl (.inl rfl)) (de_def (h_law_spots ev) hr (by omega) rfl pass_fn (da_cons (de_item (de_var (i := 0) rfl (.inl rfl)) de_int fun _ _ => rfl) da_nil) (len_cons len_nil)) (od_in (units1_of hr))))))
theorem h_law_is_place (ev : Ev K mg base) : Has P w K mg base (clK K) 2 "_law_is_place" ["_law_house", "_law_thing_here"] 2 [] f_law_is_place := has_by (k := 1) ev.d_law_is_place sc_law_is_place rfl (by decide) (b_law_is_place ev)
theorem sc_law_asked : FnScope ["_law_house", "_law_spot", "_law_name", "_law_at", "_law_good", "_law_due", "_law_said"] ["_law_house", "_law_spot", "_law_name", "_law_at"] (defScope (top 38)) := ⟨rfl, rfl, rfl, by decide +kernel, rfl, by decide +kernel, by decide +kernel⟩
def m_law_asked : M Fl :=
  (mSeq (mSet 4 (mCall [] f_law_is_place (mCons (mVar 0) (mCons (mVar 1) mNil))))
  (mSeq (mSet 5 (mLst (mCons (mBin gIx (mLst (mCons (mC (.str "spot")) (mCons (mBin gIx (mLst (mCons (mC (.str "number")) (mCons (mC (.str "none")) mNil))) (mCB gInt (mCons (mCall [] f_law_is_in (mCons (mVar 2) (mCons (mC (.int 8)) mNil))) mNil))) mNil))) (mCB gInt (mCons (mVar 4) mNil))) mNil)))
  (mSeq (mSet 5 (mBin gAdd (mBin gAdd (mVar 5) (mVar 5)) (mLst (mCons (mBin gIx (mLst (mCons (mC (.str "recipe")) (mCons (mC (.str "none")) mNil))) (mCB gInt (mCons (mCall [] f_law_is_in (mCons (mVar 3) (mCons (mCB gLen (mCons (mBin gIx (mVar 0) (mC (.int 1))) mNil)) mNil))) mNil))) mNil))))
  (mSeq (mEx (mMetF 5 gApp (mCons (mBin gIx (mLst (mCons (mC (.str "tasting")) (mCons (mC (.str "none")) mNil))) (mCB gInt (mCons (mCall [] f_law_is_in (mCons (mVar 3) (mCons (mCB gLen (mCons (mBin gIx (mVar 0) (mC (.int 2))) mNil)) mNil))) mNil))) mNil)))
  (mSeq (mSet 6 (mLst (mCons (mWord errs [("NoSpot", Str.ofString "spot"), ("NoNumber", Str.ofString "number"), ("NoRecipe", Str.ofString "recipe"), ("NoTasting", Str.ofString "tasting")] (Str.ofString "none") (mCall [] f_found_at (mCons (mVar 0) (mCons (mVar 1) (mCons (mVar 2) mNil))))) mNil)))
  (mSeq (mEx (mMetF 6 gApp (mCons (mWord errs [("NoSpot", Str.ofString "spot"), ("NoNumber", Str.ofString "number"), ("NoRecipe", Str.ofString "recipe"), ("NoTasting", Str.ofString "tasting")] (Str.ofString "none") (mCall [] f_all_at (mCons (mVar 0) (mCons (mVar 1) (mCons (mVar 2) mNil))))) mNil)))
  (mSeq (mEx (mMetF 6 gApp (mCons (mWord errs [("NoSpot", Str.ofString "spot"), ("NoNumber", Str.ofString "number"), ("NoRecipe", Str.ofString "recipe"), ("NoTasting", Str.ofString "tasting")] (Str.ofString "none") (mCall [] f_straight_of (mCons (mVar 0) (mCons (mVar 3) mNil)))) mNil)))
  (mSeq (mEx (mMetF 6 gApp (mCons (mWord errs [("NoSpot", Str.ofString "spot"), ("NoNumber", Str.ofString "number"), ("NoRecipe", Str.ofString "recipe"), ("NoTasting", Str.ofString "tasting")] (Str.ofString "none") (mCall [] f_tasting_needs (mCons (mVar 0) (mCons (mVar 3) mNil)))) mNil)))
  (mRet [] (mBin gEq (mVar 6) (mVar 5)))))))))))
def f_law_asked : M O := runF 7 m_law_asked
theorem b_law_asked (ev : Ev K mg base) : BdC P w K mg base (clK K) 8 "_law_asked" ["_law_house", "_law_spot", "_law_name", "_law_at", "_law_good", "_law_due", "_law_said"] [] (top 38) m_law_asked := fun f A outer s H E hr =>
  have lb := ev.l_law_asked
  (dss_cons (ds_set (i := 4) sc_law_asked.nd rfl (.inl rfl) rfl (de_def (h_law_is_place ev) hr (by omega) rfl pass_fn (da_cons (de_var (i := 0) rfl (.inr (.inl rfl))) (da_cons (de_var (i := 1) rfl (.inr (.inl rfl))) da_nil)) (len_cons (len_cons len_nil))))
  (dss_cons (ds_set (i := 5) sc_law_asked.nd rfl (.inl rfl) rfl (de_lst (da_cons (de_item (de_lst (da_cons de_str (da_cons (de_item (de_lst (da_cons de_str (da_cons de_str da_nil)) (len_cons (len_cons len_nil)) (by decide)) (de_toInt rfl ev.b_int (da_cons (de_def (h_law_is_in ev) hr (by omega) rfl pass_fn (da_cons (de_var (i := 2) rfl (.inr (.inl rfl))) (da_cons de_int da_nil)) (len_cons (len_cons len_nil))) da_nil)) fun _ _ => rfl) da_nil)) (len_cons (len_cons len_nil)) (by decide)) (de_toInt rfl ev.b_int (da_cons (de_var (i := 4) rfl (.inl rfl)) da_nil)) fun _ _ => rfl) da_nil) (len_cons len_nil) (by decide)))
  (dss_cons (ds_set (i := 5) sc_law_asked.nd rfl (.inl rfl) rfl (de_bin (de_bin (de_var (i := 5) rfl (.inl rfl)) (de_var (i := 5) rfl (.inl rfl)) od_add) (de_lst (da_cons (de_item (de_lst (da_cons de_str (da_cons de_str da_nil)) (len_cons (len_cons len_nil)) (by decide)) (de_toInt rfl ev.b_int (da_cons (de_def (h_law_is_in ev) hr (by omega) rfl pass_fn (da_cons (de_var (i := 3) rfl (.inr (.inl rfl))) (da_cons (de_len rfl ev.b_len (da_cons (de_item (de_var (i := 0) rfl (.inr (.inl rfl))) de_int fun _ _ => rfl) da_nil)) da_nil)) (len_cons (len_cons len_nil))) da_nil)) fun _ _ => rfl) da_nil) (len_cons len_nil) (by decide)) od_add))
  (dss_cons (ds_expr (de_app (i := 5) rfl (.inl rfl) (da_cons (de_item (de_lst (da_cons de_str (da_cons de_str da_nil)) (len_cons (len_cons len_nil)) (by decide)) (de_toInt rfl ev.b_int (da_cons (de_def (h_law_is_in ev) hr (by omega) rfl pass_fn (da_cons (de_var (i := 3) rfl (.inr (.inl rfl))) (da_cons (de_len rfl ev.b_len (da_cons (de_item (de_var (i := 0) rfl (.inr (.inl rfl))) de_int fun _ _ => rfl) da_nil)) da_nil)) (len_cons (len_cons len_nil))) da_nil)) fun _ _ => rfl) da_nil) (len_cons len_nil)))
  (dss_cons (ds_set (i := 6) sc_law_asked.nd rfl (.inl rfl) rfl (de_lst (da_cons (de_word (a := "_law_call") (Ng := ["_law_call"]) (k := 6) rfl ev.d_law_word sc_law_word rfl (.inl rfl) rfl (fun _ _ _ _ => (.cons (c := "NoSpot") ⟨rfl, by decide, .inl ev.x_NoSpot.gC⟩ (.cons (c := "NoNumber") ⟨rfl, by decide, .inl ev.x_NoNumber.gC⟩ (.cons (c := "NoRecipe") ⟨rfl, by decide, .inl ev.x_NoRecipe.gC⟩ (.cons (c := "NoTasting") ⟨rfl, by decide, .inl ev.x_NoTasting.gC⟩ .nil))))) ev.em (lamH_of' lb.tb lb.tm lb.tu (by rfl)) (hr.mono (by omega)) (LamX.lamS_by (by kernel_rfl)) rfl (fun _ _ _ _ _ => rfl) (fun A outer s H E f c hr => (de_def (h_found_at ev) hr (by omega) rfl pass_lam (da_cons (de_var (i := 0) rfl (.inr (.inr rfl))) (da_cons (de_var (i := 1) rfl (.inr (.inr rfl))) (da_cons (de_var (i := 2) rfl (.inr (.inr rfl))) da_nil))) (len_cons (len_cons (len_cons len_nil))))) (fun _ => rfl)) da_nil) (len_cons len_nil) (by decide)))
  (dss_cons (ds_expr (de_app (i := 6) rfl (.inl rfl) (da_cons (de_word (a := "_law_call") (Ng := ["_law_call"]) (k := 6) rfl ev.d_law_word sc_law_word rfl (.inl rfl) rfl (fun _ _ _ _ => (.cons (c := "NoSpot") ⟨rfl, by decide, .inl ev.x_NoSpot.gC⟩ (.cons (c := "NoNumber") ⟨rfl, by decide, .inl ev.x_NoNumber.gC⟩ (.cons (c := "NoRecipe") ⟨rfl, by decide, .inl ev.x_NoRecipe.gC⟩ (.cons (c := "NoTasting") ⟨rfl, by decide, .inl ev.x_NoTasting.gC⟩ .nil))))) ev.em (lamH_of' lb.tb lb.tm lb.tu (by rfl)) (hr.mono (by omega)) (LamX.lamS_by (by kernel_rfl)) rfl (fun _ _ _ _ _ => rfl) (fun A outer s H E f c hr => (de_def (h_all_at ev) hr (by omega) rfl pass_lam (da_cons (de_var (i := 0) rfl (.inr (.inr rfl))) (da_cons (de_var (i := 1) rfl (.inr (.inr rfl))) (da_cons (de_var (i := 2) rfl (.inr (.inr rfl))) da_nil))) (len_cons (len_cons (len_cons len_nil))))) (fun _ => rfl)) da_nil) (len_cons len_nil)))
  (dss_cons (ds_expr (de_app (i := 6) rfl (.inl rfl) (da_cons (de_word (a := "_law_call") (Ng := ["_law_call"]) (k := 4) rfl ev.d_law_word sc_law_word rfl (.inl rfl) rfl (fun _ _ _ _ => (.cons (c := "NoSpot") ⟨rfl, by decide, .inl ev.x_NoSpot.gC⟩ (.cons (c := "NoNumber") ⟨rfl, by decide, .inl ev.x_NoNumber.gC⟩ (.cons (c := "NoRecipe") ⟨rfl, by decide, .inl ev.x_NoRecipe.gC⟩ (.cons (c := "NoTasting") ⟨rfl, by decide, .inl ev.x_NoTasting.gC⟩ .nil))))) ev.em (lamH_of' lb.tb lb.tm lb.tu (by rfl)) (hr.mono (by omega)) (LamX.lamS_by (by kernel_rfl)) rfl (fun _ _ _ _ _ => rfl) (fun A outer s H E f c hr => (de_def (h_straight_of ev) hr (by omega) rfl pass_lam (da_cons (de_var (i := 0) rfl (.inr (.inr rfl))) (da_cons (de_var (i := 3) rfl (.inr (.inr rfl))) da_nil)) (len_cons (len_cons len_nil)))) (fun _ => rfl)) da_nil) (len_cons len_nil)))
  (dss_cons (ds_expr (de_app (i := 6) rfl (.inl rfl) (da_cons (de_word (a := "_law_call") (Ng := ["_law_call"]) (k := 4) rfl ev.d_law_word sc_law_word rfl (.inl rfl) rfl (fun _ _ _ _ => (.cons (c := "NoSpot") ⟨rfl, by decide, .inl ev.x_NoSpot.gC⟩ (.cons (c := "NoNumber") ⟨rfl, by decide, .inl ev.x_NoNumber.gC⟩ (.cons (c := "NoRecipe") ⟨rfl, by decide, .inl ev.x_NoRecipe.gC⟩ (.cons (c := "NoTasting") ⟨rfl, by decide, .inl ev.x_NoTasting.gC⟩ .nil))))) ev.em (lamH_of' lb.tb lb.tm lb.tu (by rfl)) (hr.mono (by omega)) (LamX.lamS_by (by kernel_rfl)) rfl (fun _ _ _ _ _ => rfl) (fun A outer s H E f c hr => (de_def (h_tasting_needs ev) hr (by omega) rfl pass_lam (da_cons (de_var (i := 0) rfl (.inr (.inr rfl))) (da_cons (de_var (i := 3) rfl (.inr (.inr rfl))) da_nil)) (len_cons (len_cons len_nil)))) (fun _ => rfl)) da_nil) (len_cons len_nil)))
  (dss_one (ds_ret (de_cmp (de_var (i := 6) rfl (.inl rfl)) (de_var (i := 5) rfl (.inl rfl)) (od_eq (units_of hr)))))))))))))
theorem h_law_asked (ev : Ev K mg base) : Has P w K mg base (clK K) 9 "_law_asked" ["_law_house", "_law_spot", "_law_name", "_law_at"] 4 [] f_law_asked := has_byC (k := 8) ev.d_law_asked sc_law_asked rfl (by decide) ev.l_law_asked (b_law_asked ev)
theorem sc_law : FnScope ["_law_script", "_law_pen_here", "_law_house", "_law_spots_here", "_law_turn", "_law_spot", "_law_name", "_law_at", "_law_wrong", "_law_row"] ["_law_script"] (defScope (top 39)) := ⟨rfl, rfl, rfl, by decide +kernel, rfl, by decide +kernel, by decide +kernel⟩
def m_law : M Fl :=
  (mSeq (mSet 1 (mCall [] f_law_pen (mCons (mCall [] f_law_cell_at (mCons (mVar 0) (mCons (mC (.int 0)) mNil))) mNil)))
  (mSeq (mSet 2 (mCall [0] f_law_raw (mCons (mVar 1) mNil)))
  (mSeq (mSet 3 (mCall [] f_law_spots (mCons (mBin gIx (mVar 2) (mC (.int 0))) mNil)))
  (mSeq (mFor (mRng1 (mCons (mC (.int 12)) mNil)) (.nm 4)
  (mSeq (mPar3 5 6 7 (mBin gIx (mVar 3) (mCall [0] f_law_draw (mCons (mVar 1) (mCons (mCB gLen (mCons (mVar 3) mNil)) mNil)))) (mCall [0] f_law_draw (mCons (mVar 1) (mCons (mC (.int 10)) mNil))) (mCall [0] f_law_draw (mCons (mVar 1) (mCons (mC (.int 10)) mNil))))
  (mSeq (mIte (tst (mBin gEq (mCall [0] f_law_draw (mCons (mVar 1) (mCons (mC (.int 2)) mNil))) (mC (.int 0))))
  (mSet 5 (mCall [0] (f_law_spoilt 3) (mCons (mVar 1) (mCons (mVar 5) mNil))))
  (ret .nx))
  (mSeq (mIte (tst (mBin gEq (mCall [0] f_law_draw (mCons (mVar 1) (mCons (mC (.int 3)) mNil))) (mC (.int 0))))
  (mSet 6 (mCall [0] (f_law_thing 3) (mCons (mVar 1) (mCons (mC (.int 2)) mNil))))
  (ret .nx))
  (mSeq (mIte (tst (mBin gEq (mCall [0] f_law_draw (mCons (mVar 1) (mCons (mC (.int 3)) mNil))) (mC (.int 0))))
  (mSet 7 (mCall [0] (f_law_thing 3) (mCons (mVar 1) (mCons (mC (.int 2)) mNil))))
  (ret .nx))
  (mIte (mNot (tst (mCall [] f_law_asked (mCons (mVar 2) (mCons (mVar 5) (mCons (mVar 6) (mCons (mVar 7) mNil)))))))
  (mRet [] (mC (.bool false)))
  (ret .nx)))))))
  (mSeq (mSet 8 (mLst (mCons (mTup (mCons (mCB gLen (mCons (mBin gIx (mVar 2) (mC (.int 0))) mNil)) mNil)) (mCons (mTup (mCons (mC (.int 0)) (mCons (mBin gIx (mBin gIx (mVar 2) (mC (.int 0))) (mC (.int 0))) mNil))) (mCons (mTup mNil) (mCons (mC .none) mNil))))))
  (mSeq (mSet 9 (mLst (mCons (mTup (mCons (mBin gIx (mVar 8) (mC (.int 0))) (mCons (mC (.int 8)) (mCons (mCB gLen (mCons (mBin gIx (mVar 2) (mC (.int 1))) mNil)) mNil)))) (mCons (mTup (mCons (mBin gIx (mVar 8) (mC (.int 1))) (mCons (mNeg (mC (.int 1))) (mCons (mCB gLen (mCons (mBin gIx (mVar 2) (mC (.int 2))) mNil)) mNil)))) (mCons (mTup (mCons (mBin gIx (mVar 8) (mC (.int 2))) (mCons (mC (.bool true)) (mCons (mC (.bool true)) mNil)))) (mCons (mTup (mCons (mBin gIx (mVar 8) (mC (.int 3))) (mCons (mC (.str "0")) (mCons (mNeg (mC (.int 1))) mNil)))) mNil))))))
  (mRet [] (mCB gAll (mCons (bnd (frzV 7) fun _ => (bnd (frzV 6) fun _ => (bnd (frzV 5) fun _ => (mLc (mWk [9] (mVar 9)) (.tp [(.nm 5), (.nm 6), (.nm 7)]) (ret true) (mCall [] f_law_asked (mCons (mVar 2) (mCons (mVar 5) (mCons (mVar 6) (mCons (mVar 7) mNil))))) [5, 6, 7])))) mNil)))))))))
def f_law : M O := runF 10 m_law
theorem b_law (ev : Ev K mg base) : Bd P w K mg base (clK K) 9 "law" ["_law_script", "_law_pen_here", "_law_house", "_law_spots_here", "_law_turn", "_law_spot", "_law_name", "_law_at", "_law_wrong", "_law_row"] [] (top 39) m_law := fun f cdv A outer s H E hr =>
  (dss_cons (ds_set (i := 1) sc_law.nd rfl (.inl rfl) rfl (de_def (h_law_pen ev) hr (by omega) rfl pass_fn (da_cons (de_def (h_law_cell_at ev) hr (by omega) rfl pass_fn (da_cons (de_var (i := 0) rfl (.inl rfl)) (da_cons de_int da_nil)) (len_cons (len_cons len_nil))) da_nil) (len_cons len_nil)))
  (dss_cons (ds_set (i := 2) sc_law.nd rfl (.inr rfl) rfl (de_def (h_law_raw ev) hr (by omega) rfl pass_fn (da_cons (de_var (i := 1) rfl (.inl rfl)) da_nil) (len_cons len_nil)))
  (dss_cons (ds_set (i := 3) sc_law.nd rfl (.inl rfl) rfl (de_def (h_law_spots ev) hr (by omega) rfl pass_fn (da_cons (de_item (de_var (i := 2) rfl (.inr (.inl rfl))) de_int fun _ _ => rfl) da_nil) (len_cons len_nil)))
  (dss_cons (ds_for (ios := []) pow_fn rfl (di_rng1 rfl ev.b_range (da_cons de_int da_nil)) (dg_name (i := 4) sc_law.nd rfl (.inl rfl))
  (dss_cons (ds_par3 (i := 5) (j := 6) (l := 7) rfl sc_law.nd rfl rfl rfl rfl rfl rfl rfl rfl rfl rfl rfl rfl (de_item (de_var (i := 3) rfl (.inl rfl)) (de_def (h_law_draw ev) hr (by omega) rfl pass_fn (da_cons (de_var (i := 1) rfl (.inl rfl)) (da_cons (de_len rfl ev.b_len (da_cons (de_var (i := 3) rfl (.inl rfl)) da_nil)) da_nil)) (len_cons (len_cons len_nil))) fun _ _ => rfl) (de_def (h_law_draw ev) hr (by omega) rfl pass_fn (da_cons (de_var (i := 1) rfl (.inl rfl)) (da_cons de_int da_nil)) (len_cons (len_cons len_nil))) (de_def (h_law_draw ev) hr (by omega) rfl pass_fn (da_cons (de_var (i := 1) rfl (.inl rfl)) (da_cons de_int da_nil)) (len_cons (len_cons len_nil))))
  (dss_cons (ds_if (dt_cmp (de_def (h_law_draw ev) hr (by omega) rfl pass_fn (da_cons (de_var (i := 1) rfl (.inl rfl)) (da_cons de_int da_nil)) (len_cons (len_cons len_nil))) de_int (od_eq (units_of hr)))
  (dss_one (ds_set (i := 5) sc_law.nd rfl (.inl rfl) rfl (de_def (h_law_spoilt ev 3) hr (by omega) rfl pass_fn (da_cons (de_var (i := 1) rfl (.inl rfl)) (da_cons (de_var (i := 5) rfl (.inl rfl)) da_nil)) (len_cons (len_cons len_nil)))))
  dss_nil)
  (dss_cons (ds_if (dt_cmp (de_def (h_law_draw ev) hr (by omega) rfl pass_fn (da_cons (de_var (i := 1) rfl (.inl rfl)) (da_cons de_int da_nil)) (len_cons (len_cons len_nil))) de_int (od_eq (units_of hr)))
  (dss_one (ds_set (i := 6) sc_law.nd rfl (.inl rfl) rfl (de_def (h_law_thing ev 3) hr (by omega) rfl pass_fn (da_cons (de_var (i := 1) rfl (.inl rfl)) (da_cons de_int da_nil)) (len_cons (len_cons len_nil)))))
  dss_nil)
  (dss_cons (ds_if (dt_cmp (de_def (h_law_draw ev) hr (by omega) rfl pass_fn (da_cons (de_var (i := 1) rfl (.inl rfl)) (da_cons de_int da_nil)) (len_cons (len_cons len_nil))) de_int (od_eq (units_of hr)))
  (dss_one (ds_set (i := 7) sc_law.nd rfl (.inl rfl) rfl (de_def (h_law_thing ev 3) hr (by omega) rfl pass_fn (da_cons (de_var (i := 1) rfl (.inl rfl)) (da_cons de_int da_nil)) (len_cons (len_cons len_nil)))))
  dss_nil)
  (dss_one (ds_if (dt_not (dt_val (de_def (h_law_asked ev) hr (by omega) rfl pass_fn (da_cons (de_var (i := 2) rfl (.inr (.inl rfl))) (da_cons (de_var (i := 5) rfl (.inl rfl)) (da_cons (de_var (i := 6) rfl (.inl rfl)) (da_cons (de_var (i := 7) rfl (.inl rfl)) da_nil)))) (len_cons (len_cons (len_cons (len_cons len_nil)))))))
  (dss_one (ds_ret de_bl))
  dss_nil)))))) (by decide) hw_rng1 (by decide))
  (dss_cons (ds_set (i := 8) sc_law.nd rfl (.inl rfl) rfl (de_lst (da_cons (de_tup (da_cons (de_len rfl ev.b_len (da_cons (de_item (de_var (i := 2) rfl (.inr (.inl rfl))) de_int fun _ _ => rfl) da_nil)) da_nil) (len_cons len_nil) (by decide)) (da_cons (de_tup (da_cons de_int (da_cons (de_item (de_item (de_var (i := 2) rfl (.inr (.inl rfl))) de_int fun _ _ => rfl) de_int fun _ _ => rfl) da_nil)) (len_cons (len_cons len_nil)) (by decide)) (da_cons (de_tup da_nil len_nil (by decide)) (da_cons de_non da_nil)))) (len_cons (len_cons (len_cons (len_cons len_nil)))) (by decide)))
  (dss_cons (ds_set (i := 9) sc_law.nd rfl (.inl rfl) rfl (de_lst (da_cons (de_tup (da_cons (de_item (de_var (i := 8) rfl (.inl rfl)) de_int fun _ _ => rfl) (da_cons de_int (da_cons (de_len rfl ev.b_len (da_cons (de_item (de_var (i := 2) rfl (.inr (.inl rfl))) de_int fun _ _ => rfl) da_nil)) da_nil))) (len_cons (len_cons (len_cons len_nil))) (by decide)) (da_cons (de_tup (da_cons (de_item (de_var (i := 8) rfl (.inl rfl)) de_int fun _ _ => rfl) (da_cons (de_neg de_int) (da_cons (de_len rfl ev.b_len (da_cons (de_item (de_var (i := 2) rfl (.inr (.inl rfl))) de_int fun _ _ => rfl) da_nil)) da_nil))) (len_cons (len_cons (len_cons len_nil))) (by decide)) (da_cons (de_tup (da_cons (de_item (de_var (i := 8) rfl (.inl rfl)) de_int fun _ _ => rfl) (da_cons de_bl (da_cons de_bl da_nil))) (len_cons (len_cons (len_cons len_nil))) (by decide)) (da_cons (de_tup (da_cons (de_item (de_var (i := 8) rfl (.inl rfl)) de_int fun _ _ => rfl) (da_cons de_str (da_cons (de_neg de_int) da_nil))) (len_cons (len_cons (len_cons len_nil))) (by decide)) da_nil)))) (len_cons (len_cons (len_cons (len_cons len_nil)))) (by decide)))
  (dss_one (ds_ret (de_all rfl rfl ev.b_all (da_cons (de_frz 7 (de_frz 6 (de_frz 5 (de_lc (own := [("_law_spot", 5), ("_law_name", 6), ("_law_at", 7)]) rfl sc_law.nd (di_seq (js := [9]) (de_var (i := 9) rfl (.inl rfl))) (by kernel_rfl) (by decide) (fun _ _ _ _ _ => (dg_tup rfl (dgs_cons (dg_name (i := 5) sc_law.nd rfl (.inl rfl)) (dgs_cons (dg_name (i := 6) sc_law.nd rfl (.inl rfl)) (dgs_cons (dg_name (i := 7) sc_law.nd rfl (.inl rfl)) dgs_nil))))) (fun _ _ _ _ _ => dts_nil) (fun _ _ _ _ _ => (de_def (h_law_asked ev) hr (by omega) rfl pass_xn (da_cons (de_var (i := 2) rfl (.inr (.inl rfl))) (da_cons (de_var (i := 5) rfl (.inl rfl)) (da_cons (de_var (i := 6) rfl (.inl rfl)) (da_cons (de_var (i := 7) rfl (.inl rfl)) da_nil)))) (len_cons (len_cons (len_cons (len_cons len_nil)))))))))) da_nil))))))))))
theorem h_law (ev : Ev K mg base) : Has P w K mg base (clK K) 10 "law" ["_law_script"] 1 [] f_law := has_by (k := 9) ev.d_law sc_law rfl (by decide) (b_law ev)
end
end Mi

set_option Elab.async false
set_option linter.all false
set_option maxRecDepth 20000
set_option maxHeartbeats 0
namespace Mi
open PySem PySem.Spec L2
local macro_rules
  | `(tactic| push_cast) => `(tactic| simp only [ok_ok, ok_ex, ok_stuck, ok_ret, ok_stk, ok_bnd, ok_ofO, opt_some, opt_none, opt_map, opt_bind, opt_ite, rb_b, ri_i, ro_d, ro_own, ro_pl, ok_mC, ok_bin, ok_isi, ok_tst, ok_and, ok_or, ok_not, ok_andV, ok_orV, ok_notV, ok_mif, ok_nil, ok_cons, ok_frz_d, ok_frz_pl, ok_frzAll_nil, ok_frzAll_cons, ok_tup, ok_lst, ok_no, ok_so, ok_sl, ok_cb, resAll_nil, resAll_cons, ok_call, ok_seq, seqQ_nx, seqQ_rt, seqQ_bk, seqQ_ct, ok_mEx, ok_mRet, ok_ite, ok_set, ok_setK_d, ok_setK_own, ok_setK_pl, ok_runF, runQ_rt, runQ_nx, frz_d, frz_lst, frz_dat, frz_pl, res_d, res_pl, rv_val, rv_tup, rv_lst, orv_dat, orv_lst, ok_neg, ok_lstR, ok_chkL, lstAt, ok_mMet, ok_mMetF, ok_store, ok_mFor, forQ_nx, forQ_ct, forQ_bk, forQ_rt, ok_mLc, ok_mWk, wkOf_str, wkOf_list, wkOf_tuple, wkOf_pl, rsI_i, ok_rng1, ok_rng2, ok_rng3, rsI2_i, rsI3_i, ok_enu, ok_zip, seqOf_list, seqOf_tuple, seqOf_pl, ok_setE, ok_back, rs_s, ok_tx0, ok_tx1, ok_dic1, lst1_l, datAt, ok_sortK, ok_maxK, rd1_d, ok_mTgt, ok_isN, ok_maxD, gExt_l, gExt_t, gIns_0, gClr_0, gSorted_l, mVar, argOs, argO, ioSlots, lentSlots, apart, backEnv, allFlat, O.flat, flat, flats, wipeE, restE, ownFree, srcOk, asgT_nm, asgT_tp, asgTs_nil, asgTs_cons, Option.bind_some, opt_vB, opt_vI, gLt_i, gLe_i, gGt_i, gGe_i, gAdd_i, gAdd_t, gAdd_l, gAdd_s, gSub_i, gMul_i, gFdiv_i, gMod_i, gPow_i, gIx_l, gIx_t, gIx_s, gLen_l, gLen_t, gLen_s, gTuple_l, gTuple_t, gList_l, gList_t, gInt_i, gInt_b, gMax2_i, gMin2_i, gCut_l, gCut_t, gCut_s, gAll_l, gAny_l, gSum_l, gEq_i, gNe_i, gEq_b, gNe_b, gEqE_l, gNeE_l, gEqE_t, gNeE_t, gApp_1, gPopI_1, gStr_i, seqD_l, seqD_t, atI_0, List.cons_append, List.nil_append, List.length_cons, List.length_nil, List.replicate_succ, List.replicate_zero, Nat.reduceAdd, Nat.reduceSub, List.getElem?_cons_succ, List.getElem?_cons_zero, List.set_cons_succ, List.set_cons_zero, List.getElem?_nil, List.contains_cons, List.contains_nil, Bool.or_false, Bool.false_or, Bool.or_true, Bool.true_or, Bool.and_true, Bool.true_and, Bool.and_false, Bool.false_and, Nat.reduceBEq, List.isEmpty_nil, List.isEmpty_cons, Bool.not_true, Bool.not_false, List.all_cons, List.all_nil, List.any_cons, List.any_nil, Option.getD_some, Option.getD_none, decide_eq_true_eq, decide_eq_false_iff_not, Bool.true_eq_false, Bool.false_eq_true, true_implies, false_implies, true_and, and_true, false_and, and_false, implies_true, Bool.not_eq_true', Bool.not_eq_false', if_true, if_false, ite_true, ite_false, reduceCtorEq, forall_const, isi_bool_bool, isi_bool_int, isi_bool_str, isi_bool_list, isi_bool_tuple, isi_bool_none, isi_bool_dict, isi_int_bool, isi_int_int, isi_int_str, isi_int_list, isi_int_tuple, isi_int_none, isi_int_dict, isi_str_bool, isi_str_int, isi_str_str, isi_str_list, isi_str_tuple, isi_str_none, isi_str_dict, isi_list_bool, isi_list_int, isi_list_str, isi_list_list, isi_list_tuple, isi_list_none, isi_list_dict, isi_tuple_bool, isi_tuple_int, isi_tuple_str, isi_tuple_list, isi_tuple_tuple, isi_tuple_none, isi_tuple_dict, isi_dict_bool, isi_dict_int, isi_dict_str, isi_dict_list, isi_dict_tuple, isi_dict_none, isi_dict_dict])
  | `(tactic| push_cast [$ls,*]) => `(tactic| simp only [ok_ok, ok_ex, ok_stuck, ok_ret, ok_stk, ok_bnd, ok_ofO, opt_some, opt_none, opt_map, opt_bind, opt_ite, rb_b, ri_i, ro_d, ro_own, ro_pl, ok_mC, ok_bin, ok_isi, ok_tst, ok_and, ok_or, ok_not, ok_andV, ok_orV, ok_notV, ok_mif, ok_nil, ok_cons, ok_frz_d, ok_frz_pl, ok_frzAll_nil, ok_frzAll_cons, ok_tup, ok_lst, ok_no, ok_so, ok_sl, ok_cb, resAll_nil, resAll_cons, ok_call, ok_seq, seqQ_nx, seqQ_rt, seqQ_bk, seqQ_ct, ok_mEx, ok_mRet, ok_ite, ok_set, ok_setK_d, ok_setK_own, ok_setK_pl, ok_runF, runQ_rt, runQ_nx, frz_d, frz_lst, frz_dat, frz_pl, res_d, res_pl, rv_val, rv_tup, rv_lst, orv_dat, orv_lst, ok_neg, ok_lstR, ok_chkL, lstAt, ok_mMet, ok_mMetF, ok_store, ok_mFor, forQ_nx, forQ_ct, forQ_bk, forQ_rt, ok_mLc, ok_mWk, wkOf_str, wkOf_list, wkOf_tuple, wkOf_pl, rsI_i, ok_rng1, ok_rng2, ok_rng3, rsI2_i, rsI3_i, ok_enu, ok_zip, seqOf_list, seqOf_tuple, seqOf_pl, ok_setE, ok_back, rs_s, ok_tx0, ok_tx1, ok_dic1, lst1_l, datAt, ok_sortK, ok_maxK, rd1_d, ok_mTgt, ok_isN, ok_maxD, gExt_l, gExt_t, gIns_0, gClr_0, gSorted_l, mVar, argOs, argO, ioSlots, lentSlots, apart, backEnv, allFlat, O.flat, flat, flats, wipeE, restE, ownFree, srcOk, asgT_nm, asgT_tp, asgTs_nil, asgTs_cons, Option.bind_some, opt_vB, opt_vI, gLt_i, gLe_i, gGt_i, gGe_i, gAdd_i, gAdd_t, gAdd_l, gAdd_s, gSub_i, gMul_i, gFdiv_i, gMod_i, gPow_i, gIx_l, gIx_t, gIx_s, gLen_l, gLen_t, gLen_s, gTuple_l, gTuple_t, gList_l, gList_t, gInt_i, gInt_b, gMax2_i, gMin2_i, gCut_l, gCut_t, gCut_s, gAll_l, gAny_l, gSum_l, gEq_i, gNe_i, gEq_b, gNe_b, gEqE_l, gNeE_l, gEqE_t, gNeE_t, gApp_1, gPopI_1, gStr_i, seqD_l, seqD_t, atI_0, List.cons_append, List.nil_append, List.length_cons, List.length_nil, List.replicate_succ, List.replicate_zero, Nat.reduceAdd, Nat.reduceSub, List.getElem?_cons_succ, List.getElem?_cons_zero, List.set_cons_succ, List.set_cons_zero, List.getElem?_nil, List.contains_cons, List.contains_nil, Bool.or_false, Bool.false_or, Bool.or_true, Bool.true_or, Bool.and_true, Bool.true_and, Bool.and_false, Bool.false_and, Nat.reduceBEq, List.isEmpty_nil, List.isEmpty_cons, Bool.not_true, Bool.not_false, List.all_cons, List.all_nil, List.any_cons, List.any_nil, Option.getD_some, Option.getD_none, decide_eq_true_eq, decide_eq_false_iff_not, Bool.true_eq_false, Bool.false_eq_true, true_implies, false_implies, true_and, and_true, false_and, and_false, implies_true, Bool.not_eq_true', Bool.not_eq_false', if_true, if_false, ite_true, ite_false, reduceCtorEq, forall_const, isi_bool_bool, isi_bool_int, isi_bool_str, isi_bool_list, isi_bool_tuple, isi_bool_none, isi_bool_dict, isi_int_bool, isi_int_int, isi_int_str, isi_int_list, isi_int_tuple, isi_int_none, isi_int_dict, isi_str_bool, isi_str_int, isi_str_str, isi_str_list, isi_str_tuple, isi_str_none, isi_str_dict, isi_list_bool, isi_list_int, isi_list_str, isi_list_list, isi_list_tuple, isi_list_none, isi_list_dict, isi_tuple_bool, isi_tuple_int, isi_tuple_str, isi_tuple_list, isi_tuple_tuple, isi_tuple_none, isi_tuple_dict, isi_dict_bool, isi_dict_int, isi_dict_str, isi_dict_list, isi_dict_tuple, isi_dict_none, isi_dict_dict, $ls,*])
def V (p : List D) : Prop := ∃ a b c d : Int, p = [.int a, .int b, .int c, .int d] ∧ 0 ≤ d ∧ d < 1000000007
theorem at4_0 {a b c d : D} : atI [a, b, c, d] 0 = some a := rfl
theorem at4_1 {a b c d : D} : atI [a, b, c, d] 1 = some b := rfl
theorem at4_2 {a b c d : D} : atI [a, b, c, d] 2 = some c := rfl
theorem at4_3 {a b c d : D} : atI [a, b, c, d] 3 = some d := rfl
theorem ix4_0 : ixN 4 0 = some 0 := rfl
theorem ix4_2 : ixN 4 2 = some 2 := rfl
theorem s_pen {i : Int} : Ok (f_law_pen [some (.dat (.int i))]) fun o e => ∃ p, V p ∧ o = .lst p := by
  unfold f_law_pen m_law_pen
  push_cast
  exact ⟨by decide, by decide, _, ⟨_, _, _, _, rfl, by omega, by omega⟩, rfl⟩
theorem s_draw {p : List D} {b : Int} (hp : V p) (h0 : 0 < b) (h1 : b < 1073741824) : Ok (f_law_draw [some (.lst p), some (.dat (.int b))]) fun o e => ∃ x : Nat, (x : Int) < b ∧ o = .dat (.int x) ∧ ∃ p', V p' ∧ e[0]? = some (some (.lst p')) := by
  obtain ⟨a, c, d, f, rfl, h2, h3⟩ := hp
  have hr : ∀ x : Int, ∃ n : Nat, (n : Int) < b ∧ x % b = n := fun x => by
    obtain ⟨n, hn⟩ := Int.eq_ofNat_of_zero_le (Int.emod_nonneg x (show b ≠ 0 by omega))
    exact ⟨n, by rw [← hn]; exact Int.emod_lt_of_pos _ h0, hn⟩
  unfold f_law_draw m_law_draw
  push_cast [at4_0, at4_1, at4_2, at4_3, ix4_0, ix4_2]
  refine ⟨fun hc => ⟨fun ha => ⟨h0, ⟨h0, h1⟩, ?_⟩, fun ha => ?_⟩, fun hc => ?_⟩
  · obtain ⟨n, hn, e⟩ := hr a
    exact ⟨n, hn, by rw [e], _, ⟨_, _, _, _, rfl, h2, h3⟩, rfl⟩
  all_goals
    refine ⟨by (first | decide | omega), by (first | decide | omega), by (first | decide | omega), by (first | decide | omega), by (first | decide | omega), by (first | decide | omega), by (first | decide | omega), by (first | decide | omega), by (first | decide | omega), h0, ?_⟩
    generalize (((f + 17) * (69621 + 2 * (d + 1)) % 2147483647 * ((f + 17) * (69621 + 2 * (d + 1)) % 2147483647) + 40503 * (d + 1) + 5) % 2147483629 * 48271 % 2147483647 / 32) = z
    obtain ⟨n, hn, e⟩ := hr z
    exact ⟨n, hn, by rw [e], _, ⟨_, _, _, _, rfl, h2, h3⟩, rfl⟩
/-! ### spots -/
theorem fT {α : Type} {l : List α} : l.filter (fun _ => true) = l := List.filter_eq_self.mpr fun _ _ => rfl
theorem slZ : sizeLine = 16777216 := rfl
def iD (n : Nat) : D := .int (n : Int)
def sptF (k : Nat) : List Nat → List D
  | [] => []
  | t :: ts => .tuple [iD k] :: (List.range t).map (fun j => .tuple [iD k, iD j]) ++ sptF (k + 1) ts
def spots (ts : List Nat) : List D := .tuple [] :: sptF 0 ts
def enF (k : Nat) (ds : List D) : List D := ds.mapIdx fun i d => .tuple [.int ((k + i : Nat) : Int), d]
theorem enumD_eq {ds : List D} : enumD ds = enF 0 ds := by unfold enumD enF; simp
theorem enF_nil {k : Nat} : enF k [] = [] := rfl
theorem enF_cons {k : Nat} {d : D} {ds : List D} : enF k (d :: ds) = .tuple [iD k, d] :: enF (k + 1) ds := by
  unfold enF iD
  rw [List.mapIdx_cons]
  simp only [Nat.add_zero, List.cons.injEq, true_and]
  congr 1
  funext i d
  rw [show k + 1 + i = k + (i + 1) by omega]
theorem rngD0 {n : Nat} : rngD 0 n = (List.range n).map iD := by
  unfold rngD iD; simp
def TsOk (ts : List Nat) : Prop := 1 ≤ ts.length ∧ ts.length ≤ 3 ∧ ∀ t ∈ ts, 1 ≤ t ∧ t ≤ 3
theorem s_spots {ts : List Nat} (ht : ts.length ≤ 3) (h3 : ∀ t ∈ ts, t ≤ 3) : Ok (f_law_spots [some (.dat (.tuple (ts.map iD)))]) fun o e => o = .lst (spots ts) := by
  unfold f_law_spots m_law_spots
  push_cast
  refine ok_forL (fun rest e => ∃ k us acc x2 x3, rest = enF k (us.map iD) ∧ e = [some (.dat (.tuple (ts.map iD))), some (.lst acc), x2, x3, none] ∧ acc ++ sptF k us = spots ts ∧ acc.length + 4 * us.length ≤ 100 ∧ ∀ t ∈ us, t ≤ 3) ?_ ?_ ?_
  · rintro e ⟨k, us, acc, x2, x3, h1, rfl, h2, h3, h4⟩
    cases us with
    | cons u us => rw [List.map_cons, enF_cons] at h1; cases h1
    | nil =>
      push_cast
      rw [← h2]; simp [sptF]
  · rintro d ds e ⟨k, us, acc, x2, x3, h1, rfl, h2, h3, h4⟩
    cases us with
    | nil => cases h1
    | cons u us =>
      rw [List.map_cons, enF_cons] at h1
      injection h1 with h1 h1'
      subst h1 h1'
      have hu := h4 u (by simp)
      simp only [List.length_cons] at h3
      push_cast [iD]
      refine ⟨by simp [slZ]; omega, by (first | decide | omega), by rw [rngD0]; simp [slZ]; omega, ?_⟩
      refine ok_lcP (fun _ => true) (fun d => .tuple [.int k, d]) rfl ?_ ?_
      · intro d hd
        push_cast
      · push_cast
        rw [rngD0, Int.toNat_natCast]
        have el : (List.map (fun d => PyData.tuple [PyData.int ↑k, d]) (List.filter (fun _ => true) (List.map iD (List.range u)))) = (List.range u).map (fun j => .tuple [iD k, iD j]) := by
          rw [fT]; simp [iD, Function.comp_def]
        rw [el]
        refine ⟨by simp [slZ]; omega, k + 1, us, _, _, _, rfl, rfl, ?_, ?_, fun t ht => h4 t (by simp [ht])⟩
        · rw [← h2]; simp [sptF, iD]
        · simp; omega
  · refine ⟨0, ts, _, none, none, enumD_eq, rfl, rfl, ?_, h3⟩
    simp; omega
/-! ### needs -/
/-- a shrinking list of its own numbers -/
theorem eraseIdx_sub {α : Type} {l : List α} {k : Nat} {x : α} (h : x ∈ l.eraseIdx k) : x ∈ l := List.mem_of_mem_eraseIdx h
theorem idx_in {n k : Nat} (h : k < n) : seqIndex? (k : Int) n = some k := by
  unfold seqIndex?
  simp only [Int.not_lt.mpr (Int.natCast_nonneg k), if_false]
  rw [if_pos (by simp; omega)]
  simp
theorem mem_split {α : Type} {l : List α} {k : Nat} (h : k < l.length) : ∃ x, l[k]? = some x ∧ x ∈ l ∧ (l.eraseIdx k).length + 1 = l.length ∧ (l.Nodup → (l.eraseIdx k).Nodup ∧ x ∉ l.eraseIdx k) := by
  refine ⟨l[k], List.getElem?_eq_getElem h, List.getElem_mem h, ?_, fun nd => ⟨nd.eraseIdx k, ?_⟩⟩
  · rw [List.length_eraseIdx_of_lt h]; omega
  · intro hm
    have := (List.mem_eraseIdx_iff_getElem.mp hm)
    obtain ⟨i, hi, hne, he⟩ := this
    exact hne ((List.getElem_inj nd).mp he)
theorem map_eraseIdx {α β : Type} {f : α → β} : ∀ (l : List α) (k : Nat), (l.map f).eraseIdx k = (l.eraseIdx k).map f
  | [], _ => rfl
  | a :: l, 0 => rfl
  | a :: l, k + 1 => by simp [map_eraseIdx l k]
def NdOk (n : Nat) (ns : List Nat) : Prop := ns.length ≤ 3 ∧ ns.Nodup ∧ ∀ x ∈ ns, x < n
theorem s_needs {p : List D} {n : Nat} (hp : V p) (h0 : 0 < n) (h1 : n ≤ 100) : Ok (f_law_needs [some (.lst p), some (.dat (.int n))]) fun o e => ∃ ns, NdOk n ns ∧ o = .dat (.tuple (ns.map iD)) ∧ ∃ p', V p' ∧ e[0]? = some (some (.lst p')) := by
  unfold f_law_needs m_law_needs
  push_cast
  refine ⟨by (first | decide | omega), ?_⟩
  refine (s_draw hp (by (first | decide | omega)) (by (first | decide | omega))).mono ?_
  rintro _ e ⟨x, hx, rfl, p1, hp1, he⟩
  push_cast [he]
  have hx4 : x < 4 := by omega
  generalize hm : (if (x : Int) < n then (x : Int) else n).toNat = m
  have hm3 : m ≤ 3 ∧ m ≤ n := by subst hm; split <;> omega
  refine ⟨by split <;> constructor <;> (first | decide | omega), by rw [rngD0]; simp [slZ]; omega, ?_⟩
  refine ok_lcL (fun rest acc e => ∃ (p' : List D) (left ns : List Nat), V p' ∧ e = [some (.lst p'), some (.dat (.int n)), some (.lst (left.map iD)), none] ∧ acc = ns.map iD ∧ rest.length ≤ left.length ∧ rest.length + ns.length ≤ 3 ∧ left.Nodup ∧ ns.Nodup ∧ (∀ x ∈ left, x < n) ∧ (∀ x ∈ ns, x < n ∧ x ∉ left) ∧ left.length ≤ n) ?_ ?_ ?_
  · rintro acc e ⟨p', left, ns, hp', rfl, rfl, h1, h2, h3, h4, h5, h6, h7⟩
    push_cast
    exact ⟨ns, ⟨by simpa using h2, h4, fun x hx => (h6 x hx).1⟩, rfl, p', hp', rfl⟩
  · rintro d ds acc e ⟨p', left, ns, hp', rfl, rfl, h1, h2, h3, h4, h5, h6, h7⟩
    simp only [List.length_cons] at h1 h2
    push_cast
    rw [List.length_map]
    refine (s_draw hp' (by omega) (by omega)).mono ?_
    rintro _ e ⟨x, hx, rfl, p1, hp1, he⟩
    obtain ⟨y, e1, y1, y2, y3⟩ := mem_split (l := left) (k := x) (by omega)
    push_cast [he, List.length_map, idx_in (show x < left.length by omega), List.getElem?_map, e1, Option.map_some]
    refine ⟨by (first | decide | omega), p1, left.eraseIdx x, ns ++ [y], hp1, ?_, ?_, ?_, ?_, (y3 h3).1, ?_, fun z hz => h5 z (eraseIdx_sub hz), ?_, by omega⟩
    · rw [map_eraseIdx]
    · simp
    · omega
    · simp; omega
    · rw [List.nodup_append]
      refine ⟨h4, by simp, fun a ha b hb => ?_⟩
      simp at hb
      subst hb
      exact fun e => (h6 a ha).2 (e ▸ y1)
    · intro z hz
      rw [List.mem_append] at hz
      rcases hz with hz | hz
      · exact ⟨(h6 z hz).1, fun h => (h6 z hz).2 (eraseIdx_sub h)⟩
      · simp at hz
        subst hz
        exact ⟨h5 _ y1, (y3 h3).2⟩
  · refine ⟨p1, List.range n, [], hp1, by rw [rngD0]; rfl, rfl, ?_, ?_, List.nodup_range, List.nodup_nil, fun x hx => List.mem_range.mp hx, fun x hx => by simp at hx, by simp⟩
    · rw [rngD0]; simp; exact hm3.2
    · rw [rngD0]; simp; exact hm3.1
/-! ### words -/
theorem at_of {α : Type} {xs : List α} {x : Nat} (h : x < xs.length) : ∃ d, atI xs (x : Int) = some d ∧ d ∈ xs := by
  refine ⟨_, atI_lt (by omega) (by omega), List.getElem_mem _⟩
theorem join_fold : ∀ (cs : List Nat) (acc : Array Nat), List.foldl (fun acc (p : Str) => acc ++ (#[] : Array Nat) ++ p.cps) acc (cs.map fun c => (⟨#[c]⟩ : Str)) = acc ++ cs.toArray
  | [], acc => by simp
  | c :: cs, acc => by
    simp only [List.map_cons, List.foldl_cons]
    rw [join_fold cs]
    simp [Array.append_assoc]
theorem join_chars (cs : List Nat) : Txt.join "" (cs.map fun c => (⟨#[c]⟩ : Str)) = ⟨cs.toArray⟩ := by
  unfold Txt.join PySem.Builtin.Str.glued
  have e0 : ("" : Str).cps = #[] := rfl
  rw [e0]
  cases cs with
  | nil => rfl
  | cons c cs =>
    simp only [List.map_cons, List.headD_cons, List.drop_succ_cons, List.drop_zero]
    rw [join_fold]
    simp
theorem strsD_map : ∀ ws : List Str, strsD (ws.map PyData.str) = some ws
  | [] => rfl
  | w :: ws => by
    show (strsD (ws.map PyData.str)).map (w :: ·) = _
    rw [strsD_map ws]; rfl
theorem sum_ones (cs : List Nat) : ((cs.map fun c => (⟨#[c]⟩ : Str)).map (·.length)).sum = cs.length := by
  induction cs with
  | nil => rfl
  | cons c cs ih =>
    simp only [List.map_cons, List.sum_cons, ih, List.length_cons]
    show 1 + cs.length = _
    omega
def WdOk1 (w : Str) : Prop := ∃ cs : List Nat, w = ⟨cs.toArray⟩ ∧ 1 ≤ cs.length ∧ cs.length ≤ 8 ∧ ∀ c ∈ cs, 97 ≤ c ∧ c ≤ 122
def WdOk (ws : List Str) : Prop := ∃ xs, ws = sortS xs ∧ xs.length ≤ 4 ∧ ∀ w ∈ xs, WdOk1 w
theorem setOf_strs {ws : List Str} (h : ws.length ≤ 100) : ∃ z, setOf (ws.map PyData.str) = some z ∧ sortedS z = (sortS ws).map PyData.str := by
  cases ws with
  | nil => exact ⟨.inl [], rfl, by simp [sortedS, sortI, sortS, dedup]⟩
  | cons w ws =>
    refine ⟨.inr (w :: ws), ?_, rfl⟩
    unfold setOf
    have e : intsD (List.map PyData.str (w :: ws)) = none := rfl
    rw [e, strsD_map]
    simp only
    rw [if_pos]
    simp only [List.length_cons] at h
    show _ < 4096
    simp; omega
theorem abc_at {x : Nat} (h : x < 26) : ∃ c, atI ("abcdefghijklmnopqrstuvwxyz" : Str).cps.toList (x : Int) = some c ∧ 97 ≤ c ∧ c ≤ 122 := by
  have e : ("abcdefghijklmnopqrstuvwxyz" : Str).cps.toList = [97, 98, 99, 100, 101, 102, 103, 104, 105, 106, 107, 108, 109, 110, 111, 112, 113, 114, 115, 116, 117, 118, 119, 120, 121, 122] := by decide +kernel
  rw [e]
  obtain ⟨c, h1, h2⟩ := at_of (xs := [97, 98, 99, 100, 101, 102, 103, 104, 105, 106, 107, 108, 109, 110, 111, 112, 113, 114, 115, 116, 117, 118, 119, 120, 121, 122]) (x := x) (by simpa using h)
  refine ⟨c, h1, ?_⟩
  simp only [List.mem_cons, List.not_mem_nil, or_false] at h2
  omega
theorem gJoin_chars {cs : List Nat} (h : cs.length ≤ 100) : gJoin (Str.ofString "") (.list ((cs.map fun c => (⟨#[c]⟩ : Str)).map PyData.str)) = some (.val (.str ⟨cs.toArray⟩)) := by
  show (match strsD ((cs.map fun c => (⟨#[c]⟩ : Str)).map PyData.str) with
    | some ys => if (ys.map (fun y : Str => y.length)).sum + ys.length * (Str.ofString "").length ≤ 16777216 then some (Out.val (.str (Txt.join (Str.ofString "") ys))) else none
    | none => none) = _
  rw [strsD_map]
  simp only
  rw [sum_ones, show (Str.ofString "").length = 0 from rfl, if_pos (by omega)]
  exact congrArg (fun z => some (Out.val (.str z))) (join_chars cs)
theorem s_words {p : List D} (hp : V p) : Ok (f_law_words [some (.lst p)]) fun o e => ∃ ws, WdOk ws ∧ o = .dat (.tuple (ws.map PyData.str)) ∧ ∃ p', V p' ∧ e[0]? = some (some (.lst p')) := by
  unfold f_law_words m_law_words
  push_cast
  refine (s_draw hp (by (first | decide | omega)) (by (first | decide | omega))).mono ?_
  rintro _ e ⟨x, hx, rfl, p1, hp1, he⟩
  push_cast [he]
  refine ⟨by (first | decide | omega), ?_⟩
  refine ok_forL (fun rest e => ∃ (p' : List D) (ws : List Str) (x2 x3 x4 : Option O), V p' ∧ e = [some (.lst p'), some (.lst (ws.map PyData.str)), x2, x3, x4, none] ∧ rest.length + ws.length ≤ 4 ∧ ∀ w ∈ ws, WdOk1 w) ?_ ?_ ?_
  · rintro e ⟨p', ws, x2, x3, x4, hp', rfl, h1, h2⟩
    simp only [List.length_nil] at h1
    obtain ⟨z, hz1, hz2⟩ := setOf_strs (ws := ws) (by omega)
    push_cast [hz1, hz2]
    exact ⟨_, ⟨ws, rfl, by omega, h2⟩, rfl, p', hp', rfl⟩
  · rintro d ds e ⟨p', ws, x2, x3, x4, hp', rfl, h1, h2⟩
    simp only [List.length_cons] at h1
    push_cast
    refine (s_draw hp' (by (first | decide | omega)) (by (first | decide | omega))).mono ?_
    rintro _ e ⟨x, hx, rfl, p1, hp1, he⟩
    obtain ⟨l, q1, q2⟩ := at_of (xs := [PyData.int 1, .int 1, .int 2, .int 8]) (x := x) (by simp; omega)
    have hl : ∃ n : Nat, l = .int n ∧ 1 ≤ n ∧ n ≤ 8 := by
      simp only [List.mem_cons, List.not_mem_nil, or_false] at q2
      rcases q2 with rfl | rfl | rfl | rfl
      · exact ⟨1, rfl, by omega, by omega⟩
      · exact ⟨1, rfl, by omega, by omega⟩
      · exact ⟨2, rfl, by omega, by omega⟩
      · exact ⟨8, rfl, by omega, by omega⟩
    obtain ⟨n, rfl, hn1, hn8⟩ := hl
    push_cast [he, q1]
    have hm : ∃ m : Nat, atI [PyData.int 4, .int 26] (if decide (1 < (n : Int)) = true then 1 else 0) = some (.int m) ∧ 0 < m ∧ m ≤ 26 := by
      split
      · exact ⟨26, rfl, by omega, by omega⟩
      · exact ⟨4, rfl, by omega, by omega⟩
    obtain ⟨m, q3, hm0, hm1⟩ := hm
    simp only [decide_eq_true_eq] at q3
    push_cast [q3]
    refine ⟨by (first | decide | omega), by rw [rngD0]; simp [slZ]; omega, ?_⟩
    refine ok_lcL (fun rest acc e => ∃ (p' : List D) (cs : List Nat) (x2 : Option O), V p' ∧ e = [some (.lst p'), some (.lst (ws.map PyData.str)), x2, some (.dat (.int n)), some (.dat (.int m)), none] ∧ acc = (cs.map fun c => (⟨#[c]⟩ : Str)).map PyData.str ∧ rest.length + cs.length = n ∧ ∀ c ∈ cs, 97 ≤ c ∧ c ≤ 122) ?_ ?_ ?_
    · rintro acc e ⟨p', cs, x2, hp', rfl, rfl, h3, h4⟩
      simp only [List.length_nil] at h3
      push_cast
      rw [gJoin_chars (by omega)]
      push_cast
      refine ⟨by simp [slZ]; omega, p', ws ++ [⟨cs.toArray⟩], _, _, _, hp', by rw [List.map_append]; rfl, by simp; omega, ?_⟩
      intro w hw
      rw [List.mem_append] at hw
      rcases hw with hw | hw
      · exact h2 w hw
      · simp at hw
        exact ⟨cs, hw, by omega, by omega, h4⟩
    · rintro d ds acc e ⟨p', cs, x2, hp', rfl, rfl, h3, h4⟩
      simp only [List.length_cons] at h3
      push_cast
      refine (s_draw hp' (by omega) (by omega)).mono ?_
      rintro _ e ⟨x, hx, rfl, p1, hp1, he⟩
      obtain ⟨c, q4, q5⟩ := abc_at (x := x) (by omega)
      push_cast [he, q4]
      refine ⟨by (first | decide | omega), p1, cs ++ [c], _, hp1, rfl, by simp, by simp; omega, ?_⟩
      intro c' hc'
      rw [List.mem_append] at hc'
      rcases hc' with hc' | hc'
      · exact h4 c' hc'
      · simp at hc'
        subst hc'
        exact q5
    · exact ⟨p1, [], _, hp1, rfl, rfl, by rw [rngD0]; simp, by simp⟩
  · exact ⟨p1, [], none, none, none, hp1, rfl, by rw [rngD0]; simp; omega, by simp⟩
end Mi

set_option Elab.async false
set_option linter.all false
set_option maxRecDepth 20000
set_option maxHeartbeats 0
namespace Mi
open PySem PySem.Spec L2
local macro_rules
  | `(tactic| push_cast) => `(tactic| simp only [ok_ok, ok_ex, ok_stuck, ok_ret, ok_stk, ok_bnd, ok_ofO, opt_some, opt_none, opt_map, opt_bind, opt_ite, rb_b, ri_i, ro_d, ro_own, ro_pl, ok_mC, ok_bin, ok_isi, ok_tst, ok_and, ok_or, ok_not, ok_andV, ok_orV, ok_notV, ok_mif, ok_nil, ok_cons, ok_frz_d, ok_frz_pl, ok_frzAll_nil, ok_frzAll_cons, ok_tup, ok_lst, ok_no, ok_so, ok_sl, ok_cb, resAll_nil, resAll_cons, ok_call, ok_seq, seqQ_nx, seqQ_rt, seqQ_bk, seqQ_ct, ok_mEx, ok_mRet, ok_ite, ok_set, ok_setK_d, ok_setK_own, ok_setK_pl, ok_runF, runQ_rt, runQ_nx, frz_d, frz_lst, frz_dat, frz_pl, res_d, res_pl, rv_val, rv_tup, rv_lst, orv_dat, orv_lst, ok_neg, ok_lstR, ok_chkL, lstAt, ok_mMet, ok_mMetF, ok_store, ok_mFor, forQ_nx, forQ_ct, forQ_bk, forQ_rt, ok_mLc, ok_mWk, wkOf_str, wkOf_list, wkOf_tuple, wkOf_pl, rsI_i, ok_rng1, ok_rng2, ok_rng3, rsI2_i, rsI3_i, ok_enu, ok_zip, seqOf_list, seqOf_tuple, seqOf_pl, ok_setE, ok_back, rs_s, ok_tx0, ok_tx1, ok_dic1, lst1_l, datAt, ok_sortK, ok_maxK, rd1_d, ok_mTgt, ok_isN, ok_maxD, gExt_l, gExt_t, gIns_0, gClr_0, gSorted_l, mVar, argOs, argO, ioSlots, lentSlots, apart, backEnv, allFlat, O.flat, flat, flats, wipeE, restE, ownFree, srcOk, asgT_nm, asgT_tp, asgTs_nil, asgTs_cons, Option.bind_some, opt_vB, opt_vI, gLt_i, gLe_i, gGt_i, gGe_i, gAdd_i, gAdd_t, gAdd_l, gAdd_s, gSub_i, gMul_i, gFdiv_i, gMod_i, gPow_i, gIx_l, gIx_t, gIx_s, gLen_l, gLen_t, gLen_s, gTuple_l, gTuple_t, gList_l, gList_t, gInt_i, gInt_b, gMax2_i, gMin2_i, gCut_l, gCut_t, gCut_s, gAll_l, gAny_l, gSum_l, gEq_i, gNe_i, gEq_b, gNe_b, gEqE_l, gNeE_l, gEqE_t, gNeE_t, gApp_1, gPopI_1, gStr_i, seqD_l, seqD_t, atI_0, List.cons_append, List.nil_append, List.length_cons, List.length_nil, List.replicate_succ, List.replicate_zero, Nat.reduceAdd, Nat.reduceSub, List.getElem?_cons_succ, List.getElem?_cons_zero, List.set_cons_succ, List.set_cons_zero, List.getElem?_nil, List.contains_cons, List.contains_nil, Bool.or_false, Bool.false_or, Bool.or_true, Bool.true_or, Bool.and_true, Bool.true_and, Bool.and_false, Bool.false_and, Nat.reduceBEq, List.isEmpty_nil, List.isEmpty_cons, Bool.not_true, Bool.not_false, List.all_cons, List.all_nil, List.any_cons, List.any_nil, Option.getD_some, Option.getD_none, decide_eq_true_eq, decide_eq_false_iff_not, Bool.true_eq_false, Bool.false_eq_true, true_implies, false_implies, true_and, and_true, false_and, and_false, implies_true, Bool.not_eq_true', Bool.not_eq_false', if_true, if_false, ite_true, ite_false, reduceCtorEq, forall_const, isi_bool_bool, isi_bool_int, isi_bool_str, isi_bool_list, isi_bool_tuple, isi_bool_none, isi_bool_dict, isi_int_bool, isi_int_int, isi_int_str, isi_int_list, isi_int_tuple, isi_int_none, isi_int_dict, isi_str_bool, isi_str_int, isi_str_str, isi_str_list, isi_str_tuple, isi_str_none, isi_str_dict, isi_list_bool, isi_list_int, isi_list_str, isi_list_list, isi_list_tuple, isi_list_none, isi_list_dict, isi_tuple_bool, isi_tuple_int, isi_tuple_str, isi_tuple_list, isi_tuple_tuple, isi_tuple_none, isi_tuple_dict, isi_dict_bool, isi_dict_int, isi_dict_str, isi_dict_list, isi_dict_tuple, isi_dict_none, isi_dict_dict])
  | `(tactic| push_cast [$ls,*]) => `(tactic| simp only [ok_ok, ok_ex, ok_stuck, ok_ret, ok_stk, ok_bnd, ok_ofO, opt_some, opt_none, opt_map, opt_bind, opt_ite, rb_b, ri_i, ro_d, ro_own, ro_pl, ok_mC, ok_bin, ok_isi, ok_tst, ok_and, ok_or, ok_not, ok_andV, ok_orV, ok_notV, ok_mif, ok_nil, ok_cons, ok_frz_d, ok_frz_pl, ok_frzAll_nil, ok_frzAll_cons, ok_tup, ok_lst, ok_no, ok_so, ok_sl, ok_cb, resAll_nil, resAll_cons, ok_call, ok_seq, seqQ_nx, seqQ_rt, seqQ_bk, seqQ_ct, ok_mEx, ok_mRet, ok_ite, ok_set, ok_setK_d, ok_setK_own, ok_setK_pl, ok_runF, runQ_rt, runQ_nx, frz_d, frz_lst, frz_dat, frz_pl, res_d, res_pl, rv_val, rv_tup, rv_lst, orv_dat, orv_lst, ok_neg, ok_lstR, ok_chkL, lstAt, ok_mMet, ok_mMetF, ok_store, ok_mFor, forQ_nx, forQ_ct, forQ_bk, forQ_rt, ok_mLc, ok_mWk, wkOf_str, wkOf_list, wkOf_tuple, wkOf_pl, rsI_i, ok_rng1, ok_rng2, ok_rng3, rsI2_i, rsI3_i, ok_enu, ok_zip, seqOf_list, seqOf_tuple, seqOf_pl, ok_setE, ok_back, rs_s, ok_tx0, ok_tx1, ok_dic1, lst1_l, datAt, ok_sortK, ok_maxK, rd1_d, ok_mTgt, ok_isN, ok_maxD, gExt_l, gExt_t, gIns_0, gClr_0, gSorted_l, mVar, argOs, argO, ioSlots, lentSlots, apart, backEnv, allFlat, O.flat, flat, flats, wipeE, restE, ownFree, srcOk, asgT_nm, asgT_tp, asgTs_nil, asgTs_cons, Option.bind_some, opt_vB, opt_vI, gLt_i, gLe_i, gGt_i, gGe_i, gAdd_i, gAdd_t, gAdd_l, gAdd_s, gSub_i, gMul_i, gFdiv_i, gMod_i, gPow_i, gIx_l, gIx_t, gIx_s, gLen_l, gLen_t, gLen_s, gTuple_l, gTuple_t, gList_l, gList_t, gInt_i, gInt_b, gMax2_i, gMin2_i, gCut_l, gCut_t, gCut_s, gAll_l, gAny_l, gSum_l, gEq_i, gNe_i, gEq_b, gNe_b, gEqE_l, gNeE_l, gEqE_t, gNeE_t, gApp_1, gPopI_1, gStr_i, seqD_l, seqD_t, atI_0, List.cons_append, List.nil_append, List.length_cons, List.length_nil, List.replicate_succ, List.replicate_zero, Nat.reduceAdd, Nat.reduceSub, List.getElem?_cons_succ, List.getElem?_cons_zero, List.set_cons_succ, List.set_cons_zero, List.getElem?_nil, List.contains_cons, List.contains_nil, Bool.or_false, Bool.false_or, Bool.or_true, Bool.true_or, Bool.and_true, Bool.true_and, Bool.and_false, Bool.false_and, Nat.reduceBEq, List.isEmpty_nil, List.isEmpty_cons, Bool.not_true, Bool.not_false, List.all_cons, List.all_nil, List.any_cons, List.any_nil, Option.getD_some, Option.getD_none, decide_eq_true_eq, decide_eq_false_iff_not, Bool.true_eq_false, Bool.false_eq_true, true_implies, false_implies, true_and, and_true, false_and, and_false, implies_true, Bool.not_eq_true', Bool.not_eq_false', if_true, if_false, ite_true, ite_false, reduceCtorEq, forall_const, isi_bool_bool, isi_bool_int, isi_bool_str, isi_bool_list, isi_bool_tuple, isi_bool_none, isi_bool_dict, isi_int_bool, isi_int_int, isi_int_str, isi_int_list, isi_int_tuple, isi_int_none, isi_int_dict, isi_str_bool, isi_str_int, isi_str_str, isi_str_list, isi_str_tuple, isi_str_none, isi_str_dict, isi_list_bool, isi_list_int, isi_list_str, isi_list_list, isi_list_tuple, isi_list_none, isi_list_dict, isi_tuple_bool, isi_tuple_int, isi_tuple_str, isi_tuple_list, isi_tuple_tuple, isi_tuple_none, isi_tuple_dict, isi_dict_bool, isi_dict_int, isi_dict_str, isi_dict_list, isi_dict_tuple, isi_dict_none, isi_dict_dict, $ls,*])
/-! ### plain data: equal as Python has it is equal -/
mutual
def pln : D → Bool
  | .none => true | .bool _ => false | .int _ => true | .str _ => true
  | .list ds => plns ds
  | .tuple ds => plns ds
  | .dict _ => false
def plns : List D → Bool
  | [] => true
  | d :: ds => pln d && plns ds
end
mutual
theorem eqv_pln : ∀ x y : D, pln x = true → pln y = true → (PyData.eqv x y = true ↔ x = y)
  | x, y, hx, hy => by
    cases x <;> cases y <;> simp only [pln, Bool.false_eq_true] at hx hy <;> simp only [PyData.eqv, reduceCtorEq, Bool.false_eq_true, beq_iff_eq, PyData.int.injEq, PyData.str.injEq, PyData.list.injEq, PyData.tuple.injEq]
    · exact eqvAll_pln _ _ hx hy
    · exact eqvAll_pln _ _ hx hy
theorem eqvAll_pln : ∀ xs ys : List D, plns xs = true → plns ys = true → (PyData.eqvAll xs ys = true ↔ xs = ys)
  | [], [], _, _ => by simp [PyData.eqvAll]
  | [], _ :: _, _, _ => by simp [PyData.eqvAll]
  | _ :: _, [], _, _ => by simp [PyData.eqvAll]
  | x :: xs, y :: ys, hx, hy => by
    simp only [plns, Bool.and_eq_true] at hx hy
    simp only [PyData.eqvAll, Bool.and_eq_true, List.cons.injEq]
    rw [eqv_pln x y hx.1 hy.1, eqvAll_pln xs ys hx.2 hy.2]
end
theorem eqv_dec {x y : D} (hx : pln x = true) (hy : pln y = true) {p : Prop} [Decidable p] (h : x = y ↔ p) : PyData.eqv x y = decide p := by
  rw [Bool.eq_iff_iff, decide_eq_true_eq, eqv_pln x y hx hy, h]
theorem plns_all {ds : List D} (h : ∀ d ∈ ds, pln d = true) : plns ds = true := by
  induction ds with
  | nil => rfl
  | cons d ds ih => simp only [plns, Bool.and_eq_true]; exact ⟨h d (by simp), ih fun x hx => h x (by simp [hx])⟩
theorem okds_all {n : Nat} {ds : List D} (h : ∀ d ∈ ds, okd d n = true) : okds ds n = true := by
  induction ds with
  | nil => rfl
  | cons d ds ih => simp only [okds, Bool.and_eq_true]; exact ⟨h d (by simp), ih fun x hx => h x (by simp [hx])⟩
theorem iD_inj {a b : Nat} : iD a = iD b ↔ a = b := by unfold iD; simp only [PyData.int.injEq]; omega
def tD (l : List Nat) : D := .tuple (l.map iD)
theorem tD_inj {a b : List Nat} : tD a = tD b ↔ a = b := by
  unfold tD
  constructor
  · intro h
    injection h with h
    exact (List.map_inj_right (fun _ _ => iD_inj.mp)).mp h
  · rintro rfl; rfl
theorem pln_iD {a : Nat} : pln (iD a) = true := rfl
theorem pln_tD {l : List Nat} : pln (tD l) = true := plns_all fun d hd => by
  obtain ⟨x, _, rfl⟩ := List.mem_map.mp hd
  rfl
theorem okd_iD {a n : Nat} : okd (iD a) n = true := rfl
theorem okd_tD {l : List Nat} {n : Nat} : okd (tD l) (n + 1) = true := by
  show okds _ n = true
  exact okds_all fun d hd => by
    obtain ⟨x, _, rfl⟩ := List.mem_map.mp hd
    rfl
/-! ### spots as lists of numbers -/
def spLF (k : Nat) : List Nat → List (List Nat)
  | [] => []
  | t :: ts => [k] :: (List.range t).map (fun j => [k, j]) ++ spLF (k + 1) ts
def spL (ts : List Nat) : List (List Nat) := [] :: spLF 0 ts
theorem sptF_eq : ∀ (ts : List Nat) (k : Nat), sptF k ts = (spLF k ts).map tD
  | [], _ => rfl
  | t :: ts, k => by simp [sptF, spLF, sptF_eq ts, tD]
theorem spots_eq (ts : List Nat) : spots ts = (spL ts).map tD := by simp [spots, spL, sptF_eq, tD]
theorem mem_spLF : ∀ (ts : List Nat) (k : Nat) (s : List Nat), s ∈ spLF k ts ↔ (∃ i, i < ts.length ∧ s = [k + i]) ∨ ∃ i j, ∃ h : i < ts.length, j < ts[i] ∧ s = [k + i, j]
  | [], k, s => by simp [spLF]
  | t :: ts, k, s => by
    simp only [spLF, List.mem_append, List.mem_cons, List.mem_map, List.mem_range, mem_spLF ts (k + 1) s, List.length_cons]
    constructor
    · rintro ((rfl | ⟨j, hj, rfl⟩) | ⟨i, hi, rfl⟩ | ⟨i, j, hi, hj, rfl⟩)
      · exact .inl ⟨0, by omega, rfl⟩
      · exact .inr ⟨0, j, by omega, hj, rfl⟩
      · exact .inl ⟨i + 1, by omega, by rw [show k + 1 + i = k + (i + 1) by omega]⟩
      · exact .inr ⟨i + 1, j, by omega, hj, by rw [show k + 1 + i = k + (i + 1) by omega]⟩
    · rintro (⟨i, hi, rfl⟩ | ⟨i, j, hi, hj, rfl⟩)
      · cases i with
        | zero => exact .inl (.inl rfl)
        | succ i => exact .inr (.inl ⟨i, by omega, by rw [show k + 1 + i = k + (i + 1) by omega]⟩)
      · cases i with
        | zero => exact .inl (.inr ⟨j, hj, rfl⟩)
        | succ i => exact .inr (.inr ⟨i, j, by omega, hj, by rw [show k + 1 + i = k + (i + 1) by omega]⟩)
theorem mem_spL {ts : List Nat} {s : List Nat} : s ∈ spL ts ↔ s = [] ∨ (∃ i, i < ts.length ∧ s = [i]) ∨ ∃ i j, ∃ h : i < ts.length, j < ts[i] ∧ s = [i, j] := by
  simp only [spL, List.mem_cons, mem_spLF, Nat.zero_add]
theorem spLF_len : ∀ (ts : List Nat) (k : Nat), (∀ t ∈ ts, t ≤ 3) → (spLF k ts).length ≤ 4 * ts.length
  | [], _, _ => by simp [spLF]
  | t :: ts, k, h => by
    have := spLF_len ts (k + 1) fun x hx => h x (by simp [hx])
    have := h t (by simp)
    simp [spLF]; omega
theorem spL_len {ts : List Nat} (h : TsOk ts) : 1 ≤ (spL ts).length ∧ (spL ts).length ≤ 13 := by
  have := spLF_len ts 0 fun x hx => (h.2.2 x hx).2
  have := h.2.1
  simp [spL]; omega
/-! ### houses -/
structure Rc where
  nm : Nat
  sp : List Nat
  ap : Nat
  kp : Nat
  nd : List Nat
structure Ta where
  ev : Nat
  tb : Nat
  nd : List Nat
  wd : List Str
structure Ho where
  ts : List Nat
  rs : List Rc
  tas : List Ta
def Rc.d (r : Rc) : D := .tuple [iD r.nm, tD r.sp, iD r.ap, iD r.kp, tD r.nd]
def Ta.d (t : Ta) : D := .tuple [tD [t.ev, t.tb], tD t.nd, .tuple (t.wd.map PyData.str)]
def Ho.d (h : Ho) : D := .tuple [tD h.ts, .tuple (h.rs.map Rc.d), .tuple (h.tas.map Ta.d)]
def RcOk (ts : List Nat) (n : Nat) (r : Rc) : Prop := r.nm < n ∧ r.sp ∈ spL ts ∧ r.ap < 4 ∧ 1 ≤ r.kp ∧ r.kp ≤ 3 ∧ NdOk n r.nd
def TaOk (ts : List Nat) (n : Nat) (t : Ta) : Prop := (∃ h : t.ev < ts.length, t.tb < ts[t.ev]) ∧ NdOk n t.nd ∧ WdOk t.wd
def HoOk (n : Nat) (h : Ho) : Prop := (1 ≤ n ∧ n ≤ 8) ∧ TsOk h.ts ∧ h.rs.length ≤ 8 ∧ (∀ r ∈ h.rs, RcOk h.ts n r) ∧ h.rs.Pairwise (fun a b => ¬(a.nm = b.nm ∧ a.sp = b.sp)) ∧ h.tas.length ≤ 6 ∧ ∀ t ∈ h.tas, TaOk h.ts n t
theorem cut2 {a b c d e : D} : cutL [a, b, c, d, e] none (some 2) = [a, b] := rfl
mutual
/-- dicts are the empty one -/
def emD : D → Bool
  | .none => true | .bool _ => true | .int _ => true | .str _ => true
  | .list ds => emDs ds
  | .tuple ds => emDs ds
  | .dict a => a.isEmpty
def emDs : List D → Bool
  | [] => true
  | d :: ds => emD d && emDs ds
end
mutual
theorem emD_of : ∀ d : D, noD d = true → emD d = true
  | d, h => by
    cases d <;> simp only [noD, Bool.false_eq_true] at h <;> simp only [emD]
    · exact emDs_of _ h
    · exact emDs_of _ h
theorem emDs_of : ∀ ds : List D, noDs ds = true → emDs ds = true
  | [], _ => rfl
  | d :: ds, h => by
    simp only [noDs, Bool.and_eq_true] at h
    simp only [emDs, emD_of d h.1, emDs_of ds h.2, Bool.and_self]
end
mutual
theorem eqD_refl : ∀ d : D, emD d = true → eqD d d = true
  | d, h => by
    cases d <;> simp only [emD] at h <;> simp only [eqD, beq_self_eq_true, decide_true, Bool.and_self]
    · exact eqDs_refl _ h
    · exact eqDs_refl _ h
    · rw [h]
theorem eqDs_refl : ∀ ds : List D, emDs ds = true → eqDs ds ds = true
  | [], _ => rfl
  | d :: ds, h => by
    simp only [emDs, Bool.and_eq_true] at h
    simp only [eqDs, eqD_refl d h.1, eqDs_refl ds h.2, Bool.and_self]
end
theorem noDs_all {ds : List D} (h : ∀ d ∈ ds, noD d = true) : noDs ds = true := by
  induction ds with
  | nil => rfl
  | cons d ds ih => simp only [noDs, Bool.and_eq_true]; exact ⟨h d (by simp), ih fun x hx => h x (by simp [hx])⟩
theorem noD_iD {n : Nat} : noD (iD n) = true := rfl
theorem noD_tD {l : List Nat} : noD (tD l) = true := by
  show noDs _ = true
  refine noDs_all fun d hd => ?_
  obtain ⟨x, _, rfl⟩ := List.mem_map.mp hd
  rfl
theorem noD_rc {r : Rc} : noD r.d = true := by
  unfold Rc.d
  simp only [noD, noDs, noD_iD, noD_tD, Bool.and_self]
theorem noDs_map {α : Type} {f : α → D} {l : List α} (h : ∀ x, noD (f x) = true) : noDs (l.map f) = true := noDs_all fun d hd => by
  obtain ⟨x, _, rfl⟩ := List.mem_map.mp hd
  exact h x
theorem srcOk_at {e : Env} {j : Nat} {ds : List D} (h : e[j]? = some (some (.lst ds))) (hn : emDs ds = true) : srcOk e (some (j, ds)) = true := by
  unfold srcOk
  simp only [h]
  exact eqDs_refl ds hn
def k2 (r : Rc) : D := .tuple [iD r.nm, tD r.sp]
theorem k2_inj {a b : Rc} : k2 a = k2 b ↔ a.nm = b.nm ∧ a.sp = b.sp := by
  unfold k2
  simp only [PyData.tuple.injEq, List.cons.injEq, and_true, iD_inj, tD_inj]
theorem pln_k2 {r : Rc} : pln (k2 r) = true := by
  unfold k2
  simp only [pln, plns, pln_iD, pln_tD, Bool.and_self]
theorem gNotIn_k2 {r : Rc} {rs : List Rc} : gNotIn (k2 r) (.list (rs.map k2)) = vB (decide (∀ x ∈ rs, ¬(x.nm = r.nm ∧ x.sp = r.sp))) := by
  have ok : ∀ x : Rc, ∀ n, okd (k2 x) (n + 2) = true := fun x n => by
    unfold k2
    show okds _ (n + 1) = true
    simp only [okds, okd_iD, okd_tD, Bool.and_self]
  unfold gNotIn gInX
  have hall : okd (.list (rs.map k2)) 60 = true := by
    show okds _ 59 = true
    refine okds_all fun d hd => ?_
    obtain ⟨x, _, rfl⟩ := List.mem_map.mp hd
    exact ok x 57
  rw [if_pos ⟨ok r 58, hall⟩]
  simp only
  congr 1
  rw [Bool.eq_iff_iff, decide_eq_true_eq]
  unfold hasD
  simp only [Bool.true_xor, Bool.not_eq_true', List.any_eq_false, List.mem_map, forall_exists_index, and_imp, forall_apply_eq_imp_iff₂, eqv_pln _ _ pln_k2 pln_k2, k2_inj]
theorem s_raw {p : List D} (hp : V p) : Ok (f_law_raw [some (.lst p)]) fun o e => ∃ n h, HoOk n h ∧ o = .dat h.d ∧ ∃ p', V p' ∧ e[0]? = some (some (.lst p')) := by
  unfold f_law_raw m_law_raw
  push_cast
  refine (s_draw hp (by (first | decide | omega)) (by (first | decide | omega))).mono ?_
  rintro _ e ⟨x, hx, rfl, p1, hp1, he⟩
  push_cast [he]
  refine ⟨by (first | decide | omega), by rw [rngD0]; simp [slZ]; omega, ?_⟩
  refine ok_lcL (fun rest acc e => ∃ (p' : List D) (ts : List Nat), V p' ∧ e = some (.lst p') :: List.replicate 9 none ∧ acc = ts.map iD ∧ rest.length + ts.length = x + 1 ∧ ∀ t ∈ ts, 1 ≤ t ∧ t ≤ 3) ?_ ?_ ?_
  · rintro acc e ⟨p', ts, hp', rfl, rfl, h1, h2⟩
    simp only [List.length_nil] at h1
    have hts : TsOk ts := ⟨by omega, by omega, h2⟩
    push_cast
    refine (s_spots (ts := ts) (by omega) fun t ht => (h2 t ht).2).mono ?_
    rintro _ e rfl
    push_cast
    refine (s_draw hp' (by (first | decide | omega)) (by (first | decide | omega))).mono ?_
    rintro _ e ⟨x, hx, rfl, p1, hp1, he⟩
    obtain ⟨l, q1, q2⟩ := at_of (xs := [PyData.int 2, .int 4, .int 8]) (x := x) (by simp; omega)
    have hl : ∃ n : Nat, l = .int n ∧ 1 ≤ n ∧ n ≤ 8 := by
      simp only [List.mem_cons, List.not_mem_nil, or_false] at q2
      rcases q2 with rfl | rfl | rfl
      · exact ⟨2, rfl, by omega, by omega⟩
      · exact ⟨4, rfl, by omega, by omega⟩
      · exact ⟨8, rfl, by omega, by omega⟩
    obtain ⟨n, rfl, hn1, hn8⟩ := hl
    push_cast [he, q1]
    refine (s_draw hp1 (by (first | decide | omega)) (by (first | decide | omega))).mono ?_
    rintro _ e ⟨x, hx, rfl, p1, hp1, he⟩
    push_cast [he]
    refine ⟨by (first | decide | omega), ?_⟩
    refine ok_forL (fun rest e => ∃ (p' : List D) (rs : List Rc) (x2 x6 : Option O), V p' ∧ e = [some (.lst p'), some (.dat (.tuple (ts.map iD))), x2, some (.lst (spots ts)), some (.dat (.int n)), some (.lst (rs.map Rc.d)), x6, none, none, none] ∧ rest.length + rs.length ≤ 8 ∧ (∀ r ∈ rs, RcOk ts n r) ∧ rs.Pairwise (fun a b => ¬(a.nm = b.nm ∧ a.sp = b.sp))) ?_ ?_ ?_
    · rintro e ⟨p', rs, x2, x6, hp', rfl, h3, h4, h5⟩
      simp only [List.length_nil] at h3
      push_cast
      refine (s_draw hp' (by (first | decide | omega)) (by (first | decide | omega))).mono ?_
      rintro _ e ⟨x, hx, rfl, p1, hp1, he⟩
      push_cast [he]
      refine ⟨by (first | decide | omega), ?_⟩
      refine ok_forL (fun rest e => ∃ (p' : List D) (tas : List Ta) (x2 x6 x9 : Option O), V p' ∧ e = [some (.lst p'), some (.dat (.tuple (ts.map iD))), x2, some (.lst (spots ts)), some (.dat (.int n)), some (.lst (rs.map Rc.d)), x6, none, some (.lst (tas.map Ta.d)), x9] ∧ rest.length + tas.length ≤ 6 ∧ ∀ r ∈ tas, TaOk ts n r) ?_ ?_ ?_
      · rintro e ⟨p', tas, x2, x6, x9, hp', rfl, h6, h7⟩
        simp only [List.length_nil] at h6
        push_cast
        exact ⟨n, ⟨ts, rs, tas⟩, ⟨⟨hn1, hn8⟩, hts, by simpa using h3, h4, h5, by simpa using h6, h7⟩, rfl, p', hp', rfl⟩
      · rintro d ds e ⟨p', tas, x2, x6, x9, hp', rfl, h6, h7⟩
        simp only [List.length_cons] at h6
        have h1' : 1 ≤ ts.length := hts.1
        have h1'' : ts.length ≤ 3 := hts.2.1
        push_cast [List.length_map]
        refine (s_draw hp' (by omega) (by omega)).mono ?_
        rintro _ e ⟨ev, hev, rfl, p1, hp1, he⟩
        obtain ⟨hevl, q2⟩ : ∃ h : ev < ts.length, atI (ts.map iD) (ev : Int) = some (.int ts[ev]) := ⟨by omega, by
          rw [atI_lt (by omega) (by simpa using hev)]
          simp [iD]⟩
        have ht := h2 ts[ev] (List.getElem_mem _)
        push_cast [he, q2]
        refine (s_draw hp1 (by omega) (by omega)).mono ?_
        rintro _ e ⟨tb, htb, rfl, p1, hp1, he⟩
        push_cast [he]
        refine (s_needs hp1 (by omega) (by omega)).mono ?_
        rintro _ e ⟨nd, hnd, rfl, p1, hp1, he⟩
        push_cast [he]
        refine (s_words hp1).mono ?_
        rintro _ e ⟨wd, hwd, rfl, p1, hp1, he⟩
        push_cast [he]
        refine ⟨by simp [slZ]; omega, p1, tas ++ [⟨ev, tb, nd, wd⟩], _, _, _, hp1, by rw [List.map_append]; rfl, by simp; omega, ?_⟩
        intro t ht
        rw [List.mem_append] at ht
        rcases ht with ht | ht
        · exact h7 t ht
        · simp at ht
          subst ht
          exact ⟨⟨hevl, by simpa using htb⟩, hnd, hwd⟩
      · exact ⟨p1, [], _, _, none, hp1, rfl, by rw [rngD0]; simp; omega, by simp⟩
    · rintro d ds e ⟨p', rs, x2, x6, hp', rfl, h3, h4, h5⟩
      simp only [List.length_cons] at h3
      push_cast
      refine (s_draw hp' (by (first | decide | omega)) (by (first | decide | omega))).mono ?_
      rintro _ e ⟨nm, hnm, rfl, p1, hp1, he⟩
      have hl := spL_len hts
      push_cast [he, spots_eq, List.length_map]
      refine (s_draw hp1 (by omega) (by omega)).mono ?_
      rintro _ e ⟨x, hx, rfl, p1, hp1, he⟩
      obtain ⟨_, q1, q2⟩ := at_of (xs := (spL ts).map tD) (x := x) (by simp; omega)
      obtain ⟨sp, hsp, rfl⟩ := List.mem_map.mp q2
      push_cast [he, q1]
      refine (s_draw hp1 (by omega) (by omega)).mono ?_
      rintro _ e ⟨ap, hap, rfl, p1, hp1, he⟩
      push_cast [he]
      refine (s_draw hp1 (by omega) (by omega)).mono ?_
      rintro _ e ⟨kp, hkp, rfl, p1, hp1, he⟩
      push_cast [he]
      refine (s_needs hp1 (by omega) (by omega)).mono ?_
      rintro _ e ⟨nd, hnd, rfl, p1, hp1, he⟩
      push_cast [he]
      have hrc : RcOk ts n ⟨nm, sp, ap, kp + 1, nd⟩ := ⟨by simpa using hnm, hsp, by simp; omega, by simp, by simp; omega, hnd⟩
      refine ⟨by decide, by simp [slZ]; omega, ?_⟩
      refine ok_lcP (fun _ => true) (fun d => match d with | .tuple ds => .tuple (cutL ds none (some 2)) | d => d) (srcOk_at rfl (emDs_of _ (noDs_map fun _ => noD_rc))) ?_ ?_
      · intro d hd
        obtain ⟨r, _, rfl⟩ := List.mem_map.mp hd
        unfold Rc.d
        push_cast
      · have e1 : List.map (fun d => match d with | .tuple ds => PyData.tuple (cutL ds none (some 2)) | d => d) (List.filter (fun _ => true) (List.map Rc.d rs)) = rs.map k2 := by
          rw [fT, List.map_map]; rfl
        rw [e1, cut2]
        have e2 : (PyData.tuple [PyData.int ↑nm, tD sp]) = k2 ⟨nm, sp, ap, kp + 1, nd⟩ := rfl
        rw [e2, gNotIn_k2]
        push_cast [List.length_map]
        refine ⟨fun hb => ⟨by simp [slZ]; omega, p1, rs ++ [⟨nm, sp, ap, kp + 1, nd⟩], some (.dat d), some (.dat (Rc.d ⟨nm, sp, ap, kp + 1, nd⟩)), hp1, ?_, by simp; omega, ?_, ?_⟩, fun _ => ⟨p1, rs, _, _, hp1, rfl, by omega, h4, h5⟩⟩
        · rw [List.map_append]
          simp [Rc.d, iD, tD, Int.add_comm]
        · intro r hr
          rw [List.mem_append] at hr
          rcases hr with hr | hr
          · exact h4 r hr
          · simp at hr
            subst hr
            exact hrc
        · rw [List.pairwise_append]
          refine ⟨h5, by simp, fun a ha b hb' => ?_⟩
          simp at hb'
          subst hb'
          exact hb a ha
    · refine ⟨p1, [], none, none, hp1, rfl, by rw [rngD0]; simp; omega, by simp, by simp⟩
  · rintro d ds acc e ⟨p', ts, hp', rfl, rfl, h1, h2⟩
    simp only [List.length_cons] at h1
    push_cast
    refine (s_draw hp' (by (first | decide | omega)) (by (first | decide | omega))).mono ?_
    rintro _ e ⟨x, hx, rfl, p1, hp1, he⟩
    push_cast [he]
    refine ⟨p1, ts ++ [x + 1], hp1, rfl, ?_, by simp; omega, ?_⟩
    · simp [iD, Int.add_comm]
    · intro t ht
      rw [List.mem_append] at ht
      rcases ht with ht | ht
      · exact h2 t ht
      · simp at ht; omega
  · refine ⟨p1, [], hp1, rfl, rfl, by rw [rngD0]; simp; omega, by simp⟩
end Mi

set_option Elab.async false
set_option linter.all false
set_option maxRecDepth 40000
set_option maxHeartbeats 0
namespace Mi
open PySem PySem.Spec L2
local macro_rules
  | `(tactic| push_cast) => `(tactic| simp only [ok_ok, ok_ex, ok_stuck, ok_ret, ok_stk, ok_bnd, ok_ofO, opt_some, opt_none, opt_map, opt_bind, opt_ite, rb_b, ri_i, ro_d, ro_own, ro_pl, ok_mC, ok_bin, ok_isi, ok_tst, ok_and, ok_or, ok_not, ok_andV, ok_orV, ok_notV, ok_mif, ok_nil, ok_cons, ok_frz_d, ok_frz_pl, ok_frzAll_nil, ok_frzAll_cons, ok_tup, ok_lst, ok_no, ok_so, ok_sl, ok_cb, resAll_nil, resAll_cons, ok_call, ok_seq, seqQ_nx, seqQ_rt, seqQ_bk, seqQ_ct, ok_mEx, ok_mRet, ok_ite, ok_set, ok_setK_d, ok_setK_own, ok_setK_pl, ok_runF, runQ_rt, runQ_nx, frz_d, frz_lst, frz_dat, frz_pl, res_d, res_pl, rv_val, rv_tup, rv_lst, orv_dat, orv_lst, ok_neg, ok_lstR, ok_chkL, lstAt, ok_mMet, ok_mMetF, ok_store, ok_mFor, forQ_nx, forQ_ct, forQ_bk, forQ_rt, ok_mLc, ok_mWk, wkOf_str, wkOf_list, wkOf_tuple, wkOf_pl, rsI_i, ok_rng1, ok_rng2, ok_rng3, rsI2_i, rsI3_i, ok_enu, ok_zip, seqOf_list, seqOf_tuple, seqOf_pl, ok_setE, ok_back, rs_s, ok_tx0, ok_tx1, ok_dic1, lst1_l, datAt, ok_sortK, ok_maxK, rd1_d, ok_mTgt, ok_isN, ok_maxD, gExt_l, gExt_t, gIns_0, gClr_0, gSorted_l, mVar, argOs, argO, ioSlots, lentSlots, apart, backEnv, allFlat, O.flat, flat, flats, wipeE, restE, ownFree, srcOk, asgT_nm, asgT_tp, asgTs_nil, asgTs_cons, Option.bind_some, opt_vB, opt_vI, gLt_i, gLe_i, gGt_i, gGe_i, gAdd_i, gAdd_t, gAdd_l, gAdd_s, gSub_i, gMul_i, gFdiv_i, gMod_i, gPow_i, gIx_l, gIx_t, gIx_s, gLen_l, gLen_t, gLen_s, gTuple_l, gTuple_t, gList_l, gList_t, gInt_i, gInt_b, gMax2_i, gMin2_i, gCut_l, gCut_t, gCut_s, gAll_l, gAny_l, gSum_l, gEq_i, gNe_i, gEq_b, gNe_b, gEqE_l, gNeE_l, gEqE_t, gNeE_t, gApp_1, gPopI_1, gStr_i, seqD_l, seqD_t, atI_0, List.cons_append, List.nil_append, List.length_cons, List.length_nil, List.replicate_succ, List.replicate_zero, Nat.reduceAdd, Nat.reduceSub, List.getElem?_cons_succ, List.getElem?_cons_zero, List.set_cons_succ, List.set_cons_zero, List.getElem?_nil, List.contains_cons, List.contains_nil, Bool.or_false, Bool.false_or, Bool.or_true, Bool.true_or, Bool.and_true, Bool.true_and, Bool.and_false, Bool.false_and, Nat.reduceBEq, List.isEmpty_nil, List.isEmpty_cons, Bool.not_true, Bool.not_false, List.all_cons, List.all_nil, List.any_cons, List.any_nil, Option.getD_some, Option.getD_none, decide_eq_true_eq, decide_eq_false_iff_not, Bool.true_eq_false, Bool.false_eq_true, true_implies, false_implies, true_and, and_true, false_and, and_false, implies_true, Bool.not_eq_true', Bool.not_eq_false', if_true, if_false, ite_true, ite_false, reduceCtorEq, forall_const, isi_bool_bool, isi_bool_int, isi_bool_str, isi_bool_list, isi_bool_tuple, isi_bool_none, isi_bool_dict, isi_int_bool, isi_int_int, isi_int_str, isi_int_list, isi_int_tuple, isi_int_none, isi_int_dict, isi_str_bool, isi_str_int, isi_str_str, isi_str_list, isi_str_tuple, isi_str_none, isi_str_dict, isi_list_bool, isi_list_int, isi_list_str, isi_list_list, isi_list_tuple, isi_list_none, isi_list_dict, isi_tuple_bool, isi_tuple_int, isi_tuple_str, isi_tuple_list, isi_tuple_tuple, isi_tuple_none, isi_tuple_dict, isi_dict_bool, isi_dict_int, isi_dict_str, isi_dict_list, isi_dict_tuple, isi_dict_none, isi_dict_dict])
  | `(tactic| push_cast [$ls,*]) => `(tactic| simp only [ok_ok, ok_ex, ok_stuck, ok_ret, ok_stk, ok_bnd, ok_ofO, opt_some, opt_none, opt_map, opt_bind, opt_ite, rb_b, ri_i, ro_d, ro_own, ro_pl, ok_mC, ok_bin, ok_isi, ok_tst, ok_and, ok_or, ok_not, ok_andV, ok_orV, ok_notV, ok_mif, ok_nil, ok_cons, ok_frz_d, ok_frz_pl, ok_frzAll_nil, ok_frzAll_cons, ok_tup, ok_lst, ok_no, ok_so, ok_sl, ok_cb, resAll_nil, resAll_cons, ok_call, ok_seq, seqQ_nx, seqQ_rt, seqQ_bk, seqQ_ct, ok_mEx, ok_mRet, ok_ite, ok_set, ok_setK_d, ok_setK_own, ok_setK_pl, ok_runF, runQ_rt, runQ_nx, frz_d, frz_lst, frz_dat, frz_pl, res_d, res_pl, rv_val, rv_tup, rv_lst, orv_dat, orv_lst, ok_neg, ok_lstR, ok_chkL, lstAt, ok_mMet, ok_mMetF, ok_store, ok_mFor, forQ_nx, forQ_ct, forQ_bk, forQ_rt, ok_mLc, ok_mWk, wkOf_str, wkOf_list, wkOf_tuple, wkOf_pl, rsI_i, ok_rng1, ok_rng2, ok_rng3, rsI2_i, rsI3_i, ok_enu, ok_zip, seqOf_list, seqOf_tuple, seqOf_pl, ok_setE, ok_back, rs_s, ok_tx0, ok_tx1, ok_dic1, lst1_l, datAt, ok_sortK, ok_maxK, rd1_d, ok_mTgt, ok_isN, ok_maxD, gExt_l, gExt_t, gIns_0, gClr_0, gSorted_l, mVar, argOs, argO, ioSlots, lentSlots, apart, backEnv, allFlat, O.flat, flat, flats, wipeE, restE, ownFree, srcOk, asgT_nm, asgT_tp, asgTs_nil, asgTs_cons, Option.bind_some, opt_vB, opt_vI, gLt_i, gLe_i, gGt_i, gGe_i, gAdd_i, gAdd_t, gAdd_l, gAdd_s, gSub_i, gMul_i, gFdiv_i, gMod_i, gPow_i, gIx_l, gIx_t, gIx_s, gLen_l, gLen_t, gLen_s, gTuple_l, gTuple_t, gList_l, gList_t, gInt_i, gInt_b, gMax2_i, gMin2_i, gCut_l, gCut_t, gCut_s, gAll_l, gAny_l, gSum_l, gEq_i, gNe_i, gEq_b, gNe_b, gEqE_l, gNeE_l, gEqE_t, gNeE_t, gApp_1, gPopI_1, gStr_i, seqD_l, seqD_t, atI_0, List.cons_append, List.nil_append, List.length_cons, List.length_nil, List.replicate_succ, List.replicate_zero, Nat.reduceAdd, Nat.reduceSub, List.getElem?_cons_succ, List.getElem?_cons_zero, List.set_cons_succ, List.set_cons_zero, List.getElem?_nil, List.contains_cons, List.contains_nil, Bool.or_false, Bool.false_or, Bool.or_true, Bool.true_or, Bool.and_true, Bool.true_and, Bool.and_false, Bool.false_and, Nat.reduceBEq, List.isEmpty_nil, List.isEmpty_cons, Bool.not_true, Bool.not_false, List.all_cons, List.all_nil, List.any_cons, List.any_nil, Option.getD_some, Option.getD_none, decide_eq_true_eq, decide_eq_false_iff_not, Bool.true_eq_false, Bool.false_eq_true, true_implies, false_implies, true_and, and_true, false_and, and_false, implies_true, Bool.not_eq_true', Bool.not_eq_false', if_true, if_false, ite_true, ite_false, reduceCtorEq, forall_const, isi_bool_bool, isi_bool_int, isi_bool_str, isi_bool_list, isi_bool_tuple, isi_bool_none, isi_bool_dict, isi_int_bool, isi_int_int, isi_int_str, isi_int_list, isi_int_tuple, isi_int_none, isi_int_dict, isi_str_bool, isi_str_int, isi_str_str, isi_str_list, isi_str_tuple, isi_str_none, isi_str_dict, isi_list_bool, isi_list_int, isi_list_str, isi_list_list, isi_list_tuple, isi_list_none, isi_list_dict, isi_tuple_bool, isi_tuple_int, isi_tuple_str, isi_tuple_list, isi_tuple_tuple, isi_tuple_none, isi_tuple_dict, isi_dict_bool, isi_dict_int, isi_dict_str, isi_dict_list, isi_dict_tuple, isi_dict_none, isi_dict_dict, $ls,*])
/-! ### anything -/
theorem emDs_all {ds : List D} (h : ∀ d ∈ ds, emD d = true) : emDs ds = true := by
  induction ds with
  | nil => rfl
  | cons d ds ih => simp only [emDs, Bool.and_eq_true]; exact ⟨h d (by simp), ih fun x hx => h x (by simp [hx])⟩
theorem emDs_app {xs ys : List D} (h : emDs xs = true) (h2 : emDs ys = true) : emDs (xs ++ ys) = true := by
  induction xs with
  | nil => exact h2
  | cons d ds ih => simp only [emDs, Bool.and_eq_true, List.cons_append] at h ⊢; exact ⟨h.1, ih h.2⟩
def isTpl : O → Bool
  | .tpl _ => true
  | .dct _ => true
  | _ => false
mutual
/-- small things; dicts are the empty one -/
def ezD : D → Bool
  | .none => true | .bool _ => true | .int _ => true | .str z => decide (z.length ≤ 4000)
  | .list ds => decide (ds.length ≤ 4000) && ezDs ds
  | .tuple ds => decide (ds.length ≤ 4000) && ezDs ds
  | .dict [] => true
  | .dict (_ :: _) => false
def ezDs : List D → Bool
  | [] => true
  | d :: ds => ezD d && ezDs ds
end
theorem ezDs_all {ds : List D} (h : ∀ d ∈ ds, ezD d = true) : ezDs ds = true := by
  induction ds with
  | nil => rfl
  | cons d ds ih => simp only [ezDs, Bool.and_eq_true]; exact ⟨h d (by simp), ih fun x hx => h x (by simp [hx])⟩
theorem ezDs_mem {ds : List D} (h : ezDs ds = true) {d : D} (hd : d ∈ ds) : ezD d = true := by
  induction ds with
  | nil => cases hd
  | cons x ds ih =>
    simp only [ezDs, Bool.and_eq_true] at h
    rcases List.mem_cons.mp hd with rfl | hd
    · exact h.1
    · exact ih h.2 hd
theorem ezDs_app {xs ys : List D} (h : ezDs xs = true) (h2 : ezDs ys = true) : ezDs (xs ++ ys) = true := ezDs_all fun d hd => by
  rcases List.mem_append.mp hd with hd | hd
  · exact ezDs_mem h hd
  · exact ezDs_mem h2 hd
theorem ez_tup {ds : List D} (h : ezDs ds = true) (hl : ds.length ≤ 4000) : ezD (.tuple ds) = true := by
  show (decide (ds.length ≤ 4000) && ezDs ds) = true
  rw [decide_eq_true hl, h]; rfl
theorem ez_lst {ds : List D} (h : ezDs ds = true) (hl : ds.length ≤ 4000) : ezD (.list ds) = true := by
  show (decide (ds.length ≤ 4000) && ezDs ds) = true
  rw [decide_eq_true hl, h]; rfl
theorem s_thing : ∀ (k : Nat) {p : List D} {dp : Nat}, V p → dp ≤ k → Ok (f_law_thing (k + 1) [some (.lst p), some (.dat (.int dp))]) fun o e => ∃ d, ezD d = true ∧ (o.rv.frz = .d d ∧ isTpl o = false) ∧ ∃ p', V p' ∧ e[0]? = some (some (.lst p'))
  | k, p, dp, hp, hd => by
    unfold f_law_thing m_law_thing
    push_cast
    refine (s_draw hp (by (first | decide | omega)) (by (first | decide | omega))).mono ?_
    rintro _ e ⟨way, hway, rfl, p1, hp1, he⟩
    push_cast [he]
    have first : Ok (f_law_draw [some (.lst p1), some (.dat (.int 12))]) fun o ce => ∃ x : Nat, x < 12 ∧ o = .dat (.int x) ∧ ∃ p', V p' ∧ ce[0]? = some (some (.lst p')) := (s_draw hp1 (by (first | decide | omega)) (by (first | decide | omega))).mono fun o e h => by
      obtain ⟨x, hx, h2, h3⟩ := h
      exact ⟨x, by omega, h2, h3⟩
    have fin : ∀ x : Nat, x < 12 → ∃ d, atI [PyData.none, .bool true, .bool false, .int 0, .int 1, .int (-1), .int 9, .int (10 ^ Int.toNat 39), .str (Str.ofString ""), .str (Str.ofString "a"), .tuple [], .list []] (x : Int) = some d ∧ ezD d = true := fun x hx => by
      obtain ⟨d, h1, h2⟩ := at_of (xs := [PyData.none, .bool true, .bool false, .int 0, .int 1, .int (-1), .int 9, .int (10 ^ Int.toNat 39), .str (Str.ofString ""), .str (Str.ofString "a"), .tuple [], .list []]) (x := x) (by simpa using hx)
      refine ⟨d, h1, ?_⟩
      simp only [List.mem_cons, List.not_mem_nil, or_false] at h2
      rcases h2 with rfl | rfl | rfl | rfl | rfl | rfl | rfl | rfl | rfl | rfl | rfl | rfl <;> first | rfl | decide +kernel
    have lit : 0 ≤ (39 : Int) ∧ (39 : Int) ≤ 1000000 ∧ Int.natAbs 10 < 2 ^ 64 := by decide
    refine ⟨fun _ => ⟨lit, first.mono ?_⟩, fun h8 => ⟨fun _ => ⟨lit, first.mono ?_⟩, fun h0 => ?_⟩⟩
    · rintro _ e ⟨x, hx, rfl, p2, hp2, he⟩
      obtain ⟨d, q1, q2⟩ := fin x hx
      push_cast [he, q1]
      exact ⟨d, q2, ⟨rfl, rfl⟩, p2, hp2, rfl⟩
    · rintro _ e ⟨x, hx, rfl, p2, hp2, he⟩
      obtain ⟨d, q1, q2⟩ := fin x hx
      push_cast [he, q1]
      exact ⟨d, q2, ⟨rfl, rfl⟩, p2, hp2, rfl⟩
    · refine (s_draw hp1 (by (first | decide | omega)) (by (first | decide | omega))).mono ?_
      rintro _ e ⟨n, hn, rfl, p2, hp2, he⟩
      push_cast [he]
      refine ⟨by (first | decide | omega), by rw [rngD0]; simp [slZ]; omega, ?_⟩
      refine ok_lcL (fun rest acc e => ∃ (p' : List D), V p' ∧ e = [some (.lst p'), some (.dat (.int dp)), some (.dat (.int way)), none, none] ∧ ezDs acc = true ∧ acc.length + rest.length ≤ 10) ?_ ?_ ?_
      · rintro acc e ⟨p', hp', rfl, h1, h2⟩
        push_cast
        simp only [List.length_nil] at h2
        exact ⟨fun _ => ⟨.list acc, ez_lst h1 (by omega), ⟨rfl, rfl⟩, p', hp', rfl⟩, fun _ => ⟨fun _ => ⟨.dict [], rfl, ⟨rfl, rfl⟩, p', hp', rfl⟩, fun _ => ⟨.tuple acc, ez_tup h1 (by omega), ⟨rfl, rfl⟩, p', hp', rfl⟩⟩⟩
      · rintro d ds acc e ⟨p', hp', rfl, h1, h2⟩
        simp only [List.length_cons] at h2
        push_cast
        have e1 : (dp : Int) - 1 = ((dp - 1 : Nat) : Int) := by omega
        rw [e1]
        cases k with
        | zero => omega
        | succ k =>
          refine (s_thing k hp' (by omega)).mono ?_
          rintro o e ⟨d, hd1, hd2, p3, hp3, he⟩
          push_cast [he, hd2.1]
          exact ⟨p3, hp3, rfl, ezDs_app h1 (by simp [ezDs, hd1]), by simp; omega⟩
      · exact ⟨p2, hp2, rfl, rfl, by rw [rngD0]; simp; omega⟩

theorem ez_of {ds : List D} (h : ezD (.tuple ds) = true) : ezDs ds = true := by
  have h : (decide (ds.length ≤ 4000) && ezDs ds) = true := h
  exact (Bool.and_eq_true _ _ ▸ h).2
/-! ### one place made otherwise -/
def spd : Nat → D → Prop
  | _, .none => True
  | _, .int i => 0 ≤ i ∧ i < 10 ^ 10
  | _, .str z => z.length ≤ 1000
  | n + 1, .tuple ds => ds.length ≤ 1000 ∧ ∀ d ∈ ds, spd n d
  | _, _ => False
theorem spd_em : ∀ (n : Nat) (d : D), spd n d → ezD d = true
  | n, .none, _ => rfl
  | n, .int i, _ => rfl
  | n, .str z, h => by
    have h : z.length ≤ 1000 := by cases n <;> exact h
    show decide (z.length ≤ 4000) = true
    rw [decide_eq_true_eq]; omega
  | n + 1, .tuple ds, h => ez_tup (ezDs_all fun d hd => spd_em n d (h.2 d hd)) (by have := h.1; omega)
  | 0, .tuple ds, h => h.elim
  | n, .bool _, h => by cases n <;> exact h.elim
  | n, .list _, h => by cases n <;> exact h.elim
  | n, .dict _, h => by cases n <;> exact h.elim
theorem cutL_mem {α : Type} {xs : List α} {lo hi : Option Int} {x : α} (h : x ∈ cutL xs lo hi) : x ∈ xs := List.mem_of_mem_drop (List.mem_of_mem_take h)
theorem cutL_len {α : Type} {xs : List α} {lo hi : Option Int} : (cutL xs lo hi).length ≤ xs.length := by
  unfold cutL
  rw [List.length_take, List.length_drop]; omega
theorem ezDs_mem0 {ds : List D} (h : ezDs ds = true) {d : D} (hd : d ∈ ds) : ezD d = true := by
  induction ds with
  | nil => cases hd
  | cons x ds ih =>
    simp only [ezDs, Bool.and_eq_true] at h
    rcases List.mem_cons.mp hd with rfl | hd
    · exact h.1
    · exact ih h.2 hd
theorem ezDs_cut {ds : List D} {lo hi : Option Int} (h : ezDs ds = true) : ezDs (cutL ds lo hi) = true := ezDs_all fun d hd => ezDs_mem h (cutL_mem hd)
theorem log2_64 {n : Nat} (h : n < 2 ^ 201) : n.log2 < 1920 := by
  by_cases h0 : n = 0
  · subst h0; decide
  · have := (Nat.log2_lt h0).mpr h
    omega
theorem ro_rv {io : List Nat} {e : Env} {o : O} {K : O → Prop} : RO io e o.rv K ↔ K o := by cases o <;> exact Iff.rfl
theorem len_app {x y : Str} : (x ++ y).length = x.length + y.length := by
  show (x.cps ++ y.cps).size = _
  rw [Array.size_append]; rfl
theorem len_cutS {z : Str} {lo hi : Option Int} : (cutS z lo hi).length ≤ z.length := by
  show (List.take _ (List.drop _ z.cps.toList)).toArray.size ≤ z.cps.size
  rw [List.size_toArray, List.length_take, List.length_drop, Array.length_toList]
  omega
theorem ez_four {z : Str} (hz : z.length ≤ 1000) : ezDs [.str (z ++ Str.ofString "a"), .str (Txt.upper z), .str (cutS z none (some (-1))), .str (Str.ofString "1" ++ z)] = true := by
  have h1 := PyProof.Rows.len_upper z
  have h2 := len_cutS (z := z) (lo := none) (hi := some (-1))
  have ea : (Str.ofString "a").length = 1 := rfl
  have eb : (Str.ofString "1").length = 1 := rfl
  simp only [ezDs, ezD, Bool.and_true, Bool.and_eq_true, decide_eq_true_eq, len_app, ea, eb]
  omega
theorem s_spoilt : ∀ (k : Nat) {p : List D} {d : D}, V p → spd k d → Ok (f_law_spoilt (k + 1) [some (.lst p), some (.dat d)]) fun o e => ∃ d, ezD d = true ∧ (o.rv.frz = .d d ∧ isTpl o = false) ∧ ∃ p', V p' ∧ e[0]? = some (some (.lst p'))
  | k, p, d, hp, hd => by
    have hem := spd_em k d hd
    unfold f_law_spoilt m_law_spoilt
    rw [ok_runF, ok_seq]
    refine Ok.mono (Q := fun fl e => (fl = .nx ∧ ∃ p', V p' ∧ e = [some (.lst p'), some (.dat d), none, none]) ∨ ∃ o, fl = .rt o ∧ ∃ d, ezD d = true ∧ (o.rv.frz = .d d ∧ isTpl o = false) ∧ ∃ p', V p' ∧ e[0]? = some (some (.lst p'))) ?_ ?_
    · push_cast
      cases d with
      | tuple ds =>
        cases k with
        | zero => exact hd.elim
        | succ k =>
          push_cast
          refine ⟨fun hne => ?_, fun _ => .inl ⟨p, hp, rfl⟩⟩
          refine (s_draw hp (by (first | decide | omega)) (by (first | decide | omega))).mono ?_
          rintro _ e ⟨x, hx, rfl, p1, hp1, he⟩
          push_cast [he]
          refine ⟨fun _ => ?_, fun _ => .inl ⟨p1, hp1, rfl⟩⟩
          have hl : 0 < ds.length := by
            cases ds with
            | nil => simp at hne
            | cons => simp
          have hl2 := hd.1
          refine (s_draw hp1 (by omega) (by omega)).mono ?_
          rintro _ e ⟨x, hx, rfl, p2, hp2, he⟩
          obtain ⟨y, q1, q2⟩ := at_of (xs := ds) (x := x) (by omega)
          push_cast [he, q1]
          refine (s_spoilt k hp2 (hd.2 y q2)).mono ?_
          rintro o e ⟨y', hy1, hy2, p3, hp3, he⟩
          push_cast [he, hy2.1, List.length_append]
          have l1 := cutL_len (xs := ds) (lo := none) (hi := some (x : Int))
          have l2 := cutL_len (xs := ds) (lo := some (x + 1 : Int)) (hi := none)
          refine ⟨by rw [slZ]; omega, by rw [slZ]; omega, .inr ⟨_, rfl, _, ?_, ⟨rfl, rfl⟩, p3, hp3, rfl⟩⟩
          exact ez_tup (ezDs_app (ezDs_app (ezDs_cut (ez_of hem)) (by simp [ezDs, hy1])) (ezDs_cut (ez_of hem))) (by simp; omega)
      | none => push_cast; exact .inl ⟨p, hp, rfl⟩
      | int i => push_cast; exact .inl ⟨p, hp, rfl⟩
      | str z => push_cast; exact .inl ⟨p, hp, rfl⟩
      | bool b => cases k <;> exact hd.elim
      | list b => cases k <;> exact hd.elim
      | dict b => cases k <;> exact hd.elim
    · rintro fl e (⟨rfl, p1, hp1, rfl⟩ | ⟨o, rfl, h⟩)
      · push_cast
        refine (s_draw hp1 (by (first | decide | omega)) (by (first | decide | omega))).mono ?_
        rintro _ e ⟨x, hx, rfl, p1, hp1, he⟩
        have thg : ∀ {p2 : List D}, V p2 → Ok (f_law_thing 3 [some (.lst p2), some (.dat (.int 2))]) fun o ce => ∃ d, ezD d = true ∧ (o.rv.frz = .d d ∧ isTpl o = false) ∧ ∃ p', V p' ∧ ce[0]? = some (some (.lst p')) := fun h => s_thing 2 (dp := 2) h (by omega)
        push_cast [he]
        have last : ∀ {p2 : List D} {Q : O → Env → Prop}, V p2 → (∀ (o : O) (e : Env) (d : D) (p3 : List D), ezD d = true → (o.rv.frz = .d d ∧ isTpl o = false) → V p3 → e[0]? = some (some (.lst p3)) → Q o e) → Ok (f_law_thing 3 [some (.lst p2), some (.dat (.int 2))]) Q := fun h f => (thg h).mono fun o e ⟨d, h1, h2, p3, hp3, he⟩ => f o e d p3 h1 h2 hp3 he
        have pick : ∀ {l : List D}, l.length = 4 → ezDs l = true → x < 4 → ∃ d, atI l (x : Int) = some d ∧ ezD d = true := fun {l} hl hm hx => by
          obtain ⟨d, h1, h2⟩ := at_of (xs := l) (x := x) (by omega)
          exact ⟨d, h1, ezDs_mem hm h2⟩
        cases d with
        | none =>
          push_cast
          refine last hp1 fun o e d p2 h1 h2 hp2 he => ?_
          push_cast [he, List.isEmpty_nil, ro_rv]
          exact ⟨d, h1, h2, p2, hp2, rfl⟩
        | int i =>
          have hi0 : 0 ≤ i ∧ i < 10 ^ 10 := by cases k <;> exact hd
          have hi : i.natAbs < 2 ^ 200 := by omega
          have hsl := PyProof.Rows.toString_length_le hi0.1 (k := 10) (by decide) hi0.2
          push_cast
          refine ⟨fun hx4 => ⟨log2_64 (by omega), ?_⟩, fun _ => ?_⟩
          · obtain ⟨d, q1, q2⟩ := pick (l := [.int (i + 1), .int (i - 1), .bool (decide (0 < i)), .str (toString i)]) rfl (by simp only [ezDs, ezD, Bool.true_and, Bool.and_true, decide_eq_true_eq]; exact Nat.le_trans hsl (by decide)) (by omega)
            push_cast [q1]
            exact ⟨d, q2, ⟨rfl, rfl⟩, p1, hp1, rfl⟩
          · refine last hp1 fun o e d p2 h1 h2 hp2 he => ?_
            push_cast [he, List.isEmpty_nil, ro_rv]
            exact ⟨d, h1, h2, p2, hp2, rfl⟩
        | str z =>
          have hz : z.length ≤ 1000 := by cases k <;> exact hd
          push_cast [gUpper]
          refine ⟨fun hx4 => ?_, fun _ => ?_⟩
          · refine ⟨by rw [slZ, show (Str.ofString "a").length = 1 from rfl]; omega, by omega, by rw [slZ]; omega, by rw [slZ, show (Str.ofString "1").length = 1 from rfl]; omega, ?_⟩
            obtain ⟨d, q1, q2⟩ := pick (l := [.str (z ++ Str.ofString "a"), .str (Txt.upper z), .str (cutS z none (some (-1))), .str (Str.ofString "1" ++ z)]) rfl (ez_four hz) (by omega)
            push_cast [q1]
            exact ⟨d, q2, ⟨rfl, rfl⟩, p1, hp1, rfl⟩
          · refine last hp1 fun o e d p2 h1 h2 hp2 he => ?_
            push_cast [he, List.isEmpty_nil, ro_rv]
            exact ⟨d, h1, h2, p2, hp2, rfl⟩
        | tuple ds =>
          have hl : ds.length ≤ 1000 := by
            cases k with
            | zero => exact hd.elim
            | succ k => exact hd.1
          have hm : ezDs ds = true := ez_of hem
          push_cast
          refine ⟨fun hx4 => ?_, fun _ => ?_⟩
          · refine ⟨by have := cutL_len (xs := ds) (lo := some (-1)) (hi := none); rw [slZ]; omega, ?_⟩
            have lc1 := cutL_len (xs := ds) (lo := some (-1)) (hi := none)
            have lc2 := cutL_len (xs := ds) (lo := none) (hi := some (-1))
            have hez : ezDs [PyData.tuple (ds ++ cutL ds (some (-1)) none), .tuple (cutL ds none (some (-1))), .list ds, .tuple ds.reverse] = true := by
              refine ezDs_all fun d hd => ?_
              simp only [List.mem_cons, List.not_mem_nil, or_false] at hd
              rcases hd with rfl | rfl | rfl | rfl
              · exact ez_tup (ezDs_app hm (ezDs_cut hm)) (by rw [List.length_append]; omega)
              · exact ez_tup (ezDs_cut hm) (by omega)
              · exact ez_lst hm (by omega)
              · exact ez_tup (ezDs_all fun d hd => ezDs_mem hm (List.mem_reverse.mp hd)) (by rw [List.length_reverse]; omega)
            obtain ⟨d, q1, q2⟩ := pick (l := [.tuple (ds ++ cutL ds (some (-1)) none), .tuple (cutL ds none (some (-1))), .list ds, .tuple ds.reverse]) rfl hez (by omega)
            push_cast [q1]
            exact ⟨d, q2, ⟨rfl, rfl⟩, p1, hp1, rfl⟩
          · refine last hp1 fun o e d p2 h1 h2 hp2 he => ?_
            push_cast [he, List.isEmpty_nil, ro_rv]
            exact ⟨d, h1, h2, p2, hp2, rfl⟩
        | bool b => cases k <;> exact hd.elim
        | list b => cases k <;> exact hd.elim
        | dict b => cases k <;> exact hd.elim
      · exact h
end Mi

set_option Elab.async false
set_option linter.all false
set_option maxRecDepth 20000
set_option maxHeartbeats 0
namespace Mi
open PySem PySem.Spec L2
local macro_rules
  | `(tactic| push_cast) => `(tactic| simp only [ok_ok, ok_ex, ok_stuck, ok_ret, ok_stk, ok_bnd, ok_ofO, opt_some, opt_none, opt_map, opt_bind, opt_ite, rb_b, ri_i, ro_d, ro_own, ro_pl, ok_mC, ok_bin, ok_isi, ok_tst, ok_and, ok_or, ok_not, ok_andV, ok_orV, ok_notV, ok_mif, ok_nil, ok_cons, ok_frz_d, ok_frz_pl, ok_frzAll_nil, ok_frzAll_cons, ok_tup, ok_lst, ok_no, ok_so, ok_sl, ok_cb, resAll_nil, resAll_cons, ok_call, ok_seq, seqQ_nx, seqQ_rt, seqQ_bk, seqQ_ct, ok_mEx, ok_mRet, ok_ite, ok_set, ok_setK_d, ok_setK_own, ok_setK_pl, ok_runF, runQ_rt, runQ_nx, frz_d, frz_lst, frz_dat, frz_pl, res_d, res_pl, rv_val, rv_tup, rv_lst, orv_dat, orv_lst, ok_neg, ok_lstR, ok_chkL, lstAt, ok_mMet, ok_mMetF, ok_store, ok_mFor, forQ_nx, forQ_ct, forQ_bk, forQ_rt, ok_mLc, ok_mWk, wkOf_str, wkOf_list, wkOf_tuple, wkOf_pl, rsI_i, ok_rng1, ok_rng2, ok_rng3, rsI2_i, rsI3_i, ok_enu, ok_zip, seqOf_list, seqOf_tuple, seqOf_pl, ok_setE, ok_back, rs_s, ok_tx0, ok_tx1, ok_dic1, lst1_l, datAt, ok_sortK, ok_maxK, rd1_d, ok_mTgt, ok_isN, ok_maxD, gExt_l, gExt_t, gIns_0, gClr_0, gSorted_l, mVar, argOs, argO, ioSlots, lentSlots, apart, backEnv, allFlat, O.flat, flat, flats, wipeE, restE, ownFree, srcOk, asgT_nm, asgT_tp, asgTs_nil, asgTs_cons, Option.bind_some, opt_vB, opt_vI, gLt_i, gLe_i, gGt_i, gGe_i, gAdd_i, gAdd_t, gAdd_l, gAdd_s, gSub_i, gMul_i, gFdiv_i, gMod_i, gPow_i, gIx_l, gIx_t, gIx_s, gLen_l, gLen_t, gLen_s, gTuple_l, gTuple_t, gList_l, gList_t, gInt_i, gInt_b, gMax2_i, gMin2_i, gCut_l, gCut_t, gCut_s, gAll_l, gAny_l, gSum_l, gEq_i, gNe_i, gEq_b, gNe_b, gEqE_l, gNeE_l, gEqE_t, gNeE_t, gApp_1, gPopI_1, gStr_i, seqD_l, seqD_t, atI_0, List.cons_append, List.nil_append, List.length_cons, List.length_nil, List.replicate_succ, List.replicate_zero, Nat.reduceAdd, Nat.reduceSub, List.getElem?_cons_succ, List.getElem?_cons_zero, List.set_cons_succ, List.set_cons_zero, List.getElem?_nil, List.contains_cons, List.contains_nil, Bool.or_false, Bool.false_or, Bool.or_true, Bool.true_or, Bool.and_true, Bool.true_and, Bool.and_false, Bool.false_and, Nat.reduceBEq, List.isEmpty_nil, List.isEmpty_cons, Bool.not_true, Bool.not_false, List.all_cons, List.all_nil, List.any_cons, List.any_nil, Option.getD_some, Option.getD_none, decide_eq_true_eq, decide_eq_false_iff_not, Bool.true_eq_false, Bool.false_eq_true, true_implies, false_implies, true_and, and_true, false_and, and_false, implies_true, Bool.not_eq_true', Bool.not_eq_false', if_true, if_false, ite_true, ite_false, reduceCtorEq, forall_const, isi_bool_bool, isi_bool_int, isi_bool_str, isi_bool_list, isi_bool_tuple, isi_bool_none, isi_bool_dict, isi_int_bool, isi_int_int, isi_int_str, isi_int_list, isi_int_tuple, isi_int_none, isi_int_dict, isi_str_bool, isi_str_int, isi_str_str, isi_str_list, isi_str_tuple, isi_str_none, isi_str_dict, isi_list_bool, isi_list_int, isi_list_str, isi_list_list, isi_list_tuple, isi_list_none, isi_list_dict, isi_tuple_bool, isi_tuple_int, isi_tuple_str, isi_tuple_list, isi_tuple_tuple, isi_tuple_none, isi_tuple_dict, isi_dict_bool, isi_dict_int, isi_dict_str, isi_dict_list, isi_dict_tuple, isi_dict_none, isi_dict_dict])
  | `(tactic| push_cast [$ls,*]) => `(tactic| simp only [ok_ok, ok_ex, ok_stuck, ok_ret, ok_stk, ok_bnd, ok_ofO, opt_some, opt_none, opt_map, opt_bind, opt_ite, rb_b, ri_i, ro_d, ro_own, ro_pl, ok_mC, ok_bin, ok_isi, ok_tst, ok_and, ok_or, ok_not, ok_andV, ok_orV, ok_notV, ok_mif, ok_nil, ok_cons, ok_frz_d, ok_frz_pl, ok_frzAll_nil, ok_frzAll_cons, ok_tup, ok_lst, ok_no, ok_so, ok_sl, ok_cb, resAll_nil, resAll_cons, ok_call, ok_seq, seqQ_nx, seqQ_rt, seqQ_bk, seqQ_ct, ok_mEx, ok_mRet, ok_ite, ok_set, ok_setK_d, ok_setK_own, ok_setK_pl, ok_runF, runQ_rt, runQ_nx, frz_d, frz_lst, frz_dat, frz_pl, res_d, res_pl, rv_val, rv_tup, rv_lst, orv_dat, orv_lst, ok_neg, ok_lstR, ok_chkL, lstAt, ok_mMet, ok_mMetF, ok_store, ok_mFor, forQ_nx, forQ_ct, forQ_bk, forQ_rt, ok_mLc, ok_mWk, wkOf_str, wkOf_list, wkOf_tuple, wkOf_pl, rsI_i, ok_rng1, ok_rng2, ok_rng3, rsI2_i, rsI3_i, ok_enu, ok_zip, seqOf_list, seqOf_tuple, seqOf_pl, ok_setE, ok_back, rs_s, ok_tx0, ok_tx1, ok_dic1, lst1_l, datAt, ok_sortK, ok_maxK, rd1_d, ok_mTgt, ok_isN, ok_maxD, gExt_l, gExt_t, gIns_0, gClr_0, gSorted_l, mVar, argOs, argO, ioSlots, lentSlots, apart, backEnv, allFlat, O.flat, flat, flats, wipeE, restE, ownFree, srcOk, asgT_nm, asgT_tp, asgTs_nil, asgTs_cons, Option.bind_some, opt_vB, opt_vI, gLt_i, gLe_i, gGt_i, gGe_i, gAdd_i, gAdd_t, gAdd_l, gAdd_s, gSub_i, gMul_i, gFdiv_i, gMod_i, gPow_i, gIx_l, gIx_t, gIx_s, gLen_l, gLen_t, gLen_s, gTuple_l, gTuple_t, gList_l, gList_t, gInt_i, gInt_b, gMax2_i, gMin2_i, gCut_l, gCut_t, gCut_s, gAll_l, gAny_l, gSum_l, gEq_i, gNe_i, gEq_b, gNe_b, gEqE_l, gNeE_l, gEqE_t, gNeE_t, gApp_1, gPopI_1, gStr_i, seqD_l, seqD_t, atI_0, List.cons_append, List.nil_append, List.length_cons, List.length_nil, List.replicate_succ, List.replicate_zero, Nat.reduceAdd, Nat.reduceSub, List.getElem?_cons_succ, List.getElem?_cons_zero, List.set_cons_succ, List.set_cons_zero, List.getElem?_nil, List.contains_cons, List.contains_nil, Bool.or_false, Bool.false_or, Bool.or_true, Bool.true_or, Bool.and_true, Bool.true_and, Bool.and_false, Bool.false_and, Nat.reduceBEq, List.isEmpty_nil, List.isEmpty_cons, Bool.not_true, Bool.not_false, List.all_cons, List.all_nil, List.any_cons, List.any_nil, Option.getD_some, Option.getD_none, decide_eq_true_eq, decide_eq_false_iff_not, Bool.true_eq_false, Bool.false_eq_true, true_implies, false_implies, true_and, and_true, false_and, and_false, implies_true, Bool.not_eq_true', Bool.not_eq_false', if_true, if_false, ite_true, ite_false, reduceCtorEq, forall_const, isi_bool_bool, isi_bool_int, isi_bool_str, isi_bool_list, isi_bool_tuple, isi_bool_none, isi_bool_dict, isi_int_bool, isi_int_int, isi_int_str, isi_int_list, isi_int_tuple, isi_int_none, isi_int_dict, isi_str_bool, isi_str_int, isi_str_str, isi_str_list, isi_str_tuple, isi_str_none, isi_str_dict, isi_list_bool, isi_list_int, isi_list_str, isi_list_list, isi_list_tuple, isi_list_none, isi_list_dict, isi_tuple_bool, isi_tuple_int, isi_tuple_str, isi_tuple_list, isi_tuple_tuple, isi_tuple_none, isi_tuple_dict, isi_dict_bool, isi_dict_int, isi_dict_str, isi_dict_list, isi_dict_tuple, isi_dict_none, isi_dict_dict, $ls,*])
/-! ### a stable sort of rising numbers -/
def Rk (key : Nat → Int) (a b : Nat) : Prop := key a < key b ∨ (key a = key b ∧ a < b)
theorem msort_eq {key : Nat → Int} {l T : List Nat} (hl : l.Pairwise (· < ·)) (hp : T.Perm l) (hR : T.Pairwise (Rk key)) : l.mergeSort (fun a b => decide (key a ≤ key b)) = T := by
  have tr : ∀ a b c : Nat, decide (key a ≤ key b) = true → decide (key b ≤ key c) = true → decide (key a ≤ key c) = true := fun a b c h1 h2 => by
    simp only [decide_eq_true_eq] at *
    omega
  have to : ∀ a b : Nat, (decide (key a ≤ key b) || decide (key b ≤ key a)) = true := fun a b => by
    simp only [Bool.or_eq_true, decide_eq_true_eq]
    omega
  have pm := List.mergeSort_perm l fun a b => decide (key a ≤ key b)
  have nd : l.Nodup := hl.imp fun h => Nat.ne_of_lt h
  have so := List.pairwise_mergeSort tr to l
  refine List.Perm.eq_of_pairwise (le := Rk key) (fun a b _ _ h1 h2 => ?_) ?_ hR (pm.trans hp.symm)
  · rcases h1 with h1 | ⟨h1, h1'⟩ <;> rcases h2 with h2 | ⟨h2, h2'⟩ <;> omega
  · rw [List.pairwise_iff_forall_sublist] at so ⊢
    intro a b hs
    have h1 := so hs
    simp only [decide_eq_true_eq] at h1
    by_cases e : key a = key b
    · refine .inr ⟨e, ?_⟩
      -- the same key: their order is that of l
      have ndm : (l.mergeSort fun a b => decide (key a ≤ key b)).Nodup := (pm.nodup_iff).mpr nd
      have ma : a ∈ l := pm.mem_iff.mp (hs.subset (by simp))
      have mb : b ∈ l := pm.mem_iff.mp (hs.subset (by simp))
      have nab : a ≠ b := by
        have := hs.nodup ndm
        simp at this
        exact this
      apply Classical.byContradiction
      intro hn
      have hba : b < a := by omega
      have sub : [b, a].Sublist l := by
        obtain ⟨i, hi, rfl⟩ := List.mem_iff_getElem.mp ma
        obtain ⟨j, hj, rfl⟩ := List.mem_iff_getElem.mp mb
        have hji : j < i := by
          apply Classical.byContradiction
          intro h
          have hne : i ≠ j := by
            rintro rfl
            exact nab rfl
          have := List.pairwise_iff_getElem.mp hl i j hi hj (by omega)
          omega
        have e1 : [l[j], l[i]] = [l[j]] ++ [l[i]] := rfl
        have s1 : [l[j]].Sublist (l.take i) := List.singleton_sublist.mpr (by
          rw [List.mem_take_iff_getElem]
          exact ⟨j, by omega, rfl⟩)
        have s2 : [l[i]].Sublist (l.drop i) := List.singleton_sublist.mpr (by
          rw [List.mem_drop_iff_getElem]
          exact ⟨0, by omega, by simp⟩)
        have := s1.append s2
        rwa [List.take_append_drop] at this
      have s3 := List.pair_sublist_mergeSort (l := l) tr to (a := b) (b := a) (by simp; omega) sub
      -- both orders in a list without doubles
      have key2 : ∀ {x y : Nat} {m : List Nat}, m.Nodup → [x, y].Sublist m → [y, x].Sublist m → False := by
        intro x y m
        induction m with
        | nil => intro _ h; simp at h
        | cons z m ih =>
          intro hnd h1 h2
          rw [List.nodup_cons] at hnd
          rcases List.sublist_cons_iff.mp h1 with a1 | ⟨r, e1, a1⟩
          · rcases List.sublist_cons_iff.mp h2 with b1 | ⟨r2, e2, b1⟩
            · exact ih hnd.2 a1 b1
            · have e3 : y = z := (List.cons.inj e2).1
              exact hnd.1 (e3 ▸ a1.subset (show y ∈ [x, y] by simp))
          · have e3 : x = z := (List.cons.inj e1).1
            have e4 : r = [y] := (List.cons.inj e1).2.symm
            rcases List.sublist_cons_iff.mp h2 with b1 | ⟨r2, e2, b1⟩
            · exact hnd.1 (e3 ▸ b1.subset (show x ∈ [y, x] by simp))
            · have e5 : y = z := (List.cons.inj e2).1
              exact hnd.1 (e5 ▸ a1.subset (show y ∈ r by rw [e4]; simp))
      exact key2 ndm hs s3
    · exact .inl (by omega)
/-! ### the places of what is so -/
def idxF {α : Type} (P : α → Bool) : Nat → List α → List Nat
  | _, [] => []
  | k, r :: rs => if P r = true then k :: idxF P (k + 1) rs else idxF P (k + 1) rs
theorem idxF_mem {α : Type} {P : α → Bool} : ∀ (rs : List α) (k j : Nat), j ∈ idxF P k rs ↔ ∃ i, ∃ h : i < rs.length, j = k + i ∧ P rs[i] = true
  | [], k, j => by simp [idxF]
  | r :: rs, k, j => by
    have ih := idxF_mem (P := P) rs (k + 1) j
    unfold idxF
    constructor
    · intro h
      split at h
      · rename_i hp
        rcases List.mem_cons.mp h with rfl | h
        · exact ⟨0, by simp, rfl, hp⟩
        · obtain ⟨i, h1, h2, h3⟩ := ih.mp h
          exact ⟨i + 1, by simp; omega, by omega, by simpa using h3⟩
      · obtain ⟨i, h1, h2, h3⟩ := ih.mp h
        exact ⟨i + 1, by simp; omega, by omega, by simpa using h3⟩
    · rintro ⟨i, h1, h2, h3⟩
      cases i with
      | zero =>
        simp at h3
        simp [h3, h2]
      | succ i =>
        have : j ∈ idxF P (k + 1) rs := ih.mpr ⟨i, by simpa using h1, by omega, by simpa using h3⟩
        split
        · exact List.mem_cons_of_mem _ this
        · exact this
theorem idxF_inc {α : Type} {P : α → Bool} : ∀ (rs : List α) (k : Nat), (idxF P k rs).Pairwise (· < ·)
  | [], k => by simp [idxF]
  | r :: rs, k => by
    unfold idxF
    have ih := idxF_inc (P := P) rs (k + 1)
    split
    · refine List.pairwise_cons.mpr ⟨fun j hj => ?_, ih⟩
      obtain ⟨i, _, h, _⟩ := (idxF_mem rs (k + 1) j).mp hj
      omega
    · exact ih
theorem idxF_len {α : Type} {P : α → Bool} : ∀ (rs : List α) (k : Nat), (idxF P k rs).length ≤ rs.length
  | [], k => by simp [idxF]
  | r :: rs, k => by
    unfold idxF
    have ih := idxF_len (P := P) rs (k + 1)
    split <;> simp <;> omega
theorem idxF_nil {α : Type} {P : α → Bool} {rs : List α} {k : Nat} (h : ∀ r ∈ rs, P r = false) : idxF P k rs = [] := by
  rw [List.eq_nil_iff_forall_not_mem]
  intro j hj
  obtain ⟨i, h1, _, h3⟩ := (idxF_mem rs k j).mp hj
  rw [h _ (List.getElem_mem h1)] at h3
  cases h3
theorem idxF_congr {α : Type} {P Q : α → Bool} : ∀ {rs : List α} {k : Nat}, (∀ r ∈ rs, P r = Q r) → idxF P k rs = idxF Q k rs
  | [], _, _ => rfl
  | r :: rs, k, h => by
    unfold idxF
    rw [h r (by simp), idxF_congr (rs := rs) fun x hx => h x (by simp [hx])]
theorem idxF_app {α : Type} {P : α → Bool} : ∀ (rs qs : List α) (k : Nat), idxF P k (rs ++ qs) = idxF P k rs ++ idxF P (k + rs.length) qs
  | [], qs, k => by simp [idxF]
  | r :: rs, qs, k => by
    simp only [List.cons_append, idxF, idxF_app rs qs (k + 1), List.length_cons]
    rw [show k + 1 + rs.length = k + (rs.length + 1) by omega]
    split <;> simp
theorem idxF_perm {α : Type} {P Q : α → Bool} {rs : List α} {k : Nat} : (idxF (fun r => P r && Q r) k rs ++ idxF (fun r => P r && !Q r) k rs).Perm (idxF P k rs) := by
  induction rs generalizing k with
  | nil => simp [idxF]
  | cons r rs ih =>
    have ih := ih (k := k + 1)
    unfold idxF
    cases hp : P r <;> cases hq : Q r <;> simp [hp, hq]
    · exact ih
    · exact ih
    · exact (List.perm_middle).trans (List.Perm.cons _ ih)
    · exact ih
/-- a walk over enumerate -/
theorem enF_idx {α : Type} {g : α → D} {t : D → Bool} {f : D → D} {P : α → Bool} : ∀ {rs : List α} {k : Nat}, (∀ r ∈ rs, ∀ i : Nat, t (.tuple [iD i, g r]) = P r) → (∀ r ∈ rs, ∀ i : Nat, f (.tuple [iD i, g r]) = iD i) → ((enF k (rs.map g)).filter t).map f = (idxF P k rs).map iD
  | [], _, _, _ => rfl
  | r :: rs, k, ht, hf => by
    have ih := enF_idx (k := k + 1) (fun x hx => ht x (List.mem_cons_of_mem _ hx)) (fun x hx => hf x (List.mem_cons_of_mem _ hx))
    rw [List.map_cons, enF_cons]
    unfold idxF
    cases hp : P r with
    | true =>
      rw [List.filter_cons_of_pos (by rw [ht r (by simp)]; exact hp)]
      simp only [List.map_cons, hf r (by simp), ih, if_true]
    | false =>
      rw [List.filter_cons_of_neg (by rw [ht r (by simp), hp]; simp)]
      simp [ih]
/-! ### nearest first -/
def atL (n : Nat) (s : List Nat) (L : Nat) (r : Rc) : Bool := decide (r.nm = n ∧ r.sp.length = L ∧ r.sp = s.take L)
def near (rs : List Rc) (n : Nat) (s : List Nat) : List Nat := idxF (atL n s 2) 0 rs ++ idxF (atL n s 1) 0 rs ++ idxF (atL n s 0) 0 rs
def hit (n : Nat) (s : List Nat) (r : Rc) : Bool := decide (r.nm = n) && decide (s.take r.sp.length = r.sp)
theorem near_sort {rs : List Rc} {n : Nat} {s : List Nat} (h2 : ∀ r ∈ rs, r.sp.length ≤ 2) : (idxF (hit n s) 0 rs).mergeSort (fun a b => decide (-(((rs[a]?.map fun r => r.sp.length).getD 0 : Nat) : Int) ≤ -(((rs[b]?.map fun r => r.sp.length).getD 0 : Nat) : Int))) = near rs n s := by
  have key : ∀ {L j}, j ∈ idxF (atL n s L) 0 rs → (rs[j]?.map fun r => r.sp.length).getD 0 = L := fun {L j} hj => by
    obtain ⟨i, h1, h3, h4⟩ := (idxF_mem rs 0 j).mp hj
    obtain rfl : j = i := by omega
    unfold atL at h4
    simp only [decide_eq_true_eq] at h4
    rw [List.getElem?_eq_getElem h1]
    exact h4.2.1
  refine msort_eq (key := fun a => -(((rs[a]?.map fun r => r.sp.length).getD 0 : Nat) : Int)) (idxF_inc rs 0) ?_ ?_
  · -- the three parts are all
    have e2 : idxF (atL n s 2) 0 rs = idxF (fun r => hit n s r && decide (r.sp.length = 2)) 0 rs := idxF_congr fun r hr => by
      unfold atL hit
      rw [Bool.eq_iff_iff]
      simp only [decide_eq_true_eq, Bool.and_eq_true]
      constructor
      · rintro ⟨a, b, c⟩; exact ⟨⟨a, by rw [b]; exact c.symm⟩, b⟩
      · rintro ⟨⟨a, b⟩, c⟩; exact ⟨a, c, by rw [c] at b; exact b.symm⟩
    have e1 : idxF (atL n s 1) 0 rs = idxF (fun r => (hit n s r && !decide (r.sp.length = 2)) && decide (r.sp.length = 1)) 0 rs := idxF_congr fun r hr => by
      unfold atL hit
      rw [Bool.eq_iff_iff]
      simp only [decide_eq_true_eq, Bool.and_eq_true, Bool.not_eq_true', decide_eq_false_iff_not]
      constructor
      · rintro ⟨a, b, c⟩; exact ⟨⟨⟨a, by rw [b]; exact c.symm⟩, by omega⟩, b⟩
      · rintro ⟨⟨⟨a, b⟩, _⟩, c⟩; exact ⟨a, c, by rw [c] at b; exact b.symm⟩
    have e0 : idxF (atL n s 0) 0 rs = idxF (fun r => (hit n s r && !decide (r.sp.length = 2)) && !decide (r.sp.length = 1)) 0 rs := idxF_congr fun r hr => by
      unfold atL hit
      rw [Bool.eq_iff_iff]
      simp only [decide_eq_true_eq, Bool.and_eq_true, Bool.not_eq_true', decide_eq_false_iff_not]
      have := h2 r hr
      constructor
      · rintro ⟨a, b, c⟩; exact ⟨⟨⟨a, by rw [b]; exact c.symm⟩, by omega⟩, by omega⟩
      · rintro ⟨⟨⟨a, b⟩, c⟩, d⟩
        have e : r.sp.length = 0 := by omega
        exact ⟨a, e, by rw [e] at b; exact b.symm⟩
    unfold near
    rw [e2, e1, e0, List.append_assoc]
    exact ((List.Perm.refl _).append idxF_perm).trans idxF_perm
  · unfold near
    have inc : ∀ L, (idxF (atL n s L) 0 rs).Pairwise (Rk fun a => -(((rs[a]?.map fun r => r.sp.length).getD 0 : Nat) : Int)) := fun L => by
      refine List.Pairwise.imp_of_mem (fun {a b} ha hb h => ?_) (idxF_inc rs 0)
      refine .inr ⟨?_, h⟩
      simp only
      rw [key ha, key hb]
    rw [List.pairwise_append, List.pairwise_append]
    refine ⟨⟨inc 2, inc 1, fun a ha b hb => .inl ?_⟩, inc 0, fun a ha b hb => .inl ?_⟩
    · simp only
      rw [key ha, key hb]; omega
    · simp only
      rw [key hb]
      rcases List.mem_append.mp ha with ha | ha
      · rw [key ha]; omega
      · rw [key ha]; omega
end Mi

set_option Elab.async false
set_option linter.all false
set_option maxRecDepth 20000
set_option maxHeartbeats 0
namespace Mi
open PySem PySem.Spec L2
local macro_rules
  | `(tactic| push_cast) => `(tactic| simp only [ok_ok, ok_ex, ok_stuck, ok_ret, ok_stk, ok_bnd, ok_ofO, opt_some, opt_none, opt_map, opt_bind, opt_ite, rb_b, ri_i, ro_d, ro_own, ro_pl, ok_mC, ok_bin, ok_isi, ok_tst, ok_and, ok_or, ok_not, ok_andV, ok_orV, ok_notV, ok_mif, ok_nil, ok_cons, ok_frz_d, ok_frz_pl, ok_frzAll_nil, ok_frzAll_cons, ok_tup, ok_lst, ok_no, ok_so, ok_sl, ok_cb, resAll_nil, resAll_cons, ok_call, ok_seq, seqQ_nx, seqQ_rt, seqQ_bk, seqQ_ct, ok_mEx, ok_mRet, ok_ite, ok_set, ok_setK_d, ok_setK_own, ok_setK_pl, ok_runF, runQ_rt, runQ_nx, frz_d, frz_lst, frz_dat, frz_pl, res_d, res_pl, rv_val, rv_tup, rv_lst, orv_dat, orv_lst, ok_neg, ok_lstR, ok_chkL, lstAt, ok_mMet, ok_mMetF, ok_store, ok_mFor, forQ_nx, forQ_ct, forQ_bk, forQ_rt, ok_mLc, ok_mWk, wkOf_str, wkOf_list, wkOf_tuple, wkOf_pl, rsI_i, ok_rng1, ok_rng2, ok_rng3, rsI2_i, rsI3_i, ok_enu, ok_zip, seqOf_list, seqOf_tuple, seqOf_pl, ok_setE, ok_back, rs_s, ok_tx0, ok_tx1, ok_dic1, lst1_l, datAt, ok_sortK, ok_maxK, rd1_d, ok_mTgt, ok_isN, ok_maxD, gExt_l, gExt_t, gIns_0, gClr_0, gSorted_l, mVar, argOs, argO, ioSlots, lentSlots, apart, backEnv, allFlat, O.flat, flat, flats, wipeE, restE, ownFree, srcOk, asgT_nm, asgT_tp, asgTs_nil, asgTs_cons, Option.bind_some, opt_vB, opt_vI, gLt_i, gLe_i, gGt_i, gGe_i, gAdd_i, gAdd_t, gAdd_l, gAdd_s, gSub_i, gMul_i, gFdiv_i, gMod_i, gPow_i, gIx_l, gIx_t, gIx_s, gLen_l, gLen_t, gLen_s, gTuple_l, gTuple_t, gList_l, gList_t, gInt_i, gInt_b, gMax2_i, gMin2_i, gCut_l, gCut_t, gCut_s, gAll_l, gAny_l, gSum_l, gEq_i, gNe_i, gEq_b, gNe_b, gEqE_l, gNeE_l, gEqE_t, gNeE_t, gApp_1, gPopI_1, gStr_i, seqD_l, seqD_t, atI_0, List.cons_append, List.nil_append, List.length_cons, List.length_nil, List.replicate_succ, List.replicate_zero, Nat.reduceAdd, Nat.reduceSub, List.getElem?_cons_succ, List.getElem?_cons_zero, List.set_cons_succ, List.set_cons_zero, List.getElem?_nil, List.contains_cons, List.contains_nil, Bool.or_false, Bool.false_or, Bool.or_true, Bool.true_or, Bool.and_true, Bool.true_and, Bool.and_false, Bool.false_and, Nat.reduceBEq, List.isEmpty_nil, List.isEmpty_cons, Bool.not_true, Bool.not_false, List.all_cons, List.all_nil, List.any_cons, List.any_nil, Option.getD_some, Option.getD_none, decide_eq_true_eq, decide_eq_false_iff_not, Bool.true_eq_false, Bool.false_eq_true, true_implies, false_implies, true_and, and_true, false_and, and_false, implies_true, Bool.not_eq_true', Bool.not_eq_false', if_true, if_false, ite_true, ite_false, reduceCtorEq, forall_const, isi_bool_bool, isi_bool_int, isi_bool_str, isi_bool_list, isi_bool_tuple, isi_bool_none, isi_bool_dict, isi_int_bool, isi_int_int, isi_int_str, isi_int_list, isi_int_tuple, isi_int_none, isi_int_dict, isi_str_bool, isi_str_int, isi_str_str, isi_str_list, isi_str_tuple, isi_str_none, isi_str_dict, isi_list_bool, isi_list_int, isi_list_str, isi_list_list, isi_list_tuple, isi_list_none, isi_list_dict, isi_tuple_bool, isi_tuple_int, isi_tuple_str, isi_tuple_list, isi_tuple_tuple, isi_tuple_none, isi_tuple_dict, isi_dict_bool, isi_dict_int, isi_dict_str, isi_dict_list, isi_dict_tuple, isi_dict_none, isi_dict_dict])
  | `(tactic| push_cast [$ls,*]) => `(tactic| simp only [ok_ok, ok_ex, ok_stuck, ok_ret, ok_stk, ok_bnd, ok_ofO, opt_some, opt_none, opt_map, opt_bind, opt_ite, rb_b, ri_i, ro_d, ro_own, ro_pl, ok_mC, ok_bin, ok_isi, ok_tst, ok_and, ok_or, ok_not, ok_andV, ok_orV, ok_notV, ok_mif, ok_nil, ok_cons, ok_frz_d, ok_frz_pl, ok_frzAll_nil, ok_frzAll_cons, ok_tup, ok_lst, ok_no, ok_so, ok_sl, ok_cb, resAll_nil, resAll_cons, ok_call, ok_seq, seqQ_nx, seqQ_rt, seqQ_bk, seqQ_ct, ok_mEx, ok_mRet, ok_ite, ok_set, ok_setK_d, ok_setK_own, ok_setK_pl, ok_runF, runQ_rt, runQ_nx, frz_d, frz_lst, frz_dat, frz_pl, res_d, res_pl, rv_val, rv_tup, rv_lst, orv_dat, orv_lst, ok_neg, ok_lstR, ok_chkL, lstAt, ok_mMet, ok_mMetF, ok_store, ok_mFor, forQ_nx, forQ_ct, forQ_bk, forQ_rt, ok_mLc, ok_mWk, wkOf_str, wkOf_list, wkOf_tuple, wkOf_pl, rsI_i, ok_rng1, ok_rng2, ok_rng3, rsI2_i, rsI3_i, ok_enu, ok_zip, seqOf_list, seqOf_tuple, seqOf_pl, ok_setE, ok_back, rs_s, ok_tx0, ok_tx1, ok_dic1, lst1_l, datAt, ok_sortK, ok_maxK, rd1_d, ok_mTgt, ok_isN, ok_maxD, gExt_l, gExt_t, gIns_0, gClr_0, gSorted_l, mVar, argOs, argO, ioSlots, lentSlots, apart, backEnv, allFlat, O.flat, flat, flats, wipeE, restE, ownFree, srcOk, asgT_nm, asgT_tp, asgTs_nil, asgTs_cons, Option.bind_some, opt_vB, opt_vI, gLt_i, gLe_i, gGt_i, gGe_i, gAdd_i, gAdd_t, gAdd_l, gAdd_s, gSub_i, gMul_i, gFdiv_i, gMod_i, gPow_i, gIx_l, gIx_t, gIx_s, gLen_l, gLen_t, gLen_s, gTuple_l, gTuple_t, gList_l, gList_t, gInt_i, gInt_b, gMax2_i, gMin2_i, gCut_l, gCut_t, gCut_s, gAll_l, gAny_l, gSum_l, gEq_i, gNe_i, gEq_b, gNe_b, gEqE_l, gNeE_l, gEqE_t, gNeE_t, gApp_1, gPopI_1, gStr_i, seqD_l, seqD_t, atI_0, List.cons_append, List.nil_append, List.length_cons, List.length_nil, List.replicate_succ, List.replicate_zero, Nat.reduceAdd, Nat.reduceSub, List.getElem?_cons_succ, List.getElem?_cons_zero, List.set_cons_succ, List.set_cons_zero, List.getElem?_nil, List.contains_cons, List.contains_nil, Bool.or_false, Bool.false_or, Bool.or_true, Bool.true_or, Bool.and_true, Bool.true_and, Bool.and_false, Bool.false_and, Nat.reduceBEq, List.isEmpty_nil, List.isEmpty_cons, Bool.not_true, Bool.not_false, List.all_cons, List.all_nil, List.any_cons, List.any_nil, Option.getD_some, Option.getD_none, decide_eq_true_eq, decide_eq_false_iff_not, Bool.true_eq_false, Bool.false_eq_true, true_implies, false_implies, true_and, and_true, false_and, and_false, implies_true, Bool.not_eq_true', Bool.not_eq_false', if_true, if_false, ite_true, ite_false, reduceCtorEq, forall_const, isi_bool_bool, isi_bool_int, isi_bool_str, isi_bool_list, isi_bool_tuple, isi_bool_none, isi_bool_dict, isi_int_bool, isi_int_int, isi_int_str, isi_int_list, isi_int_tuple, isi_int_none, isi_int_dict, isi_str_bool, isi_str_int, isi_str_str, isi_str_list, isi_str_tuple, isi_str_none, isi_str_dict, isi_list_bool, isi_list_int, isi_list_str, isi_list_list, isi_list_tuple, isi_list_none, isi_list_dict, isi_tuple_bool, isi_tuple_int, isi_tuple_str, isi_tuple_list, isi_tuple_tuple, isi_tuple_none, isi_tuple_dict, isi_dict_bool, isi_dict_int, isi_dict_str, isi_dict_list, isi_dict_tuple, isi_dict_none, isi_dict_dict, $ls,*])
theorem cutL_take {α : Type} {xs : List α} {k : Nat} : cutL xs none (some (k : Int)) = xs.take k := by
  unfold cutL
  show (xs.drop 0).take ((if (k : Int) < 0 then ((k : Int) + xs.length).toNat else min (k : Int).toNat xs.length) - 0) = _
  rw [if_neg (by omega)]
  simp
theorem gEq_iD {a b : Nat} : gEq (iD a) (iD b) = vB (decide (a = b)) := by
  unfold iD
  rw [gEq_i]
  congr 1
  rw [Bool.eq_iff_iff]
  simp only [decide_eq_true_eq]
  omega
theorem gEq_tD {a b : List Nat} : gEq (.tuple (a.map iD)) (tD b) = vB (decide (a = b)) := by
  have e := gEq_d (x := tD a) (y := tD b)
  rw [if_pos ⟨okd_tD, okd_tD⟩, eqv_dec pln_tD pln_tD tD_inj] at e
  exact e
theorem gNe_tD {a b : List Nat} : gNe (.tuple (a.map iD)) (tD b) = vB (!decide (a = b)) := by
  have e := gNe_d (x := tD a) (y := tD b)
  rw [if_pos ⟨okd_tD, okd_tD⟩, eqv_dec pln_tD pln_tD tD_inj] at e
  exact e
theorem gLen_tD {l : List Nat} : gLen [tD l] = vI l.length := by
  unfold tD
  rw [gLen_t, List.length_map]
theorem gCut_tD {l : List Nat} {k : Nat} : gCut (tD l) none (some (k : Int)) = some (.tup ((l.take k).map iD)) := by
  unfold tD
  rw [gCut_t, cutL_take, List.map_take]
theorem idxF_one {α : Type} {P : α → Bool} {ps : List α} {r : α} : idxF P 0 (ps ++ [r]) = idxF P 0 ps ++ (if P r = true then [ps.length] else []) := by
  rw [idxF_app]
  congr 1
  unfold idxF
  rw [Nat.zero_add]
  rfl
theorem at5_0 {a b c d e : D} : atI [a, b, c, d, e] 0 = some a := rfl
theorem at5_1 {a b c d e : D} : atI [a, b, c, d, e] 1 = some b := rfl
theorem at3_0 {a b c : D} : atI [a, b, c] 0 = some a := rfl
theorem at3_1 {a b c : D} : atI [a, b, c] 1 = some b := rfl
theorem at3_2 {a b c : D} : atI [a, b, c] 2 = some c := rfl
theorem keysOf_some {f : D → Option Int} {g : Nat → Int} : ∀ {l : List Nat}, (∀ k ∈ l, f (iD k) = some (g k)) → keysOf f (l.map iD) = some (l.map fun k => (iD k, g k))
  | [], _ => rfl
  | k :: l, h => by
    unfold keysOf
    rw [List.map_cons]
    simp only
    rw [h k (by simp), keysOf_some fun x hx => h x (List.mem_cons_of_mem _ hx)]
    rfl
theorem sortK_idx {g : Nat → Int} {l T : List Nat} (h : l.mergeSort (fun a b => decide (g a ≤ g b)) = T) : sortK (l.map fun k => (iD k, g k)) = T.map iD := by
  unfold sortK
  rw [PySem.W.dataLe_int fun p : D × Int => p.2]
  rw [← List.map_mergeSort (r := fun a b => decide (g a ≤ g b)) (fun a _ b _ => rfl), h, List.map_map]
  rfl
/-- what a house is, as far as recipes matter -/
def hoD (tsd tas : D) (rs : List Rc) : D := .tuple [tsd, .tuple (rs.map Rc.d), tas]
theorem s_all_by {tsd tas : D} {rs : List Rc} {n : Nat} {s : List Nat} (h2 : ∀ r ∈ rs, r.sp.length ≤ 2) (hl : rs.length ≤ 100) (hs : s.length ≤ 2) :
    Ok (f_all_by [some (.dat (hoD tsd tas rs)), some (.dat (tD s)), some (.dat (iD n))]) fun o e => o = .lst ((near rs n s).map iD) := by
  unfold f_all_by m_all_by hoD
  push_cast [at3_1]
  refine ok_forL (fun rest e => ∃ ps qs x4 x5, rs = ps ++ qs ∧ rest = enF ps.length (qs.map Rc.d) ∧ e = [some (.dat (hoD tsd tas rs)), some (.dat (tD s)), some (.dat (iD n)), some (.lst ((idxF (hit n s) 0 ps).map iD)), x4, x5]) ?_ ?_ ?_
  · rintro e ⟨ps, qs, x4, x5, h1, h3, rfl⟩
    cases qs with
    | cons q qs => rw [List.map_cons, enF_cons] at h3; cases h3
    | nil =>
      rw [List.append_nil] at h1
      subst h1
      have hk : keysOf (keyOf true 1 1 (hoD tsd tas rs)) ((idxF (hit n s) 0 rs).map iD) = some ((idxF (hit n s) 0 rs).map fun k => (iD k, -(((rs[k]?.map fun r => r.sp.length).getD 0 : Nat) : Int))) := keysOf_some fun k hk => by
        obtain ⟨i, h1, h3, _⟩ := (idxF_mem rs 0 k).mp hk
        obtain rfl : k = i := by omega
        unfold hoD keyOf iD
        simp only [at3_1]
        rw [atI_lt (by omega) (by simpa using h1)]
        simp only [Int.toNat_natCast, List.getElem_map]
        unfold Rc.d
        simp only [at5_1, tD]
        rw [List.getElem?_eq_getElem h1]
        simp [keyI]
      push_cast [hk, sortK_idx (near_sort h2)]
      have := idxF_len (P := hit n s) rs 0
      rw [slZ, List.length_map]; omega
  · rintro d ds e ⟨ps, qs, x4, x5, h1, h3, rfl⟩
    cases qs with
    | nil => cases h3
    | cons r qs =>
      rw [List.map_cons, enF_cons] at h3
      injection h3 with h3 h3'
      subst h3 h3'
      push_cast [hoD, Rc.d, at5_0, at5_1, gEq_iD, gLen_tD, gCut_tD, gEq_tD]
      have hlp : (idxF (hit n s) 0 ps).length ≤ 100 := by
        have := idxF_len (P := hit n s) ps 0
        have : ps.length ≤ rs.length := by rw [h1]; simp
        omega
      have next : ∀ b, hit n s r = b → ∃ ps' qs' x4 x5, rs = ps' ++ qs' ∧ enF (ps.length + 1) (qs.map Rc.d) = enF ps'.length (qs'.map Rc.d) ∧ [some (O.dat (hoD tsd tas rs)), some (.dat (tD s)), some (.dat (iD n)), some (.lst ((idxF (hit n s) 0 ps).map iD ++ (if b = true then [iD ps.length] else []))), some (.dat (iD ps.length)), some (.dat r.d)] = [some (.dat (hoD tsd tas rs)), some (.dat (tD s)), some (.dat (iD n)), some (.lst ((idxF (hit n s) 0 ps').map iD)), x4, x5] := by
        intro b hb
        refine ⟨ps ++ [r], qs, some (.dat (iD ps.length)), some (.dat r.d), by rw [h1]; simp, by rw [List.length_append]; rfl, ?_⟩
        rw [idxF_one, hb]
        cases b <;> simp
      have no : hit n s r = false → ∃ ps' qs' x4 x5, rs = ps' ++ qs' ∧ enF (ps.length + 1) (qs.map Rc.d) = enF ps'.length (qs'.map Rc.d) ∧ [some (O.dat (hoD tsd tas rs)), some (.dat (tD s)), some (.dat (iD n)), some (.lst ((idxF (hit n s) 0 ps).map iD)), some (.dat (iD ps.length)), some (.dat r.d)] = [some (.dat (hoD tsd tas rs)), some (.dat (tD s)), some (.dat (iD n)), some (.lst ((idxF (hit n s) 0 ps').map iD)), x4, x5] := by
        intro hb
        obtain ⟨ps', qs', y4, y5, g1, g2, g3⟩ := next false hb
        refine ⟨ps', qs', y4, y5, g1, g2, ?_⟩
        rw [if_neg (by simp), List.append_nil] at g3
        exact g3
      refine ⟨fun e1 => ⟨fun e2 => ⟨by rw [slZ, List.length_map]; omega, ?_⟩, fun e2 => ?_⟩, fun e1 => ?_⟩
      · exact next true (by unfold hit; simp [e1, e2])
      · exact no (by unfold hit; simp [e2])
      · exact no (by unfold hit; simp [e1])
  · exact ⟨[], rs, none, none, rfl, enumD_eq, rfl⟩
end Mi

set_option Elab.async false
set_option linter.all false
set_option maxRecDepth 20000
set_option maxHeartbeats 0
namespace Mi
open PySem PySem.Spec L2
local macro_rules
  | `(tactic| push_cast) => `(tactic| simp only [ok_ok, ok_ex, ok_stuck, ok_ret, ok_stk, ok_bnd, ok_ofO, opt_some, opt_none, opt_map, opt_bind, opt_ite, rb_b, ri_i, ro_d, ro_own, ro_pl, ok_mC, ok_bin, ok_isi, ok_tst, ok_and, ok_or, ok_not, ok_andV, ok_orV, ok_notV, ok_mif, ok_nil, ok_cons, ok_frz_d, ok_frz_pl, ok_frzAll_nil, ok_frzAll_cons, ok_tup, ok_lst, ok_no, ok_so, ok_sl, ok_cb, resAll_nil, resAll_cons, ok_call, ok_seq, seqQ_nx, seqQ_rt, seqQ_bk, seqQ_ct, ok_mEx, ok_mRet, ok_ite, ok_set, ok_setK_d, ok_setK_own, ok_setK_pl, ok_runF, runQ_rt, runQ_nx, frz_d, frz_lst, frz_dat, frz_pl, res_d, res_pl, rv_val, rv_tup, rv_lst, orv_dat, orv_lst, ok_neg, ok_lstR, ok_chkL, lstAt, ok_mMet, ok_mMetF, ok_store, ok_mFor, forQ_nx, forQ_ct, forQ_bk, forQ_rt, ok_mLc, ok_mWk, wkOf_str, wkOf_list, wkOf_tuple, wkOf_pl, rsI_i, ok_rng1, ok_rng2, ok_rng3, rsI2_i, rsI3_i, ok_enu, ok_zip, seqOf_list, seqOf_tuple, seqOf_pl, ok_setE, ok_back, rs_s, ok_tx0, ok_tx1, ok_dic1, lst1_l, datAt, ok_sortK, ok_maxK, rd1_d, ok_mTgt, ok_isN, ok_maxD, gExt_l, gExt_t, gIns_0, gClr_0, gSorted_l, mVar, argOs, argO, ioSlots, lentSlots, apart, backEnv, allFlat, O.flat, flat, flats, wipeE, restE, ownFree, srcOk, asgT_nm, asgT_tp, asgTs_nil, asgTs_cons, Option.bind_some, opt_vB, opt_vI, gLt_i, gLe_i, gGt_i, gGe_i, gAdd_i, gAdd_t, gAdd_l, gAdd_s, gSub_i, gMul_i, gFdiv_i, gMod_i, gPow_i, gIx_l, gIx_t, gIx_s, gLen_l, gLen_t, gLen_s, gTuple_l, gTuple_t, gList_l, gList_t, gInt_i, gInt_b, gMax2_i, gMin2_i, gCut_l, gCut_t, gCut_s, gAll_l, gAny_l, gSum_l, gEq_i, gNe_i, gEq_b, gNe_b, gEqE_l, gNeE_l, gEqE_t, gNeE_t, gApp_1, gPopI_1, gStr_i, seqD_l, seqD_t, atI_0, List.cons_append, List.nil_append, List.length_cons, List.length_nil, List.replicate_succ, List.replicate_zero, Nat.reduceAdd, Nat.reduceSub, List.getElem?_cons_succ, List.getElem?_cons_zero, List.set_cons_succ, List.set_cons_zero, List.getElem?_nil, List.contains_cons, List.contains_nil, Bool.or_false, Bool.false_or, Bool.or_true, Bool.true_or, Bool.and_true, Bool.true_and, Bool.and_false, Bool.false_and, Nat.reduceBEq, List.isEmpty_nil, List.isEmpty_cons, Bool.not_true, Bool.not_false, List.all_cons, List.all_nil, List.any_cons, List.any_nil, Option.getD_some, Option.getD_none, decide_eq_true_eq, decide_eq_false_iff_not, Bool.true_eq_false, Bool.false_eq_true, true_implies, false_implies, true_and, and_true, false_and, and_false, implies_true, Bool.not_eq_true', Bool.not_eq_false', if_true, if_false, ite_true, ite_false, reduceCtorEq, forall_const, isi_bool_bool, isi_bool_int, isi_bool_str, isi_bool_list, isi_bool_tuple, isi_bool_none, isi_bool_dict, isi_int_bool, isi_int_int, isi_int_str, isi_int_list, isi_int_tuple, isi_int_none, isi_int_dict, isi_str_bool, isi_str_int, isi_str_str, isi_str_list, isi_str_tuple, isi_str_none, isi_str_dict, isi_list_bool, isi_list_int, isi_list_str, isi_list_list, isi_list_tuple, isi_list_none, isi_list_dict, isi_tuple_bool, isi_tuple_int, isi_tuple_str, isi_tuple_list, isi_tuple_tuple, isi_tuple_none, isi_tuple_dict, isi_dict_bool, isi_dict_int, isi_dict_str, isi_dict_list, isi_dict_tuple, isi_dict_none, isi_dict_dict])
  | `(tactic| push_cast [$ls,*]) => `(tactic| simp only [ok_ok, ok_ex, ok_stuck, ok_ret, ok_stk, ok_bnd, ok_ofO, opt_some, opt_none, opt_map, opt_bind, opt_ite, rb_b, ri_i, ro_d, ro_own, ro_pl, ok_mC, ok_bin, ok_isi, ok_tst, ok_and, ok_or, ok_not, ok_andV, ok_orV, ok_notV, ok_mif, ok_nil, ok_cons, ok_frz_d, ok_frz_pl, ok_frzAll_nil, ok_frzAll_cons, ok_tup, ok_lst, ok_no, ok_so, ok_sl, ok_cb, resAll_nil, resAll_cons, ok_call, ok_seq, seqQ_nx, seqQ_rt, seqQ_bk, seqQ_ct, ok_mEx, ok_mRet, ok_ite, ok_set, ok_setK_d, ok_setK_own, ok_setK_pl, ok_runF, runQ_rt, runQ_nx, frz_d, frz_lst, frz_dat, frz_pl, res_d, res_pl, rv_val, rv_tup, rv_lst, orv_dat, orv_lst, ok_neg, ok_lstR, ok_chkL, lstAt, ok_mMet, ok_mMetF, ok_store, ok_mFor, forQ_nx, forQ_ct, forQ_bk, forQ_rt, ok_mLc, ok_mWk, wkOf_str, wkOf_list, wkOf_tuple, wkOf_pl, rsI_i, ok_rng1, ok_rng2, ok_rng3, rsI2_i, rsI3_i, ok_enu, ok_zip, seqOf_list, seqOf_tuple, seqOf_pl, ok_setE, ok_back, rs_s, ok_tx0, ok_tx1, ok_dic1, lst1_l, datAt, ok_sortK, ok_maxK, rd1_d, ok_mTgt, ok_isN, ok_maxD, gExt_l, gExt_t, gIns_0, gClr_0, gSorted_l, mVar, argOs, argO, ioSlots, lentSlots, apart, backEnv, allFlat, O.flat, flat, flats, wipeE, restE, ownFree, srcOk, asgT_nm, asgT_tp, asgTs_nil, asgTs_cons, Option.bind_some, opt_vB, opt_vI, gLt_i, gLe_i, gGt_i, gGe_i, gAdd_i, gAdd_t, gAdd_l, gAdd_s, gSub_i, gMul_i, gFdiv_i, gMod_i, gPow_i, gIx_l, gIx_t, gIx_s, gLen_l, gLen_t, gLen_s, gTuple_l, gTuple_t, gList_l, gList_t, gInt_i, gInt_b, gMax2_i, gMin2_i, gCut_l, gCut_t, gCut_s, gAll_l, gAny_l, gSum_l, gEq_i, gNe_i, gEq_b, gNe_b, gEqE_l, gNeE_l, gEqE_t, gNeE_t, gApp_1, gPopI_1, gStr_i, seqD_l, seqD_t, atI_0, List.cons_append, List.nil_append, List.length_cons, List.length_nil, List.replicate_succ, List.replicate_zero, Nat.reduceAdd, Nat.reduceSub, List.getElem?_cons_succ, List.getElem?_cons_zero, List.set_cons_succ, List.set_cons_zero, List.getElem?_nil, List.contains_cons, List.contains_nil, Bool.or_false, Bool.false_or, Bool.or_true, Bool.true_or, Bool.and_true, Bool.true_and, Bool.and_false, Bool.false_and, Nat.reduceBEq, List.isEmpty_nil, List.isEmpty_cons, Bool.not_true, Bool.not_false, List.all_cons, List.all_nil, List.any_cons, List.any_nil, Option.getD_some, Option.getD_none, decide_eq_true_eq, decide_eq_false_iff_not, Bool.true_eq_false, Bool.false_eq_true, true_implies, false_implies, true_and, and_true, false_and, and_false, implies_true, Bool.not_eq_true', Bool.not_eq_false', if_true, if_false, ite_true, ite_false, reduceCtorEq, forall_const, isi_bool_bool, isi_bool_int, isi_bool_str, isi_bool_list, isi_bool_tuple, isi_bool_none, isi_bool_dict, isi_int_bool, isi_int_int, isi_int_str, isi_int_list, isi_int_tuple, isi_int_none, isi_int_dict, isi_str_bool, isi_str_int, isi_str_str, isi_str_list, isi_str_tuple, isi_str_none, isi_str_dict, isi_list_bool, isi_list_int, isi_list_str, isi_list_list, isi_list_tuple, isi_list_none, isi_list_dict, isi_tuple_bool, isi_tuple_int, isi_tuple_str, isi_tuple_list, isi_tuple_tuple, isi_tuple_none, isi_tuple_dict, isi_dict_bool, isi_dict_int, isi_dict_str, isi_dict_list, isi_dict_tuple, isi_dict_none, isi_dict_dict, $ls,*])
def optD : Option Nat → D
  | none => .none
  | some k => iD k
theorem flat_optD {o : Option Nat} : flat (optD o) = true := by cases o <;> rfl
theorem s_first' {l : List Nat} : Ok (f_first_of [some (.dat (.list (l.map iD)))]) fun o e => o = .dat (optD l.head?) := by
  unfold f_first_of m_first_of
  cases l with
  | nil => push_cast [List.map_nil]; exact ⟨fun _ => rfl, fun h => absurd rfl h⟩
  | cons k l => push_cast [List.map_cons]; exact ⟨fun h => absurd h (by omega), fun _ => rfl⟩
def spLen (rs : List Rc) (k : Nat) : Nat := (rs[k]?.map fun r => r.sp.length).getD 0
/-- where a need of r is found -/
def need (rs : List Rc) (r : Rc) (nm : Nat) : Option Nat := if nm = r.nm then ((near rs nm r.sp).filter fun k => decide (spLen rs k < r.sp.length)).head? else (near rs nm r.sp).head?
def nds (rs : List Rc) (r : Rc) : List (Option Nat) := r.nd.map (need rs r)
theorem near_lt_len {rs : List Rc} {n k : Nat} {s : List Nat} (h : k ∈ near rs n s) : k < rs.length := by
  unfold near at h
  have key : ∀ L, k ∈ idxF (atL n s L) 0 rs → k < rs.length := fun L h => by
    obtain ⟨i, h1, h2, _⟩ := (idxF_mem rs 0 k).mp h
    omega
  rcases List.mem_append.mp h with h | h
  · rcases List.mem_append.mp h with h | h
    · exact key 2 h
    · exact key 1 h
  · exact key 0 h
theorem near_len' {rs : List Rc} {n : Nat} {s : List Nat} : (near rs n s).length ≤ 3 * rs.length := by
  unfold near
  have a := idxF_len (P := atL n s 2) rs 0
  have b := idxF_len (P := atL n s 1) rs 0
  have c := idxF_len (P := atL n s 0) rs 0
  simp only [List.length_append]
  omega
theorem at_rc {rs : List Rc} {k : Nat} (h : k < rs.length) : atI (rs.map Rc.d) (k : Int) = some (rs[k].d) := by
  rw [atI_lt (by omega) (by simpa using h)]
  simp
def ltK (rs : List Rc) (n : Nat) : D → Bool
  | .int k => decide (spLen rs k.toNat < n)
  | _ => false
theorem filt_iD {rs : List Rc} {n : Nat} {l : List Nat} : ((l.map iD).filter (ltK rs n)).map (fun x => x) = (l.filter fun k => decide (spLen rs k < n)).map iD := by
  induction l with
  | nil => rfl
  | cons k l ih =>
    rw [List.map_cons]
    have e : ltK rs n (iD k) = decide (spLen rs k < n) := by unfold iD ltK; simp
    by_cases q : spLen rs k < n
    · have q' : decide (spLen rs k < n) = true := decide_eq_true q
      rw [List.filter_cons_of_pos (by rw [e]; exact q'), List.filter_cons_of_pos (p := fun k => decide (spLen rs k < n)) q', List.map_cons, List.map_cons, ih]
    · have q' : decide (spLen rs k < n) = false := decide_eq_false q
      rw [List.filter_cons_of_neg (by rw [e, q']; simp), List.filter_cons_of_neg (p := fun k => decide (spLen rs k < n)) (by rw [q']; simp), ih]
theorem wkOf_tD {js : List Nat} {l : List Nat} {env : Env} : wkOf js env (.d (tD l)) = some ⟨l.map iD, none⟩ := rfl
theorem s_needs_by {tsd tas : D} {rs : List Rc} {k : Nat} (hk : k < rs.length) (h2 : ∀ r ∈ rs, r.sp.length ≤ 2) (hl : rs.length ≤ 100) (hn : ∀ r ∈ rs, r.nd.length ≤ 3) :
    Ok (f_needs_by [some (.dat (hoD tsd tas rs)), some (.dat (iD k))]) fun o e => o = .dat (.tuple ((nds rs rs[k]).map optD)) := by
  have hr := List.getElem_mem hk
  generalize er : rs[k] = r at hr
  have ea := at_rc hk
  rw [er] at ea
  unfold f_needs_by m_needs_by hoD
  push_cast [at3_1, iD, ea, Rc.d, wkOf_tD]
  have ei : ∀ m : Nat, PyData.int (m : Int) = iD m := fun _ => rfl
  simp only [ei]
  have hs2 := h2 r hr
  have hnr := hn r hr
  have H : PyData.tuple [tsd, PyData.tuple (List.map Rc.d rs), tas] = hoD tsd tas rs := rfl
  rw [H]
  refine ok_forL (fun rest e => ∃ (ps qs : List Nat) (x8 x9 : Option O), r.nd = ps ++ qs ∧ rest = qs.map iD ∧ e = [some (.dat (hoD tsd tas rs)), some (.dat (iD k)), some (.dat (iD r.nm)), some (.dat (tD r.sp)), some (.dat (iD r.ap)), some (.dat (iD r.kp)), some (.dat (tD r.nd)), some (.lst ((ps.map (need rs r)).map optD)), x8, x9, none]) ?_ ?_ ?_
  · rintro e ⟨ps, qs, x8, x9, h1, h3, rfl⟩
    cases qs with
    | cons q qs => cases h3
    | nil =>
      push_cast
      rw [List.append_nil] at h1
      unfold nds
      rw [h1]
  · rintro d ds e ⟨ps, qs, x8, x9, h1, h3, rfl⟩
    cases qs with
    | nil => cases h3
    | cons q qs =>
      injection h3 with h3 h3'
      subst h3 h3'
      push_cast
      refine (s_all_by (rs := rs) (n := q) (s := r.sp) h2 hl hs2).mono ?_
      rintro _ e rfl
      push_cast [gEq_iD]
      have hlen : ps.length + 1 ≤ 3 := by
        have := congrArg List.length h1
        simp at this
        omega
      have hnl := near_len' (rs := rs) (n := q) (s := r.sp)
      refine ⟨fun eq => ?_, fun neq => ?_⟩
      · refine ⟨by rw [slZ, List.length_map]; omega, ?_⟩
        refine ok_lcP (ltK rs r.sp.length) (fun x => x) (srcOk_at rfl (emDs_of _ (noDs_map fun _ => noD_iD))) ?_ ?_
        · intro d hd
          obtain ⟨j, hj, rfl⟩ := List.mem_map.mp hd
          have hjl := near_lt_len hj
          have ej := at_rc hjl
          unfold hoD
          push_cast [at3_1, iD, ej, Rc.d, at5_1, gLen_tD]
          unfold ltK spLen
          simp only [Int.toNat_natCast]
          have e8 : (Option.map (fun r => r.sp.length) rs[j]?).getD 0 = rs[j].sp.length := by rw [List.getElem?_eq_getElem hjl]; rfl
          rw [Bool.eq_iff_iff]
          simp only [decide_eq_true_eq]
          have e7 : (Option.map (fun r => r.sp.length) rs[(j : Int).toNat]?).getD 0 = rs[j].sp.length := by rw [Int.toNat_natCast]; exact e8
          simp only [Int.toNat_natCast] at e7
          simp only [e8]
          omega
        · rw [filt_iD]
          push_cast
          refine s_first'.mono ?_
          rintro _ e rfl
          push_cast [List.length_map]
          refine ⟨flat_optD, by rw [slZ]; omega, ps ++ [q], qs, some (.dat (iD q)), some (.lst (List.map iD (List.filter (fun k => decide (spLen rs k < r.sp.length)) (near rs q r.sp)))), by rw [h1]; simp, rfl, ?_⟩
          rw [List.map_append, List.map_append]
          have e9 : need rs r q = (List.filter (fun k => decide (spLen rs k < r.sp.length)) (near rs q r.sp)).head? := by unfold need; rw [if_pos eq]
          simp only [List.map_cons, List.map_nil, e9]
      · refine s_first'.mono ?_
        rintro _ e rfl
        push_cast [List.length_map]
        refine ⟨flat_optD, by rw [slZ]; omega, ps ++ [q], qs, some (.dat (iD q)), some (.lst ((near rs q r.sp).map iD)), by rw [h1]; simp, rfl, ?_⟩
        rw [List.map_append, List.map_append]
        have e9 : need rs r q = (near rs q r.sp).head? := by unfold need; rw [if_neg neq]
        simp only [List.map_cons, List.map_nil, e9]
  · exact ⟨[], r.nd, none, none, rfl, rfl, rfl⟩
end Mi

set_option Elab.async false
set_option linter.all false
set_option maxRecDepth 20000
set_option maxHeartbeats 0
namespace Mi
open PySem PySem.Spec L2
local macro_rules
  | `(tactic| push_cast) => `(tactic| simp only [ok_ok, ok_ex, ok_stuck, ok_ret, ok_stk, ok_bnd, ok_ofO, opt_some, opt_none, opt_map, opt_bind, opt_ite, rb_b, ri_i, ro_d, ro_own, ro_pl, ok_mC, ok_bin, ok_isi, ok_tst, ok_and, ok_or, ok_not, ok_andV, ok_orV, ok_notV, ok_mif, ok_nil, ok_cons, ok_frz_d, ok_frz_pl, ok_frzAll_nil, ok_frzAll_cons, ok_tup, ok_lst, ok_no, ok_so, ok_sl, ok_cb, resAll_nil, resAll_cons, ok_call, ok_seq, seqQ_nx, seqQ_rt, seqQ_bk, seqQ_ct, ok_mEx, ok_mRet, ok_ite, ok_set, ok_setK_d, ok_setK_own, ok_setK_pl, ok_runF, runQ_rt, runQ_nx, frz_d, frz_lst, frz_dat, frz_pl, res_d, res_pl, rv_val, rv_tup, rv_lst, orv_dat, orv_lst, ok_neg, ok_lstR, ok_chkL, lstAt, ok_mMet, ok_mMetF, ok_store, ok_mFor, forQ_nx, forQ_ct, forQ_bk, forQ_rt, ok_mLc, ok_mWk, wkOf_str, wkOf_list, wkOf_tuple, wkOf_pl, rsI_i, ok_rng1, ok_rng2, ok_rng3, rsI2_i, rsI3_i, ok_enu, ok_zip, seqOf_list, seqOf_tuple, seqOf_pl, ok_setE, ok_back, rs_s, ok_tx0, ok_tx1, ok_dic1, lst1_l, datAt, ok_sortK, ok_maxK, rd1_d, ok_mTgt, ok_isN, ok_maxD, gExt_l, gExt_t, gIns_0, gClr_0, gSorted_l, mVar, argOs, argO, ioSlots, lentSlots, apart, backEnv, allFlat, O.flat, flat, flats, wipeE, restE, ownFree, srcOk, asgT_nm, asgT_tp, asgTs_nil, asgTs_cons, Option.bind_some, opt_vB, opt_vI, gLt_i, gLe_i, gGt_i, gGe_i, gAdd_i, gAdd_t, gAdd_l, gAdd_s, gSub_i, gMul_i, gFdiv_i, gMod_i, gPow_i, gIx_l, gIx_t, gIx_s, gLen_l, gLen_t, gLen_s, gTuple_l, gTuple_t, gList_l, gList_t, gInt_i, gInt_b, gMax2_i, gMin2_i, gCut_l, gCut_t, gCut_s, gAll_l, gAny_l, gSum_l, gEq_i, gNe_i, gEq_b, gNe_b, gEqE_l, gNeE_l, gEqE_t, gNeE_t, gApp_1, gPopI_1, gStr_i, seqD_l, seqD_t, atI_0, List.cons_append, List.nil_append, List.length_cons, List.length_nil, List.replicate_succ, List.replicate_zero, Nat.reduceAdd, Nat.reduceSub, List.getElem?_cons_succ, List.getElem?_cons_zero, List.set_cons_succ, List.set_cons_zero, List.getElem?_nil, List.contains_cons, List.contains_nil, Bool.or_false, Bool.false_or, Bool.or_true, Bool.true_or, Bool.and_true, Bool.true_and, Bool.and_false, Bool.false_and, Nat.reduceBEq, List.isEmpty_nil, List.isEmpty_cons, Bool.not_true, Bool.not_false, List.all_cons, List.all_nil, List.any_cons, List.any_nil, Option.getD_some, Option.getD_none, decide_eq_true_eq, decide_eq_false_iff_not, Bool.true_eq_false, Bool.false_eq_true, true_implies, false_implies, true_and, and_true, false_and, and_false, implies_true, Bool.not_eq_true', Bool.not_eq_false', if_true, if_false, ite_true, ite_false, reduceCtorEq, forall_const, isi_bool_bool, isi_bool_int, isi_bool_str, isi_bool_list, isi_bool_tuple, isi_bool_none, isi_bool_dict, isi_int_bool, isi_int_int, isi_int_str, isi_int_list, isi_int_tuple, isi_int_none, isi_int_dict, isi_str_bool, isi_str_int, isi_str_str, isi_str_list, isi_str_tuple, isi_str_none, isi_str_dict, isi_list_bool, isi_list_int, isi_list_str, isi_list_list, isi_list_tuple, isi_list_none, isi_list_dict, isi_tuple_bool, isi_tuple_int, isi_tuple_str, isi_tuple_list, isi_tuple_tuple, isi_tuple_none, isi_tuple_dict, isi_dict_bool, isi_dict_int, isi_dict_str, isi_dict_list, isi_dict_tuple, isi_dict_none, isi_dict_dict])
  | `(tactic| push_cast [$ls,*]) => `(tactic| simp only [ok_ok, ok_ex, ok_stuck, ok_ret, ok_stk, ok_bnd, ok_ofO, opt_some, opt_none, opt_map, opt_bind, opt_ite, rb_b, ri_i, ro_d, ro_own, ro_pl, ok_mC, ok_bin, ok_isi, ok_tst, ok_and, ok_or, ok_not, ok_andV, ok_orV, ok_notV, ok_mif, ok_nil, ok_cons, ok_frz_d, ok_frz_pl, ok_frzAll_nil, ok_frzAll_cons, ok_tup, ok_lst, ok_no, ok_so, ok_sl, ok_cb, resAll_nil, resAll_cons, ok_call, ok_seq, seqQ_nx, seqQ_rt, seqQ_bk, seqQ_ct, ok_mEx, ok_mRet, ok_ite, ok_set, ok_setK_d, ok_setK_own, ok_setK_pl, ok_runF, runQ_rt, runQ_nx, frz_d, frz_lst, frz_dat, frz_pl, res_d, res_pl, rv_val, rv_tup, rv_lst, orv_dat, orv_lst, ok_neg, ok_lstR, ok_chkL, lstAt, ok_mMet, ok_mMetF, ok_store, ok_mFor, forQ_nx, forQ_ct, forQ_bk, forQ_rt, ok_mLc, ok_mWk, wkOf_str, wkOf_list, wkOf_tuple, wkOf_pl, rsI_i, ok_rng1, ok_rng2, ok_rng3, rsI2_i, rsI3_i, ok_enu, ok_zip, seqOf_list, seqOf_tuple, seqOf_pl, ok_setE, ok_back, rs_s, ok_tx0, ok_tx1, ok_dic1, lst1_l, datAt, ok_sortK, ok_maxK, rd1_d, ok_mTgt, ok_isN, ok_maxD, gExt_l, gExt_t, gIns_0, gClr_0, gSorted_l, mVar, argOs, argO, ioSlots, lentSlots, apart, backEnv, allFlat, O.flat, flat, flats, wipeE, restE, ownFree, srcOk, asgT_nm, asgT_tp, asgTs_nil, asgTs_cons, Option.bind_some, opt_vB, opt_vI, gLt_i, gLe_i, gGt_i, gGe_i, gAdd_i, gAdd_t, gAdd_l, gAdd_s, gSub_i, gMul_i, gFdiv_i, gMod_i, gPow_i, gIx_l, gIx_t, gIx_s, gLen_l, gLen_t, gLen_s, gTuple_l, gTuple_t, gList_l, gList_t, gInt_i, gInt_b, gMax2_i, gMin2_i, gCut_l, gCut_t, gCut_s, gAll_l, gAny_l, gSum_l, gEq_i, gNe_i, gEq_b, gNe_b, gEqE_l, gNeE_l, gEqE_t, gNeE_t, gApp_1, gPopI_1, gStr_i, seqD_l, seqD_t, atI_0, List.cons_append, List.nil_append, List.length_cons, List.length_nil, List.replicate_succ, List.replicate_zero, Nat.reduceAdd, Nat.reduceSub, List.getElem?_cons_succ, List.getElem?_cons_zero, List.set_cons_succ, List.set_cons_zero, List.getElem?_nil, List.contains_cons, List.contains_nil, Bool.or_false, Bool.false_or, Bool.or_true, Bool.true_or, Bool.and_true, Bool.true_and, Bool.and_false, Bool.false_and, Nat.reduceBEq, List.isEmpty_nil, List.isEmpty_cons, Bool.not_true, Bool.not_false, List.all_cons, List.all_nil, List.any_cons, List.any_nil, Option.getD_some, Option.getD_none, decide_eq_true_eq, decide_eq_false_iff_not, Bool.true_eq_false, Bool.false_eq_true, true_implies, false_implies, true_and, and_true, false_and, and_false, implies_true, Bool.not_eq_true', Bool.not_eq_false', if_true, if_false, ite_true, ite_false, reduceCtorEq, forall_const, isi_bool_bool, isi_bool_int, isi_bool_str, isi_bool_list, isi_bool_tuple, isi_bool_none, isi_bool_dict, isi_int_bool, isi_int_int, isi_int_str, isi_int_list, isi_int_tuple, isi_int_none, isi_int_dict, isi_str_bool, isi_str_int, isi_str_str, isi_str_list, isi_str_tuple, isi_str_none, isi_str_dict, isi_list_bool, isi_list_int, isi_list_str, isi_list_list, isi_list_tuple, isi_list_none, isi_list_dict, isi_tuple_bool, isi_tuple_int, isi_tuple_str, isi_tuple_list, isi_tuple_tuple, isi_tuple_none, isi_tuple_dict, isi_dict_bool, isi_dict_int, isi_dict_str, isi_dict_list, isi_dict_tuple, isi_dict_none, isi_dict_dict, $ls,*])
theorem argBest_spec (key : Nat → Int) : ∀ m, argBest (fun a b => decide (key b < key a)) m ≤ m ∧ ∀ j ≤ m, key j ≤ key (argBest (fun a b => decide (key b < key a)) m) ∧ (j < argBest (fun a b => decide (key b < key a)) m → key j < key (argBest (fun a b => decide (key b < key a)) m))
  | 0 => by
    refine ⟨Nat.le_refl _, fun j hj => ?_⟩
    obtain rfl : j = 0 := by omega
    exact ⟨Int.le_refl _, fun h => absurd h (Nat.not_lt_zero _)⟩
  | m + 1 => by
    obtain ⟨h1, h2⟩ := argBest_spec key m
    unfold argBest
    by_cases h : key (argBest (fun a b => decide (key b < key a)) m) < key (m + 1)
    · simp only [h, decide_true, if_true]
      refine ⟨Nat.le_refl _, fun j hj => ?_⟩
      by_cases e : j = m + 1
      · subst e; exact ⟨Int.le_refl _, fun h => absurd h (Nat.lt_irrefl _)⟩
      · have := (h2 j (by omega)).1
        exact ⟨by omega, fun _ => by omega⟩
    · simp only [h, decide_false, Bool.false_eq_true, if_false]
      refine ⟨by omega, fun j hj => ?_⟩
      by_cases e : j = m + 1
      · subst e; exact ⟨by omega, fun h3 => absurd h3 (by omega)⟩
      · exact h2 j (by omega)
theorem near_pw {rs : List Rc} {n : Nat} {s : List Nat} : (near rs n s).Pairwise (Rk fun a => -((spLen rs a : Nat) : Int)) := by
  have key : ∀ {L j}, j ∈ idxF (atL n s L) 0 rs → spLen rs j = L := fun {L j} hj => by
    obtain ⟨i, h1, h3, h4⟩ := (idxF_mem rs 0 j).mp hj
    obtain rfl : j = i := by omega
    unfold atL at h4
    simp only [decide_eq_true_eq] at h4
    unfold spLen
    rw [List.getElem?_eq_getElem h1]
    exact h4.2.1
  unfold near
  have inc : ∀ L, (idxF (atL n s L) 0 rs).Pairwise (Rk fun a => -((spLen rs a : Nat) : Int)) := fun L => by
    refine List.Pairwise.imp_of_mem (fun {a b} ha hb h => ?_) (idxF_inc rs 0)
    refine .inr ⟨?_, h⟩
    simp only
    rw [key ha, key hb]
  rw [List.pairwise_append, List.pairwise_append]
  refine ⟨⟨inc 2, inc 1, fun a ha b hb => .inl ?_⟩, inc 0, fun a ha b hb => .inl ?_⟩
  · simp only
    rw [key ha, key hb]; omega
  · simp only
    rw [key hb]
    rcases List.mem_append.mp ha with ha | ha
    · rw [key ha]; omega
    · rw [key ha]; omega
theorem near_mem {rs : List Rc} {n k : Nat} {s : List Nat} (h2 : ∀ r ∈ rs, r.sp.length ≤ 2) : k ∈ near rs n s ↔ ∃ h : k < rs.length, rs[k].nm = n ∧ s.take rs[k].sp.length = rs[k].sp := by
  have hL : ∀ L, k ∈ idxF (atL n s L) 0 rs ↔ ∃ h : k < rs.length, rs[k].nm = n ∧ rs[k].sp.length = L ∧ rs[k].sp = s.take L := fun L => by
    rw [idxF_mem]
    constructor
    · rintro ⟨i, h1, h3, h4⟩
      obtain rfl : k = i := by omega
      unfold atL at h4
      exact ⟨h1, by simpa using h4⟩
    · rintro ⟨h, h4⟩
      refine ⟨k, h, by omega, ?_⟩
      unfold atL
      simpa using h4
  unfold near
  rw [List.mem_append, List.mem_append, hL, hL, hL]
  constructor
  · rintro ((⟨h, a, b, c⟩ | ⟨h, a, b, c⟩) | ⟨h, a, b, c⟩) <;> exact ⟨h, a, by rw [b]; exact c.symm⟩
  · rintro ⟨h, a, b⟩
    have := h2 _ (List.getElem_mem h)
    have e : rs[k].sp.length = 2 ∨ rs[k].sp.length = 1 ∨ rs[k].sp.length = 0 := by omega
    rcases e with e | e | e
    · exact .inl (.inl ⟨h, a, e, by rw [e] at b; exact b.symm⟩)
    · exact .inl (.inr ⟨h, a, e, by rw [e] at b; exact b.symm⟩)
    · exact .inr ⟨h, a, e, by rw [e] at b; exact b.symm⟩
/-- the first greatest of rising places is the head of the nearest ones -/
theorem max_near {rs : List Rc} {n M : Nat} {s : List Nat} {l : List Nat} (hl : l.Pairwise (· < ·)) (h2 : ∀ r ∈ rs, r.sp.length ≤ 2) (hm : ∀ k, k ∈ l ↔ k ∈ (near rs n s).filter fun k => decide (spLen rs k < M)) :
    maxK (l.map fun k => (iD k, ((spLen rs k : Nat) : Int))) = optD ((near rs n s).filter fun k => decide (spLen rs k < M)).head? := by
  cases hq : (near rs n s).filter fun k => decide (spLen rs k < M) with
  | nil =>
    have e : l = [] := List.eq_nil_iff_forall_not_mem.mpr fun k hk => by
      have := (hm k).mp hk
      rw [hq] at this
      cases this
    subst e
    rfl
  | cons h t =>
    have hh : h ∈ l := (hm h).mpr (by rw [hq]; simp)
    have pos : 0 < l.length := List.length_pos_of_mem hh
    have hk : ∀ j (hj : j < l.length), keyAt (l.map fun k => (iD k, ((spLen rs k : Nat) : Int))) j = ((spLen rs l[j] : Nat) : Int) := fun j hj => by
      unfold keyAt
      rw [List.getElem?_map, List.getElem?_eq_getElem hj]
      rfl
    obtain ⟨b1, b2⟩ := argBest_spec (keyAt (l.map fun k => (iD k, ((spLen rs k : Nat) : Int)))) (l.length - 1)
    unfold maxK
    rw [List.length_map]
    generalize argBest (fun a b => decide (keyAt (l.map fun k => (iD k, ((spLen rs k : Nat) : Int))) b < keyAt (l.map fun k => (iD k, ((spLen rs k : Nat) : Int))) a)) (l.length - 1) = i at b1 b2
    have hi : i < l.length := by omega
    rw [List.getElem?_map, List.getElem?_eq_getElem hi]
    show iD l[i] = iD h
    rw [iD_inj]
    obtain ⟨j, hj, ej⟩ := List.mem_iff_getElem.mp hh
    have b3 := b2 j (by omega)
    rw [hk j hj, hk i hi, ej] at b3
    -- h is the least by Rk
    have pw : (h :: t).Pairwise (Rk fun a => -((spLen rs a : Nat) : Int)) := by
      rw [← hq]
      exact near_pw.filter _
    have mi : l[i] ∈ h :: t := by
      rw [← hq]
      exact (hm _).mp (List.getElem_mem hi)
    rcases List.mem_cons.mp mi with e | e
    · exact e
    · exfalso
      rcases (List.pairwise_cons.mp pw).1 _ e with r | ⟨r1, r2⟩
      · simp only at r
        omega
      · simp only at r1
        have hji : j < i := by
          apply Classical.byContradiction
          intro hn
          by_cases e2 : i = j
          · subst e2; omega
          · have := List.pairwise_iff_getElem.mp hl i j hi hj (by omega)
            omega
        have := b3.2 hji
        omega
end Mi

set_option Elab.async false
set_option linter.all false
set_option maxRecDepth 20000
set_option maxHeartbeats 0
namespace Mi
open PySem PySem.Spec L2
local macro_rules
  | `(tactic| push_cast) => `(tactic| simp only [ok_ok, ok_ex, ok_stuck, ok_ret, ok_stk, ok_bnd, ok_ofO, opt_some, opt_none, opt_map, opt_bind, opt_ite, rb_b, ri_i, ro_d, ro_own, ro_pl, ok_mC, ok_bin, ok_isi, ok_tst, ok_and, ok_or, ok_not, ok_andV, ok_orV, ok_notV, ok_mif, ok_nil, ok_cons, ok_frz_d, ok_frz_pl, ok_frzAll_nil, ok_frzAll_cons, ok_tup, ok_lst, ok_no, ok_so, ok_sl, ok_cb, resAll_nil, resAll_cons, ok_call, ok_seq, seqQ_nx, seqQ_rt, seqQ_bk, seqQ_ct, ok_mEx, ok_mRet, ok_ite, ok_set, ok_setK_d, ok_setK_own, ok_setK_pl, ok_runF, runQ_rt, runQ_nx, frz_d, frz_lst, frz_dat, frz_pl, res_d, res_pl, rv_val, rv_tup, rv_lst, orv_dat, orv_lst, ok_neg, ok_lstR, ok_chkL, lstAt, ok_mMet, ok_mMetF, ok_store, ok_mFor, forQ_nx, forQ_ct, forQ_bk, forQ_rt, ok_mLc, ok_mWk, wkOf_str, wkOf_list, wkOf_tuple, wkOf_pl, rsI_i, ok_rng1, ok_rng2, ok_rng3, rsI2_i, rsI3_i, ok_enu, ok_zip, seqOf_list, seqOf_tuple, seqOf_pl, ok_setE, ok_back, rs_s, ok_tx0, ok_tx1, ok_dic1, lst1_l, datAt, ok_sortK, ok_maxK, rd1_d, ok_mTgt, ok_isN, ok_maxD, gExt_l, gExt_t, gIns_0, gClr_0, gSorted_l, mVar, argOs, argO, ioSlots, lentSlots, apart, backEnv, allFlat, O.flat, flat, flats, wipeE, restE, ownFree, srcOk, asgT_nm, asgT_tp, asgTs_nil, asgTs_cons, Option.bind_some, opt_vB, opt_vI, gLt_i, gLe_i, gGt_i, gGe_i, gAdd_i, gAdd_t, gAdd_l, gAdd_s, gSub_i, gMul_i, gFdiv_i, gMod_i, gPow_i, gIx_l, gIx_t, gIx_s, gLen_l, gLen_t, gLen_s, gTuple_l, gTuple_t, gList_l, gList_t, gInt_i, gInt_b, gMax2_i, gMin2_i, gCut_l, gCut_t, gCut_s, gAll_l, gAny_l, gSum_l, gEq_i, gNe_i, gEq_b, gNe_b, gEqE_l, gNeE_l, gEqE_t, gNeE_t, gApp_1, gPopI_1, gStr_i, seqD_l, seqD_t, atI_0, List.cons_append, List.nil_append, List.length_cons, List.length_nil, List.replicate_succ, List.replicate_zero, Nat.reduceAdd, Nat.reduceSub, List.getElem?_cons_succ, List.getElem?_cons_zero, List.set_cons_succ, List.set_cons_zero, List.getElem?_nil, List.contains_cons, List.contains_nil, Bool.or_false, Bool.false_or, Bool.or_true, Bool.true_or, Bool.and_true, Bool.true_and, Bool.and_false, Bool.false_and, Nat.reduceBEq, List.isEmpty_nil, List.isEmpty_cons, Bool.not_true, Bool.not_false, List.all_cons, List.all_nil, List.any_cons, List.any_nil, Option.getD_some, Option.getD_none, decide_eq_true_eq, decide_eq_false_iff_not, Bool.true_eq_false, Bool.false_eq_true, true_implies, false_implies, true_and, and_true, false_and, and_false, implies_true, Bool.not_eq_true', Bool.not_eq_false', if_true, if_false, ite_true, ite_false, reduceCtorEq, forall_const, isi_bool_bool, isi_bool_int, isi_bool_str, isi_bool_list, isi_bool_tuple, isi_bool_none, isi_bool_dict, isi_int_bool, isi_int_int, isi_int_str, isi_int_list, isi_int_tuple, isi_int_none, isi_int_dict, isi_str_bool, isi_str_int, isi_str_str, isi_str_list, isi_str_tuple, isi_str_none, isi_str_dict, isi_list_bool, isi_list_int, isi_list_str, isi_list_list, isi_list_tuple, isi_list_none, isi_list_dict, isi_tuple_bool, isi_tuple_int, isi_tuple_str, isi_tuple_list, isi_tuple_tuple, isi_tuple_none, isi_tuple_dict, isi_dict_bool, isi_dict_int, isi_dict_str, isi_dict_list, isi_dict_tuple, isi_dict_none, isi_dict_dict])
  | `(tactic| push_cast [$ls,*]) => `(tactic| simp only [ok_ok, ok_ex, ok_stuck, ok_ret, ok_stk, ok_bnd, ok_ofO, opt_some, opt_none, opt_map, opt_bind, opt_ite, rb_b, ri_i, ro_d, ro_own, ro_pl, ok_mC, ok_bin, ok_isi, ok_tst, ok_and, ok_or, ok_not, ok_andV, ok_orV, ok_notV, ok_mif, ok_nil, ok_cons, ok_frz_d, ok_frz_pl, ok_frzAll_nil, ok_frzAll_cons, ok_tup, ok_lst, ok_no, ok_so, ok_sl, ok_cb, resAll_nil, resAll_cons, ok_call, ok_seq, seqQ_nx, seqQ_rt, seqQ_bk, seqQ_ct, ok_mEx, ok_mRet, ok_ite, ok_set, ok_setK_d, ok_setK_own, ok_setK_pl, ok_runF, runQ_rt, runQ_nx, frz_d, frz_lst, frz_dat, frz_pl, res_d, res_pl, rv_val, rv_tup, rv_lst, orv_dat, orv_lst, ok_neg, ok_lstR, ok_chkL, lstAt, ok_mMet, ok_mMetF, ok_store, ok_mFor, forQ_nx, forQ_ct, forQ_bk, forQ_rt, ok_mLc, ok_mWk, wkOf_str, wkOf_list, wkOf_tuple, wkOf_pl, rsI_i, ok_rng1, ok_rng2, ok_rng3, rsI2_i, rsI3_i, ok_enu, ok_zip, seqOf_list, seqOf_tuple, seqOf_pl, ok_setE, ok_back, rs_s, ok_tx0, ok_tx1, ok_dic1, lst1_l, datAt, ok_sortK, ok_maxK, rd1_d, ok_mTgt, ok_isN, ok_maxD, gExt_l, gExt_t, gIns_0, gClr_0, gSorted_l, mVar, argOs, argO, ioSlots, lentSlots, apart, backEnv, allFlat, O.flat, flat, flats, wipeE, restE, ownFree, srcOk, asgT_nm, asgT_tp, asgTs_nil, asgTs_cons, Option.bind_some, opt_vB, opt_vI, gLt_i, gLe_i, gGt_i, gGe_i, gAdd_i, gAdd_t, gAdd_l, gAdd_s, gSub_i, gMul_i, gFdiv_i, gMod_i, gPow_i, gIx_l, gIx_t, gIx_s, gLen_l, gLen_t, gLen_s, gTuple_l, gTuple_t, gList_l, gList_t, gInt_i, gInt_b, gMax2_i, gMin2_i, gCut_l, gCut_t, gCut_s, gAll_l, gAny_l, gSum_l, gEq_i, gNe_i, gEq_b, gNe_b, gEqE_l, gNeE_l, gEqE_t, gNeE_t, gApp_1, gPopI_1, gStr_i, seqD_l, seqD_t, atI_0, List.cons_append, List.nil_append, List.length_cons, List.length_nil, List.replicate_succ, List.replicate_zero, Nat.reduceAdd, Nat.reduceSub, List.getElem?_cons_succ, List.getElem?_cons_zero, List.set_cons_succ, List.set_cons_zero, List.getElem?_nil, List.contains_cons, List.contains_nil, Bool.or_false, Bool.false_or, Bool.or_true, Bool.true_or, Bool.and_true, Bool.true_and, Bool.and_false, Bool.false_and, Nat.reduceBEq, List.isEmpty_nil, List.isEmpty_cons, Bool.not_true, Bool.not_false, List.all_cons, List.all_nil, List.any_cons, List.any_nil, Option.getD_some, Option.getD_none, decide_eq_true_eq, decide_eq_false_iff_not, Bool.true_eq_false, Bool.false_eq_true, true_implies, false_implies, true_and, and_true, false_and, and_false, implies_true, Bool.not_eq_true', Bool.not_eq_false', if_true, if_false, ite_true, ite_false, reduceCtorEq, forall_const, isi_bool_bool, isi_bool_int, isi_bool_str, isi_bool_list, isi_bool_tuple, isi_bool_none, isi_bool_dict, isi_int_bool, isi_int_int, isi_int_str, isi_int_list, isi_int_tuple, isi_int_none, isi_int_dict, isi_str_bool, isi_str_int, isi_str_str, isi_str_list, isi_str_tuple, isi_str_none, isi_str_dict, isi_list_bool, isi_list_int, isi_list_str, isi_list_list, isi_list_tuple, isi_list_none, isi_list_dict, isi_tuple_bool, isi_tuple_int, isi_tuple_str, isi_tuple_list, isi_tuple_tuple, isi_tuple_none, isi_tuple_dict, isi_dict_bool, isi_dict_int, isi_dict_str, isi_dict_list, isi_dict_tuple, isi_dict_none, isi_dict_dict, $ls,*])
def tF (n M : Nat) : D → Bool
  | .tuple [_, .tuple [a, .tuple sp, _, _, _]] => eqD a (iD n) && decide (sp.length < M)
  | _ => false
theorem eqD_dec' {x y : D} {p : Prop} [Decidable p] (hx : emD x = true) (h : x = y ↔ p) : eqD x y = decide p := by
  rw [Bool.eq_iff_iff, decide_eq_true_eq, ← h]
  exact ⟨eqD_eq x y, fun e => by rw [← e]; exact eqD_refl x hx⟩
theorem tF_rc {n M : Nat} {i : Nat} {r : Rc} : tF n M (.tuple [iD i, r.d]) = (decide (r.nm = n) && decide (r.sp.length < M)) := by
  unfold Rc.d tD
  show (eqD (iD r.nm) (iD n) && decide ((r.sp.map iD).length < M)) = _
  rw [eqD_dec' (emD_of _ noD_iD) iD_inj, List.length_map]
def fst2' : D → D
  | .tuple [a, _] => a
  | d => d
theorem enF_mem' {α : Type} {g : α → D} : ∀ {rs : List α} {k : Nat} {d : D}, d ∈ enF k (rs.map g) → ∃ i r, r ∈ rs ∧ d = .tuple [iD i, g r]
  | [], _, _, h => by cases h
  | r :: rs, k, d, h => by
    rw [List.map_cons, enF_cons] at h
    rcases List.mem_cons.mp h with rfl | h
    · exact ⟨k, r, by simp, rfl⟩
    · obtain ⟨i, q, h1, h2⟩ := enF_mem' h
      exact ⟨i, q, by simp [h1], h2⟩
def tkK (rs : List Rc) (s : List Nat) : D → Bool
  | .int k => match rs[k.toNat]? with
    | some r => decide (s.take r.sp.length = r.sp)
    | none => false
  | _ => false
theorem filt_gen {t : D → Bool} {p : Nat → Bool} {l : List Nat} (h : ∀ k ∈ l, t (iD k) = p k) : ((l.map iD).filter t).map (fun x => x) = (l.filter p).map iD := by
  induction l with
  | nil => rfl
  | cons k l ih =>
    have ih := ih fun x hx => h x (List.mem_cons_of_mem _ hx)
    rw [List.map_cons]
    have e := h k (by simp)
    cases q : p k with
    | true => rw [List.filter_cons_of_pos (by rw [e]; exact q), List.filter_cons_of_pos q, List.map_cons, List.map_cons, ih]
    | false => rw [List.filter_cons_of_neg (by rw [e, q]; simp), List.filter_cons_of_neg (by rw [q]; simp), ih]
theorem gLt_in {a b : Nat} : gLt (.int (a : Int)) (.int (b : Int)) = vB (decide (a < b)) := by
  rw [gLt_i]
  congr 1
  rw [Bool.eq_iff_iff]
  simp
theorem filt3 {rs : List Rc} {n : Nat} {s : List Nat} (h2 : ∀ r ∈ rs, r.sp.length ≤ 2) : (near rs n s).filter (fun k => decide (spLen rs k < 3)) = near rs n s := List.filter_eq_self.mpr fun k hk => by
  have h := near_lt_len hk
  unfold spLen
  rw [decide_eq_true_eq, List.getElem?_eq_getElem h]
  have := h2 _ (List.getElem_mem h)
  show rs[k].sp.length < 3
  omega
end Mi

set_option Elab.async false
set_option linter.all false
set_option maxRecDepth 20000
set_option maxHeartbeats 0
namespace Mi
open PySem PySem.Spec L2
local macro_rules
  | `(tactic| push_cast) => `(tactic| simp only [ok_ok, ok_ex, ok_stuck, ok_ret, ok_stk, ok_bnd, ok_ofO, opt_some, opt_none, opt_map, opt_bind, opt_ite, rb_b, ri_i, ro_d, ro_own, ro_pl, ok_mC, ok_bin, ok_isi, ok_tst, ok_and, ok_or, ok_not, ok_andV, ok_orV, ok_notV, ok_mif, ok_nil, ok_cons, ok_frz_d, ok_frz_pl, ok_frzAll_nil, ok_frzAll_cons, ok_tup, ok_lst, ok_no, ok_so, ok_sl, ok_cb, resAll_nil, resAll_cons, ok_call, ok_seq, seqQ_nx, seqQ_rt, seqQ_bk, seqQ_ct, ok_mEx, ok_mRet, ok_ite, ok_set, ok_setK_d, ok_setK_own, ok_setK_pl, ok_runF, runQ_rt, runQ_nx, frz_d, frz_lst, frz_dat, frz_pl, res_d, res_pl, rv_val, rv_tup, rv_lst, orv_dat, orv_lst, ok_neg, ok_lstR, ok_chkL, lstAt, ok_mMet, ok_mMetF, ok_store, ok_mFor, forQ_nx, forQ_ct, forQ_bk, forQ_rt, ok_mLc, ok_mWk, wkOf_str, wkOf_list, wkOf_tuple, wkOf_pl, rsI_i, ok_rng1, ok_rng2, ok_rng3, rsI2_i, rsI3_i, ok_enu, ok_zip, seqOf_list, seqOf_tuple, seqOf_pl, ok_setE, ok_back, rs_s, ok_tx0, ok_tx1, ok_dic1, lst1_l, datAt, ok_sortK, ok_maxK, rd1_d, ok_mTgt, ok_isN, ok_maxD, gExt_l, gExt_t, gIns_0, gClr_0, gSorted_l, mVar, argOs, argO, ioSlots, lentSlots, apart, backEnv, allFlat, O.flat, flat, flats, wipeE, restE, ownFree, srcOk, asgT_nm, asgT_tp, asgTs_nil, asgTs_cons, Option.bind_some, opt_vB, opt_vI, gLt_i, gLe_i, gGt_i, gGe_i, gAdd_i, gAdd_t, gAdd_l, gAdd_s, gSub_i, gMul_i, gFdiv_i, gMod_i, gPow_i, gIx_l, gIx_t, gIx_s, gLen_l, gLen_t, gLen_s, gTuple_l, gTuple_t, gList_l, gList_t, gInt_i, gInt_b, gMax2_i, gMin2_i, gCut_l, gCut_t, gCut_s, gAll_l, gAny_l, gSum_l, gEq_i, gNe_i, gEq_b, gNe_b, gEqE_l, gNeE_l, gEqE_t, gNeE_t, gApp_1, gPopI_1, gStr_i, seqD_l, seqD_t, atI_0, List.cons_append, List.nil_append, List.length_cons, List.length_nil, List.replicate_succ, List.replicate_zero, Nat.reduceAdd, Nat.reduceSub, List.getElem?_cons_succ, List.getElem?_cons_zero, List.set_cons_succ, List.set_cons_zero, List.getElem?_nil, List.contains_cons, List.contains_nil, Bool.or_false, Bool.false_or, Bool.or_true, Bool.true_or, Bool.and_true, Bool.true_and, Bool.and_false, Bool.false_and, Nat.reduceBEq, List.isEmpty_nil, List.isEmpty_cons, Bool.not_true, Bool.not_false, List.all_cons, List.all_nil, List.any_cons, List.any_nil, Option.getD_some, Option.getD_none, decide_eq_true_eq, decide_eq_false_iff_not, Bool.true_eq_false, Bool.false_eq_true, true_implies, false_implies, true_and, and_true, false_and, and_false, implies_true, Bool.not_eq_true', Bool.not_eq_false', if_true, if_false, ite_true, ite_false, reduceCtorEq, forall_const, isi_bool_bool, isi_bool_int, isi_bool_str, isi_bool_list, isi_bool_tuple, isi_bool_none, isi_bool_dict, isi_int_bool, isi_int_int, isi_int_str, isi_int_list, isi_int_tuple, isi_int_none, isi_int_dict, isi_str_bool, isi_str_int, isi_str_str, isi_str_list, isi_str_tuple, isi_str_none, isi_str_dict, isi_list_bool, isi_list_int, isi_list_str, isi_list_list, isi_list_tuple, isi_list_none, isi_list_dict, isi_tuple_bool, isi_tuple_int, isi_tuple_str, isi_tuple_list, isi_tuple_tuple, isi_tuple_none, isi_tuple_dict, isi_dict_bool, isi_dict_int, isi_dict_str, isi_dict_list, isi_dict_tuple, isi_dict_none, isi_dict_dict])
  | `(tactic| push_cast [$ls,*]) => `(tactic| simp only [ok_ok, ok_ex, ok_stuck, ok_ret, ok_stk, ok_bnd, ok_ofO, opt_some, opt_none, opt_map, opt_bind, opt_ite, rb_b, ri_i, ro_d, ro_own, ro_pl, ok_mC, ok_bin, ok_isi, ok_tst, ok_and, ok_or, ok_not, ok_andV, ok_orV, ok_notV, ok_mif, ok_nil, ok_cons, ok_frz_d, ok_frz_pl, ok_frzAll_nil, ok_frzAll_cons, ok_tup, ok_lst, ok_no, ok_so, ok_sl, ok_cb, resAll_nil, resAll_cons, ok_call, ok_seq, seqQ_nx, seqQ_rt, seqQ_bk, seqQ_ct, ok_mEx, ok_mRet, ok_ite, ok_set, ok_setK_d, ok_setK_own, ok_setK_pl, ok_runF, runQ_rt, runQ_nx, frz_d, frz_lst, frz_dat, frz_pl, res_d, res_pl, rv_val, rv_tup, rv_lst, orv_dat, orv_lst, ok_neg, ok_lstR, ok_chkL, lstAt, ok_mMet, ok_mMetF, ok_store, ok_mFor, forQ_nx, forQ_ct, forQ_bk, forQ_rt, ok_mLc, ok_mWk, wkOf_str, wkOf_list, wkOf_tuple, wkOf_pl, rsI_i, ok_rng1, ok_rng2, ok_rng3, rsI2_i, rsI3_i, ok_enu, ok_zip, seqOf_list, seqOf_tuple, seqOf_pl, ok_setE, ok_back, rs_s, ok_tx0, ok_tx1, ok_dic1, lst1_l, datAt, ok_sortK, ok_maxK, rd1_d, ok_mTgt, ok_isN, ok_maxD, gExt_l, gExt_t, gIns_0, gClr_0, gSorted_l, mVar, argOs, argO, ioSlots, lentSlots, apart, backEnv, allFlat, O.flat, flat, flats, wipeE, restE, ownFree, srcOk, asgT_nm, asgT_tp, asgTs_nil, asgTs_cons, Option.bind_some, opt_vB, opt_vI, gLt_i, gLe_i, gGt_i, gGe_i, gAdd_i, gAdd_t, gAdd_l, gAdd_s, gSub_i, gMul_i, gFdiv_i, gMod_i, gPow_i, gIx_l, gIx_t, gIx_s, gLen_l, gLen_t, gLen_s, gTuple_l, gTuple_t, gList_l, gList_t, gInt_i, gInt_b, gMax2_i, gMin2_i, gCut_l, gCut_t, gCut_s, gAll_l, gAny_l, gSum_l, gEq_i, gNe_i, gEq_b, gNe_b, gEqE_l, gNeE_l, gEqE_t, gNeE_t, gApp_1, gPopI_1, gStr_i, seqD_l, seqD_t, atI_0, List.cons_append, List.nil_append, List.length_cons, List.length_nil, List.replicate_succ, List.replicate_zero, Nat.reduceAdd, Nat.reduceSub, List.getElem?_cons_succ, List.getElem?_cons_zero, List.set_cons_succ, List.set_cons_zero, List.getElem?_nil, List.contains_cons, List.contains_nil, Bool.or_false, Bool.false_or, Bool.or_true, Bool.true_or, Bool.and_true, Bool.true_and, Bool.and_false, Bool.false_and, Nat.reduceBEq, List.isEmpty_nil, List.isEmpty_cons, Bool.not_true, Bool.not_false, List.all_cons, List.all_nil, List.any_cons, List.any_nil, Option.getD_some, Option.getD_none, decide_eq_true_eq, decide_eq_false_iff_not, Bool.true_eq_false, Bool.false_eq_true, true_implies, false_implies, true_and, and_true, false_and, and_false, implies_true, Bool.not_eq_true', Bool.not_eq_false', if_true, if_false, ite_true, ite_false, reduceCtorEq, forall_const, isi_bool_bool, isi_bool_int, isi_bool_str, isi_bool_list, isi_bool_tuple, isi_bool_none, isi_bool_dict, isi_int_bool, isi_int_int, isi_int_str, isi_int_list, isi_int_tuple, isi_int_none, isi_int_dict, isi_str_bool, isi_str_int, isi_str_str, isi_str_list, isi_str_tuple, isi_str_none, isi_str_dict, isi_list_bool, isi_list_int, isi_list_str, isi_list_list, isi_list_tuple, isi_list_none, isi_list_dict, isi_tuple_bool, isi_tuple_int, isi_tuple_str, isi_tuple_list, isi_tuple_tuple, isi_tuple_none, isi_tuple_dict, isi_dict_bool, isi_dict_int, isi_dict_str, isi_dict_list, isi_dict_tuple, isi_dict_none, isi_dict_dict, $ls,*])
/-! ### what a tasting needs -/
def tneed (rs : List Rc) (t : Ta) (nm : Nat) : Option Nat := (near rs nm [t.ev, t.tb]).head?
def tds (rs : List Rc) (t : Ta) : List (Option Nat) := t.nd.map (tneed rs t)
def tnD (rs : List Rc) (t : Ta) : D → D
  | .int nm => optD (tneed rs t nm.toNat)
  | d => d
theorem at_ta {ts : List Ta} {k : Nat} (h : k < ts.length) : atI (ts.map Ta.d) (k : Int) = some ts[k].d := by
  rw [atI_lt (by omega) (by simp; omega)]
  simp
theorem flat_iD {n : Nat} : flat (iD n) = true := rfl
theorem flats_iD' (l : List Nat) : flats (l.map iD) = true := by
  induction l with
  | nil => rfl
  | cons a l ih => rw [List.map_cons, flats, ih]; rfl
theorem map_tn {rs : List Rc} {t : Ta} {l : List Nat} : ((l.map iD).filter (fun _ => true)).map (tnD rs t) = (l.map (tneed rs t)).map optD := by
  rw [List.filter_eq_self.mpr fun _ _ => rfl, List.map_map, List.map_map]
  rfl
theorem s_tasting_by {tsd : D} {rs : List Rc} {ts : List Ta} {k : Nat} (hk : k < ts.length) (h2 : ∀ r ∈ rs, r.sp.length ≤ 2) (hl : rs.length ≤ 100) (hn : ∀ t ∈ ts, t.nd.length ≤ 3) :
    Ok (f_tasting_by [some (.dat (hoD tsd (.tuple (ts.map Ta.d)) rs)), some (.dat (iD k))]) fun o e => o = .dat (.tuple ((tds rs ts[k]).map optD)) := by
  have hr := hn _ (List.getElem_mem hk)
  have ea := at_ta hk
  generalize ts[k] = t at hr ea
  unfold f_tasting_by m_tasting_by
  unfold hoD
  push_cast [at3_2, iD, ea, Ta.d, wkOf_tD, tD]
  refine ⟨by rw [slZ, List.length_map]; omega, ?_⟩
  refine ok_lcP (fun _ => true) (tnD rs t) rfl ?_ ?_
  · intro d hd
    obtain ⟨nm, hnm, rfl⟩ := List.mem_map.mp hd
    push_cast
    refine (s_all_by (rs := rs) (n := nm) (s := [t.ev, t.tb]) h2 hl (by simp)).mono ?_
    rintro _ e rfl
    push_cast
    refine (s_first').mono ?_
    rintro _ e rfl
    push_cast [tnD, iD, tneed]
    rfl
  · rw [map_tn]
    rfl
theorem gNe_same {d : D} (h : okd d 60 = true) (p : pln d = true) : gNe d d = vB false := by
  have e := gNe_d (x := d) (y := d)
  rw [if_pos ⟨h, h⟩, eqv_dec p p (p := True) ⟨fun _ => trivial, fun _ => rfl⟩] at e
  exact e
theorem okd_opt {l : List (Option Nat)} : okd (.tuple (l.map optD)) 60 = true := by
  show okds _ 59 = true
  refine okds_all fun d hd => ?_
  obtain ⟨y, _, rfl⟩ := List.mem_map.mp hd
  cases y <;> rfl
theorem pln_opt {l : List (Option Nat)} : pln (.tuple (l.map optD)) = true := by
  show plns _ = true
  refine plns_all fun d hd => ?_
  obtain ⟨y, _, rfl⟩ := List.mem_map.mp hd
  cases y <;> rfl
theorem gNe_opt {l : List (Option Nat)} : gNe (.tuple (l.map optD)) (.tuple (l.map optD)) = vB false := gNe_same okd_opt pln_opt
/-- a house with tastings -/
def HtOk (d : D) : Prop := ∃ (tsd : D) (ts : List Ta) (rs : List Rc), d = hoD tsd (.tuple (ts.map Ta.d)) rs ∧ rs.length ≤ 8 ∧ (∀ r ∈ rs, r.sp.length ≤ 2) ∧ (∀ r ∈ rs, r.nd.length ≤ 3) ∧ ts.length ≤ 6 ∧ ∀ t ∈ ts, t.nd.length ≤ 3
theorem two_of' {ts s : List Nat} (hs : s ∈ spL ts) : s.length ≤ 2 := by
  rw [mem_spL] at hs
  rcases hs with rfl | ⟨i, hi, rfl⟩ | ⟨i, j, hi, hj, rfl⟩ <;> simp
theorem ht_raw {n : Nat} {h : Ho} (hh : HoOk n h) : HtOk h.d :=
  ⟨_, h.tas, h.rs, rfl, hh.2.2.1, fun r hr => two_of' (hh.2.2.2.1 r hr).2.1, fun r hr => (hh.2.2.2.1 r hr).2.2.2.2.2.1, hh.2.2.2.2.2.1, fun t ht => (hh.2.2.2.2.2.2 t ht).2.1.1⟩
end Mi

set_option Elab.async false
set_option linter.all false
set_option maxRecDepth 20000
set_option maxHeartbeats 0
namespace Mi
open PySem PySem.Spec L2
local macro_rules
  | `(tactic| push_cast) => `(tactic| simp only [ok_ok, ok_ex, ok_stuck, ok_ret, ok_stk, ok_bnd, ok_ofO, opt_some, opt_none, opt_map, opt_bind, opt_ite, rb_b, ri_i, ro_d, ro_own, ro_pl, ok_mC, ok_bin, ok_isi, ok_tst, ok_and, ok_or, ok_not, ok_andV, ok_orV, ok_notV, ok_mif, ok_nil, ok_cons, ok_frz_d, ok_frz_pl, ok_frzAll_nil, ok_frzAll_cons, ok_tup, ok_lst, ok_no, ok_so, ok_sl, ok_cb, resAll_nil, resAll_cons, ok_call, ok_seq, seqQ_nx, seqQ_rt, seqQ_bk, seqQ_ct, ok_mEx, ok_mRet, ok_ite, ok_set, ok_setK_d, ok_setK_own, ok_setK_pl, ok_runF, runQ_rt, runQ_nx, frz_d, frz_lst, frz_dat, frz_pl, res_d, res_pl, rv_val, rv_tup, rv_lst, orv_dat, orv_lst, ok_neg, ok_lstR, ok_chkL, lstAt, ok_mMet, ok_mMetF, ok_store, ok_mFor, forQ_nx, forQ_ct, forQ_bk, forQ_rt, ok_mLc, ok_mWk, wkOf_str, wkOf_list, wkOf_tuple, wkOf_pl, rsI_i, ok_rng1, ok_rng2, ok_rng3, rsI2_i, rsI3_i, ok_enu, ok_zip, seqOf_list, seqOf_tuple, seqOf_pl, ok_setE, ok_back, rs_s, ok_tx0, ok_tx1, ok_dic1, lst1_l, datAt, ok_sortK, ok_maxK, rd1_d, ok_mTgt, ok_isN, ok_maxD, gExt_l, gExt_t, gIns_0, gClr_0, gSorted_l, mVar, argOs, argO, ioSlots, lentSlots, apart, backEnv, allFlat, O.flat, flat, flats, wipeE, restE, ownFree, srcOk, asgT_nm, asgT_tp, asgTs_nil, asgTs_cons, Option.bind_some, opt_vB, opt_vI, gLt_i, gLe_i, gGt_i, gGe_i, gAdd_i, gAdd_t, gAdd_l, gAdd_s, gSub_i, gMul_i, gFdiv_i, gMod_i, gPow_i, gIx_l, gIx_t, gIx_s, gLen_l, gLen_t, gLen_s, gTuple_l, gTuple_t, gList_l, gList_t, gInt_i, gInt_b, gMax2_i, gMin2_i, gCut_l, gCut_t, gCut_s, gAll_l, gAny_l, gSum_l, gEq_i, gNe_i, gEq_b, gNe_b, gEqE_l, gNeE_l, gEqE_t, gNeE_t, gApp_1, gPopI_1, gStr_i, seqD_l, seqD_t, atI_0, List.cons_append, List.nil_append, List.length_cons, List.length_nil, List.replicate_succ, List.replicate_zero, Nat.reduceAdd, Nat.reduceSub, List.getElem?_cons_succ, List.getElem?_cons_zero, List.set_cons_succ, List.set_cons_zero, List.getElem?_nil, List.contains_cons, List.contains_nil, Bool.or_false, Bool.false_or, Bool.or_true, Bool.true_or, Bool.and_true, Bool.true_and, Bool.and_false, Bool.false_and, Nat.reduceBEq, List.isEmpty_nil, List.isEmpty_cons, Bool.not_true, Bool.not_false, List.all_cons, List.all_nil, List.any_cons, List.any_nil, Option.getD_some, Option.getD_none, decide_eq_true_eq, decide_eq_false_iff_not, Bool.true_eq_false, Bool.false_eq_true, true_implies, false_implies, true_and, and_true, false_and, and_false, implies_true, Bool.not_eq_true', Bool.not_eq_false', if_true, if_false, ite_true, ite_false, reduceCtorEq, forall_const, isi_bool_bool, isi_bool_int, isi_bool_str, isi_bool_list, isi_bool_tuple, isi_bool_none, isi_bool_dict, isi_int_bool, isi_int_int, isi_int_str, isi_int_list, isi_int_tuple, isi_int_none, isi_int_dict, isi_str_bool, isi_str_int, isi_str_str, isi_str_list, isi_str_tuple, isi_str_none, isi_str_dict, isi_list_bool, isi_list_int, isi_list_str, isi_list_list, isi_list_tuple, isi_list_none, isi_list_dict, isi_tuple_bool, isi_tuple_int, isi_tuple_str, isi_tuple_list, isi_tuple_tuple, isi_tuple_none, isi_tuple_dict, isi_dict_bool, isi_dict_int, isi_dict_str, isi_dict_list, isi_dict_tuple, isi_dict_none, isi_dict_dict])
  | `(tactic| push_cast [$ls,*]) => `(tactic| simp only [ok_ok, ok_ex, ok_stuck, ok_ret, ok_stk, ok_bnd, ok_ofO, opt_some, opt_none, opt_map, opt_bind, opt_ite, rb_b, ri_i, ro_d, ro_own, ro_pl, ok_mC, ok_bin, ok_isi, ok_tst, ok_and, ok_or, ok_not, ok_andV, ok_orV, ok_notV, ok_mif, ok_nil, ok_cons, ok_frz_d, ok_frz_pl, ok_frzAll_nil, ok_frzAll_cons, ok_tup, ok_lst, ok_no, ok_so, ok_sl, ok_cb, resAll_nil, resAll_cons, ok_call, ok_seq, seqQ_nx, seqQ_rt, seqQ_bk, seqQ_ct, ok_mEx, ok_mRet, ok_ite, ok_set, ok_setK_d, ok_setK_own, ok_setK_pl, ok_runF, runQ_rt, runQ_nx, frz_d, frz_lst, frz_dat, frz_pl, res_d, res_pl, rv_val, rv_tup, rv_lst, orv_dat, orv_lst, ok_neg, ok_lstR, ok_chkL, lstAt, ok_mMet, ok_mMetF, ok_store, ok_mFor, forQ_nx, forQ_ct, forQ_bk, forQ_rt, ok_mLc, ok_mWk, wkOf_str, wkOf_list, wkOf_tuple, wkOf_pl, rsI_i, ok_rng1, ok_rng2, ok_rng3, rsI2_i, rsI3_i, ok_enu, ok_zip, seqOf_list, seqOf_tuple, seqOf_pl, ok_setE, ok_back, rs_s, ok_tx0, ok_tx1, ok_dic1, lst1_l, datAt, ok_sortK, ok_maxK, rd1_d, ok_mTgt, ok_isN, ok_maxD, gExt_l, gExt_t, gIns_0, gClr_0, gSorted_l, mVar, argOs, argO, ioSlots, lentSlots, apart, backEnv, allFlat, O.flat, flat, flats, wipeE, restE, ownFree, srcOk, asgT_nm, asgT_tp, asgTs_nil, asgTs_cons, Option.bind_some, opt_vB, opt_vI, gLt_i, gLe_i, gGt_i, gGe_i, gAdd_i, gAdd_t, gAdd_l, gAdd_s, gSub_i, gMul_i, gFdiv_i, gMod_i, gPow_i, gIx_l, gIx_t, gIx_s, gLen_l, gLen_t, gLen_s, gTuple_l, gTuple_t, gList_l, gList_t, gInt_i, gInt_b, gMax2_i, gMin2_i, gCut_l, gCut_t, gCut_s, gAll_l, gAny_l, gSum_l, gEq_i, gNe_i, gEq_b, gNe_b, gEqE_l, gNeE_l, gEqE_t, gNeE_t, gApp_1, gPopI_1, gStr_i, seqD_l, seqD_t, atI_0, List.cons_append, List.nil_append, List.length_cons, List.length_nil, List.replicate_succ, List.replicate_zero, Nat.reduceAdd, Nat.reduceSub, List.getElem?_cons_succ, List.getElem?_cons_zero, List.set_cons_succ, List.set_cons_zero, List.getElem?_nil, List.contains_cons, List.contains_nil, Bool.or_false, Bool.false_or, Bool.or_true, Bool.true_or, Bool.and_true, Bool.true_and, Bool.and_false, Bool.false_and, Nat.reduceBEq, List.isEmpty_nil, List.isEmpty_cons, Bool.not_true, Bool.not_false, List.all_cons, List.all_nil, List.any_cons, List.any_nil, Option.getD_some, Option.getD_none, decide_eq_true_eq, decide_eq_false_iff_not, Bool.true_eq_false, Bool.false_eq_true, true_implies, false_implies, true_and, and_true, false_and, and_false, implies_true, Bool.not_eq_true', Bool.not_eq_false', if_true, if_false, ite_true, ite_false, reduceCtorEq, forall_const, isi_bool_bool, isi_bool_int, isi_bool_str, isi_bool_list, isi_bool_tuple, isi_bool_none, isi_bool_dict, isi_int_bool, isi_int_int, isi_int_str, isi_int_list, isi_int_tuple, isi_int_none, isi_int_dict, isi_str_bool, isi_str_int, isi_str_str, isi_str_list, isi_str_tuple, isi_str_none, isi_str_dict, isi_list_bool, isi_list_int, isi_list_str, isi_list_list, isi_list_tuple, isi_list_none, isi_list_dict, isi_tuple_bool, isi_tuple_int, isi_tuple_str, isi_tuple_list, isi_tuple_tuple, isi_tuple_none, isi_tuple_dict, isi_dict_bool, isi_dict_int, isi_dict_str, isi_dict_list, isi_dict_tuple, isi_dict_none, isi_dict_dict, $ls,*])
theorem s_cell {ns : List Int} {k : Nat} : Ok (f_law_cell_at [some (.dat (.list (ns.map PyData.int))), some (.dat (.int k))]) fun o e => ∃ i, o = .dat (.int i) := by
  unfold f_law_cell_at m_law_cell_at
  push_cast [List.length_map]
  refine ⟨fun h => ?_, fun _ => ⟨0, rfl⟩⟩
  obtain ⟨d, h1, h2⟩ := at_of (xs := ns.map PyData.int) (x := k) (by simp; omega)
  obtain ⟨i, _, rfl⟩ := List.mem_map.mp h2
  push_cast [h1]
  exact ⟨i, rfl⟩
def blwB (d : D) (n : Nat) : Bool := match d with
  | .int i => decide (0 ≤ i ∧ i < n)
  | _ => false
theorem blwB_iff {d : D} {n : Nat} : blwB d n = true ↔ ∃ i, i < n ∧ d = iD i := by
  unfold blwB iD
  constructor
  · intro h
    cases d <;> simp only [Bool.false_eq_true, decide_eq_true_eq] at h
    rename_i i
    exact ⟨i.toNat, by omega, by rw [Int.toNat_of_nonneg h.1]⟩
  · rintro ⟨i, h, rfl⟩
    simp; omega
theorem s_below {d : D} {n : Nat} : Ok (f_is_below [some (.dat d), some (.dat (.int n))]) fun o e => o = .dat (.bool (blwB d n)) := by
  unfold f_is_below m_is_below f_is_whole m_is_whole blwB
  push_cast
  cases d <;> push_cast
  all_goals try rfl
  rename_i i
  refine ⟨fun h => ?_, fun h => ?_⟩
  · congr 2
    simp [h]
  · congr 2
    rw [eq_comm, decide_eq_false_iff_not]; omega
theorem s_spot_of {ts : List Nat} {d : D} : Ok (f_is_spot_of [some (.dat (.tuple (ts.map iD))), some (.dat d)]) fun o e => ∃ b, o = .dat (.bool b) ∧ (b = true ↔ ∃ s ∈ spL ts, d = tD s) := by
  unfold f_is_spot_of m_is_spot_of
  push_cast
  have no : ∀ {d : D}, (∀ s : List Nat, s.length ≤ 2 → d ≠ tD s) → ∃ b, O.dat (PyData.bool false) = .dat (.bool b) ∧ (b = true ↔ ∃ s ∈ spL ts, d = tD s) := fun {d} h => ⟨false, rfl, by
    simp only [Bool.false_eq_true, false_iff]
    rintro ⟨s, hs, e⟩
    refine h s ?_ e
    rw [mem_spL] at hs
    rcases hs with rfl | ⟨i, _, rfl⟩ | ⟨i, j, _, _, rfl⟩ <;> simp⟩
  cases d with
  | tuple ds =>
    push_cast
    rcases ds with _ | ⟨x, _ | ⟨y, _ | ⟨z, ds⟩⟩⟩
    · refine ⟨fun h => absurd h (by simp), fun _ => ⟨fun h => absurd h (by simp), fun _ => ⟨fun _ => ⟨true, rfl, ?_⟩, fun h => absurd h (by simp)⟩⟩⟩
      simp only [true_iff]
      exact ⟨[], mem_spL.mpr (.inl rfl), rfl⟩
    · refine ⟨fun h => absurd h (by simp), fun _ => ⟨fun _ => ?_, fun h => absurd h (by simp)⟩⟩
      push_cast [List.length_map]
      refine (s_below (d := x) (n := ts.length)).mono ?_
      rintro _ e rfl
      push_cast
      refine ⟨fun h => ⟨false, rfl, ?_⟩, fun h => ⟨fun _ => ⟨true, rfl, ?_⟩, fun h => absurd h (by simp)⟩⟩
      · simp only [Bool.false_eq_true, false_iff]
        rintro ⟨s, hs, e⟩
        rw [← Bool.not_eq_true, blwB_iff] at h
        apply h
        rw [mem_spL] at hs
        rcases hs with rfl | ⟨i, hi, rfl⟩ | ⟨i, j, hi, _, rfl⟩
        · simp [tD] at e
        · simp [tD] at e; exact ⟨i, hi, e⟩
        · simp [tD] at e
      · obtain ⟨i, hi, rfl⟩ := blwB_iff.mp h
        simp only [true_iff]
        exact ⟨[i], mem_spL.mpr (.inr (.inl ⟨i, hi, rfl⟩)), rfl⟩
    · refine ⟨fun h => absurd h (by simp), fun _ => ⟨fun _ => ?_, fun h => absurd h (by simp)⟩⟩
      push_cast [List.length_map]
      refine (s_below (d := x) (n := ts.length)).mono ?_
      rintro _ e rfl
      push_cast
      refine ⟨fun h => ⟨false, rfl, ?_⟩, fun h => ⟨fun h => absurd h (by simp), fun _ => ?_⟩⟩
      · simp only [Bool.false_eq_true, false_iff]
        rintro ⟨s, hs, e⟩
        rw [← Bool.not_eq_true, blwB_iff] at h
        apply h
        rw [mem_spL] at hs
        rcases hs with rfl | ⟨i, hi, rfl⟩ | ⟨i, j, hi, _, rfl⟩
        · simp [tD] at e
        · simp [tD] at e
        · simp [tD] at e; exact ⟨i, hi, e.1⟩
      · obtain ⟨i, hi, rfl⟩ := blwB_iff.mp h
        have q1 : atI [iD i, y] 1 = some y := rfl
        have q2 : atI (ts.map iD) (i : Int) = some (.int ts[i]) := by
          rw [atI_lt (by omega) (by simpa using hi)]
          simp [iD]
        unfold iD
        unfold iD at q1 q2
        push_cast [q1, q2]
        refine (s_below (d := y) (n := ts[i])).mono ?_
        rintro _ e rfl
        push_cast
        refine ⟨_, rfl, ?_⟩
        rw [blwB_iff]
        constructor
        · rintro ⟨j, hj, rfl⟩
          exact ⟨[i, j], mem_spL.mpr (.inr (.inr ⟨i, j, hi, hj, rfl⟩)), rfl⟩
        · rintro ⟨s, hs, e⟩
          rw [mem_spL] at hs
          rcases hs with rfl | ⟨i', hi', rfl⟩ | ⟨i', j, hi', hj, rfl⟩
          · simp [tD] at e
          · simp [tD] at e
          · simp [tD, iD] at e
            obtain ⟨e1, rfl⟩ := e
            obtain rfl : i = i' := by omega
            exact ⟨j, hj, rfl⟩
    · refine ⟨fun h => no fun s hs e => ?_, fun h => absurd h (by simp; omega)⟩
      unfold tD at e
      injection e with e
      have := congrArg List.length e
      simp at this; omega
  | _ => push_cast; exact no fun s _ e => by cases e

theorem s_spot' {ts : List Nat} {tl : List D} {d : D} : Ok (f_is_spot [some (.dat (.tuple (tD ts :: tl))), some (.dat d)]) fun o e => ∃ b, o = .dat (.bool b) ∧ (b = true ↔ ∃ s ∈ spL ts, d = tD s) := by
  unfold f_is_spot m_is_spot tD
  push_cast
  refine s_spot_of.mono ?_
  rintro _ e ⟨b, rfl, hb⟩
  push_cast
  exact ⟨b, rfl, hb⟩
theorem s_spot {h : Ho} {d : D} : Ok (f_is_spot [some (.dat h.d), some (.dat d)]) fun o e => ∃ b, o = .dat (.bool b) ∧ (b = true ↔ ∃ s ∈ spL h.ts, d = tD s) := s_spot'
end Mi

set_option Elab.async false
set_option linter.all false
set_option maxRecDepth 20000
set_option maxHeartbeats 0
namespace Mi
open PySem PySem.Spec L2
local macro_rules
  | `(tactic| push_cast) => `(tactic| simp only [ok_ok, ok_ex, ok_stuck, ok_ret, ok_stk, ok_bnd, ok_ofO, opt_some, opt_none, opt_map, opt_bind, opt_ite, rb_b, ri_i, ro_d, ro_own, ro_pl, ok_mC, ok_bin, ok_isi, ok_tst, ok_and, ok_or, ok_not, ok_andV, ok_orV, ok_notV, ok_mif, ok_nil, ok_cons, ok_frz_d, ok_frz_pl, ok_frzAll_nil, ok_frzAll_cons, ok_tup, ok_lst, ok_no, ok_so, ok_sl, ok_cb, resAll_nil, resAll_cons, ok_call, ok_seq, seqQ_nx, seqQ_rt, seqQ_bk, seqQ_ct, ok_mEx, ok_mRet, ok_ite, ok_set, ok_setK_d, ok_setK_own, ok_setK_pl, ok_runF, runQ_rt, runQ_nx, frz_d, frz_lst, frz_dat, frz_pl, res_d, res_pl, rv_val, rv_tup, rv_lst, orv_dat, orv_lst, ok_neg, ok_lstR, ok_chkL, lstAt, ok_mMet, ok_mMetF, ok_store, ok_mFor, forQ_nx, forQ_ct, forQ_bk, forQ_rt, ok_mLc, ok_mWk, wkOf_str, wkOf_list, wkOf_tuple, wkOf_pl, rsI_i, ok_rng1, ok_rng2, ok_rng3, rsI2_i, rsI3_i, ok_enu, ok_zip, seqOf_list, seqOf_tuple, seqOf_pl, ok_setE, ok_back, rs_s, ok_tx0, ok_tx1, ok_dic1, lst1_l, datAt, ok_sortK, ok_maxK, rd1_d, ok_mTgt, ok_isN, ok_maxD, gExt_l, gExt_t, gIns_0, gClr_0, gSorted_l, mVar, argOs, argO, ioSlots, lentSlots, apart, backEnv, allFlat, O.flat, flat, flats, wipeE, restE, ownFree, srcOk, asgT_nm, asgT_tp, asgTs_nil, asgTs_cons, Option.bind_some, opt_vB, opt_vI, gLt_i, gLe_i, gGt_i, gGe_i, gAdd_i, gAdd_t, gAdd_l, gAdd_s, gSub_i, gMul_i, gFdiv_i, gMod_i, gPow_i, gIx_l, gIx_t, gIx_s, gLen_l, gLen_t, gLen_s, gTuple_l, gTuple_t, gList_l, gList_t, gInt_i, gInt_b, gMax2_i, gMin2_i, gCut_l, gCut_t, gCut_s, gAll_l, gAny_l, gSum_l, gEq_i, gNe_i, gEq_b, gNe_b, gEqE_l, gNeE_l, gEqE_t, gNeE_t, gApp_1, gPopI_1, gStr_i, seqD_l, seqD_t, atI_0, List.cons_append, List.nil_append, List.length_cons, List.length_nil, List.replicate_succ, List.replicate_zero, Nat.reduceAdd, Nat.reduceSub, List.getElem?_cons_succ, List.getElem?_cons_zero, List.set_cons_succ, List.set_cons_zero, List.getElem?_nil, List.contains_cons, List.contains_nil, Bool.or_false, Bool.false_or, Bool.or_true, Bool.true_or, Bool.and_true, Bool.true_and, Bool.and_false, Bool.false_and, Nat.reduceBEq, List.isEmpty_nil, List.isEmpty_cons, Bool.not_true, Bool.not_false, List.all_cons, List.all_nil, List.any_cons, List.any_nil, Option.getD_some, Option.getD_none, decide_eq_true_eq, decide_eq_false_iff_not, Bool.true_eq_false, Bool.false_eq_true, true_implies, false_implies, true_and, and_true, false_and, and_false, implies_true, Bool.not_eq_true', Bool.not_eq_false', if_true, if_false, ite_true, ite_false, reduceCtorEq, forall_const, isi_bool_bool, isi_bool_int, isi_bool_str, isi_bool_list, isi_bool_tuple, isi_bool_none, isi_bool_dict, isi_int_bool, isi_int_int, isi_int_str, isi_int_list, isi_int_tuple, isi_int_none, isi_int_dict, isi_str_bool, isi_str_int, isi_str_str, isi_str_list, isi_str_tuple, isi_str_none, isi_str_dict, isi_list_bool, isi_list_int, isi_list_str, isi_list_list, isi_list_tuple, isi_list_none, isi_list_dict, isi_tuple_bool, isi_tuple_int, isi_tuple_str, isi_tuple_list, isi_tuple_tuple, isi_tuple_none, isi_tuple_dict, isi_dict_bool, isi_dict_int, isi_dict_str, isi_dict_list, isi_dict_tuple, isi_dict_none, isi_dict_dict])
  | `(tactic| push_cast [$ls,*]) => `(tactic| simp only [ok_ok, ok_ex, ok_stuck, ok_ret, ok_stk, ok_bnd, ok_ofO, opt_some, opt_none, opt_map, opt_bind, opt_ite, rb_b, ri_i, ro_d, ro_own, ro_pl, ok_mC, ok_bin, ok_isi, ok_tst, ok_and, ok_or, ok_not, ok_andV, ok_orV, ok_notV, ok_mif, ok_nil, ok_cons, ok_frz_d, ok_frz_pl, ok_frzAll_nil, ok_frzAll_cons, ok_tup, ok_lst, ok_no, ok_so, ok_sl, ok_cb, resAll_nil, resAll_cons, ok_call, ok_seq, seqQ_nx, seqQ_rt, seqQ_bk, seqQ_ct, ok_mEx, ok_mRet, ok_ite, ok_set, ok_setK_d, ok_setK_own, ok_setK_pl, ok_runF, runQ_rt, runQ_nx, frz_d, frz_lst, frz_dat, frz_pl, res_d, res_pl, rv_val, rv_tup, rv_lst, orv_dat, orv_lst, ok_neg, ok_lstR, ok_chkL, lstAt, ok_mMet, ok_mMetF, ok_store, ok_mFor, forQ_nx, forQ_ct, forQ_bk, forQ_rt, ok_mLc, ok_mWk, wkOf_str, wkOf_list, wkOf_tuple, wkOf_pl, rsI_i, ok_rng1, ok_rng2, ok_rng3, rsI2_i, rsI3_i, ok_enu, ok_zip, seqOf_list, seqOf_tuple, seqOf_pl, ok_setE, ok_back, rs_s, ok_tx0, ok_tx1, ok_dic1, lst1_l, datAt, ok_sortK, ok_maxK, rd1_d, ok_mTgt, ok_isN, ok_maxD, gExt_l, gExt_t, gIns_0, gClr_0, gSorted_l, mVar, argOs, argO, ioSlots, lentSlots, apart, backEnv, allFlat, O.flat, flat, flats, wipeE, restE, ownFree, srcOk, asgT_nm, asgT_tp, asgTs_nil, asgTs_cons, Option.bind_some, opt_vB, opt_vI, gLt_i, gLe_i, gGt_i, gGe_i, gAdd_i, gAdd_t, gAdd_l, gAdd_s, gSub_i, gMul_i, gFdiv_i, gMod_i, gPow_i, gIx_l, gIx_t, gIx_s, gLen_l, gLen_t, gLen_s, gTuple_l, gTuple_t, gList_l, gList_t, gInt_i, gInt_b, gMax2_i, gMin2_i, gCut_l, gCut_t, gCut_s, gAll_l, gAny_l, gSum_l, gEq_i, gNe_i, gEq_b, gNe_b, gEqE_l, gNeE_l, gEqE_t, gNeE_t, gApp_1, gPopI_1, gStr_i, seqD_l, seqD_t, atI_0, List.cons_append, List.nil_append, List.length_cons, List.length_nil, List.replicate_succ, List.replicate_zero, Nat.reduceAdd, Nat.reduceSub, List.getElem?_cons_succ, List.getElem?_cons_zero, List.set_cons_succ, List.set_cons_zero, List.getElem?_nil, List.contains_cons, List.contains_nil, Bool.or_false, Bool.false_or, Bool.or_true, Bool.true_or, Bool.and_true, Bool.true_and, Bool.and_false, Bool.false_and, Nat.reduceBEq, List.isEmpty_nil, List.isEmpty_cons, Bool.not_true, Bool.not_false, List.all_cons, List.all_nil, List.any_cons, List.any_nil, Option.getD_some, Option.getD_none, decide_eq_true_eq, decide_eq_false_iff_not, Bool.true_eq_false, Bool.false_eq_true, true_implies, false_implies, true_and, and_true, false_and, and_false, implies_true, Bool.not_eq_true', Bool.not_eq_false', if_true, if_false, ite_true, ite_false, reduceCtorEq, forall_const, isi_bool_bool, isi_bool_int, isi_bool_str, isi_bool_list, isi_bool_tuple, isi_bool_none, isi_bool_dict, isi_int_bool, isi_int_int, isi_int_str, isi_int_list, isi_int_tuple, isi_int_none, isi_int_dict, isi_str_bool, isi_str_int, isi_str_str, isi_str_list, isi_str_tuple, isi_str_none, isi_str_dict, isi_list_bool, isi_list_int, isi_list_str, isi_list_list, isi_list_tuple, isi_list_none, isi_list_dict, isi_tuple_bool, isi_tuple_int, isi_tuple_str, isi_tuple_list, isi_tuple_tuple, isi_tuple_none, isi_tuple_dict, isi_dict_bool, isi_dict_int, isi_dict_str, isi_dict_list, isi_dict_tuple, isi_dict_none, isi_dict_dict, $ls,*])
def hdD : List Nat → D
  | [] => .none
  | k :: _ => iD k
theorem s_first {l : List Nat} : Ok (f_first_of [some (.dat (.list (l.map iD)))]) fun o e => o = .dat (hdD l) := by
  unfold f_first_of m_first_of
  cases l with
  | nil => push_cast [List.map_nil]; exact ⟨fun _ => rfl, fun h => absurd rfl h⟩
  | cons k l => push_cast [List.map_cons]; exact ⟨fun h => absurd h (by omega), fun _ => rfl⟩
theorem s_ask_spot {ts s : List Nat} {tl : List D} (hs : s ∈ spL ts) : Ok (f_ask_spot [some (.dat (.tuple (tD ts :: tl))), some (.dat (tD s))]) fun o e => o = .dat .none := by
  unfold f_ask_spot m_ask_spot
  push_cast
  refine s_spot'.mono ?_
  rintro _ e ⟨b, rfl, hb⟩
  have : b = true := hb.mpr ⟨s, hs, rfl⟩
  subst this
  push_cast
theorem s_ask_name {n : Nat} (hn : n < 8) : Ok (f_ask_name [some (.dat (iD n))]) fun o e => o = .dat .none := by
  unfold f_ask_name m_ask_name
  push_cast
  refine (s_below (d := iD n) (n := 8)).mono ?_
  rintro _ e rfl
  have : blwB (iD n) 8 = true := blwB_iff.mpr ⟨n, hn, rfl⟩
  rw [this]
  push_cast
theorem two_of {ts s : List Nat} (hs : s ∈ spL ts) : s.length ≤ 2 := by
  rw [mem_spL] at hs
  rcases hs with rfl | ⟨i, hi, rfl⟩ | ⟨i, j, hi, hj, rfl⟩ <;> simp
theorem s_found_at {ts s : List Nat} {tas : D} {rs : List Rc} {n : Nat} (h2 : ∀ r ∈ rs, r.sp.length ≤ 2) (hl : rs.length ≤ 100) (hs : s ∈ spL ts) (hn : n < 8) :
    Ok (f_found_at [some (.dat (hoD (tD ts) tas rs)), some (.dat (tD s)), some (.dat (iD n))]) fun o e => o = .dat (hdD (near rs n s)) := by
  unfold f_found_at m_found_at
  push_cast
  refine (s_ask_spot hs).mono ?_
  rintro _ e rfl
  refine (s_ask_name hn).mono ?_
  rintro _ e rfl
  refine (s_all_by h2 hl (two_of hs)).mono ?_
  rintro _ e rfl
  push_cast
  refine s_first.mono ?_
  rintro _ e rfl
  push_cast
theorem s_all_at {ts s : List Nat} {tas : D} {rs : List Rc} {n : Nat} (h2 : ∀ r ∈ rs, r.sp.length ≤ 2) (hl : rs.length ≤ 100) (hs : s ∈ spL ts) (hn : n < 8) :
    Ok (f_all_at [some (.dat (hoD (tD ts) tas rs)), some (.dat (tD s)), some (.dat (iD n))]) fun o e => o = .dat (tD (near rs n s)) := by
  unfold f_all_at m_all_at
  push_cast
  refine (s_ask_spot hs).mono ?_
  rintro _ e rfl
  refine (s_ask_name hn).mono ?_
  rintro _ e rfl
  refine (s_all_by h2 hl (two_of hs)).mono ?_
  rintro _ e rfl
  push_cast
  rfl
end Mi

set_option Elab.async false
set_option linter.all false
set_option maxRecDepth 20000
set_option maxHeartbeats 0
namespace Mi
open PySem PySem.Spec L2
local macro_rules
  | `(tactic| push_cast) => `(tactic| simp only [ok_ok, ok_ex, ok_stuck, ok_ret, ok_stk, ok_bnd, ok_ofO, opt_some, opt_none, opt_map, opt_bind, opt_ite, rb_b, ri_i, ro_d, ro_own, ro_pl, ok_mC, ok_bin, ok_isi, ok_tst, ok_and, ok_or, ok_not, ok_andV, ok_orV, ok_notV, ok_mif, ok_nil, ok_cons, ok_frz_d, ok_frz_pl, ok_frzAll_nil, ok_frzAll_cons, ok_tup, ok_lst, ok_no, ok_so, ok_sl, ok_cb, resAll_nil, resAll_cons, ok_call, ok_seq, seqQ_nx, seqQ_rt, seqQ_bk, seqQ_ct, ok_mEx, ok_mRet, ok_ite, ok_set, ok_setK_d, ok_setK_own, ok_setK_pl, ok_runF, runQ_rt, runQ_nx, frz_d, frz_lst, frz_dat, frz_pl, res_d, res_pl, rv_val, rv_tup, rv_lst, orv_dat, orv_lst, ok_neg, ok_lstR, ok_chkL, lstAt, ok_mMet, ok_mMetF, ok_store, ok_mFor, forQ_nx, forQ_ct, forQ_bk, forQ_rt, ok_mLc, ok_mWk, wkOf_str, wkOf_list, wkOf_tuple, wkOf_pl, rsI_i, ok_rng1, ok_rng2, ok_rng3, rsI2_i, rsI3_i, ok_enu, ok_zip, seqOf_list, seqOf_tuple, seqOf_pl, ok_setE, ok_back, rs_s, ok_tx0, ok_tx1, ok_dic1, lst1_l, datAt, ok_sortK, ok_maxK, rd1_d, ok_mTgt, ok_isN, ok_maxD, gExt_l, gExt_t, gIns_0, gClr_0, gSorted_l, mVar, argOs, argO, ioSlots, lentSlots, apart, backEnv, allFlat, O.flat, flat, flats, wipeE, restE, ownFree, srcOk, asgT_nm, asgT_tp, asgTs_nil, asgTs_cons, Option.bind_some, opt_vB, opt_vI, gLt_i, gLe_i, gGt_i, gGe_i, gAdd_i, gAdd_t, gAdd_l, gAdd_s, gSub_i, gMul_i, gFdiv_i, gMod_i, gPow_i, gIx_l, gIx_t, gIx_s, gLen_l, gLen_t, gLen_s, gTuple_l, gTuple_t, gList_l, gList_t, gInt_i, gInt_b, gMax2_i, gMin2_i, gCut_l, gCut_t, gCut_s, gAll_l, gAny_l, gSum_l, gEq_i, gNe_i, gEq_b, gNe_b, gEqE_l, gNeE_l, gEqE_t, gNeE_t, gApp_1, gPopI_1, gStr_i, seqD_l, seqD_t, atI_0, List.cons_append, List.nil_append, List.length_cons, List.length_nil, List.replicate_succ, List.replicate_zero, Nat.reduceAdd, Nat.reduceSub, List.getElem?_cons_succ, List.getElem?_cons_zero, List.set_cons_succ, List.set_cons_zero, List.getElem?_nil, List.contains_cons, List.contains_nil, Bool.or_false, Bool.false_or, Bool.or_true, Bool.true_or, Bool.and_true, Bool.true_and, Bool.and_false, Bool.false_and, Nat.reduceBEq, List.isEmpty_nil, List.isEmpty_cons, Bool.not_true, Bool.not_false, List.all_cons, List.all_nil, List.any_cons, List.any_nil, Option.getD_some, Option.getD_none, decide_eq_true_eq, decide_eq_false_iff_not, Bool.true_eq_false, Bool.false_eq_true, true_implies, false_implies, true_and, and_true, false_and, and_false, implies_true, Bool.not_eq_true', Bool.not_eq_false', if_true, if_false, ite_true, ite_false, reduceCtorEq, forall_const, isi_bool_bool, isi_bool_int, isi_bool_str, isi_bool_list, isi_bool_tuple, isi_bool_none, isi_bool_dict, isi_int_bool, isi_int_int, isi_int_str, isi_int_list, isi_int_tuple, isi_int_none, isi_int_dict, isi_str_bool, isi_str_int, isi_str_str, isi_str_list, isi_str_tuple, isi_str_none, isi_str_dict, isi_list_bool, isi_list_int, isi_list_str, isi_list_list, isi_list_tuple, isi_list_none, isi_list_dict, isi_tuple_bool, isi_tuple_int, isi_tuple_str, isi_tuple_list, isi_tuple_tuple, isi_tuple_none, isi_tuple_dict, isi_dict_bool, isi_dict_int, isi_dict_str, isi_dict_list, isi_dict_tuple, isi_dict_none, isi_dict_dict])
  | `(tactic| push_cast [$ls,*]) => `(tactic| simp only [ok_ok, ok_ex, ok_stuck, ok_ret, ok_stk, ok_bnd, ok_ofO, opt_some, opt_none, opt_map, opt_bind, opt_ite, rb_b, ri_i, ro_d, ro_own, ro_pl, ok_mC, ok_bin, ok_isi, ok_tst, ok_and, ok_or, ok_not, ok_andV, ok_orV, ok_notV, ok_mif, ok_nil, ok_cons, ok_frz_d, ok_frz_pl, ok_frzAll_nil, ok_frzAll_cons, ok_tup, ok_lst, ok_no, ok_so, ok_sl, ok_cb, resAll_nil, resAll_cons, ok_call, ok_seq, seqQ_nx, seqQ_rt, seqQ_bk, seqQ_ct, ok_mEx, ok_mRet, ok_ite, ok_set, ok_setK_d, ok_setK_own, ok_setK_pl, ok_runF, runQ_rt, runQ_nx, frz_d, frz_lst, frz_dat, frz_pl, res_d, res_pl, rv_val, rv_tup, rv_lst, orv_dat, orv_lst, ok_neg, ok_lstR, ok_chkL, lstAt, ok_mMet, ok_mMetF, ok_store, ok_mFor, forQ_nx, forQ_ct, forQ_bk, forQ_rt, ok_mLc, ok_mWk, wkOf_str, wkOf_list, wkOf_tuple, wkOf_pl, rsI_i, ok_rng1, ok_rng2, ok_rng3, rsI2_i, rsI3_i, ok_enu, ok_zip, seqOf_list, seqOf_tuple, seqOf_pl, ok_setE, ok_back, rs_s, ok_tx0, ok_tx1, ok_dic1, lst1_l, datAt, ok_sortK, ok_maxK, rd1_d, ok_mTgt, ok_isN, ok_maxD, gExt_l, gExt_t, gIns_0, gClr_0, gSorted_l, mVar, argOs, argO, ioSlots, lentSlots, apart, backEnv, allFlat, O.flat, flat, flats, wipeE, restE, ownFree, srcOk, asgT_nm, asgT_tp, asgTs_nil, asgTs_cons, Option.bind_some, opt_vB, opt_vI, gLt_i, gLe_i, gGt_i, gGe_i, gAdd_i, gAdd_t, gAdd_l, gAdd_s, gSub_i, gMul_i, gFdiv_i, gMod_i, gPow_i, gIx_l, gIx_t, gIx_s, gLen_l, gLen_t, gLen_s, gTuple_l, gTuple_t, gList_l, gList_t, gInt_i, gInt_b, gMax2_i, gMin2_i, gCut_l, gCut_t, gCut_s, gAll_l, gAny_l, gSum_l, gEq_i, gNe_i, gEq_b, gNe_b, gEqE_l, gNeE_l, gEqE_t, gNeE_t, gApp_1, gPopI_1, gStr_i, seqD_l, seqD_t, atI_0, List.cons_append, List.nil_append, List.length_cons, List.length_nil, List.replicate_succ, List.replicate_zero, Nat.reduceAdd, Nat.reduceSub, List.getElem?_cons_succ, List.getElem?_cons_zero, List.set_cons_succ, List.set_cons_zero, List.getElem?_nil, List.contains_cons, List.contains_nil, Bool.or_false, Bool.false_or, Bool.or_true, Bool.true_or, Bool.and_true, Bool.true_and, Bool.and_false, Bool.false_and, Nat.reduceBEq, List.isEmpty_nil, List.isEmpty_cons, Bool.not_true, Bool.not_false, List.all_cons, List.all_nil, List.any_cons, List.any_nil, Option.getD_some, Option.getD_none, decide_eq_true_eq, decide_eq_false_iff_not, Bool.true_eq_false, Bool.false_eq_true, true_implies, false_implies, true_and, and_true, false_and, and_false, implies_true, Bool.not_eq_true', Bool.not_eq_false', if_true, if_false, ite_true, ite_false, reduceCtorEq, forall_const, isi_bool_bool, isi_bool_int, isi_bool_str, isi_bool_list, isi_bool_tuple, isi_bool_none, isi_bool_dict, isi_int_bool, isi_int_int, isi_int_str, isi_int_list, isi_int_tuple, isi_int_none, isi_int_dict, isi_str_bool, isi_str_int, isi_str_str, isi_str_list, isi_str_tuple, isi_str_none, isi_str_dict, isi_list_bool, isi_list_int, isi_list_str, isi_list_list, isi_list_tuple, isi_list_none, isi_list_dict, isi_tuple_bool, isi_tuple_int, isi_tuple_str, isi_tuple_list, isi_tuple_tuple, isi_tuple_none, isi_tuple_dict, isi_dict_bool, isi_dict_int, isi_dict_str, isi_dict_list, isi_dict_tuple, isi_dict_none, isi_dict_dict, $ls,*])
theorem ok_of_okc {α : Type} {r : Rs α} {Q : α → Env → Prop} {QE : String → Env → Prop} (h : Okc r Q QE) (h2 : ∀ c e, ¬ QE c e) : Ok r Q := by
  cases r with
  | ok a e => exact okd_ok.mp h
  | ex c e => exact absurd (okd_ex.mp h) (h2 c e)
  | stuck => exact (okd_st.mp h).elim
theorem okc_ret {α : Type} {a : α} {e : Env} {Q : α → Env → Prop} {QE : String → Env → Prop} (h : Q a e) : Okc (ret a e) Q QE := okd_ok.mpr h
theorem nxQ_nx {Q : Fl → Env → Prop} {K : Env → Prop} {e : Env} : nxQ Q K .nx e ↔ K e := Iff.rfl
theorem nxQ_rt {Q : Fl → Env → Prop} {K : Env → Prop} {e : Env} {o : O} : nxQ Q K (.rt o) e ↔ Q (.rt o) e := Iff.rfl
theorem s_is_in {d : D} {n : Nat} : Ok (f_law_is_in [some (.dat d), some (.dat (.int (n : Nat)))]) fun o e => o = .dat (.bool (blwB d n)) := by
  unfold f_law_is_in m_law_is_in
  cases d <;> push_cast [blwB, ok_chV, ok_mCh]
  rename_i i
  refine ⟨fun h => ?_, fun h => ?_⟩ <;> simp [h]
theorem bools_map {f : D → Bool} : ∀ {ds : List D}, boolsD (((ds.filter fun _ => true)).map fun d => .bool (f d)) = some (ds.map f)
  | [] => rfl
  | d :: ds => by
    have := bools_map (f := f) (ds := ds)
    rw [List.filter_eq_self.mpr fun _ _ => rfl] at this ⊢
    show (boolsD (ds.map fun d => .bool (f d))).map (f d :: ·) = _
    rw [this]; rfl
theorem all_id {f : D → Bool} {ds : List D} : (ds.map f).all id = ds.all f := by
  rw [List.all_map]; rfl
theorem nats_all {n : Nat} : ∀ {ds : List D}, (ds.all fun d => blwB d n) = true → ∃ l : List Nat, ds = l.map iD
  | [], _ => ⟨[], rfl⟩
  | d :: ds, h => by
    rw [List.all_cons, Bool.and_eq_true] at h
    obtain ⟨l, rfl⟩ := nats_all h.2
    obtain ⟨i, _, rfl⟩ := blwB_iff.mp h.1
    exact ⟨i :: l, rfl⟩
theorem gIn_sp {l : List Nat} {L : List (List Nat)} : gIn (.tuple (l.map iD)) (.list (L.map tD)) = vB (decide (l ∈ L)) := by
  have ok : ∀ x : List Nat, ∀ n, okd (tD x) (n + 1) = true := fun x n => okd_tD
  unfold gIn gInX
  have hall : okd (.list (L.map tD)) 60 = true := okds_all (n := 59) fun d hd => by
    obtain ⟨x, _, rfl⟩ := List.mem_map.mp hd
    exact ok x 58
  rw [if_pos ⟨ok l 59, hall⟩]
  simp only
  congr 1
  unfold hasD
  rw [Bool.false_xor, Bool.eq_iff_iff, decide_eq_true_eq, List.any_eq_true]
  constructor
  · rintro ⟨d, hd, h⟩
    obtain ⟨x, hx, rfl⟩ := List.mem_map.mp hd
    have e := (eqv_pln _ _ (pln_tD (l := x)) (pln_tD (l := l))).mp h
    rw [← tD_inj.mp e]; exact hx
  · intro h
    refine ⟨tD l, List.mem_map.mpr ⟨l, h, rfl⟩, ?_⟩
    exact (eqv_pln _ _ pln_tD pln_tD).mpr rfl
section
variable {ts : List Nat} {rs : List Rc} {tas : List Ta} {d : D}
def hD (ts : List Nat) (rs : List Rc) (tas : List Ta) : D := hoD (tD ts) (.tuple (tas.map Ta.d)) rs
theorem hD_eq : hD ts rs tas = .tuple [tD ts, .tuple (rs.map Rc.d), .tuple (tas.map Ta.d)] := rfl
theorem spl_small (ht : TsOk ts) {s : List Nat} (hs : s ∈ spL ts) : s.length ≤ 2 ∧ ∀ x ∈ s, x < 3 := by
  rw [mem_spL] at hs
  obtain ⟨t1, t2, t3⟩ := ht
  rcases hs with rfl | ⟨i, hi, rfl⟩ | ⟨i, j, hi, hj, rfl⟩
  · simp
  · simp; omega
  · have := (t3 _ (List.getElem_mem hi)).2
    simp; omega
theorem s_is_place (ht : TsOk ts) : Ok (f_law_is_place [some (.dat (hD ts rs tas)), some (.dat d)]) fun o e => ∃ b, o = .dat (.bool b) ∧ (b = true ↔ ∃ s ∈ spL ts, d = tD s) := by
  have no : ∀ {d : D}, (∀ s ∈ spL ts, d ≠ tD s) → ∃ b, O.dat (PyData.bool false) = .dat (.bool b) ∧ (b = true ↔ ∃ s ∈ spL ts, d = tD s) := fun {d} h => ⟨false, rfl, by
    simp only [Bool.false_eq_true, false_iff]
    rintro ⟨s, hs, e⟩
    exact h s hs e⟩
  unfold f_law_is_place m_law_is_place
  rw [hD_eq]
  cases d with
  | tuple ds =>
    push_cast
    refine ⟨fun h => no fun s hs e => ?_, fun h => ⟨by rw [slZ]; omega, ?_⟩⟩
    · unfold tD at e
      injection e with e
      have := (spl_small ht hs).1
      rw [e, List.length_map] at h
      omega
    · refine ok_lcP (fun _ => true) (fun d => .bool (blwB d 3)) rfl ?_ ?_
      · intro d hd
        push_cast
        refine (s_is_in (n := 3)).mono ?_
        rintro _ e rfl
        push_cast
      · push_cast [bools_map, Option.bind_some, all_id]
        refine ⟨fun ha => no fun s hs e => ?_, fun ha => ?_⟩
        · unfold tD at e
          injection e with e
          rw [e] at ha
          have : ((s.map iD).all fun d => blwB d 3) = true := by
            rw [List.all_eq_true]
            intro d hd
            obtain ⟨x, hx, rfl⟩ := List.mem_map.mp hd
            exact blwB_iff.mpr ⟨x, (spl_small ht hs).2 x hx, rfl⟩
          rw [this] at ha
          cases ha
        · obtain ⟨l, rfl⟩ := nats_all ha
          push_cast [at3_0, tD]
          refine (s_spots (ts := ts) ht.2.1 fun t hx => (ht.2.2 t hx).2).mono ?_
          rintro _ e rfl
          push_cast [spots_eq, gIn_sp]
          refine ⟨_, rfl, ?_⟩
          rw [decide_eq_true_eq]
          constructor
          · intro h
            exact ⟨l, h, rfl⟩
          · rintro ⟨s, hs, e⟩
            have : tD l = tD s := e
            rw [tD_inj.mp this]; exact hs
  | _ =>
    push_cast
    exact no fun s hs e => by cases e
/-! ### the refusals -/
theorem s_ask_spotX : Okc (f_ask_spot [some (.dat (hD ts rs tas)), some (.dat d)]) (fun o e => o = .dat .none ∧ ∃ s ∈ spL ts, d = tD s) (fun c e => c = "NoSpot" ∧ ¬ ∃ s ∈ spL ts, d = tD s) := by
  have hs : Ok (f_is_spot [some (.dat (hD ts rs tas)), some (.dat d)]) fun o e => ∃ b, o = .dat (.bool b) ∧ (b = true ↔ ∃ s ∈ spL ts, d = tD s) := by
    unfold f_is_spot m_is_spot
    rw [hD_eq]
    push_cast [at3_0, tD]
    refine s_spot_of.mono ?_
    rintro _ e ⟨b, rfl, hb⟩
    push_cast
    exact ⟨b, rfl, hb⟩
  unfold f_ask_spot m_ask_spot
  refine okc_runF (okc_ite ?_)
  push_cast
  refine hs.mono ?_
  rintro _ e ⟨b, rfl, hb⟩
  push_cast
  cases b with
  | true => exact ⟨fun hx => (by simp at hx), fun _ => okc_ret (by first | exact ⟨rfl, hb.mp rfl⟩ | exact hb.mp rfl)⟩
  | false => exact ⟨fun _ => okc_raise (by first | exact ⟨rfl, fun z => by have := hb.mpr z; cases this⟩ | (intro z; have := hb.mpr z; cases this) | exact fun s hs e => by have := hb.mpr ⟨s, hs, e⟩; cases this), fun hx => (by simp at hx)⟩
theorem s_ask_nameX : Okc (f_ask_name [some (.dat d)]) (fun o e => o = .dat .none ∧ blwB d 8 = true) (fun c e => c = "NoNumber" ∧ blwB d 8 = false) := by
  unfold f_ask_name m_ask_name
  refine okc_runF (okc_ite ?_)
  push_cast
  refine (s_below (n := 8)).mono ?_
  rintro _ e rfl
  push_cast
  cases hb : blwB d 8 with
  | true => exact ⟨fun hx => (by simp at hx), fun _ => okc_ret (by first | exact ⟨rfl, rfl⟩ | rfl)⟩
  | false => exact ⟨fun _ => okc_raise (by first | exact ⟨rfl, rfl⟩ | rfl), fun hx => (by simp at hx)⟩
theorem s_ask_recipeX : Okc (f_ask_recipe [some (.dat (hD ts rs tas)), some (.dat d)]) (fun o e => o = .dat .none ∧ blwB d rs.length = true) (fun c e => c = "NoRecipe" ∧ blwB d rs.length = false) := by
  unfold f_ask_recipe m_ask_recipe
  rw [hD_eq]
  refine okc_runF (okc_ite ?_)
  push_cast [at3_1, List.length_map]
  refine (s_below (n := rs.length)).mono ?_
  rintro _ e rfl
  push_cast
  cases hb : blwB d rs.length with
  | true => exact ⟨fun hx => (by simp at hx), fun _ => okc_ret (by first | exact ⟨rfl, rfl⟩ | rfl)⟩
  | false => exact ⟨fun _ => okc_raise (by first | exact ⟨rfl, rfl⟩ | rfl), fun hx => (by simp at hx)⟩
theorem s_ask_tastingX : Okc (f_ask_tasting [some (.dat (hD ts rs tas)), some (.dat d)]) (fun o e => o = .dat .none ∧ blwB d tas.length = true) (fun c e => c = "NoTasting" ∧ blwB d tas.length = false) := by
  unfold f_ask_tasting m_ask_tasting
  rw [hD_eq]
  refine okc_runF (okc_ite ?_)
  push_cast [at3_2, List.length_map]
  refine (s_below (n := tas.length)).mono ?_
  rintro _ e rfl
  push_cast
  cases hb : blwB d tas.length with
  | true => exact ⟨fun hx => (by simp at hx), fun _ => okc_ret (by first | exact ⟨rfl, rfl⟩ | rfl)⟩
  | false => exact ⟨fun _ => okc_raise (by first | exact ⟨rfl, rfl⟩ | rfl), fun hx => (by simp at hx)⟩
end
end Mi

set_option Elab.async false
set_option linter.all false
set_option maxRecDepth 20000
set_option maxHeartbeats 0
namespace Mi
open PySem PySem.Spec L2
local macro_rules
  | `(tactic| push_cast) => `(tactic| simp only [ok_ok, ok_ex, ok_stuck, ok_ret, ok_stk, ok_bnd, ok_ofO, opt_some, opt_none, opt_map, opt_bind, opt_ite, rb_b, ri_i, ro_d, ro_own, ro_pl, ok_mC, ok_bin, ok_isi, ok_tst, ok_and, ok_or, ok_not, ok_andV, ok_orV, ok_notV, ok_mif, ok_nil, ok_cons, ok_frz_d, ok_frz_pl, ok_frzAll_nil, ok_frzAll_cons, ok_tup, ok_lst, ok_no, ok_so, ok_sl, ok_cb, resAll_nil, resAll_cons, ok_call, ok_seq, seqQ_nx, seqQ_rt, seqQ_bk, seqQ_ct, ok_mEx, ok_mRet, ok_ite, ok_set, ok_setK_d, ok_setK_own, ok_setK_pl, ok_runF, runQ_rt, runQ_nx, frz_d, frz_lst, frz_dat, frz_pl, res_d, res_pl, rv_val, rv_tup, rv_lst, orv_dat, orv_lst, ok_neg, ok_lstR, ok_chkL, lstAt, ok_mMet, ok_mMetF, ok_store, ok_mFor, forQ_nx, forQ_ct, forQ_bk, forQ_rt, ok_mLc, ok_mWk, wkOf_str, wkOf_list, wkOf_tuple, wkOf_pl, rsI_i, ok_rng1, ok_rng2, ok_rng3, rsI2_i, rsI3_i, ok_enu, ok_zip, seqOf_list, seqOf_tuple, seqOf_pl, ok_setE, ok_back, rs_s, ok_tx0, ok_tx1, ok_dic1, lst1_l, datAt, ok_sortK, ok_maxK, rd1_d, ok_mTgt, ok_isN, ok_maxD, gExt_l, gExt_t, gIns_0, gClr_0, gSorted_l, mVar, argOs, argO, ioSlots, lentSlots, apart, backEnv, allFlat, O.flat, flat, flats, wipeE, restE, ownFree, srcOk, asgT_nm, asgT_tp, asgTs_nil, asgTs_cons, Option.bind_some, opt_vB, opt_vI, gLt_i, gLe_i, gGt_i, gGe_i, gAdd_i, gAdd_t, gAdd_l, gAdd_s, gSub_i, gMul_i, gFdiv_i, gMod_i, gPow_i, gIx_l, gIx_t, gIx_s, gLen_l, gLen_t, gLen_s, gTuple_l, gTuple_t, gList_l, gList_t, gInt_i, gInt_b, gMax2_i, gMin2_i, gCut_l, gCut_t, gCut_s, gAll_l, gAny_l, gSum_l, gEq_i, gNe_i, gEq_b, gNe_b, gEqE_l, gNeE_l, gEqE_t, gNeE_t, gApp_1, gPopI_1, gStr_i, seqD_l, seqD_t, atI_0, List.cons_append, List.nil_append, List.length_cons, List.length_nil, List.replicate_succ, List.replicate_zero, Nat.reduceAdd, Nat.reduceSub, List.getElem?_cons_succ, List.getElem?_cons_zero, List.set_cons_succ, List.set_cons_zero, List.getElem?_nil, List.contains_cons, List.contains_nil, Bool.or_false, Bool.false_or, Bool.or_true, Bool.true_or, Bool.and_true, Bool.true_and, Bool.and_false, Bool.false_and, Nat.reduceBEq, List.isEmpty_nil, List.isEmpty_cons, Bool.not_true, Bool.not_false, List.all_cons, List.all_nil, List.any_cons, List.any_nil, Option.getD_some, Option.getD_none, decide_eq_true_eq, decide_eq_false_iff_not, Bool.true_eq_false, Bool.false_eq_true, true_implies, false_implies, true_and, and_true, false_and, and_false, implies_true, Bool.not_eq_true', Bool.not_eq_false', if_true, if_false, ite_true, ite_false, reduceCtorEq, forall_const, isi_bool_bool, isi_bool_int, isi_bool_str, isi_bool_list, isi_bool_tuple, isi_bool_none, isi_bool_dict, isi_int_bool, isi_int_int, isi_int_str, isi_int_list, isi_int_tuple, isi_int_none, isi_int_dict, isi_str_bool, isi_str_int, isi_str_str, isi_str_list, isi_str_tuple, isi_str_none, isi_str_dict, isi_list_bool, isi_list_int, isi_list_str, isi_list_list, isi_list_tuple, isi_list_none, isi_list_dict, isi_tuple_bool, isi_tuple_int, isi_tuple_str, isi_tuple_list, isi_tuple_tuple, isi_tuple_none, isi_tuple_dict, isi_dict_bool, isi_dict_int, isi_dict_str, isi_dict_list, isi_dict_tuple, isi_dict_none, isi_dict_dict])
  | `(tactic| push_cast [$ls,*]) => `(tactic| simp only [ok_ok, ok_ex, ok_stuck, ok_ret, ok_stk, ok_bnd, ok_ofO, opt_some, opt_none, opt_map, opt_bind, opt_ite, rb_b, ri_i, ro_d, ro_own, ro_pl, ok_mC, ok_bin, ok_isi, ok_tst, ok_and, ok_or, ok_not, ok_andV, ok_orV, ok_notV, ok_mif, ok_nil, ok_cons, ok_frz_d, ok_frz_pl, ok_frzAll_nil, ok_frzAll_cons, ok_tup, ok_lst, ok_no, ok_so, ok_sl, ok_cb, resAll_nil, resAll_cons, ok_call, ok_seq, seqQ_nx, seqQ_rt, seqQ_bk, seqQ_ct, ok_mEx, ok_mRet, ok_ite, ok_set, ok_setK_d, ok_setK_own, ok_setK_pl, ok_runF, runQ_rt, runQ_nx, frz_d, frz_lst, frz_dat, frz_pl, res_d, res_pl, rv_val, rv_tup, rv_lst, orv_dat, orv_lst, ok_neg, ok_lstR, ok_chkL, lstAt, ok_mMet, ok_mMetF, ok_store, ok_mFor, forQ_nx, forQ_ct, forQ_bk, forQ_rt, ok_mLc, ok_mWk, wkOf_str, wkOf_list, wkOf_tuple, wkOf_pl, rsI_i, ok_rng1, ok_rng2, ok_rng3, rsI2_i, rsI3_i, ok_enu, ok_zip, seqOf_list, seqOf_tuple, seqOf_pl, ok_setE, ok_back, rs_s, ok_tx0, ok_tx1, ok_dic1, lst1_l, datAt, ok_sortK, ok_maxK, rd1_d, ok_mTgt, ok_isN, ok_maxD, gExt_l, gExt_t, gIns_0, gClr_0, gSorted_l, mVar, argOs, argO, ioSlots, lentSlots, apart, backEnv, allFlat, O.flat, flat, flats, wipeE, restE, ownFree, srcOk, asgT_nm, asgT_tp, asgTs_nil, asgTs_cons, Option.bind_some, opt_vB, opt_vI, gLt_i, gLe_i, gGt_i, gGe_i, gAdd_i, gAdd_t, gAdd_l, gAdd_s, gSub_i, gMul_i, gFdiv_i, gMod_i, gPow_i, gIx_l, gIx_t, gIx_s, gLen_l, gLen_t, gLen_s, gTuple_l, gTuple_t, gList_l, gList_t, gInt_i, gInt_b, gMax2_i, gMin2_i, gCut_l, gCut_t, gCut_s, gAll_l, gAny_l, gSum_l, gEq_i, gNe_i, gEq_b, gNe_b, gEqE_l, gNeE_l, gEqE_t, gNeE_t, gApp_1, gPopI_1, gStr_i, seqD_l, seqD_t, atI_0, List.cons_append, List.nil_append, List.length_cons, List.length_nil, List.replicate_succ, List.replicate_zero, Nat.reduceAdd, Nat.reduceSub, List.getElem?_cons_succ, List.getElem?_cons_zero, List.set_cons_succ, List.set_cons_zero, List.getElem?_nil, List.contains_cons, List.contains_nil, Bool.or_false, Bool.false_or, Bool.or_true, Bool.true_or, Bool.and_true, Bool.true_and, Bool.and_false, Bool.false_and, Nat.reduceBEq, List.isEmpty_nil, List.isEmpty_cons, Bool.not_true, Bool.not_false, List.all_cons, List.all_nil, List.any_cons, List.any_nil, Option.getD_some, Option.getD_none, decide_eq_true_eq, decide_eq_false_iff_not, Bool.true_eq_false, Bool.false_eq_true, true_implies, false_implies, true_and, and_true, false_and, and_false, implies_true, Bool.not_eq_true', Bool.not_eq_false', if_true, if_false, ite_true, ite_false, reduceCtorEq, forall_const, isi_bool_bool, isi_bool_int, isi_bool_str, isi_bool_list, isi_bool_tuple, isi_bool_none, isi_bool_dict, isi_int_bool, isi_int_int, isi_int_str, isi_int_list, isi_int_tuple, isi_int_none, isi_int_dict, isi_str_bool, isi_str_int, isi_str_str, isi_str_list, isi_str_tuple, isi_str_none, isi_str_dict, isi_list_bool, isi_list_int, isi_list_str, isi_list_list, isi_list_tuple, isi_list_none, isi_list_dict, isi_tuple_bool, isi_tuple_int, isi_tuple_str, isi_tuple_list, isi_tuple_tuple, isi_tuple_none, isi_tuple_dict, isi_dict_bool, isi_dict_int, isi_dict_str, isi_dict_list, isi_dict_tuple, isi_dict_none, isi_dict_dict, $ls,*])
section
variable {ts : List Nat} {rs : List Rc} {tas : List Ta} {d d2 : D}
/-- what a place and a name are worth -/
def spP (ts : List Nat) (d : D) : Prop := ∃ s ∈ spL ts, d = tD s
theorem s_found_w (h2 : ∀ r ∈ rs, r.sp.length ≤ 2) (hl : rs.length ≤ 100) : Okc (f_found_at [some (.dat (hD ts rs tas)), some (.dat d), some (.dat d2)]) (fun o e => spP ts d ∧ blwB d2 8 = true) (fun c e => (c = "NoSpot" ∧ ¬ spP ts d) ∨ (c = "NoNumber" ∧ spP ts d ∧ blwB d2 8 = false)) := by
  by_cases hs : spP ts d
  · cases hb : blwB d2 8 with
    | true =>
      obtain ⟨s, hs1, rfl⟩ := hs
      obtain ⟨i, hi, rfl⟩ := blwB_iff.mp hb
      exact okc_ok ((s_found_at h2 hl hs1 hi).mono fun o e _ => ⟨⟨s, hs1, rfl⟩, rfl⟩)
    | false =>
      have h1 : Ok (f_ask_spot [some (.dat (hD ts rs tas)), some (.dat d)]) fun o e => o = .dat .none := ok_of_okc (okc_mono s_ask_spotX (fun o e z => z.1) fun c e z => z) fun c e z => z.2 hs
      have h3 : Okc (f_ask_name [some (.dat d2)]) (fun o e => False) fun c e => c = "NoNumber" := okc_mono s_ask_nameX (fun o e z => by rw [hb] at z; cases z.2) fun c e z => z.1
      unfold f_found_at m_found_at
      refine okc_runF (okc_seq (okc_ok ?_))
      push_cast
      refine h1.mono ?_
      rintro _ e rfl
      push_cast [nxQ]
      refine okc_seq (okc_ex (okc_call ?_))
      push_cast
      exact okc_mono h3 (fun o e z => z.elim) fun c e z => by first | exact .inr ⟨z, hs, hb⟩ | exact .inr ⟨z, hs⟩
  · have h1 : Okc (f_ask_spot [some (.dat (hD ts rs tas)), some (.dat d)]) (fun o e => False) fun c e => c = "NoSpot" := okc_mono s_ask_spotX (fun o e z => hs z.2) fun c e z => z.1
    unfold f_found_at m_found_at
    refine okc_runF (okc_seq (okc_ex (okc_call ?_)))
    push_cast
    exact okc_mono h1 (fun o e z => z.elim) fun c e z => .inl ⟨z, hs⟩
theorem s_all_w (h2 : ∀ r ∈ rs, r.sp.length ≤ 2) (hl : rs.length ≤ 100) : Okc (f_all_at [some (.dat (hD ts rs tas)), some (.dat d), some (.dat d2)]) (fun o e => spP ts d ∧ blwB d2 8 = true) (fun c e => (c = "NoSpot" ∧ ¬ spP ts d) ∨ (c = "NoNumber" ∧ spP ts d ∧ blwB d2 8 = false)) := by
  by_cases hs : spP ts d
  · cases hb : blwB d2 8 with
    | true =>
      obtain ⟨s, hs1, rfl⟩ := hs
      obtain ⟨i, hi, rfl⟩ := blwB_iff.mp hb
      exact okc_ok ((s_all_at h2 hl hs1 hi).mono fun o e _ => ⟨⟨s, hs1, rfl⟩, rfl⟩)
    | false =>
      have h1 : Ok (f_ask_spot [some (.dat (hD ts rs tas)), some (.dat d)]) fun o e => o = .dat .none := ok_of_okc (okc_mono s_ask_spotX (fun o e z => z.1) fun c e z => z) fun c e z => z.2 hs
      have h3 : Okc (f_ask_name [some (.dat d2)]) (fun o e => False) fun c e => c = "NoNumber" := okc_mono s_ask_nameX (fun o e z => by rw [hb] at z; cases z.2) fun c e z => z.1
      unfold f_all_at m_all_at
      refine okc_runF (okc_seq (okc_ok ?_))
      push_cast
      refine h1.mono ?_
      rintro _ e rfl
      push_cast [nxQ]
      refine okc_seq (okc_ex (okc_call ?_))
      push_cast
      exact okc_mono h3 (fun o e z => z.elim) fun c e z => by first | exact .inr ⟨z, hs, hb⟩ | exact .inr ⟨z, hs⟩
  · have h1 : Okc (f_ask_spot [some (.dat (hD ts rs tas)), some (.dat d)]) (fun o e => False) fun c e => c = "NoSpot" := okc_mono s_ask_spotX (fun o e z => hs z.2) fun c e z => z.1
    unfold f_all_at m_all_at
    refine okc_runF (okc_seq (okc_ex (okc_call ?_)))
    push_cast
    exact okc_mono h1 (fun o e z => z.elim) fun c e z => .inl ⟨z, hs⟩
theorem s_straight_w (h2 : ∀ r ∈ rs, r.sp.length ≤ 2) (hl : rs.length ≤ 100) (hn : ∀ r ∈ rs, r.nd.length ≤ 3) : Okc (f_straight_of [some (.dat (hD ts rs tas)), some (.dat d)]) (fun o e => blwB d rs.length = true) (fun c e => c = "NoRecipe" ∧ blwB d rs.length = false) := by
  cases hb : blwB d rs.length with
  | true =>
    have h1 : Ok (f_ask_recipe [some (.dat (hD ts rs tas)), some (.dat d)]) fun o e => o = .dat .none := ok_of_okc (okc_mono s_ask_recipeX (fun o e z => z.1) fun c e z => z) fun c e z => by rw [hb] at z; cases z.2
    obtain ⟨i, hi, rfl⟩ := blwB_iff.mp hb
    refine okc_ok ?_
    unfold f_straight_of m_straight_of
    push_cast
    refine h1.mono ?_
    rintro _ e rfl
    refine (s_needs_by (tsd := tD ts) (tas := .tuple (tas.map Ta.d)) hi h2 hl hn).mono ?_
    rintro _ e rfl
    push_cast
  | false =>
    have h1 : Okc (f_ask_recipe [some (.dat (hD ts rs tas)), some (.dat d)]) (fun o e => False) fun c e => c = "NoRecipe" := okc_mono s_ask_recipeX (fun o e z => by rw [hb] at z; cases z.2) fun c e z => z.1
    unfold f_straight_of m_straight_of
    refine okc_runF (okc_seq (okc_ex (okc_call ?_)))
    push_cast
    exact okc_mono h1 (fun o e z => z.elim) fun c e z => by first | exact ⟨z, rfl⟩ | exact z
theorem s_tasting_w (h2 : ∀ r ∈ rs, r.sp.length ≤ 2) (hl : rs.length ≤ 100) (hn : ∀ t ∈ tas, t.nd.length ≤ 3) : Okc (f_tasting_needs [some (.dat (hD ts rs tas)), some (.dat d)]) (fun o e => blwB d tas.length = true) (fun c e => c = "NoTasting" ∧ blwB d tas.length = false) := by
  cases hb : blwB d tas.length with
  | true =>
    have h1 : Ok (f_ask_tasting [some (.dat (hD ts rs tas)), some (.dat d)]) fun o e => o = .dat .none := ok_of_okc (okc_mono s_ask_tastingX (fun o e z => z.1) fun c e z => z) fun c e z => by rw [hb] at z; cases z.2
    obtain ⟨i, hi, rfl⟩ := blwB_iff.mp hb
    refine okc_ok ?_
    unfold f_tasting_needs m_tasting_needs
    push_cast
    refine h1.mono ?_
    rintro _ e rfl
    refine (s_tasting_by (tsd := tD ts) hi h2 hl hn).mono ?_
    rintro _ e rfl
    push_cast
  | false =>
    have h1 : Okc (f_ask_tasting [some (.dat (hD ts rs tas)), some (.dat d)]) (fun o e => False) fun c e => c = "NoTasting" := okc_mono s_ask_tastingX (fun o e z => by rw [hb] at z; cases z.2) fun c e z => z.1
    unfold f_tasting_needs m_tasting_needs
    refine okc_runF (okc_seq (okc_ex (okc_call ?_)))
    push_cast
    exact okc_mono h1 (fun o e z => z.elim) fun c e z => by first | exact ⟨z, rfl⟩ | exact z
end
end Mi

set_option Elab.async false
set_option linter.all false
set_option maxRecDepth 20000
set_option maxHeartbeats 0
namespace Mi
open PySem PySem.Spec L2
local macro_rules
  | `(tactic| push_cast) => `(tactic| simp only [ok_ok, ok_ex, ok_stuck, ok_ret, ok_stk, ok_bnd, ok_ofO, opt_some, opt_none, opt_map, opt_bind, opt_ite, rb_b, ri_i, ro_d, ro_own, ro_pl, ok_mC, ok_bin, ok_isi, ok_tst, ok_and, ok_or, ok_not, ok_andV, ok_orV, ok_notV, ok_mif, ok_nil, ok_cons, ok_frz_d, ok_frz_pl, ok_frzAll_nil, ok_frzAll_cons, ok_tup, ok_lst, ok_no, ok_so, ok_sl, ok_cb, resAll_nil, resAll_cons, ok_call, ok_seq, seqQ_nx, seqQ_rt, seqQ_bk, seqQ_ct, ok_mEx, ok_mRet, ok_ite, ok_set, ok_setK_d, ok_setK_own, ok_setK_pl, ok_runF, runQ_rt, runQ_nx, frz_d, frz_lst, frz_dat, frz_pl, res_d, res_pl, rv_val, rv_tup, rv_lst, orv_dat, orv_lst, ok_neg, ok_lstR, ok_chkL, lstAt, ok_mMet, ok_mMetF, ok_store, ok_mFor, forQ_nx, forQ_ct, forQ_bk, forQ_rt, ok_mLc, ok_mWk, wkOf_str, wkOf_list, wkOf_tuple, wkOf_pl, rsI_i, ok_rng1, ok_rng2, ok_rng3, rsI2_i, rsI3_i, ok_enu, ok_zip, seqOf_list, seqOf_tuple, seqOf_pl, ok_setE, ok_back, rs_s, ok_tx0, ok_tx1, ok_dic1, lst1_l, datAt, ok_sortK, ok_maxK, rd1_d, ok_mTgt, ok_isN, ok_maxD, gExt_l, gExt_t, gIns_0, gClr_0, gSorted_l, mVar, argOs, argO, ioSlots, lentSlots, apart, backEnv, allFlat, O.flat, flat, flats, wipeE, restE, ownFree, srcOk, asgT_nm, asgT_tp, asgTs_nil, asgTs_cons, Option.bind_some, opt_vB, opt_vI, gLt_i, gLe_i, gGt_i, gGe_i, gAdd_i, gAdd_t, gAdd_l, gAdd_s, gSub_i, gMul_i, gFdiv_i, gMod_i, gPow_i, gIx_l, gIx_t, gIx_s, gLen_l, gLen_t, gLen_s, gTuple_l, gTuple_t, gList_l, gList_t, gInt_i, gInt_b, gMax2_i, gMin2_i, gCut_l, gCut_t, gCut_s, gAll_l, gAny_l, gSum_l, gEq_i, gNe_i, gEq_b, gNe_b, gEqE_l, gNeE_l, gEqE_t, gNeE_t, gApp_1, gPopI_1, gStr_i, seqD_l, seqD_t, atI_0, List.cons_append, List.nil_append, List.length_cons, List.length_nil, List.replicate_succ, List.replicate_zero, Nat.reduceAdd, Nat.reduceSub, List.getElem?_cons_succ, List.getElem?_cons_zero, List.set_cons_succ, List.set_cons_zero, List.getElem?_nil, List.contains_cons, List.contains_nil, Bool.or_false, Bool.false_or, Bool.or_true, Bool.true_or, Bool.and_true, Bool.true_and, Bool.and_false, Bool.false_and, Nat.reduceBEq, List.isEmpty_nil, List.isEmpty_cons, Bool.not_true, Bool.not_false, List.all_cons, List.all_nil, List.any_cons, List.any_nil, Option.getD_some, Option.getD_none, decide_eq_true_eq, decide_eq_false_iff_not, Bool.true_eq_false, Bool.false_eq_true, true_implies, false_implies, true_and, and_true, false_and, and_false, implies_true, Bool.not_eq_true', Bool.not_eq_false', if_true, if_false, ite_true, ite_false, reduceCtorEq, forall_const, isi_bool_bool, isi_bool_int, isi_bool_str, isi_bool_list, isi_bool_tuple, isi_bool_none, isi_bool_dict, isi_int_bool, isi_int_int, isi_int_str, isi_int_list, isi_int_tuple, isi_int_none, isi_int_dict, isi_str_bool, isi_str_int, isi_str_str, isi_str_list, isi_str_tuple, isi_str_none, isi_str_dict, isi_list_bool, isi_list_int, isi_list_str, isi_list_list, isi_list_tuple, isi_list_none, isi_list_dict, isi_tuple_bool, isi_tuple_int, isi_tuple_str, isi_tuple_list, isi_tuple_tuple, isi_tuple_none, isi_tuple_dict, isi_dict_bool, isi_dict_int, isi_dict_str, isi_dict_list, isi_dict_tuple, isi_dict_none, isi_dict_dict])
  | `(tactic| push_cast [$ls,*]) => `(tactic| simp only [ok_ok, ok_ex, ok_stuck, ok_ret, ok_stk, ok_bnd, ok_ofO, opt_some, opt_none, opt_map, opt_bind, opt_ite, rb_b, ri_i, ro_d, ro_own, ro_pl, ok_mC, ok_bin, ok_isi, ok_tst, ok_and, ok_or, ok_not, ok_andV, ok_orV, ok_notV, ok_mif, ok_nil, ok_cons, ok_frz_d, ok_frz_pl, ok_frzAll_nil, ok_frzAll_cons, ok_tup, ok_lst, ok_no, ok_so, ok_sl, ok_cb, resAll_nil, resAll_cons, ok_call, ok_seq, seqQ_nx, seqQ_rt, seqQ_bk, seqQ_ct, ok_mEx, ok_mRet, ok_ite, ok_set, ok_setK_d, ok_setK_own, ok_setK_pl, ok_runF, runQ_rt, runQ_nx, frz_d, frz_lst, frz_dat, frz_pl, res_d, res_pl, rv_val, rv_tup, rv_lst, orv_dat, orv_lst, ok_neg, ok_lstR, ok_chkL, lstAt, ok_mMet, ok_mMetF, ok_store, ok_mFor, forQ_nx, forQ_ct, forQ_bk, forQ_rt, ok_mLc, ok_mWk, wkOf_str, wkOf_list, wkOf_tuple, wkOf_pl, rsI_i, ok_rng1, ok_rng2, ok_rng3, rsI2_i, rsI3_i, ok_enu, ok_zip, seqOf_list, seqOf_tuple, seqOf_pl, ok_setE, ok_back, rs_s, ok_tx0, ok_tx1, ok_dic1, lst1_l, datAt, ok_sortK, ok_maxK, rd1_d, ok_mTgt, ok_isN, ok_maxD, gExt_l, gExt_t, gIns_0, gClr_0, gSorted_l, mVar, argOs, argO, ioSlots, lentSlots, apart, backEnv, allFlat, O.flat, flat, flats, wipeE, restE, ownFree, srcOk, asgT_nm, asgT_tp, asgTs_nil, asgTs_cons, Option.bind_some, opt_vB, opt_vI, gLt_i, gLe_i, gGt_i, gGe_i, gAdd_i, gAdd_t, gAdd_l, gAdd_s, gSub_i, gMul_i, gFdiv_i, gMod_i, gPow_i, gIx_l, gIx_t, gIx_s, gLen_l, gLen_t, gLen_s, gTuple_l, gTuple_t, gList_l, gList_t, gInt_i, gInt_b, gMax2_i, gMin2_i, gCut_l, gCut_t, gCut_s, gAll_l, gAny_l, gSum_l, gEq_i, gNe_i, gEq_b, gNe_b, gEqE_l, gNeE_l, gEqE_t, gNeE_t, gApp_1, gPopI_1, gStr_i, seqD_l, seqD_t, atI_0, List.cons_append, List.nil_append, List.length_cons, List.length_nil, List.replicate_succ, List.replicate_zero, Nat.reduceAdd, Nat.reduceSub, List.getElem?_cons_succ, List.getElem?_cons_zero, List.set_cons_succ, List.set_cons_zero, List.getElem?_nil, List.contains_cons, List.contains_nil, Bool.or_false, Bool.false_or, Bool.or_true, Bool.true_or, Bool.and_true, Bool.true_and, Bool.and_false, Bool.false_and, Nat.reduceBEq, List.isEmpty_nil, List.isEmpty_cons, Bool.not_true, Bool.not_false, List.all_cons, List.all_nil, List.any_cons, List.any_nil, Option.getD_some, Option.getD_none, decide_eq_true_eq, decide_eq_false_iff_not, Bool.true_eq_false, Bool.false_eq_true, true_implies, false_implies, true_and, and_true, false_and, and_false, implies_true, Bool.not_eq_true', Bool.not_eq_false', if_true, if_false, ite_true, ite_false, reduceCtorEq, forall_const, isi_bool_bool, isi_bool_int, isi_bool_str, isi_bool_list, isi_bool_tuple, isi_bool_none, isi_bool_dict, isi_int_bool, isi_int_int, isi_int_str, isi_int_list, isi_int_tuple, isi_int_none, isi_int_dict, isi_str_bool, isi_str_int, isi_str_str, isi_str_list, isi_str_tuple, isi_str_none, isi_str_dict, isi_list_bool, isi_list_int, isi_list_str, isi_list_list, isi_list_tuple, isi_list_none, isi_list_dict, isi_tuple_bool, isi_tuple_int, isi_tuple_str, isi_tuple_list, isi_tuple_tuple, isi_tuple_none, isi_tuple_dict, isi_dict_bool, isi_dict_int, isi_dict_str, isi_dict_list, isi_dict_tuple, isi_dict_none, isi_dict_dict, $ls,*])
abbrev LW : List (String × Str) := [("NoSpot", Str.ofString "spot"), ("NoNumber", Str.ofString "number"), ("NoRecipe", Str.ofString "recipe"), ("NoTasting", Str.ofString "tasting")]
def wF (b1 b2 : Bool) : Str := if b1 = true then (if b2 = true then Str.ofString "none" else Str.ofString "number") else Str.ofString "spot"
def wR (b : Bool) : Str := if b = true then Str.ofString "none" else Str.ofString "recipe"
def wT (b : Bool) : Str := if b = true then Str.ofString "none" else Str.ofString "tasting"
theorem pk1 : pickH errs "NoSpot" LW = some (some (Str.ofString "spot")) := by kernel_rfl
theorem pk2 : pickH errs "NoNumber" LW = some (some (Str.ofString "number")) := by kernel_rfl
theorem pk3 : pickH errs "NoRecipe" LW = some (some (Str.ofString "recipe")) := by kernel_rfl
theorem pk4 : pickH errs "NoTasting" LW = some (some (Str.ofString "tasting")) := by kernel_rfl
section
variable {ts : List Nat} {rs : List Rc} {tas : List Ta} {d1 d2 d3 : D}
theorem w_found {b1 b2 : Bool} (h2 : ∀ r ∈ rs, r.sp.length ≤ 2) (hl : rs.length ≤ 100) (hb1 : b1 = true ↔ spP ts d1) (hb2 : blwB d2 8 = b2) (x4 x5 x6 : Option O) :
    Ok (mWord errs LW (Str.ofString "none") (mCall [] f_found_at (mCons (mVar 0) (mCons (mVar 1) (mCons (mVar 2) mNil)))) [some (.dat (hD ts rs tas)), some (.dat d1), some (.dat d2), some (.dat d3), x4, x5, x6])
      fun r e => r = .d (.str (wF b1 b2)) ∧ e = [some (.dat (hD ts rs tas)), some (.dat d1), some (.dat d2), some (.dat d3), x4, x5, x6] := by
  refine ok_word (okc_call ?_)
  push_cast
  refine okc_mono (s_found_w h2 hl) (fun o e z => ?_) fun c e z => ?_
  · obtain ⟨z1, z2⟩ := z
    rw [hb1.mpr z1, ← hb2, z2]
    first | exact ⟨rfl, rfl⟩ | rfl
  · rcases z with ⟨rfl, z1⟩ | ⟨rfl, z1, z2⟩
    · have : b1 = false := by
        cases b1 with
        | true => exact absurd (hb1.mp rfl) z1
        | false => rfl
      subst this
      exact ⟨_, pk1, by first | exact ⟨rfl, rfl⟩ | rfl⟩
    · rw [hb1.mpr z1, ← hb2, z2]
      exact ⟨_, pk2, by first | exact ⟨rfl, rfl⟩ | rfl⟩
theorem w_all {b1 b2 : Bool} (h2 : ∀ r ∈ rs, r.sp.length ≤ 2) (hl : rs.length ≤ 100) (hb1 : b1 = true ↔ spP ts d1) (hb2 : blwB d2 8 = b2) (x4 x5 x6 : Option O) :
    Ok (mWord errs LW (Str.ofString "none") (mCall [] f_all_at (mCons (mVar 0) (mCons (mVar 1) (mCons (mVar 2) mNil)))) [some (.dat (hD ts rs tas)), some (.dat d1), some (.dat d2), some (.dat d3), x4, x5, x6])
      fun r e => r = .d (.str (wF b1 b2)) ∧ e = [some (.dat (hD ts rs tas)), some (.dat d1), some (.dat d2), some (.dat d3), x4, x5, x6] := by
  refine ok_word (okc_call ?_)
  push_cast
  refine okc_mono (s_all_w h2 hl) (fun o e z => ?_) fun c e z => ?_
  · obtain ⟨z1, z2⟩ := z
    rw [hb1.mpr z1, ← hb2, z2]
    first | exact ⟨rfl, rfl⟩ | rfl
  · rcases z with ⟨rfl, z1⟩ | ⟨rfl, z1, z2⟩
    · have : b1 = false := by
        cases b1 with
        | true => exact absurd (hb1.mp rfl) z1
        | false => rfl
      subst this
      exact ⟨_, pk1, by first | exact ⟨rfl, rfl⟩ | rfl⟩
    · rw [hb1.mpr z1, ← hb2, z2]
      exact ⟨_, pk2, by first | exact ⟨rfl, rfl⟩ | rfl⟩
theorem w_straight {b : Bool} (h2 : ∀ r ∈ rs, r.sp.length ≤ 2) (hl : rs.length ≤ 100) (hn : ∀ r ∈ rs, r.nd.length ≤ 3) (hb : blwB d3 rs.length = b) (x4 x5 x6 : Option O) :
    Ok (mWord errs LW (Str.ofString "none") (mCall [] f_straight_of (mCons (mVar 0) (mCons (mVar 3) mNil))) [some (.dat (hD ts rs tas)), some (.dat d1), some (.dat d2), some (.dat d3), x4, x5, x6])
      fun r e => r = .d (.str (wR b)) ∧ e = [some (.dat (hD ts rs tas)), some (.dat d1), some (.dat d2), some (.dat d3), x4, x5, x6] := by
  refine ok_word (okc_call ?_)
  push_cast
  refine okc_mono (s_straight_w h2 hl hn) (fun o e z => ?_) fun c e z => ?_
  · rw [← hb, z]
    first | exact ⟨rfl, rfl⟩ | rfl
  · obtain ⟨rfl, z1⟩ := z
    rw [← hb, z1]
    exact ⟨_, pk3, by first | exact ⟨rfl, rfl⟩ | rfl⟩
theorem w_tasting {b : Bool} (h2 : ∀ r ∈ rs, r.sp.length ≤ 2) (hl : rs.length ≤ 100) (hn : ∀ t ∈ tas, t.nd.length ≤ 3) (hb : blwB d3 tas.length = b) (x4 x5 x6 : Option O) :
    Ok (mWord errs LW (Str.ofString "none") (mCall [] f_tasting_needs (mCons (mVar 0) (mCons (mVar 3) mNil))) [some (.dat (hD ts rs tas)), some (.dat d1), some (.dat d2), some (.dat d3), x4, x5, x6])
      fun r e => r = .d (.str (wT b)) ∧ e = [some (.dat (hD ts rs tas)), some (.dat d1), some (.dat d2), some (.dat d3), x4, x5, x6] := by
  refine ok_word (okc_call ?_)
  push_cast
  refine okc_mono (s_tasting_w h2 hl hn) (fun o e z => ?_) fun c e z => ?_
  · rw [← hb, z]
    first | exact ⟨rfl, rfl⟩ | rfl
  · obtain ⟨rfl, z1⟩ := z
    rw [← hb, z1]
    exact ⟨_, pk4, by first | exact ⟨rfl, rfl⟩ | rfl⟩
def eqT : Option Out → Bool
  | some (.val (.bool true)) => true
  | _ => false
theorem eq_words (b1 b2 b3 b4 : Bool) : gEq (.list [.str (wF b1 b2), .str (wF b1 b2), .str (wR b3), .str (wT b4)]) (.list [.str (wF b1 b2), .str (wF b1 b2), .str (wR b3), .str (wT b4)]) = vB true := by
  cases b1 <;> cases b2 <;> cases b3 <;> cases b4 <;> kernel_rfl
theorem ix_n {b : Bool} : atI [PyData.str (Str.ofString "number"), .str (Str.ofString "none")] (if b = true then 1 else 0) = some (.str (if b = true then Str.ofString "none" else Str.ofString "number")) := by cases b <;> rfl
theorem ix_F {b1 b2 : Bool} : atI [PyData.str (Str.ofString "spot"), .str (if b2 = true then Str.ofString "none" else Str.ofString "number")] (if b1 = true then 1 else 0) = some (.str (wF b1 b2)) := by cases b1 <;> rfl
theorem ix_R {b : Bool} : atI [PyData.str (Str.ofString "recipe"), .str (Str.ofString "none")] (if b = true then 1 else 0) = some (.str (wR b)) := by cases b <;> rfl
theorem ix_T {b : Bool} : atI [PyData.str (Str.ofString "tasting"), .str (Str.ofString "none")] (if b = true then 1 else 0) = some (.str (wT b)) := by cases b <;> rfl
theorem gx_1 : gIx (hD ts rs tas) (.int 1) = some (.val (.tuple (rs.map Rc.d))) := rfl
theorem gx_2 : gIx (hD ts rs tas) (.int 2) = some (.val (.tuple (tas.map Ta.d))) := rfl
theorem s_asked {n : Nat} {h : Ho} (hh : HoOk n h) : Ok (f_law_asked [some (.dat h.d), some (.dat d1), some (.dat d2), some (.dat d3)]) fun o e => o = .dat (.bool true) := by
  obtain ⟨⟨n1, n8⟩, ht, r8, hr, hu, s6, hs⟩ := hh
  have h2 : ∀ r ∈ h.rs, r.sp.length ≤ 2 := fun r hx => two_of (hr r hx).2.1
  have hl : h.rs.length ≤ 100 := by omega
  have hn : ∀ r ∈ h.rs, r.nd.length ≤ 3 := fun r hx => (hr r hx).2.2.2.2.2.1
  have hn2 : ∀ t ∈ h.tas, t.nd.length ≤ 3 := fun t hx => (hs t hx).2.1.1
  have e0 : h.d = hD h.ts h.rs h.tas := rfl
  rw [e0]
  have I2 := s_is_in (d := d2) (n := 8)
  have I3 := s_is_in (d := d3) (n := h.rs.length)
  have I4 := s_is_in (d := d3) (n := h.tas.length)
  have W3 := fun x4 x5 x6 => w_straight (d1 := d1) (d2 := d2) (d3 := d3) (ts := h.ts) (tas := h.tas) h2 hl hn rfl x4 x5 x6
  have W4 := fun x4 x5 x6 => w_tasting (d1 := d1) (d2 := d2) (d3 := d3) (ts := h.ts) h2 hl hn2 rfl x4 x5 x6
  unfold f_law_asked m_law_asked
  push_cast
  refine (s_is_place ht).mono ?_
  rintro _ e ⟨b1, rfl, hb1⟩
  have W1 := fun x4 x5 x6 => w_found (d3 := d3) (tas := h.tas) (d2 := d2) h2 hl hb1 rfl x4 x5 x6
  have W2 := fun x4 x5 x6 => w_all (d3 := d3) (tas := h.tas) (d2 := d2) h2 hl hb1 rfl x4 x5 x6
  generalize blwB d2 8 = b2 at I2 W1 W2
  generalize blwB d3 h.rs.length = b3 at I3 W3
  generalize blwB d3 h.tas.length = b4 at I4 W4
  push_cast
  refine I2.mono ?_
  rintro _ e rfl
  push_cast [ix_n, ix_F, gx_1, List.length_map]
  refine ⟨by decide, ?_⟩
  refine I3.mono ?_
  rintro _ e rfl
  push_cast [ix_R, gx_2, List.length_map]
  refine ⟨by decide, ?_⟩
  refine I4.mono ?_
  rintro _ e rfl
  push_cast [ix_T]
  refine ⟨by decide, ?_⟩
  refine (W1 _ _ _).mono ?_
  rintro _ _ ⟨rfl, rfl⟩
  push_cast
  refine (W2 _ _ _).mono ?_
  rintro _ _ ⟨rfl, rfl⟩
  push_cast
  refine ⟨by decide, ?_⟩
  refine (W3 _ _ _).mono ?_
  rintro _ _ ⟨rfl, rfl⟩
  push_cast
  refine ⟨by decide, ?_⟩
  refine (W4 _ _ _).mono ?_
  rintro _ _ ⟨rfl, rfl⟩
  push_cast
  refine ⟨by decide, ?_⟩
  push_cast [eq_words]
end
end Mi

set_option Elab.async false
set_option linter.all false
set_option maxRecDepth 20000
set_option maxHeartbeats 0
namespace Mi
open PySem PySem.Spec L2
local macro_rules
  | `(tactic| push_cast) => `(tactic| simp only [ok_ok, ok_ex, ok_stuck, ok_ret, ok_stk, ok_bnd, ok_ofO, opt_some, opt_none, opt_map, opt_bind, opt_ite, rb_b, ri_i, ro_d, ro_own, ro_pl, ok_mC, ok_bin, ok_isi, ok_tst, ok_and, ok_or, ok_not, ok_andV, ok_orV, ok_notV, ok_mif, ok_nil, ok_cons, ok_frz_d, ok_frz_pl, ok_frzAll_nil, ok_frzAll_cons, ok_tup, ok_lst, ok_no, ok_so, ok_sl, ok_cb, resAll_nil, resAll_cons, ok_call, ok_seq, seqQ_nx, seqQ_rt, seqQ_bk, seqQ_ct, ok_mEx, ok_mRet, ok_ite, ok_set, ok_setK_d, ok_setK_own, ok_setK_pl, ok_runF, runQ_rt, runQ_nx, frz_d, frz_lst, frz_dat, frz_pl, res_d, res_pl, rv_val, rv_tup, rv_lst, orv_dat, orv_lst, ok_neg, ok_lstR, ok_chkL, lstAt, ok_mMet, ok_mMetF, ok_store, ok_mFor, forQ_nx, forQ_ct, forQ_bk, forQ_rt, ok_mLc, ok_mWk, wkOf_str, wkOf_list, wkOf_tuple, wkOf_pl, rsI_i, ok_rng1, ok_rng2, ok_rng3, rsI2_i, rsI3_i, ok_enu, ok_zip, seqOf_list, seqOf_tuple, seqOf_pl, ok_setE, ok_back, rs_s, ok_tx0, ok_tx1, ok_dic1, lst1_l, datAt, ok_sortK, ok_maxK, rd1_d, ok_mTgt, ok_isN, ok_maxD, gExt_l, gExt_t, gIns_0, gClr_0, gSorted_l, mVar, argOs, argO, ioSlots, lentSlots, apart, backEnv, allFlat, O.flat, flat, flats, wipeE, restE, ownFree, srcOk, asgT_nm, asgT_tp, asgTs_nil, asgTs_cons, Option.bind_some, opt_vB, opt_vI, gLt_i, gLe_i, gGt_i, gGe_i, gAdd_i, gAdd_t, gAdd_l, gAdd_s, gSub_i, gMul_i, gFdiv_i, gMod_i, gPow_i, gIx_l, gIx_t, gIx_s, gLen_l, gLen_t, gLen_s, gTuple_l, gTuple_t, gList_l, gList_t, gInt_i, gInt_b, gMax2_i, gMin2_i, gCut_l, gCut_t, gCut_s, gAll_l, gAny_l, gSum_l, gEq_i, gNe_i, gEq_b, gNe_b, gEqE_l, gNeE_l, gEqE_t, gNeE_t, gApp_1, gPopI_1, gStr_i, seqD_l, seqD_t, atI_0, List.cons_append, List.nil_append, List.length_cons, List.length_nil, List.replicate_succ, List.replicate_zero, Nat.reduceAdd, Nat.reduceSub, List.getElem?_cons_succ, List.getElem?_cons_zero, List.set_cons_succ, List.set_cons_zero, List.getElem?_nil, List.contains_cons, List.contains_nil, Bool.or_false, Bool.false_or, Bool.or_true, Bool.true_or, Bool.and_true, Bool.true_and, Bool.and_false, Bool.false_and, Nat.reduceBEq, List.isEmpty_nil, List.isEmpty_cons, Bool.not_true, Bool.not_false, List.all_cons, List.all_nil, List.any_cons, List.any_nil, Option.getD_some, Option.getD_none, decide_eq_true_eq, decide_eq_false_iff_not, Bool.true_eq_false, Bool.false_eq_true, true_implies, false_implies, true_and, and_true, false_and, and_false, implies_true, Bool.not_eq_true', Bool.not_eq_false', if_true, if_false, ite_true, ite_false, reduceCtorEq, forall_const, isi_bool_bool, isi_bool_int, isi_bool_str, isi_bool_list, isi_bool_tuple, isi_bool_none, isi_bool_dict, isi_int_bool, isi_int_int, isi_int_str, isi_int_list, isi_int_tuple, isi_int_none, isi_int_dict, isi_str_bool, isi_str_int, isi_str_str, isi_str_list, isi_str_tuple, isi_str_none, isi_str_dict, isi_list_bool, isi_list_int, isi_list_str, isi_list_list, isi_list_tuple, isi_list_none, isi_list_dict, isi_tuple_bool, isi_tuple_int, isi_tuple_str, isi_tuple_list, isi_tuple_tuple, isi_tuple_none, isi_tuple_dict, isi_dict_bool, isi_dict_int, isi_dict_str, isi_dict_list, isi_dict_tuple, isi_dict_none, isi_dict_dict])
  | `(tactic| push_cast [$ls,*]) => `(tactic| simp only [ok_ok, ok_ex, ok_stuck, ok_ret, ok_stk, ok_bnd, ok_ofO, opt_some, opt_none, opt_map, opt_bind, opt_ite, rb_b, ri_i, ro_d, ro_own, ro_pl, ok_mC, ok_bin, ok_isi, ok_tst, ok_and, ok_or, ok_not, ok_andV, ok_orV, ok_notV, ok_mif, ok_nil, ok_cons, ok_frz_d, ok_frz_pl, ok_frzAll_nil, ok_frzAll_cons, ok_tup, ok_lst, ok_no, ok_so, ok_sl, ok_cb, resAll_nil, resAll_cons, ok_call, ok_seq, seqQ_nx, seqQ_rt, seqQ_bk, seqQ_ct, ok_mEx, ok_mRet, ok_ite, ok_set, ok_setK_d, ok_setK_own, ok_setK_pl, ok_runF, runQ_rt, runQ_nx, frz_d, frz_lst, frz_dat, frz_pl, res_d, res_pl, rv_val, rv_tup, rv_lst, orv_dat, orv_lst, ok_neg, ok_lstR, ok_chkL, lstAt, ok_mMet, ok_mMetF, ok_store, ok_mFor, forQ_nx, forQ_ct, forQ_bk, forQ_rt, ok_mLc, ok_mWk, wkOf_str, wkOf_list, wkOf_tuple, wkOf_pl, rsI_i, ok_rng1, ok_rng2, ok_rng3, rsI2_i, rsI3_i, ok_enu, ok_zip, seqOf_list, seqOf_tuple, seqOf_pl, ok_setE, ok_back, rs_s, ok_tx0, ok_tx1, ok_dic1, lst1_l, datAt, ok_sortK, ok_maxK, rd1_d, ok_mTgt, ok_isN, ok_maxD, gExt_l, gExt_t, gIns_0, gClr_0, gSorted_l, mVar, argOs, argO, ioSlots, lentSlots, apart, backEnv, allFlat, O.flat, flat, flats, wipeE, restE, ownFree, srcOk, asgT_nm, asgT_tp, asgTs_nil, asgTs_cons, Option.bind_some, opt_vB, opt_vI, gLt_i, gLe_i, gGt_i, gGe_i, gAdd_i, gAdd_t, gAdd_l, gAdd_s, gSub_i, gMul_i, gFdiv_i, gMod_i, gPow_i, gIx_l, gIx_t, gIx_s, gLen_l, gLen_t, gLen_s, gTuple_l, gTuple_t, gList_l, gList_t, gInt_i, gInt_b, gMax2_i, gMin2_i, gCut_l, gCut_t, gCut_s, gAll_l, gAny_l, gSum_l, gEq_i, gNe_i, gEq_b, gNe_b, gEqE_l, gNeE_l, gEqE_t, gNeE_t, gApp_1, gPopI_1, gStr_i, seqD_l, seqD_t, atI_0, List.cons_append, List.nil_append, List.length_cons, List.length_nil, List.replicate_succ, List.replicate_zero, Nat.reduceAdd, Nat.reduceSub, List.getElem?_cons_succ, List.getElem?_cons_zero, List.set_cons_succ, List.set_cons_zero, List.getElem?_nil, List.contains_cons, List.contains_nil, Bool.or_false, Bool.false_or, Bool.or_true, Bool.true_or, Bool.and_true, Bool.true_and, Bool.and_false, Bool.false_and, Nat.reduceBEq, List.isEmpty_nil, List.isEmpty_cons, Bool.not_true, Bool.not_false, List.all_cons, List.all_nil, List.any_cons, List.any_nil, Option.getD_some, Option.getD_none, decide_eq_true_eq, decide_eq_false_iff_not, Bool.true_eq_false, Bool.false_eq_true, true_implies, false_implies, true_and, and_true, false_and, and_false, implies_true, Bool.not_eq_true', Bool.not_eq_false', if_true, if_false, ite_true, ite_false, reduceCtorEq, forall_const, isi_bool_bool, isi_bool_int, isi_bool_str, isi_bool_list, isi_bool_tuple, isi_bool_none, isi_bool_dict, isi_int_bool, isi_int_int, isi_int_str, isi_int_list, isi_int_tuple, isi_int_none, isi_int_dict, isi_str_bool, isi_str_int, isi_str_str, isi_str_list, isi_str_tuple, isi_str_none, isi_str_dict, isi_list_bool, isi_list_int, isi_list_str, isi_list_list, isi_list_tuple, isi_list_none, isi_list_dict, isi_tuple_bool, isi_tuple_int, isi_tuple_str, isi_tuple_list, isi_tuple_tuple, isi_tuple_none, isi_tuple_dict, isi_dict_bool, isi_dict_int, isi_dict_str, isi_dict_list, isi_dict_tuple, isi_dict_none, isi_dict_dict, $ls,*])
def dl (o : O) : Prop := (∃ d, o = .dat d) ∨ ∃ ds, o = .lst ds
theorem dl_of {o : O} {d : D} (ho : o.rv.frz = .d d) (ht : isTpl o = false) : dl o := by
  cases o with
  | dat d => exact .inl ⟨d, rfl⟩
  | lst ds => exact .inr ⟨ds, rfl⟩
  | tpl ds => cases ht
  | dct ds => cases ht
theorem ask_ite {n : Nat} {h : Ho} (hh : HoOk n h) {x0 x1 x3 x4 x8 x9 : Option O} {o5 o6 o7 : O} (h5 : dl o5) (h6 : dl o6) (h7 : dl o7) :
    Ok (mIte (mNot (tst (mCall [] f_law_asked (mCons (mVar 2) (mCons (mVar 5) (mCons (mVar 6) (mCons (mVar 7) mNil))))))) (mRet [] (mC (.bool false))) (ret .nx) [x0, x1, some (.dat h.d), x3, x4, some o5, some o6, some o7, x8, x9])
      fun fl e => fl = .nx ∧ e = [x0, x1, some (.dat h.d), x3, x4, some o5, some o6, some o7, x8, x9] := by
  rcases h5 with ⟨d5, rfl⟩ | ⟨d5, rfl⟩ <;> rcases h6 with ⟨d6, rfl⟩ | ⟨d6, rfl⟩ <;> rcases h7 with ⟨d7, rfl⟩ | ⟨d7, rfl⟩ <;> (push_cast; refine (s_asked hh).mono ?_; rintro _ e rfl; push_cast)
theorem spd_i {k n : Nat} (h : n < 100) : spd k (iD n) := by
  have : 0 ≤ (n : Int) ∧ (n : Int) < 10 ^ 10 := ⟨by omega, by omega⟩
  cases k <;> exact this
theorem spd_sp {ts s : List Nat} (ht : TsOk ts) (hs : s ∈ spL ts) : spd 2 (tD s) := by
  obtain ⟨h1, h2⟩ := spl_small ht hs
  refine ⟨by rw [List.length_map]; omega, fun d hd => ?_⟩
  obtain ⟨x, hx, rfl⟩ := List.mem_map.mp hd
  exact spd_i (by have := h2 x hx; omega)
theorem st5 {ts s : List Nat} (ht : TsOk ts) (hs : s ∈ spL ts) {x0 x2 x3 x4 x6 x7 x8 x9 : Option O} {p : List D} (hp : V p) :
    Ok (mIte (tst (mBin gEq (mCall [0] f_law_draw (mCons (mVar 1) (mCons (mC (.int 2)) mNil))) (mC (.int 0)))) (mSet 5 (mCall [0] (f_law_spoilt 3) (mCons (mVar 1) (mCons (mVar 5) mNil)))) (ret .nx) [x0, some (.lst p), x2, x3, x4, some (.dat (tD s)), x6, x7, x8, x9])
      fun fl e => fl = .nx ∧ ∃ p' o5, V p' ∧ dl o5 ∧ e = [x0, some (.lst p'), x2, x3, x4, some o5, x6, x7, x8, x9] := by
  push_cast
  refine (s_draw hp (by decide) (by decide)).mono ?_
  rintro _ e ⟨x, hx, rfl, p1, hp1, he⟩
  push_cast [he]
  refine ⟨fun _ => ?_, fun _ => ⟨p1, _, hp1, .inl ⟨_, rfl⟩, rfl⟩⟩
  refine (s_spoilt 2 hp1 (spd_sp ht hs)).mono ?_
  rintro o e ⟨d0, hd0, ⟨ho, hto⟩, p3, hp3, he⟩
  rcases dl_of ho hto with ⟨d, rfl⟩ | ⟨d, rfl⟩
  · push_cast [he]
    exact ⟨p3, _, hp3, .inl ⟨_, rfl⟩, rfl⟩
  · push_cast [he]
    exact ⟨p3, _, hp3, .inr ⟨_, rfl⟩, rfl⟩
theorem st6 {x0 x2 x3 x4 x5 x7 x8 x9 : Option O} {o6 : O} (h6 : dl o6) {p : List D} (hp : V p) :
    Ok (mIte (tst (mBin gEq (mCall [0] f_law_draw (mCons (mVar 1) (mCons (mC (.int 3)) mNil))) (mC (.int 0)))) (mSet 6 (mCall [0] (f_law_thing 3) (mCons (mVar 1) (mCons (mC (.int 2)) mNil)))) (ret .nx) [x0, some (.lst p), x2, x3, x4, x5, some o6, x7, x8, x9])
      fun fl e => fl = .nx ∧ ∃ p' o6, V p' ∧ dl o6 ∧ e = [x0, some (.lst p'), x2, x3, x4, x5, some o6, x7, x8, x9] := by
  push_cast
  refine (s_draw hp (by decide) (by decide)).mono ?_
  rintro _ e ⟨x, hx, rfl, p1, hp1, he⟩
  push_cast [he]
  refine ⟨fun _ => ?_, fun _ => ⟨p1, _, hp1, h6, rfl⟩⟩
  refine (s_thing 2 (dp := 2) hp1 (by omega)).mono ?_
  rintro o e ⟨d0, hd0, ⟨ho, hto⟩, p3, hp3, he⟩
  rcases dl_of ho hto with ⟨d, rfl⟩ | ⟨d, rfl⟩
  · push_cast [he]
    exact ⟨p3, _, hp3, .inl ⟨_, rfl⟩, rfl⟩
  · push_cast [he]
    exact ⟨p3, _, hp3, .inr ⟨_, rfl⟩, rfl⟩
theorem st7 {x0 x2 x3 x4 x5 x6 x8 x9 : Option O} {o7 : O} (h7 : dl o7) {p : List D} (hp : V p) :
    Ok (mIte (tst (mBin gEq (mCall [0] f_law_draw (mCons (mVar 1) (mCons (mC (.int 3)) mNil))) (mC (.int 0)))) (mSet 7 (mCall [0] (f_law_thing 3) (mCons (mVar 1) (mCons (mC (.int 2)) mNil)))) (ret .nx) [x0, some (.lst p), x2, x3, x4, x5, x6, some o7, x8, x9])
      fun fl e => fl = .nx ∧ ∃ p' o7, V p' ∧ dl o7 ∧ e = [x0, some (.lst p'), x2, x3, x4, x5, x6, some o7, x8, x9] := by
  push_cast
  refine (s_draw hp (by decide) (by decide)).mono ?_
  rintro _ e ⟨x, hx, rfl, p1, hp1, he⟩
  push_cast [he]
  refine ⟨fun _ => ?_, fun _ => ⟨p1, _, hp1, h7, rfl⟩⟩
  refine (s_thing 2 (dp := 2) hp1 (by omega)).mono ?_
  rintro o e ⟨d0, hd0, ⟨ho, hto⟩, p3, hp3, he⟩
  rcases dl_of ho hto with ⟨d, rfl⟩ | ⟨d, rfl⟩
  · push_cast [he]
    exact ⟨p3, _, hp3, .inl ⟨_, rfl⟩, rfl⟩
  · push_cast [he]
    exact ⟨p3, _, hp3, .inr ⟨_, rfl⟩, rfl⟩
theorem st_par {ts : List Nat} (ht : TsOk ts) {x0 x2 x4 x5 x6 x7 x8 x9 : Option O} {p : List D} (hp : V p) :
    Ok (mPar3 5 6 7 (mBin gIx (mVar 3) (mCall [0] f_law_draw (mCons (mVar 1) (mCons (mCB gLen (mCons (mVar 3) mNil)) mNil)))) (mCall [0] f_law_draw (mCons (mVar 1) (mCons (mC (.int 10)) mNil))) (mCall [0] f_law_draw (mCons (mVar 1) (mCons (mC (.int 10)) mNil)))
        [x0, some (.lst p), x2, some (.lst ((spL ts).map tD)), x4, x5, x6, x7, x8, x9])
      fun fl e => fl = .nx ∧ ∃ p' s d6 d7, V p' ∧ s ∈ spL ts ∧ e = [x0, some (.lst p'), x2, some (.lst ((spL ts).map tD)), x4, some (.dat (tD s)), some (.dat d6), some (.dat d7), x8, x9] := by
  have hl := spL_len ht
  refine ok_par3 ?_
  push_cast [List.length_map]
  refine (s_draw hp (by omega) (by omega)).mono ?_
  rintro _ e ⟨x, hx, rfl, p1, hp1, he⟩
  obtain ⟨d, hd1, hd2⟩ := at_of (xs := (spL ts).map tD) (x := x) (by rw [List.length_map]; omega)
  obtain ⟨s, hs, rfl⟩ := List.mem_map.mp hd2
  push_cast [he, hd1]
  refine (s_draw hp1 (by decide) (by decide)).mono ?_
  rintro _ e ⟨x, hx, rfl, p2, hp2, he⟩
  push_cast [he]
  refine (s_draw hp2 (by decide) (by decide)).mono ?_
  rintro _ e ⟨x, hx, rfl, p3, hp3, he⟩
  push_cast [he]
  exact ⟨p3, s, _, _, hp3, hs, rfl⟩
theorem pure_law : Holds 63 f_law := by
  intro ns hns
  suffices h : Ok (f_law [some (.dat (.list (ns.map PyData.int)))]) fun o e => o = .dat (.bool true) by
    obtain ⟨a, e, h1, rfl⟩ := h.get
    exact ⟨e, h1⟩
  unfold f_law m_law
  push_cast
  refine (s_cell (k := 0)).mono ?_
  rintro _ e ⟨i, rfl⟩
  push_cast
  refine s_pen.mono ?_
  rintro _ e ⟨p, hp, rfl⟩
  push_cast
  refine (s_raw hp).mono ?_
  rintro _ e ⟨n, h, hh, rfl, p1, hp1, he⟩
  have ht := hh.2.1
  have q0 : ∃ tl, h.d = .tuple (tD h.ts :: tl) := ⟨_, rfl⟩
  obtain ⟨tl, q0⟩ := q0
  push_cast [he, q0, tD]
  refine (s_spots (ts := h.ts) ht.2.1 fun t hx => (ht.2.2 t hx).2).mono ?_
  rintro _ e rfl
  rw [← tD, ← q0]
  have e3 : ∃ R T, h.d = .tuple [tD h.ts, .tuple R, .tuple T] := ⟨_, _, rfl⟩
  obtain ⟨R, T, e3⟩ := e3
  push_cast [spots_eq]
  refine ⟨by decide, ?_⟩
  refine ok_forL (fun rest e => ∃ (p' : List D) (x4 x5 x6 x7 : Option O), V p' ∧ e = [some (.dat (.list (ns.map PyData.int))), some (.lst p'), some (.dat h.d), some (.lst ((spL h.ts).map tD)), x4, x5, x6, x7, none, none]) ?_ ?_ ⟨p1, none, none, none, none, hp1, rfl⟩
  · rintro e ⟨p2, y4, y5, y6, y7, hp2, rfl⟩
    obtain ⟨t0, tl0, et⟩ : ∃ t0 tl0, h.ts = t0 :: tl0 := by
      cases e : h.ts with
      | nil => have := ht.1; rw [e] at this; simp at this
      | cons t0 tl0 => exact ⟨t0, tl0, rfl⟩
    have e0 : (h.ts.map iD)[0]? = some (iD t0) := by rw [et]; rfl
    have A : ∀ d1 d2 d3, Ok (f_law_asked [some (.dat (.tuple [.tuple (h.ts.map iD), .tuple R, .tuple T])), some (.dat d1), some (.dat d2), some (.dat d3)]) fun o e => o = .dat (.bool true) := fun d1 d2 d3 => by
      have := s_asked (d1 := d1) (d2 := d2) (d3 := d3) hh
      rw [e3] at this
      exact this
    push_cast [e3, at3_0, at3_1, at3_2, tD, e0, at4_1, at4_2, at4_3]
    refine ok_frz_any (by simp) fun z7 hz7 => ?_
    refine ok_frz_any (by simp) fun z6 hz6 => ?_
    refine ok_frz_any (by simp) fun z5 hz5 => ?_
    push_cast
    refine ⟨⟨by rcases hz5 with rfl | ⟨d, rfl⟩ <;> rcases hz6 with rfl | ⟨d, rfl⟩ <;> rcases hz7 with rfl | ⟨d, rfl⟩ <;> rfl, by decide⟩, ?_⟩
    refine ok_lcP (fun _ => true) (fun _ => .bool true) (srcOk_at rfl (by rfl)) ?_ ?_
    · intro d hd
      simp only [List.mem_cons, List.not_mem_nil, or_false] at hd
      rcases hd with rfl | rfl | rfl | rfl <;> (push_cast; refine (A _ _ _).mono ?_; rintro _ e rfl; push_cast)
    · rw [fT]
      rfl
  · rintro d ds e ⟨p2, y4, y5, y6, y7, hp2, rfl⟩
    simp only [asgT_nm, opt_some, List.set_cons_succ, List.set_cons_zero]
    refine ⟨rfl, ?_⟩
    rw [ok_seq]
    refine Ok.mono (st_par ht hp2) ?_
    rintro _ _ ⟨rfl, p3, s, d6, d7, hp3, hs, rfl⟩
    rw [seqQ_nx, ok_seq]
    refine Ok.mono (st5 ht hs hp3) ?_
    rintro _ _ ⟨rfl, p4, o5, hp4, h5, rfl⟩
    rw [seqQ_nx, ok_seq]
    refine Ok.mono (st6 (.inl ⟨_, rfl⟩) hp4) ?_
    rintro _ _ ⟨rfl, p5, o6, hp5, h6, rfl⟩
    rw [seqQ_nx, ok_seq]
    refine Ok.mono (st7 (.inl ⟨_, rfl⟩) hp5) ?_
    rintro _ _ ⟨rfl, p6, o7, hp6, h7, rfl⟩
    rw [seqQ_nx]
    refine Ok.mono (ask_ite hh h5 h6 h7) ?_
    rintro _ _ ⟨rfl, rfl⟩
    rw [forQ_nx]
    exact ⟨p6, _, _, _, _, hp6, rfl⟩
end Mi

namespace Mi
open PySem PySem.Spec L2
/-! ### the head -/
def dfn : List He.DefD := [⟨("is_whole", none), "is_whole", "is_whole", defArgs (top 8), defBody (top 8), defScope (top 8), [], []⟩, ⟨("is_below", none), "is_below", "is_below", defArgs (top 9), defBody (top 9), defScope (top 9), [], []⟩, ⟨("is_spot_of", none), "is_spot_of", "is_spot_of", defArgs (top 10), defBody (top 10), defScope (top 10), [], []⟩, ⟨("is_spot", none), "is_spot", "is_spot", defArgs (top 11), defBody (top 11), defScope (top 11), [], []⟩, ⟨("ask_spot", none), "ask_spot", "ask_spot", defArgs (top 12), defBody (top 12), defScope (top 12), [], []⟩, ⟨("ask_recipe", none), "ask_recipe", "ask_recipe", defArgs (top 13), defBody (top 13), defScope (top 13), [], []⟩, ⟨("ask_tasting", none), "ask_tasting", "ask_tasting", defArgs (top 14), defBody (top 14), defScope (top 14), [], []⟩, ⟨("ask_name", none), "ask_name", "ask_name", defArgs (top 15), defBody (top 15), defScope (top 15), [], []⟩, ⟨("all_by", none), "all_by", "all_by", defArgs (top 17), defBody (top 17), defScope (top 17), [], []⟩, ⟨("first_of", none), "first_of", "first_of", defArgs (top 18), defBody (top 18), defScope (top 18), [], []⟩, ⟨("needs_by", none), "needs_by", "needs_by", defArgs (top 19), defBody (top 19), defScope (top 19), [], []⟩, ⟨("tasting_by", none), "tasting_by", "tasting_by", defArgs (top 20), defBody (top 20), defScope (top 20), [], []⟩, ⟨("found_at", none), "found_at", "found_at", defArgs (top 21), defBody (top 21), defScope (top 21), [], []⟩, ⟨("all_at", none), "all_at", "all_at", defArgs (top 22), defBody (top 22), defScope (top 22), [], []⟩, ⟨("straight_of", none), "straight_of", "straight_of", defArgs (top 23), defBody (top 23), defScope (top 23), [], []⟩, ⟨("tasting_needs", none), "tasting_needs", "tasting_needs", defArgs (top 24), defBody (top 24), defScope (top 24), [], []⟩, ⟨("_law_cell_at", none), "_law_cell_at", "_law_cell_at", defArgs (top 26), defBody (top 26), defScope (top 26), [], []⟩, ⟨("_law_pen", none), "_law_pen", "_law_pen", defArgs (top 27), defBody (top 27), defScope (top 27), [], []⟩, ⟨("_law_draw", none), "_law_draw", "_law_draw", defArgs (top 28), defBody (top 28), defScope (top 28), [], []⟩, ⟨("_law_spots", none), "_law_spots", "_law_spots", defArgs (top 29), defBody (top 29), defScope (top 29), [], []⟩] ++ [⟨("_law_needs", none), "_law_needs", "_law_needs", defArgs (top 30), defBody (top 30), defScope (top 30), [], []⟩, ⟨("_law_words", none), "_law_words", "_law_words", defArgs (top 31), defBody (top 31), defScope (top 31), [], []⟩, ⟨("_law_raw", none), "_law_raw", "_law_raw", defArgs (top 32), defBody (top 32), defScope (top 32), [], []⟩, ⟨("_law_thing", none), "_law_thing", "_law_thing", defArgs (top 33), defBody (top 33), defScope (top 33), [], []⟩, ⟨("_law_spoilt", none), "_law_spoilt", "_law_spoilt", defArgs (top 34), defBody (top 34), defScope (top 34), [], []⟩, ⟨("_law_word", none), "_law_word", "_law_word", defArgs (top 35), defBody (top 35), defScope (top 35), [], []⟩, ⟨("_law_is_in", none), "_law_is_in", "_law_is_in", defArgs (top 36), defBody (top 36), defScope (top 36), [], []⟩, ⟨("_law_is_place", none), "_law_is_place", "_law_is_place", defArgs (top 37), defBody (top 37), defScope (top 37), [], []⟩, ⟨("_law_asked", none), "_law_asked", "_law_asked", defArgs (top 38), defBody (top 38), defScope (top 38), [], []⟩, ⟨("law", none), "law", "law", defArgs (top 39), defBody (top 39), defScope (top 39), [], []⟩]
def fas : List He.Fa := [.glo "is_whole", .glo "is_below", .glo "is_spot_of", .glo "is_spot", .glo "ask_spot", .glo "ask_recipe", .glo "ask_tasting", .glo "ask_name", .glo "all_by", .glo "first_of", .glo "needs_by", .glo "tasting_by", .glo "found_at", .glo "all_at", .glo "straight_of", .glo "tasting_needs", .glo "_law_cell_at", .glo "_law_pen", .glo "_law_draw", .glo "_law_spots"] ++ [.glo "_law_needs", .glo "_law_words", .glo "_law_raw", .glo "_law_thing", .glo "_law_spoilt", .glo "_law_word", .glo "_law_is_in", .glo "_law_is_place", .glo "_law_asked", .glo "law", .free "all", .free "bool", .free "enumerate", .free "int", .free "isinstance", .free "len", .free "list", .free "min", .free "range", .free "set"] ++ [.free "sorted", .free "str", .free "tuple", .int "NAMES" (8), .free "_law_found", .glo "NoSpot", .exc "NoSpot", .glo "NoRecipe", .exc "NoRecipe", .glo "NoTasting", .exc "NoTasting", .glo "NoNumber", .exc "NoNumber", .exm "NoSpot" "NoSpot" true, .exm "NoSpot" "NoRecipe" false, .exm "NoSpot" "NoTasting" false, .exm "NoSpot" "NoNumber" false, .exm "NoRecipe" "NoSpot" false, .exm "NoRecipe" "NoRecipe" true, .exm "NoRecipe" "NoTasting" false] ++ [.exm "NoRecipe" "NoNumber" false, .exm "NoTasting" "NoSpot" false, .exm "NoTasting" "NoRecipe" false, .exm "NoTasting" "NoTasting" true, .exm "NoTasting" "NoNumber" false, .exm "NoNumber" "NoSpot" false, .exm "NoNumber" "NoRecipe" false, .exm "NoNumber" "NoTasting" false, .exm "NoNumber" "NoNumber" true]
def tfs : List He.Defn := [("all_by", none), ("_law_asked", none)]
def exB (K : PySem.W.Frag) : Bool := tabsU K
abbrev R : PySem.W.OpenRow := PySem.W.OpenLaw.row PySem.Challenge.rw_tastehouse_k06_first_refusals
abbrev hk : PySem.W.Hook := He.hookX 4 fas dfn [] tfs exB
def ob (s : PySem.W.SharedT) : He.AlX := He.obsX 4 fas dfn [] tfs exB (HandSHeadRun.getT s)
theorem ob_eq (s : PySem.W.SharedT) : ob s = hk.obs s.abs := He.obsX_eq (HandSHeadRun.getT_eq s)
def loose : List Str := (["__name__", "TasteError", "NoSpot", "NoRecipe", "NoTasting", "NoNumber", "NAMES", "is_whole", "is_below", "is_spot_of", "is_spot", "ask_spot", "ask_recipe", "ask_tasting", "ask_name", "all_by", "first_of", "needs_by", "tasting_by", "found_at"] : List Str) ++ (["all_at", "straight_of", "tasting_needs", "_law_cell_at", "_law_pen", "_law_draw", "_law_spots", "_law_needs", "_law_words", "_law_raw", "_law_thing", "_law_spoilt", "_law_word", "_law_is_in", "_law_is_place", "_law_asked"] : List Str)
theorem run (w : World) : HandSHeadRun.RunEq R (PySem.W.view R.prog [39]) hk ob 6000 loose w := by
  intro os
  kernel_rfl
theorem tabs_eq {K : PySem.W.Frag} {mg : Str → Option Value} {h : Heap} (X : K.In h) (G : h.Ns mainGlobals mg) (c : He.SaysD fas dfn K) : tabsOf K = [((He.cT K ("all_by", none)).2, lamQ "all_by"), ((He.cT K ("_law_asked", none)).2, lamQ "_law_asked")] := by
  exact tabsOf_three (hasG_glo (c.fact 8 (f := .glo "all_by") rfl)) (hasG_free (c.fact 44 (f := .free "_law_found") rfl)) (hasG_glo (c.fact 28 (f := .glo "_law_asked") rfl))
theorem ev_of {K : PySem.W.Frag} {h base : Heap} {mg : Str → Option Value} (X : K.In h) (G : h.Ns mainGlobals mg) (c : He.SaysD fas dfn K) (cu : tabsU K = true) (tb : ∀ p ∈ tfs, LamX.TabB base mg (He.cT K p).1 (He.cT K p).2) : Ev K mg base where
  b_all := He.free_ok X G (c.fact 30 (f := .free "all") rfl)
  b_bool := He.free_ok X G (c.fact 31 (f := .free "bool") rfl)
  b_enumerate := He.free_ok X G (c.fact 32 (f := .free "enumerate") rfl)
  b_int := He.free_ok X G (c.fact 33 (f := .free "int") rfl)
  b_isinstance := He.free_ok X G (c.fact 34 (f := .free "isinstance") rfl)
  b_len := He.free_ok X G (c.fact 35 (f := .free "len") rfl)
  b_list := He.free_ok X G (c.fact 36 (f := .free "list") rfl)
  b_min := He.free_ok X G (c.fact 37 (f := .free "min") rfl)
  b_range := He.free_ok X G (c.fact 38 (f := .free "range") rfl)
  b_set := He.free_ok X G (c.fact 39 (f := .free "set") rfl)
  b_sorted := He.free_ok X G (c.fact 40 (f := .free "sorted") rfl)
  b_str := He.free_ok X G (c.fact 41 (f := .free "str") rfl)
  b_tuple := He.free_ok X G (c.fact 42 (f := .free "tuple") rfl)
  c_NAMES := He.int_ok X G (c.fact 43 (f := .int "NAMES" (8)) rfl)
  l_all_by := ⟨tb ("all_by", none) (by simp [tfs]), by rw [tabs_eq X G c]; simp, tabsU_ok cu, He.glo_ok X G (c.fact 8 (f := .glo "all_by") rfl)⟩
  l_law_asked := ⟨tb ("_law_asked", none) (by simp [tfs]), by rw [tabs_eq X G c]; simp, tabsU_ok cu, He.glo_ok X G (c.fact 28 (f := .glo "_law_asked") rfl)⟩
  x_NoSpot := exF_of (c := "NoSpot") X G (c.fact 45 (f := .glo "NoSpot") rfl) (c.fact 46 (f := .exc "NoSpot") rfl)
  x_NoRecipe := exF_of (c := "NoRecipe") X G (c.fact 47 (f := .glo "NoRecipe") rfl) (c.fact 48 (f := .exc "NoRecipe") rfl)
  x_NoTasting := exF_of (c := "NoTasting") X G (c.fact 49 (f := .glo "NoTasting") rfl) (c.fact 50 (f := .exc "NoTasting") rfl)
  x_NoNumber := exF_of (c := "NoNumber") X G (c.fact 51 (f := .glo "NoNumber") rfl) (c.fact 52 (f := .exc "NoNumber") rfl)
  em := by
    intro e1 h1 e2 h2
    simp only [errs, List.mem_cons, List.not_mem_nil, or_false] at h1 h2
    rcases h1 with rfl | rfl | rfl | rfl
    · rcases h2 with rfl | rfl | rfl | rfl
      · exact (He.exm_ok (c.fact 53 (f := .exm "NoSpot" "NoSpot" true) rfl)).trans (by decide)
      · exact (He.exm_ok (c.fact 54 (f := .exm "NoSpot" "NoRecipe" false) rfl)).trans (by decide)
      · exact (He.exm_ok (c.fact 55 (f := .exm "NoSpot" "NoTasting" false) rfl)).trans (by decide)
      · exact (He.exm_ok (c.fact 56 (f := .exm "NoSpot" "NoNumber" false) rfl)).trans (by decide)
    · rcases h2 with rfl | rfl | rfl | rfl
      · exact (He.exm_ok (c.fact 57 (f := .exm "NoRecipe" "NoSpot" false) rfl)).trans (by decide)
      · exact (He.exm_ok (c.fact 58 (f := .exm "NoRecipe" "NoRecipe" true) rfl)).trans (by decide)
      · exact (He.exm_ok (c.fact 59 (f := .exm "NoRecipe" "NoTasting" false) rfl)).trans (by decide)
      · exact (He.exm_ok (c.fact 60 (f := .exm "NoRecipe" "NoNumber" false) rfl)).trans (by decide)
    · rcases h2 with rfl | rfl | rfl | rfl
      · exact (He.exm_ok (c.fact 61 (f := .exm "NoTasting" "NoSpot" false) rfl)).trans (by decide)
      · exact (He.exm_ok (c.fact 62 (f := .exm "NoTasting" "NoRecipe" false) rfl)).trans (by decide)
      · exact (He.exm_ok (c.fact 63 (f := .exm "NoTasting" "NoTasting" true) rfl)).trans (by decide)
      · exact (He.exm_ok (c.fact 64 (f := .exm "NoTasting" "NoNumber" false) rfl)).trans (by decide)
    · rcases h2 with rfl | rfl | rfl | rfl
      · exact (He.exm_ok (c.fact 65 (f := .exm "NoNumber" "NoSpot" false) rfl)).trans (by decide)
      · exact (He.exm_ok (c.fact 66 (f := .exm "NoNumber" "NoRecipe" false) rfl)).trans (by decide)
      · exact (He.exm_ok (c.fact 67 (f := .exm "NoNumber" "NoTasting" false) rfl)).trans (by decide)
      · exact (He.exm_ok (c.fact 68 (f := .exm "NoNumber" "NoNumber" true) rfl)).trans (by decide)
  d_is_whole := defAt_of X G c 0 rfl rfl fun _ _ _ _ _ _ us hl => match us, hl with | [_], _ => rfl
  d_is_below := defAt_of X G c 1 rfl rfl fun _ _ _ _ _ _ us hl => match us, hl with | [_, _], _ => rfl
  d_is_spot_of := defAt_of X G c 2 rfl rfl fun _ _ _ _ _ _ us hl => match us, hl with | [_, _], _ => rfl
  d_is_spot := defAt_of X G c 3 rfl rfl fun _ _ _ _ _ _ us hl => match us, hl with | [_, _], _ => rfl
  d_ask_spot := defAt_of X G c 4 rfl rfl fun _ _ _ _ _ _ us hl => match us, hl with | [_, _], _ => rfl
  d_ask_recipe := defAt_of X G c 5 rfl rfl fun _ _ _ _ _ _ us hl => match us, hl with | [_, _], _ => rfl
  d_ask_tasting := defAt_of X G c 6 rfl rfl fun _ _ _ _ _ _ us hl => match us, hl with | [_, _], _ => rfl
  d_ask_name := defAt_of X G c 7 rfl rfl fun _ _ _ _ _ _ us hl => match us, hl with | [_], _ => rfl
  d_all_by := defAt_of X G c 8 rfl rfl fun _ _ _ _ _ _ us hl => match us, hl with | [_, _, _], _ => rfl
  d_first_of := defAt_of X G c 9 rfl rfl fun _ _ _ _ _ _ us hl => match us, hl with | [_], _ => rfl
  d_needs_by := defAt_of X G c 10 rfl rfl fun _ _ _ _ _ _ us hl => match us, hl with | [_, _], _ => rfl
  d_tasting_by := defAt_of X G c 11 rfl rfl fun _ _ _ _ _ _ us hl => match us, hl with | [_, _], _ => rfl
  d_found_at := defAt_of X G c 12 rfl rfl fun _ _ _ _ _ _ us hl => match us, hl with | [_, _, _], _ => rfl
  d_all_at := defAt_of X G c 13 rfl rfl fun _ _ _ _ _ _ us hl => match us, hl with | [_, _, _], _ => rfl
  d_straight_of := defAt_of X G c 14 rfl rfl fun _ _ _ _ _ _ us hl => match us, hl with | [_, _], _ => rfl
  d_tasting_needs := defAt_of X G c 15 rfl rfl fun _ _ _ _ _ _ us hl => match us, hl with | [_, _], _ => rfl
  d_law_cell_at := defAt_of X G c 16 rfl rfl fun _ _ _ _ _ _ us hl => match us, hl with | [_, _], _ => rfl
  d_law_pen := defAt_of X G c 17 rfl rfl fun _ _ _ _ _ _ us hl => match us, hl with | [_], _ => rfl
  d_law_draw := defAt_of X G c 18 rfl rfl fun _ _ _ _ _ _ us hl => match us, hl with | [_, _], _ => rfl
  d_law_spots := defAt_of X G c 19 rfl rfl fun _ _ _ _ _ _ us hl => match us, hl with | [_], _ => rfl
  d_law_needs := defAt_of X G c 20 rfl rfl fun _ _ _ _ _ _ us hl => match us, hl with | [_, _], _ => rfl
  d_law_words := defAt_of X G c 21 rfl rfl fun _ _ _ _ _ _ us hl => match us, hl with | [_], _ => rfl
  d_law_raw := defAt_of X G c 22 rfl rfl fun _ _ _ _ _ _ us hl => match us, hl with | [_], _ => rfl
  d_law_thing := defAt_of X G c 23 rfl rfl fun _ _ _ _ _ _ us hl => match us, hl with | [_, _], _ => rfl
  d_law_spoilt := defAt_of X G c 24 rfl rfl fun _ _ _ _ _ _ us hl => match us, hl with | [_, _], _ => rfl
  d_law_word := defAt_of X G c 25 rfl rfl fun _ _ _ _ _ _ us hl => match us, hl with | [_], _ => rfl
  d_law_is_in := defAt_of X G c 26 rfl rfl fun _ _ _ _ _ _ us hl => match us, hl with | [_, _], _ => rfl
  d_law_is_place := defAt_of X G c 27 rfl rfl fun _ _ _ _ _ _ us hl => match us, hl with | [_, _], _ => rfl
  d_law_asked := defAt_of X G c 28 rfl rfl fun _ _ _ _ _ _ us hl => match us, hl with | [_, _, _, _], _ => rfl
  d_law := defAt_of X G c 29 rfl rfl fun _ _ _ _ _ _ us hl => match us, hl with | [_], _ => rfl
theorem at_law {w : World} {K : PySem.W.Frag} {h : Heap} {mg : Str → Option Value} {f : Addr} (X : K.In h) (G : h.Ns mainGlobals mg) (hfa : mg ("law" : Str) = some (.ref f)) (cx : He.SaysX fas dfn [] tfs exB w h K) (pl : Holds 63 f_law) :
    LamX.LawAtS PySem.Challenge.rw_tastehouse_k06_first_refusals w K CX0 10 63 "_law_script" mg f h := by
  have c := cx.t.d
  obtain ⟨fd, F⟩ := c.def_ 29 (d := ⟨("law", none), "law", "law", defArgs (top 39), defBody (top 39), defScope (top 39), [], []⟩) rfl
  have e := hfa.symm.trans (He.glo_ok X G (c.fact 29 (f := .glo "law") rfl))
  cases e
  have b := FunD.bindsA (ps := ["_law_script"]) F fun _ _ _ _ _ _ us hl => match us, hl with | [_], _ => rfl
  refine law_atC (cl := clK K) cx X (tabs_eq X G c) rfl (fun s v => b s [v] rfl) pl fun base hb1 hb2 tb => FnOk_cx0 ?_
  have ev : Ev K mg base := ev_of X G c cx.more tb
  exact fn_by F sc_law rfl (by decide) fun cdv A outer s H E hr => b_law ev _ cdv A outer s H E hr
end Mi
open PySem PySem.W PySem.Calls PyProof.Rows
theorem PySem.Challenge.cw_tastehouse_k06_first_refusals_holds : PySem.Challenge.rw_tastehouse_k06_first_refusals.Holds := by
  w_on; o_law
  refine HandSHeadRun.head_any (r := OpenLaw.row PySem.Challenge.rw_tastehouse_k06_first_refusals) (q := view (OpenLaw.row PySem.Challenge.rw_tastehouse_k06_first_refusals).prog [39]) (H := Mi.hk) (ob := Mi.ob) (M := 6000) (loose := Mi.loose) (d := HandSHeadRun.topDef (OpenLaw.row PySem.Challenge.rw_tastehouse_k06_first_refusals).prog 39) (kwd := []) Mi.ob_eq
    (by kernel_rfl) (fun s => by kernel_rfl) Mi.run (by kernel_rfl) (by kernel_rfl) (by kernel_rfl) (by rfl) (by first | assumption | decide +kernel) (by decide +kernel) ⟨rfl, rfl, rfl, rfl, rfl, by decide +kernel⟩ ?hw ?hc
  case hw => w_witness2
  case hc =>
    refine LamX.walk_ofTsE (l := PySem.Challenge.rw_tastehouse_k06_first_refusals) (n := 63) (k := 10) (x := "_law_script") (CX := fun _ => L2.CX0) rfl (by decide) (by kernel_rfl) ⟨rfl, by decide, by decide⟩ ?F (fun _ _ _ _ _ z => z)
    intro w mg fa h Y G hmg0
    obtain ⟨K, KX, c⟩ := Y
    have hmg : mg ("law" : PySem.Str) = some (.ref fa) := by
      have e : (HandSHeadRun.topDef (OpenLaw.row PySem.Challenge.rw_tastehouse_k06_first_refusals).prog 39).name = ("law" : PySem.Str) := by kernel_rfl
      rw [← e]
      exact hmg0
    exact ⟨K, KX, Mi.at_law KX G hmg c Mi.pure_law⟩
