import PyProof.Rows.All
import Wide.All
import OpenK.AllK
import Wide.FinOn
import HandS.ForMost
import HandS.Exc
import HandS.TryOnly
import HandS.ExcOwn
import HandS.WordsExc
import HandS.Deep
import HandS.TupAny
import HandS.TupLe
import HandS.Zip
import HandS.Rev
import HandS.IsInst
import HandS.Conv
import KE.SortData
import KE.DataMinMax
import HandS.Lambda
import HandS.HeadHook4
import HandS.Wide
import HandS.Defaults
import KE.GoesNew
import HandS.Comp
import HandS.Head0
import HandS.Head1
import HandS.Head2
import HandS.HeadEnd
import HandS.HeadHook1
import HandS.HeadHook2
import KE.KStateDown
import HandS.Set
import HandS.SetFor
import HandS.Text
import HandS.Style
import KE.SortKeyHeap
import KE.KLam
import HandS.HeadWalk
import HandS.Nested
import KE.DataMinKey
import HandS.Dict
import KE.KIndexOf
import KE.KIndexWalk
import HandS.TryMany
import HandS.TupSets
import KE.KDictKeyed
import PySem.Challenge.RW_tastehouse_k01_houses

set_option Elab.async false
set_option linter.all false
set_option maxRecDepth 100000
namespace Mi
open PySem PySem.Spec L2

/-! ### data, own objects, results -/
abbrev D := PyData
/-- a thing that one place owns -/
inductive O where
  | dat (d : D)
  | lst (ds : List D)
  | dct (kvs : List (Key × D))
  /-- a tuple whose object is known to have no dict of its own -/
  | tpl (ds : List D)
abbrev Env := List (Option O)
inductive Rs (α : Type) where
  | ok (a : α) (env : Env)
  | ex (c : String) (env : Env)
  | stuck
abbrev M (α : Type) := Env → Rs α
/-- what an expression gives: data, a new thing, a thing of a slot -/
inductive Rv where
  | d (x : D)
  | own (o : O)
  | pl (i : Nat)

mutual
inductive RD (K : PySem.W.Frag) (B : Hp) : D → V → Prop
  | non : RD K B .none .non
  | bl (b : Bool) : RD K B (.bool b) (.bl b)
  | int (i : Int) : RD K B (.int i) (.int i)
  | str (x : Str) : RD K B (.str x) (.str x)
  | lst {a : Addr} {vs : List V} {ds : List D} : SqL K B a vs → RDs K B ds vs → RD K B (.list ds) (.ref a)
  | tup {a : Addr} {vs : List V} {ds : List D} : SqT K B a vs → RDs K B ds vs → RD K B (.tuple ds) (.ref a)
  | dct {a : Addr} {kvs : List (Key × V)} : B a = some (.dK kvs) → RD K B (.dict []) (.ref a)
inductive RDs (K : PySem.W.Frag) (B : Hp) : List D → List V → Prop
  | nil : RDs K B [] []
  | cons {d : D} {v : V} {ds : List D} {vs : List V} : RD K B d v → RDs K B ds vs → RDs K B (d :: ds) (v :: vs)
end

def Sub (B H : Hp) : Prop := ∀ a o, B a = some o → H a = some o
theorem Sub.refl {B : Hp} : Sub B B := fun _ _ h => h
theorem Sub.trans {A B C : Hp} (h : Sub A B) (k : Sub B C) : Sub A C := fun a o e => k a o (h a o e)
theorem Sub.rd {B H : Hp} (h : Sub B H) {a : Addr} {u : HO} : Rd B a u → Rd H a u
  | .inl e => .inl (h _ _ e)
  | .inr ⟨o, e⟩ => .inr ⟨o, h _ _ e⟩
theorem Sub.sqL {K : PySem.W.Frag} {B H : Hp} (h : Sub B H) {a : Addr} {vs : List V} : SqL K B a vs → SqL K H a vs
  | .inl e => .inl (h.rd e)
  | .inr e => .inr e
theorem Sub.sqT {K : PySem.W.Frag} {B H : Hp} (h : Sub B H) {a : Addr} {vs : List V} : SqT K B a vs → SqT K H a vs
  | .inl e => .inl (h.rd e)
  | .inr e => .inr e
theorem Sub.upd {B : Hp} {a : Addr} {o : HO} (h : B a = none) : Sub B (upd B a o) := fun b u e => by
  rw [upd_ne (ne_of_none e h)]; exact e

section
variable {K : PySem.W.Frag} {B B' : Hp}
mutual
theorem RD.mono (h : Sub B B') : ∀ (d : D) (v : V), RD K B d v → RD K B' d v
  | .none, _, r => by cases r; exact .non
  | .bool b, _, r => by cases r; exact .bl b
  | .int i, _, r => by cases r; exact .int i
  | .str x, _, r => by cases r; exact .str x
  | .list ds, _, r => by
    cases r with
    | lst hs hr => exact .lst (h.sqL hs) (RDs.mono h ds _ hr)
  | .tuple ds, _, r => by
    cases r with
    | tup hs hr => exact .tup (h.sqT hs) (RDs.mono h ds _ hr)
  | .dict _, _, r => by
    cases r with
    | dct e => exact .dct (h _ _ e)
theorem RDs.mono (h : Sub B B') : ∀ (ds : List D) (vs : List V), RDs K B ds vs → RDs K B' ds vs
  | [], _, r => by cases r; exact .nil
  | d :: ds, _, r => by
    cases r with
    | cons r1 r2 => exact .cons (RD.mono h d _ r1) (RDs.mono h ds _ r2)
end
mutual
/-- no dict within -/
def noD : D → Bool
  | .none => true | .bool _ => true | .int _ => true | .str _ => true
  | .list ds => noDs ds
  | .tuple ds => noDs ds
  | .dict _ => false
def noDs : List D → Bool
  | [] => true
  | d :: ds => noD d && noDs ds
end
mutual
/-- tuples alone -/
def flat : D → Bool
  | .none => true | .bool _ => true | .int _ => true | .str _ => true
  | .list _ => false
  | .tuple ds => flats ds
  | .dict _ => false
def flats : List D → Bool
  | [] => true
  | d :: ds => flat d && flats ds
end
mutual
theorem RD.dp : ∀ (d : D) (v : V), noD d = true → RD K B d v → Dp K B v d
  | .none, _, _, r => by cases r; exact .non
  | .bool b, _, _, r => by cases r; exact .bl b
  | .int i, _, _, r => by cases r; exact .int i
  | .str x, _, _, r => by cases r; exact .str x
  | .list ds, _, n, r => by
    cases r with
    | lst hs hr => exact .lst hs (RDs.dp ds _ (by simpa only [noD] using n) hr)
  | .tuple ds, _, n, r => by
    cases r with
    | tup hs hr => exact .tup hs (RDs.dp ds _ (by simpa only [noD] using n) hr)
  | .dict _, _, n, r => by simp [noD] at n
theorem RDs.dp : ∀ (ds : List D) (vs : List V), noDs ds = true → RDs K B ds vs → DpAll K B vs ds
  | [], _, _, r => by cases r; exact .nil
  | d :: ds, _, n, r => by
    cases r with
    | cons r1 r2 =>
      simp only [noDs, Bool.and_eq_true] at n
      exact .cons (RD.dp d _ n.1 r1) (RDs.dp ds _ n.2 r2)
end
mutual
/-- flat data lean on tuples alone -/
theorem RD.flat (h : ∀ a vs, Rd B a (.tup vs) → Rd B' a (.tup vs)) : ∀ (d : D) (v : V), Mi.flat d = true → RD K B d v → RD K B' d v
  | .none, _, _, r => by cases r; exact .non
  | .bool b, _, _, r => by cases r; exact .bl b
  | .int i, _, _, r => by cases r; exact .int i
  | .str x, _, _, r => by cases r; exact .str x
  | .list ds, _, n, r => by simp [Mi.flat] at n
  | .tuple ds, _, n, r => by
    cases r with
    | tup hs hr => exact .tup (hs.elim (fun e => .inl (h _ _ e)) .inr) (RDs.flat h ds _ (by simpa only [Mi.flat] using n) hr)
  | .dict _, _, n, r => by simp [Mi.flat] at n
theorem RDs.flat (h : ∀ a vs, Rd B a (.tup vs) → Rd B' a (.tup vs)) : ∀ (ds : List D) (vs : List V), flats ds = true → RDs K B ds vs → RDs K B' ds vs
  | [], _, _, r => by cases r; exact .nil
  | d :: ds, _, n, r => by
    cases r with
    | cons r1 r2 =>
      simp only [flats, Bool.and_eq_true] at n
      exact .cons (RD.flat h d _ n.1 r1) (RDs.flat h ds _ n.2 r2)
end
theorem RDs.length : ∀ (ds : List D) (vs : List V), RDs K B ds vs → vs.length = ds.length
  | [], _, r => by cases r; rfl
  | d :: ds, _, r => by
    cases r with
    | cons r1 r2 => rw [List.length_cons, List.length_cons, RDs.length ds _ r2]
theorem RDs.append : ∀ {ds es : List D} {vs ws : List V}, RDs K B ds vs → RDs K B es ws → RDs K B (ds ++ es) (vs ++ ws)
  | _, _, _, _, .nil, r => r
  | _, _, _, _, .cons a t, r => .cons a (RDs.append t r)
theorem RDs.get : ∀ {ds : List D} {vs : List V} {i : Nat} {d : D}, RDs K B ds vs → ds[i]? = some d → ∃ v, vs[i]? = some v ∧ RD K B d v
  | _, _, _, _, .nil, e => by simp at e
  | _, _, 0, _, .cons r t, e => by simp at e; subst e; exact ⟨_, rfl, r⟩
  | _, _, i + 1, d, .cons _ t, e => by
    obtain ⟨u, h1, h2⟩ := RDs.get (i := i) (d := d) t (by simpa using e)
    exact ⟨u, by simpa using h1, h2⟩
theorem RDs.getV : ∀ {ds : List D} {vs : List V} {i : Nat} {v : V}, RDs K B ds vs → vs[i]? = some v → ∃ d, ds[i]? = some d ∧ RD K B d v
  | _, _, _, _, .nil, e => by simp at e
  | _, _, 0, _, .cons r t, e => by simp at e; subst e; exact ⟨_, rfl, r⟩
  | _, _, i + 1, d, .cons _ t, e => by
    obtain ⟨u, h1, h2⟩ := RDs.getV (i := i) (v := d) t (by simpa using e)
    exact ⟨u, by simpa using h1, h2⟩
theorem RDs.take : ∀ {ds : List D} {vs : List V} (n : Nat), RDs K B ds vs → RDs K B (ds.take n) (vs.take n)
  | _, _, 0, _ => .nil
  | _, _, _ + 1, .nil => .nil
  | _, _, n + 1, .cons r t => .cons r (RDs.take n t)
theorem RDs.drop : ∀ {ds : List D} {vs : List V} (n : Nat), RDs K B ds vs → RDs K B (ds.drop n) (vs.drop n)
  | _, _, 0, r => r
  | _, _, _ + 1, .nil => .nil
  | _, _, n + 1, .cons r t => RDs.drop n t
theorem RDs.reverse : ∀ {ds : List D} {vs : List V}, RDs K B ds vs → RDs K B ds.reverse vs.reverse
  | _, _, .nil => .nil
  | _, _, .cons r t => by rw [List.reverse_cons, List.reverse_cons]; exact RDs.append (RDs.reverse t) (.cons r .nil)
theorem RDs.set : ∀ {ds : List D} {vs : List V} {d : D} {v : V} (i : Nat), RDs K B ds vs → RD K B d v → RDs K B (ds.set i d) (vs.set i v)
  | _, _, _, _, _, .nil, _ => .nil
  | _, _, _, _, 0, .cons r t, q => .cons q t
  | _, _, _, _, i + 1, .cons r t, q => .cons r (RDs.set i t q)
theorem RDs.erase : ∀ {ds : List D} {vs : List V} (i : Nat), RDs K B ds vs → RDs K B (ds.eraseIdx i) (vs.eraseIdx i)
  | _, _, _, .nil => .nil
  | _, _, 0, .cons r t => t
  | _, _, i + 1, .cons r t => .cons r (RDs.erase i t)
theorem RDs.dropLast : ∀ {ds : List D} {vs : List V}, RDs K B ds vs → RDs K B ds.dropLast vs.dropLast
  | _, _, .nil => .nil
  | _, _, .cons r .nil => .nil
  | _, _, .cons r (.cons r2 t) => by
    show RDs K B (_ :: (_ :: _).dropLast) (_ :: (_ :: _).dropLast)
    exact .cons r (RDs.dropLast (.cons r2 t))
theorem RDs.insert : ∀ {ds : List D} {vs : List V} {d : D} {v : V} (i : Nat), RDs K B ds vs → RD K B d v → RDs K B (ds.insertIdx i d) (vs.insertIdx i v)
  | _, _, _, _, 0, r, q => by rw [List.insertIdx_zero, List.insertIdx_zero]; exact .cons q r
  | _, _, _, _, _ + 1, .nil, q => by rw [List.insertIdx_succ_nil, List.insertIdx_succ_nil]; exact .nil
  | _, _, _, _, i + 1, .cons r t, q => by rw [List.insertIdx_succ_cons, List.insertIdx_succ_cons]; exact .cons r (RDs.insert i t q)
end

/-- a dict's entries -/
def RKs (K : PySem.W.Frag) (B : Hp) : List (Key × D) → List (Key × V) → Prop := Paired fun p q => p.1 = q.1 ∧ RD K B p.2 q.2

/-- what a place owns, with the addresses of it -/
inductive OwnR (K : PySem.W.Frag) (B H : Hp) : O → V → List Addr → Prop
  | dat {d : D} {v : V} : RD K B d v → OwnR K B H (.dat d) v []
  | lst {a : Addr} {vs : List V} {ds : List D} : H a = some (.lst vs) → RDs K B ds vs → OwnR K B H (.lst ds) (.ref a) [a]
  | dct {a : Addr} {kvs : List (Key × V)} {kds : List (Key × D)} : H a = some (.dK kvs) → RKs K B kds kvs → OwnR K B H (.dct kds) (.ref a) [a]
  | tpl {a : Addr} {vs : List V} {ds : List D} {ob : Obj} : B a = some (.frz ob (.tup vs)) → ob.dict = none → RDs K B ds vs → OwnR K B H (.tpl ds) (.ref a) []
theorem RKs.mono {K : PySem.W.Frag} {B B' : Hp} (h : Sub B B') : ∀ {kds : List (Key × D)} {kvs : List (Key × V)}, RKs K B kds kvs → RKs K B' kds kvs
  | _, _, .nil => .nil
  | _, _, .cons r t => .cons ⟨r.1, RD.mono h _ _ r.2⟩ (RKs.mono h t)
theorem OwnR.congr {K : PySem.W.Frag} {B B' H H' : Hp} {o : O} {v : V} {fp : List Addr} (r : OwnR K B H o v fp) (hb : Sub B B') (hh : ∀ a ∈ fp, H' a = H a) : OwnR K B' H' o v fp := by
  cases r with
  | dat r => exact .dat (RD.mono hb _ _ r)
  | lst e r => exact .lst (by rw [hh _ (by simp)]; exact e) (RDs.mono hb _ _ r)
  | dct e r => exact .dct (by rw [hh _ (by simp)]; exact e) (r.mono hb)
  | tpl e n r => exact .tpl (hb _ _ e) n (RDs.mono hb _ _ r)
theorem OwnR.dom {K : PySem.W.Frag} {B H : Hp} {o : O} {v : V} {fp : List Addr} (r : OwnR K B H o v fp) : ∀ a ∈ fp, H a ≠ none := by
  cases r with
  | dat r => intro a h; simp at h
  | lst e r => intro a h; simp at h; subst h; rw [e]; simp
  | dct e r => intro a h; simp at h; subst h; rw [e]; simp
  | tpl e n r => intro a h; simp at h

theorem OwnR.ownT {K : PySem.W.Frag} {B H : Hp} {o : O} {v : V} {fp : List Addr} (r : OwnR K B H o v fp) : ∀ a ∈ fp, ∀ ps, H a ≠ some (.tbl ps) := by
  cases r with
  | dat r => intro a h; simp at h
  | lst e r => intro a h; simp at h; subst h; rw [e]; intro ps h; cases h
  | dct e r => intro a h; simp at h; subst h; rw [e]; intro ps h; cases h
  | tpl e n r => intro a h; simp at h
theorem OwnR.lst_inv {K : PySem.W.Frag} {B H : Hp} {ds : List D} {v : V} {fp : List Addr} (r : OwnR K B H (.lst ds) v fp) : ∃ a vs, v = .ref a ∧ fp = [a] ∧ H a = some (.lst vs) ∧ RDs K B ds vs := by
  cases r with
  | lst e r => exact ⟨_, _, rfl, rfl, e, r⟩
theorem OwnR.dct_inv {K : PySem.W.Frag} {B H : Hp} {kds : List (Key × D)} {v : V} {fp : List Addr} (r : OwnR K B H (.dct kds) v fp) : ∃ a kvs, v = .ref a ∧ fp = [a] ∧ H a = some (.dK kvs) ∧ RKs K B kds kvs := by
  cases r with
  | dct e r => exact ⟨_, _, rfl, rfl, e, r⟩
theorem OwnR.tpl_inv {K : PySem.W.Frag} {B H : Hp} {ds : List D} {v : V} {fp : List Addr} (r : OwnR K B H (.tpl ds) v fp) : ∃ a vs ob, v = .ref a ∧ fp = [] ∧ B a = some (.frz ob (.tup vs)) ∧ ob.dict = none ∧ RDs K B ds vs := by
  cases r with
  | tpl e n r => exact ⟨_, _, _, rfl, rfl, e, n, r⟩
theorem OwnR.dat_inv {K : PySem.W.Frag} {B H : Hp} {d : D} {v : V} {fp : List Addr} (r : OwnR K B H (.dat d) v fp) : RD K B d v ∧ fp = [] := by
  cases r with
  | dat r => exact ⟨r, rfl⟩

/-! ### tables of code objects -/
/-- the defs with one lambda each -/
def lamDefs : List Str := ["all_by", "_law_found"]
def lamQ (x : Str) : Str := x ++ ".<locals>.<lambda>"
def hasG (K : PySem.W.Frag) (x : Str) : Bool := match PySem.W.nsIn K mainGlobals x with
  | some (some (.ref _)) => true
  | _ => false
def tabsOf (K : PySem.W.Frag) : List (Addr × Str) := (lamDefs.filter fun x => hasG K x).map fun x => ((He.cT K (x, none)).2, lamQ x)
def noT (B : Hp) : Prop := ∀ a ps, B a ≠ some (.tbl ps)
def notC (o : HO) : Prop := ∀ c q, o ≠ LamX.CodeO c q
theorem notC_lst {vs : List V} : notC (.lst vs) := fun c q h => by unfold LamX.CodeO at h; cases h
theorem notC_tup {vs : List V} : notC (.tup vs) := fun c q h => by unfold LamX.CodeO at h; cases h
theorem notC_dK {vs : List (Key × V)} : notC (.dK vs) := fun c q h => by unfold LamX.CodeO at h; cases h
def TabF (K : PySem.W.Frag) (B H : Hp) : Prop := (∀ a q, H a = some (LamX.CodeO a q) → B a = some (LamX.CodeO a q)) ∧
  ∀ p ∈ tabsOf K, ∃ ps, H p.1 = some (.tbl ps) ∧ TriplesOk ps.toList ∧ ∀ (pos : Pos) (cv : Value), codeAmong pos ps.toList = some cv → ∃ c, cv = .ref c ∧ B c = some (LamX.CodeO c p.2)
theorem TabF.mono {K : PySem.W.Frag} {B B' H : Hp} (h : TabF K B H) (s : Sub B B') : TabF K B' H := ⟨fun a q e => s _ _ (h.1 a q e), fun p hp => by
  obtain ⟨ps, h1, h2, h3⟩ := h.2 p hp
  exact ⟨ps, h1, h2, fun pos cv e => by
    obtain ⟨c, e1, e2⟩ := h3 pos cv e
    exact ⟨c, e1, s _ _ e2⟩⟩⟩
theorem TabF.put {K : PySem.W.Frag} {B H : Hp} (h : TabF K B H) {p : Addr} {o' : HO} (n : ∀ ps, H p ≠ some (.tbl ps)) (ho : notC o') : TabF K B (upd H p o') := ⟨fun a q e => by
  by_cases z : a = p
  · subst z; rw [upd_same] at e; exact absurd (Option.some.inj e) (ho a q)
  · rw [upd_ne z] at e; exact h.1 a q e, fun q hq => by
  obtain ⟨ps, h1, h2, h3⟩ := h.2 q hq
  exact ⟨ps, by rw [upd_ne (fun z => by rw [z] at h1; exact n _ h1)]; exact h1, h2, h3⟩⟩
theorem TabF.alloc {K : PySem.W.Frag} {B H : Hp} (h : TabF K B H) {p : Addr} {o : HO} (n : H p = none) (ho : notC o) : TabF K B (upd H p o) := h.put (fun ps e => by rw [n] at e; cases e) ho
theorem noT.upd {B : Hp} (h : noT B) {p : Addr} {o : HO} (ho : ∀ ps, o ≠ .tbl ps) : noT (L2.upd B p o) := fun a ps e => by
  by_cases z : a = p
  · subst z; rw [upd_same] at e; exact ho _ (Option.some.inj e)
  · rw [upd_ne z] at e; exact h a ps e
/-- all but the tables -/
def noTb (H : Hp) : Hp := fun a => match H a with
  | some (.tbl _) => none
  | o => o
theorem noTb_some {H : Hp} {a : Addr} {o : HO} (h : noTb H a = some o) : H a = some o := by
  unfold noTb at h
  split at h
  · cases h
  · exact h
theorem noTb_of {H : Hp} {a : Addr} (h : ∀ ps, H a ≠ some (.tbl ps)) : noTb H a = H a := by
  unfold noTb
  split
  · rename_i ps e
    exact absurd e (h ps)
  · rfl
theorem noTb_noT (H : Hp) (a : Addr) (ps : Array Value) : noTb H a ≠ some (.tbl ps) := fun e => by
  have e2 := noTb_some e
  unfold noTb at e
  rw [e2] at e
  cases e

/-! ### the frame -/
structure Fm (K : PySem.W.Frag) (P B H : Hp) (σ : L2.St) (env : Env) (fps : Nat → List Addr) : Prop where
  len : env.length = σ.length
  sub : Sub B H
  prt : Sub P H
  slot : ∀ i o, env[i]? = some (some o) → ∃ v, σ[i]? = some (some v) ∧ OwnR K B H o v (fps i)
  emp : ∀ i, env[i]? = some none ∨ env[i]? = none → fps i = []
  dis : ∀ i j a, a ∈ fps i → a ∈ fps j → i = j
  off : ∀ i a, a ∈ fps i → B a = none ∧ P a = none
  tab : TabF K B H
  nbT : noT B
  npT : noT P
def Ext (P B B' : Hp) : Prop := Sub B B' ∧ ∀ a o, P a = some o → B' a = B a
theorem Ext.refl {P B : Hp} : Ext P B B := ⟨Sub.refl, fun _ _ _ => rfl⟩
theorem Ext.trans {P A B C : Hp} (h : Ext P A B) (k : Ext P B C) : Ext P A C := ⟨h.1.trans k.1, fun a o e => (k.2 a o e).trans (h.2 a o e)⟩
theorem Ext.upd {P B : Hp} {p : Addr} {o : HO} (h : B p = none) (k : P p = none) : Ext P B (upd B p o) :=
  ⟨Sub.upd h, fun a u e => upd_ne (ne_of_none e k)⟩
section
variable {K : PySem.W.Frag} {P B B' H H' : Hp} {σ : L2.St} {env : Env} {fps : Nat → List Addr}
theorem Fm.dom (F : Fm K P B H σ env fps) : ∀ i a, a ∈ fps i → H a ≠ none := by
  intro i a h
  cases e : env[i]? with
  | none => rw [F.emp i (.inr e)] at h; simp at h
  | some o =>
    cases o with
    | none => rw [F.emp i (.inl e)] at h; simp at h
    | some o =>
      obtain ⟨v, _, r⟩ := F.slot i o e
      exact r.dom a h
theorem Fm.ownT (F : Fm K P B H σ env fps) : ∀ i a, a ∈ fps i → ∀ ps, H a ≠ some (.tbl ps) := by
  intro i a h
  cases e : env[i]? with
  | none => rw [F.emp i (.inr e)] at h; simp at h
  | some o =>
    cases o with
    | none => rw [F.emp i (.inl e)] at h; simp at h
    | some o =>
      obtain ⟨v, _, r⟩ := F.slot i o e
      exact r.ownT a h
theorem Fm.newB (F : Fm K P B H σ env fps) {p : Addr} (h : H p = none) : B p = none ∧ P p = none ∧ ∀ i, p ∉ fps i := by
  refine ⟨?_, ?_, fun i hp => F.dom i p hp h⟩
  · cases e : B p with
    | none => rfl
    | some o => rw [F.sub _ _ e] at h; cases h
  · cases e : P p with
    | none => rfl
    | some o => rw [F.prt _ _ e] at h; cases h
/-- the heap has grown at a new place (not frozen) -/
theorem Fm.alloc (F : Fm K P B H σ env fps) {p : Addr} {o : HO} (h : H p = none) (hc : notC o := by first | exact notC_lst | exact notC_tup | exact notC_dK | assumption) : Fm K P B (upd H p o) σ env fps := by
  obtain ⟨_, _, hn⟩ := F.newB h
  exact ⟨F.len, F.sub.trans (Sub.upd h), F.prt.trans (Sub.upd h), fun i o e => by
    obtain ⟨v, e1, r⟩ := F.slot i o e
    exact ⟨v, e1, r.congr Sub.refl fun a ha => upd_ne (fun z => hn i (z ▸ ha))⟩, F.emp, F.dis, F.off, F.tab.alloc h hc, F.nbT, F.npT⟩
/-- .. and it is frozen -/
theorem Fm.allocB (F : Fm K P B H σ env fps) {p : Addr} {o : HO} (h : H p = none) (ho : ∀ ps, o ≠ .tbl ps := by intro _ h; cases h) (hc : notC o := by first | exact notC_lst | exact notC_tup | exact notC_dK | assumption) : Fm K P (L2.upd B p o) (L2.upd H p o) σ env fps := by
  obtain ⟨hb, hp, hn⟩ := F.newB h
  refine ⟨F.len, fun a u e => ?_, F.prt.trans (Sub.upd h), fun i o e => ?_, F.emp, F.dis, fun i a ha => ?_, (F.tab.alloc h hc).mono (Sub.upd hb), F.nbT.upd ho, F.npT⟩
  · by_cases z : a = p
    · subst z; rw [upd_same] at e ⊢; exact e
    · rw [upd_ne z] at e ⊢; exact F.sub _ _ e
  · obtain ⟨v, e1, r⟩ := F.slot i o e
    exact ⟨v, e1, r.congr (Sub.upd hb) fun a ha => upd_ne (fun z => hn i (z ▸ ha))⟩
  · obtain ⟨q1, q2⟩ := F.off i a ha
    have z : a ≠ p := by
      intro z; subst z; exact hn i ha
    exact ⟨by rw [upd_ne z]; exact q1, q2⟩
end
end Mi

set_option Elab.async false
set_option linter.all false
set_option maxRecDepth 100000
namespace Mi
open PySem PySem.Spec L2

/-! ### the monad -/
def Rs.bind {α β : Type} (r : Rs α) (k : α → M β) : Rs β := match r with
  | .ok a env => k a env
  | .ex c env => .ex c env
  | .stuck => .stuck
def bnd {α β : Type} (m : M α) (k : α → M β) : M β := fun env => (m env).bind k
def ret {α : Type} (a : α) : M α := fun env => .ok a env
def stk {α : Type} : M α := fun _ => .stuck
@[simp] theorem bind_ok {α β : Type} (a : α) (env : Env) (k : α → M β) : (Rs.ok a env).bind k = k a env := rfl
@[simp] theorem bind_ex {α β : Type} (c : String) (env : Env) (k : α → M β) : (Rs.ex c env).bind k = .ex c env := rfl
@[simp] theorem bind_stuck {α β : Type} (k : α → M β) : (Rs.stuck).bind k = (.stuck : Rs β) := rfl
def ofO {α : Type} (o : Option α) : M α := match o with
  | some a => ret a
  | none => stk
@[simp] theorem ofO_some {α : Type} (a : α) (env : Env) : ofO (some a) env = .ok a env := rfl
@[simp] theorem ofO_none {α : Type} (env : Env) : (ofO (none : Option α)) env = .stuck := rfl

/-- own things of an expression are frozen -/
def Rv.frz : Rv → Rv
  | .own (.lst ds) => .d (.list ds)
  | .own (.dct _) => .d (.dict [])
  | .own (.dat x) => .d x
  | .own (.tpl ds) => .d (.tuple ds)
  | r => r
def vm (m : M Rv) : M Rv := bnd m fun r => ret r.frz

/-- the thing as data, where it is data, or a list of a slot -/
def res (env : Env) : Rv → Option D
  | .d x => some x
  | .pl i => match env[i]? with
    | some (some (.lst ds)) => some (.list ds)
    | _ => none
  | .own _ => none

def RvR (K : PySem.W.Frag) (P B H : Hp) (σ : L2.St) (fps : Nat → List Addr) : Rv → V → Prop
  | .d x, v => RD K B x v
  | .own o, v => ∃ fp, OwnR K B H o v fp ∧ ∀ a ∈ fp, B a = none ∧ P a = none ∧ ∀ i, a ∉ fps i
  | .pl i, v => σ[i]? = some (some v)
def RvS (K : PySem.W.Frag) (B : Hp) (σ : L2.St) : Rv → V → Prop
  | .d x, v => RD K B x v
  | .own _, _ => False
  | .pl i, v => σ[i]? = some (some v)
theorem RvS.mono {K : PySem.W.Frag} {B B' : Hp} {σ : L2.St} (h : Sub B B') {r : Rv} {v : V} (q : RvS K B σ r v) : RvS K B' σ r v := by
  cases r with
  | d x => exact RD.mono h _ _ q
  | own o => exact q
  | pl i => exact q

/-- read at the moment: frozen data, or a list that is owned by a slot -/
def Rd1 (K : PySem.W.Frag) (B H : Hp) (x : D) (v : V) : Prop :=
  RD K B x v ∨ ∃ ds a vs, x = .list ds ∧ v = .ref a ∧ H a = some (.lst vs) ∧ RDs K B ds vs
theorem Rd1.rd {K : PySem.W.Frag} {B H : Hp} {x : D} {v : V} (hs : Sub B H) (h : Rd1 K B H x v) : RD K H x v := by
  rcases h with h | ⟨ds, a, vs, rfl, rfl, e, r⟩
  · exact RD.mono hs _ _ h
  · exact .lst (.inl (.inl e)) (RDs.mono hs _ _ r)

section
variable (K : PySem.W.Frag) (cl : String → Addr) (E : XK)
def PostE (P B : Hp) (σ : L2.St) (r : Rs Rv) (Q : VK) : Prop := match r with
  | .ok r env => ∀ v H' B' fps, Ext P B B' → Fm K P B' H' σ env fps → RvR K P B' H' σ fps r v → Q v H'
  | .ex c env => ∀ H' B' fps, Ext P B B' → Fm K P B' H' σ env fps → E (.ref (cl c)) none H'
  | .stuck => False
def tM (m : M Rv) : TE := fun σ H Q => ∃ P B env fps, Fm K P B H σ env fps ∧ PostE K cl E P B σ (m env) Q
end
section
variable {K : PySem.W.Frag} {cl : String → Addr} {E : XK} {P B B' H H' : Hp} {σ : L2.St} {env : Env} {fps : Nat → List Addr}
theorem PostE.ext {r : Rs Rv} {Q : VK} (x : Ext P B B') (h : PostE K cl E P B σ r Q) : PostE K cl E P B' σ r Q := by
  cases r with
  | ok r env => exact fun v H' B2 fps x2 => h v H' B2 fps (x.trans x2)
  | ex c env => exact fun H' B2 fps x2 => h H' B2 fps (x.trans x2)
  | stuck => exact h
theorem Fm.pl (F : Fm K P B H σ env fps) {i : Nat} {o : O} {v : V} (e : env[i]? = some (some o)) (h : σ[i]? = some (some v)) : OwnR K B H o v (fps i) := by
  obtain ⟨w, e1, r⟩ := F.slot i o e
  rw [h] at e1
  cases e1
  exact r
/-- own cells are frozen: a temporary list -/
theorem Fm.freezeT (F : Fm K P B H σ env fps) {a : Addr} {o : HO} (e : H a = some o) (hb : B a = none) (hp : P a = none) (hf : ∀ i, a ∉ fps i) (ho : ∀ ps, o ≠ .tbl ps := by intro _ h; cases h) : Fm K P (upd B a o) H σ env fps ∧ Ext P B (upd B a o) := by
  refine ⟨⟨F.len, fun b u q => ?_, F.prt, fun i o' q => ?_, F.emp, F.dis, fun i b hb' => ?_, F.tab.mono (Sub.upd hb), F.nbT.upd ho, F.npT⟩, Ext.upd hb hp⟩
  · by_cases z : b = a
    · subst z; rw [upd_same] at q; cases q; exact e
    · rw [upd_ne z] at q; exact F.sub _ _ q
  · obtain ⟨v, e1, r⟩ := F.slot i o' q
    exact ⟨v, e1, r.congr (Sub.upd hb) fun _ _ => rfl⟩
  · have z : b ≠ a := by
      intro z; subst z; exact hf i hb'
    obtain ⟨q1, q2⟩ := F.off i b hb'
    exact ⟨by rw [upd_ne z]; exact q1, q2⟩
/-- freezing what an expression gave -/
theorem freeze_rv (F : Fm K P B H σ env fps) {r : Rv} {v : V} (q : RvR K P B H σ fps r v) : ∃ B', Ext P B B' ∧ Fm K P B' H σ env fps ∧ RvS K B' σ r.frz v := by
  cases r with
  | d x => exact ⟨B, Ext.refl, F, show RD K B x v from q⟩
  | pl i => exact ⟨B, Ext.refl, F, show σ[i]? = some (some v) from q⟩
  | own o =>
    obtain ⟨fp, r, hf⟩ := q
    cases r with
    | dat r => exact ⟨B, Ext.refl, F, show RD K B _ v from r⟩
    | tpl e n r => exact ⟨B, Ext.refl, F, show RD K B (.tuple _) _ from .tup (.inl (.inr ⟨_, e⟩)) r⟩
    | @lst a vs ds e r =>
      obtain ⟨h1, h2, h3⟩ := hf a (by simp)
      obtain ⟨F', x⟩ := F.freezeT e h1 h2 h3
      exact ⟨_, x, F', show RD K _ (.list ds) (.ref a) from .lst (.inl (.inl upd_same)) (RDs.mono x.1 _ _ r)⟩
    | @dct a kvs kds e r =>
      obtain ⟨h1, h2, h3⟩ := hf a (by simp)
      obtain ⟨F', x⟩ := F.freezeT e h1 h2 h3
      exact ⟨_, x, F', show RD K _ (.dict []) (.ref a) from .dct upd_same⟩
theorem frz_S {r : Rv} {v : V} (q : RvS K B σ r v) : RvR K P B H σ fps r v := by
  cases r with
  | d x => exact q
  | own o => exact q.elim
  | pl i => exact q
/-- an operand, then the rest -/
theorem post_vm {m : M Rv} {k : Rv → M Rv} {Q : VK} (h : PostE K cl E P B σ ((bnd (vm m) k) env) Q) :
    PostE K cl E P B σ (m env) fun v H1 => ∃ B1 env1 fps1 r, Ext P B B1 ∧ Fm K P B1 H1 σ env1 fps1 ∧ RvS K B1 σ r v ∧ PostE K cl E P B1 σ (k r env1) Q := by
  unfold bnd vm at h
  unfold bnd at h
  cases q : m env with
  | ok r env1 =>
    rw [q] at h
    intro v H1 B1 fps1 x F1 r1
    obtain ⟨B2, x2, F2, s2⟩ := freeze_rv F1 r1
    exact ⟨B2, env1, fps1, r.frz, x.trans x2, F2, s2, PostE.ext (x.trans x2) h⟩
  | ex c env1 => rw [q] at h; exact h
  | stuck => rw [q] at h; exact h.elim
theorem Fm.res (F : Fm K P B H σ env fps) {r : Rv} {v : V} {x : D} (q : RvS K B σ r v) (e : Mi.res env r = some x) : Rd1 K B H x v := by
  cases r with
  | d y => cases e; exact .inl q
  | own o => cases e
  | pl i =>
    unfold Mi.res at e
    simp only at e
    split at e
    · rename_i ds he
      cases e
      obtain ⟨a, vs, rfl, _, e1, r1⟩ := (F.pl he q).lst_inv
      exact .inr ⟨_, _, _, rfl, rfl, e1, r1⟩
    · cases e
end

/-! ### operators over data -/
/-- what an operator gives: data there, a new tuple, a new list -/
inductive Out where
  | val (d : D)
  | tup (ds : List D)
  | lst (ds : List D)
def Out.rv : Out → Rv
  | .val d => .d d
  | .tup ds => .d (.tuple ds)
  | .lst ds => .own (.lst ds)
def OutR (K : PySem.W.Frag) (B H : Hp) : Out → V → Hp → Prop
  | .val d, v, H' => H' = H ∧ RD K B d v
  | .tup ds, v, H' => (∃ p vs, v = .ref p ∧ H p = none ∧ H' = upd H p (.tup vs) ∧ RDs K B ds vs) ∨ (H' = H ∧ RD K B (.tuple ds) v)
  | .lst ds, v, H' => ∃ p vs, v = .ref p ∧ H p = none ∧ H' = upd H p (.lst vs) ∧ RDs K B ds vs
def OpD (X : Cx) (f : Value → Value → Sem Value) (g : D → D → Option Out) : Prop :=
  ∀ (pins : List (Addr × Obj)) (s : Shared) (σ : L2.St) (H B : Hp) (x y : D) (v w : V) (vv ww : Value) (o : Out), Inv X pins σ H s → Sub B H → Rd1 X.K B H x v → Rd1 X.K B H y w → RelV v vv → RelV w ww → g x y = some o →
    wpAny (model X.prog X.w) X.A (f vv ww) (EP X pins σ (OutR X.K B H o)) X.xe s
theorem OpD.of {X : Cx} {f : Value → Value → Sem Value} {r : R2} {g : D → D → Option Out} (ho : OpR X f r)
    (h : ∀ (H B : Hp) (x y : D) (v w : V) (o : Out), Sub B H → Rd1 X.K B H x v → Rd1 X.K B H y w → g x y = some o → r v w H (OutR X.K B H o)) : OpD X f g :=
  fun pins s σ H B x y v w vv ww o I hs r1 r2 q1 q2 e => ho pins s σ H v w vv ww _ I q1 q2 (h H B x y v w o hs r1 r2 e)
def CallD (X : Cx) (f : Value) (g : List D → Option Out) : Prop :=
  ∀ (pins : List (Addr × Obj)) (s : Shared) (σ : L2.St) (H B : Hp) (xs : List D) (vs : List V) (us : List Value) (o : Out), Inv X pins σ H s → Sub B H → Paired (Rd1 X.K B H) xs vs → Vals vs us → g xs = some o →
    wpAny (model X.prog X.w) X.A (call f us) (EP X pins σ (OutR X.K B H o)) X.xe s
theorem CallD.of {X : Cx} {f : Value} {r : List V → Hp → VK → Prop} {g : List D → Option Out} (ho : CallR X f r)
    (h : ∀ (H B : Hp) (xs : List D) (vs : List V) (o : Out), Sub B H → Paired (Rd1 X.K B H) xs vs → g xs = some o → r vs H (OutR X.K B H o)) : CallD X f g :=
  fun pins s σ H B xs vs us o I hs r1 q1 e => ho pins s σ H vs us _ I q1 (h H B xs vs o hs r1 e)

section
variable {K : PySem.W.Frag} {cl : String → Addr} {E : XK} {P B H : Hp} {σ : L2.St} {env : Env} {fps : Nat → List Addr}
theorem OutR.post (F : Fm K P B H σ env fps) {o : Out} {v : V} {H' : Hp} {Q : VK} (h : OutR K B H o v H') (q : PostE K cl E P B σ (.ok o.rv env) Q) : Q v H' := by
  cases o with
  | val d =>
    obtain ⟨rfl, r⟩ := h
    exact q v H' B fps Ext.refl F r
  | tup ds =>
    rcases h with ⟨p, vs, rfl, hp, rfl, r⟩ | ⟨rfl, r⟩
    · obtain ⟨h1, h2, h3⟩ := F.newB hp
      have x : Ext P B (upd B p (.tup vs)) := Ext.upd h1 h2
      exact q _ _ _ fps x (F.allocB hp) (.tup (.inl (.inl upd_same)) (RDs.mono x.1 _ _ r))
    · exact q v H' B fps Ext.refl F r
  | lst ds =>
    obtain ⟨p, vs, rfl, hp, rfl, r⟩ := h
    obtain ⟨h1, h2, h3⟩ := F.newB hp
    exact q _ _ _ fps Ext.refl (F.alloc hp) ⟨_, .lst upd_same r, fun a ha => by simp at ha; subst ha; exact ⟨h1, h2, h3⟩⟩
end

/-! ### the judgements -/
def DE (X : Cx) (cl : String → Addr) (E : XK) (e : Expr) (m : M Rv) : Prop := PE X e (tM X.K cl E m)
section
variable {X : Cx} {cl : String → Addr} {E : XK} {a b e : Expr} {ma mb m : M Rv} {pos : Pos}

def mC (d : D) : M Rv := ret (.d d)
def mVar (i : Nat) : M Rv := fun env => match env[i]? with
  | some (some (.dat d)) => .ok (.d d) env
  | some (some (.tpl ds)) => .ok (.d (.tuple ds)) env
  | some (some _) => .ok (.pl i) env
  | _ => .stuck
theorem tC_of {d : D} {v : V} {σ : L2.St} {H : Hp} {Q : VK} (r : ∀ B, RD X.K B d v) (h : tM X.K cl E (mC d) σ H Q) : Q v H := by
  obtain ⟨P, B, env, fps, F, h⟩ := h
  exact h v H B fps Ext.refl F (r B)
theorem de_int {i j pos} : DE X cl E (.Constant (.int i) j pos) (mC (.int i)) := ⟨fun pins s σ H Q I h => pe_int.run pins s σ H Q I (tC_of (fun _ => .int i) h)⟩
theorem de_bl {b j pos} : DE X cl E (.Constant (.bool b) j pos) (mC (.bool b)) := ⟨fun pins s σ H Q I h => pe_bl.run pins s σ H Q I (tC_of (fun _ => .bl b) h)⟩
theorem de_non {j pos} : DE X cl E (.Constant .none j pos) (mC .none) := ⟨fun pins s σ H Q I h => pe_non.run pins s σ H Q I (tC_of (fun _ => .non) h)⟩
theorem de_str {x j pos} : DE X cl E (.Constant (.str x) j pos) (mC (.str x)) := ⟨fun pins s σ H Q I h => pe_str.run pins s σ H Q I (tC_of (fun _ => .str x) h)⟩
theorem de_var {i : Nat} {x : Str} (hN : X.N[i]? = some x) (hv : Vis X.env.scope x) (hd : (x == ("__debug__" : Str)) = false := by decide) (hcd : (x == ("__classdict__" : Str)) = false := by decide) : DE X cl E (.Name x pos) (mVar i) := by
  refine ⟨fun pins s σ H Q I h => (pe_var hN hv hd hcd).run pins s σ H Q I ?_⟩
  obtain ⟨P, B, env, fps, F, h⟩ := h
  unfold mVar at h
  split at h
  · rename_i d he
    obtain ⟨v, e1, r⟩ := F.slot i _ he
    exact ⟨v, e1, h v H B fps Ext.refl F r.dat_inv.1⟩
  · rename_i ds he
    obtain ⟨v, e1, r⟩ := F.slot i _ he
    obtain ⟨a, vs, ob, rfl, _, e2, _, r2⟩ := r.tpl_inv
    exact ⟨_, e1, h _ H B fps Ext.refl F (.tup (.inl (.inr ⟨_, e2⟩)) r2)⟩
  · rename_i o hno hno2 he
    obtain ⟨v, e1, r⟩ := F.slot i _ he
    exact ⟨v, e1, h v H B fps Ext.refl F e1⟩
  · exact h.elim
/-- a module's constant -/
theorem de_glob {x : Str} {v : V} {u : Value} {d : D} (hg : Gl X x) (hm : X.mg x = some u) (r : RelV v u) (rd : RD X.K (fun _ => none) d v) (hd : (x == ("__debug__" : Str)) = false := by decide) : DE X cl E (.Name x pos) (mC d) :=
  ⟨fun pins s σ H Q I h => (pe_glob hg hm r hd).run pins s σ H Q I (tC_of (fun B => RD.mono (fun _ _ q => by cases q) _ _ rd) h)⟩

/-- two operands, an operator -/
def mBin (g : D → D → Option Out) (ma mb : M Rv) : M Rv := bnd (vm ma) fun r1 => bnd (vm mb) fun r2 env => match res env r1, res env r2 with
  | some x, some y => match g x y with
    | some o => .ok o.rv env
    | none => .stuck
  | _, _ => .stuck
theorem two {g : D → D → Option Out} {f : Value → Value → Sem Value} (ha : DE X cl E a ma) (hb : DE X cl E b mb) (ho : OpD X f g) {pins : List (Addr × Obj)} {s : Shared} {σ : L2.St} {H : Hp} {Q : VK} (I : Inv X pins σ H s) (h : tM X.K cl E (mBin g ma mb) σ H Q) :
    wpAny (model X.prog X.w) X.A (eval a X.env) (fun v s₁ => wpAny (model X.prog X.w) X.A (eval b X.env) (fun u s₂ => wpAny (model X.prog X.w) X.A (f v u) (EP X pins σ Q) X.xe s₂) X.xe s₁) X.xe s := by
  obtain ⟨P, B, env, fps, F, h⟩ := h
  refine thn (ha.run pins s σ H _ I ⟨P, B, env, fps, F, post_vm h⟩) fun v s1 ⟨x, H1, I1, r1, B1, env1, fps1, q1, x1, F1, w1, h1⟩ => ?_
  refine thn (hb.run pins s1 σ H1 _ I1 ⟨P, B1, env1, fps1, F1, post_vm h1⟩) fun u s2 ⟨y, H2, I2, r2, B2, env2, fps2, q2, x2, F2, w2, h2⟩ => ?_

  split at h2
  · rename_i dx dy e1 e2
    split at h2
    · rename_i o eo
      refine thn (ho pins s2 σ H2 B2 dx dy x y v u o I2 F2.sub (F2.res (w1.mono x2.1) e1) (F2.res w2 e2) r1 r2 eo) fun z s3 ⟨z', H3, I3, r3, ho3⟩ => ?_
      exact ⟨z', H3, I3, r3, ho3.post F2 h2⟩
    · exact h2.elim
  · exact h2.elim
theorem de_bin {op : Operator} {g : D → D → Option Out} (ha : DE X cl E a ma) (hb : DE X cl E b mb) (ho : OpD X (binaryOp op) g) : DE X cl E (.BinOp a op b pos) (mBin g ma mb) :=
  ⟨fun pins s σ H Q I h => wpAny_BinOp (two ha hb ho I h)⟩
theorem de_cmp {op : CmpOp} {g : D → D → Option Out} (ha : DE X cl E a ma) (hb : DE X cl E b mb) (ho : OpD X (compareOp op) g) (hm : behindInMarks op b = false := by first | exact nobehind _ (by decide) (by decide) | rfl) : DE X cl E (.Compare a [op] [b] pos) (mBin g ma mb) :=
  ⟨fun pins s σ H Q I h => wpAny_Compare1 (two ha hb ho I h) hm⟩
end
end Mi

set_option Elab.async false
set_option linter.all false
set_option maxRecDepth 100000
namespace Mi
open PySem PySem.Spec L2

section
variable (K : PySem.W.Frag) (cl : String → Addr) (E : XK)
/-- the end of anything -/
def PostX {α : Type} (P B : Hp) (σ : L2.St) (r : Rs α) (R : α → Hp → Hp → (Nat → List Addr) → Env → Prop) : Prop := match r with
  | .ok a env => ∀ H' B' fps, Ext P B B' → Fm K P B' H' σ env fps → R a H' B' fps env
  | .ex c env => ∀ H' B' fps, Ext P B B' → Fm K P B' H' σ env fps → E (.ref (cl c)) none H'
  | .stuck => False
def tMT (m : M Bool) : TT := fun σ H Q => ∃ P B env fps, Fm K P B H σ env fps ∧ PostX K cl E P B σ (m env) fun b H' _ _ _ => Q b H'
def tMA (m : M (List Rv)) : TA := fun σ H Q => ∃ P B env fps, Fm K P B H σ env fps ∧ PostX K cl E P B σ (m env) fun rs H' B' _ _ => ∀ vs, Paired (RvS K B' σ) rs vs → Q vs H'
end
section
variable {K : PySem.W.Frag} {cl : String → Addr} {E : XK} {P B B' H H' : Hp} {σ : L2.St} {env : Env} {fps : Nat → List Addr}
theorem PostX.ext {α : Type} {r : Rs α} {R : α → Hp → Hp → (Nat → List Addr) → Env → Prop} (x : Ext P B B') (h : PostX K cl E P B σ r R) : PostX K cl E P B' σ r R := by
  cases r with
  | ok r env => exact fun H' B2 fps x2 => h H' B2 fps (x.trans x2)
  | ex c env => exact fun H' B2 fps x2 => h H' B2 fps (x.trans x2)
  | stuck => exact h
/-- an operand, then the rest -/
theorem postX_vm {α : Type} {m : M Rv} {k : Rv → M α} {R : α → Hp → Hp → (Nat → List Addr) → Env → Prop} (h : PostX K cl E P B σ ((bnd (vm m) k) env) R) :
    PostE K cl E P B σ (m env) fun v H1 => ∃ B1 env1 fps1 r, Ext P B B1 ∧ Fm K P B1 H1 σ env1 fps1 ∧ RvS K B1 σ r v ∧ PostX K cl E P B1 σ (k r env1) R := by
  unfold bnd vm at h
  unfold bnd at h
  cases q : m env with
  | ok r env1 =>
    rw [q] at h
    intro v H1 B1 fps1 x F1 r1
    obtain ⟨B2, x2, F2, s2⟩ := freeze_rv F1 r1
    exact ⟨B2, env1, fps1, r.frz, x.trans x2, F2, s2, PostX.ext (x.trans x2) h⟩
  | ex c env1 => rw [q] at h; exact h
  | stuck => rw [q] at h; exact h.elim
/-- anything, then the rest -/
theorem postX_bnd {α β : Type} {m : M α} {k : α → M β} {R : β → Hp → Hp → (Nat → List Addr) → Env → Prop} (h : PostX K cl E P B σ ((bnd m k) env) R) :
    PostX K cl E P B σ (m env) fun a H1 B1 fps1 env1 => PostX K cl E P B1 σ (k a env1) R := by
  unfold bnd at h
  cases q : m env with
  | ok r env1 =>
    rw [q] at h
    intro H1 B1 fps1 x F1
    exact PostX.ext x h
  | ex c env1 => rw [q] at h; exact h
  | stuck => rw [q] at h; exact h.elim
theorem PostX.mono {α : Type} {r : Rs α} {R R' : α → Hp → Hp → (Nat → List Addr) → Env → Prop} (h : PostX K cl E P B σ r R) (k : ∀ a H' B' fps env, Ext P B B' → Fm K P B' H' σ env fps → R a H' B' fps env → R' a H' B' fps env) : PostX K cl E P B σ r R' := by
  cases r with
  | ok r env => exact fun H' B2 fps x2 F => k _ _ _ _ _ x2 F (h H' B2 fps x2 F)
  | ex c env => exact h
  | stuck => exact h
/-- .. where an expression follows -/
theorem postE_bnd {α : Type} {m : M α} {k : α → M Rv} {Q : VK} (h : PostE K cl E P B σ ((bnd m k) env) Q) :
    PostX K cl E P B σ (m env) fun a H1 B1 fps1 env1 => PostE K cl E P B1 σ (k a env1) Q := by
  unfold bnd at h
  cases q : m env with
  | ok r env1 =>
    rw [q] at h
    intro H1 B1 fps1 x F1
    exact PostE.ext x h
  | ex c env1 => rw [q] at h; exact h
  | stuck => rw [q] at h; exact h.elim
/-- an expression as it is, then an expression -/
theorem postE_e {m : M Rv} {k : Rv → M Rv} {Q : VK} (h : PostE K cl E P B σ ((bnd m k) env) Q) :
    PostE K cl E P B σ (m env) fun v H1 => ∃ B1 env1 fps1 r, Ext P B B1 ∧ Fm K P B1 H1 σ env1 fps1 ∧ RvR K P B1 H1 σ fps1 r v ∧ PostE K cl E P B1 σ (k r env1) Q := by
  unfold bnd at h
  cases q : m env with
  | ok r env1 =>
    rw [q] at h
    intro v H1 B1 fps1 x F1 r1
    exact ⟨B1, env1, fps1, r, x, F1, r1, PostE.ext x h⟩
  | ex c env1 => rw [q] at h; exact h
  | stuck => rw [q] at h; exact h.elim
theorem postX_e {α : Type} {m : M Rv} {k : Rv → M α} {R : α → Hp → Hp → (Nat → List Addr) → Env → Prop} (h : PostX K cl E P B σ ((bnd m k) env) R) :
    PostE K cl E P B σ (m env) fun v H1 => ∃ B1 env1 fps1 r, Ext P B B1 ∧ Fm K P B1 H1 σ env1 fps1 ∧ RvR K P B1 H1 σ fps1 r v ∧ PostX K cl E P B1 σ (k r env1) R := by
  unfold bnd at h
  cases q : m env with
  | ok r env1 =>
    rw [q] at h
    intro v H1 B1 fps1 x F1 r1
    exact ⟨B1, env1, fps1, r, x, F1, r1, PostX.ext x h⟩
  | ex c env1 => rw [q] at h; exact h
  | stuck => rw [q] at h; exact h.elim
end

def DT (X : Cx) (cl : String → Addr) (E : XK) (e : Expr) (m : M Bool) : Prop := PT X e (tMT X.K cl E m)
def DW (X : Cx) (cl : String → Addr) (E : XK) (e : Expr) (m : M Bool) : Prop := PW X e (tMT X.K cl E m)
def DA (X : Cx) (cl : String → Addr) (E : XK) (es : List Expr) (m : M (List Rv)) : Prop := PA X es (tMA X.K cl E m)
section
variable {X : Cx} {cl : String → Addr} {E : XK} {a b e : Expr} {ma mb m : M Rv} {t u : M Bool} {pos : Pos} {rest es : List Expr}

/-! ### tests -/
def tst (m : M Rv) : M Bool := bnd m fun r => match r with
  | .d (.bool b) => ret b
  | _ => stk
theorem tst_in {P B : Hp} {σ : L2.St} {env : Env} {Q : Bool → Hp → Prop} (h : PostX X.K cl E P B σ (tst m env) fun b H' _ _ _ => Q b H') :
    PostE X.K cl E P B σ (m env) fun x H1 => ∃ c, x = .bl c ∧ Q c H1 := by
  unfold tst at h
  have h := postX_e h
  cases q : m env with
  | ok r env1 =>
    rw [q] at h
    intro v H1 B1 fps1 x F1 r1
    obtain ⟨B2, env2, fps2, r2, x2, F2, s2, h2⟩ := h v H1 B1 fps1 x F1 r1
    split at h2
    · cases (show RD X.K B2 (.bool _) v from s2)
      exact ⟨_, rfl, h2 H1 B2 fps2 Ext.refl F2⟩
    · exact h2.elim
  | ex c env1 => rw [q] at h; exact h
  | stuck => rw [q] at h; exact h.elim
theorem dt_val (h : DE X cl E e m) (he : ∀ whole, isTrue e X.env whole = (do let v ← whole; standAt e.pos; holding [v] (truthy v)) := by intro _; rfl) : DT X cl E e (tst m) :=
  ⟨fun pins s σ H Q I ⟨P, B, env, fps, F, q⟩ => (pt_val h he).run pins s σ H Q I ⟨P, B, env, fps, F, tst_in q⟩⟩
theorem dt_cmp {op : CmpOp} {g : D → D → Option Out} (ha : DE X cl E a ma) (hb : DE X cl E b mb) (ho : OpD X (compareOp op) g) (hm : behindInMarks op b = false := by first | exact nobehind _ (by decide) (by decide) | rfl) : DT X cl E (.Compare a [op] [b] pos) (tst (mBin g ma mb)) := by
  refine ⟨fun pins s σ H Q I ⟨P, B, env, fps, F, q⟩ => ?_⟩
  refine wpAny_isTrue_Compare1 (thn (two ha hb ho I ⟨P, B, env, fps, F, tst_in q⟩) fun v s1 h1 => thn h1 fun u s2 h2 => thn h2 fun c s3 ⟨x, H1, I1, r1, q1⟩ => ?_) hm
  obtain ⟨d, rfl, q⟩ := q1
  cases r1
  exact wpAny_truthy_bool ⟨H1, I1, q⟩
def mAnd (t u : M Bool) : M Bool := bnd t fun c => if c = true then u else ret false
def mOr (t u : M Bool) : M Bool := bnd t fun c => if c = true then ret true else u
def mNot (t : M Bool) : M Bool := bnd t fun c => ret (!c)
theorem tMT_bnd {σ : L2.St} {H : Hp} {Q : Bool → Hp → Prop} {k : Bool → M Bool} {R : Bool → Hp → Prop} (h : tMT X.K cl E (bnd t k) σ H Q)
    (hk : ∀ c H1 P B env fps, Fm X.K P B H1 σ env fps → (PostX X.K cl E P B σ (k c env) fun b H' _ _ _ => Q b H') → R c H1) : tMT X.K cl E t σ H R := by
  obtain ⟨P, B, env, fps, F, h⟩ := h
  exact ⟨P, B, env, fps, F, (postX_bnd h).mono fun c H1 B1 fps1 env1 x F1 q => hk c H1 P B1 env1 fps1 F1 q⟩
theorem tMT_ret {σ : L2.St} {H : Hp} {Q : Bool → Hp → Prop} {P B : Hp} {env : Env} {fps : Nat → List Addr} {c : Bool} (F : Fm X.K P B H σ env fps) (h : PostX X.K cl E P B σ (ret c env) fun b H' _ _ _ => Q b H') : Q c H := h H B fps Ext.refl F
theorem dw_and1 (ha : DT X cl E a t) : DW X cl E (.BoolOp .And [a] pos) t := pw_and1 ha
theorem dw_or1 (ha : DT X cl E a t) : DW X cl E (.BoolOp .Or [a] pos) t := pw_or1 ha
theorem dw_and (ha : DT X cl E a t) (hb : DW X cl E (.BoolOp .And (b :: rest) pos) u) : DW X cl E (.BoolOp .And (a :: b :: rest) pos) (mAnd t u) := by
  refine ⟨fun w pins s σ H Q I h => (pw_and ha hb).run w pins s σ H Q I ?_⟩
  refine tMT_bnd h fun c H1 P B env fps F q => ?_
  cases c with
  | true => exact ⟨P, B, env, fps, F, q⟩
  | false => exact tMT_ret F q
theorem dw_or (ha : DT X cl E a t) (hb : DW X cl E (.BoolOp .Or (b :: rest) pos) u) : DW X cl E (.BoolOp .Or (a :: b :: rest) pos) (mOr t u) := by
  refine ⟨fun w pins s σ H Q I h => (pw_or ha hb).run w pins s σ H Q I ?_⟩
  refine tMT_bnd h fun c H1 P B env fps F q => ?_
  cases c with
  | true => exact tMT_ret F q
  | false => exact ⟨P, B, env, fps, F, q⟩
theorem dt_w (h : DW X cl E e t) : DT X cl E e t := PW.pt h
theorem dt_not (ha : DT X cl E a t) : DT X cl E (.UnaryOp .Not a pos) (mNot t) := by
  refine ⟨fun pins s σ H Q I h => (pt_not ha).run pins s σ H Q I ?_⟩
  exact tMT_bnd h fun c H1 P B env fps F q => tMT_ret F q

/-! ### .. as values -/
def mAndV (ma mb : M Rv) : M Rv := bnd ma fun r => match r with
  | .d (.bool true) => mb
  | .d (.bool false) => ret (.d (.bool false))
  | _ => stk
def mOrV (ma mb : M Rv) : M Rv := bnd ma fun r => match r with
  | .d (.bool true) => ret (.d (.bool true))
  | .d (.bool false) => mb
  | _ => stk
def mNotV (ma : M Rv) : M Rv := bnd ma fun r => match r with
  | .d (.bool b) => ret (.d (.bool (!b)))
  | _ => stk
theorem ret_d {K : PySem.W.Frag} {P B H : Hp} {σ : L2.St} {env : Env} {fps : Nat → List Addr} {d : D} {v : V} {Q : VK} (F : Fm K P B H σ env fps) (r : RD K B d v) (h : PostE K cl E P B σ (ret (.d d) env) Q) : Q v H := h v H B fps Ext.refl F r
theorem de_one {op} (h : DE X cl E a m) : DE X cl E (.BoolOp op [a] pos) m := pe_one h
theorem tM_e {k : Rv → M Rv} {σ : L2.St} {H : Hp} {Q : VK} {R : VK} (h : tM X.K cl E (bnd m k) σ H Q)
    (hk : ∀ r v H1 P B env fps, Fm X.K P B H1 σ env fps → RvR X.K P B H1 σ fps r v → PostE X.K cl E P B σ (k r env) Q → R v H1) : tM X.K cl E m σ H R := by
  obtain ⟨P, B, env, fps, F, h⟩ := h
  refine ⟨P, B, env, fps, F, ?_⟩
  have h2 := postE_e h
  cases q : m env with
  | ok r env1 =>
    rw [q] at h2
    intro v H1 B1 fps1 x F1 r1
    obtain ⟨B2, env2, fps2, r2, x2, F2, s2, h3⟩ := h2 v H1 B1 fps1 x F1 r1
    exact hk r2 v H1 P B2 env2 fps2 F2 s2 h3
  | ex c env1 => rw [q] at h2; exact h2
  | stuck => rw [q] at h2; exact h2.elim
theorem de_and (ha : DE X cl E a ma) (hb : DE X cl E (.BoolOp .And (b :: rest) pos) mb) : DE X cl E (.BoolOp .And (a :: b :: rest) pos) (mAndV ma mb) := by
  refine ⟨fun pins s σ H Q I h => (pe_and ha hb).run pins s σ H Q I ?_⟩
  refine tM_e h fun r v H1 P B env fps F s2 h2 => ?_
  split at h2
  · cases (show RD X.K B (.bool _) v from s2)
    exact ⟨_, rfl, ⟨P, B, env, fps, F, h2⟩⟩
  · cases (show RD X.K B (.bool _) v from s2)
    exact ⟨_, rfl, ret_d F (.bl false) h2⟩
  · exact h2.elim
theorem de_or (ha : DE X cl E a ma) (hb : DE X cl E (.BoolOp .Or (b :: rest) pos) mb) : DE X cl E (.BoolOp .Or (a :: b :: rest) pos) (mOrV ma mb) := by
  refine ⟨fun pins s σ H Q I h => (pe_or ha hb).run pins s σ H Q I ?_⟩
  refine tM_e h fun r v H1 P B env fps F s2 h2 => ?_
  split at h2
  · cases (show RD X.K B (.bool _) v from s2)
    exact ⟨_, rfl, ret_d F (.bl true) h2⟩
  · cases (show RD X.K B (.bool _) v from s2)
    exact ⟨_, rfl, ⟨P, B, env, fps, F, h2⟩⟩
  · exact h2.elim
theorem de_not (ha : DE X cl E a ma) : DE X cl E (.UnaryOp .Not a pos) (mNotV ma) := by
  refine ⟨fun pins s σ H Q I h => (pe_not ha).run pins s σ H Q I ?_⟩
  refine tM_e h fun r v H1 P B env fps F s2 h2 => ?_
  split at h2
  · cases (show RD X.K B (.bool _) v from s2)
    exact ⟨_, rfl, ret_d F (.bl _) h2⟩
  · exact h2.elim
def mIf (t : M Bool) (ma mb : M Rv) : M Rv := bnd t fun c => if c = true then ma else mb
theorem de_ifExp {c : Expr} (hc : DT X cl E c t) (ha : DE X cl E a ma) (hb : DE X cl E b mb) : DE X cl E (.IfExp c a b pos) (mIf t ma mb) := by
  refine ⟨fun pins s σ H Q I h => (pe_ifExp hc ha hb).run pins s σ H Q I ?_⟩
  obtain ⟨P, B, env, fps, F, h⟩ := h
  refine ⟨P, B, env, fps, F, (postE_bnd h).mono fun c H1 B1 fps1 env1 x F1 q => ?_⟩
  cases c with
  | true => exact ⟨P, B1, env1, fps1, F1, q⟩
  | false => exact ⟨P, B1, env1, fps1, F1, q⟩

/-! ### arguments, displays -/
def mNil : M (List Rv) := ret []
def mCons (m : M Rv) (ms : M (List Rv)) : M (List Rv) := bnd (vm m) fun r => bnd ms fun rs => ret (r :: rs)
theorem da_nil : DA X cl E [] mNil := ⟨fun pos pins s σ H Q I ⟨P, B, env, fps, F, h⟩ => pa_nil.run pos pins s σ H Q I (h H B fps Ext.refl F [] .nil)⟩
theorem da_cons {ms : M (List Rv)} (ha : DE X cl E e m) (hr : DA X cl E es ms) (hs : starEach (e :: es) X.env = (false, eval e X.env) :: starEach es X.env := by rfl) : DA X cl E (e :: es) (mCons m ms) := by
  refine ⟨fun pos pins s σ H Q I ⟨P, B, env, fps, F, h⟩ => (pa_cons ha hr hs).run pos pins s σ H Q I ?_⟩
  refine ⟨P, B, env, fps, F, ?_⟩
  have h1 := postX_vm h
  cases q : m env with
  | ok r env1 =>
    rw [q] at h1
    intro v H1 B1 fps1 x F1 r1
    obtain ⟨B2, env2, fps2, r2, x2, F2, s2, h2⟩ := h1 v H1 B1 fps1 x F1 r1
    exact ⟨P, B2, env2, fps2, F2, (postX_bnd h2).mono fun rs H3 B3 fps3 env3 x3 F3 h3 vs hv => h3 H3 B3 fps3 Ext.refl F3 (v :: vs) (.cons (s2.mono x3.1) hv)⟩
  | ex c env1 => rw [q] at h1; exact h1
  | stuck => rw [q] at h1; exact h1.elim
/-- a thing of a slot that is laid into another one is frozen there -/
def frzR (r : Rv) : M D := fun env => match r with
  | .d x => .ok x env
  | .pl i => match env[i]? with
    | some (some (.lst ds)) => .ok (.list ds) (env.set i (some (.dat (.list ds))))
    | some (some (.dct _)) => .ok (.dict []) (env.set i (some (.dat (.dict []))))
    | some (some (.dat d)) => .ok d env
    | _ => .stuck
  | .own _ => .stuck
def frzAll : List Rv → M (List D)
  | [] => ret []
  | r :: rs => bnd (frzR r) fun d => bnd (frzAll rs) fun ds => ret (d :: ds)
end
end Mi

set_option Elab.async false
set_option linter.all false
set_option maxRecDepth 100000
namespace Mi
open PySem PySem.Spec L2

def setF (fps : Nat → List Addr) (i : Nat) (fp : List Addr) : Nat → List Addr := fun j => if j = i then fp else fps j
theorem setF_same {fps : Nat → List Addr} {i : Nat} {fp : List Addr} : setF fps i fp i = fp := by unfold setF; rw [if_pos rfl]
theorem setF_ne {fps : Nat → List Addr} {i j : Nat} {fp : List Addr} (h : j ≠ i) : setF fps i fp j = fps j := by unfold setF; rw [if_neg h]
theorem env_set {env : Env} {i j : Nat} {o o' : Option O} (h : (env.set i o)[j]? = some o') : (j = i ∧ o' = o) ∨ (j ≠ i ∧ env[j]? = some o') := by
  by_cases z : j = i
  · subst z
    rw [List.getElem?_set] at h
    simp only [if_pos] at h
    split at h
    · exact .inl ⟨rfl, (Option.some.inj h).symm⟩
    · cases h
  · rw [List.getElem?_set_ne (Ne.symm z)] at h
    exact .inr ⟨z, h⟩
theorem env_set_none {env : Env} {i j : Nat} {o : Option O} (h : (env.set i o)[j]? = none) : env[j]? = none := by
  rw [List.getElem?_eq_none_iff] at h ⊢
  simpa using h

section
variable {K : PySem.W.Frag} {cl : String → Addr} {E : XK} {P B B' H H' : Hp} {σ : L2.St} {env : Env} {fps : Nat → List Addr}
theorem setF_mem {i j : Nat} {a : Addr} (h : a ∈ setF fps i [] j) : a ∈ fps j ∧ j ≠ i := by
  by_cases z : j = i
  · subst z; rw [setF_same] at h; simp at h
  · rw [setF_ne z] at h; exact ⟨h, z⟩
/-- a slot's own cell is frozen, the slot keeps the data -/
theorem Fm.freezeS (F : Fm K P B H σ env fps) {i : Nat} {a : Addr} {o : HO} {d : D} {v : V} (ei : ∃ o, env[i]? = some (some o)) (e : H a = some o) (hf : fps i = [a]) (hv : σ[i]? = some (some v)) (r : RD K (upd B a o) d v) (ho : ∀ ps, o ≠ .tbl ps := by intro _ h; cases h) :
    Fm K P (upd B a o) H σ (env.set i (some (.dat d))) (setF fps i []) ∧ Ext P B (upd B a o) := by
  obtain ⟨hb, hp⟩ := F.off i a (by rw [hf]; simp)
  have ha : ∀ {j b}, b ∈ fps j → j ≠ i → b ≠ a := fun {j b} hb' hj z => hj (F.dis j i b hb' (by rw [hf, z]; simp))
  refine ⟨⟨by simpa using F.len, fun b u q => ?_, F.prt, fun j o' q => ?_, fun j q => ?_, fun j k b h1 h2 => ?_, fun j b hb' => ?_, F.tab.mono (Sub.upd hb), F.nbT.upd ho, F.npT⟩, Ext.upd hb hp⟩
  · by_cases z : b = a
    · subst z; rw [upd_same] at q; cases q; exact e
    · rw [upd_ne z] at q; exact F.sub _ _ q
  · rcases env_set q with ⟨rfl, z⟩ | ⟨hj, q⟩
    · cases z
      rw [setF_same]
      exact ⟨v, hv, .dat r⟩
    · rw [setF_ne hj]
      obtain ⟨v, e1, r⟩ := F.slot j o' q
      exact ⟨v, e1, r.congr (Sub.upd hb) fun _ _ => rfl⟩
  · by_cases z : j = i
    · subst z; exact setF_same
    · rw [setF_ne z]
      rcases q with q | q
      · rcases env_set q with ⟨y, _⟩ | ⟨_, q⟩
        · exact absurd y z
        · exact F.emp j (.inl q)
      · exact F.emp j (.inr (env_set_none q))
  · exact F.dis j k b (setF_mem h1).1 (setF_mem h2).1
  · obtain ⟨h1, h2⟩ := setF_mem hb'
    obtain ⟨q1, q2⟩ := F.off j b h1
    exact ⟨by rw [upd_ne (ha h1 h2)]; exact q1, q2⟩
theorem frzR_ok (F : Fm K P B H σ env fps) {r : Rv} {v : V} {d : D} {env' : Env} (s : RvS K B σ r v) (e : frzR r env = .ok d env') : ∃ B' fps', Ext P B B' ∧ Fm K P B' H σ env' fps' ∧ RD K B' d v := by
  cases r with
  | d x => cases e; exact ⟨B, fps, Ext.refl, F, s⟩
  | own o => cases e
  | pl i =>
    unfold frzR at e
    split at e
    · rename_i eq
      cases eq
    · rename_i j eq
      cases eq
      split at e
      · rename_i ds he
        cases e
        obtain ⟨a, vs, rfl, hf, e1, r1⟩ := (F.pl he s).lst_inv
        obtain ⟨F', x⟩ := F.freezeS (d := .list ds) ⟨_, he⟩ e1 hf s (.lst (.inl (.inl upd_same)) (RDs.mono (Sub.upd (F.off i a (by rw [hf]; simp)).1) _ _ r1))
        exact ⟨_, _, x, F', .lst (.inl (.inl upd_same)) (RDs.mono x.1 _ _ r1)⟩
      · rename_i kv he
        cases e
        obtain ⟨a, vs, rfl, hf, e1, r1⟩ := (F.pl he s).dct_inv
        obtain ⟨F', x⟩ := F.freezeS (d := .dict []) ⟨_, he⟩ e1 hf s (.dct upd_same)
        exact ⟨_, _, x, F', .dct upd_same⟩
      · rename_i d' he
        cases e
        exact ⟨B, fps, Ext.refl, F, (F.pl he s).dat_inv.1⟩
      · cases e
    · cases e
theorem frzR_nex {r : Rv} {c : String} {env' : Env} : frzR r env ≠ .ex c env' := by
  unfold frzR
  intro h
  split at h
  · cases h
  · split at h <;> cases h
  · cases h
theorem frzAll_ok : ∀ {rs : List Rv} {vs : List V} {ds : List D} {env env' : Env} {B : Hp} {fps : Nat → List Addr}, Fm K P B H σ env fps → Paired (RvS K B σ) rs vs → frzAll rs env = .ok ds env' → ∃ B' fps', Ext P B B' ∧ Fm K P B' H σ env' fps' ∧ RDs K B' ds vs
  | _, _, _, _, _, B, fps, F, .nil, e => by cases e; exact ⟨B, fps, Ext.refl, F, .nil⟩
  | r :: rs, v :: vs, _, env, env', B, fps, F, .cons s t, e => by
    unfold frzAll bnd at e
    cases q : frzR r env with
    | ok d env1 =>
      rw [q] at e
      obtain ⟨B1, fps1, x1, F1, r1⟩ := frzR_ok F s q
      simp only [bind_ok] at e
      cases q2 : frzAll rs env1 with
      | ok ds2 env2 =>
        rw [q2] at e
        cases e
        obtain ⟨B2, fps2, x2, F2, r2⟩ := frzAll_ok F1 (L2.Paired.mapP t fun _ _ z => z.mono x1.1) q2
        exact ⟨B2, fps2, x1.trans x2, F2, .cons (RD.mono x2.1 _ _ r1) r2⟩
      | ex c env2 => rw [q2] at e; cases e
      | stuck => rw [q2] at e; cases e
    | ex c env1 => exact absurd q frzR_nex
    | stuck => rw [q] at e; cases e
theorem frzAll_len : ∀ {rs : List Rv} {ds : List D} {env env' : Env}, frzAll rs env = .ok ds env' → ds.length = rs.length
  | [], _, _, _, e => by cases e; rfl
  | r :: rs, _, env, env', e => by
    unfold frzAll bnd at e
    cases q : frzR r env with
    | ok d env1 =>
      rw [q] at e
      simp only [bind_ok] at e
      cases q2 : frzAll rs env1 with
      | ok ds2 env2 =>
        rw [q2] at e
        cases e
        rw [List.length_cons, List.length_cons, frzAll_len q2]
      | ex c env2 => rw [q2] at e; cases e
      | stuck => rw [q2] at e; cases e
    | ex c env1 => exact absurd q frzR_nex
    | stuck => rw [q] at e; cases e
theorem frzAll_nex : ∀ {rs : List Rv} {env env' : Env} {c : String}, frzAll rs env ≠ .ex c env'
  | [], _, _, _, e => by cases e
  | r :: rs, env, env', c, e => by
    unfold frzAll bnd at e
    cases q : frzR r env with
    | ok d env1 =>
      rw [q] at e
      simp only [bind_ok] at e
      cases q2 : frzAll rs env1 with
      | ok ds2 env2 => rw [q2] at e; cases e
      | ex c env2 => exact frzAll_nex q2
      | stuck => rw [q2] at e; cases e
    | ex c env1 => exact absurd q frzR_nex
    | stuck => rw [q] at e; cases e
end

/-- how many arguments there are -/
def Len (m : M (List Rv)) (n : Nat) : Prop := ∀ env rs env', m env = .ok rs env' → rs.length = n
theorem len_nil : Len mNil 0 := fun _ _ _ e => by cases e; rfl
theorem len_cons {m : M Rv} {ms : M (List Rv)} {n : Nat} (h : Len ms n) : Len (mCons m ms) (n + 1) := fun env rs env' e => by
  unfold mCons bnd at e
  cases q : vm m env with
  | ok r env1 =>
    rw [q] at e
    simp only [bind_ok] at e
    cases q2 : ms env1 with
    | ok rs2 env2 =>
      rw [q2] at e
      cases e
      rw [List.length_cons, h _ _ _ q2]
    | ex c env2 => rw [q2] at e; cases e
    | stuck => rw [q2] at e; cases e
  | ex c env1 => rw [q] at e; cases e
  | stuck => rw [q] at e; cases e

section
variable {X : Cx} {cl : String → Addr} {E : XK} {a b e : Expr} {ma mb m : M Rv} {ms : M (List Rv)} {t u : M Bool} {pos : Pos} {rest es : List Expr} {n : Nat}
/-- arguments that are frozen, then the rest -/
def mFr (ms : M (List Rv)) : M (List D) := bnd ms frzAll
def mTup (ms : M (List Rv)) : M Rv := bnd (mFr ms) fun ds => ret (.d (.tuple ds))
def mLst (ms : M (List Rv)) : M Rv := bnd (mFr ms) fun ds => ret (.own (.lst ds))
theorem post_fr {P B : Hp} {σ : L2.St} {env : Env} {k : List D → M Rv} {Q : VK} (hl : Len ms n) (h : PostE X.K cl E P B σ (bnd (mFr ms) k env) Q) :
    PostX X.K cl E P B σ (ms env) fun rs H1 B1 _ env1 => ∀ vs, Paired (RvS X.K B1 σ) rs vs → ∃ ds B2 fps2 env2, ds.length = n ∧ Ext P B1 B2 ∧ Fm X.K P B2 H1 σ env2 fps2 ∧ RDs X.K B2 ds vs ∧ PostE X.K cl E P B2 σ (k ds env2) Q := by
  unfold mFr bnd at h
  cases q : ms env with
  | ok rs env1 =>
    rw [q] at h
    simp only [bind_ok] at h
    intro H1 B1 fps1 x1 F1 vs hv
    cases q2 : frzAll rs env1 with
    | ok ds env2 =>
      rw [q2] at h
      obtain ⟨B2, fps2, x2, F2, r2⟩ := frzAll_ok F1 hv q2
      exact ⟨ds, B2, fps2, env2, by rw [frzAll_len q2]; exact hl _ _ _ q, x2, F2, r2, PostE.ext (x1.trans x2) h⟩
    | ex c env2 => exact absurd q2 frzAll_nex
    | stuck => rw [q2] at h; exact h.elim
  | ex c env1 => rw [q] at h; exact h
  | stuck => rw [q] at h; exact h.elim
theorem de_tup {x1} (ha : DA X cl E es ms) (hl : Len ms n) (hn : n ≤ sizeLine) : DE X cl E (.Tuple es x1 pos) (mTup ms) := by
  refine ⟨fun pins s σ H Q I ⟨P, B, env, fps, F, h⟩ => (pe_tup ha).run pins s σ H Q I ?_⟩
  refine ⟨P, B, env, fps, F, (post_fr hl h).mono fun rs H1 B1 fps1 env1 x F1 q vs hv => ?_⟩
  obtain ⟨ds, B2, fps2, env2, e1, x2, F2, r2, h2⟩ := q vs hv
  refine ⟨by rw [RDs.length _ _ r2, e1]; exact hn, fun p hp => ?_⟩
  obtain ⟨h1, h2', h3⟩ := F2.newB hp
  have x3 : Ext P B2 (upd B2 p (.tup vs)) := Ext.upd h1 h2'
  exact h2 _ _ _ fps2 x3 (F2.allocB hp) (.tup (.inl (.inl upd_same)) (RDs.mono x3.1 _ _ r2))
theorem de_lst (ha : DA X cl E es ms) (hl : Len ms n) (hn : n ≤ sizeLine) : DE X cl E (.List es pos) (mLst ms) := by
  refine ⟨fun pins s σ H Q I ⟨P, B, env, fps, F, h⟩ => (pe_lst ha).run pins s σ H Q I ?_⟩
  refine ⟨P, B, env, fps, F, (post_fr hl h).mono fun rs H1 B1 fps1 env1 x F1 q vs hv => ?_⟩
  obtain ⟨ds, B2, fps2, env2, e1, x2, F2, r2, h2⟩ := q vs hv
  refine ⟨by rw [RDs.length _ _ r2, e1]; exact hn, fun p hp => ?_⟩
  obtain ⟨h1, h2', h3⟩ := F2.newB hp
  exact h2 _ _ _ fps2 Ext.refl (F2.alloc hp) ⟨_, .lst upd_same r2, fun a ha => by simp at ha; subst ha; exact ⟨h1, h2', h3⟩⟩

/-! ### rules by readings of the layer -/
/-- the layer's reading of an operator serves g -/
def RuD (K : PySem.W.Frag) (r : R2) (g : D → D → Option Out) : Prop :=
  ∀ (H B : Hp) (x y : D) (v w : V) (o : Out) (Q : VK), Sub B H → Rd1 K B H x v → Rd1 K B H y w → g x y = some o → (∀ v' H', OutR K B H o v' H' → Q v' H') → r v w H Q
theorem OpD.ru {f : Value → Value → Sem Value} {r : R2} {g : D → D → Option Out} (ho : OpR X f r) (h : RuD X.K r g) : OpD X f g :=
  OpD.of ho fun H B x y v w o hs r1 r2 e => h H B x y v w o _ hs r1 r2 e fun _ _ q => q
theorem OpD.or {f : Value → Value → Sem Value} {g g' : D → D → Option Out} (h : OpD X f g) (h' : OpD X f g') : OpD X f (fun x y => (g x y).or (g' x y)) := by
  intro pins s σ H B x y v w vv ww o I hs r1 r2 q1 q2 e
  have e : (g x y).or (g' x y) = some o := e
  cases q : g x y with
  | some o' =>
    rw [q] at e
    cases e
    exact h pins s σ H B x y v w vv ww _ I hs r1 r2 q1 q2 q
  | none =>
    rw [q] at e
    exact h' pins s σ H B x y v w vv ww _ I hs r1 r2 q1 q2 e
/-- a subscript, a slice .. : operands, then a reading -/
theorem tOp_of {r : R2} {g : D → D → Option Out} (hr : RuD X.K r g) {σ : L2.St} {H : Hp} {Q : VK} (h : tM X.K cl E (mBin g ma mb) σ H Q) : tOp r (tM X.K cl E ma) (tM X.K cl E mb) σ H Q := by
  obtain ⟨P, B, env, fps, F, h⟩ := h
  have h1 := post_vm h
  refine ⟨P, B, env, fps, F, ?_⟩
  cases q : ma env with
  | ok r1 env1 =>
    rw [q] at h1
    intro v H1 B1 fps1 x F1 rr
    obtain ⟨B2, env2, fps2, r2, x2, F2, w2, h2⟩ := h1 v H1 B1 fps1 x F1 rr
    have h3 := post_vm h2
    refine ⟨P, B2, env2, fps2, F2, ?_⟩
    cases q3 : mb env2 with
    | ok r3 env3 =>
      rw [q3] at h3
      intro w H3 B3 fps3 x3 F3 rr3
      obtain ⟨B4, env4, fps4, r4, x4, F4, w4, h4⟩ := h3 w H3 B3 fps3 x3 F3 rr3
      split at h4
      · rename_i dx dy e1 e2
        split at h4
        · rename_i o eo
          exact hr H3 B4 dx dy v w o Q F4.sub (F4.res (w2.mono x4.1) e1) (F4.res w4 e2) eo fun v' H' ho => ho.post F4 h4
        · exact h4.elim
      · exact h4.elim
    | ex c env3 => rw [q3] at h3; exact h3
    | stuck => rw [q3] at h3; exact h3.elim
  | ex c env1 => rw [q] at h1; exact h1
  | stuck => rw [q] at h1; exact h1.elim
theorem de_ix {r : R2} {g : D → D → Option Out} (hr : IxR X r) (hg : RuD X.K r g) (ha : DE X cl E a ma) (hb : DE X cl E b mb) (hs : PlainIx b) : DE X cl E (.Subscript a b pos) (mBin g ma mb) :=
  ⟨fun pins s σ H Q I h => (pe_ix hr ha hb hs).run pins s σ H Q I (tOp_of hg h)⟩
/-- a[i] of a list or a tuple, s[i] of a text -/
def gIx : D → D → Option Out
  | .list ds, .int i => (atI ds i).map .val
  | .tuple ds, .int i => (atI ds i).map .val
  | .str z, .int i => if z.length ≤ sizeLine then (atI z.cps.toList i).map fun c => .val (.str ⟨#[c]⟩) else none
  | _, _ => none
theorem RDs.atI {K : PySem.W.Frag} {B : Hp} {ds : List D} {vs : List V} {i : Int} {d : D} (r : RDs K B ds vs) (e : L2.atI ds i = some d) : ∃ v, L2.atI vs i = some v ∧ RD K B d v := by
  unfold L2.atI at e ⊢
  rw [RDs.length _ _ r]
  cases q : ixN ds.length i with
  | none => rw [q] at e; cases e
  | some j =>
    rw [q] at e
    exact r.get e
theorem Rd1.int {K : PySem.W.Frag} {B H : Hp} {i : Int} {v : V} (h : Rd1 K B H (.int i) v) : v = .int i := by
  rcases h with h | ⟨_, _, _, e, _⟩
  · cases h; rfl
  · cases e
theorem Rd1.str {K : PySem.W.Frag} {B H : Hp} {x : Str} {v : V} (h : Rd1 K B H (.str x) v) : v = .str x := by
  rcases h with h | ⟨_, _, _, e, _⟩
  · cases h; rfl
  · cases e
theorem Rd1.bool {K : PySem.W.Frag} {B H : Hp} {x : Bool} {v : V} (h : Rd1 K B H (.bool x) v) : v = .bl x := by
  rcases h with h | ⟨_, _, _, e, _⟩
  · cases h; rfl
  · cases e
theorem Rd1.none {K : PySem.W.Frag} {B H : Hp} {v : V} (h : Rd1 K B H .none v) : v = .non := by
  rcases h with h | ⟨_, _, _, e, _⟩
  · cases h; rfl
  · cases e
theorem Rd1.list {K : PySem.W.Frag} {B H : Hp} {ds : List D} {v : V} (hs : Sub B H) (h : Rd1 K B H (.list ds) v) : ∃ a vs, v = .ref a ∧ SqL K H a vs ∧ RDs K B ds vs := by
  rcases h with h | ⟨_, a, vs, e, rfl, e1, r⟩
  · cases h with
    | lst h1 r => exact ⟨_, _, rfl, hs.sqL h1, r⟩
  · cases e
    exact ⟨a, vs, rfl, .inl (.inl e1), r⟩
theorem Rd1.tuple {K : PySem.W.Frag} {B H : Hp} {ds : List D} {v : V} (hs : Sub B H) (h : Rd1 K B H (.tuple ds) v) : ∃ a vs, v = .ref a ∧ SqT K H a vs ∧ RDs K B ds vs := by
  rcases h with h | ⟨_, a, vs, e, rfl, e1, r⟩
  · cases h with
    | tup h1 r => exact ⟨_, _, rfl, hs.sqT h1, r⟩
  · cases e
theorem ru_ix {K : PySem.W.Frag} : RuD K (rIx K) gIx := by
  intro H B x y v w o Q hs r1 r2 e hq
  unfold gIx at e
  split at e
  · cases r2.int
    obtain ⟨a, vs, rfl, h1, r⟩ := r1.list hs
    obtain ⟨d, e1, rfl⟩ := Option.map_eq_some_iff.mp e
    obtain ⟨u, e2, rd⟩ := r.atI e1
    exact .inl ⟨a, vs, _, u, rfl, rfl, h1, e2, hq _ _ ⟨rfl, rd⟩⟩
  · cases r2.int
    obtain ⟨a, vs, rfl, h1, r⟩ := r1.tuple hs
    obtain ⟨d, e1, rfl⟩ := Option.map_eq_some_iff.mp e
    obtain ⟨u, e2, rd⟩ := r.atI e1
    exact .inr (.inl ⟨a, vs, _, u, rfl, rfl, h1, e2, hq _ _ ⟨rfl, rd⟩⟩)
  · cases r2.int
    cases r1.str
    split at e
    · rename_i hz
      obtain ⟨c, e1, rfl⟩ := Option.map_eq_some_iff.mp e
      exact .inr (.inr ⟨_, _, c, rfl, rfl, hz, e1, hq _ _ ⟨rfl, .str _⟩⟩)
    · cases e
  · cases e
theorem de_item (ha : DE X cl E a ma) (hb : DE X cl E b mb) (hs : PlainIx b) : DE X cl E (.Subscript a b pos) (mBin gIx ma mb) := de_ix ix_seq ru_ix ha hb hs
end
end Mi

set_option Elab.async false
set_option linter.all false
set_option maxRecDepth 100000
namespace Mi
open PySem PySem.Spec L2

/-! ### what may be compared -/
mutual
/-- no dict, no odd sign, at most n deep -/
def okd : D → Nat → Bool
  | .none, _ => true | .bool _, _ => true | .int _, _ => true
  | .str x, _ => PyData.strOk x
  | .list ds, n => match n with
    | 0 => false
    | n + 1 => okds ds n
  | .tuple ds, n => match n with
    | 0 => false
    | n + 1 => okds ds n
  | .dict _, _ => false
def okds : List D → Nat → Bool
  | [], _ => true
  | d :: ds, n => okd d n && okds ds n
end
mutual
theorem okd_noD : ∀ (d : D) (n : Nat), okd d n = true → noD d = true
  | .none, _, _ => by simp [noD]
  | .bool _, _, _ => by simp [noD]
  | .int _, _, _ => by simp [noD]
  | .str _, _, _ => by simp [noD]
  | .list ds, 0, h => by simp [okd] at h
  | .list ds, n + 1, h => by simp only [noD]; exact okds_noD ds n (by simpa [okd] using h)
  | .tuple ds, 0, h => by simp [okd] at h
  | .tuple ds, n + 1, h => by simp only [noD]; exact okds_noD ds n (by simpa [okd] using h)
  | .dict _, _, h => by simp [okd] at h
theorem okds_noD : ∀ (ds : List D) (n : Nat), okds ds n = true → noDs ds = true
  | [], _, _ => by simp [noDs]
  | d :: ds, n, h => by
    simp only [okds, Bool.and_eq_true] at h
    simp only [noDs, Bool.and_eq_true]
    exact ⟨okd_noD d n h.1, okds_noD ds n h.2⟩
end
mutual
theorem okd_can : ∀ (d : D) (n : Nat), okd d n = true → d.canLay0 = true
  | .none, _, _ => by simp [PyData.canLay0]
  | .bool _, _, _ => by simp [PyData.canLay0]
  | .int _, _, _ => by simp [PyData.canLay0]
  | .str _, _, h => by simpa [PyData.canLay0, okd] using h
  | .list ds, 0, h => by simp [okd] at h
  | .list ds, n + 1, h => by simp only [PyData.canLay0]; exact okds_can ds n (by simpa [okd] using h)
  | .tuple ds, 0, h => by simp [okd] at h
  | .tuple ds, n + 1, h => by simp only [PyData.canLay0]; exact okds_can ds n (by simpa [okd] using h)
  | .dict _, _, h => by simp [okd] at h
theorem okds_can : ∀ (ds : List D) (n : Nat), okds ds n = true → PyData.canLayAll0 ds = true
  | [], _, _ => by simp [PyData.canLayAll0]
  | d :: ds, n, h => by
    simp only [okds, Bool.and_eq_true] at h
    simp only [PyData.canLayAll0, Bool.and_eq_true]
    exact ⟨okd_can d n h.1, okds_can ds n h.2⟩
end
mutual
theorem okd_dep : ∀ (d : D) (n : Nat), okd d n = true → d.depth ≤ n
  | .none, _, _ => by simp [PyData.depth]
  | .bool _, _, _ => by simp [PyData.depth]
  | .int _, _, _ => by simp [PyData.depth]
  | .str _, _, h => by simp [PyData.depth]
  | .list ds, 0, h => by simp [okd] at h
  | .list ds, n + 1, h => by simp only [PyData.depth]; exact Nat.succ_le_succ (okds_dep ds n (by simpa [okd] using h))
  | .tuple ds, 0, h => by simp [okd] at h
  | .tuple ds, n + 1, h => by simp only [PyData.depth]; exact Nat.succ_le_succ (okds_dep ds n (by simpa [okd] using h))
  | .dict _, _, h => by simp [okd] at h
theorem okds_dep : ∀ (ds : List D) (n : Nat), okds ds n = true → PyData.depthAll ds ≤ n
  | [], _, _ => by simp [PyData.depthAll]
  | d :: ds, n, h => by
    simp only [okds, Bool.and_eq_true] at h
    simp only [PyData.depthAll]
    exact Nat.max_le.mpr ⟨okd_dep d n h.1, okds_dep ds n h.2⟩
end
theorem okd_shaped {d : D} (h : okd d 60 = true) : SeqAt.shaped d = true := by
  unfold SeqAt.shaped
  rw [Bool.and_eq_true]
  exact ⟨okd_can d 60 h, decide_eq_true (Nat.le_trans (okd_dep d 60 h) (by decide))⟩
theorem Rd1.dp {K : PySem.W.Frag} {B H : Hp} {x : D} {v : V} (hs : Sub B H) (h : Rd1 K B H x v) (n : noD x = true) : Dp K H v x := RD.dp x v n (h.rd hs)

def vB (b : Bool) : Option Out := some (.val (.bool b))
def vI (i : Int) : Option Out := some (.val (.int i))
section
variable {X : Cx}

/-! ### ints -/
def gI (f : Int → Int → Option Out) : D → D → Option Out
  | .int i, .int j => f i j
  | _, _ => none
theorem ru_I {K : PySem.W.Frag} {C : Int → Int → Prop} {g : Int → Int → V} {f : Int → Int → Option Out}
    (h : ∀ i j o, f i j = some o → C i j ∧ ∃ d, o = .val d ∧ ∀ B, RD K B d (g i j)) : RuD K (rI C g) (gI f) := by
  intro H B x y v w o Q hs r1 r2 e hq
  unfold gI at e
  split at e
  · cases r1.int
    cases r2.int
    obtain ⟨c, d, rfl, r⟩ := h _ _ _ e
    exact ⟨_, _, rfl, rfl, c, hq _ _ ⟨rfl, r B⟩⟩
  · cases e
theorem ru_I0 {K : PySem.W.Frag} {g : Int → Int → V} {f : Int → Int → Option Out}
    (h : ∀ i j o, f i j = some o → ∃ d, o = .val d ∧ ∀ B, RD K B d (g i j)) : RuD K (rI0 g) (gI f) := by
  intro H B x y v w o Q hs r1 r2 e hq
  unfold gI at e
  split at e
  · cases r1.int
    cases r2.int
    obtain ⟨d, rfl, r⟩ := h _ _ _ e
    exact ⟨_, _, rfl, rfl, hq _ _ ⟨rfl, r B⟩⟩
  · cases e
theorem vI_inv {K : PySem.W.Frag} {i : Int} {o : Out} (e : vI i = some o) : ∃ d, o = .val d ∧ ∀ B, RD K B d (.int i) := ⟨_, (Option.some.inj e).symm, fun _ => .int i⟩
theorem vB_inv {K : PySem.W.Frag} {i : Bool} {o : Out} (e : vB i = some o) : ∃ d, o = .val d ∧ ∀ B, RD K B d (.bl i) := ⟨_, (Option.some.inj e).symm, fun _ => .bl i⟩
def gAddI : D → D → Option Out := gI fun i j => vI (i + j)
theorem od_addI : OpD X (binaryOp .Add) gAddI := OpD.ru op_add (ru_I0 fun _ _ _ e => vI_inv e)
def gSub : D → D → Option Out := gI fun i j => vI (i - j)
theorem od_sub : OpD X (binaryOp .Sub) gSub := OpD.ru op_sub (ru_I0 fun _ _ _ e => vI_inv e)
def gMulI : D → D → Option Out := gI fun i j => if -(2 ^ 64) < i ∧ i < 2 ^ 64 then vI (i * j) else none
theorem od_mulI : OpD X (binaryOp .Mult) gMulI := OpD.ru op_mul (ru_I fun i j o e => by
  split at e
  · rename_i h
    exact ⟨.inl h, vI_inv e⟩
  · cases e)
def gFdiv : D → D → Option Out := gI fun i j => if 0 < j ∧ j < 1073741824 then vI (i / j) else none
theorem od_fdiv : OpD X (binaryOp .FloorDiv) gFdiv := OpD.ru op_fdiv (ru_I fun i j o e => by
  split at e
  · rename_i h
    exact ⟨h, vI_inv e⟩
  · cases e)
def gMod : D → D → Option Out := gI fun i j => if 0 < j then vI (i % j) else none
theorem od_mod : OpD X (binaryOp .Mod) gMod := OpD.ru op_mod (ru_I fun i j o e => by
  split at e
  · rename_i h
    exact ⟨h, vI_inv e⟩
  · cases e)
def gPow : D → D → Option Out := gI fun i j => if 0 ≤ j ∧ j ≤ 1000000 ∧ i.natAbs < 2 ^ 64 then vI (i ^ j.toNat) else none
theorem od_pow : OpD X (binaryOp .Pow) gPow := OpD.ru op_pow (ru_I fun i j o e => by
  split at e
  · rename_i h
    exact ⟨h, vI_inv e⟩
  · cases e)

/-! ### texts, tuples, lists: + -/
def gAddS : D → D → Option Out
  | .str x, .str y => if x.length + y.length ≤ sizeLine then some (.val (.str (x ++ y))) else none
  | _, _ => none
theorem od_addS : OpD X (binaryOp .Add) gAddS := OpD.ru op_add_str (by
  intro H B x y v w o Q hs r1 r2 e hq
  unfold gAddS at e
  split at e
  · split at e
    · rename_i hz
      cases e
      exact ⟨_, _, r1.str, r2.str, hz, hq _ _ ⟨rfl, .str _⟩⟩
    · cases e
  · cases e)
def gAddT : D → D → Option Out
  | .tuple xs, .tuple ys => if xs.length + ys.length ≤ sizeLine then some (.tup (xs ++ ys)) else none
  | _, _ => none
theorem od_addT : OpD X (binaryOp .Add) gAddT := OpD.ru op_catA (by
  intro H B x y v w o Q hs r1 r2 e hq
  unfold gAddT at e
  split at e
  · rename_i xs ys
    split at e
    · rename_i hz
      cases e
      have q1 := r1
      have q2 := r2
      obtain ⟨a, vs, rfl, h1, s1⟩ := r1.tuple hs
      obtain ⟨b, ws, rfl, h2, s2⟩ := r2.tuple hs
      have l1 := RDs.length _ _ s1
      have l2 := RDs.length _ _ s2
      have d1 : RD X.K B (.tuple xs) (.ref a) := q1.elim id fun ⟨_, _, _, z, _⟩ => nomatch z
      have d2 : RD X.K B (.tuple ys) (.ref b) := q2.elim id fun ⟨_, _, _, z, _⟩ => nomatch z
      refine ⟨a, b, vs, ws, rfl, rfl, h1, h2, by rw [l1, l2]; exact hz, fun z => hq _ _ (.inr ⟨rfl, ?_⟩), fun _ z => hq _ _ (.inr ⟨rfl, ?_⟩), fun _ _ p hp => hq _ _ (.inl ⟨p, _, rfl, hp, rfl, s1.append s2⟩)⟩
      · subst z
        cases s1
        exact d2
      · subst z
        cases s2
        rw [List.append_nil]
        exact d1
    · cases e
  · cases e)
/-- list + list, wherever they stand -/
def rCatL (K : PySem.W.Frag) : R2 := fun x y H Q => ∃ l b xs zs, x = .ref l ∧ y = .ref b ∧ SqL K H l xs ∧ SqL K H b zs ∧ xs.length + zs.length ≤ sizeLine ∧ ∀ p, H p = none → Q (.ref p) (upd H p (.lst (xs ++ zs)))
theorem op_catL : OpR X (binaryOp .Add) (rCatL X.K) := by
  intro pins s σ H x y v u Q I rx ry h
  obtain ⟨l, b, xs, zs, rfl, rfl, hH, hB, hz, q⟩ := h
  cases rx
  cases ry
  obtain ⟨its, r, pl, z⟩ := I.list hH
  obtain ⟨its2, r2, pl2, z2⟩ := I.list hB
  have hl := r.length
  have hl2 := r2.length
  obtain ⟨⟨cls, dd, data, sl⟩, ho, hc, n, hd⟩ := pl.isList
  obtain ⟨⟨cls2, dd2, data2, sl2⟩, ho2, hc2, n2, hd2⟩ := pl2.isList
  simp only at hc hd hc2 hd2
  subst hc hd hc2 hd2
  have e : its.toArray ++ its2.toArray = (its ++ its2).toArray := by simp
  refine concat_meets ⟨_, ho, rfl⟩ ⟨_, ho2, rfl⟩ noFill_list_add seq_list_add PySem.F.slot_list_add PySem.F.entry_list_add (PySem.F.args_list_add_2 _ _) (PyProof.Rows.list_addW l b its.toArray its2.toArray n n2 dd dd2 sl sl2 (by simp; omega)) ⟨ho, ho2, ?_⟩
  rw [e]
  exact ⟨.ref _, _, I.lnew (t' := s.toks) (r.append r2) (by rw [List.length_append]; omega), rfl, q _ I.fresh⟩
def gAddL : D → D → Option Out
  | .list xs, .list ys => if xs.length + ys.length ≤ sizeLine then some (.lst (xs ++ ys)) else none
  | _, _ => none
theorem od_addL : OpD X (binaryOp .Add) gAddL := OpD.ru op_catL (by
  intro H B x y v w o Q hs r1 r2 e hq
  unfold gAddL at e
  split at e
  · split at e
    · rename_i hz
      cases e
      obtain ⟨a, vs, rfl, h1, s1⟩ := r1.list hs
      obtain ⟨b, ws, rfl, h2, s2⟩ := r2.list hs
      exact ⟨a, b, vs, ws, rfl, rfl, h1, h2, by rw [RDs.length _ _ s1, RDs.length _ _ s2]; exact hz, fun p hp => hq _ _ ⟨p, _, rfl, hp, rfl, s1.append s2⟩⟩
    · cases e
  · cases e)
/-- + of whatever -/
def gAdd : D → D → Option Out
  | .int i, .int j => vI (i + j)
  | .str x, .str y => if x.length + y.length ≤ sizeLine then some (.val (.str (x ++ y))) else none
  | .tuple xs, .tuple ys => if xs.length + ys.length ≤ sizeLine then some (.tup (xs ++ ys)) else none
  | .list xs, .list ys => if xs.length + ys.length ≤ sizeLine then some (.lst (xs ++ ys)) else none
  | _, _ => none
theorem OpD.imp {f : Value → Value → Sem Value} {g g' : D → D → Option Out} (h : OpD X f g) (k : ∀ x y o, g' x y = some o → g x y = some o) : OpD X f g' :=
  fun pins s σ H B x y v w vv ww o I hs r1 r2 q1 q2 e => h pins s σ H B x y v w vv ww o I hs r1 r2 q1 q2 (k _ _ _ e)
theorem od_add : OpD X (binaryOp .Add) gAdd := (od_addI.or (od_addS.or (od_addT.or od_addL))).imp fun x y o e => by
  unfold gAdd at e
  split at e
  · exact e
  · simp only [gAddI, gI, gAddS, Option.none_or]; rw [e]; rfl
  · simp only [gAddI, gI, gAddS, gAddT, Option.none_or]; rw [e]; rfl
  · simp only [gAddI, gI, gAddS, gAddT, gAddL, Option.none_or]; rw [e]
  · cases e
def gMulL : D → D → Option Out
  | .list xs, .int k => if 0 ≤ k ∧ k < 2 ^ 63 ∧ xs.length * k.toNat ≤ sizeLine then some (.lst (List.replicate k.toNat xs).flatten) else none
  | _, _ => none

/-! ### ==, !=, in, not in -/
def gEq (x y : D) : Option Out := if okd x 60 = true ∧ okd y 60 = true then vB (PyData.eqv x y) else none
def gNe (x y : D) : Option Out := if okd x 60 = true ∧ okd y 60 = true then vB (!PyData.eqv x y) else none
theorem od_eq (hu : X.A.units + 64 < cLine) : OpD X (compareOp .Eq) gEq := OpD.ru (op_eqD hu) (by
  intro H B x y v w o Q hs r1 r2 e hq
  unfold gEq at e
  split at e
  · rename_i h
    cases e
    exact ⟨x, y, r1.dp hs (okd_noD _ _ h.1), r2.dp hs (okd_noD _ _ h.2), okd_shaped h.1, okd_shaped h.2, hq _ _ ⟨rfl, .bl _⟩⟩
  · cases e)
theorem od_ne (hu : X.A.units + 64 < cLine) : OpD X (compareOp .NotEq) gNe := OpD.ru (op_neD hu) (by
  intro H B x y v w o Q hs r1 r2 e hq
  unfold gNe at e
  split at e
  · rename_i h
    cases e
    exact ⟨x, y, r1.dp hs (okd_noD _ _ h.1), r2.dp hs (okd_noD _ _ h.2), okd_shaped h.1, okd_shaped h.2, hq _ _ ⟨rfl, .bl _⟩⟩
  · cases e)
def rInD2 (K : PySem.W.Frag) (neg : Bool) : R2 := fun x y H Q => ∃ d ds e, Dp K H x d ∧ Dp K H y e ∧ (e = .list ds ∨ e = .tuple ds) ∧ SeqAt.shaped d = true ∧ SeqAt.shaped e = true ∧ Q (.bl (xor neg (ds.any fun z => PyData.eqv z d))) H
theorem canAll_of {ds : List D} {e : D} (he : e = .list ds ∨ e = .tuple ds) (h : SeqAt.shaped e = true) : PyData.canLayAll0 ds = true := by
  have q := SeqAt.canLay_of_shaped h
  rcases he with rfl | rfl <;> simpa only [PyData.canLay0] using q
theorem room_in {A : Around} {n m : Nat} (h : m ≤ 64) (hu : A.units + 65 < cLine) : A.units + 1 + min n m < cLine := by
  have := Nat.min_le_right n m
  omega
theorem op_inD2 (hu : X.A.units + 65 < cLine) : OpR X (compareOp .In) (rInD2 X.K false) := by
  intro pins s σ H x y v u Q I rx ry h
  obtain ⟨d, ds, e, hd, he, hh, sd, se, q⟩ := h
  obtain ⟨as, r1⟩ := Dp.reads I d x v hd rx
  obtain ⟨bs, r2⟩ := Dp.reads I e y u he ry
  rw [Bool.false_xor] at q
  rcases hh with rfl | rfl
  · exact SeqAt.in_list_reads r2 r1 (canAll_of (.inl rfl) se) (SeqAt.canLay_of_shaped sd) (room_in (SeqAt.depth_of_shaped sd) hu) ⟨.bl _, H, I, rfl, q⟩
  · exact SeqAt.in_tuple_reads r2 r1 (canAll_of (.inr rfl) se) (SeqAt.canLay_of_shaped sd) (room_in (SeqAt.depth_of_shaped sd) hu) ⟨.bl _, H, I, rfl, q⟩
theorem op_notInD2 (hu : X.A.units + 65 < cLine) : OpR X (compareOp .NotIn) (rInD2 X.K true) := by
  intro pins s σ H x y v u Q I rx ry h
  obtain ⟨d, ds, e, hd, he, hh, sd, se, q⟩ := h
  obtain ⟨as, r1⟩ := Dp.reads I d x v hd rx
  obtain ⟨bs, r2⟩ := Dp.reads I e y u he ry
  rw [Bool.true_xor] at q
  rcases hh with rfl | rfl
  · exact SeqAt.notIn_list_reads r2 r1 (canAll_of (.inl rfl) se) (SeqAt.canLay_of_shaped sd) (room_in (SeqAt.depth_of_shaped sd) hu) ⟨.bl _, H, I, rfl, q⟩
  · exact SeqAt.notIn_tuple_reads r2 r1 (canAll_of (.inr rfl) se) (SeqAt.canLay_of_shaped sd) (room_in (SeqAt.depth_of_shaped sd) hu) ⟨.bl _, H, I, rfl, q⟩
def hasD (x : D) (ds : List D) : Bool := ds.any fun z => PyData.eqv z x
def gInX (neg : Bool) (x y : D) : Option Out := if okd x 60 = true ∧ okd y 60 = true then
    match y with
    | .list ds => vB (xor neg (hasD x ds))
    | .tuple ds => vB (xor neg (hasD x ds))
    | _ => none
  else none
theorem ru_in {K : PySem.W.Frag} {neg : Bool} : RuD K (rInD2 K neg) (gInX neg) := by
  intro H B x y v w o Q hs r1 r2 e hq
  unfold gInX at e
  split at e
  · rename_i h
    split at e
    · cases e
      exact ⟨x, _, _, r1.dp hs (okd_noD _ _ h.1), r2.dp hs (okd_noD _ _ h.2), .inl rfl, okd_shaped h.1, okd_shaped h.2, hq _ _ ⟨rfl, .bl _⟩⟩
    · cases e
      exact ⟨x, _, _, r1.dp hs (okd_noD _ _ h.1), r2.dp hs (okd_noD _ _ h.2), .inr rfl, okd_shaped h.1, okd_shaped h.2, hq _ _ ⟨rfl, .bl _⟩⟩
    · cases e
  · cases e
def gIn := gInX false
def gNotIn := gInX true
theorem od_in (hu : X.A.units + 65 < cLine) : OpD X (compareOp .In) gIn := OpD.ru (op_inD2 hu) ru_in
theorem od_notIn (hu : X.A.units + 65 < cLine) : OpD X (compareOp .NotIn) gNotIn := OpD.ru (op_notInD2 hu) ru_in
/-- one sign in a text -/
def gInS (neg : Bool) : D → D → Option Out
  | .str c, .str z => if c.cps.size = 1 then vB (xor neg (decide (c.cps.toList.headD 0 ∈ z.cps.toList))) else none
  | _, _ => none
theorem sign_of {c : Str} (h : c.cps.size = 1) : c = ⟨#[c.cps.toList.headD 0]⟩ := by
  obtain ⟨⟨l⟩⟩ := c
  match l, h with
  | [k], _ => rfl
theorem od_inS : OpD X (compareOp .In) (gInS false) := OpD.ru op_in_sign (by
  intro H B x y v w o Q hs r1 r2 e hq
  unfold gInS at e
  split at e
  · split at e
    · rename_i h
      cases e
      rw [Bool.false_xor] at hq
      exact ⟨_, _, by rw [r1.str]; exact congrArg V.str (sign_of h), r2.str, hq _ _ ⟨rfl, .bl _⟩⟩
    · cases e
  · cases e)
theorem od_notInS : OpD X (compareOp .NotIn) (gInS true) := OpD.ru op_notIn_sign (by
  intro H B x y v w o Q hs r1 r2 e hq
  unfold gInS at e
  split at e
  · split at e
    · rename_i h
      cases e
      rw [Bool.true_xor] at hq
      exact ⟨_, _, by rw [r1.str]; exact congrArg V.str (sign_of h), r2.str, hq _ _ ⟨rfl, .bl _⟩⟩
    · cases e
  · cases e)

/-! ### order -/
def gLt : D → D → Option Out
  | .int i, .int j => vB (decide (i < j))
  | .str x, .str y => vB (decide (x.cps.toList < y.cps.toList))
  | .tuple xs, .tuple ys => if okd (.tuple xs) 60 = true ∧ okd (.tuple ys) 60 = true ∧ PySem.W.alike (.tuple xs) (.tuple ys) = true then vB (PySem.W.dataLt (.tuple xs) (.tuple ys)) else none
  | _, _ => none
theorem od_ltT (hu : X.A.units + 64 < cLine) : OpD X (compareOp .Lt) fun x y => match x, y with
    | .tuple xs, .tuple ys => if okd (.tuple xs) 60 = true ∧ okd (.tuple ys) 60 = true ∧ PySem.W.alike (.tuple xs) (.tuple ys) = true then vB (PySem.W.dataLt (.tuple xs) (.tuple ys)) else none
    | _, _ => none := by
  intro pins s σ H B x y v w vv ww o I hs r1 r2 q1 q2 e
  dsimp only at e
  split at e
  · split at e
    · rename_i xs ys h
      cases e
      obtain ⟨as, s1⟩ := Dp.reads I _ v vv (r1.dp hs (okd_noD _ _ h.1)) q1
      obtain ⟨bs, s2⟩ := Dp.reads I _ w ww (r2.dp hs (okd_noD _ _ h.2.1)) q2
      have hd := okd_dep _ _ h.1
      have hm := Nat.min_le_left (PyData.depth (.tuple xs)) (PyData.depth (.tuple ys))
      exact PySem.W.lt_data s1 s2 h.2.2 (fun z => nomatch z) (by omega) ⟨.bl _, H, I, rfl, rfl, .bl _⟩
    · cases e
  · cases e
theorem od_ltI : OpD X (compareOp .Lt) (gI fun i j => vB (decide (i < j))) := OpD.ru op_lt (ru_I0 fun _ _ _ e => vB_inv e)
def gS (f : Str → Str → Option Out) : D → D → Option Out
  | .str i, .str j => f i j
  | _, _ => none
theorem ru_S {K : PySem.W.Frag} {g : Str → Str → Bool} : RuD K (fun x y H Q => ∃ i j, x = .str i ∧ y = .str j ∧ Q (.bl (g i j)) H) (gS fun i j => vB (g i j)) := by
  intro H B x y v w o Q hs r1 r2 e hq
  unfold gS at e
  split at e
  · cases e
    exact ⟨_, _, r1.str, r2.str, hq _ _ ⟨rfl, .bl _⟩⟩
  · cases e
theorem od_lt (hu : X.A.units + 64 < cLine) : OpD X (compareOp .Lt) gLt := (od_ltI.or ((OpD.ru op_lt_str (ru_S (g := fun i j => decide (i.cps.toList < j.cps.toList)))).or (od_ltT hu))).imp fun x y o e => by
  unfold gLt at e
  split at e
  · exact e
  · simp only [gI, gS, Option.none_or]; rw [e]; rfl
  · simp only [gI, gS, Option.none_or]; exact e
  · cases e
def gLe : D → D → Option Out
  | .int i, .int j => vB (decide (i ≤ j))
  | .str x, .str y => vB (!decide (y.cps.toList < x.cps.toList))
  | _, _ => none
theorem od_le : OpD X (compareOp .LtE) gLe := ((OpD.ru op_le (ru_I0 (f := fun i j => vB (decide (i ≤ j))) fun _ _ _ e => vB_inv e)).or (OpD.ru op_le_str (ru_S (g := fun i j => !decide (j.cps.toList < i.cps.toList))))).imp fun x y o e => by
  unfold gLe at e
  split at e
  · exact e
  · simp only [gI, gS, Option.none_or]; exact e
  · cases e
def gGt : D → D → Option Out := gI fun i j => vB (decide (j < i))
theorem od_gt : OpD X (compareOp .Gt) gGt := OpD.ru op_gt (ru_I0 fun _ _ _ e => vB_inv e)
def gGe : D → D → Option Out := gI fun i j => vB (decide (j ≤ i))
theorem od_ge : OpD X (compareOp .GtE) gGe := OpD.ru op_ge (ru_I0 fun _ _ _ e => vB_inv e)
end

section
variable {X : Cx} {cl : String → Addr} {E : XK} {a b c e : Expr} {ma mb mc m : M Rv} {pos : Pos}
/-! ### is None, minus, chains -/
def isNoneR (r : Rv) : Bool := match r with
  | .d .none => true
  | _ => false
def mIsN (neg : Bool) (m : M Rv) : M Rv := bnd (vm m) fun r => match r with
  | .d x => ret (.d (.bool (xor neg (isNoneR (.d x)))))
  | _ => stk
theorem RD.non_iff {K : PySem.W.Frag} {B : Hp} {x : D} {v : V} (r : RD K B x v) : decide (v = .non) = isNoneR (.d x) := by
  cases r <;> rfl
theorem tM_v {k : Rv → M Rv} {σ : L2.St} {H : Hp} {Q : VK} {R : VK} (h : tM X.K cl E (bnd (vm m) k) σ H Q)
    (hk : ∀ r v H1 P B env fps, Fm X.K P B H1 σ env fps → RvS X.K B σ r v → PostE X.K cl E P B σ (k r env) Q → R v H1) : tM X.K cl E m σ H R := by
  obtain ⟨P, B, env, fps, F, h⟩ := h
  refine ⟨P, B, env, fps, F, ?_⟩
  have h2 := post_vm h
  cases q : m env with
  | ok r env1 =>
    rw [q] at h2
    intro v H1 B1 fps1 x F1 r1
    obtain ⟨B2, env2, fps2, r2, x2, F2, s2, h3⟩ := h2 v H1 B1 fps1 x F1 r1
    exact hk r2 v H1 P B2 env2 fps2 F2 s2 h3
  | ex c env1 => rw [q] at h2; exact h2
  | stuck => rw [q] at h2; exact h2.elim
theorem de_isN {j pos'} (ha : DE X cl E a ma) : DE X cl E (.Compare a [.Is] [.Constant .none j pos'] pos) (mIsN false ma) := by
  refine ⟨fun pins s σ H Q I h => (pe_cmp (pc_isN (j := j) (pos' := pos') ha)).run pins s σ H Q I ?_⟩
  refine tM_v h fun r v H1 P B env fps F s2 h2 => ?_
  split at h2
  · have z := RD.non_iff (show RD X.K B _ v from s2)
    show Q (.bl (decide (v = .non))) H1
    rw [z]
    exact ret_d F (by rw [Bool.false_xor]; exact .bl _) h2
  · exact h2.elim
theorem de_notN {j pos'} (ha : DE X cl E a ma) : DE X cl E (.Compare a [.IsNot] [.Constant .none j pos'] pos) (mIsN true ma) := by
  refine ⟨fun pins s σ H Q I h => (pe_cmp (pc_notN (j := j) (pos' := pos') ha)).run pins s σ H Q I ?_⟩
  refine tM_v h fun r v H1 P B env fps F s2 h2 => ?_
  split at h2
  · have z := RD.non_iff (show RD X.K B _ v from s2)
    show Q (.bl (!decide (v = .non))) H1
    rw [z]
    exact ret_d F (by rw [Bool.true_xor]; exact .bl _) h2
  · exact h2.elim
def mNeg (m : M Rv) : M Rv := bnd (vm m) fun r => match r with
  | .d (.int i) => ret (.d (.int (-i)))
  | _ => stk
theorem de_neg (ha : DE X cl E a ma) : DE X cl E (.UnaryOp .USub a pos) (mNeg ma) := by
  refine ⟨fun pins s σ H Q I h => (pe_un un_neg ha).run pins s σ H Q I ?_⟩
  refine tM_v h fun r v H1 P B env fps F s2 h2 => ?_
  split at h2
  · cases (show RD X.K B (.int _) v from s2)
    exact ⟨_, rfl, ret_d F (.int _) h2⟩
  · exact h2.elim
/-- a op b op' c -/
def mChain (g g' : D → D → Option Out) (ma mb mc : M Rv) : M Rv := bnd (vm ma) fun r1 => bnd (vm mb) fun r2 env => match res env r1, res env r2 with
  | some x, some y => match g x y with
    | some (.val (.bool true)) => bnd (vm mc) (fun r3 env => match res env r2, res env r3 with
      | some y, some z => match g' y z with
        | some (.val d) => .ok (.d d) env
        | _ => .stuck
      | _, _ => .stuck) env
    | some (.val (.bool false)) => .ok (.d (.bool false)) env
    | _ => .stuck
  | _, _ => .stuck
theorem de_chain {op op' : CmpOp} {g g' : D → D → Option Out} {r r' : R2} (ha : DE X cl E a ma) (hb : DE X cl E b mb) (hc : DE X cl E c mc) (ho : OpR X (compareOp op) r) (ho' : OpR X (compareOp op') r') (hr : RuD X.K r g) (hr' : RuD X.K r' g')
    (hpe : PE X (.Compare a [op, op'] [b, c] pos) (tChain r r' (tM X.K cl E ma) (tM X.K cl E mb) (tM X.K cl E mc))) : DE X cl E (.Compare a [op, op'] [b, c] pos) (mChain g g' ma mb mc) := by
  refine ⟨fun pins s σ H Q I ⟨P, B, env, fps, F, h⟩ => hpe.run pins s σ H Q I ?_⟩
  have h1 := post_vm h
  refine ⟨P, B, env, fps, F, ?_⟩
  cases q : ma env with
  | ok r1 env1 =>
    rw [q] at h1
    intro v H1 B1 fps1 x F1 rr
    obtain ⟨B2, env2, fps2, r2, x2, F2, w2, h2⟩ := h1 v H1 B1 fps1 x F1 rr
    have h3 := post_vm h2
    refine ⟨P, B2, env2, fps2, F2, ?_⟩
    cases q3 : mb env2 with
    | ok r3 env3 =>
      rw [q3] at h3
      intro w H3 B3 fps3 x3 F3 rr3
      obtain ⟨B4, env4, fps4, r4, x4, F4, w4, h4⟩ := h3 w H3 B3 fps3 x3 F3 rr3
      split at h4
      · rename_i dx dy e1 e2
        split at h4
        · rename_i eo
          refine hr H3 B4 dx dy v w _ _ F4.sub (F4.res (w2.mono x4.1) e1) (F4.res w4 e2) eo fun v' H' ho => ?_
          obtain ⟨rfl, hv⟩ := ho
          cases hv
          refine ⟨true, rfl, ?_⟩
          rw [if_pos rfl]
          have h5 := post_vm h4
          refine ⟨P, B4, env4, fps4, F4, ?_⟩
          cases q5 : mc env4 with
          | ok r5 env5 =>
            rw [q5] at h5
            intro u H5 B5 fps5 x5 F5 rr5
            obtain ⟨B6, env6, fps6, r6, x6, F6, w6, h6⟩ := h5 u H5 B5 fps5 x5 F5 rr5
            split at h6
            · rename_i dy' dz e3 e4
              split at h6
              · rename_i d eo'
                refine hr' H5 B6 dy' dz w u _ _ F6.sub (F6.res (w4.mono x6.1) e3) (F6.res w6 e4) eo' fun v' H' ho => ?_
                obtain ⟨rfl, hv⟩ := ho
                exact h6 v' H' B6 fps6 Ext.refl F6 hv
              · exact h6.elim
            · exact h6.elim
          | ex c env5 => rw [q5] at h5; exact h5
          | stuck => rw [q5] at h5; exact h5.elim
        · rename_i eo
          refine hr H3 B4 dx dy v w _ _ F4.sub (F4.res (w2.mono x4.1) e1) (F4.res w4 e2) eo fun v' H' ho => ?_
          obtain ⟨rfl, hv⟩ := ho
          cases hv
          refine ⟨false, rfl, ?_⟩
          rw [if_neg Bool.false_ne_true]
          exact h4 _ H' B4 fps4 Ext.refl F4 (.bl false)
        · exact h4.elim
      · exact h4.elim
    | ex c env3 => rw [q3] at h3; exact h3
    | stuck => rw [q3] at h3; exact h3.elim
  | ex c env1 => rw [q] at h1; exact h1
  | stuck => rw [q] at h1; exact h1.elim
end
end Mi

set_option Elab.async false
set_option linter.all false
set_option maxRecDepth 100000
namespace Mi
open PySem PySem.Spec L2

section
variable {X : Cx} {cl : String → Addr} {E : XK} {a b c e : Expr} {ma mb mc m : M Rv} {ms : M (List Rv)} {pos : Pos} {es : List Expr} {n : Nat}

/-! ### slices -/
def tMO (K : PySem.W.Frag) (cl : String → Addr) (E : XK) (m : M (Option Int)) : TO := fun σ H Q => ∃ P B env fps, Fm K P B H σ env fps ∧ PostX K cl E P B σ (m env) fun o H' _ _ _ => Q o H'
def DO (X : Cx) (cl : String → Addr) (E : XK) (e : Option Expr) (m : M (Option Int)) : Prop := PO X e (tMO X.K cl E m)
def mNo : M (Option Int) := ret none
def mSo (m : M Rv) : M (Option Int) := bnd (vm m) fun r => match r with
  | .d (.int i) => ret (some i)
  | _ => stk
theorem do_none : DO X cl E none mNo := ⟨fun pins s σ H Q I ⟨P, B, env, fps, F, h⟩ => po_none.run pins s σ H Q I (h H B fps Ext.refl F)⟩
theorem do_some (h : DE X cl E e m) : DO X cl E (some e) (mSo m) := by
  refine ⟨fun pins s σ H Q I ⟨P, B, env, fps, F, q⟩ => (po_some h).run pins s σ H Q I ?_⟩
  refine ⟨P, B, env, fps, F, ?_⟩
  have h1 := postX_vm q
  cases z : m env with
  | ok r env1 =>
    rw [z] at h1
    intro v H1 B1 fps1 x F1 r1
    obtain ⟨B2, env2, fps2, r2, x2, F2, s2, h2⟩ := h1 v H1 B1 fps1 x F1 r1
    split at h2
    · cases (show RD X.K B2 (.int _) v from s2)
      exact ⟨_, rfl, h2 H1 B2 fps2 Ext.refl F2⟩
    · exact h2.elim
  | ex c env1 => rw [z] at h1; exact h1
  | stuck => rw [z] at h1; exact h1.elim
def cutL {α : Type} (xs : List α) (lo hi : Option Int) : List α := (xs.drop (HT.sIx xs.length 0 lo)).take (HT.sIx xs.length xs.length hi - HT.sIx xs.length 0 lo)
def gCut : D → Option Int → Option Int → Option Out
  | .list ds, lo, hi => some (.lst (cutL ds lo hi))
  | .tuple ds, lo, hi => some (.tup (cutL ds lo hi))
  | .str z, lo, hi => if z.length ≤ sizeLine then some (.val (.str (cutS z lo hi))) else none
  | _, _, _ => none
def rSl3 (K : PySem.W.Frag) : V → Option Int → Option Int → Hp → VK → Prop := fun x lo hi H Q => rSlL K x lo hi H Q ∨ rSlA K x lo hi H Q ∨ rSlS x lo hi H Q
theorem sl_3 : SlR X (rSl3 X.K) := sl_list.or (sl_tupA.or sl_str)
theorem RDs.cut {K : PySem.W.Frag} {B : Hp} {ds : List D} {vs : List V} (r : RDs K B ds vs) (lo hi : Option Int) : RDs K B (cutL ds lo hi) (cutV vs lo hi) := by
  unfold cutL cutV
  rw [RDs.length _ _ r]
  exact (r.drop _).take _
theorem ru_cut {K : PySem.W.Frag} {H B : Hp} {x : D} {v : V} {lo hi : Option Int} {o : Out} {Q : VK} (hs : Sub B H) (r1 : Rd1 K B H x v) (e : gCut x lo hi = some o) (hq : ∀ v' H', OutR K B H o v' H' → Q v' H') : rSl3 K v lo hi H Q := by
  unfold gCut at e
  split at e
  · cases e
    obtain ⟨a, vs, rfl, h1, r⟩ := r1.list hs
    exact .inl ⟨a, vs, rfl, h1, fun p hp => hq _ _ ⟨p, _, rfl, hp, rfl, r.cut _ _⟩⟩
  · cases e
    have d1 := r1
    obtain ⟨a, vs, rfl, h1, r⟩ := r1.tuple hs
    refine .inr (.inl ⟨a, vs, rfl, h1, fun hw => hq _ _ (.inr ⟨rfl, ?_⟩), fun _ p hp => hq _ _ (.inl ⟨p, _, rfl, hp, rfl, r.cut _ _⟩)⟩)
    have hl := RDs.length _ _ r
    unfold cutL
    rw [← hl, hw.1, hw.2, List.drop_zero, Nat.sub_zero, hl, List.take_length]
    exact d1.elim id fun ⟨_, _, _, z, _⟩ => nomatch z
  · split at e
    · rename_i hz
      cases e
      cases r1.str
      exact .inr (.inr ⟨_, rfl, hz, hq _ _ ⟨rfl, .str _⟩⟩)
    · cases e
  · cases e
def mSl (m : M Rv) (lo hi : M (Option Int)) : M Rv := bnd (vm m) fun r => bnd lo fun l => bnd hi fun u env => match res env r with
  | some x => match gCut x l u with
    | some o => .ok o.rv env
    | none => .stuck
  | none => .stuck
theorem de_slice {lo hi : Option Expr} {ml mh : M (Option Int)} {p2 : Pos} (he : DE X cl E e m) (hl : DO X cl E lo ml) (hu : DO X cl E hi mh) : DE X cl E (.Subscript e (.Slice lo hi none p2) pos) (mSl m ml mh) := by
  refine ⟨fun pins s σ H Q I ⟨P, B, env, fps, F, h⟩ => (pe_slice sl_3 he hl hu).run pins s σ H Q I ?_⟩
  have h1 := post_vm h
  refine ⟨P, B, env, fps, F, ?_⟩
  cases q : m env with
  | ok r1 env1 =>
    rw [q] at h1
    intro v H1 B1 fps1 x F1 rr
    obtain ⟨B2, env2, fps2, r2, x2, F2, w2, h2⟩ := h1 v H1 B1 fps1 x F1 rr
    refine ⟨P, B2, env2, fps2, F2, (postE_bnd h2).mono fun l H3 B3 fps3 env3 x3 F3 h3 => ?_⟩
    refine ⟨P, B3, env3, fps3, F3, (postE_bnd h3).mono fun u H4 B4 fps4 env4 x4 F4 h4 => ?_⟩
    split at h4
    · rename_i dx e1
      split at h4
      · rename_i o eo
        exact ru_cut F4.sub (F4.res (w2.mono (x3.trans x4).1) e1) eo fun v' H' ho => ho.post F4 h4
      · exact h4.elim
    · exact h4.elim
  | ex c env1 => rw [q] at h1; exact h1
  | stuck => rw [q] at h1; exact h1.elim

/-! ### built-in calls -/
def resAll (env : Env) : List Rv → Option (List D)
  | [] => some []
  | r :: rs => match res env r, resAll env rs with
    | some d, some ds => some (d :: ds)
    | _, _ => none
theorem Fm.resAll {K : PySem.W.Frag} {P B H : Hp} {σ : L2.St} {env : Env} {fps : Nat → List Addr} (F : Fm K P B H σ env fps) : ∀ {rs : List Rv} {vs : List V} {xs : List D}, Paired (RvS K B σ) rs vs → Mi.resAll env rs = some xs → Paired (Rd1 K B H) xs vs
  | _, _, _, .nil, e => by cases e; exact .nil
  | r :: rs, v :: vs, xs, .cons s t, e => by
    unfold Mi.resAll at e
    split at e
    · rename_i d ds e1 e2
      cases e
      exact .cons (F.res s e1) (F.resAll t e2)
    · cases e
def mCB (g : List D → Option Out) (ms : M (List Rv)) : M Rv := bnd ms fun rs env => match resAll env rs with
  | some xs => match g xs with
    | some o => .ok o.rv env
    | none => .stuck
  | none => .stuck
/-- the layer's reading of a call serves g -/
def RuL (K : PySem.W.Frag) (r : List V → Hp → VK → Prop) (g : List D → Option Out) : Prop :=
  ∀ (H B : Hp) (xs : List D) (vs : List V) (o : Out) (Q : VK), Sub B H → Paired (Rd1 K B H) xs vs → g xs = some o → (∀ v' H', OutR K B H o v' H' → Q v' H') → r vs H Q
theorem tCB_of {r : List V → Hp → VK → Prop} {g : List D → Option Out} (hr : RuL X.K r g) {σ : L2.St} {H : Hp} {Q : VK} (h : tM X.K cl E (mCB g ms) σ H Q) : tCB r (tMA X.K cl E ms) σ H Q := by
  obtain ⟨P, B, env, fps, F, h⟩ := h
  refine ⟨P, B, env, fps, F, (postE_bnd h).mono fun rs H1 B1 fps1 env1 x F1 h1 vs hv => ?_⟩
  split at h1
  · rename_i xs e1
    split at h1
    · rename_i o eo
      exact hr H1 B1 xs vs o Q F1.sub (F1.resAll hv e1) eo fun v' H' ho => ho.post F1 h1
    · exact h1.elim
  · exact h1.elim
theorem de_callB {x : Str} {p : Pos} {id : String} {r : List V → Hp → VK → Prop} {g : List D → Option Out} (hc : CallR X (.builtin id) r) (hr : RuL X.K r g) (hg : Gl X x) (hm : X.mg x = none) (hv : bootBuiltins x = some (.builtin id)) (ha : DA X cl E (e :: es) ms)
    (hn : x ≠ "__name__" := by decide) (hdb : (x == ("__debug__" : Str)) = false := by decide)
    (he : starEach (e :: es) X.env = (false, eval e X.env) :: starEach es X.env := by rfl) (hpl : (backTo pos (starEach es X.env)).any (·.1) = false := by rfl) : DE X cl E (.Call (.Name x p) (e :: es) [] pos) (mCB g ms) :=
  ⟨fun pins s σ H Q I h => (pe_callB hc hg hm hv ha hn hdb he hpl).run pins s σ H Q I (tCB_of hr h)⟩
theorem de_callTy {x : Str} {p : Pos} {T : String} {r : List V → Hp → VK → Prop} {g : List D → Option Out} (hc : CallR X (.type T) r) (hr : RuL X.K r g) (hg : Gl X x) (hm : X.mg x = none) (hv : bootBuiltins x = some (.type T)) (ha : DA X cl E (e :: es) ms)
    (hn : x ≠ "__name__" := by decide) (hdb : (x == ("__debug__" : Str)) = false := by decide)
    (he : starEach (e :: es) X.env = (false, eval e X.env) :: starEach es X.env := by rfl) (hpl : (backTo pos (starEach es X.env)).any (·.1) = false := by rfl) : DE X cl E (.Call (.Name x p) (e :: es) [] pos) (mCB g ms) :=
  ⟨fun pins s σ H Q I h => (pe_callTy hc hg hm hv ha hn hdb he hpl).run pins s σ H Q I (tCB_of hr h)⟩

theorem paired1 {α β : Type} {R : α → β → Prop} {x : α} {vs : List β} (h : Paired R [x] vs) : ∃ v, vs = [v] ∧ R x v := by
  cases h with
  | cons r t => cases t; exact ⟨_, rfl, r⟩
theorem paired2 {α β : Type} {R : α → β → Prop} {x y : α} {vs : List β} (h : Paired R [x, y] vs) : ∃ v w, vs = [v, w] ∧ R x v ∧ R y w := by
  cases h with
  | cons r t =>
    cases t with
    | cons r2 t => cases t; exact ⟨_, _, rfl, r, r2⟩
def gLen : List D → Option Out
  | [.list ds] => vI ds.length
  | [.tuple ds] => vI ds.length
  | [.str z] => if z.length ≤ sizeLine then vI z.length else none
  | _ => none
theorem ru_len {K : PySem.W.Frag} : RuL K (fun xs H Q => ∃ x n, xs = [x] ∧ LenV K x H n ∧ Q (.int n) H) gLen := by
  intro H B xs vs o Q hs hp e hq
  unfold gLen at e
  split at e
  · obtain ⟨v, rfl, r1⟩ := paired1 hp
    cases e
    obtain ⟨a, ws, rfl, h1, r⟩ := r1.list hs
    exact ⟨_, _, rfl, .inl ⟨ws, h1, rfl⟩, by rw [RDs.length _ _ r]; exact hq _ _ ⟨rfl, .int _⟩⟩
  · obtain ⟨v, rfl, r1⟩ := paired1 hp
    cases e
    obtain ⟨a, ws, rfl, h1, r⟩ := r1.tuple hs
    exact ⟨_, _, rfl, .inr ⟨ws, h1, rfl⟩, by rw [RDs.length _ _ r]; exact hq _ _ ⟨rfl, .int _⟩⟩
  · split at e
    · rename_i hz
      obtain ⟨v, rfl, r1⟩ := paired1 hp
      cases e
      cases r1.str
      exact ⟨_, _, rfl, ⟨hz, rfl⟩, hq _ _ ⟨rfl, .int _⟩⟩
    · cases e
  · cases e
def gTuple : List D → Option Out
  | [.list ds] => some (.tup ds)
  | [.tuple ds] => some (.tup ds)
  | _ => none
theorem ru_tuple {K : PySem.W.Frag} : RuL K (fun xs H Q => ∃ p ys, xs = [.ref p] ∧ ((SqL K H p ys ∧ ∀ l, H l = none → Q (.ref l) (upd H l (.tup ys))) ∨ (SqT K H p ys ∧ Q (.ref p) H))) gTuple := by
  intro H B xs vs o Q hs hp e hq
  unfold gTuple at e
  split at e
  · obtain ⟨v, rfl, r1⟩ := paired1 hp
    cases e
    obtain ⟨a, ws, rfl, h1, r⟩ := r1.list hs
    exact ⟨_, _, rfl, .inl ⟨h1, fun l hl => hq _ _ (.inl ⟨l, _, rfl, hl, rfl, r⟩)⟩⟩
  · obtain ⟨v, rfl, r1⟩ := paired1 hp
    cases e
    have d1 := r1
    obtain ⟨a, ws, rfl, h1, r⟩ := r1.tuple hs
    exact ⟨_, _, rfl, .inr ⟨h1, hq _ _ (.inr ⟨rfl, d1.elim id fun ⟨_, _, _, z, _⟩ => nomatch z⟩)⟩⟩
  · cases e
def gList : List D → Option Out
  | [.list ds] => some (.lst ds)
  | [.tuple ds] => some (.lst ds)
  | _ => none
theorem ru_list {K : PySem.W.Frag} : RuL K (fun xs H Q => ∃ p ys, xs = [.ref p] ∧ (SqL K H p ys ∨ SqT K H p ys) ∧ ∀ l, H l = none → Q (.ref l) (upd H l (.lst ys))) gList := by
  intro H B xs vs o Q hs hp e hq
  unfold gList at e
  split at e
  · obtain ⟨v, rfl, r1⟩ := paired1 hp
    cases e
    obtain ⟨a, ws, rfl, h1, r⟩ := r1.list hs
    exact ⟨_, _, rfl, .inl h1, fun l hl => hq _ _ ⟨l, _, rfl, hl, rfl, r⟩⟩
  · obtain ⟨v, rfl, r1⟩ := paired1 hp
    cases e
    obtain ⟨a, ws, rfl, h1, r⟩ := r1.tuple hs
    exact ⟨_, _, rfl, .inr h1, fun l hl => hq _ _ ⟨l, _, rfl, hl, rfl, r⟩⟩
  · cases e
def gInt : List D → Option Out
  | [.int i] => vI i
  | [.bool b] => vI (if b = true then 1 else 0)
  | _ => none
theorem ru_int {K : PySem.W.Frag} : RuL K (fun xs H Q => (∃ i, xs = [.int i] ∧ Q (.int i) H) ∨ ∃ k, xs = [.bl k] ∧ Q (.int (if k then 1 else 0)) H) gInt := by
  intro H B xs vs o Q hs hp e hq
  unfold gInt at e
  split at e
  · obtain ⟨v, rfl, r1⟩ := paired1 hp
    cases e
    cases r1.int
    exact .inl ⟨_, rfl, hq _ _ ⟨rfl, .int _⟩⟩
  · obtain ⟨v, rfl, r1⟩ := paired1 hp
    cases e
    cases r1.bool
    exact .inr ⟨_, rfl, hq _ _ ⟨rfl, .int _⟩⟩
  · cases e
def gMax2 : List D → Option Out
  | [.int i, .int j] => vI (if j > i then j else i)
  | _ => none
theorem ru_max2 {K : PySem.W.Frag} : RuL K (fun xs H Q => ∃ i j, xs = [.int i, .int j] ∧ Q (.int (if j > i then j else i)) H) gMax2 := by
  intro H B xs vs o Q hs hp e hq
  unfold gMax2 at e
  split at e
  · obtain ⟨v, w, rfl, r1, r2⟩ := paired2 hp
    cases e
    cases r1.int
    cases r2.int
    exact ⟨_, _, rfl, hq _ _ ⟨rfl, .int _⟩⟩
  · cases e
def gMin2 : List D → Option Out
  | [.int i, .int j] => vI (if j < i then j else i)
  | _ => none
theorem ru_min2 {K : PySem.W.Frag} : RuL K (fun xs H Q => ∃ i j, xs = [.int i, .int j] ∧ Q (.int (if j < i then j else i)) H) gMin2 := by
  intro H B xs vs o Q hs hp e hq
  unfold gMin2 at e
  split at e
  · obtain ⟨v, w, rfl, r1, r2⟩ := paired2 hp
    cases e
    cases r1.int
    cases r2.int
    exact ⟨_, _, rfl, hq _ _ ⟨rfl, .int _⟩⟩
  · cases e
/-- all items are ints, bools -/
def intsD : List D → Option (List Int)
  | [] => some []
  | .int i :: r => (intsD r).map (i :: ·)
  | _ :: _ => none
def boolsD : List D → Option (List Bool)
  | [] => some []
  | .bool i :: r => (boolsD r).map (i :: ·)
  | _ :: _ => none
theorem intsD_vals {K : PySem.W.Frag} {B : Hp} : ∀ {ds : List D} {vs : List V} {ns : List Int}, RDs K B ds vs → intsD ds = some ns → vs = ns.map V.int
  | _, _, _, .nil, e => by cases e; rfl
  | d :: ds, _, ns, .cons r t, e => by
    unfold intsD at e
    cases r with
    | int i =>
      obtain ⟨ns', e1, rfl⟩ := Option.map_eq_some_iff.mp e
      rw [intsD_vals t e1]
      rfl
    | _ => cases e
theorem boolsD_vals {K : PySem.W.Frag} {B : Hp} : ∀ {ds : List D} {vs : List V} {ns : List Bool}, RDs K B ds vs → boolsD ds = some ns → vs = ns.map V.bl
  | _, _, _, .nil, e => by cases e; rfl
  | d :: ds, _, ns, .cons r t, e => by
    unfold boolsD at e
    cases r with
    | bl i =>
      obtain ⟨ns', e1, rfl⟩ := Option.map_eq_some_iff.mp e
      rw [boolsD_vals t e1]
      rfl
    | _ => cases e
def gSum : List D → Option Out
  | [.list ds] => (intsD ds).bind fun ns => vI ns.sum
  | _ => none
theorem ru_sum {K : PySem.W.Frag} : RuL K (rSum K) gSum := by
  intro H B xs vs o Q hs hp e hq
  unfold gSum at e
  split at e
  · obtain ⟨v, rfl, r1⟩ := paired1 hp
    obtain ⟨ns, e1, e2⟩ := Option.bind_eq_some_iff.mp e
    cases e2
    obtain ⟨a, ws, rfl, h1, r⟩ := r1.list hs
    rw [intsD_vals r e1] at h1
    exact ⟨_, _, rfl, h1, hq _ _ ⟨rfl, .int _⟩⟩
  · cases e
def gAll : List D → Option Out
  | [.list ds] => (boolsD ds).bind fun ns => vB (ns.all id)
  | _ => none
theorem ru_all {K : PySem.W.Frag} : RuL K (rAll K) gAll := by
  intro H B xs vs o Q hs hp e hq
  unfold gAll at e
  split at e
  · obtain ⟨v, rfl, r1⟩ := paired1 hp
    obtain ⟨ns, e1, e2⟩ := Option.bind_eq_some_iff.mp e
    cases e2
    obtain ⟨a, ws, rfl, h1, r⟩ := r1.list hs
    rw [boolsD_vals r e1] at h1
    exact ⟨_, _, rfl, h1, hq _ _ ⟨rfl, .bl _⟩⟩
  · cases e
def gAny : List D → Option Out
  | [.list ds] => (boolsD ds).bind fun ns => vB (ns.any id)
  | _ => none
theorem ru_any {K : PySem.W.Frag} : RuL K (rAny K) gAny := by
  intro H B xs vs o Q hs hp e hq
  unfold gAny at e
  split at e
  · obtain ⟨v, rfl, r1⟩ := paired1 hp
    obtain ⟨ns, e1, e2⟩ := Option.bind_eq_some_iff.mp e
    cases e2
    obtain ⟨a, ws, rfl, h1, r⟩ := r1.list hs
    rw [boolsD_vals r e1] at h1
    exact ⟨_, _, rfl, h1, hq _ _ ⟨rfl, .bl _⟩⟩
  · cases e

/-! ### isinstance -/
def tyD : D → String
  | .none => "NoneType" | .bool _ => "bool" | .int _ => "int" | .str _ => "str" | .list _ => "list" | .tuple _ => "tuple" | .dict _ => "dict"
def isiD (T : String) (x : D) : Bool := tyD x == T || (T == "int" && tyD x == "bool")
theorem RD.ty {K : PySem.W.Frag} {H : Hp} {x : D} {v : V} (r : RD K H x v) : TyX K H v (.type (tyD x)) := by
  cases r with
  | non => exact .base .non
  | bl b => exact .base (.bl b)
  | int i => exact .base (.int i)
  | str s => exact .base (.str s)
  | lst h _ =>
    rcases h with (h | ⟨o, h⟩) | ⟨o, its, n, h1, h2, _⟩
    · exact .base (.lst h)
    · exact .base (.frz h)
    · exact .kList h1 h2
  | tup h _ =>
    rcases h with (h | ⟨o, h⟩) | ⟨o, its, n, h1, h2, _⟩
    · exact .base (.tup h)
    · exact .fTuple h
    · exact .kTuple h1 h2
  | dct h => exact .base (.dK h)
theorem kit_all (K : PySem.W.Frag) : ∀ t ∈ ["NoneType", "bool", "int", "str", "list", "tuple", "dict"], ∀ T ∈ ["bool", "int", "str", "list", "tuple", "dict"], PySem.W.kitOne K (.type t) (.type T) = some (t == T || (T == "int" && t == "bool")) := by
  intro t ht T hT
  simp only [List.mem_cons, List.not_mem_nil, or_false] at ht hT
  rcases ht with rfl | rfl | rfl | rfl | rfl | rfl | rfl <;> rcases hT with rfl | rfl | rfl | rfl | rfl | rfl <;> (first | rfl | decide +kernel | exact kit_ty (by decide +kernel))
end
end Mi

set_option Elab.async false
set_option linter.all false
set_option maxRecDepth 100000
namespace Mi
open PySem PySem.Spec L2

section
variable {X : Cx} {cl : String → Addr} {E : XK} {a b c e : Expr} {ma mb mc m : M Rv} {ms : M (List Rv)} {pos : Pos} {es : List Expr} {n : Nat}

/-! ### isinstance with a built-in type -/
def mIsi (T : String) (m : M Rv) : M Rv := bnd (vm m) fun r env => match res env r with
  | some x => .ok (.d (.bool (isiD T x))) env
  | none => .stuck
theorem de_isi {T : String} {Tn : Str} {p p2 : Pos} (hT : T ∈ ["bool", "int", "str", "list", "tuple", "dict"]) (hg : Gl X "isinstance") (hm : X.mg "isinstance" = none) (hg2 : Gl X Tn) (hm2 : X.mg Tn = none) (hv2 : bootBuiltins Tn = some (.type T)) (ha : DE X cl E a ma)
    (hv : bootBuiltins "isinstance" = some (.builtin "isinstance") := by decide +kernel)
    (hn2 : Tn ≠ "__name__" := by decide) (hd2 : (Tn == ("__debug__" : Str)) = false := by decide)
    (he : starEach (a :: [.Name Tn p2]) X.env = (false, eval a X.env) :: starEach [.Name Tn p2] X.env := by rfl) (hpl : (backTo pos (starEach [.Name Tn p2] X.env)).any (·.1) = false := by rfl) :
    DE X cl E (.Call (.Name "isinstance" p) [a, .Name Tn p2] [] pos) (mIsi T ma) := by
  refine ⟨fun pins s σ H Q I h => (pe_callB call_isi hg hm hv (pa_cons ha (pa_cons (pe_bltn hg2 hm2 hv2 (v := .ty T) rfl hn2 hd2) pa_nil (by rfl)) he) (by decide) (by decide) he hpl).run pins s σ H Q I ?_⟩
  refine tM_v h fun r v H1 P B env fps F s2 h2 => ?_
  refine ⟨v, .ty T, .type (tyD ((res env r).getD .none)), .type T, isiD T ((res env r).getD .none), rfl, .ty T, ?_, ?_, ?_⟩
  · split at h2
    · rename_i x e1
      rw [e1]
      exact RD.ty ((F.res s2 e1).rd F.sub)
    · exact h2.elim
  · exact kit_all X.K _ (by cases (res env r).getD .none <;> simp [tyD]) T hT
  · split at h2
    · rename_i x e1
      rw [e1]
      exact h2 _ H1 B fps Ext.refl F (.bl _)
    · exact h2.elim
end

/-! ### calls of defs -/
/-- what a callee's parameter k gets: its own thing where it may change it, else data -/
def argO (io : List Nat) (env : Env) (k : Nat) : Rv → Option O
  | .d x => some (.dat x)
  | .pl j => match env[j]? with
    | some (some (.lst ds)) => if io.contains k = true then some (.lst ds) else some (.dat (.list ds))
    | some (some (.dct kv)) => if io.contains k = true then some (.dct kv) else none
    | _ => none
  | .own _ => none
def argOs (io : List Nat) (env : Env) : Nat → List Rv → Option Env
  | _, [] => some []
  | k, r :: rs => match argO io env k r, argOs io env (k + 1) rs with
    | some o, some os => some (some o :: os)
    | _, _ => none
/-- the slots that are handed in to be changed, by parameter -/
def ioSlots (io : List Nat) : Nat → List Rv → List (Nat × Nat)
  | _, [] => []
  | k, .pl j :: rs => if io.contains k = true then (k, j) :: ioSlots io (k + 1) rs else ioSlots io (k + 1) rs
  | k, _ :: rs => ioSlots io (k + 1) rs
/-- the slots that are lent -/
def lentSlots (io : List Nat) : Nat → List Rv → List Nat
  | _, [] => []
  | k, .pl j :: rs => if io.contains k = true then lentSlots io (k + 1) rs else j :: lentSlots io (k + 1) rs
  | k, _ :: rs => lentSlots io (k + 1) rs
def apart : List (Nat × Nat) → List Nat → Bool
  | [], _ => true
  | (_, j) :: r, l => !l.contains j && !(r.any fun q => q.2 == j) && apart r l
/-- the slots behind the call -/
def backEnv (cenv : Env) : List (Nat × Nat) → Env → Option Env
  | [], env => some env
  | (k, j) :: r, env => match cenv[k]? with
    | some (some o) => backEnv cenv r (env.set j (some o))
    | _ => none
def O.flat : O → Bool
  | .dat d => Mi.flat d
  | .lst ds => flats ds
  | .dct kvs => kvs.all fun q => Mi.flat q.2
  | .tpl _ => false
def allFlat (cenv : Env) : List (Nat × Nat) → Bool
  | [] => true
  | (k, _) :: r => (match cenv[k]? with
    | some (some o) => o.flat
    | _ => false) && allFlat cenv r
def O.rv : O → Rv
  | .dat d => .d d
  | o => .own o
def mCall (io : List Nat) (F : M O) (ms : M (List Rv)) : M Rv := bnd ms fun rs env => match argOs io env 0 rs with
  | some cenv => if apart (ioSlots io 0 rs) (lentSlots io 0 rs) = true then
      match F cenv with
      | .ok o cenv' => if ((lentSlots io 0 rs).isEmpty || (o.flat && allFlat cenv' (ioSlots io 0 rs))) = true then
          match backEnv cenv' (ioSlots io 0 rs) env with
          | some env' => .ok o.rv env'
          | none => .stuck
        else .stuck
      | .ex x cenv' => if ((lentSlots io 0 rs).isEmpty || allFlat cenv' (ioSlots io 0 rs)) = true then
          match backEnv cenv' (ioSlots io 0 rs) env with
          | some env' => .ex x env'
          | none => .stuck
        else .stuck
      | .stuck => .stuck
    else .stuck
  | none => .stuck

section
variable (K : PySem.W.Frag) (cl : String → Addr)
/-- a def's end: what it gives back, the frame behind it, the parameters of io where they were -/
def PostF (E : XK) (io : List Nat) (vs : List V) (P B : Hp) (r : Rs O) (Q : VK) : Prop := match r with
  | .ok o env => ∀ v H' B' fps σ' fp, Ext P B B' → Fm K P B' H' σ' env fps → (∀ i ∈ io, σ'[i]? = (vs.map some)[i]?) → OwnR K B' H' o v fp → (∀ a ∈ fp, B' a = none ∧ P a = none ∧ ∀ i ∈ io, a ∉ fps i) → Q v H'
  | .ex c env => ∀ H' B' fps σ', Ext P B B' → Fm K P B' H' σ' env fps → (∀ i ∈ io, σ'[i]? = (vs.map some)[i]?) → E (.ref (cl c)) none H'
  | .stuck => False
/-- a def's promise by its mirror -/
def spF (n : Nat) (io : List Nat) (F : M O) : Sp := fun vs H Q E => vs.length = n ∧ ∃ P B env fps, Fm K P B H (vs.map some) env fps ∧ PostF K cl E io vs P B (F env) Q
end

section
variable {K : PySem.W.Frag} {cl : String → Addr} {E : XK} {P B B' H H' : Hp} {σ : L2.St} {env : Env} {fps : Nat → List Addr} {io : List Nat}
theorem ioSlots_mem : ∀ {rs : List Rv} {k0 k j : Nat}, (k, j) ∈ ioSlots io k0 rs → k0 ≤ k ∧ rs[k - k0]? = some (.pl j) ∧ io.contains k = true
  | [], _, _, _, h => by simp [ioSlots] at h
  | r :: rs, k0, k, j, h => by
    have tl : (k, j) ∈ ioSlots io (k0 + 1) rs → k0 ≤ k ∧ (r :: rs)[k - k0]? = some (.pl j) ∧ io.contains k = true := fun h => by
      obtain ⟨h1, h2, h3⟩ := ioSlots_mem h
      refine ⟨by omega, ?_, h3⟩
      have e : k - k0 = (k - (k0 + 1)) + 1 := by omega
      rw [e, List.getElem?_cons_succ]
      exact h2
    unfold ioSlots at h
    split at h
    · rename_i eq; cases eq
    · rename_i eq
      cases eq
      split at h
      · rename_i hc
        rcases List.mem_cons.mp h with e | h
        · cases e
          exact ⟨Nat.le_refl _, by simp, hc⟩
        · exact tl h
      · exact tl h
    · rename_i eq
      cases eq
      exact tl h
theorem ioSlots_of : ∀ {rs : List Rv} {k0 k j : Nat}, k0 ≤ k → rs[k - k0]? = some (.pl j) → io.contains k = true → (k, j) ∈ ioSlots io k0 rs
  | [], _, _, _, _, h, _ => by simp at h
  | r :: rs, k0, k, j, h0, h, hc => by
    by_cases e : k = k0
    · subst e
      simp only [Nat.sub_self, List.getElem?_cons_zero, Option.some.injEq] at h
      subst h
      unfold ioSlots
      rw [if_pos hc]
      exact List.mem_cons_self
    · have h1 : k0 + 1 ≤ k := by omega
      have e2 : k - k0 = (k - (k0 + 1)) + 1 := by omega
      rw [e2, List.getElem?_cons_succ] at h
      have q := ioSlots_of h1 h hc
      unfold ioSlots
      split
      · rename_i eq; cases eq
      · rename_i eq
        cases eq
        split
        · exact List.mem_cons_of_mem _ q
        · exact q
      · rename_i eq
        cases eq
        exact q
theorem lentSlots_of : ∀ {rs : List Rv} {k0 k j : Nat}, k0 ≤ k → rs[k - k0]? = some (.pl j) → ¬ io.contains k = true → j ∈ lentSlots io k0 rs
  | [], _, _, _, _, h, _ => by simp at h
  | r :: rs, k0, k, j, h0, h, hc => by
    by_cases e : k = k0
    · subst e
      simp only [Nat.sub_self, List.getElem?_cons_zero, Option.some.injEq] at h
      subst h
      unfold lentSlots
      rw [if_neg hc]
      exact List.mem_cons_self
    · have h1 : k0 + 1 ≤ k := by omega
      have e2 : k - k0 = (k - (k0 + 1)) + 1 := by omega
      rw [e2, List.getElem?_cons_succ] at h
      have q := lentSlots_of h1 h hc
      unfold lentSlots
      split
      · rename_i eq; cases eq
      · rename_i eq
        cases eq
        split
        · exact q
        · exact List.mem_cons_of_mem _ q
      · rename_i eq
        cases eq
        exact q
theorem apart_of : ∀ {js : List (Nat × Nat)} {l : List Nat}, apart js l = true → (∀ q ∈ js, q.2 ∉ l) ∧ js.Pairwise (fun p q => p.2 ≠ q.2)
  | [], _, _ => ⟨fun _ h => by simp at h, .nil⟩
  | (k, j) :: r, l, h => by
    unfold apart at h
    simp only [Bool.and_eq_true, Bool.not_eq_true', List.any_eq_false, beq_iff_eq] at h
    obtain ⟨⟨h1, h2⟩, h3⟩ := h
    obtain ⟨q1, q2⟩ := apart_of h3
    refine ⟨fun q hq => ?_, .cons (fun q hq e => h2 q hq e.symm) q2⟩
    rcases List.mem_cons.mp hq with rfl | hq
    · intro hm
      have : l.contains j = true := List.contains_iff_mem.mpr hm
      rw [h1] at this
      cases this
    · exact q1 q hq
theorem argOs_get : ∀ {rs : List Rv} {k0 : Nat} {cenv : Env}, argOs io env k0 rs = some cenv → cenv.length = rs.length ∧ ∀ i r, rs[i]? = some r → ∃ o, argO io env (k0 + i) r = some o ∧ cenv[i]? = some (some o)
  | [], _, _, e => by cases e; exact ⟨rfl, fun i r h => by simp at h⟩
  | r :: rs, k0, cenv, e => by
    unfold argOs at e
    split at e
    · rename_i o os e1 e2
      cases e
      obtain ⟨h1, h2⟩ := argOs_get e2
      refine ⟨by simp [h1], fun i r' h => ?_⟩
      cases i with
      | zero =>
        simp only [List.getElem?_cons_zero, Option.some.injEq] at h
        subst h
        exact ⟨o, e1, rfl⟩
      | succ i =>
        simp only [List.getElem?_cons_succ] at h
        obtain ⟨o', q1, q2⟩ := h2 i r' h
        exact ⟨o', by rw [← q1]; congr 1; omega, by simpa using q2⟩
    · cases e
theorem pairedGet {α β : Type} {R : α → β → Prop} : ∀ {xs : List α} {ys : List β} {i : Nat} {y : β}, Paired R xs ys → ys[i]? = some y → ∃ x, xs[i]? = some x ∧ R x y
  | _, _, _, _, .nil, e => by simp at e
  | _, _, 0, _, .cons r t, e => by simp at e; subst e; exact ⟨_, rfl, r⟩
  | _, _, i + 1, y, .cons _ t, e => by
    obtain ⟨u, h1, h2⟩ := pairedGet (i := i) (y := y) t (by simpa using e)
    exact ⟨u, by simpa using h1, h2⟩
theorem pairedGet' {α β : Type} {R : α → β → Prop} : ∀ {xs : List α} {ys : List β} {i : Nat} {x : α}, Paired R xs ys → xs[i]? = some x → ∃ y, ys[i]? = some y ∧ R x y
  | _, _, _, _, .nil, e => by simp at e
  | _, _, 0, _, .cons r t, e => by simp at e; subst e; exact ⟨_, rfl, r⟩
  | _, _, i + 1, x, .cons _ t, e => by
    obtain ⟨u, h1, h2⟩ := pairedGet' (i := i) (x := x) t (by simpa using e)
    exact ⟨u, by simpa using h1, h2⟩
theorem backEnv_get : ∀ {js : List (Nat × Nat)} {cenv env env' : Env}, js.Pairwise (fun p q => p.2 ≠ q.2) → backEnv cenv js env = some env' →
    env'.length = env.length ∧ (∀ j, (∀ q ∈ js, q.2 ≠ j) → env'[j]? = env[j]?) ∧ ∀ k j, (k, j) ∈ js → j < env.length → ∃ o, cenv[k]? = some (some o) ∧ env'[j]? = some (some o)
  | [], _, _, _, _, e => by cases e; exact ⟨rfl, fun _ _ => rfl, fun _ _ h => by simp at h⟩
  | (k, j) :: r, cenv, env, env', hp, e => by
    unfold backEnv at e
    split at e
    · rename_i o eo
      have hp' := List.pairwise_cons.mp hp
      obtain ⟨h1, h2, h3⟩ := backEnv_get hp'.2 e
      refine ⟨by simpa using h1, fun i hi => ?_, fun k' j' hm hlt => ?_⟩
      · rw [h2 i fun q hq => hi q (List.mem_cons_of_mem _ hq), List.getElem?_set_ne (hi (k, j) List.mem_cons_self)]
      · rcases List.mem_cons.mp hm with e' | hm
        · cases e'
          refine ⟨o, eo, ?_⟩
          rw [h2 j fun q hq => (hp'.1 q hq).symm, List.getElem?_set_self hlt]
        · exact h3 k' j' hm (by simpa using hlt)
    · cases e
theorem allFlat_get : ∀ {js : List (Nat × Nat)} {cenv : Env}, allFlat cenv js = true → ∀ k j o, (k, j) ∈ js → cenv[k]? = some (some o) → o.flat = true
  | [], _, _, _, _, _, h, _ => by simp at h
  | (k, j) :: r, cenv, h, k', j', o, hm, ho => by
    unfold allFlat at h
    rw [Bool.and_eq_true] at h
    rcases List.mem_cons.mp hm with e' | hm
    · cases e'
      have h1 := h.1
      rw [ho] at h1
      exact h1
    · exact allFlat_get h.2 k' j' o hm ho
theorem RKs.flat {B B' : Hp} (h : ∀ a vs, Rd B a (.tup vs) → Rd B' a (.tup vs)) : ∀ {kds : List (Key × D)} {kvs : List (Key × V)}, (kds.all fun q => Mi.flat q.2) = true → RKs K B kds kvs → RKs K B' kds kvs
  | _, _, _, .nil => .nil
  | _, _, n, .cons r t => by
    rw [List.all_cons, Bool.and_eq_true] at n
    exact .cons ⟨r.1, RD.flat h _ _ n.1 r.2⟩ (RKs.flat h n.2 t)
theorem OwnR.flat {o : O} {v : V} {fp : List Addr} (r : OwnR K B H o v fp) (hf : o.flat = true) (h : ∀ a vs, Rd B a (.tup vs) → Rd B' a (.tup vs)) : OwnR K B' H o v fp := by
  cases r with
  | dat r => exact .dat (RD.flat h _ _ hf r)
  | lst e r => exact .lst e (RDs.flat h _ _ hf r)
  | dct e r => exact .dct e (RKs.flat h hf r)
  | tpl e n r => cases hf
end
end Mi

set_option Elab.async false
set_option linter.all false
set_option maxRecDepth 100000
namespace Mi
open PySem PySem.Spec L2
open Classical

section
variable {K : PySem.W.Frag} {cl : String → Addr} {E : XK} {P B H : Hp} {σ : L2.St} {env : Env} {fps : Nat → List Addr} {io : List Nat} {rs : List Rv} {vs : List V} {F : M O} {Q : VK}

def inIo (fps : Nat → List Addr) (js : List (Nat × Nat)) (a : Addr) : Prop := ∃ q ∈ js, a ∈ fps q.2
def inLent (fps : Nat → List Addr) (ls : List Nat) (a : Addr) : Prop := ∃ j ∈ ls, a ∈ fps j
noncomputable def calleeP (H : Hp) (fps : Nat → List Addr) (js : List (Nat × Nat)) : Hp := fun a => if inIo fps js a then none else noTb H a
noncomputable def calleeB (B H : Hp) (fps : Nat → List Addr) (ls : List Nat) : Hp := fun a => if inLent fps ls a then H a else B a
noncomputable def callerB (B : Hp) (fps : Nat → List Addr) (ls : List Nat) : Hp := fun a => if inLent fps ls a then none else B a
def calleeF (fps : Nat → List Addr) (io : List Nat) (rs : List Rv) : Nat → List Addr := fun k => if io.contains k = true then (match rs[k]? with
  | some (.pl j) => fps j
  | _ => []) else []
noncomputable def callerF (fps fps2 : Nat → List Addr) (js : List (Nat × Nat)) : Nat → List Addr := fun j => if h : ∃ k, (k, j) ∈ js then fps2 (choose h) else fps j

theorem pw_inj {js : List (Nat × Nat)} (h : js.Pairwise (fun p q => p.2 ≠ q.2)) {i k j : Nat} (h1 : (i, j) ∈ js) (h2 : (k, j) ∈ js) : i = k := by
  induction h with
  | nil => simp at h1
  | @cons a l hl _ ih =>
    rcases List.mem_cons.mp h1 with e1 | h1
    · rcases List.mem_cons.mp h2 with e2 | h2
      · rw [← e1] at e2; cases e2; rfl
      · exact absurd (by rw [← e1]) (hl _ h2)
    · rcases List.mem_cons.mp h2 with e2 | h2
      · exact absurd (by rw [← e2]) (hl _ h1)
      · exact ih h1 h2
theorem calleeF_mem {k : Nat} {a : Addr} (h : a ∈ calleeF fps io rs k) : ∃ j, (k, j) ∈ ioSlots io 0 rs ∧ a ∈ fps j := by
  unfold calleeF at h
  split at h
  · rename_i hc
    split at h
    · rename_i j e
      exact ⟨j, ioSlots_of (Nat.zero_le _) (by simpa using e) hc, h⟩
    · simp at h
  · simp at h
theorem call_in (Fr : Fm K P B H σ env fps) (hv : Paired (RvS K B σ) rs vs) {cenv : Env} (ec : argOs io env 0 rs = some cenv) (ha : apart (ioSlots io 0 rs) (lentSlots io 0 rs) = true) :
    Fm K (calleeP H fps (ioSlots io 0 rs)) (calleeB B H fps (lentSlots io 0 rs)) H (vs.map some) cenv (calleeF fps io rs) := by
  obtain ⟨ap1, ap2⟩ := apart_of ha
  obtain ⟨len, get⟩ := argOs_get ec
  have hlv : rs.length = vs.length := hv.length
  have sub1 : Sub B (calleeB B H fps (lentSlots io 0 rs)) := fun a o e => by
    unfold calleeB
    split
    · exact Fr.sub _ _ e
    · exact e
  refine ⟨by simp [len, hlv], fun a o e => ?_, fun a o e => ?_, fun i o e => ?_, fun i e => ?_, fun i k a h1 h2 => ?_, fun i a h => ?_, Fr.tab.mono sub1, fun a ps e => ?_, fun a ps e => ?_⟩
  rotate_right 2
  · unfold calleeB at e
    split at e
    · rename_i hl
      obtain ⟨j, _, hj⟩ := hl
      exact Fr.ownT j a hj ps e
    · exact Fr.nbT a ps e
  · unfold calleeP at e
    split at e
    · cases e
    · exact noTb_noT _ _ _ e
  · unfold calleeB at e
    split at e
    · exact e
    · exact Fr.sub _ _ e
  · unfold calleeP at e
    split at e
    · cases e
    · exact noTb_some e
  · have hi : i < rs.length := by rw [← len]; exact (List.getElem?_eq_some_iff.mp e).1
    have er : rs[i]? = some rs[i] := by simp [hi]
    obtain ⟨o', q1, q2⟩ := get i _ er
    rw [e] at q2
    cases q2
    rw [Nat.zero_add] at q1
    obtain ⟨v, hv1, hv2⟩ := pairedGet' hv er
    refine ⟨v, by simp [hv1], ?_⟩
    generalize rs[i] = r at q1 hv2 er
    cases r with
    | d x =>
      cases q1
      have : calleeF fps io rs i = [] := by unfold calleeF; rw [er]; split <;> rfl
      rw [this]
      exact .dat (RD.mono sub1 _ _ hv2)
    | own o => cases q1
    | pl j =>
      unfold argO at q1
      simp only at q1
      have hs : σ[j]? = some (some v) := hv2
      split at q1
      · rename_i ds he
        split at q1
        · rename_i hc
          cases q1
          have : calleeF fps io rs i = fps j := by unfold calleeF; rw [if_pos hc, er]
          rw [this]
          exact (Fr.pl he hs).congr sub1 fun _ _ => rfl
        · rename_i hc
          cases q1
          have : calleeF fps io rs i = [] := by unfold calleeF; rw [if_neg hc]
          rw [this]
          obtain ⟨a, ws, rfl, hf, e1, r1⟩ := (Fr.pl he hs).lst_inv
          refine .dat (.lst (.inl (.inl ?_)) (RDs.mono sub1 _ _ r1))
          unfold calleeB
          rw [if_pos ⟨j, lentSlots_of (Nat.zero_le _) (by simpa using er) hc, by rw [hf]; simp⟩]
          exact e1
      · rename_i kv he
        split at q1
        · rename_i hc
          cases q1
          have : calleeF fps io rs i = fps j := by unfold calleeF; rw [if_pos hc, er]
          rw [this]
          exact (Fr.pl he hs).congr sub1 fun _ _ => rfl
        · cases q1
      · cases q1
  · have hi : rs[i]? = none := by
      rcases e with e | e
      · have hi : i < rs.length := by rw [← len]; exact (List.getElem?_eq_some_iff.mp e).1
        obtain ⟨o', _, q2⟩ := get i rs[i] (by simp [hi])
        rw [e] at q2
        cases q2
      · rw [List.getElem?_eq_none_iff] at e ⊢
        omega
    unfold calleeF
    rw [hi]
    split <;> rfl
  · obtain ⟨j, m1, a1⟩ := calleeF_mem h1
    obtain ⟨j', m2, a2⟩ := calleeF_mem h2
    have := Fr.dis j j' a a1 a2
    subst this
    exact pw_inj ap2 m1 m2
  · obtain ⟨j, m1, a1⟩ := calleeF_mem h
    obtain ⟨o1, o2⟩ := Fr.off j a a1
    constructor
    · unfold calleeB
      rw [if_neg]
      · exact o1
      · rintro ⟨j', m2, a2⟩
        have := Fr.dis j j' a a1 a2
        subst this
        exact ap1 _ m1 m2
    · unfold calleeP
      rw [if_pos ⟨(i, j), m1, a1⟩]

/-- back in the caller -/
theorem call_out (Fr : Fm K P B H σ env fps) (hv : Paired (RvS K B σ) rs vs) {cenv cenv' env' : Env} (ec : argOs io env 0 rs = some cenv) (ha : apart (ioSlots io 0 rs) (lentSlots io 0 rs) = true)
    {H2 B2 : Hp} {σ2 : L2.St} {fps2 : Nat → List Addr} (x : Ext (calleeP H fps (ioSlots io 0 rs)) (calleeB B H fps (lentSlots io 0 rs)) B2)
    (F2 : Fm K (calleeP H fps (ioSlots io 0 rs)) B2 H2 σ2 cenv' fps2) (hs2 : ∀ i ∈ io, σ2[i]? = (vs.map some)[i]?) (hb : backEnv cenv' (ioSlots io 0 rs) env = some env')
    (hf : (lentSlots io 0 rs).isEmpty = true ∨ allFlat cenv' (ioSlots io 0 rs) = true) :
    Ext P B (callerB B2 fps (lentSlots io 0 rs)) ∧ Fm K P (callerB B2 fps (lentSlots io 0 rs)) H2 σ env' (callerF fps fps2 (ioSlots io 0 rs)) ∧
      (∀ o v fp, OwnR K B2 H2 o v fp → ((lentSlots io 0 rs).isEmpty = true ∨ o.flat = true) → OwnR K (callerB B2 fps (lentSlots io 0 rs)) H2 o v fp) ∧
      (∀ a, B2 a = none → calleeP H fps (ioSlots io 0 rs) a = none → (∀ i ∈ io, a ∉ fps2 i) → callerB B2 fps (lentSlots io 0 rs) a = none ∧ P a = none ∧ ∀ i, a ∉ callerF fps fps2 (ioSlots io 0 rs) i) := by
  obtain ⟨ap1, ap2⟩ := apart_of ha
  obtain ⟨len, get⟩ := argOs_get ec
  obtain ⟨bl, bk, bj⟩ := backEnv_get ap2 hb
  generalize hjs : ioSlots io 0 rs = js at *
  generalize hls : lentSlots io 0 rs = ls at *
  have mio : ∀ {k j}, (k, j) ∈ js → rs[k]? = some (.pl j) ∧ k ∈ io := fun {k j} h => by
    rw [← hjs] at h
    obtain ⟨_, h2, h3⟩ := ioSlots_mem h
    exact ⟨by simpa using h2, List.contains_iff_mem.mp h3⟩
  have notIo : ∀ {j a}, a ∈ fps j → (∀ k, (k, j) ∉ js) → ¬ inIo fps js a := fun {j a} h1 h2 ⟨q, m, h3⟩ => by
    have := Fr.dis j q.2 a h1 h3
    subst this
    exact h2 q.1 m
  have pIo : ∀ {a}, (∀ ps, H a ≠ some (.tbl ps)) → ¬ inIo fps js a → calleeP H fps js a = H a := fun {a} hT h => by unfold calleeP; rw [if_neg h, noTb_of hT]
  have ownNone : ∀ {j a}, a ∈ fps j → P a = none := fun {j a} h => (Fr.off j a h).2
  have ioP : ∀ {a}, inIo fps js a → P a = none := fun {a} ⟨q, _, h⟩ => ownNone h
  have lentB : ∀ {a}, inLent fps ls a → B a = none ∧ P a = none := fun {a} ⟨j, _, h⟩ => Fr.off j a h
  have pl : ∀ {a o}, P a = some o → calleeP H fps js a = some o := fun {a o} e => by
    rw [pIo (fun ps e2 => Fr.npT a ps (by rw [e]; rw [Fr.prt _ _ e] at e2; exact e2)) fun z => by rw [ioP z] at e; cases e]
    exact Fr.prt _ _ e
  have cB : ∀ {a}, ¬ inLent fps ls a → calleeB B H fps ls a = B a := fun {a} h => by unfold calleeB; rw [if_neg h]
  have kB : ∀ {a}, ¬ inLent fps ls a → callerB B2 fps ls a = B2 a := fun {a} h => by unfold callerB; rw [if_neg h]
  have subB : Sub B (callerB B2 fps ls) := fun a o e => by
    have nl : ¬ inLent fps ls a := fun z => by rw [(lentB z).1] at e; cases e
    rw [kB nl]
    exact x.1 _ _ (by rw [cB nl]; exact e)
  have ext : Ext P B (callerB B2 fps ls) := ⟨subB, fun a o e => by
    have nl : ¬ inLent fps ls a := fun z => by rw [(lentB z).2] at e; cases e
    rw [kB nl, x.2 _ _ (pl e), cB nl]⟩
  -- what is flat leans on no lent list
  have lentL : ∀ {a}, inLent fps ls a → ∃ vs', B2 a = some (.lst vs') := fun {a} ⟨j, hj, hm⟩ => by
      -- the lent list stands in the callee's frozen part as a list
      have hp : calleeP H fps js a = H a := pIo (Fr.ownT _ _ hm) (notIo hm fun k hk => ap1 _ hk hj)
      have hd := Fr.dom j a hm
      cases e : H a with
      | none => exact absurd e hd
      | some o =>
        rw [e] at hp
        have e2 : B2 a = some o := by
          rw [x.2 _ _ hp]
          unfold calleeB
          rw [if_pos ⟨j, hj, hm⟩]
          exact e
        -- o is a list: it came from a lent slot
        rw [← hls] at hj
        have key : ∃ vs', o = .lst vs' := by
          have := hj
          have lm : ∀ (rs : List Rv) (k0 : Nat), j ∈ lentSlots io k0 rs → ∃ k, k0 ≤ k ∧ rs[k - k0]? = some (.pl j) ∧ ¬ io.contains k = true := by
            intro rs
            induction rs with
            | nil => intro k0 h; simp [lentSlots] at h
            | cons r rs ih =>
              intro k0 h
              have tl : j ∈ lentSlots io (k0 + 1) rs → ∃ k, k0 ≤ k ∧ (r :: rs)[k - k0]? = some (.pl j) ∧ ¬ io.contains k = true := fun h => by
                obtain ⟨k, q1, q2, q3⟩ := ih (k0 + 1) h
                refine ⟨k, by omega, ?_, q3⟩
                have e' : k - k0 = (k - (k0 + 1)) + 1 := by omega
                rw [e', List.getElem?_cons_succ]
                exact q2
              unfold lentSlots at h
              split at h
              · rename_i eq; cases eq
              · rename_i eq
                cases eq
                split at h
                · exact tl h
                · rename_i hc
                  rcases List.mem_cons.mp h with e' | h
                  · subst e'
                    exact ⟨_, Nat.le_refl _, by simp, hc⟩
                  · exact tl h
              · rename_i eq
                cases eq
                exact tl h
          obtain ⟨k, _, q2, q3⟩ := lm rs 0 hj
          obtain ⟨o', w1, w2⟩ := get k _ (by simpa using q2)
          rw [Nat.zero_add] at w1
          unfold argO at w1
          simp only at w1
          obtain ⟨v, _, hs⟩ := pairedGet' hv (by simpa using q2)
          split at w1
          · rename_i ds he
            obtain ⟨b, ws', rfl, hf', e1, _⟩ := (Fr.pl he hs).lst_inv
            rw [hf'] at hm
            have : a = b := by simpa using hm
            subst this
            rw [e] at e1
            exact ⟨ws', Option.some.inj e1⟩
          · rw [if_neg q3] at w1
            cases w1
          · cases w1
        obtain ⟨vs', rfl⟩ := key
        exact ⟨vs', e2⟩
  have tupK : ∀ a ws, Rd B2 a (.tup ws) → Rd (callerB B2 fps ls) a (.tup ws) := fun a ws h => by
    have nl : ¬ inLent fps ls a := fun z => by
      obtain ⟨vs', e2⟩ := lentL z
      rcases h with h | ⟨_, h⟩ <;> · rw [e2] at h; cases h
    rcases h with h | ⟨o, h⟩
    · exact .inl (by rw [kB nl]; exact h)
    · exact .inr ⟨o, by rw [kB nl]; exact h⟩
  have same : ls.isEmpty = true → callerB B2 fps ls = B2 := fun h => by
    funext a
    exact kB fun ⟨j, hj, _⟩ => by rw [List.isEmpty_iff.mp h] at hj; simp at hj
  have trans : ∀ o v fp, OwnR K B2 H2 o v fp → (ls.isEmpty = true ∨ o.flat = true) → OwnR K (callerB B2 fps ls) H2 o v fp := fun o v fp r h => by
    rcases h with h | h
    · rw [same h]; exact r
    · exact r.flat h tupK
  have fIo : ∀ {k j}, (k, j) ∈ js → callerF fps fps2 js j = fps2 k := fun {k j} h => by
    unfold callerF
    have hex : ∃ k, (k, j) ∈ js := ⟨k, h⟩
    rw [dif_pos hex, pw_inj ap2 (choose_spec hex) h]
  have fNo : ∀ {j}, (∀ k, (k, j) ∉ js) → callerF fps fps2 js j = fps j := fun {j} h => by
    unfold callerF
    rw [dif_neg fun ⟨k, hk⟩ => h k hk]
  have keepP : ∀ {a o}, calleeP H fps js a = some o → H2 a = some o := fun {a o} e => F2.prt _ _ e
  refine ⟨ext, ⟨by rw [bl]; exact Fr.len, fun a o e => ?_, fun a o e => keepP (pl e), fun j o e => ?_, fun j e => ?_, fun i j a h1 h2 => ?_, fun j a h => ?_, ?_, fun a ps e => ?_, Fr.npT⟩, trans, fun a hb2 hp2 hi2 => ?_⟩
  rotate_left 5
  · have cdK : ∀ {c q}, B2 c = some (LamX.CodeO c q) → callerB B2 fps ls c = some (LamX.CodeO c q) := fun {c q} e2 => by
      rw [kB fun z => ?_]
      · exact e2
      · obtain ⟨vs', e3⟩ := lentL z
        rw [e3] at e2
        exact notC_lst c q (Option.some.inj e2)
    refine ⟨fun a q e => cdK (F2.tab.1 a q e), fun p hp => ?_⟩
    obtain ⟨ps, h1, h2, h3⟩ := F2.tab.2 p hp
    refine ⟨ps, h1, h2, fun pos cv e => ?_⟩
    obtain ⟨c, e1, e2⟩ := h3 pos cv e
    exact ⟨c, e1, cdK e2⟩
  · unfold callerB at e
    split at e
    · cases e
    · exact F2.nbT a ps e
  rotate_left 1
  · unfold callerB at e
    split at e
    · cases e
    · exact F2.sub _ _ e
  · by_cases hj : ∃ k, (k, j) ∈ js
    · obtain ⟨k, hk⟩ := hj
      obtain ⟨hr, hkio⟩ := mio hk
      have hlt : j < env.length := by
        have : j < env'.length := (List.getElem?_eq_some_iff.mp e).1
        rw [bl] at this
        exact this
      obtain ⟨o', e1, e2⟩ := bj k j hk hlt
      rw [e] at e2
      cases e2
      obtain ⟨v, s1, r1⟩ := F2.slot k o e1
      rw [hs2 k hkio] at s1
      obtain ⟨v', hv1, hv2⟩ := pairedGet' hv hr
      have : v = v' := by
        rw [List.getElem?_map, hv1] at s1
        simpa using s1.symm
      subst this
      rw [fIo hk]
      refine ⟨v, hv2, trans _ _ _ r1 (hf.imp id fun q => allFlat_get q k j o hk e1)⟩
    · have hj' : ∀ k, (k, j) ∉ js := fun k hk => hj ⟨k, hk⟩
      rw [bk j fun q hq hqj => hj' q.1 (by rw [← hqj]; exact hq)] at e
      obtain ⟨v, s1, r1⟩ := Fr.slot j o e
      rw [fNo hj']
      refine ⟨v, s1, r1.congr subB fun a ha' => ?_⟩
      cases e3 : H a with
      | none => exact absurd e3 (Fr.dom j a ha')
      | some u =>
        exact keepP (by rw [pIo (Fr.ownT _ _ ha') (notIo ha' hj')]; exact e3)
  · by_cases hj : ∃ k, (k, j) ∈ js
    · obtain ⟨k, hk⟩ := hj
      by_cases hlt : j < env.length
      · obtain ⟨o', e1, e2⟩ := bj k j hk hlt
        rcases e with e | e <;> · rw [e2] at e; cases e
      · obtain ⟨hr, hkio⟩ := mio hk
        obtain ⟨v', hv1, hv2⟩ := pairedGet' hv hr
        have : σ[j]? = some (some v') := hv2
        have h2 : j < σ.length := (List.getElem?_eq_some_iff.mp this).1
        rw [← Fr.len] at h2
        exact absurd h2 hlt
    · have hj' : ∀ k, (k, j) ∉ js := fun k hk => hj ⟨k, hk⟩
      rw [bk j fun q hq hqj => hj' q.1 (by rw [← hqj]; exact hq)] at e
      rw [fNo hj']
      exact Fr.emp j e
  · -- unlike slots own unlike cells
    have cross : ∀ {k i j}, (k, i) ∈ js → a ∈ fps2 k → a ∈ fps j → (∀ k, (k, j) ∉ js) → False := fun {k i j} hk h1 h2 hj => by
      have q := (F2.off k a h1).2
      rw [pIo (Fr.ownT _ _ h2) (notIo h2 hj)] at q
      exact Fr.dom j a h2 q
    by_cases hi : ∃ k, (k, i) ∈ js
    · obtain ⟨k, hk⟩ := hi
      rw [fIo hk] at h1
      by_cases hj : ∃ k, (k, j) ∈ js
      · obtain ⟨k', hk'⟩ := hj
        rw [fIo hk'] at h2
        have := F2.dis k k' a h1 h2
        subst this
        have q1 := (mio hk).1
        rw [(mio hk').1] at q1
        cases q1
        rfl
      · have hj' : ∀ k, (k, j) ∉ js := fun k hk => hj ⟨k, hk⟩
        rw [fNo hj'] at h2
        exact (cross hk h1 h2 hj').elim
    · have hi' : ∀ k, (k, i) ∉ js := fun k hk => hi ⟨k, hk⟩
      rw [fNo hi'] at h1
      by_cases hj : ∃ k, (k, j) ∈ js
      · obtain ⟨k', hk'⟩ := hj
        rw [fIo hk'] at h2
        exact (cross hk' h2 h1 hi').elim
      · have hj' : ∀ k, (k, j) ∉ js := fun k hk => hj ⟨k, hk⟩
        rw [fNo hj'] at h2
        exact Fr.dis i j a h1 h2
  · by_cases hj : ∃ k, (k, j) ∈ js
    · obtain ⟨k, hk⟩ := hj
      rw [fIo hk] at h
      obtain ⟨o1, o2⟩ := F2.off k a h
      refine ⟨?_, ?_⟩
      · unfold callerB
        split
        · rfl
        · exact o1
      · cases e : P a with
        | none => rfl
        | some o => rw [pl e] at o2; cases o2
    · have hj' : ∀ k, (k, j) ∉ js := fun k hk => hj ⟨k, hk⟩
      rw [fNo hj'] at h
      obtain ⟨o1, o2⟩ := Fr.off j a h
      refine ⟨?_, o2⟩
      by_cases hl : inLent fps ls a
      · unfold callerB
        rw [if_pos hl]
      · rw [kB hl]
        have hp : calleeP H fps js a = H a := pIo (Fr.ownT _ _ h) (notIo h hj')
        cases e : H a with
        | none => exact absurd e (Fr.dom j a h)
        | some u =>
          rw [e] at hp
          rw [x.2 _ _ hp, cB hl]
          exact o1
  · refine ⟨?_, ?_, fun j hj => ?_⟩
    · unfold callerB
      split
      · rfl
      · exact hb2
    · cases e : P a with
      | none => rfl
      | some o => rw [pl e] at hp2; cases hp2
    · by_cases hex : ∃ k, (k, j) ∈ js
      · obtain ⟨k, hk⟩ := hex
        rw [fIo hk] at hj
        exact hi2 k (mio hk).2 hj
      · have hj' : ∀ k, (k, j) ∉ js := fun k hk => hex ⟨k, hk⟩
        rw [fNo hj'] at hj
        rw [pIo (Fr.ownT _ _ hj) (notIo hj hj')] at hp2
        exact Fr.dom j a hj hp2
end

section
variable {X : Cx} {cl : String → Addr} {E : XK} {e : Expr} {es : List Expr} {ms : M (List Rv)} {pos p : Pos} {n k : Nat} {io : List Nat} {F : M O} {CXc : CXT} {f : Addr} {fd : FuncData} {ps : List Str} {x : Str}
theorem call_post {P B H : Hp} {σ : L2.St} {env : Env} {fps : Nat → List Addr} {rs : List Rv} {vs : List V} {Q : VK} (Fr : Fm X.K P B H σ env fps) (hv : Paired (RvS X.K B σ) rs vs)
    (h : PostE X.K cl E P B σ (match argOs io env 0 rs with
  | some cenv => if apart (ioSlots io 0 rs) (lentSlots io 0 rs) = true then
      match F cenv with
      | .ok o cenv' => if ((lentSlots io 0 rs).isEmpty || (o.flat && allFlat cenv' (ioSlots io 0 rs))) = true then
          match backEnv cenv' (ioSlots io 0 rs) env with
          | some env' => .ok o.rv env'
          | none => .stuck
        else .stuck
      | .ex x cenv' => if ((lentSlots io 0 rs).isEmpty || allFlat cenv' (ioSlots io 0 rs)) = true then
          match backEnv cenv' (ioSlots io 0 rs) env with
          | some env' => .ex x env'
          | none => .stuck
        else .stuck
      | .stuck => .stuck
    else .stuck
  | none => .stuck) Q) : ∃ P B env fps, Fm X.K P B H (vs.map some) env fps ∧ PostF X.K cl E io vs P B (F env) Q := by
  split at h
  · rename_i cenv ec
    split at h
    · rename_i ha
      refine ⟨_, _, cenv, _, call_in Fr hv ec ha, ?_⟩
      split at h
      · rename_i o cenv' eF
        rw [eF]
        split at h
        · rename_i hc
          split at h
          · rename_i env' eb
            intro v H' B' fps2 σ' fp x2 F2 hs2 r2 off2
            have hc' : (lentSlots io 0 rs).isEmpty = true ∨ (o.flat = true ∧ allFlat cenv' (ioSlots io 0 rs) = true) := by
              rw [Bool.or_eq_true, Bool.and_eq_true] at hc
              exact hc
            obtain ⟨ex, F3, tr, nw⟩ := call_out Fr hv ec ha x2 F2 hs2 eb (hc'.imp id And.right)
            have r3 := tr o v fp r2 (hc'.imp id And.left)
            refine h v H' _ _ ex F3 ?_
            cases o with
            | dat d => exact r3.dat_inv.1
            | lst ds => exact ⟨fp, r3, fun a hm => nw a (off2 a hm).1 (off2 a hm).2.1 (off2 a hm).2.2⟩
            | tpl ds => exact ⟨fp, r3, fun a hm => nw a (off2 a hm).1 (off2 a hm).2.1 (off2 a hm).2.2⟩
            | dct ds => exact ⟨fp, r3, fun a hm => nw a (off2 a hm).1 (off2 a hm).2.1 (off2 a hm).2.2⟩
          · exact h.elim
        · exact h.elim
      · rename_i c cenv' eF
        rw [eF]
        split at h
        · rename_i hc
          split at h
          · rename_i env' eb
            intro H' B' fps2 σ' x2 F2 hs2
            rw [Bool.or_eq_true] at hc
            obtain ⟨ex, F3, tr, nw⟩ := call_out Fr hv ec ha x2 F2 hs2 eb hc
            exact h H' _ _ ex F3
          · exact h.elim
        · exact h.elim
      · exact h.elim
    · exact h.elim
  · exact h.elim
theorem tCall_of (hl : Len ms n) {σ : L2.St} {H : Hp} {Q : VK} (h : tM X.K cl E (mCall io F ms) σ H Q) : tCall (spF X.K cl n io F) [] E (tMA X.K cl E ms) σ H Q := by
  obtain ⟨P, B, env, fps, Fr, h⟩ := h
  refine ⟨P, B, env, fps, Fr, ?_⟩
  have h1 := postE_bnd h
  cases q : ms env with
  | ok rs env1 =>
    rw [q] at h1
    intro H1 B1 fps1 x1 F1 vs hv
    show spF X.K cl n io F (vs ++ []) H1 Q E
    rw [List.append_nil]
    exact ⟨by rw [← hv.length]; exact hl _ _ _ q, call_post F1 hv (h1 H1 B1 fps1 x1 F1)⟩
  | ex c env1 => rw [q] at h1; exact h1
  | stuck => rw [q] at h1; exact h1.elim
theorem de_call (Fn : FnOk X.prog X.w X.K X.mg X.base CXc k f fd ps (spF X.K cl n io F)) (hr : Room k X.A) (hg : Gl X x) (hm : X.mg x = some (.ref f)) (hk : PySem.W.keepIn X.K (.ref f) = true) (hb : Binds X.K fd ps []) (hx : Passes CXc X E)
    (ha : DA X cl E (e :: es) ms) (hl : Len ms n) (hdb : (x == ("__debug__" : Str)) = false := by decide) (he : starEach (e :: es) X.env = (false, eval e X.env) :: starEach es X.env := by rfl) (hpl : (backTo pos (starEach es X.env)).any (·.1) = false := by rfl) :
    DE X cl E (.Call (.Name x p) (e :: es) [] pos) (mCall io F ms) :=
  ⟨fun pins s σ H Q I h => (pe_call Fn hr hg hm hk hb .nil hx ha hdb he hpl).run pins s σ H Q I (tCall_of hl h)⟩
theorem de_call0 (Fn : FnOk X.prog X.w X.K X.mg X.base CXc k f fd ps (spF X.K cl 0 io F)) (hr : Room k X.A) (hg : Gl X x) (hm : X.mg x = some (.ref f)) (hk : PySem.W.keepIn X.K (.ref f) = true) (hb : Binds X.K fd ps []) (hx : Passes CXc X E)
    (hdb : (x == ("__debug__" : Str)) = false := by decide) : DE X cl E (.Call (.Name x p) [] [] pos) (mCall io F mNil) := by
  refine ⟨fun pins s σ H Q I h => (pe_call0 Fn hr hg hm hk hb .nil hx hdb).run pins s σ H Q I ?_⟩
  obtain ⟨P, B, env, fps, Fr, h⟩ := h
  show spF X.K cl 0 io F ([] ++ []) H Q E
  exact ⟨rfl, call_post (rs := []) Fr .nil h⟩
end
end Mi

set_option Elab.async false
set_option linter.all false
set_option maxRecDepth 100000
namespace Mi
open PySem PySem.Spec L2

/-! ### methods that change a slot's own list -/
section
variable {K : PySem.W.Frag} {cl : String → Addr} {E : XK} {P B H : Hp} {σ : L2.St} {env : Env} {fps : Nat → List Addr}
theorem getElem?_lt {α : Type} {l : List α} {i : Nat} {x : α} (h : l[i]? = some x) : i < l.length := (List.getElem?_eq_some_iff.mp h).1
/-- a slot's own cell has another content -/
theorem Fm.write (F : Fm K P B H σ env fps) {i : Nat} {a : Addr} {h : HO} {o o' : O} {v : V} (e : env[i]? = some (some o)) (hv : σ[i]? = some (some v)) (hf : fps i = [a]) (r : OwnR K B (upd H a h) o' v [a]) (hc : notC h := by first | exact notC_lst | exact notC_tup | exact notC_dK | assumption) :
    Fm K P B (upd H a h) σ (env.set i (some o')) fps := by
  obtain ⟨hb, hp⟩ := F.off i a (by rw [hf]; simp)
  refine ⟨by simpa using F.len, fun b u q => ?_, fun b u q => ?_, fun j o2 q => ?_, fun j q => ?_, F.dis, F.off, F.tab.put (F.ownT i a (by rw [hf]; simp)) hc, F.nbT, F.npT⟩
  · rw [upd_ne (ne_of_none q hb)]; exact F.sub _ _ q
  · rw [upd_ne (ne_of_none q hp)]; exact F.prt _ _ q
  · rcases env_set q with ⟨rfl, z⟩ | ⟨hj, q⟩
    · cases z
      exact ⟨v, hv, by rw [hf]; exact r⟩
    · obtain ⟨w, e1, r1⟩ := F.slot j o2 q
      refine ⟨w, e1, r1.congr Sub.refl fun b hb' => upd_ne fun z => hj (F.dis j i b hb' (by rw [hf, z]; simp))⟩
  · rcases q with q | q
    · rcases env_set q with ⟨_, z⟩ | ⟨_, q⟩
      · cases z
      · exact F.emp j (.inl q)
    · exact F.emp j (.inr (env_set_none q))
end
/-- what a method gives and leaves -/
def RuM (K : PySem.W.Frag) (r : V → List V → Hp → VK → Prop) (g : List D → List D → Option (D × List D)) : Prop :=
  ∀ (H B : Hp) (a : Addr) (ws : List V) (zs xs : List D) (vs : List V) (d : D) (zs' : List D) (Q : VK), Sub B H → H a = some (.lst ws) → RDs K B zs ws → Paired (Rd1 K B H) xs vs → g zs xs = some (d, zs') →
    (∀ v' ws', RD K B d v' → RDs K B zs' ws' → Q v' (upd H a (.lst ws'))) → r (.ref a) vs H Q
/-- .. whose arguments are kept in the list -/
def RuMF (K : PySem.W.Frag) (r : V → List V → Hp → VK → Prop) (g : List D → List D → Option (D × List D)) : Prop :=
  ∀ (H B : Hp) (a : Addr) (ws : List V) (zs xs : List D) (vs : List V) (d : D) (zs' : List D) (Q : VK), Sub B H → H a = some (.lst ws) → RDs K B zs ws → RDs K B xs vs → g zs xs = some (d, zs') →
    (∀ v' ws', RD K B d v' → RDs K B zs' ws' → Q v' (upd H a (.lst ws'))) → r (.ref a) vs H Q
def chkL (i : Nat) : M Unit := fun env => match env[i]? with
  | some (some (.lst _)) => .ok () env
  | _ => .stuck
/-- o.m(..) with arguments that are read -/
def mMet (i : Nat) (g : List D → List D → Option (D × List D)) (ms : M (List Rv)) : M Rv := bnd (chkL i) fun _ => bnd ms fun rs env => match env[i]?, resAll env rs with
  | some (some (.lst zs)), some xs => match g zs xs with
    | some (d, zs') => .ok (.d d) (env.set i (some (.lst zs')))
    | none => .stuck
  | _, _ => .stuck
/-- .. that are kept -/
def mMetF (i : Nat) (g : List D → List D → Option (D × List D)) (ms : M (List Rv)) : M Rv := bnd (chkL i) fun _ => bnd (mFr ms) fun xs env => match env[i]? with
  | some (some (.lst zs)) => match g zs xs with
    | some (d, zs') => .ok (.d d) (env.set i (some (.lst zs')))
    | none => .stuck
  | _ => .stuck
section
variable {X : Cx} {cl : String → Addr} {E : XK} {e : Expr} {es : List Expr} {ms : M (List Rv)} {i n : Nat} {g : List D → List D → Option (D × List D)} {r : V → List V → Hp → VK → Prop} {x name : Str} {id : String} {p apos cpos : Pos}
theorem chk_in {α : Type} {k : M Rv} {P B H : Hp} {σ : L2.St} {env : Env} {Q : VK} (h : PostE X.K cl E P B σ (bnd (chkL i) (fun _ => k) env) Q) : (∃ zs, env[i]? = some (some (.lst zs))) ∧ PostE X.K cl E P B σ (k env) Q := by
  unfold bnd chkL at h
  split at h
  · rename_i zs e
    exact ⟨⟨_, e⟩, h⟩
  · exact h.elim
theorem met_to {P B H : Hp} {σ : L2.St} {env : Env} {fps : Nat → List Addr} (F : Fm X.K P B H σ env fps) {zs : List D} (e : env[i]? = some (some (.lst zs))) : ∃ a ws, σ[i]? = some (some (.ref a)) ∧ fps i = [a] ∧ H a = some (.lst ws) ∧ RDs X.K B zs ws := by
  obtain ⟨v, e1, r⟩ := F.slot i _ e
  obtain ⟨a, ws, rfl, hf, h, rd⟩ := r.lst_inv
  exact ⟨a, ws, e1, hf, h, rd⟩
theorem de_met (slot : Slot "list" name id) (pa : PlainAttrs "list") (hty : typeOf (.builtin id) = pure (.type "method_descriptor")) (hm : MtR X id r) (hr : RuM X.K r g) (hN : X.N[i]? = some x) (hv : Vis X.env.scope x) (ha : DA X cl E (e :: es) ms)
    (hdb : (x == ("__debug__" : Str)) = false := by decide) (hcd : (x == ("__classdict__" : Str)) = false := by decide)
    (hbase : attributeBase (.Name x p) name X.env (eval (.Name x p) X.env) = eval (.Name x p) X.env := by rfl)
    (hfew : ((backTo cpos (starEach (e :: es) X.env)).all (fun x => !x.1) && (backToKw cpos (keywordEach [] X.env)).all (fun x => x.1.isSome)
      && decide ((e :: es).length + ([] : List Keyword).length + (if ([] : List Keyword).isEmpty then 0 else 1) < 30)) = true := by rfl)
    (hline : (apos.endLine == cpos.line) = true := by rfl) (hs : starEach (e :: es) X.env = (false, eval e X.env) :: starEach es X.env := by rfl) (hplain : (backTo cpos (starEach es X.env)).any (·.1) = false := by rfl) :
    DE X cl E (.Call (.Attribute (.Name x p) name apos) (e :: es) [] cpos) (mMet i g ms) := by
  refine ⟨fun pins s σ H Q I h => (pe_bm pa slot hty hm (pe_var hN hv hdb hcd) ha hbase hfew hline hs hplain).run pins s σ H Q I ?_⟩
  obtain ⟨P, B, env, fps, F, h⟩ := h
  obtain ⟨⟨zs0, e0⟩, h⟩ := chk_in (H := H) (α := Unit) h
  obtain ⟨a, ws0, s0, hf0, h0, _⟩ := met_to F e0
  refine ⟨_, s0, .inl ⟨rfl, _, SqL.of h0⟩, P, B, env, fps, F, (postE_bnd h).mono fun rs H1 B1 fps1 env1 x1 F1 h1 vs hv => ?_⟩
  split at h1
  · rename_i zs xs e1 e2
    split at h1
    · rename_i d zs' eg
      obtain ⟨b, ws, s1, hf, hb, rd⟩ := met_to F1 e1
      rw [s0] at s1
      cases s1
      refine hr H1 B1 a ws zs xs vs d zs' Q F1.sub hb rd (F1.resAll hv e2) eg fun v' ws' r1 r2 => ?_
      exact h1 v' _ B1 fps1 Ext.refl (F1.write e1 s0 hf (.lst upd_same r2)) r1
    · exact h1.elim
  · exact h1.elim
theorem de_metF (slot : Slot "list" name id) (pa : PlainAttrs "list") (hty : typeOf (.builtin id) = pure (.type "method_descriptor")) (hm : MtR X id r) (hr : RuMF X.K r g) (hN : X.N[i]? = some x) (hv : Vis X.env.scope x) (ha : DA X cl E (e :: es) ms) (hl : Len ms n)
    (hdb : (x == ("__debug__" : Str)) = false := by decide) (hcd : (x == ("__classdict__" : Str)) = false := by decide)
    (hbase : attributeBase (.Name x p) name X.env (eval (.Name x p) X.env) = eval (.Name x p) X.env := by rfl)
    (hfew : ((backTo cpos (starEach (e :: es) X.env)).all (fun x => !x.1) && (backToKw cpos (keywordEach [] X.env)).all (fun x => x.1.isSome)
      && decide ((e :: es).length + ([] : List Keyword).length + (if ([] : List Keyword).isEmpty then 0 else 1) < 30)) = true := by rfl)
    (hline : (apos.endLine == cpos.line) = true := by rfl) (hs : starEach (e :: es) X.env = (false, eval e X.env) :: starEach es X.env := by rfl) (hplain : (backTo cpos (starEach es X.env)).any (·.1) = false := by rfl) :
    DE X cl E (.Call (.Attribute (.Name x p) name apos) (e :: es) [] cpos) (mMetF i g ms) := by
  refine ⟨fun pins s σ H Q I h => (pe_bm pa slot hty hm (pe_var hN hv hdb hcd) ha hbase hfew hline hs hplain).run pins s σ H Q I ?_⟩
  obtain ⟨P, B, env, fps, F, h⟩ := h
  obtain ⟨⟨zs0, e0⟩, h⟩ := chk_in (H := H) (α := Unit) h
  obtain ⟨a, ws0, s0, hf0, h0, _⟩ := met_to F e0
  refine ⟨_, s0, .inl ⟨rfl, _, SqL.of h0⟩, P, B, env, fps, F, (post_fr hl h).mono fun rs H1 B1 fps1 env1 x1 F1 q vs hv => ?_⟩
  obtain ⟨xs, B2, fps2, env2, en, x2, F2, r2, h1⟩ := q vs hv
  split at h1
  · rename_i zs e1
    split at h1
    · rename_i d zs' eg
      obtain ⟨b, ws, s1, hf, hb, rd⟩ := met_to F2 e1
      rw [s0] at s1
      cases s1
      refine hr H1 B2 a ws zs xs vs d zs' Q F2.sub hb rd r2 eg fun v' ws' r1 r3 => ?_
      exact h1 v' _ B2 fps2 Ext.refl (F2.write e1 s0 hf (.lst upd_same r3)) r1
    · exact h1.elim
  · exact h1.elim
theorem de_met0 (slot : Slot "list" name id) (pa : PlainAttrs "list") (hty : typeOf (.builtin id) = pure (.type "method_descriptor")) (hm : MtR X id r) (hr : RuM X.K r g) (hN : X.N[i]? = some x) (hv : Vis X.env.scope x)
    (hdb : (x == ("__debug__" : Str)) = false := by decide) (hcd : (x == ("__classdict__" : Str)) = false := by decide)
    (hbase : attributeBase (.Name x p) name X.env (eval (.Name x p) X.env) = eval (.Name x p) X.env := by rfl) (hline : (apos.endLine == cpos.line) = true := by rfl) :
    DE X cl E (.Call (.Attribute (.Name x p) name apos) [] [] cpos) (mMet i g mNil) := by
  refine ⟨fun pins s σ H Q I h => (pe_bm0 pa slot hty hm (pe_var hN hv hdb hcd) hbase hline).run pins s σ H Q I ?_⟩
  obtain ⟨P, B, env, fps, F, h⟩ := h
  obtain ⟨⟨zs0, e0⟩, h⟩ := chk_in (H := H) (α := Unit) h
  obtain ⟨a, ws0, s0, hf0, h0, rd⟩ := met_to F e0
  refine ⟨_, s0, .inl ⟨rfl, _, SqL.of h0⟩, ?_⟩
  have h1 : PostE X.K cl E P B σ (match env[i]?, resAll env [] with
    | some (some (.lst zs)), some xs => match g zs xs with
      | some (d, zs') => .ok (.d d) (env.set i (some (.lst zs')))
      | none => .stuck
    | _, _ => .stuck) Q := h
  rw [e0] at h1
  unfold resAll at h1
  dsimp only at h1
  split at h1
  · rename_i d zs' eg
    exact hr H B a ws0 zs0 [] [] d zs' Q F.sub h0 rd .nil eg fun v' ws' r1 r2 => h1 v' _ B fps Ext.refl (F.write e0 s0 hf0 (.lst upd_same r2)) r1
  · exact h1.elim

/-! the methods -/
def gApp : List D → List D → Option (D × List D)
  | zs, [x] => if zs.length < sizeLine then some (.none, zs ++ [x]) else none
  | _, _ => none
theorem ru_app {K : PySem.W.Frag} : RuMF K rAppend gApp := by
  intro H B a ws zs xs vs d zs' Q hs ha rz rx e hq
  unfold gApp at e
  split at e
  · split at e
    · rename_i hz
      cases e
      cases rx with
      | cons r t =>
        cases t
        exact ⟨a, ws, _, rfl, rfl, ha, by rw [RDs.length _ _ rz]; exact hz, hq _ _ .non (rz.append (.cons r .nil))⟩
    · cases e
  · cases e
def gIns : List D → List D → Option (D × List D)
  | zs, [.int i, x] => if zs.length < sizeLine ∧ 0 ≤ i ∧ i < 2 ^ 63 then some (.none, zs.take i.toNat ++ [x] ++ zs.drop i.toNat) else none
  | _, _ => none
theorem ru_ins {K : PySem.W.Frag} : RuMF K (fun x vs H Q => ∃ (l : Addr) (xs : List V) (i : Int) (y : V), x = .ref l ∧ vs = [.int i, y] ∧ H l = some (.lst xs) ∧ xs.length < sizeLine ∧ 0 ≤ i ∧ i < 2 ^ 63 ∧
    Q .non (upd H l (.lst (xs.take i.toNat ++ [y] ++ xs.drop i.toNat)))) gIns := by
  intro H B a ws zs xs vs d zs' Q hs ha rz rx e hq
  unfold gIns at e
  split at e
  · split at e
    · rename_i hz
      cases e
      cases rx with
      | cons r t =>
        cases t with
        | cons r2 t =>
          cases t
          cases r
          exact ⟨a, ws, _, _, rfl, rfl, ha, by rw [RDs.length _ _ rz]; exact hz.1, hz.2.1, hz.2.2, hq _ _ .non (((rz.take _).append (.cons r2 .nil)).append (rz.drop _))⟩
    · cases e
  · cases e
def gPop0 : List D → List D → Option (D × List D)
  | zs, [] => zs[zs.length - 1]?.map fun d => (d, zs.dropLast)
  | _, _ => none
theorem ru_pop0 {K : PySem.W.Frag} : RuM K rPop gPop0 := by
  intro H B a ws zs xs vs d zs' Q hs ha rz rx e hq
  unfold gPop0 at e
  split at e
  · obtain ⟨d', e1, e2⟩ := Option.map_eq_some_iff.mp e
    cases e2
    cases rx
    obtain ⟨v, hv, r⟩ := rz.get e1
    exact ⟨a, ws, v, rfl, rfl, ha, by rw [RDs.length _ _ rz]; exact hv, hq _ _ r rz.dropLast⟩
  · cases e
def gPopI : List D → List D → Option (D × List D)
  | zs, [.int i] => if -(2 ^ 63) ≤ i ∧ i < 2 ^ 63 then (match seqIndex? i zs.length with
    | some k => zs[k]?.map fun d => (d, zs.eraseIdx k)
    | none => none) else none
  | _, _ => none
theorem ru_popI {K : PySem.W.Frag} : RuM K rPopAt gPopI := by
  intro H B a ws zs xs vs d zs' Q hs ha rz rx e hq
  unfold gPopI at e
  split at e
  · split at e
    · rename_i hi
      split at e
      · rename_i k hk
        obtain ⟨d', e1, e2⟩ := Option.map_eq_some_iff.mp e
        cases e2
        obtain ⟨v', rfl, r1⟩ := paired1 rx
        cases r1.int
        obtain ⟨v, hv, r⟩ := rz.get e1
        exact ⟨a, ws, _, k, v, rfl, rfl, ha, hi.1, hi.2, by rw [RDs.length _ _ rz]; exact hk, hv, hq _ _ r (rz.erase k)⟩
      · cases e
    · cases e
  · cases e
def gRev : List D → List D → Option (D × List D)
  | zs, [] => some (.none, zs.reverse)
  | _, _ => none
theorem ru_rev {K : PySem.W.Frag} : RuM K rReverse gRev := by
  intro H B a ws zs xs vs d zs' Q hs ha rz rx e hq
  unfold gRev at e
  split at e
  · cases e
    cases rx
    exact ⟨a, ws, rfl, rfl, ha, hq _ _ .non rz.reverse⟩
  · cases e
def gClr : List D → List D → Option (D × List D)
  | _, [] => some (.none, [])
  | _, _ => none
theorem ru_clr {K : PySem.W.Frag} : RuM K rClear gClr := by
  intro H B a ws zs xs vs d zs' Q hs ha rz rx e hq
  unfold gClr at e
  split at e
  · cases e
    cases rx
    exact ⟨a, ws, rfl, rfl, ha, hq _ _ .non .nil⟩
  · cases e
/-- extend by a list or a tuple, wherever it stands -/
theorem list_extendW (T : String) (hT : T = "list" ∨ T = "tuple") (l : Addr) (items : Array Value) (n : Nat) (b : Addr) (items2 : Array Value) (n2 : Nat) (dd2 : Option Addr) (sl2 : Array (Option Value)) (hs0 : ¬(!items.isEmpty && Builtin.List.listTooLong (items.size + items2.size)) = true) (hs1 : items.size ≤ sizeLine) (hs2 : items.size + items2.size ≤ sizeLine + 1) :
    Meets (Builtin.«list.extend» ⟨[.ref l, .ref b], []⟩) (fun _ R s => s.heap.get? l = some { cls := .type "list", dict := none, data := .seq items n, slots := #[] } ∧ s.heap.get? b = some { cls := .type T, dict := dd2, data := .seq items2 n2, slots := sl2 } ∧ R (.ok (.ret Value.none)) { s with heap := s.heap.update l (Obj.mapSeq fun x => x ++ items2), toks := s.toks }) :=
  .of_wp fun prog w A R s h => by
    obtain ⟨hp, g, d, tk, os⟩ := s; obtain ⟨hl, hb, h⟩ := h; have f1 := AutoSeq1.idx_int; have f2 := AutoSeq1.sub_tuple_tuple; have f3 := AutoSeq1.sub_list_list; have f4 := AutoSeq1.sub_tuple_list; have f5 := AutoSeq1.sub_list_tuple
    have hz' : (items ++ items2).size ≤ sizeLine + 1 := by rw [Array.size_append]; exact hs2
    rcases hT with rfl | rfl
    · wp_walk using (wpAny_updateSeq hl rfl (hz := hs1) (_hz' := hz')), AutoSeq1.wpAny_loadPart' hl, AutoSeq1.wpAny_loadPart' hb; exact ⟨_, rfl, h⟩
    · wp_walk using (wpAny_updateSeq hl rfl (hz := hs1) (_hz' := hz')), AutoSeq1.wpAny_loadPart' hl, AutoSeq1.wpAny_loadPart' hb; exact ⟨_, rfl, h⟩
/-- extend by a list or a tuple -/
def rExtA (K : PySem.W.Frag) : V → List V → Hp → VK → Prop := fun x vs H Q => ∃ l b xs zs, x = .ref l ∧ vs = [.ref b] ∧ H l = some (.lst xs) ∧ (SqL K H b zs ∨ SqT K H b zs) ∧ xs.length + zs.length ≤ sizeLine ∧ Q .non (upd H l (.lst (xs ++ zs)))
theorem mt_extA {X : Cx} : MtR X "list.extend" (rExtA X.K) := by
  intro pins s σ H x vs v us Q I rx rv h
  obtain ⟨l, b, xs, zs, rfl, rfl, hH, hB, hz, q⟩ := h
  cases rx
  obtain ⟨u, rfl, ru⟩ := vals1 rv
  cases ru
  obtain ⟨z, its, n, r, hl, e⟩ := I.lstM hH
  have key : ∃ (T : String) (its2 : List Value) (n2 : Nat) (dd2 : Option Addr) (sl2 : Array (Option Value)), (T = "list" ∨ T = "tuple") ∧ Vals zs its2 ∧ s.heap.get? b = some { cls := .type T, dict := dd2, data := .seq its2.toArray n2, slots := sl2 } := by
    rcases hB with hB | hB
    · obtain ⟨its2, r2, pl, _⟩ := I.list hB
      obtain ⟨⟨cls, dd, data, sl⟩, ho, hc, n, hd⟩ := pl.isList
      simp only at hc hd
      subst hc hd
      exact ⟨"list", its2, _, _, _, .inl rfl, r2, ho⟩
    · obtain ⟨its2, r2, pl, _⟩ := I.tuple hB
      obtain ⟨⟨cls, dd, data, sl⟩, ho, hc, n, hd⟩ := pl
      simp only at hc hd
      subst hc hd
      exact ⟨"tuple", its2, _, _, _, .inr rfl, r2, ho⟩
  obtain ⟨T, its2, n2, dd2, sl2, hT, r2, e2⟩ := key
  have hl2 := r2.length
  have hsz : its.toArray.size + its2.toArray.size ≤ sizeLine := by rw [List.size_toArray, List.size_toArray]; omega
  have hlong : ¬ (!its.toArray.isEmpty && Builtin.List.listTooLong (its.toArray.size + its2.toArray.size)) = true := by
    rw [notLongL hsz, Bool.and_false]
    exact Bool.false_ne_true
  refine call_meets F.slot_list_extend ⟨_, e, rfl⟩ F.entry_list_extend (F.args_list_extend_2 _ _)
    (list_extendW T hT l its.toArray n b its2.toArray n2 dd2 sl2 hlong (by rw [List.size_toArray]; omega) (by omega)) ⟨e, e2, ?_⟩
  refine ⟨.non, _, I.lset (its' := its ++ its2) hH e (by simp) (r.append r2) ?_, rfl, q⟩
  rw [List.length_append]
  omega
def gExt : List D → List D → Option (D × List D)
  | zs, [.list ds] => if zs.length + ds.length ≤ sizeLine then some (.none, zs ++ ds) else none
  | zs, [.tuple ds] => if zs.length + ds.length ≤ sizeLine then some (.none, zs ++ ds) else none
  | _, _ => none
theorem ru_ext {K : PySem.W.Frag} : RuM K (rExtA K) gExt := by
  intro H B a ws zs xs vs d zs' Q hs ha rz rx e hq
  unfold gExt at e
  split at e
  · split at e
    · rename_i hz
      cases e
      obtain ⟨v', rfl, r1⟩ := paired1 rx
      obtain ⟨b, us, rfl, h1, r⟩ := r1.list hs
      exact ⟨a, b, ws, us, rfl, rfl, ha, .inl h1, by rw [RDs.length _ _ rz, RDs.length _ _ r]; exact hz, hq _ _ .non (rz.append r)⟩
    · cases e
  · split at e
    · rename_i hz
      cases e
      obtain ⟨v', rfl, r1⟩ := paired1 rx
      obtain ⟨b, us, rfl, h1, r⟩ := r1.tuple hs
      exact ⟨a, b, ws, us, rfl, rfl, ha, .inr h1, by rw [RDs.length _ _ rz, RDs.length _ _ r]; exact hz, hq _ _ .non (rz.append r)⟩
    · cases e
  · cases e
end
end Mi

set_option Elab.async false
set_option linter.all false
set_option maxRecDepth 100000
namespace Mi
open PySem PySem.Spec L2

/-! ### statements -/
inductive Fl where
  | nx
  | rt (o : O)
  | bk
  | ct
section
variable (K : PySem.W.Frag) (cl : String → Addr) (E : XK) (io : List Nat)
def EndS (P B : Hp) (D : Ends) (fl : Fl) (σ' : L2.St) (H' B' : Hp) (fps' : Nat → List Addr) : Prop := match fl with
  | .nx => D.nx σ' H'
  | .bk => D.bk σ' H'
  | .ct => D.ct σ' H'
  | .rt o => ∀ v fp, OwnR K B' H' o v fp → (∀ a ∈ fp, B' a = none ∧ P a = none ∧ ∀ i ∈ io, a ∉ fps' i) → D.rt v H'
/-- the slots of io hold what they held -/
def SameIo (σ σ' : L2.St) : Prop := ∀ i ∈ io, σ'[i]? = σ[i]?
/-- the end of a statement: R of the new slots, heaps, frame -/
def PostS {α : Type} (σ : L2.St) (P B : Hp) (r : Rs α) (R : α → L2.St → Hp → Hp → (Nat → List Addr) → Env → Prop) : Prop := match r with
  | .ok a env => ∀ σ' H' B' fps', Ext P B B' → Fm K P B' H' σ' env fps' → SameIo io σ σ' → R a σ' H' B' fps' env
  | .ex c env => ∀ σ' H' B' fps', Ext P B B' → Fm K P B' H' σ' env fps' → SameIo io σ σ' → E (.ref (cl c)) none H'
  | .stuck => False
def tMS (m : M Fl) : TS := fun D σ H => ∃ P B env fps, Fm K P B H σ env fps ∧ PostS K cl E io σ P B (m env) fun fl σ' H' B' fps' _ => EndS K io P B D fl σ' H' B' fps'
end
theorem SameIo.refl {io : List Nat} {σ : L2.St} : SameIo io σ σ := fun _ _ => rfl
theorem SameIo.trans {io : List Nat} {σ σ1 σ2 : L2.St} (h : SameIo io σ σ1) (k : SameIo io σ1 σ2) : SameIo io σ σ2 := fun i hi => (k i hi).trans (h i hi)
def DS (X : Cx) (cl : String → Addr) (E : XK) (io : List Nat) (st : Stmt) (m : M Fl) : Prop := PS X st (tMS X.K cl E io m)
def DSs (X : Cx) (cl : String → Addr) (E : XK) (io : List Nat) (st : List Stmt) (m : M Fl) : Prop := PSs X st (tMS X.K cl E io m)
section
variable {K : PySem.W.Frag} {cl : String → Addr} {E : XK} {io : List Nat} {P B B' H : Hp} {σ σ' : L2.St} {env : Env} {fps : Nat → List Addr}
theorem PostS.ext {α : Type} {r : Rs α} {R : α → L2.St → Hp → Hp → (Nat → List Addr) → Env → Prop} (x : Ext P B B') (s : SameIo io σ σ') (h : PostS K cl E io σ P B r R) : PostS K cl E io σ' P B' r R := by
  cases r with
  | ok r env => exact fun σ2 H' B2 fps x2 F s2 => h σ2 H' B2 fps (x.trans x2) F (s.trans s2)
  | ex c env => exact fun σ2 H' B2 fps x2 F s2 => h σ2 H' B2 fps (x.trans x2) F (s.trans s2)
  | stuck => exact h
theorem PostS.mono {α : Type} {r : Rs α} {R R' : α → L2.St → Hp → Hp → (Nat → List Addr) → Env → Prop} (h : PostS K cl E io σ P B r R) (k : ∀ a σ' H' B' fps env, Ext P B B' → Fm K P B' H' σ' env fps → SameIo io σ σ' → R a σ' H' B' fps env → R' a σ' H' B' fps env) : PostS K cl E io σ P B r R' := by
  cases r with
  | ok r env => exact fun σ2 H' B2 fps x2 F s2 => k _ _ _ _ _ _ x2 F s2 (h σ2 H' B2 fps x2 F s2)
  | ex c env => exact h
  | stuck => exact h
/-- something, then something -/
theorem postS_bnd {α β : Type} {m : M α} {k : α → M β} {R : β → L2.St → Hp → Hp → (Nat → List Addr) → Env → Prop} (h : PostS K cl E io σ P B ((bnd m k) env) R) :
    PostS K cl E io σ P B (m env) fun a σ1 H1 B1 fps1 env1 => PostS K cl E io σ1 P B1 (k a env1) R := by
  unfold bnd at h
  cases q : m env with
  | ok r env1 =>
    rw [q] at h
    intro σ1 H1 B1 fps1 x F1 s1
    exact PostS.ext x s1 h
  | ex c env1 => rw [q] at h; exact h
  | stuck => rw [q] at h; exact h.elim
/-- an expression, then something -/
theorem postS_e {α : Type} {m : M Rv} {k : Rv → M α} {R : α → L2.St → Hp → Hp → (Nat → List Addr) → Env → Prop} (h : PostS K cl E io σ P B ((bnd m k) env) R) :
    PostE K cl E P B σ (m env) fun v H1 => ∃ B1 env1 fps1 r, Ext P B B1 ∧ Fm K P B1 H1 σ env1 fps1 ∧ RvR K P B1 H1 σ fps1 r v ∧ PostS K cl E io σ P B1 (k r env1) R := by
  unfold bnd at h
  cases q : m env with
  | ok r env1 =>
    rw [q] at h
    intro v H1 B1 fps1 x F1 r1
    exact ⟨B1, env1, fps1, r, x, F1, r1, PostS.ext x SameIo.refl h⟩
  | ex c env1 => rw [q] at h; exact fun H' B' fps' x F => h σ H' B' fps' x F SameIo.refl
  | stuck => rw [q] at h; exact h.elim
theorem postS_t {α β : Type} {m : M α} {k : α → M β} {R : β → L2.St → Hp → Hp → (Nat → List Addr) → Env → Prop} (h : PostS K cl E io σ P B ((bnd m k) env) R) :
    PostX K cl E P B σ (m env) fun a H1 B1 fps1 env1 => PostS K cl E io σ P B1 (k a env1) R := by
  unfold bnd at h
  cases q : m env with
  | ok r env1 =>
    rw [q] at h
    intro H1 B1 fps1 x F1
    exact PostS.ext x SameIo.refl h
  | ex c env1 => rw [q] at h; exact fun H' B' fps' x F => h σ H' B' fps' x F SameIo.refl
  | stuck => rw [q] at h; exact h.elim
theorem PostS.nx (F : Fm K P B H σ env fps) {D : Ends} (h : PostS K cl E io σ P B (.ok .nx env) fun fl σ' H' B' fps' _ => EndS K io P B' D fl σ' H' B' fps') : D.nx σ H := h σ H B fps Ext.refl F SameIo.refl
end

/-! small ones -/
def mSeq (a b : M Fl) : M Fl := bnd a fun fl => match fl with
  | .nx => b
  | fl => ret fl
def mEx (m : M Rv) : M Fl := bnd m fun _ => ret .nx
def mRet (io : List Nat) (m : M Rv) : M Fl := bnd m fun r env => match r with
  | .d x => .ok (.rt (.dat x)) env
  | .own o => .ok (.rt o) env
  | .pl i => if io.contains i = true then .stuck else match env[i]? with
    | some (some o) => .ok (.rt o) env
    | _ => .stuck
def mIte (t : M Bool) (a b : M Fl) : M Fl := bnd t fun c => if c = true then a else b
section
variable {X : Cx} {cl : String → Addr} {E : XK} {io : List Nat} {e : Expr} {st : Stmt} {sts rest : List Stmt} {m : M Rv} {t : M Bool} {a b : M Fl} {pos : Pos}
theorem tMS_nx {D : Ends} {σ : L2.St} {H : Hp} (h : tMS X.K cl E io (ret .nx) D σ H) : D.nx σ H := by
  obtain ⟨P, B, env, fps, F, h⟩ := h
  exact h σ H B fps Ext.refl F SameIo.refl
theorem ds_pass : DS X cl E io (.Pass pos) (ret .nx) := ⟨fun pins s σ H D I h => ps_pass.run pins s σ H D I (tMS_nx h)⟩
theorem ds_break : DS X cl E io (.Break pos) (ret .bk) := ⟨fun pins s σ H D I ⟨P, B, env, fps, F, h⟩ => ps_break.run pins s σ H D I (h σ H B fps Ext.refl F SameIo.refl)⟩
theorem ds_continue : DS X cl E io (.Continue pos) (ret .ct) := ⟨fun pins s σ H D I ⟨P, B, env, fps, F, h⟩ => ps_continue.run pins s σ H D I (h σ H B fps Ext.refl F SameIo.refl)⟩
theorem dss_nil : DSs X cl E io [] (ret .nx) := ⟨fun pins s σ H D I h => pss_nil.run pins s σ H D I (tMS_nx h)⟩
theorem dss_cons (h1 : DS X cl E io st a) (h2 : DSs X cl E io rest b) : DSs X cl E io (st :: rest) (mSeq a b) := by
  refine ⟨fun pins s σ H D I ⟨P, B, env, fps, F, h⟩ => (pss_cons h1 h2).run pins s σ H D I ?_⟩
  refine ⟨P, B, env, fps, F, (postS_bnd h).mono fun fl σ1 H1 B1 fps1 env1 x1 F1 s1 h3 => ?_⟩
  cases fl with
  | nx => exact ⟨P, B1, env1, fps1, F1, h3⟩
  | bk => exact h3 σ1 H1 B1 fps1 Ext.refl F1 SameIo.refl
  | ct => exact h3 σ1 H1 B1 fps1 Ext.refl F1 SameIo.refl
  | rt o => exact h3 σ1 H1 B1 fps1 Ext.refl F1 SameIo.refl
theorem dss_one (h1 : DS X cl E io st a) : DSs X cl E io [st] a := pss_one h1
theorem ds_expr (he : DE X cl E e m) (hs : swapsWith e none pos.line X.env = pure false := by rfl) : DS X cl E io (.Expr e pos) (mEx m) := by
  refine ⟨fun pins s σ H D I ⟨P, B, env, fps, F, h⟩ => (ps_expr he hs).run pins s σ H D I ?_⟩
  refine ⟨P, B, env, fps, F, ?_⟩
  have h1 := postS_e h
  cases q : m env with
  | ok r env1 =>
    rw [q] at h1
    intro v H1 B1 fps1 x1 F1 r1
    obtain ⟨B2, env2, fps2, r2, x2, F2, s2, h2⟩ := h1 v H1 B1 fps1 x1 F1 r1
    exact h2 σ H1 B2 fps2 Ext.refl F2 SameIo.refl
  | ex c env1 => rw [q] at h1; exact h1
  | stuck => rw [q] at h1; exact h1.elim
theorem ds_ret (he : DE X cl E e m) : DS X cl E io (.Return (some e) pos) (mRet io m) := by
  refine ⟨fun pins s σ H D I ⟨P, B, env, fps, F, h⟩ => (ps_ret he).run pins s σ H D I ?_⟩
  refine ⟨P, B, env, fps, F, ?_⟩
  have h1 := postS_e h
  cases q : m env with
  | ok r env1 =>
    rw [q] at h1
    intro v H1 B1 fps1 x1 F1 r1
    obtain ⟨B2, env2, fps2, r2, x2, F2, s2, h2⟩ := h1 v H1 B1 fps1 x1 F1 r1
    cases r2 with
    | d x => exact h2 σ H1 B2 fps2 Ext.refl F2 SameIo.refl v [] (.dat s2) (fun a ha => by simp at ha)
    | own o =>
      obtain ⟨fp, o1, o2⟩ := s2
      exact h2 σ H1 B2 fps2 Ext.refl F2 SameIo.refl v fp o1 fun a ha => ⟨(o2 a ha).1, (o2 a ha).2.1, fun i _ => (o2 a ha).2.2 i⟩
    | pl i =>
      dsimp only at h2
      split at h2
      · exact h2.elim
      · rename_i hio
        split at h2
        · rename_i o eo
          have r3 := F2.pl eo s2
          refine h2 σ H1 B2 fps2 Ext.refl F2 SameIo.refl v (fps2 i) r3 fun a ha => ⟨(F2.off i a ha).1, (F2.off i a ha).2, fun j hj z => ?_⟩
          have := F2.dis i j a ha z
          subst this
          exact hio (List.contains_iff_mem.mpr hj)
        · exact h2.elim
  | ex c env1 => rw [q] at h1; exact h1
  | stuck => rw [q] at h1; exact h1.elim
theorem ds_retN : DS X cl E io (.Return none pos) (ret (.rt (.dat .none))) := ⟨fun pins s σ H D I ⟨P, B, env, fps, F, h⟩ => ps_retN.run pins s σ H D I (h σ H B fps Ext.refl F SameIo.refl .non [] (.dat .non) (fun a ha => by simp at ha))⟩
theorem ds_if {c : Expr} {sa sb : List Stmt} (hc : DT X cl E c t) (ha : DSs X cl E io sa a) (hb : DSs X cl E io sb b) : DS X cl E io (.If c sa sb pos) (mIte t a b) := by
  refine ⟨fun pins s σ H D I ⟨P, B, env, fps, F, h⟩ => (ps_if hc ha hb).run pins s σ H D I ?_⟩
  refine ⟨P, B, env, fps, F, (postS_t h).mono fun c H1 B1 fps1 env1 x1 F1 h1 => ?_⟩
  cases c with
  | true => exact ⟨P, B1, env1, fps1, F1, h1⟩
  | false => exact ⟨P, B1, env1, fps1, F1, h1⟩
theorem ds_never : DS X cl E io st stk := ⟨fun pins s σ H D I ⟨P, B, env, fps, F, h⟩ => h.elim⟩
theorem dss_never : DSs X cl E io sts stk := ⟨fun pins s σ H D I ⟨P, B, env, fps, F, h⟩ => h.elim⟩
end

/-! ### stores -/
def setEnv (i : Nat) (r : Rv) : M Unit := fun env => match r with
  | .d x => .ok () (env.set i (some (.dat x)))
  | .own o => .ok () (env.set i (some o))
  | .pl _ => .stuck
def setK (i : Nat) (r : Rv) : M Fl := match r with
  | .pl j => bnd (frzR (.pl j)) fun d => bnd (setEnv i (.d d)) fun _ => ret .nx
  | r => bnd (setEnv i r) fun _ => ret .nx
def mSet (i : Nat) (m : M Rv) : M Fl := bnd m (setK i)
section
variable {K : PySem.W.Frag} {cl : String → Addr} {E : XK} {io : List Nat} {P B B' H : Hp} {σ σ' : L2.St} {env : Env} {fps : Nat → List Addr}
/-- a slot is stored anew -/
theorem Fm.store (F : Fm K P B H σ env fps) {i : Nat} {o : O} {v : V} {fp : List Addr} (hi : i < σ.length) (r : OwnR K B H o v fp) (hf : ∀ a ∈ fp, B a = none ∧ P a = none ∧ ∀ j, a ∉ fps j) :
    Fm K P B H (σ.set i (some v)) (env.set i (some o)) (setF fps i fp) := by
  have hj : ∀ {j a}, a ∈ setF fps i fp j → (j = i ∧ a ∈ fp) ∨ (j ≠ i ∧ a ∈ fps j) := fun {j a} h => by
    by_cases z : j = i
    · subst z; rw [setF_same] at h; exact .inl ⟨rfl, h⟩
    · rw [setF_ne z] at h; exact .inr ⟨z, h⟩
  refine ⟨by simpa using F.len, F.sub, F.prt, fun j o' q => ?_, fun j q => ?_, fun j k a h1 h2 => ?_, fun j a h => ?_, F.tab, F.nbT, F.npT⟩
  · rcases env_set q with ⟨rfl, z⟩ | ⟨hj, q⟩
    · cases z
      exact ⟨v, by rw [List.getElem?_set_self hi], by rw [setF_same]; exact r⟩
    · obtain ⟨w, e1, r1⟩ := F.slot j o' q
      exact ⟨w, by rw [List.getElem?_set_ne (Ne.symm hj)]; exact e1, by rw [setF_ne hj]; exact r1⟩
  · by_cases z : j = i
    · subst z
      rcases q with q | q
      · rcases env_set q with ⟨_, z⟩ | ⟨z, _⟩
        · cases z
        · exact absurd rfl z
      · rw [List.getElem?_eq_none_iff] at q
        rw [List.length_set, F.len] at q
        omega
    · rw [setF_ne z]
      rcases q with q | q
      · rcases env_set q with ⟨y, _⟩ | ⟨_, q⟩
        · exact absurd y z
        · exact F.emp j (.inl q)
      · exact F.emp j (.inr (env_set_none q))
  · rcases hj h1 with ⟨rfl, m1⟩ | ⟨n1, m1⟩ <;> rcases hj h2 with ⟨rfl, m2⟩ | ⟨n2, m2⟩
    · rfl
    · exact absurd m2 ((hf a m1).2.2 k)
    · exact absurd m1 ((hf a m2).2.2 j)
    · exact F.dis j k a m1 m2
  · rcases hj h with ⟨rfl, m1⟩ | ⟨n1, m1⟩
    · exact ⟨(hf a m1).1, (hf a m1).2.1⟩
    · exact F.off j a m1
theorem sameIo_set {i : Nat} {v : Option V} (h : io.contains i = false) : SameIo io σ (σ.set i v) := fun j hj => by
  have : i ≠ j := by
    rintro rfl
    rw [List.contains_iff_mem.mpr hj] at h
    cases h
  rw [List.getElem?_set_ne this]
/-- storing what an expression gave -/
theorem setEnv_ok (F : Fm K P B H σ env fps) {i : Nat} {r : Rv} {v : V} {env' : Env} {u : Unit} (hi : i < σ.length) (q : RvR K P B H σ fps r v) (e : setEnv i r env = .ok u env') : ∃ fps', Fm K P B H (σ.set i (some v)) env' fps' := by
  cases r with
  | d x =>
    cases e
    exact ⟨_, F.store hi (.dat q) fun a ha => by simp at ha⟩
  | own o =>
    cases e
    obtain ⟨fp, r, hf⟩ := q
    exact ⟨_, F.store hi r hf⟩
  | pl j => cases e
end
section
variable {X : Cx} {cl : String → Addr} {E : XK} {io : List Nat} {e : Expr} {m : M Rv} {pos : Pos} {i : Nat} {x : Str} {pos' : Pos}
theorem post_set {P B H : Hp} {σ : L2.St} {env : Env} {fps : Nat → List Addr} {r : Rv} {v : V} {D : Ends} (F : Fm X.K P B H σ env fps) (hi : i < σ.length) (hio : io.contains i = false) (q : RvR X.K P B H σ fps r v)
    (h : PostS X.K cl E io σ P B (setK i r env) fun fl σ' H' B' fps' _ => EndS X.K io P B' D fl σ' H' B' fps') : D.nx (σ.set i (some v)) H := by
  cases r with
  | d x =>
    obtain ⟨fps', F'⟩ := setEnv_ok (u := ()) F hi q rfl
    exact h _ H B fps' Ext.refl F' (sameIo_set hio)
  | own o =>
    obtain ⟨fps', F'⟩ := setEnv_ok (u := ()) F hi q rfl
    exact h _ H B fps' Ext.refl F' (sameIo_set hio)
  | pl j =>
    unfold setK bnd at h
    dsimp only at h
    cases z : frzR (.pl j) env with
    | ok d env1 =>
      rw [z] at h
      obtain ⟨B1, fps1, x1, F1, r1⟩ := frzR_ok (r := .pl j) F q z
      obtain ⟨fps', F'⟩ := setEnv_ok (u := ()) (r := .d d) F1 hi r1 rfl
      exact h _ H B1 fps' x1 F' (sameIo_set hio)
    | ex c env1 => exact absurd z frzR_nex
    | stuck => rw [z] at h; exact h.elim
theorem ds_set (hN : X.N.Nodup) (hi : X.N[i]? = some x) (hx : Loc X.env.scope x) (hio : io.contains i = false) (he : DE X cl E e m) (hs : swapsWith e (some (.Name x pos')) pos.line X.env = pure false := by rfl) (hf : X.fn x = true ∨ X.env.scope.names.lookup x = some .local := by first | exact .inl rfl | exact .inr rfl | assumption) :
    DS X cl E io (.Assign [.Name x pos'] e pos) (mSet i m) := by
  refine ⟨fun pins s σ H D I ⟨P, B, env, fps, F, h⟩ => (ps_set hN hi hx he hs hf).run pins s σ H D I ?_⟩
  have hlt : i < σ.length := by rw [I.len]; exact getElem?_lt hi
  refine ⟨P, B, env, fps, F, ?_⟩
  have h1 := postS_e h
  cases q : m env with
  | ok r env1 =>
    rw [q] at h1
    intro v H1 B1 fps1 x1 F1 r1
    obtain ⟨B2, env2, fps2, r2, x2, F2, s2, h2⟩ := h1 v H1 B1 fps1 x1 F1 r1
    exact post_set F2 hlt hio s2 h2
  | ex c env1 => rw [q] at h1; exact h1
  | stuck => rw [q] at h1; exact h1.elim
end

/-! ### a def by its body -/
/-- the frame at the entry; the end -/
@[irreducible] def runF (n : Nat) (m : M Fl) : M O := fun os => match m (os ++ List.replicate (n - os.length) none) with
  | .ok (.rt o) env => .ok o env
  | .ok .nx env => .ok (.dat .none) env
  | .ok _ _ => .stuck
  | .ex c env => .ex c env
  | .stuck => .stuck
theorem Fm.start {K : PySem.W.Frag} {P B H : Hp} {vs : List V} {os : Env} {fps : Nat → List Addr} {N : List Str} (F : Fm K P B H (vs.map some) os fps) : Fm K P B H (L2.start N vs) (os ++ List.replicate (N.length - os.length) none) fps := by
  have hl : os.length = vs.length := by rw [F.len, List.length_map]
  unfold L2.start
  refine ⟨by simp [hl], F.sub, F.prt, fun i o e => ?_, fun i e => ?_, F.dis, F.off, F.tab, F.nbT, F.npT⟩
  · by_cases hi : i < os.length
    · rw [List.getElem?_append_left hi] at e
      obtain ⟨v, e1, r⟩ := F.slot i o e
      exact ⟨v, by rw [List.getElem?_append_left (by simpa using hl ▸ hi)]; exact e1, r⟩
    · rw [List.getElem?_append_right (by omega), List.getElem?_replicate] at e
      split at e <;> cases e
  · by_cases hi : i < os.length
    · rw [List.getElem?_append_left hi] at e
      exact F.emp i e
    · refine F.emp i (.inr ?_)
      rw [List.getElem?_eq_none_iff]
      omega
theorem fn_by {P : Program} {w : World} {K : PySem.W.Frag} {mg : Str → Option Value} {base : Heap} {CXc : CXT} {x qual : Str} {params : Arguments} {body : List Stmt} {scope : Scope} {f : Addr} {fd : FuncData} {N ps : List Str} {k n : Nat} {cl : String → Addr} {io : List Nat} {m : M Fl}
    (F : FunD K x qual params body scope [] [] f fd) (S : FnScope N ps scope) (hn : ps.length = n) (hio : ∀ i ∈ io, i < n)
    (hbody : ∀ (cdv : Value) (A : Around) (outer : List PySem.Env) (s : Shared) (H : Hp) (E : XK), Room k (A.deeper (PyProof.Rows.envOfC qual scope s.heap.objs.size f cdv)) →
      DSs (cxOf CXc P w K mg base N qual scope f cdv A outer s H E) cl E io body m) : FnOk P w K mg base CXc (k + 1) f fd ps (spF K cl n io (runF N.length m)) := by
  refine F.ok S (fun vs H Q E h => by rw [hn]; exact h.1) fun cdv A outer s H vs Q E hr h => ⟨_, hbody cdv A outer s H E hr, ?_⟩
  obtain ⟨hl, P', B, os, fps, F1, h⟩ := h
  refine ⟨P', B, _, fps, F1.start, ?_⟩
  have same : ∀ {σ' : L2.St}, SameIo io (L2.start N vs) σ' → ∀ i ∈ io, σ'[i]? = (vs.map some)[i]? := fun {σ'} s i hi => by
    rw [s i hi]
    unfold L2.start
    rw [List.getElem?_append_left (by rw [List.length_map, hl]; exact hio i hi)]
  unfold runF at h
  cases q : m (os ++ List.replicate (N.length - os.length) none) with
  | ok fl env =>
    rw [q] at h
    cases fl with
    | rt o =>
      intro σ' H' B' fps' x F' s v fp r off
      exact h v H' B' fps' σ' fp x F' (same s) r off
    | nx =>
      intro σ' H' B' fps' x F' s
      exact h .non H' B' fps' σ' [] x F' (same s) (.dat .non) fun a ha => by simp at ha
    | bk => exact h.elim
    | ct => exact h.elim
  | ex c env =>
    rw [q] at h
    intro σ' H' B' fps' x F' s
    exact h H' B' fps' σ' x F' (same s)
  | stuck => rw [q] at h; exact h.elim
end Mi

set_option Elab.async false
set_option linter.all false
set_option maxRecDepth 100000
/-! what is walked: enumerate and zip of lists and tuples in any mix -/
namespace Mi
open PySem PySem.Spec L2

/-! ### a list or a tuple -/
def SqK (k : Bool) (K : PySem.W.Frag) (H : Hp) (a : Addr) (xs : List V) : Prop := if k = true then SqL K H a xs else SqT K H a xs
def SeqAt1 (k : Bool) (h : Heap) (a : Addr) (its : Array Value) : Prop := if k = true then h.IsList a its else h.IsTuple a its
def SeqIter (k : Bool) (h : Heap) (it a : Addr) (i : Nat) : Prop := if k = true then h.IsListIter it a i else h.IsTupleIter it a i
def seqIterO (k : Bool) (a : Addr) : Obj := if k = true then { cls := .type "list_iterator", data := .fields #[.ref a, .int 0 0] } else { cls := .type "tuple_iterator", data := .fields #[.ref a, .int 0 0] }
theorem SeqIter.new {k : Bool} {h : Heap} {it a : Addr} (e : h.get? it = some (seqIterO k a)) : SeqIter k h it a 0 := by
  cases k
  · exact ⟨_, e, rfl, rfl⟩
  · exact ⟨_, e, rfl, rfl⟩
theorem SeqIter.at {k : Bool} {h h' : Heap} {it a : Addr} {i : Nat} (x : SeqIter k h it a i) (kk : ∀ o, h.get? it = some o → h'.get? it = some o) : SeqIter k h' it a i := by
  cases k
  · exact Heap.IsTupleIter.at (show h.IsTupleIter it a i from x) kk
  · exact Heap.IsListIter.at (show h.IsListIter it a i from x) kk
theorem SeqIter.obj {k : Bool} {h : Heap} {it a : Addr} {i : Nat} (x : SeqIter k h it a i) : ∃ o, h.get? it = some o ∧ ∀ v, o.data ≠ .cell v := by
  cases k
  · obtain ⟨o, e, _, d⟩ := (show h.IsTupleIter it a i from x)
    exact ⟨o, e, fun v z => by rw [d] at z; cases z⟩
  · obtain ⟨o, e, _, d⟩ := (show h.IsListIter it a i from x)
    exact ⟨o, e, fun v z => by rw [d] at z; cases z⟩
theorem inv_sq {X : Cx} {pins : List (Addr × Obj)} {σ : L2.St} {H : Hp} {s : Shared} {k : Bool} {a : Addr} {xs : List V} (I : Inv X pins σ H s) (h : SqK k X.K H a xs) : ∃ its : List Value, Vals xs its ∧ SeqAt1 k s.heap a its.toArray ∧ xs.length ≤ sizeLine := by
  cases k
  · obtain ⟨its, r, p, z⟩ := I.tuple (show SqT X.K H a xs from h)
    exact ⟨its, r, (show s.heap.IsTuple a its.toArray from p), z⟩
  · obtain ⟨its, r, p, z⟩ := I.list (show SqL X.K H a xs from h)
    exact ⟨its, r, p.isList, z⟩
theorem inv_sq_inj {X : Cx} {pins : List (Addr × Obj)} {σ : L2.St} {H : Hp} {s : Shared} {k : Bool} {a : Addr} {xs ys : List V} (I : Inv X pins σ H s) (h : SqK k X.K H a xs) (h' : SqK k X.K H a ys) : xs = ys := by
  cases k
  · exact I.tuple_inj h h'
  · exact I.list_inj h h'
theorem SeqAt1.lt {k : Bool} {h : Heap} {a : Addr} {its : Array Value} (x : SeqAt1 k h a its) : a < h.objs.size := by
  cases k
  · obtain ⟨o, e, _⟩ := (show h.IsTuple a its from x)
    exact Heap.lt_size e
  · obtain ⟨o, e, _⟩ := (show h.IsList a its from x)
    exact Heap.lt_size e
theorem draws_sq {prog : Program} {w : World} {A : Around} (hh : A.handled = none) (k : Bool) (it a : Addr) (hne : a ≠ it) (items : Array Value) :
    Draws prog w A it [it, a] items.size (fun i v => items[i]? = some v) (fun i h => SeqIter k h it a i ∧ SeqAt1 k h a items) := by
  cases k
  · exact Draws.tuple hh it a hne items
  · exact Draws.list hh it a hne items
theorem begins_sq (k : Bool) (a : Addr) (items : Array Value) : Begins (.ref a) (seqIterO k a) fun h => SeqAt1 k h a items := by
  cases k
  · exact begins_tuple a items
  · exact begins_list a items

/-! ### enumerate -/
def IteK (k : Bool) (K : PySem.W.Frag) (a : Addr) : It :=
  ⟨fun i H => ∃ (xs : List V) (x : V), SqK k K H a xs ∧ xs[i]? = some x, fun i H v H' => ∃ T x, v = .ref T ∧ H T = none ∧ H' = upd H T (.tup [.int (i : Nat), x]) ∧ ∀ xs, SqK k K H a xs → xs[i]? = some x, fun i H => ∃ xs : List V, SqK k K H a xs ∧ xs.length = i⟩
theorem turn_enumK {P : Program} {w : World} {K : PySem.W.Frag} {elts : List Expr} {kk : Nat} {tpos : Pos} (k : Bool) (a e it : Addr) (hea : e ≠ a) (hia : a ≠ it) :
    Turn P w K (.Tuple elts kk tpos) (IteK k K a) [e, it] e (fun i h => (∃ old, IsEnum h e it ((i : Nat) : Int) old) ∧ SeqIter k h it a i ∧ e ≠ it) where
  mem := by simp
  obj := fun i h st b hb => by
    obtain ⟨⟨old, he⟩, hi, _⟩ := st
    have e' : b = e ∨ b = it := by simpa using hb
    rcases e' with z | z
    · rw [z]; exact ⟨_, he, fun v q => nomatch q⟩
    · rw [z]; exact hi.obj
  keep := fun i h h' st kp => let ⟨⟨old, he⟩, hi, hne⟩ := st; ⟨⟨old, kp e (by simp) _ he⟩, hi.at fun o q => kp it (by simp) o q, hne⟩
  item := by
    intro X hP hw hK hc i pins s σ H E I hf st hg
    subst hP hw hK
    obtain ⟨⟨old, he⟩, hit, hne⟩ := st
    obtain ⟨xs, x, hq, hx⟩ := hg
    obtain ⟨its, rv, p, hz⟩ := inv_sq I hq
    obtain ⟨u, hu, ru⟩ := rv.get hx
    have hel : e < s.heap.objs.size := Heap.lt_size he
    have hil : it < s.heap.objs.size := by obtain ⟨o, q, _⟩ := hit.obj; exact Heap.lt_size q
    have hlt : i < its.toArray.size := by
      have := (List.getElem?_eq_some_iff.mp hu).1
      simpa using this
    have G := GoesN.enumFrom (prog := X.prog) (w := X.w) (A := X.A) (elts := elts) (x1 := kk) (pos := tpos) 0 (draws_sq (prog := X.prog) (w := X.w) (A := X.A.in1) (I.ok.hd hc) k it a hia its.toArray) e hne (by simp [hne, hea]) (by simp)
    refine G.goes i s _ E hlt ⟨⟨old, by rw [Int.zero_add]; exact he⟩, hit, p⟩ fun v h' tk hY st' hk htk => ?_
    obtain ⟨T, t, y, rfl, hT, hy, hTup⟩ := hY
    obtain ⟨⟨old', he'⟩, hit', p'⟩ := st'
    have ey : y = u := by
      have q : its.toArray[i]? = some u := by simpa using hu
      rw [q] at hy
      exact (Option.some.inj hy).symm
    subst ey
    have new : ObjOk X.prog X.w (upd H T (.tup [.int (i : Nat), x])) h' T (.tup [.int (i : Nat), x]) :=
      ⟨by show 2 ≤ sizeLine; decide, [.int (0 + (i : Int)) t, y], .cons ⟨_, by rw [Int.zero_add]⟩ (.cons ru .nil), hTup⟩
    have I1 : Inv X pins σ (upd H T (.tup [.int (i : Nat), x])) { s with heap := h', toks := tk } :=
      I.turnedNew (ch := [e, it]) (fun b ob hb q => hk b ob hb q) hf hT new
    refine ⟨.ref T, _, I1, rfl, ⟨T, x, rfl, I.hok.fresh hT, rfl, fun ys hy => by rw [inv_sq_inj I hy hq]; exact hx⟩, ⟨⟨old', ?_⟩, hit', hne⟩, fun b hb => ?_⟩
    · have e1 : (0 : Int) + ((i + 1 : Nat) : Int) = ((i + 1 : Nat) : Int) := by omega
      rw [e1] at he'; exact he'
    · have hb' : b < s.heap.objs.size := by
        have e' : b = e ∨ b = it := by simpa using hb
        rcases e' with z | z
        · rw [z]; exact hel
        · rw [z]; exact hil
      rw [upd_ne (Nat.ne_of_lt (Nat.lt_of_lt_of_le hb' hT))]
      exact (hf b hb).1
  done := by
    intro X hP hw hK hc i pins s σ H E I hf st hg
    subst hP hw hK
    obtain ⟨⟨old, he⟩, hit, hne⟩ := st
    obtain ⟨xs, hq, hx⟩ := hg
    obtain ⟨its, rv, p, hz⟩ := inv_sq I hq
    have hl := rv.length
    have G := GoesN.enumFrom (prog := X.prog) (w := X.w) (A := X.A) (elts := elts) (x1 := kk) (pos := tpos) 0 (draws_sq (prog := X.prog) (w := X.w) (A := X.A.in1) (I.ok.hd hc) k it a hia its.toArray) e hne (by simp [hne, hea]) (by simp)
    have hi : i = its.toArray.size := by simp only [List.size_toArray]; omega
    subst hi
    exact G.stops s _ E ⟨⟨old, by rw [Int.zero_add]; exact he⟩, hit, p⟩ fun h' tk hk htk => I.turnedL (ch := [e, it]) (fun b o hb q => hk b o hb q) hf
  self := fun A i s Q E st h => let ⟨⟨_, he⟩, _⟩ := st; wpAny_pyIter_enum he h

set_option maxHeartbeats 1000000 in
theorem meets_enumerate_newB1 {v : Value} {o : Obj} {H : Heap → Prop} (B : Begins v o H) :
    Meets (Builtin.«enumerate.__new__» ⟨[.type "enumerate", v], []⟩) (fun _ R s => H s.heap ∧
      R (.ok (.ret (.ref (s.heap.push o).objs.size))) { s with heap := (s.heap.push o).push { cls := .type "enumerate", data := .fields #[.none, .bool false, .ref s.heap.objs.size, rawInt 0, .none, .none] } }) :=
  .of_wp fun prog w A R s h => by
    obtain ⟨hp, g, d, tk, os⟩ := s; obtain ⟨h1, h⟩ := h
    have hsub := sub_enumerate
    have q1 : ∀ {A' : Around} {E : Value → Shared → Prop} {Q : Value → Shared → Prop}, Q (.ref hp.objs.size) ⟨hp.push o, g, d, tk, os⟩ → wpAny (model prog w) A' (pyIter v) Q E ⟨hp, g, d, tk, os⟩ :=
      fun q => B.iter prog w _ _ ⟨hp, g, d, tk, os⟩ _ h1 q
    wp_walk using q1
    refine wpAny_stack_any fun st => wpAny_pure ?_
    split
    · rename_i c _ _ _ _ _
      cases (c == Value.type "enumerate")
      · wp_walk using q1
        exact ⟨_, rfl, h⟩
      · wp_walk using q1
        exact ⟨_, rfl, h⟩
    · wp_walk using q1
      exact ⟨_, rfl, h⟩
theorem enum_begins1 {prog : Program} {w : World} {A : Around} {E : Value → Shared → Prop} {s : Shared} {v : Value} {o : Obj} {H : Heap → Prop} {Q : Value → Shared → Prop} (B : Begins v o H) (h1 : H s.heap)
    (h : ∀ h', IsEnum h' (s.heap.objs.size + 1) s.heap.objs.size 0 .none → h'.get? s.heap.objs.size = some o → h'.objs.size = s.heap.objs.size + 2 →
      (∀ b o, s.heap.get? b = some o → h'.get? b = some o) → Q (.ref (s.heap.objs.size + 1)) { s with heap := h' }) :
    wpAny (model prog w) A (call (.type "enumerate") [v]) Q E s := by
  refine callType_new F.called_enumerate (by decide) (F.typeCall_enumerate_1 _) (F.newCall_enumerate_1 _) (fun obj => F.args_object_init_2 obj _) F.entry_enumerate_new
    (meets_enumerate_newB1 B) ⟨h1, ?_⟩
  have hz : (s.heap.push o).objs.size = s.heap.objs.size + 1 := Heap.size_push ..
  show _ ∧ _
  rw [hz]
  have he : IsEnum ((s.heap.push o).push { cls := .type "enumerate", data := .fields #[.none, .bool false, .ref s.heap.objs.size, rawInt 0, .none, .none] }) (s.heap.objs.size + 1) s.heap.objs.size 0 .none := by
    have := Heap.get?_push_size (s.heap.push o) (o := { cls := .type "enumerate", data := .fields #[.none, .bool false, .ref s.heap.objs.size, rawInt 0, .none, .none] }) rfl
    rw [hz] at this; exact this
  refine ⟨⟨_, he, rfl⟩, h _ he (Heap.get?_push_of_some _ (Heap.get?_push_size _ B.free)) (by rw [Heap.size_push, hz]) fun b o x => Heap.get?_push_of_some _ (Heap.get?_push_of_some _ x)⟩
def iEnumK (K : PySem.W.Frag) (ta : TA) : TI := fun σ H R => ta σ H fun vs H1 => ∃ k a xs, vs = [.ref a] ∧ SqK k K H1 a xs ∧ R (IteK k K a) H1
theorem pi_enumK {X : Cx} {e : Expr} {ta : TA} {p pos tpos : Pos} {elts : List Expr} {kk : Nat} (hg : Gl X "enumerate") (hm : X.mg "enumerate" = none) (ha : PA X [e] ta) (hs : starEach [e] X.env = [(false, eval e X.env)] := by rfl) :
    PI X (.Tuple elts kk tpos) (.Call (.Name "enumerate" p) [e] [] pos) (iEnumK X.K ta) := by
  refine ⟨fun pins s σ H R I h => ?_⟩
  refine PyProof.Rows.Call_ (ld_blt I hg hm PyProof.Rows.boot_enumerate (PyProof.Rows.callWith_type1 (thn (ha.run pos pins s σ H _ I h) fun us s1 ⟨vs, H1, I1, r1, q1⟩ => ?_) hs rfl))
  obtain ⟨k, a, xs, ex, hq, q⟩ := q1
  subst ex
  cases r1 with
  | cons r rr =>
    cases rr
    cases r
    obtain ⟨its, rv, p', hz⟩ := inv_sq I1 hq
    have hlt := p'.lt
    refine enum_begins1 (begins_sq k a its.toArray) p' fun h' he hit hsz hk => wpAny_pyIter_enum he ?_
    have I2 : Inv X pins σ H1 { s1 with heap := h' } := I1.kept (t' := s1.toks) hk
    refine ⟨s1.heap.objs.size + 1, [s1.heap.objs.size + 1, s1.heap.objs.size], _, _, H1, rfl, I2, turn_enumK k a (s1.heap.objs.size + 1) s1.heap.objs.size (Nat.ne_of_gt (Nat.lt_succ_of_lt hlt)) (Nat.ne_of_lt hlt), ⟨⟨.none, he⟩, SeqIter.new hit, Nat.succ_ne_self _⟩, fun b hb => ?_, q⟩
    have e' : b = s1.heap.objs.size + 1 ∨ b = s1.heap.objs.size := by simpa using hb
    have hle : s1.heap.objs.size ≤ b := by
      rcases e' with z | z
      · rw [z]; exact Nat.le_add_right _ _
      · rw [z]; exact Nat.le_refl _
    exact I1.fpOk hle (I1.hok.fresh hle)

/-! ### zip of two -/
theorem mem45 {c z TI TO i1 i2 : Addr} (h : c ∈ [z, TO, i1, i2]) : c ∈ [z, TI, TO, i1, i2] := by
  simp only [List.mem_cons, List.not_mem_nil, or_false] at h ⊢
  rcases h with h | h | h | h
  · exact .inl h
  · exact .inr (.inr (.inl h))
  · exact .inr (.inr (.inr (.inl h)))
  · exact .inr (.inr (.inr (.inr h)))
def ItzK (k k2 : Bool) (K : PySem.W.Frag) (a b : Addr) : It :=
  ⟨fun i H => ∃ (xs ys : List V) (x y : V), SqK k K H a xs ∧ SqK k2 K H b ys ∧ xs[i]? = some x ∧ ys[i]? = some y,
    fun i H v H' => ∃ T x y, v = .ref T ∧ H T = none ∧ H' = upd H T (.tup [x, y]) ∧ (∀ xs, SqK k K H a xs → xs[i]? = some x) ∧ ∀ ys, SqK k2 K H b ys → ys[i]? = some y,
    fun i H => ∃ xs ys : List V, SqK k K H a xs ∧ SqK k2 K H b ys ∧ min xs.length ys.length = i⟩
theorem turn_zipK {P : Program} {w : World} {K : PySem.W.Frag} {elts : List Expr} {kk : Nat} {tpos : Pos} (k k2 : Bool) {a b z TI TO i1 i2 : Addr} (D : ZipSep2 z TI TO i1 i2 [i1, a] [i2, b]) (h1a : a ≠ i1) (h2b : b ≠ i2) :
    Turn P w K (.Tuple elts kk tpos) (ItzK k k2 K a b) [z, TI, TO, i1, i2] z (fun i h => IsZip h z TI TO .none ∧ IsTupOf2 h TI (.ref i1) (.ref i2) ∧ (∃ x y, IsTupOf2 h TO x y) ∧ SeqIter k h i1 a i ∧ SeqIter k2 h i2 b i) where
  mem := by simp
  obj := fun i h st c hc => by
    obtain ⟨hz, hTI, ⟨x, y, hTO⟩, h1, h2⟩ := st
    have e' : c = z ∨ c = TI ∨ c = TO ∨ c = i1 ∨ c = i2 := by simpa using hc
    rcases e' with q | q | q | q | q
    · rw [q]; exact ⟨_, hz, fun v q => nomatch q⟩
    · rw [q]; exact ⟨_, hTI, fun v q => nomatch q⟩
    · rw [q]; exact ⟨_, hTO, fun v q => nomatch q⟩
    · rw [q]; exact h1.obj
    · rw [q]; exact h2.obj
  keep := fun i h h' st k => by
    obtain ⟨hz, hTI, ⟨x, y, hTO⟩, h1, h2⟩ := st
    exact ⟨k z (by simp) _ hz, k TI (by simp) _ hTI, ⟨x, y, k TO (by simp) _ hTO⟩, h1.at fun o q => k i1 (by simp) o q, h2.at fun o q => k i2 (by simp) o q⟩
  item := by
    intro X hP hw hK hc i pins s σ H E I hf st hg
    subst hP hw hK
    obtain ⟨hz, hTI, hTO, h1, h2⟩ := st
    obtain ⟨xs, ys, x, y, hqx, hqy, hx, hy⟩ := hg
    obtain ⟨its, rv, p, _⟩ := inv_sq I hqx
    obtain ⟨its2, rv2, p2, _⟩ := inv_sq I hqy
    obtain ⟨u, hu, ru⟩ := rv.get hx
    obtain ⟨u2, hu2, ru2⟩ := rv2.get hy
    have l1 : i < its.toArray.size := by simpa using (List.getElem?_eq_some_iff.mp hu).1
    have l2 : i < its2.toArray.size := by simpa using (List.getElem?_eq_some_iff.mp hu2).1
    have G := GoesN.zip2 (prog := X.prog) (w := X.w) (A := X.A) (elts := elts) (x1 := kk) (pos := tpos) D (draws_sq (prog := X.prog) (w := X.w) (A := X.A.in1) (I.ok.hd hc) k i1 a h1a its.toArray) (draws_sq (prog := X.prog) (w := X.w) (A := X.A.in1) (I.ok.hd hc) k2 i2 b h2b its2.toArray)
    refine G.goes i s _ E (by omega) ⟨hz, hTI, hTO, ⟨h1, p⟩, ⟨h2, p2⟩⟩ fun v h' tk hY st' hk htk => ?_
    obtain ⟨T, y1, y2, rfl, hT, hy1, hy2, hTup⟩ := hY
    obtain ⟨hz', hTI', hTO', ⟨h1', _⟩, ⟨h2', _⟩⟩ := st'
    have e1 : y1 = u := by
      have q : its.toArray[i]? = some u := by simpa using hu
      rw [q] at hy1
      exact (Option.some.inj hy1).symm
    have e2 : y2 = u2 := by
      have q : its2.toArray[i]? = some u2 := by simpa using hu2
      rw [q] at hy2
      exact (Option.some.inj hy2).symm
    subst e1 e2
    have new : ObjOk X.prog X.w (upd H T (.tup [x, y])) h' T (.tup [x, y]) :=
      ⟨by show 2 ≤ sizeLine; decide, [y1, y2], .cons ru (.cons ru2 .nil), hTup⟩
    have I1 : Inv X pins σ (upd H T (.tup [x, y])) { s with heap := h', toks := tk } :=
      I.turnedNew (ch := [z, TI, TO, i1, i2]) (fun c o hb q => hk c o (fun q' => hb (mem45 q')) q) hf hT new
    refine ⟨.ref T, _, I1, rfl, ⟨T, x, y, rfl, I.hok.fresh hT, rfl, fun l hl => by rw [inv_sq_inj I hl hqx]; exact hx, fun l hl => by rw [inv_sq_inj I hl hqy]; exact hy⟩, ⟨hz', hTI', hTO', h1', h2'⟩, fun c hcm => ?_⟩
    have hlt : c < s.heap.objs.size := by
      obtain ⟨x0, y0, hTO0⟩ := hTO
      have e' : c = z ∨ c = TI ∨ c = TO ∨ c = i1 ∨ c = i2 := by simpa using hcm
      rcases e' with q | q | q | q | q
      · rw [q]; exact Heap.lt_size hz
      · rw [q]; exact Heap.lt_size hTI
      · rw [q]; exact Heap.lt_size hTO0
      · rw [q]; obtain ⟨_, e1, _⟩ := h1.obj; exact Heap.lt_size e1
      · rw [q]; obtain ⟨_, e2, _⟩ := h2.obj; exact Heap.lt_size e2
    rw [upd_ne (Nat.ne_of_lt (Nat.lt_of_lt_of_le hlt hT))]
    exact (hf c hcm).1
  done := by
    intro X hP hw hK hc i pins s σ H E I hf st hg
    subst hP hw hK
    obtain ⟨hz, hTI, hTO, h1, h2⟩ := st
    obtain ⟨xs, ys, hqx, hqy, hend⟩ := hg
    obtain ⟨its, rv, p, _⟩ := inv_sq I hqx
    obtain ⟨its2, rv2, p2, _⟩ := inv_sq I hqy
    have l1 := rv.length
    have l2 := rv2.length
    have G := GoesN.zip2 (prog := X.prog) (w := X.w) (A := X.A) (elts := elts) (x1 := kk) (pos := tpos) D (draws_sq (prog := X.prog) (w := X.w) (A := X.A.in1) (I.ok.hd hc) k i1 a h1a its.toArray) (draws_sq (prog := X.prog) (w := X.w) (A := X.A.in1) (I.ok.hd hc) k2 i2 b h2b its2.toArray)
    have hi : i = min its.toArray.size its2.toArray.size := by simp only [List.size_toArray]; omega
    subst hi
    exact G.stops s _ E ⟨hz, hTI, hTO, ⟨h1, p⟩, ⟨h2, p2⟩⟩ fun h' tk hk htk => I.turnedL (ch := [z, TI, TO, i1, i2]) (fun c o hb q => hk c o (fun q' => hb (mem45 q')) q) hf
  self := fun A i s Q E st h => wpAny_pyIter_zip st.1 h
def iZipK (K : PySem.W.Frag) (ta : TA) : TI := fun σ H R => ta σ H fun vs H1 => ∃ k k2 a b xs ys, vs = [.ref a, .ref b] ∧ SqK k K H1 a xs ∧ SqK k2 K H1 b ys ∧ R (ItzK k k2 K a b) H1
theorem pi_zipK {X : Cx} {e e2 : Expr} {ta : TA} {p pos tpos : Pos} {elts : List Expr} {kk : Nat} (hg : Gl X "zip") (hm : X.mg "zip" = none) (ha : PA X [e, e2] ta)
    (hs : starEach [e, e2] X.env = (false, eval e X.env) :: starEach [e2] X.env := by rfl) (hpl : (backTo pos (starEach [e2] X.env)).any (·.1) = false := by rfl) :
    PI X (.Tuple elts kk tpos) (.Call (.Name "zip" p) [e, e2] [] pos) (iZipK X.K ta) := by
  refine ⟨fun pins s σ H R I h => ?_⟩
  refine PyProof.Rows.Call_ (ld_blt I hg hm PyProof.Rows.boot_zip (PyProof.Rows.callWith_type1 (thn (ha.run pos pins s σ H _ I h) fun us s1 ⟨vs, H1, I1, r1, q1⟩ => ?_) hs hpl))
  obtain ⟨k, k2, a, b, xs, ys, ex, hqx, hqy, q⟩ := q1
  subst ex
  cases r1 with
  | cons r rr =>
    cases rr with
    | cons r' rr =>
      cases rr
      cases r
      cases r'
      have fresh5 : ∀ c, c ∈ [s1.heap.objs.size + 4, s1.heap.objs.size + 2, s1.heap.objs.size + 3, s1.heap.objs.size, s1.heap.objs.size + 1] → FpOk X pins H1 c := fun c hcm => by
        have e' : c = s1.heap.objs.size + 4 ∨ c = s1.heap.objs.size + 2 ∨ c = s1.heap.objs.size + 3 ∨ c = s1.heap.objs.size ∨ c = s1.heap.objs.size + 1 := by simpa using hcm
        have hle : s1.heap.objs.size ≤ c := by
          rcases e' with z | z | z | z | z
          · rw [z]; exact Nat.le_add_right _ _
          · rw [z]; exact Nat.le_add_right _ _
          · rw [z]; exact Nat.le_add_right _ _
          · rw [z]; exact Nat.le_refl _
          · rw [z]; exact Nat.le_add_right _ _
        exact I1.fpOk hle (I1.hok.fresh hle)
      obtain ⟨its, rv, p1, _⟩ := inv_sq I1 hqx
      obtain ⟨its2, rv2, p2, _⟩ := inv_sq I1 hqy
      refine zip_begins2 (begins_sq k a its.toArray) (begins_sq k2 b its2.toArray) p1 p2 fun h' hz hTI hTO h1 h2 hsz hk => wpAny_pyIter_zip hz ?_
      have I2 : Inv X pins σ H1 { s1 with heap := h' } := I1.kept (t' := s1.toks) hk
      refine ⟨s1.heap.objs.size + 4, [s1.heap.objs.size + 4, s1.heap.objs.size + 2, s1.heap.objs.size + 3, s1.heap.objs.size, s1.heap.objs.size + 1], _, _, H1, rfl, I2,
        turn_zipK k k2 (zip_sep2 (N := s1.heap.objs.size) (fp1 := [a]) (fp2 := [b]) (by simpa using p1.lt) (by simpa using p2.lt)) (Nat.ne_of_lt p1.lt) (Nat.ne_of_lt (Nat.lt_succ_of_lt p2.lt)), ⟨hz, hTI, ⟨_, _, hTO⟩, SeqIter.new h1, SeqIter.new h2⟩, fresh5, q⟩
/-- an expression that gives a list, a tuple or a text -/
def iSeq (K : PySem.W.Frag) (te : TE) : TI := fun σ H R => te σ H fun x H1 => (∃ a xs, x = .ref a ∧ SqL K H1 a xs ∧ R (Itl K a) H1) ∨ (∃ a xs, x = .ref a ∧ SqT K H1 a xs ∧ R (Itt K a) H1) ∨ ∃ z, x = .str z ∧ R (Its z) H1
theorem pi_seq {X : Cx} {tg e : Expr} {te : TE} (he : PE X e te) : PI X tg e (iSeq X.K te) := by
  refine ⟨fun pins s σ H R I h => ?_⟩
  -- one of the three rules, behind the expression
  have A : ∀ (Q : VK), te σ H Q → wpAny (model X.prog X.w) X.A (eval e X.env) (EP X pins σ Q) X.xe s := fun Q q => he.run pins s σ H Q I q
  refine thn (he.run pins s σ H _ I h) fun v s1 ⟨x, H1, I1, r1, q1⟩ => ?_
  rcases q1 with ⟨a, xs, rfl, hq, q⟩ | ⟨a, xs, rfl, hq, q⟩ | ⟨z, rfl, q⟩
  · cases r1
    obtain ⟨its, rv, p, hz⟩ := I1.list hq
    refine wpAny_pyIter_list p.isList ?_
    refine ⟨s1.heap.objs.size, [s1.heap.objs.size], _, _, H1, rfl, I1.kept (t' := s1.toks) fun b o e => Heap.get?_push_of_some _ e, turn_list a _, ⟨_, Heap.get?_push_size _ rfl, rfl, rfl⟩, fun b hb => ?_, q⟩
    have e : b = s1.heap.objs.size := by simpa using hb
    subst e
    exact I1.fpOk (Nat.le_refl _) (I1.hok.fresh (Nat.le_refl _))
  · cases r1
    obtain ⟨its, rv, p, hz⟩ := I1.tuple hq
    refine wpAny_pyIter_tuple (show s1.heap.IsTuple a its.toArray from p) ?_
    refine ⟨s1.heap.objs.size, [s1.heap.objs.size], _, _, H1, rfl, I1.kept (t' := s1.toks) fun b o e => Heap.get?_push_of_some _ e, turn_tuple a _, ⟨_, Heap.get?_push_size _ rfl, rfl, rfl⟩, fun b hb => ?_, q⟩
    have e : b = s1.heap.objs.size := by simpa using hb
    subst e
    exact I1.fpOk (Nat.le_refl _) (I1.hok.fresh (Nat.le_refl _))
  · obtain ⟨t, rfl⟩ := r1
    -- as the layer's rule of a text
    refine wpAny_pyIter_strU (pi_one (tk := s1.toks) I1 _ (turn_str _ z t (strIterType z) ?_) ⟨_, Heap.get?_push_size _ rfl, rfl, rfl⟩ q)
    unfold strIterType
    split
    · exact .inl rfl
    · exact .inr rfl
end Mi

set_option Elab.async false
set_option linter.all false
set_option maxRecDepth 100000
/-! targets, for, while, comprehensions -/
namespace Mi
open PySem PySem.Spec L2

/-! ### equal data, decided -/
mutual
def eqD : D → D → Bool
  | .none, .none => true
  | .bool a, .bool b => a == b
  | .int a, .int b => decide (a = b)
  | .str a, .str b => decide (a = b)
  | .list a, .list b => eqDs a b
  | .tuple a, .tuple b => eqDs a b
  | .dict a, .dict b => a.isEmpty && b.isEmpty
  | _, _ => false
def eqDs : List D → List D → Bool
  | [], [] => true
  | x :: xs, y :: ys => eqD x y && eqDs xs ys
  | _, _ => false
end
mutual
theorem eqD_eq : ∀ (a b : D), eqD a b = true → a = b
  | .none, b, h => by cases b <;> simp [eqD] at h ⊢
  | .bool a, b, h => by cases b <;> simp [eqD] at h ⊢ <;> exact h
  | .int a, b, h => by cases b <;> simp [eqD] at h ⊢ <;> exact h
  | .str a, b, h => by cases b <;> simp [eqD] at h ⊢ <;> exact h
  | .list a, b, h => by
    cases b <;> simp [eqD] at h ⊢
    exact eqDs_eq a _ h
  | .tuple a, b, h => by
    cases b <;> simp [eqD] at h ⊢
    exact eqDs_eq a _ h
  | .dict a, b, h => by
    cases b <;> simp [eqD] at h ⊢
    rw [h.1, h.2]
theorem eqDs_eq : ∀ (a b : List D), eqDs a b = true → a = b
  | [], b, h => by cases b <;> simp [eqDs] at h ⊢
  | x :: xs, b, h => by
    cases b with
    | nil => simp [eqDs] at h
    | cons y ys =>
      simp [eqDs] at h
      rw [eqD_eq x y h.1, eqDs_eq xs ys h.2]
end

/-! ### targets -/
inductive Tg where
  | nm (i : Nat)
  | tp (ts : List Tg)
mutual
def asgT : Tg → D → Env → Option Env
  | .nm i, d, env => some (env.set i (some (.dat d)))
  | .tp ts, .tuple ds, env => asgTs ts ds env
  | .tp _, _, _ => none
def asgTs : List Tg → List D → Env → Option Env
  | [], [], env => some env
  | t :: ts, d :: ds, env => match asgT t d env with
    | some env' => asgTs ts ds env'
    | none => none
  | _, _, _ => none
end
mutual
def Tg.slots : Tg → List Nat
  | .nm i => [i]
  | .tp ts => slotsTs ts
def slotsTs : List Tg → List Nat
  | [] => []
  | t :: ts => t.slots ++ slotsTs ts
end
/-- all other slots hold what they held -/
def SameBut (js : List Nat) (σ σ' : L2.St) : Prop := σ'.length = σ.length ∧ ∀ i, i ∉ js → σ'[i]? = σ[i]?
theorem SameBut.refl {js : List Nat} {σ : L2.St} : SameBut js σ σ := ⟨rfl, fun _ _ => rfl⟩
def tGd (K : PySem.W.Frag) (tg : Tg) : TG := fun v σ H Q => ∃ P B env fps d env', Fm K P B H σ env fps ∧ RD K B d v ∧ asgT tg d env = some env' ∧ ∀ σ' fps', Fm K P B H σ' env' fps' → SameBut tg.slots σ σ' → Q σ' H
def tGds (K : PySem.W.Frag) (ts : List Tg) : TGs := fun vs σ H Q => ∃ P B env fps ds env', Fm K P B H σ env fps ∧ RDs K B ds vs ∧ asgTs ts ds env = some env' ∧ ∀ σ' fps', Fm K P B H σ' env' fps' → SameBut (slotsTs ts) σ σ' → Q σ' H
def DG (X : Cx) (e : Expr) (tg : Tg) : Prop := PG X e (tGd X.K tg)
def DGs (X : Cx) (es : List Expr) (ts : List Tg) : Prop := PGs X es (tGds X.K ts)
section
variable {X : Cx} {x : Str} {i n : Nat} {e : Expr} {es : List Expr} {t : Tg} {ts : List Tg} {pos : Pos}
theorem dg_name (hN : X.N.Nodup) (hi : X.N[i]? = some x) (hx : Loc X.env.scope x) (hf : X.fn x = true ∨ X.env.scope.names.lookup x = some .local := by first | exact .inl rfl | exact .inr rfl | assumption) : DG X (.Name x pos) (.nm i) := by
  refine ⟨fun pins s σ H v u Q I r h => (pg_name hN hi hx hf).run pins s σ H v u Q I r ?_⟩
  obtain ⟨P, B, env, fps, d, env', F, rd, e, h⟩ := h
  cases e
  have hlt : i < σ.length := by rw [I.len]; exact getElem?_lt hi
  refine h _ _ (F.store hlt (.dat rd) fun a ha => by simp at ha) ⟨by simp, fun j hj => ?_⟩
  rw [List.getElem?_set_ne]
  intro z
  subst z
  exact hj (by simp [Tg.slots])
theorem dgs_nil : DGs X [] [] := by
  refine ⟨fun pins s σ H vs us Q I r h => pgs_nil.run pins s σ H vs us Q I r ?_⟩
  obtain ⟨P, B, env, fps, ds, env', F, rd, e, h⟩ := h
  cases ds with
  | nil =>
    cases e
    cases rd
    exact ⟨rfl, h _ _ F SameBut.refl⟩
  | cons d ds => simp [asgTs] at e
theorem dgs_cons (h1 : DG X e t) (h2 : DGs X es ts) (hs : (assignEach (e :: es) X.env).map (·.2) = assign e X.env :: (assignEach es X.env).map (·.2) := by rfl) : DGs X (e :: es) (t :: ts) := by
  refine ⟨fun pins s σ H vs us Q I r h => (pgs_cons h1 h2 hs).run pins s σ H vs us Q I r ?_⟩
  obtain ⟨P, B, env, fps, ds, env', F, rd, e, h⟩ := h
  cases rd with
  | nil => simp [asgTs] at e
  | cons r1 r2 =>
    unfold asgTs at e
    split at e
    · rename_i env1 e1
      refine ⟨_, _, rfl, P, B, env, fps, _, env1, F, r1, e1, fun σ1 fps1 F1 s1 => ?_⟩
      refine ⟨P, B, env1, fps1, _, env', F1, r2, e, fun σ2 fps2 F2 s2 => h σ2 fps2 F2 ⟨s2.1.trans s1.1, fun j hj => ?_⟩⟩
      have q : j ∉ t.slots ∧ j ∉ slotsTs ts := by
        constructor <;> intro z <;> apply hj <;> simp [slotsTs, z]
      rw [s2.2 j q.2, s1.2 j q.1]
    · cases e
theorem dg_tup {k : Nat} (hc : X.calm = true) (h : DGs X es ts) (hn : (assignEach es X.env).length = n := by rfl) (hst : (assignEach es X.env).findIdx? (·.1) = none := by rfl) (hl : ts.length = n := by rfl) : DG X (.Tuple es k pos) (.tp ts) := by
  refine ⟨fun pins s σ H v u Q I r hw => (pg_tup hc h hn hst).run pins s σ H v u Q I r ?_⟩
  obtain ⟨P, B, env, fps, d, env', F, rd, e, h⟩ := hw
  cases rd with
  | tup hq hr =>
    rename_i a vs ds
    have ln : ∀ (ts : List Tg) (ds : List D) (env env' : Env), asgTs ts ds env = some env' → ts.length = ds.length := by
      intro ts
      induction ts with
      | nil =>
        intro ds env env' e
        cases ds with
        | nil => rfl
        | cons _ _ => simp [asgTs] at e
      | cons t ts ih =>
        intro ds env env' e
        cases ds with
        | nil => simp [asgTs] at e
        | cons d ds =>
          unfold asgTs at e
          split at e
          · rw [List.length_cons, List.length_cons, ih _ _ _ e]
          · cases e
    have e2 : asgTs ts ds env = some env' := by simpa [asgT] using e
    refine ⟨a, vs, rfl, F.sub.sqT hq, by rw [RDs.length _ _ hr, ← ln _ _ _ _ e2, hl], P, B, env, fps, ds, env', F, hr, e2, fun σ' fps' F' s' => h σ' fps' F' ?_⟩
    simpa [Tg.slots] using s'
  | _ => simp [asgT] at e
end

/-! ### what is walked -/
/-- the items, and the slot whose own list they are -/
structure Wk where
  items : List D
  src : Option (Nat × List D) := none
def srcOk (env : Env) : Option (Nat × List D) → Bool
  | none => true
  | some (j, ds) => match env[j]? with
    | some (some (.lst zs)) => eqDs zs ds
    | _ => false
theorem srcOk_get {env : Env} {j : Nat} {ds : List D} (h : srcOk env (some (j, ds)) = true) : env[j]? = some (some (.lst ds)) := by
  unfold srcOk at h
  simp only at h
  split at h
  · rename_i zs e
    rw [e, eqDs_eq _ _ h]
  · cases h
/-- the iterator gives the items, while the source stands -/
def JD (K : PySem.W.Frag) (J : It) (w : Wk) (σ0 : L2.St) (B0 : Hp) : Prop :=
  ∀ (P B H : Hp) (σ : L2.St) (env : Env) (fps : Nat → List Addr), Sub B0 B → Fm K P B H σ env fps → (∀ j ds, w.src = some (j, ds) → env[j]? = some (some (.lst ds)) ∧ σ[j]? = σ0[j]?) → ∀ i,
    (i = w.items.length → J.stop i H) ∧ ∀ d, w.items[i]? = some d → J.go i H ∧ ∀ x H', J.yld i H x H' → ∃ B', Ext P B B' ∧ Fm K P B' H' σ env fps ∧ RD K B' d x
def tI (K : PySem.W.Frag) (cl : String → Addr) (E : XK) (m : M Wk) : TI := fun σ H R => ∃ P B env fps, Fm K P B H σ env fps ∧ PostX K cl E P B σ (m env) fun w H1 B1 fps1 env1 => ∀ J, JD K J w σ B1 → R J H1
def DI (X : Cx) (cl : String → Addr) (E : XK) (tg iter : Expr) (m : M Wk) : Prop := PI X tg iter (tI X.K cl E m)

/-! ### for -/
def forL (tg : Tg) (src : Option (Nat × List D)) (body : M Fl) : List D → M Fl
  | [], env => if srcOk env src = true then .ok .nx env else .stuck
  | d :: ds, env => if srcOk env src = true then match asgT tg d env with
      | some env1 => match body env1 with
        | .ok .nx env2 => forL tg src body ds env2
        | .ok .ct env2 => forL tg src body ds env2
        | .ok .bk env2 => .ok .nx env2
        | .ok (.rt o) env2 => .ok (.rt o) env2
        | .ex c env2 => .ex c env2
        | .stuck => .stuck
      | none => .stuck
    else .stuck
def mFor (it : M Wk) (tg : Tg) (body : M Fl) : M Fl := bnd it fun w => forL tg w.src body w.items
section
variable {K : PySem.W.Frag} {cl : String → Addr} {E : XK} {io js : List Nat} {P B B' H : Hp} {σ σ' : L2.St} {env : Env} {fps : Nat → List Addr}
theorem srcOk_of {src : Option (Nat × List D)} (h : srcOk env src = true) : ∀ j ds, src = some (j, ds) → env[j]? = some (some (.lst ds)) := fun j ds e => by subst e; exact srcOk_get h
theorem sameIo_but (h : SameBut js σ σ') (hio : ∀ i ∈ js, io.contains i = false) : SameIo io σ σ' := fun i hi => h.2 i fun hj => by
  have := hio i hj
  rw [List.contains_iff_mem.mpr hi] at this
  cases this
end
section
variable {X : Cx} {cl : String → Addr} {E : XK} {io : List Nat} {tgt iter : Expr} {sts : List Stmt} {it : M Wk} {tg : Tg} {body : M Fl} {pos : Pos}
/-- ios: the slots that the body may not store anew: those of io, and the slot that is walked -/
theorem ds_for {ios : List Nat} (hp : PassesOwn (model X.prog X.w) X.A X.env X.xe) (hc : X.calm = true) (hi : DI X cl E tgt iter it) (hg : DG X tgt tg) (hb : DSs X cl E ios sts body) (hsub : ∀ i ∈ io, i ∈ ios) (hw : ∀ env w env' j ds, it env = .ok w env' → w.src = some (j, ds) → j ∈ ios)
    (hio : ∀ i ∈ tg.slots, ios.contains i = false) (hs : ∀ x, foldedSetIterable iter X.env x = pure x := by intro _; rfl) : DS X cl E io (.For tgt iter sts [] pos) (mFor it tg body) := by
  refine ⟨fun pins s σ H D I ⟨P, B, env, fps, F, h⟩ => (ps_for hp hc hi hg hb hs).run pins s σ H D I ?_⟩
  refine ⟨P, B, env, fps, F, ?_⟩
  have h1 := postS_t h
  cases q : it env with
  | ex c env1 => rw [q] at h1; exact h1
  | stuck => rw [q] at h1; exact h1.elim
  | ok w env1 =>
    rw [q] at h1
    intro H1 B1 fps1 x1 F1 J jd
    have h1 := h1 H1 B1 fps1 x1 F1
    refine ⟨fun i m σ' H' => m = w.items.length - i ∧ i ≤ w.items.length ∧ ∃ B' env' fps', Ext P B1 B' ∧ Fm X.K P B' H' σ' env' fps' ∧ SameIo ios σ σ' ∧ PostS X.K cl E io σ P B' (forL tg w.src body (w.items.drop i) env') fun fl σ2 H2 B2 fps2 _ => EndS X.K io P B2 D fl σ2 H2 B2 fps2,
      ⟨_, rfl, Nat.zero_le _, B1, env1, fps1, Ext.refl, F1, SameIo.refl, by rw [List.drop_zero]; exact h1⟩, ?_⟩
    rintro i m σ' H' ⟨rfl, hi, B', env', fps', x', F', s', h'⟩
    have sio : SameIo io σ σ' := fun j hj => s' j (hsub j hj)
    have src : srcOk env' w.src = true → ∀ j ds, w.src = some (j, ds) → env'[j]? = some (some (.lst ds)) ∧ σ'[j]? = σ[j]? := fun ho j ds e => ⟨srcOk_of ho j ds e, s' j (hw _ _ _ j ds q e)⟩
    by_cases hlt : i < w.items.length
    · have ed : w.items.drop i = w.items[i] :: w.items.drop (i + 1) := List.drop_eq_getElem_cons hlt
      rw [ed] at h'
      unfold forL at h'
      split at h'
      · rename_i ho
        split at h'
        · rename_i env2 ea
          obtain ⟨_, j2⟩ := jd P B' H' σ' env' fps' x'.1 F' (src ho) i
          obtain ⟨g1, g2⟩ := j2 w.items[i] (List.getElem?_eq_getElem hlt)
          refine .inr ⟨g1, fun σ3 H3 => i + 1 ≤ w.items.length ∧ ∃ B3 env3 fps3, Ext P B1 B3 ∧ Fm X.K P B3 H3 σ3 env3 fps3 ∧ SameIo ios σ σ3 ∧ PostS X.K cl E io σ P B3 (forL tg w.src body (w.items.drop (i + 1)) env3) fun fl σ2 H2 B2 fps2 _ => EndS X.K io P B2 D fl σ2 H2 B2 fps2,
            fun σ3 H3 ⟨l3, r3⟩ => ⟨w.items.length - (i + 1), by omega, rfl, l3, r3⟩, fun x H2 hy => ?_⟩
          obtain ⟨B2, x2, F2, rd⟩ := g2 x H2 hy
          refine ⟨P, B2, env', fps', _, env2, F2, rd, ea, fun σ3 fps3 F3 s3 => ?_⟩
          have s33 : SameIo ios σ' σ3 := sameIo_but s3 hio
          have s34 : SameIo io σ σ3 := fun j hj => (s33 j (hsub j hj)).trans (sio j hj)
          refine ⟨P, B2, env2, fps3, F3, ?_⟩
          have xx : Ext P B1 B2 := x'.trans x2
          cases qb : body env2 with
          | ok fl env4 =>
            rw [qb] at h'
            intro σ4 H4 B4 fps4 x4 F4 s4
            have s44 : SameIo io σ σ4 := fun j hj => (s4 j (hsub j hj)).trans (s34 j hj)
            have sw : SameIo ios σ σ4 := s'.trans (s33.trans s4)
            cases fl with
            | nx => exact ⟨by omega, B4, env4, fps4, xx.trans x4, F4, sw, PostS.ext (x2.trans x4) SameIo.refl h'⟩
            | ct => exact ⟨by omega, B4, env4, fps4, xx.trans x4, F4, sw, PostS.ext (x2.trans x4) SameIo.refl h'⟩
            | bk => exact h' σ4 H4 B4 fps4 (x2.trans x4) F4 s44
            | rt o =>
              intro v fp r off
              exact h' σ4 H4 B4 fps4 (x2.trans x4) F4 s44 v fp r fun a ha => ⟨(off a ha).1, (off a ha).2.1, fun j hj => (off a ha).2.2 j (hsub j hj)⟩
          | ex c env4 =>
            rw [qb] at h'
            intro σ4 H4 B4 fps4 x4 F4 s4
            exact h' σ4 H4 B4 fps4 (x2.trans x4) F4 fun j hj => (s4 j (hsub j hj)).trans (s34 j hj)
          | stuck => rw [qb] at h'; exact h'.elim
        · exact h'.elim
      · exact h'.elim
    · have e : i = w.items.length := by omega
      subst e
      rw [List.drop_length] at h'
      unfold forL at h'
      split at h'
      · rename_i ho
        obtain ⟨j1, _⟩ := jd P B' H' σ' env' fps' x'.1 F' (src ho) w.items.length
        exact .inl ⟨j1 rfl, h' σ' H' B' fps' Ext.refl F' sio⟩
      · exact h'.elim
end
end Mi

set_option Elab.async false
set_option linter.all false
set_option maxRecDepth 100000
namespace Mi
open PySem PySem.Spec L2

/-! ### what is walked -/
def seqOf (js : List Nat) (env : Env) : Rv → Option (Bool × List D × Option (Nat × List D))
  | .d (.list ds) => some (true, ds, none)
  | .d (.tuple ds) => some (false, ds, none)
  | .pl i => if js.contains i = true then match env[i]? with
    | some (some (.lst ds)) => some (true, ds, some (i, ds))
    | _ => none
    else none
  | _ => none
def SrcAt (σ0 σ : L2.St) (env : Env) (src : Option (Nat × List D)) : Prop := ∀ j ds, src = some (j, ds) → env[j]? = some (some (.lst ds)) ∧ σ[j]? = σ0[j]?
def SeqW (K : PySem.W.Frag) (σ0 : L2.St) (B0 : Hp) (k : Bool) (a : Addr) (ds : List D) (src : Option (Nat × List D)) : Prop :=
  ∀ (P B H : Hp) (σ : L2.St) (env : Env) (fps : Nat → List Addr), Sub B0 B → Fm K P B H σ env fps → SrcAt σ0 σ env src → ∃ vs, SqK k K H a vs ∧ RDs K B ds vs
section
variable {K : PySem.W.Frag} {cl : String → Addr} {E : XK} {js : List Nat} {P B B' H : Hp} {σ : L2.St} {env : Env} {fps : Nat → List Addr} {r : Rv} {v : V} {k : Bool} {ds : List D} {src : Option (Nat × List D)}
theorem seq_w (q : RvS K B σ r v) (F : Fm K P B H σ env fps) (e : seqOf js env r = some (k, ds, src)) : ∃ a, v = .ref a ∧ SeqW K σ B k a ds src ∧ ∀ B', Sub B B' → SeqW K σ B' k a ds src := by
  unfold seqOf at e
  split at e
  · cases e
    cases (show RD K B (.list _) v from q) with
    | lst h r => exact ⟨_, rfl, fun P B2 H2 σ2 env2 fps2 x F2 _ => ⟨_, (x.trans F2.sub).sqL h, RDs.mono x _ _ r⟩, fun B1 x1 P B2 H2 σ2 env2 fps2 x F2 _ => ⟨_, ((x1.trans x).trans F2.sub).sqL h, RDs.mono (x1.trans x) _ _ r⟩⟩
  · cases e
    cases (show RD K B (.tuple _) v from q) with
    | tup h r => exact ⟨_, rfl, fun P B2 H2 σ2 env2 fps2 x F2 _ => ⟨_, (x.trans F2.sub).sqT h, RDs.mono x _ _ r⟩, fun B1 x1 P B2 H2 σ2 env2 fps2 x F2 _ => ⟨_, ((x1.trans x).trans F2.sub).sqT h, RDs.mono (x1.trans x) _ _ r⟩⟩
  · rename_i i
    split at e
    · split at e
      · rename_i ds' he
        cases e
        obtain ⟨a, vs, rfl, hf, e1, r1⟩ := (F.pl he q).lst_inv
        have w : ∀ B', SeqW K σ B' true a ds (some (i, ds)) := by
          intro B' P2 B2 H2 σ2 env2 fps2 x F2 s
          obtain ⟨s1, s2⟩ := s i ds rfl
          have q' : σ2[i]? = some (some (.ref a)) := s2.trans q
          obtain ⟨a', vs', e3, hf', e4, r4⟩ := (F2.pl s1 q').lst_inv
          cases e3
          exact ⟨vs', SqL.of e4, r4⟩
        exact ⟨a, rfl, w B, fun B' _ => w B'⟩
      · cases e
    · cases e
  · cases e
theorem PostE.mono {K : PySem.W.Frag} {cl : String → Addr} {E : XK} {P B : Hp} {σ : L2.St} {r : Rs Rv} {Q Q' : VK} (h : PostE K cl E P B σ r Q) (k : ∀ v H, Q v H → Q' v H) : PostE K cl E P B σ r Q' := by
  cases r with
  | ok r env => exact fun v H' B2 fps x2 F r => k _ _ (h v H' B2 fps x2 F r)
  | ex c env => exact h
  | stuck => exact h
theorem seqOf_env {i : Nat} {xs : List D} (e : seqOf js env r = some (k, ds, some (i, xs))) : env[i]? = some (some (.lst xs)) := by
  unfold seqOf at e
  split at e
  · cases e
  · cases e
  · rename_i i
    split at e
    · split at e
      · rename_i he
        cases e
        exact he
      · cases e
    · cases e
  · cases e
theorem srcAt_of {σ : L2.St} (e : seqOf js env r = some (k, ds, src)) : SrcAt σ σ env src := fun j xs h => by
  subst h
  exact ⟨seqOf_env e, rfl⟩
theorem seqOf_src {j : Nat} {xs : List D} (e : seqOf js env r = some (k, ds, some (j, xs))) : j ∈ js := by
  unfold seqOf at e
  split at e
  · cases e
  · cases e
  · rename_i i
    split at e
    · rename_i hc
      split at e
      · cases e
        exact List.contains_iff_mem.mp hc
      · cases e
    · cases e
  · cases e
end

def txtD (z : Str) : List D := z.cps.toList.map fun c => .str ⟨#[c]⟩
def rngD (lo : Int) (n : Nat) : List D := (List.range n).map fun i => .int (lo + (i : Nat))
def rngCD (lo c : Int) (n : Nat) : List D := (List.range n).map fun i => .int (lo + (i : Nat) * c)
def enumD (ds : List D) : List D := ds.mapIdx fun i d => .tuple [.int (i : Nat), d]
def zipD (xs ys : List D) : List D := List.zipWith (fun x y => .tuple [x, y]) xs ys

section
variable {K : PySem.W.Frag} {σ : L2.St} {B : Hp} {k k2 : Bool} {a b : Addr} {ds es : List D} {src : Option (Nat × List D)}
theorem jd_l (w : SeqW K σ B true a ds src) : JD K (Itl K a) ⟨ds, src⟩ σ B := by
  intro P B1 H1 σ1 env1 fps1 x F s i
  obtain ⟨vs, h, r⟩ := w P B1 H1 σ1 env1 fps1 x F s
  refine ⟨fun e => ⟨vs, h, by rw [RDs.length _ _ r]; exact Nat.le_of_eq e.symm⟩, fun d e => ?_⟩
  obtain ⟨v, e1, r1⟩ := r.get e
  refine ⟨⟨vs, v, h, e1⟩, fun y H2 ⟨e2, e3⟩ => ?_⟩
  subst e2
  have e4 := e3 vs h
  rw [e1] at e4
  cases e4
  exact ⟨B1, Ext.refl, F, r1⟩
theorem jd_t (w : SeqW K σ B false a ds src) : JD K (Itt K a) ⟨ds, src⟩ σ B := by
  intro P B1 H1 σ1 env1 fps1 x F s i
  obtain ⟨vs, h, r⟩ := w P B1 H1 σ1 env1 fps1 x F s
  refine ⟨fun e => ⟨vs, h, by rw [RDs.length _ _ r]; exact Nat.le_of_eq e.symm⟩, fun d e => ?_⟩
  obtain ⟨v, e1, r1⟩ := r.get e
  refine ⟨⟨vs, v, h, e1⟩, fun y H2 ⟨e2, e3⟩ => ?_⟩
  subst e2
  have e4 := e3 vs h
  rw [e1] at e4
  cases e4
  exact ⟨B1, Ext.refl, F, r1⟩
theorem jd_s (z : Str) : JD K (Its z) ⟨txtD z, none⟩ σ B := by
  intro P B1 H1 σ1 env1 fps1 x F s i
  refine ⟨fun e => ?_, fun d e => ?_⟩
  · have e' : i = (txtD z).length := e
    show z.cps.size ≤ i
    rw [e']; unfold txtD; simp
  · have e' : (txtD z)[i]? = some d := e
    unfold txtD at e'
    rw [List.getElem?_map] at e'
    cases q : z.cps.toList[i]? with
    | none => rw [q] at e'; cases e'
    | some c =>
      rw [q] at e'
      cases e'
      have q2 : z.cps[i]? = some c := by simpa using q
      refine ⟨?_, fun y H2 ⟨e2, c', e3, e4⟩ => ?_⟩
      · show i < z.cps.size
        exact (Array.getElem?_eq_some_iff.mp q2).1
      · subst e2
        rw [q2] at e3
        cases e3
        subst e4
        exact ⟨B1, Ext.refl, F, .str _⟩
theorem jd_r (lo : Int) (n : Nat) : JD K (Itr lo n) ⟨rngD lo n, none⟩ σ B := by
  intro P B1 H1 σ1 env1 fps1 x F s i
  refine ⟨fun e => ?_, fun d e => ?_⟩
  · have e' : i = (rngD lo n).length := e
    show n ≤ i
    rw [e']; unfold rngD; simp
  · have e' : (rngD lo n)[i]? = some d := e
    unfold rngD at e'
    rw [List.getElem?_map] at e'
    cases q : (List.range n)[i]? with
    | none => rw [q] at e'; cases e'
    | some c =>
      rw [q] at e'
      cases e'
      obtain ⟨h1, h2⟩ := List.getElem?_eq_some_iff.mp q
      rw [List.getElem_range] at h2
      subst h2
      refine ⟨(by simpa using h1 : i < n), fun y H2 ⟨e2, e3⟩ => ?_⟩
      subst e2
      subst e3
      exact ⟨B1, Ext.refl, F, .int _⟩
theorem jd_c (lo c : Int) (n : Nat) : JD K (Itc lo c n) ⟨rngCD lo c n, none⟩ σ B := by
  intro P B1 H1 σ1 env1 fps1 x F s i
  refine ⟨fun e => ?_, fun d e => ?_⟩
  · have e' : i = (rngCD lo c n).length := e
    show n ≤ i
    rw [e']; unfold rngCD; simp
  · have e' : (rngCD lo c n)[i]? = some d := e
    unfold rngCD at e'
    rw [List.getElem?_map] at e'
    cases q : (List.range n)[i]? with
    | none => rw [q] at e'; cases e'
    | some c' =>
      rw [q] at e'
      cases e'
      obtain ⟨h1, h2⟩ := List.getElem?_eq_some_iff.mp q
      rw [List.getElem_range] at h2
      subst h2
      refine ⟨(by simpa using h1 : i < n), fun y H2 ⟨e2, e3⟩ => ?_⟩
      subst e2
      subst e3
      exact ⟨B1, Ext.refl, F, .int _⟩
theorem jd_e (w : SeqW K σ B k a ds src) : JD K (IteK k K a) ⟨enumD ds, src⟩ σ B := by
  intro P B1 H1 σ1 env1 fps1 x F s i
  obtain ⟨vs, h, r⟩ := w P B1 H1 σ1 env1 fps1 x F s
  have le : (enumD ds).length = vs.length := by rw [RDs.length _ _ r]; unfold enumD; simp
  refine ⟨fun e => ⟨vs, h, by rw [← le]; exact e.symm⟩, fun d e => ?_⟩
  have e' : (enumD ds)[i]? = some d := e
  unfold enumD at e'
  rw [List.getElem?_mapIdx] at e'
  cases q : ds[i]? with
  | none => rw [q] at e'; cases e'
  | some d0 =>
    rw [q] at e'
    cases e'
    obtain ⟨v, e1, r1⟩ := r.get q
    refine ⟨⟨vs, v, h, e1⟩, fun y H2 ⟨T, y0, ey, hT, e2, e3⟩ => ?_⟩
    have e4 := e3 vs h
    rw [e1] at e4
    cases e4
    subst e2 ey
    obtain ⟨h1, h2, h3⟩ := F.newB hT
    have xx : Ext P B1 (upd B1 T (.tup [.int (i : Nat), v])) := Ext.upd h1 h2
    exact ⟨_, xx, F.allocB hT, .tup (.inl (.inl upd_same)) (.cons (.int _) (.cons (RD.mono xx.1 _ _ r1) .nil))⟩
theorem jd_z {src2 : Option (Nat × List D)} (w : SeqW K σ B k a ds src) (w2 : SeqW K σ B k2 b es src2) (hs : src2 = none) : JD K (ItzK k k2 K a b) ⟨zipD ds es, src⟩ σ B := by
  intro P B1 H1 σ1 env1 fps1 x F s i
  obtain ⟨vs, h, r⟩ := w P B1 H1 σ1 env1 fps1 x F s
  obtain ⟨vs2, h2, r2⟩ := w2 P B1 H1 σ1 env1 fps1 x F (fun j xs e => by rw [hs] at e; cases e)
  have le : (zipD ds es).length = min vs.length vs2.length := by rw [RDs.length _ _ r, RDs.length _ _ r2]; unfold zipD; simp
  refine ⟨fun e => ⟨vs, vs2, h, h2, by rw [← le]; exact e.symm⟩, fun d e => ?_⟩
  have e' : (zipD ds es)[i]? = some d := e
  unfold zipD at e'
  rw [List.getElem?_zipWith] at e'
  cases q : ds[i]? with
  | none => rw [q] at e'; cases e'
  | some d0 =>
    cases q2 : es[i]? with
    | none => rw [q, q2] at e'; cases e'
    | some d1 =>
      rw [q, q2] at e'
      cases e'
      obtain ⟨v, e1, r1⟩ := r.get q
      obtain ⟨v2, e12, r12⟩ := r2.get q2
      refine ⟨⟨vs, vs2, v, v2, h, h2, e1, e12⟩, fun y H2 ⟨T, y0, y1, ey, hT, e2, e3, e5⟩ => ?_⟩
      have e4 := e3 vs h
      rw [e1] at e4
      cases e4
      have e6 := e5 vs2 h2
      rw [e12] at e6
      cases e6
      subst e2 ey
      obtain ⟨h1, h2, h3⟩ := F.newB hT
      have xx : Ext P B1 (upd B1 T (.tup [v, v2])) := Ext.upd h1 h2
      exact ⟨_, xx, F.allocB hT, .tup (.inl (.inl upd_same)) (.cons (RD.mono xx.1 _ _ r1) (.cons (RD.mono xx.1 _ _ r12) .nil))⟩
end

/-! ### the walks -/
def wkOf (js : List Nat) (env : Env) (r : Rv) : Option Wk := match r with
  | .d (.str z) => some ⟨txtD z, none⟩
  | r => match seqOf js env r with
    | some (_, ds, src) => some ⟨ds, src⟩
    | none => none
def mWk (js : List Nat) (m : M Rv) : M Wk := bnd (vm m) fun r env => ofO (wkOf js env r) env
def mRng1 (ms : M (List Rv)) : M Wk := bnd ms fun rs => match rs with
  | [.d (.int j)] => if -(2 ^ 62) ≤ j ∧ j < 2 ^ 62 then ret ⟨rngD 0 j.toNat, none⟩ else stk
  | _ => stk
def mRng2 (ms : M (List Rv)) : M Wk := bnd ms fun rs => match rs with
  | [.d (.int i), .d (.int j)] => if -(2 ^ 62) ≤ i ∧ i < 2 ^ 62 ∧ -(2 ^ 62) ≤ j ∧ j < 2 ^ 62 then ret ⟨rngD i (j - i).toNat, none⟩ else stk
  | _ => stk
def mRng3 (ms : M (List Rv)) : M Wk := bnd ms fun rs => match rs with
  | [.d (.int i), .d (.int j), .d (.int (-1))] => if -(2 ^ 62) ≤ i ∧ i < 2 ^ 62 ∧ -(2 ^ 62) ≤ j ∧ j < 2 ^ 62 then ret ⟨rngCD i (-1) (i - j).toNat, none⟩ else stk
  | _ => stk
def mEnu (js : List Nat) (ms : M (List Rv)) : M Wk := bnd ms fun rs env => match rs with
  | [r] => match seqOf js env r with
    | some (_, ds, src) => .ok ⟨enumD ds, src⟩ env
    | none => .stuck
  | _ => .stuck
def mZip (js : List Nat) (ms : M (List Rv)) : M Wk := bnd ms fun rs env => match rs with
  | [r, r2] => match seqOf js env r, seqOf [] env r2 with
    | some (_, ds, src), some (_, es, _) => .ok ⟨zipD ds es, src⟩ env
    | _, _ => .stuck
  | _ => .stuck

section
variable {X : Cx} {cl : String → Addr} {E : XK} {js : List Nat} {tg e e2 : Expr} {m : M Rv} {ms : M (List Rv)} {p pos : Pos}
theorem di_seq (he : DE X cl E e m) : DI X cl E tg e (mWk js m) := by
  refine ⟨fun pins s σ H R I ⟨P, B, env, fps, F, h⟩ => (pi_seq he).run pins s σ H R I ⟨P, B, env, fps, F, ?_⟩⟩
  refine (postX_vm h).mono ?_
  intro v H1 ⟨B2, env2, fps2, r, x2, F2, q, h2⟩
  cases e2 : wkOf js env2 r with
  | none => simp only [e2] at h2; exact h2.elim
  | some wk =>
    simp only [e2] at h2
    have h3 := h2 H1 B2 fps2 Ext.refl F2
    unfold wkOf at e2
    split at e2
    · rename_i z
      cases e2
      cases (show RD X.K B2 (.str z) v from q)
      exact .inr (.inr ⟨z, rfl, h3 _ (jd_s z)⟩)
    · split at e2
      · rename_i k ds src e3
        cases e2
        obtain ⟨a, rfl, w, _⟩ := seq_w q F2 e3
        obtain ⟨vs, hs, _⟩ := w P B2 H1 σ env2 fps2 Sub.refl F2 (srcAt_of e3)
        cases k with
        | true => exact .inl ⟨a, vs, rfl, hs, h3 _ (jd_l w)⟩
        | false => exact .inr (.inl ⟨a, vs, rfl, hs, h3 _ (jd_t w)⟩)
      · cases e2
theorem rvs1 {K : PySem.W.Frag} {B : Hp} {σ : L2.St} {r : Rv} {vs : List V} (h : Paired (RvS K B σ) [r] vs) : ∃ v, vs = [v] ∧ RvS K B σ r v := by
  cases h with
  | cons a t => cases t; exact ⟨_, rfl, a⟩
theorem rvs2 {K : PySem.W.Frag} {B : Hp} {σ : L2.St} {r r2 : Rv} {vs : List V} (h : Paired (RvS K B σ) [r, r2] vs) : ∃ v v2, vs = [v, v2] ∧ RvS K B σ r v ∧ RvS K B σ r2 v2 := by
  cases h with
  | cons a t =>
    obtain ⟨v2, rfl, q⟩ := rvs1 t
    exact ⟨_, _, rfl, a, q⟩
theorem rvs_int {K : PySem.W.Frag} {B : Hp} {σ : L2.St} {i : Int} {v : V} (h : RvS K B σ (.d (.int i)) v) : v = .int i := by
  cases (show RD K B (.int i) v from h); rfl
theorem di_rng1 {a : Expr} (hg : Gl X "range") (hm : X.mg "range" = none) (ha : DA X cl E [a] ms) (hs : starEach [a] X.env = [(false, eval a X.env)] := by rfl) : DI X cl E tg (.Call (.Name "range" p) [a] [] pos) (mRng1 ms) := by
  refine ⟨fun pins s σ H R I ⟨P, B, env, fps, F, h⟩ => (pi_range1 hg hm ha hs).run pins s σ H R I ⟨P, B, env, fps, F, ?_⟩⟩
  refine (postX_bnd h).mono fun rs H1 B1 fps1 env1 x1 F1 h1 vs hv => ?_
  split at h1
  · rename_i j
    split at h1
    · rename_i hj
      obtain ⟨v, rfl, q⟩ := rvs1 hv
      cases rvs_int q
      exact ⟨j, rfl, hj.1, hj.2, h1 H1 B1 fps1 Ext.refl F1 _ (jd_r 0 _)⟩
    · exact h1.elim
  · exact h1.elim
theorem di_rng2 {a b : Expr} (hg : Gl X "range") (hm : X.mg "range" = none) (ha : DA X cl E [a, b] ms) (hs : starEach [a, b] X.env = [(false, eval a X.env), (false, eval b X.env)] := by rfl) (hs2 : starEach [b] X.env = [(false, eval b X.env)] := by rfl) : DI X cl E tg (.Call (.Name "range" p) [a, b] [] pos) (mRng2 ms) := by
  refine ⟨fun pins s σ H R I ⟨P, B, env, fps, F, h⟩ => (pi_range2 hg hm ha hs hs2).run pins s σ H R I ⟨P, B, env, fps, F, ?_⟩⟩
  refine (postX_bnd h).mono fun rs H1 B1 fps1 env1 x1 F1 h1 vs hv => ?_
  split at h1
  · rename_i i j
    split at h1
    · rename_i hj
      obtain ⟨v, v2, rfl, q, q2⟩ := rvs2 hv
      cases rvs_int q
      cases rvs_int q2
      exact ⟨i, j, rfl, hj, h1 H1 B1 fps1 Ext.refl F1 _ (jd_r i _)⟩
    · exact h1.elim
  · exact h1.elim
theorem di_rng3 {a b c : Expr} (hg : Gl X "range") (hm : X.mg "range" = none) (ha : DA X cl E [a, b, c] ms) (hs : starEach [a, b, c] X.env = (false, eval a X.env) :: starEach [b, c] X.env := by rfl) (hpl : (backTo pos (starEach [b, c] X.env)).any (·.1) = false := by rfl) :
    DI X cl E tg (.Call (.Name "range" p) [a, b, c] [] pos) (mRng3 ms) := by
  refine ⟨fun pins s σ H R I ⟨P, B, env, fps, F, h⟩ => (pi_range3 hg hm ha hs hpl).run pins s σ H R I ⟨P, B, env, fps, F, ?_⟩⟩
  refine (postX_bnd h).mono fun rs H1 B1 fps1 env1 x1 F1 h1 vs hv => ?_
  split at h1
  · rename_i i j
    split at h1
    · rename_i hj
      cases hv with
      | cons q hv =>
        obtain ⟨v2, v3, rfl, q2, q3⟩ := rvs2 hv
        cases rvs_int q
        cases rvs_int q2
        cases rvs_int q3
        exact ⟨i, j, -1, _, rfl, RgC.neg hj.1 hj.2.1 hj.2.2.1 hj.2.2.2, h1 H1 B1 fps1 Ext.refl F1 _ (jd_c i (-1) _)⟩
    · exact h1.elim
  · exact h1.elim
theorem di_enu {a : Expr} {tpos : Pos} {elts : List Expr} {kk : Nat} (hg : Gl X "enumerate") (hm : X.mg "enumerate" = none) (ha : DA X cl E [a] ms) (hs : starEach [a] X.env = [(false, eval a X.env)] := by rfl) :
    DI X cl E (.Tuple elts kk tpos) (.Call (.Name "enumerate" p) [a] [] pos) (mEnu js ms) := by
  refine ⟨fun pins s σ H R I ⟨P, B, env, fps, F, h⟩ => (pi_enumK hg hm ha hs).run pins s σ H R I ⟨P, B, env, fps, F, ?_⟩⟩
  refine (postX_bnd h).mono fun rs H1 B1 fps1 env1 x1 F1 h1 vs hv => ?_
  split at h1
  · rename_i r
    split at h1
    · rename_i k ds src e3
      obtain ⟨v, rfl, q⟩ := rvs1 hv
      obtain ⟨a, rfl, w, _⟩ := seq_w q F1 e3
      obtain ⟨vs, hs, _⟩ := w P B1 H1 σ env1 fps1 Sub.refl F1 (srcAt_of e3)
      exact ⟨k, a, vs, rfl, hs, h1 H1 B1 fps1 Ext.refl F1 _ (jd_e w)⟩
    · exact h1.elim
  · exact h1.elim
theorem di_zip {a b : Expr} {tpos : Pos} {elts : List Expr} {kk : Nat} (hg : Gl X "zip") (hm : X.mg "zip" = none) (ha : DA X cl E [a, b] ms) (hs : starEach [a, b] X.env = (false, eval a X.env) :: starEach [b] X.env := by rfl) (hpl : (backTo pos (starEach [b] X.env)).any (·.1) = false := by rfl) :
    DI X cl E (.Tuple elts kk tpos) (.Call (.Name "zip" p) [a, b] [] pos) (mZip js ms) := by
  refine ⟨fun pins s σ H R I ⟨P, B, env, fps, F, h⟩ => (pi_zipK hg hm ha hs hpl).run pins s σ H R I ⟨P, B, env, fps, F, ?_⟩⟩
  refine (postX_bnd h).mono fun rs H1 B1 fps1 env1 x1 F1 h1 vs hv => ?_
  split at h1
  · rename_i r r2
    split at h1
    · rename_i k ds src k2 es src2 e3 e4
      obtain ⟨v, v2, rfl, q, q2⟩ := rvs2 hv
      obtain ⟨a, rfl, w, _⟩ := seq_w q F1 e3
      obtain ⟨a2, rfl, w2, _⟩ := seq_w q2 F1 e4
      have hs2 : src2 = none := by
        cases src2 with
        | none => rfl
        | some z =>
          have := seqOf_src (j := z.1) (xs := z.2) e4
          cases this
      obtain ⟨vs, hs, _⟩ := w P B1 H1 σ env1 fps1 Sub.refl F1 (srcAt_of e3)
      obtain ⟨vs2, hs3, _⟩ := w2 P B1 H1 σ env1 fps1 Sub.refl F1 (srcAt_of e4)
      exact ⟨k, k2, a, a2, vs, vs2, rfl, hs, hs3, h1 H1 B1 fps1 Ext.refl F1 _ (jd_z w w2 hs2)⟩
    · exact h1.elim
  · exact h1.elim

/-! ### reversed -/
def mRev (js : List Nat) (m : M Rv) : M Wk := bnd (vm m) fun r env => match seqOf js env r with
  | some (_, ds, src) => .ok ⟨ds.reverse, src⟩ env
  | none => .stuck
theorem jd_v {K : PySem.W.Frag} {σ : L2.St} {B : Hp} {a : Addr} {ds : List D} {src : Option (Nat × List D)} {n : Nat} (w : SeqW K σ B true a ds src) (hn : n = ds.length) : JD K (Itv K a n) ⟨ds.reverse, src⟩ σ B := by
  intro P B1 H1 σ1 env1 fps1 x F s i
  obtain ⟨vs, h, r⟩ := w P B1 H1 σ1 env1 fps1 x F s
  have hl := RDs.length _ _ r
  refine ⟨fun e => ?_, fun d e => ?_⟩
  · have e' : i = ds.reverse.length := e
    show n ≤ i
    rw [e', List.length_reverse, hn]; exact Nat.le_refl _
  · have e' : ds.reverse[i]? = some d := e
    have hi : i < ds.length := by
      have := (List.getElem?_eq_some_iff.mp e').1
      simpa using this
    rw [List.getElem?_reverse hi] at e'
    obtain ⟨v, e1, r1⟩ := r.get e'
    rw [← hn] at e1
    refine ⟨⟨by rw [hn]; exact hi, vs, v, h, e1⟩, fun y H2 ⟨e2, e3⟩ => ?_⟩
    subst e2
    have e4 := e3 vs h
    rw [e1] at e4
    cases e4
    exact ⟨B1, Ext.refl, F, r1⟩
theorem jd_vt {K : PySem.W.Frag} {σ : L2.St} {B : Hp} {a : Addr} {ds : List D} {src : Option (Nat × List D)} {n : Nat} (w : SeqW K σ B false a ds src) (hn : n = ds.length) : JD K (RT.ItvT K a n) ⟨ds.reverse, src⟩ σ B := by
  intro P B1 H1 σ1 env1 fps1 x F s i
  obtain ⟨vs, h, r⟩ := w P B1 H1 σ1 env1 fps1 x F s
  have hl := RDs.length _ _ r
  refine ⟨fun e => ?_, fun d e => ?_⟩
  · have e' : i = ds.reverse.length := e
    show n ≤ i
    rw [e', List.length_reverse, hn]; exact Nat.le_refl _
  · have e' : ds.reverse[i]? = some d := e
    have hi : i < ds.length := by
      have := (List.getElem?_eq_some_iff.mp e').1
      simpa using this
    rw [List.getElem?_reverse hi] at e'
    obtain ⟨v, e1, r1⟩ := r.get e'
    rw [← hn] at e1
    refine ⟨⟨by rw [hn]; exact hi, vs, v, h, e1⟩, fun y H2 ⟨e2, e3⟩ => ?_⟩
    subst e2
    have e4 := e3 vs h
    rw [e1] at e4
    cases e4
    exact ⟨B1, Ext.refl, F, r1⟩
theorem di_rev (hg : Gl X "reversed") (hm : X.mg "reversed" = none) (he : DE X cl E e m) (hs : starEach [e] X.env = (false, eval e X.env) :: starEach [] X.env := by rfl) : DI X cl E tg (.Call (.Name "reversed" p) [e] [] pos) (mRev js m) := by
  refine ⟨fun pins s σ H R I ⟨P, B, env, fps, F, h⟩ => (RT.pi_revA hg hm he hs).run pins s σ H R I ⟨P, B, env, fps, F, ?_⟩⟩
  refine (postX_vm h).mono ?_
  intro v H1 ⟨B2, env2, fps2, r, x2, F2, q, h2⟩
  split at h2
  · rename_i k ds src e3
    have h3 := h2 H1 B2 fps2 Ext.refl F2
    obtain ⟨a, rfl, w, _⟩ := seq_w q F2 e3
    obtain ⟨vs, hs, r⟩ := w P B2 H1 σ env2 fps2 Sub.refl F2 (srcAt_of e3)
    have hl := RDs.length _ _ r
    cases k with
    | true => exact ⟨a, vs, rfl, .inl ⟨hs, h3 _ (jd_v w hl)⟩⟩
    | false => exact ⟨a, vs, rfl, .inr ⟨hs, h3 _ (jd_vt w hl)⟩⟩
  · exact h2.elim

/-! ### where a walked list comes from -/
theorem hw_wk {js ios : List Nat} (hj : ∀ j ∈ js, j ∈ ios) : ∀ env w env' j ds, mWk js m env = .ok w env' → w.src = some (j, ds) → j ∈ ios := by
  intro env w env' j ds e h
  unfold mWk vm bnd at e
  cases q : m env with
  | ok r env1 =>
    rw [q] at e
    simp only [bind_ok, ret] at e
    cases e2 : wkOf js env1 r.frz with
    | none => rw [e2] at e; cases e
    | some wk =>
      rw [e2] at e
      cases e
      unfold wkOf at e2
      split at e2
      · cases e2; cases h
      · split at e2
        · rename_i k ds src e3
          cases e2
          cases h
          exact hj _ (seqOf_src e3)
        · cases e2
  | ex c env1 => rw [q] at e; cases e
  | stuck => rw [q] at e; cases e
theorem hw_rng1 {ios : List Nat} : ∀ env w env' j ds, mRng1 ms env = .ok w env' → w.src = some (j, ds) → j ∈ ios := by
  intro env w env' j ds e h
  unfold mRng1 bnd at e
  cases q : ms env with
  | ok r env1 =>
    rw [q] at e
    simp only [bind_ok] at e
    split at e
    · split at e
      · cases e; cases h
      · cases e
    · cases e
  | ex c env1 => rw [q] at e; cases e
  | stuck => rw [q] at e; cases e
theorem hw_rng2 {ios : List Nat} : ∀ env w env' j ds, mRng2 ms env = .ok w env' → w.src = some (j, ds) → j ∈ ios := by
  intro env w env' j ds e h
  unfold mRng2 bnd at e
  cases q : ms env with
  | ok r env1 =>
    rw [q] at e
    simp only [bind_ok] at e
    split at e
    · split at e
      · cases e; cases h
      · cases e
    · cases e
  | ex c env1 => rw [q] at e; cases e
  | stuck => rw [q] at e; cases e
theorem hw_rng3 {ios : List Nat} : ∀ env w env' j ds, mRng3 ms env = .ok w env' → w.src = some (j, ds) → j ∈ ios := by
  intro env w env' j ds e h
  unfold mRng3 bnd at e
  cases q : ms env with
  | ok r env1 =>
    rw [q] at e
    simp only [bind_ok] at e
    split at e
    · split at e
      · cases e; cases h
      · cases e
    · cases e
  | ex c env1 => rw [q] at e; cases e
  | stuck => rw [q] at e; cases e
theorem hw_enu {js ios : List Nat} (hj : ∀ j ∈ js, j ∈ ios) : ∀ env w env' j ds, mEnu js ms env = .ok w env' → w.src = some (j, ds) → j ∈ ios := by
  intro env w env' j ds e h
  unfold mEnu bnd at e
  cases q : ms env with
  | ok r env1 =>
    rw [q] at e
    simp only [bind_ok] at e
    split at e
    · split at e
      · rename_i k ds src e3
        cases e
        cases h
        exact hj _ (seqOf_src e3)
      · cases e
    · cases e
  | ex c env1 => rw [q] at e; cases e
  | stuck => rw [q] at e; cases e
theorem hw_zip {js ios : List Nat} (hj : ∀ j ∈ js, j ∈ ios) : ∀ env w env' j ds, mZip js ms env = .ok w env' → w.src = some (j, ds) → j ∈ ios := by
  intro env w env' j ds e h
  unfold mZip bnd at e
  cases q : ms env with
  | ok r env1 =>
    rw [q] at e
    simp only [bind_ok] at e
    split at e
    · split at e
      · rename_i k ds src k2 es src2 e3 e4
        cases e
        cases h
        exact hj _ (seqOf_src e3)
      · cases e
    · cases e
  | ex c env1 => rw [q] at e; cases e
  | stuck => rw [q] at e; cases e
theorem hw_rev {js ios : List Nat} (hj : ∀ j ∈ js, j ∈ ios) : ∀ env w env' j ds, mRev js m env = .ok w env' → w.src = some (j, ds) → j ∈ ios := by
  intro env w env' j ds e h
  unfold mRev vm bnd at e
  cases q : m env with
  | ok r env1 =>
    rw [q] at e
    simp only [bind_ok, ret] at e
    split at e
    · rename_i k ds src e3
      cases e
      cases h
      exact hj _ (seqOf_src e3)
    · cases e
  | ex c env1 => rw [q] at e; cases e
  | stuck => rw [q] at e; cases e
end
end Mi

set_option Elab.async false
set_option linter.all false
set_option maxRecDepth 100000
namespace Mi
open PySem PySem.Spec L2

/-! ### list comprehensions -/
def wipeE (env : Env) : List Nat → Env
  | [] => env
  | v :: vs => (wipeE env vs).set v none
def ownFree (env : Env) (vs : List Nat) : Bool := vs.all fun v => match env[v]? with
  | some (some (.lst _)) => false
  | some (some (.dct _)) => false
  | some (some (.tpl _)) => false
  | _ => true
def restE (env0 env : Env) : List Nat → Env
  | [] => env
  | v :: vs => (restE env0 env vs).set v ((env0[v]?).getD none)
def lcL (tg : Tg) (src : Option (Nat × List D)) (tt : M Bool) (te : M Rv) (vs : List Nat) : List D → List D → M (List D)
  | [], acc, env => if srcOk env src = true then .ok acc env else .stuck
  | d :: ds, acc, env => if srcOk env src = true then match asgT tg d env with
      | some env1 => match tt env1 with
        | .ok true env2 => match (bnd (vm te) frzR) env2 with
          | .ok y env3 => if ownFree env3 vs = true then lcL tg src tt te vs ds (acc ++ [y]) (wipeE env3 vs) else .stuck
          | _ => .stuck
        | .ok false env2 => if ownFree env2 vs = true then lcL tg src tt te vs ds acc (wipeE env2 vs) else .stuck
        | _ => .stuck
      | none => .stuck
    else .stuck
def mLc (it : M Wk) (tg : Tg) (tt : M Bool) (te : M Rv) (vs : List Nat) : M Rv := bnd it fun w env => if ownFree env vs = true ∧ w.items.length ≤ sizeLine then match lcL tg w.src tt te vs w.items [] (wipeE env vs) with
    | .ok acc env2 => .ok (.own (.lst acc)) (restE env env2 vs)
    | _ => .stuck
  else .stuck

section
variable {K : PySem.W.Frag} {P B B' H H' : Hp} {σ σ' : L2.St} {env env0 : Env} {fps : Nat → List Addr} {vs : List Nat}
theorem wipeE_length : ∀ vs : List Nat, (wipeE env vs).length = env.length
  | [] => rfl
  | v :: vs => by unfold wipeE; rw [List.length_set, wipeE_length vs]
theorem wipeE_get {i : Nat} : ∀ {vs : List Nat}, i ∉ vs → (wipeE env vs)[i]? = env[i]?
  | [], _ => rfl
  | v :: vs, h => by
    unfold wipeE
    simp only [List.mem_cons, not_or] at h
    rw [List.getElem?_set_ne (Ne.symm h.1)]
    exact wipeE_get h.2
theorem wipeE_some {i : Nat} {o : O} : ∀ {vs : List Nat}, (wipeE env vs)[i]? = some (some o) → env[i]? = some (some o) ∧ i ∉ vs
  | [], h => ⟨h, by simp⟩
  | v :: vs, h => by
    unfold wipeE at h
    by_cases hi : v = i
    · subst hi
      by_cases hv : v < (wipeE env vs).length
      · rw [List.getElem?_set_self hv] at h; cases h
      · rw [List.getElem?_eq_none (by simpa using hv)] at h; cases h
    · rw [List.getElem?_set_ne hi] at h
      obtain ⟨h1, h2⟩ := wipeE_some h
      exact ⟨h1, by simp only [List.mem_cons, not_or]; exact ⟨fun e => hi e.symm, h2⟩⟩
theorem wipe_get {i : Nat} : ∀ {vs : List Nat}, i ∉ vs → (wipe σ vs)[i]? = σ[i]?
  | [], _ => rfl
  | v :: vs, h => by
    unfold wipe
    simp only [List.mem_cons, not_or] at h
    rw [List.getElem?_set_ne (Ne.symm h.1)]
    exact wipe_get h.2
theorem wipe_mem {i : Nat} : ∀ {vs : List Nat}, i ∈ vs → (wipe σ vs)[i]? = if i < σ.length then some none else none
  | [], h => by simp at h
  | v :: vs, h => by
    unfold wipe
    by_cases hi : v = i
    · subst hi
      by_cases hv : v < (wipe σ vs).length
      · rw [List.getElem?_set_self hv, if_pos (by rwa [wipe_length] at hv)]
      · rw [List.getElem?_eq_none (by simpa using hv), if_neg (by rwa [wipe_length] at hv)]
    · rw [List.getElem?_set_ne hi]
      simp only [List.mem_cons] at h
      rcases h with h | h
      · exact absurd h.symm hi
      · exact wipe_mem h
theorem wipe_eq (hl : σ'.length = σ.length) (h : ∀ i, i ∉ vs → σ'[i]? = σ[i]?) : wipe σ' vs = wipe σ vs := by
  apply List.ext_getElem?
  intro i
  by_cases hi : i ∈ vs
  · rw [wipe_mem hi, wipe_mem hi, hl]
  · rw [wipe_get hi, wipe_get hi, h i hi]
theorem restE_length : ∀ vs : List Nat, (restE env0 env vs).length = env.length
  | [] => rfl
  | v :: vs => by unfold restE; rw [List.length_set, restE_length vs]
theorem restE_get {i : Nat} {o : O} : ∀ {vs : List Nat}, (restE env0 env vs)[i]? = some (some o) → (i ∈ vs ∧ env0[i]? = some (some o)) ∨ (i ∉ vs ∧ env[i]? = some (some o))
  | [], h => .inr ⟨by simp, h⟩
  | v :: vs, h => by
    unfold restE at h
    by_cases hi : v = i
    · subst hi
      by_cases hv : v < (restE env0 env vs).length
      · rw [List.getElem?_set_self hv] at h
        refine .inl ⟨by simp, ?_⟩
        cases q : env0[v]? with
        | none => rw [q] at h; cases h
        | some z => rw [q] at h; exact h
      · rw [List.getElem?_eq_none (by simpa using hv)] at h; cases h
    · rw [List.getElem?_set_ne hi] at h
      rcases restE_get h with ⟨h1, h2⟩ | ⟨h1, h2⟩
      · exact .inl ⟨List.mem_cons_of_mem _ h1, h2⟩
      · exact .inr ⟨by simp only [List.mem_cons, not_or]; exact ⟨fun e => hi e.symm, h1⟩, h2⟩
theorem Fm.free (F : Fm K P B H σ env fps) (h : ownFree env vs = true) : ∀ v ∈ vs, fps v = [] := by
  intro v hv
  unfold ownFree at h
  have h := List.all_eq_true.mp h v hv
  cases e : env[v]? with
  | none => exact F.emp v (.inr e)
  | some o =>
    cases o with
    | none => exact F.emp v (.inl e)
    | some o =>
      obtain ⟨x, _, r⟩ := F.slot v o e
      cases o with
      | dat d => exact r.dat_inv.2
      | lst ds => rw [e] at h; cases h
      | dct kv => rw [e] at h; cases h
      | tpl ds => rw [e] at h; cases h
/-- the comprehension's own slots forgotten -/
theorem Fm.wipe (F : Fm K P B H σ env fps) (h : ownFree env vs = true) : Fm K P B H (L2.wipe σ vs) (wipeE env vs) fps := by
  refine ⟨by rw [wipeE_length, wipe_length]; exact F.len, F.sub, F.prt, fun i o e => ?_, fun i e => ?_, F.dis, F.off, F.tab, F.nbT, F.npT⟩
  · obtain ⟨e1, e2⟩ := wipeE_some e
    obtain ⟨v, e3, r⟩ := F.slot i o e1
    exact ⟨v, by rw [wipe_get e2]; exact e3, r⟩
  · by_cases hi : i ∈ vs
    · exact F.free h i hi
    · rw [wipeE_get hi] at e
      exact F.emp i e
/-- the outer slots are back -/
theorem Fm.rest {B0 H0 : Hp} {fps0 : Nat → List Addr} (F0 : Fm K P B0 H0 σ env0 fps0) (h : ownFree env0 vs = true) (F : Fm K P B H (L2.wipe σ vs) env fps) (hw : ownFree env vs = true) (hb : Sub B0 B) : Fm K P B H σ (restE env0 env vs) fps := by
  refine ⟨by rw [restE_length, F.len, wipe_length], F.sub, F.prt, fun i o e => ?_, fun i e => ?_, F.dis, F.off, F.tab, F.nbT, F.npT⟩
  · rcases restE_get e with ⟨h1, h2⟩ | ⟨h1, h2⟩
    · obtain ⟨v, e3, r⟩ := F0.slot i o h2
      have z := F0.free h i h1
      rw [z] at r
      rw [F.free hw i h1]
      refine ⟨v, e3, r.congr hb fun a ha => by simp at ha⟩
    · obtain ⟨v, e3, r⟩ := F.slot i o h2
      rw [wipe_get h1] at e3
      exact ⟨v, e3, r⟩
  · by_cases hi : i ∈ vs
    · exact F.free hw i hi
    · have q : ∀ vs : List Nat, i ∉ vs → (restE env0 env vs)[i]? = env[i]? := by
        intro vs
        induction vs with
        | nil => intro _; rfl
        | cons v vs ih =>
          intro hn
          simp only [List.mem_cons, not_or] at hn
          unfold restE
          rw [List.getElem?_set_ne (Ne.symm hn.1)]
          exact ih hn.2
      rw [q vs hi] at e
      exact F.emp i e
theorem wipeE_free (env : Env) (vs : List Nat) : ownFree (wipeE env vs) vs = true := by
  unfold ownFree
  refine List.all_eq_true.mpr fun v hv => ?_
  cases e : (wipeE env vs)[v]? with
  | none => rfl
  | some o =>
    cases o with
    | none => rfl
    | some o => exact absurd hv (wipeE_some e).2
/-- a list that is under way is protected -/
theorem Fm.guard (F : Fm K P B H σ env fps) {a : Addr} {o : HO} (e : H a = some o) (hb : B a = none) (hf : ∀ i, a ∉ fps i) (hp : P a = none) (ho : ∀ ps, o ≠ .tbl ps := by intro _ h; cases h) : Fm K (upd P a o) B H σ env fps := by
  refine ⟨F.len, F.sub, fun b u q => ?_, F.slot, F.emp, F.dis, fun i b hb' => ?_, F.tab, F.nbT, F.npT.upd ho⟩
  · by_cases z : b = a
    · subst z; rw [upd_same] at q; cases q; exact e
    · rw [upd_ne z] at q; exact F.prt _ _ q
  · have z : b ≠ a := by
      intro z; subst z; exact hf i hb'
    obtain ⟨q1, q2⟩ := F.off i b hb'
    exact ⟨q1, by rw [upd_ne z]; exact q2⟩
/-- it is written anew -/
theorem noT_un {P : Hp} {a : Addr} {o : HO} (h : noT (upd P a o)) (hp : P a = none) : noT P := fun b ps e => by
  have z : b ≠ a := by
    intro z; subst z; rw [hp] at e; cases e
  exact h b ps (by rw [upd_ne z]; exact e)
theorem Fm.grow {a : Addr} {o o' : HO} (F : Fm K (upd P a o) B H σ env fps) (hb : B a = none) (hp : P a = none) (hc : notC o' := by first | exact notC_lst | exact notC_tup | exact notC_dK | assumption) : Fm K P B (upd H a o') σ env fps ∧ (∀ i, a ∉ fps i) := by
  have hf : ∀ i, a ∉ fps i := fun i h => by
    have q := (F.off i a h).2
    rw [upd_same] at q; cases q
  refine ⟨⟨F.len, fun b u q => ?_, fun b u q => ?_, fun i o e => ?_, F.emp, F.dis, fun i b hb' => ?_, F.tab.put (fun ps e => F.npT a ps (by rw [upd_same]; have := F.prt a o upd_same; rw [this] at e; exact e)) hc, F.nbT, noT_un F.npT hp⟩, hf⟩
  · have z : b ≠ a := by
      intro z; subst z; rw [hb] at q; cases q
    rw [upd_ne z]; exact F.sub _ _ q
  · have z : b ≠ a := by
      intro z; subst z; rw [hp] at q; cases q
    rw [upd_ne z]
    exact F.prt _ _ (by rw [upd_ne z]; exact q)
  · obtain ⟨v, e1, r⟩ := F.slot i o e
    exact ⟨v, e1, r.congr Sub.refl fun b hb' => upd_ne (fun z => hf i (z ▸ hb'))⟩
  · have z : b ≠ a := by
      intro z; subst z; exact hf i hb'
    obtain ⟨q1, q2⟩ := F.off i b hb'
    exact ⟨q1, by rw [upd_ne z] at q2; exact q2⟩
theorem Fm.ungrd {a : Addr} {o : HO} (F : Fm K (upd P a o) B H σ env fps) (hp : P a = none) : Fm K P B H σ env fps :=
  ⟨F.len, F.sub, fun b u q => F.prt _ _ (by
    have z : b ≠ a := by
      intro z; subst z; rw [hp] at q; cases q
    rw [upd_ne z]; exact q), F.slot, F.emp, F.dis, fun i b hb' => ⟨(F.off i b hb').1, by
    have q := (F.off i b hb').2
    by_cases z : b = a
    · subst z; exact hp
    · rw [upd_ne z] at q; exact q⟩, F.tab, F.nbT, noT_un F.npT hp⟩
theorem Ext.ungrd {a : Addr} {o : HO} (hp : P a = none) (x : Ext (L2.upd P a o) B B') : Ext P B B' ∧ B' a = B a :=
  ⟨⟨x.1, fun b u q => x.2 b u (by
    have z : b ≠ a := by
      intro z; subst z; rw [hp] at q; cases q
    rw [upd_ne z]; exact q)⟩, x.2 a o upd_same⟩
end

def DTs (X : Cx) (cl : String → Addr) (E : XK) (ifs : List Expr) (t : M Bool) : Prop := PTs X ifs (tMT X.K cl E t)
section
variable {X : Cx} {cl : String → Addr} {E : XK} {elt tgt iter : Expr} {ifs : List Expr} {scope : Scope} {own : List (Str × Nat)} {pos : Pos} {it : M Wk} {tg : Tg} {tt : M Bool} {te : M Rv} {vs : List Nat}
theorem dts_nil : DTs X cl E [] (ret true) := ⟨fun pins s σ H Q I ⟨P, B, env, fps, F, h⟩ => pts_nil.run pins s σ H Q I (h H B fps Ext.refl F)⟩
theorem dts_one {c : Expr} {t : M Bool} (h : DT X cl E c t) : DTs X cl E [c] t := pts_one h
/-- nothing is raised within -/
abbrev XN : XK := fun _ _ _ => False
theorem mem_wipe_src {env : Env} {j : Nat} {ds : List D} (h : ownFree env vs = true) (e : env[j]? = some (some (.lst ds))) : j ∉ vs := fun hj => by
  have q := List.all_eq_true.mp h j hj
  rw [e] at q
  cases q
theorem lc_ok {K : PySem.W.Frag} {σ : L2.St} {P : Hp} {w : Wk} {J : It} {Q : VK} {B1 : Hp} {env1 : Env} {fps1 : Nat → List Addr} {H1 : Hp} (hg : ∀ i ∈ tg.slots, vs.contains i = true) (F1 : Fm K P B1 H1 σ env1 fps1) (jd : JD K J w σ B1) (hf1 : ownFree env1 vs = true) (hlen : w.items.length ≤ sizeLine)
    (hend : match lcL tg w.src tt te vs w.items [] (wipeE env1 vs) with
      | .ok acc env2 => PostE K cl E P B1 σ (.ok (.own (.lst acc)) (restE env1 env2 vs)) Q
      | _ => False) {D0 : Addr} (hD : H1 D0 = none) :
    ∃ W : Nat → Nat → Hp → Prop, (∃ m, W 0 m (upd H1 D0 (.lst []))) ∧ ∀ i m H, W i m H →
      (J.stop i H ∧ Q (.ref D0) H) ∨ (J.go i H ∧ ∃ Nx : Hp → Prop, (∀ H', Nx H' → ∃ m', m' < m ∧ W (i + 1) m' H') ∧ ∀ x H', J.yld i H x H' → tGd K tg x (L2.wipe σ vs) H' fun σ2 H2 => L2.wipe σ2 vs = L2.wipe σ vs ∧ tMT K cl XN tt σ2 H2 fun b H3 =>
        if b = true then tM K cl XN te σ2 H3 fun y H4 => ∃ acc, H4 D0 = some (.lst acc) ∧ acc.length < sizeLine ∧ Nx (upd H4 D0 (.lst (acc ++ [y]))) else Nx H3) := by
  obtain ⟨hDb, hDp, hDf⟩ := F1.newB hD
  obtain ⟨R, hR⟩ : ∃ R, R = lcL tg w.src tt te vs w.items [] (wipeE env1 vs) := ⟨_, rfl⟩
  rw [← hR] at hend
  -- the loop's frame
  let Lp : Nat → Hp → Prop := fun i H => i ≤ w.items.length ∧ ∃ (B' : Hp) (env' : Env) (fps' : Nat → List Addr) (acc : List V) (ds : List D), Ext P B1 B' ∧ B' D0 = none ∧ Fm K P B' H (L2.wipe σ vs) env' fps' ∧ ownFree env' vs = true ∧ (∀ i, D0 ∉ fps' i) ∧
    H D0 = some (.lst acc) ∧ RDs K B' ds acc ∧ ds.length ≤ i ∧ lcL tg w.src tt te vs (w.items.drop i) ds env' = R
  refine ⟨fun i m H => m = w.items.length - i ∧ Lp i H, ⟨_, rfl, Nat.zero_le _, B1, wipeE env1 vs, fps1, [], [], Ext.refl, hDb, ((F1.wipe hf1).alloc hD), wipeE_free _ _, hDf, upd_same, .nil, Nat.le_refl _, by rw [List.drop_zero, hR]⟩, ?_⟩
  rintro i m H ⟨rfl, hi, B', env', fps', acc, ds, x', hDb', F', hf', hDf', eD, rds, hds, elc⟩
  have srcA : srcOk env' w.src = true → SrcAt σ (L2.wipe σ vs) env' w.src := fun ho j xs e => by
    have e2 := srcOk_of ho j xs e
    exact ⟨e2, wipe_get (mem_wipe_src hf' e2)⟩
  by_cases hlt : i < w.items.length
  · have ed : w.items.drop i = w.items[i] :: w.items.drop (i + 1) := List.drop_eq_getElem_cons hlt
    rw [ed] at elc
    unfold lcL at elc
    rw [← elc] at hend
    split at hend
    case h_2 => exact hend.elim
    case h_1 accF envF eq =>
    split at eq
    case isFalse => cases eq
    case isTrue ho =>
    split at eq
    case h_2 => cases eq
    case h_1 env2 ea =>
    obtain ⟨_, j2⟩ := jd (L2.upd P D0 (.lst acc)) B' H (L2.wipe σ vs) env' fps' x'.1 (F'.guard eD hDb' hDf' hDp) (srcA ho) i
    obtain ⟨g1, g2⟩ := j2 w.items[i] (List.getElem?_eq_getElem hlt)
    refine .inr ⟨g1, fun H3 => Lp (i + 1) H3, fun H3 h3 => ⟨w.items.length - (i + 1), by omega, rfl, h3⟩, fun x H2 hy => ?_⟩
    obtain ⟨B2, x2, F2, rd⟩ := g2 x H2 hy
    refine ⟨_, B2, env', fps', _, env2, F2, rd, ea, fun σ3 fps3 F3 s3 => ?_⟩
    have hσ : L2.wipe σ3 vs = L2.wipe σ vs := wipe_eq (by rw [s3.1, wipe_length]) fun j hj => by
      rw [s3.2 j (fun h => hj (List.contains_iff_mem.mp (hg j h))), wipe_get hj]
    refine ⟨hσ, _, B2, env2, fps3, F3, ?_⟩
    cases qt : tt env2 with
    | stuck => rw [qt] at eq; cases eq
    | ex c e => rw [qt] at eq; cases eq
    | ok b env3 =>
    rw [qt] at eq
    intro H4 B4 fps4 x4 F4
    cases b with
    | false =>
      simp only [Bool.false_eq_true, if_false] at eq ⊢
      by_cases hf3 : ownFree env3 vs = true
      · rw [if_pos hf3] at eq
        have xx := Ext.ungrd hDp (x2.trans x4)
        have F5 := F4.ungrd hDp
        have F6 := F5.wipe hf3
        rw [hσ] at F6
        refine ⟨hlt, B4, _, fps4, acc, ds, x'.trans xx.1, xx.2.trans hDb', F6, wipeE_free _ _, fun i h => ?_, F4.prt _ _ upd_same, RDs.mono xx.1.1 _ _ rds, Nat.le_succ_of_le hds, ?_⟩
        · have q := (F4.off i _ h).2
          rw [upd_same] at q; cases q
        · rw [← elc, if_pos ho, ea]
          simp only [qt]
          rw [if_pos hf3]
      · rw [if_neg hf3] at eq; cases eq
    | true =>
      simp only [if_true] at eq ⊢
      refine ⟨_, B4, env3, fps4, F4, ?_⟩
      cases qe : te env3 with
      | stuck => simp only [bnd, vm, qe, bind_stuck] at eq; cases eq
      | ex c e => simp only [bnd, vm, qe, bind_ex] at eq; cases eq
      | ok r env4 =>
        intro v H5 B5 fps5 x5 F5 r5
        obtain ⟨B6, x6, F6, s6⟩ := freeze_rv F5 r5
        cases qf : frzR r.frz env4 with
        | stuck => simp only [bnd, vm, qe, bind_ok, ret, qf] at eq; cases eq
        | ex c e => exact absurd qf frzR_nex
        | ok y env5 =>
          have hb : (bnd (vm te) frzR) env3 = .ok y env5 := by simp only [bnd, vm, qe, bind_ok, ret, qf]
          rw [hb] at eq
          obtain ⟨B7, fps7, x7, F7, r7⟩ := frzR_ok F6 s6 qf
          by_cases hf5 : ownFree env5 vs = true
          · simp only at eq
            rw [if_pos hf5] at eq
            have xx := Ext.ungrd hDp (x2.trans (x4.trans (x5.trans (x6.trans x7))))
            have eD7 : H5 D0 = some (.lst acc) := F7.prt _ _ upd_same
            have hl := RDs.length _ _ rds
            obtain ⟨F8, hDf8⟩ := F7.grow (o' := .lst (acc ++ [v])) (xx.2.trans hDb') hDp
            have F9 := F8.wipe hf5
            rw [hσ] at F9
            refine ⟨acc, eD7, by rw [hl]; omega, hlt, B7, _, fps7, acc ++ [v], ds ++ [y], x'.trans xx.1, xx.2.trans hDb', F9, wipeE_free _ _, hDf8, upd_same, RDs.append (RDs.mono xx.1.1 _ _ rds) (.cons r7 .nil), by simp; omega, ?_⟩
            rw [← elc, if_pos ho, ea]
            simp only [qt, hb]
            rw [if_pos hf5]
          · simp only at eq
            rw [if_neg hf5] at eq; cases eq
  · have e : i = w.items.length := by omega
    subst e
    rw [List.drop_length] at elc
    unfold lcL at elc
    rw [← elc] at hend
    split at hend
    case h_2 => exact hend.elim
    case h_1 accF envF eq =>
    split at eq
    case isFalse => cases eq
    case isTrue ho =>
    cases eq
    obtain ⟨j1, _⟩ := jd P B' H (L2.wipe σ vs) env' fps' x'.1 F' (srcA ho) w.items.length
    refine .inl ⟨j1 rfl, hend _ H B' fps' x' (F1.rest hf1 F' hf' x'.1) ⟨_, .lst eD rds, fun a ha => ?_⟩⟩
    simp at ha
    subst ha
    refine ⟨hDb', hDp, hDf'⟩
theorem mLc_in {K : PySem.W.Frag} {σ : L2.St} {H : Hp} {Q : VK} (hg : ∀ i ∈ tg.slots, vs.contains i = true) (h : tM K cl E (mLc it tg tt te vs) σ H Q) : tLc (tI K cl E it) (tGd K tg) (tMT K cl XN tt) (tM K cl XN te) vs σ H Q := by
  obtain ⟨P, B, env, fps, F, h⟩ := h
  refine ⟨P, B, env, fps, F, (postE_bnd h).mono fun w H1 B1 fps1 env1 x1 F1 h1 J jd D0 hD => ?_⟩
  by_cases hc : ownFree env1 vs = true ∧ w.items.length ≤ sizeLine
  · rw [if_pos hc] at h1
    refine lc_ok (E := E) hg F1 jd hc.1 hc.2 ?_ hD
    cases q : lcL tg w.src tt te vs w.items [] (wipeE env1 vs) with
    | ok acc env2 => rw [q] at h1; exact h1
    | ex c e => rw [q] at h1; exact h1.elim
    | stuck => rw [q] at h1; exact h1.elim
  · rw [if_neg hc] at h1; exact h1.elim
theorem de_lc (hc : X.calm = true) (hN : X.N.Nodup) (hi : DI X cl E tgt iter it) (ok : blkC X.N X.env.scope scope own = true) (hsl : ∀ i ∈ tg.slots, (own.map (·.2)).contains i = true)
    (hg : ∀ (s : Shared) (H : Hp) (C : Addr) (clo : List (Str × Addr)) (fp : List Addr), DG (X.blk s H scope (compEnvC scope clo C X.env) fp) tgt tg) (ht : ∀ (s : Shared) (H : Hp) (C : Addr) (clo : List (Str × Addr)) (fp : List Addr), DTs (X.blk s H scope (compEnvC scope clo C X.env) fp) cl XN ifs tt)
    (he : ∀ (s : Shared) (H : Hp) (C : Addr) (clo : List (Str × Addr)) (fp : List Addr), DE (X.blk s H scope (compEnvC scope clo C X.env) fp) cl XN elt te) (hs : ∀ x, foldedSetIterable iter X.env x = pure x := by intro _; rfl) :
    DE X cl E (.ListComp elt [⟨tgt, iter, ifs, 0⟩] scope pos) (mLc it tg tt te (own.map (·.2))) := by
  have hp := pe_lc (pos := pos) (g := tGd X.K tg) (tt := tMT X.K cl XN tt) (te := tM X.K cl XN te) hc hN hi (blkOk_by ok) hg ht he hs
  exact ⟨fun pins s σ H Q I h => hp.run pins s σ H Q I (mLc_in hsl h)⟩
end
end Mi

set_option Elab.async false
set_option linter.all false
set_option maxRecDepth 100000
namespace Mi
open PySem PySem.Spec L2

/-! ### name = [.. for ..] -/
section
variable {X : Cx} {cl : String → Addr} {E : XK} {io : List Nat} {e : Expr} {m : M Rv} {pos : Pos} {i : Nat} {x : Str} {pos' : Pos}
theorem set_in {P B H : Hp} {σ : L2.St} {env : Env} {fps : Nat → List Addr} {D : Ends} (hlt : i < σ.length) (hio : io.contains i = false) (F : Fm X.K P B H σ env fps)
    (h : PostS X.K cl E io σ P B (mSet i m env) fun fl σ' H' B' fps' _ => EndS X.K io P B' D fl σ' H' B' fps') : tM X.K cl E m σ H (fun v H1 => D.nx (σ.set i (some v)) H1) := by
  refine ⟨P, B, env, fps, F, ?_⟩
  have h1 := postS_e h
  cases q : m env with
  | ok r env1 =>
    rw [q] at h1
    intro v H1 B1 fps1 x1 F1 r1
    obtain ⟨B2, env2, fps2, r2, x2, F2, s2, h2⟩ := h1 v H1 B1 fps1 x1 F1 r1
    exact post_set F2 hlt hio s2 h2
  | ex c env1 =>
    rw [q] at h1
    exact h1
  | stuck => rw [q] at h1; exact h1.elim
theorem ds_setLc {elt tgt iter : Expr} {ifs : List Expr} {scope : Scope} {own : List (Str × Nat)} {py : Pos} {it : M Wk} {tg : Tg} {tt : M Bool} {te : M Rv} {spos : Pos} (hc : X.calm = true) (hN : X.N.Nodup) (hy : X.N[i]? = some x) (hyl : X.env.scope.names.lookup x = some .local) (hio : io.contains i = false)
    (hsw : swapsWith (.ListComp elt [⟨tgt, iter, ifs, 0⟩] scope pos) (some (.Name x py)) spos.line X.env = pure true) (hi : DI X cl E tgt iter it) (ok : blkC X.N X.env.scope scope own = true) (hsl : ∀ i ∈ tg.slots, (own.map (·.2)).contains i = true)
    (hg : ∀ (s : Shared) (H : Hp) (C : Addr) (clo : List (Str × Addr)) (fp : List Addr), DG (X.blk s H scope (compEnvC scope clo C X.env) fp) tgt tg) (ht : ∀ (s : Shared) (H : Hp) (C : Addr) (clo : List (Str × Addr)) (fp : List Addr), DTs (X.blk s H scope (compEnvC scope clo C X.env) fp) cl XN ifs tt)
    (he : ∀ (s : Shared) (H : Hp) (C : Addr) (clo : List (Str × Addr)) (fp : List Addr), DE (X.blk s H scope (compEnvC scope clo C X.env) fp) cl XN elt te) (hs : ∀ x, foldedSetIterable iter X.env x = pure x := by intro _; rfl) :
    DS X cl E io (.Assign [.Name x py] (.ListComp elt [⟨tgt, iter, ifs, 0⟩] scope pos) spos) (mSet i (mLc it tg tt te (own.map (·.2)))) := by
  refine ⟨fun pins s σ H D I ⟨P, B, env, fps, F, h⟩ => ?_⟩
  have hlt : i < σ.length := by rw [I.len]; exact getElem?_lt hy
  have hp := ps_setLc (py := py) (pos := pos) (spos := spos) (g := tGd X.K tg) (tt := tMT X.K cl XN tt) (te := tM X.K cl XN te) hc hN hy hyl hsw hi (blkOk_by ok) hg ht he hs
  exact hp.run pins s σ H D I (mLc_in (Q := fun v H1 => gName i v σ H1 D.nx) hsl (set_in hlt hio F h))
end

/-! ### a, b = .. (a tuple unpacked) -/
def mTgt (tg : Tg) (m : M Rv) : M Fl := bnd (vm m) fun r env => match r with
  | .d x => match asgT tg x env with
    | some env' => .ok .nx env'
    | none => .stuck
  | _ => .stuck
section
variable {X : Cx} {cl : String → Addr} {E : XK} {io : List Nat} {e tgt : Expr} {m : M Rv} {pos : Pos} {tg : Tg}
theorem ds_tgt (he : DE X cl E e m) (hg : DG X tgt tg) (hio : ∀ i ∈ tg.slots, io.contains i = false) (hs : swapsWithSole [tgt] e pos.line X.env = pure false := by rfl) (hw : swappedStores [tgt] e X.env = pure none := by rfl)
    (h1 : (assignEach [tgt] X.env).map (·.2) = [assign tgt X.env] := by rfl) : DS X cl E io (.Assign [tgt] e pos) (mTgt tg m) := by
  refine ⟨fun pins s σ H D I ⟨P, B, env, fps, F, h⟩ => (ps_asg he hg hs hw h1).run pins s σ H D I ⟨P, B, env, fps, F, ?_⟩⟩
  unfold mTgt vm at h
  have h : PostS X.K cl E io σ P B ((bnd m fun r => fun env => match r.frz with
    | .d x => match asgT tg x env with
      | some env' => .ok .nx env'
      | none => .stuck
    | _ => .stuck) env) fun fl σ' H' B' fps' _ => EndS X.K io P B' D fl σ' H' B' fps' := by
      have e : (bnd (bnd m fun r => ret r.frz) fun r env => match r with
        | .d x => match asgT tg x env with
          | some env' => .ok Fl.nx env'
          | none => .stuck
        | _ => .stuck) env = (bnd m fun r => fun env => match r.frz with
        | .d x => match asgT tg x env with
          | some env' => .ok .nx env'
          | none => .stuck
        | _ => .stuck) env := by
          unfold bnd
          cases m env <;> rfl
      rw [← e]; exact h
  have h1 := postS_e h
  cases q : m env with
  | ok r env1 =>
    rw [q] at h1
    intro v H1 B1 fps1 x1 F1 r1
    obtain ⟨B2, env2, fps2, r2, x2, F2, s2, h2⟩ := h1 v H1 B1 fps1 x1 F1 r1
    obtain ⟨B3, x3, F3, s3⟩ := freeze_rv F2 s2
    cases e3 : r2.frz with
    | own o => rw [e3] at h2; exact h2.elim
    | pl j => rw [e3] at h2; exact h2.elim
    | d x =>
      rw [e3] at h2 s3
      cases e4 : asgT tg x env2 with
      | none => simp only [e4] at h2; exact h2.elim
      | some env' =>
        simp only [e4] at h2
        exact ⟨P, B3, env2, fps2, x, env', F3, s3, e4, fun σ' fps' F' sb => h2 σ' H1 B3 fps' x3 F' (sameIo_but sb hio)⟩
  | ex c env1 =>
    rw [q] at h1
    exact fun H' B' fps' x F => h1 H' B' fps' x F
  | stuck => rw [q] at h1; exact h1.elim
end

/-! ### x[i] = .. -/
def mStore (j : Nat) (me mi : M Rv) : M Fl := bnd (vm me) fun r => bnd (chkL j) fun _ => bnd (vm mi) fun ri => bnd (frzR r) fun y env => match ri, env[j]? with
  | .d (.int k), some (some (.lst ds)) => match ixN ds.length k with
    | some n => .ok .nx (env.set j (some (.lst (ds.set n y))))
    | none => .stuck
  | _, _ => .stuck
section
variable {X : Cx} {cl : String → Addr} {E : XK} {io : List Nat} {e ie : Expr} {me mi : M Rv} {pos spos px : Pos} {j : Nat} {x : Str}
theorem postS_vm {α : Type} {K : PySem.W.Frag} {P B : Hp} {σ : L2.St} {env : Env} {m : M Rv} {k : Rv → M α} {R : α → L2.St → Hp → Hp → (Nat → List Addr) → Env → Prop} (h : PostS K cl E io σ P B ((bnd (vm m) k) env) R) :
    PostE K cl E P B σ (m env) fun v H1 => ∃ B1 env1 fps1 r, Ext P B B1 ∧ Fm K P B1 H1 σ env1 fps1 ∧ RvS K B1 σ r v ∧ PostS K cl E io σ P B1 (k r env1) R := by
  have e : (bnd (vm m) k) env = (bnd m fun r => k r.frz) env := by
    unfold vm bnd
    cases m env <;> rfl
  rw [e] at h
  have h1 := postS_e h
  cases q : m env with
  | ok r env1 =>
    rw [q] at h1
    intro v H1 B1 fps1 x1 F1 r1
    obtain ⟨B2, env2, fps2, r2, x2, F2, s2, h2⟩ := h1 v H1 B1 fps1 x1 F1 r1
    obtain ⟨B3, x3, F3, s3⟩ := freeze_rv F2 s2
    exact ⟨B3, env2, fps2, r2.frz, x2.trans x3, F3, s3, PostS.ext x3 SameIo.refl h2⟩
  | ex c env1 => rw [q] at h1; exact h1
  | stuck => rw [q] at h1; exact h1.elim
theorem ds_store (hN : X.N[j]? = some x) (hv : Vis X.env.scope x) (he : DE X cl E e me) (hi : DE X cl E ie mi) (hd : (x == ("__debug__" : Str)) = false := by decide) (hcd : (x == ("__classdict__" : Str)) = false := by decide)
    (hs : swapsWithSole [.Subscript (.Name x px) ie spos] e pos.line X.env = pure false := by rfl) (hw : swappedStores [.Subscript (.Name x px) ie spos] e X.env = pure none := by rfl)
    (ha : ∀ v, assign (.Subscript (.Name x px) ie spos) X.env v = (do
      let ov ← holding [v] (eval (.Name x px) X.env)
      let iv ← holding [v, ov] (eval ie X.env)
      standAt spos
      holding [v, ov, iv] (setItem ov iv v)
      release [v, ov, iv] []) := by intro _; rfl)
    (h1 : (assignEach [.Subscript (.Name x px) ie spos] X.env).map (·.2) = [assign (.Subscript (.Name x px) ie spos) X.env] := by rfl) : DS X cl E io (.Assign [.Subscript (.Name x px) ie spos] e pos) (mStore j me mi) := by
  refine ⟨fun pins s σ H D I ⟨P, B, env, fps, F, h⟩ => (ps_asg he (pg_sub (pe_var hN hv hd hcd) hi set_list ha) hs hw h1).run pins s σ H D I ⟨P, B, env, fps, F, ?_⟩⟩
  have h1 := postS_vm h
  cases q : me env with
  | ex c env1 => rw [q] at h1; exact h1
  | stuck => rw [q] at h1; exact h1.elim
  | ok r env1 =>
    rw [q] at h1
    intro v H1 B1 fps1 x1 F1 r1
    obtain ⟨B2, env2, fps2, r2, x2, F2, s2, h2⟩ := h1 v H1 B1 fps1 x1 F1 r1
    unfold bnd chkL at h2
    cases ee : env2[j]? with
    | none => simp only [ee, bind_stuck] at h2; exact h2.elim
    | some oo =>
    cases oo with
    | none => simp only [ee, bind_stuck] at h2; exact h2.elim
    | some oo =>
    cases oo with
    | dat d => simp only [ee, bind_stuck] at h2; exact h2.elim
    | dct d => simp only [ee, bind_stuck] at h2; exact h2.elim
    | tpl d => simp only [ee, bind_stuck] at h2; exact h2.elim
    | lst zs =>
    simp only [ee, bind_ok] at h2
    obtain ⟨w, ew, rw0⟩ := F2.slot j _ ee
    refine ⟨w, ew, P, B2, env2, fps2, F2, ?_⟩
    have h3 := postS_vm (m := mi) h2
    cases q3 : mi env2 with
    | ex c env1 => rw [q3] at h3; exact h3
    | stuck => rw [q3] at h3; exact h3.elim
    | ok ri env3 =>
      rw [q3] at h3
      intro v4 H4 B4 fps4 x4 F4 r4
      obtain ⟨B5, env5, fps5, r5, x5, F5, s5, h5⟩ := h3 v4 H4 B4 fps4 x4 F4 r4
      cases q6 : frzR r2 env5 with
      | stuck => rw [q6] at h5; exact h5.elim
      | ex c e => exact absurd q6 frzR_nex
      | ok y env6 =>
        rw [q6] at h5
        simp only [bind_ok] at h5
        obtain ⟨B7, fps7, x7, F7, r7⟩ := frzR_ok F5 (s2.mono x5.1) q6
        split at h5
        · rename_i k ds e8
          split at h5
          · rename_i n e9
            cases (show RD X.K B5 (.int k) v4 from s5)
            obtain ⟨a, vs, ea, hf, e10, r10⟩ := (F7.pl e8 ew).lst_inv
            cases ea
            refine ⟨a, vs, k, n, rfl, rfl, e10, by rw [RDs.length _ _ r10]; exact e9, ?_⟩
            have hr : OwnR X.K B7 (upd H4 a (.lst (vs.set n v))) (.lst (ds.set n y)) (.ref a) [a] := .lst upd_same (RDs.set n r10 r7)
            exact h5 σ _ B7 fps7 x7 (F7.write e8 ew hf hr) SameIo.refl
          · exact h5.elim
        · exact h5.elim
end

/-! ### while -/
def whileL (t : M Bool) (body : M Fl) : Nat → M Fl
  | 0 => stk
  | n + 1 => bnd t fun c => if c = true then bnd body fun fl => match fl with
      | .nx => whileL t body n
      | .ct => whileL t body n
      | .bk => ret .nx
      | .rt o => ret (.rt o)
    else ret .nx
def mWhile (n : Nat) (t : M Bool) (body : M Fl) : M Fl := whileL t body n
section
variable {X : Cx} {cl : String → Addr} {E : XK} {io : List Nat} {c : Expr} {sts : List Stmt} {t : M Bool} {body : M Fl} {pos : Pos}
theorem ds_while {n : Nat} (hp : PassesOwn (model X.prog X.w) X.A X.env X.xe) (hc : DT X cl E c t) (hb : DSs X cl E io sts body) : DS X cl E io (.While c sts [] pos) (mWhile n t body) := by
  refine ⟨fun pins s σ H D I ⟨P, B, env, fps, F, h⟩ => (ps_while hp hc hb).run pins s σ H D I ?_⟩
  refine ⟨fun m σ' H' => ∃ B' env' fps', Ext P B B' ∧ Fm X.K P B' H' σ' env' fps' ∧ SameIo io σ σ' ∧ PostS X.K cl E io σ' P B' (whileL t body m env') fun fl σ2 H2 B2 fps2 _ => EndS X.K io P B2 D fl σ2 H2 B2 fps2,
    ⟨n, B, env, fps, Ext.refl, F, SameIo.refl, h⟩, ?_⟩
  rintro m σ' H' ⟨B', env', fps', x', F', s', h'⟩
  cases m with
  | zero => exact h'.elim
  | succ m =>
    unfold whileL at h'
    refine ⟨P, B', env', fps', F', ?_⟩
    have h1 := postS_t h'
    cases q : t env' with
    | stuck => rw [q] at h1; exact h1.elim
    | ex c env1 =>
      rw [q] at h1
      exact h1
    | ok b env1 =>
      rw [q] at h1
      intro H1 B1 fps1 x1 F1
      have h2 := h1 H1 B1 fps1 x1 F1
      cases b with
      | false =>
        simp only [Bool.false_eq_true, if_false] at h2 ⊢
        exact h2 σ' H1 B1 fps1 Ext.refl F1 SameIo.refl
      | true =>
        simp only [if_true] at h2 ⊢
        refine ⟨fun σ3 H3 => ∃ B3 env3 fps3, Ext P B B3 ∧ Fm X.K P B3 H3 σ3 env3 fps3 ∧ SameIo io σ σ3 ∧ PostS X.K cl E io σ3 P B3 (whileL t body m env3) fun fl σ2 H2 B2 fps2 _ => EndS X.K io P B2 D fl σ2 H2 B2 fps2,
          fun σ3 H3 r3 => ⟨m, Nat.lt_succ_self m, r3⟩, P, B1, env1, fps1, F1, ?_⟩
        unfold bnd at h2
        cases qb : body env1 with
        | stuck => rw [qb] at h2; exact h2.elim
        | ex c env4 => rw [qb] at h2; exact h2
        | ok fl env4 =>
          rw [qb] at h2
          simp only [bind_ok] at h2
          intro σ4 H4 B4 fps4 x4 F4 s4
          cases fl with
          | nx => exact ⟨B4, env4, fps4, x'.trans (x1.trans x4), F4, s'.trans s4, PostS.ext x4 s4 h2⟩
          | ct => exact ⟨B4, env4, fps4, x'.trans (x1.trans x4), F4, s'.trans s4, PostS.ext x4 s4 h2⟩
          | bk => exact h2 σ4 H4 B4 fps4 x4 F4 s4
          | rt o =>
            intro v fp r off
            exact h2 σ4 H4 B4 fps4 x4 F4 s4 v fp r off
end
end Mi

set_option Elab.async false
set_option linter.all false
set_option maxRecDepth 100000
namespace Mi
open PySem PySem.Spec L2

/-! ### a def of the program, where it stands -/
def DefAt (K : PySem.W.Frag) (mg : Str → Option Value) (x : Str) (ps : List Str) (st : Stmt) : Prop :=
  ∃ f fd, mg x = some (.ref f) ∧ FunD K x x (defArgs st) (defBody st) (defScope st) [] [] f fd ∧ Binds K fd ps []
/-- a def keeps its mirror, k steps of room -/
def Has (P : Program) (w : World) (K : PySem.W.Frag) (mg : Str → Option Value) (base : Heap) (cl : String → Addr) (k : Nat) (x : Str) (ps : List Str) (n : Nat) (io : List Nat) (F : M O) : Prop :=
  ∃ f fd, mg x = some (.ref f) ∧ PySem.W.keepIn K (.ref f) = true ∧ Binds K fd ps [] ∧ FnOk P w K mg base (L2.CX P w) k f fd ps (spF K cl n io F)
section
variable {P : Program} {w : World} {K : PySem.W.Frag} {mg : Str → Option Value} {base : Heap} {cl : String → Addr} {x : Str} {ps N : List Str} {st : Stmt} {k n : Nat} {io : List Nat} {m : M Fl} {F : M O}
/-- the context of a def's body -/
abbrev Bd (P : Program) (w : World) (K : PySem.W.Frag) (mg : Str → Option Value) (base : Heap) (cl : String → Addr) (k : Nat) (x : Str) (N : List Str) (io : List Nat) (st : Stmt) (m : M Fl) : Prop :=
  ∀ (f : Addr) (cdv : Value) (A : Around) (outer : List PySem.Env) (s : Shared) (H : Hp) (E : XK), Room k (A.deeper (PyProof.Rows.envOfC x (defScope st) s.heap.objs.size f cdv)) →
    DSs (cxOf (L2.CX P w) P w K mg base N x (defScope st) f cdv A outer s H E) cl E io (defBody st) m
theorem has_by (d : DefAt K mg x ps st) (S : FnScope N ps (defScope st)) (hn : ps.length = n) (hio : ∀ i ∈ io, i < n) (hb : Bd P w K mg base cl k x N io st m) : Has P w K mg base cl (k + 1) x ps n io (runF N.length m) := by
  obtain ⟨f, fd, h1, h2, h3⟩ := d
  exact ⟨f, fd, h1, h2.kp, h3, fn_by h2 S hn hio fun cdv A outer s H E hr => hb f cdv A outer s H E hr⟩
theorem Has.mono {j : Nat} (h : Has P w K mg base cl j x ps n io F) (hk : j ≤ k) : Has P w K mg base cl k x ps n io F := by
  obtain ⟨f, fd, h1, h2, h3, h4⟩ := h
  exact ⟨f, fd, h1, h2, h3, h4.mono hk⟩
end
/-- what a callee lets out is taken: a def's own context -/
theorem pass_fn {P : Program} {w : World} {K : PySem.W.Frag} {mg : Str → Option Value} {base : Heap} {N : List Str} {qual : Str} {scope : Scope} {f : Addr} {cd : Value} {A : Around} {outer : List PySem.Env} {s : Shared} {H : Hp} {E : XK} :
    Passes (L2.CX P w) (cxOf (L2.CX P w) P w K mg base N qual scope f cd A outer s H E) E := by
  have tk := L2.takes_of (X := cxOf (L2.CX P w) P w K mg base N qual scope f cd A outer s H E) (E := E) rfl rfl rfl rfl
  exact L2.passes_call tk fun _ _ _ _ e => e
/-- .. within a comprehension nothing is let out -/
theorem pass_xn {P : Program} {w : World} {X : Cx} : Passes (L2.CX P w) X XN := fun _ _ _ _ _ _ _ h => by
  obtain ⟨_, _, _, _, _, _, _, _, _, _, _, _, z⟩ := h
  exact z.elim
theorem pow_fn {P : Program} {w : World} {K : PySem.W.Frag} {mg : Str → Option Value} {base : Heap} {N : List Str} {qual : Str} {scope : Scope} {f : Addr} {cd : Value} {A : Around} {outer : List PySem.Env} {s : Shared} {H : Hp} {E : XK} :
    PassesOwn (model P w) (A.deeper (PyProof.Rows.envOfC qual scope s.heap.objs.size f cd)) (PyProof.Rows.envOfC qual scope s.heap.objs.size f cd) (cxOf (L2.CX P w) P w K mg base N qual scope f cd A outer s H E).xe :=
  L2.passes_of (X := cxOf (L2.CX P w) P w K mg base N qual scope f cd A outer s H E) rfl

section
variable {X : Cx} {cl : String → Addr} {E : XK} {a b e : Expr} {es : List Expr} {m ma mb : M Rv} {ms : M (List Rv)} {p apos cpos pos : Pos} {i n k : Nat} {x : Str}
theorem de_never : DE X cl E e stk := ⟨fun pins s σ H Q I ⟨P, B, env, fps, F, h⟩ => h.elim⟩
theorem dt_never : DT X cl E e stk := ⟨fun pins s σ H Q I ⟨P, B, env, fps, F, h⟩ => h.elim⟩
theorem da_never {es : List Expr} : DA X cl E es stk := ⟨fun pos pins s σ H Q I ⟨P, B, env, fps, F, h⟩ => h.elim⟩
theorem units_of (hr : Room k X.A) : X.A.units + 64 < cLine := hr.units
theorem units1_of (hr : Room k X.A) : X.A.units + 65 < cLine := by have := hr.un; omega
/-- a def of the program is called -/
theorem de_def {ps : List Str} {io : List Nat} {F : M O} {j : Nat} (h : Has X.prog X.w X.K X.mg X.base cl j x ps n io F) (hr : Room k X.A) (hk : j ≤ k) (hg : Gl X x) (hx : Passes (L2.CX X.prog X.w) X E) (ha : DA X cl E (e :: es) ms) (hl : Len ms n)
    (hdb : (x == ("__debug__" : Str)) = false := by decide) (he : starEach (e :: es) X.env = (false, eval e X.env) :: starEach es X.env := by rfl) (hpl : (backTo pos (starEach es X.env)).any (·.1) = false := by rfl) :
    DE X cl E (.Call (.Name x p) (e :: es) [] pos) (mCall io F ms) := by
  obtain ⟨f, fd, h1, h2, h3, h4⟩ := h
  exact de_call h4 (hr.mono hk) hg h1 h2 h3 hx ha hl hdb he hpl
theorem de_def0 {ps : List Str} {io : List Nat} {F : M O} {j : Nat} (h : Has X.prog X.w X.K X.mg X.base cl j x ps 0 io F) (hr : Room k X.A) (hk : j ≤ k) (hg : Gl X x) (hx : Passes (L2.CX X.prog X.w) X E)
    (hdb : (x == ("__debug__" : Str)) = false := by decide) : DE X cl E (.Call (.Name x p) [] [] pos) (mCall io F mNil) := by
  obtain ⟨f, fd, h1, h2, h3, h4⟩ := h
  exact de_call0 h4 (hr.mono hk) hg h1 h2 h3 hx hdb

/-! ### builtins, short -/
theorem de_len (hg : Gl X "len") (hm : X.mg "len" = none) (ha : DA X cl E [e] ms) (he : starEach [e] X.env = (false, eval e X.env) :: starEach [] X.env := by rfl) : DE X cl E (.Call (.Name "len" p) [e] [] pos) (mCB gLen ms) :=
  de_callB call_len ru_len hg hm boot_len ha (by decide) (by decide) he rfl
theorem de_tuple (hg : Gl X "tuple") (hm : X.mg "tuple" = none) (ha : DA X cl E [e] ms) (he : starEach [e] X.env = (false, eval e X.env) :: starEach [] X.env := by rfl) : DE X cl E (.Call (.Name "tuple" p) [e] [] pos) (mCB gTuple ms) :=
  de_callTy call_tuple_of ru_tuple hg hm PyProof.Rows.boot_tuple ha (by decide) (by decide) he rfl
theorem de_list (hg : Gl X "list") (hm : X.mg "list" = none) (ha : DA X cl E [e] ms) (he : starEach [e] X.env = (false, eval e X.env) :: starEach [] X.env := by rfl) : DE X cl E (.Call (.Name "list" p) [e] [] pos) (mCB gList ms) :=
  de_callTy call_list_of ru_list hg hm PyProof.Rows.boot_list ha (by decide) (by decide) he rfl
theorem de_toInt (hg : Gl X "int") (hm : X.mg "int" = none) (ha : DA X cl E [e] ms) (he : starEach [e] X.env = (false, eval e X.env) :: starEach [] X.env := by rfl) : DE X cl E (.Call (.Name "int" p) [e] [] pos) (mCB gInt ms) :=
  de_callTy call_int1 ru_int hg hm PyProof.Rows.boot_int ha (by decide) (by decide) he rfl
theorem de_max2 (hc : X.calm = true) (hg : Gl X "max") (hm : X.mg "max" = none) (ha : DA X cl E [a, b] ms) (he : starEach [a, b] X.env = (false, eval a X.env) :: starEach [b] X.env := by rfl) (hpl : (backTo pos (starEach [b] X.env)).any (·.1) = false := by rfl) : DE X cl E (.Call (.Name "max" p) [a, b] [] pos) (mCB gMax2 ms) :=
  de_callB (call_max2 hc) ru_max2 hg hm PyProof.Rows.boot_max ha (by decide) (by decide) he hpl
theorem de_min2 (hc : X.calm = true) (hg : Gl X "min") (hm : X.mg "min" = none) (ha : DA X cl E [a, b] ms) (he : starEach [a, b] X.env = (false, eval a X.env) :: starEach [b] X.env := by rfl) (hpl : (backTo pos (starEach [b] X.env)).any (·.1) = false := by rfl) : DE X cl E (.Call (.Name "min" p) [a, b] [] pos) (mCB gMin2 ms) :=
  de_callB (call_min2 hc) ru_min2 hg hm PyProof.Rows.boot_min ha (by decide) (by decide) he hpl
theorem de_sum (hc : X.calm = true) (hg : Gl X "sum") (hm : X.mg "sum" = none) (ha : DA X cl E [e] ms) (he : starEach [e] X.env = (false, eval e X.env) :: starEach [] X.env := by rfl) : DE X cl E (.Call (.Name "sum" p) [e] [] pos) (mCB gSum ms) :=
  de_callB (cr_sum hc) ru_sum hg hm PyProof.Rows.boot_sum ha (by decide) (by decide) he rfl
theorem de_all (hc : X.calm = true) (hg : Gl X "all") (hm : X.mg "all" = none) (ha : DA X cl E [e] ms) (he : starEach [e] X.env = (false, eval e X.env) :: starEach [] X.env := by rfl) : DE X cl E (.Call (.Name "all" p) [e] [] pos) (mCB gAll ms) :=
  de_callB (cr_all hc) ru_all hg hm PyProof.Rows.boot_all ha (by decide) (by decide) he rfl
theorem de_any (hc : X.calm = true) (hg : Gl X "any") (hm : X.mg "any" = none) (ha : DA X cl E [e] ms) (he : starEach [e] X.env = (false, eval e X.env) :: starEach [] X.env := by rfl) : DE X cl E (.Call (.Name "any" p) [e] [] pos) (mCB gAny ms) :=
  de_callB (cr_any hc) ru_any hg hm PyProof.Rows.boot_any ha (by decide) (by decide) he rfl
/-- list(range(n)) -/
def mLstR (m : M Rv) : M Rv := bnd (vm m) fun r => match r with
  | .d (.int j) => if 0 ≤ j ∧ j ≤ 16777216 then ret (.own (.lst (rngD 0 j.toNat))) else stk
  | _ => stk
theorem rgV_rd {K : PySem.W.Frag} {B : Hp} (lo : Int) : ∀ n, RDs K B ((List.range n).map fun i => .int (lo + (i : Nat))) ((List.range n).map fun i => V.int (lo + (i : Nat)))
  | 0 => .nil
  | n + 1 => by
    rw [List.range_succ, List.map_append, List.map_append]
    exact RDs.append (rgV_rd lo n) (.cons (.int _) .nil)
theorem de_lstR {p2 pos2 : Pos} (hc : X.calm = true) (hg : Gl X "list") (hm : X.mg "list" = none) (hg2 : Gl X "range") (hm2 : X.mg "range" = none) (ha : DE X cl E a ma) (na : starEach [a] X.env = (false, eval a X.env) :: starEach [] X.env := by rfl)
    (nb : starEach [.Call (.Name "range" p2) [a] [] pos2] X.env = (false, eval (.Call (.Name "range" p2) [a] [] pos2) X.env) :: starEach [] X.env := by rfl) :
    DE X cl E (.Call (.Name "list" p) [.Call (.Name "range" p2) [a] [] pos2] [] pos) (mLstR ma) := by
  refine ⟨fun pins s σ H Q I ⟨P, B, env, fps, F, h⟩ => (pe_listRg hc hg hm (prg_1 hg2 hm2 ha na) nb).run pins s σ H Q I ⟨P, B, env, fps, F, ?_⟩⟩
  refine (post_vm h).mono ?_
  intro v H1 ⟨B2, env2, fps2, r, x2, F2, q, h2⟩
  split at h2
  · rename_i j
    split at h2
    · rename_i hj
      cases rvs_int q
      refine ⟨j, rfl, RgOk.of_le (by omega) (by omega) (by omega) (by omega), fun l hl => ?_⟩
      obtain ⟨h3, h4, h5⟩ := F2.newB hl
      refine h2 _ _ B2 fps2 Ext.refl (F2.alloc hl) ⟨_, .lst upd_same ?_, fun a ha => by simp at ha; subst ha; exact ⟨h3, h4, h5⟩⟩
      have e : (j - 0).toNat = j.toNat := by omega
      unfold rgV rngD
      rw [e]
      exact rgV_rd 0 _
    · exact h2.elim
  · exact h2.elim
end

section
variable {X : Cx} {cl : String → Addr} {E : XK} {e : Expr} {es : List Expr} {ms : M (List Rv)} {i n : Nat} {x : Str} {p apos cpos : Pos}
theorem de_app (hN : X.N[i]? = some x) (hv : Vis X.env.scope x) (ha : DA X cl E [e] ms) (hl : Len ms 1) (hdb : (x == ("__debug__" : Str)) = false := by decide) (hcd : (x == ("__classdict__" : Str)) = false := by decide)
    (hbase : attributeBase (.Name x p) "append" X.env (eval (.Name x p) X.env) = eval (.Name x p) X.env := by rfl)
    (hfew : ((backTo cpos (starEach [e] X.env)).all (fun x => !x.1) && (backToKw cpos (keywordEach [] X.env)).all (fun x => x.1.isSome)
      && decide (([e] : List Expr).length + ([] : List Keyword).length + (if ([] : List Keyword).isEmpty then 0 else 1) < 30)) = true := by rfl)
    (hline : (apos.endLine == cpos.line) = true := by rfl) (hs : starEach [e] X.env = (false, eval e X.env) :: starEach [] X.env := by rfl) :
    DE X cl E (.Call (.Attribute (.Name x p) "append" apos) [e] [] cpos) (mMetF i gApp ms) :=
  de_metF PySem.F.slot_list_append PySem.F.plainAttrs_list PySem.F.type_list_append mt_append ru_app hN hv ha hl hdb hcd hbase hfew hline hs rfl
theorem de_pop (hN : X.N[i]? = some x) (hv : Vis X.env.scope x) (hdb : (x == ("__debug__" : Str)) = false := by decide) (hcd : (x == ("__classdict__" : Str)) = false := by decide)
    (hbase : attributeBase (.Name x p) "pop" X.env (eval (.Name x p) X.env) = eval (.Name x p) X.env := by rfl) (hline : (apos.endLine == cpos.line) = true := by rfl) :
    DE X cl E (.Call (.Attribute (.Name x p) "pop" apos) [] [] cpos) (mMet i gPop0 mNil) :=
  de_met0 PySem.F.slot_list_pop PySem.F.plainAttrs_list PySem.F.type_list_pop mt_pop ru_pop0 hN hv hdb hcd hbase hline
theorem de_popI (hN : X.N[i]? = some x) (hv : Vis X.env.scope x) (ha : DA X cl E [e] ms) (hdb : (x == ("__debug__" : Str)) = false := by decide) (hcd : (x == ("__classdict__" : Str)) = false := by decide)
    (hbase : attributeBase (.Name x p) "pop" X.env (eval (.Name x p) X.env) = eval (.Name x p) X.env := by rfl)
    (hfew : ((backTo cpos (starEach [e] X.env)).all (fun x => !x.1) && (backToKw cpos (keywordEach [] X.env)).all (fun x => x.1.isSome)
      && decide (([e] : List Expr).length + ([] : List Keyword).length + (if ([] : List Keyword).isEmpty then 0 else 1) < 30)) = true := by rfl)
    (hline : (apos.endLine == cpos.line) = true := by rfl) (hs : starEach [e] X.env = (false, eval e X.env) :: starEach [] X.env := by rfl) :
    DE X cl E (.Call (.Attribute (.Name x p) "pop" apos) [e] [] cpos) (mMet i gPopI ms) :=
  de_met PySem.F.slot_list_pop PySem.F.plainAttrs_list PySem.F.type_list_pop mt_popAt ru_popI hN hv ha hdb hcd hbase hfew hline hs rfl
theorem de_rev (hN : X.N[i]? = some x) (hv : Vis X.env.scope x) (hdb : (x == ("__debug__" : Str)) = false := by decide) (hcd : (x == ("__classdict__" : Str)) = false := by decide)
    (hbase : attributeBase (.Name x p) "reverse" X.env (eval (.Name x p) X.env) = eval (.Name x p) X.env := by rfl) (hline : (apos.endLine == cpos.line) = true := by rfl) :
    DE X cl E (.Call (.Attribute (.Name x p) "reverse" apos) [] [] cpos) (mMet i gRev mNil) :=
  de_met0 PySem.F.slot_list_reverse PySem.F.plainAttrs_list PySem.F.type_list_reverse mt_reverse ru_rev hN hv hdb hcd hbase hline
end
end Mi

set_option Elab.async false
set_option linter.all false
set_option maxRecDepth 100000
namespace Mi
open PySem PySem.Spec L2

/-- a law lets nothing out -/
theorem FnOk_cx0 {P : Program} {w : World} {K : PySem.W.Frag} {mg : Str → Option Value} {base : Heap} {k : Nat} {f : Addr} {fd : FuncData} {ps : List Str} {sp : Sp} (F : FnOk P w K mg base (L2.CX P w) k f fd ps sp) :
    FnOk P w K mg base CX0 k f fd ps fun vs H Q E => sp vs H Q fun _ _ _ => False := by
  refine ⟨fun vs H Q E h => F.len vs H Q _ h, fun A outer s H args us vs Q E hr e0 hb hv h => ?_⟩
  refine codeAny_mono (F.run A outer s H args us vs Q _ hr e0 hb hv h) fun r s' q => ?_
  cases r with
  | error e =>
    obtain ⟨_, _, _, _, _, _, _, _, _, _, _, _, z⟩ := (show L2.CX P w outer H s (fun _ _ _ => False) e s' from q)
    exact z.elim
  | ok r => cases r <;> exact q
theorem ints_rd {K : PySem.W.Frag} {B : Hp} : ∀ ns : List Int, RDs K B (ns.map PyData.int) (ns.map V.int)
  | [] => .nil
  | n :: ns => .cons (.int n) (ints_rd ns)
/-- what a law's mirror must do -/
def Holds (n : Nat) (F : M O) : Prop := ∀ ns : List Int, ns.length ≤ n → ∃ env', F [some (.dat (.list (ns.map PyData.int)))] = .ok (.dat (.bool true)) env'
theorem rd_noTb {H : Hp} {a : Addr} {xs : List V} (h : Rd H a (.lst xs)) : Rd (noTb H) a (.lst xs) := by
  rcases h with h | ⟨o, h⟩
  · exact .inl (by rw [noTb_of fun ps e => by rw [h] at e; cases e]; exact h)
  · exact .inr ⟨o, by rw [noTb_of fun ps e => by rw [h] at e; cases e]; exact h⟩
theorem law_sp {K : PySem.W.Frag} {cl : String → Addr} {F : M O} {n : Nat} (h : Holds n F) (H : Hp) (a : Addr) (ns : List Int) (hl : ns.length ≤ n) (hS : SqL K H a (ns.map V.int)) (hT : ∀ p ∈ tabsOf K, H p.1 = some (.tbl #[])) :
    spF K cl 1 [] F [.ref a] H (fun v _ => v = .bl true) fun _ _ _ => False := by
  obtain ⟨env', e⟩ := h ns hl
  have hS' : SqL K (noTb H) a (ns.map V.int) := hS.imp rd_noTb id
  refine ⟨rfl, fun _ => none, noTb H, [some (.dat (.list (ns.map PyData.int)))], fun _ => [], ⟨rfl, fun _ _ q => noTb_some q, fun _ _ q => by (cases q), fun i o q => ?_, fun i _ => rfl, fun i j b q => by simp at q, fun i b q => by simp at q, ⟨fun a q e => by rw [noTb_of fun ps e2 => by rw [e] at e2; cases e2]; exact e, fun p hp => ⟨#[], hT p hp, trivial, fun pos cv e => by cases e⟩⟩, fun a ps => noTb_noT H a ps, fun a ps e => by cases e⟩, ?_⟩
  · cases i with
    | zero =>
      cases q
      exact ⟨.ref a, rfl, .dat (.lst hS' (ints_rd ns))⟩
    | succ i => cases q
  · rw [e]
    intro v H' B' fps' σ' fp x F' same r off
    cases r with
    | dat r => cases r; rfl
theorem defAt_of {K : PySem.W.Frag} {h : Heap} {mg : Str → Option Value} {x : Str} {ps : List Str} {st : Stmt} {fa : List He.Fa} {fn : List He.DefD} (X : K.In h) (G : h.Ns mainGlobals mg) (c : He.SaysD fa fn K) (i : Nat)
    (h1 : fa[i]? = some (.glo x)) (h2 : fn[i]? = some ⟨(x, none), x, x, defArgs st, defBody st, defScope st, [], []⟩)
    (hb : ∀ (kV doc pm : Value) (an : Option Addr) (cdv ct : Value) (us : List Value), us.length = ps.length → bindArgs (PySem.W.fnOf x x (defArgs st) (defBody st) (defScope st) .none kV doc pm an cdv ct) ⟨us, []⟩ = pure (ps.zip us)) : DefAt K mg x ps st := by
  obtain ⟨fd, F⟩ := c.def_ i h2
  exact ⟨_, fd, He.glo_ok X G (c.fact i h1), F, FunD.bindsN F hb⟩
end Mi

set_option Elab.async false
set_option linter.all false
set_option maxRecDepth 100000
namespace Mi
open PySem PySem.Spec L2

/-! ### sets of whole numbers or texts -/
def keyM (e : Int × Value) : Key := match e.2 with
  | .int k _ => .inl k
  | .str x _ => .inr x
  | _ => .inl 0
def GoodM (w : World) (e : Int × Value) : Prop := ∃ k, keyIs k e.2 = true ∧ e.1 = keyH w k
theorem keyM_of {k : Key} {e : Int × Value} (h : keyIs k e.2 = true) : keyM e = k := by
  unfold keyM
  rcases keyIs_shape h with ⟨i, t, rfl, e2⟩ | ⟨x, t, rfl, e2⟩ <;> rw [e2]
theorem scan_of {k : Key} {v : Value} (h : keyIs k v = true) : v.scannable = true := by
  rcases keyIs_shape h with ⟨i, t, rfl, rfl⟩ | ⟨x, t, rfl, rfl⟩ <;> rfl
theorem nodup_le {α : Type} [DecidableEq α] : ∀ (l ks : List α), l.Nodup → (∀ x ∈ l, x ∈ ks) → l.length ≤ ks.length
  | [], _, _, _ => Nat.zero_le _
  | x :: l, ks, nd, h => by
    obtain ⟨h1, h2⟩ := List.nodup_cons.mp nd
    have hx := h x List.mem_cons_self
    have q := nodup_le l (ks.erase x) h2 fun y hy => (List.mem_erase_of_ne (by rintro rfl; exact h1 hy)).2 (h y (List.mem_cons_of_mem _ hy))
    rw [List.length_erase_of_mem hx] at q
    have : 0 < ks.length := List.length_pos_of_mem hx
    rw [List.length_cons]
    omega
structure SetM (w : World) (h : Heap) (a : Addr) (ks : List Key) : Prop where
  ex : ∃ o es ep t, h.get? a = some o ∧ o.ExactSet ∧ o.data = .set es ep t ∧ (∀ e ∈ es.toList, GoodM w e) ∧ (es.toList.map keyM).Nodup ∧ (∀ k, k ∈ ks ↔ k ∈ es.toList.map keyM) ∧
    es.size < scanBound ∧ t.fits es.size = true ∧ Ris t.place.toList ∧ (w.params.followText "set-order" = true ∨ t.led = true)
section
variable {P : Program} {w : World} {A : Around} {E : Value → Shared → Prop} {s : Shared} {a : Addr} {ks : List Key}
theorem SetM.at {h h' : Heap} (R : SetM w h a ks) (k : ∀ o, h.get? a = some o → h'.get? a = some o) : SetM w h' a ks := by
  obtain ⟨o, es, ep, t, ho, r⟩ := R
  exact ⟨o, es, ep, t, k o ho, r⟩
theorem goodM_elems {l : List (Int × Value)} (g : ∀ e ∈ l, GoodM w e) : ElemsOf (mixKind P w) l := fun e he => by
  obtain ⟨k, h1, h2⟩ := g e he
  exact ⟨⟨k, h1, h2⟩, scan_of h1⟩
theorem goodM_mem {l : List (Int × Value)} (g : ∀ e ∈ l, GoodM w e) (k : Key) : k ∈ l.map keyM ↔ ∃ e ∈ l, keyIs k e.2 = true := by
  rw [List.mem_map]
  constructor
  · rintro ⟨e, he, q⟩
    obtain ⟨k0, h1, _⟩ := g e he
    rw [keyM_of h1] at q
    exact ⟨e, he, q ▸ h1⟩
  · rintro ⟨e, he, q⟩
    exact ⟨e, he, keyM_of q⟩
theorem setM_tail {g : Bool → Sem Unit} (hg : ∀ (b : Bool) (s₁ : Shared) (Q' : Unit → Shared → Prop), Q' () s₁ → wpAny (model P w) A (g b) Q' E s₁)
    {o : Obj} {es : Array (Int × Value)} {ep : Nat} {t : SetTable} (ho : s.heap.get? a = some o) (hex : o.ExactSet) (hd : o.data = .set es ep t)
    {es1 : Array (Int × Value)} {t2 : SetTable} {ks' : List Key} (g1 : ∀ e ∈ es1.toList, GoodM w e) (nd1 : (es1.toList.map keyM).Nodup) (m1 : ∀ k, k ∈ ks' ↔ k ∈ es1.toList.map keyM)
    (hb1 : es1.size < scanBound) (hf2 : t2.fits es1.size = true) (hr : Ris t2.place.toList) (hl : w.params.followText "set-order" = true ∨ t2.led = true) {wasDummy : Bool} {R : Option Bool → Shared → Prop}
    (hR : ∀ h', Heap.SameBut a s.heap h' → SetM w h' a ks' → R (some true) { s with heap := h' }) :
    wpAny (model P w) A (do
        storeSet a es1 t2
        if (!wasDummy && t2.tooFull) = true then do
            g (relayAll t2 es1 (SetTable.grown es1.size)).2.2
            storeSet a (relayAll t2 es1 (SetTable.grown es1.size)).1 (relayAll t2 es1 (SetTable.grown es1.size)).2.1
            pure (some true)
          else pure (some true)) R E s := by
  refine wpAny_bind (wpAny_storeSet_of ho hd ?_ (fits_of_scanBound hb1))
  have at1 := store_at (es' := es1) (t' := t2) ho hd
  have but1 := Heap.SameBut.update s.heap a (Obj.putSet es1 t2)
  split
  · have pm := relayAll_perm t2 es1 (SetTable.grown es1.size)
    have fit3 := relayAll_fits t2 es1 (SetTable.grown es1.size)
    have ris3 := relayAll_ris t2 es1 (SetTable.grown es1.size)
    have led3 := relayAll_led t2 es1 (SetTable.grown es1.size)
    generalize relayAll t2 es1 (SetTable.grown es1.size) = Z at pm fit3 ris3 led3 ⊢
    obtain ⟨es2, t3, gave⟩ := Z
    dsimp only at pm fit3 ris3 led3 ⊢
    have sz2 : es2.size = es1.size := by
      have q := pm.length_eq
      rwa [Array.length_toList, Array.length_toList] at q
    have bd2 : es2.size < scanBound := by omega
    refine wpAny_bind (hg _ _ _ ?_)
    refine wpAny_bind (wpAny_storeSet_of at1 rfl ?_ (fits_of_scanBound bd2))
    have at2 := store_at (es' := es2) (t' := t3) at1 rfl
    refine wpAny_pure (hR _ (but1.trans (Heap.SameBut.update _ a _)) ⟨_, es2, _, t3, at2, hex, rfl, fun e he => g1 e (pm.mem_iff.mp he), (pm.map keyM).nodup_iff.mpr nd1, fun k => (m1 k).trans (pm.map keyM).mem_iff.symm, bd2, fit3, ris3, ?_⟩)
    exact hl.imp id fun z => by rw [led3]; exact z
  · exact wpAny_pure (hR _ but1 ⟨_, es1, _, t2, at1, hex, rfl, g1, nd1, m1, hb1, hf2, hr, hl⟩)
theorem setM_add {k : Key} {v : Value} {Q : Bool → Shared → Prop} (R : SetM w s.heap a ks) (hk : keyIs k v = true) (room : ks.length + 1 < scanBound)
    (hQ : ∀ b h', Heap.SameBut a s.heap h' → SetM w h' a (k :: ks) → Q b { s with heap := h' }) : wpAny (model P w) A (setAddHashed a v (keyH w k)) Q E s := by
  obtain ⟨o, es, ep, t, ho, hex, hd, g, nd, hm, hb, hf, hr, hl⟩ := R.ex
  have hel : ElemsOf (mixKind P w) es.toList := goodM_elems g
  have hsc := scan_of hk
  have hszk : es.size ≤ ks.length := by
    have q : (es.toList.map keyM).length ≤ ks.length := nodup_le _ _ nd fun x hx => (hm x).2 hx
    rw [List.length_map, Array.length_toList] at q
    exact q
  unfold setAddHashed setAddHashedIn
  refine wpAny_holding (wpAny_bind (wpAny_setState_of ho hd hf ?_))
  dsimp only
  rw [byScan_of hsc hb hel]
  simp only [↓reduceIte]
  unfold setAddByScan
  refine wpAny_bind ?_
  refine wpAny_bind (wpAny_rule ?_)
  refine wpAny_bind (wpAny_setScan_of (knd := mixKind P w) (k := k) hk ho hd hf hel ?_)
  cases hfi : List.findIdx? (fun e => (mixKind P w).is k e.2) es.toList with
  | some j =>
    dsimp only
    obtain ⟨hj, pj, _⟩ := List.findIdx?_eq_some_iff_getElem.mp hfi
    have hin : k ∈ ks := (hm k).2 ((goodM_mem g k).2 ⟨es.toList[j], List.getElem_mem hj, pj⟩)
    refine wpAny_pure (wpAny_pure ?_)
    refine hQ _ s.heap (Heap.SameBut.refl a s.heap) ⟨o, es, ep, t, ho, hex, hd, g, nd, fun i => ?_, hb, hf, hr, hl⟩
    rw [List.mem_cons, ← hm i]
    exact ⟨fun z => z.elim (fun e => e ▸ hin) id, .inr⟩
  | none =>
    dsimp only
    have hnk : k ∉ es.toList.map keyM := fun z => by
      obtain ⟨e, he, q⟩ := (goodM_mem g k).1 z
      have c := List.findIdx?_eq_none_iff.mp hfi e he
      rw [show (mixKind P w).is k e.2 = true from q] at c
      cases c
    have hgw : ∀ (b : Bool) {s₁ : Shared} {Q' : Unit → Shared → Prop}, Q' () s₁ → wpAny (model P w) A (match b with | true => rule "set.scan.the-table-gave-way" | false => pure ()) Q' E s₁ :=
      fun b s₁ Q' q => by cases b <;> first | exact wpAny_pure q | exact wpAny_rule q
    have pm := layNew_perm t es (keyH w k) v
    have hf1 := layNew_fits t es (keyH w k) v
    have hr1 := layNew_ris t es (keyH w k) v hr
    have hl1 := layNew_led t es (keyH w k) v
    generalize layNew t es (keyH w k) v = Z at pm hf1 hr1 hl1 ⊢
    obtain ⟨es1, t1, wasDummy, gave⟩ := Z
    dsimp only at pm hf1 hr1 hl1 ⊢
    rw [Array.toList_push] at pm
    have pc : es1.toList.Perm ((keyH w k, v) :: es.toList) := pm.trans (List.perm_append_singleton _ _)
    have pk : (es1.toList.map keyM).Perm (k :: es.toList.map keyM) := by
      have q := pc.map keyM
      rw [List.map_cons, keyM_of (e := (keyH w k, v)) hk] at q
      exact q
    have g1 : ∀ e ∈ es1.toList, GoodM w e := fun e he => by
      rcases List.mem_cons.mp (pc.mem_iff.mp he) with z | z
      · rw [z]; exact ⟨k, hk, rfl⟩
      · exact g e z
    have nd1 : (es1.toList.map keyM).Nodup := pk.nodup_iff.mpr (List.nodup_cons.mpr ⟨hnk, nd⟩)
    have m1 : ∀ i, i ∈ k :: ks ↔ i ∈ es1.toList.map keyM := fun i => by
      rw [pk.mem_iff, List.mem_cons, List.mem_cons, hm i]
    have hb1 : es1.size < scanBound := by
      have q := pc.length_eq
      rw [List.length_cons, Array.length_toList, Array.length_toList] at q
      omega
    have hled : w.params.followText "set-order" = true ∨ t1.led = true := hl.imp id fun z => by rw [hl1]; exact z
    refine wpAny_bind (hgw _ ?_)
    split
    · refine wpAny_bind ?_
      rw [hashByValue_scannable 8 hsc]
      refine wpAny_pure ?_
      refine setM_tail ?_ ho hex hd g1 nd1 m1 hb1 ?_ ?_ ?_ ?_
      · intro b s₁ Q' q; cases b <;> first | exact wpAny_pure q | exact wpAny_rule q
      · first | (split <;> first | exact hf1 | exact SetTable.fits_plain_off hf1) | exact hf1
      · first | (split <;> exact hr1) | exact hr1
      · first | (split <;> exact hled) | exact hled
      · intro h' sb r; dsimp only; exact wpAny_pure (hQ _ h' sb r)
    · refine wpAny_bind (wpAny_pure ?_)
      simp only [↓reduceIte]
      refine setM_tail ?_ ho hex hd g1 nd1 m1 hb1 hf1 hr1 hled ?_
      · intro b s₁ Q' q; cases b <;> first | exact wpAny_pure q | exact wpAny_rule q
      · intro h' sb r; dsimp only; exact wpAny_pure (hQ _ h' sb r)

/-! ### set(xs) -/
theorem setM_new {h : Heap} {a : Addr} (ho : h.get? a = some { cls := .type "set", dict := none, data := .set #[] 0 (.fresh 0 0 (!w.params.followText "set-order")) }) : SetM w h a [] :=
  ⟨_, #[], 0, _, ho, ⟨rfl, rfl, rfl⟩, rfl, (fun e he => by simp at he), (by simp), (fun k => by simp), (by decide), (by rfl), List.Pairwise.nil, by
    show _ ∨ (!w.params.followText "set-order") = true
    cases w.params.followText "set-order"
    · exact .inr rfl
    · exact .inl rfl⟩
theorem setM_loop {I : Addr} {fp wr : List Addr} {G : Array GenState → Array GenState → Prop} {n : Nat} {Pv : Nat → Value → Prop} {St : Nat → Shared → Prop} {R : Result → Shared → Prop}
    (W : WalksS P w A.in1 I fp wr G n Pv St) (S : Addr) (hSf : S ∉ fp) (ks : List Key) (hn : n = ks.length) (hb : ks.length + 1 < scanBound) (hval : ∀ i v, Pv i v → ∃ k, ks[i]? = some k ∧ keyIs k v = true) :
    ∀ (j i : Nat) (s : Shared), n - i = j → i ≤ n → St i s → (∃ ls, (∀ k, k ∈ ls ↔ k ∈ ks.take i) ∧ ls.length ≤ i ∧ SetM w s.heap S ls) →
      (∀ s' ls, Moved (S :: wr) G s s' → (∀ k, k ∈ ls ↔ k ∈ ks) → SetM w s'.heap S ls → R (.ok (.ret .none)) s') →
      codeAny (model P w) A (.builtin "set.update.loop" ⟨[.ref S, .ref I], []⟩) R s := by
  have hSw : S ∉ wr := fun h => hSf (W.sub _ h)
  have hsub : ∀ b ∈ wr, b ∈ S :: wr := fun b hb => List.mem_cons_of_mem _ hb
  intro j
  induction j with
  | zero =>
    intro i s hj hi hst ⟨ls, hls, _, hS⟩ hR
    obtain rfl : i = n := by omega
    refine codeAny_builtin PyProof.Rows.F.entry_set_update_loop ?_
    rw [Around.under_plainId PyProof.Rows.F.plain_set_update_loop _]
    show wpAny _ A.in1 (pyNext (.ref I) >>= _) _ _ s
    refine wpAny_bind (W.done s _ _ hst fun s' hm => ?_)
    show wpAny _ A.in1 (PySem.ret Value.none) _ _ s'
    refine wpAny_pure (hR s' ls (hm.mono hsub) (fun k => ?_) (hS.at fun o e => hm.heap S o hSw e))
    rw [hls k, List.take_of_length_le (by omega)]
  | succ j ih =>
    intro i s hj hi hst ⟨ls, hls, hll, hS⟩ hR
    have hlt : i < n := by omega
    refine codeAny_builtin PyProof.Rows.F.entry_set_update_loop ?_
    rw [Around.under_plainId PyProof.Rows.F.plain_set_update_loop _]
    show wpAny _ A.in1 (pyNext (.ref I) >>= _) _ _ s
    refine wpAny_bind (W.item i s _ _ hlt hst fun v s' hP hst' hm => ?_)
    obtain ⟨k, hk, hkv⟩ := hval i v hP
    have hS' : SetM w s'.heap S ls := hS.at fun o e => hm.heap S o hSw e
    show wpAny _ A.in1 (holding [v] (setAdd S v) >>= _) _ _ s'
    refine wpAny_bind (wpAny_holding ?_)
    unfold setAdd
    refine wpAny_holding ?_
    refine wpAny_bind ((mixKind P w).pyHash (k := k) hkv ?_)
    refine setM_add (s := { s' with toks := s'.toks + 1 }) hS' hkv (by omega) fun b h' hsb hS2 => ?_
    refine wpAny_pure ⟨plainId_quiet PyProof.Rows.F.plain_set_update_loop _, ih (i + 1) _ (by omega) hlt (W.frame _ s' _ _ hst' (Nat.le_succ _) fun b hb o e => ?_) ⟨k :: ls, fun k' => ?_, by rw [List.length_cons]; omega, hS2⟩ fun s'' ls2 hm'' hls2 hS'' => ?_⟩
    · rw [hsb.2 b (fun h : b = S => hSf (by rw [← h]; exact hb))]; exact e
    · rw [List.take_add_one, hk, List.mem_cons, hls k', List.mem_append]
      simp [or_comm]
    · refine hR s'' ls2 (Moved.trans W.gtrans ((hm.mono hsub).then_heap (Nat.le_succ _) fun b o hb e => ?_) hm'') hls2 hS''
      rw [hsb.2 b (fun h : b = S => hb (by rw [h]; exact List.mem_cons_self))]; exact e
theorem paired_length {α β : Type} {R : α → β → Prop} : ∀ {xs : List α} {ys : List β}, Paired R xs ys → xs.length = ys.length
  | _, _, .nil => rfl
  | _, _, .cons _ t => congrArg (· + 1) (paired_length t)
theorem paired_getR {α β : Type} {R : α → β → Prop} : ∀ {xs : List α} {ys : List β} {i : Nat} {y : β}, Paired R xs ys → ys[i]? = some y → ∃ x, xs[i]? = some x ∧ R x y
  | _, _, _, _, .nil, e => by simp at e
  | _, _, 0, _, .cons h t, e => by simp at e; subst e; exact ⟨_, rfl, h⟩
  | _, _, i + 1, _, .cons h t, e => paired_getR (i := i) t (by simpa using e)
set_option maxHeartbeats 3200000 in
theorem call_set_list {l : Addr} {items : Array Value} (ks : List Key) {Q : Value → Shared → Prop} (hh : A.handled = none) (hl : s.heap.IsList l items) (hit : Paired (fun k v => keyIs k v = true) ks items.toList) (hb : ks.length + 1 < scanBound)
    (h : ∀ (h' : Heap) (tk : Nat) ls, SetM w h' s.heap.objs.size ls → (∀ k, k ∈ ls ↔ k ∈ ks) → (∀ b o, s.heap.get? b = some o → h'.get? b = some o) → Q (.ref s.heap.objs.size) { s with heap := h', toks := tk }) :
    wpAny (model P w) A (call (.type "set") [.ref l]) Q E s := by
  have hisz : items.size = ks.length := by rw [← Array.length_toList]; exact (paired_length hit).symm
  obtain ⟨c, tl, hmro⟩ := PySem.F.called_set.mro
  have hmade := PySem.F.called_set.made
  have hsub := PySem.F.called_set.sub
  have N0 : ∀ o, o = ({ cls := .type "set", dict := none, data := .set #[] 0 (.fresh 0 0 (!w.params.followText "set-order")) } : Obj) → (s.heap.push o).get? s.heap.objs.size = some o := fun o e => Heap.get?_push_size _ (by subst e; rfl)
  refine wpAny_call (codeAny_of_tree ?_)
  show wpAny _ _ (callAny (.type "set") _) _ _ _
  refine wpAny_pure ⟨Code.quiet_builtin _ (by decide +kernel), codeAny_builtin PySem.F.entry_type_call ?_⟩
  rw [Around.under_plain (weight_type_call_type "set" [.ref l] []) rfl]
  have h1 := PySem.F.called_set.notType
  have h2 := PySem.F.called_set.canCreate
  have hct := PySem.F.typeCall_set_1 (.ref l)
  repeat (any_goals (first | assumption | wp_step))
  refine codeAny_mono (L2.code_set_led1 (.ref l) (E := E) (Q₁ := fun obj s₁ => obj = .ref s.heap.objs.size ∧ s₁ = { s with heap := s.heap.push { cls := .type "set", dict := none, data := .set #[] 0 (.fresh 0 0 (!w.params.followText "set-order")) } }) ⟨rfl, rfl⟩) fun r s₁ hr => ?_
  cases r with
  | error e => exact hr
  | ok fl =>
    cases fl with
    | ret obj =>
      obtain ⟨rfl, rfl⟩ := hr
      have hS := N0 _ rfl
      have hT : Shared.TypeIs { s with heap := s.heap.push { cls := .type "set", dict := none, data := .set #[] 0 (.fresh 0 0 (!w.params.followText "set-order")) } } (.ref s.heap.objs.size) "set" := ⟨_, hS, rfl⟩
      have hli := PySem.F.called_set.init.lookup
      have hbi := PySem.F.called_set.init.bind (.ref s.heap.objs.size)
      repeat (any_goals (first | assumption | wp_step))
      refine codeAny_mono (codeAny_call_builtin (R := wants (fun r s₂ => r = .none ∧ ∃ h' tk ls, s₂ = { s with heap := h', toks := tk } ∧ SetM w h' s.heap.objs.size ls ∧ (∀ k, k ∈ ls ↔ k ∈ ks) ∧
          (∀ b o, s.heap.get? b = some o → h'.get? b = some o)) E) PySem.F.called_set.init.plain PySem.F.entry_set_init (check_set_init_1 hT ?_)) fun r₂ s₂ hr₂ => ?_
      · obtain ⟨ol, hol, hcl, nl, hdl⟩ := hl
        obtain ⟨ocls, odict, odata, oslots⟩ := ol
        simp only at hcl hdl
        subst hcl; subst hdl
        have hol' : (s.heap.push { cls := .type "set", dict := none, data := .set #[] 0 (.fresh 0 0 (!w.params.followText "set-order")) }).get? l = some { cls := .type "list", dict := odict, data := .seq items nl, slots := oslots } := Heap.get?_push_of_some _ hol
        have hsls := PySem.F.sub_list_set
        have hslf := PySem.F.sub_list_frozenset
        have hne : (Value.type "list" == Value.type "dict") = false := by decide
        have hl1 : (s.heap.push { cls := .type "set", dict := none, data := .set #[] 0 (.fresh 0 0 (!w.params.followText "set-order")) }).IsList l items := ⟨_, hol', rfl, nl, rfl⟩
        unfold Builtin.«set.__init__» noKeywords Builtin.Frozenset.updateFrom
        generalize hPI : pyIter = PI
        wp_walk
        subst hPI
        refine wpAny_pyIter_list hl1 ?_
        refine wpAny_bind (wpAny_runValue ?_)
        have hlS : l < s.heap.objs.size := Heap.lt_size hol
        have hh3 : A.in1.in1.in1.handled = none := by simp [hh]
        have hneI : l ≠ (s.heap.push { cls := .type "set", dict := none, data := .set #[] 0 (.fresh 0 0 (!w.params.followText "set-order")) }).objs.size := by
          rw [Heap.size_push]; exact Nat.ne_of_lt (Nat.lt_succ_of_lt hlS)
        have hSf : s.heap.objs.size ∉ [(s.heap.push { cls := .type "set", dict := none, data := .set #[] 0 (.fresh 0 0 (!w.params.followText "set-order")) }).objs.size, l] := by
          rw [Heap.size_push]; simp only [List.mem_cons, List.mem_singleton, List.not_mem_nil, or_false, not_or]
          exact ⟨Nat.ne_of_lt (Nat.lt_succ_self _), Nat.ne_of_gt hlS⟩
        have hval : ∀ (i : Nat) (v : Value), items[i]? = some v → ∃ k, ks[i]? = some k ∧ keyIs k v = true := fun i v hv => paired_getR (R := fun k v => keyIs k v = true) hit (by rw [Array.getElem?_toList]; exact hv)
        refine setM_loop ((Walks.list hh3 _ l hneI items).toS) s.heap.objs.size
          hSf ks hisz hb hval (items.size - 0) 0 _ (by omega) (Nat.zero_le _)
          ⟨⟨_, Heap.get?_push_size _ rfl, rfl, rfl⟩, (hl1.push _)⟩ ?hS0 ?hR
        case hS0 => exact ⟨[], fun k => by simp, Nat.zero_le _, setM_new (Heap.get?_push_of_some _ hS)⟩
        case hR =>
          intro s' ls hm hls hS'
          obtain ⟨h', g2, d', tk', os'⟩ := s'
          have eg : g2 = s.gens := hm.gens
          have ed : d' = s.drawn := hm.drawn
          have eo : os' = s.os := hm.os
          subst eg; subst ed; subst eo
          show wpAny _ _ _ _ _ _
          refine wpAny_pure ?_
          show wpAny _ _ (PySem.ret Value.none) _ _ _
          refine wpAny_pure ⟨rfl, h', tk', ls, rfl, hS', hls, fun b o e => ?_⟩
          have hb0 : b < s.heap.objs.size := Heap.lt_size e
          have hb2 : b ≠ (s.heap.push { cls := .type "set", dict := none, data := .set #[] 0 (.fresh 0 0 (!w.params.followText "set-order")) }).objs.size := by
            rw [Heap.size_push]; exact Nat.ne_of_lt (Nat.lt_succ_of_lt hb0)
          exact hm.heap b o (by simp only [List.mem_cons, List.mem_singleton, List.not_mem_nil, or_false, not_or]; exact ⟨Nat.ne_of_lt hb0, hb2⟩) (Heap.get?_push_of_some _ (Heap.get?_push_of_some _ e))
      · cases r₂ with
        | error e => exact hr₂
        | ok fl₂ =>
          cases fl₂ with
          | ret r =>
            obtain ⟨rfl, h', tk, ls, rfl, hS', hls, hk'⟩ := hr₂
            repeat (any_goals (first | assumption | wp_step))
            exact h _ _ _ hS' hls hk'
          | _ => exact hr₂.elim
    | _ => exact hr.elim
set_option maxHeartbeats 3200000 in
theorem call_set_tuple {l : Addr} {items : Array Value} (ks : List Key) {Q : Value → Shared → Prop} (hh : A.handled = none) (hl : s.heap.IsTuple l items) (hit : Paired (fun k v => keyIs k v = true) ks items.toList) (hb : ks.length + 1 < scanBound)
    (h : ∀ (h' : Heap) (tk : Nat) ls, SetM w h' s.heap.objs.size ls → (∀ k, k ∈ ls ↔ k ∈ ks) → (∀ b o, s.heap.get? b = some o → h'.get? b = some o) → Q (.ref s.heap.objs.size) { s with heap := h', toks := tk }) :
    wpAny (model P w) A (call (.type "set") [.ref l]) Q E s := by
  have hisz : items.size = ks.length := by rw [← Array.length_toList]; exact (paired_length hit).symm
  obtain ⟨c, tl, hmro⟩ := PySem.F.called_set.mro
  have hmade := PySem.F.called_set.made
  have hsub := PySem.F.called_set.sub
  have N0 : ∀ o, o = ({ cls := .type "set", dict := none, data := .set #[] 0 (.fresh 0 0 (!w.params.followText "set-order")) } : Obj) → (s.heap.push o).get? s.heap.objs.size = some o := fun o e => Heap.get?_push_size _ (by subst e; rfl)
  refine wpAny_call (codeAny_of_tree ?_)
  show wpAny _ _ (callAny (.type "set") _) _ _ _
  refine wpAny_pure ⟨Code.quiet_builtin _ (by decide +kernel), codeAny_builtin PySem.F.entry_type_call ?_⟩
  rw [Around.under_plain (weight_type_call_type "set" [.ref l] []) rfl]
  have h1 := PySem.F.called_set.notType
  have h2 := PySem.F.called_set.canCreate
  have hct := PySem.F.typeCall_set_1 (.ref l)
  repeat (any_goals (first | assumption | wp_step))
  refine codeAny_mono (L2.code_set_led1 (.ref l) (E := E) (Q₁ := fun obj s₁ => obj = .ref s.heap.objs.size ∧ s₁ = { s with heap := s.heap.push { cls := .type "set", dict := none, data := .set #[] 0 (.fresh 0 0 (!w.params.followText "set-order")) } }) ⟨rfl, rfl⟩) fun r s₁ hr => ?_
  cases r with
  | error e => exact hr
  | ok fl =>
    cases fl with
    | ret obj =>
      obtain ⟨rfl, rfl⟩ := hr
      have hS := N0 _ rfl
      have hT : Shared.TypeIs { s with heap := s.heap.push { cls := .type "set", dict := none, data := .set #[] 0 (.fresh 0 0 (!w.params.followText "set-order")) } } (.ref s.heap.objs.size) "set" := ⟨_, hS, rfl⟩
      have hli := PySem.F.called_set.init.lookup
      have hbi := PySem.F.called_set.init.bind (.ref s.heap.objs.size)
      repeat (any_goals (first | assumption | wp_step))
      refine codeAny_mono (codeAny_call_builtin (R := wants (fun r s₂ => r = .none ∧ ∃ h' tk ls, s₂ = { s with heap := h', toks := tk } ∧ SetM w h' s.heap.objs.size ls ∧ (∀ k, k ∈ ls ↔ k ∈ ks) ∧
          (∀ b o, s.heap.get? b = some o → h'.get? b = some o)) E) PySem.F.called_set.init.plain PySem.F.entry_set_init (check_set_init_1 hT ?_)) fun r₂ s₂ hr₂ => ?_
      · obtain ⟨ol, hol, hcl, nl, hdl⟩ := hl
        obtain ⟨ocls, odict, odata, oslots⟩ := ol
        simp only at hcl hdl
        subst hcl; subst hdl
        have hol' : (s.heap.push { cls := .type "set", dict := none, data := .set #[] 0 (.fresh 0 0 (!w.params.followText "set-order")) }).get? l = some { cls := .type "tuple", dict := odict, data := .seq items nl, slots := oslots } := Heap.get?_push_of_some _ hol
        have hsls := PySem.F.sub_tuple_set
        have hslf := PySem.F.sub_tuple_frozenset
        have hne : (Value.type "tuple" == Value.type "dict") = false := by decide
        have hl1 : (s.heap.push { cls := .type "set", dict := none, data := .set #[] 0 (.fresh 0 0 (!w.params.followText "set-order")) }).IsTuple l items := ⟨_, hol', rfl, nl, rfl⟩
        unfold Builtin.«set.__init__» noKeywords Builtin.Frozenset.updateFrom
        generalize hPI : pyIter = PI
        wp_walk
        subst hPI
        refine wpAny_pyIter_tuple hl1 ?_
        refine wpAny_bind (wpAny_runValue ?_)
        have hlS : l < s.heap.objs.size := Heap.lt_size hol
        have hh3 : A.in1.in1.in1.handled = none := by simp [hh]
        have hneI : l ≠ (s.heap.push { cls := .type "set", dict := none, data := .set #[] 0 (.fresh 0 0 (!w.params.followText "set-order")) }).objs.size := by
          rw [Heap.size_push]; exact Nat.ne_of_lt (Nat.lt_succ_of_lt hlS)
        have hSf : s.heap.objs.size ∉ [(s.heap.push { cls := .type "set", dict := none, data := .set #[] 0 (.fresh 0 0 (!w.params.followText "set-order")) }).objs.size, l] := by
          rw [Heap.size_push]; simp only [List.mem_cons, List.mem_singleton, List.not_mem_nil, or_false, not_or]
          exact ⟨Nat.ne_of_lt (Nat.lt_succ_self _), Nat.ne_of_gt hlS⟩
        have hval : ∀ (i : Nat) (v : Value), items[i]? = some v → ∃ k, ks[i]? = some k ∧ keyIs k v = true := fun i v hv => paired_getR (R := fun k v => keyIs k v = true) hit (by rw [Array.getElem?_toList]; exact hv)
        refine setM_loop ((Walks.tuple hh3 _ l hneI items).toS) s.heap.objs.size
          hSf ks hisz hb hval (items.size - 0) 0 _ (by omega) (Nat.zero_le _)
          ⟨⟨_, Heap.get?_push_size _ rfl, rfl, rfl⟩, (hl1.push _)⟩ ?hS0 ?hR
        case hS0 => exact ⟨[], fun k => by simp, Nat.zero_le _, setM_new (Heap.get?_push_of_some _ hS)⟩
        case hR =>
          intro s' ls hm hls hS'
          obtain ⟨h', g2, d', tk', os'⟩ := s'
          have eg : g2 = s.gens := hm.gens
          have ed : d' = s.drawn := hm.drawn
          have eo : os' = s.os := hm.os
          subst eg; subst ed; subst eo
          show wpAny _ _ _ _ _ _
          refine wpAny_pure ?_
          show wpAny _ _ (PySem.ret Value.none) _ _ _
          refine wpAny_pure ⟨rfl, h', tk', ls, rfl, hS', hls, fun b o e => ?_⟩
          have hb0 : b < s.heap.objs.size := Heap.lt_size e
          have hb2 : b ≠ (s.heap.push { cls := .type "set", dict := none, data := .set #[] 0 (.fresh 0 0 (!w.params.followText "set-order")) }).objs.size := by
            rw [Heap.size_push]; exact Nat.ne_of_lt (Nat.lt_succ_of_lt hb0)
          exact hm.heap b o (by simp only [List.mem_cons, List.mem_singleton, List.not_mem_nil, or_false, not_or]; exact ⟨Nat.ne_of_lt hb0, hb2⟩) (Heap.get?_push_of_some _ (Heap.get?_push_of_some _ e))
      · cases r₂ with
        | error e => exact hr₂
        | ok fl₂ =>
          cases fl₂ with
          | ret r =>
            obtain ⟨rfl, h', tk, ls, rfl, hS', hls, hk'⟩ := hr₂
            repeat (any_goals (first | assumption | wp_step))
            exact h _ _ _ hS' hls hk'
          | _ => exact hr₂.elim
    | _ => exact hr.elim
end
end Mi

set_option Elab.async false
set_option linter.all false
set_option maxRecDepth 100000
namespace Mi
open PySem PySem.Spec L2

/-! ### what sorted(set(..)) gives -/
def dedup {α : Type} [DecidableEq α] (l : List α) : List α := l.foldr (fun x acc => if x ∈ acc then acc else x :: acc) []
theorem mem_dedup {α : Type} [DecidableEq α] (x : α) : ∀ l : List α, x ∈ dedup l ↔ x ∈ l
  | [] => Iff.rfl
  | y :: l => by
    have ih := mem_dedup x l
    show x ∈ (if y ∈ dedup l then dedup l else y :: dedup l) ↔ _
    split
    · rename_i h
      rw [ih, List.mem_cons]
      exact ⟨.inr, fun z => z.elim (fun e => e ▸ (mem_dedup y l).1 h) id⟩
    · rw [List.mem_cons, List.mem_cons, ih]
theorem nodup_dedup {α : Type} [DecidableEq α] : ∀ l : List α, (dedup l).Nodup
  | [] => List.Pairwise.nil
  | y :: l => by
    show (if y ∈ dedup l then dedup l else y :: dedup l).Nodup
    split
    · exact nodup_dedup l
    · rename_i h
      exact List.nodup_cons.mpr ⟨h, nodup_dedup l⟩
def sortI (ns : List Int) : List Int := (dedup ns).mergeSort fun a b => decide (a ≤ b)
def sortS (xs : List Str) : List Str := (dedup xs).mergeSort fun a b => decide (a.cps.toList ≤ b.cps.toList)
theorem perm_of {α : Type} [DecidableEq α] {l l' : List α} (h : l.Nodup) (h' : l'.Nodup) (m : ∀ x, x ∈ l ↔ x ∈ l') : l.Perm l' := (List.perm_ext_iff_of_nodup h h').mpr m
theorem sortI_eq {l ns : List Int} (nd : l.Nodup) (m : ∀ x, x ∈ l ↔ x ∈ ns) : l.mergeSort (fun a b => decide (a ≤ b)) = sortI ns := by
  have p : l.Perm (dedup ns) := perm_of nd (nodup_dedup ns) fun x => (m x).trans (mem_dedup x ns).symm
  have tr : ∀ a b c : Int, decide (a ≤ b) = true → decide (b ≤ c) = true → decide (a ≤ c) = true := fun a b c h k => by
    simp only [decide_eq_true_eq] at *; omega
  have tt : ∀ a b : Int, (decide (a ≤ b) || decide (b ≤ a)) = true := fun a b => by
    simp only [Bool.or_eq_true, decide_eq_true_eq]; omega
  refine List.Perm.eq_of_pairwise (le := fun a b : Int => decide (a ≤ b) = true) (fun a b _ _ h k => ?_) (List.pairwise_mergeSort tr tt l) (List.pairwise_mergeSort tr tt (dedup ns)) ((List.mergeSort_perm l _).trans (p.trans (List.mergeSort_perm _ _).symm))
  simp only [decide_eq_true_eq] at h k; omega
theorem str_ext {a b : Str} (h : a.cps.toList = b.cps.toList) : a = b := by
  cases a; cases b
  simp only at h
  congr 1
  exact Array.toList_inj.mp h
theorem sortS_eq {l xs : List Str} (nd : l.Nodup) (m : ∀ x, x ∈ l ↔ x ∈ xs) : l.mergeSort (fun a b => decide (a.cps.toList ≤ b.cps.toList)) = sortS xs := by
  have p : l.Perm (dedup xs) := perm_of nd (nodup_dedup xs) fun x => (m x).trans (mem_dedup x xs).symm
  have tr : ∀ a b c : Str, decide (a.cps.toList ≤ b.cps.toList) = true → decide (b.cps.toList ≤ c.cps.toList) = true → decide (a.cps.toList ≤ c.cps.toList) = true := fun a b c h k => by
    simp only [decide_eq_true_eq] at *; exact List.le_trans h k
  have tt : ∀ a b : Str, (decide (a.cps.toList ≤ b.cps.toList) || decide (b.cps.toList ≤ a.cps.toList)) = true := fun a b => by
    simp only [Bool.or_eq_true, decide_eq_true_eq]; exact List.le_total _ _
  refine List.Perm.eq_of_pairwise (le := fun a b : Str => decide (a.cps.toList ≤ b.cps.toList) = true) (fun a b _ _ h k => ?_) (List.pairwise_mergeSort tr tt l) (List.pairwise_mergeSort tr tt (dedup xs)) ((List.mergeSort_perm l _).trans (p.trans (List.mergeSort_perm _ _).symm))
  simp only [decide_eq_true_eq] at h k
  exact str_ext (List.le_antisymm h k)

/-! ### sorted(S), len(S) over the heap -/
section
variable {P : Program} {w : World} {A : Around} {E : Value → Shared → Prop} {s : Shared} {a : Addr} {ks : List Key}
open PySem.W
/-- the members as values of one kind -/
theorem members {β : Type} (enc : β → PyData) (un : Key → Option β) (R : Value → β → Prop) (hun : ∀ k v, keyIs k v = true → ∀ b, un k = some b → R v b) {es : List (Int × Value)} (g : ∀ e ∈ es, GoodM w e) (hk : ∀ e ∈ es, ∃ b, un (keyM e) = some b) :
    ∀ {vs : List Value}, vs.Perm (es.map (·.2)) → ∃ bs : List β, EachIs R vs bs ∧ (bs.map some).Perm (es.map fun e => un (keyM e)) := by
  intro vs pm
  have key : ∀ l : List Value, (∀ v ∈ l, ∃ e ∈ es, e.2 = v) → ∃ bs : List β, EachIs R l bs ∧ bs.map some = l.map fun v => un (keyM (0, v)) := by
    intro l
    induction l with
    | nil => intro _; exact ⟨[], .nil, rfl⟩
    | cons v l ih =>
      intro h
      obtain ⟨bs, h1, h2⟩ := ih fun u hu => h u (List.mem_cons_of_mem _ hu)
      obtain ⟨e, he, rfl⟩ := h v List.mem_cons_self
      obtain ⟨b, hb⟩ := hk e he
      obtain ⟨k, h3, _⟩ := g e he
      have hb' : un k = some b := by rw [← keyM_of h3]; exact hb
      refine ⟨b :: bs, .cons (hun k _ h3 b hb') h1, ?_⟩
      rw [List.map_cons, List.map_cons, h2]
      congr 1
      exact hb.symm
  obtain ⟨bs, h1, h2⟩ := key vs fun v hv => by
    obtain ⟨e, he, q⟩ := List.mem_map.mp (pm.mem_iff.mp hv)
    exact ⟨e, he, q⟩
  refine ⟨bs, h1, ?_⟩
  rw [h2]
  have q := pm.map fun v => un (keyM (0, v))
  rw [List.map_map] at q
  exact q
theorem sorted_setM {β : Type} [DecidableEq β] (enc : β → PyData) (un : Key → Option β) (mk : β → Key) (R : Value → β → Prop) (hun : ∀ k v, keyIs k v = true → ∀ b, un k = some b → R v b) (hmk : ∀ k b, un k = some b → k = mk b) (hinj : ∀ b, un (mk b) = some b)
    (hR : ∀ (h : Heap) v b, R v b → ∃ as, Reads h v (enc b) as ∧ as = []) (hal : ∀ b b', alike (enc b) (enc b') = true) (hs : ∀ b, enc b ≠ .none ∧ ∀ xs, enc b ≠ .tuple xs) (hd : ∀ b, (enc b).depth ≤ 1)
    {Q : Value → Shared → Prop} (S : SetM w s.heap a ks) (hh : A.handled = none) (hu : A.units + 64 < cLine) (hk : ∀ k ∈ ks, ∃ b, un k = some b)
    (hQ : ∀ s' p (out : List Value) (c : Nat) (bs : List β), (∀ b o, s.heap.get? b = some o → s'.heap.get? b = some o) → s'.gens = s.gens → s'.os = s.os → s.heap.objs.size ≤ p → s'.heap.get? p = some (PyProof.Rows.seqObj "list" out.toArray c) →
      bs.Nodup → (∀ b, b ∈ bs ↔ mk b ∈ ks) → bs.length < scanBound → EachIs R out (bs.mergeSort (dataLe false enc)) → Q (.ref p) s') :
    wpAny (model P w) A (call (.builtin "sorted") [.ref a]) Q E s := by
  obtain ⟨o, es, ep, t, ho, hex, hdt, g, nd, hm, hb, hf, hr, hl⟩ := S.ex
  refine Calls.call_function_entry PyProof.Rows.kind_sorted PyProof.Rows.plain_sorted PyProof.Rows.entry_sorted (PyProof.Rows.args_sorted1 _) ?_
  unfold Builtin.«sorted»
  refine wpAny_bind (m := checkCount "sorted" 1 1 _) (wpAny_pure ?_)
  refine wpAny_bind (collect_set (A := A.in1) hh ⟨o, ho, hex.1, hdt⟩ hf hb hr hl fun s1 vs k1 hz g1 o1 pm => ?_)
  have hke : ∀ e ∈ es.toList, ∃ b, un (keyM e) = some b := fun e he => hk _ ((hm _).2 (List.mem_map.mpr ⟨e, he, rfl⟩))
  obtain ⟨bs, e1, pb⟩ := members enc un R hun g hke pm
  have pmk : (bs.map mk).Perm (es.toList.map keyM) := by
    have q := pb.map fun o : Option β => match o with
      | some b => mk b
      | none => .inl 0
    rw [List.map_map, List.map_map] at q
    have e2 : es.toList.map ((fun o : Option β => match o with
      | some b => mk b
      | none => .inl 0) ∘ fun e => un (keyM e)) = es.toList.map keyM := List.map_congr_left fun e he => by
        obtain ⟨b, hb⟩ := hke e he
        show (match un (keyM e) with
          | some b => mk b
          | none => .inl 0) = keyM e
        rw [hb]
        exact (hmk _ _ hb).symm
    rw [e2] at q
    exact q
  have mkinj : ∀ b b', mk b = mk b' → b = b' := fun b b' e => by
    have h1 := hinj b
    rw [e, hinj b'] at h1
    exact (Option.some.inj h1).symm
  have ndb : bs.Nodup := by
    have q := pmk.nodup_iff.mpr nd
    exact List.Pairwise.imp (fun h e => h (congrArg mk e)) (List.pairwise_map.mp q)
  have memb : ∀ b, b ∈ bs ↔ mk b ∈ ks := fun b => by
    rw [hm (mk b), ← pmk.mem_iff]
    constructor
    · exact fun h => List.mem_map.mpr ⟨b, h, rfl⟩
    · intro h
      obtain ⟨b', h1, h2⟩ := List.mem_map.mp h
      rw [← mkinj _ _ h2]; exact h1
  have hlen : bs.length = es.size := by
    have q := pmk.length_eq
    rwa [List.length_map, List.length_map, Array.length_toList] at q
  have hvl : vs.length = bs.length := e1.length
  have hsl : bs.length ≤ sizeLine := by
    have : scanBound ≤ sizeLine := by decide
    omega
  refine wpAny_bind (wpAny_newList ?_ (by rw [hvl]; exact hsl))
  have hoL : (s1.heap.push (PyProof.Rows.seqObj "list" vs.toArray 0)).get? s1.heap.objs.size = some (PyProof.Rows.seqObj "list" vs.toArray 0) := Heap.get?_push_size _ rfl
  refine wpAny_bind (wpAny_holding (list_sort_data (s := { s1 with heap := s1.heap.push (PyProof.Rows.seqObj "list" vs.toArray 0) }) (enc := enc) (R := R) hoL e1 (e1.mono fun v b r => ?_) ?_ (.inr fun d hd' => ?_) hsl (fun b _ => ?_) fun out hol eo => ?_))
  · obtain ⟨as, q, e⟩ := hR _ v b r
    exact ⟨as, q, by rw [e]; simp⟩
  · intro d hd1 d' hd2
    obtain ⟨b, _, rfl⟩ := List.mem_map.mp hd1
    obtain ⟨b', _, rfl⟩ := List.mem_map.mp hd2
    exact hal b b'
  · obtain ⟨b, _, rfl⟩ := List.mem_map.mp hd'
    exact hs b
  · have := hd b
    show A.units + 1 + 1 + (enc b).depth < cLine
    omega
  · obtain ⟨c, hc⟩ := PyProof.Rows.sortedHeap_at (vs := vs) (out := out.toArray) hoL
    refine wpAny_pure ⟨_, rfl, hQ { s1 with heap := PyProof.Rows.sortedHeap (s1.heap.push (PyProof.Rows.seqObj "list" vs.toArray 0)) s1.heap.objs.size vs out.toArray } s1.heap.objs.size out c bs (fun b u e => ?_) g1 o1 hz hc ndb memb (by omega) eo⟩
    have q := k1 b u e
    have hlt := Heap.lt_size q
    show (PyProof.Rows.sortedHeap (s1.heap.push (PyProof.Rows.seqObj "list" vs.toArray 0)) s1.heap.objs.size vs out.toArray).get? b = some u
    rw [PyProof.Rows.sortedHeap_old (Nat.ne_of_lt hlt) (by rw [Heap.size_push]; exact Nat.lt_succ_of_lt hlt)]
    exact Heap.get?_push_of_some _ q
end
end Mi

set_option Elab.async false
set_option linter.all false
set_option maxRecDepth 100000
set_option autoImplicit false
namespace Mi
open PySem PySem.Spec L2

def strsD : List D → Option (List Str)
  | [] => some []
  | .str i :: r => (strsD r).map (i :: ·)
  | _ :: _ => none
theorem strsD_vals {K : PySem.W.Frag} {B : Hp} : ∀ {ds : List D} {vs : List V} {xs : List Str}, RDs K B ds vs → strsD ds = some xs → vs = xs.map V.str
  | _, _, _, .nil, e => by cases e; rfl
  | d :: ds, _, xs, .cons r t, e => by
    unfold strsD at e
    split at e
    · rename_i h; cases h
    · rename_i i r' h
      cases h
      cases q : strsD ds with
      | none => rw [q] at e; cases e
      | some ys =>
        rw [q] at e
        cases e
        cases r
        rw [strsD_vals t q]; rfl
    · cases e
/-- the members' keys -/
def keysD (ds : List D) : Option (List Key ⊕ List Key) := match intsD ds with
  | some ns => some (.inl (ns.map .inl))
  | none => match strsD ds with
    | some xs => some (.inr (xs.map .inr))
    | none => none
theorem keys_int : ∀ {ns : List Int} {us : List Value}, Vals (ns.map V.int) us → Paired (fun k v => keyIs k v = true) (ns.map (Sum.inl : Int → Key)) us
  | [], _, .nil => .nil
  | n :: ns, _, .cons r t => by
    obtain ⟨k, rfl⟩ := r
    exact .cons (keyIs_int _ _) (keys_int t)
theorem keys_str : ∀ {ns : List Str} {us : List Value}, Vals (ns.map V.str) us → Paired (fun k v => keyIs k v = true) (ns.map (Sum.inr : Str → Key)) us
  | [], _, .nil => .nil
  | n :: ns, _, .cons r t => by
    obtain ⟨k, rfl⟩ := r
    exact .cons (keyIs_str _ _) (keys_str t)
def seqD : D → Option (List D)
  | .list ds => some ds
  | .tuple ds => some ds
  | _ => none
/-- a set of these -/
def setOf (ds : List D) : Option (List Int ⊕ List Str) := match intsD ds with
  | some ns => if ns.length + 1 < scanBound then some (.inl ns) else none
  | none => match strsD ds with
    | some xs => if xs.length + 1 < scanBound then some (.inr xs) else none
    | none => none
def keysS : List Int ⊕ List Str → List Key
  | .inl ns => ns.map .inl
  | .inr xs => xs.map .inr
def sortedS : List Int ⊕ List Str → List D
  | .inl ns => (sortI ns).map .int
  | .inr xs => (sortS xs).map .str
def lenS : List Int ⊕ List Str → Nat
  | .inl ns => (dedup ns).length
  | .inr xs => (dedup xs).length
def mSetE (f : List Int ⊕ List Str → Rv) (m : M Rv) : M Rv := bnd (vm m) fun r env => match (res env r).bind seqD with
  | some ds => match setOf ds with
    | some z => .ok (f z) env
    | none => .stuck
  | none => .stuck
section
variable {X : Cx} {cl : String → Addr} {E : XK} {e : Expr} {m : M Rv} {p p2 q pos : Pos}
theorem rd1_seq {K : PySem.W.Frag} {B H : Hp} {x : D} {v : V} {ds : List D} (hs : Sub B H) (r : Rd1 K B H x v) (hx : seqD x = some ds) : ∃ k a vs, v = .ref a ∧ SqK k K H a vs ∧ RDs K B ds vs := by
  rcases r with r | ⟨ds', a, vs, rfl, rfl, e, r⟩
  · cases x with
    | list ds' =>
      cases hx
      cases r with
      | lst h r => exact ⟨true, _, _, rfl, hs.sqL h, r⟩
    | tuple ds' =>
      cases hx
      cases r with
      | tup h r => exact ⟨false, _, _, rfl, hs.sqT h, r⟩
    | _ => cases hx
  · cases hx
    exact ⟨true, a, vs, rfl, SqL.of e, r⟩
theorem keys_of {K : PySem.W.Frag} {B : Hp} {ds : List D} {vs : List V} {us : List Value} {z : List Int ⊕ List Str} (r : RDs K B ds vs) (h : setOf ds = some z) (hv : Vals vs us) : Paired (fun k v => keyIs k v = true) (keysS z) us ∧ (keysS z).length + 1 < scanBound := by
  unfold setOf at h
  split at h
  · rename_i ns e
    split at h
    · rename_i hl
      cases h
      rw [intsD_vals r e] at hv
      exact ⟨keys_int hv, by show (ns.map _).length + 1 < _; rw [List.length_map]; exact hl⟩
    · cases h
  · split at h
    · rename_i xs e
      split at h
      · rename_i hl
        cases h
        rw [strsD_vals r e] at hv
        exact ⟨keys_str hv, by show (xs.map _).length + 1 < _; rw [List.length_map]; exact hl⟩
      · cases h
    · cases h
/-- set(e), then something of the new set -/
theorem set_then {f : List Int ⊕ List Str → Rv} {pins : List (Addr × Obj)} {σ : L2.St} {H : Hp} {s : Shared} {Q : VK} {cont : Value → Sem Value} (hg2 : Gl X "set") (hm2 : X.mg "set" = none) (ha : DE X cl E e m) (I : Inv X pins σ H s) (h : tM X.K cl E (mSetE f m) σ H Q)
    (na : starEach [e] X.env = (false, eval e X.env) :: starEach [] X.env) (hc : X.calm = true)
    (hk : ∀ (P B H1 : Hp) (env : Env) (fps : Nat → List Addr) (S : Addr) (ls : List Key) (z : List Int ⊕ List Str) (s1 : Shared), Inv X pins σ H1 s1 → Fm X.K P B H1 σ env fps → SetM X.w s1.heap S ls → (∀ k, k ∈ ls ↔ k ∈ keysS z) → PostE X.K cl E P B σ (.ok (f z) env) Q →
      wpAny (model X.prog X.w) X.A (cont (.ref S)) (EP X pins σ Q) X.xe s1) :
    wpAny (model X.prog X.w) X.A (eval (.Call (.Name "set" p2) [e] [] q) X.env) (fun v s1 => wpAny (model X.prog X.w) X.A (cont v) (EP X pins σ Q) X.xe s1) X.xe s := by
  obtain ⟨P, B, env, fps, F, h⟩ := h
  refine PyProof.Rows.Call_ (ld_blt I hg2 hm2 PyProof.Rows.boot_set ?_)
  refine PyProof.Rows.callWith_type1 (PyProof.Rows.args_cons (thn (ha.run pins s σ H _ I ⟨P, B, env, fps, F, post_vm h⟩) fun v s1 ⟨x, H1, I1, r1, B1, env1, fps1, r, x1, F1, w1, h1⟩ => PyProof.Rows.args_nil ?_) na) na rfl
  cases e1 : (res env1 r).bind seqD with
  | none => simp only [e1] at h1; exact h1.elim
  | some ds =>
  simp only [e1] at h1
  cases e2 : setOf ds with
  | none => simp only [e2] at h1; exact h1.elim
  | some z =>
  simp only [e2] at h1
  obtain ⟨x0, e3, e4⟩ := Option.bind_eq_some_iff.mp e1
  obtain ⟨k, a, vs, rfl, hq, rds⟩ := rd1_seq F1.sub (F1.res w1 e3) e4
  cases r1
  have fin : ∀ (h' : Heap) (tk : Nat) ls, SetM X.w h' s1.heap.objs.size ls → (∀ k, k ∈ ls ↔ k ∈ keysS z) → (∀ b o, s1.heap.get? b = some o → h'.get? b = some o) →
      wpAny (model X.prog X.w) X.A (cont (.ref s1.heap.objs.size)) (EP X pins σ Q) X.xe { s1 with heap := h', toks := tk } := fun h' tk ls S hls hk' =>
    hk P B1 H1 env1 fps1 _ ls z _ (I1.kept (t' := tk) hk') F1 S hls h1
  cases k with
  | true =>
    obtain ⟨its, rv, pl, hz⟩ := I1.list hq
    obtain ⟨c1, c2⟩ := keys_of rds e2 rv
    exact call_set_list (keysS z) (I1.ok.hd hc) pl.isList (by simpa using c1) c2 fun h' tk ls S hls hk' => fin h' tk ls S hls hk'
  | false =>
    obtain ⟨its, rv, pl, hz⟩ := I1.tuple hq
    obtain ⟨c1, c2⟩ := keys_of rds e2 rv
    exact call_set_tuple (keysS z) (I1.ok.hd hc) pl (by simpa using c1) c2 fun h' tk ls S hls hk' => fin h' tk ls S hls hk'
theorem sorted_vals {β : Type} {R : Value → β → Prop} {g : β → V} {enc : β → D} {K : PySem.W.Frag} {B : Hp} (hR : ∀ v b, R v b → RelV (g b) v) (hB : ∀ b, RD K B (enc b) (g b)) : ∀ {us : List Value} {bs : List β}, PySem.W.EachIs R us bs → Vals (bs.map g) us ∧ RDs K B (bs.map enc) (bs.map g)
  | _, _, .nil => ⟨.nil, .nil⟩
  | _, _, .cons h t => ⟨.cons (hR _ _ h) (sorted_vals hR hB t).1, .cons (hB _) (sorted_vals hR hB t).2⟩
theorem new_list {pins : List (Addr × Obj)} {σ : L2.St} {P B H : Hp} {s s' : Shared} {env : Env} {fps : Nat → List Addr} {Q : VK} {p : Addr} {out : List Value} {c : Nat} {vs : List V} {ds : List D} (I : Inv X pins σ H s) (F : Fm X.K P B H σ env fps)
    (k : ∀ b o, s.heap.get? b = some o → s'.heap.get? b = some o) (g : s'.gens = s.gens) (o : s'.os = s.os) (hp : s.heap.objs.size ≤ p) (hg : s'.heap.get? p = some (PyProof.Rows.seqObj "list" out.toArray c)) (hv : Vals vs out) (hr : RDs X.K B ds vs) (hl : vs.length ≤ sizeLine)
    (h : PostE X.K cl E P B σ (.ok (.own (.lst ds)) env) Q) : EP X pins σ Q (.ref p) s' := by
  have hn : H p = none := I.hok.fresh hp
  have J : Inv X pins σ (upd H p (.lst vs)) { s with heap := s'.heap, gens := s'.gens, drawn := s'.drawn, toks := s'.toks } :=
    I.call (ch := []) (Un.laid k hp hn) (I.hok.laid k hp ⟨hl, out, c, hv, hg⟩) (by rw [g]; exact I.bare) (fun _ z => nomatch z)
  have e : s' = { s with heap := s'.heap, gens := s'.gens, drawn := s'.drawn, toks := s'.toks } := by
    cases s'
    cases s
    cases o
    rfl
  rw [e]
  obtain ⟨h1, h2, h3⟩ := F.newB hn
  exact ⟨.ref p, _, J, rfl, h _ _ B fps Ext.refl (F.alloc hn) ⟨_, .lst upd_same hr, fun a ha => by simp at ha; subst ha; exact ⟨h1, h2, h3⟩⟩⟩
/-- sorted(set(e)), whole numbers or texts -/
theorem de_sortSet {k : Nat} (hr : Room k X.A) (hc : X.calm = true) (hg : Gl X "sorted") (hm : X.mg "sorted" = none) (hg2 : Gl X "set") (hm2 : X.mg "set" = none) (ha : DE X cl E e m) (na : starEach [e] X.env = (false, eval e X.env) :: starEach [] X.env := by rfl) :
    DE X cl E (.Call (.Name "sorted" p) [.Call (.Name "set" p2) [e] [] q] [] pos) (mSetE (fun z => .own (.lst (sortedS z))) m) := by
  refine ⟨fun pins s σ H Q I h => ?_⟩
  refine PyProof.Rows.Call_ (ld_blt I hg hm PyProof.Rows.boot_sorted ?_)
  refine PyProof.Rows.callWith_builtin1 (PyProof.Rows.args_cons (thn (set_then (cont := fun v => call (.builtin "sorted") [v]) hg2 hm2 ha I h na hc fun P B H1 env fps S ls z s1 I1 F1 SM hls h1 => ?_) fun v s1 h1 => PyProof.Rows.args_nil h1) rfl) rfl rfl
  have hh := I1.ok.hd hc
  cases z with
  | inl ns =>
    refine sorted_setM (β := Int) PyData.int (fun k => match k with
      | .inl i => some i
      | .inr _ => none) (Sum.inl : Int → Key) (fun v i => ∃ t, v = .int i t) ?_ ?_ (fun b => rfl) (fun h v b ⟨t, e⟩ => ⟨[], by rw [e]; exact .int _ _, rfl⟩) (fun _ _ => rfl) (fun b => ⟨fun z => (nomatch z), fun xs z => nomatch z⟩) (fun b => by simp [PyData.depth]) SM hh (units_of hr) (fun k hk => ?_) fun s' pp out c bs kk g o hp hgt nd mb hb eo => ?_
    · intro k v hkv b hb
      rcases keyIs_shape hkv with ⟨i, t, rfl, rfl⟩ | ⟨x, t, rfl, rfl⟩
      · cases hb; exact ⟨t, rfl⟩
      · cases hb
    · intro k b hb
      cases k with
      | inl i => cases hb; rfl
      | inr x => cases hb
    · have := (hls k).1 hk
      obtain ⟨i, _, rfl⟩ := List.mem_map.mp this
      exact ⟨i, rfl⟩
    · have em : ∀ b, b ∈ bs ↔ b ∈ ns := fun b => by
        rw [mb b, hls]
        constructor
        · intro h
          obtain ⟨i, h1, h2⟩ := List.mem_map.mp h
          cases h2; exact h1
        · exact fun h => List.mem_map.mpr ⟨b, h, rfl⟩
      have eq0 : bs.mergeSort (PySem.W.dataLe false PyData.int) = sortI ns := by
        rw [show PySem.W.dataLe false PyData.int = fun a b => decide (a ≤ b) from PySem.W.dataLe_int fun b => b]
        exact sortI_eq nd em
      rw [eq0] at eo
      obtain ⟨v1, v2⟩ := sorted_vals (K := X.K) (B := B) (g := V.int) (enc := PyData.int) (fun v b ⟨t, e⟩ => ⟨t, e⟩) (fun b => .int b) eo
      refine new_list I1 F1 kk g o hp hgt v1 v2 ?_ h1
      have l2 : (sortI ns).length = bs.length := by rw [← eq0]; exact (List.mergeSort_perm _ _).length_eq
      have : scanBound ≤ sizeLine := by decide
      rw [List.length_map]; omega
  | inr xs =>
    refine sorted_setM (β := Str) PyData.str (fun k => match k with
      | .inr i => some i
      | .inl _ => none) (Sum.inr : Str → Key) (fun v i => ∃ t, v = .str i t) ?_ ?_ (fun b => rfl) (fun h v b ⟨t, e⟩ => ⟨[], by rw [e]; exact .str _ _, rfl⟩) (fun _ _ => rfl) (fun b => ⟨fun z => (nomatch z), fun xs z => nomatch z⟩) (fun b => by simp [PyData.depth]) SM hh (units_of hr) (fun k hk => ?_) fun s' pp out c bs kk g o hp hgt nd mb hb eo => ?_
    · intro k v hkv b hb
      rcases keyIs_shape hkv with ⟨i, t, rfl, rfl⟩ | ⟨x, t, rfl, rfl⟩
      · cases hb
      · cases hb; exact ⟨t, rfl⟩
    · intro k b hb
      cases k with
      | inr i => cases hb; rfl
      | inl x => cases hb
    · have := (hls k).1 hk
      obtain ⟨i, _, rfl⟩ := List.mem_map.mp this
      exact ⟨i, rfl⟩
    · have em : ∀ b, b ∈ bs ↔ b ∈ xs := fun b => by
        rw [mb b, hls]
        constructor
        · intro h
          obtain ⟨i, h1, h2⟩ := List.mem_map.mp h
          cases h2; exact h1
        · exact fun h => List.mem_map.mpr ⟨b, h, rfl⟩
      have eq0 : bs.mergeSort (PySem.W.dataLe false PyData.str) = sortS xs := by
        rw [show PySem.W.dataLe false PyData.str = fun a b : Str => decide (a.cps.toList ≤ b.cps.toList) from PySem.W.dataLe_str fun b => b]
        exact sortS_eq nd em
      rw [eq0] at eo
      obtain ⟨v1, v2⟩ := sorted_vals (K := X.K) (B := B) (g := V.str) (enc := PyData.str) (fun v b ⟨t, e⟩ => ⟨t, e⟩) (fun b => .str b) eo
      refine new_list I1 F1 kk g o hp hgt v1 v2 ?_ h1
      have l2 : (sortS xs).length = bs.length := by rw [← eq0]; exact (List.mergeSort_perm _ _).length_eq
      have : scanBound ≤ sizeLine := by decide
      rw [List.length_map]; omega
end
end Mi

set_option Elab.async false
set_option linter.all false
set_option maxRecDepth 100000
set_option autoImplicit false
namespace Mi
open PySem PySem.Spec L2

/-! ### x[::-1] -/
section
variable {prog : Program} {w : World} {A : Around} {E : Value → Shared → Prop} {s : Shared}
theorem fm_congr {α β : Type} {f g : α → Option β} : ∀ {l : List α}, (∀ x ∈ l, f x = g x) → l.filterMap f = l.filterMap g
  | [], _ => rfl
  | x :: l, h => by rw [List.filterMap_cons, List.filterMap_cons, h x List.mem_cons_self, fm_congr (l := l) fun y hy => h y (List.mem_cons_of_mem _ hy)]
theorem pick_back (xs : Array Value) : ((List.range xs.size).filterMap fun (m : Nat) => xs[(((xs.size : Int) - 1) + (m : Int) * (-1)).toNat]?).toArray = xs.toList.reverse.toArray := by
  have h := PySem.W.krv_pick xs
  unfold slicePick at h
  rw [PySem.W.krv_bounds] at h
  have h : ((sliceRange ((xs.size : Int) - 1) (-1) (-1)).filterMap (xs[·]?)).toArray = xs.toList.reverse.toArray := h
  rw [PySem.W.krv_sliceRange, List.filterMap_map] at h
  rw [← h]
  congr 1
  refine fm_congr fun m hm => ?_
  have hl : m < xs.size := List.mem_range.mp hm
  have e : (((xs.size : Int) - 1) + (m : Int) * (-1)).toNat = xs.size - 1 - m := by omega
  show xs[(((xs.size : Int) - 1) + (m : Int) * (-1)).toNat]? = xs[xs.size - 1 - m]?
  rw [e]
theorem tup_back {t sl : Addr} {items : Array Value} {vl vu vs : Value} {Q : Value → Shared → Prop} (ht : PyProof.Rows.IsTup s.heap t items) (hs : s.heap.IsSliceOf sl vl vu vs) (pl : IsPart vl none) (pu : IsPart vu none) (ps : IsPart vs (some (-1)))
    (h : Q (.ref s.heap.objs.size) { s with heap := s.heap.push { cls := .type "tuple", data := .seq items.toList.reverse.toArray } }) (hsz : items.size ≤ sizeLine) : wpAny (model prog w) A (getItem (.ref t) (.ref sl)) Q E s := by
  have hfit : sizeOk (.seq items.toList.reverse.toArray) := by
    show items.toList.reverse.toArray.size ≤ sizeLine
    rw [List.size_toArray, List.length_reverse, Array.length_toList]
    exact hsz
  obtain ⟨os, hos, hcs, hds⟩ := id hs
  have hTs : s.TypeIs (.ref sl) "slice" := ⟨os, hos, hcs⟩
  unfold getItem
  try with_reducible refine wpAny_holding ?_
  first | refine wpAny_bind (wpAny_pure ?_) | skip
  refine wpAny_bind (wpAny_sequenceKey ht.typeIs (by decide) ?_)
  refine wpAny_bind (wpAny_callSpecial?_slot (name := Str.ofString "__getitem__") ht.typeIs PyProof.Rows.slot_tuple_getitem
    (wpAny_call_entry PyProof.Rows.slot_tuple_getitem ht.typeIs PyProof.Rows.entry_tuple_getitem ?_ (PyProof.Rows.args_tuple_getitem _ _)))
  show wpAny _ _ (Builtin.Tuple.tupleItemsOf (.ref t) >>= _) _ _ s
  refine wpAny_bind (PyProof.Rows.tupleItemsOf_ ht ?_)
  refine wpAny_bind (wpAny_typeOf hTs ?_)
  rw [if_pos (by decide)]
  have ap : ∀ {A : Around} {Q' : Int × Int × Nat → Shared → Prop}, Q' ((items.size : Int) - 1, -1, items.size) s → wpAny (model prog w) A (Builtin.Slice.sliceApplied (.ref sl) (pure (items.size : Int))) Q' E s := by
    intro A Q' h'
    unfold Builtin.Slice.sliceApplied Builtin.Slice.sliceFields
    refine wpAny_bind (wpAny_bind (wpAny_field hos hds (x := vl) rfl (wpAny_bind (wpAny_field hos hds (x := vu) rfl (wpAny_bind (wpAny_field hos hds (x := vs) rfl (wpAny_pure ?_)))))))
    refine wpAny_bind (HT.slicePart_ ps ?_)
    show wpAny _ _ (if ((-1 : Int) == 0) = true then _ else _) _ _ s
    rw [if_neg (by decide)]
    refine wpAny_bind (HT.slicePart_ pl (wpAny_bind (HT.slicePart_ pu (wpAny_bind (wpAny_pure ?_)))))
    have e1 : Builtin.Slice.sliceAdjust none none (-1) (items.size : Int) = ((items.size : Int) - 1, -1) := by
      unfold Builtin.Slice.sliceAdjust
      simp
    have e2 : Builtin.Slice.slicePlaces ((items.size : Int) - 1) (-1) (-1) = items.size := by
      unfold Builtin.Slice.slicePlaces
      simp
      omega
    show wpAny _ _ (match Builtin.Slice.sliceAdjust none none (-1) (items.size : Int) with | (lo, hi) => pure (lo, (-1 : Int), Builtin.Slice.slicePlaces lo hi (-1))) _ _ s
    rw [e1]
    show wpAny _ _ (pure ((items.size : Int) - 1, (-1 : Int), Builtin.Slice.slicePlaces ((items.size : Int) - 1) (-1) (-1))) _ _ s
    rw [e2]
    exact wpAny_pure h'
  refine wpAny_bind (ap ?_)
  have hno : ¬ (((items.size : Int) - 1 == 0 && (-1 : Int) == 1 && items.size == items.size) = true) := by
    intro q
    rw [Bool.and_eq_true, Bool.and_eq_true] at q
    exact absurd q.1.2 (by decide)
  show wpAny _ _ (if ((items.size : Int) - 1 == 0 && (-1 : Int) == 1 && items.size == items.size) = true then _ else _) _ _ s
  rw [if_neg hno, pick_back]
  first
    | exact wpAny_bind (m := Builtin.Tuple.tupleExact _) (wpAny_newObj_type (wpAny_pure ⟨_, rfl, wpAny_pure h⟩) hfit)
    | exact wpAny_bind (m := Builtin.Tuple.tupleExact _) (wpAny_newObj_type (wpAny_bind (wpAny_pure (wpAny_pure ⟨_, rfl, wpAny_pure h⟩))) hfit)
    | exact wpAny_bind (wpAny_bind (m := Builtin.Tuple.tupleExact _) (wpAny_newObj_type (wpAny_pure (wpAny_pure ⟨_, rfl, wpAny_pure h⟩)) hfit))
    | exact wpAny_bind (wpAny_bind (m := Builtin.Tuple.tupleExact _) (wpAny_newObj_type (wpAny_pure ⟨_, rfl, wpAny_pure h⟩) hfit))
end
def mBack (m : M Rv) : M Rv := bnd (vm m) fun r env => match res env r with
  | some (.list ds) => .ok (.own (.lst ds.reverse)) env
  | some (.tuple ds) => .ok (.d (.tuple ds.reverse)) env
  | _ => .stuck
section
variable {X : Cx} {cl : String → Addr} {E : XK} {e o : Expr} {m mo : M Rv} {p p1 p2 p3 q pos apos : Pos} {k : Nat}
theorem de_back (he : DE X cl E e m) (hc : X.calm = true) : DE X cl E (.Subscript e (.Slice none none (some (.UnaryOp .USub (.Constant (.int 1) k p1) p2)) p3) pos) (mBack m) := by
  refine ⟨fun pins s σ H Q I ⟨P, B, env, fps, F, h⟩ => ?_⟩
  refine PyProof.Rows.Subscript_ (thn (he.run pins s σ H _ I ⟨P, B, env, fps, F, post_vm h⟩) fun v s1 ⟨x, H1, I1, r1, B1, env1, fps1, r, x1, F1, w1, h1⟩ => ?_)
  have hst : PO X (some (.UnaryOp .USub (.Constant (.int 1) k p1) p2)) (tPart (tUn (rU fun i => .int (-i)) (tC (.int 1)))) := po_some (pe_un un_neg pe_int)
  refine wpAny_Slice (thn (po_none.run pins s1 σ H1 (fun o H2 => o = none ∧ H2 = H1) I1 ⟨rfl, rfl⟩) fun vl s2 ⟨l, H2, I2, pl, el, e2⟩ => ?_)
  subst el e2
  refine thn (po_none.run pins s2 σ H2 (fun o H3 => o = none ∧ H3 = H2) I2 ⟨rfl, rfl⟩) fun vu s3 ⟨u, H3, I3, pu, eu, e3⟩ => ?_
  subst eu e3
  refine thn (hst.run pins s3 σ H3 (fun o H4 => o = some (-1) ∧ H4 = H3) I3 ⟨1, rfl, -1, rfl, rfl, rfl⟩) fun vs s4 ⟨o, H4, I4, ps, eo, e4⟩ => ?_
  subst eo e4
  have I5 : Inv X pins σ H4 { s4 with heap := s4.heap.push { cls := .type "slice", data := .fields #[vl, vu, vs] } } := I4.kept (t' := s4.toks) fun b ob q => Heap.get?_push_of_some _ q
  have look : ∀ ds, (∃ x0, res env1 r = some x0 ∧ seqD x0 = some ds) → ∃ k a vs, x = .ref a ∧ SqK k X.K H4 a vs ∧ RDs X.K B1 ds vs := fun ds ⟨x0, e1, e2⟩ => rd1_seq F1.sub (F1.res w1 e1) e2
  split at h1
  · rename_i ds e1
    rcases F1.res w1 e1 with rr | ⟨ds', a, us, ed, rfl, ea, rr⟩
    · cases rr with
      | lst hx rr =>
        cases r1
        obtain ⟨its, rv, ht, hz⟩ := I5.list (F1.sub.sqL hx)
        have hlen := rv.length
        show wpAny (model X.prog X.w) X.A (PyProof.Rows.subscriptTail e (.Slice none none (some (.UnaryOp .USub (.Constant (.int 1) k p1) p2)) p3) _ (.ref s4.heap.objs.size)) (EP X pins σ Q) X.xe { s4 with heap := s4.heap.push { cls := .type "slice", data := .fields #[vl, vu, vs] } }
        refine PyProof.Rows.tail_any (ops := [_, .ref s4.heap.objs.size]) ht.isList.typeIs (PySem.slot_list_getitem.lookup) ?_ (by with_unfolding_all rfl)
        refine wpAny_getItem_list_slice ht.isList (Heap.IsSliceOf.new _ vl vu vs) pl pu ps (by decide) ?_ (by rw [List.size_toArray]; omega)
        rw [PySem.W.krv_pick]
        have hn := I5.hok.fresh (Nat.le_refl _)
        obtain ⟨h3, h4, h5⟩ := F1.newB hn
        refine ⟨.ref _, _, I5.laid (t' := s4.toks) (o := .lst _) (fun b ob q => Heap.get?_push_of_some _ q) (Nat.le_refl _) ?_, rfl, h1 _ _ B1 fps1 Ext.refl (F1.alloc hn) ⟨_, .lst upd_same rr.reverse, fun a ha => by rw [List.mem_singleton.mp ha]; exact ⟨h3, h4, h5⟩⟩⟩
        exact ⟨by rw [List.length_reverse]; exact hz, _, 0, rv.reverse, Heap.get?_push_size _ rfl⟩
    · cases ed
      cases r1
      obtain ⟨its, rv, ht, hz⟩ := I5.list (SqL.of (K := X.K) ea)
      have hlen := rv.length
      show wpAny (model X.prog X.w) X.A (PyProof.Rows.subscriptTail e (.Slice none none (some (.UnaryOp .USub (.Constant (.int 1) k p1) p2)) p3) _ (.ref s4.heap.objs.size)) (EP X pins σ Q) X.xe { s4 with heap := s4.heap.push { cls := .type "slice", data := .fields #[vl, vu, vs] } }
      refine PyProof.Rows.tail_any (ops := [_, .ref s4.heap.objs.size]) ht.isList.typeIs (PySem.slot_list_getitem.lookup) ?_ (by with_unfolding_all rfl)
      refine wpAny_getItem_list_slice ht.isList (Heap.IsSliceOf.new _ vl vu vs) pl pu ps (by decide) ?_ (by rw [List.size_toArray]; omega)
      rw [PySem.W.krv_pick]
      have hn := I5.hok.fresh (Nat.le_refl _)
      obtain ⟨h3, h4, h5⟩ := F1.newB hn
      refine ⟨.ref _, _, I5.laid (t' := s4.toks) (o := .lst _) (fun b ob q => Heap.get?_push_of_some _ q) (Nat.le_refl _) ?_, rfl, h1 _ _ B1 fps1 Ext.refl (F1.alloc hn) ⟨_, .lst upd_same rr.reverse, fun a ha => by rw [List.mem_singleton.mp ha]; exact ⟨h3, h4, h5⟩⟩⟩
      exact ⟨by rw [List.length_reverse]; exact hz, _, 0, rv.reverse, Heap.get?_push_size _ rfl⟩
  · rename_i ds e1
    obtain ⟨k', a, us, rfl, hx, rr⟩ := look ds ⟨_, e1, rfl⟩
    rcases F1.res w1 e1 with r2 | ⟨ds', a', us', ed, _, _, _⟩
    · cases r2 with
      | @tup a0 vs0 ds0 hx rr =>
        cases r1
        obtain ⟨its, rv, ht, hz⟩ := I5.tuple (F1.sub.sqT hx)
        have hlen := rv.length
        show wpAny (model X.prog X.w) X.A (PyProof.Rows.subscriptTail e (.Slice none none (some (.UnaryOp .USub (.Constant (.int 1) k p1) p2)) p3) _ (.ref s4.heap.objs.size)) (EP X pins σ Q) X.xe { s4 with heap := s4.heap.push { cls := .type "slice", data := .fields #[vl, vu, vs] } }
        refine PyProof.Rows.tail_any (ops := [_, .ref s4.heap.objs.size]) (show PyProof.Rows.IsTup _ _ its.toArray from ht).typeIs (PyProof.Rows.slot_tuple_getitem.lookup) ?_ (by with_unfolding_all rfl)
        refine tup_back (show PyProof.Rows.IsTup _ _ its.toArray from ht) (Heap.IsSliceOf.new _ vl vu vs) pl pu ps ?_ (by rw [List.size_toArray]; omega)
        have hn := I5.hok.fresh (Nat.le_refl _)
        obtain ⟨h3, h4, h5⟩ := F1.newB hn
        have xx := Ext.upd (o := .tup vs0.reverse) h3 h4
        refine ⟨.ref _, _, I5.laid (t' := s4.toks) (o := .tup _) (fun b ob q => Heap.get?_push_of_some _ q) (Nat.le_refl _) ?_, rfl, h1 _ _ _ fps1 xx (F1.allocB hn) (.tup (.inl (.inl upd_same)) (RDs.mono xx.1 _ _ rr.reverse))⟩
        exact ⟨by rw [List.length_reverse]; exact hz, _, rv.reverse, PyProof.Rows.IsTup.new _ _⟩
    · cases ed
  · exact h1.elim
end
end Mi

set_option Elab.async false
set_option linter.all false
set_option maxRecDepth 100000
set_option autoImplicit false
namespace Mi
open PySem PySem.Spec L2

/-! ### methods of a text -/
/-- t.m() -/
def mTx0 (g : Str → Option Out) (m : M Rv) : M Rv := bnd (vm m) fun r env => match r with
  | .d (.str z) => match g z with
    | some o => .ok o.rv env
    | none => .stuck
  | _ => .stuck
/-- t.m(e) -/
def mTx1 (g : Str → D → Option Out) (m me : M Rv) : M Rv := bnd (vm m) fun r => match r with
  | .d (.str z) => bnd (vm me) fun re env => match res env re with
    | some x => match g z x with
      | some o => .ok o.rv env
      | none => .stuck
    | none => .stuck
  | _ => stk
section
variable {X : Cx} {cl : String → Addr} {E : XK} {e o : Expr} {m me : M Rv} {pos apos : Pos}
theorem tx0_in {r : V → List V → Hp → VK → Prop} {g : Str → Option Out} (hr : ∀ (H B : Hp) (z : Str) (o : Out) (Q : VK), Sub B H → g z = some o → (∀ v H', OutR X.K B H o v H' → Q v H') → r (.str z) [] H Q) {σ : L2.St} {H : Hp} {Q : VK} (h : tM X.K cl E (mTx0 g m) σ H Q) :
    tM0 r (tM X.K cl E m) σ H Q := by
  obtain ⟨P, B, env, fps, F, h⟩ := h
  refine ⟨P, B, env, fps, F, (post_vm h).mono ?_⟩
  intro v H1 ⟨B2, env2, fps2, r2, x2, F2, q, h2⟩
  split at h2
  · rename_i z
    cases (show RD X.K B2 (.str z) v from q)
    split at h2
    · rename_i o eo
      exact ⟨⟨z, rfl⟩, hr H1 B2 z o Q F2.sub eo fun v H' ho => ho.post F2 h2⟩
    · exact h2.elim
  · exact h2.elim
theorem tx1_in {r : V → List V → Hp → VK → Prop} {g : Str → D → Option Out} (hr : ∀ (H B : Hp) (z : Str) (x : D) (y : V) (o : Out) (Q : VK), Sub B H → Rd1 X.K B H x y → g z x = some o → (∀ v H', OutR X.K B H o v H' → Q v H') → r (.str z) [y] H Q) {σ : L2.St} {H : Hp} {Q : VK} (h : tM X.K cl E (mTx1 g m me) σ H Q) :
    tM1 r (tM X.K cl E m) (tM X.K cl E me) σ H Q := by
  obtain ⟨P, B, env, fps, F, h⟩ := h
  refine ⟨P, B, env, fps, F, (post_vm h).mono ?_⟩
  intro v H1 ⟨B2, env2, fps2, r2, x2, F2, q, h2⟩
  split at h2
  · rename_i z
    cases (show RD X.K B2 (.str z) v from q)
    refine ⟨⟨z, rfl⟩, P, B2, env2, fps2, F2, (post_vm h2).mono ?_⟩
    intro y H3 ⟨B4, env4, fps4, r4, x4, F4, q4, h4⟩
    split at h4
    · rename_i x ex
      split at h4
      · rename_i o eo
        exact hr H3 B4 z x y o Q F4.sub (F4.res q4 ex) eo fun v H' ho => ho.post F4 h4
      · exact h4.elim
    · exact h4.elim
  · exact h2.elim
def gUpper (z : Str) : Option Out := if z.length ≤ 5592405 then some (.val (.str (Txt.upper z))) else none
theorem de_upper (ho : DE X cl E o m) (hbase : attributeBase o "upper" X.env (eval o X.env) = eval o X.env := by rfl) (hline : (apos.endLine == pos.line) = true := by rfl) : DE X cl E (.Call (.Attribute o "upper" apos) [] [] pos) (mTx0 gUpper m) :=
  ⟨fun pins s σ H Q I h => (pe_upper ho hbase hline).run pins s σ H Q I (tx0_in (fun H B z o Q hs e hq => by
    unfold gUpper at e
    split at e
    · rename_i hz
      cases e
      exact ⟨z, rfl, rfl, hz, hq _ _ ⟨rfl, .str _⟩⟩
    · cases e) h)⟩
def gJoin (z : Str) (x : D) : Option Out := match (seqD x).bind strsD with
  | some ys => if (ys.map (·.length)).sum + ys.length * z.length ≤ 16777216 then some (.val (.str (Txt.join z ys))) else none
  | none => none
theorem rd1_sq {K : PySem.W.Frag} {B H : Hp} {x : D} {v : V} {ds : List D} (hs : Sub B H) (r : Rd1 K B H x v) (hx : seqD x = some ds) : ∃ a vs, v = .ref a ∧ (SqL K H a vs ∨ SqT K H a vs) ∧ RDs K B ds vs := by
  obtain ⟨k, a, vs, e, h, r⟩ := rd1_seq hs r hx
  cases k with
  | true => exact ⟨a, vs, e, .inl h, r⟩
  | false => exact ⟨a, vs, e, .inr h, r⟩
theorem de_join (ho : DE X cl E o m) (he : DE X cl E e me) (hs : starEach [e] X.env = [(false, eval e X.env)] := by rfl) (hbase : attributeBase o "join" X.env (eval o X.env) = eval o X.env := by rfl) (hline : (apos.endLine == pos.line) = true := by rfl) :
    DE X cl E (.Call (.Attribute o "join" apos) [e] [] pos) (mTx1 gJoin m me) :=
  ⟨fun pins s σ H Q I h => (pe_join ho he hs hbase hline).run pins s σ H Q I (tx1_in (fun H B z x y o Q hs r e hq => by
    unfold gJoin at e
    split at e
    · rename_i ys ey
      split at e
      · rename_i hz
        cases e
        obtain ⟨ds, e1, e2⟩ := Option.bind_eq_some_iff.mp ey
        obtain ⟨a, vs, rfl, hq2, rr⟩ := rd1_sq hs r e1
        rw [strsD_vals rr e2] at hq2
        exact ⟨z, a, ys, rfl, rfl, hq2, hz, hq _ _ ⟨rfl, .str _⟩⟩
      · cases e
    · cases e) h)⟩

/-! ### str(n) -/
def gStr : List D → Option Out
  | [.int i] => if i.natAbs.log2 < 1920 then some (.val (.str (toString i))) else none
  | [.str z] => none
  | _ => none
theorem ru_str {K : PySem.W.Frag} : RuL K (fun xs H Q => ∃ i : Int, xs = [.int i] ∧ i.natAbs.log2 < 1920 ∧ Q (.str (toString i)) H) gStr := by
  intro H B xs vs o Q hs r e hq
  unfold gStr at e
  split at e
  · rename_i i
    split at e
    · rename_i hz
      cases e
      cases r with
      | cons r1 r2 =>
        cases r2
        rcases r1 with r1 | ⟨_, _, _, q, _⟩
        · cases r1
          exact ⟨i, rfl, hz, hq _ _ ⟨rfl, .str _⟩⟩
        · cases q
    · cases e
  · cases e
  · cases e
theorem de_toStr {ms : M (List Rv)} {p : Pos} (hg : Gl X "str") (hm : X.mg "str" = none) (ha : DA X cl E [e] ms) (he : starEach [e] X.env = (false, eval e X.env) :: starEach [] X.env := by rfl) : DE X cl E (.Call (.Name "str" p) [e] [] pos) (mCB gStr ms) :=
  de_callTy call_str_int ru_str hg hm PyProof.Rows.boot_str ha (by decide) (by decide) he rfl

/-! ### {'a': e}: a dict that is only looked at as a thing -/
def mDic1 (m : M Rv) : M Rv := bnd (vm m) fun r => bnd (frzR r) fun _ => ret (.d (.dict []))
theorem de_dic1 {key : Str} {kj : Nat} {kp : Pos} (he : DE X cl E e m) : DE X cl E (.Dict [some (.Constant (.str key) kj kp)] [e] pos) (mDic1 m) := by
  refine ⟨fun pins s σ H Q I ⟨P, B, env, fps, F, h⟩ => (pe_disp (pps_cons pe_str he pps_nil) rfl rfl (by simp) (by simp)).run pins s σ H Q I fun a ha => ?_⟩
  obtain ⟨hb, hp, hf⟩ := F.newB ha
  refine ⟨L2.upd P a (.dK []), B, env, fps, (F.alloc ha).guard upd_same hb hf hp, ?_⟩
  unfold mDic1 at h
  have ee : (bnd (vm m) fun r => bnd (frzR r) fun _ => ret (Rv.d (.dict []))) env = (bnd m fun r => bnd (frzR r.frz) fun _ => ret (Rv.d (.dict []))) env := by
    unfold vm bnd
    cases m env <;> rfl
  rw [ee] at h
  unfold bnd at h
  cases q : m env with
  | stuck => rw [q] at h; exact h.elim
  | ex c env1 =>
    rw [q] at h
    intro H1 B1 fps1 x1 F1
    exact h H1 B1 fps1 (Ext.ungrd hp x1).1 (F1.ungrd hp)
  | ok r env1 =>
    rw [q] at h
    intro v H1 B1 fps1 x1 F1 r1
    obtain ⟨B2, x2, F2, s2⟩ := freeze_rv F1 r1
    simp only [bind_ok] at h
    cases qf : frzR r.frz env1 with
    | stuck => rw [qf] at h; exact h.elim
    | ex c e => exact absurd qf frzR_nex
    | ok d env3 =>
      rw [qf] at h
      simp only [bind_ok] at h
      obtain ⟨B3, fps3, x3, F3, r3⟩ := frzR_ok F2 s2 qf
      have xx := Ext.ungrd hp (x1.trans (x2.trans x3))
      refine ⟨F3.prt _ _ upd_same, [(.inr key, v)], rfl, by simp, ?_⟩
      have hb3 : B3 a = none := xx.2.trans hb
      obtain ⟨F4, hf4⟩ := F3.grow (o' := .dK (mergeK [] [(.inr key, v)])) hb3 hp
      obtain ⟨F5, x5⟩ := F4.freezeT upd_same hb3 hp hf4
      exact h _ _ _ fps3 (xx.1.trans x5) F5 (.dct upd_same)
end
end Mi

set_option Elab.async false
set_option linter.all false
namespace Mi
open PySem PySem.Spec L2
section
variable {X : Cx}
/-- == with an empty list or tuple at either side -/
def rEmp (K : PySem.W.Frag) (neg : Bool) : R2 := fun x y H Q => ∃ l b xs zs, x = .ref l ∧ y = .ref b ∧ ((SqL K H l xs ∧ SqL K H b zs) ∨ (SqT K H l xs ∧ SqT K H b zs)) ∧ (xs = [] ∨ zs = []) ∧ Q (.bl (xor neg (xs.isEmpty && zs.isEmpty))) H
theorem emp_sz {α β : Type} {xs : List V} {zs : List V} {its : List α} {its2 : List β} (h1 : xs.length = its.length) (h2 : zs.length = its2.length) (h : xs = [] ∨ zs = []) : (its.toArray.size == its2.toArray.size) = (xs.isEmpty && zs.isEmpty) ∧ min its.toArray.size its2.toArray.size = 0 := by
  simp only [List.size_toArray]
  rcases h with rfl | rfl
  · simp only [List.length_nil] at h1
    rw [← h1]
    cases zs with
    | nil => simp only [List.length_nil] at h2; rw [← h2]; exact ⟨rfl, rfl⟩
    | cons z zs => simp only [List.length_cons] at h2; rw [← h2]; exact ⟨rfl, by omega⟩
  · simp only [List.length_nil] at h2
    rw [← h2]
    cases xs with
    | nil => simp only [List.length_nil] at h1; rw [← h1]; exact ⟨rfl, rfl⟩
    | cons z zs => simp only [List.length_cons] at h1; rw [← h1]; exact ⟨rfl, by omega⟩
theorem op_eqEmp (hu : X.A.units + 64 < cLine) : OpR X (compareOp .Eq) (rEmp X.K false) := by
  intro pins s σ H x y v u Q I rx ry h
  obtain ⟨l, b, xs, zs, rfl, rfl, hh, he, q⟩ := h
  cases rx
  cases ry
  have hu' : X.A.units < cLine := by omega
  rw [Bool.false_xor] at q
  rcases hh with ⟨hH, hB⟩ | ⟨hH, hB⟩
  · obtain ⟨its, r, p1, _⟩ := I.list hH
    obtain ⟨its2, r2, p2, _⟩ := I.list hB
    have e := emp_sz r.length r2.length he
    by_cases hsz : its.toArray.size = its2.toArray.size
    · have h0 : its.toArray.size = 0 := by omega
      refine SeqAt.eq_listAt (e := fun _ => true) p1.isList p2.isList hsz hu' (fun j h1 h2 => by omega) ?_
      rw [h0]
      refine ⟨.bl _, H, I, ?_, q⟩
      rw [← e.1, hsz]
      simp [RelV]
    · refine SeqAt.eq_list_lengthsAt p1.isList p2.isList (by simpa using hsz) hu' ⟨.bl _, H, I, ?_, q⟩
      rw [← e.1, show (its.toArray.size == its2.toArray.size) = false by simpa using hsz]
      rfl
  · obtain ⟨its, r, p1, _⟩ := I.tuple hH
    obtain ⟨its2, r2, p2, _⟩ := I.tuple hB
    have e := emp_sz r.length r2.length he
    refine SeqAt.eq_tupleAt (e := fun _ => true) p1 p2 hu' (fun j h1 h2 => by omega) ?_
    rw [e.2, e.1]
    exact ⟨.bl _, H, I, rfl, q⟩
theorem op_neEmp (hu : X.A.units + 64 < cLine) : OpR X (compareOp .NotEq) (rEmp X.K true) := by
  intro pins s σ H x y v u Q I rx ry h
  obtain ⟨l, b, xs, zs, rfl, rfl, hh, he, q⟩ := h
  cases rx
  cases ry
  have hu' : X.A.units < cLine := by omega
  rw [Bool.true_xor] at q
  rcases hh with ⟨hH, hB⟩ | ⟨hH, hB⟩
  · obtain ⟨its, r, p1, _⟩ := I.list hH
    obtain ⟨its2, r2, p2, _⟩ := I.list hB
    have e := emp_sz r.length r2.length he
    by_cases hsz : its.toArray.size = its2.toArray.size
    · have h0 : its.toArray.size = 0 := by omega
      refine SeqAt.RcNeAt.lists (e := fun _ => true) p1.isList p2.isList hsz hu' (fun j h1 h2 => by omega) _ _ _ _ ?_
      rw [h0]
      refine ⟨.bl _, H, I, ?_, q⟩
      rw [← e.1, hsz]
      simp [RelV]
    · refine SeqAt.RcNeAt.lists_lengths p1.isList p2.isList (by simpa using hsz) hu' _ _ _ _ ⟨.bl _, H, I, ?_, q⟩
      rw [← e.1, show (its.toArray.size == its2.toArray.size) = false by simpa using hsz]
      rfl
  · obtain ⟨its, r, p1, _⟩ := I.tuple hH
    obtain ⟨its2, r2, p2, _⟩ := I.tuple hB
    have e := emp_sz r.length r2.length he
    refine SeqAt.RcNeAt.tuples (e := fun _ => true) p1 p2 hu' (fun j h1 h2 => by omega) _ _ _ _ ?_
    rw [e.2, e.1]
    exact ⟨.bl _, H, I, rfl, q⟩
def gEmp (neg : Bool) : D → D → Option Out
  | .list xs, .list ys => if xs.isEmpty = true ∨ ys.isEmpty = true then vB (xor neg (xs.isEmpty && ys.isEmpty)) else none
  | .tuple xs, .tuple ys => if xs.isEmpty = true ∨ ys.isEmpty = true then vB (xor neg (xs.isEmpty && ys.isEmpty)) else none
  | _, _ => none
theorem RDs.emp {K : PySem.W.Frag} {B : Hp} {ds : List D} {vs : List V} (r : RDs K B ds vs) : vs.isEmpty = ds.isEmpty := by
  cases r <;> rfl
theorem RDs.nilE {K : PySem.W.Frag} {B : Hp} {ds : List D} {vs : List V} (r : RDs K B ds vs) (h : ds.isEmpty = true) : vs = [] := by
  have := r.emp
  rw [h] at this
  exact List.isEmpty_iff.mp this
theorem ru_emp {K : PySem.W.Frag} {neg : Bool} : RuD K (rEmp K neg) (gEmp neg) := by
  intro H B x y v w o Q hs r1 r2 e hq
  unfold gEmp at e
  split at e
  · split at e
    · rename_i h
      cases e
      obtain ⟨a, vs, rfl, h1, s1⟩ := r1.list hs
      obtain ⟨b, ws, rfl, h2, s2⟩ := r2.list hs
      refine ⟨a, b, vs, ws, rfl, rfl, .inl ⟨h1, h2⟩, h.imp s1.nilE s2.nilE, ?_⟩
      rw [s1.emp, s2.emp]
      exact hq _ _ ⟨rfl, .bl _⟩
    · cases e
  · split at e
    · rename_i h
      cases e
      obtain ⟨a, vs, rfl, h1, s1⟩ := r1.tuple hs
      obtain ⟨b, ws, rfl, h2, s2⟩ := r2.tuple hs
      refine ⟨a, b, vs, ws, rfl, rfl, .inr ⟨h1, h2⟩, h.imp s1.nilE s2.nilE, ?_⟩
      rw [s1.emp, s2.emp]
      exact hq _ _ ⟨rfl, .bl _⟩
    · cases e
  · cases e
def gEqE := gEmp false
def gNeE := gEmp true
theorem od_eqE (hu : X.A.units + 64 < cLine) : OpD X (compareOp .Eq) gEqE := OpD.ru (op_eqEmp hu) ru_emp
theorem od_neE (hu : X.A.units + 64 < cLine) : OpD X (compareOp .NotEq) gNeE := OpD.ru (op_neEmp hu) ru_emp
theorem gEqE_l {ds : List D} : gEqE (.list ds) (.list []) = vB ds.isEmpty := by
  show (if ds.isEmpty = true ∨ ([] : List D).isEmpty = true then vB (xor false (ds.isEmpty && ([] : List D).isEmpty)) else none) = _
  rw [if_pos (.inr rfl), Bool.false_xor, List.isEmpty_nil, Bool.and_true]
theorem gNeE_l {ds : List D} : gNeE (.list ds) (.list []) = vB (!ds.isEmpty) := by
  show (if ds.isEmpty = true ∨ ([] : List D).isEmpty = true then vB (xor true (ds.isEmpty && ([] : List D).isEmpty)) else none) = _
  rw [if_pos (.inr rfl), Bool.true_xor, List.isEmpty_nil, Bool.and_true]
theorem gEqE_t {ds : List D} : gEqE (.tuple ds) (.tuple []) = vB ds.isEmpty := by
  show (if ds.isEmpty = true ∨ ([] : List D).isEmpty = true then vB (xor false (ds.isEmpty && ([] : List D).isEmpty)) else none) = _
  rw [if_pos (.inr rfl), Bool.false_xor, List.isEmpty_nil, Bool.and_true]
theorem gNeE_t {ds : List D} : gNeE (.tuple ds) (.tuple []) = vB (!ds.isEmpty) := by
  show (if ds.isEmpty = true ∨ ([] : List D).isEmpty = true then vB (xor true (ds.isEmpty && ([] : List D).isEmpty)) else none) = _
  rw [if_pos (.inr rfl), Bool.true_xor, List.isEmpty_nil, Bool.and_true]
end
end Mi

set_option Elab.async false
set_option linter.all false
set_option maxRecDepth 100000
namespace Mi
open PySem PySem.Spec L2 PySem.Calls
/-! ### the key of a lambda: len(cap[i][x][j]), or that negated -/
section
variable {prog : Program} {w : World} {A : Around} {E : Value → Shared → Prop} {env : Env}
/-- e gives v in the heap h, and leaves all as it is -/
def Gv (prog : Program) (w : World) (A : Around) (E : Value → Shared → Prop) (env : PySem.Env) (h : Heap) (e : Expr) (R : Value → Prop) : Prop :=
  ∀ (s : Shared) (Q : Value → Shared → Prop), s.heap = h → (∀ v tk, R v → Q v { s with toks := tk }) → wpAny (model prog w) A (eval e env) Q E s
variable {env : PySem.Env} {h : Heap} {a b e : Expr} {p pos : Pos} {x : Str}
def RInt (i : Int) (v : Value) : Prop := ∃ t, v = .int i t
def RRef (a : Addr) (v : Value) : Prop := v = .ref a
theorem gv_int {i : Int} {k : Nat} : Gv prog w A E env h (.Constant (.int i) k pos) (RInt i) := fun s Q hs hq => wpAny_Constant_int (hq _ _ ⟨_, rfl⟩)
theorem gv_local {m : Str → Option Value} {v : Value} (hk : env.scope.kind = .function) (hl : env.kindOf x = some .local) (hn : h.Ns env.locals m) (hv : m x = some v) (hd : (x == ("__debug__" : Str)) = false) : Gv prog w A E env h (.Name x pos) (fun u => u = v) :=
  fun s Q hs hq => wpAny_Name (wpAny_loadName_local hk hl (by rw [hs]; exact hn) hv (hq v s.toks rfl)) hd
theorem gv_free {c : Addr} {v : Value} (hk : env.scope.kind = .function) (hl : env.kindOf x = some .free) (hc : env.cells.lookup x = some c) (hv : h.IsCell c (some v)) (hd : (x == ("__debug__" : Str)) = false) (hcd : (x == ("__classdict__" : Str)) = false) : Gv prog w A E env h (.Name x pos) (fun u => u = v) :=
  fun s Q hs hq => wpAny_Name (wpAny_loadName_free hk hl hc (by rw [hs]; exact hv) (hq v s.toks rfl) hcd) hd
theorem gv_item {t : Addr} {its : Array Value} {i : Int} {j : Nat} {y : Value} {Ra Rb : Value → Prop} (ha : Gv prog w A E env h a Ra) (hb : Gv prog w A E env h b Rb) (ra : ∀ v, Ra v → v = .ref t) (rb : ∀ v, Rb v → RInt i v) (ht : PyProof.Rows.IsTup h t its) (hlo : -(2 ^ 63) ≤ i) (hhi : i < 2 ^ 63)
    (hj : seqIndex? i its.size = some j) (hy : its[j]? = some y) (hs : PlainIxT b) : Gv prog w A E env h (.Subscript a b pos) (fun u => u = y) := fun s Q hs' hq => by
  refine PyProof.Rows.Subscript_ (ha s _ hs' fun v tk rv => hb { s with toks := tk } _ hs' fun u tk2 ru => ?_)
  obtain rfl := ra v rv
  obtain ⟨tt, rfl⟩ := rb u ru
  have ht' : PyProof.Rows.IsTup ({ s with toks := tk2 } : Shared).heap t its := by rw [show ({ s with toks := tk2 } : Shared).heap = h from hs']; exact ht
  exact PyProof.Rows.tail_any ht'.typeIs PyProof.Rows.slot_tuple_getitem.lookup (PyProof.Rows.getItem_tuple ht' hlo hhi hj hy (hq _ _ rfl)) (hs _ _)
theorem gv_len {mg mb : Str → Option Value} {t : Addr} {its : Array Value} {Ra : Value → Prop} (ha : Gv prog w A E env h a Ra) (ra : ∀ v, Ra v → v = .ref t) (ht : PyProof.Rows.IsTup h t its) (hfit : (its.size : Int) < 2 ^ 63) (hk : env.scope.kind = .function) (hg : env.kindOf "len" = some .globalImplicit)
    (hn : h.Ns env.globals mg) (hm : mg "len" = none) (hb : h.Ns env.builtins mb) (hbv : mb "len" = some (.builtin "len")) (he : starEach [a] env = (false, eval a env) :: starEach [] env := by rfl) :
    Gv prog w A E env h (.Call (.Name "len" p) [a] [] pos) (RInt its.size) := fun s Q hs hq => by
  subst hs
  refine wpAny_Call_Name_kw (Calls.Name_function_global hk hg (Calls.loadGlobal_builtin hn hm hb hbv ?_))
  refine PyProof.Rows.callWith_builtin1 ?_ he rfl
  rw [he]
  show wpAny _ _ (spliced ((false, eval a env) :: backTo pos (starEach [] env))) _ _ s
  refine Calls.spliced_cons (ha s _ rfl fun v tk rv => Calls.spliced_nil ?_)
  obtain rfl := ra v rv
  exact PyProof.Rows.len_tuple (by exact ht) hfit (hq _ _ ⟨_, rfl⟩)
theorem gv_neg {i : Int} {Ra : Value → Prop} (ha : Gv prog w A E env h a Ra) (ra : ∀ v, Ra v → RInt i v) : Gv prog w A E env h (.UnaryOp .USub a pos) (RInt (-i)) := fun s Q hs hq => by
  refine PyProof.Rows.UnaryOp_ (ha s _ hs fun v tk rv => ?_)
  obtain ⟨t, rfl⟩ := ra v rv
  exact PyProof.Rows.neg_int (hq _ _ ⟨_, rfl⟩)
end

section
variable {prog : Program} {w : World} {A : Around}
/-- the key's text: len(cap[i][prm][j]), negated or not -/
def keyC (b : Expr) (cap prm : Str) (i j : Int) : Prop := ∃ (p1 p2 p3 p4 p5 p6 p7 p8 p9 : Pos) (k1 k2 : Nat),
  b = .Call (.Name "len" p1) [.Subscript (.Subscript (.Subscript (.Name cap p2) (.Constant (.int i) k1 p3) p4) (.Name prm p5) p6) (.Constant (.int j) k2 p7) p8] [] p9
def keyE (neg : Bool) (b : Expr) (cap prm : Str) (i j : Int) : Prop := if neg = true then ∃ p c, b = .UnaryOp .USub c p ∧ keyC c cap prm i j else keyC b cap prm i j
def keyI (neg : Bool) (n : Nat) : Int := if neg = true then -(n : Int) else n
theorem lam_key {mg mb : Str → Option Value} {s : Shared} {f c' cc th tr t2 t3 : Addr} {qual cap prm : Str} {params : Arguments} {body : Expr} {scope : Scope} {cl : List (Str × Addr)} {pm ctv v : Value} {neg : Bool} {i j n : Int} {i' j' n' : Nat} {tk0 : Tok} {its0 its1 its2 its3 : Array Value}
    (hof : s.heap.get? f = some (PySem.W.kla_obj "<lambda>" qual params body scope cl pm c' ctv)) (hcd : s.heap.CodeRec (.ref c') qual) (hroom : A.depth < recursionLimit) (hnl : s.heap.NoLimit)
    (hbind : bindArgs (PySem.W.kla_fn "<lambda>" qual params body scope cl pm (.ref c') ctv) ⟨[v], []⟩ = pure [(prm, v)]) (hk : scope.kind = .function) (hco : scope.isCoroutine = false) (hgen : scope.isGenerator = false) (hcell : ∀ x ∈ scope.names, x.2 ≠ .cell)
    (hprm : scope.names.lookup prm = some .local) (hcap : scope.names.lookup cap = some .free) (hlen : (PySem.W.envX qual scope s.heap.objs.size f (.ref c') cl).kindOf "len" = some .globalImplicit)
    (hdp : (prm == ("__debug__" : Str)) = false) (hdc : (cap == ("__debug__" : Str)) = false) (hcc : (cap == ("__classdict__" : Str)) = false)
    (hcl : cl.lookup cap = some cc) (hcv : s.heap.IsCell cc (some (.ref th))) (hb : keyE neg body cap prm i j) (hmg : s.heap.Ns mainGlobals mg) (hm : mg "len" = none) (hmb : s.heap.Ns builtinsNs mb) (hbv : mb "len" = some (.builtin "len"))
    (hv : v = .int n tk0) (h0 : PyProof.Rows.IsTup s.heap th its0) (hi : seqIndex? i its0.size = some i') (hi1 : -(2 ^ 63) ≤ i) (hi2 : i < 2 ^ 63) (e0 : its0[i']? = some (.ref tr)) (h1 : PyProof.Rows.IsTup s.heap tr its1) (hn : seqIndex? n its1.size = some n') (hn1 : -(2 ^ 63) ≤ n) (hn2 : n < 2 ^ 63)
    (e1 : its1[n']? = some (.ref t2)) (h2 : PyProof.Rows.IsTup s.heap t2 its2) (hj : seqIndex? j its2.size = some j') (hj1 : -(2 ^ 63) ≤ j) (hj2 : j < 2 ^ 63) (e2 : its2[j']? = some (.ref t3)) (h3 : PyProof.Rows.IsTup s.heap t3 its3) (hfit : (its3.size : Int) < 2 ^ 63) :
    wpAny (model prog w) A (call (.ref f) [v]) (PySem.W.KeyPure (.int (keyI neg its3.size)) s) (fun _ _ => False) s := by
  refine wpAny_call (PySem.W.kla_callFunE hroom hof rfl hco hgen rfl hcd ?_)
  rw [hbind]
  refine wpAny_pure (wpAny_newFunctionEnv hcell (fun y hy => ?_) (fun h₁ hns hsb => ⟨hnl.fresh _ hsb, ?_⟩) hk)
  · simp only [List.mem_singleton] at hy
    subst hy
    exact hprm
  show codeAny _ _ (.expr body (PySem.W.envX qual scope s.heap.objs.size f (.ref c') cl)) _ _
  have kp : ∀ b o, s.heap.get? b = some o → h₁.get? b = some o := fun b o e => hsb.extBut b o (Nat.ne_of_lt (Heap.lt_size e)) (Heap.get?_push_of_some _ e)
  have tupK : ∀ {t : Addr} {its : Array Value}, PyProof.Rows.IsTup s.heap t its → PyProof.Rows.IsTup h₁ t its := fun {t its} x => x.keeps kp
  have hcv1 : h₁.IsCell cc (some (.ref th)) := by
    obtain ⟨o, ho, hd⟩ := hcv
    exact ⟨o, kp _ _ ho, hd⟩
  have key : ∀ {c : Expr} {E : Value → Shared → Prop}, keyC c cap prm i j → Gv prog w (A.deeper (PySem.W.envX qual scope s.heap.objs.size f (.ref c') cl)) E (PySem.W.envX qual scope s.heap.objs.size f (.ref c') cl) h₁ c (RInt its3.size) := fun {c E} hc => by
    obtain ⟨p1, p2, p3, p4, p5, p6, p7, p8, p9, k1, k2, rfl⟩ := hc
    have g1 := gv_free (prog := prog) (w := w) (A := A.deeper (PySem.W.envX qual scope s.heap.objs.size f (.ref c') cl)) (E := E) (env := PySem.W.envX qual scope s.heap.objs.size f (.ref c') cl) (pos := p2) hk hcap hcl hcv1 hdc hcc
    have g2 := gv_item (pos := p4) g1 (gv_int (i := i) (k := k1) (pos := p3)) (fun _ e => e) (fun _ e => e) (tupK h0) hi1 hi2 hi e0 (fun _ _ => rfl)
    have g3 := gv_local (prog := prog) (w := w) (A := A.deeper (PySem.W.envX qual scope s.heap.objs.size f (.ref c') cl)) (E := E) (env := PySem.W.envX qual scope s.heap.objs.size f (.ref c') cl) (pos := p5) hk hprm hns (show ([(prm, v)] : List (Str × Value)).reverse.lookup prm = some v by simp [List.lookup]) hdp
    have g4 := gv_item (pos := p6) g2 g3 (fun _ e => e) (fun u e => ⟨tk0, by rw [e, hv]⟩) (tupK h1) hn1 hn2 hn e1 (fun _ _ => rfl)
    have g5 := gv_item (pos := p8) g4 (gv_int (i := j) (k := k2) (pos := p7)) (fun _ e => e) (fun _ e => e) (tupK h2) hj1 hj2 hj e2 (fun _ _ => rfl)
    exact gv_len (p := p1) (pos := p9) g5 (fun _ e => e) (tupK h3) hfit hk hlen (hmg.keeps kp) hm (hmb.keeps kp) hbv
  refine PySem.W.kla_codeExpr ?_
  cases neg with
  | false =>
    refine key hb _ _ rfl fun u tk ru => ?_
    obtain ⟨t, rfl⟩ := ru
    exact ⟨h₁, tk, rfl, kp, .int _ _⟩
  | true =>
    obtain ⟨p, c, rfl, hc⟩ := hb
    refine gv_neg (key hc) (fun _ e => e) _ _ rfl fun u tk ru => ?_
    obtain ⟨t, rfl⟩ := ru
    exact ⟨h₁, tk, rfl, kp, .int _ _⟩
end
end Mi

set_option Elab.async false
set_option linter.all false
set_option maxRecDepth 100000
namespace Mi
open PySem PySem.Spec L2
section
variable {K : PySem.W.Frag} {P B H H1 : Hp} {σ : L2.St} {env : Env} {fps : Nat → List Addr}
open Classical in
noncomputable def codeB (B H1 : Hp) : Hp := fun a => if ∃ q, H1 a = some (LamX.CodeO a q) then H1 a else B a
theorem Fm.keepN (F : Fm K P B H σ env fps) (x : LamX.ExtN H H1) {a : Addr} {o : HO} (e : B a = some o) : H1 a = some o :=
  x a o (F.sub a o e) fun ps z => F.nbT a ps (by rw [e, z])
/-- tables and code objects alone have changed -/
theorem Fm.lam (F : Fm K P B H σ env fps) (x : LamX.ExtN H H1) (T : LamX.Tabs (tabsOf K) H1) : ∃ B1, Ext P B B1 ∧ Fm K P B1 H1 σ env fps := by
  have sb : Sub B (codeB B H1) := fun a o e => by
    unfold codeB
    split
    · exact F.keepN x e
    · exact e
  have pk : ∀ {a o}, P a = some o → H1 a = some o := fun {a o} e => x a o (F.prt a o e) fun ps z => F.npT a ps (by rw [e, z])
  have same : ∀ {a o}, P a = some o → codeB B H1 a = B a := fun {a o} e => by
    unfold codeB
    split
    · rename_i h
      obtain ⟨q, h⟩ := h
      have z : H a = some (LamX.CodeO a q) := by rw [F.prt a o e, ← h, pk e]
      rw [F.tab.1 a q z, h]
    · rfl
  have own : ∀ {i a}, a ∈ fps i → codeB B H1 a = B a ∧ H1 a = H a := fun {i a} h => by
    have hx : H1 a = H a := by
      cases e : H a with
      | none => exact absurd e (F.dom i a h)
      | some o => exact x a o e fun ps z => F.ownT i a h ps (by rw [e, z])
    refine ⟨?_, hx⟩
    unfold codeB
    split
    · rename_i h2
      obtain ⟨q, h2⟩ := h2
      rw [hx] at h2
      have := F.tab.1 a q h2
      rw [(F.off i a h).1] at this
      cases this
    · rfl
  refine ⟨codeB B H1, ⟨sb, fun a o e => same e⟩, ⟨F.len, fun a o e => ?_, fun a o e => pk e, fun i o e => ?_, F.emp, F.dis, fun i a h => ⟨by rw [(own h).1]; exact (F.off i a h).1, (F.off i a h).2⟩, ⟨fun a q e => ?_, fun p hp => ?_⟩, fun a ps e => ?_, F.npT⟩⟩
  · unfold codeB at e
    split at e
    · exact e
    · exact F.keepN x e
  · obtain ⟨v, e1, r⟩ := F.slot i o e
    exact ⟨v, e1, r.congr sb fun a ha => (own ha).2⟩
  · unfold codeB
    rw [if_pos ⟨q, e⟩]
    exact e
  · obtain ⟨ps, h1, h2, h3⟩ := T p hp
    refine ⟨ps, h1, h2, fun pos cv e => ?_⟩
    obtain ⟨c, e1, e2⟩ := h3 pos cv e
    refine ⟨c, e1, ?_⟩
    unfold codeB
    rw [if_pos ⟨_, e2⟩]
    exact e2
  · unfold codeB at e
    split at e
    · rename_i h
      obtain ⟨q, h⟩ := h
      rw [h] at e
      have := Option.some.inj e
      unfold LamX.CodeO at this
      cases this
    · exact F.nbT a ps e
end
end Mi

set_option Elab.async false
set_option linter.all false
set_option maxRecDepth 100000
namespace Mi
open PySem PySem.Spec L2 PySem.Calls
theorem ix_seq {n : Nat} {i : Int} {k : Nat} (h : ixN n i = some k) : seqIndex? i n = some k := by
  unfold ixN at h
  unfold seqIndex?
  split at h
  · split at h
    · cases h
      rename_i h1 h2
      have e : (if i < 0 then i + (n : Int) else i) = i := if_neg (by omega)
      simp only [e]
      rw [if_pos (by simp; omega)]
    · cases h
  · split at h
    · cases h
      rename_i h1 h2
      have e : (if i < 0 then i + (n : Int) else i) = i + n := if_pos (by omega)
      simp only [e]
      rw [if_pos (by simp; omega)]
    · cases h
theorem ix_bnd {n : Nat} {i : Int} {k : Nat} (h : ixN n i = some k) (hn : n ≤ sizeLine) : -(2 ^ 63) ≤ i ∧ i < 2 ^ 63 ∧ k < n := by
  have e : sizeLine = 16777216 := rfl
  unfold ixN at h
  split at h
  · split at h
    · cases h
      omega
    · cases h
  · split at h
    · cases h
      omega
    · cases h
theorem Vals.at {vs : List V} {us : List Value} (r : Vals vs us) {i : Nat} {v : V} (e : vs[i]? = some v) : ∃ u, us[i]? = some u ∧ RelV v u := r.get e
section
variable {X : Cx} {pins : List (Addr × Obj)} {σ : L2.St} {P B H : Hp} {s : Shared}
/-- a tuple of data in the heap, item by item -/
theorem tup_step (I : Inv X pins σ H s) (sub : Sub B H) {ds : List D} {u : Value} {v : V} (rd : RD X.K B (.tuple ds) v) (ru : RelV v u) : ∃ (t : Addr) (its : Array Value), u = .ref t ∧ PyProof.Rows.IsTup s.heap t its ∧ its.size = ds.length ∧ its.size ≤ sizeLine ∧
    ∀ (i : Int) (d : D), atI ds i = some d → ∃ (k : Nat) (u' : Value) (v' : V), seqIndex? i its.size = some k ∧ -(2 ^ 63) ≤ i ∧ i < 2 ^ 63 ∧ its[k]? = some u' ∧ RelV v' u' ∧ RD X.K B d v' := by
  obtain ⟨a, vs, rfl, hS, r⟩ := Rd1.tuple sub (.inl rd)
  cases ru
  obtain ⟨its, hv, hp, hz⟩ := I.tuple hS
  have hl : vs.length = its.length := hv.length
  have hd : ds.length = vs.length := (RDs.length _ _ r).symm
  refine ⟨a, its.toArray, rfl, hp, by simp; omega, by simp; omega, fun i d e => ?_⟩
  obtain ⟨v', e1, r1⟩ := r.atI e
  unfold atI at e1
  cases q : ixN vs.length i with
  | none => rw [q] at e1; cases e1
  | some k =>
    rw [q] at e1
    obtain ⟨u', e2, r2⟩ := hv.get e1
    have b := ix_bnd q (by omega)
    exact ⟨k, u', v', by rw [List.size_toArray, ← hl]; exact ix_seq q, b.1, b.2.1, by simpa using e2, r2, r1⟩
end
/-! ### the keys -/
def keyOf (neg : Bool) (i j : Int) (hs x : D) : Option Int := match hs, x with
  | .tuple hs, .int n => match atI hs i with
    | some (.tuple rs) => match atI rs n with
      | some (.tuple q) => match atI q j with
        | some (.tuple z) => some (keyI neg z.length)
        | _ => none
      | _ => none
    | _ => none
  | _, _ => none
theorem keyOf_inv {neg : Bool} {i j : Int} {hs x : D} {k : Int} (h : keyOf neg i j hs x = some k) : ∃ hs' n rs q z, hs = .tuple hs' ∧ x = .int n ∧ atI hs' i = some (.tuple rs) ∧ atI rs n = some (.tuple q) ∧ atI q j = some (.tuple z) ∧ k = keyI neg z.length := by
  unfold keyOf at h
  split at h
  · split at h
    · split at h
      · split at h
        · cases h
          exact ⟨_, _, _, _, _, rfl, rfl, by assumption, by assumption, by assumption, rfl⟩
        · cases h
      · cases h
    · cases h
  · cases h
def keysOf (f : D → Option Int) : List D → Option (List (D × Int))
  | [] => some []
  | d :: ds => (f d).bind fun k => (keysOf f ds).map fun r => (d, k) :: r
theorem keysOf_all {f : D → Option Int} : ∀ {ds : List D} {bs : List (D × Int)}, keysOf f ds = some bs → bs.map (·.1) = ds ∧ ∀ p ∈ bs, f p.1 = some p.2
  | [], bs, h => by cases h; simp
  | d :: ds, bs, h => by
    unfold keysOf at h
    cases e : f d with
    | none => rw [e] at h; cases h
    | some k =>
      cases e2 : keysOf f ds with
      | none => rw [e, e2] at h; cases h
      | some r =>
        rw [e, e2] at h
        cases h
        obtain ⟨h1, h2⟩ := keysOf_all e2
        refine ⟨by simp [h1], fun p hp => ?_⟩
        rcases List.mem_cons.mp hp with rfl | hp
        · exact e
        · exact h2 p hp
def sortK (bs : List (D × Int)) : List D := (bs.mergeSort (PySem.W.dataLe false fun p => PyData.int p.2)).map (·.1)
/-- sorted(e, key=lambda x: ..) -/
def mSortK (neg : Bool) (jc : Nat) (i j : Int) (m : M Rv) : M Rv := bnd (vm m) fun r env => match res env r, env[jc]? with
  | some (.list xs), some (some (.dat hs)) => match keysOf (keyOf neg i j hs) xs with
    | some bs => if xs.length ≤ sizeLine then .ok (.own (.lst (sortK bs))) env else .stuck
    | none => .stuck
  | _, _ => .stuck
/-- v stands for data -/
def RV (K : PySem.W.Frag) (B : Hp) (v : Value) (p : D × Int) : Prop := ∃ w : V, RelV w v ∧ RD K B p.1 w
theorem each_of {K : PySem.W.Frag} {B : Hp} : ∀ {bs : List (D × Int)} {vs : List V} {us : List Value}, RDs K B (bs.map (·.1)) vs → Vals vs us → PySem.W.EachIs (RV K B) us bs
  | [], _, _, .nil, .nil => .nil
  | p :: bs, _, _, .cons r t, .cons v q => .cons ⟨_, v, r⟩ (each_of t q)
theorem each_to {K : PySem.W.Frag} {B : Hp} : ∀ {bs : List (D × Int)} {us : List Value}, PySem.W.EachIs (RV K B) us bs → ∃ vs, Vals vs us ∧ RDs K B (bs.map (·.1)) vs
  | _, _, .nil => ⟨[], .nil, .nil⟩
  | _, _, .cons ⟨w, h1, h2⟩ t => by
    obtain ⟨vs, q1, q2⟩ := each_to t
    exact ⟨w :: vs, .cons h1 q1, .cons h2 q2⟩
end Mi

set_option Elab.async false
set_option linter.all false
set_option maxRecDepth 100000
namespace Mi
open PySem PySem.Spec L2 PySem.Calls
/-- the lambda's text: one parameter, one captured name -/
structure LamT (sc : Scope) (params : Arguments) (body : Expr) (scope : Scope) (cap prm : Str) (neg : Bool) (i j : Int) : Prop where
  h_dfl : params.defaults = [] ∧ ∀ env : PySem.Env, defaultsOf params env = ([], [])
  h_kind : scope.kind = .function
  h_co : scope.isCoroutine = false
  h_gen : scope.isGenerator = false
  h_nocell : ∀ x ∈ scope.names, x.2 ≠ .cell
  h_prm : scope.names.lookup prm = some .local
  h_cap : scope.names.lookup cap = some .free
  h_free : ∀ y ∈ scope.names, y.2 = .free → y.1 = cap
  h_len : scope.names.lookup (Str.ofString "len") = some .globalImplicit
  h_own : sc.names.lookup cap = some .cell
  h_bind : ∀ (qual : Str) (cl : List (Str × Addr)) (pm cd ct v : Value), bindArgs (PySem.W.kla_fn "<lambda>" qual params body scope cl pm cd ct) ⟨[v], []⟩ = pure [(prm, v)]
  h_dp : (prm == ("__debug__" : Str)) = false
  h_dc : (cap == ("__debug__" : Str)) = false
  h_cc : (cap == ("__classdict__" : Str)) = false
  h_key : keyE neg body cap prm i j
theorem keyE_t {b : Expr} {cap prm : Str} {i j : Int} (h : ∃ p c, b = .UnaryOp .USub c p ∧ keyC c cap prm i j) : keyE true b cap prm i j := h
theorem keyE_f {b : Expr} {cap prm : Str} {i j : Int} (h : keyC b cap prm i j) : keyE false b cap prm i j := h
/-- the def's code object and its table -/
structure LamH (X : Cx) : Prop where
  code : ∃ c P, LamX.TabB X.base X.mg c P ∧ X.env.code = .ref c ∧ (P, X.env.qual ++ "<lambda>") ∈ tabsOf X.K ∧ ∀ p ∈ tabsOf X.K, p.1 = P → p.2 = X.env.qual ++ "<lambda>"
section
variable {X : Cx} {cl : String → Addr} {E : XK} {a : Expr} {m : M Rv} {cap prm : Str} {params : Arguments} {body : Expr} {scope : Scope} {neg : Bool} {i j : Int} {jc : Nat} {p pos lpos kpos : Pos}
theorem tabs_of {K : PySem.W.Frag} {B H : Hp} (sub : Sub B H) (h : TabF K B H) : LamX.Tabs (tabsOf K) H := fun p hp => by
  obtain ⟨ps, h1, h2, h3⟩ := h.2 p hp
  exact ⟨ps, h1, h2, fun pos cv e => by
    obtain ⟨c, e1, e2⟩ := h3 pos cv e
    exact ⟨c, e1, sub _ _ e2⟩⟩
/-- the lambda's call as a key -/
theorem key_run {pins : List (Addr × Obj)} {σ : L2.St} {P B H : Hp} {s : Shared} {env : Env} {fps : Nat → List Addr} {A : Around} {f c' : Addr} {pm ctv : Value} {hs : D} {v : Value} {q : D × Int} (I : Inv X pins σ H s) (F : Fm X.K P B H σ env fps)
    (L : LamT X.env.scope params body scope cap prm neg i j) (hN : X.N[jc]? = some cap) (hj : env[jc]? = some (some (.dat hs))) (hm : X.mg "len" = none)
    (hf : s.heap.get? f = some (PySem.W.kla_obj "<lambda>" (X.env.qual ++ "<lambda>") params body scope (cloFrom X.env.cells scope.names []) pm c' ctv)) (hc : H c' = some (LamX.CodeO c' (X.env.qual ++ "<lambda>")))
    (hroom : A.depth < recursionLimit) (hv : RV X.K B v q) (hk : keyOf neg i j hs q.1 = some q.2) (h : Heap) (tk : Nat) (kp : ∀ b o, s.heap.get? b = some o → h.get? b = some o) :
    wpAny (model X.prog X.w) A (call (.ref f) [v]) (PySem.W.KeyPure (.int q.2) { s with heap := h, toks := tk }) (fun _ _ => False) { s with heap := h, toks := tk } := by
  obtain ⟨hs', n, rs, z2, z3, rfl, e1, a0, a1, a2, e2⟩ := keyOf_inv hk
  obtain ⟨w, hw1, hw2⟩ := hv
  rw [e1] at hw2
  cases hw2
  obtain ⟨tk0, rfl⟩ := hw1
  -- the captured value
  obtain ⟨vh, sh, rh⟩ := F.slot jc _ hj
  have rh := rh.dat_inv.1
  obtain ⟨mm, hn, hl⟩ := I.loc
  obtain ⟨u, ru, l⟩ := hl jc cap vh hN sh (.inr (.inl L.h_own))
  have lc : ∃ c, X.env.cells.lookup cap = some c ∧ s.heap.IsCell c (some u) := by
    rcases l with ⟨k, _⟩ | ⟨_, c, e, z⟩
    · have := L.h_own
      rw [show X.env.scope.names.lookup cap = some .local from k] at this
      cases this
    · exact ⟨c, e, z⟩
  obtain ⟨cc, hcc, hcell⟩ := lc
  obtain ⟨th, its0, rfl, t0, _, _, g0⟩ := tup_step I F.sub rh ru
  obtain ⟨k0, u0, w0, i1, i2, i3, i4, i5, r0⟩ := g0 _ _ a0
  obtain ⟨tr, its1, rfl, t1, _, _, g1⟩ := tup_step I F.sub r0 i5
  obtain ⟨k1, u1, w1, n1, n2, n3, n4, n5, r1⟩ := g1 _ _ a1
  obtain ⟨t2, its2, rfl, h2, _, _, g2⟩ := tup_step I F.sub r1 n5
  obtain ⟨k2, u2, w2, j1, j2, j3, j4, j5, r2⟩ := g2 _ _ a2
  obtain ⟨t3, its3, rfl, h3, sz, hz, _⟩ := tup_step I F.sub r2 j5
  have clo : (cloFrom X.env.cells scope.names []).lookup cap = some cc := by
    have hy : (cap, NameKind.free) ∈ scope.names := PySem.mem_of_lookup L.h_cap
    obtain ⟨c2, h2⟩ := mem_lookup (cloFrom_has (cells := X.env.cells) (acc := []) hy)
    rcases cloFrom_mem (PySem.mem_of_lookup h2) with hm | ⟨_, h3⟩
    · cases hm
    · rw [h2, h3, hcc]; rfl
  have rec_ : h.CodeRec (.ref c') (X.env.qual ++ "<lambda>") := by
    obtain ⟨c, oc, vs, t, e1, e2, e3, e4⟩ := NdefX.codeO_at I.hok hc
    exact ⟨c, oc, vs, t, e1, kp _ _ e2, e3, e4⟩
  have hcell2 : h.IsCell cc (some (.ref th)) := by
    obtain ⟨o, ho, hd⟩ := hcell
    exact ⟨o, kp _ _ ho, hd⟩
  obtain ⟨mb, hb1, hb2⟩ := I.mod.blt
  have kq : q.2 = keyI neg its3.size := by rw [e2, sz]
  rw [kq]
  have hz' : sizeLine = 16777216 := rfl
  refine lam_key (s := { s with heap := h, toks := tk }) (kp _ _ hf) rec_ hroom (I.nolimit.keeps kp) (L.h_bind _ _ _ _ _ _) L.h_kind L.h_co L.h_gen L.h_nocell L.h_prm L.h_cap L.h_len L.h_dp L.h_dc L.h_cc clo hcell2 L.h_key ((I.mod.glob.keeps I.bk).keeps kp) hm ((hb1.keeps I.bk).keeps kp) (by rw [hb2 "len" (by decide)]; rfl)
    rfl (t0.keeps kp) i1 i2 i3 i4 (t1.keeps kp) n1 n2 n3 n4 (h2.keeps kp) j1 j2 j3 j4 (h3.keeps kp) (by omega)
theorem bs_ints {bs : List (D × Int)} : PySem.W.AllAlike (bs.map fun p => PyData.int p.2) ∧ PySem.W.Sortable (bs.map fun p => PyData.int p.2) := by
  constructor
  · intro d hd d' hd'
    obtain ⟨x, _, rfl⟩ := List.mem_map.mp hd
    obtain ⟨y, _, rfl⟩ := List.mem_map.mp hd'
    rfl
  · refine .inr fun d hd => ?_
    obtain ⟨x, _, rfl⟩ := List.mem_map.mp hd
    exact ⟨fun h => (by cases h), fun xs h => (by cases h)⟩
/-- the lambda is made, then what comes on -/
theorem lam_then {pins : List (Addr × Obj)} {σ : L2.St} {P B H : Hp} {s : Shared} {env : Env} {fps : Nat → List Addr} {R : Value → Shared → Prop} (I : Inv X pins σ H s) (F : Fm X.K P B H σ env fps) (L : LamT X.env.scope params body scope cap prm neg i j) (LH : LamH X)
    (h : ∀ (f c' : Addr) (pm ctv : Value) (B1 H1 : Hp) (s' : Shared), Inv X pins σ H1 s' → Ext P B B1 → Fm X.K P B1 H1 σ env fps → s'.heap.get? f = some (PySem.W.kla_obj "<lambda>" (X.env.qual ++ "<lambda>") params body scope (cloFrom X.env.cells scope.names []) pm c' ctv) →
      H1 c' = some (LamX.CodeO c' (X.env.qual ++ "<lambda>")) → R (.ref f) s') : wpAny (model X.prog X.w) X.A (eval (.Lambda params body scope lpos) X.env) R X.xe s := by
  obtain ⟨c, Pt, TB, hcode, hm, hu⟩ := LH.code
  refine LamX.lam_make2 I TB hcode hm hu (tabs_of F.sub F.tab) (L.h_dfl.2 _) (fun y hy e => ?_) fun f c' pm ctv H1 s' I1 x1 T1 hof hfn hfr hco => ?_
  · rw [L.h_free y hy e]
    exact I.ok.has _ (.inl L.h_own)
  · obtain ⟨B1, x2, F1⟩ := F.lam x1 T1
    exact h f c' pm ctv B1 H1 s' I1 x2 F1 hof hco
theorem de_sortK (hg : Gl X "sorted") (hm : X.mg "sorted" = none) (hml : X.mg "len" = none) (hu : X.A.units + 64 < cLine) (hroom : X.A.depth < recursionLimit) (ha : DE X cl E a m) (L : LamT X.env.scope params body scope cap prm neg i j) (LH : LamH X) (hN : X.N[jc]? = some cap)
    (hst : starEach [a] X.env = (false, eval a X.env) :: starEach [] X.env := by rfl) :
    DE X cl E (.Call (.Name "sorted" p) [a] [⟨some "key", .Lambda params body scope lpos, kpos⟩] pos) (mSortK neg jc i j m) := by
  refine ⟨fun pins s σ H Q I h => ?_⟩
  obtain ⟨P, B, env, fps, F, h⟩ := h
  refine wpAny_Call_Name_kw (ld_blt (u := .builtin "sorted") I hg hm (by decide +kernel) ?_)
  refine PyProof.Rows.callWith_kw ?_ (by rw [show backTo pos (starEach [a] X.env) = (false, eval a X.env) :: backTo pos (starEach [] X.env) by rw [hst]; rfl]) (by rw [hst]; rfl)
  rw [hst]
  show wpAny _ _ (spliced ((false, eval a X.env) :: backTo pos (starEach [] X.env))) _ _ s
  refine Calls.spliced_cons (thn (ha.run pins s σ H _ I ⟨P, B, env, fps, F, post_vm h⟩) fun u s1 ⟨v, H1, I1, r1, B1, env1, fps1, q1, x1, F1, w1, h1⟩ => Calls.spliced_nil ?_)
  show wpAny _ _ (evalAll [do let v ← eval (.Lambda params body scope lpos) X.env; standAt pos; pure v]) _ _ s1
  refine wpAny_evalAll_cons (wpAny_bind (lam_then I1 F1 L LH fun f c' pm ctv B2 H2 s2 I2 x2 F2 hof hco => wpAny_bind (wpAny_standAt (wpAny_pure (wpAny_evalAll_nil ?_)))))
  show wpAny _ _ (call (.builtin "sorted") [u] [("key", .ref f)]) _ _ s2
  have h1 := PostE.ext x2 h1
  split at h1
  · rename_i xs hs e1 e2
    split at h1
    · rename_i bs eb
      split at h1
      · rename_i hz
        obtain ⟨l, vs, rfl, hS, rds⟩ := (F2.res (w1.mono x2.1) e1).list F2.sub
        cases r1
        obtain ⟨its, hvals, hp, _⟩ := I2.list hS
        obtain ⟨eb1, eb2⟩ := keysOf_all eb
        rw [← eb1] at rds
        have hlen : bs.length = xs.length := by rw [← eb1, List.length_map]
        refine PySem.W.sorted_key_data (R := RV X.K B2) (bs := bs) (b := false) (fun q : D × Int => PyData.int q.2) hp.isList (each_of rds hvals) bs_ints.1 bs_ints.2 (by rw [hlen]; exact hz) (fun x _ => ?_) ?_ (fun x => ?_) (fun x => rfl)
          (fun v x hv hx h tk kp => ?_) fun out c h' tk kp _ hnew hol he => ?_
        · show X.A.units + 2 + 0 < cLine
          omega
        · exact PyProof.Rows.ksk_s1 _ _
        · exact PyProof.Rows.ksk_l1 _ _
        · exact key_run (A := X.A.in1.in1) I2 F2 L hN e2 hml hof hco hroom hv (eb2 x hx) h tk kp
        · obtain ⟨vs', hv', rds'⟩ := each_to he
          exact new_list (s' := { s2 with heap := h', toks := tk }) I2 F2 kp rfl rfl (Nat.le_succ _) hnew hv' rds' (by rw [hv'.length, hol, hlen]; exact hz) h1
      · exact h1.elim
    · exact h1.elim
  · exact h1.elim
end
end Mi

set_option Elab.async false
set_option linter.all false
set_option maxRecDepth 100000
namespace Mi
open PySem PySem.Spec L2
/-- a def's words, with the code object that stands in K -/
theorem fn_byC {P : Program} {w : World} {K : PySem.W.Frag} {mg : Str → Option Value} {base : Heap} {CXc : CXT} {x qual : Str} {params : Arguments} {body : List Stmt} {scope : Scope} {f : Addr} {fd : FuncData} {N ps : List Str} {k n : Nat} {cl : String → Addr} {io : List Nat} {m : M Fl}
    (F : FunD K x qual params body scope [] [] f fd) (S : FnScope N ps scope) (hn : ps.length = n) (hio : ∀ i ∈ io, i < n)
    (hbody : ∀ (cdv : Value) (A : Around) (outer : List PySem.Env) (s : Shared) (H : Hp) (E : XK), (∃ oc od osl, K.lookup f = some ⟨oc, od, .func fd, osl⟩ ∧ fd.code = cdv ∧ PySem.W.codeIn K cdv qual = true) → Room k (A.deeper (PyProof.Rows.envOfC qual scope s.heap.objs.size f cdv)) →
      DSs (cxOf CXc P w K mg base N qual scope f cdv A outer s H E) cl E io body m) : FnOk P w K mg base CXc (k + 1) f fd ps (spF K cl n io (runF N.length m)) := by
  obtain ⟨oc, od, dV, kV, doc, pm, an, cdv0, ct, osl, rfl, lk, hcd, _, _⟩ := F.ex
  refine fn_of lk hcd S (fun vs H Q E h => by rw [hn]; exact h.1) fun A outer s H vs Q E hr h => ⟨_, hbody cdv0 A outer s H E ⟨oc, od, osl, lk, rfl, hcd⟩ hr, ?_⟩
  obtain ⟨hl, P', B, os, fps, F1, h⟩ := h
  refine ⟨P', B, _, fps, F1.start, ?_⟩
  have same : ∀ {σ' : L2.St}, SameIo io (L2.start N vs) σ' → ∀ i ∈ io, σ'[i]? = (vs.map some)[i]? := fun {σ'} s i hi => by
    rw [s i hi]
    unfold L2.start
    rw [List.getElem?_append_left (by rw [List.length_map, hl]; exact hio i hi)]
  unfold runF at h
  cases q : m (os ++ List.replicate (N.length - os.length) none) with
  | ok fl env =>
    rw [q] at h
    cases fl with
    | rt o =>
      intro σ' H' B' fps' x F' s v fp r off
      exact h v H' B' fps' σ' fp x F' (same s) r off
    | nx =>
      intro σ' H' B' fps' x F' s
      exact h .non H' B' fps' σ' [] x F' (same s) (.dat .non) fun a ha => by simp at ha
    | bk => exact h.elim
    | ct => exact h.elim
  | ex c env =>
    rw [q] at h
    intro σ' H' B' fps' x F' s
    exact h H' B' fps' σ' x F' (same s)
  | stuck => rw [q] at h; exact h.elim
/-- what a def with a lambda asks of its code object's table -/
structure LamB (K : PySem.W.Frag) (mg : Str → Option Value) (base : Heap) (x : Str) : Prop where
  tb : LamX.TabB base mg (He.cT K (x, none)).1 (He.cT K (x, none)).2
  tm : ((He.cT K (x, none)).2, lamQ x) ∈ tabsOf K
  tu : ∀ p ∈ tabsOf K, ∀ q ∈ tabsOf K, p.1 = q.1 → p.2 = q.2
  ga : mg x = some (.ref (He.fAd K (x, none)))
section
variable {P : Program} {w : World} {K : PySem.W.Frag} {mg : Str → Option Value} {base : Heap} {cl : String → Addr} {x : Str} {ps N : List Str} {st : Stmt} {k n : Nat} {io : List Nat} {m : M Fl} {F : M O}
abbrev BdC (P : Program) (w : World) (K : PySem.W.Frag) (mg : Str → Option Value) (base : Heap) (cl : String → Addr) (k : Nat) (x : Str) (N : List Str) (io : List Nat) (st : Stmt) (m : M Fl) : Prop :=
  ∀ (f : Addr) (A : Around) (outer : List PySem.Env) (s : Shared) (H : Hp) (E : XK), Room k (A.deeper (PyProof.Rows.envOfC x (defScope st) s.heap.objs.size f (.ref (He.cT K (x, none)).1))) →
    DSs (cxOf (L2.CX P w) P w K mg base N x (defScope st) f (.ref (He.cT K (x, none)).1) A outer s H E) cl E io (defBody st) m
theorem has_byC (d : DefAt K mg x ps st) (S : FnScope N ps (defScope st)) (hn : ps.length = n) (hio : ∀ i ∈ io, i < n) (lb : LamB K mg base x) (hb : BdC P w K mg base cl k x N io st m) : Has P w K mg base cl (k + 1) x ps n io (runF N.length m) := by
  obtain ⟨f, fd, h1, h2, h3⟩ := d
  have ef : f = He.fAd K (x, none) := by
    have := h1.symm.trans lb.ga
    cases this
    rfl
  refine ⟨f, fd, h1, h2.kp, h3, fn_byC h2 S hn hio fun cdv A outer s H E hc hr => ?_⟩
  obtain ⟨oc, od, osl, lk, rfl, hcd⟩ := hc
  obtain ⟨c, ec⟩ := He.codeIn_ref hcd
  have e1 : (He.cT K (x, none)).1 = c := He.codeOf_eq (by rw [← ef]; exact lk) ec
  have e2 : fd.code = .ref (He.cT K (x, none)).1 := by rw [ec, e1]
  rw [e2] at hr ⊢
  exact hb f A outer s H E hr
/-- in the def's own context a lambda may be made -/
theorem lamH_of' {f c Pt : Addr} {A : Around} {outer : List PySem.Env} {s : Shared} {H : Hp} {E : XK} {q : Str} (tb : LamX.TabB base mg c Pt) (tm : (Pt, q) ∈ tabsOf K) (tu : ∀ p ∈ tabsOf K, ∀ q ∈ tabsOf K, p.1 = q.1 → p.2 = q.2)
    (hq : (cxOf (L2.CX P w) P w K mg base N x (defScope st) f (.ref c) A outer s H E).env.qual ++ Str.ofString "<lambda>" = q) : LamH (cxOf (L2.CX P w) P w K mg base N x (defScope st) f (.ref c) A outer s H E) := by
  refine ⟨c, Pt, tb, rfl, ?_, ?_⟩
  · rw [hq]
    exact tm
  · rw [hq]
    exact fun p hp e => tu p hp _ tm e
end
/-- a whole number among the module's names -/
theorem de_globI {X : Cx} {cl : String → Addr} {E : XK} {x : Str} {pos : Pos} {i : Int} (hg : Gl X x) (hm : ∃ t, X.mg x = some (.int i t)) (hd : (x == ("__debug__" : Str)) = false := by decide) : DE X cl E (.Name x pos) (mC (.int i)) := by
  obtain ⟨t, hm⟩ := hm
  exact de_glob (v := .int i) hg hm ⟨t, rfl⟩ (.int i) hd
end Mi

set_option Elab.async false
set_option linter.all false
set_option maxRecDepth 100000
namespace Mi
open PySem PySem.Spec L2 PySem.Calls
def keyAt (bs : List (D × Int)) (a : Nat) : Int := (bs[a]?.map (·.2)).getD 0
def maxK (bs : List (D × Int)) : D := match bs[argBest (fun a b => decide (keyAt bs b < keyAt bs a)) (bs.length - 1)]? with
  | some p => p.1
  | none => .none
/-- max(e, key=lambda x: .., default=None) -/
def mMaxK (neg : Bool) (jc : Nat) (i j : Int) (m : M Rv) : M Rv := bnd (vm m) fun r env => match res env r, env[jc]? with
  | some (.list xs), some (some (.dat hs)) => match keysOf (keyOf neg i j hs) xs with
    | some bs => if xs.length ≤ sizeLine then .ok (.d (maxK bs)) env else .stuck
    | none => .stuck
  | _, _ => .stuck
section
variable {prog : Program} {w : World} {A : Around} {E : Value → Shared → Prop}
/-- all of h stands, and nothing but the heap and the tokens is another -/
def Kp (s s' : Shared) : Prop := (∀ b o, s.heap.get? b = some o → s'.heap.get? b = some o) ∧ s'.gens = s.gens ∧ s'.drawn = s.drawn ∧ s'.os = s.os
theorem Kp.eta {s s' : Shared} (h : Kp s s') : s' = { s with heap := s'.heap, toks := s'.toks } := by
  obtain ⟨_, h1, h2, h3⟩ := h
  cases s'
  cases s
  cases h1
  cases h2
  cases h3
  rfl
theorem max_run {s : Shared} {l q : Addr} {vs : List Value} {Q : Value → Shared → Prop} (kf : Nat → Int) (hh : A.handled = none) (hl : s.heap.IsList l vs.toArray)
    (turn : ∀ i v, vs[i]? = some v → ∀ (h : Heap) (tk : Nat), (∀ b o, s.heap.get? b = some o → h.get? b = some o) →
      wpAny (model prog w) A.in1 (call (.ref q) [v]) (PySem.W.KeyPure (.int (kf i)) { s with heap := h, toks := tk }) (fun _ _ => False) { s with heap := h, toks := tk })
    (h0 : vs = [] → ∀ s', Kp s s' → Q .none s') (hQ : ∀ v, vs[argBest (fun i j => decide (kf i > kf j)) (vs.length - 1)]? = some v → 0 < vs.length → ∀ s', Kp s s' → Q v s') :
    wpAny (model prog w) A (call (.builtin "max") [.ref l] [(Str.ofString "key", .ref q), (Str.ofString "default", .none)]) Q E s := by
  have hsz : vs.toArray.size = vs.length := List.size_toArray ..
  obtain ⟨ol, hol, _⟩ := id hl
  have hll : l < s.heap.objs.size := Heap.lt_size hol
  have fr : ∀ {b o}, s.heap.get? b = some o → b ≠ s.heap.objs.size ∧ b ≠ s.heap.objs.size + 1 := fun {b o} e => by
    have := Heap.lt_size e
    exact ⟨Nat.ne_of_lt this, Nat.ne_of_lt (Nat.lt_succ_of_lt this)⟩
  refine call_max_walkKD (wpAny_pyIter_list hl ?_)
  have szp : (s.heap.push { cls := .type "list_iterator", data := .fields #[.ref l, .int 0 0] }).objs.size = s.heap.objs.size + 1 := by simp [Heap.push]
  have W := (Walks.list (prog := prog) (w := w) (A := A.in1) hh s.heap.objs.size l (Nat.ne_of_lt hll) vs.toArray).toS
  refine ⟨s.heap.objs.size, _, _, _, _, _, _, Kp s, fun i k _ => ∃ t, k = .int (kf i) t, fun i j => decide (kf i > kf j), rfl, W, ?_, ?_, ?_, ?_, ?_, ?_⟩
  · exact ⟨⟨_, Heap.get?_push_size _ rfl, rfl, rfl⟩, hl.at fun o e => Heap.get?_push_of_some _ e⟩
  · intro b hb
    simp only [List.mem_cons, List.not_mem_nil, or_false] at hb
    show b < (s.heap.push { cls := .type "list_iterator", data := .fields #[.ref l, .int 0 0] }).objs.size
    rw [szp]
    rcases hb with rfl | rfl
    · exact Nat.lt_succ_self _
    · exact Nat.lt_succ_of_lt hll
  · show KeyRun prog w A.in1 (.ref q) .Gt (s.heap.push { cls := .type "list_iterator", data := .fields #[.ref l, .int 0 0] }).objs.size _ _ _ _ _ _ _ _
    rw [szp]
    refine ⟨fun s1 s2 hJ m => ⟨fun b o e => m.heap b o ?_ (hJ.1 b o e), m.gens.trans hJ.2.1, m.drawn.trans hJ.2.2.1, m.os.trans hJ.2.2.2⟩, fun _ _ _ _ h _ => h, ?_, ?_⟩
    · have := fr e
      simp only [List.mem_cons, List.not_mem_nil, or_false]
      rintro (h | h)
      · exact this.2 h
      · exact this.1 h
    · intro i v s1 o Q1 E1 hi hP hJ hSt hS hq
      have hv : vs[i]? = some v := by simpa using hP
      rw [hJ.eta]
      refine wpAny_mono (turn i v hv s1.heap s1.toks hJ.1) (fun k s2 hk => ?_) fun _ _ hF => hF.elim
      obtain ⟨h', tk, rfl, kp, rd⟩ := hk
      have hkk : ∃ t, k = .int (kf i) t := by
        cases rd with
        | int _ t => exact ⟨t, rfl⟩
      refine hq k _ ⟨fun b o e => kp b o (hJ.1 b o e), rfl, rfl, rfl⟩ ⟨hSt.1.at fun o e => kp _ _ e, hSt.2.at fun o e => kp _ _ e⟩ (kp _ _ hS) hkk fun _ _ h => h
    · intro i j ki kj s1 Q1 E1 _ hi hj h
      exact CmpOf.ints_gt (prog := prog) (w := w) (A := A.in1) (P := fun i v => ∃ t, v = .int (kf i) t) kf (fun i v h => h) i j ki kj s1 Q1 E1 hi hj h
  · exact ⟨fun b o e => Heap.get?_push_of_some _ e, rfl, rfl, rfl⟩
  · intro hn s' hJ
    rw [hsz] at hn
    exact h0 (List.length_eq_zero_iff.mp hn) s' hJ
  · intro hn v s' hP hJ
    rw [hsz] at hn hP
    exact hQ v (by simpa using hP) hn s' hJ
end
section
variable {X : Cx} {cl : String → Addr} {E : XK} {a : Expr} {m : M Rv} {cap prm : Str} {params : Arguments} {body : Expr} {scope : Scope} {neg : Bool} {i j : Int} {jc : Nat} {p pos lpos kpos kpos2 npos : Pos} {nk : Nat}
theorem vals_len {vs : List V} {us : List Value} (h : Vals vs us) : vs.length = us.length := h.length
theorem de_maxK (hg : Gl X "max") (hm : X.mg "max" = none) (hml : X.mg "len" = none) (hh : X.A.handled = none) (hroom : X.A.depth < recursionLimit) (ha : DE X cl E a m) (L : LamT X.env.scope params body scope cap prm neg i j) (LH : LamH X) (hN : X.N[jc]? = some cap)
    (hst : starEach [a] X.env = (false, eval a X.env) :: starEach [] X.env := by rfl) :
    DE X cl E (.Call (.Name "max" p) [a] [⟨some "key", .Lambda params body scope lpos, kpos⟩, ⟨some "default", .Constant .none nk npos, kpos2⟩] pos) (mMaxK neg jc i j m) := by
  refine ⟨fun pins s σ H Q I h => ?_⟩
  obtain ⟨P, B, env, fps, F, h⟩ := h
  refine wpAny_Call_Name_kw (ld_blt (u := .builtin "max") I hg hm (by decide +kernel) ?_)
  refine PyProof.Rows.callWith_kw ?_ (by rw [show backTo pos (starEach [a] X.env) = (false, eval a X.env) :: backTo pos (starEach [] X.env) by rw [hst]; rfl]) (by rw [hst]; rfl)
  rw [hst]
  show wpAny _ _ (spliced ((false, eval a X.env) :: backTo pos (starEach [] X.env))) _ _ s
  refine Calls.spliced_cons (thn (ha.run pins s σ H _ I ⟨P, B, env, fps, F, post_vm h⟩) fun u s1 ⟨v, H1, I1, r1, B1, env1, fps1, q1, x1, F1, w1, h1⟩ => Calls.spliced_nil ?_)
  show wpAny _ _ (evalAll [do let v ← eval (.Lambda params body scope lpos) X.env; standAt pos; pure v, do let v ← eval (.Constant .none nk npos) X.env; standAt pos; pure v]) _ _ s1
  refine wpAny_evalAll_cons (wpAny_bind (lam_then I1 F1 L LH fun f c' pm ctv B2 H2 s2 I2 x2 F2 hof hco => wpAny_bind (wpAny_standAt (wpAny_pure ?_))))
  refine wpAny_evalAll_cons (wpAny_bind (PyProof.Rows.Constant_none (wpAny_bind (wpAny_standAt (wpAny_pure (wpAny_evalAll_nil ?_))))))
  show wpAny _ _ (call (.builtin "max") [u] [(Str.ofString "key", .ref f), (Str.ofString "default", .none)]) _ _ s2
  have h1 := PostE.ext x2 h1
  split at h1
  · rename_i xs hs e1 e2
    split at h1
    · rename_i bs eb
      split at h1
      · rename_i hz
        obtain ⟨l, vs, rfl, hS, rds⟩ := (F2.res (w1.mono x2.1) e1).list F2.sub
        cases r1
        obtain ⟨its, hvals, hp, _⟩ := I2.list hS
        obtain ⟨eb1, eb2⟩ := keysOf_all eb
        have hlen : bs.length = xs.length := by rw [← eb1, List.length_map]
        have hl2 : bs.length = its.length := by rw [hlen, ← RDs.length _ _ rds, vals_len hvals]
        have fin : ∀ (d : D) (v : V) (u : Value) (s' : Shared), maxK bs = d → RD X.K B2 d v → RelV v u → Kp s2 s' → EP X pins σ Q u s' := fun d v u s' ed rd ru k => by
          rw [k.eta]
          subst ed
          exact ⟨v, H2, I2.kept k.1, ru, ret_d F2 rd h1⟩
        refine max_run (keyAt bs) hh hp.isList (fun t v hv h tk kp => ?_) (fun hn s' k => ?_) (fun v hv hpos s' k => ?_)
        · have ht : t < bs.length := by
            rw [hl2]
            exact (List.getElem?_eq_some_iff.mp hv).1
          have ek : keyAt bs t = bs[t].2 := by
            unfold keyAt
            rw [List.getElem?_eq_getElem ht]
            rfl
          rw [ek]
          have hvs : t < vs.length := by rw [vals_len hvals, ← hl2]; exact ht
          obtain ⟨u2, hu2, ru2⟩ := hvals.get (List.getElem?_eq_getElem hvs)
          rw [hv] at hu2
          cases hu2
          have hx : t < xs.length := by rw [← hlen]; exact ht
          have ex : xs[t]? = some bs[t].1 := by
            rw [← eb1, List.getElem?_map, List.getElem?_eq_getElem ht]
            rfl
          obtain ⟨w2, hw2, rw2⟩ := RDs.get rds ex
          rw [List.getElem?_eq_getElem hvs] at hw2
          cases hw2
          exact key_run (A := X.A.in1) I2 F2 L hN e2 hml hof hco hroom ⟨_, ru2, rw2⟩ (eb2 _ (List.getElem_mem ht)) h tk kp
        · have hb : bs = [] := List.length_eq_zero_iff.mp (by rw [hl2, hn]; rfl)
          exact fin .none .non .none s' (by rw [hb]; rfl) .non rfl k
        · have ht : argBest (fun a b => decide (keyAt bs a > keyAt bs b)) (its.length - 1) < bs.length := by
            rw [hl2]
            exact (List.getElem?_eq_some_iff.mp hv).1
          have hvs : argBest (fun a b => decide (keyAt bs a > keyAt bs b)) (its.length - 1) < vs.length := Nat.lt_of_lt_of_eq ht (hl2.trans (vals_len hvals).symm)
          obtain ⟨u2, hu2, ru2⟩ := hvals.get (List.getElem?_eq_getElem hvs)
          rw [hv] at hu2
          cases hu2
          have ex : xs[argBest (fun a b => decide (keyAt bs a > keyAt bs b)) (its.length - 1)]? = some bs[argBest (fun a b => decide (keyAt bs a > keyAt bs b)) (its.length - 1)].1 := by
            rw [← eb1, List.getElem?_map, List.getElem?_eq_getElem ht]
            rfl
          obtain ⟨w2, hw2, rw2⟩ := RDs.get rds ex
          rw [List.getElem?_eq_getElem hvs] at hw2
          cases hw2
          refine fin _ _ _ s' ?_ rw2 ru2 k
          have e9 : ∀ n, n = its.length → (match bs[argBest (fun a b => decide (keyAt bs b < keyAt bs a)) (n - 1)]? with
              | some p => p.1
              | none => .none) = bs[argBest (fun a b => decide (keyAt bs a > keyAt bs b)) (its.length - 1)].1 := by
            rintro n rfl
            rw [List.getElem?_eq_getElem ht]
          exact e9 _ hl2
      · exact h1.elim
    · exact h1.elim
  · exact h1.elim
end
end Mi

set_option Elab.async false
set_option linter.all false
set_option maxRecDepth 100000
namespace Mi
open PySem PySem.Spec L2
/-! ### the head with tables -/
theorem hasG_glo {K : PySem.W.Frag} {x : Str} (h : (He.Fa.glo x).ok K = true) : hasG K x = true := by
  have e := He.eqO_ok (show He.eqO (PySem.W.nsIn K mainGlobals x) (some (some (.ref (He.ga K x)))) = true from h)
  unfold hasG
  rw [e]
theorem hasG_free {K : PySem.W.Frag} {x : Str} (h : (He.Fa.free x).ok K = true) : hasG K x = false := by
  have e := He.eqO_ok (show He.eqO (PySem.W.nsIn K mainGlobals x) (some none) = true from h)
  unfold hasG
  rw [e]
theorem tabsOf_two {K : PySem.W.Frag} {b1 b2 : Bool} (h1 : hasG K "all_by" = b1) (h2 : hasG K "_law_found" = b2) :
    tabsOf K = (if b1 = true then [((He.cT K (("all_by" : Str), none)).2, lamQ "all_by")] else []) ++ (if b2 = true then [((He.cT K (("_law_found" : Str), none)).2, lamQ "_law_found")] else []) := by
  unfold tabsOf lamDefs
  cases b1 <;> cases b2 <;> simp [h1, h2]
def tabsU (K : PySem.W.Frag) : Bool := (tabsOf K).all fun p => (tabsOf K).all fun q => !(decide (p.1 = q.1)) || decide (p.2 = q.2)
theorem tabsU_ok {K : PySem.W.Frag} (h : tabsU K = true) : ∀ p ∈ tabsOf K, ∀ q ∈ tabsOf K, p.1 = q.1 → p.2 = q.2 := fun p hp q hq e => by
  have := List.all_eq_true.mp (List.all_eq_true.mp h p hp) q hq
  rw [e] at this
  simpa using this
theorem law_at {l : PySem.W.OpenLaw} {w : World} {K : PySem.W.Frag} {h : Heap} {mg : Str → Option Value} {f : Addr} {fd : FuncData} {fas : List He.Fa} {dfn : List He.DefD} {tfs : List He.Defn} {exB : PySem.W.Frag → Bool} {k n : Nat} {x : Str} {F : M O} {T : List (Addr × Str)}
    (cx : He.SaysX fas dfn [] tfs exB w h K) (X : K.In h) (te : tabsOf K = T) (tt : T = tfs.map fun p => ((He.cT K p).2, lamQ p.1)) (hb : ∀ (s : Shared) (v : Value), BindsTo s fd ⟨[v], []⟩ [(x, v)]) (pl : Holds n F)
    (hF : ∀ base : Heap, K.In base → base.Ns mainGlobals mg → (∀ p ∈ tfs, LamX.TabB base mg (He.cT K p).1 (He.cT K p).2) → FnOk l.prog w K mg base CX0 k f fd [x] fun vs H Q E => spF K (fun _ => 0) 1 [] F vs H Q fun _ _ _ => False) :
    LamX.LawAtS l w K CX0 k n x mg f h := by
  refine ⟨fd, tfs.map (He.cT K), fun vs H Q _ => spF K (fun _ => 0) 1 [] F vs H Q fun _ _ _ => False, fun p hp => ?_, fun p hp => ?_, fun p hp => ?_, hb, fun H a ns hl _ hT hS => law_sp pl H a ns hl hS fun p hp => ?_, fun base hb1 hb2 tb => hF base hb1 hb2 fun p hp => tb _ (List.mem_map.mpr ⟨p, hp, rfl⟩)⟩
  · obtain ⟨q, hq, rfl⟩ := List.mem_map.mp hp
    exact cx.empty q hq
  · obtain ⟨q, hq, rfl⟩ := List.mem_map.mp hp
    exact cx.out q hq
  · obtain ⟨q, hq, rfl⟩ := List.mem_map.mp hp
    exact PySem.W.codeHd_of_K X (cx.hd q hq)
  · rw [te, tt] at hp
    obtain ⟨q, hq, rfl⟩ := List.mem_map.mp hp
    exact hT _ (List.mem_map.mpr ⟨q, hq, rfl⟩)
/-! ### a slot's own thing is frozen first -/
def frzV (i : Nat) : M Unit := fun env => match env[i]? with
  | some (some (.lst ds)) => .ok () (env.set i (some (.dat (.list ds))))
  | some (some (.dct _)) => .ok () (env.set i (some (.dat (.dict []))))
  | some (some (.tpl ds)) => .ok () (env.set i (some (.dat (.tuple ds))))
  | _ => .ok () env
theorem Fm.untag {K : PySem.W.Frag} {P B H : Hp} {σ : L2.St} {env : Env} {fps : Nat → List Addr} {i : Nat} {ds : List D} (F : Fm K P B H σ env fps) (he : env[i]? = some (some (.tpl ds))) : Fm K P B H σ (env.set i (some (.dat (.tuple ds)))) fps := by
  obtain ⟨v, hv, r⟩ := F.slot i _ he
  obtain ⟨a, vs, ob, rfl, hf, e1, e2, r1⟩ := r.tpl_inv
  have hi : i < env.length := (List.getElem?_eq_some_iff.mp he).1
  refine ⟨by rw [List.length_set]; exact F.len, F.sub, F.prt, fun j o e => ?_, fun j e => ?_, F.dis, F.off, F.tab, F.nbT, F.npT⟩
  · by_cases hj : i = j
    · subst hj
      rw [List.getElem?_set_self hi] at e
      cases e
      refine ⟨_, hv, ?_⟩
      rw [hf]
      exact .dat (.tup (.inl (.inr ⟨_, e1⟩)) r1)
    · rw [List.getElem?_set_ne hj] at e
      exact F.slot j o e
  · by_cases hj : i = j
    · subst hj
      exact hf
    · rw [List.getElem?_set_ne hj] at e
      exact F.emp j e
theorem de_frz {X : Cx} {cl : String → Addr} {E : XK} {e : Expr} {m : M Rv} (i : Nat) (h : DE X cl E e m) : DE X cl E e (bnd (frzV i) fun _ => m) := by
  refine ⟨fun pins s σ H Q I ⟨P, B, env, fps, F, q⟩ => ?_⟩
  unfold bnd frzV at q
  split at q
  · rename_i ds he
    obtain ⟨v, hv, r⟩ := F.slot i _ he
    obtain ⟨a, vs, rfl, hf, e1, r1⟩ := r.lst_inv
    obtain ⟨F', x⟩ := F.freezeS (d := .list ds) ⟨_, he⟩ e1 hf hv (.lst (.inl (.inl upd_same)) (RDs.mono (Sub.upd (F.off i a (by rw [hf]; simp)).1) _ _ r1))
    exact h.run pins s σ H Q I ⟨P, _, _, _, F', PostE.ext x q⟩
  · rename_i kv he
    obtain ⟨v, hv, r⟩ := F.slot i _ he
    obtain ⟨a, vs, rfl, hf, e1, r1⟩ := r.dct_inv
    obtain ⟨F', x⟩ := F.freezeS (d := .dict []) ⟨_, he⟩ e1 hf hv (.dct upd_same)
    exact h.run pins s σ H Q I ⟨P, _, _, _, F', PostE.ext x q⟩
  · rename_i ds he
    exact h.run pins s σ H Q I ⟨P, B, _, fps, F.untag he, q⟩
  · exact h.run pins s σ H Q I ⟨P, B, env, fps, F, q⟩
end Mi

set_option Elab.async false
set_option linter.all false
set_option maxRecDepth 100000
namespace Mi
open PySem PySem.Spec L2 PySem.Calls
/-! ### sorted(xs) of data that are alike -/
def likeAll (ds : List D) : Bool := (ds.all fun a => ds.all fun b => PySem.W.alike a b) && (ds.all fun d => okd d 60) && (ds.all (fun d => match d with | .tuple (_ :: _) => true | _ => false) || ds.all (fun d => match d with | .none => false | .tuple _ => false | _ => true))
def gSorted : List D → Option Out
  | [.list ds] => if likeAll ds = true ∧ ds.length ≤ sizeLine then some (.lst (ds.mergeSort (PySem.W.dataLe false fun d => d))) else none
  | _ => none
def RV0 (K : PySem.W.Frag) (B : Hp) (v : Value) (d : D) : Prop := ∃ w : V, RelV w v ∧ RD K B d w
theorem each_of0 {K : PySem.W.Frag} {B : Hp} : ∀ {ds : List D} {vs : List V} {us : List Value}, RDs K B ds vs → Vals vs us → PySem.W.EachIs (RV0 K B) us ds
  | [], _, _, .nil, .nil => .nil
  | p :: bs, _, _, .cons r t, .cons v q => .cons ⟨_, v, r⟩ (each_of0 t q)
theorem each_to0 {K : PySem.W.Frag} {B : Hp} : ∀ {ds : List D} {us : List Value}, PySem.W.EachIs (RV0 K B) us ds → ∃ vs, Vals vs us ∧ RDs K B ds vs
  | _, _, .nil => ⟨[], .nil, .nil⟩
  | _, _, .cons ⟨w, h1, h2⟩ t => by
    obtain ⟨vs, q1, q2⟩ := each_to0 t
    exact ⟨w :: vs, .cons h1 q1, .cons h2 q2⟩
theorem each_mono {α β : Type} {R S : α → β → Prop} : ∀ {as : List α} {bs : List β}, PySem.W.EachIs R as bs → (∀ a b, b ∈ bs → R a b → S a b) → PySem.W.EachIs S as bs
  | _, _, .nil, _ => .nil
  | _, _, .cons h t, k => .cons (k _ _ (by simp) h) (each_mono t fun a b hb => k a b (by simp [hb]))
theorem like_inv {ds : List D} (h : likeAll ds = true) : PySem.W.AllAlike (ds.map fun d => d) ∧ PySem.W.Sortable (ds.map fun d => d) ∧ ∀ d ∈ ds, okd d 60 = true := by
  unfold likeAll at h
  simp only [Bool.and_eq_true, Bool.or_eq_true, List.all_eq_true] at h
  obtain ⟨⟨h1, h2⟩, h3⟩ := h
  simp only [List.map_id']
  refine ⟨fun d hd d' hd' => h1 d hd d' hd', ?_, h2⟩
  rcases h3 with h3 | h3
  · refine .inl fun d hd => ?_
    have := h3 d hd
    split at this
    · exact ⟨_, _, rfl⟩
    · cases this
  · refine .inr fun d hd => ?_
    have := h3 d hd
    constructor
    · rintro rfl; cases this
    · rintro xs rfl; cases this
section
variable {X : Cx} {cl : String → Addr} {E : XK} {e : Expr} {ms : M (List Rv)} {p pos : Pos}
theorem cd_sorted (hu : X.A.units + 64 < cLine) : CallD X (.builtin "sorted") gSorted := by
  intro pins s σ H B xs vs us o I hs hp hv e
  unfold gSorted at e
  split at e
  · rename_i ds
    split at e
    · rename_i hc
      cases e
      obtain ⟨hl, hz⟩ := hc
      obtain ⟨h1, h2, h3⟩ := like_inv hl
      cases hp with
      | cons r1 t =>
        cases t
        cases hv with
        | cons rv tv =>
          cases tv
          obtain ⟨l, ws, rfl, hS, rds⟩ := r1.list hs
          cases rv
          obtain ⟨its, hvals, hpl, _⟩ := I.list hS
          refine PySem.W.sorted_data (R := RV0 X.K B) (enc := fun d : D => d) hpl.isList (each_of0 rds hvals) (each_mono (each_of0 rds hvals) fun v d hd hr => ?_) h1 h2 hz (fun d hd => ?_) fun out hol he => ?_
          · obtain ⟨w, q1, q2⟩ := hr
            exact Dp.reads I d w v (RD.dp d w (okd_noD _ _ (h3 d hd)) (RD.mono hs _ _ q2)) q1
          · have := okd_dep d 60 (h3 d hd)
            show X.A.units + 2 + d.depth < cLine
            omega
          · obtain ⟨vs', hv', rds'⟩ := each_to0 he
            obtain ⟨c, hg⟩ := PyProof.Rows.sortedAll_at s.heap its (List.toArray out)
            have hn := I.hok.fresh (Nat.le_succ s.heap.objs.size)
            have hlen : vs'.length ≤ sizeLine := by rw [hv'.length, hol]; exact hz
            refine ⟨.ref _, _, I.laid (t' := s.toks) (o := .lst vs') (fun b o q => PyProof.Rows.sortedAll_old q) (Nat.le_succ _) ⟨hlen, out, c, hv', hg⟩, rfl, _, vs', rfl, hn, rfl, rds'⟩
    · cases e
  · cases e
def rSo (K : PySem.W.Frag) : List V → Hp → VK → Prop := fun vs H Q => ∃ B xs o, Sub B H ∧ Paired (Rd1 K B H) xs vs ∧ gSorted xs = some o ∧ ∀ v H', OutR K B H o v H' → Q v H'
theorem cr_sorted (hu : X.A.units + 64 < cLine) : CallR X (.builtin "sorted") (rSo X.K) := by
  intro pins s σ H vs us Q I hv h
  obtain ⟨B, xs, o, hs, hp, e, q⟩ := h
  refine wpAny_mono (cd_sorted hu pins s σ H B xs vs us o I hs hp hv e) (fun v s' hq => ?_) fun _ _ x => x
  obtain ⟨v', H', I', r, ho⟩ := hq
  exact ⟨v', H', I', r, q _ _ ho⟩
theorem ru_sorted {K : PySem.W.Frag} : RuL K (rSo K) gSorted := fun H B xs vs o Q hs hp e hq => ⟨B, xs, o, hs, hp, e, hq⟩
theorem de_sorted (hu : X.A.units + 64 < cLine) (hg : Gl X "sorted") (hm : X.mg "sorted" = none) (ha : DA X cl E [e] ms) (he : starEach [e] X.env = (false, eval e X.env) :: starEach [] X.env := by rfl) : DE X cl E (.Call (.Name "sorted" p) [e] [] pos) (mCB gSorted ms) :=
  de_callB (cr_sorted hu) ru_sorted hg hm (by decide +kernel) ha (by decide) (by decide) he rfl
end
end Mi

set_option Elab.async false
set_option linter.all false
set_option maxRecDepth 100000
namespace Mi
open PySem PySem.Spec L2
section
variable {X : Cx} {cl : String → Addr} {E : XK} {e a b : Expr} {ms : M (List Rv)} {i : Nat} {x : Str} {p apos cpos : Pos}
theorem de_ext (hN : X.N[i]? = some x) (hv : Vis X.env.scope x) (ha : DA X cl E [e] ms) (hdb : (x == ("__debug__" : Str)) = false := by decide) (hcd : (x == ("__classdict__" : Str)) = false := by decide)
    (hbase : attributeBase (.Name x p) "extend" X.env (eval (.Name x p) X.env) = eval (.Name x p) X.env := by rfl)
    (hfew : ((backTo cpos (starEach [e] X.env)).all (fun x => !x.1) && (backToKw cpos (keywordEach [] X.env)).all (fun x => x.1.isSome)
      && decide (([e] : List Expr).length + ([] : List Keyword).length + (if ([] : List Keyword).isEmpty then 0 else 1) < 30)) = true := by rfl)
    (hline : (apos.endLine == cpos.line) = true := by rfl) (hs : starEach [e] X.env = (false, eval e X.env) :: starEach [] X.env := by rfl) :
    DE X cl E (.Call (.Attribute (.Name x p) "extend" apos) [e] [] cpos) (mMet i gExt ms) :=
  de_met PySem.F.slot_list_extend PySem.F.plainAttrs_list PySem.F.type_list_extend mt_extA ru_ext hN hv ha hdb hcd hbase hfew hline hs rfl
theorem de_clr (hN : X.N[i]? = some x) (hv : Vis X.env.scope x) (hdb : (x == ("__debug__" : Str)) = false := by decide) (hcd : (x == ("__classdict__" : Str)) = false := by decide)
    (hbase : attributeBase (.Name x p) "clear" X.env (eval (.Name x p) X.env) = eval (.Name x p) X.env := by rfl) (hline : (apos.endLine == cpos.line) = true := by rfl) :
    DE X cl E (.Call (.Attribute (.Name x p) "clear" apos) [] [] cpos) (mMet i gClr mNil) :=
  de_met0 PySem.F.slot_list_clear PySem.F.plainAttrs_list PySem.F.type_list_clear mt_clear ru_clr hN hv hdb hcd hbase hline
theorem de_ins (hN : X.N[i]? = some x) (hv : Vis X.env.scope x) (ha : DA X cl E [a, b] ms) (hl : Len ms 2) (hdb : (x == ("__debug__" : Str)) = false := by decide) (hcd : (x == ("__classdict__" : Str)) = false := by decide)
    (hbase : attributeBase (.Name x p) "insert" X.env (eval (.Name x p) X.env) = eval (.Name x p) X.env := by rfl)
    (hfew : ((backTo cpos (starEach [a, b] X.env)).all (fun x => !x.1) && (backToKw cpos (keywordEach [] X.env)).all (fun x => x.1.isSome)
      && decide (([a, b] : List Expr).length + ([] : List Keyword).length + (if ([] : List Keyword).isEmpty then 0 else 1) < 30)) = true := by rfl)
    (hline : (apos.endLine == cpos.line) = true := by rfl) (hs : starEach [a, b] X.env = (false, eval a X.env) :: starEach [b] X.env := by rfl) (hpl : (backTo cpos (starEach [b] X.env)).any (·.1) = false := by rfl) :
    DE X cl E (.Call (.Attribute (.Name x p) "insert" apos) [a, b] [] cpos) (mMetF i gIns ms) :=
  de_metF PySem.F.slot_list_insert PySem.F.plainAttrs_list PySem.F.type_list_insert mt_insert ru_ins hN hv ha hl hdb hcd hbase hfew hline hs hpl

end
/-! ### max(e, default=d), whole numbers -/
def maxI (d : Int) (ns : List Int) : Int := (ns[argBest (fun i j => decide (ns.getD i 0 > ns.getD j 0)) (ns.length - 1)]?).getD d
def mMaxD (d : Int) (m : M Rv) : M Rv := bnd (vm m) fun r env => match res env r with
  | some (.list xs) => match intsD xs with
    | some ns => if xs.length ≤ sizeLine then .ok (.d (.int (maxI d ns))) env else .stuck
    | none => .stuck
  | _ => .stuck
section
variable {X : Cx} {cl : String → Addr} {E : XK} {a : Expr} {m : M Rv} {p pos kpos npos : Pos} {nk : Nat} {d : Int}
theorem max_dflt {prog : Program} {w : World} {A : Around} {E : Value → Shared → Prop} {s : Shared} {l : Addr} {vs : List Value} {ns : List Int} {dv : Value} {Q : Value → Shared → Prop} (hh : A.handled = none) (hl : s.heap.IsList l vs.toArray) (hi : Vals (ns.map V.int) vs)
    (h0 : ns = [] → ∀ s', Kp s s' → Q dv s') (hQ : ∀ (i : Int) (t : Tok), ns[argBest (fun i j => decide (ns.getD i 0 > ns.getD j 0)) (ns.length - 1)]? = some i → ∀ s', Kp s s' → Q (.int i t) s') :
    wpAny (model prog w) A (PySem.call (.builtin "max") [.ref l] [(Str.ofString "default", dv)]) Q E s := by
  have hsz : vs.toArray.size = vs.length := List.size_toArray ..
  have hnl : ns.length = vs.length := by have := hi.length; simpa using this
  obtain ⟨ol, hol, _⟩ := id hl
  have hll : l < s.heap.objs.size := Heap.lt_size hol
  refine call_max_walkD (wpAny_pyIter_list hl ?_)
  have szp : (s.heap.push { cls := .type "list_iterator", data := .fields #[.ref l, .int 0 0] }).objs.size = s.heap.objs.size + 1 := by simp [Heap.push]
  have W := (Walks.list (prog := prog) (w := w) (A := A.in1) hh s.heap.objs.size l (Nat.ne_of_lt hll) vs.toArray).toS
  have item : ∀ (i : Nat) (v : Value), vs.toArray[i]? = some v → ∃ t, v = .int (ns.getD i 0) t ∧ ns[i]? = some (ns.getD i 0) := fun i v hv => by
    have hv : vs[i]? = some v := by simpa using hv
    have hlt : i < ns.length := by rw [hnl]; exact (List.getElem?_eq_some_iff.mp hv).1
    have e : (ns.map V.int)[i]? = some (V.int ns[i]) := by rw [List.getElem?_map, List.getElem?_eq_getElem hlt]; rfl
    obtain ⟨u, hu, ru⟩ := hi.get e
    rw [hv] at hu
    cases hu
    obtain ⟨t, rfl⟩ := ru
    have e2 : ns.getD i 0 = ns[i] := by rw [List.getD_eq_getElem?_getD, List.getElem?_eq_getElem hlt]; rfl
    exact ⟨t, by rw [e2], by rw [e2]; exact List.getElem?_eq_getElem hlt⟩
  have kp : ∀ s', Moved [s.heap.objs.size] (fun a b => b = a) { s with heap := s.heap.push { cls := .type "list_iterator", data := .fields #[.ref l, .int 0 0] } } s' → Kp s s' := fun s' m =>
    ⟨fun b o e => m.heap b o (by rw [List.mem_singleton]; exact Nat.ne_of_lt (Heap.lt_size e)) (Heap.get?_push_of_some _ e), m.gens, m.drawn, m.os⟩
  refine ⟨s.heap.objs.size, _, _, _, _, _, _, s.heap, fun i j => decide (ns.getD i 0 > ns.getD j 0), rfl, W, ?_, ?_, ?_, ?_, ?_, ?_⟩
  · exact ⟨⟨_, Heap.get?_push_size _ rfl, rfl, rfl⟩, hl.at fun o e => Heap.get?_push_of_some _ e⟩
  · intro b hb
    simp only [List.mem_cons, List.not_mem_nil, or_false] at hb
    show b < (s.heap.push { cls := .type "list_iterator", data := .fields #[.ref l, .int 0 0] }).objs.size
    rw [szp]
    rcases hb with rfl | rfl
    · exact Nat.lt_succ_self _
    · exact Nat.lt_succ_of_lt hll
  · intro b o e
    rw [List.mem_singleton]
    exact Nat.ne_of_lt (Heap.lt_size e)
  · exact fun b o e => Heap.get?_push_of_some _ e
  · intro hn s' hm
    rw [hsz, ← hnl] at hn
    exact h0 (List.length_eq_zero_iff.mp hn) s' (kp s' hm)
  · intro hn
    refine ⟨fun i j vi vj s1 Q1 E1 _ hi' hj' h => ?_, fun v s' hP hm => ?_⟩
    · exact CmpOf.ints_gt (prog := prog) (w := w) (A := A.in1) (P := fun i v => ∃ t, v = .int (ns.getD i 0) t) (fun i => ns.getD i 0) (fun i v h => h) i j vi vj s1 Q1 E1 (by obtain ⟨t, h, _⟩ := item i vi hi'; exact ⟨t, h⟩) (by obtain ⟨t, h, _⟩ := item j vj hj'; exact ⟨t, h⟩) h
    · obtain ⟨t, rfl, e⟩ := item _ v hP
      rw [hsz, ← hnl] at e
      rw [hsz, ← hnl]
      exact hQ _ t e s' (kp s' hm)
theorem de_maxD (hg : Gl X "max") (hm : X.mg "max" = none) (hh : X.A.handled = none) (ha : DE X cl E a m) (hst : starEach [a] X.env = (false, eval a X.env) :: starEach [] X.env := by rfl) :
    DE X cl E (.Call (.Name "max" p) [a] [⟨some "default", .Constant (.int d) nk npos, kpos⟩] pos) (mMaxD d m) := by
  refine ⟨fun pins s σ H Q I h => ?_⟩
  obtain ⟨P, B, env, fps, F, h⟩ := h
  refine wpAny_Call_Name_kw (ld_blt (u := .builtin "max") I hg hm (by decide +kernel) ?_)
  refine PyProof.Rows.callWith_kw ?_ (by rw [show backTo pos (starEach [a] X.env) = (false, eval a X.env) :: backTo pos (starEach [] X.env) by rw [hst]; rfl]) (by rw [hst]; rfl)
  rw [hst]
  show wpAny _ _ (spliced ((false, eval a X.env) :: backTo pos (starEach [] X.env))) _ _ s
  refine Calls.spliced_cons (thn (ha.run pins s σ H _ I ⟨P, B, env, fps, F, post_vm h⟩) fun u s1 ⟨v, H1, I1, r1, B1, env1, fps1, q1, x1, F1, w1, h1⟩ => Calls.spliced_nil ?_)
  show wpAny _ _ (evalAll [do let v ← eval (.Constant (.int d) nk npos) X.env; standAt pos; pure v]) _ _ s1
  refine wpAny_evalAll_cons (wpAny_bind (wpAny_Constant_int (wpAny_bind (wpAny_standAt (wpAny_pure (wpAny_evalAll_nil ?_))))))
  have I2 : Inv X pins σ H1 { s1 with toks := s1.toks + 1 } := I1.tok _
  show wpAny _ _ (PySem.call (.builtin "max") [u] [(Str.ofString "default", .int d s1.toks)]) _ _ _
  split at h1
  · rename_i xs e1
    split at h1
    · rename_i ns en
      split at h1
      · rename_i hz
        obtain ⟨l, vs, rfl, hS, rds⟩ := (F1.res w1 e1).list F1.sub
        cases r1
        obtain ⟨its, hvals, hp, _⟩ := I2.list hS
        have hv := intsD_vals rds en
        rw [hv] at hvals
        have fin : ∀ (n : Int) (t : Tok) (s' : Shared), maxI d ns = n → Kp { s1 with toks := s1.toks + 1 } s' → EP X pins σ Q (.int n t) s' := fun n t s' en k => by
          rw [k.eta]
          subst en
          exact ⟨.int _, H1, I2.kept k.1, ⟨_, rfl⟩, ret_d F1 (.int _) h1⟩
        refine max_dflt (ns := ns) hh hp.isList hvals (fun hn s' k => fin _ _ s' (by rw [hn]; rfl) k) (fun i t hi s' k => fin _ _ s' ?_ k)
        unfold maxI
        rw [hi]
        rfl
      · exact h1.elim
    · exact h1.elim
  · exact h1.elim
end
/-! ### e is None, as a test -/
section
variable {X : Cx} {cl : String → Addr} {E : XK} {a : Expr} {ma : M Rv} {pos : Pos}
theorem dt_isN {j pos'} (ha : DE X cl E a ma) : DT X cl E (.Compare a [.Is] [.Constant .none j pos'] pos) (tst (mIsN false ma)) := by
  refine ⟨fun pins s σ H Q I ⟨P, B, env, fps, F, q⟩ => (pt_cmp (pc_isN (j := j) (pos' := pos') ha)).run pins s σ H Q I ?_⟩
  refine tM_v ⟨P, B, env, fps, F, tst_in q⟩ fun r v H1 P B env fps F s2 h2 => ?_
  split at h2
  · have z := RD.non_iff (show RD X.K B _ v from s2)
    show ∃ c, V.bl (decide (v = .non)) = .bl c ∧ Q c H1
    rw [z]
    exact ret_d F (by rw [Bool.false_xor]; exact .bl _) h2
  · exact h2.elim
theorem dt_notN {j pos'} (ha : DE X cl E a ma) : DT X cl E (.Compare a [.IsNot] [.Constant .none j pos'] pos) (tst (mIsN true ma)) := by
  refine ⟨fun pins s σ H Q I ⟨P, B, env, fps, F, q⟩ => (pt_cmp (pc_notN (j := j) (pos' := pos') ha)).run pins s σ H Q I ?_⟩
  refine tM_v ⟨P, B, env, fps, F, tst_in q⟩ fun r v H1 P B env fps F s2 h2 => ?_
  split at h2
  · have z := RD.non_iff (show RD X.K B _ v from s2)
    show ∃ c, V.bl (!decide (v = .non)) = .bl c ∧ Q c H1
    rw [z]
    exact ret_d F (by rw [Bool.true_xor]; exact .bl _) h2
  · exact h2.elim
end
end Mi

set_option Elab.async false
set_option linter.all false
set_option maxRecDepth 100000
namespace Mi
open PySem PySem.Spec L2
/-! ### a statement behind a slot that is frozen -/
theorem ds_frz {X : Cx} {cl : String → Addr} {E : XK} {io : List Nat} {st : Stmt} {m : M Fl} (i : Nat) (h : DS X cl E io st m) : DS X cl E io st (bnd (frzV i) fun _ => m) := by
  refine ⟨fun pins s σ H D I ⟨P, B, env, fps, F, q⟩ => ?_⟩
  unfold bnd frzV at q
  split at q
  · rename_i ds he
    obtain ⟨v, hv, r⟩ := F.slot i _ he
    obtain ⟨a, vs, rfl, hf, e1, r1⟩ := r.lst_inv
    obtain ⟨F', x⟩ := F.freezeS (d := .list ds) ⟨_, he⟩ e1 hf hv (.lst (.inl (.inl upd_same)) (RDs.mono (Sub.upd (F.off i a (by rw [hf]; simp)).1) _ _ r1))
    exact h.run pins s σ H D I ⟨P, _, _, _, F', PostS.ext x SameIo.refl q⟩
  · rename_i kv he
    obtain ⟨v, hv, r⟩ := F.slot i _ he
    obtain ⟨a, vs, rfl, hf, e1, r1⟩ := r.dct_inv
    obtain ⟨F', x⟩ := F.freezeS (d := .dict []) ⟨_, he⟩ e1 hf hv (.dct upd_same)
    exact h.run pins s σ H D I ⟨P, _, _, _, F', PostS.ext x SameIo.refl q⟩
  · rename_i ds he
    exact h.run pins s σ H D I ⟨P, B, _, fps, F.untag he, q⟩
  · exact h.run pins s σ H D I ⟨P, B, env, fps, F, q⟩
end Mi

set_option Elab.async false
set_option linter.all false
set_option maxRecDepth 100000
set_option autoImplicit false
namespace Mi
open PySem PySem.Spec L2
/-! ### a, b = x, y: each thing stays what it is (an own list stays one) -/
def dz : Rv → M Rv
  | .pl i => bnd (frzR (.pl i)) fun d => ret (.d d)
  | r => ret r
def mOw (m : M Rv) : M Rv := bnd m dz
def rO : Rv → O
  | .d x => .dat x
  | .own o => o
  | .pl _ => .dat .none
def isPl : Rv → Bool
  | .pl _ => true
  | _ => false
def mPar (i j : Nat) (ma mb : M Rv) : M Fl := bnd (mOw ma) fun r => bnd (mOw mb) fun q => fun env => .ok .nx ((env.set i (some (rO r))).set j (some (rO q)))
section
variable {K : PySem.W.Frag} {cl : String → Addr} {E : XK} {io : List Nat} {P B B' H : Hp} {σ σ' : L2.St} {env : Env} {fps : Nat → List Addr}
theorem dz_ok (F : Fm K P B H σ env fps) {r : Rv} {v : V} {q : Rv} {env' : Env} (s : RvR K P B H σ fps r v) (e : dz r env = .ok q env') : ∃ B' fps', Ext P B B' ∧ Fm K P B' H σ env' fps' ∧ RvR K P B' H σ fps' q v ∧ isPl q = false := by
  cases r with
  | d x => cases e; exact ⟨B, fps, Ext.refl, F, s, rfl⟩
  | own o => cases e; exact ⟨B, fps, Ext.refl, F, s, rfl⟩
  | pl i =>
    unfold dz bnd at e
    cases z : frzR (.pl i) env with
    | ok d env1 =>
      simp only [z] at e
      cases e
      obtain ⟨B1, fps1, x1, F1, r1⟩ := frzR_ok (r := .pl i) F s z
      exact ⟨B1, fps1, x1, F1, r1, rfl⟩
    | ex c env1 => exact absurd z frzR_nex
    | stuck => simp only [z] at e; cases e
theorem dz_nex {r : Rv} {c : String} {env' : Env} : dz r env ≠ .ex c env' := by
  intro z
  cases r with
  | d x => cases z
  | own o => cases z
  | pl i =>
    unfold dz bnd at z
    cases z2 : frzR (.pl i) env with
    | ok d e => simp only [z2] at z; cases z
    | ex c e => exact absurd z2 frzR_nex
    | stuck => simp only [z2] at z; cases z
theorem dz_np {r q : Rv} {env env' : Env} (e : dz r env = .ok q env') : isPl q = false := by
  cases r with
  | d x => cases e; rfl
  | own o => cases e; rfl
  | pl i =>
    unfold dz bnd at e
    cases z : frzR (.pl i) env with
    | ok d env1 => simp only [z] at e; cases e; rfl
    | ex c env1 => exact absurd z frzR_nex
    | stuck => simp only [z] at e; cases e
theorem ow_np {m : M Rv} {q : Rv} {env env' : Env} (e : mOw m env = .ok q env') : isPl q = false := by
  unfold mOw bnd at e
  cases z : m env with
  | ok r env1 => rw [z] at e; exact dz_np e
  | ex c env1 => rw [z] at e; cases e
  | stuck => rw [z] at e; cases e
theorem postE_ow {m : M Rv} {Q : VK} (h : PostE K cl E P B σ (mOw m env) Q) : PostE K cl E P B σ (m env) Q := by
  unfold mOw bnd at h
  cases q : m env with
  | ok r env1 =>
    rw [q] at h
    intro v H1 B1 fps1 x1 F1 s1
    change PostE K cl E P B σ (dz r env1) Q at h
    cases z : dz r env1 with
    | ok r2 env2 =>
      rw [z] at h
      obtain ⟨B2, fps2, x2, F2, s2, hp⟩ := dz_ok F1 s1 z
      exact h v H1 B2 fps2 (x1.trans x2) F2 s2
    | ex c env2 => exact absurd z dz_nex
    | stuck => rw [z] at h; exact h.elim
  | ex c env1 => rw [q] at h; exact h
  | stuck => rw [q] at h; exact h.elim
theorem de_ow {X : Cx} {e : Expr} {m : M Rv} (h : DE X cl E e m) : DE X cl E e (mOw m) :=
  ⟨fun pins s σ H Q I ⟨P, B, env, fps, F, q⟩ => h.run pins s σ H Q I ⟨P, B, env, fps, F, postE_ow q⟩⟩
/-- a thing is held: its own cells are kept -/
theorem Fm.hold (F : Fm K P B H σ env fps) {r : Rv} {v : V} (q : RvR K P B H σ fps r v) (hp : isPl r = false) :
    ∃ P' fp, (∀ a o, P a = some o → P' a = some o) ∧ Fm K P' B H σ env fps ∧ (∀ a ∈ fp, P' a ≠ none ∧ P a = none ∧ B a = none) ∧
      ∀ B2 H2, Sub B B2 → Sub P' H2 → OwnR K B2 H2 (rO r) v fp := by
  cases r with
  | d x => exact ⟨P, [], fun _ _ e => e, F, fun a ha => by simp at ha, fun B2 H2 s _ => .dat (q.mono s)⟩
  | pl j => cases hp
  | own o =>
    obtain ⟨fp, r1, hf⟩ := q
    have hs : ∀ a o, P a = some o → (fun a => if a ∈ fp then H a else P a) a = some o := fun a o e => by
      have : a ∉ fp := fun h => by rw [(hf a h).2.1] at e; cases e
      show (if a ∈ fp then H a else P a) = some o
      rw [if_neg this]; exact e
    have hin : ∀ a ∈ fp, (fun a => if a ∈ fp then H a else P a) a = H a := fun a h => if_pos h
    refine ⟨fun a => if a ∈ fp then H a else P a, fp, hs, ⟨F.len, F.sub, ?_, F.slot, F.emp, F.dis, ?_, F.tab, F.nbT, ?_⟩, fun a h => ⟨by rw [hin a h]; exact r1.dom a h, (hf a h).2.1, (hf a h).1⟩, ?_⟩
    · intro a o e
      by_cases h : a ∈ fp
      · rw [← hin a h]; exact e
      · exact F.prt _ _ (by have e : (if a ∈ fp then H a else P a) = some o := e; rw [if_neg h] at e; exact e)
    · intro i a h
      refine ⟨(F.off i a h).1, ?_⟩
      show (if a ∈ fp then H a else P a) = none
      rw [if_neg fun h2 => (hf a h2).2.2 i h]
      exact (F.off i a h).2
    · intro a ps e
      have e : (if a ∈ fp then H a else P a) = some (.tbl ps) := e
      by_cases h : a ∈ fp
      · rw [if_pos h] at e; exact r1.ownT a h ps e
      · rw [if_neg h] at e; exact F.npT a ps e
    · intro B2 H2 s h2
      refine r1.congr s fun a h => ?_
      cases e : H a with
      | none => exact absurd e (r1.dom a h)
      | some o => exact h2 a o (by rw [← e]; exact hin a h)
theorem Ext.less {P P' : Hp} (hs : ∀ a o, P a = some o → P' a = some o) (x : Ext P' B B') : Ext P B B' := ⟨x.1, fun a o e => x.2 a o (hs a o e)⟩
theorem lessN {P P' : Hp} (hs : ∀ a o, P a = some o → P' a = some o) {a : Addr} (h : P' a = none) : P a = none := by
  cases e : P a with
  | none => rfl
  | some o => rw [hs a o e] at h; cases h
theorem Fm.less {P P' : Hp} (hs : ∀ a o, P a = some o → P' a = some o) (n : noT P) (F : Fm K P' B H σ env fps) : Fm K P B H σ env fps :=
  ⟨F.len, F.sub, fun a o e => F.prt a o (hs a o e), F.slot, F.emp, F.dis, fun i a h => ⟨(F.off i a h).1, lessN hs (F.off i a h).2⟩, F.tab, F.nbT, n⟩
theorem rO_own {r : Rv} {v : V} (s : RvR K P B H σ fps r v) (hp : isPl r = false) : ∃ fp, OwnR K B H (rO r) v fp ∧ ∀ a ∈ fp, B a = none ∧ P a = none ∧ ∀ i, a ∉ fps i := by
  cases r with
  | d x => exact ⟨[], .dat s, fun a ha => by simp at ha⟩
  | own o => exact s
  | pl j => cases hp
end
section
variable {X : Cx} {cl : String → Addr} {E : XK} {io : List Nat} {a b : Expr} {ma mb : M Rv} {pos px py pt : Pos} {i j : Nat} {x y : Str} {kt k2 pt2}
theorem ds_par (hc : X.calm = true) (hN : X.N.Nodup) (hi : X.N[i]? = some x) (hj : X.N[j]? = some y) (hij : (i == j) = false) (hio : io.contains i = false) (hjo : io.contains j = false)
    (hx : X.env.scope.names.lookup x = some .local) (hy : X.env.scope.names.lookup y = some .local) (ha : DE X cl E a ma) (hb : DE X cl E b mb)
    (hw : swappedStores [.Tuple [.Name x px, .Name y py] kt pt] (.Tuple [a, b] k2 pt2) X.env = pure (some [x, y]) := by rfl)
    (hs : swapsWithSole [.Tuple [.Name x px, .Name y py] kt pt] (.Tuple [a, b] k2 pt2) pos.line X.env = pure false := by rfl)
    (n1 : starEach [a, b] X.env = (false, eval a X.env) :: starEach [b] X.env := by rfl) (n2 : starEach [b] X.env = (false, eval b X.env) :: starEach [] X.env := by rfl) :
    DS X cl E io (.Assign [.Tuple [.Name x px, .Name y py] kt pt] (.Tuple [a, b] k2 pt2) pos) (mPar i j ma mb) := by
  have hij : i ≠ j := by intro e; subst e; simp at hij
  refine ⟨fun pins s σ H D I ⟨P, B, env, fps, F, h⟩ => (ps_par hc hN hi hj hij hx hy (pa_cons (de_ow ha) (pa_cons (de_ow hb) pa_nil n2) n1) hw hs).run pins s σ H D I ?_⟩
  have hli : i < σ.length := by rw [I.len]; exact getElem?_lt hi
  have hlj : j < σ.length := by rw [I.len]; exact getElem?_lt hj
  refine ⟨P, B, env, fps, F, ?_⟩
  unfold mPar bnd at h
  cases q : mOw ma env with
  | stuck => rw [q] at h; exact h.elim
  | ex c env1 => rw [q] at h; exact fun H' B' fps x F => h σ H' B' fps x F SameIo.refl
  | ok r1 env1 =>
    rw [q] at h
    replace h : PostS X.K cl E io σ P B ((mOw mb env1).bind fun q env => Rs.ok Fl.nx ((List.set env i (some (rO r1))).set j (some (rO q)))) fun fl σ' H' B' fps' _ => EndS X.K io P B D fl σ' H' B' fps' := h
    intro v H1 B1 fps1 x1 F1 s1
    obtain ⟨P', fp, hP, F1', hfp, hold⟩ := F1.hold s1 (ow_np q)
    refine ⟨P', B1, env1, fps1, F1', ?_⟩
    have F0 := F.npT
    cases q2 : mOw mb env1 with
    | stuck => rw [q2] at h; exact h.elim
    | ex c env2 => rw [q2] at h; exact fun H' B' fps x F => h σ H' B' fps (x1.trans (Ext.less hP x)) (Fm.less hP F0 F) SameIo.refl
    | ok r2 env2 =>
      rw [q2] at h
      intro w H2 B2 fps2 x2 F2 s2
      have r1 := hold B2 H2 x2.1 F2.prt
      obtain ⟨fp2, r2, hf2⟩ := rO_own s2 (ow_np q2)
      have G := Fm.less hP F0 F2
      have hb2 : ∀ a ∈ fp, B2 a = none := fun a h => by
        obtain ⟨h1, _, h3⟩ := hfp a h
        cases e : P' a with
        | none => exact absurd e h1
        | some o => rw [x2.2 a o e]; exact h3
      have nf : ∀ a ∈ fp, ∀ k, a ∉ fps2 k := fun a h k hk => (hfp a h).1 (F2.off k a hk).2
      have G1 := G.store hli r1 fun a h => ⟨hb2 a h, (hfp a h).2.1, nf a h⟩
      have G2 := G1.store (i := j) (by rw [List.length_set]; exact hlj) r2 fun a ha2 => ⟨(hf2 a ha2).1, lessN hP (hf2 a ha2).2.1, fun k hk => by
        by_cases z : k = i
        · subst z
          rw [setF_same] at hk
          exact (hfp a hk).1 (hf2 a ha2).2.1
        · rw [setF_ne z] at hk
          exact (hf2 a ha2).2.2 k hk⟩
      exact ⟨v, w, rfl, h _ H2 B2 _ (x1.trans (Ext.less hP x2)) G2 ((sameIo_set hio).trans (sameIo_set hjo))⟩
end
/-! ### x[::e], e = 1 or -1 -/
theorem pick_fwd (its : Array Value) : slicePick its none none (some 1) = its := by
  have hb : sliceBounds none none (some 1) its.size = (0, (its.size : Int), 1) := by
    first
    | rfl
    | simp [sliceBounds]
  have hr : sliceRange 0 (its.size : Int) 1 = List.range its.size := by
    unfold sliceRange
    rw [if_pos (by decide)]
    have : (if (0 : Int) < (its.size : Int) then ((its.size : Int) - 0 + 1 - 1) / 1 else 0).toNat = its.size := by
      split <;> omega
    show (List.range (if (0 : Int) < (its.size : Int) then ((its.size : Int) - 0 + 1 - 1) / 1 else 0).toNat).map (fun (k : Nat) => (0 + 1 * (k : Int)).toNat) = _
    rw [this]
    conv => rhs; rw [← List.map_id (List.range its.size)]
    refine List.map_congr_left fun k _ => ?_
    show (0 + 1 * (k : Int)).toNat = k
    omega
  unfold slicePick
  rw [hb]
  show ((sliceRange 0 (its.size : Int) 1).filterMap (its[·]?)).toArray = its
  rw [hr, PySem.W.krv_all]
def mStep (m me : M Rv) : M Rv := bnd (vm m) fun r => bnd (mSo me) fun o env => match res env r with
  | some (.list ds) => if o = some 1 then .ok (.own (.lst ds)) env else if o = some (-1) then .ok (.own (.lst ds.reverse)) env else .stuck
  | _ => .stuck
section
variable {X : Cx} {cl : String → Addr} {E : XK} {e a : Expr} {m me : M Rv} {p3 pos : Pos}
theorem de_step (he : DE X cl E e m) (ha : DE X cl E a me) (hc : X.calm = true) : DE X cl E (.Subscript e (.Slice none none (some a) p3) pos) (mStep m me) := by
  refine ⟨fun pins s σ H Q I ⟨P, B, env, fps, F, h⟩ => ?_⟩
  refine PyProof.Rows.Subscript_ (thn (he.run pins s σ H _ I ⟨P, B, env, fps, F, post_vm h⟩) fun v s1 ⟨x, H1, I1, r1, B1, env1, fps1, r, x1, F1, w1, h1⟩ => ?_)
  refine wpAny_Slice (thn (po_none.run pins s1 σ H1 (fun o H2 => o = none ∧ H2 = H1) I1 ⟨rfl, rfl⟩) fun vl s2 ⟨l, H2, I2, pl, el, e2⟩ => ?_)
  subst el e2
  refine thn (po_none.run pins s2 σ H2 (fun o H3 => o = none ∧ H3 = H2) I2 ⟨rfl, rfl⟩) fun vu s3 ⟨u, H3, I3, pu, eu, e3⟩ => ?_
  subst eu e3
  refine thn ((do_some ha).run pins s3 σ H3 (fun o H4 => ∃ B2 env2 fps2, Ext P B1 B2 ∧ Fm X.K P B2 H4 σ env2 fps2 ∧ PostE X.K cl E P B2 σ ((fun o env => match res env r with
    | some (.list ds) => if o = some 1 then .ok (.own (.lst ds)) env else if o = some (-1) then .ok (.own (.lst ds.reverse)) env else .stuck
    | _ => .stuck : Option Int → M Rv) o env2) Q) I3 ⟨P, B1, env1, fps1, F1, (postE_bnd h1).mono fun c H1 B2 fps2 env2 x F q => ⟨B2, env2, fps2, x, F, q⟩⟩) fun vs s4 ⟨o, H4, I4, ps, B2, env2, fps2, x2, F2, h2⟩ => ?_
  have w2 := w1.mono x2.1
  have I5 : Inv X pins σ H4 { s4 with heap := s4.heap.push { cls := .type "slice", data := .fields #[vl, vu, vs] } } := I4.kept (t' := s4.toks) fun b ob q => Heap.get?_push_of_some _ q
  dsimp only at h2
  split at h2
  · rename_i ds e1
    obtain ⟨zs, ho0, hpick, h3⟩ : ∃ zs, o ≠ some 0 ∧ (∀ (its : List Value) (us : List V), zs = (if o = some 1 then ds else ds.reverse) ∧ slicePick its.toArray none none o = (if o = some 1 then its else its.reverse).toArray) ∧ PostE X.K cl E P B2 σ (.ok (.own (.lst zs)) env2) Q := by
      split at h2
      · rename_i ho
        refine ⟨ds, by rw [ho]; decide, fun its us => ⟨by rw [if_pos ho], ?_⟩, h2⟩
        rw [if_pos ho, ho, pick_fwd]
      · rename_i hn
        split at h2
        · rename_i ho
          refine ⟨ds.reverse, by rw [ho]; decide, fun its us => ⟨by rw [if_neg hn], ?_⟩, h2⟩
          rw [if_neg hn, ho, PySem.W.krv_pick]
        · exact h2.elim
    have hz0 := (hpick [] []).1
    rcases F2.res w2 e1 with rr | ⟨ds', a', us, ed, rfl, ea, rr⟩
    · cases rr with
      | @lst a0 vs0 ds0 hx rr =>
        cases r1
        obtain ⟨its, rv, ht, hz⟩ := I5.list (F2.sub.sqL hx)
        have hlen := rv.length
        show wpAny (model X.prog X.w) X.A (PyProof.Rows.subscriptTail e (.Slice none none (some a) p3) _ (.ref s4.heap.objs.size)) (EP X pins σ Q) X.xe { s4 with heap := s4.heap.push { cls := .type "slice", data := .fields #[vl, vu, vs] } }
        refine PyProof.Rows.tail_any (ops := [_, .ref s4.heap.objs.size]) ht.isList.typeIs (PySem.slot_list_getitem.lookup) ?_ (by with_unfolding_all rfl)
        refine wpAny_getItem_list_slice ht.isList (Heap.IsSliceOf.new _ vl vu vs) pl pu ps ho0 ?_ (by rw [List.size_toArray]; omega)
        rw [(hpick its []).2]
        have hn := I5.hok.fresh (Nat.le_refl _)
        obtain ⟨h3', h4, h5⟩ := F2.newB hn
        refine ⟨.ref _, upd H4 _ (.lst (if o = some 1 then vs0 else vs0.reverse)), I5.laid (t' := s4.toks) (o := .lst _) (fun b ob q => Heap.get?_push_of_some _ q) (Nat.le_refl _) ?_, rfl, h3 _ _ B2 fps2 Ext.refl (F2.alloc hn) ⟨_, .lst upd_same ?_, fun a ha => by rw [List.mem_singleton.mp ha]; exact ⟨h3', h4, h5⟩⟩⟩
        · split
          · exact ⟨hz, _, 0, rv, Heap.get?_push_size _ rfl⟩
          · exact ⟨by rw [List.length_reverse]; exact hz, _, 0, rv.reverse, Heap.get?_push_size _ rfl⟩
        · rw [hz0]
          split
          · exact rr
          · exact rr.reverse
    · cases ed
      cases r1
      obtain ⟨its, rv, ht, hz⟩ := I5.list (SqL.of (K := X.K) ea)
      have hlen := rv.length
      show wpAny (model X.prog X.w) X.A (PyProof.Rows.subscriptTail e (.Slice none none (some a) p3) _ (.ref s4.heap.objs.size)) (EP X pins σ Q) X.xe { s4 with heap := s4.heap.push { cls := .type "slice", data := .fields #[vl, vu, vs] } }
      refine PyProof.Rows.tail_any (ops := [_, .ref s4.heap.objs.size]) ht.isList.typeIs (PySem.slot_list_getitem.lookup) ?_ (by with_unfolding_all rfl)
      refine wpAny_getItem_list_slice ht.isList (Heap.IsSliceOf.new _ vl vu vs) pl pu ps ho0 ?_ (by rw [List.size_toArray]; omega)
      rw [(hpick its []).2]
      have hn := I5.hok.fresh (Nat.le_refl _)
      obtain ⟨h3', h4, h5⟩ := F2.newB hn
      refine ⟨.ref _, upd H4 _ (.lst (if o = some 1 then us else us.reverse)), I5.laid (t' := s4.toks) (o := .lst _) (fun b ob q => Heap.get?_push_of_some _ q) (Nat.le_refl _) ?_, rfl, h3 _ _ B2 fps2 Ext.refl (F2.alloc hn) ⟨_, .lst upd_same ?_, fun a ha => by rw [List.mem_singleton.mp ha]; exact ⟨h3', h4, h5⟩⟩⟩
      · split
        · exact ⟨hz, _, 0, rv, Heap.get?_push_size _ rfl⟩
        · exact ⟨by rw [List.length_reverse]; exact hz, _, 0, rv.reverse, Heap.get?_push_size _ rfl⟩
      · rw [hz0]
        split
        · exact rr
        · exact rr.reverse
  · exact h2.elim
end
/-! ### len(set(x)) -/
section
variable {X : Cx} {cl : String → Addr} {E : XK} {e : Expr} {m : M Rv} {p p2 q pos : Pos}
theorem size_set {β : Type} [DecidableEq β] {es : Array (Int × Value)} {ls : List Key} {f : β → Key} (hf : ∀ a b, f a = f b → a = b) {bs : List β} (hnd : (es.toList.map keyM).Nodup) (hm : ∀ k, k ∈ ls ↔ k ∈ es.toList.map keyM) (h : ∀ k, k ∈ ls ↔ k ∈ bs.map f) :
    es.size = (dedup bs).length := by
  have nd : ((dedup bs).map f).Nodup := List.pairwise_map.mpr ((nodup_dedup bs).imp fun hne he => hne (hf _ _ he))
  have p : (es.toList.map keyM).Perm ((dedup bs).map f) := perm_of hnd nd fun k => by
    rw [← hm k, h k]
    constructor
    · intro hk
      obtain ⟨b, hb, rfl⟩ := List.mem_map.mp hk
      exact List.mem_map.mpr ⟨b, (mem_dedup b bs).mpr hb, rfl⟩
    · intro hk
      obtain ⟨b, hb, rfl⟩ := List.mem_map.mp hk
      exact List.mem_map.mpr ⟨b, (mem_dedup b bs).mp hb, rfl⟩
  have := p.length_eq
  rw [List.length_map, List.length_map] at this
  rw [← this, Array.length_toList]
theorem de_lenSet (hc : X.calm = true) (hg : Gl X "len") (hm : X.mg "len" = none) (hg2 : Gl X "set") (hm2 : X.mg "set" = none) (ha : DE X cl E e m) (na : starEach [e] X.env = (false, eval e X.env) :: starEach [] X.env := by rfl) :
    DE X cl E (.Call (.Name "len" p) [.Call (.Name "set" p2) [e] [] q] [] pos) (mSetE (fun z => .d (.int (lenS z))) m) := by
  refine ⟨fun pins s σ H Q I h => ?_⟩
  refine PyProof.Rows.Call_ (ld_blt I hg hm boot_len ?_)
  refine PyProof.Rows.callWith_builtin1 (PyProof.Rows.args_cons (thn (set_then (cont := fun v => call (.builtin "len") [v]) hg2 hm2 ha I h na hc fun P B H1 env fps S ls z s1 I1 F1 SM hls h1 => ?_) fun v s1 h1 => PyProof.Rows.args_nil h1) rfl) rfl rfl
  obtain ⟨o, es, ep, t, ho, hex, hd, _, hnd, hmm, hsz, hf, _, _⟩ := SM
  have hn : es.size = lenS z := by
    cases z with
    | inl ns => exact size_set (f := (Sum.inl : Int → Key)) (fun a b h => Sum.inl.inj h) hnd hmm hls
    | inr xs => exact size_set (f := (Sum.inr : Str → Key)) (fun a b h => Sum.inr.inj h) hnd hmm hls
  exact call_len_set ho hex hd hf (by unfold scanBound at hsz; omega) ⟨.int (lenS z), H1, I1.tok _, ⟨_, by rw [hn]⟩, h1 _ _ _ fps Ext.refl F1 (.int _)⟩
end
/-! ### tuple(range(a, b)) -/
def mTupR (ma mb : M Rv) : M Rv := bnd (vm ma) fun r => bnd (vm mb) fun r2 => match r, r2 with
  | .d (.int i), .d (.int j) => if 0 ≤ i ∧ i ≤ 16777216 ∧ 0 ≤ j ∧ j ≤ 16777216 then ret (.d (.tuple (rngD i (j - i).toNat))) else stk
  | _, _ => stk
section
variable {X : Cx} {cl : String → Addr} {E : XK} {a b : Expr} {ma mb : M Rv} {p p2 pos pos2 : Pos}
theorem de_tupR (hc : X.calm = true) (hg : Gl X "tuple") (hm : X.mg "tuple" = none) (hg2 : Gl X "range") (hm2 : X.mg "range" = none) (ha : DE X cl E a ma) (hb : DE X cl E b mb)
    (na : starEach [a, b] X.env = (false, eval a X.env) :: starEach [b] X.env := by rfl) (nb : starEach [b] X.env = (false, eval b X.env) :: starEach [] X.env := by rfl) (hp : (backTo pos2 (starEach [b] X.env)).any (·.1) = false := by rfl)
    (nc : starEach [.Call (.Name "range" p2) [a, b] [] pos2] X.env = (false, eval (.Call (.Name "range" p2) [a, b] [] pos2) X.env) :: starEach [] X.env := by rfl) :
    DE X cl E (.Call (.Name "tuple" p) [.Call (.Name "range" p2) [a, b] [] pos2] [] pos) (mTupR ma mb) := by
  refine ⟨fun pins s σ H Q I ⟨P, B, env, fps, F, h⟩ => (pe_tupRg hc hg hm (prg_2 hg2 hm2 ha hb na nb hp) nc).run pins s σ H Q I ⟨P, B, env, fps, F, ?_⟩⟩
  refine (post_vm h).mono ?_
  rintro v H1 ⟨B1, env1, fps1, r, x1, F1, w1, h1⟩
  refine ⟨P, B1, env1, fps1, F1, ?_⟩
  refine (post_vm h1).mono ?_
  rintro v2 H2 ⟨B2, env2, fps2, r2, x2, F2, w2, h2⟩
  split at h2
  · rename_i i j
    split at h2
    · rename_i hj
      have e1 := rvs_int w1
      have e2 := rvs_int w2
      refine ⟨i, j, e1, e2, RgOk.of_le (by omega) (by omega) (by omega) (by omega), fun l hl => ?_⟩
      obtain ⟨h3, h4, h5⟩ := F2.newB hl
      have xx := Ext.upd (o := .tup (rgV i j)) h3 h4
      exact h2 _ _ _ fps2 xx (F2.allocB hl) (.tup (.inl (.inl upd_same)) (RDs.mono xx.1 _ _ (rgV_rd i (j - i).toNat)))
    · exact h2.elim
  · exact h2.elim
end
/-! ### a op b op c, ints -/
def mCh (g1 g2 : Int → Int → Bool) (ma mb mc : M Rv) : M Bool := bnd (vm ma) fun r1 => bnd (vm mb) fun r2 => match r1, r2 with
  | .d (.int i), .d (.int j) => if g1 i j = true then bnd (vm mc) fun r3 => match r3 with
      | .d (.int k) => ret (g2 j k)
      | _ => stk
    else ret false
  | _, _ => stk
section
variable {X : Cx} {cl : String → Addr} {E : XK} {a b c : Expr} {ma mb mc : M Rv} {pos : Pos} {op op' : CmpOp} {g1 g2 : Int → Int → Bool}
theorem dt_ch (h1 : OpR X (compareOp op) (rI0 fun i j => .bl (g1 i j))) (h2 : OpR X (compareOp op') (rI0 fun i j => .bl (g2 i j))) (ha : DE X cl E a ma) (hb : DE X cl E b mb) (hc : DE X cl E c mc)
    (hm : lastMarks [op, op'] [b, c] = false := by with_unfolding_all rfl) : DT X cl E (.Compare a [op, op'] [b, c] pos) (mCh g1 g2 ma mb mc) := by
  refine ⟨fun pins s σ H Q I h => (pt_chain h1 h2 ha hb hc hm).run pins s σ H Q I ?_⟩
  obtain ⟨P, B, env, fps, F, h⟩ := h
  refine ⟨P, B, env, fps, F, (postX_vm h).mono ?_⟩
  rintro v H1 ⟨B1, env1, fps1, r1, x1, F1, w1, h3⟩
  refine ⟨P, B1, env1, fps1, F1, (postX_vm h3).mono ?_⟩
  rintro v2 H2 ⟨B2, env2, fps2, r2, x2, F2, w2, h4⟩
  split at h4
  · rename_i i j
    refine ⟨i, j, rvs_int w1, rvs_int w2, _, rfl, ?_⟩
    split at h4
    · rename_i hg
      rw [if_pos hg]
      refine ⟨P, B2, env2, fps2, F2, (postX_vm h4).mono ?_⟩
      rintro v3 H3 ⟨B3, env3, fps3, r3, x3, F3, w3, h5⟩
      split at h5
      · rename_i k
        exact ⟨j, k, rvs_int w2, rvs_int w3, _, rfl, h5 _ _ _ Ext.refl F3⟩
      · exact h5.elim
    · rename_i hg
      rw [if_neg hg]
      exact ⟨_, rfl, h4 _ _ _ Ext.refl F2⟩
  · exact h4.elim
end
end Mi

set_option Elab.async false
set_option linter.all false
namespace Mi
open PySem PySem.Spec L2

/-! ### what a mirror comes to -/
def Opt {α : Type} (o : Option α) (Q : α → Prop) : Prop := match o with
  | some a => Q a
  | none => False
def Ok {α : Type} (r : Rs α) (Q : α → Env → Prop) : Prop := match r with
  | .ok a e => Q a e
  | _ => False
section
variable {α β : Type} {Q : α → Env → Prop} {Q' : α → Env → Prop}
theorem opt_some {a : α} {Q : α → Prop} : Opt (some a) Q ↔ Q a := Iff.rfl
theorem opt_none {Q : α → Prop} : Opt (none : Option α) Q ↔ False := Iff.rfl
theorem opt_map {f : α → β} {o : Option α} {Q : β → Prop} : Opt (o.map f) Q ↔ Opt o fun a => Q (f a) := by cases o <;> exact Iff.rfl
theorem opt_bind {f : α → Option β} {o : Option α} {Q : β → Prop} : Opt (o.bind f) Q ↔ Opt o fun a => Opt (f a) Q := by cases o <;> exact Iff.rfl
theorem opt_ite {c : Prop} [Decidable c] {o : Option α} {Q : α → Prop} : Opt (if c then o else none) Q ↔ c ∧ Opt o Q := by
  by_cases h : c
  · simp only [h, if_true, true_and]
  · simp only [h, if_false, false_and, opt_none]
theorem Opt.mono {o : Option α} {Q R : α → Prop} (h : Opt o Q) (f : ∀ a, Q a → R a) : Opt o R := by
  cases o with
  | none => exact h
  | some a => exact f a h
theorem Opt.get {o : Option α} {Q : α → Prop} (h : Opt o Q) : ∃ a, o = some a ∧ Q a := by
  cases o with
  | none => exact h.elim
  | some a => exact ⟨a, rfl, h⟩
theorem ok_ok {a : α} {e : Env} : Ok (.ok a e) Q ↔ Q a e := Iff.rfl
theorem ok_ex {c : String} {e : Env} : Ok (.ex c e) Q ↔ False := Iff.rfl
theorem ok_stuck : Ok (Rs.stuck : Rs α) Q ↔ False := Iff.rfl
theorem ok_ret {a : α} {e : Env} : Ok (ret a e) Q ↔ Q a e := Iff.rfl
theorem ok_stk {e : Env} : Ok ((stk : M α) e) Q ↔ False := Iff.rfl
theorem Ok.mono {r : Rs α} (h : Ok r Q) (f : ∀ a e, Q a e → Q' a e) : Ok r Q' := by
  cases r with
  | ok a e => exact f a e h
  | ex c e => exact h
  | stuck => exact h
theorem Ok.get {r : Rs α} (h : Ok r Q) : ∃ a e, r = .ok a e ∧ Q a e := by
  cases r with
  | ok a e => exact ⟨a, e, rfl, h⟩
  | ex c e => exact h.elim
  | stuck => exact h.elim
theorem ok_bnd {m : M α} {k : α → M β} {env : Env} {R : β → Env → Prop} : Ok (bnd m k env) R ↔ Ok (m env) fun a e => Ok (k a e) R := by
  unfold bnd
  cases m env <;> exact Iff.rfl
theorem ok_ofO {o : Option α} {e : Env} : Ok (ofO o e) Q ↔ Opt o fun a => Q a e := by
  cases o <;> exact Iff.rfl
theorem ok_ite' {c : Prop} [Decidable c] {a b : M α} {e : Env} : Ok ((if c then a else b) e) Q ↔ (c → Ok (a e) Q) ∧ (¬c → Ok (b e) Q) := by
  by_cases h : c
  · simp only [h, if_true, true_implies, not_true, false_implies, and_true]
  · simp only [h, if_false, false_implies, not_false_iff, true_implies, true_and]
end
def RB (r : Rv) (K : Bool → Prop) : Prop := match r with
  | .d (.bool b) => K b
  | _ => False
theorem rb_b {b : Bool} {K : Bool → Prop} : RB (.d (.bool b)) K ↔ K b := Iff.rfl
section
variable {env : Env} {Q : Rv → Env → Prop} {QB : Bool → Env → Prop} {QL : List Rv → Env → Prop} {QD : D → Env → Prop} {QF : Fl → Env → Prop}
theorem ok_vm {m : M Rv} : Ok (vm m env) Q ↔ Ok (m env) fun r e => Q r.frz e := ok_bnd
theorem ok_mC {d : D} : Ok (mC d env) Q ↔ Q (.d d) env := Iff.rfl
theorem ok_bin {g : D → D → Option Out} {ma mb : M Rv} : Ok (mBin g ma mb env) Q ↔ Ok (ma env) fun r1 e1 => Ok (mb e1) fun r2 e2 => Opt (res e2 r1.frz) fun x => Opt (res e2 r2.frz) fun y => Opt (g x y) fun o => Q o.rv e2 := by
  unfold mBin
  rw [ok_bnd, ok_vm]
  refine Iff.of_eq (congrArg _ (funext fun r1 => funext fun e1 => propext ?_))
  rw [ok_bnd, ok_vm]
  refine Iff.of_eq (congrArg _ (funext fun r2 => funext fun e2 => propext ?_))
  cases h1 : res e2 r1.frz with
  | none => simp only [ok_stuck, opt_none]
  | some x =>
    cases h2 : res e2 r2.frz with
    | none => simp only [ok_stuck, opt_none, opt_some]
    | some y =>
      simp only [opt_some]
      cases g x y <;> exact Iff.rfl
theorem ok_isi {T : String} {m : M Rv} : Ok (mIsi T m env) Q ↔ Ok (m env) fun r e => Opt (res e r.frz) fun x => Q (.d (.bool (isiD T x))) e := by
  unfold mIsi
  rw [ok_bnd, ok_vm]
  refine Iff.of_eq (congrArg _ (funext fun r1 => funext fun e1 => propext ?_))
  cases h1 : res e1 r1.frz <;> exact Iff.rfl
theorem ok_tst {m : M Rv} : Ok (tst m env) QB ↔ Ok (m env) fun r e => RB r fun b => QB b e := by
  unfold tst
  rw [ok_bnd]
  refine Iff.of_eq (congrArg _ (funext fun r1 => funext fun e1 => propext ?_))
  rcases r1 with (_ | b | _ | _ | _ | _ | _) | _ | _ <;> exact Iff.rfl
theorem ok_and {t u : M Bool} : Ok (mAnd t u env) QB ↔ Ok (t env) fun c e => (c = true → Ok (u e) QB) ∧ (c = false → QB false e) := by
  unfold mAnd
  rw [ok_bnd]
  refine Iff.of_eq (congrArg _ (funext fun c => funext fun e1 => propext ?_))
  cases c <;> simp [ok_ret]
theorem ok_or {t u : M Bool} : Ok (mOr t u env) QB ↔ Ok (t env) fun c e => (c = true → QB true e) ∧ (c = false → Ok (u e) QB) := by
  unfold mOr
  rw [ok_bnd]
  refine Iff.of_eq (congrArg _ (funext fun c => funext fun e1 => propext ?_))
  cases c <;> simp [ok_ret]
theorem ok_not {t : M Bool} : Ok (mNot t env) QB ↔ Ok (t env) fun c e => QB (!c) e := ok_bnd
theorem ok_andV {ma mb : M Rv} : Ok (mAndV ma mb env) Q ↔ Ok (ma env) fun r e => RB r fun c => (c = true → Ok (mb e) Q) ∧ (c = false → Q (.d (.bool false)) e) := by
  unfold mAndV
  rw [ok_bnd]
  refine Iff.of_eq (congrArg _ (funext fun r => funext fun e1 => propext ?_))
  rcases r with (_ | b | _ | _ | _ | _ | _) | _ | _ <;> try exact Iff.rfl
  cases b <;> simp [RB, ok_ret]
theorem ok_orV {ma mb : M Rv} : Ok (mOrV ma mb env) Q ↔ Ok (ma env) fun r e => RB r fun c => (c = true → Q (.d (.bool true)) e) ∧ (c = false → Ok (mb e) Q) := by
  unfold mOrV
  rw [ok_bnd]
  refine Iff.of_eq (congrArg _ (funext fun r => funext fun e1 => propext ?_))
  rcases r with (_ | b | _ | _ | _ | _ | _) | _ | _ <;> try exact Iff.rfl
  cases b <;> simp [RB, ok_ret]
theorem ok_notV {ma : M Rv} : Ok (mNotV ma env) Q ↔ Ok (ma env) fun r e => RB r fun c => Q (.d (.bool (!c))) e := by
  unfold mNotV
  rw [ok_bnd]
  refine Iff.of_eq (congrArg _ (funext fun r => funext fun e1 => propext ?_))
  rcases r with (_ | b | _ | _ | _ | _ | _) | _ | _ <;> exact Iff.rfl
theorem ok_mif {t : M Bool} {ma mb : M Rv} : Ok (mIf t ma mb env) Q ↔ Ok (t env) fun c e => (c = true → Ok (ma e) Q) ∧ (c = false → Ok (mb e) Q) := by
  unfold mIf
  rw [ok_bnd]
  refine Iff.of_eq (congrArg _ (funext fun c => funext fun e1 => propext ?_))
  cases c <;> simp
theorem ok_nil : Ok (mNil env) QL ↔ QL [] env := Iff.rfl
theorem ok_cons {m : M Rv} {ms : M (List Rv)} : Ok (mCons m ms env) QL ↔ Ok (m env) fun r e => Ok (ms e) fun rs e2 => QL (r.frz :: rs) e2 := by
  unfold mCons
  rw [ok_bnd, ok_vm]
  refine Iff.of_eq (congrArg _ (funext fun c => funext fun e1 => propext ?_))
  exact ok_bnd
theorem ok_frz_d {d : D} : Ok (frzR (.d d) env) QD ↔ QD d env := Iff.rfl
theorem ok_frz_pl {i : Nat} : Ok (frzR (.pl i) env) QD ↔ Opt (env[i]?) fun o => Opt o fun o => match o with
    | .lst ds => QD (.list ds) (env.set i (some (.dat (.list ds))))
    | .dct _ => QD (.dict []) (env.set i (some (.dat (.dict []))))
    | .dat d => QD d env
    | .tpl _ => False := by
  show Ok (match env[i]? with
    | some (some (.lst ds)) => .ok (.list ds) (env.set i (some (.dat (.list ds))))
    | some (some (.dct _)) => .ok (.dict []) (env.set i (some (.dat (.dict []))))
    | some (some (.dat d)) => .ok d env
    | _ => .stuck) QD ↔ _
  rcases env[i]? with _ | _ | _ | _ | _ | _ <;> exact Iff.rfl
theorem ok_frzAll_nil {QL : List D → Env → Prop} : Ok (frzAll [] env) QL ↔ QL [] env := Iff.rfl
theorem ok_frzAll_cons {r : Rv} {rs : List Rv} {QL : List D → Env → Prop} : Ok (frzAll (r :: rs) env) QL ↔ Ok (frzR r env) fun d e => Ok (frzAll rs e) fun ds e2 => QL (d :: ds) e2 := by
  show Ok (bnd (frzR r) (fun d => bnd (frzAll rs) fun ds => ret (d :: ds)) env) QL ↔ _
  rw [ok_bnd]
  refine Iff.of_eq (congrArg _ (funext fun c => funext fun e1 => propext ?_))
  exact ok_bnd
theorem ok_tup {ms : M (List Rv)} : Ok (mTup ms env) Q ↔ Ok (ms env) fun rs e => Ok (frzAll rs e) fun ds e2 => Q (.d (.tuple ds)) e2 := by
  unfold mTup mFr
  rw [ok_bnd, ok_bnd]; exact Iff.rfl
theorem ok_lst {ms : M (List Rv)} : Ok (mLst ms env) Q ↔ Ok (ms env) fun rs e => Ok (frzAll rs e) fun ds e2 => Q (.own (.lst ds)) e2 := by
  unfold mLst mFr
  rw [ok_bnd, ok_bnd]; exact Iff.rfl
theorem ok_no {QO : Option Int → Env → Prop} : Ok (mNo env) QO ↔ QO none env := Iff.rfl
def RI (r : Rv) (K : Int → Prop) : Prop := match r with
  | .d (.int b) => K b
  | _ => False
theorem ri_i {b : Int} {K : Int → Prop} : RI (.d (.int b)) K ↔ K b := Iff.rfl
theorem ok_so {m : M Rv} {QO : Option Int → Env → Prop} : Ok (mSo m env) QO ↔ Ok (m env) fun r e => RI r.frz fun i => QO (some i) e := by
  unfold mSo
  rw [ok_bnd, ok_vm]
  refine Iff.of_eq (congrArg _ (funext fun r => funext fun e1 => propext ?_))
  generalize r.frz = r
  rcases r with (_ | b | _ | _ | _ | _ | _) | _ | _ <;> exact Iff.rfl
theorem ok_sl {m : M Rv} {lo hi : M (Option Int)} : Ok (mSl m lo hi env) Q ↔ Ok (m env) fun r e => Ok (lo e) fun l e1 => Ok (hi e1) fun u e2 => Opt (res e2 r.frz) fun x => Opt (gCut x l u) fun o => Q o.rv e2 := by
  unfold mSl
  rw [ok_bnd, ok_vm]
  refine Iff.of_eq (congrArg _ (funext fun r => funext fun e1 => propext ?_))
  rw [ok_bnd]
  refine Iff.of_eq (congrArg _ (funext fun l => funext fun e1 => propext ?_))
  rw [ok_bnd]
  refine Iff.of_eq (congrArg _ (funext fun u => funext fun e1 => propext ?_))
  cases res e1 r.frz with
  | none => exact Iff.rfl
  | some x =>
    simp only [opt_some]
    cases gCut x l u <;> exact Iff.rfl
theorem ok_cb {g : List D → Option Out} {ms : M (List Rv)} : Ok (mCB g ms env) Q ↔ Ok (ms env) fun rs e => Opt (resAll e rs) fun xs => Opt (g xs) fun o => Q o.rv e := by
  unfold mCB
  rw [ok_bnd]
  refine Iff.of_eq (congrArg _ (funext fun r => funext fun e1 => propext ?_))
  cases resAll e1 r with
  | none => exact Iff.rfl
  | some x =>
    simp only [opt_some]
    cases g x <;> exact Iff.rfl
theorem resAll_nil : resAll env [] = some [] := rfl
theorem resAll_cons {r : Rv} {rs : List Rv} : resAll env (r :: rs) = (res env r).bind fun d => (resAll env rs).map fun ds => d :: ds := by
  show (match res env r, resAll env rs with
    | some d, some ds => some (d :: ds)
    | _, _ => none) = _
  cases res env r <;> cases resAll env rs <;> rfl
theorem ok_call {io : List Nat} {F : M O} {ms : M (List Rv)} : Ok (mCall io F ms env) Q ↔ Ok (ms env) fun rs e => Opt (argOs io e 0 rs) fun cenv => apart (ioSlots io 0 rs) (lentSlots io 0 rs) = true ∧ Ok (F cenv) fun o ce => ((lentSlots io 0 rs).isEmpty || (o.flat && allFlat ce (ioSlots io 0 rs))) = true ∧ Opt (backEnv ce (ioSlots io 0 rs) e) fun e' => Q o.rv e' := by
  unfold mCall
  rw [ok_bnd]
  refine Iff.of_eq (congrArg _ (funext fun rs => funext fun e1 => propext ?_))
  cases argOs io e1 0 rs with
  | none => exact Iff.rfl
  | some cenv =>
    simp only [opt_some]
    by_cases ha : apart (ioSlots io 0 rs) (lentSlots io 0 rs) = true
    · simp only [ha, if_true, true_and]
      cases F cenv with
      | ex => simp only [ok_ex, iff_false]; intro h; split at h
              · split at h <;> exact h
              · exact h
      | stuck => exact Iff.rfl
      | ok o ce =>
        simp only [ok_ok]
        by_cases hf : ((lentSlots io 0 rs).isEmpty || (o.flat && allFlat ce (ioSlots io 0 rs))) = true
        · simp only [hf, if_true, true_and]
          cases backEnv ce (ioSlots io 0 rs) e1 <;> exact Iff.rfl
        · simp [hf, ok_stuck]
    · simp [ha, ok_stuck]
def seqQ (b : M Fl) (Q : Fl → Env → Prop) : Fl → Env → Prop
  | .nx, e => Ok (b e) Q
  | fl, e => Q fl e
theorem ok_seq {a b : M Fl} : Ok (mSeq a b env) QF ↔ Ok (a env) (seqQ b QF) := by
  unfold mSeq
  rw [ok_bnd]
  refine Iff.of_eq (congrArg _ (funext fun rs => funext fun e1 => propext ?_))
  cases rs <;> exact Iff.rfl
theorem seqQ_nx {b : M Fl} {e : Env} : seqQ b QF .nx e ↔ Ok (b e) QF := Iff.rfl
theorem seqQ_rt {b : M Fl} {e : Env} {o : O} : seqQ b QF (.rt o) e ↔ QF (.rt o) e := Iff.rfl
theorem seqQ_bk {b : M Fl} {e : Env} : seqQ b QF .bk e ↔ QF .bk e := Iff.rfl
theorem seqQ_ct {b : M Fl} {e : Env} : seqQ b QF .ct e ↔ QF .ct e := Iff.rfl
theorem ok_mEx {m : M Rv} : Ok (mEx m env) QF ↔ Ok (m env) fun _ e => QF .nx e := ok_bnd
def RO (io : List Nat) (e : Env) (r : Rv) (K : O → Prop) : Prop := match r with
  | .d x => K (.dat x)
  | .own o => K o
  | .pl i => io.contains i = false ∧ Opt (e[i]?) fun o => Opt o K
theorem ro_d {io : List Nat} {e : Env} {x : D} {K : O → Prop} : RO io e (.d x) K ↔ K (.dat x) := Iff.rfl
theorem ro_own {io : List Nat} {e : Env} {x : O} {K : O → Prop} : RO io e (.own x) K ↔ K x := Iff.rfl
theorem ro_pl {io : List Nat} {e : Env} {i : Nat} {K : O → Prop} : RO io e (.pl i) K ↔ io.contains i = false ∧ Opt (e[i]?) fun o => Opt o K := Iff.rfl
theorem ok_mRet {io : List Nat} {m : M Rv} : Ok (mRet io m env) QF ↔ Ok (m env) fun r e => RO io e r fun o => QF (.rt o) e := by
  unfold mRet
  rw [ok_bnd]
  refine Iff.of_eq (congrArg _ (funext fun r => funext fun e1 => propext ?_))
  cases r with
  | d x => exact Iff.rfl
  | own x => exact Iff.rfl
  | pl i =>
    simp only [ro_pl]
    cases io.contains i with
    | true => simp [ok_stuck]
    | false =>
      simp only [Bool.false_eq_true, if_false, true_and]
      rcases e1[i]? with _ | _ | _ <;> exact Iff.rfl
theorem ok_ite {t : M Bool} {a b : M Fl} : Ok (mIte t a b env) QF ↔ Ok (t env) fun c e => (c = true → Ok (a e) QF) ∧ (c = false → Ok (b e) QF) := by
  unfold mIte
  rw [ok_bnd]
  refine Iff.of_eq (congrArg _ (funext fun c => funext fun e1 => propext ?_))
  cases c <;> simp
theorem ok_set {i : Nat} {m : M Rv} : Ok (mSet i m env) QF ↔ Ok (m env) fun r e => Ok (setK i r e) QF := ok_bnd
theorem ok_setK_d {i : Nat} {x : D} : Ok (setK i (.d x) env) QF ↔ QF .nx (env.set i (some (.dat x))) := Iff.rfl
theorem ok_setK_own {i : Nat} {x : O} : Ok (setK i (.own x) env) QF ↔ QF .nx (env.set i (some x)) := Iff.rfl
theorem ok_setK_pl {i j : Nat} : Ok (setK i (.pl j) env) QF ↔ Ok (frzR (.pl j) env) fun d e => QF .nx (e.set i (some (.dat d))) := by
  show Ok (bnd (frzR (.pl j)) (fun d => bnd (setEnv i (.d d)) fun _ => ret .nx) env) QF ↔ _
  rw [ok_bnd]; exact Iff.rfl
def runQ (Q : O → Env → Prop) : Fl → Env → Prop
  | .rt o, e => Q o e
  | .nx, e => Q (.dat .none) e
  | _, _ => False
theorem ok_runF {n : Nat} {m : M Fl} {os : Env} {QO : O → Env → Prop} : Ok (runF n m os) QO ↔ Ok (m (os ++ List.replicate (n - os.length) none)) (runQ QO) := by
  unfold runF
  cases m (os ++ List.replicate (n - os.length) none) with
  | ex => exact Iff.rfl
  | stuck => exact Iff.rfl
  | ok fl e => cases fl <;> exact Iff.rfl
theorem runQ_rt {QO : O → Env → Prop} {o : O} {e : Env} : runQ QO (.rt o) e ↔ QO o e := Iff.rfl
theorem runQ_nx {QO : O → Env → Prop} {e : Env} : runQ QO .nx e ↔ QO (.dat .none) e := Iff.rfl
theorem frz_d {x : D} : Rv.frz (.d x) = .d x := rfl
theorem frz_lst {x : List D} : Rv.frz (.own (.lst x)) = .d (.list x) := rfl
theorem frz_dat {x : D} : Rv.frz (.own (.dat x)) = .d x := rfl
theorem frz_pl {i : Nat} : Rv.frz (.pl i) = .pl i := rfl
theorem res_d {x : D} : res env (.d x) = some x := rfl
theorem res_pl {i : Nat} : res env (.pl i) = match env[i]? with
  | some (some (.lst ds)) => some (.list ds)
  | _ => none := rfl
theorem rv_val {d : D} : Out.rv (.val d) = .d d := rfl
theorem rv_tup {d : List D} : Out.rv (.tup d) = .d (.tuple d) := rfl
theorem rv_lst {d : List D} : Out.rv (.lst d) = .own (.lst d) := rfl
theorem orv_dat {d : D} : O.rv (.dat d) = .d d := rfl
theorem orv_lst {d : List D} : O.rv (.lst d) = .own (.lst d) := rfl
theorem ok_neg {m : M Rv} : Ok (mNeg m env) Q ↔ Ok (m env) fun r e => RI r.frz fun i => Q (.d (.int (-i))) e := by
  unfold mNeg
  rw [ok_bnd, ok_vm]
  refine Iff.of_eq (congrArg _ (funext fun r => funext fun e1 => propext ?_))
  generalize r.frz = r
  rcases r with (_ | b | _ | _ | _ | _ | _) | _ | _ <;> exact Iff.rfl
theorem ok_lstR {m : M Rv} : Ok (mLstR m env) Q ↔ Ok (m env) fun r e => RI r.frz fun j => (0 ≤ j ∧ j ≤ 16777216) ∧ Q (.own (.lst (rngD 0 j.toNat))) e := by
  unfold mLstR
  rw [ok_bnd, ok_vm]
  refine Iff.of_eq (congrArg _ (funext fun r => funext fun e1 => propext ?_))
  generalize r.frz = r
  rcases r with (_ | b | j | _ | _ | _ | _) | _ | _ <;> try exact Iff.rfl
  simp only [ri_i]
  split
  · rename_i h; simp only [h, true_and, ok_ret, and_self]
  · rename_i h; simp only [h, false_and, ok_stk]
def lstAt (i : Nat) (e : Env) (K : List D → Prop) : Prop := match e[i]? with
  | some (some (.lst ds)) => K ds
  | _ => False
theorem lstAt_of {i : Nat} {e : Env} {K : List D → Prop} {ds : List D} (h : e[i]? = some (some (.lst ds))) : lstAt i e K ↔ K ds := by
  unfold lstAt; rw [h]
theorem ok_chkL {i : Nat} {QU : Unit → Env → Prop} : Ok (chkL i env) QU ↔ lstAt i env fun _ => QU () env := by
  unfold chkL lstAt
  rcases env[i]? with _ | _ | _ | _ | _ <;> exact Iff.rfl
theorem ok_mMet {i : Nat} {g : List D → List D → Option (D × List D)} {ms : M (List Rv)} : Ok (mMet i g ms env) Q ↔ lstAt i env fun _ => Ok (ms env) fun rs e => lstAt i e fun zs => Opt (resAll e rs) fun xs => Opt (g zs xs) fun p => Q (.d p.1) (e.set i (some (.lst p.2))) := by
  unfold mMet
  rw [ok_bnd, ok_chkL]
  refine Iff.of_eq (congrArg (lstAt i env) (funext fun _ => propext ?_))
  rw [ok_bnd]
  refine Iff.of_eq (congrArg _ (funext fun r => funext fun e1 => propext ?_))
  unfold lstAt
  rcases e1[i]? with _ | _ | _ | _ | _ <;> try exact Iff.rfl
  cases resAll e1 r with
  | none => exact Iff.rfl
  | some xs =>
    simp only [opt_some]
    rename_i zs
    rcases g zs xs with _ | ⟨_, _⟩ <;> exact Iff.rfl
theorem ok_mMetF {i : Nat} {g : List D → List D → Option (D × List D)} {ms : M (List Rv)} : Ok (mMetF i g ms env) Q ↔ lstAt i env fun _ => Ok (ms env) fun rs e => Ok (frzAll rs e) fun xs e => lstAt i e fun zs => Opt (g zs xs) fun p => Q (.d p.1) (e.set i (some (.lst p.2))) := by
  unfold mMetF mFr
  rw [ok_bnd, ok_chkL]
  refine Iff.of_eq (congrArg (lstAt i env) (funext fun _ => propext ?_))
  rw [ok_bnd, ok_bnd]
  refine Iff.of_eq (congrArg _ (funext fun r => funext fun e1 => propext ?_))
  refine Iff.of_eq (congrArg _ (funext fun xs => funext fun e1 => propext ?_))
  unfold lstAt
  rcases e1[i]? with _ | _ | _ | zs | _ <;> try exact Iff.rfl
  show Ok (match g zs xs with
    | some (d, zs') => Rs.ok (Rv.d d) (e1.set i (some (.lst zs')))
    | none => .stuck) Q ↔ Opt (g zs xs) fun p => Q (.d p.1) (e1.set i (some (.lst p.2)))
  rcases g zs xs with _ | ⟨_, _⟩ <;> exact Iff.rfl
theorem ok_store {j : Nat} {me mi : M Rv} : Ok (mStore j me mi env) QF ↔ Ok (me env) fun r e => lstAt j e fun _ => Ok (mi e) fun ri e => Ok (frzR r.frz e) fun y e => RI ri.frz fun k => lstAt j e fun ds => Opt (ixN ds.length k) fun n => QF .nx (e.set j (some (.lst (ds.set n y)))) := by
  unfold mStore
  rw [ok_bnd, ok_vm]
  refine Iff.of_eq (congrArg _ (funext fun r => funext fun e => propext ?_))
  rw [ok_bnd, ok_chkL]
  refine Iff.of_eq (congrArg (lstAt j e) (funext fun _ => propext ?_))
  rw [ok_bnd, ok_vm]
  refine Iff.of_eq (congrArg _ (funext fun ri => funext fun e => propext ?_))
  rw [ok_bnd]
  refine Iff.of_eq (congrArg _ (funext fun y => funext fun e => propext ?_))
  generalize ri.frz = ri
  unfold lstAt
  rcases ri with (_ | b | k | _ | _ | _ | _) | _ | _ <;> try exact Iff.rfl
  simp only [ri_i]
  rcases e[j]? with _ | _ | _ | ds | _ <;> try exact Iff.rfl
  show Ok (match ixN ds.length k with
    | some n => Rs.ok Fl.nx (e.set j (some (.lst (ds.set n y))))
    | none => .stuck) QF ↔ Opt (ixN ds.length k) fun n => QF .nx (e.set j (some (.lst (ds.set n y))))
  cases ixN ds.length k <;> exact Iff.rfl
/-! #### walks -/
theorem ok_mFor {it : M Wk} {tg : Tg} {body : M Fl} : Ok (mFor it tg body env) QF ↔ Ok (it env) fun w e => Ok (forL tg w.src body w.items e) QF := ok_bnd
def forQ (I : Env → Prop) (Q : Fl → Env → Prop) : Fl → Env → Prop
  | .nx, e => I e
  | .ct, e => I e
  | .bk, e => Q .nx e
  | .rt o, e => Q (.rt o) e
theorem forQ_nx {I : Env → Prop} {e : Env} : forQ I QF .nx e ↔ I e := Iff.rfl
theorem forQ_ct {I : Env → Prop} {e : Env} : forQ I QF .ct e ↔ I e := Iff.rfl
theorem forQ_bk {I : Env → Prop} {e : Env} : forQ I QF .bk e ↔ QF .nx e := Iff.rfl
theorem forQ_rt {I : Env → Prop} {e : Env} {o : O} : forQ I QF (.rt o) e ↔ QF (.rt o) e := Iff.rfl
theorem ok_forL {tg : Tg} {src : Option (Nat × List D)} {body : M Fl} (I : List D → Env → Prop) (hend : ∀ e, I [] e → srcOk e src = true ∧ QF .nx e)
    (hstep : ∀ d ds e, I (d :: ds) e → srcOk e src = true ∧ Opt (asgT tg d e) fun e1 => Ok (body e1) (forQ (I ds) QF)) : ∀ {ds : List D} {env : Env}, I ds env → Ok (forL tg src body ds env) QF
  | [], env, h => by
    unfold forL
    rw [if_pos (hend env h).1]
    exact (hend env h).2
  | d :: ds, env, h => by
    obtain ⟨h1, h2⟩ := hstep d ds env h
    obtain ⟨e1, q1, h2⟩ := h2.get
    obtain ⟨fl, e2, q2, h2⟩ := h2.get
    unfold forL
    simp only [h1, if_true, q1, q2]
    cases fl with
    | nx => exact ok_forL I hend hstep (ds := ds) h2
    | ct => exact ok_forL I hend hstep (ds := ds) h2
    | bk => exact h2
    | rt o => exact h2
theorem ok_mLc {it : M Wk} {tg : Tg} {tt : M Bool} {te : M Rv} {vs : List Nat} : Ok (mLc it tg tt te vs env) Q ↔ Ok (it env) fun w e => (ownFree e vs = true ∧ w.items.length ≤ sizeLine) ∧ Ok (lcL tg w.src tt te vs w.items [] (wipeE e vs)) fun acc e2 => Q (.own (.lst acc)) (restE e e2 vs) := by
  unfold mLc
  rw [ok_bnd]
  refine Iff.of_eq (congrArg _ (funext fun w => funext fun e => propext ?_))
  split
  · rename_i h
    simp only [h, true_and, and_self]
    cases lcL tg w.src tt te vs w.items [] (wipeE e vs) <;> exact Iff.rfl
  · rename_i h
    simp only [h, false_and, ok_stuck]
theorem ok_lcL {tg : Tg} {src : Option (Nat × List D)} {tt : M Bool} {te : M Rv} {vs : List Nat} {QL : List D → Env → Prop} (I : List D → List D → Env → Prop) (hend : ∀ acc e, I [] acc e → srcOk e src = true ∧ QL acc e)
    (hstep : ∀ d ds acc e, I (d :: ds) acc e → srcOk e src = true ∧ Opt (asgT tg d e) fun e1 => Ok (tt e1) fun b e2 =>
      (b = true → Ok (te e2) fun r e3 => Ok (frzR r.frz e3) fun y e4 => ownFree e4 vs = true ∧ I ds (acc ++ [y]) (wipeE e4 vs)) ∧ (b = false → ownFree e2 vs = true ∧ I ds acc (wipeE e2 vs))) :
    ∀ {ds acc : List D} {env : Env}, I ds acc env → Ok (lcL tg src tt te vs ds acc env) QL
  | [], acc, env, h => by
    unfold lcL
    rw [if_pos (hend acc env h).1]
    exact (hend acc env h).2
  | d :: ds, acc, env, h => by
    obtain ⟨h1, h2⟩ := hstep d ds acc env h
    obtain ⟨e1, q1, h2⟩ := h2.get
    obtain ⟨b, e2, q2, h2⟩ := h2.get
    unfold lcL
    simp only [h1, if_true, q1, q2]
    cases b with
    | false =>
      simp only [(h2.2 rfl).1, if_true]
      exact ok_lcL I hend hstep (ds := ds) (h2.2 rfl).2
    | true =>
      have h3 : Ok ((bnd (vm te) frzR) e2) fun y e4 => ownFree e4 vs = true ∧ I ds (acc ++ [y]) (wipeE e4 vs) := by
        rw [ok_bnd, ok_vm]; exact h2.1 rfl
      obtain ⟨y, e4, q4, h3⟩ := h3.get
      simp only [q4, h3.1, if_true]
      exact ok_lcL I hend hstep (ds := ds) h3.2
/-- a walk that changes nothing -/
theorem ok_lcP {tg : Tg} {src : Option (Nat × List D)} {tt : M Bool} {te : M Rv} {vs : List Nat} {QL : List D → Env → Prop} (t : D → Bool) (f : D → D) {items : List D} {e0 : Env} (hs : srcOk e0 src = true)
    (hstep : ∀ d ∈ items, Opt (asgT tg d e0) fun e1 => Ok (tt e1) fun b e2 => b = t d ∧
      (b = true → Ok (te e2) fun r e3 => Ok (frzR r.frz e3) fun y e4 => y = f d ∧ ownFree e4 vs = true ∧ wipeE e4 vs = e0) ∧ (b = false → ownFree e2 vs = true ∧ wipeE e2 vs = e0))
    (hq : QL ((items.filter t).map f) e0) : Ok (lcL tg src tt te vs items [] e0) QL := by
  refine ok_lcL (fun ds acc e => e = e0 ∧ ∃ ys, items = ys ++ ds ∧ acc = (ys.filter t).map f) ?_ ?_ ⟨rfl, [], rfl, rfl⟩
  · rintro acc e ⟨rfl, ys, rfl, rfl⟩
    rw [List.append_nil] at hq
    exact ⟨hs, hq⟩
  · rintro d ds acc e ⟨rfl, ys, rfl, rfl⟩
    refine ⟨hs, (hstep d (by simp)).mono fun e1 h1 => h1.mono fun b e2 h2 => ?_⟩
    obtain ⟨rfl, h2, h3⟩ := h2
    refine ⟨fun hb => (h2 hb).mono fun r e3 h3 => h3.mono fun y e4 h4 => ?_, fun hb => ?_⟩
    · obtain ⟨rfl, h4, h5⟩ := h4
      exact ⟨h4, h5, ys ++ [d], by simp, by simp [hb]⟩
    · exact ⟨(h3 hb).1, (h3 hb).2, ys ++ [d], by simp, by simp [hb]⟩
theorem ok_mWk {js : List Nat} {m : M Rv} {QW : Wk → Env → Prop} : Ok (mWk js m env) QW ↔ Ok (m env) fun r e => Opt (wkOf js e r.frz) fun w => QW w e := by
  unfold mWk
  rw [ok_bnd, ok_vm]
  refine Iff.of_eq (congrArg _ (funext fun r => funext fun e => propext ?_))
  cases wkOf js e r.frz <;> exact Iff.rfl
theorem wkOf_str {js : List Nat} {z : Str} : wkOf js env (.d (.str z)) = some ⟨txtD z, none⟩ := rfl
theorem wkOf_list {js : List Nat} {ds : List D} : wkOf js env (.d (.list ds)) = some ⟨ds, none⟩ := rfl
theorem wkOf_tuple {js : List Nat} {ds : List D} : wkOf js env (.d (.tuple ds)) = some ⟨ds, none⟩ := rfl
theorem wkOf_pl {js : List Nat} {i : Nat} : wkOf js env (.pl i) = if js.contains i = true then match env[i]? with
    | some (some (.lst ds)) => some ⟨ds, some (i, ds)⟩
    | _ => none
    else none := by
  unfold wkOf seqOf
  by_cases h : js.contains i = true
  · simp only [h, if_true]
    rcases env[i]? with _ | _ | _ | _ | _ <;> rfl
  · simp only [h, if_false]; rfl
def rsI (rs : List Rv) (K : Int → Prop) : Prop := match rs with
  | [.d (.int j)] => K j
  | _ => False
theorem rsI_i {j : Int} {K : Int → Prop} : rsI [.d (.int j)] K ↔ K j := Iff.rfl
theorem ok_rng1 {ms : M (List Rv)} {QW : Wk → Env → Prop} : Ok (mRng1 ms env) QW ↔ Ok (ms env) fun rs e => rsI rs fun j => (-(2 ^ 62) ≤ j ∧ j < 2 ^ 62) ∧ QW ⟨rngD 0 j.toNat, none⟩ e := by
  unfold mRng1
  rw [ok_bnd]
  refine Iff.of_eq (congrArg _ (funext fun rs => funext fun e => propext ?_))
  rcases rs with _ | ⟨(_ | _ | j | _ | _ | _ | _) | _ | _, _ | ⟨_, _⟩⟩ <;> try exact Iff.rfl
  simp only [rsI_i]
  split
  · rename_i h; simp only [h, true_and, ok_ret, and_self]
  · rename_i h; simp only [h, false_and, ok_stk]
def rsI2 (rs : List Rv) (K : Int → Int → Prop) : Prop := match rs with
  | [.d (.int i), .d (.int j)] => K i j
  | _ => False
theorem rsI2_i {i j : Int} {K : Int → Int → Prop} : rsI2 [.d (.int i), .d (.int j)] K ↔ K i j := Iff.rfl
theorem ok_rng2 {ms : M (List Rv)} {QW : Wk → Env → Prop} : Ok (mRng2 ms env) QW ↔ Ok (ms env) fun rs e => rsI2 rs fun i j => (-(2 ^ 62) ≤ i ∧ i < 2 ^ 62 ∧ -(2 ^ 62) ≤ j ∧ j < 2 ^ 62) ∧ QW ⟨rngD i (j - i).toNat, none⟩ e := by
  unfold mRng2
  rw [ok_bnd]
  refine Iff.of_eq (congrArg _ (funext fun rs => funext fun e => propext ?_))
  unfold rsI2
  split
  · split
    · rename_i h; simp only [h, true_and, ok_ret, and_self]
    · rename_i h; simp only [h, false_and, ok_stk]
  · rename_i h
    first
      | exact Iff.rfl
      | exact ok_stk
      | (split
         · exact absurd rfl (h _ _)
         · exact Iff.rfl)
def rsI3 (rs : List Rv) (K : Int → Int → Prop) : Prop := match rs with
  | [.d (.int i), .d (.int j), .d (.int (-1))] => K i j
  | _ => False
theorem rsI3_i {i j : Int} {K : Int → Int → Prop} : rsI3 [.d (.int i), .d (.int j), .d (.int (-1))] K ↔ K i j := Iff.rfl
theorem ok_rng3 {ms : M (List Rv)} {QW : Wk → Env → Prop} : Ok (mRng3 ms env) QW ↔ Ok (ms env) fun rs e => rsI3 rs fun i j => (-(2 ^ 62) ≤ i ∧ i < 2 ^ 62 ∧ -(2 ^ 62) ≤ j ∧ j < 2 ^ 62) ∧ QW ⟨rngCD i (-1) (i - j).toNat, none⟩ e := by
  unfold mRng3
  rw [ok_bnd]
  refine Iff.of_eq (congrArg _ (funext fun rs => funext fun e => propext ?_))
  unfold rsI3
  split
  · split
    · rename_i h; simp only [h, true_and, ok_ret, and_self]
    · rename_i h; simp only [h, false_and, ok_stk]
  · rename_i h
    first
      | exact Iff.rfl
      | exact ok_stk
      | (split
         · exact absurd rfl (h _ _)
         · exact Iff.rfl)
theorem ok_enu {js : List Nat} {ms : M (List Rv)} {QW : Wk → Env → Prop} : Ok (mEnu js ms env) QW ↔ Ok (ms env) fun rs e => match rs with
    | [r] => Opt (seqOf js e r) fun p => QW ⟨enumD p.2.1, p.2.2⟩ e
    | _ => False := by
  unfold mEnu
  rw [ok_bnd]
  refine Iff.of_eq (congrArg _ (funext fun rs => funext fun e => propext ?_))
  rcases rs with _ | ⟨r, _ | ⟨_, _⟩⟩ <;> try exact Iff.rfl
  show Ok (match seqOf js e r with
    | some (_, ds, src) => Rs.ok ⟨enumD ds, src⟩ e
    | none => .stuck) QW ↔ Opt (seqOf js e r) fun p => QW ⟨enumD p.2.1, p.2.2⟩ e
  rcases seqOf js e r with _ | ⟨_, _, _⟩ <;> exact Iff.rfl
theorem ok_zip {js : List Nat} {ms : M (List Rv)} {QW : Wk → Env → Prop} : Ok (mZip js ms env) QW ↔ Ok (ms env) fun rs e => match rs with
    | [r, r2] => Opt (seqOf js e r) fun p => Opt (seqOf [] e r2) fun q => QW ⟨zipD p.2.1 q.2.1, p.2.2⟩ e
    | _ => False := by
  unfold mZip
  rw [ok_bnd]
  refine Iff.of_eq (congrArg _ (funext fun rs => funext fun e => propext ?_))
  rcases rs with _ | ⟨r, _ | ⟨r2, _ | ⟨_, _⟩⟩⟩ <;> try exact Iff.rfl
  show Ok (match seqOf js e r, seqOf [] e r2 with
    | some (_, ds, src), some (_, es, _) => Rs.ok ⟨zipD ds es, src⟩ e
    | _, _ => .stuck) QW ↔ Opt (seqOf js e r) fun p => Opt (seqOf [] e r2) fun q => QW ⟨zipD p.2.1 q.2.1, p.2.2⟩ e
  rcases seqOf js e r with _ | ⟨_, _, _⟩ <;> rcases seqOf [] e r2 with _ | ⟨_, _, _⟩ <;> exact Iff.rfl
theorem seqOf_list {js : List Nat} {ds : List D} : seqOf js env (.d (.list ds)) = some (true, ds, none) := rfl
theorem seqOf_tuple {js : List Nat} {ds : List D} : seqOf js env (.d (.tuple ds)) = some (false, ds, none) := rfl
theorem seqOf_pl {js : List Nat} {i : Nat} : seqOf js env (.pl i) = if js.contains i = true then match env[i]? with
    | some (some (.lst ds)) => some (true, ds, some (i, ds))
    | _ => none
    else none := rfl
theorem ok_setE {f : List Int ⊕ List Str → Rv} {m : M Rv} : Ok (mSetE f m env) Q ↔ Ok (m env) fun r e => Opt ((res e r.frz).bind seqD) fun ds => Opt (setOf ds) fun z => Q (f z) e := by
  unfold mSetE
  rw [ok_bnd, ok_vm]
  refine Iff.of_eq (congrArg _ (funext fun r => funext fun e => propext ?_))
  cases (res e r.frz).bind seqD with
  | none => exact Iff.rfl
  | some ds =>
    simp only [opt_some]
    cases setOf ds <;> exact Iff.rfl
theorem ok_back {m : M Rv} : Ok (mBack m env) Q ↔ Ok (m env) fun r e => Opt (res e r.frz) fun x => match x with
    | .list ds => Q (.own (.lst ds.reverse)) e
    | .tuple ds => Q (.d (.tuple ds.reverse)) e
    | _ => False := by
  unfold mBack
  rw [ok_bnd, ok_vm]
  refine Iff.of_eq (congrArg _ (funext fun r => funext fun e => propext ?_))
  rcases res e r.frz with _ | (_ | _ | _ | _ | _ | _ | _) <;> exact Iff.rfl
def RS (r : Rv) (K : Str → Prop) : Prop := match r with
  | .d (.str b) => K b
  | _ => False
theorem rs_s {b : Str} {K : Str → Prop} : RS (.d (.str b)) K ↔ K b := Iff.rfl
theorem ok_tx0 {g : Str → Option Out} {m : M Rv} : Ok (mTx0 g m env) Q ↔ Ok (m env) fun r e => RS r.frz fun z => Opt (g z) fun o => Q o.rv e := by
  unfold mTx0
  rw [ok_bnd, ok_vm]
  refine Iff.of_eq (congrArg _ (funext fun r => funext fun e => propext ?_))
  generalize r.frz = r
  rcases r with (_ | _ | _ | z | _ | _ | _) | _ | _ <;> try exact Iff.rfl
  show Ok (match g z with
    | some o => Rs.ok o.rv e
    | none => .stuck) Q ↔ Opt (g z) fun o => Q o.rv e
  cases g z <;> exact Iff.rfl
theorem ok_tx1 {g : Str → D → Option Out} {m me : M Rv} : Ok (mTx1 g m me env) Q ↔ Ok (m env) fun r e => RS r.frz fun z => Ok (me e) fun r2 e => Opt (res e r2.frz) fun x => Opt (g z x) fun o => Q o.rv e := by
  unfold mTx1
  rw [ok_bnd, ok_vm]
  refine Iff.of_eq (congrArg _ (funext fun r => funext fun e => propext ?_))
  generalize r.frz = r
  rcases r with (_ | _ | _ | z | _ | _ | _) | _ | _ <;> try exact Iff.rfl
  show Ok (bnd (vm me) (fun re env => match res env re with
    | some x => match g z x with
      | some o => .ok o.rv env
      | none => .stuck
    | none => .stuck) e) Q ↔ Ok (me e) fun r2 e => Opt (res e r2.frz) fun x => Opt (g z x) fun o => Q o.rv e
  rw [ok_bnd, ok_vm]
  refine Iff.of_eq (congrArg _ (funext fun r => funext fun e => propext ?_))
  cases res e r.frz with
  | none => exact Iff.rfl
  | some x =>
    simp only [opt_some]
    cases g z x <;> exact Iff.rfl
theorem ok_dic1 {m : M Rv} : Ok (mDic1 m env) Q ↔ Ok (m env) fun r e => Ok (frzR r.frz e) fun _ e => Q (.d (.dict [])) e := by
  unfold mDic1
  rw [ok_bnd, ok_vm]
  refine Iff.of_eq (congrArg _ (funext fun r => funext fun e => propext ?_))
  exact ok_bnd
def lst1 (x : D) (K : List D → Prop) : Prop := match x with
  | .list xs => K xs
  | _ => False
theorem lst1_l {xs : List D} {K : List D → Prop} : lst1 (.list xs) K ↔ K xs := Iff.rfl
def datAt (i : Nat) (e : Env) (K : D → Prop) : Prop := match e[i]? with
  | some (some (.dat d)) => K d
  | _ => False
theorem ok_sortK {neg : Bool} {jc : Nat} {i j : Int} {m : M Rv} : Ok (mSortK neg jc i j m env) Q ↔ Ok (m env) fun r e => Opt (res e r.frz) fun x => lst1 x fun xs => datAt jc e fun hs => Opt (keysOf (keyOf neg i j hs) xs) fun bs => xs.length ≤ sizeLine ∧ Q (.own (.lst (sortK bs))) e := by
  unfold mSortK
  rw [ok_bnd, ok_vm]
  refine Iff.of_eq (congrArg _ (funext fun r => funext fun e => propext ?_))
  cases res e r.frz with
  | none => exact Iff.rfl
  | some x =>
    cases x <;> try exact Iff.rfl
    rename_i xs
    simp only [opt_some, lst1_l]
    unfold datAt
    rcases e[jc]? with _ | _ | hs | _ | _ | _ <;> try exact Iff.rfl
    show Ok (match keysOf (keyOf neg i j hs) xs with
      | some bs => if xs.length ≤ sizeLine then .ok (.own (.lst (sortK bs))) e else .stuck
      | none => .stuck) Q ↔ Opt (keysOf (keyOf neg i j hs) xs) fun bs => xs.length ≤ sizeLine ∧ Q (.own (.lst (sortK bs))) e
    cases keysOf (keyOf neg i j hs) xs with
    | none => exact Iff.rfl
    | some bs =>
      simp only [opt_some]
      by_cases h : xs.length ≤ sizeLine
      · simp only [h, if_true, true_and, ok_ok]
      · simp only [h, if_false, false_and, ok_stuck]
theorem ok_maxK {neg : Bool} {jc : Nat} {i j : Int} {m : M Rv} : Ok (mMaxK neg jc i j m env) Q ↔ Ok (m env) fun r e => Opt (res e r.frz) fun x => lst1 x fun xs => datAt jc e fun hs => Opt (keysOf (keyOf neg i j hs) xs) fun bs => xs.length ≤ sizeLine ∧ Q (.d (maxK bs)) e := by
  unfold mMaxK
  rw [ok_bnd, ok_vm]
  refine Iff.of_eq (congrArg _ (funext fun r => funext fun e => propext ?_))
  cases res e r.frz with
  | none => exact Iff.rfl
  | some x =>
    cases x <;> try exact Iff.rfl
    rename_i xs
    simp only [opt_some, lst1_l]
    unfold datAt
    rcases e[jc]? with _ | _ | hs | _ | _ <;> try exact Iff.rfl
    show Ok (match keysOf (keyOf neg i j hs) xs with
      | some bs => if xs.length ≤ sizeLine then .ok (.d (maxK bs)) e else .stuck
      | none => .stuck) Q ↔ Opt (keysOf (keyOf neg i j hs) xs) fun bs => xs.length ≤ sizeLine ∧ Q (.d (maxK bs)) e
    cases keysOf (keyOf neg i j hs) xs with
    | none => exact Iff.rfl
    | some bs =>
      simp only [opt_some]
      by_cases h : xs.length ≤ sizeLine
      · simp only [h, if_true, true_and, ok_ok]
      · simp only [h, if_false, false_and, ok_stuck]
def RD1 (r : Rv) (K : D → Prop) : Prop := match r with
  | .d x => K x
  | _ => False
theorem rd1_d {x : D} {K : D → Prop} : RD1 (.d x) K ↔ K x := Iff.rfl
theorem ok_mTgt {tg : Tg} {m : M Rv} : Ok (mTgt tg m env) QF ↔ Ok (m env) fun r e => RD1 r.frz fun x => Opt (asgT tg x e) fun e' => QF .nx e' := by
  unfold mTgt
  rw [ok_bnd, ok_vm]
  refine Iff.of_eq (congrArg _ (funext fun r => funext fun e => propext ?_))
  generalize r.frz = r
  cases r with
  | d x =>
    show Ok (match asgT tg x e with
      | some env' => Rs.ok Fl.nx env'
      | none => .stuck) QF ↔ Opt (asgT tg x e) fun e' => QF .nx e'
    cases asgT tg x e <;> exact Iff.rfl
  | own o => exact Iff.rfl
  | pl i => exact Iff.rfl
theorem ok_isN {neg : Bool} {m : M Rv} : Ok (mIsN neg m env) Q ↔ Ok (m env) fun r e => RD1 r.frz fun x => Q (.d (.bool (xor neg (isNoneR (.d x))))) e := by
  unfold mIsN
  rw [ok_bnd, ok_vm]
  refine Iff.of_eq (congrArg _ (funext fun r => funext fun e => propext ?_))
  generalize r.frz = r
  cases r <;> exact Iff.rfl
theorem ok_maxD {d : Int} {m : M Rv} : Ok (mMaxD d m env) Q ↔ Ok (m env) fun r e => Opt (res e r.frz) fun x => lst1 x fun xs => Opt (intsD xs) fun ns => xs.length ≤ sizeLine ∧ Q (.d (.int (maxI d ns))) e := by
  unfold mMaxD
  rw [ok_bnd, ok_vm]
  refine Iff.of_eq (congrArg _ (funext fun r => funext fun e => propext ?_))
  cases res e r.frz with
  | none => exact Iff.rfl
  | some x =>
    cases x <;> try exact Iff.rfl
    rename_i xs
    simp only [opt_some, lst1_l]
    cases intsD xs with
    | none => exact Iff.rfl
    | some ns =>
      simp only [opt_some]
      by_cases h : xs.length ≤ sizeLine
      · simp only [h, if_true, true_and, ok_ok]
      · simp only [h, if_false, false_and, ok_stuck]
/-- a walk under a condition, with what goes down -/
theorem ok_whileL {t : M Bool} {body : M Fl} (I : Nat → Env → Prop) (hstep : ∀ k e, I k e → Ok (t e) fun c e2 => (c = true → 0 < k ∧ Ok (body e2) (forQ (fun e3 => ∃ k', k' < k ∧ I k' e3) QF)) ∧ (c = false → QF .nx e2)) :
    ∀ {n k : Nat} {env : Env}, k < n → I k env → Ok (whileL t body n env) QF
  | 0, k, env, hk, h => by omega
  | n + 1, k, env, hk, h => by
    unfold whileL
    rw [ok_bnd]
    refine (hstep k env h).mono fun c e2 h2 => ?_
    cases c with
    | false => exact h2.2 rfl
    | true =>
      obtain ⟨hk0, h3⟩ := h2.1 rfl
      show Ok (bnd body (fun fl => match fl with
        | .nx => whileL t body n
        | .ct => whileL t body n
        | .bk => ret .nx
        | .rt o => ret (.rt o)) e2) QF
      rw [ok_bnd]
      refine h3.mono fun fl e3 h4 => ?_
      cases fl with
      | nx =>
        obtain ⟨k', h5, h6⟩ := (show ∃ k', k' < k ∧ I k' e3 from h4)
        exact ok_whileL I hstep (by omega) h6
      | ct =>
        obtain ⟨k', h5, h6⟩ := (show ∃ k', k' < k ∧ I k' e3 from h4)
        exact ok_whileL I hstep (by omega) h6
      | bk => exact h4
      | rt o => exact h4
theorem set_getD {i : Nat} (hi : i < env.length) : env.set i (env[i]) = env := List.set_getElem_self hi
def noOwn (x : Option O) : Prop := x = none ∨ ∃ d, x = some (.dat d)
theorem ok_frz_any {i : Nat} {QU : Unit → Env → Prop} (hi : i < env.length) (h : ∀ x, noOwn x → QU () (env.set i x)) : Ok (frzV i env) QU := by
  have e : env[i]? = some env[i] := List.getElem?_eq_getElem hi
  unfold frzV
  rw [e]
  cases q : env[i] with
  | none =>
    show QU () env
    have := h env[i] (.inl q)
    rw [set_getD hi] at this
    exact this
  | some o =>
    cases o with
    | dat d =>
      show QU () env
      have := h env[i] (.inr ⟨d, q⟩)
      rw [set_getD hi] at this
      exact this
    | lst ds => exact h _ (.inr ⟨_, rfl⟩)
    | dct kv => exact h _ (.inr ⟨_, rfl⟩)
    | tpl ds => exact h _ (.inr ⟨_, rfl⟩)
end
end Mi

set_option Elab.async false
set_option linter.all false
set_option maxRecDepth 20000
namespace Mi
open PySem PySem.Spec L2
/-! ### the calculus: a, b = x, y; x[::e] -/
section
variable {env : Env} {QF : Fl → Env → Prop} {Q : Rv → Env → Prop}
theorem ok_dz_d {d : D} : Ok (dz (.d d) env) Q ↔ Q (.d d) env := Iff.rfl
theorem ok_dz_own {o : O} : Ok (dz (.own o) env) Q ↔ Q (.own o) env := Iff.rfl
theorem ok_dz_pl {i : Nat} : Ok (dz (.pl i) env) Q ↔ Ok (frzR (.pl i) env) fun d e => Q (.d d) e := by
  unfold dz
  rw [ok_bnd]
  exact Iff.rfl
theorem ok_mPar {i j : Nat} {ma mb : M Rv} : Ok (mPar i j ma mb env) QF ↔ Ok (ma env) fun r e => Ok (dz r e) fun r1 e1 => Ok (mb e1) fun q e2 => Ok (dz q e2) fun q1 e3 => QF .nx ((e3.set i (some (rO r1))).set j (some (rO q1))) := by
  unfold mPar mOw
  rw [ok_bnd, ok_bnd]
  refine Iff.of_eq (congrArg _ (funext fun r => funext fun e => congrArg _ (funext fun r1 => funext fun e1 => propext ?_)))
  rw [ok_bnd, ok_bnd]
  exact Iff.rfl
theorem ok_mStep {m me : M Rv} : Ok (mStep m me env) Q ↔ Ok (m env) fun r e => Ok (mSo me e) fun o e2 => Opt (res e2 r.frz) fun d => match d with
    | .list ds => (o = some 1 ∧ Q (.own (.lst ds)) e2) ∨ (o = some (-1) ∧ Q (.own (.lst ds.reverse)) e2)
    | _ => False := by
  unfold mStep
  rw [ok_bnd, ok_vm]
  refine Iff.of_eq (congrArg _ (funext fun r => funext fun e => propext ?_))
  rw [ok_bnd]
  refine Iff.of_eq (congrArg _ (funext fun o => funext fun e2 => propext ?_))
  cases res e2 r.frz with
  | none => exact Iff.rfl
  | some d =>
    cases d <;> try exact Iff.rfl
    rename_i ds
    show Ok (if o = some 1 then _ else if o = some (-1) then _ else _) Q ↔ _
    by_cases h : o = some 1
    · subst h
      rw [if_pos rfl]
      show Q _ _ ↔ (_ ∧ Q _ _) ∨ _
      simp
    · rw [if_neg h]
      by_cases h2 : o = some (-1)
      · subst h2
        rw [if_pos rfl]
        show Q _ _ ↔ _ ∨ (_ ∧ Q _ _)
        simp
      · rw [if_neg h2]
        show False ↔ _
        simp [h, h2, Opt]
theorem ok_mTupR {ma mb : M Rv} : Ok (mTupR ma mb env) Q ↔ Ok (ma env) fun r e => Ok (mb e) fun r2 e2 => RI r.frz fun i => RI r2.frz fun j => (0 ≤ i ∧ i ≤ 16777216 ∧ 0 ≤ j ∧ j ≤ 16777216) ∧ Q (.d (.tuple (rngD i (j - i).toNat))) e2 := by
  unfold mTupR
  rw [ok_bnd, ok_vm]
  refine Iff.of_eq (congrArg _ (funext fun r => funext fun e => propext ?_))
  rw [ok_bnd, ok_vm]
  refine Iff.of_eq (congrArg _ (funext fun r2 => funext fun e2 => propext ?_))
  generalize r.frz = r
  generalize r2.frz = r2
  rcases r with (_ | b | i | _ | _ | _ | _) | _ | _ <;> try exact Iff.rfl
  rcases r2 with (_ | b | j | _ | _ | _ | _) | _ | _ <;> try exact Iff.rfl
  simp only [ri_i]
  split
  · rename_i h; simp only [h, true_and, ok_ret, and_self]
  · rename_i h; simp only [h, false_and]; exact Iff.rfl
theorem ok_mCh {g1 g2 : Int → Int → Bool} {ma mb mc : M Rv} {QB : Bool → Env → Prop} : Ok (mCh g1 g2 ma mb mc env) QB ↔ Ok (ma env) fun r e => Ok (mb e) fun r2 e2 => RI r.frz fun i => RI r2.frz fun j =>
    (g1 i j = true → Ok (mc e2) fun r3 e3 => RI r3.frz fun k => QB (g2 j k) e3) ∧ (g1 i j = false → QB false e2) := by
  unfold mCh
  rw [ok_bnd, ok_vm]
  refine Iff.of_eq (congrArg _ (funext fun r => funext fun e => propext ?_))
  rw [ok_bnd, ok_vm]
  refine Iff.of_eq (congrArg _ (funext fun r2 => funext fun e2 => propext ?_))
  generalize r.frz = r
  generalize r2.frz = r2
  rcases r with (_ | b | i | _ | _ | _ | _) | _ | _ <;> try exact Iff.rfl
  rcases r2 with (_ | b | j | _ | _ | _ | _) | _ | _ <;> try exact Iff.rfl
  simp only [ri_i]
  cases hg : g1 i j with
  | false =>
    simp only [Bool.false_eq_true, if_false, false_implies, true_and, true_implies]
    exact Iff.rfl
  | true =>
    simp only [if_true, true_implies, Bool.true_eq_false, false_implies, and_true]
    rw [ok_bnd, ok_vm]
    refine Iff.of_eq (congrArg _ (funext fun r3 => funext fun e3 => propext ?_))
    generalize r3.frz = r3
    rcases r3 with (_ | b | k | _ | _ | _ | _) | _ | _ <;> exact Iff.rfl
end
end Mi

set_option Elab.async false
set_option linter.all false
set_option maxRecDepth 100000
set_option autoImplicit false
namespace Mi
open PySem PySem.Spec L2
/-! ### a dict of a slot: {}, k not in d, d[k] = v -/
def putD (kds : List (Key × D)) (k : Key) (d : D) : List (Key × D) :=
  if (kds.any fun q => decide (q.1 = k)) = true then kds.map (fun q => if q.1 = k then (q.1, d) else q) else kds ++ [(k, d)]
def hasKey (kds : List (Key × D)) (k : Key) : Bool := kds.any fun q => decide (q.1 = k)
def mDNew : M Rv := ret (.own (.dct []))
def mDNotIn (j : Nat) (me : M Rv) : M Bool := bnd (vm me) fun r env => match r, env[j]? with
  | .d (.int k), some (some (.dct kds)) => .ok (!hasKey kds (.inl k)) env
  | _, _ => .stuck
def chkD (j : Nat) : M Unit := fun env => match env[j]? with
  | some (some (.dct _)) => .ok () env
  | _ => .stuck
def mDPut (j : Nat) (mi mv : M Rv) : M Fl := bnd (vm mv) fun rv => bnd (chkD j) fun _ => bnd (vm mi) fun ri env => match rv, ri, env[j]? with
  | .d d, .d (.int k), some (some (.dct kds)) => if kds.length < sizeLine then .ok .nx (env.set j (some (.dct (putD kds (.inl k) d)))) else .stuck
  | _, _, _ => .stuck
section
variable {K : PySem.W.Frag} {B : Hp}
theorem has_rel {k : Key} : ∀ {kds : List (Key × D)} {kvs : List (Key × V)}, RKs K B kds kvs → (valV kvs k).isSome = hasKey kds k ∧ (kvs.any fun q => decide (q.1 = k)) = hasKey kds k
  | [], [], .nil => ⟨rfl, rfl⟩
  | p :: kds, q :: kvs, .cons hp hr => by
    obtain ⟨h1, h2⟩ := has_rel (k := k) hr
    have e : decide (q.1 = k) = decide (p.1 = k) := by rw [hp.1]
    constructor
    · unfold valV
      rw [List.find?_cons]
      unfold hasKey
      rw [List.any_cons, ← e]
      by_cases hk : q.1 = k
      · simp [hk]
      · rw [decide_eq_false hk]
        exact h1
    · unfold hasKey
      rw [List.any_cons, List.any_cons, e]
      exact congrArg _ h2
theorem put_rel {k : Key} {d : D} {v : V} (hv : RD K B d v) {kds : List (Key × D)} {kvs : List (Key × V)} (h : RKs K B kds kvs) : RKs K B (putD kds k d) (putK kvs k v) := by
  have map_rel : ∀ {kds : List (Key × D)} {kvs : List (Key × V)}, RKs K B kds kvs → RKs K B (kds.map fun q => if q.1 = k then (q.1, d) else q) (kvs.map fun q => if q.1 = k then (q.1, v) else q) := by
    intro kds kvs h
    induction h with
    | nil => exact .nil
    | @cons p q ps qs hp hr ih =>
      refine .cons ?_ ih
      obtain ⟨pk, pd⟩ := p
      obtain ⟨qk, qv⟩ := q
      obtain ⟨hp1, hp2⟩ := hp
      have hp1 : pk = qk := hp1
      subst hp1
      by_cases hk : pk = k
      · simp only [hk, if_true]
        exact ⟨trivial, hv⟩
      · simp only [hk, if_false]
        exact ⟨trivial, hp2⟩
  have app_rel : ∀ {kds : List (Key × D)} {kvs : List (Key × V)}, RKs K B kds kvs → RKs K B (kds ++ [(k, d)]) (kvs ++ [(k, v)]) := by
    intro kds kvs h
    induction h with
    | nil => exact .cons ⟨rfl, hv⟩ .nil
    | cons hp hr ih => exact .cons hp ih
  unfold putD putK
  rw [(has_rel (k := k) h).2]
  unfold hasKey
  split
  · exact map_rel h
  · exact app_rel h
theorem len_rel {kds : List (Key × D)} {kvs : List (Key × V)} (h : RKs K B kds kvs) : kds.length = kvs.length := by
  induction h with
  | nil => rfl
  | cons _ _ ih => rw [List.length_cons, List.length_cons, ih]
end
section
variable {X : Cx} {cl : String → Addr} {E : XK} {io : List Nat} {e value i : Expr} {me mi mv : M Rv} {pos pos' p : Pos} {j : Nat} {x : Str}
theorem de_dnew : DE X cl E (.Dict [] [] pos) mDNew := by
  refine ⟨fun pins s σ H Q I ⟨P, B, env, fps, F, h⟩ => pe_dnewK.run pins s σ H Q I fun l hl => ?_⟩
  obtain ⟨h3, h4, h5⟩ := F.newB hl
  exact h _ _ B fps Ext.refl (F.alloc hl) ⟨_, .dct upd_same .nil, fun a ha => by rw [List.mem_singleton.mp ha]; exact ⟨h3, h4, h5⟩⟩
theorem dt_dnotin (hu : X.A.units + 64 < cLine) (hN : X.N[j]? = some x) (hv : Vis X.env.scope x) (he : DE X cl E e me) (hdb : (x == ("__debug__" : Str)) = false := by decide) (hcd : (x == ("__classdict__" : Str)) = false := by decide)
    (hb : behindInMarks .NotIn (.Name x p) = false := by rfl) : DT X cl E (.Compare e [.NotIn] [.Name x p] pos) (mDNotIn j me) := by
  refine ⟨fun pins s σ H Q I ⟨P, B, env, fps, F, h⟩ => (pt_cmp (pc_dnotin (by omega) he (pe_var hN hv hdb hcd)) hb).run pins s σ H Q I ⟨P, B, env, fps, F, (postX_vm h).mono ?_⟩⟩
  rintro v H1 ⟨B1, env1, fps1, r, x1, F1, w1, h1⟩
  split at h1
  · rename_i k kds e1
    obtain ⟨u, s1, r1⟩ := F1.slot j _ e1
    obtain ⟨a, kvs, rfl, hf, ha, rd⟩ := r1.dct_inv
    refine ⟨_, s1, a, valV kvs (.inl k), rfl, ?_, _, rfl, ?_⟩
    · rw [rvs_int w1]
      exact DGet.k (k := .inl k) ha
    · have h1 := h1 H1 B1 fps1 Ext.refl F1
      rw [(has_rel (k := .inl k) rd).1]
      exact h1
  · exact h1.elim
theorem ds_dput (hu : X.A.units + 64 < cLine) (hN : X.N[j]? = some x) (hv : Vis X.env.scope x) (hi : DE X cl E i mi) (hvl : DE X cl E value mv) (hdb : (x == ("__debug__" : Str)) = false := by decide) (hcd : (x == ("__classdict__" : Str)) = false := by decide)
    (hs : swapsWith value (some (.Subscript (.Name x p) i pos')) pos.line X.env = pure false := by rfl) : DS X cl E io (.Assign [.Subscript (.Name x p) i pos'] value pos) (mDPut j mi mv) := by
  refine ⟨fun pins s σ H D I ⟨P, B, env, fps, F, h⟩ => (ps_dput (by omega) (pe_var hN hv hdb hcd) hi hvl hs).run pins s σ H D I ⟨P, B, env, fps, F, ?_⟩⟩
  refine (postS_vm h).mono ?_
  rintro v H1 ⟨B1, env1, fps1, r1, x1, F1, w1, h1⟩
  unfold bnd chkD at h1
  cases ee : env1[j]? with
  | none => simp only [ee, bind_stuck] at h1; exact h1.elim
  | some oo =>
  cases oo with
  | none => simp only [ee, bind_stuck] at h1; exact h1.elim
  | some oo =>
  cases oo with
  | dat d => simp only [ee, bind_stuck] at h1; exact h1.elim
  | lst d => simp only [ee, bind_stuck] at h1; exact h1.elim
  | tpl d => simp only [ee, bind_stuck] at h1; exact h1.elim
  | dct zs =>
  simp only [ee, bind_ok] at h1
  obtain ⟨w, ew, rw0⟩ := F1.slot j _ ee
  obtain ⟨a, kvs0, rfl, _, _, _⟩ := rw0.dct_inv
  refine ⟨_, ew, P, B1, env1, fps1, F1, (postS_vm (m := mi) h1).mono ?_⟩
  rintro y H2 ⟨B2, env2, fps2, r2, x2, F2, w2, h2⟩
  split at h2
  · rename_i d k kds e3
    split at h2
    · rename_i hz
      obtain ⟨u, s3, r3⟩ := F2.slot j _ e3
      obtain ⟨a', kvs, rfl, hf, ha, rd⟩ := r3.dct_inv
      rw [ew] at s3
      cases s3
      have hv2 : RD X.K B2 d v := (w1.mono x2.1)
      refine ⟨a, _, rfl, .inl ⟨kvs, .inl k, ha, rvs_int w2, by rw [← len_rel rd]; exact hz, rfl⟩, ?_⟩
      exact h2 σ _ B2 fps2 Ext.refl (F2.write e3 ew hf (.dct upd_same (put_rel hv2 rd))) SameIo.refl
    · exact h2.elim
  · exact h2.elim
/-! ### the calculus -/
section
variable {env : Env} {QF : Fl → Env → Prop} {QB : Bool → Env → Prop} {QV : Rv → Env → Prop}
def dctAt (j : Nat) (e : Env) (Q : List (Key × D) → Prop) : Prop := match e[j]? with
  | some (some (.dct kds)) => Q kds
  | _ => False
theorem ok_dnew : Ok (mDNew env) QV ↔ QV (.own (.dct [])) env := Iff.rfl
theorem ok_dnotin {j : Nat} {me : M Rv} : Ok (mDNotIn j me env) QB ↔ Ok (me env) fun r e => RI r.frz fun k => dctAt j e fun kds => QB (!hasKey kds (.inl k)) e := by
  unfold mDNotIn
  rw [ok_bnd, ok_vm]
  refine Iff.of_eq (congrArg _ (funext fun r => funext fun e => propext ?_))
  generalize r.frz = r
  unfold dctAt
  rcases r with (_ | b | k | _ | _ | _ | _) | _ | _ <;> try exact Iff.rfl
  simp only [ri_i]
  rcases e[j]? with _ | _ | (_ | _ | kds) <;> exact Iff.rfl
theorem ok_dput {j : Nat} {mi mv : M Rv} : Ok (mDPut j mi mv env) QF ↔ Ok (mv env) fun r e => dctAt j e fun _ => Ok (mi e) fun ri e2 => RD1 r.frz fun d => RI ri.frz fun k => dctAt j e2 fun kds => kds.length < sizeLine ∧ QF .nx (e2.set j (some (.dct (putD kds (.inl k) d)))) := by
  unfold mDPut
  rw [ok_bnd, ok_vm]
  refine Iff.of_eq (congrArg _ (funext fun r => funext fun e => propext ?_))
  rw [ok_bnd]
  unfold dctAt chkD
  rcases e[j]? with _ | _ | (_ | _ | kds0) <;> try exact Iff.rfl
  show Ok (bnd (vm mi) _ e) QF ↔ _
  rw [ok_bnd, ok_vm]
  refine Iff.of_eq (congrArg _ (funext fun ri => funext fun e2 => propext ?_))
  generalize r.frz = r
  generalize ri.frz = ri
  rcases r with d | _ | _ <;> try exact Iff.rfl
  rcases ri with (_ | b | k | _ | _ | _ | _) | _ | _ <;> try exact Iff.rfl
  simp only [ri_i]
  rcases e2[j]? with _ | _ | (_ | _ | kds) <;> try exact Iff.rfl
  show Ok (if kds.length < sizeLine then _ else _) QF ↔ (kds.length < sizeLine ∧ _)
  split
  · rename_i hz; simp only [hz, true_and]; exact Iff.rfl
  · rename_i hz; simp only [hz, false_and]; exact Iff.rfl
end
end
end Mi

set_option Elab.async false
set_option linter.all false
set_option maxRecDepth 100000
set_option autoImplicit false
namespace Mi
open PySem PySem.Spec L2
/-! ### min(t) of a tuple of ints -/
theorem reads_ints {h : Heap} : ∀ {ns : List Int} {us : List Value}, Vals (ns.map V.int) us → ∃ as, ReadsAll h us (ns.map PyData.int) as
  | [], _, .nil => ⟨[], .nil⟩
  | n :: ns, _, .cons ⟨t, e⟩ r => by
    obtain ⟨as, h2⟩ := reads_ints r
    subst e
    exact ⟨[] ++ as, .cons (.int n t) h2⟩
theorem depth_ints : ∀ ns : List Int, PyData.depthAll (ns.map PyData.int) ≤ 1
  | [] => by simp [PyData.depthAll]
  | n :: ns => by
    have := depth_ints ns
    rw [List.map_cons]
    simp [PyData.depthAll, PyData.depth]
    omega
def gMinT : D → Option D
  | .tuple ds => match intsD ds with
    | some (n :: ns) => some (.int (ns.foldl min n))
    | _ => none
  | _ => none
def mMinT (m : M Rv) : M Rv := bnd (vm m) fun r env => match (res env r).bind gMinT with
  | some d => .ok (.d d) env
  | none => .stuck
section
variable {X : Cx} {cl : String → Addr} {E : XK} {a : Expr} {m : M Rv} {p pos : Pos}
theorem de_minT (hc : X.calm = true) (hu : X.A.units + 64 < cLine) (hg : Gl X "min") (hm : X.mg "min" = none) (ha : DE X cl E a m) (hst : starEach [a] X.env = (false, eval a X.env) :: starEach [] X.env := by rfl) :
    DE X cl E (.Call (.Name "min" p) [a] [] pos) (mMinT m) := by
  refine ⟨fun pins s σ H Q I ⟨P, B, env, fps, F, h⟩ => ?_⟩
  refine PyProof.Rows.Call_ (ld_blt I hg hm PyProof.Rows.boot_min ?_)
  refine PyProof.Rows.callWith_builtin1 (PyProof.Rows.args_cons (thn (ha.run pins s σ H _ I ⟨P, B, env, fps, F, post_vm h⟩) fun v s1 ⟨x, H1, I1, r1, B1, env1, fps1, r, x1, F1, w1, h1⟩ => PyProof.Rows.args_nil ?_) hst) hst rfl
  cases e1 : (res env1 r).bind gMinT with
  | none => simp only [e1] at h1; exact h1.elim
  | some d =>
    simp only [e1] at h1
    obtain ⟨y, e2, e3⟩ := Option.bind_eq_some_iff.mp e1
    unfold gMinT at e3
    split at e3
    · rename_i ds
      split at e3
      · rename_i n ns en
        cases e3
        rcases F1.res w1 e2 with rr | ⟨ds', a', us, ed, _⟩
        · cases rr with
          | tup hx rr =>
            cases r1
            obtain ⟨its, rv, ht, hz⟩ := I1.tuple (F1.sub.sqT hx)
            have hv := intsD_vals rr en
            rw [hv] at rv
            obtain ⟨as, hra⟩ := reads_ints (h := s1.heap) rv
            rw [List.map_cons] at hra
            refine PySem.W.min_tuple_data (I1.ok.hd hc) (vs := its.toArray) ht (by simpa using hra) ?_ ?_ ?_
            · refine ⟨fun x hx y hy => ?_, fun x hx => ?_⟩
              · rw [← List.map_cons] at hx hy
                obtain ⟨a, _, rfl⟩ := List.mem_map.mp hx
                obtain ⟨b, _, rfl⟩ := List.mem_map.mp hy
                rfl
              · rw [← List.map_cons] at hx
                obtain ⟨a, _, rfl⟩ := List.mem_map.mp hx
                exact fun h => by cases h
            · have := depth_ints (n :: ns)
              rw [List.map_cons] at this
              omega
            · intro i v h' tk bs hi hrd hk
              rw [PySem.W.minD_ints] at hrd
              cases hrd with
              | int _ t => exact ⟨.int _, H1, I1.kept (t' := tk) hk, ⟨t, rfl⟩, h1 _ _ B1 fps1 Ext.refl F1 (.int _)⟩
        · cases ed
      · cases e3
    · cases e3
end
theorem ok_minT {m : M Rv} {env : Env} {Q : Rv → Env → Prop} : Ok (mMinT m env) Q ↔ Ok (m env) fun r e => Opt ((res e r.frz).bind gMinT) fun d => Q (.d d) e := by
  unfold mMinT
  rw [ok_bnd, ok_vm]
  refine Iff.of_eq (congrArg _ (funext fun r => funext fun e => propext ?_))
  cases (res e r.frz).bind gMinT <;> exact Iff.rfl
/-! ### a or b, a None or a tuple -/
def mOrD (ma mb : M Rv) : M Rv := bnd (vm ma) fun r env => match r with
  | .d .none => mb env
  | .d (.tuple []) => mb env
  | .d (.tuple (d :: ds)) => .ok (.d (.tuple (d :: ds))) env
  | _ => .stuck
section
variable {X : Cx} {cl : String → Addr} {E : XK} {a b : Expr} {ma mb : M Rv} {pos : Pos}
theorem de_orD (ha : DE X cl E a ma) (hb : DE X cl E b mb) : DE X cl E (.BoolOp .Or [a, b] pos) (mOrD ma mb) := by
  refine ⟨fun pins s σ H Q I ⟨P, B, env, fps, F, h⟩ => ?_⟩
  refine PyProof.Rows.BoolOp_or (thn (ha.run pins s σ H _ I ⟨P, B, env, fps, F, post_vm h⟩) fun v s1 ⟨x, H1, I1, r1, B1, env1, fps1, r, x1, F1, w1, h1⟩ => ?_)
  have two : PostE X.K cl E P B1 σ (mb env1) Q → ∀ s2, Inv X pins σ H1 s2 → wpAny (model X.prog X.w) X.A (eval (.BoolOp .Or [b] pos) X.env) (EP X pins σ Q) X.xe s2 := fun h2 s2 I2 =>
    (pe_one hb).run pins s2 σ H1 Q I2 ⟨P, B1, env1, fps1, F1, h2⟩
  split at h1
  · cases (show RD X.K B1 .none x from w1)
    cases r1
    show wpAny (model X.prog X.w) X.A (pure false) _ X.xe s1
    exact wpAny_pure (two h1 s1 I1)
  · cases (show RD X.K B1 (.tuple []) x from w1) with
    | tup hx rr =>
      cases rr
      cases r1
      obtain ⟨its, rv, ht, hz⟩ := I1.tuple (F1.sub.sqT hx)
      cases rv
      refine PyProof.Rows.truthy_tuple ht (by decide) ?_
      exact two h1 _ (I1.tok _)
  · cases (show RD X.K B1 (.tuple (_ :: _)) x from w1) with
    | tup hx rr =>
      have rr0 := rr
      cases rr with
      | cons q1 q2 =>
      cases r1
      obtain ⟨its, rv, ht, hz⟩ := I1.tuple (F1.sub.sqT hx)
      cases rv with
      | cons q3 q4 =>
      refine PyProof.Rows.truthy_tuple ht ?_ ?_
      · have e1 := q4.length
        simp only [List.length_cons] at hz
        simp only [List.size_toArray, List.length_cons]
        have : sizeLine < 2 ^ 62 := by decide
        omega
      · show EP X pins σ Q _ _
        exact ⟨.ref _, H1, I1.tok _, (show RelV (.ref _) (.ref _) from rfl), h1 _ _ B1 fps1 Ext.refl F1 (.tup hx rr0)⟩
  · exact h1.elim
theorem ok_orD {env : Env} {Q : Rv → Env → Prop} : Ok (mOrD ma mb env) Q ↔ Ok (ma env) fun r e => match r.frz with
    | .d .none => Ok (mb e) Q
    | .d (.tuple []) => Ok (mb e) Q
    | .d (.tuple (d :: ds)) => Q (.d (.tuple (d :: ds))) e
    | _ => False := by
  unfold mOrD
  rw [ok_bnd, ok_vm]
  refine Iff.of_eq (congrArg _ (funext fun r => funext fun e => propext ?_))
  generalize r.frz = r
  rcases r with (_ | _ | _ | _ | _ | (_ | ⟨d, ds⟩) | _) | _ | _ <;> exact Iff.rfl
end
end Mi

set_option Elab.async false
set_option linter.all false
set_option maxRecDepth 100000
set_option autoImplicit false
namespace Mi
open PySem PySem.Spec L2
/-! ### l.index(k) of whole numbers; tuple(l) whose object is known; t.index(k) -/
theorem upd_self {H : Hp} {a : Addr} {o : HO} (h : H a = some o) : upd H a o = H := by
  funext b
  by_cases e : b = a
  · subst e; rw [upd_same, h]
  · rw [upd_ne e]
def gIdx : List D → List D → Option (D × List D)
  | zs, [.int k] => match intsD zs with
    | some ns => if k ∈ ns then some (.int (ns.idxOf k : Nat), zs) else none
    | none => none
  | _, _ => none
theorem ru_idx {K : PySem.W.Frag} : RuM K (rIndex K) gIdx := by
  intro H B a ws zs xs vs d zs' Q hs ha rz rx e hq
  unfold gIdx at e
  split at e
  · rename_i zs k
    split at e
    · rename_i ns en
      split at e
      · rename_i hk
        cases e
        obtain ⟨v, rfl, rv⟩ := paired1 rx
        have hv : v = .int k := by
          rcases rv with r | ⟨_, _, _, z, _⟩
          · cases r; rfl
          · cases z
        subst hv
        have hw := intsD_vals rz en
        subst hw
        have hlt := List.idxOf_lt_length_iff.mpr hk
        refine ⟨a, ns.map V.int, .int k, ns.idxOf k, .int k, rfl, rfl, SqL.of ha, rfl, ?_, ?_, by simp [eqV], fun m z' hm hz' => ?_, ?_⟩
        · rw [List.all_map, List.all_eq_true]
          intro x _; rfl
        · rw [List.getElem?_map, List.getElem?_eq_getElem hlt, List.getElem_idxOf hlt]; rfl
        · rw [List.getElem?_map] at hz'
          have hml : m < ns.length := by omega
          rw [List.getElem?_eq_getElem hml] at hz'
          cases hz'
          have := List.not_of_lt_findIdx (p := (· == k)) (xs := ns) (i := m) (by unfold List.idxOf at hm; exact hm)
          have h2 : ns[m] ≠ k := fun z => by rw [z] at this; simp at this
          simp [eqV, h2]
        · have := hq (.int (ns.idxOf k : Nat)) _ (.int _) rz
          rw [upd_self ha] at this
          exact this
      · cases e
    · cases e
  · cases e
def mTupC (m : M Rv) : M Rv := bnd (vm m) fun r env => match (res env r).bind seqD with
  | some ds => match res env r with
    | some (.list _) => .ok (.own (.tpl ds)) env
    | _ => .stuck
  | none => .stuck
def mIdxT (i : Nat) (ms : M (List Rv)) : M Rv := fun env => match env[i]? with
  | some (some (.tpl ds)) => (bnd ms fun rs env2 => match resAll env2 rs, intsD ds with
    | some [.int k], some ns => if k ∈ ns then .ok (.d (.int (ns.idxOf k : Nat))) env2 else .stuck
    | _, _ => .stuck) env
  | _ => .stuck
section
variable {X : Cx} {cl : String → Addr} {E : XK} {e : Expr} {m : M Rv} {ms : M (List Rv)} {i : Nat} {x : Str} {p pos apos cpos : Pos}
theorem de_idx (hN : X.N[i]? = some x) (hv : Vis X.env.scope x) (ha : DA X cl E [e] ms) (hdb : (x == ("__debug__" : Str)) = false := by decide) (hcd : (x == ("__classdict__" : Str)) = false := by decide)
    (hbase : attributeBase (.Name x p) "index" X.env (eval (.Name x p) X.env) = eval (.Name x p) X.env := by rfl)
    (hfew : ((backTo cpos (starEach [e] X.env)).all (fun x => !x.1) && (backToKw cpos (keywordEach [] X.env)).all (fun x => x.1.isSome)
      && decide (([e] : List Expr).length + ([] : List Keyword).length + (if ([] : List Keyword).isEmpty then 0 else 1) < 30)) = true := by rfl)
    (hline : (apos.endLine == cpos.line) = true := by rfl) (hs : starEach [e] X.env = (false, eval e X.env) :: starEach [] X.env := by rfl) :
    DE X cl E (.Call (.Attribute (.Name x p) "index" apos) [e] [] cpos) (mMet i gIdx ms) :=
  de_met PySem.F.slot_list_index PySem.F.plainAttrs_list PySem.F.type_list_index mt_index ru_idx hN hv ha hdb hcd hbase hfew hline hs rfl
theorem de_tupC (hg : Gl X "tuple") (hm : X.mg "tuple" = none) (ha : DE X cl E e m) (na : starEach [e] X.env = (false, eval e X.env) :: starEach [] X.env := by rfl) :
    DE X cl E (.Call (.Name "tuple" p) [e] [] pos) (mTupC m) := by
  refine ⟨fun pins s σ H Q I ⟨P, B, env, fps, F, h⟩ => ?_⟩
  refine PyProof.Rows.Call_ (ld_blt I hg hm PyProof.Rows.boot_tuple ?_)
  refine PyProof.Rows.callWith_type1 (PyProof.Rows.args_cons (thn (ha.run pins s σ H _ I ⟨P, B, env, fps, F, post_vm h⟩) fun v s1 ⟨x, H1, I1, r1, B1, env1, fps1, r, x1, F1, w1, h1⟩ => PyProof.Rows.args_nil ?_) na) na rfl
  cases e2 : res env1 r with
  | none => simp only [e2, Option.bind_none] at h1; exact h1.elim
  | some d =>
    simp only [e2, Option.bind_some] at h1
    cases d with
    | list ds =>
      simp only [seqD] at h1
      have key : ∃ a vs, x = .ref a ∧ SqL X.K H1 a vs ∧ RDs X.K B1 ds vs := by
        rcases F1.res w1 e2 with rr | ⟨ds', a', us, ed, ea, ha', rr⟩
        · cases rr with
          | lst hx rr => exact ⟨_, _, rfl, F1.sub.sqL hx, rr⟩
        · cases ed
          exact ⟨_, _, ea, SqL.of ha', rr⟩
      obtain ⟨a, vs, rfl, hq, rds⟩ := key
      cases r1
      · skip
        obtain ⟨its, rv, pl, hz⟩ := I1.list hq
        have hlen := rv.length
        refine call_tuple_list pl.isList (fun h' kp => ?_) (by simp only [List.size_toArray]; omega)
        have J1 : Inv X pins σ H1 { s1 with heap := h' } := I1.kept (t' := s1.toks) kp
        have hn : H1 h'.objs.size = none := J1.hok.fresh (Nat.le_refl _)
        have hgt : (h'.push { cls := .type "tuple", data := .seq its.toArray }).get? h'.objs.size = some { cls := .type "tuple", data := .seq its.toArray } := Heap.get?_push_size _ rfl
        have J2 : Inv X pins σ (upd H1 h'.objs.size (.frz { cls := .type "tuple", data := .seq its.toArray } (.tup vs))) { s1 with heap := h'.push { cls := .type "tuple", data := .seq its.toArray } } :=
          J1.laid (t' := s1.toks) (fun b o e => Heap.get?_push_of_some _ e) (Nat.le_refl _) ⟨hgt, hz, its, rv, PyProof.Rows.IsTup.new _ _⟩
        obtain ⟨h3, h4, h5⟩ := F1.newB hn
        have hnc : notC (.frz { cls := .type "tuple", data := .seq its.toArray } (.tup vs)) := fun c q h => by unfold LamX.CodeO at h; cases h
        have xx := Ext.upd (o := .frz { cls := .type "tuple", data := .seq its.toArray } (.tup vs)) h3 h4
        exact ⟨.ref h'.objs.size, _, J2, rfl, h1 _ _ _ fps1 xx (F1.allocB hn) ⟨[], .tpl upd_same rfl (RDs.mono xx.1 _ _ rds), fun _ z => nomatch z⟩⟩
    | _ => simp only [seqD] at h1; exact h1.elim
theorem de_idxT (hN : X.N[i]? = some x) (hv : Vis X.env.scope x) (ha : DA X cl E [e] ms) (hl : Len ms 1) (hdb : (x == ("__debug__" : Str)) = false := by decide) (hcd : (x == ("__classdict__" : Str)) = false := by decide)
    (hbase : attributeBase (.Name x p) "index" X.env (eval (.Name x p) X.env) = eval (.Name x p) X.env := by rfl)
    (hfew : ((backTo cpos (starEach [e] X.env)).all (fun x => !x.1) && (backToKw cpos (keywordEach [] X.env)).all (fun x => x.1.isSome)
      && decide (([e] : List Expr).length + ([] : List Keyword).length + (if ([] : List Keyword).isEmpty then 0 else 1) < 30)) = true := by rfl)
    (hline : (apos.endLine == cpos.line) = true := by rfl) (hs : starEach [e] X.env = (false, eval e X.env) :: starEach [] X.env := by rfl) :
    DE X cl E (.Call (.Attribute (.Name x p) "index" apos) [e] [] cpos) (mIdxT i ms) := by
  refine ⟨fun pins s σ H Q I ⟨P, B, env, fps, F, h⟩ => ?_⟩
  unfold mIdxT at h
  split at h
  · rename_i ds he
    obtain ⟨v0, s0, r0⟩ := F.slot i _ he
    obtain ⟨a, vs, ob, rfl, _, hB, hnd, rds⟩ := r0.tpl_inv
    refine wpAny_Call_method_late hbase hfew hline rfl (thn ((pe_var hN hv hdb hcd).run pins s σ H (fun v H1 => v = .ref a ∧ H1 = H) I ⟨_, s0, rfl, rfl⟩) fun v s1 ⟨x1, H1, I1, r1, q1, q2⟩ => ?_)
    subst q1 q2
    cases r1
    obtain ⟨hob, hto⟩ := I1.hok a _ (F.sub _ _ hB)
    obtain ⟨hz, its, rv, htup⟩ := hto
    refine ⟨"tuple", "tuple.index", PySem.F.plainAttrs_tuple, PySem.F.slot_tuple_index, PySem.F.type_tuple_index, ?_, fun b eb => ?_, ?_⟩
    · obtain ⟨o, ho, hc, _⟩ := htup
      exact ⟨o, ho, hc⟩
    · cases eb
      exact ⟨ob, hob, hnd⟩
    · have hA := ha.run cpos pins s1 σ H1 (fun vs H2 => ∃ B2 env2 fps2 rs, Ext P B B2 ∧ Fm X.K P B2 H2 σ env2 fps2 ∧ Paired (RvS X.K B2 σ) rs vs ∧ PostE X.K cl E P B2 σ ((match resAll env2 rs, intsD ds with
        | some [.int k], some ns => if k ∈ ns then .ok (.d (.int (ns.idxOf k : Nat))) env2 else .stuck
        | _, _ => .stuck : Rs Rv)) Q) I1 ⟨P, B, env, fps, F, (postE_bnd h).mono fun rs H2 B2 fps2 env2 x2 F2 h2 vs hv => ⟨B2, env2, fps2, rs, x2, F2, hv, h2⟩⟩
      rw [hs] at hA ⊢
      refine Calls.callWith_builtin (by rfl) (Calls.evalArgs_plain ?_)
      refine thn hA fun us s2 ⟨vs2, H2, I2, r2, B2, env2, fps2, rs, x2, F2, hv2, h2⟩ => ?_
      split at h2
      · rename_i k ns e3 e4
        split at h2
        · rename_i hk
          obtain ⟨v2, rfl, rv2⟩ := paired1 (F2.resAll hv2 e3)
          have hv3 : v2 = .int k := by
            rcases rv2 with r | ⟨_, _, _, z, _⟩
            · cases r; rfl
            · cases z
          subst hv3
          obtain ⟨u, rfl, t, rfl⟩ := vals1 r2
          obtain ⟨hob2, hz2, its2, rv3, htup2⟩ := I2.hok a _ (F2.sub _ _ (x2.1 _ _ hB))
          have hw := intsD_vals rds e4
          subst hw
          refine PySem.SeqAt.tuple_index_ints (vs := its2) htup2 ?_ hk ?_
          · exact Vals.ints rv3
          · exact ⟨.int (ns.idxOf k : Nat), H2, I2.tok _, ⟨_, rfl⟩, h2 _ _ B2 fps2 Ext.refl F2 (.int _)⟩
        · exact h2.elim
      · exact h2.elim
  · exact h.elim
end
end Mi
namespace Mi
open PySem PySem.Spec L2
theorem frz_tpl {ds : List D} : (Rv.own (.tpl ds)).frz = .d (.tuple ds) := rfl
theorem orv_tpl {ds : List D} : O.rv (.tpl ds) = .own (.tpl ds) := rfl
theorem ok_tupC {m : M Rv} {env : Env} {Q : Rv → Env → Prop} : Ok (mTupC m env) Q ↔ Ok (m env) fun r e => Opt (res e r.frz) fun x => lst1 x fun ds => Q (.own (.tpl ds)) e := by
  unfold mTupC
  rw [ok_bnd, ok_vm]
  refine Iff.of_eq (congrArg _ (funext fun r => funext fun e => propext ?_))
  cases res e r.frz with
  | none => exact Iff.rfl
  | some x => cases x <;> exact Iff.rfl
def tplAt (i : Nat) (e : Env) (K : List D → Prop) : Prop := match e[i]? with
  | some (some (.tpl ds)) => K ds
  | _ => False
def gIxT (ds xs : List D) : Option D := match xs, intsD ds with
  | [.int k], some ns => if k ∈ ns then some (.int (ns.idxOf k : Nat)) else none
  | _, _ => none
theorem ok_idxT {i : Nat} {ms : M (List Rv)} {env : Env} {Q : Rv → Env → Prop} : Ok (mIdxT i ms env) Q ↔ tplAt i env fun ds => Ok (ms env) fun rs e => Opt (resAll e rs) fun xs => Opt (gIxT ds xs) fun d => Q (.d d) e := by
  unfold mIdxT tplAt
  rcases env[i]? with _ | _ | _ | _ | _ | ds <;> try exact Iff.rfl
  show Ok (bnd ms _ env) Q ↔ _
  rw [ok_bnd]
  refine Iff.of_eq (congrArg _ (funext fun rs => funext fun e => propext ?_))
  cases resAll e rs with
  | none => exact Iff.rfl
  | some xs =>
    rw [opt_some]
    unfold gIxT
    rcases xs with _ | ⟨a, _ | ⟨b, t⟩⟩
    · exact Iff.rfl
    · cases a <;> try exact Iff.rfl
      cases intsD ds with
      | none => exact Iff.rfl
      | some ns =>
        simp only
        split <;> exact Iff.rfl
    · cases a <;> exact Iff.rfl
end Mi

set_option Elab.async false
set_option linter.all false
set_option maxRecDepth 100000
set_option autoImplicit false
namespace Mi
open PySem PySem.Spec L2
/-! ### raise X("..") of an own class; try .. except X: return ".." -/
def clK (K : PySem.W.Frag) (c : String) : Addr := He.ga K (Str.ofString c)
structure ExF (K : PySem.W.Frag) (mg : Str → Option Value) (c : String) : Prop where
  gC : mg (Str.ofString c) = some (.ref (clK K c))
  kC : PySem.W.keepIn K (.ref (clK K c)) = true
  q : PySem.W.excIn K (clK K c) He.veBase "ValueError.__new__" = true
  r1 : PySem.W.subIn K (.ref (clK K c)) (.type "BaseException") = some true
  r2 : PySem.W.typeIn K (.ref (clK K c)) = some (.type "type")
theorem exF_of {K : PySem.W.Frag} {h : Heap} {mg : Str → Option Value} {c : String} (X : K.In h) (G : h.Ns mainGlobals mg) (h1 : (He.Fa.glo (Str.ofString c)).ok K = true) (h2 : (He.Fa.exc (Str.ofString c)).ok K = true) : ExF K mg c := by
  obtain ⟨a, b, d, e⟩ := He.exc_ok h2
  exact ⟨He.glo_ok X G h1, b, a, d, e⟩
def mRaise (c : String) : M Fl := fun env => .ex c env
def exmT (errs : List String) (c x : String) : Option Bool := if c ∈ errs ∧ x ∈ errs then some (decide (c = x)) else none
def pickH (errs : List String) (c : String) : List (String × Str) → Option (Option Str)
  | [] => some none
  | (x, d) :: r => match exmT errs c x with
    | some true => some (some d)
    | some false => pickH errs c r
    | none => none
def mTry (errs : List String) (body : M Fl) (hs : List (String × Str)) : M Fl := fun env => match body env with
  | .ok fl e => .ok fl e
  | .ex c e => match pickH errs c hs with
    | some (some d) => .ok (.rt (.dat (.str d))) e
    | some none => .ex c e
    | none => .stuck
  | .stuck => .stuck
section
variable {X : Cx} {E : XK} {io : List Nat} {m : M Fl} {body : List Stmt} {h₀ : ExceptHandler} {hds : List ExceptHandler} {l : List (String × Str)} {errs : List String} {pos pos' p p2 : Pos} {j : Nat} {x t : Str} {c : String}
theorem ds_raise (F : ExF X.K X.mg c) (hg : Gl X (Str.ofString c)) (hc : X.calm = true) (tk : L2.Takes X fun cls d _ H => E cls d H) (hdb : ((Str.ofString c) == ("__debug__" : Str)) = false := by decide) :
    DS X (clK X.K) E io (.Raise (some (.Call (.Name (Str.ofString c) p) [.Constant (.str t) j p2] [] pos)) none pos') (mRaise c) :=
  ⟨fun pins s σ H D I ⟨P, B, env, fps, Fr, h⟩ => (L2.ps_raise hc tk (L2.pmk_own PySem.F.excBase_ValueError F.q F.gC F.kC (L2.raises_own F.r1 F.r2) hg hdb)).run pins s σ H D I (h σ H B fps Ext.refl Fr SameIo.refl)⟩
/-- the clauses, each with the text that it gives back -/
inductive HdsC (X : Cx) (cl : String → Addr) : List ExceptHandler → List (String × Str) → Prop
  | nil : HdsC X cl [] []
  | cons {c : String} {t : Str} {j : Nat} {np p p' pos' : Pos} {hds : List ExceptHandler} {l : List (String × Str)} (hc : L2.Names X (Str.ofString c) (.ref (cl c))) (r : HdsC X cl hds l) :
      HdsC X cl (.ExceptHandler (some (.Name (Str.ofString c) np)) none [.Return (some (.Constant (.str t) j p)) p'] pos' :: hds) ((c, t) :: l)
def hdT (K : PySem.W.Frag) (cl : String → Addr) (l : List (String × Str)) : List (Value × (Addr → Value → Option Addr → TS)) := l.map fun q => (.ref (cl q.1), fun _ _ _ D _ H => D.rt (.str q.2) H)
theorem hdsOk_of {cl : String → Addr} (h : HdsC X cl hds l) : L2.HdsOk X hds (hdT X.K cl l) := by
  induction h with
  | nil => exact .nil
  | @cons c t j np p p' pos' hds l hc r ih =>
    refine .cons hc (fun a oe cls d pn hz hf => ?_) ih
    exact pss_one ⟨fun pins s σ H D I h => (ps_ret pe_str).run pins s σ H D I h⟩
theorem many_of {cl : String → Addr} {D : Ends} {σ : L2.St} {H : Hp} {W : L2.WX} (hx : ∀ c ∈ errs, ∀ x ∈ errs, PySem.W.exmOne X.K (.ref (cl c)) (.ref (cl x)) = some (decide (c = x))) :
    ∀ {l : List (String × Str)} {r : Option Str}, pickH errs c l = some r → (∀ t, r = some t → D.rt (.str t) H) → (r = none → W (.ref (cl c)) none σ H) → L2.wMany X.K W D (hdT X.K cl l) (.ref (cl c)) none σ H
  | [], r, e, h1, h2 => by cases e; exact h2 rfl
  | (x, t) :: l, r, e, h1, h2 => by
    unfold pickH at e
    cases he : exmT errs c x with
    | none => rw [he] at e; cases e
    | some b =>
      have hb : PySem.W.exmOne X.K (.ref (cl c)) (.ref (cl x)) = some b := by
        unfold exmT at he
        split at he
        · rename_i hm
          cases he
          exact hx c hm.1 x hm.2
        · cases he
      rw [he] at e
      refine ⟨b, hb, fun hb1 a ha => ?_, fun hb0 => ?_⟩
      · subst hb1
        cases e
        exact h1 t rfl
      · subst hb0
        exact many_of hx e h1 h2
theorem ds_try (hs : X.stack = X.env :: X.outer) (hf : X.env.frame = some X.env.locals) (tk : L2.Takes X fun cls d _ H => E cls d H)
    (hx : ∀ c ∈ errs, ∀ x ∈ errs, PySem.W.exmOne X.K (.ref (clK X.K c)) (.ref (clK X.K x)) = some (decide (c = x)))
    (hb : ∀ (E' : XK) (pn : List (Addr × Obj)) (xe : Value → Shared → Prop), L2.Takes (X.tr pn xe) (fun cls d _ H => E' cls d H) → PassesOwn (model X.prog X.w) X.A X.env xe → DSs (X.tr pn xe) (clK X.K) E' io body m)
    (hh : HdsC X (clK X.K) (h₀ :: hds) l) : DS X (clK X.K) E io (.Try body (h₀ :: hds) [] [] pos) (mTry errs m l) := by
  refine ⟨fun pins s σ H D I ⟨P, B, env, fps, Fr, h⟩ => ?_⟩
  refine (L2.ps_try_many (tb := fun W => tMS X.K (clK X.K) (fun cls d H => ∀ σ, W cls d σ H) io m) hs hf tk (fun W pn xe tkW po => hb _ pn xe (tkW.imp fun cls d σ H w => w σ) po) (hdsOk_of hh)).run pins s σ H D I ⟨P, B, env, fps, Fr, ?_⟩
  unfold mTry at h
  cases q : m env with
  | stuck => rw [q] at h; exact h.elim
  | ok fl e => rw [q] at h; exact h
  | ex c e =>
    rw [q] at h
    simp only at h
    intro σ' H' B' fps' xx F' ss σ2
    cases r : pickH errs c l with
    | none => rw [r] at h; exact h.elim
    | some r2 =>
      rw [r] at h
      refine many_of hx r (fun t et => ?_) (fun en => ?_)
      · subst et
        exact h σ' H' B' fps' xx F' ss (.str t) [] (.dat (.str t)) (fun a ha => by simp at ha)
      · subst en
        exact h σ' H' B' fps' xx F' ss
end
theorem law_atC {cl : String → Addr} {l : PySem.W.OpenLaw} {w : World} {K : PySem.W.Frag} {h : Heap} {mg : Str → Option Value} {f : Addr} {fd : FuncData} {fas : List He.Fa} {dfn : List He.DefD} {tfs : List He.Defn} {exB : PySem.W.Frag → Bool} {k n : Nat} {x : Str} {F : M O} {T : List (Addr × Str)}
    (cx : He.SaysX fas dfn [] tfs exB w h K) (X : K.In h) (te : tabsOf K = T) (tt : T = tfs.map fun p => ((He.cT K p).2, lamQ p.1)) (hb : ∀ (s : Shared) (v : Value), BindsTo s fd ⟨[v], []⟩ [(x, v)]) (pl : Holds n F)
    (hF : ∀ base : Heap, K.In base → base.Ns mainGlobals mg → (∀ p ∈ tfs, LamX.TabB base mg (He.cT K p).1 (He.cT K p).2) → FnOk l.prog w K mg base CX0 k f fd [x] fun vs H Q E => spF K cl 1 [] F vs H Q fun _ _ _ => False) :
    LamX.LawAtS l w K CX0 k n x mg f h := by
  refine ⟨fd, tfs.map (He.cT K), fun vs H Q _ => spF K cl 1 [] F vs H Q fun _ _ _ => False, fun p hp => ?_, fun p hp => ?_, fun p hp => ?_, hb, fun H a ns hl _ hT hS => law_sp pl H a ns hl hS fun p hp => ?_, fun base hb1 hb2 tb => hF base hb1 hb2 fun p hp => tb _ (List.mem_map.mpr ⟨p, hp, rfl⟩)⟩
  · obtain ⟨q, hq, rfl⟩ := List.mem_map.mp hp
    exact cx.empty q hq
  · obtain ⟨q, hq, rfl⟩ := List.mem_map.mp hp
    exact cx.out q hq
  · obtain ⟨q, hq, rfl⟩ := List.mem_map.mp hp
    exact PySem.W.codeHd_of_K X (cx.hd q hq)
  · rw [te, tt] at hp
    obtain ⟨q, hq, rfl⟩ := List.mem_map.mp hp
    exact hT _ (List.mem_map.mpr ⟨q, hq, rfl⟩)
/-- .. wp rules: what is let out -/
@[irreducible] def Okc {α : Type} (r : Rs α) (Q : α → Env → Prop) (QE : String → Env → Prop) : Prop := match r with
  | .ok a e => Q a e
  | .ex c e => QE c e
  | .stuck => False
theorem okd_ok {α : Type} {a : α} {e : Env} {Q : α → Env → Prop} {QE : String → Env → Prop} : Okc (.ok a e) Q QE ↔ Q a e := by unfold Okc; exact Iff.rfl
theorem okd_ex {α : Type} {c : String} {e : Env} {Q : α → Env → Prop} {QE : String → Env → Prop} : Okc (.ex c e) Q QE ↔ QE c e := by unfold Okc; exact Iff.rfl
theorem okd_st {α : Type} {Q : α → Env → Prop} {QE : String → Env → Prop} : Okc (.stuck) Q QE ↔ False := by unfold Okc; exact Iff.rfl
theorem okc_ok {α : Type} {r : Rs α} {Q : α → Env → Prop} {QE : String → Env → Prop} (h : Ok r Q) : Okc r Q QE := by
  unfold Okc
  cases r with
  | ok a e => exact h
  | ex c e => exact h.elim
  | stuck => exact h.elim
theorem okc_bnd {α β : Type} {m : M α} {k : α → M β} {env : Env} {Q : β → Env → Prop} {QE : String → Env → Prop} (h : Okc (m env) (fun a e => Okc (k a e) Q QE) QE) : Okc (bnd m k env) Q QE := by
  unfold bnd
  cases q : m env with
  | ok a e => rw [q] at h; exact okd_ok.mp h
  | ex c e => rw [q] at h; exact okd_ex.mpr (okd_ex.mp h)
  | stuck => rw [q] at h; exact (okd_st.mp h).elim
theorem okc_mono {α : Type} {r : Rs α} {Q Q' : α → Env → Prop} {QE QE' : String → Env → Prop} (h : Okc r Q QE) (h1 : ∀ a e, Q a e → Q' a e) (h2 : ∀ c e, QE c e → QE' c e) : Okc r Q' QE' := by
  unfold Okc at h ⊢
  cases r with
  | ok a e => exact h1 _ _ h
  | ex c e => exact h2 _ _ h
  | stuck => exact h
theorem ok_mTry {errs : List String} {m : M Fl} {l : List (String × Str)} {env : Env} {Q : Fl → Env → Prop} (h : Okc (m env) Q fun c e => ∃ d, pickH errs c l = some (some d) ∧ Q (.rt (.dat (.str d))) e) : Ok (mTry errs m l env) Q := by
  unfold mTry
  unfold Okc at h
  cases q : m env with
  | ok fl e => rw [q] at h; exact h
  | ex c e =>
    rw [q] at h
    obtain ⟨d, h1, h2⟩ := h
    simp only [h1]
    exact h2
  | stuck => rw [q] at h; exact h
theorem okc_call {io : List Nat} {F : M O} {ms : M (List Rv)} {env : Env} {Q : Rv → Env → Prop} {QE : String → Env → Prop}
    (h : Ok (ms env) fun rs e => Opt (argOs io e 0 rs) fun cenv => apart (ioSlots io 0 rs) (lentSlots io 0 rs) = true ∧
      Okc (F cenv) (fun o ce => ((lentSlots io 0 rs).isEmpty || (o.flat && allFlat ce (ioSlots io 0 rs))) = true ∧ Opt (backEnv ce (ioSlots io 0 rs) e) fun e' => Q o.rv e')
        (fun c ce => ((lentSlots io 0 rs).isEmpty || allFlat ce (ioSlots io 0 rs)) = true ∧ Opt (backEnv ce (ioSlots io 0 rs) e) fun e' => QE c e')) : Okc (mCall io F ms env) Q QE := by
  unfold mCall
  refine okc_bnd ?_
  refine okc_mono (okc_ok h) (fun rs e h1 => ?_) fun c e z => z
  cases ec : argOs io e 0 rs with
  | none => rw [ec] at h1; exact h1.elim
  | some cenv =>
    rw [ec, opt_some] at h1
    obtain ⟨h2, h3⟩ := h1
    simp only [h2, if_true]
    cases q : F cenv with
    | stuck => rw [q] at h3; unfold Okc at h3; exact h3.elim
    | ok o ce =>
      rw [q] at h3
      unfold Okc at h3
      obtain ⟨h4, h5⟩ := h3
      simp only [h4, if_true]
      cases eb : backEnv ce (ioSlots io 0 rs) e with
      | none => rw [eb] at h5; exact h5.elim
      | some e' => rw [eb] at h5; unfold Okc; exact h5
    | ex c ce =>
      rw [q] at h3
      unfold Okc at h3
      obtain ⟨h4, h5⟩ := h3
      simp only [h4, if_true]
      cases eb : backEnv ce (ioSlots io 0 rs) e with
      | none => rw [eb] at h5; exact h5.elim
      | some e' => rw [eb] at h5; unfold Okc; exact h5
section
variable {env : Env} {Q : Fl → Env → Prop} {QE : String → Env → Prop}
theorem okc_ex {m : M Rv} (h : Okc (m env) (fun _ e => Q .nx e) QE) : Okc (mEx m env) Q QE := by
  unfold mEx
  exact okc_bnd (okc_mono h (fun _ _ z => by unfold Okc; exact z) fun _ _ z => z)
def nxQ (Q : Fl → Env → Prop) (K : Env → Prop) : Fl → Env → Prop := fun fl e => match fl with
  | .nx => K e
  | fl => Q fl e
theorem okc_seq {a b : M Fl} (h : Okc (a env) (nxQ Q fun e => Okc (b e) Q QE) QE) : Okc (mSeq a b env) Q QE := by
  unfold mSeq
  refine okc_bnd (okc_mono h (fun fl e z => ?_) fun _ _ z => z)
  cases fl <;> first | exact z | (unfold Okc; exact z)
theorem okc_ite {t : M Bool} {a b : M Fl} (h : Ok (t env) fun c e => (c = true → Okc (a e) Q QE) ∧ (c = false → Okc (b e) Q QE)) : Okc (mIte t a b env) Q QE := by
  unfold mIte
  refine okc_bnd (okc_mono (okc_ok h) (fun c e z => ?_) fun _ _ z => z)
  cases c with
  | true => exact z.1 rfl
  | false => exact z.2 rfl
theorem okc_raise {c : String} (h : QE c env) : Okc (mRaise c env) Q QE := by unfold Okc; exact h
theorem okc_runF {n : Nat} {m : M Fl} {os : Env} {Q : O → Env → Prop} {QE : String → Env → Prop}
    (h : Okc (m (os ++ List.replicate (n - os.length) none)) (fun fl e => match fl with
      | .rt o => Q o e
      | .nx => Q (.dat .none) e
      | _ => False) QE) : Okc (runF n m os) Q QE := by
  unfold runF
  unfold Okc at h ⊢
  cases q : m (os ++ List.replicate (n - os.length) none) with
  | ok fl e =>
    rw [q] at h
    cases fl <;> exact h
  | ex c e => rw [q] at h; exact h
  | stuck => rw [q] at h; exact h
end
/-! ### a <= b < c as a value -/
def mChV (g1 g2 : Int → Int → Bool) (ma mb mc : M Rv) : M Rv := bnd (mCh g1 g2 ma mb mc) fun b => ret (.d (.bool b))
section
variable {X : Cx} {cl : String → Addr} {E : XK} {a b c : Expr} {ma mb mc : M Rv} {pos : Pos} {op op' : CmpOp} {g1 g2 : Int → Int → Bool}
theorem de_ch (h1 : OpR X (compareOp op) (rI0 fun i j => .bl (g1 i j))) (h2 : OpR X (compareOp op') (rI0 fun i j => .bl (g2 i j))) (ha : DE X cl E a ma) (hb : DE X cl E b mb) (hc : DE X cl E c mc)
    (hm : lastMarks [op, op'] [b, c] = false := by with_unfolding_all rfl) : DE X cl E (.Compare a [op, op'] [b, c] pos) (mChV g1 g2 ma mb mc) := by
  refine ⟨fun pins s σ H Q I h => (pe_chain h1 h2 ha hb hc hm).run pins s σ H Q I ?_⟩
  obtain ⟨P, B, env, fps, F, h⟩ := h
  unfold mChV mCh at h
  have h0 := postE_bnd h
  refine ⟨P, B, env, fps, F, (postX_vm h0).mono ?_⟩
  rintro v H1 ⟨B1, env1, fps1, r1, x1, F1, w1, h3⟩
  refine ⟨P, B1, env1, fps1, F1, (postX_vm h3).mono ?_⟩
  rintro v2 H2 ⟨B2, env2, fps2, r2, x2, F2, w2, h4⟩
  split at h4
  · rename_i i j
    refine ⟨i, j, rvs_int w1, rvs_int w2, _, rfl, ?_⟩
    split at h4
    · rename_i hg
      rw [if_pos hg]
      refine ⟨P, B2, env2, fps2, F2, (postX_vm h4).mono ?_⟩
      rintro v3 H3 ⟨B3, env3, fps3, r3, x3, F3, w3, h5⟩
      split at h5
      · rename_i k
        exact ⟨j, k, rvs_int w2, rvs_int w3, h5 _ _ _ Ext.refl F3 _ _ _ _ Ext.refl F3 (.bl _)⟩
      · exact h5.elim
    · rename_i hg
      rw [if_neg hg]
      exact h4 _ _ _ Ext.refl F2 _ _ _ _ Ext.refl F2 (.bl false)
  · exact h4.elim
theorem ok_chV {ma mb mc : M Rv} {env : Env} {Q : Rv → Env → Prop} : Ok (mChV g1 g2 ma mb mc env) Q ↔ Ok (mCh g1 g2 ma mb mc env) fun b e => Q (.d (.bool b)) e := ok_bnd
end
end Mi

set_option Elab.async false
set_option linter.all false
set_option maxRecDepth 100000
namespace Mi
open PySem PySem.Spec L2
/-! ### a <= b <= c of texts -/
def leS (i j : Str) : Bool := !decide (j.cps.toList < i.cps.toList)
def mChS (ma mb mc : M Rv) : M Rv := mChain (gS fun i j => vB (leS i j)) (gS fun i j => vB (leS i j)) ma mb mc
section
variable {X : Cx} {cl : String → Addr} {E : XK} {a b c : Expr} {ma mb mc : M Rv} {pos : Pos}
theorem de_chS (ha : DE X cl E a ma) (hb : DE X cl E b mb) (hc : DE X cl E c mc) (hm : lastMarks [.LtE, .LtE] [b, c] = false := by with_unfolding_all rfl) : DE X cl E (.Compare a [.LtE, .LtE] [b, c] pos) (mChS ma mb mc) :=
  de_chain ha hb hc op_le_str op_le_str (ru_S (g := leS)) (ru_S (g := leS)) (pe_chain op_le_str op_le_str ha hb hc hm)
theorem ok_chS {env : Env} {Q : Rv → Env → Prop} {x y z : Str} (h1 : ma env = .ok (.d (.str x)) env) (h2 : mb env = .ok (.d (.str y)) env) (h3 : mc env = .ok (.d (.str z)) env) (h : Q (.d (.bool (leS x y && leS y z))) env) : Ok (mChS ma mb mc env) Q := by
  unfold mChS mChain
  rw [ok_bnd, ok_vm, h1]
  show Ok (bnd (vm mb) _ env) Q
  rw [ok_bnd, ok_vm, h2]
  show Ok (match gS (fun i j => vB (leS i j)) (.str x) (.str y) with
    | some (.val (.bool true)) => _
    | some (.val (.bool false)) => _
    | _ => _) Q
  show Ok (match vB (leS x y) with
    | some (.val (.bool true)) => _
    | some (.val (.bool false)) => _
    | _ => _) Q
  cases e : leS x y with
  | false =>
    rw [e] at h
    exact h
  | true =>
    rw [e] at h
    show Ok (bnd (vm mc) _ env) Q
    rw [ok_bnd, ok_vm, h3]
    exact h
/-! ### tuple(range(a)) -/
def mTupR1 (ma : M Rv) : M Rv := bnd (vm ma) fun r => match r with
  | .d (.int j) => if 0 ≤ j ∧ j ≤ 16777216 then ret (.d (.tuple (rngD 0 j.toNat))) else stk
  | _ => stk
variable {p p2 pos2 : Pos}
theorem de_tupR1 (hc : X.calm = true) (hg : Gl X "tuple") (hm : X.mg "tuple" = none) (hg2 : Gl X "range") (hm2 : X.mg "range" = none) (ha : DE X cl E a ma)
    (na : starEach [a] X.env = (false, eval a X.env) :: starEach [] X.env := by rfl)
    (nc : starEach [.Call (.Name "range" p2) [a] [] pos2] X.env = (false, eval (.Call (.Name "range" p2) [a] [] pos2) X.env) :: starEach [] X.env := by rfl) :
    DE X cl E (.Call (.Name "tuple" p) [.Call (.Name "range" p2) [a] [] pos2] [] pos) (mTupR1 ma) := by
  refine ⟨fun pins s σ H Q I ⟨P, B, env, fps, F, h⟩ => (pe_tupRg hc hg hm (prg_1 hg2 hm2 ha na) nc).run pins s σ H Q I ⟨P, B, env, fps, F, ?_⟩⟩
  refine (post_vm h).mono ?_
  rintro v H1 ⟨B1, env1, fps1, r, x1, F1, w1, h1⟩
  split at h1
  · rename_i j
    split at h1
    · rename_i hj
      have e1 := rvs_int w1
      refine ⟨j, e1, RgOk.of_le (by omega) (by omega) (by omega) (by omega), fun l hl => ?_⟩
      obtain ⟨h3, h4, h5⟩ := F1.newB hl
      have xx := Ext.upd (o := .tup (rgV 0 j)) h3 h4
      have ej : (j - 0).toNat = j.toNat := by omega
      refine h1 _ _ _ fps1 xx (F1.allocB hl) (.tup (.inl (.inl upd_same)) ?_)
      have rr := RDs.mono (K := X.K) xx.1 _ _ (rgV_rd (B := B1) 0 (j - 0).toNat)
      have ed : rngD 0 j.toNat = rngD 0 (j - 0).toNat := by rw [ej]
      rw [ed]
      exact rr
    · exact h1.elim
  · exact h1.elim
theorem ok_mTupR1 {env : Env} {Q : Rv → Env → Prop} : Ok (mTupR1 ma env) Q ↔ Ok (ma env) fun r e => RI r.frz fun j => (0 ≤ j ∧ j ≤ 16777216) ∧ Q (.d (.tuple (rngD 0 j.toNat))) e := by
  unfold mTupR1
  rw [ok_bnd, ok_vm]
  refine Iff.of_eq (congrArg _ (funext fun r => funext fun e => propext ?_))
  generalize r.frz = r
  rcases r with (_ | b | k | _ | _ | _ | _) | _ | _ <;> try exact Iff.rfl
  simp only [ri_i]
  by_cases hj : 0 ≤ k ∧ k ≤ 16777216
  · rw [if_pos hj]
    exact ⟨fun h => ⟨hj, h⟩, fun h => h.2⟩
  · rw [if_neg hj]
    exact ⟨fun h => h.elim, fun h => absurd h.1 hj⟩
end
end Mi

set_option Elab.async false
set_option linter.all false
set_option maxRecDepth 100000
namespace Mi
open PySem PySem.Spec L2

/-! ### keys that are numbers, texts, tuples of such, at any depth up to 8 (nmK: no text within) -/
mutual
def nmK : NestedKey → Bool
  | .none => true
  | .num _ => true
  | .text _ => false
  | .tup ks => nmKs ks
def nmKs : List NestedKey → Bool
  | [] => true
  | k :: ks => nmK k && nmKs ks
end
structure IsN (h : Heap) (k : NestedKey) (b : Addr) : Prop where
  is : NestedIs h k (.ref b)
  dp : k.depth ≤ 8
theorem IsN.keep {h h' : Heap} {k : NestedKey} {b : Addr} (x : IsN h k b) (hk : ∀ c o vs n, h.get? c = some o → o.data = .seq vs n → h'.get? c = some o) : IsN h' k b := ⟨NestedIs.at hk _ _ x.is, x.dp⟩
theorem IsN.grow {h h' : Heap} {k : NestedKey} {b : Addr} (x : IsN h k b) (hk : ∀ c o, h.get? c = some o → h'.get? c = some o) : IsN h' k b := x.keep fun c o _ _ e _ => hk c o e
theorem IsN.off {h h' : Heap} {k : NestedKey} {a b : Addr} {o : Obj} {es : Array (Int × Value)} {ep : Nat} {t : SetTable} (x : IsN h k b) (ho : h.get? a = some o) (hd : o.data = .set es ep t) (hs : Heap.SameBut a h h') : IsN h' k b :=
  x.keep fun c u vs n e ed => (hs.2 c (by
    rintro rfl
    cases Option.some.inj (e.symm.trans ho)
    rw [hd] at ed
    cases ed)).trans e
section
variable {P : Program} {w : World}
/-- two questions that a set asks of its keys -/
def ClsAt (P : Program) (w : World) (n : Nat) (s : Shared) (v : Value) : Prop := ∀ (A : Around) (E : Value → Shared → Prop) (Q : Bool → Shared → Prop), Q false s → wpAny (model P w) A (ofAClassStatement n v) Q E s
def HbvAt (P : Program) (w : World) (n : Nat) (s : Shared) (v : Value) (b : Bool) : Prop := ∀ (A : Around) (E : Value → Shared → Prop) (Q : Bool → Shared → Prop), Q b s → wpAny (model P w) A (hashByValue n v) Q E s
theorem ClsAt.tup {n : Nat} {s : Shared} {a : Addr} {o : Obj} {vs : Array Value} {m : Nat} (ho : s.heap.get? a = some o) (hc : o.cls = .type "tuple") (hd : o.data = .seq vs m) (hq : ∀ v ∈ vs.toList, ClsAt P w n s v) : ClsAt P w (n + 1) s (.ref a) := fun A E Q h => by
  unfold ofAClassStatement
  refine wpAny_bind (wpAny_typeOf (⟨o, ho, hc⟩ : s.TypeIs (.ref a) "tuple") ?_)
  dsimp only
  have e : (("tuple" : String) == "tuple") = true := by decide
  simp only [e, if_true, Bool.not_true, Bool.false_eq_true, if_false]
  try refine wpAny_bind (wpAny_pure ?_)
  try simp only [Bool.not_true, Bool.false_eq_true, if_false]
  show wpAny _ _ (seqItems? (.ref a) >>= _) _ _ s
  refine wpAny_bind (wpAny_seqItems ho hd ?_)
  dsimp only
  refine wpAny_bind ?_
  show wpAny _ _ (forIn vs _ _) _ _ s
  rw [← Array.forIn_toList]
  refine wpAny_forIn_list _ (fun rest r s' => r.1 = none ∧ s' = s ∧ ∀ v ∈ rest, ClsAt P w n s v) _ ?_ ?_ _ _ ⟨rfl, rfl, hq⟩
  · rintro v rest r s' ⟨hr, rfl, hall⟩
    refine wpAny_bind (hall v List.mem_cons_self _ _ _ ?_)
    simp only [Bool.false_eq_true, if_false]
    exact wpAny_pure ⟨rfl, rfl, fun u hu => hall u (List.mem_cons_of_mem _ hu)⟩
  · rintro ⟨r1, r2⟩ s' ⟨hr, rfl, _⟩
    simp only at hr
    subst hr
    exact wpAny_pure h
theorem HbvAt.tup {n : Nat} {s : Shared} {a : Addr} {o : Obj} {vs : Array Value} {m : Nat} {bs : List Bool} (ho : s.heap.get? a = some o) (hc : o.cls = .type "tuple") (hd : o.data = .seq vs m) (hq : Paired (fun v b => HbvAt P w n s v b) vs.toList bs) : HbvAt P w (n + 1) s (.ref a) (bs.all id) := fun A E Q h => by
  unfold hashByValue
  refine wpAny_bind (wpAny_specialOf (⟨o, ho, hc⟩ : s.TypeIs (.ref a) "tuple") PySem.F.slot_tuple_hash.lookup ?_)
  show wpAny _ _ (seqItems? (.ref a) >>= _) _ _ s
  refine wpAny_bind (wpAny_seqItems ho hd ?_)
  refine wpAny_bind ?_
  show wpAny _ _ (forIn vs _ _) _ _ s
  rw [← Array.forIn_toList]
  refine wpAny_forIn_list _ (fun rest r s' => r.1 = none ∧ s' = s ∧ ∃ bs', Paired (fun v b => HbvAt P w n s v b) rest bs' ∧ bs'.all id = bs.all id) _ ?_ ?_ _ _ ⟨rfl, rfl, bs, hq, rfl⟩
  · rintro v rest r s' ⟨hr, rfl, bs', hp, he⟩
    cases hp with
    | @cons _ b _ bs2 h1 h2 =>
      refine wpAny_bind (h1 _ _ _ ?_)
      cases b with
      | true =>
        simp only [Bool.not_true, Bool.false_eq_true, if_false]
        exact wpAny_pure ⟨rfl, rfl, bs2, h2, by rw [← he, List.all_cons]; rfl⟩
      | false =>
        have e0 : bs.all id = false := by rw [← he, List.all_cons]; rfl
        rw [e0] at h
        simp only [Bool.not_false, if_true]
        exact wpAny_pure (wpAny_pure h)
  · rintro ⟨r1, r2⟩ s' ⟨hr, rfl, bs', hp, he⟩
    simp only at hr
    subst hr
    cases hp
    have e0 : bs.all id = true := by rw [← he]; rfl
    rw [e0] at h
    exact wpAny_pure h
mutual
theorem cls_key : ∀ (k : NestedKey) (v : Value) (n : Nat) (s : Shared), NestedIs s.heap k v → k.depth ≤ n → ClsAt P w n s v
  | .none, _, n, s, x, _ => by cases x; intro A E Q h; cases n <;> exact wpAny_pure h
  | .num i, _, n, s, x, _ => by cases x <;> (intro A E Q h; cases n <;> exact wpAny_pure h)
  | .text y, _, n, s, x, _ => by cases x; intro A E Q h; cases n <;> exact wpAny_pure h
  | .tup ks, _, n, s, x, hn => by
    cases x with
    | tup hg hc hd hk =>
      simp only [NestedKey.depth] at hn
      cases n with
      | zero => omega
      | succ n => exact .tup hg hc hd (cls_keys ks _ n s hk (by omega))
theorem cls_keys : ∀ (ks : List NestedKey) (vs : List Value) (n : Nat) (s : Shared), NestedAll s.heap ks vs → NestedKey.depthAll ks ≤ n → ∀ v ∈ vs, ClsAt P w n s v
  | [], _, n, s, x, _, v, hv => by cases x; cases hv
  | k :: ks, _, n, s, x, hn, v, hv => by
    cases x with
    | cons x1 x2 =>
      simp only [NestedKey.depthAll] at hn
      rcases List.mem_cons.mp hv with e | hv
      · rw [e]; exact cls_key k _ n s x1 (by omega)
      · exact cls_keys ks _ n s x2 (by omega) v hv
end
theorem nmKs_all : ∀ ks : List NestedKey, nmKs ks = (ks.map nmK).all id
  | [] => rfl
  | k :: ks => by rw [nmKs, nmKs_all ks]; rfl
mutual
theorem hbv_key : ∀ (k : NestedKey) (v : Value) (n : Nat) (s : Shared), NestedIs s.heap k v → k.depth ≤ n → HbvAt P w n s v (nmK k)
  | .none, _, n, s, x, _ => by cases x; intro A E Q h; cases n <;> exact wpAny_pure h
  | .num i, _, n, s, x, _ => by cases x <;> (intro A E Q h; cases n <;> exact wpAny_pure h)
  | .text y, _, n, s, x, _ => by cases x; intro A E Q h; cases n <;> exact wpAny_pure h
  | .tup ks, _, n, s, x, hn => by
    cases x with
    | tup hg hc hd hk =>
      simp only [NestedKey.depth] at hn
      cases n with
      | zero => omega
      | succ n =>
        simp only [nmK]
        rw [nmKs_all]
        exact .tup hg hc hd (hbv_keys ks _ n s hk (by omega))
theorem hbv_keys : ∀ (ks : List NestedKey) (vs : List Value) (n : Nat) (s : Shared), NestedAll s.heap ks vs → NestedKey.depthAll ks ≤ n → Paired (fun v b => HbvAt P w n s v b) vs (ks.map nmK)
  | [], _, n, s, x, _ => by cases x; exact .nil
  | k :: ks, _, n, s, x, hn => by
    cases x with
    | cons x1 x2 =>
      simp only [NestedKey.depthAll] at hn
      exact .cons (hbv_key k _ n s x1 (by omega)) (hbv_keys ks _ n s x2 (by omega))
end
variable {A : Around} {E : Value → Shared → Prop} {s : Shared}
theorem IsN.cls {k : NestedKey} {b : Addr} {Q : Bool → Shared → Prop} (x : IsN s.heap k b) (h : Q false s) : wpAny (model P w) A (ofAClassStatement 8 (.ref b)) Q E s := cls_key _ _ _ _ x.is x.dp _ _ _ h
theorem IsN.hbv {k : NestedKey} {b : Addr} {Q : Bool → Shared → Prop} (x : IsN s.heap k b) (h : Q (nmK k) s) : wpAny (model P w) A (hashByValue 8 (.ref b)) Q E s := hbv_key _ _ _ _ x.is x.dp _ _ _ h
theorem IsN.quiet {k : NestedKey} {b : Addr} {Q : Bool → Shared → Prop} (x : IsN s.heap k b) (h : Q true s) : wpAny (model P w) A (eqIsQuiet 8 (.ref b)) Q E s := quiet_key _ _ _ _ x.is x.dp _ _ _ h
theorem IsN.nk {k : NestedKey} {b : Addr} (x : IsN s.heap k b) : (nestedKind P w).is s.heap k b := ⟨x.is, x.dp⟩
theorem IsN.eqb {k k' : NestedKey} {b c : Addr} {Q : Bool → Shared → Prop} (hu : A.units + 8 < cLine) (x : IsN s.heap k b) (y : IsN s.heap k' c) (h : Q (decide (k = k')) s) : wpAny (model P w) A (eqBool (.ref b) (.ref c)) Q E s :=
  (nestedKind P w).eqBool hu x.nk y.nk h
theorem IsN.pyh {k : NestedKey} {b : Addr} {Q : Int → Shared → Prop} (hu : A.units + 8 < cLine) (x : IsN s.heap k b) (h : Q (k.hash w) { s with toks := s.toks + k.draws }) : wpAny (model P w) A (pyHash (.ref b)) Q E s :=
  (nestedKind P w).pyHash hu x.nk h
/-- a look among such keys shows nothing -/
theorem IsN.seen {k : NestedKey} {b : Addr} {Q : Bool → Shared → Prop} (x : IsN s.heap k b) {ys : List Value} (hy : ∀ y ∈ ys, ∃ k' c, y = Value.ref c ∧ IsN s.heap k' c) (h : Q false s) :
    wpAny (model P w) A (searchCouldBeSeen (.ref b) ys) Q E s := by
  unfold searchCouldBeSeen
  refine wpAny_bind ?_
  refine wpAny_forIn_list _ (fun rest r s' => r.1 = none ∧ s' = s ∧ ∀ y ∈ rest, ∃ k' c, y = Value.ref c ∧ IsN s.heap k' c) _ ?_ ?_ _ _ ⟨rfl, rfl, hy⟩
  · rintro v rest r s' ⟨hr, rfl, hall⟩
    obtain ⟨k', c, rfl, hc⟩ := hall v List.mem_cons_self
    have hrest : ∀ y ∈ rest, ∃ k' c, y = Value.ref c ∧ IsN s'.heap k' c := fun u hu => hall u (List.mem_cons_of_mem _ hu)
    dsimp only
    by_cases hv : (b == c || (carriedByValue (.ref b) && carriedByValue (.ref c))) = true
    · exact wp_if_pos hv (wpAny_pure ⟨rfl, rfl, hrest⟩)
    · refine wp_if_neg hv ?_
      refine wpAny_bind (x.quiet ?_)
      simp only [Bool.not_true, Bool.false_eq_true, if_false]
      refine wpAny_bind (hc.quiet ?_)
      simp only [Bool.not_true, Bool.false_eq_true, if_false]
      refine wpAny_bind (x.cls ?_)
      simp only [Bool.false_eq_true, if_false]
      refine wpAny_bind (hc.cls ?_)
      simp only [Bool.false_eq_true, if_false]
      exact wpAny_pure ⟨rfl, rfl, hrest⟩
  · rintro ⟨r1, r2⟩ s' ⟨hr, rfl, _⟩
    simp only at hr
    subst hr
    exact wpAny_pure h
end
end Mi

set_option Elab.async false
set_option linter.all false
set_option maxRecDepth 100000
namespace Mi
open PySem PySem.Spec L2

/-! ### a set of such keys, fewer than 64 -/
abbrev AK := Addr × NestedKey
def keyHn (w : World) (p : AK) : Int := p.2.hash w
def entN (w : World) (p : AK) : Int × Value := (keyHn w p, Value.ref p.1)
structure SetN (w : World) (h : Heap) (a : Addr) (L : List AK) (es : Array (Int × Value)) (ep : Nat) (t : SetTable) : Prop where
  ob : ∃ o, h.get? a = some o ∧ o.ExactSet ∧ o.data = .set es ep t
  ent : es.toList = L.map (entN w)
  tab : TabOk t (L.map (keyHn w))
  nd : (L.map (·.2)).Nodup
  ks : ∀ p ∈ L, IsN h p.2 p.1
  led : w.params.followText "set-order" = true ∨ t.led = true
  room : L.length * 5 < t.mask * 3
  few : L.length < 64
section
variable {P : Program} {w : World} {A : Around} {E : Value → Shared → Prop} {s : Shared} {a : Addr} {L : List AK} {es : Array (Int × Value)} {ep : Nat} {t : SetTable}
theorem SetN.sz {h : Heap} (R : SetN w h a L es ep t) : es.size = L.length := by
  have q := congrArg List.length R.ent
  rwa [Array.length_toList, List.length_map] at q
theorem SetN.fit {h : Heap} (R : SetN w h a L es ep t) : t.fits es.size = true := by
  have q := R.tab.sz
  rw [List.length_map] at q
  have q2 := R.sz
  have q3 := R.room
  unfold SetTable.fits SetTable.fill
  rw [R.tab.dm, Bool.and_eq_true, beq_iff_eq, decide_eq_true_eq]
  exact ⟨by omega, by show t.place.size + 0 ≤ t.mask; omega⟩
theorem SetN.at {h : Heap} (R : SetN w h a L es ep t) {i : Nat} {p : AK} (e : L[i]? = some p) : es[i]? = some (entN w p) := by
  rw [← Array.getElem?_toList, R.ent, List.getElem?_map, e]
  rfl
theorem SetN.gw {h : Heap} (R : SetN w h a L es ep t) : ¬ t.gaveWay = true := by
  unfold SetTable.gaveWay
  rw [mask_odd R.tab.mok]
  decide
theorem nth_dm (m : Nat) : ∀ (n : Nat) (p : SetTable.Probe), p.dummy = none → (nth m p n).dummy = none
  | 0, p, h => h
  | n + 1, p, h => nth_dm m n (adv m p) (by unfold adv; split <;> exact h)
/-- the places that a hash walks over -/
abbrev wk (t : SetTable) (g : Int) (n : Nat) : SetTable.Probe := nth t.mask (runAt t.mask (SetTable.bits g % (t.mask + 1)) (SetTable.bits g)) n
theorem find_from (R : SetN w s.heap a L es ep t) {x : Addr} {k : NestedKey} (hx : IsN s.heap k x) (hu : A.units + 8 < cLine) {K : Nat} (hf : K < 10 * SetTable.turns t.mask)
    (hK : way t.mask (k.hash w) K ∉ t.place.toList) (hb : ∀ c, c < K → way t.mask (k.hash w) c ∈ t.place.toList) {Q : SetFound → Shared → Prop}
    (yes : k ∈ L.map (·.2) → Q (.there none) s) (no : k ∉ L.map (·.2) → Q (.free (way t.mask (k.hash w) K) false) s) :
    ∀ (f c : Nat) (stand : Option SetTable.Probe), stand.getD (t.probeStart (k.hash w)) = wk t (k.hash w) c → c ≤ K → K - c < f →
      (∀ (i : Nat) p, L[i]? = some p → p.2 = k → ∃ c', c ≤ c' ∧ c' < K ∧ t.place.toList[i]? = some (way t.mask (k.hash w) c')) →
      wpAny (model P w) A (setSearchFrom a (.ref x) (k.hash w) true f stand) Q E s
  | 0, c, stand, _, _, z, _ => absurd z (Nat.not_lt_zero _)
  | f + 1, c, stand, hst, hc, hfu, hre => by
    obtain ⟨o, ho, _, hd⟩ := R.ob
    rw [setSearchFrom_succ]
    refine wpAny_bind (wpAny_setState_of ho hd R.fit ?_)
    dsimp only
    refine wp_if_neg R.gw ?_
    try refine wpAny_bind (wpAny_pure ?_)
    have sh : ∀ q, nth t.mask (wk t (k.hash w) c) q = wk t (k.hash w) (c + q) := fun q => (nth_add t.mask c _ q).symm
    have shj : ∀ q, (nth t.mask (wk t (k.hash w) c) q).j = way t.mask (k.hash w) (c + q) := fun q => congrArg SetTable.Probe.j (sh q)
    have cK : c + (K - c) = K := by omega
    have spec := go_spec t R.tab.ris R.tab.dm (fun i => (es[i]?.map (·.1)).getD 0) (k.hash w) (10 * SetTable.turns t.mask) (K - c) (wk t (k.hash w) c) (nth_dm _ c _ rfl) (by omega)
      (fun q hq => by rw [shj]; exact hb (c + q) (by omega)) (by rw [shj, cK]; exact hK)
    have hat : ∀ (i : Nat) p, L[i]? = some p → (fun i => (es[i]?.map (·.1)).getD 0) i = p.2.hash w := fun i p hp => by
      show (es[i]?.map (·.1)).getD 0 = _
      rw [R.at hp]
      rfl
    rcases spec with ⟨q, i, hq, hi, _, hno, hpr⟩ | ⟨hno, hpr⟩
    · have hpr' : t.probe (fun i => (es[i]?.map (·.1)).getD 0) (k.hash w) (stand.getD (t.probeStart (k.hash w))) = some (.candidate (way t.mask (k.hash w) (c + q)) i (wk t (k.hash w) (c + (q + 1)))) := by
        rw [hst, ← shj, ← sh]
        exact hpr
      rw [hpr']
      dsimp only
      rw [shj] at hi
      have hil : i < L.length := by
        have h1 : i < t.place.toList.length := (List.getElem?_eq_some_iff.mp hi).1
        have h2 := R.tab.sz
        rw [List.length_map] at h2
        rw [Array.length_toList] at h1
        omega
      have hp := List.getElem?_eq_getElem hil
      have hmem := List.getElem_mem hil
      generalize L[i] = p at hp hmem
      have hpk := R.ks p hmem
      have rest : wpAny (model P w) A (searchRest a (.ref x) (k.hash w) true f es t (way t.mask (k.hash w) (c + q)) i (wk t (k.hash w) (c + (q + 1)))) Q E s := by
        unfold searchRest
        rw [R.at hp]
        unfold entN
        dsimp only
        refine wpAny_bind (wpAny_holding (IsN.eqb hu hpk hx ?_))
        refine wpAny_bind (wpAny_setState_of ho hd R.fit ?_)
        dsimp only
        by_cases hkk : p.2 = k
        · refine wp_if_pos (by simp [hkk]) (wpAny_pure (yes ?_))
          exact List.mem_map.mpr ⟨p, hmem, hkk⟩
        · refine wp_if_neg (by simp [hkk]) ?_
          try refine wpAny_bind (wpAny_pure ?_)
          rw [sameMem]
          dsimp only
          have hsl : t.slot (way t.mask (k.hash w) (c + q)) = .live i := slot_live R.tab.ris hi
          have he := R.at hp
          unfold entN at he
          simp only [if_true, hsl, he]
          refine wpAny_bind (wpAny_isSame_ref_self (wpAny_bind (wpAny_pure ?_)))
          simp only [if_true]
          refine wp_if_neg (by simp [hkk]) ?_
          refine find_from R hx hu hf hK hb yes no f (c + (q + 1)) _ rfl (by omega) (by omega) fun i0 p0 h0 hk0 => ?_
          obtain ⟨c', a1, a2, a3⟩ := hre i0 p0 h0 hk0
          refine ⟨c', ?_, a2, a3⟩
          have far : ∀ d, c' = c + d → d < q → False := fun d hd' hlt => by
            refine hno d i0 hlt (by rw [shj, ← hd']; exact a3) ?_
            exact (hat i0 p0 h0).trans (congrArg (NestedKey.hash w) hk0)
          rcases Nat.lt_trichotomy c' (c + q) with z | z | z
          · exact (far (c' - c) (by omega) (by omega)).elim
          · exfalso
            rw [z] at a3
            have s0 := slot_live R.tab.ris a3
            rw [hsl] at s0
            injection s0 with s0
            rw [← s0, hp] at h0
            exact hkk ((congrArg Prod.snd (Option.some.inj h0)).trans hk0)
          · omega
      by_cases hl : t.led = true
      · refine wp_if_neg (by simp [hl]) ?_
        try refine wpAny_bind (wpAny_pure ?_)
        exact rest
      · refine wp_if_pos (by simp [hl]) ?_
        refine wpAny_bind (hx.seen (fun y hy => ?_) ?_)
        · obtain ⟨e, he, ee⟩ := List.mem_map.mp hy
          have he2 : e ∈ es.toList := by
            have : e ∈ es ∧ e.1 = k.hash w := by simpa using he
            simpa using this.1
          rw [R.ent] at he2
          obtain ⟨p2, hp2, e2⟩ := List.mem_map.mp he2
          exact ⟨p2.2, p2.1, by rw [← ee, ← e2]; rfl, R.ks p2 hp2⟩
        · refine wp_if_neg (by decide) ?_
          try refine wpAny_bind (wpAny_pure ?_)
          exact rest
    · have hpr' : t.probe (fun i => (es[i]?.map (·.1)).getD 0) (k.hash w) (stand.getD (t.probeStart (k.hash w))) = some (.empty (way t.mask (k.hash w) K) none) := by
        have e2 : way t.mask (k.hash w) K = (nth t.mask (wk t (k.hash w) c) (K - c)).j := by rw [shj, cK]
        rw [hst, e2]
        exact hpr
      rw [hpr']
      dsimp only
      refine wpAny_pure (no fun hm => ?_)
      obtain ⟨p0, h0, hk0⟩ := List.mem_map.mp hm
      obtain ⟨i0, hi0, e0⟩ := List.getElem_of_mem h0
      have h00 : L[i0]? = some p0 := by rw [List.getElem?_eq_getElem hi0, e0]
      obtain ⟨c', a1, a2, a3⟩ := hre i0 p0 h00 hk0
      refine hno (c' - c) i0 (by omega) (by rw [shj, show c + (c' - c) = c' by omega]; exact a3) ?_
      exact (hat i0 p0 h00).trans (congrArg (NestedKey.hash w) hk0)
theorem find_at (R : SetN w s.heap a L es ep t) {x : Addr} {k : NestedKey} (hx : IsN s.heap k x) (hu : A.units + 8 < cLine) {Q : SetFound → Shared → Prop}
    (yes : k ∈ L.map (·.2) → Q (.there none) s)
    (no : ∀ K, k ∉ L.map (·.2) → way t.mask (k.hash w) K ∉ t.place.toList → (∀ c, c < K → way t.mask (k.hash w) c ∈ t.place.toList) → Q (.free (way t.mask (k.hash w) K) false) s) :
    wpAny (model P w) A (setSearch a (.ref x) (k.hash w) true) Q E s := by
  have hroom := R.room
  obtain ⟨K, hf, hK, hb⟩ := R.tab.first (by rw [List.length_map]; omega) (k.hash w)
  have hbig : K < 100000 := by
    have : 10 * SetTable.turns t.mask ≤ 1420 := by
      unfold SetTable.turns
      rcases R.tab.mok with e | e | e <;> omega
    omega
  unfold setSearch
  refine find_from R hx hu hf hK hb yes (fun hn => no K hn hK hb) 100000 0 none rfl (Nat.zero_le _) (by omega) fun i p hp hk => ?_
  have hi : (L.map (keyHn w))[i]? = some (k.hash w) := by
    rw [List.getElem?_map, hp, ← hk]
    rfl
  have hil : i < t.place.toList.length := by
    have h1 : i < L.length := (List.getElem?_eq_some_iff.mp hp).1
    have h2 := R.tab.sz
    rw [List.length_map] at h2
    rw [Array.length_toList]
    omega
  obtain ⟨c, hc, e⟩ := R.tab.before hK hi (List.getElem?_eq_getElem hil)
  exact ⟨c, Nat.zero_le _, hc, by rw [List.getElem?_eq_getElem hil, e]⟩
theorem reorder (L : List AK) (es : Array (Int × Value)) (order : Array Nat) (hr : es.toList = L.map (entN w)) (hp : order.toList.Perm (List.range L.length)) :
    ∃ L2 : List AK, (order.filterMap (es[·]?)).toList = L2.map (entN w) ∧ L2.Perm L ∧ L2.map (keyHn w) = order.toList.map fun i => (es.map (·.1)).getD i 0 := by
  have at' : ∀ i (h : i < L.length), es[i]? = some (entN w L[i]) := fun i h => by
    rw [← Array.getElem?_toList, hr, List.getElem?_map, List.getElem?_eq_getElem h]
    rfl
  have hsz : es.size = L.length := by
    have q := congrArg List.length hr
    rwa [Array.length_toList, List.length_map] at q
  have go : ∀ l : List Nat, (∀ i ∈ l, i < L.length) → l.filterMap (fun i => es[i]?) = (l.filterMap fun i => L[i]?).map (entN w) ∧ (l.filterMap fun i => L[i]?).map (keyHn w) = l.map fun i => (es.map (·.1)).getD i 0 := by
    intro l
    induction l with
    | nil => intro _; exact ⟨rfl, rfl⟩
    | cons i l ih =>
      intro hl
      have hi := hl i List.mem_cons_self
      obtain ⟨e1, e2⟩ := ih fun j hj => hl j (List.mem_cons_of_mem _ hj)
      have e3 : (es.map (·.1)).getD i 0 = keyHn w L[i] := by
        have : (es.map (·.1))[i]? = some (keyHn w L[i]) := by rw [Array.getElem?_map, at' i hi]; rfl
        simp [Array.getD_eq_getD_getElem?, this]
      rw [List.filterMap_cons_some (at' i hi), List.filterMap_cons_some (List.getElem?_eq_getElem hi), List.map_cons, List.map_cons, List.map_cons, e1, e2, e3]
      exact ⟨rfl, rfl⟩
  obtain ⟨e1, e2⟩ := go order.toList fun i hi => List.mem_range.mp (hp.mem_iff.mp hi)
  refine ⟨_, by first | (rw [Array.toList_filterMap]; exact e1) | simpa using e1, ?_, e2⟩
  have full : ∀ n, n ≤ L.length → (List.range n).filterMap (fun i => L[i]?) = L.take n := by
    intro n
    induction n with
    | zero => intro _; rfl
    | succ n ih =>
      intro hn
      rw [List.range_succ, List.filterMap_append, ih (by omega), List.take_succ, List.getElem?_eq_getElem hn, List.filterMap_cons_some (List.getElem?_eq_getElem hn)]
      rfl
  have q := hp.filterMap fun i => L[i]?
  rw [full L.length (Nat.le_refl _), List.take_length] at q
  exact q
theorem lay_again {o : Obj} (ho : s.heap.get? a = some o) (hex : o.ExactSet) (hd : o.data = .set es ep t) (hrows : es.toList = L.map (entN w)) (hsz : t.place.size = es.size) (hdm : t.dummies = #[]) (hfl : es.size ≤ t.mask)
    (nd : (L.map (·.2)).Nodup) (ks : ∀ p ∈ L, IsN s.heap p.2 p.1) (ld : w.params.followText "set-order" = true ∨ t.led = true) (few : L.length < 64) {wanted M : Nat}
    (hw : SetTable.sizeAbove wanted - 1 = M) (hM : MaskOk M) (hw2 : SetTable.sizeAbove wanted ≤ 128) (hn : L.length * 5 < M * 3) {Q : Unit → Shared → Prop}
    (hQ : ∀ h' L' es' ep' t', Heap.SameBut a s.heap h' → SetN w h' a L' es' ep' t' → L'.Perm L → Q () { s with heap := h' }) : wpAny (model P w) A (setRelay a wanted) Q E s := by
  have hsl : es.size = L.length := by
    have q := congrArg List.length hrows
    rwa [Array.length_toList, List.length_map] at q
  have hfits : t.fits es.size = true := by
    unfold SetTable.fits SetTable.fill
    rw [hdm, Bool.and_eq_true, beq_iff_eq, decide_eq_true_eq]
    exact ⟨hsz, by show t.place.size + 0 ≤ t.mask; omega⟩
  obtain ⟨t', order, e, hp, T, em, el, epl, _⟩ := relaid_ok t (hs := es.map (·.1)) (wanted := wanted) hw hM (by rw [Array.size_map, hsl]; omega)
  rw [Array.size_map, hsl] at hp
  obtain ⟨L2, r1, r2, r3⟩ := reorder L es order hrows hp
  rw [← r3] at T
  have hs2 : (order.filterMap (es[·]?)).size = es.size := by
    have q := congrArg List.length r1
    rwa [Array.length_toList, List.length_map, r2.length_eq, ← hsl] at q
  rw [setRelay_eq]
  refine wpAny_bind (wpAny_setState_of ho hd hfits ?_)
  dsimp only
  refine wp_if_neg (by rw [sizeLine_eq]; omega) ?_
  try refine wpAny_bind (wpAny_pure ?_)
  rw [e]
  dsimp only
  refine wpAny_bind ?_
  refine wp_if_neg (by rw [hs2]; simp) ?_
  try refine wpAny_bind (wpAny_pure ?_)
  refine wpAny_pure ?_
  dsimp only
  refine wpAny_storeSet_of ho hd ?_ (by rw [hs2, hsl, sizeLine_eq]; omega)
  have sb : Heap.SameBut a s.heap (s.heap.update a (Obj.putSet (order.filterMap (es[·]?)) t')) := Heap.SameBut.update ..
  refine hQ _ L2 _ (ep + 1) t' sb ⟨⟨_, store_at ho hd, ⟨hex.1, hex.2.1, hex.2.2⟩, rfl⟩, r1, T, (r2.map (·.2)).nodup_iff.mpr nd, fun p hm => (ks p (r2.mem_iff.mp hm)).off ho hd sb, by rw [el]; exact ld, ?_, by rw [r2.length_eq]; exact few⟩ r2
  rw [r2.length_eq, em]
  exact hn
/-- behind the search: the key is laid in -/
theorem put_tail (R : SetN w s.heap a L es ep t) {x : Addr} {k : NestedKey} (hx : IsN s.heap k x) (hfew : L.length + 1 < 64) {o : Obj} (ho : s.heap.get? a = some o) (hex : o.ExactSet) (hd : o.data = .set es ep t) (hm : k ∉ L.map (·.2))
    {K : Nat} {t1 : SetTable} (T : TabOk t1 ((L.map (keyHn w)).take (SetTable.below t.place (way t.mask (k.hash w) K)) ++ k.hash w :: (L.map (keyHn w)).drop (SetTable.below t.place (way t.mask (k.hash w) K))))
    (em : t1.mask = t.mask) (el : t1.led = t.led) (ef : t1.fill = L.length + 1) {Q : Bool → Shared → Prop}
    (hQ : ∀ b h' L' es' ep' t', Heap.SameBut a s.heap h' → SetN w h' a L' es' ep' t' → (k ∈ L.map (·.2) → L' = L) → (k ∉ L.map (·.2) → L'.Perm ((x, k) :: L)) → Q b { s with heap := h' }) :
    wpAny (model P w) A (do
      storeSet a (SetTable.insertAt es (SetTable.below t.place (way t.mask (k.hash w) K)) (k.hash w, Value.ref x)) t1
      if (!false && t1.tooFull) = true then do
        setRelay a (SetTable.grown (es.size + 1))
        pure true
      else pure true) Q E s := by
  have hsl := R.sz
  have hroom := R.room
  have hin : (SetTable.insertAt es (SetTable.below t.place (way t.mask (k.hash w) K)) (k.hash w, Value.ref x)).toList = (L.take (SetTable.below t.place (way t.mask (k.hash w) K)) ++ (x, k) :: L.drop (SetTable.below t.place (way t.mask (k.hash w) K))).map (entN w) := by
    rw [SetTable.toList_insertAt, R.ent, List.map_append, List.map_cons, List.map_take, List.map_drop]
    rfl
  generalize SetTable.below t.place (way t.mask (k.hash w) K) = p at T hin ⊢
  have pm := put_perm L p (x, k)
  have hlen : (L.take p ++ (x, k) :: L.drop p).length = L.length + 1 := pm.length_eq
  have hhs : (L.take p ++ (x, k) :: L.drop p).map (keyHn w) = (L.map (keyHn w)).take p ++ k.hash w :: (L.map (keyHn w)).drop p := by
    rw [List.map_append, List.map_cons, List.map_take, List.map_drop]
    rfl
  rw [← hhs] at T
  have nd1 : ((L.take p ++ (x, k) :: L.drop p).map (·.2)).Nodup := by
    refine (pm.map (·.2)).nodup_iff.mpr ?_
    rw [List.map_cons]
    exact List.nodup_cons.mpr ⟨hm, R.nd⟩
  have hes : (SetTable.insertAt es p (k.hash w, Value.ref x)).size = L.length + 1 := by
    have q := congrArg List.length hin
    rwa [Array.length_toList, List.length_map, hlen] at q
  generalize SetTable.insertAt es p (k.hash w, Value.ref x) = es1 at hin hes ⊢
  generalize L.take p ++ (x, k) :: L.drop p = L1 at pm hlen T nd1 hin
  refine wpAny_bind (wpAny_storeSet_of ho hd ?_ (by rw [hes, sizeLine_eq]; omega))
  have sb : Heap.SameBut a s.heap (s.heap.update a (Obj.putSet es1 t1)) := Heap.SameBut.update ..
  have ho1 := store_at (es' := es1) (t' := t1) ho hd
  generalize s.heap.update a (Obj.putSet es1 t1) = h1 at sb ho1 ⊢
  have ks1 : ∀ p ∈ L1, IsN h1 p.2 p.1 := fun p hp => by
    rcases List.mem_cons.mp (pm.mem_iff.mp hp) with e | hp
    · rw [e]; exact hx.off ho hd sb
    · exact (R.ks p hp).off ho hd sb
  have ld1 : w.params.followText "set-order" = true ∨ t1.led = true := by rw [el]; exact R.led
  by_cases hf : t1.tooFull = true
  · first
      | (refine wp_if_pos (by simp [hf]) ?_; refine wpAny_bind ?_)
      | (refine wpAny_bind ?_; refine wp_if_pos (by simp [hf]) ?_)
    have hfull : (L.length + 1) * 5 ≥ t1.mask * 3 := by
      have q := hf
      unfold SetTable.tooFull at q
      rwa [decide_eq_true_eq, ef] at q
    rw [hsl]
    have hsz1 : t1.place.size = es1.size := by
      have q := T.sz
      rw [List.length_map, hlen] at q
      rw [q, hes]
    have two : (t.mask = 7 ∧ L.length = 4) ∨ (t.mask = 31 ∧ L.length = 18) := by
      rw [em] at hfull
      rcases R.tab.mok with e | e | e <;> rw [e] at hfull hroom
      · exact .inl ⟨e, by omega⟩
      · exact .inr ⟨e, by omega⟩
      · exfalso; omega
    have go : ∀ M, SetTable.sizeAbove (SetTable.grown (L.length + 1)) - 1 = M → MaskOk M → SetTable.sizeAbove (SetTable.grown (L.length + 1)) ≤ 128 → (L.length + 1) * 5 < M * 3 →
        wpAny (model P w) A (setRelay a (SetTable.grown (L.length + 1))) (fun _ s' => wpAny (model P w) A (pure true) Q E s') E { s with heap := h1 } := fun M h1' h2' h3' h4' => by
      refine lay_again (s := { s with heap := h1 }) ho1 ⟨hex.1, hex.2.1, hex.2.2⟩ rfl hin hsz1 T.dm (by rw [hes, em]; rcases two with ⟨e, e2⟩ | ⟨e, e2⟩ <;> omega) nd1 ks1 ld1 (by rw [hlen]; exact hfew) h1' h2' h3' (by rw [hlen]; exact h4') ?_
      intro h2 L2 es2 ep2 t2 sb2 R2 pm2
      exact wpAny_pure (hQ true h2 L2 es2 ep2 t2 (sb.trans sb2) R2 (fun z => absurd z hm) fun _ => pm2.trans pm)
    rcases two with ⟨_, e2⟩ | ⟨_, e2⟩
    · exact go 31 (by rw [e2, size_20]) (.inr (.inl rfl)) (by rw [e2, size_20]; decide) (by omega)
    · exact go 127 (by rw [e2, size_76]) (.inr (.inr rfl)) (by rw [e2, size_76]; decide) (by omega)
  · refine wp_if_neg (by simp [hf]) ?_
    refine wpAny_pure (hQ true h1 L1 es1 (ep + 1) t1 sb ⟨⟨_, ho1, ⟨hex.1, hex.2.1, hex.2.2⟩, rfl⟩, hin, T, nd1, ks1, ld1, ?_, by rw [hlen]; exact hfew⟩ (fun z => absurd z hm) fun _ => pm)
    have q := hf
    unfold SetTable.tooFull at q
    rw [decide_eq_true_eq, ef] at q
    rw [hlen]
    omega
theorem put_at (R : SetN w s.heap a L es ep t) {x : Addr} {k : NestedKey} (hx : IsN s.heap k x) (hu : A.units + 8 < cLine) (hfew : L.length + 1 < 64) {Q : Bool → Shared → Prop}
    (hQ : ∀ b h' L' es' ep' t', Heap.SameBut a s.heap h' → SetN w h' a L' es' ep' t' → (k ∈ L.map (·.2) → L' = L) → (k ∉ L.map (·.2) → L'.Perm ((x, k) :: L)) → Q b { s with heap := h' }) :
    wpAny (model P w) A (setAddHashed a (.ref x) (k.hash w)) Q E s := by
  obtain ⟨o, ho, hex, hd⟩ := R.ob
  have hsl := R.sz
  have hroom := R.room
  unfold setAddHashed
  refine wpAny_holding ?_
  rw [show (100000 : Nat) = 99999 + 1 from rfl, setAddHashedIn_succ]
  refine wpAny_bind (wpAny_setState_of ho hd R.fit ?_)
  dsimp only
  refine wp_if_neg (by simp [byScan, Value.scannable]) ?_
  try refine wpAny_bind (wpAny_pure ?_)
  refine wpAny_bind (find_at R hx hu (fun hm => ?_) fun K hm hK hb => ?_)
  · dsimp only
    exact wpAny_pure (hQ false s.heap L es ep t (Heap.SameBut.refl a s.heap) R (fun _ => rfl) fun z => absurd hm z)
  · dsimp only
    refine wpAny_bind (wpAny_setState_of ho hd R.fit ?_)
    dsimp only
    obtain ⟨q1, q2, q3, q4, q5, q6, q7, q8, q9⟩ := R.tab.put hK hb
    rw [List.length_map] at q9
    generalize t.put (way t.mask (k.hash w) K) = pt at q1 q3 q4 q5 q6 q7 q8 q9 ⊢
    obtain ⟨t1, p⟩ := pt
    dsimp only at q1 q3 q4 q5 q6 q7 q8 q9 ⊢
    subst q1
    have tail := fun (t2 : SetTable) T em el ef => put_tail (A := A) (P := P) (E := E) R hx hfew ho hex hd hm (K := K) (t1 := t2) T em el ef hQ
    by_cases hp : t1.plain = true
    · refine wp_if_pos hp (wpAny_bind (hx.hbv ?_))
      cases nmK k with
      | true => exact tail t1 q3 q4 q5 q9
      | false => exact tail { t1 with plain := false } ⟨q3.ris, q3.dm, q3.sz, q3.mok, q3.bd, q3.reach⟩ q4 q5 q9
    · refine wp_if_neg hp (wpAny_bind (wpAny_pure ?_))
      exact tail t1 q3 q4 q5 q9
end
end Mi

set_option Elab.async false
set_option linter.all false
set_option maxRecDepth 100000
namespace Mi
open PySem PySem.Spec L2
/-! ### set(xs) of nested keys -/
/-- what the set has of the first i items -/
structure Gt (ks : List AK) (i : Nat) (L : List AK) : Prop where
  sub : ∀ p ∈ L, p ∈ ks.take i
  all : ∀ p ∈ ks.take i, p.2 ∈ L.map (·.2)
  len : L.length ≤ i
theorem Gt.zero (ks : List AK) : Gt ks 0 [] := ⟨fun p h => (by cases h), fun p h => (by simp at h), Nat.le_refl _⟩
theorem Gt.old {ks L : List AK} {i : Nat} {x : AK} (g : Gt ks i L) (h : ks[i]? = some x) (hm : x.2 ∈ L.map (·.2)) : Gt ks (i + 1) L := by
  have e := take_next h
  refine ⟨fun p hp => by rw [e]; exact List.mem_append_left _ (g.sub p hp), fun p hp => ?_, by have := g.len; omega⟩
  rw [e, List.mem_append, List.mem_singleton] at hp
  rcases hp with z | z
  · exact g.all p z
  · rw [z]; exact hm
theorem Gt.new {ks L L' : List AK} {i : Nat} {x : AK} (g : Gt ks i L) (h : ks[i]? = some x) (pm : L'.Perm (x :: L)) : Gt ks (i + 1) L' := by
  have e := take_next h
  refine ⟨fun p hp => ?_, fun p hp => ?_, ?_⟩
  · rw [e, List.mem_append, List.mem_singleton]
    rcases List.mem_cons.mp (pm.mem_iff.mp hp) with z | z
    · exact .inr z
    · exact .inl (g.sub p z)
  · rw [(pm.map (·.2)).mem_iff, List.map_cons]
    rw [e, List.mem_append, List.mem_singleton] at hp
    rcases hp with z | z
    · exact List.mem_cons_of_mem _ (g.all p z)
    · rw [z]; exact List.mem_cons_self
  · rw [pm.length_eq, List.length_cons]
    have := g.len
    omega
section
variable {P : Program} {w : World} {A : Around} {E : Value → Shared → Prop} {s : Shared}
theorem SetN.keep {h h' : Heap} {a : Addr} {L : List AK} {es : Array (Int × Value)} {ep : Nat} {t : SetTable} (R : SetN w h a L es ep t) (ha : ∀ o, h.get? a = some o → h'.get? a = some o) (hk : ∀ p ∈ L, IsN h' p.2 p.1) : SetN w h' a L es ep t := by
  obtain ⟨o, ho, r⟩ := R.ob
  exact ⟨⟨o, ha o ho, r⟩, R.ent, R.tab, R.nd, hk, R.led, R.room, R.few⟩
theorem setN_new {h : Heap} {a : Addr} (ho : h.get? a = some { cls := .type "set", dict := none, data := .set #[] 0 (.fresh 0 0 (!w.params.followText "set-order")) }) : SetN w h a [] #[] 0 (.fresh 0 0 (!w.params.followText "set-order")) where
  ob := ⟨_, ho, ⟨rfl, rfl, rfl⟩, rfl⟩
  ent := rfl
  tab := ⟨List.Pairwise.nil, rfl, rfl, .inl rfl, fun x hx => (by cases hx), fun i h j hi => (by simp at hi)⟩
  nd := List.nodup_nil
  ks := fun p hp => (by cases hp)
  led := by
    show _ ∨ (!w.params.followText "set-order") = true
    cases w.params.followText "set-order"
    · exact .inr rfl
    · exact .inl rfl
  room := by
    show 0 * 5 < 7 * 3
    decide
  few := by
    show 0 < 64
    decide
theorem setN_loop {I : Addr} {fp wr : List Addr} {G : Array GenState → Array GenState → Prop} {n : Nat} {Pv : Nat → Value → Prop} {St : Nat → Shared → Prop} {R : Result → Shared → Prop}
    (W : WalksS P w A.in1 I fp wr G n Pv St) (S : Addr) (hSf : S ∉ fp) (ks : List AK) (hn : n = ks.length) (hb : ks.length < 64) (hval : ∀ i v, Pv i v → ∃ p, ks[i]? = some p ∧ v = Value.ref p.1)
    (h0 : Heap) (hk : ∀ p ∈ ks, IsN h0 p.2 p.1) (hS0 : h0.get? S = none) (hw0 : ∀ b ∈ wr, h0.get? b = none) (hu : A.in1.units + 8 < cLine) :
    ∀ (j i : Nat) (s : Shared), n - i = j → i ≤ n → St i s → (∀ b o, h0.get? b = some o → s.heap.get? b = some o) → (∃ L es ep t, SetN w s.heap S L es ep t ∧ Gt ks i L) →
      (∀ s' L es ep t, Moved (S :: wr) G s s' → SetN w s'.heap S L es ep t → Gt ks n L → (∀ b o, h0.get? b = some o → s'.heap.get? b = some o) → R (.ok (.ret .none)) s') →
      codeAny (model P w) A (.builtin "set.update.loop" ⟨[.ref S, .ref I], []⟩) R s := by
  have hSw : S ∉ wr := fun h => hSf (W.sub _ h)
  have hsub : ∀ b ∈ wr, b ∈ S :: wr := fun b hb => List.mem_cons_of_mem _ hb
  have old : ∀ {s s' : Shared}, Moved wr G s s' → (∀ b o, h0.get? b = some o → s.heap.get? b = some o) → ∀ b o, h0.get? b = some o → s'.heap.get? b = some o := fun hm hkp b o e =>
    hm.heap b o (fun hb => by rw [hw0 b hb] at e; cases e) (hkp b o e)
  intro j
  induction j with
  | zero =>
    intro i s hj hi hst hkp ⟨L, es, ep, t, hS, g⟩ hR
    obtain rfl : i = n := by omega
    refine codeAny_builtin PyProof.Rows.F.entry_set_update_loop ?_
    rw [Around.under_plainId PyProof.Rows.F.plain_set_update_loop _]
    show wpAny _ A.in1 (pyNext (.ref I) >>= _) _ _ s
    refine wpAny_bind (W.done s _ _ hst fun s' hm => ?_)
    show wpAny _ A.in1 (PySem.ret Value.none) _ _ s'
    exact wpAny_pure (hR s' L es ep t (hm.mono hsub) (hS.keep (fun o e => hm.heap S o hSw e) fun p hp => (hk p (List.mem_of_mem_take (g.sub p hp))).grow (old hm hkp)) g (old hm hkp))
  | succ j ih =>
    intro i s hj hi hst hkp ⟨L, es, ep, t, hS, g⟩ hR
    have hlt : i < n := by omega
    refine codeAny_builtin PyProof.Rows.F.entry_set_update_loop ?_
    rw [Around.under_plainId PyProof.Rows.F.plain_set_update_loop _]
    show wpAny _ A.in1 (pyNext (.ref I) >>= _) _ _ s
    refine wpAny_bind (W.item i s _ _ hlt hst fun v s' hP hst' hm => ?_)
    obtain ⟨p, hp, rfl⟩ := hval i v hP
    have hkp' := old hm hkp
    have hS' : SetN w s'.heap S L es ep t := hS.keep (fun o e => hm.heap S o hSw e) fun q hq => (hk q (List.mem_of_mem_take (g.sub q hq))).grow hkp'
    have hx : IsN s'.heap p.2 p.1 := (hk p (List.mem_of_getElem? hp)).grow hkp'
    show wpAny _ A.in1 (holding [Value.ref p.1] (setAdd S (.ref p.1)) >>= _) _ _ s'
    refine wpAny_bind (wpAny_holding ?_)
    unfold setAdd
    refine wpAny_holding ?_
    refine wpAny_bind (hx.pyh hu ?_)
    refine put_at (s := { s' with toks := s'.toks + p.2.draws }) hS' hx hu (by have := g.len; omega) fun b h' L' es' ep' t' hsb hS2 c1 c2 => ?_
    have g' : Gt ks (i + 1) L' := by
      by_cases c : p.2 ∈ L.map (·.2)
      · rw [c1 c]; exact g.old hp c
      · exact g.new hp (c2 c)
    have hkp2 : ∀ b o, h0.get? b = some o → h'.get? b = some o := fun b o e => (hsb.2 b (fun z => by rw [z, hS0] at e; cases e)).trans (hkp' b o e)
    refine wpAny_pure ⟨plainId_quiet PyProof.Rows.F.plain_set_update_loop _, ih (i + 1) _ (by omega) hlt (W.frame _ s' _ _ hst' (Nat.le_add_right _ _) fun b hb o e => ?_) hkp2 ⟨L', es', ep', t', hS2, g'⟩ fun s'' L2 es2 ep2 t2 hm2 hS3 g2 hkp3 => ?_⟩
    · rw [hsb.2 b (fun h : b = S => hSf (by rw [← h]; exact hb))]; exact e
    · refine hR s'' L2 es2 ep2 t2 (Moved.trans W.gtrans ((hm.mono hsub).then_heap (Nat.le_add_right _ _) fun b o hb e => ?_) hm2) hS3 g2 hkp3
      rw [hsb.2 b (fun h : b = S => hb (by rw [h]; exact List.mem_cons_self))]; exact e
set_option maxHeartbeats 3200000 in
theorem call_setN_list {l : Addr} {items : Array Value} (ks : List AK) {Q : Value → Shared → Prop} (hh : A.handled = none) (hl : s.heap.IsList l items) (hit : Paired (fun (p : AK) v => v = Value.ref p.1) ks items.toList) (hks : ∀ p ∈ ks, IsN s.heap p.2 p.1) (hb : ks.length < 64) (hu : A.units + 16 < cLine)
    (h : ∀ (h' : Heap) (tk : Nat) L es ep t, SetN w h' s.heap.objs.size L es ep t → (∀ p ∈ L, p ∈ ks) → (∀ p ∈ ks, p.2 ∈ L.map (·.2)) → (∀ b o, s.heap.get? b = some o → h'.get? b = some o) → Q (.ref s.heap.objs.size) { s with heap := h', toks := tk }) :
    wpAny (model P w) A (call (.type "set") [.ref l]) Q E s := by
  have hisz : items.size = ks.length := by rw [← Array.length_toList]; exact (paired_length hit).symm
  obtain ⟨c, tl, hmro⟩ := PySem.F.called_set.mro
  have hmade := PySem.F.called_set.made
  have hsub := PySem.F.called_set.sub
  have N0 : ∀ o, o = ({ cls := .type "set", dict := none, data := .set #[] 0 (.fresh 0 0 (!w.params.followText "set-order")) } : Obj) → (s.heap.push o).get? s.heap.objs.size = some o := fun o e => Heap.get?_push_size _ (by subst e; rfl)
  refine wpAny_call (codeAny_of_tree ?_)
  show wpAny _ _ (callAny (.type "set") _) _ _ _
  refine wpAny_pure ⟨Code.quiet_builtin _ (by decide +kernel), codeAny_builtin PySem.F.entry_type_call ?_⟩
  rw [Around.under_plain (weight_type_call_type "set" [.ref l] []) rfl]
  have h1 := PySem.F.called_set.notType
  have h2 := PySem.F.called_set.canCreate
  have hct := PySem.F.typeCall_set_1 (.ref l)
  repeat (any_goals (first | assumption | wp_step))
  refine codeAny_mono (L2.code_set_led1 (.ref l) (E := E) (Q₁ := fun obj s₁ => obj = .ref s.heap.objs.size ∧ s₁ = { s with heap := s.heap.push { cls := .type "set", dict := none, data := .set #[] 0 (.fresh 0 0 (!w.params.followText "set-order")) } }) ⟨rfl, rfl⟩) fun r s₁ hr => ?_
  cases r with
  | error e => exact hr
  | ok fl =>
    cases fl with
    | ret obj =>
      obtain ⟨rfl, rfl⟩ := hr
      have hS := N0 _ rfl
      have hT : Shared.TypeIs { s with heap := s.heap.push { cls := .type "set", dict := none, data := .set #[] 0 (.fresh 0 0 (!w.params.followText "set-order")) } } (.ref s.heap.objs.size) "set" := ⟨_, hS, rfl⟩
      have hli := PySem.F.called_set.init.lookup
      have hbi := PySem.F.called_set.init.bind (.ref s.heap.objs.size)
      repeat (any_goals (first | assumption | wp_step))
      refine codeAny_mono (codeAny_call_builtin (R := wants (fun r s₂ => r = .none ∧ ∃ h' tk L es ep t, s₂ = { s with heap := h', toks := tk } ∧ SetN w h' s.heap.objs.size L es ep t ∧ (∀ p ∈ L, p ∈ ks) ∧ (∀ p ∈ ks, p.2 ∈ L.map (·.2)) ∧
          (∀ b o, s.heap.get? b = some o → h'.get? b = some o)) E) PySem.F.called_set.init.plain PySem.F.entry_set_init (check_set_init_1 hT ?_)) fun r₂ s₂ hr₂ => ?_
      · obtain ⟨ol, hol, hcl, nl, hdl⟩ := hl
        obtain ⟨ocls, odict, odata, oslots⟩ := ol
        simp only at hcl hdl
        subst hcl; subst hdl
        have hol' : (s.heap.push { cls := .type "set", dict := none, data := .set #[] 0 (.fresh 0 0 (!w.params.followText "set-order")) }).get? l = some { cls := .type "list", dict := odict, data := .seq items nl, slots := oslots } := Heap.get?_push_of_some _ hol
        have hsls := PySem.F.sub_list_set
        have hslf := PySem.F.sub_list_frozenset
        have hne : (Value.type "list" == Value.type "dict") = false := by decide
        have hl1 : (s.heap.push { cls := .type "set", dict := none, data := .set #[] 0 (.fresh 0 0 (!w.params.followText "set-order")) }).IsList l items := ⟨_, hol', rfl, nl, rfl⟩
        unfold Builtin.«set.__init__» noKeywords Builtin.Frozenset.updateFrom
        generalize hPI : pyIter = PI
        wp_walk
        subst hPI
        refine wpAny_pyIter_list hl1 ?_
        refine wpAny_bind (wpAny_runValue ?_)
        have hlS : l < s.heap.objs.size := Heap.lt_size hol
        have hh3 : A.in1.in1.in1.handled = none := by simp [hh]
        have hneI : l ≠ (s.heap.push { cls := .type "set", dict := none, data := .set #[] 0 (.fresh 0 0 (!w.params.followText "set-order")) }).objs.size := by
          rw [Heap.size_push]; exact Nat.ne_of_lt (Nat.lt_succ_of_lt hlS)
        have hSf : s.heap.objs.size ∉ [(s.heap.push { cls := .type "set", dict := none, data := .set #[] 0 (.fresh 0 0 (!w.params.followText "set-order")) }).objs.size, l] := by
          rw [Heap.size_push]; simp only [List.mem_cons, List.mem_singleton, List.not_mem_nil, or_false, not_or]
          exact ⟨Nat.ne_of_lt (Nat.lt_succ_self _), Nat.ne_of_gt hlS⟩
        have hval : ∀ (i : Nat) (v : Value), items[i]? = some v → ∃ p, ks[i]? = some p ∧ v = Value.ref p.1 := fun i v hv => paired_getR (R := fun (p : AK) v => v = Value.ref p.1) hit (by rw [Array.getElem?_toList]; exact hv)
        have free : ∀ b, s.heap.objs.size ≤ b → s.heap.get? b = none := fun b hb => by
          cases q : s.heap.get? b with
          | none => rfl
          | some o => exact absurd (Heap.lt_size q) (Nat.not_lt.mpr hb)
        refine setN_loop ((Walks.list hh3 _ l hneI items).toS) s.heap.objs.size hSf ks hisz hb hval s.heap hks (free _ (Nat.le_refl _))
          (fun b hb => free b (by rw [List.mem_singleton.mp hb, Heap.size_push]; omega)) (by simp; omega) (items.size - 0) 0 _ (by omega) (Nat.zero_le _)
          ⟨⟨_, Heap.get?_push_size _ rfl, rfl, rfl⟩, (hl1.push _)⟩ (fun b o e => Heap.get?_push_of_some _ (Heap.get?_push_of_some _ e)) ?hS0 ?hR
        case hS0 => exact ⟨[], #[], 0, _, setN_new (Heap.get?_push_of_some _ hS), Gt.zero ks⟩
        case hR =>
          intro s' L es ep t hm hS' gg hkp
          obtain ⟨h', g2, d', tk', os'⟩ := s'
          have eg : g2 = s.gens := hm.gens
          have ed : d' = s.drawn := hm.drawn
          have eo : os' = s.os := hm.os
          subst eg; subst ed; subst eo
          show wpAny _ _ _ _ _ _
          refine wpAny_pure ?_
          show wpAny _ _ (PySem.ret Value.none) _ _ _
          rw [hisz] at gg
          exact wpAny_pure ⟨rfl, h', tk', L, es, ep, t, rfl, hS', fun p hp => List.mem_of_mem_take (gg.sub p hp), fun p hp => gg.all p (by rw [List.take_length]; exact hp), hkp⟩
      · cases r₂ with
        | error e => exact hr₂
        | ok fl₂ =>
          cases fl₂ with
          | ret r =>
            obtain ⟨rfl, h', tk, L, es, ep, t, rfl, hS', hl1, hl2, hk'⟩ := hr₂
            repeat (any_goals (first | assumption | wp_step))
            exact h _ _ _ _ _ _ hS' hl1 hl2 hk'
          | _ => exact hr₂.elim
    | _ => exact hr.elim
set_option maxHeartbeats 3200000 in
theorem call_setN_tuple {l : Addr} {items : Array Value} (ks : List AK) {Q : Value → Shared → Prop} (hh : A.handled = none) (hl : s.heap.IsTuple l items) (hit : Paired (fun (p : AK) v => v = Value.ref p.1) ks items.toList) (hks : ∀ p ∈ ks, IsN s.heap p.2 p.1) (hb : ks.length < 64) (hu : A.units + 16 < cLine)
    (h : ∀ (h' : Heap) (tk : Nat) L es ep t, SetN w h' s.heap.objs.size L es ep t → (∀ p ∈ L, p ∈ ks) → (∀ p ∈ ks, p.2 ∈ L.map (·.2)) → (∀ b o, s.heap.get? b = some o → h'.get? b = some o) → Q (.ref s.heap.objs.size) { s with heap := h', toks := tk }) :
    wpAny (model P w) A (call (.type "set") [.ref l]) Q E s := by
  have hisz : items.size = ks.length := by rw [← Array.length_toList]; exact (paired_length hit).symm
  obtain ⟨c, tl, hmro⟩ := PySem.F.called_set.mro
  have hmade := PySem.F.called_set.made
  have hsub := PySem.F.called_set.sub
  have N0 : ∀ o, o = ({ cls := .type "set", dict := none, data := .set #[] 0 (.fresh 0 0 (!w.params.followText "set-order")) } : Obj) → (s.heap.push o).get? s.heap.objs.size = some o := fun o e => Heap.get?_push_size _ (by subst e; rfl)
  refine wpAny_call (codeAny_of_tree ?_)
  show wpAny _ _ (callAny (.type "set") _) _ _ _
  refine wpAny_pure ⟨Code.quiet_builtin _ (by decide +kernel), codeAny_builtin PySem.F.entry_type_call ?_⟩
  rw [Around.under_plain (weight_type_call_type "set" [.ref l] []) rfl]
  have h1 := PySem.F.called_set.notType
  have h2 := PySem.F.called_set.canCreate
  have hct := PySem.F.typeCall_set_1 (.ref l)
  repeat (any_goals (first | assumption | wp_step))
  refine codeAny_mono (L2.code_set_led1 (.ref l) (E := E) (Q₁ := fun obj s₁ => obj = .ref s.heap.objs.size ∧ s₁ = { s with heap := s.heap.push { cls := .type "set", dict := none, data := .set #[] 0 (.fresh 0 0 (!w.params.followText "set-order")) } }) ⟨rfl, rfl⟩) fun r s₁ hr => ?_
  cases r with
  | error e => exact hr
  | ok fl =>
    cases fl with
    | ret obj =>
      obtain ⟨rfl, rfl⟩ := hr
      have hS := N0 _ rfl
      have hT : Shared.TypeIs { s with heap := s.heap.push { cls := .type "set", dict := none, data := .set #[] 0 (.fresh 0 0 (!w.params.followText "set-order")) } } (.ref s.heap.objs.size) "set" := ⟨_, hS, rfl⟩
      have hli := PySem.F.called_set.init.lookup
      have hbi := PySem.F.called_set.init.bind (.ref s.heap.objs.size)
      repeat (any_goals (first | assumption | wp_step))
      refine codeAny_mono (codeAny_call_builtin (R := wants (fun r s₂ => r = .none ∧ ∃ h' tk L es ep t, s₂ = { s with heap := h', toks := tk } ∧ SetN w h' s.heap.objs.size L es ep t ∧ (∀ p ∈ L, p ∈ ks) ∧ (∀ p ∈ ks, p.2 ∈ L.map (·.2)) ∧
          (∀ b o, s.heap.get? b = some o → h'.get? b = some o)) E) PySem.F.called_set.init.plain PySem.F.entry_set_init (check_set_init_1 hT ?_)) fun r₂ s₂ hr₂ => ?_
      · obtain ⟨ol, hol, hcl, nl, hdl⟩ := hl
        obtain ⟨ocls, odict, odata, oslots⟩ := ol
        simp only at hcl hdl
        subst hcl; subst hdl
        have hol' : (s.heap.push { cls := .type "set", dict := none, data := .set #[] 0 (.fresh 0 0 (!w.params.followText "set-order")) }).get? l = some { cls := .type "tuple", dict := odict, data := .seq items nl, slots := oslots } := Heap.get?_push_of_some _ hol
        have hsls := PySem.F.sub_tuple_set
        have hslf := PySem.F.sub_tuple_frozenset
        have hne : (Value.type "tuple" == Value.type "dict") = false := by decide
        have hl1 : (s.heap.push { cls := .type "set", dict := none, data := .set #[] 0 (.fresh 0 0 (!w.params.followText "set-order")) }).IsTuple l items := ⟨_, hol', rfl, nl, rfl⟩
        unfold Builtin.«set.__init__» noKeywords Builtin.Frozenset.updateFrom
        generalize hPI : pyIter = PI
        wp_walk
        subst hPI
        refine wpAny_pyIter_tuple hl1 ?_
        refine wpAny_bind (wpAny_runValue ?_)
        have hlS : l < s.heap.objs.size := Heap.lt_size hol
        have hh3 : A.in1.in1.in1.handled = none := by simp [hh]
        have hneI : l ≠ (s.heap.push { cls := .type "set", dict := none, data := .set #[] 0 (.fresh 0 0 (!w.params.followText "set-order")) }).objs.size := by
          rw [Heap.size_push]; exact Nat.ne_of_lt (Nat.lt_succ_of_lt hlS)
        have hSf : s.heap.objs.size ∉ [(s.heap.push { cls := .type "set", dict := none, data := .set #[] 0 (.fresh 0 0 (!w.params.followText "set-order")) }).objs.size, l] := by
          rw [Heap.size_push]; simp only [List.mem_cons, List.mem_singleton, List.not_mem_nil, or_false, not_or]
          exact ⟨Nat.ne_of_lt (Nat.lt_succ_self _), Nat.ne_of_gt hlS⟩
        have hval : ∀ (i : Nat) (v : Value), items[i]? = some v → ∃ p, ks[i]? = some p ∧ v = Value.ref p.1 := fun i v hv => paired_getR (R := fun (p : AK) v => v = Value.ref p.1) hit (by rw [Array.getElem?_toList]; exact hv)
        have free : ∀ b, s.heap.objs.size ≤ b → s.heap.get? b = none := fun b hb => by
          cases q : s.heap.get? b with
          | none => rfl
          | some o => exact absurd (Heap.lt_size q) (Nat.not_lt.mpr hb)
        refine setN_loop ((Walks.tuple hh3 _ l hneI items).toS) s.heap.objs.size hSf ks hisz hb hval s.heap hks (free _ (Nat.le_refl _))
          (fun b hb => free b (by rw [List.mem_singleton.mp hb, Heap.size_push]; omega)) (by simp; omega) (items.size - 0) 0 _ (by omega) (Nat.zero_le _)
          ⟨⟨_, Heap.get?_push_size _ rfl, rfl, rfl⟩, (hl1.push _)⟩ (fun b o e => Heap.get?_push_of_some _ (Heap.get?_push_of_some _ e)) ?hS0 ?hR
        case hS0 => exact ⟨[], #[], 0, _, setN_new (Heap.get?_push_of_some _ hS), Gt.zero ks⟩
        case hR =>
          intro s' L es ep t hm hS' gg hkp
          obtain ⟨h', g2, d', tk', os'⟩ := s'
          have eg : g2 = s.gens := hm.gens
          have ed : d' = s.drawn := hm.drawn
          have eo : os' = s.os := hm.os
          subst eg; subst ed; subst eo
          show wpAny _ _ _ _ _ _
          refine wpAny_pure ?_
          show wpAny _ _ (PySem.ret Value.none) _ _ _
          rw [hisz] at gg
          exact wpAny_pure ⟨rfl, h', tk', L, es, ep, t, rfl, hS', fun p hp => List.mem_of_mem_take (gg.sub p hp), fun p hp => gg.all p (by rw [List.take_length]; exact hp), hkp⟩
      · cases r₂ with
        | error e => exact hr₂
        | ok fl₂ =>
          cases fl₂ with
          | ret r =>
            obtain ⟨rfl, h', tk, L, es, ep, t, rfl, hS', hl1, hl2, hk'⟩ := hr₂
            repeat (any_goals (first | assumption | wp_step))
            exact h _ _ _ _ _ _ hS' hl1 hl2 hk'
          | _ => exact hr₂.elim
    | _ => exact hr.elim
end
end Mi

set_option Elab.async false
set_option linter.all false
set_option maxRecDepth 100000
set_option autoImplicit false
namespace Mi
open PySem PySem.Spec L2
theorem rel_ref {v : V} {a : Addr} (h : RelV v (.ref a)) : v = .ref a := by
  cases v with
  | ref b => cases (show Value.ref a = Value.ref b from h); rfl
  | int i => obtain ⟨t, h⟩ := h; cases h
  | str i => obtain ⟨t, h⟩ := h; cases h
  | byt i => obtain ⟨t, h⟩ := h; cases h
  | flt i => obtain ⟨t, h⟩ := h; cases h
  | non => cases (show Value.ref a = Value.none from h)
  | bl b => cases (show Value.ref a = Value.bool b from h)
  | ty n => cases (show Value.ref a = Value.type n from h)
/-! ### data as nested keys -/
mutual
def nkD : D → Option NestedKey
  | .int i => some (.num i)
  | .tuple ds => (nkDs ds).map .tup
  | .str x => some (.text x)
  | .none => none | .bool _ => none | .list _ => none | .dict _ => none
def nkDs : List D → Option (List NestedKey)
  | [] => some []
  | d :: ds => match nkD d with
    | some k => (nkDs ds).map (k :: ·)
    | none => none
end
mutual
def dK : NestedKey → D
  | .num i => .int i
  | .tup ks => .tuple (dKs ks)
  | .none => .none
  | .text x => .str x
def dKs : List NestedKey → List D
  | [] => []
  | k :: ks => dK k :: dKs ks
end
mutual
/-- no None within -/
def noN : NestedKey → Bool
  | .none => false
  | .num _ => true
  | .text _ => true
  | .tup ks => noNs ks
def noNs : List NestedKey → Bool
  | [] => true
  | k :: ks => noN k && noNs ks
end
theorem dKs_map : ∀ ks : List NestedKey, dKs ks = ks.map dK
  | [] => rfl
  | k :: ks => by rw [dKs, dKs_map ks]; rfl
mutual
theorem nk_back : ∀ (d : D) (k : NestedKey), nkD d = some k → dK k = d ∧ noN k = true
  | .int i, _, h => by simp only [nkD, Option.some.injEq] at h; subst h; exact ⟨rfl, rfl⟩
  | .tuple ds, _, h => by
    simp only [nkD] at h
    obtain ⟨ks, h1, rfl⟩ := Option.map_eq_some_iff.mp h
    obtain ⟨e1, e2⟩ := nks_back ds ks h1
    exact ⟨by rw [dK, e1], by simpa only [noN] using e2⟩
  | .none, _, h => by simp [nkD] at h
  | .bool _, _, h => by simp [nkD] at h
  | .str x, _, h => by simp only [nkD, Option.some.injEq] at h; subst h; exact ⟨rfl, rfl⟩
  | .list _, _, h => by simp [nkD] at h
  | .dict _, _, h => by simp [nkD] at h
theorem nks_back : ∀ (ds : List D) (ks : List NestedKey), nkDs ds = some ks → dKs ks = ds ∧ noNs ks = true
  | [], _, h => by simp only [nkDs, Option.some.injEq] at h; subst h; exact ⟨rfl, rfl⟩
  | d :: ds, ks, h => by
    simp only [nkDs] at h
    cases e : nkD d with
    | none => rw [e] at h; cases h
    | some k =>
      rw [e] at h
      obtain ⟨ks', h1, rfl⟩ := Option.map_eq_some_iff.mp h
      obtain ⟨a1, a2⟩ := nk_back d k e
      obtain ⟨b1, b2⟩ := nks_back ds ks' h1
      exact ⟨by rw [dKs, a1, b1], by simp only [noNs, a2, b2]; rfl⟩
end
/-- rows that are keys: tuples, not too deep, not too many -/
def okKs (ks : List NestedKey) : Bool := ks.all (fun k => (match k with | .tup _ => true | _ => false) && decide (k.depth ≤ 8)) && decide (ks.length < 64)
def rowsK (ds : List D) : Option (List NestedKey) := (nkDs ds).bind fun ks => if okKs ks = true then some ks else none
section
variable {X : Cx}
mutual
theorem nk_is {pins : List (Addr × Obj)} {σ : L2.St} {B H : Hp} {s : Shared} (I : Inv X pins σ H s) (hs : Sub B H) : ∀ (d : D) (v : V) (u : Value) (k : NestedKey), RD X.K B d v → RelV v u → nkD d = some k → NestedIs s.heap k u
  | .int i, _, _, _, r, q, h => by
    simp only [nkD, Option.some.injEq] at h
    subst h
    cases r
    obtain ⟨t, rfl⟩ := q
    exact .int _ _
  | .tuple ds, _, _, _, r, q, h => by
    simp only [nkD] at h
    obtain ⟨ks, h1, rfl⟩ := Option.map_eq_some_iff.mp h
    cases r with
    | @tup a vs _ h2 h3 =>
      cases q
      obtain ⟨its, rv, ⟨o, ho, hc, n, hd⟩, _⟩ := I.tuple (hs.sqT h2)
      exact .tup ho hc hd (by simpa using nks_is I hs ds vs its ks h3 rv h1)
  | .none, _, _, _, _, _, h => by simp [nkD] at h
  | .bool _, _, _, _, _, _, h => by simp [nkD] at h
  | .str x, _, _, _, r, q, h => by
    simp only [nkD, Option.some.injEq] at h
    subst h
    cases r
    obtain ⟨t, rfl⟩ := q
    exact .text _ _
  | .list _, _, _, _, _, _, h => by simp [nkD] at h
  | .dict _, _, _, _, _, _, h => by simp [nkD] at h
theorem nks_is {pins : List (Addr × Obj)} {σ : L2.St} {B H : Hp} {s : Shared} (I : Inv X pins σ H s) (hs : Sub B H) : ∀ (ds : List D) (vs : List V) (us : List Value) (ks : List NestedKey), RDs X.K B ds vs → Vals vs us → nkDs ds = some ks → NestedAll s.heap ks us
  | [], _, _, _, r, q, h => by
    simp only [nkDs, Option.some.injEq] at h
    subst h
    cases r
    cases q
    exact .nil
  | d :: ds, _, _, ks, r, q, h => by
    simp only [nkDs] at h
    cases e : nkD d with
    | none => rw [e] at h; cases h
    | some k =>
      rw [e] at h
      obtain ⟨ks', h1, rfl⟩ := Option.map_eq_some_iff.mp h
      cases r with
      | cons r1 r2 =>
        cases q with
        | cons q1 q2 => exact .cons (nk_is I hs d _ _ k r1 q1 e) (nks_is I hs ds _ _ ks' r2 q2 h1)
end
/-- the rows with their addresses -/
theorem rows_ak {h : Heap} : ∀ {ks : List NestedKey} {us : List Value}, NestedAll h ks us → okKs ks = true → ∃ aks : List AK, aks.map (·.2) = ks ∧ Paired (fun (p : AK) v => v = Value.ref p.1) aks us ∧ ∀ p ∈ aks, IsN h p.2 p.1
  | [], _, x, _ => by cases x; exact ⟨[], rfl, .nil, fun p hp => (by cases hp)⟩
  | k :: ks, us, x, ho => by
    cases x with
    | @cons _ v _ vs x1 x2 =>
      unfold okKs at ho
      simp only [List.all_cons, Bool.and_eq_true, decide_eq_true_eq, List.length_cons] at ho
      obtain ⟨⟨⟨h1, h2⟩, h3⟩, h4⟩ := ho
      obtain ⟨aks, e1, e2, e3⟩ := rows_ak x2 (by unfold okKs; rw [Bool.and_eq_true, decide_eq_true_eq]; exact ⟨h3, by omega⟩)
      cases x1 with
      | @tup a o vs' n ks' g1 g2 g3 g4 =>
        refine ⟨(a, .tup ks') :: aks, by rw [List.map_cons, e1], .cons rfl e2, fun p hp => ?_⟩
        rcases List.mem_cons.mp hp with rfl | hp
        · exact ⟨.tup g1 g2 g3 g4, h2⟩
        · exact e3 p hp
      | _ => simp at h1
end
/-! ### set(e), then something of it: whole numbers, texts or nested keys -/
def mSetA (f : List Int ⊕ List Str → Rv) (g : List NestedKey → Rs Unit × Rv) (m : M Rv) : M Rv := bnd (vm m) fun r env => match (res env r).bind seqD with
  | some ds => match setOf ds with
    | some z => .ok (f z) env
    | none => match rowsK ds with
      | some ks => match g ks with
        | (.ok _ _, r) => .ok r env
        | _ => .stuck
      | none => .stuck
  | none => .stuck
section
variable {X : Cx} {cl : String → Addr} {E : XK} {e : Expr} {m : M Rv} {p p2 q pos : Pos}
theorem set_thenA {f : List Int ⊕ List Str → Rv} {g : List NestedKey → Rs Unit × Rv} {pins : List (Addr × Obj)} {σ : L2.St} {H : Hp} {s : Shared} {Q : VK} {cont : Value → Sem Value} (hu : X.A.units + 64 < cLine) (hg2 : Gl X "set") (hm2 : X.mg "set" = none) (ha : DE X cl E e m) (I : Inv X pins σ H s) (h : tM X.K cl E (mSetA f g m) σ H Q)
    (na : starEach [e] X.env = (false, eval e X.env) :: starEach [] X.env) (hc : X.calm = true)
    (hk : ∀ (P B H1 : Hp) (env : Env) (fps : Nat → List Addr) (S : Addr) (ls : List Key) (z : List Int ⊕ List Str) (s1 : Shared), Inv X pins σ H1 s1 → Fm X.K P B H1 σ env fps → SetM X.w s1.heap S ls → (∀ k, k ∈ ls ↔ k ∈ keysS z) → PostE X.K cl E P B σ (.ok (f z) env) Q →
      wpAny (model X.prog X.w) X.A (cont (.ref S)) (EP X pins σ Q) X.xe s1)
    (hk2 : ∀ (P B H1 : Hp) (env : Env) (fps : Nat → List Addr) (S : Addr) (L : List AK) (es : Array (Int × Value)) (ep : Nat) (t : SetTable) (ks : List NestedKey) (s1 : Shared) (e' : Env) (r : Rv), Inv X pins σ H1 s1 → Fm X.K P B H1 σ env fps → SetN X.w s1.heap S L es ep t → (∀ p ∈ L, p.2 ∈ ks) → (∀ k ∈ ks, k ∈ L.map (·.2)) →
      (∀ p ∈ L, RD X.K B (dK p.2) (.ref p.1)) → g ks = (.ok () e', r) → PostE X.K cl E P B σ (.ok r env) Q → wpAny (model X.prog X.w) X.A (cont (.ref S)) (EP X pins σ Q) X.xe s1) :
    wpAny (model X.prog X.w) X.A (eval (.Call (.Name "set" p2) [e] [] q) X.env) (fun v s1 => wpAny (model X.prog X.w) X.A (cont v) (EP X pins σ Q) X.xe s1) X.xe s := by
  obtain ⟨P, B, env, fps, F, h⟩ := h
  refine PyProof.Rows.Call_ (ld_blt I hg2 hm2 PyProof.Rows.boot_set ?_)
  refine PyProof.Rows.callWith_type1 (PyProof.Rows.args_cons (thn (ha.run pins s σ H _ I ⟨P, B, env, fps, F, post_vm h⟩) fun v s1 ⟨x, H1, I1, r1, B1, env1, fps1, r, x1, F1, w1, h1⟩ => PyProof.Rows.args_nil ?_) na) na rfl
  cases e1 : (res env1 r).bind seqD with
  | none => simp only [e1] at h1; exact h1.elim
  | some ds =>
  simp only [e1] at h1
  obtain ⟨x0, e3, e4⟩ := Option.bind_eq_some_iff.mp e1
  obtain ⟨k, a, vs, rfl, hq, rds⟩ := rd1_seq F1.sub (F1.res w1 e3) e4
  cases r1
  cases e2 : setOf ds with
  | some z =>
    simp only [e2] at h1
    have fin : ∀ (h' : Heap) (tk : Nat) ls, SetM X.w h' s1.heap.objs.size ls → (∀ k, k ∈ ls ↔ k ∈ keysS z) → (∀ b o, s1.heap.get? b = some o → h'.get? b = some o) →
        wpAny (model X.prog X.w) X.A (cont (.ref s1.heap.objs.size)) (EP X pins σ Q) X.xe { s1 with heap := h', toks := tk } := fun h' tk ls S hls hk' =>
      hk P B1 H1 env1 fps1 _ ls z _ (I1.kept (t' := tk) hk') F1 S hls h1
    cases k with
    | true =>
      obtain ⟨its, rv, pl, hz⟩ := I1.list hq
      obtain ⟨c1, c2⟩ := keys_of rds e2 rv
      exact call_set_list (keysS z) (I1.ok.hd hc) pl.isList (by simpa using c1) c2 fun h' tk ls S hls hk' => fin h' tk ls S hls hk'
    | false =>
      obtain ⟨its, rv, pl, hz⟩ := I1.tuple hq
      obtain ⟨c1, c2⟩ := keys_of rds e2 rv
      exact call_set_tuple (keysS z) (I1.ok.hd hc) pl (by simpa using c1) c2 fun h' tk ls S hls hk' => fin h' tk ls S hls hk'
  | none =>
    simp only [e2] at h1
    cases e5 : rowsK ds with
    | none => simp only [e5] at h1; exact h1.elim
    | some ks =>
    simp only [e5] at h1
    obtain ⟨ks0, e6, e7⟩ := Option.bind_eq_some_iff.mp e5
    split at e7
    case isFalse => cases e7
    rename_i hok
    cases e7
    have hg : ∃ e' r', g ks = (.ok () e', r') ∧ PostE X.K cl E P B1 σ (.ok r' env1) Q := by
      split at h1
      · rename_i u e' r' eg
        exact ⟨e', r', eg, h1⟩
      · exact h1.elim
    obtain ⟨e', r', eg, h2⟩ := hg
    obtain ⟨bk, nm⟩ := nks_back ds ks e6
    have main : ∀ its : List Value, Vals vs its → ∃ aks : List AK, aks.map (·.2) = ks ∧ Paired (fun (p : AK) v => v = Value.ref p.1) aks its ∧ (∀ p ∈ aks, IsN s1.heap p.2 p.1) ∧ ∀ p ∈ aks, RD X.K B1 (dK p.2) (.ref p.1) := fun its rv => by
      obtain ⟨aks, a1, a2, a3⟩ := rows_ak (nks_is I1 F1.sub ds vs its ks rds rv e6) hok
      refine ⟨aks, a1, a2, a3, ?_⟩
      have go : ∀ {aks : List AK} {its : List Value} {vs : List V} {ds : List D}, Paired (fun (p : AK) v => v = Value.ref p.1) aks its → Vals vs its → RDs X.K B1 ds vs → dKs (aks.map (·.2)) = ds → ∀ p ∈ aks, RD X.K B1 (dK p.2) (.ref p.1) := by
        intro aks its vs ds h1
        induction h1 generalizing vs ds with
        | nil => intro _ _ _ p hp; cases hp
        | @cons p v aks its hv ht ih =>
          intro hvs hr hd p' hp'
          cases hvs with
          | cons q1 q2 =>
            rw [List.map_cons, dKs] at hd
            cases hr with
            | cons r1 r2 =>
              injection hd with hd1 hd2
              rcases List.mem_cons.mp hp' with e | hp'
              · rw [e]
                subst hv
                have ev := rel_ref q1
                rw [hd1, ← ev]
                exact r1
              · exact ih q2 r2 hd2 p' hp'
      exact go a2 rv rds (by rw [a1]; exact bk)
    have hlt : ks.length < 64 := by
      unfold okKs at hok
      rw [Bool.and_eq_true, decide_eq_true_eq] at hok
      exact hok.2
    have fin : ∀ (aks : List AK) (h' : Heap) (tk : Nat) L es ep t, aks.map (·.2) = ks → (∀ p ∈ aks, RD X.K B1 (dK p.2) (.ref p.1)) → SetN X.w h' s1.heap.objs.size L es ep t → (∀ p ∈ L, p ∈ aks) → (∀ p ∈ aks, p.2 ∈ L.map (·.2)) → (∀ b o, s1.heap.get? b = some o → h'.get? b = some o) →
        wpAny (model X.prog X.w) X.A (cont (.ref s1.heap.objs.size)) (EP X pins σ Q) X.xe { s1 with heap := h', toks := tk } := fun aks h' tk L es ep t a1 a4 S s1' s2' hk' =>
      hk2 P B1 H1 env1 fps1 _ L es ep t ks _ e' r' (I1.kept (t' := tk) hk') F1 S (fun p hp => by rw [← a1]; exact List.mem_map.mpr ⟨p, s1' p hp, rfl⟩) (fun k hk => by
        rw [← a1] at hk
        obtain ⟨p, hp, rfl⟩ := List.mem_map.mp hk
        exact s2' p hp) (fun p hp => a4 p (s1' p hp)) eg h2
    cases k with
    | true =>
      obtain ⟨its, rv, pl, hz⟩ := I1.list hq
      obtain ⟨aks, a1, a2, a3, a4⟩ := main its rv
      exact call_setN_list aks (I1.ok.hd hc) pl.isList (by simpa using a2) a3 (by rw [← List.length_map (f := (·.2)) (as := aks), a1]; exact hlt) (by omega) fun h' tk L es ep t S l1 l2 hk' => fin aks h' tk L es ep t a1 a4 S l1 l2 hk'
    | false =>
      obtain ⟨its, rv, pl, hz⟩ := I1.tuple hq
      obtain ⟨aks, a1, a2, a3, a4⟩ := main its rv
      exact call_setN_tuple aks (I1.ok.hd hc) pl (by simpa using a2) a3 (by rw [← List.length_map (f := (·.2)) (as := aks), a1]; exact hlt) (by omega) fun h' tk L es ep t S l1 l2 hk' => fin aks h' tk L es ep t a1 a4 S l1 l2 hk'
/-- len(set(e)) -/
theorem de_lenSetA (hu : X.A.units + 64 < cLine) (hc : X.calm = true) (hg : Gl X "len") (hm : X.mg "len" = none) (hg2 : Gl X "set") (hm2 : X.mg "set" = none) (ha : DE X cl E e m) (na : starEach [e] X.env = (false, eval e X.env) :: starEach [] X.env := by rfl) :
    DE X cl E (.Call (.Name "len" p) [.Call (.Name "set" p2) [e] [] q] [] pos) (mSetA (fun z => .d (.int (lenS z))) (fun ks => (.ok () [], .d (.int (dedup ks).length))) m) := by
  refine ⟨fun pins s σ H Q I h => ?_⟩
  refine PyProof.Rows.Call_ (ld_blt I hg hm boot_len ?_)
  refine PyProof.Rows.callWith_builtin1 (PyProof.Rows.args_cons (thn (set_thenA (cont := fun v => call (.builtin "len") [v]) hu hg2 hm2 ha I h na hc (fun P B H1 env fps S ls z s1 I1 F1 SM hls h1 => ?_) fun P B H1 env fps S L es ep t ks s1 e' r I1 F1 SN m1 m2 _ eg h1 => ?_) fun v s1 h1 => PyProof.Rows.args_nil h1) rfl) rfl rfl
  · obtain ⟨o, es, ep, t, ho, hex, hd, _, hnd, hmm, hsz, hf, _, _⟩ := SM
    have hn : es.size = lenS z := by
      cases z with
      | inl ns => exact size_set (f := (Sum.inl : Int → Key)) (fun a b h => Sum.inl.inj h) hnd hmm hls
      | inr xs => exact size_set (f := (Sum.inr : Str → Key)) (fun a b h => Sum.inr.inj h) hnd hmm hls
    exact call_len_set ho hex hd hf (by unfold scanBound at hsz; omega) ⟨.int (lenS z), H1, I1.tok _, ⟨_, by rw [hn]⟩, h1 _ _ _ fps Ext.refl F1 (.int _)⟩
  · cases eg
    obtain ⟨o, ho, hex, hd⟩ := SN.ob
    have hn : es.size = (dedup ks).length := by
      rw [SN.sz, ← List.length_map (f := (·.2)) (as := L)]
      refine (perm_of SN.nd (nodup_dedup ks) fun k => ?_).length_eq
      rw [mem_dedup]
      constructor
      · intro hk
        obtain ⟨p, hp, rfl⟩ := List.mem_map.mp hk
        exact m1 p hp
      · exact m2 k
    have hf := SN.few
    have hz := SN.sz
    exact call_len_set ho hex hd SN.fit (by omega) ⟨.int ((dedup ks).length : Nat), H1, I1.tok _, ⟨_, by rw [hn]⟩, h1 _ _ _ fps Ext.refl F1 (.int _)⟩
end
end Mi

set_option Elab.async false
set_option linter.all false
set_option maxRecDepth 100000
set_option autoImplicit false
namespace Mi
open PySem PySem.Spec L2
/-! ### sorted(set(e)) of nested keys -/
mutual
theorem reads_flat {h : Heap} : ∀ (d : D) (v : Value) (as : List Addr), Reads h v d as → flat d = true → as = []
  | .none, _, _, r, _ => by cases r; rfl
  | .bool _, _, _, r, _ => by cases r; rfl
  | .int _, _, _, r, _ => by cases r; rfl
  | .str _, _, _, r, _ => by cases r; rfl
  | .list _, _, _, r, f => by simp [flat] at f
  | .dict _, _, _, r, f => by simp [flat] at f
  | .tuple ds, _, _, r, f => by
    cases r with
    | tuple _ _ _ r => exact readsA_flat ds _ _ r (by simpa only [flat] using f)
theorem readsA_flat {h : Heap} : ∀ (ds : List D) (vs : List Value) (as : List Addr), ReadsAll h vs ds as → flats ds = true → as = []
  | [], _, _, r, _ => by cases r; rfl
  | d :: ds, _, _, r, f => by
    cases r with
    | cons r1 r2 =>
      simp only [flats, Bool.and_eq_true] at f
      rw [reads_flat d _ _ r1 f.1, readsA_flat ds _ _ r2 f.2]
      rfl
end
mutual
theorem flat_dK : ∀ k : NestedKey, flat (dK k) = true
  | .none => rfl
  | .num i => rfl
  | .text x => rfl
  | .tup ks => by simp only [dK, flat]; exact flat_dKs ks
theorem flat_dKs : ∀ ks : List NestedKey, flats (dKs ks) = true
  | [] => rfl
  | k :: ks => by simp only [dKs, flats, Bool.and_eq_true]; exact ⟨flat_dK k, flat_dKs ks⟩
end
mutual
theorem toks_inj : ∀ (a b : NestedKey) (r r' : List (Int ⊕ List Nat)), noN a = true → noN b = true → PySem.W.alike (dK a) (dK b) = true → PySem.W.keyToks (dK a) ++ r = PySem.W.keyToks (dK b) ++ r' → a = b ∧ r = r'
  | .none, .none, r, r', _, _, _, e => ⟨rfl, e⟩
  | .num i, .num j, r, r', _, _, _, e => by
    simp only [dK, PySem.W.keyToks, List.cons_append, List.nil_append, List.cons.injEq, Sum.inl.injEq] at e
    exact ⟨by rw [e.1], e.2⟩
  | .tup xs, .tup ys, r, r', ha, hb, h, e => by
    simp only [dK, PySem.W.alike] at h
    simp only [dK, PySem.W.keyToks] at e
    obtain ⟨e1, e2⟩ := toksA_inj xs ys r r' (by simpa only [noN] using ha) (by simpa only [noN] using hb) h e
    exact ⟨by rw [e1], e2⟩
  | .text x, .text y, r, r', _, _, _, e => by
    simp only [dK, PySem.W.keyToks, List.cons_append, List.nil_append, List.cons.injEq, Sum.inr.injEq] at e
    exact ⟨by rw [PySem.W.str_of_cps e.1], e.2⟩
  | .none, .text _, _, _, _, _, h, _ => by simp [dK, PySem.W.alike] at h
  | .num _, .text _, _, _, _, _, h, _ => by simp [dK, PySem.W.alike] at h
  | .tup _, .text _, _, _, _, _, h, _ => by simp [dK, PySem.W.alike] at h
  | .text _, .none, _, _, _, _, h, _ => by simp [dK, PySem.W.alike] at h
  | .text _, .num _, _, _, _, _, h, _ => by simp [dK, PySem.W.alike] at h
  | .text _, .tup _, _, _, _, _, h, _ => by simp [dK, PySem.W.alike] at h
  | .none, .num _, _, _, _, _, h, _ => by simp [dK, PySem.W.alike] at h
  | .none, .tup _, _, _, _, _, h, _ => by simp [dK, PySem.W.alike] at h
  | .num _, .none, _, _, _, _, h, _ => by simp [dK, PySem.W.alike] at h
  | .num _, .tup _, _, _, _, _, h, _ => by simp [dK, PySem.W.alike] at h
  | .tup _, .none, _, _, _, _, h, _ => by simp [dK, PySem.W.alike] at h
  | .tup _, .num _, _, _, _, _, h, _ => by simp [dK, PySem.W.alike] at h
theorem toksA_inj : ∀ (as bs : List NestedKey) (r r' : List (Int ⊕ List Nat)), noNs as = true → noNs bs = true → PySem.W.alikeAll (dKs as) (dKs bs) = true → PySem.W.keyToksAll (dKs as) ++ r = PySem.W.keyToksAll (dKs bs) ++ r' → as = bs ∧ r = r'
  | [], [], r, r', _, _, _, e => by
    simp only [dKs, PySem.W.keyToksAll, List.cons_append, List.nil_append, List.cons.injEq, true_and] at e
    exact ⟨rfl, e⟩
  | [], b :: bs, r, r', _, _, _, e => by simp [dKs, PySem.W.keyToksAll] at e
  | a :: as, [], r, r', _, _, _, e => by simp [dKs, PySem.W.keyToksAll] at e
  | a :: as, b :: bs, r, r', ha, hb, h, e => by
    simp only [noNs, Bool.and_eq_true] at ha hb
    simp only [dKs] at h
    rw [PySem.W.alikeAll, Bool.and_eq_true] at h
    simp only [dKs, PySem.W.keyToksAll, List.cons_append, List.cons.injEq, true_and, List.append_assoc] at e
    obtain ⟨e1, e2⟩ := toks_inj a b _ _ ha.1 hb.1 h.1 e
    obtain ⟨e3, e4⟩ := toksA_inj as bs r r' ha.2 hb.2 h.2 e2
    exact ⟨by rw [e1, e3], e4⟩
end
theorem perm_lift {α β : Type} {f : α → β} {xs ys : List β} (p : xs.Perm ys) : ∀ L : List α, xs = L.map f → ∃ L1 : List α, L1.Perm L ∧ ys = L1.map f := by
  induction p with
  | nil =>
    intro L e
    cases L with
    | nil => exact ⟨[], .refl _, rfl⟩
    | cons a l => cases e
  | cons x p ih =>
    intro L e
    cases L with
    | nil => cases e
    | cons a l =>
      rw [List.map_cons] at e
      injection e with e1 e2
      obtain ⟨L1, p1, e3⟩ := ih l e2
      exact ⟨a :: L1, p1.cons a, by rw [List.map_cons, ← e1, e3]⟩
  | swap x y l =>
    intro L e
    match L, e with
    | a :: b :: l', e =>
      simp only [List.map_cons, List.cons.injEq] at e
      exact ⟨b :: a :: l', .swap a b l', by simp [e.1, e.2.1, e.2.2]⟩
  | trans p q ih1 ih2 =>
    intro L e
    obtain ⟨L1, p1, e1⟩ := ih1 L e
    obtain ⟨L2, p2, e2⟩ := ih2 L1 e1
    exact ⟨L2, p2.trans p1, e2⟩
theorem dle_trans (a b c : D) (h : PySem.W.dataLe false (fun d : D => d) a b = true) (k : PySem.W.dataLe false (fun d : D => d) b c = true) : PySem.W.dataLe false (fun d : D => d) a c = true := by
  simp only [PySem.W.dataLe_eq, cond_false, Bool.not_eq_true', PySem.W.dataLt] at *
  cases q : PyProof.Rows.lexLt PyProof.Rows.itemOrd (PySem.W.keyToks c) (PySem.W.keyToks a) with
  | false => rfl
  | true =>
    rcases PyProof.Rows.lex_negTrans (O := PyProof.Rows.itemOrd) _ (PySem.W.keyToks b) _ q with z | z
    · rw [k] at z; cases z
    · rw [h] at z; cases z
theorem dle_total (a b : D) : (PySem.W.dataLe false (fun d : D => d) a b || PySem.W.dataLe false (fun d : D => d) b a) = true := by
  simp only [PySem.W.dataLe_eq, cond_false, Bool.or_eq_true, Bool.not_eq_true', PySem.W.dataLt]
  cases q : PyProof.Rows.lexLt PyProof.Rows.itemOrd (PySem.W.keyToks b) (PySem.W.keyToks a) with
  | false => exact .inl rfl
  | true =>
    right
    cases q2 : PyProof.Rows.lexLt PyProof.Rows.itemOrd (PySem.W.keyToks a) (PySem.W.keyToks b) with
    | false => rfl
    | true =>
      have := PyProof.Rows.lex_trans (O := PyProof.Rows.itemOrd) _ _ _ q q2
      rw [PyProof.Rows.lex_irrefl] at this
      cases this
def leK (a b : NestedKey) : Bool := PySem.W.dataLe false (fun d : D => d) (dK a) (dK b)
def srtN (ks : List NestedKey) : List NestedKey := (dedup ks).mergeSort leK
theorem leK_trans (a b c : NestedKey) : leK a b = true → leK b c = true → leK a c = true := dle_trans _ _ _
theorem leK_total (a b : NestedKey) : (leK a b || leK b a) = true := dle_total _ _
theorem srtN_eq {l ks : List NestedKey} (nd : l.Nodup) (m : ∀ x, x ∈ l ↔ x ∈ ks) (hn : noNs ks = true) (hl : ∀ a ∈ ks, ∀ b ∈ ks, PySem.W.alike (dK a) (dK b) = true) : l.mergeSort leK = srtN ks := by
  have hnm : ∀ k ∈ ks, noN k = true := by
    have go : ∀ ks : List NestedKey, noNs ks = true → ∀ k ∈ ks, noN k = true := by
      intro ks
      induction ks with
      | nil => intro _ k hk; cases hk
      | cons a l ih =>
        intro h k hk
        simp only [noNs, Bool.and_eq_true] at h
        rcases List.mem_cons.mp hk with rfl | hk
        · exact h.1
        · exact ih h.2 k hk
    exact go ks hn
  have p : l.Perm (dedup ks) := perm_of nd (nodup_dedup ks) fun x => (m x).trans (mem_dedup x ks).symm
  refine List.Perm.eq_of_pairwise (le := fun a b : NestedKey => leK a b = true) (fun a b ha hb h k => ?_) (List.pairwise_mergeSort leK_trans leK_total l) (List.pairwise_mergeSort leK_trans leK_total (dedup ks)) ((List.mergeSort_perm l _).trans (p.trans (List.mergeSort_perm _ _).symm))
  have ha' : a ∈ ks := (m a).1 ((List.mergeSort_perm l _).mem_iff.mp ha)
  have hb' : b ∈ ks := (mem_dedup b ks).1 ((List.mergeSort_perm _ _).mem_iff.mp hb)
  unfold leK at h k
  simp only [PySem.W.dataLe_eq, cond_false, Bool.not_eq_true', PySem.W.dataLt] at h k
  have e := PyProof.Rows.lex_total (O := PyProof.Rows.itemOrd) _ _ k h
  exact (toks_inj a b [] [] (hnm a ha') (hnm b hb') (hl a ha' b hb') (by rw [List.append_nil, List.append_nil]; exact e)).1
def gSK (ks : List NestedKey) : Rs Unit × Rv := if likeAll (dKs ks) = true ∧ noNs ks = true then (.ok () [], .own (.lst (dKs (srtN ks)))) else (.stuck, .d .none)
theorem okd_of_like {ks : List NestedKey} (h : likeAll (dKs ks) = true) {k : NestedKey} (hk : k ∈ ks) : okd (dK k) 60 = true := (like_inv h).2.2 _ (by rw [dKs_map]; exact List.mem_map.mpr ⟨k, hk, rfl⟩)
section
variable {X : Cx} {cl : String → Addr} {E : XK} {e : Expr} {m : M Rv} {p p2 q pos : Pos}
theorem sort_z {k : Nat} (hr : Room k X.A) (hc : X.calm = true) {pins : List (Addr × Obj)} {σ : L2.St} {Q : VK} {P B H1 : Hp} {env : Env} {fps : Nat → List Addr} {S : Addr} {ls : List Key} {z : List Int ⊕ List Str} {s1 : Shared} (I1 : Inv X pins σ H1 s1) (F1 : Fm X.K P B H1 σ env fps) (SM : SetM X.w s1.heap S ls) (hls : ∀ k, k ∈ ls ↔ k ∈ keysS z)
    (h1 : PostE X.K cl E P B σ (.ok (.own (.lst (sortedS z))) env) Q) : wpAny (model X.prog X.w) X.A (call (.builtin "sorted") [.ref S]) (EP X pins σ Q) X.xe s1 := by
  have hh := I1.ok.hd hc
  cases z with
  | inl ns =>
    refine sorted_setM (β := Int) PyData.int (fun k => match k with
      | .inl i => some i
      | .inr _ => none) (Sum.inl : Int → Key) (fun v i => ∃ t, v = .int i t) ?_ ?_ (fun b => rfl) (fun h v b ⟨t, e⟩ => ⟨[], by rw [e]; exact .int _ _, rfl⟩) (fun _ _ => rfl) (fun b => ⟨fun z => (nomatch z), fun xs z => nomatch z⟩) (fun b => by simp [PyData.depth]) SM hh (units_of hr) (fun k hk => ?_) fun s' pp out c bs kk g o hp hgt nd mb hb eo => ?_
    · intro k v hkv b hb
      rcases keyIs_shape hkv with ⟨i, t, rfl, rfl⟩ | ⟨x, t, rfl, rfl⟩
      · cases hb; exact ⟨t, rfl⟩
      · cases hb
    · intro k b hb
      cases k with
      | inl i => cases hb; rfl
      | inr x => cases hb
    · have := (hls k).1 hk
      obtain ⟨i, _, rfl⟩ := List.mem_map.mp this
      exact ⟨i, rfl⟩
    · have em : ∀ b, b ∈ bs ↔ b ∈ ns := fun b => by
        rw [mb b, hls]
        constructor
        · intro h
          obtain ⟨i, h1, h2⟩ := List.mem_map.mp h
          cases h2; exact h1
        · exact fun h => List.mem_map.mpr ⟨b, h, rfl⟩
      have eq0 : bs.mergeSort (PySem.W.dataLe false PyData.int) = sortI ns := by
        rw [show PySem.W.dataLe false PyData.int = fun a b => decide (a ≤ b) from PySem.W.dataLe_int fun b => b]
        exact sortI_eq nd em
      rw [eq0] at eo
      obtain ⟨v1, v2⟩ := sorted_vals (K := X.K) (B := B) (g := V.int) (enc := PyData.int) (fun v b ⟨t, e⟩ => ⟨t, e⟩) (fun b => .int b) eo
      refine new_list I1 F1 kk g o hp hgt v1 v2 ?_ h1
      have l2 : (sortI ns).length = bs.length := by rw [← eq0]; exact (List.mergeSort_perm _ _).length_eq
      have : scanBound ≤ sizeLine := by decide
      rw [List.length_map]; omega
  | inr xs =>
    refine sorted_setM (β := Str) PyData.str (fun k => match k with
      | .inr i => some i
      | .inl _ => none) (Sum.inr : Str → Key) (fun v i => ∃ t, v = .str i t) ?_ ?_ (fun b => rfl) (fun h v b ⟨t, e⟩ => ⟨[], by rw [e]; exact .str _ _, rfl⟩) (fun _ _ => rfl) (fun b => ⟨fun z => (nomatch z), fun xs z => nomatch z⟩) (fun b => by simp [PyData.depth]) SM hh (units_of hr) (fun k hk => ?_) fun s' pp out c bs kk g o hp hgt nd mb hb eo => ?_
    · intro k v hkv b hb
      rcases keyIs_shape hkv with ⟨i, t, rfl, rfl⟩ | ⟨x, t, rfl, rfl⟩
      · cases hb
      · cases hb; exact ⟨t, rfl⟩
    · intro k b hb
      cases k with
      | inr i => cases hb; rfl
      | inl x => cases hb
    · have := (hls k).1 hk
      obtain ⟨i, _, rfl⟩ := List.mem_map.mp this
      exact ⟨i, rfl⟩
    · have em : ∀ b, b ∈ bs ↔ b ∈ xs := fun b => by
        rw [mb b, hls]
        constructor
        · intro h
          obtain ⟨i, h1, h2⟩ := List.mem_map.mp h
          cases h2; exact h1
        · exact fun h => List.mem_map.mpr ⟨b, h, rfl⟩
      have eq0 : bs.mergeSort (PySem.W.dataLe false PyData.str) = sortS xs := by
        rw [show PySem.W.dataLe false PyData.str = fun a b : Str => decide (a.cps.toList ≤ b.cps.toList) from PySem.W.dataLe_str fun b => b]
        exact sortS_eq nd em
      rw [eq0] at eo
      obtain ⟨v1, v2⟩ := sorted_vals (K := X.K) (B := B) (g := V.str) (enc := PyData.str) (fun v b ⟨t, e⟩ => ⟨t, e⟩) (fun b => .str b) eo
      refine new_list I1 F1 kk g o hp hgt v1 v2 ?_ h1
      have l2 : (sortS xs).length = bs.length := by rw [← eq0]; exact (List.mergeSort_perm _ _).length_eq
      have : scanBound ≤ sizeLine := by decide
      rw [List.length_map]; omega
theorem de_sortSetA {k : Nat} (hr : Room k X.A) (hc : X.calm = true) (hg : Gl X "sorted") (hm : X.mg "sorted" = none) (hg2 : Gl X "set") (hm2 : X.mg "set" = none) (ha : DE X cl E e m) (na : starEach [e] X.env = (false, eval e X.env) :: starEach [] X.env := by rfl) :
    DE X cl E (.Call (.Name "sorted" p) [.Call (.Name "set" p2) [e] [] q] [] pos) (mSetA (fun z => .own (.lst (sortedS z))) gSK m) := by
  refine ⟨fun pins s σ H Q I h => ?_⟩
  refine PyProof.Rows.Call_ (ld_blt I hg hm PyProof.Rows.boot_sorted ?_)
  refine PyProof.Rows.callWith_builtin1 (PyProof.Rows.args_cons (thn (set_thenA (cont := fun v => call (.builtin "sorted") [v]) (units_of hr) hg2 hm2 ha I h na hc (fun P B H1 env fps S ls z s1 I1 F1 SM hls h1 => ?_) fun P B H1 env fps S L es ep t ks s1 e' r I1 F1 SN m1 m2 rd eg h1 => ?_) fun v s1 h1 => PyProof.Rows.args_nil h1) rfl) rfl rfl
  · exact sort_z hr hc I1 F1 SM hls h1
  · unfold gSK at eg
    split at eg
    case isFalse => cases eg
    rename_i hlk
    cases eg
    obtain ⟨hl, hn⟩ := hlk
    obtain ⟨lk1, lk2, lk3⟩ := like_inv hl
    simp only [List.map_id'] at lk1 lk2
    have mem : ∀ {k : NestedKey}, k ∈ ks → dK k ∈ dKs ks := fun hk => by rw [dKs_map]; exact List.mem_map.mpr ⟨_, hk, rfl⟩
    have hal : ∀ a ∈ ks, ∀ b ∈ ks, PySem.W.alike (dK a) (dK b) = true := fun a ha b hb => lk1 _ (mem ha) _ (mem hb)
    obtain ⟨o, ho, hex, hd⟩ := SN.ob
    have hfew := SN.few
    have hsz := SN.sz
    refine Calls.call_function_entry PyProof.Rows.kind_sorted PyProof.Rows.plain_sorted PyProof.Rows.entry_sorted (PyProof.Rows.args_sorted1 _) ?_
    unfold Builtin.«sorted»
    refine wpAny_bind (m := checkCount "sorted" 1 1 _) (wpAny_pure ?_)
    refine wpAny_bind (collect_set (A := X.A.in1) (I1.ok.hd hc) ⟨o, ho, hex.1, hd⟩ SN.fit (by unfold scanBound; omega) SN.tab.ris SN.led fun s2 vs k1 hz g1 o1 pm => ?_)
    have hes : es.toList.map (·.2) = L.map fun p => Value.ref p.1 := by
      rw [SN.ent, List.map_map]
      rfl
    rw [hes] at pm
    obtain ⟨L1, pL, rfl⟩ := perm_lift pm.symm L rfl
    have rdL : ∀ p ∈ L1, RD X.K B (dK p.2) (.ref p.1) := fun p hp => rd p (pL.mem_iff.mp hp)
    have inK : ∀ p ∈ L1, p.2 ∈ ks := fun p hp => m1 p (pL.mem_iff.mp hp)
    have hvl : L1.length < 64 := by rw [pL.length_eq]; exact hfew
    refine wpAny_bind (wpAny_newList ?_ (by rw [List.length_map, sizeLine_eq]; omega))
    have hoL : (s2.heap.push (PyProof.Rows.seqObj "list" (L1.map fun p => Value.ref p.1).toArray 0)).get? s2.heap.objs.size = some (PyProof.Rows.seqObj "list" (L1.map fun p => Value.ref p.1).toArray 0) := Heap.get?_push_size _ rfl
    have each : ∀ {R : Value → AK → Prop} (l : List AK), (∀ p ∈ l, R (.ref p.1) p) → PySem.W.EachIs R (l.map fun p => Value.ref p.1) l := by
      intro R l
      induction l with
      | nil => intro _; exact .nil
      | cons a l ih => intro h; exact .cons (h a (by simp)) (ih fun p hp => h p (by simp [hp]))
    refine wpAny_bind (wpAny_holding (PySem.W.list_sort_data (s := { s2 with heap := s2.heap.push (PyProof.Rows.seqObj "list" (L1.map fun p => Value.ref p.1).toArray 0) }) (enc := fun p : AK => dK p.2) (R := fun v (p : AK) => v = .ref p.1 ∧ p ∈ L1) hoL (each L1 fun p hp => ⟨rfl, hp⟩) (each L1 fun p hp => ?_) ?_ ?_ (by rw [sizeLine_eq]; omega) (fun p hp => ?_) fun out hol eo => ?_))
    · obtain ⟨as, rr⟩ := Dp.reads I1 (dK p.2) (.ref p.1) (.ref p.1) (RD.dp _ _ (okd_noD _ _ (okd_of_like hl (inK p hp))) (RD.mono F1.sub _ _ (rdL p hp))) rfl
      have e0 := reads_flat _ _ _ rr (flat_dK _)
      subst e0
      exact ⟨[], PyProof.Rows.Reads.keeps (fun b o q => Heap.get?_push_of_some _ (k1 b o q)) rr, by simp⟩
    · intro d hd1 d' hd2
      obtain ⟨b, hb, rfl⟩ := List.mem_map.mp hd1
      obtain ⟨b', hb', rfl⟩ := List.mem_map.mp hd2
      exact hal _ (inK b hb) _ (inK b' hb')
    · rcases lk2 with z | z
      · refine .inl fun d hd' => ?_
        obtain ⟨b, hb, rfl⟩ := List.mem_map.mp hd'
        exact z _ (mem (inK b hb))
      · refine .inr fun d hd' => ?_
        obtain ⟨b, hb, rfl⟩ := List.mem_map.mp hd'
        exact z _ (mem (inK b hb))
    · have := okd_dep _ 60 (okd_of_like hl (inK p hp))
      have := units_of hr
      show X.A.units + 1 + 1 + (dK p.2).depth < cLine
      omega
    · obtain ⟨c, hcc⟩ := PyProof.Rows.sortedHeap_at (vs := L1.map fun p => Value.ref p.1) (out := out.toArray) hoL
      have eo2 : ∀ {vs : List Value} {l : List AK}, PySem.W.EachIs (fun v (p : AK) => v = .ref p.1 ∧ p ∈ L1) vs l → Vals (l.map fun p => V.ref p.1) vs ∧ RDs X.K B (dKs (l.map (·.2))) (l.map fun p => V.ref p.1) := by
        intro vs l h
        induction h with
        | nil => exact ⟨.nil, .nil⟩
        | cons h _ ih => exact ⟨.cons h.1 ih.1, .cons (rdL _ h.2) ih.2⟩
      obtain ⟨v1, v2⟩ := eo2 eo
      have msort : (L1.mergeSort (PySem.W.dataLe false fun p : AK => dK p.2)).map (·.2) = (L1.map (·.2)).mergeSort leK := by
        rw [List.map_mergeSort]
        intro a _ b _
        rfl
      have nd1 : (L1.map (·.2)).Nodup := (pL.map (·.2)).nodup_iff.mpr SN.nd
      have fin : (L1.map (·.2)).mergeSort leK = srtN ks := srtN_eq nd1 (fun x => ⟨fun hx => by
        obtain ⟨p, hp, rfl⟩ := List.mem_map.mp hx
        exact inK p hp, fun hx => (pL.map (·.2)).mem_iff.mpr (m2 x hx)⟩) hn hal
      rw [msort, fin] at v2
      have hlen : ((L1.mergeSort (PySem.W.dataLe false fun p : AK => dK p.2)).map fun p => V.ref p.1).length ≤ sizeLine := by
        rw [List.length_map, (List.mergeSort_perm _ _).length_eq, sizeLine_eq]
        omega
      refine wpAny_pure ⟨_, rfl, new_list (s' := { s2 with heap := PyProof.Rows.sortedHeap (s2.heap.push (PyProof.Rows.seqObj "list" (L1.map fun p => Value.ref p.1).toArray 0)) s2.heap.objs.size (L1.map fun p => Value.ref p.1) out.toArray }) I1 F1 (fun b u e => ?_) g1 o1 hz hcc v1 v2 hlen h1⟩
      have q := k1 b u e
      have hlt := Heap.lt_size q
      show (PyProof.Rows.sortedHeap (s2.heap.push (PyProof.Rows.seqObj "list" (L1.map fun p => Value.ref p.1).toArray 0)) s2.heap.objs.size (L1.map fun p => Value.ref p.1) out.toArray).get? b = some u
      rw [PyProof.Rows.sortedHeap_old (Nat.ne_of_lt hlt) (by rw [Heap.size_push]; exact Nat.lt_succ_of_lt hlt)]
      exact Heap.get?_push_of_some _ q
end
end Mi

set_option Elab.async false
set_option linter.all false
set_option maxRecDepth 20000
namespace Mi
open PySem PySem.Spec L2
/-! ### the calculus: set(e) of nested keys -/
def setQ (f : List Int ⊕ List Str → Rv) (g : List NestedKey → Rs Unit × Rv) (ds : List D) (Q : Rv → Prop) : Prop := match setOf ds with
  | some z => Q (f z)
  | none => match rowsK ds with
    | some ks => match g ks with
      | (.ok _ _, r) => Q r
      | _ => False
    | none => False
section
variable {env : Env} {Q : Rv → Env → Prop}
theorem ok_setA {f : List Int ⊕ List Str → Rv} {g : List NestedKey → Rs Unit × Rv} {m : M Rv} : Ok (mSetA f g m env) Q ↔ Ok (m env) fun r e => Opt ((res e r.frz).bind seqD) fun ds => setQ f g ds fun r => Q r e := by
  unfold mSetA
  rw [ok_bnd, ok_vm]
  refine Iff.of_eq (congrArg _ (funext fun r => funext fun e => propext ?_))
  show Ok (match (res e r.frz).bind seqD with
    | some ds => _
    | none => _) Q ↔ _
  cases (res e r.frz).bind seqD with
  | none => exact Iff.rfl
  | some ds =>
    unfold setQ
    simp only [opt_some]
    cases setOf ds with
    | some z => exact Iff.rfl
    | none =>
      cases rowsK ds with
      | none => exact Iff.rfl
      | some ks =>
        show Ok (match g ks with
          | (.ok _ _, r) => Rs.ok r e
          | _ => .stuck) Q ↔ (match g ks with
          | (.ok _ _, r) => Q r e
          | _ => False)
        rcases g ks with ⟨_ | _ | _, r⟩ <;> exact Iff.rfl
end
end Mi

set_option Elab.async false
set_option maxRecDepth 20000
set_option linter.all false
namespace Mi
open PySem PySem.Spec L2

/-! ### operators at values -/
section
variable {i j : Int} {b c : Bool} {z y : Str} {ds es : List D} {kv : List (PyData × PyData)} {Q : D → Prop}
theorem opt_vB {Q : Out → Prop} {b : Bool} : Opt (vB b) Q ↔ Q (.val (.bool b)) := Iff.rfl
theorem opt_vI {Q : Out → Prop} {b : Int} : Opt (vI b) Q ↔ Q (.val (.int b)) := Iff.rfl
theorem gLt_i : gLt (.int i) (.int j) = vB (decide (i < j)) := rfl
theorem gLe_i : gLe (.int i) (.int j) = vB (decide (i ≤ j)) := rfl
theorem gGt_i : gGt (.int i) (.int j) = vB (decide (j < i)) := rfl
theorem gGe_i : gGe (.int i) (.int j) = vB (decide (j ≤ i)) := rfl
theorem gAdd_i : gAdd (.int i) (.int j) = vI (i + j) := rfl
theorem gAdd_t : gAdd (.tuple ds) (.tuple es) = if ds.length + es.length ≤ sizeLine then some (.tup (ds ++ es)) else none := rfl
theorem gAdd_l : gAdd (.list ds) (.list es) = if ds.length + es.length ≤ sizeLine then some (.lst (ds ++ es)) else none := rfl
theorem gAdd_s : gAdd (.str z) (.str y) = if z.length + y.length ≤ sizeLine then some (.val (.str (z ++ y))) else none := rfl
theorem gSub_i : gSub (.int i) (.int j) = vI (i - j) := rfl
theorem gMul_i : gMulI (.int i) (.int j) = if -(2 ^ 64) < i ∧ i < 2 ^ 64 then vI (i * j) else none := rfl
theorem gFdiv_i : gFdiv (.int i) (.int j) = if 0 < j ∧ j < 1073741824 then vI (i / j) else none := rfl
theorem gMod_i : gMod (.int i) (.int j) = if 0 < j then vI (i % j) else none := rfl
theorem gPow_i : gPow (.int i) (.int j) = if 0 ≤ j ∧ j ≤ 1000000 ∧ i.natAbs < 2 ^ 64 then vI (i ^ j.toNat) else none := rfl
theorem gIx_l : gIx (.list ds) (.int i) = (atI ds i).map .val := rfl
theorem gIx_t : gIx (.tuple ds) (.int i) = (atI ds i).map .val := rfl
theorem gIx_s : gIx (.str z) (.int i) = if z.length ≤ sizeLine then (atI z.cps.toList i).map fun c => .val (.str ⟨#[c]⟩) else none := rfl
theorem gLen_l : gLen [.list ds] = vI ds.length := rfl
theorem gLen_t : gLen [.tuple ds] = vI ds.length := rfl
theorem gLen_s : gLen [.str z] = if z.length ≤ sizeLine then vI z.length else none := rfl
theorem gTuple_l : gTuple [.list ds] = some (.tup ds) := rfl
theorem gTuple_t : gTuple [.tuple ds] = some (.tup ds) := rfl
theorem gList_l : gList [.list ds] = some (.lst ds) := rfl
theorem gList_t : gList [.tuple ds] = some (.lst ds) := rfl
theorem gInt_i : gInt [.int i] = vI i := rfl
theorem gInt_b : gInt [.bool b] = vI (if b = true then 1 else 0) := rfl
theorem gMax2_i : gMax2 [.int i, .int j] = vI (if j > i then j else i) := rfl
theorem gMin2_i : gMin2 [.int i, .int j] = vI (if j < i then j else i) := rfl
theorem gCut_l {lo hi : Option Int} : gCut (.list ds) lo hi = some (.lst (cutL ds lo hi)) := rfl
theorem gCut_t {lo hi : Option Int} : gCut (.tuple ds) lo hi = some (.tup (cutL ds lo hi)) := rfl
theorem gCut_s {lo hi : Option Int} : gCut (.str z) lo hi = if z.length ≤ sizeLine then some (.val (.str (cutS z lo hi))) else none := rfl
theorem gAll_l : gAll [.list ds] = (boolsD ds).bind fun ns => vB (ns.all id) := rfl
theorem gAny_l : gAny [.list ds] = (boolsD ds).bind fun ns => vB (ns.any id) := rfl
theorem gSum_l : gSum [.list ds] = (intsD ds).bind fun ns => vI ns.sum := rfl
theorem gEq_d {x y : D} : gEq x y = if okd x 60 = true ∧ okd y 60 = true then vB (PyData.eqv x y) else none := rfl
theorem gNe_d {x y : D} : gNe x y = if okd x 60 = true ∧ okd y 60 = true then vB (!PyData.eqv x y) else none := rfl
theorem gEq_i : gEq (.int i) (.int j) = vB (decide (i = j)) := rfl
theorem gNe_i : gNe (.int i) (.int j) = vB (decide (i ≠ j)) := by
  show vB (!(decide (i = j))) = _
  by_cases h : i = j <;> simp [h]
theorem gEq_b : gEq (.bool b) (.bool c) = vB (b == c) := rfl
theorem gNe_b : gNe (.bool b) (.bool c) = vB (b != c) := rfl
theorem gApp_1 {x : D} : gApp ds [x] = if ds.length < sizeLine then some (.none, ds ++ [x]) else none := rfl
theorem gPopI_1 : gPopI ds [.int i] = if -(2 ^ 63) ≤ i ∧ i < 2 ^ 63 then (match seqIndex? i ds.length with
    | some k => ds[k]?.map fun d => (d, ds.eraseIdx k)
    | none => none) else none := rfl
theorem gExt_l : gExt ds [.list es] = if ds.length + es.length ≤ sizeLine then some (.none, ds ++ es) else none := rfl
theorem gExt_t : gExt ds [.tuple es] = if ds.length + es.length ≤ sizeLine then some (.none, ds ++ es) else none := rfl
theorem gIns_0 {x : D} : gIns ds [.int i, x] = if ds.length < sizeLine ∧ 0 ≤ i ∧ i < 2 ^ 63 then some (.none, ds.take i.toNat ++ [x] ++ ds.drop i.toNat) else none := rfl
theorem gClr_0 : gClr ds [] = some (.none, []) := rfl
theorem gSorted_l : gSorted [.list ds] = if likeAll ds = true ∧ ds.length ≤ sizeLine then some (.lst (ds.mergeSort (PySem.W.dataLe false fun d => d))) else none := rfl
theorem asgT_nm {i : Nat} {d : D} {env : Env} : asgT (.nm i) d env = some (env.set i (some (.dat d))) := by simp only [asgT]
theorem asgT_tp {ts : List Tg} {ds : List D} {env : Env} : asgT (.tp ts) (.tuple ds) env = asgTs ts ds env := by simp only [asgT]
theorem asgTs_nil {env : Env} : asgTs [] [] env = some env := by simp only [asgTs]
theorem asgTs_cons {t : Tg} {ts : List Tg} {d : D} {ds : List D} {env : Env} : asgTs (t :: ts) (d :: ds) env = (asgT t d env).bind fun e => asgTs ts ds e := by
  simp only [asgTs]
  cases asgT t d env <;> rfl
theorem gStr_i : gStr [.int i] = if i.natAbs.log2 < 1920 then some (.val (.str (toString i))) else none := rfl
theorem seqD_l : seqD (.list ds) = some ds := rfl
theorem seqD_t : seqD (.tuple ds) = some ds := rfl

theorem isi_bool_bool : isiD "bool" (.bool b) = true := by rfl
theorem isi_bool_int : isiD "bool" (.int i) = false := by simp [isiD, tyD]
theorem isi_bool_str : isiD "bool" (.str z) = false := by simp [isiD, tyD]
theorem isi_bool_list : isiD "bool" (.list ds) = false := by simp [isiD, tyD]
theorem isi_bool_tuple : isiD "bool" (.tuple ds) = false := by simp [isiD, tyD]
theorem isi_bool_none : isiD "bool" (.none) = false := by simp [isiD, tyD]
theorem isi_bool_dict : isiD "bool" (.dict kv) = false := by simp [isiD, tyD]
theorem isi_int_bool : isiD "int" (.bool b) = true := by rfl
theorem isi_int_int : isiD "int" (.int i) = true := by rfl
theorem isi_int_str : isiD "int" (.str z) = false := by simp [isiD, tyD]
theorem isi_int_list : isiD "int" (.list ds) = false := by simp [isiD, tyD]
theorem isi_int_tuple : isiD "int" (.tuple ds) = false := by simp [isiD, tyD]
theorem isi_int_none : isiD "int" (.none) = false := by simp [isiD, tyD]
theorem isi_int_dict : isiD "int" (.dict kv) = false := by simp [isiD, tyD]
theorem isi_str_bool : isiD "str" (.bool b) = false := by simp [isiD, tyD]
theorem isi_str_int : isiD "str" (.int i) = false := by simp [isiD, tyD]
theorem isi_str_str : isiD "str" (.str z) = true := by rfl
theorem isi_str_list : isiD "str" (.list ds) = false := by simp [isiD, tyD]
theorem isi_str_tuple : isiD "str" (.tuple ds) = false := by simp [isiD, tyD]
theorem isi_str_none : isiD "str" (.none) = false := by simp [isiD, tyD]
theorem isi_str_dict : isiD "str" (.dict kv) = false := by simp [isiD, tyD]
theorem isi_list_bool : isiD "list" (.bool b) = false := by simp [isiD, tyD]
theorem isi_list_int : isiD "list" (.int i) = false := by simp [isiD, tyD]
theorem isi_list_str : isiD "list" (.str z) = false := by simp [isiD, tyD]
theorem isi_list_list : isiD "list" (.list ds) = true := by rfl
theorem isi_list_tuple : isiD "list" (.tuple ds) = false := by simp [isiD, tyD]
theorem isi_list_none : isiD "list" (.none) = false := by simp [isiD, tyD]
theorem isi_list_dict : isiD "list" (.dict kv) = false := by simp [isiD, tyD]
theorem isi_tuple_bool : isiD "tuple" (.bool b) = false := by simp [isiD, tyD]
theorem isi_tuple_int : isiD "tuple" (.int i) = false := by simp [isiD, tyD]
theorem isi_tuple_str : isiD "tuple" (.str z) = false := by simp [isiD, tyD]
theorem isi_tuple_list : isiD "tuple" (.list ds) = false := by simp [isiD, tyD]
theorem isi_tuple_tuple : isiD "tuple" (.tuple ds) = true := by rfl
theorem isi_tuple_none : isiD "tuple" (.none) = false := by simp [isiD, tyD]
theorem isi_tuple_dict : isiD "tuple" (.dict kv) = false := by simp [isiD, tyD]
theorem isi_dict_bool : isiD "dict" (.bool b) = false := by simp [isiD, tyD]
theorem isi_dict_int : isiD "dict" (.int i) = false := by simp [isiD, tyD]
theorem isi_dict_str : isiD "dict" (.str z) = false := by simp [isiD, tyD]
theorem isi_dict_list : isiD "dict" (.list ds) = false := by simp [isiD, tyD]
theorem isi_dict_tuple : isiD "dict" (.tuple ds) = false := by simp [isiD, tyD]
theorem isi_dict_none : isiD "dict" (.none) = false := by simp [isiD, tyD]
theorem isi_dict_dict : isiD "dict" (.dict kv) = true := by rfl
theorem atI_0 {α : Type} {xs : List α} : atI xs 0 = xs[0]? := by
  cases xs <;> simp [atI, ixN]
theorem atI_lt {α : Type} {xs : List α} {i : Int} (h0 : 0 ≤ i) (h1 : i < xs.length) : atI xs i = some (xs[i.toNat]'(by omega)) := by
  unfold atI ixN
  rw [if_pos h0, if_pos h1]
  simp only [Option.bind_some]
  exact List.getElem?_eq_getElem _
theorem atI_neg {α : Type} {xs : List α} {i : Int} (h0 : i < 0) (h1 : -(xs.length : Int) ≤ i) : atI xs i = some (xs[(i + xs.length).toNat]'(by omega)) := by
  unfold atI ixN
  rw [if_neg (by omega), if_pos h1]
  simp only [Option.bind_some]
  exact List.getElem?_eq_getElem _
theorem opt_at {α : Type} {xs : List α} {i : Int} {Q : α → Prop} (h0 : 0 ≤ i) (h1 : i < xs.length) (h : ∀ x ∈ xs, Q x) : Opt (atI xs i) Q := by
  rw [atI_lt h0 h1]
  exact h _ (List.getElem_mem _)
end

end Mi

set_option Elab.async false
set_option linter.all false
set_option maxRecDepth 100000
set_option maxHeartbeats 0
namespace Mi
open PySem PySem.Spec L2
def fuelN : Nat := 1073741824
abbrev top (i : Nat) : Stmt := PySem.Challenge.pw_tastehouse_k01_houses.main.body.getD i (.Pass ⟨0, 0, 0, 0⟩)
structure Ev (K : PySem.W.Frag) (mg : Str → Option Value) (base : Heap) : Prop where
  b_all : mg "all" = none
  b_bool : mg "bool" = none
  b_enumerate : mg "enumerate" = none
  b_int : mg "int" = none
  b_isinstance : mg "isinstance" = none
  b_len : mg "len" = none
  b_list : mg "list" = none
  b_max : mg "max" = none
  b_min : mg "min" = none
  b_range : mg "range" = none
  b_set : mg "set" = none
  b_sorted : mg "sorted" = none
  b_str : mg "str" = none
  b_tuple : mg "tuple" = none
  b_zip : mg "zip" = none
  c_KEEPS : ∃ t, mg "KEEPS" = some (.int 4 t)
  c_MOST_EVENINGS : ∃ t, mg "MOST_EVENINGS" = some (.int 3 t)
  c_MOST_NEEDS : ∃ t, mg "MOST_NEEDS" = some (.int 3 t)
  c_MOST_RECIPES : ∃ t, mg "MOST_RECIPES" = some (.int 8 t)
  c_MOST_SIGNS : ∃ t, mg "MOST_SIGNS" = some (.int 8 t)
  c_MOST_SORTS : ∃ t, mg "MOST_SORTS" = some (.int 3 t)
  c_MOST_TABLES : ∃ t, mg "MOST_TABLES" = some (.int 3 t)
  c_MOST_TASTINGS : ∃ t, mg "MOST_TASTINGS" = some (.int 6 t)
  c_MOST_WORDS : ∃ t, mg "MOST_WORDS" = some (.int 4 t)
  c_NAMES : ∃ t, mg "NAMES" = some (.int 8 t)
  d_is_whole : DefAt K mg "is_whole" ["thing"] (top 11)
  d_is_below : DefAt K mg "is_below" ["thing", "many"] (top 12)
  d_is_from_one : DefAt K mg "is_from_one" ["thing", "most"] (top 13)
  d_is_word : DefAt K mg "is_word" ["thing"] (top 14)
  d_is_spot_of : DefAt K mg "is_spot_of" ["tables", "thing"] (top 15)
  d_are_needs : DefAt K mg "are_needs" ["thing"] (top 16)
  d_is_recipe : DefAt K mg "is_recipe" ["tables", "thing"] (top 17)
  d_are_words : DefAt K mg "are_words" ["thing"] (top 18)
  d_is_tasting : DefAt K mg "is_tasting" ["tables", "thing"] (top 19)
  d_is_house : DefAt K mg "is_house" ["thing"] (top 20)
  d_law_cell_at : DefAt K mg "_law_cell_at" ["_law_script", "_law_k"] (top 22)
  d_law_pen : DefAt K mg "_law_pen" ["_law_cell"] (top 23)
  d_law_draw : DefAt K mg "_law_draw" ["_law_pen_here", "_law_bound"] (top 24)
  d_law_spots : DefAt K mg "_law_spots" ["_law_tables"] (top 25)
  d_law_needs : DefAt K mg "_law_needs" ["_law_pen_here", "_law_names"] (top 26)
  d_law_words : DefAt K mg "_law_words" ["_law_pen_here"] (top 27)
  d_law_raw : DefAt K mg "_law_raw" ["_law_pen_here"] (top 28)
  d_law_thing : DefAt K mg "_law_thing" ["_law_pen_here", "_law_deep"] (top 29)
  d_law_spoilt : DefAt K mg "_law_spoilt" ["_law_pen_here", "_law_thing_here"] (top 30)
  d_law_is_number : DefAt K mg "_law_is_number" ["_law_thing_here", "_law_low", "_law_high"] (top 31)
  d_law_are_names : DefAt K mg "_law_are_names" ["_law_thing_here"] (top 32)
  d_law_is_place : DefAt K mg "_law_is_place" ["_law_tables", "_law_thing_here"] (top 33)
  d_law_is_named : DefAt K mg "_law_is_named" ["_law_thing_here"] (top 34)
  d_law_is_kind : DefAt K mg "_law_is_kind" ["_law_tables", "_law_thing_here"] (top 35)
  d_law_is_tasted : DefAt K mg "_law_is_tasted" ["_law_tables", "_law_thing_here"] (top 36)
  d_law_is_whole_house : DefAt K mg "_law_is_whole_house" ["_law_thing_here"] (top 37)
  d_law_bounds : DefAt K mg "_law_bounds" [] (top 38)
  d_law : DefAt K mg "law" ["_law_script"] (top 39)
section
variable {P : Program} {w : World} {K : PySem.W.Frag} {mg : Str → Option Value} {base : Heap} {cl : String → Addr}
theorem sc_is_whole : FnScope ["thing"] ["thing"] (defScope (top 11)) := ⟨rfl, rfl, rfl, by decide +kernel, rfl, by decide +kernel, by decide +kernel⟩
def m_is_whole : M Fl :=
  (mRet [] (mAndV (mIsi "int" (mVar 0)) (mAndV (mNotV (mIsi "bool" (mVar 0))) (mBin gGe (mVar 0) (mC (.int 0))))))
def f_is_whole : M O := runF 1 m_is_whole
theorem b_is_whole (ev : Ev K mg base) : Bd P w K mg base cl 0 "is_whole" ["thing"] [] (top 11) m_is_whole := fun f cdv A outer s H E hr =>
  (dss_one (ds_ret (de_and (de_isi (T := "int") (by decide) rfl ev.b_isinstance rfl ev.b_int PyProof.Rows.boot_int (de_var (i := 0) rfl (.inl rfl))) (de_and (de_not (de_isi (T := "bool") (by decide) rfl ev.b_isinstance rfl ev.b_bool PyProof.Rows.boot_bool (de_var (i := 0) rfl (.inl rfl)))) (de_one (de_cmp (de_var (i := 0) rfl (.inl rfl)) de_int (od_ge)))))))
theorem h_is_whole (ev : Ev K mg base) : Has P w K mg base cl 1 "is_whole" ["thing"] 1 [] f_is_whole := has_by (k := 0) ev.d_is_whole sc_is_whole rfl (by decide) (b_is_whole ev)
theorem sc_is_below : FnScope ["thing", "many"] ["thing", "many"] (defScope (top 12)) := ⟨rfl, rfl, rfl, by decide +kernel, rfl, by decide +kernel, by decide +kernel⟩
def m_is_below : M Fl :=
  (mRet [] (mAndV (mCall [] f_is_whole (mCons (mVar 0) mNil)) (mBin gLt (mVar 0) (mVar 1))))
def f_is_below : M O := runF 2 m_is_below
theorem b_is_below (ev : Ev K mg base) : Bd P w K mg base cl 1 "is_below" ["thing", "many"] [] (top 12) m_is_below := fun f cdv A outer s H E hr =>
  (dss_one (ds_ret (de_and (de_def (h_is_whole ev) hr (by omega) rfl pass_fn (da_cons (de_var (i := 0) rfl (.inl rfl)) da_nil) (len_cons len_nil)) (de_one (de_cmp (de_var (i := 0) rfl (.inl rfl)) (de_var (i := 1) rfl (.inl rfl)) (od_lt (units_of hr)))))))
theorem h_is_below (ev : Ev K mg base) : Has P w K mg base cl 2 "is_below" ["thing", "many"] 2 [] f_is_below := has_by (k := 1) ev.d_is_below sc_is_below rfl (by decide) (b_is_below ev)
theorem sc_is_from_one : FnScope ["thing", "most"] ["thing", "most"] (defScope (top 13)) := ⟨rfl, rfl, rfl, by decide +kernel, rfl, by decide +kernel, by decide +kernel⟩
def m_is_from_one : M Fl :=
  (mRet [] (mAndV (mCall [] f_is_below (mCons (mVar 0) (mCons (mBin gAdd (mVar 1) (mC (.int 1))) mNil))) (mBin gGt (mVar 0) (mC (.int 0)))))
def f_is_from_one : M O := runF 2 m_is_from_one
theorem b_is_from_one (ev : Ev K mg base) : Bd P w K mg base cl 2 "is_from_one" ["thing", "most"] [] (top 13) m_is_from_one := fun f cdv A outer s H E hr =>
  (dss_one (ds_ret (de_and (de_def (h_is_below ev) hr (by omega) rfl pass_fn (da_cons (de_var (i := 0) rfl (.inl rfl)) (da_cons (de_bin (de_var (i := 1) rfl (.inl rfl)) de_int od_add) da_nil)) (len_cons (len_cons len_nil))) (de_one (de_cmp (de_var (i := 0) rfl (.inl rfl)) de_int (od_gt))))))
theorem h_is_from_one (ev : Ev K mg base) : Has P w K mg base cl 3 "is_from_one" ["thing", "most"] 2 [] f_is_from_one := has_by (k := 2) ev.d_is_from_one sc_is_from_one rfl (by decide) (b_is_from_one ev)
theorem sc_is_word : FnScope ["thing", "sign"] ["thing"] (defScope (top 14)) := ⟨rfl, rfl, rfl, by decide +kernel, rfl, by decide +kernel, by decide +kernel⟩
def m_is_word : M Fl :=
  (mRet [] (mAndV (mIsi "str" (mVar 0)) (mAndV (mChV (fun i j => decide (i < j)) (fun i j => decide (i ≤ j)) (mC (.int 0)) (mCB gLen (mCons (mVar 0) mNil)) (mC (.int 8))) (mCB gAll (mCons (mLc (mWk [0] (mVar 0)) (.nm 1) (ret true) (mChS (mC (.str "a")) (mVar 1) (mC (.str "z"))) [1]) mNil)))))
def f_is_word : M O := runF 2 m_is_word
theorem b_is_word (ev : Ev K mg base) : Bd P w K mg base cl 0 "is_word" ["thing", "sign"] [] (top 14) m_is_word := fun f cdv A outer s H E hr =>
  (dss_one (ds_ret (de_and (de_isi (T := "str") (by decide) rfl ev.b_isinstance rfl ev.b_str PyProof.Rows.boot_str (de_var (i := 0) rfl (.inl rfl))) (de_and (de_ch op_lt op_le de_int (de_len rfl ev.b_len (da_cons (de_var (i := 0) rfl (.inl rfl)) da_nil)) (de_globI rfl ev.c_MOST_SIGNS)) (de_one (de_all rfl rfl ev.b_all (da_cons (de_lc (own := [("sign", 1)]) rfl sc_is_word.nd (di_seq (js := [0]) (de_var (i := 0) rfl (.inl rfl))) (by kernel_rfl) (by decide) (fun _ _ _ _ _ => (dg_name (i := 1) sc_is_word.nd rfl (.inl rfl))) (fun _ _ _ _ _ => dts_nil) (fun _ _ _ _ _ => (de_chS de_str (de_var (i := 1) rfl (.inl rfl)) de_str))) da_nil)))))))
theorem h_is_word (ev : Ev K mg base) : Has P w K mg base cl 1 "is_word" ["thing"] 1 [] f_is_word := has_by (k := 0) ev.d_is_word sc_is_word rfl (by decide) (b_is_word ev)
theorem sc_is_spot_of : FnScope ["tables", "thing"] ["tables", "thing"] (defScope (top 15)) := ⟨rfl, rfl, rfl, by decide +kernel, rfl, by decide +kernel, by decide +kernel⟩
def m_is_spot_of : M Fl :=
  (mSeq (mIte (mOr (mNot (tst (mIsi "tuple" (mVar 1)))) (tst (mBin gGt (mCB gLen (mCons (mVar 1) mNil)) (mC (.int 2)))))
  (mRet [] (mC (.bool false)))
  (ret .nx))
  (mSeq (mIte (mAnd (tst (mBin gGt (mCB gLen (mCons (mVar 1) mNil)) (mC (.int 0)))) (mNot (tst (mCall [] f_is_below (mCons (mBin gIx (mVar 1) (mC (.int 0))) (mCons (mCB gLen (mCons (mVar 0) mNil)) mNil))))))
  (mRet [] (mC (.bool false)))
  (ret .nx))
  (mRet [] (mOrV (mBin gLt (mCB gLen (mCons (mVar 1) mNil)) (mC (.int 2))) (mCall [] f_is_below (mCons (mBin gIx (mVar 1) (mC (.int 1))) (mCons (mBin gIx (mVar 0) (mBin gIx (mVar 1) (mC (.int 0)))) mNil)))))))
def f_is_spot_of : M O := runF 2 m_is_spot_of
theorem b_is_spot_of (ev : Ev K mg base) : Bd P w K mg base cl 2 "is_spot_of" ["tables", "thing"] [] (top 15) m_is_spot_of := fun f cdv A outer s H E hr =>
  (dss_cons (ds_if (dt_w (dw_or (dt_not (dt_val (de_isi (T := "tuple") (by decide) rfl ev.b_isinstance rfl ev.b_tuple PyProof.Rows.boot_tuple (de_var (i := 1) rfl (.inl rfl))))) (dw_or1 (dt_cmp (de_len rfl ev.b_len (da_cons (de_var (i := 1) rfl (.inl rfl)) da_nil)) de_int (od_gt)))))
  (dss_one (ds_ret de_bl))
  dss_nil)
  (dss_cons (ds_if (dt_w (dw_and (dt_cmp (de_len rfl ev.b_len (da_cons (de_var (i := 1) rfl (.inl rfl)) da_nil)) de_int (od_gt)) (dw_and1 (dt_not (dt_val (de_def (h_is_below ev) hr (by omega) rfl pass_fn (da_cons (de_item (de_var (i := 1) rfl (.inl rfl)) de_int fun _ _ => rfl) (da_cons (de_len rfl ev.b_len (da_cons (de_var (i := 0) rfl (.inl rfl)) da_nil)) da_nil)) (len_cons (len_cons len_nil))))))))
  (dss_one (ds_ret de_bl))
  dss_nil)
  (dss_one (ds_ret (de_or (de_cmp (de_len rfl ev.b_len (da_cons (de_var (i := 1) rfl (.inl rfl)) da_nil)) de_int (od_lt (units_of hr))) (de_one (de_def (h_is_below ev) hr (by omega) rfl pass_fn (da_cons (de_item (de_var (i := 1) rfl (.inl rfl)) de_int fun _ _ => rfl) (da_cons (de_item (de_var (i := 0) rfl (.inl rfl)) (de_item (de_var (i := 1) rfl (.inl rfl)) de_int fun _ _ => rfl) fun _ _ => rfl) da_nil)) (len_cons (len_cons len_nil)))))))))
theorem h_is_spot_of (ev : Ev K mg base) : Has P w K mg base cl 3 "is_spot_of" ["tables", "thing"] 2 [] f_is_spot_of := has_by (k := 2) ev.d_is_spot_of sc_is_spot_of rfl (by decide) (b_is_spot_of ev)
theorem sc_are_needs : FnScope ["thing", "name"] ["thing"] (defScope (top 16)) := ⟨rfl, rfl, rfl, by decide +kernel, rfl, by decide +kernel, by decide +kernel⟩
def m_are_needs : M Fl :=
  (mSeq (mIte (mOr (mNot (tst (mIsi "tuple" (mVar 0)))) (tst (mBin gGt (mCB gLen (mCons (mVar 0) mNil)) (mC (.int 3)))))
  (mRet [] (mC (.bool false)))
  (ret .nx))
  (mRet [] (mAndV (mCB gAll (mCons (mLc (mWk [0] (mVar 0)) (.nm 1) (ret true) (mCall [] f_is_below (mCons (mVar 1) (mCons (mC (.int 8)) mNil))) [1]) mNil)) (mBin gEq (mSetE (fun z => .d (.int (lenS z))) (mVar 0)) (mCB gLen (mCons (mVar 0) mNil))))))
def f_are_needs : M O := runF 2 m_are_needs
theorem b_are_needs (ev : Ev K mg base) : Bd P w K mg base cl 2 "are_needs" ["thing", "name"] [] (top 16) m_are_needs := fun f cdv A outer s H E hr =>
  (dss_cons (ds_if (dt_w (dw_or (dt_not (dt_val (de_isi (T := "tuple") (by decide) rfl ev.b_isinstance rfl ev.b_tuple PyProof.Rows.boot_tuple (de_var (i := 0) rfl (.inl rfl))))) (dw_or1 (dt_cmp (de_len rfl ev.b_len (da_cons (de_var (i := 0) rfl (.inl rfl)) da_nil)) (de_globI rfl ev.c_MOST_NEEDS) (od_gt)))))
  (dss_one (ds_ret de_bl))
  dss_nil)
  (dss_one (ds_ret (de_and (de_all rfl rfl ev.b_all (da_cons (de_lc (own := [("name", 1)]) rfl sc_are_needs.nd (di_seq (js := [0]) (de_var (i := 0) rfl (.inl rfl))) (by kernel_rfl) (by decide) (fun _ _ _ _ _ => (dg_name (i := 1) sc_are_needs.nd rfl (.inl rfl))) (fun _ _ _ _ _ => dts_nil) (fun _ _ _ _ _ => (de_def (h_is_below ev) hr (by omega) rfl pass_xn (da_cons (de_var (i := 1) rfl (.inl rfl)) (da_cons (de_globI rfl ev.c_NAMES) da_nil)) (len_cons (len_cons len_nil))))) da_nil)) (de_one (de_cmp (de_lenSet rfl rfl ev.b_len rfl ev.b_set (de_var (i := 0) rfl (.inl rfl))) (de_len rfl ev.b_len (da_cons (de_var (i := 0) rfl (.inl rfl)) da_nil)) (od_eq (units_of hr))))))))
theorem h_are_needs (ev : Ev K mg base) : Has P w K mg base cl 3 "are_needs" ["thing"] 1 [] f_are_needs := has_by (k := 2) ev.d_are_needs sc_are_needs rfl (by decide) (b_are_needs ev)
theorem sc_is_recipe : FnScope ["tables", "thing"] ["tables", "thing"] (defScope (top 17)) := ⟨rfl, rfl, rfl, by decide +kernel, rfl, by decide +kernel, by decide +kernel⟩
def m_is_recipe : M Fl :=
  (mSeq (mIte (mOr (mNot (tst (mIsi "tuple" (mVar 1)))) (mOr (tst (mBin gNe (mCB gLen (mCons (mVar 1) mNil)) (mC (.int 5)))) (mNot (tst (mCall [] f_is_spot_of (mCons (mVar 0) (mCons (mBin gIx (mVar 1) (mC (.int 1))) mNil)))))))
  (mRet [] (mC (.bool false)))
  (ret .nx))
  (mRet [] (mAndV (mCall [] f_is_below (mCons (mBin gIx (mVar 1) (mC (.int 0))) (mCons (mC (.int 8)) mNil))) (mAndV (mCall [] f_is_below (mCons (mBin gIx (mVar 1) (mC (.int 2))) (mCons (mC (.int 4)) mNil))) (mAndV (mCall [] f_is_from_one (mCons (mBin gIx (mVar 1) (mC (.int 3))) (mCons (mC (.int 3)) mNil))) (mCall [] f_are_needs (mCons (mBin gIx (mVar 1) (mC (.int 4))) mNil)))))))
def f_is_recipe : M O := runF 2 m_is_recipe
theorem b_is_recipe (ev : Ev K mg base) : Bd P w K mg base cl 3 "is_recipe" ["tables", "thing"] [] (top 17) m_is_recipe := fun f cdv A outer s H E hr =>
  (dss_cons (ds_if (dt_w (dw_or (dt_not (dt_val (de_isi (T := "tuple") (by decide) rfl ev.b_isinstance rfl ev.b_tuple PyProof.Rows.boot_tuple (de_var (i := 1) rfl (.inl rfl))))) (dw_or (dt_cmp (de_len rfl ev.b_len (da_cons (de_var (i := 1) rfl (.inl rfl)) da_nil)) de_int (od_ne (units_of hr))) (dw_or1 (dt_not (dt_val (de_def (h_is_spot_of ev) hr (by omega) rfl pass_fn (da_cons (de_var (i := 0) rfl (.inl rfl)) (da_cons (de_item (de_var (i := 1) rfl (.inl rfl)) de_int fun _ _ => rfl) da_nil)) (len_cons (len_cons len_nil)))))))))
  (dss_one (ds_ret de_bl))
  dss_nil)
  (dss_one (ds_ret (de_and (de_def (h_is_below ev) hr (by omega) rfl pass_fn (da_cons (de_item (de_var (i := 1) rfl (.inl rfl)) de_int fun _ _ => rfl) (da_cons (de_globI rfl ev.c_NAMES) da_nil)) (len_cons (len_cons len_nil))) (de_and (de_def (h_is_below ev) hr (by omega) rfl pass_fn (da_cons (de_item (de_var (i := 1) rfl (.inl rfl)) de_int fun _ _ => rfl) (da_cons (de_globI rfl ev.c_KEEPS) da_nil)) (len_cons (len_cons len_nil))) (de_and (de_def (h_is_from_one ev) hr (by omega) rfl pass_fn (da_cons (de_item (de_var (i := 1) rfl (.inl rfl)) de_int fun _ _ => rfl) (da_cons (de_globI rfl ev.c_MOST_SORTS) da_nil)) (len_cons (len_cons len_nil))) (de_one (de_def (h_are_needs ev) hr (by omega) rfl pass_fn (da_cons (de_item (de_var (i := 1) rfl (.inl rfl)) de_int fun _ _ => rfl) da_nil) (len_cons len_nil)))))))))
theorem h_is_recipe (ev : Ev K mg base) : Has P w K mg base cl 4 "is_recipe" ["tables", "thing"] 2 [] f_is_recipe := has_by (k := 3) ev.d_is_recipe sc_is_recipe rfl (by decide) (b_is_recipe ev)
theorem sc_are_words : FnScope ["thing", "word", "one", "other"] ["thing"] (defScope (top 18)) := ⟨rfl, rfl, rfl, by decide +kernel, rfl, by decide +kernel, by decide +kernel⟩
def m_are_words : M Fl :=
  (mSeq (mIte (mOr (mNot (tst (mIsi "tuple" (mVar 0)))) (mOr (tst (mBin gGt (mCB gLen (mCons (mVar 0) mNil)) (mC (.int 4)))) (mNot (tst (mCB gAll (mCons (mLc (mWk [0] (mVar 0)) (.nm 1) (ret true) (mCall [] f_is_word (mCons (mVar 1) mNil)) [1]) mNil))))))
  (mRet [] (mC (.bool false)))
  (ret .nx))
  (mRet [] (mCB gAll (mCons (mLc (mZip [] (mCons (mSl (mVar 0) mNo (mSo (mNeg (mC (.int 1))))) (mCons (mSl (mVar 0) (mSo (mC (.int 1))) mNo) mNil))) (.tp [(.nm 2), (.nm 3)]) (ret true) (mBin gLt (mVar 2) (mVar 3)) [2, 3]) mNil))))
def f_are_words : M O := runF 4 m_are_words
theorem b_are_words (ev : Ev K mg base) : Bd P w K mg base cl 1 "are_words" ["thing", "word", "one", "other"] [] (top 18) m_are_words := fun f cdv A outer s H E hr =>
  (dss_cons (ds_if (dt_w (dw_or (dt_not (dt_val (de_isi (T := "tuple") (by decide) rfl ev.b_isinstance rfl ev.b_tuple PyProof.Rows.boot_tuple (de_var (i := 0) rfl (.inl rfl))))) (dw_or (dt_cmp (de_len rfl ev.b_len (da_cons (de_var (i := 0) rfl (.inl rfl)) da_nil)) (de_globI rfl ev.c_MOST_WORDS) (od_gt)) (dw_or1 (dt_not (dt_val (de_all rfl rfl ev.b_all (da_cons (de_lc (own := [("word", 1)]) rfl sc_are_words.nd (di_seq (js := [0]) (de_var (i := 0) rfl (.inl rfl))) (by kernel_rfl) (by decide) (fun _ _ _ _ _ => (dg_name (i := 1) sc_are_words.nd rfl (.inl rfl))) (fun _ _ _ _ _ => dts_nil) (fun _ _ _ _ _ => (de_def (h_is_word ev) hr (by omega) rfl pass_xn (da_cons (de_var (i := 1) rfl (.inl rfl)) da_nil) (len_cons len_nil)))) da_nil))))))))
  (dss_one (ds_ret de_bl))
  dss_nil)
  (dss_one (ds_ret (de_all rfl rfl ev.b_all (da_cons (de_lc (own := [("one", 2), ("other", 3)]) rfl sc_are_words.nd (di_zip (js := []) rfl ev.b_zip (da_cons (de_slice (de_var (i := 0) rfl (.inl rfl)) do_none (do_some (de_neg de_int))) (da_cons (de_slice (de_var (i := 0) rfl (.inl rfl)) (do_some de_int) do_none) da_nil))) (by kernel_rfl) (by decide) (fun _ _ _ _ _ => (dg_tup rfl (dgs_cons (dg_name (i := 2) sc_are_words.nd rfl (.inl rfl)) (dgs_cons (dg_name (i := 3) sc_are_words.nd rfl (.inl rfl)) dgs_nil)))) (fun _ _ _ _ _ => dts_nil) (fun _ _ _ _ _ => (de_cmp (de_var (i := 2) rfl (.inl rfl)) (de_var (i := 3) rfl (.inl rfl)) (od_lt (units_of hr))))) da_nil)))))
theorem h_are_words (ev : Ev K mg base) : Has P w K mg base cl 2 "are_words" ["thing"] 1 [] f_are_words := has_by (k := 1) ev.d_are_words sc_are_words rfl (by decide) (b_are_words ev)
theorem sc_is_tasting : FnScope ["tables", "thing"] ["tables", "thing"] (defScope (top 19)) := ⟨rfl, rfl, rfl, by decide +kernel, rfl, by decide +kernel, by decide +kernel⟩
def m_is_tasting : M Fl :=
  (mSeq (mIte (mOr (mNot (tst (mIsi "tuple" (mVar 1)))) (mOr (tst (mBin gNe (mCB gLen (mCons (mVar 1) mNil)) (mC (.int 3)))) (mNot (tst (mCall [] f_is_spot_of (mCons (mVar 0) (mCons (mBin gIx (mVar 1) (mC (.int 0))) mNil)))))))
  (mRet [] (mC (.bool false)))
  (ret .nx))
  (mRet [] (mAndV (mBin gEq (mCB gLen (mCons (mBin gIx (mVar 1) (mC (.int 0))) mNil)) (mC (.int 2))) (mAndV (mCall [] f_are_needs (mCons (mBin gIx (mVar 1) (mC (.int 1))) mNil)) (mCall [] f_are_words (mCons (mBin gIx (mVar 1) (mC (.int 2))) mNil))))))
def f_is_tasting : M O := runF 2 m_is_tasting
theorem b_is_tasting (ev : Ev K mg base) : Bd P w K mg base cl 3 "is_tasting" ["tables", "thing"] [] (top 19) m_is_tasting := fun f cdv A outer s H E hr =>
  (dss_cons (ds_if (dt_w (dw_or (dt_not (dt_val (de_isi (T := "tuple") (by decide) rfl ev.b_isinstance rfl ev.b_tuple PyProof.Rows.boot_tuple (de_var (i := 1) rfl (.inl rfl))))) (dw_or (dt_cmp (de_len rfl ev.b_len (da_cons (de_var (i := 1) rfl (.inl rfl)) da_nil)) de_int (od_ne (units_of hr))) (dw_or1 (dt_not (dt_val (de_def (h_is_spot_of ev) hr (by omega) rfl pass_fn (da_cons (de_var (i := 0) rfl (.inl rfl)) (da_cons (de_item (de_var (i := 1) rfl (.inl rfl)) de_int fun _ _ => rfl) da_nil)) (len_cons (len_cons len_nil)))))))))
  (dss_one (ds_ret de_bl))
  dss_nil)
  (dss_one (ds_ret (de_and (de_cmp (de_len rfl ev.b_len (da_cons (de_item (de_var (i := 1) rfl (.inl rfl)) de_int fun _ _ => rfl) da_nil)) de_int (od_eq (units_of hr))) (de_and (de_def (h_are_needs ev) hr (by omega) rfl pass_fn (da_cons (de_item (de_var (i := 1) rfl (.inl rfl)) de_int fun _ _ => rfl) da_nil) (len_cons len_nil)) (de_one (de_def (h_are_words ev) hr (by omega) rfl pass_fn (da_cons (de_item (de_var (i := 1) rfl (.inl rfl)) de_int fun _ _ => rfl) da_nil) (len_cons len_nil))))))))
theorem h_is_tasting (ev : Ev K mg base) : Has P w K mg base cl 4 "is_tasting" ["tables", "thing"] 2 [] f_is_tasting := has_by (k := 3) ev.d_is_tasting sc_is_tasting rfl (by decide) (b_is_tasting ev)
theorem sc_is_house : FnScope ["thing", "part", "tables", "recipes", "tastings", "many", "recipe", "tasting"] ["thing"] (defScope (top 20)) := ⟨rfl, rfl, rfl, by decide +kernel, rfl, by decide +kernel, by decide +kernel⟩
def m_is_house : M Fl :=
  (mSeq (mIte (mOr (mNot (tst (mIsi "tuple" (mVar 0)))) (mOr (tst (mBin gNe (mCB gLen (mCons (mVar 0) mNil)) (mC (.int 3)))) (mNot (tst (mCB gAll (mCons (mLc (mWk [0] (mVar 0)) (.nm 1) (ret true) (mIsi "tuple" (mVar 1)) [1]) mNil))))))
  (mRet [] (mC (.bool false)))
  (ret .nx))
  (mSeq (mTgt (.tp [(.nm 2), (.nm 3), (.nm 4)]) (mVar 0))
  (mSeq (mIte (mOr (mNot (tst (mCall [] f_is_from_one (mCons (mCB gLen (mCons (mVar 2) mNil)) (mCons (mC (.int 3)) mNil))))) (mNot (tst (mCB gAll (mCons (mLc (mWk [2] (mVar 2)) (.nm 5) (ret true) (mCall [] f_is_from_one (mCons (mVar 5) (mCons (mC (.int 3)) mNil))) [5]) mNil)))))
  (mRet [] (mC (.bool false)))
  (ret .nx))
  (mSeq (mIte (mOr (tst (mBin gGt (mCB gLen (mCons (mVar 3) mNil)) (mC (.int 8)))) (mNot (tst (mCB gAll (mCons (mLc (mWk [3] (mVar 3)) (.nm 6) (ret true) (mCall [] f_is_recipe (mCons (mVar 2) (mCons (mVar 6) mNil))) [6]) mNil)))))
  (mRet [] (mC (.bool false)))
  (ret .nx))
  (mSeq (mIte (tst (mBin gLt (mSetA (fun z => .d (.int (lenS z))) (fun ks => (.ok () [], .d (.int (dedup ks).length))) (mLc (mWk [3] (mVar 3)) (.nm 6) (ret true) (mSl (mVar 6) mNo (mSo (mC (.int 2)))) [6])) (mCB gLen (mCons (mVar 3) mNil))))
  (mRet [] (mC (.bool false)))
  (ret .nx))
  (mRet [] (mAndV (mBin gLe (mCB gLen (mCons (mVar 4) mNil)) (mC (.int 6))) (mCB gAll (mCons (mLc (mWk [4] (mVar 4)) (.nm 7) (ret true) (mCall [] f_is_tasting (mCons (mVar 2) (mCons (mVar 7) mNil))) [7]) mNil)))))))))
def f_is_house : M O := runF 8 m_is_house
theorem b_is_house (ev : Ev K mg base) : Bd P w K mg base cl 4 "is_house" ["thing", "part", "tables", "recipes", "tastings", "many", "recipe", "tasting"] [] (top 20) m_is_house := fun f cdv A outer s H E hr =>
  (dss_cons (ds_if (dt_w (dw_or (dt_not (dt_val (de_isi (T := "tuple") (by decide) rfl ev.b_isinstance rfl ev.b_tuple PyProof.Rows.boot_tuple (de_var (i := 0) rfl (.inl rfl))))) (dw_or (dt_cmp (de_len rfl ev.b_len (da_cons (de_var (i := 0) rfl (.inl rfl)) da_nil)) de_int (od_ne (units_of hr))) (dw_or1 (dt_not (dt_val (de_all rfl rfl ev.b_all (da_cons (de_lc (own := [("part", 1)]) rfl sc_is_house.nd (di_seq (js := [0]) (de_var (i := 0) rfl (.inl rfl))) (by kernel_rfl) (by decide) (fun _ _ _ _ _ => (dg_name (i := 1) sc_is_house.nd rfl (.inl rfl))) (fun _ _ _ _ _ => dts_nil) (fun _ _ _ _ _ => (de_isi (T := "tuple") (by decide) rfl ev.b_isinstance rfl ev.b_tuple PyProof.Rows.boot_tuple (de_var (i := 1) rfl (.inl rfl))))) da_nil))))))))
  (dss_one (ds_ret de_bl))
  dss_nil)
  (dss_cons (ds_tgt (de_var (i := 0) rfl (.inl rfl)) (dg_tup rfl (dgs_cons (dg_name (i := 2) sc_is_house.nd rfl (.inr rfl)) (dgs_cons (dg_name (i := 3) sc_is_house.nd rfl (.inl rfl)) (dgs_cons (dg_name (i := 4) sc_is_house.nd rfl (.inl rfl)) dgs_nil)))) (by decide))
  (dss_cons (ds_if (dt_w (dw_or (dt_not (dt_val (de_def (h_is_from_one ev) hr (by omega) rfl pass_fn (da_cons (de_len rfl ev.b_len (da_cons (de_var (i := 2) rfl (.inr (.inl rfl))) da_nil)) (da_cons (de_globI rfl ev.c_MOST_EVENINGS) da_nil)) (len_cons (len_cons len_nil))))) (dw_or1 (dt_not (dt_val (de_all rfl rfl ev.b_all (da_cons (de_lc (own := [("many", 5)]) rfl sc_is_house.nd (di_seq (js := [2]) (de_var (i := 2) rfl (.inr (.inl rfl)))) (by kernel_rfl) (by decide) (fun _ _ _ _ _ => (dg_name (i := 5) sc_is_house.nd rfl (.inl rfl))) (fun _ _ _ _ _ => dts_nil) (fun _ _ _ _ _ => (de_def (h_is_from_one ev) hr (by omega) rfl pass_xn (da_cons (de_var (i := 5) rfl (.inl rfl)) (da_cons (de_globI rfl ev.c_MOST_TABLES) da_nil)) (len_cons (len_cons len_nil))))) da_nil)))))))
  (dss_one (ds_ret de_bl))
  dss_nil)
  (dss_cons (ds_if (dt_w (dw_or (dt_cmp (de_len rfl ev.b_len (da_cons (de_var (i := 3) rfl (.inl rfl)) da_nil)) (de_globI rfl ev.c_MOST_RECIPES) (od_gt)) (dw_or1 (dt_not (dt_val (de_all rfl rfl ev.b_all (da_cons (de_lc (own := [("recipe", 6)]) rfl sc_is_house.nd (di_seq (js := [3]) (de_var (i := 3) rfl (.inl rfl))) (by kernel_rfl) (by decide) (fun _ _ _ _ _ => (dg_name (i := 6) sc_is_house.nd rfl (.inl rfl))) (fun _ _ _ _ _ => dts_nil) (fun _ _ _ _ _ => (de_def (h_is_recipe ev) hr (by omega) rfl pass_xn (da_cons (de_var (i := 2) rfl (.inr (.inl rfl))) (da_cons (de_var (i := 6) rfl (.inl rfl)) da_nil)) (len_cons (len_cons len_nil))))) da_nil)))))))
  (dss_one (ds_ret de_bl))
  dss_nil)
  (dss_cons (ds_if (dt_cmp (de_lenSetA (units_of hr) rfl rfl ev.b_len rfl ev.b_set (de_lc (own := [("recipe", 6)]) rfl sc_is_house.nd (di_seq (js := [3]) (de_var (i := 3) rfl (.inl rfl))) (by kernel_rfl) (by decide) (fun _ _ _ _ _ => (dg_name (i := 6) sc_is_house.nd rfl (.inl rfl))) (fun _ _ _ _ _ => dts_nil) (fun _ _ _ _ _ => (de_slice (de_var (i := 6) rfl (.inl rfl)) do_none (do_some de_int))))) (de_len rfl ev.b_len (da_cons (de_var (i := 3) rfl (.inl rfl)) da_nil)) (od_lt (units_of hr)))
  (dss_one (ds_ret de_bl))
  dss_nil)
  (dss_one (ds_ret (de_and (de_cmp (de_len rfl ev.b_len (da_cons (de_var (i := 4) rfl (.inl rfl)) da_nil)) (de_globI rfl ev.c_MOST_TASTINGS) (od_le)) (de_one (de_all rfl rfl ev.b_all (da_cons (de_lc (own := [("tasting", 7)]) rfl sc_is_house.nd (di_seq (js := [4]) (de_var (i := 4) rfl (.inl rfl))) (by kernel_rfl) (by decide) (fun _ _ _ _ _ => (dg_name (i := 7) sc_is_house.nd rfl (.inl rfl))) (fun _ _ _ _ _ => dts_nil) (fun _ _ _ _ _ => (de_def (h_is_tasting ev) hr (by omega) rfl pass_xn (da_cons (de_var (i := 2) rfl (.inr (.inl rfl))) (da_cons (de_var (i := 7) rfl (.inl rfl)) da_nil)) (len_cons (len_cons len_nil))))) da_nil)))))))))))
theorem h_is_house (ev : Ev K mg base) : Has P w K mg base cl 5 "is_house" ["thing"] 1 [] f_is_house := has_by (k := 4) ev.d_is_house sc_is_house rfl (by decide) (b_is_house ev)
theorem sc_law_cell_at : FnScope ["_law_script", "_law_k"] ["_law_script", "_law_k"] (defScope (top 22)) := ⟨rfl, rfl, rfl, by decide +kernel, rfl, by decide +kernel, by decide +kernel⟩
def m_law_cell_at : M Fl :=
  (mSeq (mIte (tst (mBin gLt (mVar 1) (mCB gLen (mCons (mVar 0) mNil))))
  (mRet [] (mBin gIx (mVar 0) (mVar 1)))
  (ret .nx))
  (mRet [] (mC (.int 0))))
def f_law_cell_at : M O := runF 2 m_law_cell_at
theorem b_law_cell_at (ev : Ev K mg base) : Bd P w K mg base cl 0 "_law_cell_at" ["_law_script", "_law_k"] [] (top 22) m_law_cell_at := fun f cdv A outer s H E hr =>
  (dss_cons (ds_if (dt_cmp (de_var (i := 1) rfl (.inl rfl)) (de_len rfl ev.b_len (da_cons (de_var (i := 0) rfl (.inl rfl)) da_nil)) (od_lt (units_of hr)))
  (dss_one (ds_ret (de_item (de_var (i := 0) rfl (.inl rfl)) (de_var (i := 1) rfl (.inl rfl)) fun _ _ => rfl)))
  dss_nil)
  (dss_one (ds_ret de_int)))
theorem h_law_cell_at (ev : Ev K mg base) : Has P w K mg base cl 1 "_law_cell_at" ["_law_script", "_law_k"] 2 [] f_law_cell_at := has_by (k := 0) ev.d_law_cell_at sc_law_cell_at rfl (by decide) (b_law_cell_at ev)
theorem sc_law_pen : FnScope ["_law_cell"] ["_law_cell"] (defScope (top 23)) := ⟨rfl, rfl, rfl, by decide +kernel, rfl, by decide +kernel, by decide +kernel⟩
def m_law_pen : M Fl :=
  (mRet [] (mLst (mCons (mVar 0) (mCons (mCB gInt (mCons (mBin gGe (mVar 0) (mBin gPow (mC (.int 10)) (mC (.int 18)))) mNil)) (mCons (mC (.int 0)) (mCons (mBin gMod (mVar 0) (mC (.int 1000000007))) mNil))))))
def f_law_pen : M O := runF 1 m_law_pen
theorem b_law_pen (ev : Ev K mg base) : Bd P w K mg base cl 0 "_law_pen" ["_law_cell"] [] (top 23) m_law_pen := fun f cdv A outer s H E hr =>
  (dss_one (ds_ret (de_lst (da_cons (de_var (i := 0) rfl (.inl rfl)) (da_cons (de_toInt rfl ev.b_int (da_cons (de_cmp (de_var (i := 0) rfl (.inl rfl)) (de_bin de_int de_int od_pow) (od_ge)) da_nil)) (da_cons de_int (da_cons (de_bin (de_var (i := 0) rfl (.inl rfl)) de_int od_mod) da_nil)))) (len_cons (len_cons (len_cons (len_cons len_nil)))) (by decide))))
theorem h_law_pen (ev : Ev K mg base) : Has P w K mg base cl 1 "_law_pen" ["_law_cell"] 1 [] f_law_pen := has_by (k := 0) ev.d_law_pen sc_law_pen rfl (by decide) (b_law_pen ev)
theorem sc_law_draw : FnScope ["_law_pen_here", "_law_bound", "_law_found", "_law_stir"] ["_law_pen_here", "_law_bound"] (defScope (top 24)) := ⟨rfl, rfl, rfl, by decide +kernel, rfl, by decide +kernel, by decide +kernel⟩
def m_law_draw : M Fl :=
  (mSeq (mIte (mAnd (tst (mBin gEq (mBin gIx (mVar 0) (mC (.int 1))) (mC (.int 1)))) (tst (mBin gGt (mBin gIx (mVar 0) (mC (.int 0))) (mC (.int 0)))))
  (mSeq (mSet 2 (mBin gMod (mBin gIx (mVar 0) (mC (.int 0))) (mVar 1)))
  (mSeq (mStore 0 (mBin gFdiv (mBin gIx (mVar 0) (mC (.int 0))) (mVar 1)) (mC (.int 0)))
  (mRet [0] (mVar 2))))
  (ret .nx))
  (mSeq (mStore 0 (mBin gAdd (mBin gIx (mVar 0) (mC (.int 2))) (mC (.int 1))) (mC (.int 2)))
  (mSeq (mSet 3 (mBin gMod (mBin gMulI (mBin gAdd (mBin gIx (mVar 0) (mC (.int 3))) (mC (.int 17))) (mBin gAdd (mC (.int 69621)) (mBin gMulI (mC (.int 2)) (mBin gIx (mVar 0) (mC (.int 2)))))) (mC (.int 2147483647))))
  (mSeq (mSet 3 (mBin gMod (mBin gAdd (mBin gAdd (mBin gMulI (mVar 3) (mVar 3)) (mBin gMulI (mC (.int 40503)) (mBin gIx (mVar 0) (mC (.int 2))))) (mC (.int 5))) (mC (.int 2147483629))))
  (mRet [0] (mBin gMod (mBin gFdiv (mBin gMod (mBin gMulI (mVar 3) (mC (.int 48271))) (mC (.int 2147483647))) (mC (.int 32))) (mVar 1)))))))
def f_law_draw : M O := runF 4 m_law_draw
theorem b_law_draw (ev : Ev K mg base) : Bd P w K mg base cl 0 "_law_draw" ["_law_pen_here", "_law_bound", "_law_found", "_law_stir"] [0] (top 24) m_law_draw := fun f cdv A outer s H E hr =>
  (dss_cons (ds_if (dt_w (dw_and (dt_cmp (de_item (de_var (i := 0) rfl (.inl rfl)) de_int fun _ _ => rfl) de_int (od_eq (units_of hr))) (dw_and1 (dt_cmp (de_item (de_var (i := 0) rfl (.inl rfl)) de_int fun _ _ => rfl) de_int (od_gt)))))
  (dss_cons (ds_set (i := 2) sc_law_draw.nd rfl (.inl rfl) rfl (de_bin (de_item (de_var (i := 0) rfl (.inl rfl)) de_int fun _ _ => rfl) (de_var (i := 1) rfl (.inl rfl)) od_mod))
  (dss_cons (ds_store (j := 0) rfl (.inl rfl) (de_bin (de_item (de_var (i := 0) rfl (.inl rfl)) de_int fun _ _ => rfl) (de_var (i := 1) rfl (.inl rfl)) od_fdiv) de_int)
  (dss_one (ds_ret (de_var (i := 2) rfl (.inl rfl))))))
  dss_nil)
  (dss_cons (ds_store (j := 0) rfl (.inl rfl) (de_bin (de_item (de_var (i := 0) rfl (.inl rfl)) de_int fun _ _ => rfl) de_int od_add) de_int)
  (dss_cons (ds_set (i := 3) sc_law_draw.nd rfl (.inl rfl) rfl (de_bin (de_bin (de_bin (de_item (de_var (i := 0) rfl (.inl rfl)) de_int fun _ _ => rfl) de_int od_add) (de_bin de_int (de_bin de_int (de_item (de_var (i := 0) rfl (.inl rfl)) de_int fun _ _ => rfl) od_mulI) od_add) od_mulI) de_int od_mod))
  (dss_cons (ds_set (i := 3) sc_law_draw.nd rfl (.inl rfl) rfl (de_bin (de_bin (de_bin (de_bin (de_var (i := 3) rfl (.inl rfl)) (de_var (i := 3) rfl (.inl rfl)) od_mulI) (de_bin de_int (de_item (de_var (i := 0) rfl (.inl rfl)) de_int fun _ _ => rfl) od_mulI) od_add) de_int od_add) de_int od_mod))
  (dss_one (ds_ret (de_bin (de_bin (de_bin (de_bin (de_var (i := 3) rfl (.inl rfl)) de_int od_mulI) de_int od_mod) de_int od_fdiv) (de_var (i := 1) rfl (.inl rfl)) od_mod)))))))
theorem h_law_draw (ev : Ev K mg base) : Has P w K mg base cl 1 "_law_draw" ["_law_pen_here", "_law_bound"] 2 [0] f_law_draw := has_by (k := 0) ev.d_law_draw sc_law_draw rfl (by decide) (b_law_draw ev)
theorem sc_law_spots : FnScope ["_law_tables", "_law_found", "_law_evening", "_law_many", "_law_table"] ["_law_tables"] (defScope (top 25)) := ⟨rfl, rfl, rfl, by decide +kernel, rfl, by decide +kernel, by decide +kernel⟩
def m_law_spots : M Fl :=
  (mSeq (mSet 1 (mLst (mCons (mTup mNil) mNil)))
  (mSeq (mFor (mEnu [0] (mCons (mVar 0) mNil)) (.tp [(.nm 2), (.nm 3)])
  (mSet 1 (mBin gAdd (mBin gAdd (mVar 1) (mLst (mCons (mTup (mCons (mVar 2) mNil)) mNil))) (mLc (mRng1 (mCons (mVar 3) mNil)) (.nm 4) (ret true) (mTup (mCons (mVar 2) (mCons (mVar 4) mNil))) [4]))))
  (mRet [] (mVar 1))))
def f_law_spots : M O := runF 5 m_law_spots
theorem b_law_spots (ev : Ev K mg base) : Bd P w K mg base cl 0 "_law_spots" ["_law_tables", "_law_found", "_law_evening", "_law_many", "_law_table"] [] (top 25) m_law_spots := fun f cdv A outer s H E hr =>
  (dss_cons (ds_set (i := 1) sc_law_spots.nd rfl (.inl rfl) rfl (de_lst (da_cons (de_tup da_nil len_nil (by decide)) da_nil) (len_cons len_nil) (by decide)))
  (dss_cons (ds_for (ios := [0]) pow_fn rfl (di_enu (js := [0]) rfl ev.b_enumerate (da_cons (de_var (i := 0) rfl (.inl rfl)) da_nil)) (dg_tup rfl (dgs_cons (dg_name (i := 2) sc_law_spots.nd rfl (.inr rfl)) (dgs_cons (dg_name (i := 3) sc_law_spots.nd rfl (.inl rfl)) dgs_nil)))
  (dss_one (ds_set (i := 1) sc_law_spots.nd rfl (.inl rfl) rfl (de_bin (de_bin (de_var (i := 1) rfl (.inl rfl)) (de_lst (da_cons (de_tup (da_cons (de_var (i := 2) rfl (.inr (.inl rfl))) da_nil) (len_cons len_nil) (by decide)) da_nil) (len_cons len_nil) (by decide)) od_add) (de_lc (own := [("_law_table", 4)]) rfl sc_law_spots.nd (di_rng1 rfl ev.b_range (da_cons (de_var (i := 3) rfl (.inl rfl)) da_nil)) (by kernel_rfl) (by decide) (fun _ _ _ _ _ => (dg_name (i := 4) sc_law_spots.nd rfl (.inl rfl))) (fun _ _ _ _ _ => dts_nil) (fun _ _ _ _ _ => (de_tup (da_cons (de_var (i := 2) rfl (.inr (.inl rfl))) (da_cons (de_var (i := 4) rfl (.inl rfl)) da_nil)) (len_cons (len_cons len_nil)) (by decide)))) od_add))) (by decide) (hw_enu (by decide)) (by decide))
  (dss_one (ds_ret (de_var (i := 1) rfl (.inl rfl))))))
theorem h_law_spots (ev : Ev K mg base) : Has P w K mg base cl 1 "_law_spots" ["_law_tables"] 1 [] f_law_spots := has_by (k := 0) ev.d_law_spots sc_law_spots rfl (by decide) (b_law_spots ev)
theorem sc_law_needs : FnScope ["_law_pen_here", "_law_names", "_law_left", "_law_k"] ["_law_pen_here", "_law_names"] (defScope (top 26)) := ⟨rfl, rfl, rfl, by decide +kernel, rfl, by decide +kernel, by decide +kernel⟩
def m_law_needs : M Fl :=
  (mSeq (mSet 2 (mLstR (mVar 1)))
  (mRet [0] (mCB gTuple (mCons (mLc (mRng1 (mCons (mCB gMin2 (mCons (mVar 1) (mCons (mCall [0] f_law_draw (mCons (mVar 0) (mCons (mC (.int 4)) mNil))) mNil))) mNil)) (.nm 3) (ret true) (mMet 2 gPopI (mCons (mCall [0] f_law_draw (mCons (mVar 0) (mCons (mCB gLen (mCons (mVar 2) mNil)) mNil))) mNil)) [3]) mNil))))
def f_law_needs : M O := runF 4 m_law_needs
theorem b_law_needs (ev : Ev K mg base) : Bd P w K mg base cl 1 "_law_needs" ["_law_pen_here", "_law_names", "_law_left", "_law_k"] [0] (top 26) m_law_needs := fun f cdv A outer s H E hr =>
  (dss_cons (ds_set (i := 2) sc_law_needs.nd rfl (.inr rfl) rfl (de_lstR rfl rfl ev.b_list rfl ev.b_range (de_var (i := 1) rfl (.inl rfl))))
  (dss_one (ds_ret (de_tuple rfl ev.b_tuple (da_cons (de_lc (own := [("_law_k", 3)]) rfl sc_law_needs.nd (di_rng1 rfl ev.b_range (da_cons (de_min2 rfl rfl ev.b_min (da_cons (de_var (i := 1) rfl (.inl rfl)) (da_cons (de_def (h_law_draw ev) hr (by omega) rfl pass_fn (da_cons (de_var (i := 0) rfl (.inr (.inl rfl))) (da_cons de_int da_nil)) (len_cons (len_cons len_nil))) da_nil))) da_nil)) (by kernel_rfl) (by decide) (fun _ _ _ _ _ => (dg_name (i := 3) sc_law_needs.nd rfl (.inl rfl))) (fun _ _ _ _ _ => dts_nil) (fun _ _ _ _ _ => (de_popI (i := 2) rfl (.inr (.inl rfl)) (da_cons (de_def (h_law_draw ev) hr (by omega) rfl pass_xn (da_cons (de_var (i := 0) rfl (.inr (.inl rfl))) (da_cons (de_len rfl ev.b_len (da_cons (de_var (i := 2) rfl (.inr (.inl rfl))) da_nil)) da_nil)) (len_cons (len_cons len_nil))) da_nil)))) da_nil)))))
theorem h_law_needs (ev : Ev K mg base) : Has P w K mg base cl 2 "_law_needs" ["_law_pen_here", "_law_names"] 2 [0] f_law_needs := has_by (k := 1) ev.d_law_needs sc_law_needs rfl (by decide) (b_law_needs ev)
theorem sc_law_words : FnScope ["_law_pen_here", "_law_found", "_law_k", "_law_long", "_law_most", "_law_j"] ["_law_pen_here"] (defScope (top 27)) := ⟨rfl, rfl, rfl, by decide +kernel, rfl, by decide +kernel, by decide +kernel⟩
def m_law_words : M Fl :=
  (mSeq (mSet 1 (mLst mNil))
  (mSeq (mFor (mRng1 (mCons (mCall [0] f_law_draw (mCons (mVar 0) (mCons (mC (.int 5)) mNil))) mNil)) (.nm 2)
  (mSeq (mSet 3 (mBin gIx (mLst (mCons (mC (.int 1)) (mCons (mC (.int 1)) (mCons (mC (.int 2)) (mCons (mC (.int 8)) mNil))))) (mCall [0] f_law_draw (mCons (mVar 0) (mCons (mC (.int 4)) mNil)))))
  (mSeq (mSet 4 (mBin gIx (mLst (mCons (mC (.int 4)) (mCons (mC (.int 26)) mNil))) (mCB gInt (mCons (mBin gGt (mVar 3) (mC (.int 1))) mNil))))
  (mEx (mMetF 1 gApp (mCons (mTx1 gJoin (mC (.str "")) (mLc (mRng1 (mCons (mVar 3) mNil)) (.nm 5) (ret true) (mBin gIx (mC (.str "abcdefghijklmnopqrstuvwxyz")) (mCall [0] f_law_draw (mCons (mVar 0) (mCons (mVar 4) mNil)))) [5])) mNil))))))
  (mRet [0] (mCB gTuple (mCons (mSetE (fun z => .own (.lst (sortedS z))) (mVar 1)) mNil)))))
def f_law_words : M O := runF 6 m_law_words
theorem b_law_words (ev : Ev K mg base) : Bd P w K mg base cl 1 "_law_words" ["_law_pen_here", "_law_found", "_law_k", "_law_long", "_law_most", "_law_j"] [0] (top 27) m_law_words := fun f cdv A outer s H E hr =>
  (dss_cons (ds_set (i := 1) sc_law_words.nd rfl (.inl rfl) rfl (de_lst da_nil len_nil (by decide)))
  (dss_cons (ds_for (ios := [0]) pow_fn rfl (di_rng1 rfl ev.b_range (da_cons (de_def (h_law_draw ev) hr (by omega) rfl pass_fn (da_cons (de_var (i := 0) rfl (.inr (.inl rfl))) (da_cons de_int da_nil)) (len_cons (len_cons len_nil))) da_nil)) (dg_name (i := 2) sc_law_words.nd rfl (.inl rfl))
  (dss_cons (ds_set (i := 3) sc_law_words.nd rfl (.inl rfl) rfl (de_item (de_lst (da_cons de_int (da_cons de_int (da_cons de_int (da_cons de_int da_nil)))) (len_cons (len_cons (len_cons (len_cons len_nil)))) (by decide)) (de_def (h_law_draw ev) hr (by omega) rfl pass_fn (da_cons (de_var (i := 0) rfl (.inr (.inl rfl))) (da_cons de_int da_nil)) (len_cons (len_cons len_nil))) fun _ _ => rfl))
  (dss_cons (ds_set (i := 4) sc_law_words.nd rfl (.inr rfl) rfl (de_item (de_lst (da_cons de_int (da_cons de_int da_nil)) (len_cons (len_cons len_nil)) (by decide)) (de_toInt rfl ev.b_int (da_cons (de_cmp (de_var (i := 3) rfl (.inl rfl)) de_int (od_gt)) da_nil)) fun _ _ => rfl))
  (dss_one (ds_expr (de_app (i := 1) rfl (.inl rfl) (da_cons (de_join de_str (de_lc (own := [("_law_j", 5)]) rfl sc_law_words.nd (di_rng1 rfl ev.b_range (da_cons (de_var (i := 3) rfl (.inl rfl)) da_nil)) (by kernel_rfl) (by decide) (fun _ _ _ _ _ => (dg_name (i := 5) sc_law_words.nd rfl (.inl rfl))) (fun _ _ _ _ _ => dts_nil) (fun _ _ _ _ _ => (de_item de_str (de_def (h_law_draw ev) hr (by omega) rfl pass_xn (da_cons (de_var (i := 0) rfl (.inr (.inl rfl))) (da_cons (de_var (i := 4) rfl (.inr (.inl rfl))) da_nil)) (len_cons (len_cons len_nil))) fun _ _ => rfl)))) da_nil) (len_cons len_nil)))))) (by decide) hw_rng1 (by decide))
  (dss_one (ds_ret (de_tuple rfl ev.b_tuple (da_cons (de_sortSet hr rfl rfl ev.b_sorted rfl ev.b_set (de_var (i := 1) rfl (.inl rfl))) da_nil))))))
theorem h_law_words (ev : Ev K mg base) : Has P w K mg base cl 2 "_law_words" ["_law_pen_here"] 1 [0] f_law_words := has_by (k := 1) ev.d_law_words sc_law_words rfl (by decide) (b_law_words ev)
theorem sc_law_raw : FnScope ["_law_pen_here", "_law_tables", "_law_k", "_law_spots_here", "_law_names", "_law_recipes", "_law_row", "_law_one", "_law_tastings", "_law_at"] ["_law_pen_here"] (defScope (top 28)) := ⟨rfl, rfl, rfl, by decide +kernel, rfl, by decide +kernel, by decide +kernel⟩
def m_law_raw : M Fl :=
  (mSeq (mSet 1 (mCB gTuple (mCons (mLc (mRng1 (mCons (mBin gAdd (mC (.int 1)) (mCall [0] f_law_draw (mCons (mVar 0) (mCons (mC (.int 3)) mNil)))) mNil)) (.nm 2) (ret true) (mBin gAdd (mC (.int 1)) (mCall [0] f_law_draw (mCons (mVar 0) (mCons (mC (.int 3)) mNil)))) [2]) mNil)))
  (mSeq (mSet 3 (mCall [] f_law_spots (mCons (mVar 1) mNil)))
  (mSeq (mSet 4 (mBin gIx (mLst (mCons (mC (.int 2)) (mCons (mC (.int 4)) (mCons (mC (.int 8)) mNil)))) (mCall [0] f_law_draw (mCons (mVar 0) (mCons (mC (.int 3)) mNil)))))
  (mSeq (mSet 5 (mLst mNil))
  (mSeq (mFor (mRng1 (mCons (mCall [0] f_law_draw (mCons (mVar 0) (mCons (mC (.int 9)) mNil))) mNil)) (.nm 2)
  (mSeq (mSet 6 (mTup (mCons (mCall [0] f_law_draw (mCons (mVar 0) (mCons (mVar 4) mNil))) (mCons (mBin gIx (mVar 3) (mCall [0] f_law_draw (mCons (mVar 0) (mCons (mCB gLen (mCons (mVar 3) mNil)) mNil)))) (mCons (mCall [0] f_law_draw (mCons (mVar 0) (mCons (mC (.int 4)) mNil))) mNil)))))
  (mSeq (mSet 6 (mBin gAdd (mVar 6) (mTup (mCons (mBin gAdd (mC (.int 1)) (mCall [0] f_law_draw (mCons (mVar 0) (mCons (mC (.int 3)) mNil)))) (mCons (mCall [0] f_law_needs (mCons (mVar 0) (mCons (mVar 4) mNil))) mNil)))))
  (mIte (tst (mBin gNotIn (mSl (mVar 6) mNo (mSo (mC (.int 2)))) (mLc (mWk [5] (mVar 5)) (.nm 7) (ret true) (mSl (mVar 7) mNo (mSo (mC (.int 2)))) [7])))
  (mEx (mMetF 5 gApp (mCons (mVar 6) mNil)))
  (ret .nx)))))
  (mSeq (mSet 8 (mLst mNil))
  (mSeq (mFor (mRng1 (mCons (mCall [0] f_law_draw (mCons (mVar 0) (mCons (mC (.int 7)) mNil))) mNil)) (.nm 2)
  (mSeq (mSet 9 (mCall [0] f_law_draw (mCons (mVar 0) (mCons (mCB gLen (mCons (mVar 1) mNil)) mNil))))
  (mEx (mMetF 8 gApp (mCons (mTup (mCons (mTup (mCons (mVar 9) (mCons (mCall [0] f_law_draw (mCons (mVar 0) (mCons (mBin gIx (mVar 1) (mVar 9)) mNil))) mNil))) (mCons (mCall [0] f_law_needs (mCons (mVar 0) (mCons (mVar 4) mNil))) (mCons (mCall [0] f_law_words (mCons (mVar 0) mNil)) mNil)))) mNil)))))
  (mRet [0] (mTup (mCons (mVar 1) (mCons (mCB gTuple (mCons (mVar 5) mNil)) (mCons (mCB gTuple (mCons (mVar 8) mNil)) mNil))))))))))))
def f_law_raw : M O := runF 10 m_law_raw
theorem b_law_raw (ev : Ev K mg base) : Bd P w K mg base cl 2 "_law_raw" ["_law_pen_here", "_law_tables", "_law_k", "_law_spots_here", "_law_names", "_law_recipes", "_law_row", "_law_one", "_law_tastings", "_law_at"] [0] (top 28) m_law_raw := fun f cdv A outer s H E hr =>
  (dss_cons (ds_set (i := 1) sc_law_raw.nd rfl (.inl rfl) rfl (de_tuple rfl ev.b_tuple (da_cons (de_lc (own := [("_law_k", 2)]) rfl sc_law_raw.nd (di_rng1 rfl ev.b_range (da_cons (de_bin de_int (de_def (h_law_draw ev) hr (by omega) rfl pass_fn (da_cons (de_var (i := 0) rfl (.inr (.inl rfl))) (da_cons de_int da_nil)) (len_cons (len_cons len_nil))) od_add) da_nil)) (by kernel_rfl) (by decide) (fun _ _ _ _ _ => (dg_name (i := 2) sc_law_raw.nd rfl (.inl rfl))) (fun _ _ _ _ _ => dts_nil) (fun _ _ _ _ _ => (de_bin de_int (de_def (h_law_draw ev) hr (by omega) rfl pass_xn (da_cons (de_var (i := 0) rfl (.inr (.inl rfl))) (da_cons de_int da_nil)) (len_cons (len_cons len_nil))) od_add))) da_nil)))
  (dss_cons (ds_set (i := 3) sc_law_raw.nd rfl (.inl rfl) rfl (de_def (h_law_spots ev) hr (by omega) rfl pass_fn (da_cons (de_var (i := 1) rfl (.inl rfl)) da_nil) (len_cons len_nil)))
  (dss_cons (ds_set (i := 4) sc_law_raw.nd rfl (.inl rfl) rfl (de_item (de_lst (da_cons de_int (da_cons de_int (da_cons de_int da_nil))) (len_cons (len_cons (len_cons len_nil))) (by decide)) (de_def (h_law_draw ev) hr (by omega) rfl pass_fn (da_cons (de_var (i := 0) rfl (.inr (.inl rfl))) (da_cons de_int da_nil)) (len_cons (len_cons len_nil))) fun _ _ => rfl))
  (dss_cons (ds_set (i := 5) sc_law_raw.nd rfl (.inl rfl) rfl (de_lst da_nil len_nil (by decide)))
  (dss_cons (ds_for (ios := [0]) pow_fn rfl (di_rng1 rfl ev.b_range (da_cons (de_def (h_law_draw ev) hr (by omega) rfl pass_fn (da_cons (de_var (i := 0) rfl (.inr (.inl rfl))) (da_cons de_int da_nil)) (len_cons (len_cons len_nil))) da_nil)) (dg_name (i := 2) sc_law_raw.nd rfl (.inl rfl))
  (dss_cons (ds_set (i := 6) sc_law_raw.nd rfl (.inl rfl) rfl (de_tup (da_cons (de_def (h_law_draw ev) hr (by omega) rfl pass_fn (da_cons (de_var (i := 0) rfl (.inr (.inl rfl))) (da_cons (de_var (i := 4) rfl (.inl rfl)) da_nil)) (len_cons (len_cons len_nil))) (da_cons (de_item (de_var (i := 3) rfl (.inl rfl)) (de_def (h_law_draw ev) hr (by omega) rfl pass_fn (da_cons (de_var (i := 0) rfl (.inr (.inl rfl))) (da_cons (de_len rfl ev.b_len (da_cons (de_var (i := 3) rfl (.inl rfl)) da_nil)) da_nil)) (len_cons (len_cons len_nil))) fun _ _ => rfl) (da_cons (de_def (h_law_draw ev) hr (by omega) rfl pass_fn (da_cons (de_var (i := 0) rfl (.inr (.inl rfl))) (da_cons de_int da_nil)) (len_cons (len_cons len_nil))) da_nil))) (len_cons (len_cons (len_cons len_nil))) (by decide)))
  (dss_cons (ds_set (i := 6) sc_law_raw.nd rfl (.inl rfl) rfl (de_bin (de_var (i := 6) rfl (.inl rfl)) (de_tup (da_cons (de_bin de_int (de_def (h_law_draw ev) hr (by omega) rfl pass_fn (da_cons (de_var (i := 0) rfl (.inr (.inl rfl))) (da_cons de_int da_nil)) (len_cons (len_cons len_nil))) od_add) (da_cons (de_def (h_law_needs ev) hr (by omega) rfl pass_fn (da_cons (de_var (i := 0) rfl (.inr (.inl rfl))) (da_cons (de_var (i := 4) rfl (.inl rfl)) da_nil)) (len_cons (len_cons len_nil))) da_nil)) (len_cons (len_cons len_nil)) (by decide)) od_add))
  (dss_one (ds_if (dt_cmp (de_slice (de_var (i := 6) rfl (.inl rfl)) do_none (do_some de_int)) (de_lc (own := [("_law_one", 7)]) rfl sc_law_raw.nd (di_seq (js := [5]) (de_var (i := 5) rfl (.inl rfl))) (by kernel_rfl) (by decide) (fun _ _ _ _ _ => (dg_name (i := 7) sc_law_raw.nd rfl (.inl rfl))) (fun _ _ _ _ _ => dts_nil) (fun _ _ _ _ _ => (de_slice (de_var (i := 7) rfl (.inl rfl)) do_none (do_some de_int)))) (od_notIn (units1_of hr)))
  (dss_one (ds_expr (de_app (i := 5) rfl (.inl rfl) (da_cons (de_var (i := 6) rfl (.inl rfl)) da_nil) (len_cons len_nil))))
  dss_nil)))) (by decide) hw_rng1 (by decide))
  (dss_cons (ds_set (i := 8) sc_law_raw.nd rfl (.inl rfl) rfl (de_lst da_nil len_nil (by decide)))
  (dss_cons (ds_for (ios := [0]) pow_fn rfl (di_rng1 rfl ev.b_range (da_cons (de_def (h_law_draw ev) hr (by omega) rfl pass_fn (da_cons (de_var (i := 0) rfl (.inr (.inl rfl))) (da_cons de_int da_nil)) (len_cons (len_cons len_nil))) da_nil)) (dg_name (i := 2) sc_law_raw.nd rfl (.inl rfl))
  (dss_cons (ds_set (i := 9) sc_law_raw.nd rfl (.inl rfl) rfl (de_def (h_law_draw ev) hr (by omega) rfl pass_fn (da_cons (de_var (i := 0) rfl (.inr (.inl rfl))) (da_cons (de_len rfl ev.b_len (da_cons (de_var (i := 1) rfl (.inl rfl)) da_nil)) da_nil)) (len_cons (len_cons len_nil))))
  (dss_one (ds_expr (de_app (i := 8) rfl (.inl rfl) (da_cons (de_tup (da_cons (de_tup (da_cons (de_var (i := 9) rfl (.inl rfl)) (da_cons (de_def (h_law_draw ev) hr (by omega) rfl pass_fn (da_cons (de_var (i := 0) rfl (.inr (.inl rfl))) (da_cons (de_item (de_var (i := 1) rfl (.inl rfl)) (de_var (i := 9) rfl (.inl rfl)) fun _ _ => rfl) da_nil)) (len_cons (len_cons len_nil))) da_nil)) (len_cons (len_cons len_nil)) (by decide)) (da_cons (de_def (h_law_needs ev) hr (by omega) rfl pass_fn (da_cons (de_var (i := 0) rfl (.inr (.inl rfl))) (da_cons (de_var (i := 4) rfl (.inl rfl)) da_nil)) (len_cons (len_cons len_nil))) (da_cons (de_def (h_law_words ev) hr (by omega) rfl pass_fn (da_cons (de_var (i := 0) rfl (.inr (.inl rfl))) da_nil) (len_cons len_nil)) da_nil))) (len_cons (len_cons (len_cons len_nil))) (by decide)) da_nil) (len_cons len_nil))))) (by decide) hw_rng1 (by decide))
  (dss_one (ds_ret (de_tup (da_cons (de_var (i := 1) rfl (.inl rfl)) (da_cons (de_tuple rfl ev.b_tuple (da_cons (de_var (i := 5) rfl (.inl rfl)) da_nil)) (da_cons (de_tuple rfl ev.b_tuple (da_cons (de_var (i := 8) rfl (.inl rfl)) da_nil)) da_nil))) (len_cons (len_cons (len_cons len_nil))) (by decide)))))))))))
theorem h_law_raw (ev : Ev K mg base) : Has P w K mg base cl 3 "_law_raw" ["_law_pen_here"] 1 [0] f_law_raw := has_by (k := 2) ev.d_law_raw sc_law_raw rfl (by decide) (b_law_raw ev)
theorem sc_law_thing : FnScope ["_law_pen_here", "_law_deep", "_law_way", "_law_parts", "_law_k"] ["_law_pen_here", "_law_deep"] (defScope (top 29)) := ⟨rfl, rfl, rfl, by decide +kernel, rfl, by decide +kernel, by decide +kernel⟩
def m_law_thing (rc : M O) : M Fl :=
  (mSeq (mSet 2 (mCall [0] f_law_draw (mCons (mVar 0) (mCons (mC (.int 12)) mNil))))
  (mSeq (mIte (mOr (tst (mBin gLt (mVar 2) (mC (.int 8)))) (tst (mBin gEq (mVar 1) (mC (.int 0)))))
  (mRet [0] (mBin gIx (mLst (mCons (mC .none) (mCons (mC (.bool true)) (mCons (mC (.bool false)) (mCons (mC (.int 0)) (mCons (mC (.int 1)) (mCons (mNeg (mC (.int 1))) (mCons (mC (.int 9)) (mCons (mBin gPow (mC (.int 10)) (mC (.int 39))) (mCons (mC (.str "")) (mCons (mC (.str "a")) (mCons (mTup mNil) (mCons (mLst mNil) mNil))))))))))))) (mCall [0] f_law_draw (mCons (mVar 0) (mCons (mC (.int 12)) mNil)))))
  (ret .nx))
  (mSeq (mSet 3 (mLc (mRng1 (mCons (mCall [0] f_law_draw (mCons (mVar 0) (mCons (mC (.int 4)) mNil))) mNil)) (.nm 4) (ret true) (mCall [0] rc (mCons (mVar 0) (mCons (mBin gSub (mVar 1) (mC (.int 1))) mNil))) [4]))
  (mSeq (mIte (tst (mBin gEq (mVar 2) (mC (.int 8))))
  (mRet [0] (mVar 3))
  (ret .nx))
  (mSeq (mIte (tst (mBin gEq (mVar 2) (mC (.int 9))))
  (mRet [0] (mDic1 (mVar 3)))
  (ret .nx))
  (mRet [0] (mCB gTuple (mCons (mVar 3) mNil))))))))
def f_law_thing : Nat → M O
  | 0 => runF 5 stk
  | n + 1 => runF 5 (m_law_thing (f_law_thing n))
theorem h_law_thing (ev : Ev K mg base) : ∀ fu : Nat, Has P w K mg base cl (1 + fu + 1) "_law_thing" ["_law_pen_here", "_law_deep"] 2 [0] (f_law_thing fu)
  | 0 => has_by (m := stk) ev.d_law_thing sc_law_thing rfl (by decide) fun f cdv A outer s H E hr => dss_never
  | fu + 1 => by
    have ih : Has P w K mg base cl (1 + fu + 1) "_law_thing" ["_law_pen_here", "_law_deep"] 2 [0] (f_law_thing fu) := h_law_thing ev fu
    exact has_by (k := 1 + fu + 1) ev.d_law_thing sc_law_thing rfl (by decide) fun f cdv A outer s H E hr =>
  (dss_cons (ds_set (i := 2) sc_law_thing.nd rfl (.inl rfl) rfl (de_def (h_law_draw ev) hr (by omega) rfl pass_fn (da_cons (de_var (i := 0) rfl (.inr (.inl rfl))) (da_cons de_int da_nil)) (len_cons (len_cons len_nil))))
  (dss_cons (ds_if (dt_w (dw_or (dt_cmp (de_var (i := 2) rfl (.inl rfl)) de_int (od_lt (units_of hr))) (dw_or1 (dt_cmp (de_var (i := 1) rfl (.inr (.inl rfl))) de_int (od_eq (units_of hr))))))
  (dss_one (ds_ret (de_item (de_lst (da_cons de_non (da_cons de_bl (da_cons de_bl (da_cons de_int (da_cons de_int (da_cons (de_neg de_int) (da_cons de_int (da_cons (de_bin de_int de_int od_pow) (da_cons de_str (da_cons de_str (da_cons (de_tup da_nil len_nil (by decide)) (da_cons (de_lst da_nil len_nil (by decide)) da_nil)))))))))))) (len_cons (len_cons (len_cons (len_cons (len_cons (len_cons (len_cons (len_cons (len_cons (len_cons (len_cons (len_cons len_nil)))))))))))) (by decide)) (de_def (h_law_draw ev) hr (by omega) rfl pass_fn (da_cons (de_var (i := 0) rfl (.inr (.inl rfl))) (da_cons de_int da_nil)) (len_cons (len_cons len_nil))) fun _ _ => rfl)))
  dss_nil)
  (dss_cons (ds_setLc (i := 3) (own := [("_law_k", 4)]) rfl sc_law_thing.nd rfl rfl rfl (sw_true rfl rfl rfl rfl) (di_rng1 rfl ev.b_range (da_cons (de_def (h_law_draw ev) hr (by omega) rfl pass_fn (da_cons (de_var (i := 0) rfl (.inr (.inl rfl))) (da_cons de_int da_nil)) (len_cons (len_cons len_nil))) da_nil)) (by kernel_rfl) (by decide) (fun _ _ _ _ _ => (dg_name (i := 4) sc_law_thing.nd rfl (.inl rfl))) (fun _ _ _ _ _ => dts_nil) (fun _ _ _ _ _ => (de_def ih hr (by omega) rfl pass_xn (da_cons (de_var (i := 0) rfl (.inr (.inl rfl))) (da_cons (de_bin (de_var (i := 1) rfl (.inr (.inl rfl))) de_int od_sub) da_nil)) (len_cons (len_cons len_nil)))))
  (dss_cons (ds_if (dt_cmp (de_var (i := 2) rfl (.inl rfl)) de_int (od_eq (units_of hr)))
  (dss_one (ds_ret (de_var (i := 3) rfl (.inl rfl))))
  dss_nil)
  (dss_cons (ds_if (dt_cmp (de_var (i := 2) rfl (.inl rfl)) de_int (od_eq (units_of hr)))
  (dss_one (ds_ret (de_dic1 (de_var (i := 3) rfl (.inl rfl)))))
  dss_nil)
  (dss_one (ds_ret (de_tuple rfl ev.b_tuple (da_cons (de_var (i := 3) rfl (.inl rfl)) da_nil)))))))))
theorem sc_law_spoilt : FnScope ["_law_pen_here", "_law_thing_here", "_law_at", "_law_way"] ["_law_pen_here", "_law_thing_here"] (defScope (top 30)) := ⟨rfl, rfl, rfl, by decide +kernel, rfl, by decide +kernel, by decide +kernel⟩
def m_law_spoilt (rc : M O) : M Fl :=
  (mSeq (mIte (mAnd (tst (mIsi "tuple" (mVar 1))) (mAnd (tst (mBin gNeE (mVar 1) (mTup mNil))) (tst (mBin gGt (mCall [0] f_law_draw (mCons (mVar 0) (mCons (mC (.int 6)) mNil))) (mC (.int 0))))))
  (mSeq (mSet 2 (mCall [0] f_law_draw (mCons (mVar 0) (mCons (mCB gLen (mCons (mVar 1) mNil)) mNil))))
  (mRet [0] (mBin gAdd (mBin gAdd (mSl (mVar 1) mNo (mSo (mVar 2))) (mTup (mCons (mCall [0] rc (mCons (mVar 0) (mCons (mBin gIx (mVar 1) (mVar 2)) mNil))) mNil))) (mSl (mVar 1) (mSo (mBin gAdd (mVar 2) (mC (.int 1)))) mNo))))
  (ret .nx))
  (mSeq (mSet 3 (mCall [0] f_law_draw (mCons (mVar 0) (mCons (mC (.int 8)) mNil))))
  (mSeq (mIte (mAnd (tst (mIsi "tuple" (mVar 1))) (tst (mBin gLt (mVar 3) (mC (.int 4)))))
  (mRet [0] (mBin gIx (mLst (mCons (mBin gAdd (mVar 1) (mSl (mVar 1) (mSo (mNeg (mC (.int 1)))) mNo)) (mCons (mSl (mVar 1) mNo (mSo (mNeg (mC (.int 1))))) (mCons (mCB gList (mCons (mVar 1) mNil)) (mCons (mBack (mVar 1)) mNil))))) (mVar 3)))
  (ret .nx))
  (mSeq (mIte (mAnd (tst (mIsi "int" (mVar 1))) (tst (mBin gLt (mVar 3) (mC (.int 4)))))
  (mRet [0] (mBin gIx (mLst (mCons (mBin gAdd (mVar 1) (mC (.int 1))) (mCons (mBin gSub (mVar 1) (mC (.int 1))) (mCons (mBin gGt (mVar 1) (mC (.int 0))) (mCons (mCB gStr (mCons (mVar 1) mNil)) mNil))))) (mVar 3)))
  (ret .nx))
  (mSeq (mIte (mAnd (tst (mIsi "str" (mVar 1))) (tst (mBin gLt (mVar 3) (mC (.int 4)))))
  (mRet [0] (mBin gIx (mLst (mCons (mBin gAdd (mVar 1) (mC (.str "a"))) (mCons (mTx0 gUpper (mVar 1)) (mCons (mSl (mVar 1) mNo (mSo (mNeg (mC (.int 1))))) (mCons (mBin gAdd (mC (.str "1")) (mVar 1)) mNil))))) (mVar 3)))
  (ret .nx))
  (mRet [0] (mCall [0] (f_law_thing 4) (mCons (mVar 0) (mCons (mC (.int 2)) mNil)))))))))
def f_law_spoilt : Nat → M O
  | 0 => runF 4 stk
  | n + 1 => runF 4 (m_law_spoilt (f_law_spoilt n))
theorem h_law_spoilt (ev : Ev K mg base) : ∀ fu : Nat, Has P w K mg base cl (6 + fu + 1) "_law_spoilt" ["_law_pen_here", "_law_thing_here"] 2 [0] (f_law_spoilt fu)
  | 0 => has_by (m := stk) ev.d_law_spoilt sc_law_spoilt rfl (by decide) fun f cdv A outer s H E hr => dss_never
  | fu + 1 => by
    have ih : Has P w K mg base cl (6 + fu + 1) "_law_spoilt" ["_law_pen_here", "_law_thing_here"] 2 [0] (f_law_spoilt fu) := h_law_spoilt ev fu
    exact has_by (k := 6 + fu + 1) ev.d_law_spoilt sc_law_spoilt rfl (by decide) fun f cdv A outer s H E hr =>
  (dss_cons (ds_if (dt_w (dw_and (dt_val (de_isi (T := "tuple") (by decide) rfl ev.b_isinstance rfl ev.b_tuple PyProof.Rows.boot_tuple (de_var (i := 1) rfl (.inl rfl)))) (dw_and (dt_cmp (de_var (i := 1) rfl (.inl rfl)) (de_tup da_nil len_nil (by decide)) (od_neE (units_of hr))) (dw_and1 (dt_cmp (de_def (h_law_draw ev) hr (by omega) rfl pass_fn (da_cons (de_var (i := 0) rfl (.inl rfl)) (da_cons de_int da_nil)) (len_cons (len_cons len_nil))) de_int (od_gt))))))
  (dss_cons (ds_set (i := 2) sc_law_spoilt.nd rfl (.inl rfl) rfl (de_def (h_law_draw ev) hr (by omega) rfl pass_fn (da_cons (de_var (i := 0) rfl (.inl rfl)) (da_cons (de_len rfl ev.b_len (da_cons (de_var (i := 1) rfl (.inl rfl)) da_nil)) da_nil)) (len_cons (len_cons len_nil))))
  (dss_one (ds_ret (de_bin (de_bin (de_slice (de_var (i := 1) rfl (.inl rfl)) do_none (do_some (de_var (i := 2) rfl (.inl rfl)))) (de_tup (da_cons (de_def ih hr (by omega) rfl pass_fn (da_cons (de_var (i := 0) rfl (.inl rfl)) (da_cons (de_item (de_var (i := 1) rfl (.inl rfl)) (de_var (i := 2) rfl (.inl rfl)) fun _ _ => rfl) da_nil)) (len_cons (len_cons len_nil))) da_nil) (len_cons len_nil) (by decide)) od_add) (de_slice (de_var (i := 1) rfl (.inl rfl)) (do_some (de_bin (de_var (i := 2) rfl (.inl rfl)) de_int od_add)) do_none) od_add))))
  dss_nil)
  (dss_cons (ds_set (i := 3) sc_law_spoilt.nd rfl (.inl rfl) rfl (de_def (h_law_draw ev) hr (by omega) rfl pass_fn (da_cons (de_var (i := 0) rfl (.inl rfl)) (da_cons de_int da_nil)) (len_cons (len_cons len_nil))))
  (dss_cons (ds_if (dt_w (dw_and (dt_val (de_isi (T := "tuple") (by decide) rfl ev.b_isinstance rfl ev.b_tuple PyProof.Rows.boot_tuple (de_var (i := 1) rfl (.inl rfl)))) (dw_and1 (dt_cmp (de_var (i := 3) rfl (.inl rfl)) de_int (od_lt (units_of hr))))))
  (dss_one (ds_ret (de_item (de_lst (da_cons (de_bin (de_var (i := 1) rfl (.inl rfl)) (de_slice (de_var (i := 1) rfl (.inl rfl)) (do_some (de_neg de_int)) do_none) od_add) (da_cons (de_slice (de_var (i := 1) rfl (.inl rfl)) do_none (do_some (de_neg de_int))) (da_cons (de_list rfl ev.b_list (da_cons (de_var (i := 1) rfl (.inl rfl)) da_nil)) (da_cons (de_back (de_var (i := 1) rfl (.inl rfl)) rfl) da_nil)))) (len_cons (len_cons (len_cons (len_cons len_nil)))) (by decide)) (de_var (i := 3) rfl (.inl rfl)) fun _ _ => rfl)))
  dss_nil)
  (dss_cons (ds_if (dt_w (dw_and (dt_val (de_isi (T := "int") (by decide) rfl ev.b_isinstance rfl ev.b_int PyProof.Rows.boot_int (de_var (i := 1) rfl (.inl rfl)))) (dw_and1 (dt_cmp (de_var (i := 3) rfl (.inl rfl)) de_int (od_lt (units_of hr))))))
  (dss_one (ds_ret (de_item (de_lst (da_cons (de_bin (de_var (i := 1) rfl (.inl rfl)) de_int od_add) (da_cons (de_bin (de_var (i := 1) rfl (.inl rfl)) de_int od_sub) (da_cons (de_cmp (de_var (i := 1) rfl (.inl rfl)) de_int (od_gt)) (da_cons (de_toStr rfl ev.b_str (da_cons (de_var (i := 1) rfl (.inl rfl)) da_nil)) da_nil)))) (len_cons (len_cons (len_cons (len_cons len_nil)))) (by decide)) (de_var (i := 3) rfl (.inl rfl)) fun _ _ => rfl)))
  dss_nil)
  (dss_cons (ds_if (dt_w (dw_and (dt_val (de_isi (T := "str") (by decide) rfl ev.b_isinstance rfl ev.b_str PyProof.Rows.boot_str (de_var (i := 1) rfl (.inl rfl)))) (dw_and1 (dt_cmp (de_var (i := 3) rfl (.inl rfl)) de_int (od_lt (units_of hr))))))
  (dss_one (ds_ret (de_item (de_lst (da_cons (de_bin (de_var (i := 1) rfl (.inl rfl)) de_str od_add) (da_cons (de_upper (de_var (i := 1) rfl (.inl rfl))) (da_cons (de_slice (de_var (i := 1) rfl (.inl rfl)) do_none (do_some (de_neg de_int))) (da_cons (de_bin de_str (de_var (i := 1) rfl (.inl rfl)) od_add) da_nil)))) (len_cons (len_cons (len_cons (len_cons len_nil)))) (by decide)) (de_var (i := 3) rfl (.inl rfl)) fun _ _ => rfl)))
  dss_nil)
  (dss_one (ds_ret (de_def (h_law_thing ev 4) hr (by omega) rfl pass_fn (da_cons (de_var (i := 0) rfl (.inl rfl)) (da_cons de_int da_nil)) (len_cons (len_cons len_nil))))))))))
theorem sc_law_is_number : FnScope ["_law_thing_here", "_law_low", "_law_high"] ["_law_thing_here", "_law_low", "_law_high"] (defScope (top 31)) := ⟨rfl, rfl, rfl, by decide +kernel, rfl, by decide +kernel, by decide +kernel⟩
def m_law_is_number : M Fl :=
  (mRet [] (mAndV (mIsi "int" (mVar 0)) (mAndV (mNotV (mIsi "bool" (mVar 0))) (mChV (fun i j => decide (i ≤ j)) (fun i j => decide (i ≤ j)) (mVar 1) (mVar 0) (mVar 2)))))
def f_law_is_number : M O := runF 3 m_law_is_number
theorem b_law_is_number (ev : Ev K mg base) : Bd P w K mg base cl 0 "_law_is_number" ["_law_thing_here", "_law_low", "_law_high"] [] (top 31) m_law_is_number := fun f cdv A outer s H E hr =>
  (dss_one (ds_ret (de_and (de_isi (T := "int") (by decide) rfl ev.b_isinstance rfl ev.b_int PyProof.Rows.boot_int (de_var (i := 0) rfl (.inl rfl))) (de_and (de_not (de_isi (T := "bool") (by decide) rfl ev.b_isinstance rfl ev.b_bool PyProof.Rows.boot_bool (de_var (i := 0) rfl (.inl rfl)))) (de_one (de_ch op_le op_le (de_var (i := 1) rfl (.inl rfl)) (de_var (i := 0) rfl (.inl rfl)) (de_var (i := 2) rfl (.inl rfl))))))))
theorem h_law_is_number (ev : Ev K mg base) : Has P w K mg base cl 1 "_law_is_number" ["_law_thing_here", "_law_low", "_law_high"] 3 [] f_law_is_number := has_by (k := 0) ev.d_law_is_number sc_law_is_number rfl (by decide) (b_law_is_number ev)
theorem sc_law_are_names : FnScope ["_law_thing_here", "_law_name"] ["_law_thing_here"] (defScope (top 32)) := ⟨rfl, rfl, rfl, by decide +kernel, rfl, by decide +kernel, by decide +kernel⟩
def m_law_are_names : M Fl :=
  (mSeq (mIte (mOr (mNot (tst (mIsi "tuple" (mVar 0)))) (mOr (tst (mBin gGt (mCB gLen (mCons (mVar 0) mNil)) (mC (.int 3)))) (mNot (tst (mCB gAll (mCons (mLc (mWk [0] (mVar 0)) (.nm 1) (ret true) (mCall [] f_law_is_number (mCons (mVar 1) (mCons (mC (.int 0)) (mCons (mC (.int 7)) mNil)))) [1]) mNil))))))
  (mRet [] (mC (.bool false)))
  (ret .nx))
  (mRet [] (mBin gEq (mSetE (fun z => .d (.int (lenS z))) (mVar 0)) (mCB gLen (mCons (mVar 0) mNil)))))
def f_law_are_names : M O := runF 2 m_law_are_names
theorem b_law_are_names (ev : Ev K mg base) : Bd P w K mg base cl 1 "_law_are_names" ["_law_thing_here", "_law_name"] [] (top 32) m_law_are_names := fun f cdv A outer s H E hr =>
  (dss_cons (ds_if (dt_w (dw_or (dt_not (dt_val (de_isi (T := "tuple") (by decide) rfl ev.b_isinstance rfl ev.b_tuple PyProof.Rows.boot_tuple (de_var (i := 0) rfl (.inl rfl))))) (dw_or (dt_cmp (de_len rfl ev.b_len (da_cons (de_var (i := 0) rfl (.inl rfl)) da_nil)) de_int (od_gt)) (dw_or1 (dt_not (dt_val (de_all rfl rfl ev.b_all (da_cons (de_lc (own := [("_law_name", 1)]) rfl sc_law_are_names.nd (di_seq (js := [0]) (de_var (i := 0) rfl (.inl rfl))) (by kernel_rfl) (by decide) (fun _ _ _ _ _ => (dg_name (i := 1) sc_law_are_names.nd rfl (.inl rfl))) (fun _ _ _ _ _ => dts_nil) (fun _ _ _ _ _ => (de_def (h_law_is_number ev) hr (by omega) rfl pass_xn (da_cons (de_var (i := 1) rfl (.inl rfl)) (da_cons de_int (da_cons de_int da_nil))) (len_cons (len_cons (len_cons len_nil)))))) da_nil))))))))
  (dss_one (ds_ret de_bl))
  dss_nil)
  (dss_one (ds_ret (de_cmp (de_lenSet rfl rfl ev.b_len rfl ev.b_set (de_var (i := 0) rfl (.inl rfl))) (de_len rfl ev.b_len (da_cons (de_var (i := 0) rfl (.inl rfl)) da_nil)) (od_eq (units_of hr))))))
theorem h_law_are_names (ev : Ev K mg base) : Has P w K mg base cl 2 "_law_are_names" ["_law_thing_here"] 1 [] f_law_are_names := has_by (k := 1) ev.d_law_are_names sc_law_are_names rfl (by decide) (b_law_are_names ev)
theorem sc_law_is_place : FnScope ["_law_tables", "_law_thing_here"] ["_law_tables", "_law_thing_here"] (defScope (top 33)) := ⟨rfl, rfl, rfl, by decide +kernel, rfl, by decide +kernel, by decide +kernel⟩
def m_law_is_place : M Fl :=
  (mSeq (mIte (mOr (mNot (tst (mIsi "tuple" (mVar 1)))) (tst (mBin gGt (mCB gLen (mCons (mVar 1) mNil)) (mC (.int 2)))))
  (mRet [] (mC (.bool false)))
  (ret .nx))
  (mSeq (mIte (mAnd (tst (mBin gGt (mCB gLen (mCons (mVar 1) mNil)) (mC (.int 0)))) (mNot (tst (mCall [] f_law_is_number (mCons (mBin gIx (mVar 1) (mC (.int 0))) (mCons (mC (.int 0)) (mCons (mBin gSub (mCB gLen (mCons (mVar 0) mNil)) (mC (.int 1))) mNil)))))))
  (mRet [] (mC (.bool false)))
  (ret .nx))
  (mRet [] (mOrV (mBin gLt (mCB gLen (mCons (mVar 1) mNil)) (mC (.int 2))) (mCall [] f_law_is_number (mCons (mBin gIx (mVar 1) (mC (.int 1))) (mCons (mC (.int 0)) (mCons (mBin gSub (mBin gIx (mVar 0) (mBin gIx (mVar 1) (mC (.int 0)))) (mC (.int 1))) mNil))))))))
def f_law_is_place : M O := runF 2 m_law_is_place
theorem b_law_is_place (ev : Ev K mg base) : Bd P w K mg base cl 1 "_law_is_place" ["_law_tables", "_law_thing_here"] [] (top 33) m_law_is_place := fun f cdv A outer s H E hr =>
  (dss_cons (ds_if (dt_w (dw_or (dt_not (dt_val (de_isi (T := "tuple") (by decide) rfl ev.b_isinstance rfl ev.b_tuple PyProof.Rows.boot_tuple (de_var (i := 1) rfl (.inl rfl))))) (dw_or1 (dt_cmp (de_len rfl ev.b_len (da_cons (de_var (i := 1) rfl (.inl rfl)) da_nil)) de_int (od_gt)))))
  (dss_one (ds_ret de_bl))
  dss_nil)
  (dss_cons (ds_if (dt_w (dw_and (dt_cmp (de_len rfl ev.b_len (da_cons (de_var (i := 1) rfl (.inl rfl)) da_nil)) de_int (od_gt)) (dw_and1 (dt_not (dt_val (de_def (h_law_is_number ev) hr (by omega) rfl pass_fn (da_cons (de_item (de_var (i := 1) rfl (.inl rfl)) de_int fun _ _ => rfl) (da_cons de_int (da_cons (de_bin (de_len rfl ev.b_len (da_cons (de_var (i := 0) rfl (.inl rfl)) da_nil)) de_int od_sub) da_nil))) (len_cons (len_cons (len_cons len_nil)))))))))
  (dss_one (ds_ret de_bl))
  dss_nil)
  (dss_one (ds_ret (de_or (de_cmp (de_len rfl ev.b_len (da_cons (de_var (i := 1) rfl (.inl rfl)) da_nil)) de_int (od_lt (units_of hr))) (de_one (de_def (h_law_is_number ev) hr (by omega) rfl pass_fn (da_cons (de_item (de_var (i := 1) rfl (.inl rfl)) de_int fun _ _ => rfl) (da_cons de_int (da_cons (de_bin (de_item (de_var (i := 0) rfl (.inl rfl)) (de_item (de_var (i := 1) rfl (.inl rfl)) de_int fun _ _ => rfl) fun _ _ => rfl) de_int od_sub) da_nil))) (len_cons (len_cons (len_cons len_nil))))))))))
theorem h_law_is_place (ev : Ev K mg base) : Has P w K mg base cl 2 "_law_is_place" ["_law_tables", "_law_thing_here"] 2 [] f_law_is_place := has_by (k := 1) ev.d_law_is_place sc_law_is_place rfl (by decide) (b_law_is_place ev)
theorem sc_law_is_named : FnScope ["_law_thing_here", "_law_sign"] ["_law_thing_here"] (defScope (top 34)) := ⟨rfl, rfl, rfl, by decide +kernel, rfl, by decide +kernel, by decide +kernel⟩
def m_law_is_named : M Fl :=
  (mSeq (mIte (mOr (mNot (tst (mIsi "str" (mVar 0)))) (mNot (mCh (fun i j => decide (i ≤ j)) (fun i j => decide (i ≤ j)) (mC (.int 1)) (mCB gLen (mCons (mVar 0) mNil)) (mC (.int 8)))))
  (mRet [] (mC (.bool false)))
  (ret .nx))
  (mRet [] (mBin gEqE (mLc (mWk [0] (mVar 0)) (.nm 1) (tst (mBin (gInS true) (mVar 1) (mC (.str "abcdefghijklmnopqrstuvwxyz")))) (mVar 1) [1]) (mLst mNil))))
def f_law_is_named : M O := runF 2 m_law_is_named
theorem b_law_is_named (ev : Ev K mg base) : Bd P w K mg base cl 0 "_law_is_named" ["_law_thing_here", "_law_sign"] [] (top 34) m_law_is_named := fun f cdv A outer s H E hr =>
  (dss_cons (ds_if (dt_w (dw_or (dt_not (dt_val (de_isi (T := "str") (by decide) rfl ev.b_isinstance rfl ev.b_str PyProof.Rows.boot_str (de_var (i := 0) rfl (.inl rfl))))) (dw_or1 (dt_not (dt_ch op_le op_le de_int (de_len rfl ev.b_len (da_cons (de_var (i := 0) rfl (.inl rfl)) da_nil)) de_int)))))
  (dss_one (ds_ret de_bl))
  dss_nil)
  (dss_one (ds_ret (de_cmp (de_lc (own := [("_law_sign", 1)]) rfl sc_law_is_named.nd (di_seq (js := [0]) (de_var (i := 0) rfl (.inl rfl))) (by kernel_rfl) (by decide) (fun _ _ _ _ _ => (dg_name (i := 1) sc_law_is_named.nd rfl (.inl rfl))) (fun _ _ _ _ _ => (dts_one (dt_cmp (de_var (i := 1) rfl (.inl rfl)) de_str (od_notInS)))) (fun _ _ _ _ _ => (de_var (i := 1) rfl (.inl rfl)))) (de_lst da_nil len_nil (by decide)) (od_eqE (units_of hr))))))
theorem h_law_is_named (ev : Ev K mg base) : Has P w K mg base cl 1 "_law_is_named" ["_law_thing_here"] 1 [] f_law_is_named := has_by (k := 0) ev.d_law_is_named sc_law_is_named rfl (by decide) (b_law_is_named ev)
theorem sc_law_is_kind : FnScope ["_law_tables", "_law_thing_here"] ["_law_tables", "_law_thing_here"] (defScope (top 35)) := ⟨rfl, rfl, rfl, by decide +kernel, rfl, by decide +kernel, by decide +kernel⟩
def m_law_is_kind : M Fl :=
  (mSeq (mIte (mOr (mNot (tst (mIsi "tuple" (mVar 1)))) (mOr (tst (mBin gNe (mCB gLen (mCons (mVar 1) mNil)) (mC (.int 5)))) (mNot (tst (mCall [] f_law_is_place (mCons (mVar 0) (mCons (mBin gIx (mVar 1) (mC (.int 1))) mNil)))))))
  (mRet [] (mC (.bool false)))
  (ret .nx))
  (mSeq (mIte (mOr (mNot (tst (mCall [] f_law_is_number (mCons (mBin gIx (mVar 1) (mC (.int 0))) (mCons (mC (.int 0)) (mCons (mC (.int 7)) mNil)))))) (mNot (tst (mCall [] f_law_is_number (mCons (mBin gIx (mVar 1) (mC (.int 2))) (mCons (mC (.int 0)) (mCons (mC (.int 3)) mNil)))))))
  (mRet [] (mC (.bool false)))
  (ret .nx))
  (mRet [] (mAndV (mCall [] f_law_is_number (mCons (mBin gIx (mVar 1) (mC (.int 3))) (mCons (mC (.int 1)) (mCons (mC (.int 3)) mNil)))) (mCall [] f_law_are_names (mCons (mBin gIx (mVar 1) (mC (.int 4))) mNil))))))
def f_law_is_kind : M O := runF 2 m_law_is_kind
theorem b_law_is_kind (ev : Ev K mg base) : Bd P w K mg base cl 2 "_law_is_kind" ["_law_tables", "_law_thing_here"] [] (top 35) m_law_is_kind := fun f cdv A outer s H E hr =>
  (dss_cons (ds_if (dt_w (dw_or (dt_not (dt_val (de_isi (T := "tuple") (by decide) rfl ev.b_isinstance rfl ev.b_tuple PyProof.Rows.boot_tuple (de_var (i := 1) rfl (.inl rfl))))) (dw_or (dt_cmp (de_len rfl ev.b_len (da_cons (de_var (i := 1) rfl (.inl rfl)) da_nil)) de_int (od_ne (units_of hr))) (dw_or1 (dt_not (dt_val (de_def (h_law_is_place ev) hr (by omega) rfl pass_fn (da_cons (de_var (i := 0) rfl (.inl rfl)) (da_cons (de_item (de_var (i := 1) rfl (.inl rfl)) de_int fun _ _ => rfl) da_nil)) (len_cons (len_cons len_nil)))))))))
  (dss_one (ds_ret de_bl))
  dss_nil)
  (dss_cons (ds_if (dt_w (dw_or (dt_not (dt_val (de_def (h_law_is_number ev) hr (by omega) rfl pass_fn (da_cons (de_item (de_var (i := 1) rfl (.inl rfl)) de_int fun _ _ => rfl) (da_cons de_int (da_cons de_int da_nil))) (len_cons (len_cons (len_cons len_nil)))))) (dw_or1 (dt_not (dt_val (de_def (h_law_is_number ev) hr (by omega) rfl pass_fn (da_cons (de_item (de_var (i := 1) rfl (.inl rfl)) de_int fun _ _ => rfl) (da_cons de_int (da_cons de_int da_nil))) (len_cons (len_cons (len_cons len_nil)))))))))
  (dss_one (ds_ret de_bl))
  dss_nil)
  (dss_one (ds_ret (de_and (de_def (h_law_is_number ev) hr (by omega) rfl pass_fn (da_cons (de_item (de_var (i := 1) rfl (.inl rfl)) de_int fun _ _ => rfl) (da_cons de_int (da_cons de_int da_nil))) (len_cons (len_cons (len_cons len_nil)))) (de_one (de_def (h_law_are_names ev) hr (by omega) rfl pass_fn (da_cons (de_item (de_var (i := 1) rfl (.inl rfl)) de_int fun _ _ => rfl) da_nil) (len_cons len_nil))))))))
theorem h_law_is_kind (ev : Ev K mg base) : Has P w K mg base cl 3 "_law_is_kind" ["_law_tables", "_law_thing_here"] 2 [] f_law_is_kind := has_by (k := 2) ev.d_law_is_kind sc_law_is_kind rfl (by decide) (b_law_is_kind ev)
theorem sc_law_is_tasted : FnScope ["_law_tables", "_law_thing_here", "_law_word"] ["_law_tables", "_law_thing_here"] (defScope (top 36)) := ⟨rfl, rfl, rfl, by decide +kernel, rfl, by decide +kernel, by decide +kernel⟩
def m_law_is_tasted : M Fl :=
  (mSeq (mIte (mOr (mNot (tst (mIsi "tuple" (mVar 1)))) (mOr (tst (mBin gNe (mCB gLen (mCons (mVar 1) mNil)) (mC (.int 3)))) (mNot (tst (mCall [] f_law_is_place (mCons (mVar 0) (mCons (mBin gIx (mVar 1) (mC (.int 0))) mNil)))))))
  (mRet [] (mC (.bool false)))
  (ret .nx))
  (mSeq (mIte (mOr (tst (mBin gNe (mCB gLen (mCons (mBin gIx (mVar 1) (mC (.int 0))) mNil)) (mC (.int 2)))) (mOr (mNot (tst (mCall [] f_law_are_names (mCons (mBin gIx (mVar 1) (mC (.int 1))) mNil)))) (mNot (tst (mIsi "tuple" (mBin gIx (mVar 1) (mC (.int 2))))))))
  (mRet [] (mC (.bool false)))
  (ret .nx))
  (mSeq (mIte (mOr (tst (mBin gGt (mCB gLen (mCons (mBin gIx (mVar 1) (mC (.int 2))) mNil)) (mC (.int 4)))) (mNot (tst (mCB gAll (mCons (mLc (mWk [] (mBin gIx (mVar 1) (mC (.int 2)))) (.nm 2) (ret true) (mCall [] f_law_is_named (mCons (mVar 2) mNil)) [2]) mNil)))))
  (mRet [] (mC (.bool false)))
  (ret .nx))
  (mRet [] (mBin gEq (mCB gList (mCons (mBin gIx (mVar 1) (mC (.int 2))) mNil)) (mSetE (fun z => .own (.lst (sortedS z))) (mBin gIx (mVar 1) (mC (.int 2)))))))))
def f_law_is_tasted : M O := runF 3 m_law_is_tasted
theorem b_law_is_tasted (ev : Ev K mg base) : Bd P w K mg base cl 2 "_law_is_tasted" ["_law_tables", "_law_thing_here", "_law_word"] [] (top 36) m_law_is_tasted := fun f cdv A outer s H E hr =>
  (dss_cons (ds_if (dt_w (dw_or (dt_not (dt_val (de_isi (T := "tuple") (by decide) rfl ev.b_isinstance rfl ev.b_tuple PyProof.Rows.boot_tuple (de_var (i := 1) rfl (.inl rfl))))) (dw_or (dt_cmp (de_len rfl ev.b_len (da_cons (de_var (i := 1) rfl (.inl rfl)) da_nil)) de_int (od_ne (units_of hr))) (dw_or1 (dt_not (dt_val (de_def (h_law_is_place ev) hr (by omega) rfl pass_fn (da_cons (de_var (i := 0) rfl (.inl rfl)) (da_cons (de_item (de_var (i := 1) rfl (.inl rfl)) de_int fun _ _ => rfl) da_nil)) (len_cons (len_cons len_nil)))))))))
  (dss_one (ds_ret de_bl))
  dss_nil)
  (dss_cons (ds_if (dt_w (dw_or (dt_cmp (de_len rfl ev.b_len (da_cons (de_item (de_var (i := 1) rfl (.inl rfl)) de_int fun _ _ => rfl) da_nil)) de_int (od_ne (units_of hr))) (dw_or (dt_not (dt_val (de_def (h_law_are_names ev) hr (by omega) rfl pass_fn (da_cons (de_item (de_var (i := 1) rfl (.inl rfl)) de_int fun _ _ => rfl) da_nil) (len_cons len_nil)))) (dw_or1 (dt_not (dt_val (de_isi (T := "tuple") (by decide) rfl ev.b_isinstance rfl ev.b_tuple PyProof.Rows.boot_tuple (de_item (de_var (i := 1) rfl (.inl rfl)) de_int fun _ _ => rfl))))))))
  (dss_one (ds_ret de_bl))
  dss_nil)
  (dss_cons (ds_if (dt_w (dw_or (dt_cmp (de_len rfl ev.b_len (da_cons (de_item (de_var (i := 1) rfl (.inl rfl)) de_int fun _ _ => rfl) da_nil)) de_int (od_gt)) (dw_or1 (dt_not (dt_val (de_all rfl rfl ev.b_all (da_cons (de_lc (own := [("_law_word", 2)]) rfl sc_law_is_tasted.nd (di_seq (js := []) (de_item (de_var (i := 1) rfl (.inl rfl)) de_int fun _ _ => rfl)) (by kernel_rfl) (by decide) (fun _ _ _ _ _ => (dg_name (i := 2) sc_law_is_tasted.nd rfl (.inl rfl))) (fun _ _ _ _ _ => dts_nil) (fun _ _ _ _ _ => (de_def (h_law_is_named ev) hr (by omega) rfl pass_xn (da_cons (de_var (i := 2) rfl (.inl rfl)) da_nil) (len_cons len_nil)))) da_nil)))))))
  (dss_one (ds_ret de_bl))
  dss_nil)
  (dss_one (ds_ret (de_cmp (de_list rfl ev.b_list (da_cons (de_item (de_var (i := 1) rfl (.inl rfl)) de_int fun _ _ => rfl) da_nil)) (de_sortSet hr rfl rfl ev.b_sorted rfl ev.b_set (de_item (de_var (i := 1) rfl (.inl rfl)) de_int fun _ _ => rfl)) (od_eq (units_of hr))))))))
theorem h_law_is_tasted (ev : Ev K mg base) : Has P w K mg base cl 3 "_law_is_tasted" ["_law_tables", "_law_thing_here"] 2 [] f_law_is_tasted := has_by (k := 2) ev.d_law_is_tasted sc_law_is_tasted rfl (by decide) (b_law_is_tasted ev)
theorem sc_law_is_whole_house : FnScope ["_law_thing_here", "_law_part", "_law_many"] ["_law_thing_here"] (defScope (top 37)) := ⟨rfl, rfl, rfl, by decide +kernel, rfl, by decide +kernel, by decide +kernel⟩
def m_law_is_whole_house : M Fl :=
  (mSeq (mIte (mOr (mNot (tst (mIsi "tuple" (mVar 0)))) (tst (mBin gNe (mCB gLen (mCons (mVar 0) mNil)) (mC (.int 3)))))
  (mRet [] (mC (.bool false)))
  (ret .nx))
  (mSeq (mIte (mNot (tst (mCB gAll (mCons (mLc (mWk [0] (mVar 0)) (.nm 1) (ret true) (mIsi "tuple" (mVar 1)) [1]) mNil))))
  (mRet [] (mC (.bool false)))
  (ret .nx))
  (mSeq (mIte (mOr (mNot (mCh (fun i j => decide (i ≤ j)) (fun i j => decide (i ≤ j)) (mC (.int 1)) (mCB gLen (mCons (mBin gIx (mVar 0) (mC (.int 0))) mNil)) (mC (.int 3)))) (mNot (tst (mCB gAll (mCons (mLc (mWk [] (mBin gIx (mVar 0) (mC (.int 0)))) (.nm 2) (ret true) (mCall [] f_law_is_number (mCons (mVar 2) (mCons (mC (.int 1)) (mCons (mC (.int 3)) mNil)))) [2]) mNil)))))
  (mRet [] (mC (.bool false)))
  (ret .nx))
  (mSeq (mIte (mOr (tst (mBin gGt (mCB gLen (mCons (mBin gIx (mVar 0) (mC (.int 1))) mNil)) (mC (.int 8)))) (mNot (tst (mCB gAll (mCons (mLc (mWk [] (mBin gIx (mVar 0) (mC (.int 1)))) (.nm 1) (ret true) (mCall [] f_law_is_kind (mCons (mBin gIx (mVar 0) (mC (.int 0))) (mCons (mVar 1) mNil))) [1]) mNil)))))
  (mRet [] (mC (.bool false)))
  (ret .nx))
  (mSeq (mIte (tst (mBin gLt (mSetA (fun z => .d (.int (lenS z))) (fun ks => (.ok () [], .d (.int (dedup ks).length))) (mLc (mWk [] (mBin gIx (mVar 0) (mC (.int 1)))) (.nm 1) (ret true) (mSl (mVar 1) mNo (mSo (mC (.int 2)))) [1])) (mCB gLen (mCons (mBin gIx (mVar 0) (mC (.int 1))) mNil))))
  (mRet [] (mC (.bool false)))
  (ret .nx))
  (mRet [] (mAndV (mBin gLe (mCB gLen (mCons (mBin gIx (mVar 0) (mC (.int 2))) mNil)) (mC (.int 6))) (mCB gAll (mCons (mLc (mWk [] (mBin gIx (mVar 0) (mC (.int 2)))) (.nm 1) (ret true) (mCall [] f_law_is_tasted (mCons (mBin gIx (mVar 0) (mC (.int 0))) (mCons (mVar 1) mNil))) [1]) mNil)))))))))
def f_law_is_whole_house : M O := runF 3 m_law_is_whole_house
theorem b_law_is_whole_house (ev : Ev K mg base) : Bd P w K mg base cl 3 "_law_is_whole_house" ["_law_thing_here", "_law_part", "_law_many"] [] (top 37) m_law_is_whole_house := fun f cdv A outer s H E hr =>
  (dss_cons (ds_if (dt_w (dw_or (dt_not (dt_val (de_isi (T := "tuple") (by decide) rfl ev.b_isinstance rfl ev.b_tuple PyProof.Rows.boot_tuple (de_var (i := 0) rfl (.inr (.inl rfl)))))) (dw_or1 (dt_cmp (de_len rfl ev.b_len (da_cons (de_var (i := 0) rfl (.inr (.inl rfl))) da_nil)) de_int (od_ne (units_of hr))))))
  (dss_one (ds_ret de_bl))
  dss_nil)
  (dss_cons (ds_if (dt_not (dt_val (de_all rfl rfl ev.b_all (da_cons (de_lc (own := [("_law_part", 1)]) rfl sc_law_is_whole_house.nd (di_seq (js := [0]) (de_var (i := 0) rfl (.inr (.inl rfl)))) (by kernel_rfl) (by decide) (fun _ _ _ _ _ => (dg_name (i := 1) sc_law_is_whole_house.nd rfl (.inl rfl))) (fun _ _ _ _ _ => dts_nil) (fun _ _ _ _ _ => (de_isi (T := "tuple") (by decide) rfl ev.b_isinstance rfl ev.b_tuple PyProof.Rows.boot_tuple (de_var (i := 1) rfl (.inl rfl))))) da_nil))))
  (dss_one (ds_ret de_bl))
  dss_nil)
  (dss_cons (ds_if (dt_w (dw_or (dt_not (dt_ch op_le op_le de_int (de_len rfl ev.b_len (da_cons (de_item (de_var (i := 0) rfl (.inr (.inl rfl))) de_int fun _ _ => rfl) da_nil)) de_int)) (dw_or1 (dt_not (dt_val (de_all rfl rfl ev.b_all (da_cons (de_lc (own := [("_law_many", 2)]) rfl sc_law_is_whole_house.nd (di_seq (js := []) (de_item (de_var (i := 0) rfl (.inr (.inl rfl))) de_int fun _ _ => rfl)) (by kernel_rfl) (by decide) (fun _ _ _ _ _ => (dg_name (i := 2) sc_law_is_whole_house.nd rfl (.inl rfl))) (fun _ _ _ _ _ => dts_nil) (fun _ _ _ _ _ => (de_def (h_law_is_number ev) hr (by omega) rfl pass_xn (da_cons (de_var (i := 2) rfl (.inl rfl)) (da_cons de_int (da_cons de_int da_nil))) (len_cons (len_cons (len_cons len_nil)))))) da_nil)))))))
  (dss_one (ds_ret de_bl))
  dss_nil)
  (dss_cons (ds_if (dt_w (dw_or (dt_cmp (de_len rfl ev.b_len (da_cons (de_item (de_var (i := 0) rfl (.inr (.inl rfl))) de_int fun _ _ => rfl) da_nil)) de_int (od_gt)) (dw_or1 (dt_not (dt_val (de_all rfl rfl ev.b_all (da_cons (de_lc (own := [("_law_part", 1)]) rfl sc_law_is_whole_house.nd (di_seq (js := []) (de_item (de_var (i := 0) rfl (.inr (.inl rfl))) de_int fun _ _ => rfl)) (by kernel_rfl) (by decide) (fun _ _ _ _ _ => (dg_name (i := 1) sc_law_is_whole_house.nd rfl (.inl rfl))) (fun _ _ _ _ _ => dts_nil) (fun _ _ _ _ _ => (de_def (h_law_is_kind ev) hr (by omega) rfl pass_xn (da_cons (de_item (de_var (i := 0) rfl (.inr (.inl rfl))) de_int fun _ _ => rfl) (da_cons (de_var (i := 1) rfl (.inl rfl)) da_nil)) (len_cons (len_cons len_nil))))) da_nil)))))))
  (dss_one (ds_ret de_bl))
  dss_nil)
  (dss_cons (ds_if (dt_cmp (de_lenSetA (units_of hr) rfl rfl ev.b_len rfl ev.b_set (de_lc (own := [("_law_part", 1)]) rfl sc_law_is_whole_house.nd (di_seq (js := []) (de_item (de_var (i := 0) rfl (.inr (.inl rfl))) de_int fun _ _ => rfl)) (by kernel_rfl) (by decide) (fun _ _ _ _ _ => (dg_name (i := 1) sc_law_is_whole_house.nd rfl (.inl rfl))) (fun _ _ _ _ _ => dts_nil) (fun _ _ _ _ _ => (de_slice (de_var (i := 1) rfl (.inl rfl)) do_none (do_some de_int))))) (de_len rfl ev.b_len (da_cons (de_item (de_var (i := 0) rfl (.inr (.inl rfl))) de_int fun _ _ => rfl) da_nil)) (od_lt (units_of hr)))
  (dss_one (ds_ret de_bl))
  dss_nil)
  (dss_one (ds_ret (de_and (de_cmp (de_len rfl ev.b_len (da_cons (de_item (de_var (i := 0) rfl (.inr (.inl rfl))) de_int fun _ _ => rfl) da_nil)) de_int (od_le)) (de_one (de_all rfl rfl ev.b_all (da_cons (de_lc (own := [("_law_part", 1)]) rfl sc_law_is_whole_house.nd (di_seq (js := []) (de_item (de_var (i := 0) rfl (.inr (.inl rfl))) de_int fun _ _ => rfl)) (by kernel_rfl) (by decide) (fun _ _ _ _ _ => (dg_name (i := 1) sc_law_is_whole_house.nd rfl (.inl rfl))) (fun _ _ _ _ _ => dts_nil) (fun _ _ _ _ _ => (de_def (h_law_is_tasted ev) hr (by omega) rfl pass_xn (da_cons (de_item (de_var (i := 0) rfl (.inr (.inl rfl))) de_int fun _ _ => rfl) (da_cons (de_var (i := 1) rfl (.inl rfl)) da_nil)) (len_cons (len_cons len_nil))))) da_nil)))))))))))
theorem h_law_is_whole_house (ev : Ev K mg base) : Has P w K mg base cl 4 "_law_is_whole_house" ["_law_thing_here"] 1 [] f_law_is_whole_house := has_by (k := 3) ev.d_law_is_whole_house sc_law_is_whole_house rfl (by decide) (b_law_is_whole_house ev)
theorem sc_law_bounds : FnScope ["_law_row", "_law_name", "_law_taste", "_law_k", "_law_inner", "_law_found", "_law_spot", "_law_keep", "_law_sorts", "_law_many", "_law_words_here"] [] (defScope (top 38)) := ⟨rfl, rfl, rfl, by decide +kernel, rfl, by decide +kernel, by decide +kernel⟩
def m_law_bounds : M Fl :=
  (mSeq (mSet 0 (mLc (mRng1 (mCons (mC (.int 8)) mNil)) (.nm 1) (ret true) (mTup (mCons (mVar 1) (mCons (mTup mNil) (mCons (mC (.int 3)) (mCons (mC (.int 1)) (mCons (mTup mNil) mNil)))))) [1]))
  (mSeq (mSet 2 (mLc (mRng1 (mCons (mC (.int 7)) mNil)) (.nm 3) (ret true) (mTup (mCons (mTup (mCons (mC (.int 0)) (mCons (mC (.int 0)) mNil))) (mCons (mTup mNil) (mCons (mTup mNil) mNil)))) [3]))
  (mSeq (mSet 4 (mLst (mCons (mTup (mCons (mTup mNil) (mCons (mC (.int 3)) (mCons (mC (.int 3)) mNil)))) (mCons (mTup (mCons (mTup mNil) (mCons (mC (.int 4)) (mCons (mC (.int 3)) mNil)))) (mCons (mTup (mCons (mTup (mCons (mC (.int 0)) (mCons (mC (.int 0)) mNil))) (mCons (mC (.int 0)) (mCons (mC (.int 3)) mNil)))) (mCons (mTup (mCons (mTup (mCons (mC (.int 0)) (mCons (mC (.int 0)) mNil))) (mCons (mC (.int 0)) (mCons (mC (.int 4)) mNil)))) mNil))))))
  (mSeq (mSet 5 (mLst (mCons (mTup (mCons (mTup (mCons (mC (.int 3)) (mCons (mC (.int 3)) (mCons (mC (.int 3)) mNil)))) (mCons (mTup mNil) (mCons (mTup mNil) mNil)))) (mCons (mTup (mCons (mTup (mCons (mC (.int 3)) (mCons (mC (.int 3)) (mCons (mC (.int 3)) (mCons (mC (.int 3)) mNil))))) (mCons (mTup mNil) (mCons (mTup mNil) mNil)))) (mCons (mTup (mCons (mTup (mCons (mC (.int 3)) mNil)) (mCons (mTup mNil) (mCons (mTup mNil) mNil)))) (mCons (mTup (mCons (mTup (mCons (mC (.int 4)) mNil)) (mCons (mTup mNil) (mCons (mTup mNil) mNil)))) mNil))))))
  (mSeq (mSet 5 (mBin gAdd (mVar 5) (mLst (mCons (mTup (mCons (mTup (mCons (mC (.int 1)) mNil)) (mCons (mCB gTuple (mCons (mVar 0) mNil)) (mCons (mTup mNil) mNil)))) (mCons (mTup (mCons (mTup (mCons (mC (.int 1)) mNil)) (mCons (mBin gAdd (mCB gTuple (mCons (mVar 0) mNil)) (mTup (mCons (mTup (mCons (mC (.int 0)) (mCons (mTup (mCons (mC (.int 0)) mNil)) (mCons (mC (.int 3)) (mCons (mC (.int 1)) (mCons (mTup mNil) mNil)))))) mNil))) (mCons (mTup mNil) mNil)))) mNil)))))
  (mSeq (mSet 5 (mBin gAdd (mVar 5) (mLst (mCons (mTup (mCons (mTup (mCons (mC (.int 1)) mNil)) (mCons (mTup mNil) (mCons (mCB gTuple (mCons (mSl (mVar 2) mNo (mSo (mC (.int 6)))) mNil)) mNil)))) (mCons (mTup (mCons (mTup (mCons (mC (.int 1)) mNil)) (mCons (mTup mNil) (mCons (mCB gTuple (mCons (mVar 2) mNil)) mNil)))) (mCons (mTup (mCons (mTup mNil) (mCons (mTup mNil) (mCons (mTup mNil) mNil)))) (mCons (mTup (mCons (mTup (mCons (mC (.int 1)) mNil)) (mCons (mTup mNil) (mCons (mTup mNil) mNil)))) mNil)))))))
  (mSeq (mSet 5 (mBin gAdd (mVar 5) (mLc (mWk [4] (mVar 4)) (.tp [(.nm 6), (.nm 7), (.nm 8)]) (ret true) (mTup (mCons (mTup (mCons (mC (.int 1)) mNil)) (mCons (mTup (mCons (mTup (mCons (mC (.int 0)) (mCons (mVar 6) (mCons (mVar 7) (mCons (mVar 8) (mCons (mTup mNil) mNil)))))) mNil)) (mCons (mTup mNil) mNil)))) [6, 7, 8])))
  (mSeq (mSet 5 (mBin gAdd (mVar 5) (mLc (mWk [] (mTup (mCons (mC (.int 3)) (mCons (mC (.int 4)) mNil)))) (.nm 9) (ret true) (mTup (mCons (mTup (mCons (mC (.int 1)) mNil)) (mCons (mTup (mCons (mTup (mCons (mC (.int 0)) (mCons (mTup mNil) (mCons (mC (.int 0)) (mCons (mC (.int 1)) (mCons (mTupR1 (mVar 9)) mNil)))))) mNil)) (mCons (mTup mNil) mNil)))) [9])))
  (mSeq (mFor (mWk [] (mTup (mCons (mTup (mCons (mC (.str "a")) (mCons (mC (.str "b")) (mCons (mC (.str "c")) (mCons (mC (.str "d")) mNil))))) (mCons (mTup (mCons (mC (.str "a")) (mCons (mC (.str "b")) (mCons (mC (.str "c")) (mCons (mC (.str "d")) (mCons (mC (.str "e")) mNil)))))) (mCons (mTup (mCons (mC (.str "abcdefgh")) mNil)) (mCons (mTup (mCons (mC (.str "abcdefghi")) mNil)) (mCons (mTup (mCons (mC (.str "b")) (mCons (mC (.str "a")) mNil))) (mCons (mTup (mCons (mC (.str "")) mNil)) mNil)))))))) (.nm 10)
  (mEx (mMetF 5 gApp (mCons (mTup (mCons (mTup (mCons (mC (.int 1)) mNil)) (mCons (mTup mNil) (mCons (mTup (mCons (mTup (mCons (mTup (mCons (mC (.int 0)) (mCons (mC (.int 0)) mNil))) (mCons (mTup mNil) (mCons (mVar 10) mNil)))) mNil)) mNil)))) mNil))))
  (mRet [] (mVar 5)))))))))))
def f_law_bounds : M O := runF 11 m_law_bounds
theorem b_law_bounds (ev : Ev K mg base) : Bd P w K mg base cl 0 "_law_bounds" ["_law_row", "_law_name", "_law_taste", "_law_k", "_law_inner", "_law_found", "_law_spot", "_law_keep", "_law_sorts", "_law_many", "_law_words_here"] [] (top 38) m_law_bounds := fun f cdv A outer s H E hr =>
  (dss_cons (ds_setLc (i := 0) (own := [("_law_name", 1)]) rfl sc_law_bounds.nd rfl rfl rfl (sw_true rfl rfl rfl rfl) (di_rng1 rfl ev.b_range (da_cons de_int da_nil)) (by kernel_rfl) (by decide) (fun _ _ _ _ _ => (dg_name (i := 1) sc_law_bounds.nd rfl (.inl rfl))) (fun _ _ _ _ _ => dts_nil) (fun _ _ _ _ _ => (de_tup (da_cons (de_var (i := 1) rfl (.inl rfl)) (da_cons (de_tup da_nil len_nil (by decide)) (da_cons de_int (da_cons de_int (da_cons (de_tup da_nil len_nil (by decide)) da_nil))))) (len_cons (len_cons (len_cons (len_cons (len_cons len_nil))))) (by decide))))
  (dss_cons (ds_setLc (i := 2) (own := [("_law_k", 3)]) rfl sc_law_bounds.nd rfl rfl rfl (sw_true rfl rfl rfl rfl) (di_rng1 rfl ev.b_range (da_cons de_int da_nil)) (by kernel_rfl) (by decide) (fun _ _ _ _ _ => (dg_name (i := 3) sc_law_bounds.nd rfl (.inl rfl))) (fun _ _ _ _ _ => dts_nil) (fun _ _ _ _ _ => (de_tup (da_cons (de_tup (da_cons de_int (da_cons de_int da_nil)) (len_cons (len_cons len_nil)) (by decide)) (da_cons (de_tup da_nil len_nil (by decide)) (da_cons (de_tup da_nil len_nil (by decide)) da_nil))) (len_cons (len_cons (len_cons len_nil))) (by decide))))
  (dss_cons (ds_set (i := 4) sc_law_bounds.nd rfl (.inl rfl) rfl (de_lst (da_cons (de_tup (da_cons (de_tup da_nil len_nil (by decide)) (da_cons de_int (da_cons de_int da_nil))) (len_cons (len_cons (len_cons len_nil))) (by decide)) (da_cons (de_tup (da_cons (de_tup da_nil len_nil (by decide)) (da_cons de_int (da_cons de_int da_nil))) (len_cons (len_cons (len_cons len_nil))) (by decide)) (da_cons (de_tup (da_cons (de_tup (da_cons de_int (da_cons de_int da_nil)) (len_cons (len_cons len_nil)) (by decide)) (da_cons de_int (da_cons de_int da_nil))) (len_cons (len_cons (len_cons len_nil))) (by decide)) (da_cons (de_tup (da_cons (de_tup (da_cons de_int (da_cons de_int da_nil)) (len_cons (len_cons len_nil)) (by decide)) (da_cons de_int (da_cons de_int da_nil))) (len_cons (len_cons (len_cons len_nil))) (by decide)) da_nil)))) (len_cons (len_cons (len_cons (len_cons len_nil)))) (by decide)))
  (dss_cons (ds_set (i := 5) sc_law_bounds.nd rfl (.inl rfl) rfl (de_lst (da_cons (de_tup (da_cons (de_tup (da_cons de_int (da_cons de_int (da_cons de_int da_nil))) (len_cons (len_cons (len_cons len_nil))) (by decide)) (da_cons (de_tup da_nil len_nil (by decide)) (da_cons (de_tup da_nil len_nil (by decide)) da_nil))) (len_cons (len_cons (len_cons len_nil))) (by decide)) (da_cons (de_tup (da_cons (de_tup (da_cons de_int (da_cons de_int (da_cons de_int (da_cons de_int da_nil)))) (len_cons (len_cons (len_cons (len_cons len_nil)))) (by decide)) (da_cons (de_tup da_nil len_nil (by decide)) (da_cons (de_tup da_nil len_nil (by decide)) da_nil))) (len_cons (len_cons (len_cons len_nil))) (by decide)) (da_cons (de_tup (da_cons (de_tup (da_cons de_int da_nil) (len_cons len_nil) (by decide)) (da_cons (de_tup da_nil len_nil (by decide)) (da_cons (de_tup da_nil len_nil (by decide)) da_nil))) (len_cons (len_cons (len_cons len_nil))) (by decide)) (da_cons (de_tup (da_cons (de_tup (da_cons de_int da_nil) (len_cons len_nil) (by decide)) (da_cons (de_tup da_nil len_nil (by decide)) (da_cons (de_tup da_nil len_nil (by decide)) da_nil))) (len_cons (len_cons (len_cons len_nil))) (by decide)) da_nil)))) (len_cons (len_cons (len_cons (len_cons len_nil)))) (by decide)))
  (dss_cons (ds_set (i := 5) sc_law_bounds.nd rfl (.inl rfl) rfl (de_bin (de_var (i := 5) rfl (.inl rfl)) (de_lst (da_cons (de_tup (da_cons (de_tup (da_cons de_int da_nil) (len_cons len_nil) (by decide)) (da_cons (de_tuple rfl ev.b_tuple (da_cons (de_var (i := 0) rfl (.inl rfl)) da_nil)) (da_cons (de_tup da_nil len_nil (by decide)) da_nil))) (len_cons (len_cons (len_cons len_nil))) (by decide)) (da_cons (de_tup (da_cons (de_tup (da_cons de_int da_nil) (len_cons len_nil) (by decide)) (da_cons (de_bin (de_tuple rfl ev.b_tuple (da_cons (de_var (i := 0) rfl (.inl rfl)) da_nil)) (de_tup (da_cons (de_tup (da_cons de_int (da_cons (de_tup (da_cons de_int da_nil) (len_cons len_nil) (by decide)) (da_cons de_int (da_cons de_int (da_cons (de_tup da_nil len_nil (by decide)) da_nil))))) (len_cons (len_cons (len_cons (len_cons (len_cons len_nil))))) (by decide)) da_nil) (len_cons len_nil) (by decide)) od_add) (da_cons (de_tup da_nil len_nil (by decide)) da_nil))) (len_cons (len_cons (len_cons len_nil))) (by decide)) da_nil)) (len_cons (len_cons len_nil)) (by decide)) od_add))
  (dss_cons (ds_set (i := 5) sc_law_bounds.nd rfl (.inl rfl) rfl (de_bin (de_var (i := 5) rfl (.inl rfl)) (de_lst (da_cons (de_tup (da_cons (de_tup (da_cons de_int da_nil) (len_cons len_nil) (by decide)) (da_cons (de_tup da_nil len_nil (by decide)) (da_cons (de_tuple rfl ev.b_tuple (da_cons (de_slice (de_var (i := 2) rfl (.inl rfl)) do_none (do_some de_int)) da_nil)) da_nil))) (len_cons (len_cons (len_cons len_nil))) (by decide)) (da_cons (de_tup (da_cons (de_tup (da_cons de_int da_nil) (len_cons len_nil) (by decide)) (da_cons (de_tup da_nil len_nil (by decide)) (da_cons (de_tuple rfl ev.b_tuple (da_cons (de_var (i := 2) rfl (.inl rfl)) da_nil)) da_nil))) (len_cons (len_cons (len_cons len_nil))) (by decide)) (da_cons (de_tup (da_cons (de_tup da_nil len_nil (by decide)) (da_cons (de_tup da_nil len_nil (by decide)) (da_cons (de_tup da_nil len_nil (by decide)) da_nil))) (len_cons (len_cons (len_cons len_nil))) (by decide)) (da_cons (de_tup (da_cons (de_tup (da_cons de_int da_nil) (len_cons len_nil) (by decide)) (da_cons (de_tup da_nil len_nil (by decide)) (da_cons (de_tup da_nil len_nil (by decide)) da_nil))) (len_cons (len_cons (len_cons len_nil))) (by decide)) da_nil)))) (len_cons (len_cons (len_cons (len_cons len_nil)))) (by decide)) od_add))
  (dss_cons (ds_set (i := 5) sc_law_bounds.nd rfl (.inl rfl) rfl (de_bin (de_var (i := 5) rfl (.inl rfl)) (de_lc (own := [("_law_spot", 6), ("_law_keep", 7), ("_law_sorts", 8)]) rfl sc_law_bounds.nd (di_seq (js := [4]) (de_var (i := 4) rfl (.inl rfl))) (by kernel_rfl) (by decide) (fun _ _ _ _ _ => (dg_tup rfl (dgs_cons (dg_name (i := 6) sc_law_bounds.nd rfl (.inl rfl)) (dgs_cons (dg_name (i := 7) sc_law_bounds.nd rfl (.inl rfl)) (dgs_cons (dg_name (i := 8) sc_law_bounds.nd rfl (.inl rfl)) dgs_nil))))) (fun _ _ _ _ _ => dts_nil) (fun _ _ _ _ _ => (de_tup (da_cons (de_tup (da_cons de_int da_nil) (len_cons len_nil) (by decide)) (da_cons (de_tup (da_cons (de_tup (da_cons de_int (da_cons (de_var (i := 6) rfl (.inl rfl)) (da_cons (de_var (i := 7) rfl (.inl rfl)) (da_cons (de_var (i := 8) rfl (.inl rfl)) (da_cons (de_tup da_nil len_nil (by decide)) da_nil))))) (len_cons (len_cons (len_cons (len_cons (len_cons len_nil))))) (by decide)) da_nil) (len_cons len_nil) (by decide)) (da_cons (de_tup da_nil len_nil (by decide)) da_nil))) (len_cons (len_cons (len_cons len_nil))) (by decide)))) od_add))
  (dss_cons (ds_set (i := 5) sc_law_bounds.nd rfl (.inl rfl) rfl (de_bin (de_var (i := 5) rfl (.inl rfl)) (de_lc (own := [("_law_many", 9)]) rfl sc_law_bounds.nd (di_seq (js := []) (de_tup (da_cons de_int (da_cons de_int da_nil)) (len_cons (len_cons len_nil)) (by decide))) (by kernel_rfl) (by decide) (fun _ _ _ _ _ => (dg_name (i := 9) sc_law_bounds.nd rfl (.inl rfl))) (fun _ _ _ _ _ => dts_nil) (fun _ _ _ _ _ => (de_tup (da_cons (de_tup (da_cons de_int da_nil) (len_cons len_nil) (by decide)) (da_cons (de_tup (da_cons (de_tup (da_cons de_int (da_cons (de_tup da_nil len_nil (by decide)) (da_cons de_int (da_cons de_int (da_cons (de_tupR1 rfl rfl ev.b_tuple rfl ev.b_range (de_var (i := 9) rfl (.inl rfl))) da_nil))))) (len_cons (len_cons (len_cons (len_cons (len_cons len_nil))))) (by decide)) da_nil) (len_cons len_nil) (by decide)) (da_cons (de_tup da_nil len_nil (by decide)) da_nil))) (len_cons (len_cons (len_cons len_nil))) (by decide)))) od_add))
  (dss_cons (ds_for (ios := []) pow_fn rfl (di_seq (js := []) (de_tup (da_cons (de_tup (da_cons de_str (da_cons de_str (da_cons de_str (da_cons de_str da_nil)))) (len_cons (len_cons (len_cons (len_cons len_nil)))) (by decide)) (da_cons (de_tup (da_cons de_str (da_cons de_str (da_cons de_str (da_cons de_str (da_cons de_str da_nil))))) (len_cons (len_cons (len_cons (len_cons (len_cons len_nil))))) (by decide)) (da_cons (de_tup (da_cons de_str da_nil) (len_cons len_nil) (by decide)) (da_cons (de_tup (da_cons de_str da_nil) (len_cons len_nil) (by decide)) (da_cons (de_tup (da_cons de_str (da_cons de_str da_nil)) (len_cons (len_cons len_nil)) (by decide)) (da_cons (de_tup (da_cons de_str da_nil) (len_cons len_nil) (by decide)) da_nil)))))) (len_cons (len_cons (len_cons (len_cons (len_cons (len_cons len_nil)))))) (by decide))) (dg_name (i := 10) sc_law_bounds.nd rfl (.inl rfl))
  (dss_one (ds_expr (de_app (i := 5) rfl (.inl rfl) (da_cons (de_tup (da_cons (de_tup (da_cons de_int da_nil) (len_cons len_nil) (by decide)) (da_cons (de_tup da_nil len_nil (by decide)) (da_cons (de_tup (da_cons (de_tup (da_cons (de_tup (da_cons de_int (da_cons de_int da_nil)) (len_cons (len_cons len_nil)) (by decide)) (da_cons (de_tup da_nil len_nil (by decide)) (da_cons (de_var (i := 10) rfl (.inl rfl)) da_nil))) (len_cons (len_cons (len_cons len_nil))) (by decide)) da_nil) (len_cons len_nil) (by decide)) da_nil))) (len_cons (len_cons (len_cons len_nil))) (by decide)) da_nil) (len_cons len_nil)))) (by decide) (hw_wk (by decide)) (by decide))
  (dss_one (ds_ret (de_var (i := 5) rfl (.inl rfl)))))))))))))
theorem h_law_bounds (ev : Ev K mg base) : Has P w K mg base cl 1 "_law_bounds" [] 0 [] f_law_bounds := has_by (k := 0) ev.d_law_bounds sc_law_bounds rfl (by decide) (b_law_bounds ev)
theorem sc_law : FnScope ["_law_script", "_law_k", "_law_pen_here", "_law_house", "_law_turn", "_law_thing_here"] ["_law_script"] (defScope (top 39)) := ⟨rfl, rfl, rfl, by decide +kernel, rfl, by decide +kernel, by decide +kernel⟩
def m_law : M Fl :=
  (mSeq (mFor (mRng1 (mCons (mCB gMax2 (mCons (mC (.int 1)) (mCons (mCB gMin2 (mCons (mCB gLen (mCons (mVar 0) mNil)) (mCons (mC (.int 3)) mNil))) mNil))) mNil)) (.nm 1)
  (mSeq (mSet 2 (mCall [] f_law_pen (mCons (mCall [] f_law_cell_at (mCons (mVar 0) (mCons (mVar 1) mNil))) mNil)))
  (mSeq (mSet 3 (mCall [0] f_law_raw (mCons (mVar 2) mNil)))
  (mSeq (mIte (mNot (tst (mCall [] f_is_house (mCons (mVar 3) mNil))))
  (mRet [] (mC (.bool false)))
  (ret .nx))
  (mSeq (mFor (mRng1 (mCons (mC (.int 8)) mNil)) (.nm 4)
  (mSeq (mSet 5 (mCall [0] (f_law_spoilt 6) (mCons (mVar 2) (mCons (mVar 3) mNil))))
  (mIte (tst (mBin gNe (mCall [] f_is_house (mCons (mVar 5) mNil)) (mCall [] f_law_is_whole_house (mCons (mVar 5) mNil))))
  (mRet [] (mC (.bool false)))
  (ret .nx))))
  (mSeq (mSet 5 (mCall [0] (f_law_thing 4) (mCons (mVar 2) (mCons (mC (.int 3)) mNil))))
  (mIte (mOr (tst (mBin gNe (mCall [] f_is_house (mCons (mVar 5) mNil)) (mCall [] f_law_is_whole_house (mCons (mVar 5) mNil)))) (mOr (tst (mCall [] f_is_house (mCons (mCB gList (mCons (mVar 3) mNil)) mNil))) (tst (mCall [] f_is_house (mCons (mSl (mVar 3) mNo (mSo (mC (.int 2)))) mNil)))))
  (mRet [] (mC (.bool false)))
  (ret .nx))))))))
  (mRet [] (mBin gEq (bnd (frzV 5) fun _ => (mLc (mWk [] (mCall [] f_law_bounds mNil)) (.nm 5) (ret true) (mCall [] f_is_house (mCons (mVar 5) mNil)) [5])) (bnd (frzV 5) fun _ => (mLc (mWk [] (mCall [] f_law_bounds mNil)) (.nm 5) (ret true) (mCall [] f_law_is_whole_house (mCons (mVar 5) mNil)) [5])))))
def f_law : M O := runF 6 m_law
theorem b_law (ev : Ev K mg base) : Bd P w K mg base cl 13 "law" ["_law_script", "_law_k", "_law_pen_here", "_law_house", "_law_turn", "_law_thing_here"] [] (top 39) m_law := fun f cdv A outer s H E hr =>
  (dss_cons (ds_for (ios := []) pow_fn rfl (di_rng1 rfl ev.b_range (da_cons (de_max2 rfl rfl ev.b_max (da_cons de_int (da_cons (de_min2 rfl rfl ev.b_min (da_cons (de_len rfl ev.b_len (da_cons (de_var (i := 0) rfl (.inl rfl)) da_nil)) (da_cons de_int da_nil))) da_nil))) da_nil)) (dg_name (i := 1) sc_law.nd rfl (.inl rfl))
  (dss_cons (ds_set (i := 2) sc_law.nd rfl (.inl rfl) rfl (de_def (h_law_pen ev) hr (by omega) rfl pass_fn (da_cons (de_def (h_law_cell_at ev) hr (by omega) rfl pass_fn (da_cons (de_var (i := 0) rfl (.inl rfl)) (da_cons (de_var (i := 1) rfl (.inl rfl)) da_nil)) (len_cons (len_cons len_nil))) da_nil) (len_cons len_nil)))
  (dss_cons (ds_set (i := 3) sc_law.nd rfl (.inl rfl) rfl (de_def (h_law_raw ev) hr (by omega) rfl pass_fn (da_cons (de_var (i := 2) rfl (.inl rfl)) da_nil) (len_cons len_nil)))
  (dss_cons (ds_if (dt_not (dt_val (de_def (h_is_house ev) hr (by omega) rfl pass_fn (da_cons (de_var (i := 3) rfl (.inl rfl)) da_nil) (len_cons len_nil))))
  (dss_one (ds_ret de_bl))
  dss_nil)
  (dss_cons (ds_for (ios := []) pow_fn rfl (di_rng1 rfl ev.b_range (da_cons de_int da_nil)) (dg_name (i := 4) sc_law.nd rfl (.inl rfl))
  (dss_cons (ds_set (i := 5) sc_law.nd rfl (.inl rfl) rfl (de_def (h_law_spoilt ev 6) hr (by omega) rfl pass_fn (da_cons (de_var (i := 2) rfl (.inl rfl)) (da_cons (de_var (i := 3) rfl (.inl rfl)) da_nil)) (len_cons (len_cons len_nil))))
  (dss_one (ds_if (dt_cmp (de_def (h_is_house ev) hr (by omega) rfl pass_fn (da_cons (de_var (i := 5) rfl (.inl rfl)) da_nil) (len_cons len_nil)) (de_def (h_law_is_whole_house ev) hr (by omega) rfl pass_fn (da_cons (de_var (i := 5) rfl (.inl rfl)) da_nil) (len_cons len_nil)) (od_ne (units_of hr)))
  (dss_one (ds_ret de_bl))
  dss_nil))) (by decide) hw_rng1 (by decide))
  (dss_cons (ds_set (i := 5) sc_law.nd rfl (.inl rfl) rfl (de_def (h_law_thing ev 4) hr (by omega) rfl pass_fn (da_cons (de_var (i := 2) rfl (.inl rfl)) (da_cons de_int da_nil)) (len_cons (len_cons len_nil))))
  (dss_one (ds_if (dt_w (dw_or (dt_cmp (de_def (h_is_house ev) hr (by omega) rfl pass_fn (da_cons (de_var (i := 5) rfl (.inl rfl)) da_nil) (len_cons len_nil)) (de_def (h_law_is_whole_house ev) hr (by omega) rfl pass_fn (da_cons (de_var (i := 5) rfl (.inl rfl)) da_nil) (len_cons len_nil)) (od_ne (units_of hr))) (dw_or (dt_val (de_def (h_is_house ev) hr (by omega) rfl pass_fn (da_cons (de_list rfl ev.b_list (da_cons (de_var (i := 3) rfl (.inl rfl)) da_nil)) da_nil) (len_cons len_nil))) (dw_or1 (dt_val (de_def (h_is_house ev) hr (by omega) rfl pass_fn (da_cons (de_slice (de_var (i := 3) rfl (.inl rfl)) do_none (do_some de_int)) da_nil) (len_cons len_nil)))))))
  (dss_one (ds_ret de_bl))
  dss_nil))))))) (by decide) hw_rng1 (by decide))
  (dss_one (ds_ret (de_cmp (de_frz 5 (de_lc (own := [("_law_thing_here", 5)]) rfl sc_law.nd (di_seq (js := []) (de_def0 (h_law_bounds ev) hr (by omega) rfl pass_fn)) (by kernel_rfl) (by decide) (fun _ _ _ _ _ => (dg_name (i := 5) sc_law.nd rfl (.inl rfl))) (fun _ _ _ _ _ => dts_nil) (fun _ _ _ _ _ => (de_def (h_is_house ev) hr (by omega) rfl pass_xn (da_cons (de_var (i := 5) rfl (.inl rfl)) da_nil) (len_cons len_nil))))) (de_frz 5 (de_lc (own := [("_law_thing_here", 5)]) rfl sc_law.nd (di_seq (js := []) (de_def0 (h_law_bounds ev) hr (by omega) rfl pass_fn)) (by kernel_rfl) (by decide) (fun _ _ _ _ _ => (dg_name (i := 5) sc_law.nd rfl (.inl rfl))) (fun _ _ _ _ _ => dts_nil) (fun _ _ _ _ _ => (de_def (h_law_is_whole_house ev) hr (by omega) rfl pass_xn (da_cons (de_var (i := 5) rfl (.inl rfl)) da_nil) (len_cons len_nil))))) (od_eq (units_of hr))))))
theorem h_law (ev : Ev K mg base) : Has P w K mg base cl 14 "law" ["_law_script"] 1 [] f_law := has_by (k := 13) ev.d_law sc_law rfl (by decide) (b_law ev)
end
end Mi

set_option Elab.async false
set_option linter.all false
set_option maxRecDepth 20000
set_option maxHeartbeats 0
namespace Mi
open PySem PySem.Spec L2
local macro_rules
  | `(tactic| push_cast) => `(tactic| simp only [ok_ok, ok_ex, ok_stuck, ok_ret, ok_stk, ok_bnd, ok_ofO, opt_some, opt_none, opt_map, opt_bind, opt_ite, rb_b, ri_i, ro_d, ro_own, ro_pl, ok_mC, ok_bin, ok_isi, ok_tst, ok_and, ok_or, ok_not, ok_andV, ok_orV, ok_notV, ok_mif, ok_nil, ok_cons, ok_frz_d, ok_frz_pl, ok_frzAll_nil, ok_frzAll_cons, ok_tup, ok_lst, ok_no, ok_so, ok_sl, ok_cb, resAll_nil, resAll_cons, ok_call, ok_seq, seqQ_nx, seqQ_rt, seqQ_bk, seqQ_ct, ok_mEx, ok_mRet, ok_ite, ok_set, ok_setK_d, ok_setK_own, ok_setK_pl, ok_runF, runQ_rt, runQ_nx, frz_d, frz_lst, frz_dat, frz_pl, res_d, res_pl, rv_val, rv_tup, rv_lst, orv_dat, orv_lst, ok_neg, ok_lstR, ok_chkL, lstAt, ok_mMet, ok_mMetF, ok_store, ok_mFor, forQ_nx, forQ_ct, forQ_bk, forQ_rt, ok_mLc, ok_mWk, wkOf_str, wkOf_list, wkOf_tuple, wkOf_pl, rsI_i, ok_rng1, ok_rng2, ok_rng3, rsI2_i, rsI3_i, ok_enu, ok_zip, seqOf_list, seqOf_tuple, seqOf_pl, ok_setE, ok_back, rs_s, ok_tx0, ok_tx1, ok_dic1, lst1_l, datAt, ok_sortK, ok_maxK, rd1_d, ok_mTgt, ok_isN, ok_maxD, gExt_l, gExt_t, gIns_0, gClr_0, gSorted_l, mVar, argOs, argO, ioSlots, lentSlots, apart, backEnv, allFlat, O.flat, flat, flats, wipeE, restE, ownFree, srcOk, asgT_nm, asgT_tp, asgTs_nil, asgTs_cons, Option.bind_some, opt_vB, opt_vI, gLt_i, gLe_i, gGt_i, gGe_i, gAdd_i, gAdd_t, gAdd_l, gAdd_s, gSub_i, gMul_i, gFdiv_i, gMod_i, gPow_i, gIx_l, gIx_t, gIx_s, gLen_l, gLen_t, gLen_s, gTuple_l, gTuple_t, gList_l, gList_t, gInt_i, gInt_b, gMax2_i, gMin2_i, gCut_l, gCut_t, gCut_s, gAll_l, gAny_l, gSum_l, gEq_i, gNe_i, gEq_b, gNe_b, gEqE_l, gNeE_l, gEqE_t, gNeE_t, gApp_1, gPopI_1, gStr_i, seqD_l, seqD_t, atI_0, List.cons_append, List.nil_append, List.length_cons, List.length_nil, List.replicate_succ, List.replicate_zero, Nat.reduceAdd, Nat.reduceSub, List.getElem?_cons_succ, List.getElem?_cons_zero, List.set_cons_succ, List.set_cons_zero, List.getElem?_nil, List.contains_cons, List.contains_nil, Bool.or_false, Bool.false_or, Bool.or_true, Bool.true_or, Bool.and_true, Bool.true_and, Bool.and_false, Bool.false_and, Nat.reduceBEq, List.isEmpty_nil, List.isEmpty_cons, Bool.not_true, Bool.not_false, List.all_cons, List.all_nil, List.any_cons, List.any_nil, Option.getD_some, Option.getD_none, decide_eq_true_eq, decide_eq_false_iff_not, Bool.true_eq_false, Bool.false_eq_true, true_implies, false_implies, true_and, and_true, false_and, and_false, implies_true, Bool.not_eq_true', Bool.not_eq_false', if_true, if_false, ite_true, ite_false, reduceCtorEq, forall_const, isi_bool_bool, isi_bool_int, isi_bool_str, isi_bool_list, isi_bool_tuple, isi_bool_none, isi_bool_dict, isi_int_bool, isi_int_int, isi_int_str, isi_int_list, isi_int_tuple, isi_int_none, isi_int_dict, isi_str_bool, isi_str_int, isi_str_str, isi_str_list, isi_str_tuple, isi_str_none, isi_str_dict, isi_list_bool, isi_list_int, isi_list_str, isi_list_list, isi_list_tuple, isi_list_none, isi_list_dict, isi_tuple_bool, isi_tuple_int, isi_tuple_str, isi_tuple_list, isi_tuple_tuple, isi_tuple_none, isi_tuple_dict, isi_dict_bool, isi_dict_int, isi_dict_str, isi_dict_list, isi_dict_tuple, isi_dict_none, isi_dict_dict])
  | `(tactic| push_cast [$ls,*]) => `(tactic| simp only [ok_ok, ok_ex, ok_stuck, ok_ret, ok_stk, ok_bnd, ok_ofO, opt_some, opt_none, opt_map, opt_bind, opt_ite, rb_b, ri_i, ro_d, ro_own, ro_pl, ok_mC, ok_bin, ok_isi, ok_tst, ok_and, ok_or, ok_not, ok_andV, ok_orV, ok_notV, ok_mif, ok_nil, ok_cons, ok_frz_d, ok_frz_pl, ok_frzAll_nil, ok_frzAll_cons, ok_tup, ok_lst, ok_no, ok_so, ok_sl, ok_cb, resAll_nil, resAll_cons, ok_call, ok_seq, seqQ_nx, seqQ_rt, seqQ_bk, seqQ_ct, ok_mEx, ok_mRet, ok_ite, ok_set, ok_setK_d, ok_setK_own, ok_setK_pl, ok_runF, runQ_rt, runQ_nx, frz_d, frz_lst, frz_dat, frz_pl, res_d, res_pl, rv_val, rv_tup, rv_lst, orv_dat, orv_lst, ok_neg, ok_lstR, ok_chkL, lstAt, ok_mMet, ok_mMetF, ok_store, ok_mFor, forQ_nx, forQ_ct, forQ_bk, forQ_rt, ok_mLc, ok_mWk, wkOf_str, wkOf_list, wkOf_tuple, wkOf_pl, rsI_i, ok_rng1, ok_rng2, ok_rng3, rsI2_i, rsI3_i, ok_enu, ok_zip, seqOf_list, seqOf_tuple, seqOf_pl, ok_setE, ok_back, rs_s, ok_tx0, ok_tx1, ok_dic1, lst1_l, datAt, ok_sortK, ok_maxK, rd1_d, ok_mTgt, ok_isN, ok_maxD, gExt_l, gExt_t, gIns_0, gClr_0, gSorted_l, mVar, argOs, argO, ioSlots, lentSlots, apart, backEnv, allFlat, O.flat, flat, flats, wipeE, restE, ownFree, srcOk, asgT_nm, asgT_tp, asgTs_nil, asgTs_cons, Option.bind_some, opt_vB, opt_vI, gLt_i, gLe_i, gGt_i, gGe_i, gAdd_i, gAdd_t, gAdd_l, gAdd_s, gSub_i, gMul_i, gFdiv_i, gMod_i, gPow_i, gIx_l, gIx_t, gIx_s, gLen_l, gLen_t, gLen_s, gTuple_l, gTuple_t, gList_l, gList_t, gInt_i, gInt_b, gMax2_i, gMin2_i, gCut_l, gCut_t, gCut_s, gAll_l, gAny_l, gSum_l, gEq_i, gNe_i, gEq_b, gNe_b, gEqE_l, gNeE_l, gEqE_t, gNeE_t, gApp_1, gPopI_1, gStr_i, seqD_l, seqD_t, atI_0, List.cons_append, List.nil_append, List.length_cons, List.length_nil, List.replicate_succ, List.replicate_zero, Nat.reduceAdd, Nat.reduceSub, List.getElem?_cons_succ, List.getElem?_cons_zero, List.set_cons_succ, List.set_cons_zero, List.getElem?_nil, List.contains_cons, List.contains_nil, Bool.or_false, Bool.false_or, Bool.or_true, Bool.true_or, Bool.and_true, Bool.true_and, Bool.and_false, Bool.false_and, Nat.reduceBEq, List.isEmpty_nil, List.isEmpty_cons, Bool.not_true, Bool.not_false, List.all_cons, List.all_nil, List.any_cons, List.any_nil, Option.getD_some, Option.getD_none, decide_eq_true_eq, decide_eq_false_iff_not, Bool.true_eq_false, Bool.false_eq_true, true_implies, false_implies, true_and, and_true, false_and, and_false, implies_true, Bool.not_eq_true', Bool.not_eq_false', if_true, if_false, ite_true, ite_false, reduceCtorEq, forall_const, isi_bool_bool, isi_bool_int, isi_bool_str, isi_bool_list, isi_bool_tuple, isi_bool_none, isi_bool_dict, isi_int_bool, isi_int_int, isi_int_str, isi_int_list, isi_int_tuple, isi_int_none, isi_int_dict, isi_str_bool, isi_str_int, isi_str_str, isi_str_list, isi_str_tuple, isi_str_none, isi_str_dict, isi_list_bool, isi_list_int, isi_list_str, isi_list_list, isi_list_tuple, isi_list_none, isi_list_dict, isi_tuple_bool, isi_tuple_int, isi_tuple_str, isi_tuple_list, isi_tuple_tuple, isi_tuple_none, isi_tuple_dict, isi_dict_bool, isi_dict_int, isi_dict_str, isi_dict_list, isi_dict_tuple, isi_dict_none, isi_dict_dict, $ls,*])
def V (p : List D) : Prop := ∃ a b c d : Int, p = [.int a, .int b, .int c, .int d] ∧ 0 ≤ d ∧ d < 1000000007
theorem at4_0 {a b c d : D} : atI [a, b, c, d] 0 = some a := rfl
theorem at4_1 {a b c d : D} : atI [a, b, c, d] 1 = some b := rfl
theorem at4_2 {a b c d : D} : atI [a, b, c, d] 2 = some c := rfl
theorem at4_3 {a b c d : D} : atI [a, b, c, d] 3 = some d := rfl
theorem ix4_0 : ixN 4 0 = some 0 := rfl
theorem ix4_2 : ixN 4 2 = some 2 := rfl
theorem s_pen {i : Int} : Ok (f_law_pen [some (.dat (.int i))]) fun o e => ∃ p, V p ∧ o = .lst p := by
  unfold f_law_pen m_law_pen
  push_cast
  exact ⟨by decide, by decide, _, ⟨_, _, _, _, rfl, by omega, by omega⟩, rfl⟩
theorem s_draw {p : List D} {b : Int} (hp : V p) (h0 : 0 < b) (h1 : b < 1073741824) : Ok (f_law_draw [some (.lst p), some (.dat (.int b))]) fun o e => ∃ x : Nat, (x : Int) < b ∧ o = .dat (.int x) ∧ ∃ p', V p' ∧ e[0]? = some (some (.lst p')) := by
  obtain ⟨a, c, d, f, rfl, h2, h3⟩ := hp
  have hr : ∀ x : Int, ∃ n : Nat, (n : Int) < b ∧ x % b = n := fun x => by
    obtain ⟨n, hn⟩ := Int.eq_ofNat_of_zero_le (Int.emod_nonneg x (show b ≠ 0 by omega))
    exact ⟨n, by rw [← hn]; exact Int.emod_lt_of_pos _ h0, hn⟩
  unfold f_law_draw m_law_draw
  push_cast [at4_0, at4_1, at4_2, at4_3, ix4_0, ix4_2]
  refine ⟨fun hc => ⟨fun ha => ⟨h0, ⟨h0, h1⟩, ?_⟩, fun ha => ?_⟩, fun hc => ?_⟩
  · obtain ⟨n, hn, e⟩ := hr a
    exact ⟨n, hn, by rw [e], _, ⟨_, _, _, _, rfl, h2, h3⟩, rfl⟩
  all_goals
    refine ⟨by (first | decide | omega), by (first | decide | omega), by (first | decide | omega), by (first | decide | omega), by (first | decide | omega), by (first | decide | omega), by (first | decide | omega), by (first | decide | omega), by (first | decide | omega), h0, ?_⟩
    generalize (((f + 17) * (69621 + 2 * (d + 1)) % 2147483647 * ((f + 17) * (69621 + 2 * (d + 1)) % 2147483647) + 40503 * (d + 1) + 5) % 2147483629 * 48271 % 2147483647 / 32) = z
    obtain ⟨n, hn, e⟩ := hr z
    exact ⟨n, hn, by rw [e], _, ⟨_, _, _, _, rfl, h2, h3⟩, rfl⟩
/-! ### spots -/
theorem fT {α : Type} {l : List α} : l.filter (fun _ => true) = l := List.filter_eq_self.mpr fun _ _ => rfl
theorem slZ : sizeLine = 16777216 := rfl
def iD (n : Nat) : D := .int (n : Int)
def sptF (k : Nat) : List Nat → List D
  | [] => []
  | t :: ts => .tuple [iD k] :: (List.range t).map (fun j => .tuple [iD k, iD j]) ++ sptF (k + 1) ts
def spots (ts : List Nat) : List D := .tuple [] :: sptF 0 ts
def enF (k : Nat) (ds : List D) : List D := ds.mapIdx fun i d => .tuple [.int ((k + i : Nat) : Int), d]
theorem enumD_eq {ds : List D} : enumD ds = enF 0 ds := by unfold enumD enF; simp
theorem enF_nil {k : Nat} : enF k [] = [] := rfl
theorem enF_cons {k : Nat} {d : D} {ds : List D} : enF k (d :: ds) = .tuple [iD k, d] :: enF (k + 1) ds := by
  unfold enF iD
  rw [List.mapIdx_cons]
  simp only [Nat.add_zero, List.cons.injEq, true_and]
  congr 1
  funext i d
  rw [show k + 1 + i = k + (i + 1) by omega]
theorem rngD0 {n : Nat} : rngD 0 n = (List.range n).map iD := by
  unfold rngD iD; simp
def TsOk (ts : List Nat) : Prop := 1 ≤ ts.length ∧ ts.length ≤ 3 ∧ ∀ t ∈ ts, 1 ≤ t ∧ t ≤ 3
theorem s_spots {ts : List Nat} (ht : ts.length ≤ 3) (h3 : ∀ t ∈ ts, t ≤ 3) : Ok (f_law_spots [some (.dat (.tuple (ts.map iD)))]) fun o e => o = .lst (spots ts) := by
  unfold f_law_spots m_law_spots
  push_cast
  refine ok_forL (fun rest e => ∃ k us acc x2 x3, rest = enF k (us.map iD) ∧ e = [some (.dat (.tuple (ts.map iD))), some (.lst acc), x2, x3, none] ∧ acc ++ sptF k us = spots ts ∧ acc.length + 4 * us.length ≤ 100 ∧ ∀ t ∈ us, t ≤ 3) ?_ ?_ ?_
  · rintro e ⟨k, us, acc, x2, x3, h1, rfl, h2, h3, h4⟩
    cases us with
    | cons u us => rw [List.map_cons, enF_cons] at h1; cases h1
    | nil =>
      push_cast
      rw [← h2]; simp [sptF]
  · rintro d ds e ⟨k, us, acc, x2, x3, h1, rfl, h2, h3, h4⟩
    cases us with
    | nil => cases h1
    | cons u us =>
      rw [List.map_cons, enF_cons] at h1
      injection h1 with h1 h1'
      subst h1 h1'
      have hu := h4 u (by simp)
      simp only [List.length_cons] at h3
      push_cast [iD]
      refine ⟨by simp [slZ]; omega, by (first | decide | omega), by rw [rngD0]; simp [slZ]; omega, ?_⟩
      refine ok_lcP (fun _ => true) (fun d => .tuple [.int k, d]) rfl ?_ ?_
      · intro d hd
        push_cast
      · push_cast
        rw [rngD0, Int.toNat_natCast]
        have el : (List.map (fun d => PyData.tuple [PyData.int ↑k, d]) (List.filter (fun _ => true) (List.map iD (List.range u)))) = (List.range u).map (fun j => .tuple [iD k, iD j]) := by
          rw [fT]; simp [iD, Function.comp_def]
        rw [el]
        refine ⟨by simp [slZ]; omega, k + 1, us, _, _, _, rfl, rfl, ?_, ?_, fun t ht => h4 t (by simp [ht])⟩
        · rw [← h2]; simp [sptF, iD]
        · simp; omega
  · refine ⟨0, ts, _, none, none, enumD_eq, rfl, rfl, ?_, h3⟩
    simp; omega
/-! ### needs -/
/-- a shrinking list of its own numbers -/
theorem eraseIdx_sub {α : Type} {l : List α} {k : Nat} {x : α} (h : x ∈ l.eraseIdx k) : x ∈ l := List.mem_of_mem_eraseIdx h
theorem idx_in {n k : Nat} (h : k < n) : seqIndex? (k : Int) n = some k := by
  unfold seqIndex?
  simp only [Int.not_lt.mpr (Int.natCast_nonneg k), if_false]
  rw [if_pos (by simp; omega)]
  simp
theorem mem_split {α : Type} {l : List α} {k : Nat} (h : k < l.length) : ∃ x, l[k]? = some x ∧ x ∈ l ∧ (l.eraseIdx k).length + 1 = l.length ∧ (l.Nodup → (l.eraseIdx k).Nodup ∧ x ∉ l.eraseIdx k) := by
  refine ⟨l[k], List.getElem?_eq_getElem h, List.getElem_mem h, ?_, fun nd => ⟨nd.eraseIdx k, ?_⟩⟩
  · rw [List.length_eraseIdx_of_lt h]; omega
  · intro hm
    have := (List.mem_eraseIdx_iff_getElem.mp hm)
    obtain ⟨i, hi, hne, he⟩ := this
    exact hne ((List.getElem_inj nd).mp he)
theorem map_eraseIdx {α β : Type} {f : α → β} : ∀ (l : List α) (k : Nat), (l.map f).eraseIdx k = (l.eraseIdx k).map f
  | [], _ => rfl
  | a :: l, 0 => rfl
  | a :: l, k + 1 => by simp [map_eraseIdx l k]
def NdOk (n : Nat) (ns : List Nat) : Prop := ns.length ≤ 3 ∧ ns.Nodup ∧ ∀ x ∈ ns, x < n
theorem s_needs {p : List D} {n : Nat} (hp : V p) (h0 : 0 < n) (h1 : n ≤ 100) : Ok (f_law_needs [some (.lst p), some (.dat (.int n))]) fun o e => ∃ ns, NdOk n ns ∧ o = .dat (.tuple (ns.map iD)) ∧ ∃ p', V p' ∧ e[0]? = some (some (.lst p')) := by
  unfold f_law_needs m_law_needs
  push_cast
  refine ⟨by (first | decide | omega), ?_⟩
  refine (s_draw hp (by (first | decide | omega)) (by (first | decide | omega))).mono ?_
  rintro _ e ⟨x, hx, rfl, p1, hp1, he⟩
  push_cast [he]
  have hx4 : x < 4 := by omega
  generalize hm : (if (x : Int) < n then (x : Int) else n).toNat = m
  have hm3 : m ≤ 3 ∧ m ≤ n := by subst hm; split <;> omega
  refine ⟨by split <;> constructor <;> (first | decide | omega), by rw [rngD0]; simp [slZ]; omega, ?_⟩
  refine ok_lcL (fun rest acc e => ∃ (p' : List D) (left ns : List Nat), V p' ∧ e = [some (.lst p'), some (.dat (.int n)), some (.lst (left.map iD)), none] ∧ acc = ns.map iD ∧ rest.length ≤ left.length ∧ rest.length + ns.length ≤ 3 ∧ left.Nodup ∧ ns.Nodup ∧ (∀ x ∈ left, x < n) ∧ (∀ x ∈ ns, x < n ∧ x ∉ left) ∧ left.length ≤ n) ?_ ?_ ?_
  · rintro acc e ⟨p', left, ns, hp', rfl, rfl, h1, h2, h3, h4, h5, h6, h7⟩
    push_cast
    exact ⟨ns, ⟨by simpa using h2, h4, fun x hx => (h6 x hx).1⟩, rfl, p', hp', rfl⟩
  · rintro d ds acc e ⟨p', left, ns, hp', rfl, rfl, h1, h2, h3, h4, h5, h6, h7⟩
    simp only [List.length_cons] at h1 h2
    push_cast
    rw [List.length_map]
    refine (s_draw hp' (by omega) (by omega)).mono ?_
    rintro _ e ⟨x, hx, rfl, p1, hp1, he⟩
    obtain ⟨y, e1, y1, y2, y3⟩ := mem_split (l := left) (k := x) (by omega)
    push_cast [he, List.length_map, idx_in (show x < left.length by omega), List.getElem?_map, e1, Option.map_some]
    refine ⟨by (first | decide | omega), p1, left.eraseIdx x, ns ++ [y], hp1, ?_, ?_, ?_, ?_, (y3 h3).1, ?_, fun z hz => h5 z (eraseIdx_sub hz), ?_, by omega⟩
    · rw [map_eraseIdx]
    · simp
    · omega
    · simp; omega
    · rw [List.nodup_append]
      refine ⟨h4, by simp, fun a ha b hb => ?_⟩
      simp at hb
      subst hb
      exact fun e => (h6 a ha).2 (e ▸ y1)
    · intro z hz
      rw [List.mem_append] at hz
      rcases hz with hz | hz
      · exact ⟨(h6 z hz).1, fun h => (h6 z hz).2 (eraseIdx_sub h)⟩
      · simp at hz
        subst hz
        exact ⟨h5 _ y1, (y3 h3).2⟩
  · refine ⟨p1, List.range n, [], hp1, by rw [rngD0]; rfl, rfl, ?_, ?_, List.nodup_range, List.nodup_nil, fun x hx => List.mem_range.mp hx, fun x hx => by simp at hx, by simp⟩
    · rw [rngD0]; simp; exact hm3.2
    · rw [rngD0]; simp; exact hm3.1
/-! ### words -/
theorem at_of {α : Type} {xs : List α} {x : Nat} (h : x < xs.length) : ∃ d, atI xs (x : Int) = some d ∧ d ∈ xs := by
  refine ⟨_, atI_lt (by omega) (by omega), List.getElem_mem _⟩
theorem join_fold : ∀ (cs : List Nat) (acc : Array Nat), List.foldl (fun acc (p : Str) => acc ++ (#[] : Array Nat) ++ p.cps) acc (cs.map fun c => (⟨#[c]⟩ : Str)) = acc ++ cs.toArray
  | [], acc => by simp
  | c :: cs, acc => by
    simp only [List.map_cons, List.foldl_cons]
    rw [join_fold cs]
    simp [Array.append_assoc]
theorem join_chars (cs : List Nat) : Txt.join "" (cs.map fun c => (⟨#[c]⟩ : Str)) = ⟨cs.toArray⟩ := by
  unfold Txt.join PySem.Builtin.Str.glued
  have e0 : ("" : Str).cps = #[] := rfl
  rw [e0]
  cases cs with
  | nil => rfl
  | cons c cs =>
    simp only [List.map_cons, List.headD_cons, List.drop_succ_cons, List.drop_zero]
    rw [join_fold]
    simp
theorem strsD_map : ∀ ws : List Str, strsD (ws.map PyData.str) = some ws
  | [] => rfl
  | w :: ws => by
    show (strsD (ws.map PyData.str)).map (w :: ·) = _
    rw [strsD_map ws]; rfl
theorem sum_ones (cs : List Nat) : ((cs.map fun c => (⟨#[c]⟩ : Str)).map (·.length)).sum = cs.length := by
  induction cs with
  | nil => rfl
  | cons c cs ih =>
    simp only [List.map_cons, List.sum_cons, ih, List.length_cons]
    show 1 + cs.length = _
    omega
def WdOk1 (w : Str) : Prop := ∃ cs : List Nat, w = ⟨cs.toArray⟩ ∧ 1 ≤ cs.length ∧ cs.length ≤ 8 ∧ ∀ c ∈ cs, 97 ≤ c ∧ c ≤ 122
def WdOk (ws : List Str) : Prop := ∃ xs, ws = sortS xs ∧ xs.length ≤ 4 ∧ ∀ w ∈ xs, WdOk1 w
theorem setOf_strs {ws : List Str} (h : ws.length ≤ 100) : ∃ z, setOf (ws.map PyData.str) = some z ∧ sortedS z = (sortS ws).map PyData.str := by
  cases ws with
  | nil => exact ⟨.inl [], rfl, by simp [sortedS, sortI, sortS, dedup]⟩
  | cons w ws =>
    refine ⟨.inr (w :: ws), ?_, rfl⟩
    unfold setOf
    have e : intsD (List.map PyData.str (w :: ws)) = none := rfl
    rw [e, strsD_map]
    simp only
    rw [if_pos]
    simp only [List.length_cons] at h
    show _ < 4096
    simp; omega
theorem abc_at {x : Nat} (h : x < 26) : ∃ c, atI ("abcdefghijklmnopqrstuvwxyz" : Str).cps.toList (x : Int) = some c ∧ 97 ≤ c ∧ c ≤ 122 := by
  have e : ("abcdefghijklmnopqrstuvwxyz" : Str).cps.toList = [97, 98, 99, 100, 101, 102, 103, 104, 105, 106, 107, 108, 109, 110, 111, 112, 113, 114, 115, 116, 117, 118, 119, 120, 121, 122] := by decide +kernel
  rw [e]
  obtain ⟨c, h1, h2⟩ := at_of (xs := [97, 98, 99, 100, 101, 102, 103, 104, 105, 106, 107, 108, 109, 110, 111, 112, 113, 114, 115, 116, 117, 118, 119, 120, 121, 122]) (x := x) (by simpa using h)
  refine ⟨c, h1, ?_⟩
  simp only [List.mem_cons, List.not_mem_nil, or_false] at h2
  omega
theorem gJoin_chars {cs : List Nat} (h : cs.length ≤ 100) : gJoin (Str.ofString "") (.list ((cs.map fun c => (⟨#[c]⟩ : Str)).map PyData.str)) = some (.val (.str ⟨cs.toArray⟩)) := by
  show (match strsD ((cs.map fun c => (⟨#[c]⟩ : Str)).map PyData.str) with
    | some ys => if (ys.map (fun y : Str => y.length)).sum + ys.length * (Str.ofString "").length ≤ 16777216 then some (Out.val (.str (Txt.join (Str.ofString "") ys))) else none
    | none => none) = _
  rw [strsD_map]
  simp only
  rw [sum_ones, show (Str.ofString "").length = 0 from rfl, if_pos (by omega)]
  exact congrArg (fun z => some (Out.val (.str z))) (join_chars cs)
theorem s_words {p : List D} (hp : V p) : Ok (f_law_words [some (.lst p)]) fun o e => ∃ ws, WdOk ws ∧ o = .dat (.tuple (ws.map PyData.str)) ∧ ∃ p', V p' ∧ e[0]? = some (some (.lst p')) := by
  unfold f_law_words m_law_words
  push_cast
  refine (s_draw hp (by (first | decide | omega)) (by (first | decide | omega))).mono ?_
  rintro _ e ⟨x, hx, rfl, p1, hp1, he⟩
  push_cast [he]
  refine ⟨by (first | decide | omega), ?_⟩
  refine ok_forL (fun rest e => ∃ (p' : List D) (ws : List Str) (x2 x3 x4 : Option O), V p' ∧ e = [some (.lst p'), some (.lst (ws.map PyData.str)), x2, x3, x4, none] ∧ rest.length + ws.length ≤ 4 ∧ ∀ w ∈ ws, WdOk1 w) ?_ ?_ ?_
  · rintro e ⟨p', ws, x2, x3, x4, hp', rfl, h1, h2⟩
    simp only [List.length_nil] at h1
    obtain ⟨z, hz1, hz2⟩ := setOf_strs (ws := ws) (by omega)
    push_cast [hz1, hz2]
    exact ⟨_, ⟨ws, rfl, by omega, h2⟩, rfl, p', hp', rfl⟩
  · rintro d ds e ⟨p', ws, x2, x3, x4, hp', rfl, h1, h2⟩
    simp only [List.length_cons] at h1
    push_cast
    refine (s_draw hp' (by (first | decide | omega)) (by (first | decide | omega))).mono ?_
    rintro _ e ⟨x, hx, rfl, p1, hp1, he⟩
    obtain ⟨l, q1, q2⟩ := at_of (xs := [PyData.int 1, .int 1, .int 2, .int 8]) (x := x) (by simp; omega)
    have hl : ∃ n : Nat, l = .int n ∧ 1 ≤ n ∧ n ≤ 8 := by
      simp only [List.mem_cons, List.not_mem_nil, or_false] at q2
      rcases q2 with rfl | rfl | rfl | rfl
      · exact ⟨1, rfl, by omega, by omega⟩
      · exact ⟨1, rfl, by omega, by omega⟩
      · exact ⟨2, rfl, by omega, by omega⟩
      · exact ⟨8, rfl, by omega, by omega⟩
    obtain ⟨n, rfl, hn1, hn8⟩ := hl
    push_cast [he, q1]
    have hm : ∃ m : Nat, atI [PyData.int 4, .int 26] (if decide (1 < (n : Int)) = true then 1 else 0) = some (.int m) ∧ 0 < m ∧ m ≤ 26 := by
      split
      · exact ⟨26, rfl, by omega, by omega⟩
      · exact ⟨4, rfl, by omega, by omega⟩
    obtain ⟨m, q3, hm0, hm1⟩ := hm
    simp only [decide_eq_true_eq] at q3
    push_cast [q3]
    refine ⟨by (first | decide | omega), by rw [rngD0]; simp [slZ]; omega, ?_⟩
    refine ok_lcL (fun rest acc e => ∃ (p' : List D) (cs : List Nat) (x2 : Option O), V p' ∧ e = [some (.lst p'), some (.lst (ws.map PyData.str)), x2, some (.dat (.int n)), some (.dat (.int m)), none] ∧ acc = (cs.map fun c => (⟨#[c]⟩ : Str)).map PyData.str ∧ rest.length + cs.length = n ∧ ∀ c ∈ cs, 97 ≤ c ∧ c ≤ 122) ?_ ?_ ?_
    · rintro acc e ⟨p', cs, x2, hp', rfl, rfl, h3, h4⟩
      simp only [List.length_nil] at h3
      push_cast
      rw [gJoin_chars (by omega)]
      push_cast
      refine ⟨by simp [slZ]; omega, p', ws ++ [⟨cs.toArray⟩], _, _, _, hp', by rw [List.map_append]; rfl, by simp; omega, ?_⟩
      intro w hw
      rw [List.mem_append] at hw
      rcases hw with hw | hw
      · exact h2 w hw
      · simp at hw
        exact ⟨cs, hw, by omega, by omega, h4⟩
    · rintro d ds acc e ⟨p', cs, x2, hp', rfl, rfl, h3, h4⟩
      simp only [List.length_cons] at h3
      push_cast
      refine (s_draw hp' (by omega) (by omega)).mono ?_
      rintro _ e ⟨x, hx, rfl, p1, hp1, he⟩
      obtain ⟨c, q4, q5⟩ := abc_at (x := x) (by omega)
      push_cast [he, q4]
      refine ⟨by (first | decide | omega), p1, cs ++ [c], _, hp1, rfl, by simp, by simp; omega, ?_⟩
      intro c' hc'
      rw [List.mem_append] at hc'
      rcases hc' with hc' | hc'
      · exact h4 c' hc'
      · simp at hc'
        subst hc'
        exact q5
    · exact ⟨p1, [], _, hp1, rfl, rfl, by rw [rngD0]; simp, by simp⟩
  · exact ⟨p1, [], none, none, none, hp1, rfl, by rw [rngD0]; simp; omega, by simp⟩
end Mi

set_option Elab.async false
set_option linter.all false
set_option maxRecDepth 20000
set_option maxHeartbeats 0
namespace Mi
open PySem PySem.Spec L2
local macro_rules
  | `(tactic| push_cast) => `(tactic| simp only [ok_ok, ok_ex, ok_stuck, ok_ret, ok_stk, ok_bnd, ok_ofO, opt_some, opt_none, opt_map, opt_bind, opt_ite, rb_b, ri_i, ro_d, ro_own, ro_pl, ok_mC, ok_bin, ok_isi, ok_tst, ok_and, ok_or, ok_not, ok_andV, ok_orV, ok_notV, ok_mif, ok_nil, ok_cons, ok_frz_d, ok_frz_pl, ok_frzAll_nil, ok_frzAll_cons, ok_tup, ok_lst, ok_no, ok_so, ok_sl, ok_cb, resAll_nil, resAll_cons, ok_call, ok_seq, seqQ_nx, seqQ_rt, seqQ_bk, seqQ_ct, ok_mEx, ok_mRet, ok_ite, ok_set, ok_setK_d, ok_setK_own, ok_setK_pl, ok_runF, runQ_rt, runQ_nx, frz_d, frz_lst, frz_dat, frz_pl, res_d, res_pl, rv_val, rv_tup, rv_lst, orv_dat, orv_lst, ok_neg, ok_lstR, ok_chkL, lstAt, ok_mMet, ok_mMetF, ok_store, ok_mFor, forQ_nx, forQ_ct, forQ_bk, forQ_rt, ok_mLc, ok_mWk, wkOf_str, wkOf_list, wkOf_tuple, wkOf_pl, rsI_i, ok_rng1, ok_rng2, ok_rng3, rsI2_i, rsI3_i, ok_enu, ok_zip, seqOf_list, seqOf_tuple, seqOf_pl, ok_setE, ok_back, rs_s, ok_tx0, ok_tx1, ok_dic1, lst1_l, datAt, ok_sortK, ok_maxK, rd1_d, ok_mTgt, ok_isN, ok_maxD, gExt_l, gExt_t, gIns_0, gClr_0, gSorted_l, mVar, argOs, argO, ioSlots, lentSlots, apart, backEnv, allFlat, O.flat, flat, flats, wipeE, restE, ownFree, srcOk, asgT_nm, asgT_tp, asgTs_nil, asgTs_cons, Option.bind_some, opt_vB, opt_vI, gLt_i, gLe_i, gGt_i, gGe_i, gAdd_i, gAdd_t, gAdd_l, gAdd_s, gSub_i, gMul_i, gFdiv_i, gMod_i, gPow_i, gIx_l, gIx_t, gIx_s, gLen_l, gLen_t, gLen_s, gTuple_l, gTuple_t, gList_l, gList_t, gInt_i, gInt_b, gMax2_i, gMin2_i, gCut_l, gCut_t, gCut_s, gAll_l, gAny_l, gSum_l, gEq_i, gNe_i, gEq_b, gNe_b, gEqE_l, gNeE_l, gEqE_t, gNeE_t, gApp_1, gPopI_1, gStr_i, seqD_l, seqD_t, atI_0, List.cons_append, List.nil_append, List.length_cons, List.length_nil, List.replicate_succ, List.replicate_zero, Nat.reduceAdd, Nat.reduceSub, List.getElem?_cons_succ, List.getElem?_cons_zero, List.set_cons_succ, List.set_cons_zero, List.getElem?_nil, List.contains_cons, List.contains_nil, Bool.or_false, Bool.false_or, Bool.or_true, Bool.true_or, Bool.and_true, Bool.true_and, Bool.and_false, Bool.false_and, Nat.reduceBEq, List.isEmpty_nil, List.isEmpty_cons, Bool.not_true, Bool.not_false, List.all_cons, List.all_nil, List.any_cons, List.any_nil, Option.getD_some, Option.getD_none, decide_eq_true_eq, decide_eq_false_iff_not, Bool.true_eq_false, Bool.false_eq_true, true_implies, false_implies, true_and, and_true, false_and, and_false, implies_true, Bool.not_eq_true', Bool.not_eq_false', if_true, if_false, ite_true, ite_false, reduceCtorEq, forall_const, isi_bool_bool, isi_bool_int, isi_bool_str, isi_bool_list, isi_bool_tuple, isi_bool_none, isi_bool_dict, isi_int_bool, isi_int_int, isi_int_str, isi_int_list, isi_int_tuple, isi_int_none, isi_int_dict, isi_str_bool, isi_str_int, isi_str_str, isi_str_list, isi_str_tuple, isi_str_none, isi_str_dict, isi_list_bool, isi_list_int, isi_list_str, isi_list_list, isi_list_tuple, isi_list_none, isi_list_dict, isi_tuple_bool, isi_tuple_int, isi_tuple_str, isi_tuple_list, isi_tuple_tuple, isi_tuple_none, isi_tuple_dict, isi_dict_bool, isi_dict_int, isi_dict_str, isi_dict_list, isi_dict_tuple, isi_dict_none, isi_dict_dict])
  | `(tactic| push_cast [$ls,*]) => `(tactic| simp only [ok_ok, ok_ex, ok_stuck, ok_ret, ok_stk, ok_bnd, ok_ofO, opt_some, opt_none, opt_map, opt_bind, opt_ite, rb_b, ri_i, ro_d, ro_own, ro_pl, ok_mC, ok_bin, ok_isi, ok_tst, ok_and, ok_or, ok_not, ok_andV, ok_orV, ok_notV, ok_mif, ok_nil, ok_cons, ok_frz_d, ok_frz_pl, ok_frzAll_nil, ok_frzAll_cons, ok_tup, ok_lst, ok_no, ok_so, ok_sl, ok_cb, resAll_nil, resAll_cons, ok_call, ok_seq, seqQ_nx, seqQ_rt, seqQ_bk, seqQ_ct, ok_mEx, ok_mRet, ok_ite, ok_set, ok_setK_d, ok_setK_own, ok_setK_pl, ok_runF, runQ_rt, runQ_nx, frz_d, frz_lst, frz_dat, frz_pl, res_d, res_pl, rv_val, rv_tup, rv_lst, orv_dat, orv_lst, ok_neg, ok_lstR, ok_chkL, lstAt, ok_mMet, ok_mMetF, ok_store, ok_mFor, forQ_nx, forQ_ct, forQ_bk, forQ_rt, ok_mLc, ok_mWk, wkOf_str, wkOf_list, wkOf_tuple, wkOf_pl, rsI_i, ok_rng1, ok_rng2, ok_rng3, rsI2_i, rsI3_i, ok_enu, ok_zip, seqOf_list, seqOf_tuple, seqOf_pl, ok_setE, ok_back, rs_s, ok_tx0, ok_tx1, ok_dic1, lst1_l, datAt, ok_sortK, ok_maxK, rd1_d, ok_mTgt, ok_isN, ok_maxD, gExt_l, gExt_t, gIns_0, gClr_0, gSorted_l, mVar, argOs, argO, ioSlots, lentSlots, apart, backEnv, allFlat, O.flat, flat, flats, wipeE, restE, ownFree, srcOk, asgT_nm, asgT_tp, asgTs_nil, asgTs_cons, Option.bind_some, opt_vB, opt_vI, gLt_i, gLe_i, gGt_i, gGe_i, gAdd_i, gAdd_t, gAdd_l, gAdd_s, gSub_i, gMul_i, gFdiv_i, gMod_i, gPow_i, gIx_l, gIx_t, gIx_s, gLen_l, gLen_t, gLen_s, gTuple_l, gTuple_t, gList_l, gList_t, gInt_i, gInt_b, gMax2_i, gMin2_i, gCut_l, gCut_t, gCut_s, gAll_l, gAny_l, gSum_l, gEq_i, gNe_i, gEq_b, gNe_b, gEqE_l, gNeE_l, gEqE_t, gNeE_t, gApp_1, gPopI_1, gStr_i, seqD_l, seqD_t, atI_0, List.cons_append, List.nil_append, List.length_cons, List.length_nil, List.replicate_succ, List.replicate_zero, Nat.reduceAdd, Nat.reduceSub, List.getElem?_cons_succ, List.getElem?_cons_zero, List.set_cons_succ, List.set_cons_zero, List.getElem?_nil, List.contains_cons, List.contains_nil, Bool.or_false, Bool.false_or, Bool.or_true, Bool.true_or, Bool.and_true, Bool.true_and, Bool.and_false, Bool.false_and, Nat.reduceBEq, List.isEmpty_nil, List.isEmpty_cons, Bool.not_true, Bool.not_false, List.all_cons, List.all_nil, List.any_cons, List.any_nil, Option.getD_some, Option.getD_none, decide_eq_true_eq, decide_eq_false_iff_not, Bool.true_eq_false, Bool.false_eq_true, true_implies, false_implies, true_and, and_true, false_and, and_false, implies_true, Bool.not_eq_true', Bool.not_eq_false', if_true, if_false, ite_true, ite_false, reduceCtorEq, forall_const, isi_bool_bool, isi_bool_int, isi_bool_str, isi_bool_list, isi_bool_tuple, isi_bool_none, isi_bool_dict, isi_int_bool, isi_int_int, isi_int_str, isi_int_list, isi_int_tuple, isi_int_none, isi_int_dict, isi_str_bool, isi_str_int, isi_str_str, isi_str_list, isi_str_tuple, isi_str_none, isi_str_dict, isi_list_bool, isi_list_int, isi_list_str, isi_list_list, isi_list_tuple, isi_list_none, isi_list_dict, isi_tuple_bool, isi_tuple_int, isi_tuple_str, isi_tuple_list, isi_tuple_tuple, isi_tuple_none, isi_tuple_dict, isi_dict_bool, isi_dict_int, isi_dict_str, isi_dict_list, isi_dict_tuple, isi_dict_none, isi_dict_dict, $ls,*])
/-! ### plain data: equal as Python has it is equal -/
mutual
def pln : D → Bool
  | .none => true | .bool _ => false | .int _ => true | .str _ => true
  | .list ds => plns ds
  | .tuple ds => plns ds
  | .dict _ => false
def plns : List D → Bool
  | [] => true
  | d :: ds => pln d && plns ds
end
mutual
theorem eqv_pln : ∀ x y : D, pln x = true → pln y = true → (PyData.eqv x y = true ↔ x = y)
  | x, y, hx, hy => by
    cases x <;> cases y <;> simp only [pln, Bool.false_eq_true] at hx hy <;> simp only [PyData.eqv, reduceCtorEq, Bool.false_eq_true, beq_iff_eq, PyData.int.injEq, PyData.str.injEq, PyData.list.injEq, PyData.tuple.injEq]
    · exact eqvAll_pln _ _ hx hy
    · exact eqvAll_pln _ _ hx hy
theorem eqvAll_pln : ∀ xs ys : List D, plns xs = true → plns ys = true → (PyData.eqvAll xs ys = true ↔ xs = ys)
  | [], [], _, _ => by simp [PyData.eqvAll]
  | [], _ :: _, _, _ => by simp [PyData.eqvAll]
  | _ :: _, [], _, _ => by simp [PyData.eqvAll]
  | x :: xs, y :: ys, hx, hy => by
    simp only [plns, Bool.and_eq_true] at hx hy
    simp only [PyData.eqvAll, Bool.and_eq_true, List.cons.injEq]
    rw [eqv_pln x y hx.1 hy.1, eqvAll_pln xs ys hx.2 hy.2]
end
theorem eqv_dec {x y : D} (hx : pln x = true) (hy : pln y = true) {p : Prop} [Decidable p] (h : x = y ↔ p) : PyData.eqv x y = decide p := by
  rw [Bool.eq_iff_iff, decide_eq_true_eq, eqv_pln x y hx hy, h]
theorem plns_all {ds : List D} (h : ∀ d ∈ ds, pln d = true) : plns ds = true := by
  induction ds with
  | nil => rfl
  | cons d ds ih => simp only [plns, Bool.and_eq_true]; exact ⟨h d (by simp), ih fun x hx => h x (by simp [hx])⟩
theorem okds_all {n : Nat} {ds : List D} (h : ∀ d ∈ ds, okd d n = true) : okds ds n = true := by
  induction ds with
  | nil => rfl
  | cons d ds ih => simp only [okds, Bool.and_eq_true]; exact ⟨h d (by simp), ih fun x hx => h x (by simp [hx])⟩
theorem iD_inj {a b : Nat} : iD a = iD b ↔ a = b := by unfold iD; simp only [PyData.int.injEq]; omega
def tD (l : List Nat) : D := .tuple (l.map iD)
theorem tD_inj {a b : List Nat} : tD a = tD b ↔ a = b := by
  unfold tD
  constructor
  · intro h
    injection h with h
    exact (List.map_inj_right (fun _ _ => iD_inj.mp)).mp h
  · rintro rfl; rfl
theorem pln_iD {a : Nat} : pln (iD a) = true := rfl
theorem pln_tD {l : List Nat} : pln (tD l) = true := plns_all fun d hd => by
  obtain ⟨x, _, rfl⟩ := List.mem_map.mp hd
  rfl
theorem okd_iD {a n : Nat} : okd (iD a) n = true := rfl
theorem okd_tD {l : List Nat} {n : Nat} : okd (tD l) (n + 1) = true := by
  show okds _ n = true
  exact okds_all fun d hd => by
    obtain ⟨x, _, rfl⟩ := List.mem_map.mp hd
    rfl
/-! ### spots as lists of numbers -/
def spLF (k : Nat) : List Nat → List (List Nat)
  | [] => []
  | t :: ts => [k] :: (List.range t).map (fun j => [k, j]) ++ spLF (k + 1) ts
def spL (ts : List Nat) : List (List Nat) := [] :: spLF 0 ts
theorem sptF_eq : ∀ (ts : List Nat) (k : Nat), sptF k ts = (spLF k ts).map tD
  | [], _ => rfl
  | t :: ts, k => by simp [sptF, spLF, sptF_eq ts, tD]
theorem spots_eq (ts : List Nat) : spots ts = (spL ts).map tD := by simp [spots, spL, sptF_eq, tD]
theorem mem_spLF : ∀ (ts : List Nat) (k : Nat) (s : List Nat), s ∈ spLF k ts ↔ (∃ i, i < ts.length ∧ s = [k + i]) ∨ ∃ i j, ∃ h : i < ts.length, j < ts[i] ∧ s = [k + i, j]
  | [], k, s => by simp [spLF]
  | t :: ts, k, s => by
    simp only [spLF, List.mem_append, List.mem_cons, List.mem_map, List.mem_range, mem_spLF ts (k + 1) s, List.length_cons]
    constructor
    · rintro ((rfl | ⟨j, hj, rfl⟩) | ⟨i, hi, rfl⟩ | ⟨i, j, hi, hj, rfl⟩)
      · exact .inl ⟨0, by omega, rfl⟩
      · exact .inr ⟨0, j, by omega, hj, rfl⟩
      · exact .inl ⟨i + 1, by omega, by rw [show k + 1 + i = k + (i + 1) by omega]⟩
      · exact .inr ⟨i + 1, j, by omega, hj, by rw [show k + 1 + i = k + (i + 1) by omega]⟩
    · rintro (⟨i, hi, rfl⟩ | ⟨i, j, hi, hj, rfl⟩)
      · cases i with
        | zero => exact .inl (.inl rfl)
        | succ i => exact .inr (.inl ⟨i, by omega, by rw [show k + 1 + i = k + (i + 1) by omega]⟩)
      · cases i with
        | zero => exact .inl (.inr ⟨j, hj, rfl⟩)
        | succ i => exact .inr (.inr ⟨i, j, by omega, hj, by rw [show k + 1 + i = k + (i + 1) by omega]⟩)
theorem mem_spL {ts : List Nat} {s : List Nat} : s ∈ spL ts ↔ s = [] ∨ (∃ i, i < ts.length ∧ s = [i]) ∨ ∃ i j, ∃ h : i < ts.length, j < ts[i] ∧ s = [i, j] := by
  simp only [spL, List.mem_cons, mem_spLF, Nat.zero_add]
theorem spLF_len : ∀ (ts : List Nat) (k : Nat), (∀ t ∈ ts, t ≤ 3) → (spLF k ts).length ≤ 4 * ts.length
  | [], _, _ => by simp [spLF]
  | t :: ts, k, h => by
    have := spLF_len ts (k + 1) fun x hx => h x (by simp [hx])
    have := h t (by simp)
    simp [spLF]; omega
theorem spL_len {ts : List Nat} (h : TsOk ts) : 1 ≤ (spL ts).length ∧ (spL ts).length ≤ 13 := by
  have := spLF_len ts 0 fun x hx => (h.2.2 x hx).2
  have := h.2.1
  simp [spL]; omega
/-! ### houses -/
structure Rc where
  nm : Nat
  sp : List Nat
  ap : Nat
  kp : Nat
  nd : List Nat
structure Ta where
  ev : Nat
  tb : Nat
  nd : List Nat
  wd : List Str
structure Ho where
  ts : List Nat
  rs : List Rc
  tas : List Ta
def Rc.d (r : Rc) : D := .tuple [iD r.nm, tD r.sp, iD r.ap, iD r.kp, tD r.nd]
def Ta.d (t : Ta) : D := .tuple [tD [t.ev, t.tb], tD t.nd, .tuple (t.wd.map PyData.str)]
def Ho.d (h : Ho) : D := .tuple [tD h.ts, .tuple (h.rs.map Rc.d), .tuple (h.tas.map Ta.d)]
def RcOk (ts : List Nat) (n : Nat) (r : Rc) : Prop := r.nm < n ∧ r.sp ∈ spL ts ∧ r.ap < 4 ∧ 1 ≤ r.kp ∧ r.kp ≤ 3 ∧ NdOk n r.nd
def TaOk (ts : List Nat) (n : Nat) (t : Ta) : Prop := (∃ h : t.ev < ts.length, t.tb < ts[t.ev]) ∧ NdOk n t.nd ∧ WdOk t.wd
def HoOk (n : Nat) (h : Ho) : Prop := (1 ≤ n ∧ n ≤ 8) ∧ TsOk h.ts ∧ h.rs.length ≤ 8 ∧ (∀ r ∈ h.rs, RcOk h.ts n r) ∧ h.rs.Pairwise (fun a b => ¬(a.nm = b.nm ∧ a.sp = b.sp)) ∧ h.tas.length ≤ 6 ∧ ∀ t ∈ h.tas, TaOk h.ts n t
theorem cut2 {a b c d e : D} : cutL [a, b, c, d, e] none (some 2) = [a, b] := rfl
mutual
/-- dicts are the empty one -/
def emD : D → Bool
  | .none => true | .bool _ => true | .int _ => true | .str _ => true
  | .list ds => emDs ds
  | .tuple ds => emDs ds
  | .dict a => a.isEmpty
def emDs : List D → Bool
  | [] => true
  | d :: ds => emD d && emDs ds
end
mutual
theorem emD_of : ∀ d : D, noD d = true → emD d = true
  | d, h => by
    cases d <;> simp only [noD, Bool.false_eq_true] at h <;> simp only [emD]
    · exact emDs_of _ h
    · exact emDs_of _ h
theorem emDs_of : ∀ ds : List D, noDs ds = true → emDs ds = true
  | [], _ => rfl
  | d :: ds, h => by
    simp only [noDs, Bool.and_eq_true] at h
    simp only [emDs, emD_of d h.1, emDs_of ds h.2, Bool.and_self]
end
mutual
theorem eqD_refl : ∀ d : D, emD d = true → eqD d d = true
  | d, h => by
    cases d <;> simp only [emD] at h <;> simp only [eqD, beq_self_eq_true, decide_true, Bool.and_self]
    · exact eqDs_refl _ h
    · exact eqDs_refl _ h
    · rw [h]
theorem eqDs_refl : ∀ ds : List D, emDs ds = true → eqDs ds ds = true
  | [], _ => rfl
  | d :: ds, h => by
    simp only [emDs, Bool.and_eq_true] at h
    simp only [eqDs, eqD_refl d h.1, eqDs_refl ds h.2, Bool.and_self]
end
theorem noDs_all {ds : List D} (h : ∀ d ∈ ds, noD d = true) : noDs ds = true := by
  induction ds with
  | nil => rfl
  | cons d ds ih => simp only [noDs, Bool.and_eq_true]; exact ⟨h d (by simp), ih fun x hx => h x (by simp [hx])⟩
theorem noD_iD {n : Nat} : noD (iD n) = true := rfl
theorem noD_tD {l : List Nat} : noD (tD l) = true := by
  show noDs _ = true
  refine noDs_all fun d hd => ?_
  obtain ⟨x, _, rfl⟩ := List.mem_map.mp hd
  rfl
theorem noD_rc {r : Rc} : noD r.d = true := by
  unfold Rc.d
  simp only [noD, noDs, noD_iD, noD_tD, Bool.and_self]
theorem noDs_map {α : Type} {f : α → D} {l : List α} (h : ∀ x, noD (f x) = true) : noDs (l.map f) = true := noDs_all fun d hd => by
  obtain ⟨x, _, rfl⟩ := List.mem_map.mp hd
  exact h x
theorem srcOk_at {e : Env} {j : Nat} {ds : List D} (h : e[j]? = some (some (.lst ds))) (hn : emDs ds = true) : srcOk e (some (j, ds)) = true := by
  unfold srcOk
  simp only [h]
  exact eqDs_refl ds hn
def k2 (r : Rc) : D := .tuple [iD r.nm, tD r.sp]
theorem k2_inj {a b : Rc} : k2 a = k2 b ↔ a.nm = b.nm ∧ a.sp = b.sp := by
  unfold k2
  simp only [PyData.tuple.injEq, List.cons.injEq, and_true, iD_inj, tD_inj]
theorem pln_k2 {r : Rc} : pln (k2 r) = true := by
  unfold k2
  simp only [pln, plns, pln_iD, pln_tD, Bool.and_self]
theorem gNotIn_k2 {r : Rc} {rs : List Rc} : gNotIn (k2 r) (.list (rs.map k2)) = vB (decide (∀ x ∈ rs, ¬(x.nm = r.nm ∧ x.sp = r.sp))) := by
  have ok : ∀ x : Rc, ∀ n, okd (k2 x) (n + 2) = true := fun x n => by
    unfold k2
    show okds _ (n + 1) = true
    simp only [okds, okd_iD, okd_tD, Bool.and_self]
  unfold gNotIn gInX
  have hall : okd (.list (rs.map k2)) 60 = true := by
    show okds _ 59 = true
    refine okds_all fun d hd => ?_
    obtain ⟨x, _, rfl⟩ := List.mem_map.mp hd
    exact ok x 57
  rw [if_pos ⟨ok r 58, hall⟩]
  simp only
  congr 1
  rw [Bool.eq_iff_iff, decide_eq_true_eq]
  unfold hasD
  simp only [Bool.true_xor, Bool.not_eq_true', List.any_eq_false, List.mem_map, forall_exists_index, and_imp, forall_apply_eq_imp_iff₂, eqv_pln _ _ pln_k2 pln_k2, k2_inj]
theorem s_raw {p : List D} (hp : V p) : Ok (f_law_raw [some (.lst p)]) fun o e => ∃ n h, HoOk n h ∧ o = .dat h.d ∧ ∃ p', V p' ∧ e[0]? = some (some (.lst p')) := by
  unfold f_law_raw m_law_raw
  push_cast
  refine (s_draw hp (by (first | decide | omega)) (by (first | decide | omega))).mono ?_
  rintro _ e ⟨x, hx, rfl, p1, hp1, he⟩
  push_cast [he]
  refine ⟨by (first | decide | omega), by rw [rngD0]; simp [slZ]; omega, ?_⟩
  refine ok_lcL (fun rest acc e => ∃ (p' : List D) (ts : List Nat), V p' ∧ e = some (.lst p') :: List.replicate 9 none ∧ acc = ts.map iD ∧ rest.length + ts.length = x + 1 ∧ ∀ t ∈ ts, 1 ≤ t ∧ t ≤ 3) ?_ ?_ ?_
  · rintro acc e ⟨p', ts, hp', rfl, rfl, h1, h2⟩
    simp only [List.length_nil] at h1
    have hts : TsOk ts := ⟨by omega, by omega, h2⟩
    push_cast
    refine (s_spots (ts := ts) (by omega) fun t ht => (h2 t ht).2).mono ?_
    rintro _ e rfl
    push_cast
    refine (s_draw hp' (by (first | decide | omega)) (by (first | decide | omega))).mono ?_
    rintro _ e ⟨x, hx, rfl, p1, hp1, he⟩
    obtain ⟨l, q1, q2⟩ := at_of (xs := [PyData.int 2, .int 4, .int 8]) (x := x) (by simp; omega)
    have hl : ∃ n : Nat, l = .int n ∧ 1 ≤ n ∧ n ≤ 8 := by
      simp only [List.mem_cons, List.not_mem_nil, or_false] at q2
      rcases q2 with rfl | rfl | rfl
      · exact ⟨2, rfl, by omega, by omega⟩
      · exact ⟨4, rfl, by omega, by omega⟩
      · exact ⟨8, rfl, by omega, by omega⟩
    obtain ⟨n, rfl, hn1, hn8⟩ := hl
    push_cast [he, q1]
    refine (s_draw hp1 (by (first | decide | omega)) (by (first | decide | omega))).mono ?_
    rintro _ e ⟨x, hx, rfl, p1, hp1, he⟩
    push_cast [he]
    refine ⟨by (first | decide | omega), ?_⟩
    refine ok_forL (fun rest e => ∃ (p' : List D) (rs : List Rc) (x2 x6 : Option O), V p' ∧ e = [some (.lst p'), some (.dat (.tuple (ts.map iD))), x2, some (.lst (spots ts)), some (.dat (.int n)), some (.lst (rs.map Rc.d)), x6, none, none, none] ∧ rest.length + rs.length ≤ 8 ∧ (∀ r ∈ rs, RcOk ts n r) ∧ rs.Pairwise (fun a b => ¬(a.nm = b.nm ∧ a.sp = b.sp))) ?_ ?_ ?_
    · rintro e ⟨p', rs, x2, x6, hp', rfl, h3, h4, h5⟩
      simp only [List.length_nil] at h3
      push_cast
      refine (s_draw hp' (by (first | decide | omega)) (by (first | decide | omega))).mono ?_
      rintro _ e ⟨x, hx, rfl, p1, hp1, he⟩
      push_cast [he]
      refine ⟨by (first | decide | omega), ?_⟩
      refine ok_forL (fun rest e => ∃ (p' : List D) (tas : List Ta) (x2 x6 x9 : Option O), V p' ∧ e = [some (.lst p'), some (.dat (.tuple (ts.map iD))), x2, some (.lst (spots ts)), some (.dat (.int n)), some (.lst (rs.map Rc.d)), x6, none, some (.lst (tas.map Ta.d)), x9] ∧ rest.length + tas.length ≤ 6 ∧ ∀ r ∈ tas, TaOk ts n r) ?_ ?_ ?_
      · rintro e ⟨p', tas, x2, x6, x9, hp', rfl, h6, h7⟩
        simp only [List.length_nil] at h6
        push_cast
        exact ⟨n, ⟨ts, rs, tas⟩, ⟨⟨hn1, hn8⟩, hts, by simpa using h3, h4, h5, by simpa using h6, h7⟩, rfl, p', hp', rfl⟩
      · rintro d ds e ⟨p', tas, x2, x6, x9, hp', rfl, h6, h7⟩
        simp only [List.length_cons] at h6
        have h1' : 1 ≤ ts.length := hts.1
        have h1'' : ts.length ≤ 3 := hts.2.1
        push_cast [List.length_map]
        refine (s_draw hp' (by omega) (by omega)).mono ?_
        rintro _ e ⟨ev, hev, rfl, p1, hp1, he⟩
        obtain ⟨hevl, q2⟩ : ∃ h : ev < ts.length, atI (ts.map iD) (ev : Int) = some (.int ts[ev]) := ⟨by omega, by
          rw [atI_lt (by omega) (by simpa using hev)]
          simp [iD]⟩
        have ht := h2 ts[ev] (List.getElem_mem _)
        push_cast [he, q2]
        refine (s_draw hp1 (by omega) (by omega)).mono ?_
        rintro _ e ⟨tb, htb, rfl, p1, hp1, he⟩
        push_cast [he]
        refine (s_needs hp1 (by omega) (by omega)).mono ?_
        rintro _ e ⟨nd, hnd, rfl, p1, hp1, he⟩
        push_cast [he]
        refine (s_words hp1).mono ?_
        rintro _ e ⟨wd, hwd, rfl, p1, hp1, he⟩
        push_cast [he]
        refine ⟨by simp [slZ]; omega, p1, tas ++ [⟨ev, tb, nd, wd⟩], _, _, _, hp1, by rw [List.map_append]; rfl, by simp; omega, ?_⟩
        intro t ht
        rw [List.mem_append] at ht
        rcases ht with ht | ht
        · exact h7 t ht
        · simp at ht
          subst ht
          exact ⟨⟨hevl, by simpa using htb⟩, hnd, hwd⟩
      · exact ⟨p1, [], _, _, none, hp1, rfl, by rw [rngD0]; simp; omega, by simp⟩
    · rintro d ds e ⟨p', rs, x2, x6, hp', rfl, h3, h4, h5⟩
      simp only [List.length_cons] at h3
      push_cast
      refine (s_draw hp' (by (first | decide | omega)) (by (first | decide | omega))).mono ?_
      rintro _ e ⟨nm, hnm, rfl, p1, hp1, he⟩
      have hl := spL_len hts
      push_cast [he, spots_eq, List.length_map]
      refine (s_draw hp1 (by omega) (by omega)).mono ?_
      rintro _ e ⟨x, hx, rfl, p1, hp1, he⟩
      obtain ⟨_, q1, q2⟩ := at_of (xs := (spL ts).map tD) (x := x) (by simp; omega)
      obtain ⟨sp, hsp, rfl⟩ := List.mem_map.mp q2
      push_cast [he, q1]
      refine (s_draw hp1 (by omega) (by omega)).mono ?_
      rintro _ e ⟨ap, hap, rfl, p1, hp1, he⟩
      push_cast [he]
      refine (s_draw hp1 (by omega) (by omega)).mono ?_
      rintro _ e ⟨kp, hkp, rfl, p1, hp1, he⟩
      push_cast [he]
      refine (s_needs hp1 (by omega) (by omega)).mono ?_
      rintro _ e ⟨nd, hnd, rfl, p1, hp1, he⟩
      push_cast [he]
      have hrc : RcOk ts n ⟨nm, sp, ap, kp + 1, nd⟩ := ⟨by simpa using hnm, hsp, by simp; omega, by simp, by simp; omega, hnd⟩
      refine ⟨by decide, by simp [slZ]; omega, ?_⟩
      refine ok_lcP (fun _ => true) (fun d => match d with | .tuple ds => .tuple (cutL ds none (some 2)) | d => d) (srcOk_at rfl (emDs_of _ (noDs_map fun _ => noD_rc))) ?_ ?_
      · intro d hd
        obtain ⟨r, _, rfl⟩ := List.mem_map.mp hd
        unfold Rc.d
        push_cast
      · have e1 : List.map (fun d => match d with | .tuple ds => PyData.tuple (cutL ds none (some 2)) | d => d) (List.filter (fun _ => true) (List.map Rc.d rs)) = rs.map k2 := by
          rw [fT, List.map_map]; rfl
        rw [e1, cut2]
        have e2 : (PyData.tuple [PyData.int ↑nm, tD sp]) = k2 ⟨nm, sp, ap, kp + 1, nd⟩ := rfl
        rw [e2, gNotIn_k2]
        push_cast [List.length_map]
        refine ⟨fun hb => ⟨by simp [slZ]; omega, p1, rs ++ [⟨nm, sp, ap, kp + 1, nd⟩], some (.dat d), some (.dat (Rc.d ⟨nm, sp, ap, kp + 1, nd⟩)), hp1, ?_, by simp; omega, ?_, ?_⟩, fun _ => ⟨p1, rs, _, _, hp1, rfl, by omega, h4, h5⟩⟩
        · rw [List.map_append]
          simp [Rc.d, iD, tD, Int.add_comm]
        · intro r hr
          rw [List.mem_append] at hr
          rcases hr with hr | hr
          · exact h4 r hr
          · simp at hr
            subst hr
            exact hrc
        · rw [List.pairwise_append]
          refine ⟨h5, by simp, fun a ha b hb' => ?_⟩
          simp at hb'
          subst hb'
          exact hb a ha
    · refine ⟨p1, [], none, none, hp1, rfl, by rw [rngD0]; simp; omega, by simp, by simp⟩
  · rintro d ds acc e ⟨p', ts, hp', rfl, rfl, h1, h2⟩
    simp only [List.length_cons] at h1
    push_cast
    refine (s_draw hp' (by (first | decide | omega)) (by (first | decide | omega))).mono ?_
    rintro _ e ⟨x, hx, rfl, p1, hp1, he⟩
    push_cast [he]
    refine ⟨p1, ts ++ [x + 1], hp1, rfl, ?_, by simp; omega, ?_⟩
    · simp [iD, Int.add_comm]
    · intro t ht
      rw [List.mem_append] at ht
      rcases ht with ht | ht
      · exact h2 t ht
      · simp at ht; omega
  · refine ⟨p1, [], hp1, rfl, rfl, by rw [rngD0]; simp; omega, by simp⟩
end Mi

set_option Elab.async false
set_option linter.all false
set_option maxRecDepth 40000
set_option maxHeartbeats 0
namespace Mi
open PySem PySem.Spec L2
local macro_rules
  | `(tactic| push_cast) => `(tactic| simp only [ok_ok, ok_ex, ok_stuck, ok_ret, ok_stk, ok_bnd, ok_ofO, opt_some, opt_none, opt_map, opt_bind, opt_ite, rb_b, ri_i, ro_d, ro_own, ro_pl, ok_mC, ok_bin, ok_isi, ok_tst, ok_and, ok_or, ok_not, ok_andV, ok_orV, ok_notV, ok_mif, ok_nil, ok_cons, ok_frz_d, ok_frz_pl, ok_frzAll_nil, ok_frzAll_cons, ok_tup, ok_lst, ok_no, ok_so, ok_sl, ok_cb, resAll_nil, resAll_cons, ok_call, ok_seq, seqQ_nx, seqQ_rt, seqQ_bk, seqQ_ct, ok_mEx, ok_mRet, ok_ite, ok_set, ok_setK_d, ok_setK_own, ok_setK_pl, ok_runF, runQ_rt, runQ_nx, frz_d, frz_lst, frz_dat, frz_pl, res_d, res_pl, rv_val, rv_tup, rv_lst, orv_dat, orv_lst, ok_neg, ok_lstR, ok_chkL, lstAt, ok_mMet, ok_mMetF, ok_store, ok_mFor, forQ_nx, forQ_ct, forQ_bk, forQ_rt, ok_mLc, ok_mWk, wkOf_str, wkOf_list, wkOf_tuple, wkOf_pl, rsI_i, ok_rng1, ok_rng2, ok_rng3, rsI2_i, rsI3_i, ok_enu, ok_zip, seqOf_list, seqOf_tuple, seqOf_pl, ok_setE, ok_back, rs_s, ok_tx0, ok_tx1, ok_dic1, lst1_l, datAt, ok_sortK, ok_maxK, rd1_d, ok_mTgt, ok_isN, ok_maxD, gExt_l, gExt_t, gIns_0, gClr_0, gSorted_l, mVar, argOs, argO, ioSlots, lentSlots, apart, backEnv, allFlat, O.flat, flat, flats, wipeE, restE, ownFree, srcOk, asgT_nm, asgT_tp, asgTs_nil, asgTs_cons, Option.bind_some, opt_vB, opt_vI, gLt_i, gLe_i, gGt_i, gGe_i, gAdd_i, gAdd_t, gAdd_l, gAdd_s, gSub_i, gMul_i, gFdiv_i, gMod_i, gPow_i, gIx_l, gIx_t, gIx_s, gLen_l, gLen_t, gLen_s, gTuple_l, gTuple_t, gList_l, gList_t, gInt_i, gInt_b, gMax2_i, gMin2_i, gCut_l, gCut_t, gCut_s, gAll_l, gAny_l, gSum_l, gEq_i, gNe_i, gEq_b, gNe_b, gEqE_l, gNeE_l, gEqE_t, gNeE_t, gApp_1, gPopI_1, gStr_i, seqD_l, seqD_t, atI_0, List.cons_append, List.nil_append, List.length_cons, List.length_nil, List.replicate_succ, List.replicate_zero, Nat.reduceAdd, Nat.reduceSub, List.getElem?_cons_succ, List.getElem?_cons_zero, List.set_cons_succ, List.set_cons_zero, List.getElem?_nil, List.contains_cons, List.contains_nil, Bool.or_false, Bool.false_or, Bool.or_true, Bool.true_or, Bool.and_true, Bool.true_and, Bool.and_false, Bool.false_and, Nat.reduceBEq, List.isEmpty_nil, List.isEmpty_cons, Bool.not_true, Bool.not_false, List.all_cons, List.all_nil, List.any_cons, List.any_nil, Option.getD_some, Option.getD_none, decide_eq_true_eq, decide_eq_false_iff_not, Bool.true_eq_false, Bool.false_eq_true, true_implies, false_implies, true_and, and_true, false_and, and_false, implies_true, Bool.not_eq_true', Bool.not_eq_false', if_true, if_false, ite_true, ite_false, reduceCtorEq, forall_const, isi_bool_bool, isi_bool_int, isi_bool_str, isi_bool_list, isi_bool_tuple, isi_bool_none, isi_bool_dict, isi_int_bool, isi_int_int, isi_int_str, isi_int_list, isi_int_tuple, isi_int_none, isi_int_dict, isi_str_bool, isi_str_int, isi_str_str, isi_str_list, isi_str_tuple, isi_str_none, isi_str_dict, isi_list_bool, isi_list_int, isi_list_str, isi_list_list, isi_list_tuple, isi_list_none, isi_list_dict, isi_tuple_bool, isi_tuple_int, isi_tuple_str, isi_tuple_list, isi_tuple_tuple, isi_tuple_none, isi_tuple_dict, isi_dict_bool, isi_dict_int, isi_dict_str, isi_dict_list, isi_dict_tuple, isi_dict_none, isi_dict_dict])
  | `(tactic| push_cast [$ls,*]) => `(tactic| simp only [ok_ok, ok_ex, ok_stuck, ok_ret, ok_stk, ok_bnd, ok_ofO, opt_some, opt_none, opt_map, opt_bind, opt_ite, rb_b, ri_i, ro_d, ro_own, ro_pl, ok_mC, ok_bin, ok_isi, ok_tst, ok_and, ok_or, ok_not, ok_andV, ok_orV, ok_notV, ok_mif, ok_nil, ok_cons, ok_frz_d, ok_frz_pl, ok_frzAll_nil, ok_frzAll_cons, ok_tup, ok_lst, ok_no, ok_so, ok_sl, ok_cb, resAll_nil, resAll_cons, ok_call, ok_seq, seqQ_nx, seqQ_rt, seqQ_bk, seqQ_ct, ok_mEx, ok_mRet, ok_ite, ok_set, ok_setK_d, ok_setK_own, ok_setK_pl, ok_runF, runQ_rt, runQ_nx, frz_d, frz_lst, frz_dat, frz_pl, res_d, res_pl, rv_val, rv_tup, rv_lst, orv_dat, orv_lst, ok_neg, ok_lstR, ok_chkL, lstAt, ok_mMet, ok_mMetF, ok_store, ok_mFor, forQ_nx, forQ_ct, forQ_bk, forQ_rt, ok_mLc, ok_mWk, wkOf_str, wkOf_list, wkOf_tuple, wkOf_pl, rsI_i, ok_rng1, ok_rng2, ok_rng3, rsI2_i, rsI3_i, ok_enu, ok_zip, seqOf_list, seqOf_tuple, seqOf_pl, ok_setE, ok_back, rs_s, ok_tx0, ok_tx1, ok_dic1, lst1_l, datAt, ok_sortK, ok_maxK, rd1_d, ok_mTgt, ok_isN, ok_maxD, gExt_l, gExt_t, gIns_0, gClr_0, gSorted_l, mVar, argOs, argO, ioSlots, lentSlots, apart, backEnv, allFlat, O.flat, flat, flats, wipeE, restE, ownFree, srcOk, asgT_nm, asgT_tp, asgTs_nil, asgTs_cons, Option.bind_some, opt_vB, opt_vI, gLt_i, gLe_i, gGt_i, gGe_i, gAdd_i, gAdd_t, gAdd_l, gAdd_s, gSub_i, gMul_i, gFdiv_i, gMod_i, gPow_i, gIx_l, gIx_t, gIx_s, gLen_l, gLen_t, gLen_s, gTuple_l, gTuple_t, gList_l, gList_t, gInt_i, gInt_b, gMax2_i, gMin2_i, gCut_l, gCut_t, gCut_s, gAll_l, gAny_l, gSum_l, gEq_i, gNe_i, gEq_b, gNe_b, gEqE_l, gNeE_l, gEqE_t, gNeE_t, gApp_1, gPopI_1, gStr_i, seqD_l, seqD_t, atI_0, List.cons_append, List.nil_append, List.length_cons, List.length_nil, List.replicate_succ, List.replicate_zero, Nat.reduceAdd, Nat.reduceSub, List.getElem?_cons_succ, List.getElem?_cons_zero, List.set_cons_succ, List.set_cons_zero, List.getElem?_nil, List.contains_cons, List.contains_nil, Bool.or_false, Bool.false_or, Bool.or_true, Bool.true_or, Bool.and_true, Bool.true_and, Bool.and_false, Bool.false_and, Nat.reduceBEq, List.isEmpty_nil, List.isEmpty_cons, Bool.not_true, Bool.not_false, List.all_cons, List.all_nil, List.any_cons, List.any_nil, Option.getD_some, Option.getD_none, decide_eq_true_eq, decide_eq_false_iff_not, Bool.true_eq_false, Bool.false_eq_true, true_implies, false_implies, true_and, and_true, false_and, and_false, implies_true, Bool.not_eq_true', Bool.not_eq_false', if_true, if_false, ite_true, ite_false, reduceCtorEq, forall_const, isi_bool_bool, isi_bool_int, isi_bool_str, isi_bool_list, isi_bool_tuple, isi_bool_none, isi_bool_dict, isi_int_bool, isi_int_int, isi_int_str, isi_int_list, isi_int_tuple, isi_int_none, isi_int_dict, isi_str_bool, isi_str_int, isi_str_str, isi_str_list, isi_str_tuple, isi_str_none, isi_str_dict, isi_list_bool, isi_list_int, isi_list_str, isi_list_list, isi_list_tuple, isi_list_none, isi_list_dict, isi_tuple_bool, isi_tuple_int, isi_tuple_str, isi_tuple_list, isi_tuple_tuple, isi_tuple_none, isi_tuple_dict, isi_dict_bool, isi_dict_int, isi_dict_str, isi_dict_list, isi_dict_tuple, isi_dict_none, isi_dict_dict, $ls,*])
/-! ### anything -/
theorem emDs_all {ds : List D} (h : ∀ d ∈ ds, emD d = true) : emDs ds = true := by
  induction ds with
  | nil => rfl
  | cons d ds ih => simp only [emDs, Bool.and_eq_true]; exact ⟨h d (by simp), ih fun x hx => h x (by simp [hx])⟩
theorem emDs_app {xs ys : List D} (h : emDs xs = true) (h2 : emDs ys = true) : emDs (xs ++ ys) = true := by
  induction xs with
  | nil => exact h2
  | cons d ds ih => simp only [emDs, Bool.and_eq_true, List.cons_append] at h ⊢; exact ⟨h.1, ih h.2⟩
def isTpl : O → Bool
  | .tpl _ => true
  | .dct _ => true
  | _ => false
mutual
/-- small things; dicts are the empty one -/
def ezD : D → Bool
  | .none => true | .bool _ => true | .int _ => true | .str z => decide (z.length ≤ 4000)
  | .list ds => decide (ds.length ≤ 4000) && ezDs ds
  | .tuple ds => decide (ds.length ≤ 4000) && ezDs ds
  | .dict [] => true
  | .dict (_ :: _) => false
def ezDs : List D → Bool
  | [] => true
  | d :: ds => ezD d && ezDs ds
end
theorem ezDs_all {ds : List D} (h : ∀ d ∈ ds, ezD d = true) : ezDs ds = true := by
  induction ds with
  | nil => rfl
  | cons d ds ih => simp only [ezDs, Bool.and_eq_true]; exact ⟨h d (by simp), ih fun x hx => h x (by simp [hx])⟩
theorem ezDs_mem {ds : List D} (h : ezDs ds = true) {d : D} (hd : d ∈ ds) : ezD d = true := by
  induction ds with
  | nil => cases hd
  | cons x ds ih =>
    simp only [ezDs, Bool.and_eq_true] at h
    rcases List.mem_cons.mp hd with rfl | hd
    · exact h.1
    · exact ih h.2 hd
theorem ezDs_app {xs ys : List D} (h : ezDs xs = true) (h2 : ezDs ys = true) : ezDs (xs ++ ys) = true := ezDs_all fun d hd => by
  rcases List.mem_append.mp hd with hd | hd
  · exact ezDs_mem h hd
  · exact ezDs_mem h2 hd
theorem ez_tup {ds : List D} (h : ezDs ds = true) (hl : ds.length ≤ 4000) : ezD (.tuple ds) = true := by
  show (decide (ds.length ≤ 4000) && ezDs ds) = true
  rw [decide_eq_true hl, h]; rfl
theorem ez_lst {ds : List D} (h : ezDs ds = true) (hl : ds.length ≤ 4000) : ezD (.list ds) = true := by
  show (decide (ds.length ≤ 4000) && ezDs ds) = true
  rw [decide_eq_true hl, h]; rfl
theorem s_thing : ∀ (k : Nat) {p : List D} {dp : Nat}, V p → dp ≤ k → Ok (f_law_thing (k + 1) [some (.lst p), some (.dat (.int dp))]) fun o e => ∃ d, ezD d = true ∧ (o.rv.frz = .d d ∧ isTpl o = false) ∧ ∃ p', V p' ∧ e[0]? = some (some (.lst p'))
  | k, p, dp, hp, hd => by
    unfold f_law_thing m_law_thing
    push_cast
    refine (s_draw hp (by (first | decide | omega)) (by (first | decide | omega))).mono ?_
    rintro _ e ⟨way, hway, rfl, p1, hp1, he⟩
    push_cast [he]
    have first : Ok (f_law_draw [some (.lst p1), some (.dat (.int 12))]) fun o ce => ∃ x : Nat, x < 12 ∧ o = .dat (.int x) ∧ ∃ p', V p' ∧ ce[0]? = some (some (.lst p')) := (s_draw hp1 (by (first | decide | omega)) (by (first | decide | omega))).mono fun o e h => by
      obtain ⟨x, hx, h2, h3⟩ := h
      exact ⟨x, by omega, h2, h3⟩
    have fin : ∀ x : Nat, x < 12 → ∃ d, atI [PyData.none, .bool true, .bool false, .int 0, .int 1, .int (-1), .int 9, .int (10 ^ Int.toNat 39), .str (Str.ofString ""), .str (Str.ofString "a"), .tuple [], .list []] (x : Int) = some d ∧ ezD d = true := fun x hx => by
      obtain ⟨d, h1, h2⟩ := at_of (xs := [PyData.none, .bool true, .bool false, .int 0, .int 1, .int (-1), .int 9, .int (10 ^ Int.toNat 39), .str (Str.ofString ""), .str (Str.ofString "a"), .tuple [], .list []]) (x := x) (by simpa using hx)
      refine ⟨d, h1, ?_⟩
      simp only [List.mem_cons, List.not_mem_nil, or_false] at h2
      rcases h2 with rfl | rfl | rfl | rfl | rfl | rfl | rfl | rfl | rfl | rfl | rfl | rfl <;> first | rfl | decide +kernel
    have lit : 0 ≤ (39 : Int) ∧ (39 : Int) ≤ 1000000 ∧ Int.natAbs 10 < 2 ^ 64 := by decide
    refine ⟨fun _ => ⟨lit, first.mono ?_⟩, fun h8 => ⟨fun _ => ⟨lit, first.mono ?_⟩, fun h0 => ?_⟩⟩
    · rintro _ e ⟨x, hx, rfl, p2, hp2, he⟩
      obtain ⟨d, q1, q2⟩ := fin x hx
      push_cast [he, q1]
      exact ⟨d, q2, ⟨rfl, rfl⟩, p2, hp2, rfl⟩
    · rintro _ e ⟨x, hx, rfl, p2, hp2, he⟩
      obtain ⟨d, q1, q2⟩ := fin x hx
      push_cast [he, q1]
      exact ⟨d, q2, ⟨rfl, rfl⟩, p2, hp2, rfl⟩
    · refine (s_draw hp1 (by (first | decide | omega)) (by (first | decide | omega))).mono ?_
      rintro _ e ⟨n, hn, rfl, p2, hp2, he⟩
      push_cast [he]
      refine ⟨by (first | decide | omega), by rw [rngD0]; simp [slZ]; omega, ?_⟩
      refine ok_lcL (fun rest acc e => ∃ (p' : List D), V p' ∧ e = [some (.lst p'), some (.dat (.int dp)), some (.dat (.int way)), none, none] ∧ ezDs acc = true ∧ acc.length + rest.length ≤ 10) ?_ ?_ ?_
      · rintro acc e ⟨p', hp', rfl, h1, h2⟩
        push_cast
        simp only [List.length_nil] at h2
        exact ⟨fun _ => ⟨.list acc, ez_lst h1 (by omega), ⟨rfl, rfl⟩, p', hp', rfl⟩, fun _ => ⟨fun _ => ⟨.dict [], rfl, ⟨rfl, rfl⟩, p', hp', rfl⟩, fun _ => ⟨.tuple acc, ez_tup h1 (by omega), ⟨rfl, rfl⟩, p', hp', rfl⟩⟩⟩
      · rintro d ds acc e ⟨p', hp', rfl, h1, h2⟩
        simp only [List.length_cons] at h2
        push_cast
        have e1 : (dp : Int) - 1 = ((dp - 1 : Nat) : Int) := by omega
        rw [e1]
        cases k with
        | zero => omega
        | succ k =>
          refine (s_thing k hp' (by omega)).mono ?_
          rintro o e ⟨d, hd1, hd2, p3, hp3, he⟩
          push_cast [he, hd2.1]
          exact ⟨p3, hp3, rfl, ezDs_app h1 (by simp [ezDs, hd1]), by simp; omega⟩
      · exact ⟨p2, hp2, rfl, rfl, by rw [rngD0]; simp; omega⟩

theorem ez_of {ds : List D} (h : ezD (.tuple ds) = true) : ezDs ds = true := by
  have h : (decide (ds.length ≤ 4000) && ezDs ds) = true := h
  exact (Bool.and_eq_true _ _ ▸ h).2
/-! ### one place made otherwise -/
def spd : Nat → D → Prop
  | _, .none => True
  | _, .int i => 0 ≤ i ∧ i < 10 ^ 10
  | _, .str z => z.length ≤ 1000
  | n + 1, .tuple ds => ds.length ≤ 1000 ∧ ∀ d ∈ ds, spd n d
  | _, _ => False
theorem spd_em : ∀ (n : Nat) (d : D), spd n d → ezD d = true
  | n, .none, _ => rfl
  | n, .int i, _ => rfl
  | n, .str z, h => by
    have h : z.length ≤ 1000 := by cases n <;> exact h
    show decide (z.length ≤ 4000) = true
    rw [decide_eq_true_eq]; omega
  | n + 1, .tuple ds, h => ez_tup (ezDs_all fun d hd => spd_em n d (h.2 d hd)) (by have := h.1; omega)
  | 0, .tuple ds, h => h.elim
  | n, .bool _, h => by cases n <;> exact h.elim
  | n, .list _, h => by cases n <;> exact h.elim
  | n, .dict _, h => by cases n <;> exact h.elim
theorem cutL_mem {α : Type} {xs : List α} {lo hi : Option Int} {x : α} (h : x ∈ cutL xs lo hi) : x ∈ xs := List.mem_of_mem_drop (List.mem_of_mem_take h)
theorem cutL_len {α : Type} {xs : List α} {lo hi : Option Int} : (cutL xs lo hi).length ≤ xs.length := by
  unfold cutL
  rw [List.length_take, List.length_drop]; omega
theorem ezDs_mem0 {ds : List D} (h : ezDs ds = true) {d : D} (hd : d ∈ ds) : ezD d = true := by
  induction ds with
  | nil => cases hd
  | cons x ds ih =>
    simp only [ezDs, Bool.and_eq_true] at h
    rcases List.mem_cons.mp hd with rfl | hd
    · exact h.1
    · exact ih h.2 hd
theorem ezDs_cut {ds : List D} {lo hi : Option Int} (h : ezDs ds = true) : ezDs (cutL ds lo hi) = true := ezDs_all fun d hd => ezDs_mem h (cutL_mem hd)
theorem log2_64 {n : Nat} (h : n < 2 ^ 201) : n.log2 < 1920 := by
  by_cases h0 : n = 0
  · subst h0; decide
  · have := (Nat.log2_lt h0).mpr h
    omega
theorem ro_rv {io : List Nat} {e : Env} {o : O} {K : O → Prop} : RO io e o.rv K ↔ K o := by cases o <;> exact Iff.rfl
theorem len_app {x y : Str} : (x ++ y).length = x.length + y.length := by
  show (x.cps ++ y.cps).size = _
  rw [Array.size_append]; rfl
theorem len_cutS {z : Str} {lo hi : Option Int} : (cutS z lo hi).length ≤ z.length := by
  show (List.take _ (List.drop _ z.cps.toList)).toArray.size ≤ z.cps.size
  rw [List.size_toArray, List.length_take, List.length_drop, Array.length_toList]
  omega
theorem ez_four {z : Str} (hz : z.length ≤ 1000) : ezDs [.str (z ++ Str.ofString "a"), .str (Txt.upper z), .str (cutS z none (some (-1))), .str (Str.ofString "1" ++ z)] = true := by
  have h1 := PyProof.Rows.len_upper z
  have h2 := len_cutS (z := z) (lo := none) (hi := some (-1))
  have ea : (Str.ofString "a").length = 1 := rfl
  have eb : (Str.ofString "1").length = 1 := rfl
  simp only [ezDs, ezD, Bool.and_true, Bool.and_eq_true, decide_eq_true_eq, len_app, ea, eb]
  omega
theorem s_spoilt : ∀ (k : Nat) {p : List D} {d : D}, V p → spd k d → Ok (f_law_spoilt (k + 1) [some (.lst p), some (.dat d)]) fun o e => ∃ d, ezD d = true ∧ (o.rv.frz = .d d ∧ isTpl o = false) ∧ ∃ p', V p' ∧ e[0]? = some (some (.lst p'))
  | k, p, d, hp, hd => by
    have hem := spd_em k d hd
    unfold f_law_spoilt m_law_spoilt
    rw [ok_runF, ok_seq]
    refine Ok.mono (Q := fun fl e => (fl = .nx ∧ ∃ p', V p' ∧ e = [some (.lst p'), some (.dat d), none, none]) ∨ ∃ o, fl = .rt o ∧ ∃ d, ezD d = true ∧ (o.rv.frz = .d d ∧ isTpl o = false) ∧ ∃ p', V p' ∧ e[0]? = some (some (.lst p'))) ?_ ?_
    · push_cast
      cases d with
      | tuple ds =>
        cases k with
        | zero => exact hd.elim
        | succ k =>
          push_cast
          refine ⟨fun hne => ?_, fun _ => .inl ⟨p, hp, rfl⟩⟩
          refine (s_draw hp (by (first | decide | omega)) (by (first | decide | omega))).mono ?_
          rintro _ e ⟨x, hx, rfl, p1, hp1, he⟩
          push_cast [he]
          refine ⟨fun _ => ?_, fun _ => .inl ⟨p1, hp1, rfl⟩⟩
          have hl : 0 < ds.length := by
            cases ds with
            | nil => simp at hne
            | cons => simp
          have hl2 := hd.1
          refine (s_draw hp1 (by omega) (by omega)).mono ?_
          rintro _ e ⟨x, hx, rfl, p2, hp2, he⟩
          obtain ⟨y, q1, q2⟩ := at_of (xs := ds) (x := x) (by omega)
          push_cast [he, q1]
          refine (s_spoilt k hp2 (hd.2 y q2)).mono ?_
          rintro o e ⟨y', hy1, hy2, p3, hp3, he⟩
          push_cast [he, hy2.1, List.length_append]
          have l1 := cutL_len (xs := ds) (lo := none) (hi := some (x : Int))
          have l2 := cutL_len (xs := ds) (lo := some (x + 1 : Int)) (hi := none)
          refine ⟨by rw [slZ]; omega, by rw [slZ]; omega, .inr ⟨_, rfl, _, ?_, ⟨rfl, rfl⟩, p3, hp3, rfl⟩⟩
          exact ez_tup (ezDs_app (ezDs_app (ezDs_cut (ez_of hem)) (by simp [ezDs, hy1])) (ezDs_cut (ez_of hem))) (by simp; omega)
      | none => push_cast; exact .inl ⟨p, hp, rfl⟩
      | int i => push_cast; exact .inl ⟨p, hp, rfl⟩
      | str z => push_cast; exact .inl ⟨p, hp, rfl⟩
      | bool b => cases k <;> exact hd.elim
      | list b => cases k <;> exact hd.elim
      | dict b => cases k <;> exact hd.elim
    · rintro fl e (⟨rfl, p1, hp1, rfl⟩ | ⟨o, rfl, h⟩)
      · push_cast
        refine (s_draw hp1 (by (first | decide | omega)) (by (first | decide | omega))).mono ?_
        rintro _ e ⟨x, hx, rfl, p1, hp1, he⟩
        have thg : ∀ {p2 : List D}, V p2 → Ok (f_law_thing 4 [some (.lst p2), some (.dat (.int 2))]) fun o ce => ∃ d, ezD d = true ∧ (o.rv.frz = .d d ∧ isTpl o = false) ∧ ∃ p', V p' ∧ ce[0]? = some (some (.lst p')) := fun h => s_thing 3 (dp := 2) h (by omega)
        push_cast [he]
        have last : ∀ {p2 : List D} {Q : O → Env → Prop}, V p2 → (∀ (o : O) (e : Env) (d : D) (p3 : List D), ezD d = true → (o.rv.frz = .d d ∧ isTpl o = false) → V p3 → e[0]? = some (some (.lst p3)) → Q o e) → Ok (f_law_thing 4 [some (.lst p2), some (.dat (.int 2))]) Q := fun h f => (thg h).mono fun o e ⟨d, h1, h2, p3, hp3, he⟩ => f o e d p3 h1 h2 hp3 he
        have pick : ∀ {l : List D}, l.length = 4 → ezDs l = true → x < 4 → ∃ d, atI l (x : Int) = some d ∧ ezD d = true := fun {l} hl hm hx => by
          obtain ⟨d, h1, h2⟩ := at_of (xs := l) (x := x) (by omega)
          exact ⟨d, h1, ezDs_mem hm h2⟩
        cases d with
        | none =>
          push_cast
          refine last hp1 fun o e d p2 h1 h2 hp2 he => ?_
          push_cast [he, List.isEmpty_nil, ro_rv]
          exact ⟨d, h1, h2, p2, hp2, rfl⟩
        | int i =>
          have hi0 : 0 ≤ i ∧ i < 10 ^ 10 := by cases k <;> exact hd
          have hi : i.natAbs < 2 ^ 200 := by omega
          have hsl := PyProof.Rows.toString_length_le hi0.1 (k := 10) (by decide) hi0.2
          push_cast
          refine ⟨fun hx4 => ⟨log2_64 (by omega), ?_⟩, fun _ => ?_⟩
          · obtain ⟨d, q1, q2⟩ := pick (l := [.int (i + 1), .int (i - 1), .bool (decide (0 < i)), .str (toString i)]) rfl (by simp only [ezDs, ezD, Bool.true_and, Bool.and_true, decide_eq_true_eq]; exact Nat.le_trans hsl (by decide)) (by omega)
            push_cast [q1]
            exact ⟨d, q2, ⟨rfl, rfl⟩, p1, hp1, rfl⟩
          · refine last hp1 fun o e d p2 h1 h2 hp2 he => ?_
            push_cast [he, List.isEmpty_nil, ro_rv]
            exact ⟨d, h1, h2, p2, hp2, rfl⟩
        | str z =>
          have hz : z.length ≤ 1000 := by cases k <;> exact hd
          push_cast [gUpper]
          refine ⟨fun hx4 => ?_, fun _ => ?_⟩
          · refine ⟨by rw [slZ, show (Str.ofString "a").length = 1 from rfl]; omega, by omega, by rw [slZ]; omega, by rw [slZ, show (Str.ofString "1").length = 1 from rfl]; omega, ?_⟩
            obtain ⟨d, q1, q2⟩ := pick (l := [.str (z ++ Str.ofString "a"), .str (Txt.upper z), .str (cutS z none (some (-1))), .str (Str.ofString "1" ++ z)]) rfl (ez_four hz) (by omega)
            push_cast [q1]
            exact ⟨d, q2, ⟨rfl, rfl⟩, p1, hp1, rfl⟩
          · refine last hp1 fun o e d p2 h1 h2 hp2 he => ?_
            push_cast [he, List.isEmpty_nil, ro_rv]
            exact ⟨d, h1, h2, p2, hp2, rfl⟩
        | tuple ds =>
          have hl : ds.length ≤ 1000 := by
            cases k with
            | zero => exact hd.elim
            | succ k => exact hd.1
          have hm : ezDs ds = true := ez_of hem
          push_cast
          refine ⟨fun hx4 => ?_, fun _ => ?_⟩
          · refine ⟨by have := cutL_len (xs := ds) (lo := some (-1)) (hi := none); rw [slZ]; omega, ?_⟩
            have lc1 := cutL_len (xs := ds) (lo := some (-1)) (hi := none)
            have lc2 := cutL_len (xs := ds) (lo := none) (hi := some (-1))
            have hez : ezDs [PyData.tuple (ds ++ cutL ds (some (-1)) none), .tuple (cutL ds none (some (-1))), .list ds, .tuple ds.reverse] = true := by
              refine ezDs_all fun d hd => ?_
              simp only [List.mem_cons, List.not_mem_nil, or_false] at hd
              rcases hd with rfl | rfl | rfl | rfl
              · exact ez_tup (ezDs_app hm (ezDs_cut hm)) (by rw [List.length_append]; omega)
              · exact ez_tup (ezDs_cut hm) (by omega)
              · exact ez_lst hm (by omega)
              · exact ez_tup (ezDs_all fun d hd => ezDs_mem hm (List.mem_reverse.mp hd)) (by rw [List.length_reverse]; omega)
            obtain ⟨d, q1, q2⟩ := pick (l := [.tuple (ds ++ cutL ds (some (-1)) none), .tuple (cutL ds none (some (-1))), .list ds, .tuple ds.reverse]) rfl hez (by omega)
            push_cast [q1]
            exact ⟨d, q2, ⟨rfl, rfl⟩, p1, hp1, rfl⟩
          · refine last hp1 fun o e d p2 h1 h2 hp2 he => ?_
            push_cast [he, List.isEmpty_nil, ro_rv]
            exact ⟨d, h1, h2, p2, hp2, rfl⟩
        | bool b => cases k <;> exact hd.elim
        | list b => cases k <;> exact hd.elim
        | dict b => cases k <;> exact hd.elim
      · exact h
end Mi

set_option Elab.async false
set_option linter.all false
set_option maxRecDepth 20000
set_option maxHeartbeats 0
namespace Mi
open PySem PySem.Spec L2
local macro_rules
  | `(tactic| push_cast) => `(tactic| simp only [ok_ok, ok_ex, ok_stuck, ok_ret, ok_stk, ok_bnd, ok_ofO, opt_some, opt_none, opt_map, opt_bind, opt_ite, rb_b, ri_i, ro_d, ro_own, ro_pl, ok_mC, ok_bin, ok_isi, ok_tst, ok_and, ok_or, ok_not, ok_andV, ok_orV, ok_notV, ok_mif, ok_nil, ok_cons, ok_frz_d, ok_frz_pl, ok_frzAll_nil, ok_frzAll_cons, ok_tup, ok_lst, ok_no, ok_so, ok_sl, ok_cb, resAll_nil, resAll_cons, ok_call, ok_seq, seqQ_nx, seqQ_rt, seqQ_bk, seqQ_ct, ok_mEx, ok_mRet, ok_ite, ok_set, ok_setK_d, ok_setK_own, ok_setK_pl, ok_runF, runQ_rt, runQ_nx, frz_d, frz_lst, frz_dat, frz_pl, res_d, res_pl, rv_val, rv_tup, rv_lst, orv_dat, orv_lst, ok_neg, ok_lstR, ok_chkL, lstAt, ok_mMet, ok_mMetF, ok_store, ok_mFor, forQ_nx, forQ_ct, forQ_bk, forQ_rt, ok_mLc, ok_mWk, wkOf_str, wkOf_list, wkOf_tuple, wkOf_pl, rsI_i, ok_rng1, ok_rng2, ok_rng3, rsI2_i, rsI3_i, ok_enu, ok_zip, seqOf_list, seqOf_tuple, seqOf_pl, ok_setE, ok_back, rs_s, ok_tx0, ok_tx1, ok_dic1, lst1_l, datAt, ok_sortK, ok_maxK, rd1_d, ok_mTgt, ok_isN, ok_maxD, gExt_l, gExt_t, gIns_0, gClr_0, gSorted_l, mVar, argOs, argO, ioSlots, lentSlots, apart, backEnv, allFlat, O.flat, flat, flats, wipeE, restE, ownFree, srcOk, asgT_nm, asgT_tp, asgTs_nil, asgTs_cons, Option.bind_some, opt_vB, opt_vI, gLt_i, gLe_i, gGt_i, gGe_i, gAdd_i, gAdd_t, gAdd_l, gAdd_s, gSub_i, gMul_i, gFdiv_i, gMod_i, gPow_i, gIx_l, gIx_t, gIx_s, gLen_l, gLen_t, gLen_s, gTuple_l, gTuple_t, gList_l, gList_t, gInt_i, gInt_b, gMax2_i, gMin2_i, gCut_l, gCut_t, gCut_s, gAll_l, gAny_l, gSum_l, gEq_i, gNe_i, gEq_b, gNe_b, gEqE_l, gNeE_l, gEqE_t, gNeE_t, gApp_1, gPopI_1, gStr_i, seqD_l, seqD_t, atI_0, List.cons_append, List.nil_append, List.length_cons, List.length_nil, List.replicate_succ, List.replicate_zero, Nat.reduceAdd, Nat.reduceSub, List.getElem?_cons_succ, List.getElem?_cons_zero, List.set_cons_succ, List.set_cons_zero, List.getElem?_nil, List.contains_cons, List.contains_nil, Bool.or_false, Bool.false_or, Bool.or_true, Bool.true_or, Bool.and_true, Bool.true_and, Bool.and_false, Bool.false_and, Nat.reduceBEq, List.isEmpty_nil, List.isEmpty_cons, Bool.not_true, Bool.not_false, List.all_cons, List.all_nil, List.any_cons, List.any_nil, Option.getD_some, Option.getD_none, decide_eq_true_eq, decide_eq_false_iff_not, Bool.true_eq_false, Bool.false_eq_true, true_implies, false_implies, true_and, and_true, false_and, and_false, implies_true, Bool.not_eq_true', Bool.not_eq_false', if_true, if_false, ite_true, ite_false, reduceCtorEq, forall_const, isi_bool_bool, isi_bool_int, isi_bool_str, isi_bool_list, isi_bool_tuple, isi_bool_none, isi_bool_dict, isi_int_bool, isi_int_int, isi_int_str, isi_int_list, isi_int_tuple, isi_int_none, isi_int_dict, isi_str_bool, isi_str_int, isi_str_str, isi_str_list, isi_str_tuple, isi_str_none, isi_str_dict, isi_list_bool, isi_list_int, isi_list_str, isi_list_list, isi_list_tuple, isi_list_none, isi_list_dict, isi_tuple_bool, isi_tuple_int, isi_tuple_str, isi_tuple_list, isi_tuple_tuple, isi_tuple_none, isi_tuple_dict, isi_dict_bool, isi_dict_int, isi_dict_str, isi_dict_list, isi_dict_tuple, isi_dict_none, isi_dict_dict])
  | `(tactic| push_cast [$ls,*]) => `(tactic| simp only [ok_ok, ok_ex, ok_stuck, ok_ret, ok_stk, ok_bnd, ok_ofO, opt_some, opt_none, opt_map, opt_bind, opt_ite, rb_b, ri_i, ro_d, ro_own, ro_pl, ok_mC, ok_bin, ok_isi, ok_tst, ok_and, ok_or, ok_not, ok_andV, ok_orV, ok_notV, ok_mif, ok_nil, ok_cons, ok_frz_d, ok_frz_pl, ok_frzAll_nil, ok_frzAll_cons, ok_tup, ok_lst, ok_no, ok_so, ok_sl, ok_cb, resAll_nil, resAll_cons, ok_call, ok_seq, seqQ_nx, seqQ_rt, seqQ_bk, seqQ_ct, ok_mEx, ok_mRet, ok_ite, ok_set, ok_setK_d, ok_setK_own, ok_setK_pl, ok_runF, runQ_rt, runQ_nx, frz_d, frz_lst, frz_dat, frz_pl, res_d, res_pl, rv_val, rv_tup, rv_lst, orv_dat, orv_lst, ok_neg, ok_lstR, ok_chkL, lstAt, ok_mMet, ok_mMetF, ok_store, ok_mFor, forQ_nx, forQ_ct, forQ_bk, forQ_rt, ok_mLc, ok_mWk, wkOf_str, wkOf_list, wkOf_tuple, wkOf_pl, rsI_i, ok_rng1, ok_rng2, ok_rng3, rsI2_i, rsI3_i, ok_enu, ok_zip, seqOf_list, seqOf_tuple, seqOf_pl, ok_setE, ok_back, rs_s, ok_tx0, ok_tx1, ok_dic1, lst1_l, datAt, ok_sortK, ok_maxK, rd1_d, ok_mTgt, ok_isN, ok_maxD, gExt_l, gExt_t, gIns_0, gClr_0, gSorted_l, mVar, argOs, argO, ioSlots, lentSlots, apart, backEnv, allFlat, O.flat, flat, flats, wipeE, restE, ownFree, srcOk, asgT_nm, asgT_tp, asgTs_nil, asgTs_cons, Option.bind_some, opt_vB, opt_vI, gLt_i, gLe_i, gGt_i, gGe_i, gAdd_i, gAdd_t, gAdd_l, gAdd_s, gSub_i, gMul_i, gFdiv_i, gMod_i, gPow_i, gIx_l, gIx_t, gIx_s, gLen_l, gLen_t, gLen_s, gTuple_l, gTuple_t, gList_l, gList_t, gInt_i, gInt_b, gMax2_i, gMin2_i, gCut_l, gCut_t, gCut_s, gAll_l, gAny_l, gSum_l, gEq_i, gNe_i, gEq_b, gNe_b, gEqE_l, gNeE_l, gEqE_t, gNeE_t, gApp_1, gPopI_1, gStr_i, seqD_l, seqD_t, atI_0, List.cons_append, List.nil_append, List.length_cons, List.length_nil, List.replicate_succ, List.replicate_zero, Nat.reduceAdd, Nat.reduceSub, List.getElem?_cons_succ, List.getElem?_cons_zero, List.set_cons_succ, List.set_cons_zero, List.getElem?_nil, List.contains_cons, List.contains_nil, Bool.or_false, Bool.false_or, Bool.or_true, Bool.true_or, Bool.and_true, Bool.true_and, Bool.and_false, Bool.false_and, Nat.reduceBEq, List.isEmpty_nil, List.isEmpty_cons, Bool.not_true, Bool.not_false, List.all_cons, List.all_nil, List.any_cons, List.any_nil, Option.getD_some, Option.getD_none, decide_eq_true_eq, decide_eq_false_iff_not, Bool.true_eq_false, Bool.false_eq_true, true_implies, false_implies, true_and, and_true, false_and, and_false, implies_true, Bool.not_eq_true', Bool.not_eq_false', if_true, if_false, ite_true, ite_false, reduceCtorEq, forall_const, isi_bool_bool, isi_bool_int, isi_bool_str, isi_bool_list, isi_bool_tuple, isi_bool_none, isi_bool_dict, isi_int_bool, isi_int_int, isi_int_str, isi_int_list, isi_int_tuple, isi_int_none, isi_int_dict, isi_str_bool, isi_str_int, isi_str_str, isi_str_list, isi_str_tuple, isi_str_none, isi_str_dict, isi_list_bool, isi_list_int, isi_list_str, isi_list_list, isi_list_tuple, isi_list_none, isi_list_dict, isi_tuple_bool, isi_tuple_int, isi_tuple_str, isi_tuple_list, isi_tuple_tuple, isi_tuple_none, isi_tuple_dict, isi_dict_bool, isi_dict_int, isi_dict_str, isi_dict_list, isi_dict_tuple, isi_dict_none, isi_dict_dict, $ls,*])
/-! ### what a house is, plainly -/
def numB (lo hi : Int) : D → Bool
  | .int i => decide (lo ≤ i) && decide (i ≤ hi)
  | _ => false
def wholeB : D → Bool
  | .int i => decide (0 ≤ i)
  | _ => false
def spotB (ts : List Nat) : D → Bool
  | .tuple [] => true
  | .tuple [a] => numB 0 ((ts.length : Int) - 1) a
  | .tuple [.int i, b] => numB 0 ((ts.length : Int) - 1) (.int i) && numB 0 (((ts.getD i.toNat 0 : Nat) : Int) - 1) b
  | _ => false
def needsB : D → Bool
  | .tuple ds => decide (ds.length ≤ 3) && ds.all (numB 0 7) && (match intsD ds with
    | some ns => decide ((dedup ns).length = ns.length)
    | none => false)
  | _ => false
def smB (c : Nat) : Bool := decide (97 ≤ c) && decide (c ≤ 122)
def wordB : D → Bool
  | .str z => decide (0 < z.length) && decide (z.length ≤ 8) && z.cps.toList.all smB
  | _ => false
def ltS (a b : Str) : Bool := decide (a.cps.toList < b.cps.toList)
def risL : List Str → Bool
  | a :: b :: l => ltS a b && risL (b :: l)
  | _ => true
def wordsB : D → Bool
  | .tuple ds => decide (ds.length ≤ 4) && ds.all wordB && (match strsD ds with
    | some zs => risL zs
    | none => false)
  | _ => false
theorem s_is_whole {d : D} : Ok (f_is_whole [some (.dat d)]) fun o e => o = .dat (.bool (wholeB d)) := by
  unfold f_is_whole m_is_whole wholeB
  push_cast
  cases d <;> push_cast
theorem s_is_below {d : D} {m : Int} : Ok (f_is_below [some (.dat d), some (.dat (.int m))]) fun o e => o = .dat (.bool (numB 0 (m - 1) d)) := by
  unfold f_is_below m_is_below
  push_cast
  refine s_is_whole.mono ?_
  rintro _ e rfl
  cases d <;> push_cast [wholeB, numB]
  rename_i i
  refine ⟨fun h => ?_, fun h => ?_⟩
  · simp [h]; omega
  · simp [h]
theorem s_is_from_one {d : D} {m : Int} : Ok (f_is_from_one [some (.dat d), some (.dat (.int m))]) fun o e => o = .dat (.bool (numB 1 m d)) := by
  unfold f_is_from_one m_is_from_one
  push_cast
  refine s_is_below.mono ?_
  rintro _ e rfl
  cases d <;> push_cast [numB]
  rename_i i
  refine ⟨fun h => ?_, fun h => ?_⟩
  · simp at h
    rw [decide_eq_true (show i ≤ m by omega), Bool.and_true]
    congr 1
  · simp at h
    by_cases h1 : 1 ≤ i
    · rw [decide_eq_false (show ¬ i ≤ m by omega)]
      simp
    · rw [decide_eq_false h1]
      simp
theorem s_law_is_number {d : D} {lo hi : Int} : Ok (f_law_is_number [some (.dat d), some (.dat (.int lo)), some (.dat (.int hi))]) fun o e => o = .dat (.bool (numB lo hi d)) := by
  unfold f_law_is_number m_law_is_number
  push_cast
  cases d <;> push_cast [numB, ok_chV, ok_mCh]
  rename_i i
  refine ⟨fun h => ?_, fun h => ?_⟩ <;> simp [h]
theorem n0 : ((0 : Nat) : Int) = 0 := rfl
theorem n1 : ((1 : Nat) : Int) = 1 := rfl
theorem n2 : ((2 : Nat) : Int) = 2 := rfl
theorem n3 : ((3 : Nat) : Int) = 3 := rfl
theorem n5 : ((5 : Nat) : Int) = 5 := rfl
theorem at1_0 {a : D} : atI [a] 0 = some a := rfl
theorem at2_0 {a b : D} : atI [a, b] 0 = some a := rfl
theorem at2_1 {a b : D} : atI [a, b] 1 = some b := rfl
theorem at3_0 {a b c : D} : atI [a, b, c] 0 = some a := rfl
theorem at3_1 {a b c : D} : atI [a, b, c] 1 = some b := rfl
theorem at3_2 {a b c : D} : atI [a, b, c] 2 = some c := rfl
theorem at5_0 {a b c d e : D} : atI [a, b, c, d, e] 0 = some a := rfl
theorem at5_1 {a b c d e : D} : atI [a, b, c, d, e] 1 = some b := rfl
theorem at5_2 {a b c d e : D} : atI [a, b, c, d, e] 2 = some c := rfl
theorem at5_3 {a b c d e : D} : atI [a, b, c, d, e] 3 = some d := rfl
theorem at5_4 {a b c d e : D} : atI [a, b, c, d, e] 4 = some e := rfl
theorem at_ts {ts : List Nat} {i : Int} (h : numB 0 ((ts.length : Int) - 1) (.int i) = true) : atI (ts.map iD) i = some (.int (ts.getD i.toNat 0 : Nat)) := by
  have h : (decide (0 ≤ i) && decide (i ≤ (ts.length : Int) - 1)) = true := h
  rw [Bool.and_eq_true, decide_eq_true_eq, decide_eq_true_eq] at h
  obtain ⟨n, rfl⟩ := Int.eq_ofNat_of_zero_le h.1
  have hn : n < ts.length := by omega
  rw [atI_lt (by omega) (by simp; omega)]
  simp [hn, iD]
theorem numB_int {lo hi : Int} {a : D} (h : numB lo hi a = true) : ∃ i : Int, a = .int i ∧ lo ≤ i ∧ i ≤ hi := by
  cases a with
  | int i =>
    have h : (decide (lo ≤ i) && decide (i ≤ hi)) = true := h
    rw [Bool.and_eq_true, decide_eq_true_eq, decide_eq_true_eq] at h
    exact ⟨i, rfl, h.1, h.2⟩
  | _ => cases h
theorem numB_nat {hi : Int} {a : D} (h : numB 0 hi a = true) : ∃ i : Nat, a = iD i ∧ (i : Int) ≤ hi := by
  obtain ⟨i, rfl, h1, h2⟩ := numB_int h
  obtain ⟨n, rfl⟩ := Int.eq_ofNat_of_zero_le h1
  exact ⟨n, rfl, h2⟩
theorem spotB_f {ts : List Nat} {a b : D} (h : numB 0 ((ts.length : Int) - 1) a = false) : spotB ts (.tuple [a, b]) = false := by
  cases a with
  | int i =>
    show (numB 0 ((ts.length : Int) - 1) (.int i) && _) = false
    rw [h]; rfl
  | _ => rfl
theorem gIx_ts {ts : List Nat} {i : Int} (h : numB 0 ((ts.length : Int) - 1) (.int i) = true) : gIx (.tuple (ts.map iD)) (.int i) = some (.val (.int (ts.getD i.toNat 0 : Nat))) := by
  show (atI (ts.map iD) i).map Out.val = _
  rw [at_ts h]; rfl
theorem s_is_spot_of {ts : List Nat} {d : D} : Ok (f_is_spot_of [some (.dat (.tuple (ts.map iD))), some (.dat d)]) fun o e => o = .dat (.bool (spotB ts d)) := by
  unfold f_is_spot_of m_is_spot_of
  cases d with
  | tuple ds =>
    match ds with
    | [] => push_cast [spotB]; simp
    | [a] =>
      push_cast [spotB, at1_0, List.length_map, n1]
      simp only [Int.reduceLT, Int.reduceEq, not_true_eq_false, not_false_eq_true, false_imp_iff, true_imp_iff, true_and, and_true]
      refine s_is_below.mono ?_
      rintro _ e rfl
      push_cast
      exact ⟨fun h => by rw [h], fun h => by rw [h]⟩
    | [a, b] =>
      push_cast [at2_0, at2_1, List.length_map, n2]
      simp only [Int.reduceLT, Int.reduceEq, not_true_eq_false, not_false_eq_true, false_imp_iff, true_imp_iff, true_and, and_true]
      refine s_is_below.mono ?_
      rintro _ e rfl
      push_cast
      refine ⟨fun h => by rw [spotB_f h], fun h => ?_⟩
      obtain ⟨i, rfl, _⟩ := numB_int h
      push_cast [gIx_ts h]
      refine s_is_below.mono ?_
      rintro _ e rfl
      push_cast
      have e1 : spotB ts (.tuple [.int i, b]) = (numB 0 ((ts.length : Int) - 1) (.int i) && numB 0 (((ts.getD i.toNat 0 : Nat) : Int) - 1) b) := rfl
      rw [e1, h, Bool.true_and]
    | a :: b :: c :: ds =>
      have e1 : spotB ts (.tuple (a :: b :: c :: ds)) = false := by cases a <;> rfl
      rw [e1]
      push_cast [List.length_cons]
      exact fun h => absurd (by omega) h
  | _ => push_cast [spotB]
theorem s_law_is_place {ts : List Nat} {d : D} : Ok (f_law_is_place [some (.dat (.tuple (ts.map iD))), some (.dat d)]) fun o e => o = .dat (.bool (spotB ts d)) := by
  unfold f_law_is_place m_law_is_place
  cases d with
  | tuple ds =>
    match ds with
    | [] => push_cast [spotB]; simp
    | [a] =>
      push_cast [spotB, at1_0, List.length_map, n1]
      simp only [Int.reduceLT, Int.reduceEq, not_true_eq_false, not_false_eq_true, false_imp_iff, true_imp_iff, true_and, and_true]
      refine s_law_is_number.mono ?_
      rintro _ e rfl
      push_cast
      exact ⟨fun h => by rw [h], fun h => by rw [h]⟩
    | [a, b] =>
      push_cast [at2_0, at2_1, List.length_map, n2]
      simp only [Int.reduceLT, Int.reduceEq, not_true_eq_false, not_false_eq_true, false_imp_iff, true_imp_iff, true_and, and_true]
      refine s_law_is_number.mono ?_
      rintro _ e rfl
      push_cast
      refine ⟨fun h => by rw [spotB_f h], fun h => ?_⟩
      obtain ⟨i, rfl, _⟩ := numB_int h
      push_cast [gIx_ts h]
      refine s_law_is_number.mono ?_
      rintro _ e rfl
      push_cast
      have e1 : spotB ts (.tuple [.int i, b]) = (numB 0 ((ts.length : Int) - 1) (.int i) && numB 0 (((ts.getD i.toNat 0 : Nat) : Int) - 1) b) := rfl
      rw [e1, h, Bool.true_and]
    | a :: b :: c :: ds =>
      have e1 : spotB ts (.tuple (a :: b :: c :: ds)) = false := by cases a <;> rfl
      rw [e1]
      push_cast [List.length_cons]
      exact fun h => absurd (by omega) h
  | _ => push_cast [spotB]
theorem bools_map {f : D → Bool} : ∀ {ds : List D}, boolsD (((ds.filter fun _ => true)).map fun d => .bool (f d)) = some (ds.map f)
  | [] => rfl
  | d :: ds => by
    have := bools_map (f := f) (ds := ds)
    rw [List.filter_eq_self.mpr fun _ _ => rfl] at this ⊢
    show (boolsD (ds.map fun d => .bool (f d))).map (f d :: ·) = _
    rw [this]; rfl
theorem all_id {f : D → Bool} {ds : List D} : (ds.map f).all id = ds.all f := by
  rw [List.all_map]; rfl
theorem ints_of {lo hi : Int} : ∀ {ds : List D}, ds.all (numB lo hi) = true → ∃ ns : List Int, ds = ns.map PyData.int ∧ intsD ds = some ns ∧ ns.length = ds.length ∧ ∀ n ∈ ns, lo ≤ n ∧ n ≤ hi
  | [], _ => ⟨[], rfl, rfl, rfl, by simp⟩
  | d :: ds, h => by
    rw [List.all_cons, Bool.and_eq_true] at h
    obtain ⟨ns, rfl, e, hl, hb⟩ := ints_of h.2
    obtain ⟨i, rfl, h1, h2⟩ := numB_int h.1
    refine ⟨i :: ns, rfl, ?_, by simp, fun n hn => ?_⟩
    · show (intsD (ns.map PyData.int)).map (i :: ·) = _
      rw [e]; rfl
    · rcases List.mem_cons.mp hn with rfl | hn
      · exact ⟨h1, h2⟩
      · exact hb n hn
theorem setOf_ints {ns : List Int} {ds : List D} (h : intsD ds = some ns) (hl : ns.length ≤ 100) : setOf ds = some (.inl ns) := by
  unfold setOf
  rw [h]
  have : ns.length + 1 < scanBound := by unfold scanBound; omega
  simp only [this, if_true]
theorem needs_eq {ds : List D} {ns : List Int} (hl : ds.length ≤ 3) (ha : ds.all (numB 0 7) = true) (hi : intsD ds = some ns) : needsB (.tuple ds) = decide ((dedup ns).length = ns.length) := by
  show (decide (ds.length ≤ 3) && ds.all (numB 0 7) && (match intsD ds with
    | some ns => decide ((dedup ns).length = ns.length)
    | none => false)) = _
  rw [decide_eq_true hl, ha, hi]; rfl
theorem needs_f1 {ds : List D} (hl : ¬ ds.length ≤ 3) : needsB (.tuple ds) = false := by
  show (decide (ds.length ≤ 3) && _ && _) = false
  rw [decide_eq_false hl]; rfl
theorem needs_f2 {ds : List D} (ha : ds.all (numB 0 7) = false) : needsB (.tuple ds) = false := by
  show (decide (ds.length ≤ 3) && ds.all (numB 0 7) && _) = false
  rw [ha, Bool.and_false]; rfl
theorem s_are_needs {d : D} : Ok (f_are_needs [some (.dat d)]) fun o e => o = .dat (.bool (needsB d)) := by
  unfold f_are_needs m_are_needs
  cases d with
  | tuple ds =>
    push_cast
    refine ⟨fun h => ?_, fun h => ?_⟩
    · rw [needs_f1 (by omega)]
    · refine ⟨by rw [slZ]; omega, ?_⟩
      refine ok_lcP (fun _ => true) (fun d => .bool (numB 0 7 d)) rfl ?_ ?_
      · intro d hd
        push_cast
        refine s_is_below.mono ?_
        rintro _ e rfl
        push_cast
        rfl
      · push_cast [bools_map, Option.bind_some, all_id]
        refine ⟨fun ha => ?_, fun ha => by rw [needs_f2 ha]⟩
        obtain ⟨ns, _, hi, hn, _⟩ := ints_of ha
        rw [setOf_ints hi (by omega)]
        push_cast
        have e1 : decide (((lenS (.inl ns) : Nat) : Int) = (ds.length : Int)) = needsB (.tuple ds) := by
          rw [needs_eq (by omega) ha hi, hn, decide_eq_decide]
          show (((dedup ns).length : Nat) : Int) = _ ↔ _
          omega
        rw [e1]
  | _ => push_cast [needsB]
theorem s_law_are_names {d : D} : Ok (f_law_are_names [some (.dat d)]) fun o e => o = .dat (.bool (needsB d)) := by
  unfold f_law_are_names m_law_are_names
  cases d with
  | tuple ds =>
    push_cast
    refine ⟨fun h => ?_, fun h => ?_⟩
    · rw [needs_f1 (by omega)]
    · refine ⟨by rw [slZ]; omega, ?_⟩
      refine ok_lcP (fun _ => true) (fun d => .bool (numB 0 7 d)) rfl ?_ ?_
      · intro d hd
        push_cast
        refine s_law_is_number.mono ?_
        rintro _ e rfl
        push_cast
      · push_cast [bools_map, Option.bind_some, all_id]
        refine ⟨fun ha => by rw [needs_f2 ha], fun ha => ?_⟩
        obtain ⟨ns, _, hi, hn, _⟩ := ints_of ha
        rw [setOf_ints hi (by omega)]
        push_cast
        have e1 : decide (((lenS (.inl ns) : Nat) : Int) = (ds.length : Int)) = needsB (.tuple ds) := by
          rw [needs_eq (by omega) ha hi, hn, decide_eq_decide]
          show (((dedup ns).length : Nat) : Int) = _ ↔ _
          omega
        rw [e1]
  | _ => push_cast [needsB]
/-! words -/
theorem leS_a {c : Nat} : (leS (Str.ofString "a") ⟨#[c]⟩ && leS ⟨#[c]⟩ (Str.ofString "z")) = smB c := by
  have e1 : (Str.ofString "a").cps.toList = [97] := by decide +kernel
  have e2 : (Str.ofString "z").cps.toList = [122] := by decide +kernel
  unfold leS smB
  rw [e1, e2]
  show (!decide ([c] < [97]) && !decide ([122] < [c])) = _
  have h1 : ([c] < [97]) ↔ c < 97 := by rw [List.cons_lt_cons_iff]; simp
  have h2 : ([122] < [c]) ↔ 122 < c := by rw [List.cons_lt_cons_iff]; simp
  simp only [h1, h2]
  by_cases a : 97 ≤ c <;> by_cases b : c ≤ 122 <;> simp [a, b] <;> omega
def smF : D → Bool
  | .str z => (match z.cps.toList with
    | [c] => smB c
    | _ => false)
  | _ => false
theorem all_txt {z : Str} : (txtD z).all smF = z.cps.toList.all smB := by
  unfold txtD
  rw [List.all_map]
  rfl
theorem word_f1 {z : Str} (h : ¬ (0 < z.length ∧ z.length ≤ 8)) : wordB (.str z) = false := by
  show (decide (0 < z.length) && decide (z.length ≤ 8) && _) = false
  by_cases a : 0 < z.length
  · rw [decide_eq_false (show ¬ z.length ≤ 8 from fun b => h ⟨a, b⟩), Bool.and_false]; rfl
  · rw [decide_eq_false a]; rfl
theorem word_t {z : Str} (h1 : 0 < z.length) (h2 : z.length ≤ 8) : wordB (.str z) = z.cps.toList.all smB := by
  show (decide (0 < z.length) && decide (z.length ≤ 8) && _) = _
  rw [decide_eq_true h1, decide_eq_true h2]; rfl
theorem txt_len {z : Str} : (txtD z).length = z.length := by
  unfold txtD
  rw [List.length_map]; rfl
theorem s_is_word {d : D} (hz : ezD d = true) : Ok (f_is_word [some (.dat d)]) fun o e => o = .dat (.bool (wordB d)) := by
  unfold f_is_word m_is_word
  cases d with
  | str z =>
    have hz : z.length ≤ 4000 := by
      have : decide (z.length ≤ 4000) = true := hz
      rwa [decide_eq_true_eq] at this
    push_cast [ok_chV, ok_mCh]
    refine ⟨by rw [slZ]; omega, fun h1 => ?_, fun h1 => ?_⟩
    · refine ⟨fun h2 => ?_, fun h2 => ?_⟩
      · refine ⟨by rw [txt_len, slZ]; omega, ?_⟩
        refine ok_lcP (fun _ => true) (fun d => .bool (smF d)) rfl ?_ ?_
        · intro d hd
          unfold txtD at hd
          obtain ⟨c, _, rfl⟩ := List.mem_map.mp hd
          push_cast
          refine ok_chS (x := Str.ofString "a") (y := ⟨#[c]⟩) (z := Str.ofString "z") rfl rfl rfl ?_
          rw [leS_a]
          push_cast
          rfl
        · push_cast [bools_map, Option.bind_some, all_id, all_txt]
          rw [word_t (by omega) (by omega)]
      · rw [word_f1 (by omega)]
    · rw [word_f1 (by omega)]
  | _ => push_cast [wordB]
def nsmF (d : D) : Bool := !smF d
theorem in_abc {c : Nat} : gInS true (.str ⟨#[c]⟩) (.str (Str.ofString "abcdefghijklmnopqrstuvwxyz")) = vB (!smB c) := by
  have e : (Str.ofString "abcdefghijklmnopqrstuvwxyz").cps.toList = List.range' 97 26 := by decide +kernel
  show vB (xor true (decide (c ∈ (Str.ofString "abcdefghijklmnopqrstuvwxyz").cps.toList))) = _
  rw [e, Bool.true_xor]
  congr 2
  unfold smB
  by_cases a : 97 ≤ c <;> by_cases b : c ≤ 122 <;> simp [a, b, List.mem_range'_1] <;> omega
theorem filt_all {f : D → Bool} {l : List D} : ((l.filter fun d => !f d).map fun d => d).isEmpty = l.all f := by
  induction l with
  | nil => rfl
  | cons a l ih =>
    rw [List.filter_cons, List.all_cons]
    cases f a with
    | true => simpa using ih
    | false => simp
theorem s_law_is_named {d : D} (hz : ezD d = true) : Ok (f_law_is_named [some (.dat d)]) fun o e => o = .dat (.bool (wordB d)) := by
  unfold f_law_is_named m_law_is_named
  cases d with
  | str z =>
    have hz : z.length ≤ 4000 := by
      have : decide (z.length ≤ 4000) = true := hz
      rwa [decide_eq_true_eq] at this
    push_cast [ok_mCh]
    refine ⟨by rw [slZ]; omega, fun h1 => ⟨fun h2 => ?_, fun h2 => ?_⟩, fun h1 => ?_⟩
    · rw [word_f1 (by omega)]
    · refine ⟨by rw [txt_len, slZ]; omega, ?_⟩
      refine ok_lcP (fun d => !smF d) (fun d => d) rfl ?_ ?_
      · intro d hd
        unfold txtD at hd
        obtain ⟨c, _, rfl⟩ := List.mem_map.mp hd
        push_cast [in_abc]
        rfl
      · rw [filt_all, all_txt, word_t (by omega) (by omega)]
    · rw [word_f1 (by omega)]
  | _ => push_cast [wordB]
/-! rows of words -/
theorem ltS_iff {a b : Str} : ltS a b = true ↔ a.cps.toList < b.cps.toList := by unfold ltS; rw [decide_eq_true_eq]
theorem ltS_trans {a b c : Str} (h : ltS a b = true) (k : ltS b c = true) : ltS a c = true := by
  rw [ltS_iff] at *
  exact List.lt_trans h k
theorem ltS_ne {a b : Str} (h : ltS a b = true) : a ≠ b := by
  rintro rfl
  rw [ltS_iff] at h
  exact List.lt_irrefl _ h
theorem ris_pw : ∀ {l : List Str}, risL l = true → l.Pairwise fun a b => ltS a b = true
  | [], _ => .nil
  | [a], _ => by simp
  | a :: b :: l, h => by
    have h : (ltS a b && risL (b :: l)) = true := h
    rw [Bool.and_eq_true] at h
    have ih := ris_pw h.2
    refine .cons (fun c hc => ?_) ih
    rcases List.mem_cons.mp hc with rfl | hc
    · exact h.1
    · exact ltS_trans h.1 ((List.pairwise_cons.mp ih).1 c hc)
theorem pw_ris : ∀ {l : List Str}, (l.Pairwise fun a b => ltS a b = true) → risL l = true
  | [], _ => rfl
  | [a], _ => rfl
  | a :: b :: l, h => by
    obtain ⟨h1, h2⟩ := List.pairwise_cons.mp h
    show (ltS a b && risL (b :: l)) = true
    rw [h1 b (by simp), pw_ris h2]; rfl
theorem dedup_nodup9 {α : Type} [DecidableEq α] : ∀ {l : List α}, l.Nodup → dedup l = l
  | [], _ => rfl
  | a :: l, h => by
    obtain ⟨h1, h2⟩ := List.nodup_cons.mp h
    show (if a ∈ dedup l then dedup l else a :: dedup l) = _
    rw [dedup_nodup9 h2, if_neg h1]
theorem leT {a b : Str} (h : ltS a b = true) : decide (a.cps.toList ≤ b.cps.toList) = true := by
  rw [decide_eq_true_eq]
  exact List.le_of_lt (ltS_iff.mp h)
theorem sortS_pw {l : List Str} : (sortS l).Pairwise fun a b => ltS a b = true := by
  have nd : (sortS l).Nodup := (List.mergeSort_perm _ _).nodup_iff.mpr (nodup_dedup _)
  have pw : (sortS l).Pairwise fun a b => decide (a.cps.toList ≤ b.cps.toList) = true := by
    unfold sortS
    refine List.pairwise_mergeSort (fun a b c h k => ?_) (fun a b => ?_) _
    · rw [decide_eq_true_eq] at *
      exact List.le_trans h k
    · rw [Bool.or_eq_true, decide_eq_true_eq, decide_eq_true_eq]
      exact List.le_total _ _
  refine (nd.and pw).imp fun {a b} h => ?_
  obtain ⟨h1, h2⟩ := h
  rw [decide_eq_true_eq] at h2
  rw [ltS_iff]
  by_cases z : a.cps.toList < b.cps.toList
  · exact z
  · exact absurd (str_ext (List.le_antisymm h2 (List.not_lt.mp z))) h1
theorem sortS_id {l : List Str} (h : risL l = true) : sortS l = l := by
  have pw := ris_pw h
  unfold sortS
  rw [dedup_nodup9 (pw.imp fun h => ltS_ne h)]
  exact List.mergeSort_of_pairwise (pw.imp fun h => leT h)
theorem ris_iff {l : List Str} : l = sortS l ↔ risL l = true := by
  constructor
  · intro h
    rw [h]
    exact pw_ris sortS_pw
  · intro h
    exact (sortS_id h).symm
theorem strs_of : ∀ {ds : List D}, ds.all wordB = true → ∃ zs : List Str, ds = zs.map PyData.str ∧ zs.length = ds.length
  | [], _ => ⟨[], rfl, rfl⟩
  | d :: ds, h => by
    rw [List.all_cons, Bool.and_eq_true] at h
    obtain ⟨zs, rfl, hl⟩ := strs_of h.2
    cases d with
    | str z => exact ⟨z :: zs, rfl, by simp⟩
    | _ => cases h.1
theorem words_eq {zs : List Str} (hl : zs.length ≤ 4) (ha : (zs.map PyData.str).all wordB = true) : wordsB (.tuple (zs.map PyData.str)) = risL zs := by
  show (decide ((zs.map PyData.str).length ≤ 4) && (zs.map PyData.str).all wordB && (match strsD (zs.map PyData.str) with
    | some zs => risL zs
    | none => false)) = _
  rw [List.length_map, decide_eq_true hl, ha, strsD_map]; rfl
theorem words_f1 {ds : List D} (hl : ¬ ds.length ≤ 4) : wordsB (.tuple ds) = false := by
  show (decide (ds.length ≤ 4) && _ && _) = false
  rw [decide_eq_false hl]; rfl
theorem words_f2 {ds : List D} (ha : ds.all wordB = false) : wordsB (.tuple ds) = false := by
  show (decide (ds.length ≤ 4) && ds.all wordB && _) = false
  rw [ha, Bool.and_false]; rfl
def zlF : D → Bool
  | .tuple [.str a, .str b] => ltS a b
  | _ => false
theorem zip_ris {zs : List Str} (hl : zs.length ≤ 4) : (zipD (cutL (zs.map PyData.str) none (some (-1))) (cutL (zs.map PyData.str) (some 1) none)).all zlF = risL zs ∧ (∀ d ∈ zipD (cutL (zs.map PyData.str) none (some (-1))) (cutL (zs.map PyData.str) (some 1) none), ∃ a b, d = .tuple [.str a, .str b]) := by
  match zs, hl with
  | [], _ => exact ⟨rfl, by rintro d hd; cases hd⟩
  | [a], _ => exact ⟨rfl, by rintro d hd; cases hd⟩
  | [a, b], _ =>
    refine ⟨?_, ?_⟩
    · show (ltS a b && true) = (ltS a b && true)
      rfl
    · intro d hd
      have hd : d ∈ [PyData.tuple [.str a, .str b]] := hd
      exact ⟨a, b, List.mem_singleton.mp hd⟩
  | [a, b, c], _ =>
    refine ⟨rfl, ?_⟩
    intro d hd
    have hd : d ∈ [PyData.tuple [.str a, .str b], .tuple [.str b, .str c]] := hd
    simp only [List.mem_cons, List.not_mem_nil, or_false] at hd
    rcases hd with rfl | rfl <;> exact ⟨_, _, rfl⟩
  | [a, b, c, e], _ =>
    refine ⟨rfl, ?_⟩
    intro d hd
    have hd : d ∈ [PyData.tuple [.str a, .str b], .tuple [.str b, .str c], .tuple [.str c, .str e]] := hd
    simp only [List.mem_cons, List.not_mem_nil, or_false] at hd
    rcases hd with rfl | rfl | rfl <;> exact ⟨_, _, rfl⟩
  | a :: b :: c :: e :: f :: zs, h => simp at h
theorem gLt_s {a b : Str} : gLt (.str a) (.str b) = vB (ltS a b) := rfl
theorem s_are_words {d : D} (hz : ezD d = true) : Ok (f_are_words [some (.dat d)]) fun o e => o = .dat (.bool (wordsB d)) := by
  unfold f_are_words m_are_words
  cases d with
  | tuple ds =>
    have hz := ez_of hz
    push_cast
    refine ⟨fun h => by rw [words_f1 (by omega)], fun h => ⟨by rw [slZ]; omega, ?_⟩⟩
    refine ok_lcP (fun _ => true) (fun d => .bool (wordB d)) rfl ?_ ?_
    · intro d hd
      push_cast
      refine (s_is_word (ezDs_mem hz hd)).mono ?_
      rintro _ e rfl
      push_cast
    · push_cast [bools_map, Option.bind_some, all_id]
      refine ⟨fun ha => by rw [words_f2 ha], fun ha => ?_⟩
      obtain ⟨zs, rfl, hn⟩ := strs_of ha
      have hl : zs.length ≤ 4 := by omega
      obtain ⟨hr, hm⟩ := zip_ris hl
      have hzl : (zipD (cutL (zs.map PyData.str) none (some (-1))) (cutL (zs.map PyData.str) (some 1) none)).length ≤ 4 := by
        have := cutL_len (xs := zs.map PyData.str) (lo := none) (hi := some (-1))
        unfold zipD
        rw [List.length_zipWith]
        rw [List.length_map] at this
        omega
      rw [words_eq hl ha, ← hr]
      generalize zipD (cutL (zs.map PyData.str) none (some (-1))) (cutL (zs.map PyData.str) (some 1) none) = Z at hm hzl
      refine ⟨by rw [slZ]; omega, ?_⟩
      refine ok_lcP (fun _ => true) (fun d => .bool (zlF d)) rfl ?_ ?_
      · intro d hd
        obtain ⟨a, b, rfl⟩ := hm d hd
        push_cast [gLt_s, zlF]
      · push_cast [bools_map, Option.bind_some, all_id]
  | _ => push_cast [wordsB]
/-! recipes and tastings -/
def recB (ts : List Nat) : D → Bool
  | .tuple [a, b, c, d, e] => spotB ts b && (numB 0 7 a && numB 0 3 c && (numB 1 3 d && needsB e))
  | _ => false
def twoB : D → Bool
  | .tuple [_, _] => true
  | _ => false
def tasB (ts : List Nat) : D → Bool
  | .tuple [a, b, c] => spotB ts a && (twoB a && (needsB b && wordsB c))
  | _ => false
end Mi

set_option Elab.async false
set_option linter.all false
set_option maxRecDepth 20000
set_option maxHeartbeats 0
namespace Mi
open PySem PySem.Spec L2
local macro_rules
  | `(tactic| push_cast) => `(tactic| simp only [ok_ok, ok_ex, ok_stuck, ok_ret, ok_stk, ok_bnd, ok_ofO, opt_some, opt_none, opt_map, opt_bind, opt_ite, rb_b, ri_i, ro_d, ro_own, ro_pl, ok_mC, ok_bin, ok_isi, ok_tst, ok_and, ok_or, ok_not, ok_andV, ok_orV, ok_notV, ok_mif, ok_nil, ok_cons, ok_frz_d, ok_frz_pl, ok_frzAll_nil, ok_frzAll_cons, ok_tup, ok_lst, ok_no, ok_so, ok_sl, ok_cb, resAll_nil, resAll_cons, ok_call, ok_seq, seqQ_nx, seqQ_rt, seqQ_bk, seqQ_ct, ok_mEx, ok_mRet, ok_ite, ok_set, ok_setK_d, ok_setK_own, ok_setK_pl, ok_runF, runQ_rt, runQ_nx, frz_d, frz_lst, frz_dat, frz_pl, res_d, res_pl, rv_val, rv_tup, rv_lst, orv_dat, orv_lst, ok_neg, ok_lstR, ok_chkL, lstAt, ok_mMet, ok_mMetF, ok_store, ok_mFor, forQ_nx, forQ_ct, forQ_bk, forQ_rt, ok_mLc, ok_mWk, wkOf_str, wkOf_list, wkOf_tuple, wkOf_pl, rsI_i, ok_rng1, ok_rng2, ok_rng3, rsI2_i, rsI3_i, ok_enu, ok_zip, seqOf_list, seqOf_tuple, seqOf_pl, ok_setE, ok_back, rs_s, ok_tx0, ok_tx1, ok_dic1, lst1_l, datAt, ok_sortK, ok_maxK, rd1_d, ok_mTgt, ok_isN, ok_maxD, gExt_l, gExt_t, gIns_0, gClr_0, gSorted_l, mVar, argOs, argO, ioSlots, lentSlots, apart, backEnv, allFlat, O.flat, flat, flats, wipeE, restE, ownFree, srcOk, asgT_nm, asgT_tp, asgTs_nil, asgTs_cons, Option.bind_some, opt_vB, opt_vI, gLt_i, gLe_i, gGt_i, gGe_i, gAdd_i, gAdd_t, gAdd_l, gAdd_s, gSub_i, gMul_i, gFdiv_i, gMod_i, gPow_i, gIx_l, gIx_t, gIx_s, gLen_l, gLen_t, gLen_s, gTuple_l, gTuple_t, gList_l, gList_t, gInt_i, gInt_b, gMax2_i, gMin2_i, gCut_l, gCut_t, gCut_s, gAll_l, gAny_l, gSum_l, gEq_i, gNe_i, gEq_b, gNe_b, gEqE_l, gNeE_l, gEqE_t, gNeE_t, gApp_1, gPopI_1, gStr_i, seqD_l, seqD_t, atI_0, List.cons_append, List.nil_append, List.length_cons, List.length_nil, List.replicate_succ, List.replicate_zero, Nat.reduceAdd, Nat.reduceSub, List.getElem?_cons_succ, List.getElem?_cons_zero, List.set_cons_succ, List.set_cons_zero, List.getElem?_nil, List.contains_cons, List.contains_nil, Bool.or_false, Bool.false_or, Bool.or_true, Bool.true_or, Bool.and_true, Bool.true_and, Bool.and_false, Bool.false_and, Nat.reduceBEq, List.isEmpty_nil, List.isEmpty_cons, Bool.not_true, Bool.not_false, List.all_cons, List.all_nil, List.any_cons, List.any_nil, Option.getD_some, Option.getD_none, decide_eq_true_eq, decide_eq_false_iff_not, Bool.true_eq_false, Bool.false_eq_true, true_implies, false_implies, true_and, and_true, false_and, and_false, implies_true, Bool.not_eq_true', Bool.not_eq_false', if_true, if_false, ite_true, ite_false, reduceCtorEq, forall_const, isi_bool_bool, isi_bool_int, isi_bool_str, isi_bool_list, isi_bool_tuple, isi_bool_none, isi_bool_dict, isi_int_bool, isi_int_int, isi_int_str, isi_int_list, isi_int_tuple, isi_int_none, isi_int_dict, isi_str_bool, isi_str_int, isi_str_str, isi_str_list, isi_str_tuple, isi_str_none, isi_str_dict, isi_list_bool, isi_list_int, isi_list_str, isi_list_list, isi_list_tuple, isi_list_none, isi_list_dict, isi_tuple_bool, isi_tuple_int, isi_tuple_str, isi_tuple_list, isi_tuple_tuple, isi_tuple_none, isi_tuple_dict, isi_dict_bool, isi_dict_int, isi_dict_str, isi_dict_list, isi_dict_tuple, isi_dict_none, isi_dict_dict])
  | `(tactic| push_cast [$ls,*]) => `(tactic| simp only [ok_ok, ok_ex, ok_stuck, ok_ret, ok_stk, ok_bnd, ok_ofO, opt_some, opt_none, opt_map, opt_bind, opt_ite, rb_b, ri_i, ro_d, ro_own, ro_pl, ok_mC, ok_bin, ok_isi, ok_tst, ok_and, ok_or, ok_not, ok_andV, ok_orV, ok_notV, ok_mif, ok_nil, ok_cons, ok_frz_d, ok_frz_pl, ok_frzAll_nil, ok_frzAll_cons, ok_tup, ok_lst, ok_no, ok_so, ok_sl, ok_cb, resAll_nil, resAll_cons, ok_call, ok_seq, seqQ_nx, seqQ_rt, seqQ_bk, seqQ_ct, ok_mEx, ok_mRet, ok_ite, ok_set, ok_setK_d, ok_setK_own, ok_setK_pl, ok_runF, runQ_rt, runQ_nx, frz_d, frz_lst, frz_dat, frz_pl, res_d, res_pl, rv_val, rv_tup, rv_lst, orv_dat, orv_lst, ok_neg, ok_lstR, ok_chkL, lstAt, ok_mMet, ok_mMetF, ok_store, ok_mFor, forQ_nx, forQ_ct, forQ_bk, forQ_rt, ok_mLc, ok_mWk, wkOf_str, wkOf_list, wkOf_tuple, wkOf_pl, rsI_i, ok_rng1, ok_rng2, ok_rng3, rsI2_i, rsI3_i, ok_enu, ok_zip, seqOf_list, seqOf_tuple, seqOf_pl, ok_setE, ok_back, rs_s, ok_tx0, ok_tx1, ok_dic1, lst1_l, datAt, ok_sortK, ok_maxK, rd1_d, ok_mTgt, ok_isN, ok_maxD, gExt_l, gExt_t, gIns_0, gClr_0, gSorted_l, mVar, argOs, argO, ioSlots, lentSlots, apart, backEnv, allFlat, O.flat, flat, flats, wipeE, restE, ownFree, srcOk, asgT_nm, asgT_tp, asgTs_nil, asgTs_cons, Option.bind_some, opt_vB, opt_vI, gLt_i, gLe_i, gGt_i, gGe_i, gAdd_i, gAdd_t, gAdd_l, gAdd_s, gSub_i, gMul_i, gFdiv_i, gMod_i, gPow_i, gIx_l, gIx_t, gIx_s, gLen_l, gLen_t, gLen_s, gTuple_l, gTuple_t, gList_l, gList_t, gInt_i, gInt_b, gMax2_i, gMin2_i, gCut_l, gCut_t, gCut_s, gAll_l, gAny_l, gSum_l, gEq_i, gNe_i, gEq_b, gNe_b, gEqE_l, gNeE_l, gEqE_t, gNeE_t, gApp_1, gPopI_1, gStr_i, seqD_l, seqD_t, atI_0, List.cons_append, List.nil_append, List.length_cons, List.length_nil, List.replicate_succ, List.replicate_zero, Nat.reduceAdd, Nat.reduceSub, List.getElem?_cons_succ, List.getElem?_cons_zero, List.set_cons_succ, List.set_cons_zero, List.getElem?_nil, List.contains_cons, List.contains_nil, Bool.or_false, Bool.false_or, Bool.or_true, Bool.true_or, Bool.and_true, Bool.true_and, Bool.and_false, Bool.false_and, Nat.reduceBEq, List.isEmpty_nil, List.isEmpty_cons, Bool.not_true, Bool.not_false, List.all_cons, List.all_nil, List.any_cons, List.any_nil, Option.getD_some, Option.getD_none, decide_eq_true_eq, decide_eq_false_iff_not, Bool.true_eq_false, Bool.false_eq_true, true_implies, false_implies, true_and, and_true, false_and, and_false, implies_true, Bool.not_eq_true', Bool.not_eq_false', if_true, if_false, ite_true, ite_false, reduceCtorEq, forall_const, isi_bool_bool, isi_bool_int, isi_bool_str, isi_bool_list, isi_bool_tuple, isi_bool_none, isi_bool_dict, isi_int_bool, isi_int_int, isi_int_str, isi_int_list, isi_int_tuple, isi_int_none, isi_int_dict, isi_str_bool, isi_str_int, isi_str_str, isi_str_list, isi_str_tuple, isi_str_none, isi_str_dict, isi_list_bool, isi_list_int, isi_list_str, isi_list_list, isi_list_tuple, isi_list_none, isi_list_dict, isi_tuple_bool, isi_tuple_int, isi_tuple_str, isi_tuple_list, isi_tuple_tuple, isi_tuple_none, isi_tuple_dict, isi_dict_bool, isi_dict_int, isi_dict_str, isi_dict_list, isi_dict_tuple, isi_dict_none, isi_dict_dict, $ls,*])
theorem s_below8 {d : D} : Ok (f_is_below [some (.dat d), some (.dat (.int 8))]) fun o e => o = .dat (.bool (numB 0 7 d)) := s_is_below (m := 8)
theorem s_below4 {d : D} : Ok (f_is_below [some (.dat d), some (.dat (.int 4))]) fun o e => o = .dat (.bool (numB 0 3 d)) := s_is_below (m := 4)
theorem rec_no {ts : List Nat} {ds : List D} (h5 : ¬ ds.length = 5) : recB ts (.tuple ds) = false := by
  unfold recB
  split
  · rename_i e
    injection e with e
    subst e
    simp at h5
  · rfl
theorem tas_no {ts : List Nat} {ds : List D} (h5 : ¬ ds.length = 3) : tasB ts (.tuple ds) = false := by
  unfold tasB
  split
  · rename_i e
    injection e with e
    subst e
    simp at h5
  · rfl
theorem s_is_recipe {ts : List Nat} {d : D} : Ok (f_is_recipe [some (.dat (.tuple (ts.map iD))), some (.dat d)]) fun o e => o = .dat (.bool (recB ts d)) := by
  unfold f_is_recipe m_is_recipe
  cases d with
  | tuple ds =>
    by_cases h5 : ds.length = 5
    · match ds, h5 with
      | [a, b, c, d, e], _ =>
        push_cast [at5_0, at5_1, at5_2, at5_3, at5_4, recB]
        refine ⟨fun h => absurd rfl h, fun _ => ?_⟩
        refine s_is_spot_of.mono ?_
        rintro _ e rfl
        push_cast
        refine ⟨fun h => by rw [h]; rfl, fun h1 => ?_⟩
        refine s_below8.mono ?_
        rintro _ e rfl
        push_cast
        refine ⟨fun h2 => ?_, fun h => by rw [h, h1]; rfl⟩
        refine s_below4.mono ?_
        rintro _ e rfl
        push_cast
        refine ⟨fun h3 => ?_, fun h => by rw [h, h1, h2]; rfl⟩
        refine s_is_from_one.mono ?_
        rintro _ e rfl
        push_cast
        refine ⟨fun h4 => ?_, fun h => by rw [h, h1, h2, h3]; rfl⟩
        refine s_are_needs.mono ?_
        rintro _ e rfl
        push_cast
        rw [h1, h2, h3, h4]; rfl
    · rw [rec_no h5]
      push_cast
      exact fun h => absurd (by omega) h
  | _ => push_cast [recB]
theorem s_law_is_kind {ts : List Nat} {d : D} : Ok (f_law_is_kind [some (.dat (.tuple (ts.map iD))), some (.dat d)]) fun o e => o = .dat (.bool (recB ts d)) := by
  unfold f_law_is_kind m_law_is_kind
  cases d with
  | tuple ds =>
    by_cases h5 : ds.length = 5
    · match ds, h5 with
      | [a, b, c, d, e], _ =>
        push_cast [at5_0, at5_1, at5_2, at5_3, at5_4, recB]
        refine ⟨fun h => absurd rfl h, fun _ => ?_⟩
        refine s_law_is_place.mono ?_
        rintro _ e rfl
        push_cast
        refine ⟨fun h => by rw [h]; rfl, fun h1 => ?_⟩
        refine s_law_is_number.mono ?_
        rintro _ e rfl
        push_cast
        refine ⟨fun h => by rw [h, h1]; rfl, fun h2 => ?_⟩
        refine s_law_is_number.mono ?_
        rintro _ e rfl
        push_cast
        refine ⟨fun h => by rw [h, h1, h2]; rfl, fun h3 => ?_⟩
        refine s_law_is_number.mono ?_
        rintro _ e rfl
        push_cast
        refine ⟨fun h4 => ?_, fun h => by rw [h, h1, h2, h3]; rfl⟩
        refine s_law_are_names.mono ?_
        rintro _ e rfl
        push_cast
        rw [h1, h2, h3, h4]; rfl
    · rw [rec_no h5]
      push_cast
      exact fun h => absurd (by omega) h
  | _ => push_cast [recB]
theorem spot_two {ts : List Nat} {a : D} (h : spotB ts a = true) : ∃ xs, a = .tuple xs ∧ (xs.length = 2 ↔ twoB a = true) := by
  cases a with
  | tuple xs =>
    refine ⟨xs, rfl, ?_⟩
    match xs with
    | [] => simp [twoB]
    | [a] => simp [twoB]
    | [a, b] => simp [twoB]
    | a :: b :: c :: l => simp [twoB]
  | _ => cases h
theorem s_is_tasting {ts : List Nat} {d : D} (hz : ezD d = true) : Ok (f_is_tasting [some (.dat (.tuple (ts.map iD))), some (.dat d)]) fun o e => o = .dat (.bool (tasB ts d)) := by
  unfold f_is_tasting m_is_tasting
  cases d with
  | tuple ds =>
    by_cases h5 : ds.length = 3
    · match ds, h5, hz with
      | [a, b, c], _, hz =>
        have hc : ezD c = true := ezDs_mem (ez_of hz) (by simp)
        push_cast [at3_0, at3_1, at3_2, tasB]
        refine ⟨fun h => absurd rfl h, fun _ => ?_⟩
        refine s_is_spot_of.mono ?_
        rintro _ e rfl
        push_cast
        refine ⟨fun h => by rw [h]; rfl, fun h1 => ?_⟩
        obtain ⟨xs, rfl, h2⟩ := spot_two h1
        push_cast
        refine ⟨fun h => ?_, fun h => ?_⟩
        · have h2 := h2.mp (by omega)
          refine s_are_needs.mono ?_
          rintro _ e rfl
          push_cast
          refine ⟨fun h3 => ?_, fun h3 => by rw [h1, h2, h3]; rfl⟩
          refine (s_are_words hc).mono ?_
          rintro _ e rfl
          push_cast
          rw [h1, h2, h3]; rfl
        · have h2 : twoB (.tuple xs) = false := by
            cases e : twoB (.tuple xs) with
            | true => have := h2.mpr e; omega
            | false => rfl
          rw [h1, h2]; rfl
    · rw [tas_no h5]
      push_cast
      exact fun h => absurd (by omega) h
  | _ => push_cast [tasB]
theorem word_ok {z : Str} (h : wordB (.str z) = true) : PyData.strOk z = true := by
  have h : (decide (0 < z.length) && decide (z.length ≤ 8) && z.cps.toList.all smB) = true := h
  rw [Bool.and_eq_true] at h
  unfold PyData.strOk
  rw [Array.all_eq_true_iff_forall_mem]
  intro c hc
  have := List.all_eq_true.mp h.2 c (by simpa using hc)
  unfold smB at this
  rw [Bool.and_eq_true, decide_eq_true_eq, decide_eq_true_eq] at this
  rw [decide_eq_true_eq]
  omega
theorem gEq_words {zs : List Str} (ha : (zs.map PyData.str).all wordB = true) : gEq (.list (zs.map PyData.str)) (.list ((sortS zs).map PyData.str)) = vB (risL zs) := by
  have wk : ∀ z ∈ zs, PyData.strOk z = true := fun z hz => word_ok (List.all_eq_true.mp ha _ (List.mem_map.mpr ⟨z, hz, rfl⟩))
  have wk2 : ∀ z ∈ sortS zs, PyData.strOk z = true := fun z hz => by
    unfold sortS at hz
    rw [List.mem_mergeSort, mem_dedup] at hz
    exact wk z hz
  have ok : ∀ l : List Str, (∀ z ∈ l, PyData.strOk z = true) → okd (.list (l.map PyData.str)) 60 = true := fun l hl => okds_all (n := 59) fun d hd => by
    obtain ⟨z, hz, rfl⟩ := List.mem_map.mp hd
    show PyData.strOk z = true
    exact hl z hz
  have pl : ∀ l : List Str, pln (.list (l.map PyData.str)) = true := fun l => plns_all fun d hd => by
    obtain ⟨z, _, rfl⟩ := List.mem_map.mp hd
    rfl
  have ij : ∀ a b : List Str, (PyData.list (a.map PyData.str) = .list (b.map PyData.str)) ↔ a = b := fun a b => by
    constructor
    · intro h
      injection h with h
      exact (List.map_inj_right (fun x y e => by injection e)).mp h
    · rintro rfl; rfl
  rw [gEq_d, if_pos ⟨ok _ wk, ok _ wk2⟩, eqv_dec (pl _) (pl _) ((ij _ _).trans ris_iff)]
  cases risL zs <;> rfl
theorem s_law_is_tasted {ts : List Nat} {d : D} (hz : ezD d = true) : Ok (f_law_is_tasted [some (.dat (.tuple (ts.map iD))), some (.dat d)]) fun o e => o = .dat (.bool (tasB ts d)) := by
  unfold f_law_is_tasted m_law_is_tasted
  cases d with
  | tuple ds =>
    by_cases h5 : ds.length = 3
    · match ds, h5, hz with
      | [a, b, c], _, hz =>
        have hc : ezD c = true := ezDs_mem (ez_of hz) (by simp)
        push_cast [at3_0, at3_1, at3_2, tasB]
        refine ⟨fun h => absurd rfl h, fun _ => ?_⟩
        refine s_law_is_place.mono ?_
        rintro _ e rfl
        push_cast
        refine ⟨fun h => by rw [h]; rfl, fun h1 => ?_⟩
        obtain ⟨xs, rfl, h2⟩ := spot_two h1
        push_cast
        refine ⟨fun h => ?_, fun h => ?_⟩
        · have h2 : twoB (.tuple xs) = false := by
            cases e : twoB (.tuple xs) with
            | true => have := h2.mpr e; omega
            | false => rfl
          rw [h1, h2]; rfl
        · have h2 := h2.mp (by omega)
          refine s_law_are_names.mono ?_
          rintro _ e rfl
          push_cast
          refine ⟨fun h3 => by rw [h1, h2, h3]; rfl, fun h3 => ?_⟩
          rw [h1, h2, h3]
          cases c with
          | tuple ws =>
            have hw := ez_of hc
            push_cast
            refine ⟨fun h4 => by rw [words_f1 (by omega)], fun h4 => ⟨by rw [slZ]; omega, ?_⟩⟩
            refine ok_lcP (fun _ => true) (fun d => .bool (wordB d)) rfl ?_ ?_
            · intro d hd
              push_cast
              refine (s_law_is_named (ezDs_mem hw hd)).mono ?_
              rintro _ e rfl
              push_cast
            · push_cast [bools_map, Option.bind_some, all_id]
              refine ⟨fun ha => by rw [words_f2 ha], fun ha => ?_⟩
              obtain ⟨zs, rfl, hn⟩ := strs_of ha
              rw [List.length_map] at h4
              obtain ⟨z, hz1, hz2⟩ := setOf_strs (ws := zs) (by omega)
              push_cast [at3_2, hz1, hz2, gEq_words ha]
              rw [words_eq (by omega) ha]
          | _ => push_cast [wordsB]
    · rw [tas_no h5]
      push_cast
      exact fun h => absurd (by omega) h
  | _ => push_cast [tasB]
end Mi

set_option Elab.async false
set_option linter.all false
set_option maxRecDepth 20000
set_option maxHeartbeats 0
namespace Mi
open PySem PySem.Spec L2
local macro_rules
  | `(tactic| push_cast) => `(tactic| simp only [ok_ok, ok_ex, ok_stuck, ok_ret, ok_stk, ok_bnd, ok_ofO, opt_some, opt_none, opt_map, opt_bind, opt_ite, rb_b, ri_i, ro_d, ro_own, ro_pl, ok_mC, ok_bin, ok_isi, ok_tst, ok_and, ok_or, ok_not, ok_andV, ok_orV, ok_notV, ok_mif, ok_nil, ok_cons, ok_frz_d, ok_frz_pl, ok_frzAll_nil, ok_frzAll_cons, ok_tup, ok_lst, ok_no, ok_so, ok_sl, ok_cb, resAll_nil, resAll_cons, ok_call, ok_seq, seqQ_nx, seqQ_rt, seqQ_bk, seqQ_ct, ok_mEx, ok_mRet, ok_ite, ok_set, ok_setK_d, ok_setK_own, ok_setK_pl, ok_runF, runQ_rt, runQ_nx, frz_d, frz_lst, frz_dat, frz_pl, res_d, res_pl, rv_val, rv_tup, rv_lst, orv_dat, orv_lst, ok_neg, ok_lstR, ok_chkL, lstAt, ok_mMet, ok_mMetF, ok_store, ok_mFor, forQ_nx, forQ_ct, forQ_bk, forQ_rt, ok_mLc, ok_mWk, wkOf_str, wkOf_list, wkOf_tuple, wkOf_pl, rsI_i, ok_rng1, ok_rng2, ok_rng3, rsI2_i, rsI3_i, ok_enu, ok_zip, seqOf_list, seqOf_tuple, seqOf_pl, ok_setE, ok_back, rs_s, ok_tx0, ok_tx1, ok_dic1, lst1_l, datAt, ok_sortK, ok_maxK, rd1_d, ok_mTgt, ok_isN, ok_maxD, gExt_l, gExt_t, gIns_0, gClr_0, gSorted_l, mVar, argOs, argO, ioSlots, lentSlots, apart, backEnv, allFlat, O.flat, flat, flats, wipeE, restE, ownFree, srcOk, asgT_nm, asgT_tp, asgTs_nil, asgTs_cons, Option.bind_some, opt_vB, opt_vI, gLt_i, gLe_i, gGt_i, gGe_i, gAdd_i, gAdd_t, gAdd_l, gAdd_s, gSub_i, gMul_i, gFdiv_i, gMod_i, gPow_i, gIx_l, gIx_t, gIx_s, gLen_l, gLen_t, gLen_s, gTuple_l, gTuple_t, gList_l, gList_t, gInt_i, gInt_b, gMax2_i, gMin2_i, gCut_l, gCut_t, gCut_s, gAll_l, gAny_l, gSum_l, gEq_i, gNe_i, gEq_b, gNe_b, gEqE_l, gNeE_l, gEqE_t, gNeE_t, gApp_1, gPopI_1, gStr_i, seqD_l, seqD_t, atI_0, List.cons_append, List.nil_append, List.length_cons, List.length_nil, List.replicate_succ, List.replicate_zero, Nat.reduceAdd, Nat.reduceSub, List.getElem?_cons_succ, List.getElem?_cons_zero, List.set_cons_succ, List.set_cons_zero, List.getElem?_nil, List.contains_cons, List.contains_nil, Bool.or_false, Bool.false_or, Bool.or_true, Bool.true_or, Bool.and_true, Bool.true_and, Bool.and_false, Bool.false_and, Nat.reduceBEq, List.isEmpty_nil, List.isEmpty_cons, Bool.not_true, Bool.not_false, List.all_cons, List.all_nil, List.any_cons, List.any_nil, Option.getD_some, Option.getD_none, decide_eq_true_eq, decide_eq_false_iff_not, Bool.true_eq_false, Bool.false_eq_true, true_implies, false_implies, true_and, and_true, false_and, and_false, implies_true, Bool.not_eq_true', Bool.not_eq_false', if_true, if_false, ite_true, ite_false, reduceCtorEq, forall_const, isi_bool_bool, isi_bool_int, isi_bool_str, isi_bool_list, isi_bool_tuple, isi_bool_none, isi_bool_dict, isi_int_bool, isi_int_int, isi_int_str, isi_int_list, isi_int_tuple, isi_int_none, isi_int_dict, isi_str_bool, isi_str_int, isi_str_str, isi_str_list, isi_str_tuple, isi_str_none, isi_str_dict, isi_list_bool, isi_list_int, isi_list_str, isi_list_list, isi_list_tuple, isi_list_none, isi_list_dict, isi_tuple_bool, isi_tuple_int, isi_tuple_str, isi_tuple_list, isi_tuple_tuple, isi_tuple_none, isi_tuple_dict, isi_dict_bool, isi_dict_int, isi_dict_str, isi_dict_list, isi_dict_tuple, isi_dict_none, isi_dict_dict])
  | `(tactic| push_cast [$ls,*]) => `(tactic| simp only [ok_ok, ok_ex, ok_stuck, ok_ret, ok_stk, ok_bnd, ok_ofO, opt_some, opt_none, opt_map, opt_bind, opt_ite, rb_b, ri_i, ro_d, ro_own, ro_pl, ok_mC, ok_bin, ok_isi, ok_tst, ok_and, ok_or, ok_not, ok_andV, ok_orV, ok_notV, ok_mif, ok_nil, ok_cons, ok_frz_d, ok_frz_pl, ok_frzAll_nil, ok_frzAll_cons, ok_tup, ok_lst, ok_no, ok_so, ok_sl, ok_cb, resAll_nil, resAll_cons, ok_call, ok_seq, seqQ_nx, seqQ_rt, seqQ_bk, seqQ_ct, ok_mEx, ok_mRet, ok_ite, ok_set, ok_setK_d, ok_setK_own, ok_setK_pl, ok_runF, runQ_rt, runQ_nx, frz_d, frz_lst, frz_dat, frz_pl, res_d, res_pl, rv_val, rv_tup, rv_lst, orv_dat, orv_lst, ok_neg, ok_lstR, ok_chkL, lstAt, ok_mMet, ok_mMetF, ok_store, ok_mFor, forQ_nx, forQ_ct, forQ_bk, forQ_rt, ok_mLc, ok_mWk, wkOf_str, wkOf_list, wkOf_tuple, wkOf_pl, rsI_i, ok_rng1, ok_rng2, ok_rng3, rsI2_i, rsI3_i, ok_enu, ok_zip, seqOf_list, seqOf_tuple, seqOf_pl, ok_setE, ok_back, rs_s, ok_tx0, ok_tx1, ok_dic1, lst1_l, datAt, ok_sortK, ok_maxK, rd1_d, ok_mTgt, ok_isN, ok_maxD, gExt_l, gExt_t, gIns_0, gClr_0, gSorted_l, mVar, argOs, argO, ioSlots, lentSlots, apart, backEnv, allFlat, O.flat, flat, flats, wipeE, restE, ownFree, srcOk, asgT_nm, asgT_tp, asgTs_nil, asgTs_cons, Option.bind_some, opt_vB, opt_vI, gLt_i, gLe_i, gGt_i, gGe_i, gAdd_i, gAdd_t, gAdd_l, gAdd_s, gSub_i, gMul_i, gFdiv_i, gMod_i, gPow_i, gIx_l, gIx_t, gIx_s, gLen_l, gLen_t, gLen_s, gTuple_l, gTuple_t, gList_l, gList_t, gInt_i, gInt_b, gMax2_i, gMin2_i, gCut_l, gCut_t, gCut_s, gAll_l, gAny_l, gSum_l, gEq_i, gNe_i, gEq_b, gNe_b, gEqE_l, gNeE_l, gEqE_t, gNeE_t, gApp_1, gPopI_1, gStr_i, seqD_l, seqD_t, atI_0, List.cons_append, List.nil_append, List.length_cons, List.length_nil, List.replicate_succ, List.replicate_zero, Nat.reduceAdd, Nat.reduceSub, List.getElem?_cons_succ, List.getElem?_cons_zero, List.set_cons_succ, List.set_cons_zero, List.getElem?_nil, List.contains_cons, List.contains_nil, Bool.or_false, Bool.false_or, Bool.or_true, Bool.true_or, Bool.and_true, Bool.true_and, Bool.and_false, Bool.false_and, Nat.reduceBEq, List.isEmpty_nil, List.isEmpty_cons, Bool.not_true, Bool.not_false, List.all_cons, List.all_nil, List.any_cons, List.any_nil, Option.getD_some, Option.getD_none, decide_eq_true_eq, decide_eq_false_iff_not, Bool.true_eq_false, Bool.false_eq_true, true_implies, false_implies, true_and, and_true, false_and, and_false, implies_true, Bool.not_eq_true', Bool.not_eq_false', if_true, if_false, ite_true, ite_false, reduceCtorEq, forall_const, isi_bool_bool, isi_bool_int, isi_bool_str, isi_bool_list, isi_bool_tuple, isi_bool_none, isi_bool_dict, isi_int_bool, isi_int_int, isi_int_str, isi_int_list, isi_int_tuple, isi_int_none, isi_int_dict, isi_str_bool, isi_str_int, isi_str_str, isi_str_list, isi_str_tuple, isi_str_none, isi_str_dict, isi_list_bool, isi_list_int, isi_list_str, isi_list_list, isi_list_tuple, isi_list_none, isi_list_dict, isi_tuple_bool, isi_tuple_int, isi_tuple_str, isi_tuple_list, isi_tuple_tuple, isi_tuple_none, isi_tuple_dict, isi_dict_bool, isi_dict_int, isi_dict_str, isi_dict_list, isi_dict_tuple, isi_dict_none, isi_dict_dict, $ls,*])
def natsD (ds : List D) : List Nat := ds.map fun d => match d with
  | .int i => i.toNat
  | _ => 0
theorem nats_of : ∀ {ds : List D}, ds.all (numB 1 3) = true → ds = (natsD ds).map iD
  | [], _ => rfl
  | d :: ds, h => by
    rw [List.all_cons, Bool.and_eq_true] at h
    obtain ⟨i, rfl, h1, h2⟩ := numB_int h.1
    obtain ⟨n, rfl⟩ := Int.eq_ofNat_of_zero_le (show 0 ≤ i by omega)
    have ih := nats_of h.2
    show _ = iD (Int.toNat (n : Int)) :: (natsD ds).map iD
    rw [← ih, Int.toNat_natCast]; rfl
def ct : D → D
  | .tuple (a :: b :: _) => .tuple [a, b]
  | d => d
abbrev PK := Int × List Int
def pk (p : PK) : D := .tuple [.int p.1, .tuple (p.2.map PyData.int)]
def pkK (p : PK) : NestedKey := .tup [.num p.1, .tup (p.2.map .num)]
theorem spot_ints {ts : List Nat} {b : D} (h : spotB ts b = true) : ∃ l : List Int, b = .tuple (l.map PyData.int) := by
  cases b with
  | tuple xs =>
    match xs, h with
    | [], _ => exact ⟨[], rfl⟩
    | [a], h =>
      obtain ⟨i, rfl, _⟩ := numB_int (show numB 0 ((ts.length : Int) - 1) a = true from h)
      exact ⟨[i], rfl⟩
    | [a, b], h =>
      cases e : numB 0 ((ts.length : Int) - 1) a with
      | false => rw [spotB_f e] at h; cases h
      | true =>
        obtain ⟨i, rfl, _⟩ := numB_int e
        have h : (numB 0 ((ts.length : Int) - 1) (.int i) && numB 0 (((ts.getD i.toNat 0 : Nat) : Int) - 1) b) = true := h
        rw [Bool.and_eq_true] at h
        obtain ⟨j, rfl, _⟩ := numB_int h.2
        exact ⟨[i, j], rfl⟩
    | a :: b :: c :: l, h =>
      have e1 : spotB ts (.tuple (a :: b :: c :: l)) = false := by cases a <;> rfl
      rw [e1] at h; cases h
  | _ => cases h
theorem rec_inv {ts : List Nat} {d : D} (h : recB ts d = true) : ∃ a b c e f, d = .tuple [a, b, c, e, f] ∧ spotB ts b = true ∧ numB 0 7 a = true := by
  unfold recB at h
  split at h
  · rename_i a b c d e
    rw [Bool.and_eq_true, Bool.and_eq_true, Bool.and_eq_true] at h
    exact ⟨a, b, c, d, e, rfl, h.1, h.2.1.1⟩
  · cases h
theorem rec_key {ts : List Nat} {d : D} (h : recB ts d = true) : ∃ p : PK, ct d = pk p := by
  obtain ⟨a, b, c, e, f, rfl, h1, h2⟩ := rec_inv h
  obtain ⟨l, rfl⟩ := spot_ints h1
  obtain ⟨i, rfl, _⟩ := numB_int h2
  exact ⟨(i, l), rfl⟩
theorem recs_keys {ts : List Nat} : ∀ {r : List D}, r.all (recB ts) = true → ∃ ps : List PK, r.map ct = ps.map pk ∧ ps.length = r.length
  | [], _ => ⟨[], rfl, rfl⟩
  | d :: r, h => by
    rw [List.all_cons, Bool.and_eq_true] at h
    obtain ⟨p, e⟩ := rec_key h.1
    obtain ⟨ps, e2, hl⟩ := recs_keys h.2
    exact ⟨p :: ps, by rw [List.map_cons, List.map_cons, e, e2], by simp [hl]⟩
theorem nkDs_mapN {α : Type} {f : α → D} {g : α → NestedKey} (h : ∀ a, nkD (f a) = some (g a)) : ∀ l : List α, nkDs (l.map f) = some (l.map g)
  | [] => by rw [List.map_nil, List.map_nil, nkDs]
  | a :: l => by rw [List.map_cons, List.map_cons, nkDs, h a, nkDs_mapN h l]; rfl
theorem nkD_pk (p : PK) : nkD (pk p) = some (pkK p) := by
  unfold pk pkK
  rw [nkD, nkDs, nkD, nkDs, nkD, nkDs, nkDs_mapN (g := fun i : Int => .num i) fun a => by rw [nkD]]
  rfl
theorem rowsK_pk {ps : List PK} (h : ps.length ≤ 8) : rowsK (ps.map pk) = some (ps.map pkK) := by
  have d0 : ∀ l : List Int, NestedKey.depthAll (l.map fun n : Int => NestedKey.num n) = 0 := by
    intro l
    induction l with
    | nil => rfl
    | cons a l ih => rw [List.map_cons, NestedKey.depthAll, ih, NestedKey.depth]; rfl
  have ok : okKs (ps.map pkK) = true := by
    unfold okKs
    rw [Bool.and_eq_true, List.all_eq_true, decide_eq_true_eq, List.length_map]
    refine ⟨fun k hk => ?_, by omega⟩
    obtain ⟨n, _, rfl⟩ := List.mem_map.mp hk
    unfold pkK
    simp only [NestedKey.depth, NestedKey.depthAll, d0]
    decide
  unfold rowsK
  rw [nkDs_mapN nkD_pk]
  show (if okKs (ps.map pkK) = true then some (ps.map pkK) else none) = _
  rw [if_pos ok]
theorem setOf_pk {p : PK} {ps : List PK} : setOf ((p :: ps).map pk) = none := rfl
/-- how many unlike names at spots -/
def unl (r : List D) : Nat := match rowsK (r.map ct) with
  | some ks => (dedup ks).length
  | none => 0
theorem set_unl {ts : List Nat} {r : List D} (ha : r.all (recB ts) = true) (hl : r.length ≤ 8) (Q : Rv → Prop) : setQ (fun z => .d (.int (lenS z))) (fun ks => (.ok () [], .d (.int (dedup ks).length))) (r.map ct) Q ↔ Q (.d (.int (unl r))) := by
  obtain ⟨ps, e, hl2⟩ := recs_keys ha
  unfold unl setQ
  rw [e, rowsK_pk (by omega)]
  cases ps with
  | nil => exact Iff.rfl
  | cons p ps =>
    rw [setOf_pk]
def houseB : D → Bool
  | .tuple [.tuple t, .tuple r, .tuple s] => decide (1 ≤ t.length) && decide (t.length ≤ 3) && t.all (numB 1 3) && (decide (r.length ≤ 8) && r.all (recB (natsD t)) && (decide (r.length ≤ unl r) && (decide (s.length ≤ 6) && s.all (tasB (natsD t)))))
  | _ => false
theorem house_no {ds : List D} (h : ¬ ds.length = 3) : houseB (.tuple ds) = false := by
  unfold houseB
  split
  · rename_i e
    injection e with e
    subst e
    simp at h
  · rfl
theorem house_nt {a b c : D} (h : (isiD "tuple" a && (isiD "tuple" b && isiD "tuple" c)) = false) : houseB (.tuple [a, b, c]) = false := by
  unfold houseB
  split
  · rename_i e
    injection e with e
    injection e with e1 e
    injection e with e2 e
    injection e with e3 e
    subst e1 e2 e3
    cases h
  · rfl
theorem isi_tup {d : D} (h : isiD "tuple" d = true) : ∃ ds, d = .tuple ds := by
  cases d with
  | tuple ds => exact ⟨ds, rfl⟩
  | _ => cases h
theorem house_f1 {t r s : List D} (h : ¬ (1 ≤ t.length ∧ t.length ≤ 3)) : houseB (.tuple [.tuple t, .tuple r, .tuple s]) = false := by
  show (decide (1 ≤ t.length) && decide (t.length ≤ 3) && _ && _) = false
  by_cases a : 1 ≤ t.length
  · rw [decide_eq_false (show ¬ t.length ≤ 3 from fun b => h ⟨a, b⟩), Bool.and_false]; rfl
  · rw [decide_eq_false a]; rfl
theorem house_f2 {t r s : List D} (h : t.all (numB 1 3) = false) : houseB (.tuple [.tuple t, .tuple r, .tuple s]) = false := by
  show (decide (1 ≤ t.length) && decide (t.length ≤ 3) && t.all (numB 1 3) && _) = false
  rw [h, Bool.and_false]; rfl
theorem house_t {t r s : List D} (h1 : 1 ≤ t.length) (h2 : t.length ≤ 3) (h3 : t.all (numB 1 3) = true) : houseB (.tuple [.tuple t, .tuple r, .tuple s]) = (decide (r.length ≤ 8) && r.all (recB (natsD t)) && (decide (r.length ≤ unl r) && (decide (s.length ≤ 6) && s.all (tasB (natsD t))))) := by
  show (decide (1 ≤ t.length) && decide (t.length ≤ 3) && t.all (numB 1 3) && _) = _
  rw [decide_eq_true h1, decide_eq_true h2, h3]; rfl
theorem ct_rec {a b c d e : D} : (.tuple (cutL [a, b, c, d, e] none (some 2)) : D) = ct (.tuple [a, b, c, d, e]) := rfl
theorem len_fo {t : List D} : numB 1 3 (.int (t.length : Nat)) = (decide (1 ≤ t.length) && decide (t.length ≤ 3)) := by
  show (decide ((1 : Int) ≤ (t.length : Nat)) && decide (((t.length : Nat) : Int) ≤ 3)) = _
  congr 1
  · rw [decide_eq_decide]; omega
  · rw [decide_eq_decide]; omega
theorem s_is_house {d : D} (hz : ezD d = true) : Ok (f_is_house [some (.dat d)]) fun o e => o = .dat (.bool (houseB d)) := by
  unfold f_is_house m_is_house
  cases d with
  | tuple ds =>
    by_cases h3 : ds.length = 3
    · match ds, h3, hz with
      | [a, b, c], _, hz =>
        push_cast
        refine ⟨fun h => absurd rfl h, fun _ => ⟨by decide, ?_⟩⟩
        refine ok_lcP (fun _ => true) (fun d => .bool (isiD "tuple" d)) rfl ?_ ?_
        · intro d hd
          push_cast
        · push_cast [bools_map, Option.bind_some, all_id]
          refine ⟨fun h => by rw [house_nt h], fun h => ?_⟩
          rw [Bool.and_eq_true, Bool.and_eq_true] at h
          obtain ⟨t, rfl⟩ := isi_tup h.1
          obtain ⟨r, rfl⟩ := isi_tup h.2.1
          obtain ⟨s, rfl⟩ := isi_tup h.2.2
          have hzs : ezDs s = true := ez_of (ezDs_mem (ez_of hz) (by simp))
          push_cast
          refine s_is_from_one.mono ?_
          rintro _ e rfl
          rw [len_fo]
          push_cast
          refine ⟨fun h => by rw [house_f1 (by simpa using h)], fun h => ?_⟩
          rw [Bool.and_eq_true, decide_eq_true_eq, decide_eq_true_eq] at h
          obtain ⟨l1, l2⟩ := h
          refine ⟨by rw [slZ]; omega, ?_⟩
          refine ok_lcP (fun _ => true) (fun d => .bool (numB 1 3 d)) rfl ?_ ?_
          · intro d hd
            push_cast
            refine s_is_from_one.mono ?_
            rintro _ e rfl
            push_cast
          · push_cast [bools_map, Option.bind_some, all_id]
            refine ⟨fun h => by rw [house_f2 h], fun ht => ?_⟩
            rw [house_t l1 l2 ht]
            have et := nats_of ht
            have hR : ∀ d : D, Ok (f_is_recipe [some (.dat (.tuple t)), some (.dat d)]) fun o e => o = .dat (.bool (recB (natsD t) d)) := fun d => by
              have := s_is_recipe (ts := natsD t) (d := d)
              rwa [← et] at this
            have hT : ∀ d : D, ezD d = true → Ok (f_is_tasting [some (.dat (.tuple t)), some (.dat d)]) fun o e => o = .dat (.bool (tasB (natsD t) d)) := fun d hd => by
              have := s_is_tasting (ts := natsD t) (d := d) hd
              rwa [← et] at this
            refine ⟨fun h => ?_, fun h => ?_⟩
            · rw [decide_eq_false (show ¬ r.length ≤ 8 by omega)]; rfl
            · have hr8 : r.length ≤ 8 := by omega
              rw [decide_eq_true hr8, Bool.true_and]
              refine ⟨by rw [slZ]; omega, ?_⟩
              refine ok_lcP (fun _ => true) (fun d => .bool (recB (natsD t) d)) rfl ?_ ?_
              · intro d hd
                push_cast
                refine (hR d).mono ?_
                rintro _ e rfl
                push_cast
              · push_cast [bools_map, Option.bind_some, all_id]
                refine ⟨fun h => by rw [h]; rfl, fun hr => ?_⟩
                rw [hr, Bool.true_and, ok_setA]
                push_cast
                refine ⟨by rw [slZ]; omega, ?_⟩
                refine ok_lcP (fun _ => true) ct rfl ?_ ?_
                · intro d hd
                  obtain ⟨a, b, c, e, f, rfl, _⟩ := rec_inv (List.all_eq_true.mp hr d hd)
                  push_cast
                  rfl
                · rw [fT]
                  push_cast
                  rw [set_unl hr hr8]
                  push_cast
                  refine ⟨fun h => ?_, fun h => ?_⟩
                  · rw [decide_eq_false (show ¬ r.length ≤ unl r by omega)]; rfl
                  · rw [decide_eq_true (show r.length ≤ unl r by omega), Bool.true_and]
                    refine ⟨fun h => ?_, fun h => ?_⟩
                    · refine ⟨by rw [slZ]; omega, ?_⟩
                      refine ok_lcP (fun _ => true) (fun d => .bool (tasB (natsD t) d)) rfl ?_ ?_
                      · intro d hd
                        push_cast
                        refine (hT d (ezDs_mem hzs hd)).mono ?_
                        rintro _ e rfl
                        push_cast
                      · push_cast [bools_map, Option.bind_some, all_id]
                        rw [decide_eq_true (show s.length ≤ 6 by omega)]; rfl
                    · rw [decide_eq_false (show ¬ s.length ≤ 6 by omega)]; rfl
    · rw [house_no h3]
      push_cast
      exact fun h => absurd (by omega) h
  | _ => push_cast [houseB]
end Mi

set_option Elab.async false
set_option linter.all false
set_option maxRecDepth 20000
set_option maxHeartbeats 0
namespace Mi
open PySem PySem.Spec L2
local macro_rules
  | `(tactic| push_cast) => `(tactic| simp only [ok_ok, ok_ex, ok_stuck, ok_ret, ok_stk, ok_bnd, ok_ofO, opt_some, opt_none, opt_map, opt_bind, opt_ite, rb_b, ri_i, ro_d, ro_own, ro_pl, ok_mC, ok_bin, ok_isi, ok_tst, ok_and, ok_or, ok_not, ok_andV, ok_orV, ok_notV, ok_mif, ok_nil, ok_cons, ok_frz_d, ok_frz_pl, ok_frzAll_nil, ok_frzAll_cons, ok_tup, ok_lst, ok_no, ok_so, ok_sl, ok_cb, resAll_nil, resAll_cons, ok_call, ok_seq, seqQ_nx, seqQ_rt, seqQ_bk, seqQ_ct, ok_mEx, ok_mRet, ok_ite, ok_set, ok_setK_d, ok_setK_own, ok_setK_pl, ok_runF, runQ_rt, runQ_nx, frz_d, frz_lst, frz_dat, frz_pl, res_d, res_pl, rv_val, rv_tup, rv_lst, orv_dat, orv_lst, ok_neg, ok_lstR, ok_chkL, lstAt, ok_mMet, ok_mMetF, ok_store, ok_mFor, forQ_nx, forQ_ct, forQ_bk, forQ_rt, ok_mLc, ok_mWk, wkOf_str, wkOf_list, wkOf_tuple, wkOf_pl, rsI_i, ok_rng1, ok_rng2, ok_rng3, rsI2_i, rsI3_i, ok_enu, ok_zip, seqOf_list, seqOf_tuple, seqOf_pl, ok_setE, ok_back, rs_s, ok_tx0, ok_tx1, ok_dic1, lst1_l, datAt, ok_sortK, ok_maxK, rd1_d, ok_mTgt, ok_isN, ok_maxD, gExt_l, gExt_t, gIns_0, gClr_0, gSorted_l, mVar, argOs, argO, ioSlots, lentSlots, apart, backEnv, allFlat, O.flat, flat, flats, wipeE, restE, ownFree, srcOk, asgT_nm, asgT_tp, asgTs_nil, asgTs_cons, Option.bind_some, opt_vB, opt_vI, gLt_i, gLe_i, gGt_i, gGe_i, gAdd_i, gAdd_t, gAdd_l, gAdd_s, gSub_i, gMul_i, gFdiv_i, gMod_i, gPow_i, gIx_l, gIx_t, gIx_s, gLen_l, gLen_t, gLen_s, gTuple_l, gTuple_t, gList_l, gList_t, gInt_i, gInt_b, gMax2_i, gMin2_i, gCut_l, gCut_t, gCut_s, gAll_l, gAny_l, gSum_l, gEq_i, gNe_i, gEq_b, gNe_b, gEqE_l, gNeE_l, gEqE_t, gNeE_t, gApp_1, gPopI_1, gStr_i, seqD_l, seqD_t, atI_0, List.cons_append, List.nil_append, List.length_cons, List.length_nil, List.replicate_succ, List.replicate_zero, Nat.reduceAdd, Nat.reduceSub, List.getElem?_cons_succ, List.getElem?_cons_zero, List.set_cons_succ, List.set_cons_zero, List.getElem?_nil, List.contains_cons, List.contains_nil, Bool.or_false, Bool.false_or, Bool.or_true, Bool.true_or, Bool.and_true, Bool.true_and, Bool.and_false, Bool.false_and, Nat.reduceBEq, List.isEmpty_nil, List.isEmpty_cons, Bool.not_true, Bool.not_false, List.all_cons, List.all_nil, List.any_cons, List.any_nil, Option.getD_some, Option.getD_none, decide_eq_true_eq, decide_eq_false_iff_not, Bool.true_eq_false, Bool.false_eq_true, true_implies, false_implies, true_and, and_true, false_and, and_false, implies_true, Bool.not_eq_true', Bool.not_eq_false', if_true, if_false, ite_true, ite_false, reduceCtorEq, forall_const, isi_bool_bool, isi_bool_int, isi_bool_str, isi_bool_list, isi_bool_tuple, isi_bool_none, isi_bool_dict, isi_int_bool, isi_int_int, isi_int_str, isi_int_list, isi_int_tuple, isi_int_none, isi_int_dict, isi_str_bool, isi_str_int, isi_str_str, isi_str_list, isi_str_tuple, isi_str_none, isi_str_dict, isi_list_bool, isi_list_int, isi_list_str, isi_list_list, isi_list_tuple, isi_list_none, isi_list_dict, isi_tuple_bool, isi_tuple_int, isi_tuple_str, isi_tuple_list, isi_tuple_tuple, isi_tuple_none, isi_tuple_dict, isi_dict_bool, isi_dict_int, isi_dict_str, isi_dict_list, isi_dict_tuple, isi_dict_none, isi_dict_dict])
  | `(tactic| push_cast [$ls,*]) => `(tactic| simp only [ok_ok, ok_ex, ok_stuck, ok_ret, ok_stk, ok_bnd, ok_ofO, opt_some, opt_none, opt_map, opt_bind, opt_ite, rb_b, ri_i, ro_d, ro_own, ro_pl, ok_mC, ok_bin, ok_isi, ok_tst, ok_and, ok_or, ok_not, ok_andV, ok_orV, ok_notV, ok_mif, ok_nil, ok_cons, ok_frz_d, ok_frz_pl, ok_frzAll_nil, ok_frzAll_cons, ok_tup, ok_lst, ok_no, ok_so, ok_sl, ok_cb, resAll_nil, resAll_cons, ok_call, ok_seq, seqQ_nx, seqQ_rt, seqQ_bk, seqQ_ct, ok_mEx, ok_mRet, ok_ite, ok_set, ok_setK_d, ok_setK_own, ok_setK_pl, ok_runF, runQ_rt, runQ_nx, frz_d, frz_lst, frz_dat, frz_pl, res_d, res_pl, rv_val, rv_tup, rv_lst, orv_dat, orv_lst, ok_neg, ok_lstR, ok_chkL, lstAt, ok_mMet, ok_mMetF, ok_store, ok_mFor, forQ_nx, forQ_ct, forQ_bk, forQ_rt, ok_mLc, ok_mWk, wkOf_str, wkOf_list, wkOf_tuple, wkOf_pl, rsI_i, ok_rng1, ok_rng2, ok_rng3, rsI2_i, rsI3_i, ok_enu, ok_zip, seqOf_list, seqOf_tuple, seqOf_pl, ok_setE, ok_back, rs_s, ok_tx0, ok_tx1, ok_dic1, lst1_l, datAt, ok_sortK, ok_maxK, rd1_d, ok_mTgt, ok_isN, ok_maxD, gExt_l, gExt_t, gIns_0, gClr_0, gSorted_l, mVar, argOs, argO, ioSlots, lentSlots, apart, backEnv, allFlat, O.flat, flat, flats, wipeE, restE, ownFree, srcOk, asgT_nm, asgT_tp, asgTs_nil, asgTs_cons, Option.bind_some, opt_vB, opt_vI, gLt_i, gLe_i, gGt_i, gGe_i, gAdd_i, gAdd_t, gAdd_l, gAdd_s, gSub_i, gMul_i, gFdiv_i, gMod_i, gPow_i, gIx_l, gIx_t, gIx_s, gLen_l, gLen_t, gLen_s, gTuple_l, gTuple_t, gList_l, gList_t, gInt_i, gInt_b, gMax2_i, gMin2_i, gCut_l, gCut_t, gCut_s, gAll_l, gAny_l, gSum_l, gEq_i, gNe_i, gEq_b, gNe_b, gEqE_l, gNeE_l, gEqE_t, gNeE_t, gApp_1, gPopI_1, gStr_i, seqD_l, seqD_t, atI_0, List.cons_append, List.nil_append, List.length_cons, List.length_nil, List.replicate_succ, List.replicate_zero, Nat.reduceAdd, Nat.reduceSub, List.getElem?_cons_succ, List.getElem?_cons_zero, List.set_cons_succ, List.set_cons_zero, List.getElem?_nil, List.contains_cons, List.contains_nil, Bool.or_false, Bool.false_or, Bool.or_true, Bool.true_or, Bool.and_true, Bool.true_and, Bool.and_false, Bool.false_and, Nat.reduceBEq, List.isEmpty_nil, List.isEmpty_cons, Bool.not_true, Bool.not_false, List.all_cons, List.all_nil, List.any_cons, List.any_nil, Option.getD_some, Option.getD_none, decide_eq_true_eq, decide_eq_false_iff_not, Bool.true_eq_false, Bool.false_eq_true, true_implies, false_implies, true_and, and_true, false_and, and_false, implies_true, Bool.not_eq_true', Bool.not_eq_false', if_true, if_false, ite_true, ite_false, reduceCtorEq, forall_const, isi_bool_bool, isi_bool_int, isi_bool_str, isi_bool_list, isi_bool_tuple, isi_bool_none, isi_bool_dict, isi_int_bool, isi_int_int, isi_int_str, isi_int_list, isi_int_tuple, isi_int_none, isi_int_dict, isi_str_bool, isi_str_int, isi_str_str, isi_str_list, isi_str_tuple, isi_str_none, isi_str_dict, isi_list_bool, isi_list_int, isi_list_str, isi_list_list, isi_list_tuple, isi_list_none, isi_list_dict, isi_tuple_bool, isi_tuple_int, isi_tuple_str, isi_tuple_list, isi_tuple_tuple, isi_tuple_none, isi_tuple_dict, isi_dict_bool, isi_dict_int, isi_dict_str, isi_dict_list, isi_dict_tuple, isi_dict_none, isi_dict_dict, $ls,*])
theorem s_law_whole {d : D} (hz : ezD d = true) : Ok (f_law_is_whole_house [some (.dat d)]) fun o e => o = .dat (.bool (houseB d)) := by
  unfold f_law_is_whole_house m_law_is_whole_house
  cases d with
  | tuple ds =>
    by_cases h3 : ds.length = 3
    · match ds, h3, hz with
      | [a, b, c], _, hz =>
        push_cast
        refine ⟨fun h => absurd rfl h, fun _ => ⟨by decide, ?_⟩⟩
        refine ok_lcP (fun _ => true) (fun d => .bool (isiD "tuple" d)) rfl ?_ ?_
        · intro d hd
          push_cast
        · push_cast [bools_map, Option.bind_some, all_id]
          refine ⟨fun h => by rw [house_nt h], fun h => ?_⟩
          rw [Bool.and_eq_true, Bool.and_eq_true] at h
          obtain ⟨t, rfl⟩ := isi_tup h.1
          obtain ⟨r, rfl⟩ := isi_tup h.2.1
          obtain ⟨s, rfl⟩ := isi_tup h.2.2
          have hzs : ezDs s = true := ez_of (ezDs_mem (ez_of hz) (by simp))
          push_cast [ok_mCh, at3_0, at3_1, at3_2]
          refine ⟨fun h1 => ⟨fun h2 => by rw [house_f1 (by omega)], fun h2 => ?_⟩, fun h1 => by rw [house_f1 (by omega)]⟩
          have l1 : 1 ≤ t.length := by omega
          have l2 : t.length ≤ 3 := by omega
          refine ⟨by rw [slZ]; omega, ?_⟩
          refine ok_lcP (fun _ => true) (fun d => .bool (numB 1 3 d)) rfl ?_ ?_
          · intro d hd
            push_cast
            refine s_law_is_number.mono ?_
            rintro _ e rfl
            push_cast
          · push_cast [bools_map, Option.bind_some, all_id, at3_1, at3_2, at3_0]
            refine ⟨fun h => by rw [house_f2 h], fun ht => ?_⟩
            rw [house_t l1 l2 ht]
            have et := nats_of ht
            have hR : ∀ d : D, Ok (f_law_is_kind [some (.dat (.tuple t)), some (.dat d)]) fun o e => o = .dat (.bool (recB (natsD t) d)) := fun d => by
              have := s_law_is_kind (ts := natsD t) (d := d)
              rwa [← et] at this
            have hT : ∀ d : D, ezD d = true → Ok (f_law_is_tasted [some (.dat (.tuple t)), some (.dat d)]) fun o e => o = .dat (.bool (tasB (natsD t) d)) := fun d hd => by
              have := s_law_is_tasted (ts := natsD t) (d := d) hd
              rwa [← et] at this
            refine ⟨fun h => ?_, fun h => ?_⟩
            · rw [decide_eq_false (show ¬ r.length ≤ 8 by omega)]; rfl
            · have hr8 : r.length ≤ 8 := by omega
              rw [decide_eq_true hr8, Bool.true_and]
              refine ⟨by rw [slZ]; omega, ?_⟩
              refine ok_lcP (fun _ => true) (fun d => .bool (recB (natsD t) d)) rfl ?_ ?_
              · intro d hd
                push_cast [at3_0]
                refine (hR d).mono ?_
                rintro _ e rfl
                push_cast
              · push_cast [bools_map, Option.bind_some, all_id]
                refine ⟨fun h => by rw [h]; rfl, fun hr => ?_⟩
                rw [hr, Bool.true_and, ok_setA]
                push_cast [at3_1]
                refine ⟨by rw [slZ]; omega, ?_⟩
                refine ok_lcP (fun _ => true) ct rfl ?_ ?_
                · intro d hd
                  obtain ⟨a, b, c, e, f, rfl, _⟩ := rec_inv (List.all_eq_true.mp hr d hd)
                  push_cast
                  rfl
                · rw [fT]
                  push_cast
                  rw [set_unl hr hr8]
                  push_cast [at3_1, at3_2]
                  refine ⟨fun h => ?_, fun h => ?_⟩
                  · rw [decide_eq_false (show ¬ r.length ≤ unl r by omega)]; rfl
                  · rw [decide_eq_true (show r.length ≤ unl r by omega), Bool.true_and]
                    refine ⟨fun h => ?_, fun h => ?_⟩
                    · refine ⟨by rw [slZ]; omega, ?_⟩
                      refine ok_lcP (fun _ => true) (fun d => .bool (tasB (natsD t) d)) rfl ?_ ?_
                      · intro d hd
                        push_cast [at3_0]
                        refine (hT d (ezDs_mem hzs hd)).mono ?_
                        rintro _ e rfl
                        push_cast
                      · push_cast [bools_map, Option.bind_some, all_id]
                        rw [decide_eq_true (show s.length ≤ 6 by omega)]; rfl
                    · rw [decide_eq_false (show ¬ s.length ≤ 6 by omega)]; rfl
    · rw [house_no h3]
      push_cast
      exact fun h => absurd (by omega) h
  | _ => push_cast [houseB]
end Mi

set_option Elab.async false
set_option linter.all false
set_option maxRecDepth 20000
set_option maxHeartbeats 0
namespace Mi
open PySem PySem.Spec L2
local macro_rules
  | `(tactic| push_cast) => `(tactic| simp only [ok_ok, ok_ex, ok_stuck, ok_ret, ok_stk, ok_bnd, ok_ofO, opt_some, opt_none, opt_map, opt_bind, opt_ite, rb_b, ri_i, ro_d, ro_own, ro_pl, ok_mC, ok_bin, ok_isi, ok_tst, ok_and, ok_or, ok_not, ok_andV, ok_orV, ok_notV, ok_mif, ok_nil, ok_cons, ok_frz_d, ok_frz_pl, ok_frzAll_nil, ok_frzAll_cons, ok_tup, ok_lst, ok_no, ok_so, ok_sl, ok_cb, resAll_nil, resAll_cons, ok_call, ok_seq, seqQ_nx, seqQ_rt, seqQ_bk, seqQ_ct, ok_mEx, ok_mRet, ok_ite, ok_set, ok_setK_d, ok_setK_own, ok_setK_pl, ok_runF, runQ_rt, runQ_nx, frz_d, frz_lst, frz_dat, frz_pl, res_d, res_pl, rv_val, rv_tup, rv_lst, orv_dat, orv_lst, ok_neg, ok_lstR, ok_chkL, lstAt, ok_mMet, ok_mMetF, ok_store, ok_mFor, forQ_nx, forQ_ct, forQ_bk, forQ_rt, ok_mLc, ok_mWk, wkOf_str, wkOf_list, wkOf_tuple, wkOf_pl, rsI_i, ok_rng1, ok_rng2, ok_rng3, rsI2_i, rsI3_i, ok_enu, ok_zip, seqOf_list, seqOf_tuple, seqOf_pl, ok_setE, ok_back, rs_s, ok_tx0, ok_tx1, ok_dic1, lst1_l, datAt, ok_sortK, ok_maxK, rd1_d, ok_mTgt, ok_isN, ok_maxD, gExt_l, gExt_t, gIns_0, gClr_0, gSorted_l, mVar, argOs, argO, ioSlots, lentSlots, apart, backEnv, allFlat, O.flat, flat, flats, wipeE, restE, ownFree, srcOk, asgT_nm, asgT_tp, asgTs_nil, asgTs_cons, Option.bind_some, opt_vB, opt_vI, gLt_i, gLe_i, gGt_i, gGe_i, gAdd_i, gAdd_t, gAdd_l, gAdd_s, gSub_i, gMul_i, gFdiv_i, gMod_i, gPow_i, gIx_l, gIx_t, gIx_s, gLen_l, gLen_t, gLen_s, gTuple_l, gTuple_t, gList_l, gList_t, gInt_i, gInt_b, gMax2_i, gMin2_i, gCut_l, gCut_t, gCut_s, gAll_l, gAny_l, gSum_l, gEq_i, gNe_i, gEq_b, gNe_b, gEqE_l, gNeE_l, gEqE_t, gNeE_t, gApp_1, gPopI_1, gStr_i, seqD_l, seqD_t, atI_0, List.cons_append, List.nil_append, List.length_cons, List.length_nil, List.replicate_succ, List.replicate_zero, Nat.reduceAdd, Nat.reduceSub, List.getElem?_cons_succ, List.getElem?_cons_zero, List.set_cons_succ, List.set_cons_zero, List.getElem?_nil, List.contains_cons, List.contains_nil, Bool.or_false, Bool.false_or, Bool.or_true, Bool.true_or, Bool.and_true, Bool.true_and, Bool.and_false, Bool.false_and, Nat.reduceBEq, List.isEmpty_nil, List.isEmpty_cons, Bool.not_true, Bool.not_false, List.all_cons, List.all_nil, List.any_cons, List.any_nil, Option.getD_some, Option.getD_none, decide_eq_true_eq, decide_eq_false_iff_not, Bool.true_eq_false, Bool.false_eq_true, true_implies, false_implies, true_and, and_true, false_and, and_false, implies_true, Bool.not_eq_true', Bool.not_eq_false', if_true, if_false, ite_true, ite_false, reduceCtorEq, forall_const, isi_bool_bool, isi_bool_int, isi_bool_str, isi_bool_list, isi_bool_tuple, isi_bool_none, isi_bool_dict, isi_int_bool, isi_int_int, isi_int_str, isi_int_list, isi_int_tuple, isi_int_none, isi_int_dict, isi_str_bool, isi_str_int, isi_str_str, isi_str_list, isi_str_tuple, isi_str_none, isi_str_dict, isi_list_bool, isi_list_int, isi_list_str, isi_list_list, isi_list_tuple, isi_list_none, isi_list_dict, isi_tuple_bool, isi_tuple_int, isi_tuple_str, isi_tuple_list, isi_tuple_tuple, isi_tuple_none, isi_tuple_dict, isi_dict_bool, isi_dict_int, isi_dict_str, isi_dict_list, isi_dict_tuple, isi_dict_none, isi_dict_dict])
  | `(tactic| push_cast [$ls,*]) => `(tactic| simp only [ok_ok, ok_ex, ok_stuck, ok_ret, ok_stk, ok_bnd, ok_ofO, opt_some, opt_none, opt_map, opt_bind, opt_ite, rb_b, ri_i, ro_d, ro_own, ro_pl, ok_mC, ok_bin, ok_isi, ok_tst, ok_and, ok_or, ok_not, ok_andV, ok_orV, ok_notV, ok_mif, ok_nil, ok_cons, ok_frz_d, ok_frz_pl, ok_frzAll_nil, ok_frzAll_cons, ok_tup, ok_lst, ok_no, ok_so, ok_sl, ok_cb, resAll_nil, resAll_cons, ok_call, ok_seq, seqQ_nx, seqQ_rt, seqQ_bk, seqQ_ct, ok_mEx, ok_mRet, ok_ite, ok_set, ok_setK_d, ok_setK_own, ok_setK_pl, ok_runF, runQ_rt, runQ_nx, frz_d, frz_lst, frz_dat, frz_pl, res_d, res_pl, rv_val, rv_tup, rv_lst, orv_dat, orv_lst, ok_neg, ok_lstR, ok_chkL, lstAt, ok_mMet, ok_mMetF, ok_store, ok_mFor, forQ_nx, forQ_ct, forQ_bk, forQ_rt, ok_mLc, ok_mWk, wkOf_str, wkOf_list, wkOf_tuple, wkOf_pl, rsI_i, ok_rng1, ok_rng2, ok_rng3, rsI2_i, rsI3_i, ok_enu, ok_zip, seqOf_list, seqOf_tuple, seqOf_pl, ok_setE, ok_back, rs_s, ok_tx0, ok_tx1, ok_dic1, lst1_l, datAt, ok_sortK, ok_maxK, rd1_d, ok_mTgt, ok_isN, ok_maxD, gExt_l, gExt_t, gIns_0, gClr_0, gSorted_l, mVar, argOs, argO, ioSlots, lentSlots, apart, backEnv, allFlat, O.flat, flat, flats, wipeE, restE, ownFree, srcOk, asgT_nm, asgT_tp, asgTs_nil, asgTs_cons, Option.bind_some, opt_vB, opt_vI, gLt_i, gLe_i, gGt_i, gGe_i, gAdd_i, gAdd_t, gAdd_l, gAdd_s, gSub_i, gMul_i, gFdiv_i, gMod_i, gPow_i, gIx_l, gIx_t, gIx_s, gLen_l, gLen_t, gLen_s, gTuple_l, gTuple_t, gList_l, gList_t, gInt_i, gInt_b, gMax2_i, gMin2_i, gCut_l, gCut_t, gCut_s, gAll_l, gAny_l, gSum_l, gEq_i, gNe_i, gEq_b, gNe_b, gEqE_l, gNeE_l, gEqE_t, gNeE_t, gApp_1, gPopI_1, gStr_i, seqD_l, seqD_t, atI_0, List.cons_append, List.nil_append, List.length_cons, List.length_nil, List.replicate_succ, List.replicate_zero, Nat.reduceAdd, Nat.reduceSub, List.getElem?_cons_succ, List.getElem?_cons_zero, List.set_cons_succ, List.set_cons_zero, List.getElem?_nil, List.contains_cons, List.contains_nil, Bool.or_false, Bool.false_or, Bool.or_true, Bool.true_or, Bool.and_true, Bool.true_and, Bool.and_false, Bool.false_and, Nat.reduceBEq, List.isEmpty_nil, List.isEmpty_cons, Bool.not_true, Bool.not_false, List.all_cons, List.all_nil, List.any_cons, List.any_nil, Option.getD_some, Option.getD_none, decide_eq_true_eq, decide_eq_false_iff_not, Bool.true_eq_false, Bool.false_eq_true, true_implies, false_implies, true_and, and_true, false_and, and_false, implies_true, Bool.not_eq_true', Bool.not_eq_false', if_true, if_false, ite_true, ite_false, reduceCtorEq, forall_const, isi_bool_bool, isi_bool_int, isi_bool_str, isi_bool_list, isi_bool_tuple, isi_bool_none, isi_bool_dict, isi_int_bool, isi_int_int, isi_int_str, isi_int_list, isi_int_tuple, isi_int_none, isi_int_dict, isi_str_bool, isi_str_int, isi_str_str, isi_str_list, isi_str_tuple, isi_str_none, isi_str_dict, isi_list_bool, isi_list_int, isi_list_str, isi_list_list, isi_list_tuple, isi_list_none, isi_list_dict, isi_tuple_bool, isi_tuple_int, isi_tuple_str, isi_tuple_list, isi_tuple_tuple, isi_tuple_none, isi_tuple_dict, isi_dict_bool, isi_dict_int, isi_dict_str, isi_dict_list, isi_dict_tuple, isi_dict_none, isi_dict_dict, $ls,*])
theorem num_nat {lo hi : Int} {n : Nat} (h1 : lo ≤ n) (h2 : (n : Int) ≤ hi) : numB lo hi (iD n) = true := by
  show (decide (lo ≤ (n : Int)) && decide ((n : Int) ≤ hi)) = true
  rw [decide_eq_true h1, decide_eq_true h2]; rfl
theorem intsD_natN {l : List Nat} : intsD (l.map iD) = some (l.map fun n : Nat => (n : Int)) := by
  induction l with
  | nil => rfl
  | cons a l ih =>
    show (intsD (l.map iD)).map ((a : Int) :: ·) = _
    rw [ih]; rfl
theorem nodup_intN {l : List Nat} (h : l.Nodup) : (l.map fun n : Nat => (n : Int)).Nodup := List.pairwise_map.mpr (h.imp fun hne he => hne (Int.ofNat.inj he))
theorem needs_nd {n : Nat} {nd : List Nat} (hn : n ≤ 8) (h : NdOk n nd) : needsB (tD nd) = true := by
  have ha : (nd.map iD).all (numB 0 7) = true := by
    rw [List.all_eq_true]
    intro d hd
    obtain ⟨x, hx, rfl⟩ := List.mem_map.mp hd
    have := h.2.2 x hx
    exact num_nat (by omega) (by omega)
  have := needs_eq (ds := nd.map iD) (by rw [List.length_map]; exact h.1) ha intsD_natN
  show needsB (.tuple (nd.map iD)) = true
  rw [this, dedup_nodup9 (nodup_intN h.2.1)]
  exact decide_eq_true rfl
theorem natsD_i {ts : List Nat} : natsD (ts.map iD) = ts := by
  unfold natsD
  rw [List.map_map]
  conv => rhs; rw [← List.map_id ts]
  exact List.map_congr_left fun n _ => rfl
theorem spot_sp {ts sp : List Nat} (h : sp ∈ spL ts) : spotB ts (tD sp) = true := by
  rw [mem_spL] at h
  rcases h with rfl | ⟨i, hi, rfl⟩ | ⟨i, j, hi, hj, rfl⟩
  · rfl
  · show numB 0 ((ts.length : Int) - 1) (iD i) = true
    exact num_nat (by omega) (by omega)
  · have e : spotB ts (tD [i, j]) = (numB 0 ((ts.length : Int) - 1) (iD i) && numB 0 (((ts.getD i 0 : Nat) : Int) - 1) (iD j)) := rfl
    have e2 : ts.getD i 0 = ts[i] := by simp [List.getD_eq_getElem?_getD, hi]
    have q1 := num_nat (lo := 0) (hi := (ts.length : Int) - 1) (n := i) (by omega) (by omega)
    have q2 := num_nat (lo := 0) (hi := ((ts[i] : Nat) : Int) - 1) (n := j) (by omega) (by omega)
    rw [e, e2, q1, q2]; rfl
theorem rec_ok {ts : List Nat} {n : Nat} {r : Rc} (hn : n ≤ 8) (h : RcOk ts n r) : recB ts r.d = true := by
  obtain ⟨h1, h2, h3, h4, h5, h6⟩ := h
  have e : recB ts r.d = (spotB ts (tD r.sp) && (numB 0 7 (iD r.nm) && numB 0 3 (iD r.ap) && (numB 1 3 (iD r.kp) && needsB (tD r.nd)))) := rfl
  rw [e, spot_sp h2, num_nat (by omega) (by omega), num_nat (by omega) (by omega), num_nat (by omega) (by omega), needs_nd hn h6]; rfl
theorem word_wd {w : Str} (h : WdOk1 w) : wordB (.str w) = true := by
  obtain ⟨cs, rfl, h1, h2, h3⟩ := h
  have e : (⟨cs.toArray⟩ : Str).length = cs.length := rfl
  rw [word_t (by rw [e]; omega) (by rw [e]; omega), List.all_eq_true]
  intro c hc
  have := h3 c hc
  unfold smB
  rw [decide_eq_true (show 97 ≤ c by omega), decide_eq_true (show c ≤ 122 by omega)]; rfl
theorem sortS_len {xs : List Str} : (sortS xs).length ≤ xs.length := by
  unfold sortS
  rw [List.length_mergeSort]
  exact nodup_le _ _ (nodup_dedup _) fun x hx => (mem_dedup x xs).mp hx
theorem words_wd {ws : List Str} (h : WdOk ws) : wordsB (.tuple (ws.map PyData.str)) = true := by
  obtain ⟨xs, rfl, h1, h2⟩ := h
  have hl := sortS_len (xs := xs)
  rw [words_eq (by omega)]
  · exact pw_ris sortS_pw
  · rw [List.all_eq_true]
    intro d hd
    obtain ⟨w, hw, rfl⟩ := List.mem_map.mp hd
    unfold sortS at hw
    rw [List.mem_mergeSort, mem_dedup] at hw
    exact word_wd (h2 w hw)
theorem tas_ok {ts : List Nat} {n : Nat} {t : Ta} (hn : n ≤ 8) (h : TaOk ts n t) : tasB ts t.d = true := by
  obtain ⟨⟨h1, h2⟩, h3, h4⟩ := h
  have e : tasB ts t.d = (spotB ts (tD [t.ev, t.tb]) && (true && (needsB (tD t.nd) && wordsB (.tuple (t.wd.map PyData.str))))) := rfl
  rw [e, spot_sp (by rw [mem_spL]; exact .inr (.inr ⟨t.ev, t.tb, h1, h2, rfl⟩)), needs_nd hn h3, words_wd h4]; rfl
theorem unl_ok {rs : List Rc} (hl : rs.length ≤ 8) (h : rs.Pairwise fun a b => ¬(a.nm = b.nm ∧ a.sp = b.sp)) : unl (rs.map Rc.d) = rs.length := by
  have e : (rs.map Rc.d).map ct = (rs.map fun r => ((r.nm : Int), r.sp.map fun n : Nat => (n : Int))).map pk := by
    rw [List.map_map, List.map_map]
    refine List.map_congr_left fun r _ => ?_
    show PyData.tuple [iD r.nm, tD r.sp] = .tuple [.int (r.nm : Int), .tuple ((r.sp.map fun n : Nat => (n : Int)).map PyData.int)]
    rw [List.map_map]
    rfl
  unfold unl
  rw [e, rowsK_pk (by rw [List.length_map]; exact hl)]
  show (dedup _).length = _
  rw [dedup_nodup9, List.length_map, List.length_map]
  refine List.pairwise_map.mpr (List.pairwise_map.mpr (h.imp fun {a b} hab he => hab ?_))
  unfold pkK at he
  injection he with he
  injection he with h1 he
  injection h1 with h1
  injection he with h2 _
  injection h2 with h2
  have ij : ∀ (x y : List Nat), (x.map fun n : Nat => (n : Int)).map NestedKey.num = (y.map fun n : Nat => (n : Int)).map NestedKey.num → x = y := by
    intro x y h
    have h := (List.map_inj_right (fun a b e => by injection e)).mp h
    exact (List.map_inj_right (fun a b e => Int.ofNat.inj e)).mp h
  exact ⟨Int.ofNat.inj h1, ij _ _ h2⟩
theorem house_raw {n : Nat} {h : Ho} (hh : HoOk n h) : houseB h.d = true := by
  obtain ⟨⟨n1, n8⟩, ⟨t1, t2, t3⟩, r8, hr, hu, s6, hs⟩ := hh
  have hall : (h.ts.map iD).all (numB 1 3) = true := by
    rw [List.all_eq_true]
    intro d hd
    obtain ⟨x, hx, rfl⟩ := List.mem_map.mp hd
    have := t3 x hx
    exact num_nat (by omega) (by omega)
  show houseB (.tuple [.tuple (h.ts.map iD), .tuple (h.rs.map Rc.d), .tuple (h.tas.map Ta.d)]) = true
  rw [house_t (by rw [List.length_map]; exact t1) (by rw [List.length_map]; exact t2) hall, natsD_i, unl_ok r8 hu, List.length_map, List.length_map, decide_eq_true r8, decide_eq_true s6, decide_eq_true (Nat.le_refl _)]
  have a1 : (h.rs.map Rc.d).all (recB h.ts) = true := by
    rw [List.all_eq_true]
    intro d hd
    obtain ⟨x, hx, rfl⟩ := List.mem_map.mp hd
    exact rec_ok n8 (hr x hx)
  have a2 : (h.tas.map Ta.d).all (tasB h.ts) = true := by
    rw [List.all_eq_true]
    intro d hd
    obtain ⟨x, hx, rfl⟩ := List.mem_map.mp hd
    exact tas_ok n8 (hs x hx)
  rw [a1, a2]; rfl
def isLst : Rs O → Bool
  | .ok (.lst ds) _ => decide (ds.length ≤ 100) && ezDs ds
  | _ => false
def bnds : List D := match f_law_bounds [] with
  | .ok (.lst ds) _ => ds
  | _ => []
theorem s_bounds : Ok (f_law_bounds []) fun o e => o = .lst bnds ∧ bnds.length ≤ 100 ∧ ezDs bnds = true := by
  have h : isLst (f_law_bounds []) = true := by kernel_rfl
  unfold bnds
  cases q : f_law_bounds [] with
  | ok o e =>
    rw [q] at h
    cases o with
    | lst ds =>
      have h : (decide (ds.length ≤ 100) && ezDs ds) = true := h
      rw [Bool.and_eq_true, decide_eq_true_eq] at h
      exact ⟨rfl, h.1, h.2⟩
    | _ => cases h
  | _ => rw [q] at h; cases h
end Mi

set_option Elab.async false
set_option linter.all false
set_option maxRecDepth 20000
set_option maxHeartbeats 0
namespace Mi
open PySem PySem.Spec L2
local macro_rules
  | `(tactic| push_cast) => `(tactic| simp only [ok_ok, ok_ex, ok_stuck, ok_ret, ok_stk, ok_bnd, ok_ofO, opt_some, opt_none, opt_map, opt_bind, opt_ite, rb_b, ri_i, ro_d, ro_own, ro_pl, ok_mC, ok_bin, ok_isi, ok_tst, ok_and, ok_or, ok_not, ok_andV, ok_orV, ok_notV, ok_mif, ok_nil, ok_cons, ok_frz_d, ok_frz_pl, ok_frzAll_nil, ok_frzAll_cons, ok_tup, ok_lst, ok_no, ok_so, ok_sl, ok_cb, resAll_nil, resAll_cons, ok_call, ok_seq, seqQ_nx, seqQ_rt, seqQ_bk, seqQ_ct, ok_mEx, ok_mRet, ok_ite, ok_set, ok_setK_d, ok_setK_own, ok_setK_pl, ok_runF, runQ_rt, runQ_nx, frz_d, frz_lst, frz_dat, frz_pl, res_d, res_pl, rv_val, rv_tup, rv_lst, orv_dat, orv_lst, ok_neg, ok_lstR, ok_chkL, lstAt, ok_mMet, ok_mMetF, ok_store, ok_mFor, forQ_nx, forQ_ct, forQ_bk, forQ_rt, ok_mLc, ok_mWk, wkOf_str, wkOf_list, wkOf_tuple, wkOf_pl, rsI_i, ok_rng1, ok_rng2, ok_rng3, rsI2_i, rsI3_i, ok_enu, ok_zip, seqOf_list, seqOf_tuple, seqOf_pl, ok_setE, ok_back, rs_s, ok_tx0, ok_tx1, ok_dic1, lst1_l, datAt, ok_sortK, ok_maxK, rd1_d, ok_mTgt, ok_isN, ok_maxD, gExt_l, gExt_t, gIns_0, gClr_0, gSorted_l, mVar, argOs, argO, ioSlots, lentSlots, apart, backEnv, allFlat, O.flat, flat, flats, wipeE, restE, ownFree, srcOk, asgT_nm, asgT_tp, asgTs_nil, asgTs_cons, Option.bind_some, opt_vB, opt_vI, gLt_i, gLe_i, gGt_i, gGe_i, gAdd_i, gAdd_t, gAdd_l, gAdd_s, gSub_i, gMul_i, gFdiv_i, gMod_i, gPow_i, gIx_l, gIx_t, gIx_s, gLen_l, gLen_t, gLen_s, gTuple_l, gTuple_t, gList_l, gList_t, gInt_i, gInt_b, gMax2_i, gMin2_i, gCut_l, gCut_t, gCut_s, gAll_l, gAny_l, gSum_l, gEq_i, gNe_i, gEq_b, gNe_b, gEqE_l, gNeE_l, gEqE_t, gNeE_t, gApp_1, gPopI_1, gStr_i, seqD_l, seqD_t, atI_0, List.cons_append, List.nil_append, List.length_cons, List.length_nil, List.replicate_succ, List.replicate_zero, Nat.reduceAdd, Nat.reduceSub, List.getElem?_cons_succ, List.getElem?_cons_zero, List.set_cons_succ, List.set_cons_zero, List.getElem?_nil, List.contains_cons, List.contains_nil, Bool.or_false, Bool.false_or, Bool.or_true, Bool.true_or, Bool.and_true, Bool.true_and, Bool.and_false, Bool.false_and, Nat.reduceBEq, List.isEmpty_nil, List.isEmpty_cons, Bool.not_true, Bool.not_false, List.all_cons, List.all_nil, List.any_cons, List.any_nil, Option.getD_some, Option.getD_none, decide_eq_true_eq, decide_eq_false_iff_not, Bool.true_eq_false, Bool.false_eq_true, true_implies, false_implies, true_and, and_true, false_and, and_false, implies_true, Bool.not_eq_true', Bool.not_eq_false', if_true, if_false, ite_true, ite_false, reduceCtorEq, forall_const, isi_bool_bool, isi_bool_int, isi_bool_str, isi_bool_list, isi_bool_tuple, isi_bool_none, isi_bool_dict, isi_int_bool, isi_int_int, isi_int_str, isi_int_list, isi_int_tuple, isi_int_none, isi_int_dict, isi_str_bool, isi_str_int, isi_str_str, isi_str_list, isi_str_tuple, isi_str_none, isi_str_dict, isi_list_bool, isi_list_int, isi_list_str, isi_list_list, isi_list_tuple, isi_list_none, isi_list_dict, isi_tuple_bool, isi_tuple_int, isi_tuple_str, isi_tuple_list, isi_tuple_tuple, isi_tuple_none, isi_tuple_dict, isi_dict_bool, isi_dict_int, isi_dict_str, isi_dict_list, isi_dict_tuple, isi_dict_none, isi_dict_dict])
  | `(tactic| push_cast [$ls,*]) => `(tactic| simp only [ok_ok, ok_ex, ok_stuck, ok_ret, ok_stk, ok_bnd, ok_ofO, opt_some, opt_none, opt_map, opt_bind, opt_ite, rb_b, ri_i, ro_d, ro_own, ro_pl, ok_mC, ok_bin, ok_isi, ok_tst, ok_and, ok_or, ok_not, ok_andV, ok_orV, ok_notV, ok_mif, ok_nil, ok_cons, ok_frz_d, ok_frz_pl, ok_frzAll_nil, ok_frzAll_cons, ok_tup, ok_lst, ok_no, ok_so, ok_sl, ok_cb, resAll_nil, resAll_cons, ok_call, ok_seq, seqQ_nx, seqQ_rt, seqQ_bk, seqQ_ct, ok_mEx, ok_mRet, ok_ite, ok_set, ok_setK_d, ok_setK_own, ok_setK_pl, ok_runF, runQ_rt, runQ_nx, frz_d, frz_lst, frz_dat, frz_pl, res_d, res_pl, rv_val, rv_tup, rv_lst, orv_dat, orv_lst, ok_neg, ok_lstR, ok_chkL, lstAt, ok_mMet, ok_mMetF, ok_store, ok_mFor, forQ_nx, forQ_ct, forQ_bk, forQ_rt, ok_mLc, ok_mWk, wkOf_str, wkOf_list, wkOf_tuple, wkOf_pl, rsI_i, ok_rng1, ok_rng2, ok_rng3, rsI2_i, rsI3_i, ok_enu, ok_zip, seqOf_list, seqOf_tuple, seqOf_pl, ok_setE, ok_back, rs_s, ok_tx0, ok_tx1, ok_dic1, lst1_l, datAt, ok_sortK, ok_maxK, rd1_d, ok_mTgt, ok_isN, ok_maxD, gExt_l, gExt_t, gIns_0, gClr_0, gSorted_l, mVar, argOs, argO, ioSlots, lentSlots, apart, backEnv, allFlat, O.flat, flat, flats, wipeE, restE, ownFree, srcOk, asgT_nm, asgT_tp, asgTs_nil, asgTs_cons, Option.bind_some, opt_vB, opt_vI, gLt_i, gLe_i, gGt_i, gGe_i, gAdd_i, gAdd_t, gAdd_l, gAdd_s, gSub_i, gMul_i, gFdiv_i, gMod_i, gPow_i, gIx_l, gIx_t, gIx_s, gLen_l, gLen_t, gLen_s, gTuple_l, gTuple_t, gList_l, gList_t, gInt_i, gInt_b, gMax2_i, gMin2_i, gCut_l, gCut_t, gCut_s, gAll_l, gAny_l, gSum_l, gEq_i, gNe_i, gEq_b, gNe_b, gEqE_l, gNeE_l, gEqE_t, gNeE_t, gApp_1, gPopI_1, gStr_i, seqD_l, seqD_t, atI_0, List.cons_append, List.nil_append, List.length_cons, List.length_nil, List.replicate_succ, List.replicate_zero, Nat.reduceAdd, Nat.reduceSub, List.getElem?_cons_succ, List.getElem?_cons_zero, List.set_cons_succ, List.set_cons_zero, List.getElem?_nil, List.contains_cons, List.contains_nil, Bool.or_false, Bool.false_or, Bool.or_true, Bool.true_or, Bool.and_true, Bool.true_and, Bool.and_false, Bool.false_and, Nat.reduceBEq, List.isEmpty_nil, List.isEmpty_cons, Bool.not_true, Bool.not_false, List.all_cons, List.all_nil, List.any_cons, List.any_nil, Option.getD_some, Option.getD_none, decide_eq_true_eq, decide_eq_false_iff_not, Bool.true_eq_false, Bool.false_eq_true, true_implies, false_implies, true_and, and_true, false_and, and_false, implies_true, Bool.not_eq_true', Bool.not_eq_false', if_true, if_false, ite_true, ite_false, reduceCtorEq, forall_const, isi_bool_bool, isi_bool_int, isi_bool_str, isi_bool_list, isi_bool_tuple, isi_bool_none, isi_bool_dict, isi_int_bool, isi_int_int, isi_int_str, isi_int_list, isi_int_tuple, isi_int_none, isi_int_dict, isi_str_bool, isi_str_int, isi_str_str, isi_str_list, isi_str_tuple, isi_str_none, isi_str_dict, isi_list_bool, isi_list_int, isi_list_str, isi_list_list, isi_list_tuple, isi_list_none, isi_list_dict, isi_tuple_bool, isi_tuple_int, isi_tuple_str, isi_tuple_list, isi_tuple_tuple, isi_tuple_none, isi_tuple_dict, isi_dict_bool, isi_dict_int, isi_dict_str, isi_dict_list, isi_dict_tuple, isi_dict_none, isi_dict_dict, $ls,*])
theorem s_cell {ns : List Int} {k : Nat} : Ok (f_law_cell_at [some (.dat (.list (ns.map PyData.int))), some (.dat (.int k))]) fun o e => ∃ i, o = .dat (.int i) := by
  unfold f_law_cell_at m_law_cell_at
  push_cast [List.length_map]
  refine ⟨fun h => ?_, fun _ => ⟨0, rfl⟩⟩
  obtain ⟨d, h1, h2⟩ := at_of (xs := ns.map PyData.int) (x := k) (by simp; omega)
  obtain ⟨i, _, rfl⟩ := List.mem_map.mp h2
  push_cast [h1]
  exact ⟨i, rfl⟩
def blwB (d : D) (n : Nat) : Bool := match d with
  | .int i => decide (0 ≤ i ∧ i < n)
  | _ => false
theorem spd_i {k n : Nat} (h : n < 100) : spd k (iD n) := by
  have : 0 ≤ (n : Int) ∧ (n : Int) < 10 ^ 10 := ⟨by omega, by omega⟩
  cases k <;> exact this
theorem spd_l {k : Nat} {l : List Nat} (hl : l.length ≤ 1000) (h : ∀ x ∈ l, x < 100) : spd (k + 1) (tD l) := by
  refine ⟨by rw [List.length_map]; exact hl, fun d hd => ?_⟩
  obtain ⟨x, hx, rfl⟩ := List.mem_map.mp hd
  exact spd_i (h x hx)
theorem spd_raw {n : Nat} {h : Ho} (hh : HoOk n h) : spd 5 h.d := by
  obtain ⟨⟨n1, n8⟩, ⟨t1, t2, t3⟩, r8, hr, hu, s6, hs⟩ := hh
  have sp : ∀ s ∈ spL h.ts, s.length ≤ 1000 ∧ ∀ x ∈ s, x < 100 := fun s hs => by
    rw [mem_spL] at hs
    rcases hs with rfl | ⟨i, hi, rfl⟩ | ⟨i, j, hi, hj, rfl⟩
    · simp
    · simp; omega
    · have := (t3 _ (List.getElem_mem hi)).2
      simp; omega
  have nd : ∀ l, NdOk n l → l.length ≤ 1000 ∧ ∀ x ∈ l, x < 100 := fun l hl => ⟨by have := hl.1; omega, fun x hx => by have := hl.2.2 x hx; omega⟩
  refine ⟨by simp, fun d hd => ?_⟩
  simp only [List.mem_cons, List.not_mem_nil, or_false] at hd
  rcases hd with rfl | rfl | rfl
  · exact spd_l (by omega) fun x hx => by have := t3 x hx; omega
  · refine ⟨by rw [List.length_map]; omega, fun d hd => ?_⟩
    obtain ⟨r, hr1, rfl⟩ := List.mem_map.mp hd
    obtain ⟨q1, q2, q3, q4, q5, q6⟩ := hr r hr1
    refine ⟨by simp, fun d hd => ?_⟩
    simp only [List.mem_cons, List.not_mem_nil, or_false] at hd
    rcases hd with rfl | rfl | rfl | rfl | rfl
    · exact spd_i (by omega)
    · exact spd_l (sp _ q2).1 (sp _ q2).2
    · exact spd_i (by omega)
    · exact spd_i (by omega)
    · exact spd_l (nd _ q6).1 (nd _ q6).2
  · refine ⟨by rw [List.length_map]; omega, fun d hd => ?_⟩
    obtain ⟨t, ht1, rfl⟩ := List.mem_map.mp hd
    obtain ⟨⟨q1, q2⟩, q3, q4⟩ := hs t ht1
    refine ⟨by simp, fun d hd => ?_⟩
    simp only [List.mem_cons, List.not_mem_nil, or_false] at hd
    rcases hd with rfl | rfl | rfl
    · have := (t3 _ (List.getElem_mem q1)).2
      exact spd_l (by simp) fun x hx => by simp at hx; rcases hx with rfl | rfl <;> omega
    · exact spd_l (nd _ q3).1 (nd _ q3).2
    · obtain ⟨xs, e1, e2, e3⟩ := q4
      have hl := sortS_len (xs := xs)
      refine ⟨by rw [List.length_map, e1]; omega, fun d hd => ?_⟩
      obtain ⟨w, hw, rfl⟩ := List.mem_map.mp hd
      rw [e1] at hw
      unfold sortS at hw
      rw [List.mem_mergeSort, mem_dedup] at hw
      obtain ⟨cs, rfl, c1, c2, _⟩ := e3 w hw
      show cs.length ≤ 1000
      omega
theorem ne_b {b : Bool} : gNe (.bool b) (.bool b) = vB false := by cases b <;> rfl
theorem eqvs_b : ∀ bs : List Bool, PyData.eqvAll (bs.map PyData.bool) (bs.map PyData.bool) = true
  | [] => by simp [PyData.eqvAll]
  | b :: bs => by
    rw [List.map_cons, PyData.eqvAll, eqvs_b bs]
    cases b <;> rfl
theorem eq_bs {bs : List Bool} : gEq (.list (bs.map PyData.bool)) (.list (bs.map PyData.bool)) = vB true := by
  have ok : okd (.list (bs.map PyData.bool)) 60 = true := okds_all (n := 59) fun d hd => by
    obtain ⟨z, hz, rfl⟩ := List.mem_map.mp hd
    rfl
  rw [gEq_d, if_pos ⟨ok, ok⟩]
  show vB (PyData.eqv _ _) = _
  rw [PyData.eqv, eqvs_b]
theorem pure_law : Holds 63 f_law := by
  intro ns hns
  suffices h : Ok (f_law [some (.dat (.list (ns.map PyData.int)))]) fun o e => o = .dat (.bool true) by
    obtain ⟨a, e, h1, rfl⟩ := h.get
    exact ⟨e, h1⟩
  unfold f_law m_law
  push_cast [List.length_map]
  refine ⟨by constructor <;> (split <;> try split) <;> omega, ?_⟩
  refine ok_forL (fun rest e => (∃ k n, rest = (List.range' k n).map iD) ∧ ∃ x1 x2 x3 x4 x5, e = [some (.dat (.list (ns.map PyData.int))), x1, x2, x3, x4, x5]) ?_ ?_ ?_
  · rintro e ⟨_, x1, x2, x3, x4, x5, rfl⟩
    push_cast
    refine ok_frz_any (by simp) fun y hy => ?_
    refine s_bounds.mono ?_
    rintro _ e ⟨rfl, hl, hz⟩
    push_cast
    refine ⟨⟨by rcases hy with rfl | ⟨d, rfl⟩ <;> rfl, by rw [slZ]; omega⟩, ?_⟩
    refine ok_lcP (fun _ => true) (fun d => .bool (houseB d)) rfl ?_ ?_
    · intro d hd
      push_cast
      refine (s_is_house (ezDs_mem hz hd)).mono ?_
      rintro _ e rfl
      push_cast
    · push_cast
      refine ok_frz_any (by simp) fun y2 hy2 => ?_
      refine s_bounds.mono ?_
      rintro _ e ⟨rfl, hl2, hz2⟩
      push_cast
      refine ⟨⟨by rcases hy2 with rfl | ⟨d, rfl⟩ <;> rfl, by rw [slZ]; omega⟩, ?_⟩
      refine ok_lcP (fun _ => true) (fun d => .bool (houseB d)) rfl ?_ ?_
      · intro d hd
        push_cast
        refine (s_law_whole (ezDs_mem hz2 hd)).mono ?_
        rintro _ e rfl
        push_cast
      · have em : (bnds.filter fun _ => true).map (fun d => PyData.bool (houseB d)) = (bnds.map houseB).map PyData.bool := by rw [fT, List.map_map]; rfl
        push_cast [em, eq_bs]
  · rintro d ds e ⟨⟨k, n, hr⟩, x1, x2, x3, x4, x5, rfl⟩
    obtain ⟨hd, hds⟩ : d = iD k ∧ ∃ k n, ds = (List.range' k n).map iD := by
      cases n with
      | zero => cases hr
      | succ n =>
        rw [List.range'_succ, List.map_cons] at hr
        injection hr with h1 h2
        exact ⟨h1, _, _, h2⟩
    subst hd
    push_cast
    refine (s_cell (k := k)).mono ?_
    rintro _ e ⟨i, rfl⟩
    push_cast
    refine s_pen.mono ?_
    rintro _ e ⟨p, hp, rfl⟩
    push_cast
    refine (s_raw hp).mono ?_
    rintro _ e ⟨n, h, hh, rfl, p1, hp1, he⟩
    push_cast [he]
    have hz : ezD h.d = true := spd_em 5 _ (spd_raw hh)
    refine (s_is_house hz).mono ?_
    rintro _ e rfl
    rw [house_raw hh]
    push_cast
    refine ⟨by decide, ?_⟩
    refine ok_forL (fun rest e => ∃ (p' : List D) (x4 x5 : Option O), V p' ∧ e = [some (.dat (.list (ns.map PyData.int))), some (.dat (iD k)), some (.lst p'), some (.dat h.d), x4, x5]) ?_ ?_ ⟨p1, x4, x5, hp1, rfl⟩
    · rintro e ⟨p2, y4, y5, hp2, rfl⟩
      push_cast
      refine (s_thing 3 (dp := 3) hp2 (by omega)).mono ?_
      rintro o e ⟨d0, hd0, ⟨ho, ht⟩, p3, hp3, he⟩
      have q1 := s_is_house hd0
      have q2 := s_law_whole hd0
      obtain ⟨A, B, C, hd3⟩ : ∃ A B C, h.d = .tuple [A, B, C] := ⟨_, _, _, rfl⟩
      rw [hd3] at hz
      have hzs : ezDs [A, B, C] = true := ez_of hz
      have q3 := s_is_house (d := .list [A, B, C]) (ez_lst hzs (by simp))
      have q4 := s_is_house (d := .tuple [A, B]) (ez_tup (by simp only [ezDs, Bool.and_eq_true, Bool.and_true] at hzs ⊢; exact ⟨hzs.1, hzs.2.1⟩) (by simp))
      have h4 : houseB (.tuple [A, B]) = false := house_no (by simp)
      have h3 : houseB (.list [A, B, C]) = false := rfl
      have ec : cutL [A, B, C] none (some 2) = [A, B] := rfl
      rw [h3] at q3
      rw [h4] at q4
      have oc : o = .dat d0 ∨ ∃ ds, o = .lst ds ∧ d0 = .list ds := by
        cases o with
        | dat d => left; injection ho with ho; rw [ho]
        | lst ds => right; injection ho with ho; exact ⟨ds, rfl, ho.symm⟩
        | tpl ds => cases ht
        | dct ds => cases ht
      rcases oc with rfl | ⟨ds, rfl, rfl⟩
      · push_cast [he]
        refine q1.mono ?_
        rintro _ e rfl
        push_cast
        refine q2.mono ?_
        rintro _ e rfl
        push_cast [hd3]
        refine ⟨fun h => (by simp at h), fun _ => ?_⟩
        refine q3.mono ?_
        rintro _ e rfl
        push_cast [ec]
        refine q4.mono ?_
        rintro _ e rfl
        push_cast
        exact ⟨hds, _, _, _, _, _, rfl⟩
      · push_cast [he]
        refine q1.mono ?_
        rintro _ e rfl
        push_cast
        refine q2.mono ?_
        rintro _ e rfl
        push_cast [hd3]
        refine ⟨fun h => (by simp at h), fun _ => ?_⟩
        refine q3.mono ?_
        rintro _ e rfl
        push_cast [ec]
        refine q4.mono ?_
        rintro _ e rfl
        push_cast
        exact ⟨hds, _, _, _, _, _, rfl⟩
    · rintro d dss e ⟨p2, y4, y5, hp2, rfl⟩
      push_cast
      refine (s_spoilt 5 hp2 (spd_raw hh)).mono ?_
      rintro o e ⟨d0, hd0, ⟨ho, ht⟩, p3, hp3, he⟩
      have q1 := s_is_house hd0
      have q2 := s_law_whole hd0
      have oc : o = .dat d0 ∨ ∃ ds, o = .lst ds ∧ d0 = .list ds := by
        cases o with
        | dat d => left; injection ho with ho; rw [ho]
        | lst ds => right; injection ho with ho; exact ⟨ds, rfl, ho.symm⟩
        | tpl ds => cases ht
        | dct ds => cases ht
      rcases oc with rfl | ⟨ds, rfl, rfl⟩
      · push_cast [he]
        refine q1.mono ?_
        rintro _ e rfl
        push_cast
        refine q2.mono ?_
        rintro _ e rfl
        push_cast
        exact ⟨fun h => (by simp at h), fun _ => ⟨p3, _, _, hp3, rfl⟩⟩
      · push_cast [he]
        refine q1.mono ?_
        rintro _ e rfl
        push_cast
        refine q2.mono ?_
        rintro _ e rfl
        push_cast
        exact ⟨fun h => (by simp at h), fun _ => ⟨p3, _, _, hp3, rfl⟩⟩
  · exact ⟨⟨0, _, by rw [rngD0, List.range_eq_range']⟩, none, none, none, none, none, rfl⟩
end Mi

namespace Mi
open PySem PySem.Spec L2
/-! ### the head -/
def dfn : List He.DefD := [⟨("is_whole", none), "is_whole", "is_whole", defArgs (top 11), defBody (top 11), defScope (top 11), [], []⟩, ⟨("is_below", none), "is_below", "is_below", defArgs (top 12), defBody (top 12), defScope (top 12), [], []⟩, ⟨("is_from_one", none), "is_from_one", "is_from_one", defArgs (top 13), defBody (top 13), defScope (top 13), [], []⟩, ⟨("is_word", none), "is_word", "is_word", defArgs (top 14), defBody (top 14), defScope (top 14), [], []⟩, ⟨("is_spot_of", none), "is_spot_of", "is_spot_of", defArgs (top 15), defBody (top 15), defScope (top 15), [], []⟩, ⟨("are_needs", none), "are_needs", "are_needs", defArgs (top 16), defBody (top 16), defScope (top 16), [], []⟩, ⟨("is_recipe", none), "is_recipe", "is_recipe", defArgs (top 17), defBody (top 17), defScope (top 17), [], []⟩, ⟨("are_words", none), "are_words", "are_words", defArgs (top 18), defBody (top 18), defScope (top 18), [], []⟩, ⟨("is_tasting", none), "is_tasting", "is_tasting", defArgs (top 19), defBody (top 19), defScope (top 19), [], []⟩, ⟨("is_house", none), "is_house", "is_house", defArgs (top 20), defBody (top 20), defScope (top 20), [], []⟩, ⟨("_law_cell_at", none), "_law_cell_at", "_law_cell_at", defArgs (top 22), defBody (top 22), defScope (top 22), [], []⟩, ⟨("_law_pen", none), "_law_pen", "_law_pen", defArgs (top 23), defBody (top 23), defScope (top 23), [], []⟩, ⟨("_law_draw", none), "_law_draw", "_law_draw", defArgs (top 24), defBody (top 24), defScope (top 24), [], []⟩, ⟨("_law_spots", none), "_law_spots", "_law_spots", defArgs (top 25), defBody (top 25), defScope (top 25), [], []⟩, ⟨("_law_needs", none), "_law_needs", "_law_needs", defArgs (top 26), defBody (top 26), defScope (top 26), [], []⟩, ⟨("_law_words", none), "_law_words", "_law_words", defArgs (top 27), defBody (top 27), defScope (top 27), [], []⟩, ⟨("_law_raw", none), "_law_raw", "_law_raw", defArgs (top 28), defBody (top 28), defScope (top 28), [], []⟩, ⟨("_law_thing", none), "_law_thing", "_law_thing", defArgs (top 29), defBody (top 29), defScope (top 29), [], []⟩, ⟨("_law_spoilt", none), "_law_spoilt", "_law_spoilt", defArgs (top 30), defBody (top 30), defScope (top 30), [], []⟩, ⟨("_law_is_number", none), "_law_is_number", "_law_is_number", defArgs (top 31), defBody (top 31), defScope (top 31), [], []⟩] ++ [⟨("_law_are_names", none), "_law_are_names", "_law_are_names", defArgs (top 32), defBody (top 32), defScope (top 32), [], []⟩, ⟨("_law_is_place", none), "_law_is_place", "_law_is_place", defArgs (top 33), defBody (top 33), defScope (top 33), [], []⟩, ⟨("_law_is_named", none), "_law_is_named", "_law_is_named", defArgs (top 34), defBody (top 34), defScope (top 34), [], []⟩, ⟨("_law_is_kind", none), "_law_is_kind", "_law_is_kind", defArgs (top 35), defBody (top 35), defScope (top 35), [], []⟩, ⟨("_law_is_tasted", none), "_law_is_tasted", "_law_is_tasted", defArgs (top 36), defBody (top 36), defScope (top 36), [], []⟩, ⟨("_law_is_whole_house", none), "_law_is_whole_house", "_law_is_whole_house", defArgs (top 37), defBody (top 37), defScope (top 37), [], []⟩, ⟨("_law_bounds", none), "_law_bounds", "_law_bounds", defArgs (top 38), defBody (top 38), defScope (top 38), [], []⟩, ⟨("law", none), "law", "law", defArgs (top 39), defBody (top 39), defScope (top 39), [], []⟩]
def fas : List He.Fa := [.glo "is_whole", .glo "is_below", .glo "is_from_one", .glo "is_word", .glo "is_spot_of", .glo "are_needs", .glo "is_recipe", .glo "are_words", .glo "is_tasting", .glo "is_house", .glo "_law_cell_at", .glo "_law_pen", .glo "_law_draw", .glo "_law_spots", .glo "_law_needs", .glo "_law_words", .glo "_law_raw", .glo "_law_thing", .glo "_law_spoilt", .glo "_law_is_number"] ++ [.glo "_law_are_names", .glo "_law_is_place", .glo "_law_is_named", .glo "_law_is_kind", .glo "_law_is_tasted", .glo "_law_is_whole_house", .glo "_law_bounds", .glo "law", .free "all", .free "bool", .free "enumerate", .free "int", .free "isinstance", .free "len", .free "list", .free "max", .free "min", .free "range", .free "set", .free "sorted"] ++ [.free "str", .free "tuple", .free "zip", .int "KEEPS" (4), .int "MOST_EVENINGS" (3), .int "MOST_NEEDS" (3), .int "MOST_RECIPES" (8), .int "MOST_SIGNS" (8), .int "MOST_SORTS" (3), .int "MOST_TABLES" (3), .int "MOST_TASTINGS" (6), .int "MOST_WORDS" (4), .int "NAMES" (8), .free "all_by", .free "_law_found"]
def tfs : List He.Defn := []
def exB (K : PySem.W.Frag) : Bool := tabsU K
abbrev R : PySem.W.OpenRow := PySem.W.OpenLaw.row PySem.Challenge.rw_tastehouse_k01_houses
abbrev hk : PySem.W.Hook := He.hookX 4 fas dfn [] tfs exB
def ob (s : PySem.W.SharedT) : He.AlX := He.obsX 4 fas dfn [] tfs exB (HandSHeadRun.getT s)
theorem ob_eq (s : PySem.W.SharedT) : ob s = hk.obs s.abs := He.obsX_eq (HandSHeadRun.getT_eq s)
def loose : List Str := (["__name__", "MOST_EVENINGS", "MOST_TABLES", "MOST_RECIPES", "MOST_TASTINGS", "MOST_NEEDS", "MOST_WORDS", "MOST_SIGNS", "MOST_SORTS", "KEEPS", "NAMES", "is_whole", "is_below", "is_from_one", "is_word", "is_spot_of", "are_needs", "is_recipe", "are_words", "is_tasting"] : List Str) ++ (["is_house", "_law_cell_at", "_law_pen", "_law_draw", "_law_spots", "_law_needs", "_law_words", "_law_raw", "_law_thing", "_law_spoilt", "_law_is_number", "_law_are_names", "_law_is_place", "_law_is_named", "_law_is_kind", "_law_is_tasted", "_law_is_whole_house", "_law_bounds"] : List Str)
theorem run (w : World) : HandSHeadRun.RunEq R (PySem.W.view R.prog [39]) hk ob 6000 loose w := by
  intro os
  kernel_rfl
theorem tabs_eq {K : PySem.W.Frag} {mg : Str → Option Value} {h : Heap} (X : K.In h) (G : h.Ns mainGlobals mg) (c : He.SaysD fas dfn K) : tabsOf K = [] := by
  exact tabsOf_two (hasG_free (c.fact 53 (f := .free "all_by") rfl)) (hasG_free (c.fact 54 (f := .free "_law_found") rfl))
theorem ev_of {K : PySem.W.Frag} {h base : Heap} {mg : Str → Option Value} (X : K.In h) (G : h.Ns mainGlobals mg) (c : He.SaysD fas dfn K) (cu : tabsU K = true) (tb : ∀ p ∈ tfs, LamX.TabB base mg (He.cT K p).1 (He.cT K p).2) : Ev K mg base where
  b_all := He.free_ok X G (c.fact 28 (f := .free "all") rfl)
  b_bool := He.free_ok X G (c.fact 29 (f := .free "bool") rfl)
  b_enumerate := He.free_ok X G (c.fact 30 (f := .free "enumerate") rfl)
  b_int := He.free_ok X G (c.fact 31 (f := .free "int") rfl)
  b_isinstance := He.free_ok X G (c.fact 32 (f := .free "isinstance") rfl)
  b_len := He.free_ok X G (c.fact 33 (f := .free "len") rfl)
  b_list := He.free_ok X G (c.fact 34 (f := .free "list") rfl)
  b_max := He.free_ok X G (c.fact 35 (f := .free "max") rfl)
  b_min := He.free_ok X G (c.fact 36 (f := .free "min") rfl)
  b_range := He.free_ok X G (c.fact 37 (f := .free "range") rfl)
  b_set := He.free_ok X G (c.fact 38 (f := .free "set") rfl)
  b_sorted := He.free_ok X G (c.fact 39 (f := .free "sorted") rfl)
  b_str := He.free_ok X G (c.fact 40 (f := .free "str") rfl)
  b_tuple := He.free_ok X G (c.fact 41 (f := .free "tuple") rfl)
  b_zip := He.free_ok X G (c.fact 42 (f := .free "zip") rfl)
  c_KEEPS := He.int_ok X G (c.fact 43 (f := .int "KEEPS" (4)) rfl)
  c_MOST_EVENINGS := He.int_ok X G (c.fact 44 (f := .int "MOST_EVENINGS" (3)) rfl)
  c_MOST_NEEDS := He.int_ok X G (c.fact 45 (f := .int "MOST_NEEDS" (3)) rfl)
  c_MOST_RECIPES := He.int_ok X G (c.fact 46 (f := .int "MOST_RECIPES" (8)) rfl)
  c_MOST_SIGNS := He.int_ok X G (c.fact 47 (f := .int "MOST_SIGNS" (8)) rfl)
  c_MOST_SORTS := He.int_ok X G (c.fact 48 (f := .int "MOST_SORTS" (3)) rfl)
  c_MOST_TABLES := He.int_ok X G (c.fact 49 (f := .int "MOST_TABLES" (3)) rfl)
  c_MOST_TASTINGS := He.int_ok X G (c.fact 50 (f := .int "MOST_TASTINGS" (6)) rfl)
  c_MOST_WORDS := He.int_ok X G (c.fact 51 (f := .int "MOST_WORDS" (4)) rfl)
  c_NAMES := He.int_ok X G (c.fact 52 (f := .int "NAMES" (8)) rfl)
  d_is_whole := defAt_of X G c 0 rfl rfl fun _ _ _ _ _ _ us hl => match us, hl with | [_], _ => rfl
  d_is_below := defAt_of X G c 1 rfl rfl fun _ _ _ _ _ _ us hl => match us, hl with | [_, _], _ => rfl
  d_is_from_one := defAt_of X G c 2 rfl rfl fun _ _ _ _ _ _ us hl => match us, hl with | [_, _], _ => rfl
  d_is_word := defAt_of X G c 3 rfl rfl fun _ _ _ _ _ _ us hl => match us, hl with | [_], _ => rfl
  d_is_spot_of := defAt_of X G c 4 rfl rfl fun _ _ _ _ _ _ us hl => match us, hl with | [_, _], _ => rfl
  d_are_needs := defAt_of X G c 5 rfl rfl fun _ _ _ _ _ _ us hl => match us, hl with | [_], _ => rfl
  d_is_recipe := defAt_of X G c 6 rfl rfl fun _ _ _ _ _ _ us hl => match us, hl with | [_, _], _ => rfl
  d_are_words := defAt_of X G c 7 rfl rfl fun _ _ _ _ _ _ us hl => match us, hl with | [_], _ => rfl
  d_is_tasting := defAt_of X G c 8 rfl rfl fun _ _ _ _ _ _ us hl => match us, hl with | [_, _], _ => rfl
  d_is_house := defAt_of X G c 9 rfl rfl fun _ _ _ _ _ _ us hl => match us, hl with | [_], _ => rfl
  d_law_cell_at := defAt_of X G c 10 rfl rfl fun _ _ _ _ _ _ us hl => match us, hl with | [_, _], _ => rfl
  d_law_pen := defAt_of X G c 11 rfl rfl fun _ _ _ _ _ _ us hl => match us, hl with | [_], _ => rfl
  d_law_draw := defAt_of X G c 12 rfl rfl fun _ _ _ _ _ _ us hl => match us, hl with | [_, _], _ => rfl
  d_law_spots := defAt_of X G c 13 rfl rfl fun _ _ _ _ _ _ us hl => match us, hl with | [_], _ => rfl
  d_law_needs := defAt_of X G c 14 rfl rfl fun _ _ _ _ _ _ us hl => match us, hl with | [_, _], _ => rfl
  d_law_words := defAt_of X G c 15 rfl rfl fun _ _ _ _ _ _ us hl => match us, hl with | [_], _ => rfl
  d_law_raw := defAt_of X G c 16 rfl rfl fun _ _ _ _ _ _ us hl => match us, hl with | [_], _ => rfl
  d_law_thing := defAt_of X G c 17 rfl rfl fun _ _ _ _ _ _ us hl => match us, hl with | [_, _], _ => rfl
  d_law_spoilt := defAt_of X G c 18 rfl rfl fun _ _ _ _ _ _ us hl => match us, hl with | [_, _], _ => rfl
  d_law_is_number := defAt_of X G c 19 rfl rfl fun _ _ _ _ _ _ us hl => match us, hl with | [_, _, _], _ => rfl
  d_law_are_names := defAt_of X G c 20 rfl rfl fun _ _ _ _ _ _ us hl => match us, hl with | [_], _ => rfl
  d_law_is_place := defAt_of X G c 21 rfl rfl fun _ _ _ _ _ _ us hl => match us, hl with | [_, _], _ => rfl
  d_law_is_named := defAt_of X G c 22 rfl rfl fun _ _ _ _ _ _ us hl => match us, hl with | [_], _ => rfl
  d_law_is_kind := defAt_of X G c 23 rfl rfl fun _ _ _ _ _ _ us hl => match us, hl with | [_, _], _ => rfl
  d_law_is_tasted := defAt_of X G c 24 rfl rfl fun _ _ _ _ _ _ us hl => match us, hl with | [_, _], _ => rfl
  d_law_is_whole_house := defAt_of X G c 25 rfl rfl fun _ _ _ _ _ _ us hl => match us, hl with | [_], _ => rfl
  d_law_bounds := defAt_of X G c 26 rfl rfl fun _ _ _ _ _ _ us hl => match us, hl with | [], _ => rfl
  d_law := defAt_of X G c 27 rfl rfl fun _ _ _ _ _ _ us hl => match us, hl with | [_], _ => rfl
theorem at_law {w : World} {K : PySem.W.Frag} {h : Heap} {mg : Str → Option Value} {f : Addr} (X : K.In h) (G : h.Ns mainGlobals mg) (hfa : mg ("law" : Str) = some (.ref f)) (cx : He.SaysX fas dfn [] tfs exB w h K) (pl : Holds 63 f_law) :
    LamX.LawAtS PySem.Challenge.rw_tastehouse_k01_houses w K CX0 14 63 "_law_script" mg f h := by
  have c := cx.t.d
  obtain ⟨fd, F⟩ := c.def_ 27 (d := ⟨("law", none), "law", "law", defArgs (top 39), defBody (top 39), defScope (top 39), [], []⟩) rfl
  have e := hfa.symm.trans (He.glo_ok X G (c.fact 27 (f := .glo "law") rfl))
  cases e
  have b := FunD.bindsA (ps := ["_law_script"]) F fun _ _ _ _ _ _ us hl => match us, hl with | [_], _ => rfl
  refine law_at cx X (tabs_eq X G c) rfl (fun s v => b s [v] rfl) pl fun base hb1 hb2 tb => FnOk_cx0 ?_
  have ev : Ev K mg base := ev_of X G c cx.more tb
  exact fn_by F sc_law rfl (by decide) fun cdv A outer s H E hr => b_law ev _ cdv A outer s H E hr
end Mi
open PySem PySem.W PySem.Calls PyProof.Rows
theorem PySem.Challenge.cw_tastehouse_k01_houses_holds : PySem.Challenge.rw_tastehouse_k01_houses.Holds := by
  w_on; o_law
  refine HandSHeadRun.head_any (r := OpenLaw.row PySem.Challenge.rw_tastehouse_k01_houses) (q := view (OpenLaw.row PySem.Challenge.rw_tastehouse_k01_houses).prog [39]) (H := Mi.hk) (ob := Mi.ob) (M := 6000) (loose := Mi.loose) (d := HandSHeadRun.topDef (OpenLaw.row PySem.Challenge.rw_tastehouse_k01_houses).prog 39) (kwd := []) Mi.ob_eq
    (by kernel_rfl) (fun s => by kernel_rfl) Mi.run (by kernel_rfl) (by kernel_rfl) (by kernel_rfl) (by rfl) (by first | assumption | decide +kernel) (by decide +kernel) ⟨rfl, rfl, rfl, rfl, rfl, by decide +kernel⟩ ?hw ?hc
  case hw => w_witness2
  case hc =>
    refine LamX.walk_ofTsE (l := PySem.Challenge.rw_tastehouse_k01_houses) (n := 63) (k := 14) (x := "_law_script") (CX := fun _ => L2.CX0) rfl (by decide) (by kernel_rfl) ⟨rfl, by decide, by decide⟩ ?F (fun _ _ _ _ _ z => z)
    intro w mg fa h Y G hmg0
    obtain ⟨K, KX, c⟩ := Y
    have hmg : mg ("law" : PySem.Str) = some (.ref fa) := by
      have e : (HandSHeadRun.topDef (OpenLaw.row PySem.Challenge.rw_tastehouse_k01_houses).prog 39).name = ("law" : PySem.Str) := by kernel_rfl
      rw [← e]
      exact hmg0
    exact ⟨K, KX, Mi.at_law KX G hmg c Mi.pure_law⟩
