/-
  The call's own state told without addresses ('Env'), how a machine's state shows it ('Rel'), and the rules of the walk for code ('PW'). For every program.
-/
import Derived.Test.YtklejiafioalnaaPwA
import Derived.RangeFuncLeaves
import Derived.OrdersIn
import Derived.TacticsIn
set_option linter.all false
namespace Go.PW
open Go.RowKit

def get : List (Nat × V) → Nat → V
  | [], _ => .dead
  | (s, v) :: l, t => if t = s then v else get l t
def put : List (Nat × V) → Nat → V → List (Nat × V)
  | [], t, v => [(t, v)]
  | (s, u) :: l, t, v => if t = s then (t, v) :: l else if t < s then (t, v) :: (s, u) :: l else (s, u) :: put l t v
theorem get_put (l : List (Nat × V)) (t : Nat) (v : V) (s : Nat) : get (put l t v) s = if s = t then v else get l s := by
  induction l with
  | nil => simp [put, get]
  | cons x l ih =>
    obtain ⟨r, u⟩ := x
    simp only [put]
    by_cases h1 : t = r
    · subst h1; simp only [if_true, get]; split <;> simp_all
    · by_cases h2 : t < r
      · simp only [h1, h2, if_false, if_true, get]
      · simp only [h1, h2, if_false, get, ih]
        by_cases h3 : s = r
        · subst h3; simp [Ne.symm h1]
        · simp [h3]

def keep (K : List Nat) : List (Nat × V) → List (Nat × V)
  | [] => []
  | (s, v) :: l => if K.contains s then (s, v) :: keep K l else keep K l
theorem get_keep_out (K : List Nat) (l : List (Nat × V)) (t : Nat) (h : ¬ K.contains t = true) : get (keep K l) t = .dead := by
  induction l with
  | nil => simp [keep, get]
  | cons x l ih =>
    obtain ⟨s, v⟩ := x
    simp only [keep]
    split
    · rename_i hs
      simp only [get]
      rw [if_neg (by rintro rfl; exact h hs)]
      exact ih
    · exact ih
theorem get_keep (K : List Nat) (l : List (Nat × V)) (t : Nat) : get (keep K l) t = get l t ∨ get (keep K l) t = .dead := by
  by_cases h : K.contains t = true
  · refine Or.inl ?_
    induction l with
    | nil => rfl
    | cons x l ih =>
      obtain ⟨s, v⟩ := x
      simp only [keep]
      split
      · simp only [get]; split
        · rfl
        · exact ih
      · rename_i hs
        simp only [get]
        rw [if_neg (by rintro rfl; exact hs h)]
        exact ih
  · exact Or.inr (get_keep_out K l t h)

def Env.put (env : Env) (t : Nat) (v : V) : Env := { env with tmps := PW.put env.tmps t v }
def Env.plain (env : Env) : Env := { env with gs := (0, []), th := (fun _ _ => True, env.th.2) }
theorem get_map_kill (l : List (Nat × V)) (i t : Nat) : get (l.map fun x => (x.1, x.2.kill i)) t = (get l t).kill i := by
  induction l with
  | nil => simp [get, V.kill]
  | cons x l ih =>
    obtain ⟨s, v⟩ := x
    simp only [List.map_cons, get]
    split
    · rfl
    · exact ih

def Imm (B : Nat) (S0 : Nat → Prop) (φ : Nat → Option Nat) (m : Nat) (b : Nat) : Prop := (S0 b ∨ B ≤ b) ∧ ∀ i, i < m → φ i ≠ some b

def ObRep (w : World) (S : Nat → Prop) (φ : Nat → Option Nat) (m : Nat) (i : Nat) (ob : Ob) : Prop :=
  (φ i = none ∧ ob.cells = []) ∨ ∃ g cur vals rest, φ i = some g ∧ w.heap[g]? = some (.cells cur ob.e (0, 0)) ∧ cur.toList = vals ++ rest ∧ RepVs w S φ m ob.cells vals

def mark (D : Nat) : Deferred := { target := .collected D, args := #[] }
def Marks (B : Nat) (ds : List Deferred) (th : (Nat → World → Prop) × Bool) (w : World) : Prop :=
  (th.2 = false → ds = []) ∧ (∃ Ds : List Nat, ds = Ds.map mark ∧ Ds.Nodup ∧ ∀ D ∈ Ds, B ≤ D ∧ w.heap[D]? = some (.deferred (some []))) ∧ th.1 B w ∧ ∀ w1 w2, th.1 B w1 → KeepsOthers w1 w2 → th.1 B w2
theorem Marks.keeps {B : Nat} {ds : List Deferred} {th : (Nat → World → Prop) × Bool} {w w' : World} (h : Marks B ds th w) (ho : KeepsOthers w w') : Marks B ds th w' := by
  obtain ⟨h0, ⟨Ds, h1, h2, h3⟩, h4, h5⟩ := h
  exact ⟨h0, ⟨Ds, h1, h2, fun D hD => ⟨(h3 D hD).1, ho.same _ _ (h3 D hD).2 rfl⟩⟩, h5 _ _ h4 ho, h5⟩
theorem Marks.nil (B : Nat) (b : Bool) (w : World) : Marks B [] (fun _ _ => True, b) w := ⟨fun _ => rfl, ⟨[], rfl, List.nodup_nil, fun D hD => by simp at hD⟩, trivial, fun _ _ _ _ => trivial⟩
theorem Marks.less {B : Nat} {ds : List Deferred} {th : (Nat → World → Prop) × Bool} {w : World} (h : Marks B ds th w) : Marks B ds (fun _ _ => True, th.2) w := ⟨h.1, h.2.1, trivial, fun _ _ _ _ => trivial⟩
theorem Marks.least {B : Nat} {ds : List Deferred} {th : (Nat → World → Prop) × Bool} {w : World} (h : Marks B ds th w) : Marks B ds (fun _ _ => True, true) w := ⟨fun h => (by cases h), h.2.1, trivial, fun _ _ _ _ => trivial⟩

structure Rel (B : Nat) (w0 : World) (S0 : Nat → Prop) (φ : Nat → Option Nat) (env : Env) (a : Act) (w : World) : Prop where
  below : Below B w0 w
  base : B ≤ w0.heap.size
  nodef : Marks B a.defers env.th w
  size : env.nt ≤ a.tmps.size
  tmps : ∀ t, RepV w (Imm B S0 φ env.objs.length) φ env.objs.length (get env.tmps t) (a.tmps.getD t undef)
  objs : ∀ i ob, env.objs[i]? = some ob → ObRep w (Imm B S0 φ env.objs.length) φ env.objs.length i ob
  low : ∀ i g, i < env.objs.length → φ i = some g → B ≤ g
  inj : ∀ i j g, i < env.objs.length → j < env.objs.length → φ i = some g → φ j = some g → i = j
  ghost : env.gs.1 ≤ env.objs.length ∧ ∀ x ∈ env.gs.2, x.2.2 ≤ env.gs.1 ∧ RepV w (Imm B S0 φ env.objs.length) φ x.2.2 x.1 x.2.1

section
variable {B : Nat} {w0 : World} {S0 : Nat → Prop} {φ : Nat → Option Nat} {env : Env} {a : Act} {w : World}

theorem Rel.baseW (h : Rel B w0 S0 φ env a w) : B ≤ w.heap.size := Nat.le_trans h.base h.below.size

theorem put_getD (a : Act) (d : Nat) (v : Value) (t : Nat) (hd : d < a.tmps.size) : (a.put (some d) v).tmps.getD t undef = if t = d then v else a.tmps.getD t undef := by
  simp only [Act.put, Array.getD_eq_getD_getElem?, Array.getElem?_setIfInBounds]
  by_cases h : d = t
  · subst h; simp [hd]
  · rw [if_neg h, if_neg (Ne.symm h)]

theorem Rel.put (h : Rel B w0 S0 φ env a w) (d : Nat) (hd : d < env.nt) (r : V) (v : Value) (hv : RepV w (Imm B S0 φ env.objs.length) φ env.objs.length r v) :
    Rel B w0 S0 φ (env.put d r) (a.put (some d) v) w where
  below := h.below
  base := h.base
  nodef := h.nodef
  size := by simpa [Env.put, Act.put] using h.size
  tmps t := by
    simp only [Env.put, get_put]
    rw [put_getD a d v t (Nat.lt_of_lt_of_le hd h.size)]
    split
    · exact hv
    · exact h.tmps t
  objs := h.objs
  low := h.low
  inj := h.inj
  ghost := h.ghost

theorem Rel.weaken (h : Rel B w0 S0 φ env a w) {env' : Env} (hn : env'.nt ≤ env.nt) (ho : env'.objs = env.objs)
    (ht : ∀ t, get env'.tmps t = get env.tmps t ∨ get env'.tmps t = .dead) (hgs : env'.gs = env.gs := by rfl) (hth : env'.th = env.th := by rfl) : Rel B w0 S0 φ env' a w where
  below := h.below
  base := h.base
  nodef := by rw [hth]; exact h.nodef
  size := Nat.le_trans hn h.size
  tmps t := by
    rw [ho]
    rcases ht t with e | e
    · rw [e]; exact h.tmps t
    · rw [e]; simp [RepV]
  objs := by rw [ho]; exact h.objs
  low := by rw [ho]; exact h.low
  inj := by rw [ho]; exact h.inj
  ghost := by rw [ho, hgs]; exact h.ghost
end

def Sat (B : Nat) (w0 : World) (S0 : Nat → Prop) (Q : Exit → Env → Prop) : Exit → Act → World → Prop :=
  fun e a w => ∃ env φ, Q e env ∧ Rel B w0 S0 φ env a w

def Fd (ro : Option Nat) : Fence := { fn := fun _ => True, depth := none, alive := false, round := ro }
theorem room_Fd (ro : Option Nat) (n : Nat) : (Fd ro).room n := fun _ h => by simp [Fd] at h
theorem fenced_Fd (P : Program) (ro : Option Nat) (m : Machine) : m.fenced P (Fd ro) := by
  intro g _
  exact ⟨fun h => by simp [Fd] at h, Or.inl trivial, fun _ _ => trivial, room_Fd ro _⟩
theorem stepsIn_Fd {P : Program} {ro : Option Nat} {m m' : Machine} : StepsIn (Machine.fenced P (Fd ro)) P m m' ↔ Steps P m m' :=
  ⟨StepsIn.steps, fun h => (StepsIn.of_steps h).mono fun m _ => fenced_Fd P ro m⟩
theorem comesIn_Fd {P : Program} {ro : Option Nat} {m m' : Machine} {e : Ending} : ComesIn (Machine.fenced P (Fd ro)) P m m' e ↔ Comes P m m' e := by
  cases e with
  | returned v => exact stepsIn_Fd
  | panicked chain => exact stepsIn_Fd
  | outgrown => exact Iff.rfl
theorem callsIn_Fd {n : Nat} {ro : Option Nat} {P : Program} {f : FuncId} {args : Array Value} {w : World} {R : Ending → World → Prop} : CallsIn (Fd ro) n P f args w R ↔ Calls P f args w R :=
  ⟨fun h cs => let ⟨e, w', fr, r, s, x⟩ := h.2 cs (room_Fd ro _); ⟨e, w', fr, r, comesIn_Fd.1 s, x⟩,
   fun h => ⟨trivial, fun cs _ => let ⟨e, w', fr, r, s, x⟩ := h cs; ⟨e, w', fr, r, comesIn_Fd.2 s, x⟩⟩⟩

def PW (ro : Option Nat) (P : Program) (c : Code) (Q : Exit → Env → Prop) (env : Env) : Prop :=
  ∀ B w0 S0 φ a w, Rel B w0 S0 φ env a w → c.wpIn (Fd ro) 1 P (Sat B w0 S0 Q) a w

theorem wpIn_loopS {σ : Type} {F : Fence} {n : Nat} {P : Program} {Q : Exit → Act → World → Prop} {c : Code} (R : σ → Act → World → Prop) (μ : σ → Nat) (s₀ : σ) {a : Act} {w : World} (h₀ : R s₀ a w)
    (round : ∀ s a w, R s a w → c.wpIn F n P (Exit.then (fun a' w' => ∃ s', R s' a' w' ∧ μ s' < μ s) Q) a w) : (Code.loop c).wpIn F n P Q a w := by
  intro b k cs hro hb hr
  have key : ∀ j s a w, μ s = j → R s a w →
      ∃ e a' w', Q e a' w' ∧ ArrivesIn (Machine.fenced P F) P (lone (b.atR a (.code c :: .inLoop c :: k)) cs w) b k cs e a' w' := by
    intro j
    induction j using Nat.strongRecOn with
    | _ j ih =>
      intro s a w hn hI
      obtain ⟨e, a₁, w₁, hq, harr⟩ := round s a w hI b (.inLoop c :: k) cs hro hb hr
      cases e with
      | normal =>
        obtain ⟨s', hI₁, hlt⟩ := hq
        obtain ⟨e₂, a₂, w₂, hq₂, harr₂⟩ := ih (μ s') (hn ▸ hlt) s' a₁ w₁ rfl hI₁
        exact ⟨e₂, a₂, w₂, hq₂, .of_steps (StepsIn.trans harr (.one (fenced_calm hb hr rfl) stepR_inLoop)) harr₂⟩
      | exit id => exact ⟨_, a₁, w₁, hq, .pass (x := .inLoop c) rfl (fun _ _ => .inl (by simp)) harr⟩
      | goto l => exact ⟨_, a₁, w₁, hq, .pass (x := .inLoop c) rfl (fun _ _ => .inl (by simp)) harr⟩
      | ret => exact ⟨_, a₁, w₁, hq, .pass (x := .inLoop c) rfl (fun _ _ => .inl (by simp)) harr⟩
      | panic ch => exact ⟨_, a₁, w₁, hq, .pass (x := .inLoop c) rfl (fun _ _ => .inl (by simp)) harr⟩
      | outgrown => exact ⟨_, a₁, w₁, hq, .pass (x := .inLoop c) rfl (fun _ _ => .inl (by simp)) harr⟩
  obtain ⟨e, a', w', hq, harr⟩ := key _ s₀ a w rfl h₀
  exact ⟨e, a', w', hq, .of_steps (.one (fenced_calm hb hr rfl) stepR_loop) harr⟩

def andThen (next : Env → Prop) (Q : Exit → Env → Prop) : Exit → Env → Prop
  | .normal, env => next env
  | e, env => Q e env

def inBlock (id : Nat) (Q : Exit → Env → Prop) : Exit → Env → Prop
  | .exit id', env => if id' = id then Q .normal env else Q (.exit id') env
  | e, env => Q e env

section
variable {ro : Option Nat} {P : Program} {Q : Exit → Env → Prop} {env : Env}

theorem PW.skip (h : Q .normal env) : PW ro P .skip Q env := fun _ _ _ φ _ _ hr => wpIn_skip ⟨env, φ, h, hr⟩
theorem PW.label {l : Nat} (h : Q .normal env) : PW ro P (.label l) Q env := fun _ _ _ φ _ _ hr => wpIn_label ⟨env, φ, h, hr⟩
theorem PW.exit {id : Nat} (h : Q (.exit id) env) : PW ro P (.exit id) Q env := fun _ _ _ φ _ _ hr => wpIn_exit ⟨env, φ, h, hr⟩
theorem PW.ret (h : Q .ret env) : PW ro P .ret Q env := fun _ _ _ φ _ _ hr => wpIn_ret ⟨env, φ, h, hr⟩

theorem PW.seq {x y : Code} (h : PW ro P x (andThen (PW ro P y Q) Q) env) : PW ro P (.seq x y) Q env := by
  intro B w0 S0 φ a w hr
  refine wpIn_seq (wpIn_mono (h B w0 S0 φ a w hr) ?_)
  rintro e a' w' ⟨env', φ', hq, hr'⟩
  cases e with
  | normal => exact hq B w0 S0 φ' a' w' hr'
  | _ => exact ⟨env', φ', hq, hr'⟩

theorem PW.block {id : Nat} {c : Code} (h : PW ro P c (inBlock id Q) env) : PW ro P (.block id c) Q env := by
  intro B w0 S0 φ a w hr
  refine wpIn_block (wpIn_mono (h B w0 S0 φ a w hr) ?_)
  rintro e a' w' ⟨env', φ', hq, hr'⟩
  cases e with
  | exit id' =>
    simp only [PW.inBlock] at hq
    simp only [Exit.inBlock]
    split
    · rename_i e; rw [if_pos e] at hq; exact ⟨env', φ', hq, hr'⟩
    · rename_i e; rw [if_neg e] at hq; exact ⟨env', φ', hq, hr'⟩
  | _ => exact ⟨env', φ', hq, hr'⟩

theorem PW.loopOf {σ : Type} {c : Code} (head : σ → Env) (I : σ → Prop) (μ : σ → Nat) (s₀ : σ) (h₀ : env = head s₀) (hI : I s₀)
    (round : ∀ s, I s → PW ro P c (andThen (fun env' => ∃ s', env' = head s' ∧ I s' ∧ μ s' < μ s) Q) (head s)) : PW ro P (.loop c) Q env := by
  intro B w0 S0 φ a w hr
  refine wpIn_loopS (σ := σ) (fun s a w => I s ∧ ∃ φ, Rel B w0 S0 φ (head s) a w) μ s₀ ⟨hI, φ, h₀ ▸ hr⟩ fun s a w hs => ?_
  obtain ⟨hs, φ, hr⟩ := hs
  refine wpIn_mono (round s hs B w0 S0 φ a w hr) ?_
  rintro e a' w' ⟨env', φ', hq, hr'⟩
  cases e with
  | normal =>
    obtain ⟨s', rfl, h1, h2⟩ := hq
    exact ⟨s', ⟨h1, φ', hr'⟩, h2⟩
  | _ => exact ⟨env', φ', hq, hr'⟩

theorem PW.weaken {c : Code} {env' : Env} (hn : env'.nt ≤ env.nt) (ho : env'.objs = env.objs) (ht : ∀ t, get env'.tmps t = get env.tmps t ∨ get env'.tmps t = .dead)
    (h : PW ro P c Q env') (hgs : env'.gs = env.gs := by rfl) (hth : env'.th = env.th := by rfl) : PW ro P c Q env := fun B w0 S0 φ a w hr => h B w0 S0 φ a w (hr.weaken hn ho ht hgs hth)

end
end Go.PW
