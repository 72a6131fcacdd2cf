import Derived.Test.YtbndgoeahoadlaaGreatDoorPwQ
set_option linter.all false
namespace Go.PW
open Go.RowKit

section
variable {ro : Option Nat} {P : Program} {all l : List Oper} {env : Env} {K : Env → Prop} {Q : Exit → Env → Prop}

theorem g9 {o : Oper} {rest : List Oper} {fo : Operand} {xs : Array Operand} {ts : Array TypeId} {f : FuncId} {caps vs : List V} {ds : List D} {r : V} {obs : Obs} (k : Nat)
  (ho : o.op = .call { callee := .value fo, args := xs, argTypes := ts }) (hg : o.guard = none) (hf : E0 (ev env fo) = some (f, caps)) (hvs : xs.toList.map (ev env) ++ caps = vs)
  (hds : vs.map (toD env.objs k) = ds) (hcall : CallOK P f ds r obs) (hok : ∀ v ∈ vs, okD env.objs k v) (hcl : vs.all noO = true ∨ cleanV r = true ∧ obs.all (fun ob => ob.1.all isValD) = true) (hd : l5 env o.dst)
  (h : OW ro P all rest (putO (env.addObs obs) o.dst (r.shift env.objs.length)) K) : OW ro P all (o :: rest) env K := by
 subst hvs; subst hds
 exact OW.call ho hg hf ⟨k, hok, hcall, hcl⟩ hd h

theorem p9 {o : Oper} {rest : List Oper} {fo : Operand} {xs : Array Operand} {ts : Array TypeId} {f : FuncId} {caps vs : List V} {ds : List D} {r : V} {gd : Nat × Bool} {g : Bool} (k : Nat)
  (ho : o.op = .call { callee := .value fo, args := xs, argTypes := ts }) (hg : o.guard = some gd) (hgc : u7 (all.map (·.dst)) env.tmps (some gd) = some g)
  (hf : g = true → E0 (ev (env.under g) fo) = some (f, caps)) (hvs : g = true → xs.toList.map (ev (env.under g)) ++ caps = vs)
  (hds : g = true → vs.map (toD env.objs k) = ds) (hcall : g = true → CallOK P f ds r []) (hok : ∀ v ∈ vs, okD env.objs k v) (hcl : vs.all noO = true ∨ cleanV r = true) (hd : l5 env o.dst)
  (h : OW ro P all rest (putO env o.dst (.guarded g (r.shift env.objs.length))) K) : OW ro P all (o :: rest) env K :=
 OW.callG ho hg hgc hf (fun hgt => by rw [hvs hgt]; exact ⟨k, hok, by rw [show (env.under g).objs = env.objs from rfl, hds hgt]; exact hcall hgt, hcl.imp id fun h => ⟨h, rfl⟩⟩) hd h

theorem o2 {ops : Array Oper} {o : Oper} {rest : List Oper} {fo : Operand} {xs : Array Operand} {ts : Array TypeId} {f : FuncId} {caps vs : List V} {ds : List D} {x : D} (k : Nat)
  (ho : o.op = .call { callee := .value fo, args := xs, argTypes := ts }) (hg : o.guard = none) (hf : E0 (ev env fo) = some (f, caps)) (hvs : xs.toList.map (ev env) ++ caps = vs)
  (hds : vs.map (toD env.objs k) = ds) (hcall : CallOK P f ds (.d x) []) (hok : ∀ v ∈ vs, okD env.objs k v) (hcl : vs.all noO = true ∨ cleanV (.d x) = true) (hd : l5 env o.dst)
  (h : FW P ops rest (putO env o.dst (.d x)) K) : FW P ops (o :: rest) env K := by
 subst hvs; subst hds
 exact FW.call ho hg hf ⟨k, hok, hcall, hcl.imp id fun h => ⟨h, rfl⟩⟩ hd h

theorem FW.callG' {ops : Array Oper} {o : Oper} {rest : List Oper} {fo : Operand} {xs : Array Operand} {ts : Array TypeId} {f : FuncId} {caps vs : List V} {ds : List D} {x : D} {gd : Nat × Bool} {g : Bool} (k : Nat)
  (ho : o.op = .call { callee := .value fo, args := xs, argTypes := ts }) (hg : o.guard = some gd) (hgc : u7 (ops.toList.map (·.dst)) env.tmps (some gd) = some g)
  (hf : g = true → E0 (ev (env.under g) fo) = some (f, caps)) (hvs : g = true → xs.toList.map (ev (env.under g)) ++ caps = vs)
  (hds : g = true → vs.map (toD env.objs k) = ds) (hcall : g = true → CallOK P f ds (.d x) []) (hok : ∀ v ∈ vs, okD env.objs k v) (hcl : vs.all noO = true ∨ cleanV (.d x) = true) (hd : l5 env o.dst)
  (h : FW P ops rest (putO env o.dst (.guarded g (.d x))) K) : FW P ops (o :: rest) env K :=
 FW.callG ho hg hgc hf (fun hgt => by rw [hvs hgt]; exact ⟨k, hok, by rw [hds hgt]; exact hcall hgt, hcl.imp id fun h => ⟨h, rfl⟩⟩) hd h

theorem d6 {id : Nat} (h : ∀ K : Env → Prop, (∀ env', Q .normal env' → K env') → OW ro P l l env K) : PW ro P (.region id l.toArray false) Q env :=
 PW.region (h _ fun _ h => h) fun _ h => h
theorem j4 {id : Nat} (n : Nat) (hm : P.follows .mixedOrders = true) (hB : Region.lexTailB .any l.toArray n = true)
  (h : ∀ K : Env → Prop, (∀ env', Q .normal env' → K env') → FW P l.toArray (l.take n) env fun env' => OW ro P l (l.drop n) env' K) : PW ro P (.region id l.toArray true) Q env :=
 PW.regionDraw n hm hB (h _ fun _ h => h) fun _ h => h
end
attribute [go_sem] Nat.zero_le aggV eqCells leafE ptrB resV E4 PW.pre preA u3 pureA0 buildD allD? isCallB isStopB y8 B7 boxF allocF o5 C2 srcF zerF m6 capF q4 E9 pureF pureG u7 Env.under strip newOb fillV buildF
 boolV pickC Option.isSome_some Option.isSome_none Option.getD_some Option.getD_none Bool.true_eq_false pickF A0 vint binF unF convF loadF F7 F5 fieldF extractF lenF optInt sliceF slice3F indexF minF maxF min3F max3F nilF
 l5 putO Env.put PW.put opF ev PW.get constV r6 cellsOf oneV setMany Value.oneCell' C6 B6 V.kill V.kill.kills Env.addObs V.shift V.shift.shifts andThen inBlock n7 G2
 List.map_cons List.map_nil List.length_cons List.length_nil List.all_cons List.all_nil List.set_cons_zero List.set_cons_succ List.cons_append List.nil_append List.append_nil List.getElem?_cons_zero List.getElem?_cons_succ
 List.drop_zero List.drop_succ_cons List.take_zero List.take_succ_cons List.replicate_succ List.replicate_zero List.getD_cons_succ List.getD_cons_zero sub1 getD_mapI getD_mapV List.length_map List.length_append
 List.zipIdx_cons List.zipIdx_nil true_and and_true Bool.false_eq_true Nat.not_lt_zero Nat.zero_add Nat.mul_one Nat.one_mul Nat.add_zero Nat.succ_ne_zero List.contains_cons List.contains_nil
 Bool.not_or_self beq_true beq_false Bool.or_self Bool.not_eq_eq_eq_not Bool.not_true Bool.not_false Bool.or_true Bool.true_or Bool.or_false Bool.false_or Bool.not_not implies_true Bool.and_true Bool.true_and Int.toNat_natCast Int.natCast_nonneg
end Go.PW
