/- A shallow reading of loaded functions: what a function's text asks of the world, without a frame of slots; and that it suffices for the machine's call. -/
import Derived.WalkKit
import Derived.Orders
set_option linter.unusedVariables false
set_option linter.unusedSimpArgs false
namespace Go.Sh
noncomputable section

/-! ### values of slots -/
abbrev Env := Nat → Value
def upd (e : Env) (t : Nat) (v : Value) : Env := fun s => bif Nat.beq s t then v else e s
def updO (e : Env) (d : Option Nat) (v : Value) : Env := match d with | some t => upd e t v | none => e
def opd (e : Env) : Operand → Value
  | .tmp t => e t
  | .const v => v
  | .global g => .pointer (some ⟨g, 0, none⟩)
  | .func f => .func (.func f) #[] #[]

abbrev K1 := Value → World → Prop
def okV (r : Result Value) (K : K1) : Prop := match r with | .ok v w => K v w | _ => False
def okU (r : Result Unit) (K : K1) : Prop := match r with | .ok _ w => K undef w | _ => False
def okN (P : Program) (r : Result Next) (K : K1) : Prop := match r with
  | .ok (.value v) w => K v w
  | .ok .skip w => K undef w
  | .ok (.enter f args) w => Calls P f args w fun e w' => ∃ v, e = .returned v ∧ K v w'
  | _ => False

/-- What a call comes to, said of what it hands back. -/
def Yld (P : Program) (f : FuncId) (args : Array Value) (w : World) (K : K1) : Prop :=
  Calls P f args w fun e w' => ∃ v, e = .returned v ∧ K v w'

/-! ### the operations -/
structure xPick (c a b : Value) (w : World) (K : K1) : Prop where
  out : match c with | .bool t => K (if t then a else b) w | _ => False
structure xAlloc (P : Program) (t : TypeId) (w : World) (K : K1) : Prop where
  out : okV ((Instr.alloc t true (.tuple #[])).run P w) K
structure xBox (P : Program) (t : TypeId) (v : Value) (w : World) (K : K1) : Prop where
  out : okV ((Instr.box t v).run P w) K
structure xBuild (P : Program) (t : TypeId) (ps : List (Nat × Value)) (w : World) (K : K1) : Prop where
  out : okV ((Instr.build t ps.toArray).run P w) K
structure xBuildSlice (P : Program) (t : TypeId) (n : Nat) (ps : List (Nat × Value)) (w : World) (K : K1) : Prop where
  out : okV ((Instr.buildSlice t n ps.toArray).run P w) K
structure xLoad (P : Program) (t : TypeId) (a : Value) (w : World) (K : K1) : Prop where
  out : okV ((Instr.loadAt t a).run P w) K
structure xStore (P : Program) (t : TypeId) (a x : Value) (w : World) (K : K1) : Prop where
  out : okU ((Instr.storeAt t a x).run P w) K
def cst : Operand → Bool | .const _ => true | _ => false
def cOp (c : Bool) : Operand := if c then .const undef else .tmp 0
structure xBin (P : Program) (op : BinOp) (t : TypeId) (cx : Bool) (x : Value) (cy : Bool) (y : Value) (w : World) (K : K1) : Prop where
  out : okV ((do eqGuard op t (cOp cx) (cOp cy) x y; binOp op t x y : Sem Value).run P w) K
structure xUn (P : Program) (op : UnOp) (x : Value) (w : World) (K : K1) : Prop where
  out : okV ((Op.unary op x).run P w) K
structure xConv (P : Program) (s d : TypeId) (x : Value) (w : World) (K : K1) : Prop where
  out : okV ((convert s d x).run P w) K
structure xMakeIface (P : Program) (t : TypeId) (x : Value) (w : World) (K : K1) : Prop where
  out : okV ((Instr.makeInterface t x).run P w) K
structure xMakeFunc (P : Program) (fn : Fn) (a b : List Value) (w : World) (K : K1) : Prop where
  out : okV ((Instr.makeFunc fn a.toArray b.toArray).run P w) K
structure xMakeMap (P : Program) (t : TypeId) (r : Option Value) (w : World) (K : K1) : Prop where
  out : okV ((Instr.makeMap t r).run P w) K
structure xMakeSlice (P : Program) (t : TypeId) (l c : Value) (w : World) (K : K1) : Prop where
  out : okV ((Instr.makeSlice t l c).run P w) K
structure xSlice (P : Program) (t : TypeId) (x : Value) (lo hi mx : Option Value) (w : World) (K : K1) : Prop where
  out : okV ((Instr.sliceAt t x lo hi mx).run P w) K
structure xFieldAddr (P : Program) (t : TypeId) (x : Value) (f : Nat) (w : World) (K : K1) : Prop where
  out : okV ((Instr.fieldAt t x f).run P w) K
structure xField (P : Program) (t : TypeId) (x : Value) (f : Nat) (w : World) (K : K1) : Prop where
  out : okV ((Instr.field t x f).run P w) K
structure xIndexAddr (P : Program) (t : TypeId) (x i : Value) (w : World) (K : K1) : Prop where
  out : okV ((Instr.indexAt t x i).run P w) K
structure xIndex (P : Program) (t : TypeId) (x i : Value) (w : World) (K : K1) : Prop where
  out : okV ((Instr.index t x i).run P w) K
structure xLookup (P : Program) (t : TypeId) (x i : Value) (ok : Bool) (w : World) (K : K1) : Prop where
  out : okV ((Instr.lookup t x i ok).run P w) K
structure xMapUpdate (P : Program) (t : TypeId) (m k x : Value) (w : World) (K : K1) : Prop where
  out : okU ((Instr.mapUpdate t m k x).run P w) K
structure xMapEntry (P : Program) (t : TypeId) (m k : Value) (w : World) (K : K1) : Prop where
  out : okV ((Instr.mapEntry t m k).run P w) K
structure xEntryStore (P : Program) (t : TypeId) (m s x : Value) (w : World) (K : K1) : Prop where
  out : okU ((Instr.entryStore t m s x).run P w) K
structure xRange (P : Program) (t : TypeId) (x : Value) (w : World) (K : K1) : Prop where
  out : okV ((Instr.range t x).run P w) K
structure xNext (P : Program) (it : Value) (s : Bool) (ty : TypeId) (w : World) (K : K1) : Prop where
  out : okV ((Instr.next it s ty).run P w) K
structure xEntry (P : Program) (it : Value) (w : World) (K : K1) : Prop where
  out : okV ((Instr.entry it).run P w) K
structure xExtract (P : Program) (t : Value) (i : Nat) (w : World) (K : K1) : Prop where
  out : okV ((Instr.extract t i).run P w) K
structure xNilCheck (x : Value) (w : World) (K : K1) : Prop where
  out : match x with
    | .pointer (some _) => K x w
    | _ => False
structure xBuiltin (P : Program) (b : Builtin) (ats : Array TypeId) (ty : TypeId) (cs : List Bool) (args : List Value) (w : World) (K : K1) : Prop where
  out : okN P ((builtin b ats ty cs.toArray args.toArray).run P w) K
structure xCall (P : Program) (f : Value) (args : List Value) (w : World) (K : K1) : Prop where
  out : okN P ((do let d ← Deferred.ofValue f args.toArray; invoke d.target d.args : Sem Next).run P w) K

/-- One operation, its operands looked up. -/
def vcOp (P : Program) (e : Env) (op : Op) (ty : TypeId) (w : World) (K : K1) : Prop := match op with
  | .move x | .assign x => K (opd e x) w
  | .pick c a b => xPick (opd e c) (opd e a) (opd e b) w K
  | .alloc t => xAlloc P t w K
  | .box t x => xBox P t (opd e x) w K
  | .build t ps => xBuild P t (ps.toList.map fun p => (p.1, opd e p.2)) w K
  | .buildSlice t n ps => xBuildSlice P t n (ps.toList.map fun p => (p.1, opd e p.2)) w K
  | .load t a => xLoad P t (opd e a) w K
  | .store t a x => xStore P t (opd e a) (opd e x) w K
  | .binOp op t x y _ => xBin P op t (cst x) (opd e x) (cst y) (opd e y) w K
  | .unOp op _ x => xUn P op (opd e x) w K
  | .convert s d x => xConv P s d (opd e x) w K
  | .makeInterface t x => xMakeIface P t (opd e x) w K
  | .makeFunc fn a b => xMakeFunc P fn (a.toList.map (opd e)) (b.toList.map (opd e)) w K
  | .makeMap t r => xMakeMap P t (r.map (opd e)) w K
  | .makeSlice t l c => xMakeSlice P t (opd e l) (opd e c) w K
  | .slice t x lo hi mx => xSlice P t (opd e x) (lo.map (opd e)) (hi.map (opd e)) (mx.map (opd e)) w K
  | .fieldAddr t x f => xFieldAddr P t (opd e x) f w K
  | .field t x f => xField P t (opd e x) f w K
  | .indexAddr t x i => xIndexAddr P t (opd e x) (opd e i) w K
  | .index t x i => xIndex P t (opd e x) (opd e i) w K
  | .lookup t x i ok => xLookup P t (opd e x) (opd e i) ok w K
  | .mapUpdate t m k x | .insert t m k x => xMapUpdate P t (opd e m) (opd e k) (opd e x) w K
  | .mapEntry t m k => xMapEntry P t (opd e m) (opd e k) w K
  | .entryStore t m s x => xEntryStore P t (opd e m) (opd e s) (opd e x) w K
  | .range t x => xRange P t (opd e x) w K
  | .next it s => xNext P (opd e it) s ty w K
  | .entry it => xEntry P (opd e it) w K
  | .extract t i => xExtract P (opd e t) i w K
  | .nilCheck x => xNilCheck (opd e x) w K
  | .call { callee := .builtin b, args, argTypes } => xBuiltin P b argTypes ty (args.toList.map cst) (args.toList.map (opd e)) w K
  | .call { callee := .value f, args, argTypes := _ } => xCall P (opd e f) (args.toList.map (opd e)) w K
  | _ => False

/-- An operation under a guard: passed over where the guard says no. -/
structure xGuard (c : Value) (want : Bool) (run : World → K1 → Prop) (w : World) (K : K1) : Prop where
  out : match c with
    | .bool b => if b == want then run w K else K undef w
    | _ => K undef w
def guardVal (ops : Array Oper) (e : Env) (j : Nat) : Value := match (ops[j]?).bind (·.dst) with | some t => e t | none => undef
def vcO (P : Program) (ops : Array Oper) (e : Env) (o : Oper) (w : World) (K : K1) : Prop := match o.guard with
  | none => vcOp P e o.op o.type w K
  | some (j, want) => xGuard (guardVal ops e j) want (fun w K => vcOp P e o.op o.type w K) w K
def vcOps (P : Program) (ops : Array Oper) (l : List Oper) : Env → World → (Env → World → Prop) → Prop :=
  List.rec (motive := fun _ => Env → World → (Env → World → Prop) → Prop) (fun e w k => k e w)
    (fun o _ ih e w k => vcO P ops e o w fun v w => ih (updO e o.dst v) w k) l

/-! ### a region whose order is open: its operations one behind the other, each at all worlds that the others may leave -/
structure xDet (le : World → World → Prop) (H : World → Prop) (run : World → K1 → Prop) (next : Value → Prop) : Prop where
  out : ∃ x, (∀ w, H w → run w fun v w' => v = x ∧ le w w') ∧ next x
structure xNon (le : World → World → Prop) (H : World → Prop) (run : World → K1 → Prop) (next : Value → (World → Prop) → Prop) : Prop where
  out : ∃ V : Value → World → Prop, (∀ v w w', V v w → le w w' → V v w') ∧ (∀ w, H w → run w fun v w' => V v w' ∧ le w w') ∧ ∀ v, next v (V v)
structure xEnd (H : World → Prop) (k : World → Prop) : Prop where
  out : ∀ w, H w → k w
structure xDraw (w0 : World) (body : (World → World → Prop) → (World → Prop) → Prop) : Prop where
  out : ∃ le : World → World → Prop, (∀ w, le w w) ∧ (∀ a b c, le a b → le b c → le a c) ∧ body le (le w0)
def vcChain (P : Program) (ops : Array Oper) (le : World → World → Prop) (k : Env → World → Prop) (l : List (Nat × Bool)) : Env → (World → Prop) → Prop :=
  List.rec (motive := fun _ => Env → (World → Prop) → Prop) (fun e H => xEnd H (k e))
    (fun p rest ih e H => match ops[p.1]? with
      | none => False
      | some o => bif p.2 then (match rest with
          | [] => xEnd H fun w => vcO P ops e o w fun v w' => k (updO e o.dst v) w'
          | _ :: _ => xNon le H (fun w K => vcO P ops e o w K) fun v h => ih (updO e o.dst v) fun w => H w ∧ h w)
        else xDet le H (fun w K => vcO P ops e o w K) fun x => ih (updO e o.dst x) H) l

def mix (D : List Nat) (u e : Env) : Env := fun t => bif D.contains t then u t else e t

/-! ### the same by a plan: rows of operations (strands), each of which ends in a value that is the same in any order; what lies between may be open -/
structure xStr (chain : (Value → Prop) → Prop) (next : Value → Prop) : Prop where
  out : ∃ x, chain (fun v => v = x) ∧ next x
structure xEndU (E : Env → World → Prop) (k : Env → World → Prop) : Prop where
  out : ∀ u w, E u w → k u w
/-- the last of a row: what its value and the world behind it are -/
structure xLast (le : World → World → Prop) (H : World → Prop) (run : World → K1 → Prop) (N : Value → World → Prop) : Prop where
  out : ∀ w, H w → run w fun v w' => N v w' ∧ le w w'
/-- a row whose value is fixed, and that leaves something behind it that stays -/
structure xStrV (le : World → World → Prop) (chain : (Value → World → Prop) → Prop) (next : Value → (World → Prop) → Prop) : Prop where
  out : ∃ (x : Value) (V : World → Prop), (∀ w w', V w → le w w' → V w') ∧ (chain fun v w => v = x ∧ V w) ∧ next x V
/-- a row whose value is open till the end -/
structure xOpn (le : World → World → Prop) (chain : (Value → World → Prop) → Prop) (next : (Value → World → Prop) → Prop) : Prop where
  out : ∃ V : Value → World → Prop, (∀ v w w', V v w → le w w' → V v w') ∧ chain V ∧ next V
structure Plan where
  items : List (List Nat)
  tail : List Nat
  inner : List Nat
  kinds : List (Nat × Nat) := []
def kindL (l : List (Nat × Nat)) (j : Nat) : Nat := List.rec (motive := fun _ => Nat) 0 (fun p _ ih => bif Nat.beq p.1 j then p.2 else ih) l
def lastD (l : List Nat) : Nat := List.rec (motive := fun _ => Nat) 0 (fun j rest ih => match rest with | [] => j | _ :: _ => ih) l
def dstO (ops : Array Oper) (j : Nat) : Option Nat := match ops[j]? with | none => none | some o => o.dst
def slotV (u : Env) (d : Option Nat) : Value := match d with | none => undef | some t => u t
def vcSeq (P : Program) (ops : Array Oper) (le : World → World → Prop) (l : List Nat) : Env → (World → Prop) → (Value → Prop) → Prop :=
  List.rec (motive := fun _ => Env → (World → Prop) → (Value → Prop) → Prop) (fun _ _ _ => False)
    (fun j rest ih e H N => match ops[j]? with
      | none => False
      | some o => match rest with
        | [] => xDet le H (fun w K => vcO P ops e o w K) N
        | _ :: _ => xNon le H (fun w K => vcO P ops e o w K) fun v h => ih (updO e o.dst v) (fun w => H w ∧ h w) N) l
def vcSeqG (P : Program) (ops : Array Oper) (le : World → World → Prop) (l : List Nat) : Env → (World → Prop) → (Value → World → Prop) → Prop :=
  List.rec (motive := fun _ => Env → (World → Prop) → (Value → World → Prop) → Prop) (fun _ _ _ => False)
    (fun j rest ih e H N => match ops[j]? with
      | none => False
      | some o => match rest with
        | [] => xLast le H (fun w K => vcO P ops e o w K) N
        | _ :: _ => xNon le H (fun w K => vcO P ops e o w K) fun v h => ih (updO e o.dst v) (fun w => H w ∧ h w) N) l
def vcTail (P : Program) (ops : Array Oper) (k : Env → World → Prop) (l : List Nat) : Env → World → Prop :=
  List.rec (motive := fun _ => Env → World → Prop) (fun e w => k e w)
    (fun j _ ih e w => match ops[j]? with
      | none => False
      | some o => vcO P ops e o w fun v w => ih (updO e o.dst v) w) l
def vcPlan (P : Program) (ops : Array Oper) (le : World → World → Prop) (k : Env → World → Prop) (inner tail : List Nat) (kd : List (Nat × Nat)) (l : List (List Nat)) : Env → (World → Prop) → (Env → World → Prop) → Prop :=
  List.rec (motive := fun _ => Env → (World → Prop) → (Env → World → Prop) → Prop) (fun e H E => xEndU E fun u w => vcTail P ops k tail (mix inner u e) w)
    (fun s _ ih e H E => match s with
      | [] => False
      | j :: r => bif Nat.beq (kindL kd (lastD (j :: r))) 0 then
            (match r with
            | [] => (match ops[j]? with
              | none => False
              | some o => xDet le H (fun w K => vcO P ops e o w K) fun x => ih (updO e o.dst x) H E)
            | _ :: _ => xStr (fun N => vcSeq P ops le (j :: r) e H N) fun x => ih (updO e (dstO ops (lastD (j :: r))) x) H E)
          else bif Nat.beq (kindL kd (lastD (j :: r))) 2 then xOpn le (fun N => vcSeqG P ops le (j :: r) e H N) fun V => ih e H fun u w => E u w ∧ V (slotV u (dstO ops (lastD (j :: r)))) w
          else xStrV le (fun N => vcSeqG P ops le (j :: r) e H N) fun x V => ih (updO e (dstO ops (lastD (j :: r))) x) H fun u w => E u w ∧ V w) l

/-! ### the same, one behind the other, where what the others may do is asked again: readers as early as may be, behind each operation that changes something the readers that may still come -/
structure xSq (w : World) (body : World → Prop) : Prop where
  out : body w
/-- a value that is the same at all worlds -/
structure xPur (w0 : World) (run : World → K1 → Prop) (next : Value → Prop) : Prop where
  out : ∃ x, (∀ w, run w fun v w' => v = x ∧ w' = w) ∧ next x
/-- a value that is read off a world -/
structure xRd (w : World) (run : K1 → Prop) (next : Value → Prop) : Prop where
  out : ∃ x, (run fun v w' => v = x ∧ w' = w) ∧ next x
/-- read again, it is the same -/
structure xRe (w : World) (run : K1 → Prop) (x : Value) (next : Prop) : Prop where
  out : (run fun v w' => v = x ∧ w' = w) ∧ next
/-- either may come first -/
structure xAlt (A B : Prop) : Prop where
  out : A ∧ B
inductive Sq where
  | done
  | rd (p : Bool) (i : Nat) (t : Sq)
  | ef (i : Nat) (re : List Nat) (t : Sq)
  | alt (a b : Sq)
def vcRe (P : Program) (ops : Array Oper) (e : Env) (w : World) (next : Prop) (l : List Nat) : Prop :=
  List.rec (motive := fun _ => Prop) next (fun j _ ih => match ops[j]? with
    | none => False
    | some o => xRe w (fun K => vcO P ops e o w K) (slotV e o.dst) ih) l
def vcSq (P : Program) (ops : Array Oper) (k : Env → World → Prop) (t : Sq) : Env → World → Prop :=
  Sq.rec (motive := fun _ => Env → World → Prop) (fun e w => k e w)
    (fun p i _ ih e w => match ops[i]? with
      | none => False
      | some o => bif p then xPur w (fun w K => vcO P ops e o w K) fun x => ih (updO e o.dst x) w
        else xRd w (fun K => vcO P ops e o w K) fun x => ih (updO e o.dst x) w)
    (fun i re _ ih e w => match ops[i]? with
      | none => False
      | some o => vcO P ops e o w fun v w => vcRe P ops (updO e o.dst v) w (ih (updO e o.dst v) w) re)
    (fun _ _ iha ihb e w => xAlt (iha e w) (ihb e w)) t

/-! ### code -/
structure xIf (c : Value) (A B : Prop) : Prop where
  out : match c with | .bool b => if b then A else B | _ => False
structure xLoop (vs : List Value) (w0 : World) (S : List Nat) (B : Env → World → (List Value → World → Prop) → Prop) : Prop where
  out : ∃ (I : List Value → World → Prop) (μ : List Value → World → Nat), I vs w0 ∧
      ∀ (u : Env) (w : World), I (S.map u) w → B u w fun vs' w' => I vs' w' ∧ μ vs' w' < μ (S.map u) w

def dsts : Code → List Nat
  | .region _ ops _ => ops.toList.filterMap (·.dst)
  | .seq a b | .cond _ a b => dsts a ++ dsts b
  | .block _ c | .loop c => dsts c
  | _ => []

/-- Of an operation: the operations that it waits for, the slots that it looks at or writes, as numbers' bits; the slot that it writes. -/
structure Row where
  dep : Nat
  look : Nat
  dst : Option Nat
def ordOf (t : List (Nat × Bool × Row)) : List (Nat × Bool) := List.rec (motive := fun _ => List (Nat × Bool)) [] (fun p _ ih => (p.1, p.2.1) :: ih) t
/-- What a call's text is told beside its code: of each loop (by its block) the slots that it bears from round to round; of each drawn region (by its number) an order, and a plan, if there is one. -/
structure Ann where
  loop : Nat → List Nat
  wr : Nat → List Nat
  told : Nat → List (Nat × Bool × Row)
  plan : Nat → Option Plan := fun _ => none
  sq : Nat → Option Sq := fun _ => none

abbrev Q1 := Exit → Env → World → Prop
def qThen (k : Env → World → Prop) (Q : Q1) : Q1 := fun x e w => match x with | .normal => k e w | x => Q x e w
def qBlock (id : Nat) (Q : Q1) : Q1 := fun x e w => match x with
  | .exit j => bif Nat.beq j id then Q .normal e w else Q (.exit j) e w
  | x => Q x e w

def vc (P : Program) (A : Ann) : Nat → Code → Env → World → Q1 → Prop
  | _, .skip, e, w, Q => Q .normal e w
  | cur, .seq a b, e, w, Q => vc P A cur a e w (qThen (fun e w => vc P A cur b e w Q) Q)
  | cur, .cond c a b, e, w, Q => xIf (opd e c) (vc P A cur a e w Q) (vc P A cur b e w Q)
  | _, .block id c, e, w, Q => vc P A id c e w (qBlock id Q)
  | cur, .loop c, e, w, Q => xLoop ((A.loop cur).map e) w (A.loop cur) fun u w nxt =>
      vc P A cur c (mix (A.wr cur) u e) w (qThen (fun e w => nxt ((A.loop cur).map e) w) Q)
  | _, .exit id, e, w, Q => Q (.exit id) e w
  | _, .region _ ops false, e, w, Q => vcOps P ops ops.toList e w (Q .normal)
  | _, .region id ops true, e, w, Q => match A.sq id with
    | some s => xSq w.drew fun w => vcSq P ops (Q .normal) s e w
    | none => match A.plan id with
    | none => xDraw w.drew fun le H => vcChain P ops le (Q .normal) (ordOf (A.told id)) e H
    | some p => xDraw w.drew fun le H => vcPlan P ops le (Q .normal) p.inner p.tail p.kinds p.items e H fun _ w => H w
  | _, .ret, e, w, Q => Q .ret e w
  | _, _, _, _, _ => False

end
end Go.Sh
