/-
  The parser as functions on words: pure. Trees are rows of cells: generic.
-/
import Derived.Test.YtkblonfmjlopaaaGreatDoorLxTok
set_option linter.all false
set_option maxRecDepth 1000000
set_option maxHeartbeats 16000000
namespace Go.Proofs.YtkblonfmjlopaaaGreatDoor
section
open Go
inductive Tr where
  | v (x : Value)
  | big (z : Int)
  | sl (es : List (List Tr))
abbrev Nd := List Tr
abbrev Byt := List UInt8
def vI (n : Int) : Tr := .v (.int .i64 n)
def vU (n : Nat) : Tr := .v (.int .u64 (n : Nat))
def vS (l : Byt) : Tr := .v (.string ⟨l.toArray⟩)
def vB (b : Bool) : Tr := .v (.bool b)
def strs (l : List Byt) : List Nd := l.map fun x => [vS x]
def mkTy (kind : Int) (name : Byt) (args : List Nd) (labels : List Byt) : Nd := [vI kind, vS name, .sl args, .sl (strs labels)]
def mkPat (kind : Int) (name : Byt) (z : Int) (n : Int) (text : Byt) (labels : List Byt) (kids types : List Nd) : Nd := [vI kind, vS name, .big z, vI n, vS text, .sl (strs labels), .sl kids, .sl types]
def mkExp (kind : Int) (name : Byt) (z : Int) (n : Int) (bits : Nat) (text : Byt) (labels : List Byt) (kids rules decs types : List Nd) : Nd :=
  [vI kind, vS name, .big z, vI n, vU bits, vS text, .sl (strs labels), .sl kids, .sl rules, .sl decs, .sl types]
def mkClause (pats : List Nd) (e : Nd) : Nd := .sl pats :: e
def mkFun (name : Byt) (many : Int) (clauses : List Nd) : Nd := [vS name, vI many, .sl clauses]
structure DecF where
  kind : Int
  name : Byt := []
  names : List Byt := []
  n : Int := 0
  right : Bool := false
  opq : Bool := false
  pats : List Nd := []
  exps : List Nd := []
  funs : List Nd := []
  datas : List Nd := []
  types : List Nd := []
  decs : List Nd := []
  sigs : List Nd := []
  specs : List Nd := []
def mkDec (d : DecF) : Nd := [vI d.kind, vS d.name, .sl (strs d.names), vI d.n, vB d.right, vB d.opq, .sl d.pats, .sl d.exps, .sl d.funs, .sl d.datas, .sl d.types, .sl d.decs, .sl d.sigs, .sl d.specs]
/-! ### The reader -/
structure Fx where
  name : Byt
  level : Int
  right : Bool
structure PSt where
  i : Nat
  sc : List Fx
def PM (α : Type) : Type := PSt → Option (Except (Nat × Nat) (α × PSt))
def PM.ret {α : Type} (a : α) : PM α := fun s => some (.ok (a, s))
def PM.bind {α β : Type} (x : PM α) (f : α → PM β) : PM β := fun s =>
  match x s with
  | none => none
  | some (.error e) => some (.error e)
  | some (.ok (a, s')) => f a s'
instance : Monad PM where
  pure := PM.ret
  bind := PM.bind
def PM.none {α : Type} : PM α := fun _ => Option.none
def PM.get : PM PSt := fun s => some (.ok (s, s))
structure Tx where
  ts : List Tok
  en : Nat
def tok0 : Tok := ⟨0, [], 0, 0, 0, 0⟩
section
variable (X : Tx)
def nextS (s : PSt) : Tok := X.ts[s.i]?.getD tok0
def next : PM Tok := fun s => some (.ok (nextS X s, s))
def step1 : PM Unit := fun s => some (.ok ((), { s with i := s.i + 1 }))
def wrong {α : Type} : PM α := fun s => some (.error (match X.ts[s.i]? with | some t => (40, t.pos) | none => (31, X.en)))
def seesS (l : List Byt) (s : PSt) : Bool := (nextS X s).kind == 8 && l.contains (nextS X s).text
def sees (l : List Byt) : PM Bool := fun s => some (.ok (seesS X l s, s))
def takes (w : Byt) : PM Bool := fun s => if seesS X [w] s = true then some (.ok (true, { s with i := s.i + 1 })) else some (.ok (false, s))
def needs (w : Byt) : PM Unit := do
  let t ← takes X w
  if t then pure () else wrong X
def dotted (l : Byt) : Bool := l.contains 46
def shortP (symbols : Bool) (s : PSt) : Bool :=
  (nextS X s).kind == 1 && !dotted (nextS X s).text || symbols && ((nextS X s).kind == 2 || seesS X [[61]] s)
def pshort (symbols : Bool) : PM Bool := fun s => some (.ok (shortP X symbols s, s))
def name (symbols : Bool) : PM Byt := fun s => if shortP X symbols s = true then some (.ok ((nextS X s).text, { s with i := s.i + 1 })) else wrong X s
def listL {σ : Type} (by_ : Byt) (one : σ → PM (Nd × σ)) : Nat → List Nd → σ → PM (List Nd × σ)
  | 0, _, _ => PM.none
  | n + 1, acc, x => do
    let t ← takes X by_
    if t then do
      let r ← one x
      listL by_ one n (acc ++ [r.1]) r.2
    else pure (acc, x)
def list {σ : Type} (n : Nat) (by_ : Byt) (one : σ → PM (Nd × σ)) (x : σ) : PM (List Nd × σ) := do
  let r ← one x
  listL X by_ one n [r.1] r.2
def upTo {σ : Type} (n : Nat) (fin : Byt) (one : σ → PM (Nd × σ)) (x : σ) : PM (List Nd × σ) := do
  let t ← takes X fin
  if t then pure ([], x) else do
    let l ← list X n [44] one x
    needs X fin
    pure l
def lone (one : PM Nd) : Unit → PM (Nd × Unit) := fun _ => do
  let a ← one
  pure (a, ())
def listU (n : Nat) (by_ : Byt) (one : PM Nd) : PM (List Nd) := do
  let r ← list X n by_ (lone one) ()
  pure r.1
def upToU (n : Nat) (fin : Byt) (one : PM Nd) : PM (List Nd) := do
  let r ← upTo X n fin (lone one) ()
  pure r.1
def findS (sc : List Fx) (nm : Byt) : Option Fx := (sc.reverse.find? fun f => f.name == nm)
def opS (sc : List Fx) (nm : Byt) : Bool := match findS sc nm with | some f => decide (0 ≤ f.level) | none => false
def setAll (l : List Byt) (level : Int) (right : Bool) : PM Unit := fun s => some (.ok ((), { s with sc := s.sc ++ l.map fun n => ⟨n, level, right⟩ }))
def tyvar : PM Byt := fun s => if (nextS X s).kind = 3 then some (.ok ((nextS X s).text, { s with i := s.i + 1 })) else wrong X s
def longId : PM Byt := fun s => if (nextS X s).kind = 1 then some (.ok ((nextS X s).text, { s with i := s.i + 1 })) else wrong X s
def decB (n : Nat) : Byt := Lib.itoa (n : Nat)
def labels (n : Nat) : List Byt := (List.range n).map fun i => decB (i + 1)
def texts (l : List Nd) : List Byt := l.map fun r => match r with | [.v (.string b)] => b.data.toList | _ => []
def namesL : Nat → List Byt → PM (List Byt)
  | 0, _ => PM.none
  | n + 1, acc => do
    let t ← pshort X true
    if t then do
      let a ← name X true
      namesL n (acc ++ [a])
    else pure acc
def names (n : Nat) : PM (List Byt) := do
  let a ← name X true
  namesL X n [a]
def vars (n : Nat) : PM (List Byt) := do
  let t ← next X
  if t.kind = 3 then do
    let a ← tyvar X
    pure [a]
  else do
    let o ← takes X [40]
    if o then do
      let l ← listU X n [44] (do let a ← tyvar X; pure [vS a])
      needs X [41]
      pure (texts l)
    else pure []
/-! ### Types -/
structure Fs where
  ty : PM Nd
  pat : PM Nd
  exp : PM Nd
  decs : Bool → PM (List Nd)
  climbP : Int → Bool → PM Nd
  climbE : Int → Bool → PM Nd
  either : PM Nd
  both : PM Nd
  trec : List Byt → PM (Nd × List Byt)
  prec : List Byt → PM (Nd × List Byt)
  erec : List Byt → PM (Nd × List Byt)
  mtch : PM (List Nd)
  data : PM Nd
  strc : PM Nd
  specs : PM (List Nd)
  vars : PM (List Byt)
  hd : Byt → PM Nd
  atm : Byt → PM Nd
  apt : Byt → PM Nd
  psq : Nd → PM Nd
  ptp : Nd → PM Nd
  ptu : List Nd → PM Nd
  nms : PM (List Byt)
  dcl : Byt → PM Nd
  asp : Byt → PM Nd
variable (f : Fs) (n : Nat)
def appliedL : Nat → List Nd → PM (List Nd)
  | 0, _ => PM.none
  | n + 1, l => do
    let t ← next X
    if t.kind = 1 then do
      let a ← longId X
      appliedL n [mkTy 2 a l []]
    else pure l
def applied : PM Nd := do
  let t ← next X
  let l ← (if t.kind = 3 then (do let a ← tyvar X; pure [mkTy 1 a [] []])
    else if t.kind = 1 then (do let a ← longId X; pure [mkTy 2 a [] []])
    else do
      let o ← takes X [40]
      if o then do
        let l ← listU X n [44] f.ty
        needs X [41]
        pure l
      else do
        needs X [123]
        let r ← upTo X n [125] f.trec []
        pure [mkTy 4 [] r.1 r.2])
  let l ← appliedL X n l
  match l with
  | [a] => pure a
  | _ => wrong X
/-! ### Patterns -/
def operandS (s : PSt) : Bool := ((nextS X s).kind == 1 || (nextS X s).kind == 2) && !opS s.sc (nextS X s).text
def atomicS (s : PSt) : Bool := (nextS X s).kind == 4 || (nextS X s).kind == 6 || (nextS X s).kind == 7 || operandS X s || seesS X [[95], [40], [91], [123], [111, 112]] s
def named (l : Byt) : Nd := if dotted l = true then mkPat 6 l 0 0 [] [] [] [] else mkPat 2 l 0 0 [] [] [] []
def atpat : PM Nd := fun s =>
  if atomicS X s = true then
    let t := nextS X s
    (if t.kind = 4 then pure (mkPat 3 [] t.num 0 [] [] [] [])
    else if t.kind = 6 then pure (mkPat 4 [] 0 t.n [] [] [] [])
    else if t.kind = 7 then pure (mkPat 5 [] 0 0 t.text [] [] [])
    else if t.kind = 8 then
      (if t.text = [40] then (do
        let l ← upToU X n [41] f.pat
        match l with
        | [a] => pure a
        | _ => f.ptu l)
      else if t.text = [91] then (do
        let l ← upToU X n [93] f.pat
        pure (mkPat 10 [] 0 0 [] [] l []))
      else f.apt t.text)
    else pure (named t.text) : PM Nd) { s with i := s.i + 1 }
  else wrong X s
def patApp : PM Nd := fun s =>
  let t := nextS X s
  (do
    let x ← atpat X f n
    let s' ← PM.get
    if (t.kind = 1 ∨ t.kind = 2 ∨ t.kind = 8 ∧ t.text = [111, 112]) ∧ atomicS X s' = true then do
      let y ← atpat X f n
      pure (mkPat 6 (match x with | _ :: .v (.string b) :: _ => b.data.toList | _ => []) 0 0 [] [] [y] [])
    else pure x : PM Nd) s
def typedPL : Nat → Nd → PM Nd
  | 0, _ => PM.none
  | n + 1, x => do
    let o ← takes X [58]
    if o then do
      let t ← f.ty
      typedPL n (mkPat 9 [] 0 0 [] [] [x] [t])
    else pure x
def asNext (s : PSt) : Bool := match X.ts[s.i + 1]? with | some u => u.kind == 8 && u.text == [97, 115] | none => false
def patS : PM Nd := fun s =>
  let t := nextS X s
  (do
    let x ← (if (t.kind = 1 ∧ shortP X false s = true) ∧ asNext X s = true then f.asp t.text else f.climbP 0 false : PM Nd)
    typedPL X f n x : PM Nd) s
def climbL (level : Int) (must equals : Bool) (again : Int → Bool → PM Nd) (two : Byt → Nd → Nd → Nd) : Nat → Nd → Int × Bool → PM Nd
  | 0, _, _ => PM.none
  | n + 1, a, last => fun s =>
    let t := nextS X s
    if ¬ (t.kind = 1 ∨ t.kind = 2 ∨ equals = true ∧ seesS X [[61]] s = true) then some (.ok (a, s))
    else match findS s.sc t.text with
      | none => some (.ok (a, s))
      | some g =>
        if g.level < 0 ∨ g.level < level then some (.ok (a, s))
        else if 1000 ≤ g.level then none
        else if g.level = last.1 ∧ g.right ≠ last.2 ∨ must = true ∧ g.level = level ∧ g.right = false then some (.error (41, t.pos))
        else (do
          step1
          let b ← again (if g.right then g.level else g.level + 1) g.right
          climbL level must equals again two n (two t.text a b) (g.level, g.right) : PM Nd) s
def twoP (nm : Byt) (a b : Nd) : Nd := mkPat 6 nm 0 0 [] [] [mkPat 7 [] 0 0 [] (labels 2) [a, b] []] []
def climbPS (level : Int) (must : Bool) : PM Nd := do
  let a ← patApp X f n
  climbL X level must false f.climbP twoP n a (10, false)
/-! ### Expressions -/
def eVar (nm : Byt) : Nd := mkExp 5 nm 0 0 0 [] [] [] [] [] []
def eKids (kind : Int) (kids : List Nd) : Nd := mkExp kind [] 0 0 0 [] [] kids [] [] []
def startsS (s : PSt) : Bool := (nextS X s).kind == 4 || (nextS X s).kind == 5 || (nextS X s).kind == 6 || (nextS X s).kind == 7 || operandS X s || seesS X [[40], [91], [123], [111, 112], [108, 101, 116], [35]] s
def heads : List Byt := [[114, 97, 105, 115, 101], [105, 102], [119, 104, 105, 108, 101], [99, 97, 115, 101], [102, 110]]
def paren : PM Nd := do
  let o ← takes X [41]
  if o then pure (eKids 6 []) else do
    let e ← f.exp
    let semi ← takes X [59]
    let r ← (if semi then f.psq e
      else do
        let com ← takes X [44]
        if com then f.ptp e else pure e)
    needs X [41]
    pure r
def atom : PM Nd := fun s =>
  if startsS X s = true then
    let t := nextS X s
    (if t.kind = 4 then pure (mkExp 1 [] t.num 0 0 [] [] [] [] [] [])
    else if t.kind = 5 then pure (mkExp 2 [] 0 0 t.bits [] [] [] [] [] [])
    else if t.kind = 6 then pure (mkExp 3 [] 0 t.n 0 [] [] [] [] [] [])
    else if t.kind = 7 then pure (mkExp 4 [] 0 0 0 t.text [] [] [] [] [])
    else if t.kind = 8 then (if t.text = [40] then paren X f else f.atm t.text)
    else pure (eVar t.text) : PM Nd) { s with i := s.i + 1 }
  else wrong X s
def appL : Nat → Nd → PM Nd
  | 0, _ => PM.none
  | m + 1, a => fun s =>
    if startsS X s = true then (do
      let b ← atom X f
      appL m (eKids 8 [a, b]) : PM Nd) s
    else some (.ok (a, s))
def app : PM Nd := do
  let a ← atom X f
  appL X f n a
def twoE (nm : Byt) (a b : Nd) : Nd := eKids 8 [eVar nm, mkExp 6 [] 0 0 0 [] (labels 2) [a, b] [] [] []]
def climbES (level : Int) (must : Bool) : PM Nd := do
  let a ← app X f n
  climbL X level must true f.climbE twoE n a (10, false)
def typedEL : Nat → Nd → PM Nd
  | 0, _ => PM.none
  | n + 1, x => do
    let o ← takes X [58]
    if o then do
      let t ← f.ty
      typedEL n (mkExp 19 [] 0 0 0 [] [] [x] [] [] [t])
    else pure x
def typedS : PM Nd := do
  let e ← f.climbE 0 false
  typedEL X f n e
def ahead : PM Nd := fun s =>
  let w := (nextS X s).text
  (if w = [114, 97, 105, 115, 101] then (do let a ← f.exp; pure (eKids 15 [a])) else f.hd w : PM Nd) { s with i := s.i + 1 }
def restS (word : Byt) (kind : Int) (one again : PM Nd) : PM Nd := do
  let a ← one
  let o ← takes X word
  if o then do
    let h ← sees X heads
    if h then do
      let b ← ahead X f
      pure (eKids kind [a, b])
    else do
      let b ← again
      pure (eKids kind [a, b])
  else pure a
def eitherS : PM Nd := restS X f [111, 114, 101, 108, 115, 101] 18 f.both f.either
def bothS : PM Nd := restS X f [97, 110, 100, 97, 108, 115, 111] 17 (typedS X f n) f.both
def handleL : Nat → Nd → PM Nd
  | 0, _ => PM.none
  | m + 1, e => do
    let o ← takes X [104, 97, 110, 100, 108, 101]
    if o then do
      let r ← f.mtch
      handleL m (mkExp 16 [] 0 0 0 [] [] [e] r [] [])
    else pure e
def expS : PM Nd := do
  let h ← sees X heads
  if h then ahead X f else do
    let e ← f.either
    handleL X f n e
/-! ### Declarations -/
def clausePats : Nat → List Nd → PM (List Nd)
  | 0, _ => PM.none
  | m + 1, l => fun s =>
    if atomicS X s = true then (do
      let x ← atpat X f n
      clausePats m (l ++ [x]) : PM (List Nd)) s
    else some (.ok (l, s))
def clauseS (k : Byt × Int) : PM (Nd × (Byt × Int)) := do
  let _ ← takes X [111, 112]
  let s ← PM.get
  if ¬ k.1 = [] ∧ shortP X true s = true ∧ ¬ (nextS X s).text = k.1 then wrong X else do
    let a ← name X true
    let l ← clausePats X f n n []
    if l = [] ∨ ¬ k.1 = [] ∧ ¬ (l.length : Int) = k.2 then wrong X else do
      let o ← takes X [58]
      let t ← (if o then (do let t ← f.ty; pure [t]) else pure [] : PM (List Nd))
      needs X [61]
      let e ← f.exp
      pure (mkClause l (if o then mkExp 19 [] 0 0 0 [] [] [e] [] [] t else e), (a, (l.length : Int)))
def funS : PM Nd := do
  let r ← list X n [124] (clauseS X f n) ([], 0)
  pure (mkFun r.2.1 r.2.2 r.1)
def levelS : PM Int := fun s =>
  let t := nextS X s
  if t.kind = 4 then (if t.text.length = 1 then some (.ok ((((t.text[0]?.getD 0).toNat : Int) - 48), { s with i := s.i + 1 })) else wrong X s) else some (.ok (0, s))
def decS (w : Byt) : PM Nd :=
  if w = [118, 97, 108] then (do
    let p ← f.pat
    needs X [61]
    let e ← f.exp
    pure (mkDec { kind := 1, pats := [p], exps := [e] }))
  else if w = [102, 117, 110] then (do
    let l ← listU X n [97, 110, 100] (funS X f n)
    pure (mkDec { kind := 2, funs := l }))
  else if w = [105, 110, 102, 105, 120] ∨ w = [105, 110, 102, 105, 120, 114] then (do
    let lv ← levelS X
    let l ← f.nms
    setAll l lv (decide (w = [105, 110, 102, 105, 120, 114]))
    pure (mkDec { kind := 8, names := l, n := lv, right := decide (w = [105, 110, 102, 105, 120, 114]) }))
  else f.dcl w
def semis : Nat → PM Unit
  | 0 => PM.none
  | m + 1 => do
    let o ← takes X [59]
    if o then semis m else pure ()
def decsL (top : Bool) : Nat → List Nd → PM (List Nd)
  | 0, _ => PM.none
  | m + 1, l => do
    semis X n
    let a ← sees X [[118, 97, 108], [102, 117, 110], [100, 97, 116, 97, 116, 121, 112, 101], [116, 121, 112, 101], [101, 120, 99, 101, 112, 116, 105, 111, 110], [105, 110, 102, 105, 120], [105, 110, 102, 105, 120, 114], [110, 111, 110, 102, 105, 120]]
    let b ← sees X [[115, 116, 114, 117, 99, 116, 117, 114, 101], [115, 105, 103, 110, 97, 116, 117, 114, 101]]
    if ¬ (a = true ∨ top = true ∧ b = true) then pure l else do
      let t ← next X
      step1
      let d ← decS X f n t.text
      decsL top m (l ++ [d])
def decsS (top : Bool) : PM (List Nd) := decsL X f n top n []
def nameR : PM (List Byt) := name X true >>= fun _ => PM.none
def deepR : Fs := ⟨PM.none, patS X f n, expS X f n, decsS X f n, climbPS X f n, climbES X f n, eitherS X f, bothS X f n, fun _ => PM.none, fun _ => PM.none, fun _ => PM.none, PM.none, PM.none, PM.none, PM.none, PM.none, fun _ => PM.none, fun _ => PM.none, fun _ => PM.none, fun _ => PM.none, fun _ => PM.none, fun _ => PM.none, nameR X, fun _ => PM.none, fun _ => PM.none⟩
def bareR : Fs := ⟨PM.none, PM.none, PM.none, fun _ => PM.none, fun _ _ => PM.none, fun _ _ => PM.none, PM.none, PM.none, fun _ => PM.none, fun _ => PM.none, fun _ => PM.none, PM.none, PM.none, PM.none, PM.none, PM.none, fun _ => PM.none, fun _ => PM.none, fun _ => PM.none, fun _ => PM.none, fun _ => PM.none, fun _ => PM.none, PM.none, fun _ => PM.none, fun _ => PM.none⟩
end
def fsR (X : Tx) : Nat → Fs
  | 0 => bareR
  | n + 1 => deepR X (fsR X n) n
def begin0 : List Fx := [⟨[42], 7, false⟩, ⟨[47], 7, false⟩, ⟨[100, 105, 118], 7, false⟩, ⟨[109, 111, 100], 7, false⟩, ⟨[43], 6, false⟩, ⟨[45], 6, false⟩, ⟨[94], 6, false⟩, ⟨[58, 58], 5, true⟩, ⟨[64], 5, true⟩, ⟨[61], 4, false⟩, ⟨[60, 62], 4, false⟩, ⟨[60], 4, false⟩, ⟨[60, 61], 4, false⟩, ⟨[62], 4, false⟩, ⟨[62, 61], 4, false⟩, ⟨[58, 61], 3, false⟩, ⟨[111], 3, false⟩]
def topP (X : Tx) (f : Fs) : PM (List Nd) := do
  let l ← f.decs true
  let s ← PM.get
  if s.i < X.ts.length then wrong X else pure l
def parseP (X : Tx) (f : Fs) : Option (Except (Nat × Nat) (List Nd)) :=
  match topP X f ⟨0, begin0⟩ with
  | none => none
  | some (.error e) => some (.error e)
  | some (.ok (l, _)) => some (.ok l)
end
section
open Go
section
variable {X : Tx} {α β : Type} {lo l1 l2 : Nat} {s : PSt}
theorem nextS_in (h : (nextS X s).kind ≠ 0) : s.i < X.ts.length := by
  rcases Nat.lt_or_ge s.i X.ts.length with c | c
  · exact c
  · exfalso; apply h; unfold nextS; rw [List.getElem?_eq_none c]; rfl
theorem sees_in {l : List Byt} (h : seesS X l s = true) : s.i < X.ts.length := by
  unfold seesS at h; simp only [Bool.and_eq_true, beq_iff_eq] at h; exact nextS_in (by omega)
theorem short_in {b : Bool} (h : shortP X b s = true) : s.i < X.ts.length := by
  unfold shortP at h; simp only [Bool.or_eq_true, Bool.and_eq_true, beq_iff_eq] at h
  rcases h with h | ⟨_, h | h⟩
  · exact nextS_in (by omega)
  · exact nextS_in (by omega)
  · exact sees_in h
end
end
section
open Go
def tk (X : Tx) (i : Nat) : Nat × List UInt8 := ((X.ts[i]?.getD tok0).kind, (X.ts[i]?.getD tok0).text)
section
variable {X : Tx} {s : PSt}
theorem sees_tk {l : List Byt} {k : Nat} {t : List UInt8} (h : tk X s.i = (k, t)) : seesS X l s = (k == 8 && l.contains t) := by
  unfold tk at h; unfold seesS nextS; rw [show (X.ts[s.i]?.getD tok0).kind = k from congrArg Prod.fst h, show (X.ts[s.i]?.getD tok0).text = t from congrArg Prod.snd h]
theorem kind_tk {k : Nat} {t : List UInt8} (h : tk X s.i = (k, t)) : (nextS X s).kind = k := congrArg Prod.fst h
theorem text_tk {k : Nat} {t : List UInt8} (h : tk X s.i = (k, t)) : (nextS X s).text = t := congrArg Prod.snd h
theorem takes_tk {w : Byt} {k : Nat} {t : List UInt8} (h : tk X s.i = (k, t)) : takes X w s = if (k == 8 && t == w) = true then some (.ok (true, { s with i := s.i + 1 })) else some (.ok (false, s)) := by
  unfold takes; rw [sees_tk h]; rw [show List.contains [w] t = (t == w) by unfold List.contains List.elem; cases t == w <;> rfl]
theorem bind_ok {α β : Type} {x : PM α} {f : α → PM β} {a : α} {s s' : PSt} (h : x s = some (.ok (a, s'))) : (x >>= f) s = f a s' := by
  show PM.bind x f s = _; unfold PM.bind; rw [h]
def Stop (X : Tx) (s : PSt) : Prop := tk X s.i = (0, []) ∨ tk X s.i = (8, [41])
theorem tk_out {i : Nat} (h : X.ts.length ≤ i) : tk X i = (0, []) := by
  unfold tk; rw [List.getElem?_eq_none h]
  rfl
theorem Stop.takes {w : Byt} (h : Stop X s) (hw : (w == [41]) = false) : takes X w s = some (.ok (false, s)) := by
  rcases h with h | h
  · rw [takes_tk h]; rfl
  · rw [takes_tk h, if_neg]; rw [Bool.and_eq_true, not_and]; intro _ q; rw [beq_iff_eq] at q; rw [← q] at hw
    revert hw; decide
theorem Stop.sees {l : List Byt} (h : Stop X s) (hw : l.contains [41] = false) : seesS X l s = false := by
  rcases h with h | h
  · rw [sees_tk h]; rfl
  · rw [sees_tk h, hw]; rfl
theorem Stop.kind (h : Stop X s) : (nextS X s).kind = 0 ∨ (nextS X s).kind = 8 := h.imp kind_tk kind_tk
theorem Stop.starts (h : Stop X s) : startsS X s = false := by
  unfold startsS operandS; rw [h.sees (l := [[40], [91], [123], [111, 112], [108, 101, 116], [35]]) rfl]
  rcases h.kind with q | q <;> rw [q] <;> rfl
theorem exp_of_atom {m : Nat} {a : Nd} {s' : PSt} (hm : 1 ≤ m) (hh : seesS X heads s = false) (ha : atom X (fsR X m) s = some (.ok (a, s'))) (hs : Stop X s') :
    (fsR X (m + 4)).exp s = some (.ok (a, s')) := by
  obtain ⟨m, rfl⟩ : ∃ q, m = q + 1 := ⟨m - 1, by omega⟩
  have hn : ¬ (((nextS X s').kind = 1 ∨ (nextS X s').kind = 2) ∨ seesS X [[61]] s' = true) := by
    rw [hs.sees (l := [[61]]) rfl]
    rcases hs.kind with q | q <;> rw [q] <;> simp
  have happ : app X (fsR X (m + 1)) (m + 1) s = some (.ok (a, s')) := by
    unfold app; rw [bind_ok ha]; show appL X (fsR X (m + 1)) (m + 1) a s' = _; unfold appL; rw [if_neg (by rw [hs.starts]; decide)]
  have hcl : climbES X (fsR X (m + 1)) (m + 1) 0 false s = some (.ok (a, s')) := by
    unfold climbES; rw [bind_ok happ]; unfold climbL; simp only []
    rw [if_pos (fun q => hn (by
      rcases q with q | q | q
      · exact .inl (.inl q)
      · exact .inl (.inr q)
      · exact .inr q.2))]
  have hty : typedS X (fsR X (m + 2)) (m + 2) s = some (.ok (a, s')) := by
    unfold typedS; rw [bind_ok (show (fsR X (m + 2)).climbE 0 false s = _ from hcl)]; unfold typedEL; rw [bind_ok (hs.takes rfl)]
    rfl
  have hbo : bothS X (fsR X (m + 2)) (m + 2) s = some (.ok (a, s')) := by
    unfold bothS restS; rw [bind_ok hty, bind_ok (hs.takes rfl)]
    rfl
  have hei : eitherS X (fsR X (m + 3)) s = some (.ok (a, s')) := by
    unfold eitherS restS; rw [bind_ok (show (fsR X (m + 3)).both s = _ from hbo), bind_ok (hs.takes rfl)]
    rfl
  show expS X (fsR X (m + 4)) (m + 4) s = _; unfold expS; rw [bind_ok (show sees X heads s = some (.ok (false, s)) by unfold sees; rw [hh])]; show ((fsR X (m + 4)).either >>= fun e => handleL X (fsR X (m + 4)) (m + 4) e) s = _; rw [bind_ok (show (fsR X (m + 4)).either s = _ from hei)]; unfold handleL; rw [bind_ok (hs.takes rfl)]
  rfl
theorem atom_var {m : Nat} {t : List UInt8} (h : tk X s.i = (1, t)) (ho : opS s.sc t = false) : atom X (fsR X m) s = some (.ok (eVar t, { s with i := s.i + 1 })) := by
  unfold atom; rw [if_pos (by unfold startsS operandS; rw [kind_tk h, text_tk h, ho]; simp)]; simp only []; rw [kind_tk h, text_tk h]
  rfl
theorem atom_paren {m : Nat} {a : Nd} {s' : PSt} (h : tk X s.i = (8, [40])) (h1 : ¬ tk X (s.i + 1) = (8, [41])) (he : (fsR X m).exp { s with i := s.i + 1 } = some (.ok (a, s'))) (hs : tk X s'.i = (8, [41])) :
    atom X (fsR X m) s = some (.ok (a, { s' with i := s'.i + 1 })) := by
  unfold atom; rw [if_pos (by unfold startsS; rw [sees_tk h]; simp)]; simp only []; rw [kind_tk h, text_tk h]; show paren X (fsR X m) { s with i := s.i + 1 } = _; unfold paren
  have ht : takes X [41] { s with i := s.i + 1 } = some (.ok (false, { s with i := s.i + 1 })) := by
    rw [takes_tk (k := (tk X (s.i + 1)).1) (t := (tk X (s.i + 1)).2) (by rfl), if_neg]; intro q; rw [Bool.and_eq_true, beq_iff_eq, beq_iff_eq] at q; exact h1 (Prod.ext q.1 q.2)
  have hst : Stop X s' := .inr hs; rw [bind_ok ht]; show ((fsR X m).exp >>= _) _ = _; rw [bind_ok he, bind_ok (hst.takes rfl)]; rw [if_neg (by decide : ¬ (false = true))]; rw [bind_ok (show (takes X [44] >>= fun com => if com = true then (fsR X m).ptp a else pure a) s' = some (.ok (a, s')) by rw [bind_ok (hst.takes rfl)]; rfl)]; rw [bind_ok (show needs X [41] s' = some (.ok ((), { s' with i := s'.i + 1 })) by unfold needs; rw [bind_ok (a := true) (by rw [takes_tk hs]; rfl)]; rfl)]
  rfl
theorem parens_exp {sc : List Fx} {t : List UInt8} (ho : opS sc t = false) (m : Nat) : ∀ (k i : Nat), (∀ j, j < k → tk X (i + j) = (8, [40])) → tk X (i + k) = (1, t) → (∀ j, j < k → tk X (i + k + 1 + j) = (8, [41])) →
    Stop X ⟨i + k + 1 + k, sc⟩ → (fsR X (4 * k + 5 + m)).exp ⟨i, sc⟩ = some (.ok (eVar t, ⟨i + k + 1 + k, sc⟩))
  | 0, i, _, h1, _, h3 => by
    show (fsR X (4 * 0 + 5 + m)).exp ⟨i, sc⟩ = _; rw [show 4 * 0 + 5 + m = (m + 1) + 4 by omega]; refine exp_of_atom (by omega) ?_ (atom_var (s := ⟨i, sc⟩) h1 ho) h3; rw [sees_tk (s := ⟨i, sc⟩) h1]
    rfl
  | k + 1, i, h0, h1, h2, h3 => by
    have ih := parens_exp ho m k (i + 1) (fun j hj => by have := h0 (j + 1) (by omega); rwa [show i + (j + 1) = i + 1 + j by omega] at this) (by rwa [show i + (k + 1) = i + 1 + k by omega] at h1)
      (fun j hj => by have := h2 j (by omega); rwa [show i + (k + 1) + 1 + j = i + 1 + k + 1 + j by omega] at this)
      (.inr (by have := h2 k (by omega); show tk X (i + 1 + k + 1 + k) = _; rwa [show i + (k + 1) + 1 + k = i + 1 + k + 1 + k by omega] at this))
    rw [show 4 * (k + 1) + 5 + m = (4 * k + 5 + m) + 4 by omega]; have h00 : tk X i = (8, [40]) := h0 0 (by omega); refine exp_of_atom (by omega) ?_ ?_ h3
    · rw [sees_tk (s := ⟨i, sc⟩) h00]
      decide
    · have := atom_paren (s := ⟨i, sc⟩) h00 (by
          cases k with
          | zero => rw [show (⟨i, sc⟩ : PSt).i + 1 = i + (0 + 1) from rfl, h1]; simp
          | succ k => rw [show (⟨i, sc⟩ : PSt).i + 1 = i + 1 from rfl, h0 1 (by omega)]; decide) ih (by have := h2 k (by omega); show tk X (i + 1 + k + 1 + k) = _; rwa [show i + (k + 1) + 1 + k = i + 1 + k + 1 + k by omega] at this)
      rw [this]; simp only []; rw [show i + 1 + k + 1 + k + 1 = i + (k + 1) + 1 + (k + 1) by omega]
def raises : Nat → Nd → Nd
  | 0, a => a
  | n + 1, a => eKids 15 [raises n a]
theorem raises_exp {sc : List Fx} {a : Nd} {s' : PSt} {m : Nat} : ∀ (n i : Nat), (∀ j, j < n → tk X (i + j) = (8, [114, 97, 105, 115, 101])) → (fsR X m).exp ⟨i + n, sc⟩ = some (.ok (a, s')) →
    (fsR X (m + n)).exp ⟨i, sc⟩ = some (.ok (raises n a, s'))
  | 0, _, _, h => h
  | n + 1, i, h0, h => by
    have ih := raises_exp n (i + 1) (fun j hj => by have := h0 (j + 1) (by omega); rwa [show i + (j + 1) = i + 1 + j by omega] at this) (by rwa [show i + (n + 1) = i + 1 + n by omega] at h); have h00 : tk X i = (8, [114, 97, 105, 115, 101]) := h0 0 (by omega); show expS X (fsR X (m + n)) (m + n) ⟨i, sc⟩ = _; unfold expS; rw [bind_ok (show sees X heads ⟨i, sc⟩ = some (.ok (true, ⟨i, sc⟩)) by unfold sees; rw [sees_tk (s := ⟨i, sc⟩) h00]; rfl)]; show ahead X (fsR X (m + n)) ⟨i, sc⟩ = _; unfold ahead; simp only []; rw [text_tk (s := ⟨i, sc⟩) h00]; show ((fsR X (m + n)).exp >>= _) ⟨i + 1, sc⟩ = _; rw [bind_ok ih]
    rfl
end
end
section
open Go
def dWords (n k : Nat) : List (Nat × List UInt8) :=
  [(8, [118, 97, 108]), (1, [120]), (8, [61])] ++ (List.replicate n (8, [114, 97, 105, 115, 101]) ++ (List.replicate k (8, [40]) ++ ((1, [97]) :: List.replicate k (8, [41]))))
def dDec (n : Nat) : Nd := mkDec { kind := 1, pats := [mkPat 2 [120] 0 0 [] [] [] []], exps := [raises n (eVar [97])] }
section
variable {X : Tx}
theorem tk_map {l : List (Nat × List UInt8)} (h : X.ts.map (fun t => (t.kind, t.text)) = l) (i : Nat) : tk X i = l[i]?.getD (0, []) := by
  rw [← h, List.getElem?_map]; unfold tk; cases X.ts[i]? <;> rfl
theorem pat_x {m : Nat} (h1 : tk X 1 = (1, [120])) (h2 : tk X 2 = (8, [61])) : (fsR X (m + 3)).pat ⟨1, begin0⟩ = some (.ok (mkPat 2 [120] 0 0 [] [] [] [], ⟨2, begin0⟩)) := by
  have hat : atomicS X ⟨1, begin0⟩ = true := by
    unfold atomicS operandS; rw [kind_tk (s := ⟨1, begin0⟩) h1, text_tk (s := ⟨1, begin0⟩) h1]; rw [show opS begin0 [120] = false by decide]; simp
  have h2k : (nextS X ⟨2, begin0⟩).kind = 8 := kind_tk (s := ⟨2, begin0⟩) h2
  have hap : atpat X (fsR X (m + 1)) (m + 1) ⟨1, begin0⟩ = some (.ok (mkPat 2 [120] 0 0 [] [] [] [], ⟨2, begin0⟩)) := by
    unfold atpat; rw [if_pos hat]; simp only []; rw [kind_tk (s := ⟨1, begin0⟩) h1, text_tk (s := ⟨1, begin0⟩) h1]
    rfl
  have hap2 : patApp X (fsR X (m + 1)) (m + 1) ⟨1, begin0⟩ = some (.ok (mkPat 2 [120] 0 0 [] [] [] [], ⟨2, begin0⟩)) := by
    unfold patApp; simp only []; rw [bind_ok hap, bind_ok (show PM.get (⟨2, begin0⟩ : PSt) = some (.ok (⟨2, begin0⟩, ⟨2, begin0⟩)) from rfl)]; rw [if_neg]
    · rfl
    · rintro ⟨_, q⟩
      revert q
      unfold atomicS operandS; rw [h2k, sees_tk (s := ⟨2, begin0⟩) h2]; intro q; cases q
  have hcl : climbPS X (fsR X (m + 1)) (m + 1) 0 false ⟨1, begin0⟩ = some (.ok (mkPat 2 [120] 0 0 [] [] [] [], ⟨2, begin0⟩)) := by
    unfold climbPS; rw [bind_ok hap2]; unfold climbL; simp only []; rw [if_pos]; rw [h2k]; rintro (q | q | q)
    · cases q
    · cases q
    · cases q.1
  show patS X (fsR X (m + 2)) (m + 2) ⟨1, begin0⟩ = _; unfold patS; simp only []; rw [bind_ok (a := mkPat 2 [120] 0 0 [] [] [] []) (s' := ⟨2, begin0⟩)]
  · unfold typedPL; rw [bind_ok (a := false) (s' := ⟨2, begin0⟩) (by rw [takes_tk (s := ⟨2, begin0⟩) h2]; rfl)]
    rfl
  · rw [if_neg]
    · exact hcl
    · rintro ⟨_, q⟩
      revert q
      unfold asNext; have h22 : (X.ts[2]?.getD tok0).text = [61] := congrArg Prod.snd h2; show (match X.ts[2]? with | some u => u.kind == 8 && u.text == [97, 115] | none => false) = true → False
      revert h22
      rcases X.ts[2]? with _ | u
      · intro _ q; cases q
      · intro h22 q; have h22 : u.text = [61] := h22; simp only [h22] at q
        revert q
        cases u.kind == 8 <;> decide
theorem semis_no {m : Nat} {s : PSt} (h : takes X [59] s = some (.ok (false, s))) : semis X (m + 1) s = some (.ok ((), s)) := by
  unfold semis; rw [bind_ok h]
  rfl
theorem depth_parse {n k m : Nat} (hX : X.ts.map (fun t => (t.kind, t.text)) = dWords n k) :
    parseP X (fsR X (4 * k + 5 + m + n + 1)) = some (.ok [dDec n]) := by
  have T := tk_map hX; have t0 : tk X 0 = (8, [118, 97, 108]) := T 0; have t1 : tk X 1 = (1, [120]) := T 1; have t2 : tk X 2 = (8, [61]) := T 2
  have tr : ∀ j, tk X (3 + j) = (List.replicate n (8, [114, 97, 105, 115, 101]) ++ (List.replicate k (8, [40]) ++ ((1, [97]) :: List.replicate k (8, [41]))))[j]?.getD (0, []) := fun j => by
    rw [T]; unfold dWords; rw [List.getElem?_append_right (by simp)]; rw [show 3 + j - ([(8, [118, 97, 108]), (1, [120]), (8, [61])] : List (Nat × List UInt8)).length = j by simp]
  have ta : ∀ j, tk X (3 + n + j) = (List.replicate k (8, [40]) ++ ((1, [97]) :: List.replicate k (8, [41])))[j]?.getD (0, []) := fun j => by
    rw [Nat.add_assoc, tr, List.getElem?_append_right (by simp)]; rw [List.length_replicate, Nat.add_sub_cancel_left]
  have tb : ∀ j, tk X (3 + n + k + j) = ((1, [97]) :: List.replicate k ((8, [41]) : Nat × List UInt8))[j]?.getD (0, []) := fun j => by
    rw [Nat.add_assoc (3 + n), ta, List.getElem?_append_right (by simp)]; rw [List.length_replicate, Nat.add_sub_cancel_left]
  have hlen : X.ts.length = 3 + n + k + 1 + k := by
    have := congrArg List.length hX; rw [List.length_map] at this; rw [this]; unfold dWords; simp only [List.length_append, List.length_cons, List.length_replicate, List.length_nil]; omega
  have he : (fsR X (4 * k + 5 + m + n)).exp ⟨3, begin0⟩ = some (.ok (raises n (eVar [97]), ⟨3 + n + k + 1 + k, begin0⟩)) := by
    refine raises_exp n 3 (fun j hj => ?_) (parens_exp (t := [97]) (by decide) m k (3 + n) (fun j hj => ?_) ?_ (fun j hj => ?_) (.inl (tk_out (by rw [hlen]; exact Nat.le_refl _))))
    · rw [tr, List.getElem?_append_left (by simpa using hj)]; simp [hj]
    · rw [ta, List.getElem?_append_left (by simpa using hj)]; simp [hj]
    · exact tb 0
    · rw [show 3 + n + k + 1 + j = 3 + n + k + (j + 1) by omega, tb]; simp [hj]
  have hend : tk X (3 + n + k + 1 + k) = (0, []) := tk_out (by rw [hlen]; exact Nat.le_refl _); obtain ⟨N, hN⟩ : ∃ N, 4 * k + 5 + m + n = N + 3 := ⟨4 * k + 2 + m + n, by omega⟩; rw [hN] at he ⊢
  have hdec : decS X (fsR X (N + 3)) (N + 3) [118, 97, 108] ⟨1, begin0⟩ = some (.ok (dDec n, ⟨3 + n + k + 1 + k, begin0⟩)) := by
    unfold decS; rw [if_pos rfl]; rw [bind_ok (pat_x t1 t2)]; rw [bind_ok (show needs X [61] ⟨2, begin0⟩ = some (.ok ((), ⟨3, begin0⟩)) by unfold needs; rw [bind_ok (a := true) (by rw [takes_tk (s := ⟨2, begin0⟩) t2]; rfl)]; rfl)]; rw [bind_ok he]
    rfl
  have hds : decsL X (fsR X (N + 3)) (N + 3) true (N + 3) [] ⟨0, begin0⟩ = some (.ok ([dDec n], ⟨3 + n + k + 1 + k, begin0⟩)) := by
    unfold decsL; rw [bind_ok (semis_no (by rw [takes_tk (s := ⟨0, begin0⟩) t0]; rfl))]; rw [bind_ok (show sees X [[118, 97, 108], [102, 117, 110], [100, 97, 116, 97, 116, 121, 112, 101], [116, 121, 112, 101], [101, 120, 99, 101, 112, 116, 105, 111, 110], [105, 110, 102, 105, 120], [105, 110, 102, 105, 120, 114], [110, 111, 110, 102, 105, 120]] ⟨0, begin0⟩ = some (.ok (true, ⟨0, begin0⟩)) by unfold sees; rw [sees_tk (s := ⟨0, begin0⟩) t0]; rfl)]; rw [bind_ok (show sees X _ ⟨0, begin0⟩ = some (.ok (_, ⟨0, begin0⟩)) from rfl)]; rw [if_neg (by simp)]; rw [bind_ok (show next X ⟨0, begin0⟩ = some (.ok (nextS X ⟨0, begin0⟩, ⟨0, begin0⟩)) from rfl)]; rw [bind_ok (show step1 (⟨0, begin0⟩ : PSt) = some (.ok ((), ⟨1, begin0⟩)) from rfl)]; rw [text_tk (s := ⟨0, begin0⟩) t0, bind_ok hdec]; unfold decsL; have hst : Stop X ⟨3 + n + k + 1 + k, begin0⟩ := .inl hend; rw [bind_ok (semis_no (hst.takes rfl))]; rw [bind_ok (show sees X [[118, 97, 108], [102, 117, 110], [100, 97, 116, 97, 116, 121, 112, 101], [116, 121, 112, 101], [101, 120, 99, 101, 112, 116, 105, 111, 110], [105, 110, 102, 105, 120], [105, 110, 102, 105, 120, 114], [110, 111, 110, 102, 105, 120]] ⟨3 + n + k + 1 + k, begin0⟩ = some (.ok (false, ⟨3 + n + k + 1 + k, begin0⟩)) by unfold sees; rw [hst.sees rfl])]; rw [bind_ok (show sees X [[115, 116, 114, 117, 99, 116, 117, 114, 101], [115, 105, 103, 110, 97, 116, 117, 114, 101]] ⟨3 + n + k + 1 + k, begin0⟩ = some (.ok (false, ⟨3 + n + k + 1 + k, begin0⟩)) by unfold sees; rw [hst.sees rfl])]; rw [if_pos (by simp)]
    rfl
  unfold parseP topP; rw [bind_ok (show (fsR X (N + 3 + 1)).decs true ⟨0, begin0⟩ = _ from hds)]; rw [bind_ok (show PM.get (⟨3 + n + k + 1 + k, begin0⟩ : PSt) = some (.ok (⟨3 + n + k + 1 + k, begin0⟩, ⟨3 + n + k + 1 + k, begin0⟩)) from rfl)]; rw [if_neg (by rw [hlen]; exact Nat.lt_irrefl _)]
  rfl
end
end
open Go Go.RowKit
def wid : Tr → Nat
  | .v _ => 1
  | .big _ => 2
  | .sl _ => 1
def widN : Nd → Nat
  | [] => 0
  | t :: r => wid t + widN r
mutual
def RepT (w : World) (F : Nat → Prop) : Tr → List Value → Prop
  | .v x, cs => cs = [x]
  | .big z, cs => ∃ sg a n c f, cs = [.bool sg, .slice a n c] ∧ Us w a n c f ∧ n ≤ 1048576 ∧ Nm f n ∧ (n = 0 → sg = false) ∧ ival sg (val f n) = z ∧ ∀ b off, a = some ⟨b, off, none⟩ → 0 < c → F b
  | .sl es, cs => ∃ a c, cs = [.slice a es.length c] ∧ es.length ≤ c ∧ c ≤ maxLen ∧ (es = [] ∨ ∃ b off, a = some ⟨b, off, none⟩ ∧ F b ∧ RepL w F b off es)
def RepR (w : World) (F : Nat → Prop) : List Tr → List Value → Prop
  | [], cs => cs = []
  | t :: r, cs => ∃ c1 c2, cs = c1 ++ c2 ∧ RepT w F t c1 ∧ RepR w F r c2
def RepL (w : World) (F : Nat → Prop) (b off : Nat) : List (List Tr) → Prop
  | [] => True
  | r :: rs => (∃ cs, (∀ j, j < cs.length → w.cell? ⟨b, off + j, none⟩ = cs[j]?) ∧ RepR w F r cs) ∧ RepL w F b (off + widN r) rs
end
theorem RepT.len {w : World} {F : Nat → Prop} {t : Tr} {cs : List Value} (h : RepT w F t cs) : cs.length = wid t := by
  cases t with
  | v x => unfold RepT at h; rw [h]; rfl
  | big z => unfold RepT at h; obtain ⟨sg, a, n, c, f, rfl, _⟩ := h; rfl
  | sl es => unfold RepT at h; obtain ⟨a, c, rfl, _⟩ := h; rfl
theorem RepR.len {w : World} {F : Nat → Prop} : ∀ {r : List Tr} {cs : List Value}, RepR w F r cs → cs.length = widN r
  | [], cs, h => by unfold RepR at h; rw [h]; rfl
  | t :: r, cs, h => by
    unfold RepR at h; obtain ⟨c1, c2, rfl, h1, h2⟩ := h; rw [List.length_append, h1.len, RepR.len h2]; rfl
mutual
theorem RepT.keep {w w' : World} {F G : Nat → Prop} (hFG : ∀ b, F b → G b) (hk : ∀ b off v, F b → w.cell? ⟨b, off, none⟩ = some v → w'.cell? ⟨b, off, none⟩ = some v) : ∀ {t : Tr} {cs : List Value}, RepT w F t cs → RepT w' G t cs
  | .v x, cs, h => by unfold RepT at h ⊢; exact h
  | .big z, cs, h => by
    unfold RepT at h ⊢; obtain ⟨sg, a, n, c, f, e, u, hn, hm, h0, hz, hf⟩ := h; refine ⟨sg, a, n, c, f, e, ⟨u.le, u.mx, u.lm, fun i hi => ?_⟩, hn, hm, h0, hz, fun b off ha hc => hFG b (hf b off ha hc)⟩; obtain ⟨b, off, ha, hc⟩ := u.cell i hi; exact ⟨b, off, ha, hk b _ _ (hf b off ha (by omega)) hc⟩
  | .sl es, cs, h => by
    unfold RepT at h ⊢; obtain ⟨a, c, e, hl, hm, h⟩ := h; refine ⟨a, c, e, hl, hm, ?_⟩
    rcases h with h | ⟨b, off, ha, hb, hr⟩
    · exact .inl h
    · exact .inr ⟨b, off, ha, hFG b hb, RepL.keep hFG hk hb hr⟩
theorem RepR.keep {w w' : World} {F G : Nat → Prop} (hFG : ∀ b, F b → G b) (hk : ∀ b off v, F b → w.cell? ⟨b, off, none⟩ = some v → w'.cell? ⟨b, off, none⟩ = some v) : ∀ {r : List Tr} {cs : List Value}, RepR w F r cs → RepR w' G r cs
  | [], cs, h => by unfold RepR at h ⊢; exact h
  | t :: r, cs, h => by
    unfold RepR at h ⊢; obtain ⟨c1, c2, e, h1, h2⟩ := h; exact ⟨c1, c2, e, RepT.keep hFG hk h1, RepR.keep hFG hk h2⟩
theorem RepL.keep {w w' : World} {F G : Nat → Prop} (hFG : ∀ b, F b → G b) (hk : ∀ b off v, F b → w.cell? ⟨b, off, none⟩ = some v → w'.cell? ⟨b, off, none⟩ = some v) {b : Nat} (hb : F b) : ∀ {off : Nat} {rs : List (List Tr)}, RepL w F b off rs → RepL w' G b off rs
  | off, [], h => by unfold RepL; trivial
  | off, r :: rs, h => by
    unfold RepL at h ⊢; obtain ⟨⟨cs, hc, hr⟩, h2⟩ := h; refine ⟨⟨cs, fun j hj => ?_, RepR.keep hFG hk hr⟩, RepL.keep hFG hk hb h2⟩; have := hc j hj; rw [List.getElem?_eq_getElem hj] at this ⊢; exact hk b _ _ hb this
end
theorem RepL.at {w : World} {F : Nat → Prop} {b s : Nat} : ∀ {off : Nat} {rs : List (List Tr)}, RepL w F b off rs → (∀ r ∈ rs, widN r = s) → ∀ (i : Nat) (r : List Tr), rs[i]? = some r →
    ∃ cs, cs.length = s ∧ (∀ j, j < s → w.cell? ⟨b, off + i * s + j, none⟩ = cs[j]?) ∧ RepR w F r cs
  | off, [], h, hs, i, r, hi => by simp at hi
  | off, q :: rs, h, hs, i, r, hi => by
    unfold RepL at h; obtain ⟨⟨cs, hc, hr⟩, h2⟩ := h; have hq := hs q (List.mem_cons_self ..)
    rcases i with _ | i
    · simp only [List.getElem?_cons_zero, Option.some.injEq] at hi; subst hi; have hl := hr.len; exact ⟨cs, by omega, fun j hj => by rw [Nat.zero_mul, Nat.add_zero]; exact hc j (by omega), hr⟩
    · rw [List.getElem?_cons_succ] at hi; obtain ⟨ds, h3, h4, h5⟩ := RepL.at h2 (fun r hr => hs r (List.mem_cons_of_mem _ hr)) i r hi; refine ⟨ds, h3, fun j hj => ?_, h5⟩; have := h4 j hj; rw [hq] at this; rw [show off + (i + 1) * s + j = off + s + i * s + j by rw [Nat.succ_mul]; omega]; exact this
end Go.Proofs.YtkblonfmjlopaaaGreatDoor
