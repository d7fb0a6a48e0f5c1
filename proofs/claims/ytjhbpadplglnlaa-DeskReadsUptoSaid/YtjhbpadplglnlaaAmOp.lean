/-
  AM: what each operation does to a state.
-/
import Derived.Test.YtjhbpadplglnlaaAmRel
set_option linter.unusedVariables false
namespace Go.Am

def AV.stor (a : AV) : Bool := match a with | .undef => false | .tup _ => false | _ => true

mutual
/-- No part is unknown, none a tuple. -/
def AV.flat : AV → Bool
  | .undef => false
  | .tup _ => false
  | .agg cs => AV.flats cs
  | _ => true
def AV.flats : List AV → Bool
  | [] => true
  | c :: cs => c.flat && AV.flats cs
end

def must (b : Bool) (p : Pg) : Pg := match b with | true => p | false => .fail

def leafAt (t : AV) (off w : Nat) (g : Bool) : Option AV := match Nat.beq off 0 && (Nat.beq t.width w && (t.isAgg == g)) with
  | true => some t
  | false => none

mutual
def getAt : AV → Nat → Nat → Bool → Option AV
  | .agg cs, off, w, g => match Nat.beq off 0 && (Nat.beq (AV.widths cs) w && g) with
    | true => some (.agg cs)
    | false => getsAt cs off w g
  | t, off, w, g => leafAt t off w g
def getsAt : List AV → Nat → Nat → Bool → Option AV
  | [], _, _, _ => none
  | c :: cs, off, w, g => match Nat.ble (off + 1) c.width with
    | true => getAt c off w g
    | false => getsAt cs (off - c.width) w g
end

mutual
/-- The part at off of v's size is v. -/
def setAt : AV → Nat → AV → AV
  | .agg cs, off, v => match Nat.beq off 0 && (Nat.beq (AV.widths cs) v.width && v.isAgg) with
    | true => v
    | false => .agg (setsAt cs off v)
  | _, _, v => v
def setsAt : List AV → Nat → AV → List AV
  | [], _, _ => []
  | c :: cs, off, v => match Nat.ble (off + 1) c.width with
    | true => setAt c off v :: cs
    | false => c :: setsAt cs (off - c.width) v
end

mutual
def shOk : Sh → AV → Bool
  | .int k, .int k' _ => k == k'
  | .bool, .bool _ => true
  | .str, .str _ => true
  | .arr k n, .arr k' n' _ => k == k' && Nat.beq n n'
  | .agg l, .agg cs => shsOk l cs
  | .fs k, .fs k' _ => k == k'
  | _, _ => false
def shsOk : List Sh → List AV → Bool
  | [], [] => true
  | s :: l, c :: cs => shOk s c && shsOk l cs
  | _, _ => false
end

def toU8 (n : Int) : UInt8 := UInt8.ofNat n.toNat

section
variable (P : Program)

def aggT (t : TypeId) : Bool := match P.underlying t with | some (.struct _) => true | some (.array _ _) => true | _ => false
def sizeT (t : TypeId) : Nat := match P.info? t with | some i => i.size | none => 0
def bytesT (t : TypeId) : Nat := match P.info? t with | some i => i.bytes | none => 0
def typOk (t : TypeId) : Bool := match P.info? t, P.underlying t with | some _, some _ => true | _, _ => false
def szIs (t : TypeId) (n : Nat) : Bool := typOk P t && Nat.beq (sizeT P t) n
def elemT (t : TypeId) : Option TypeId := match P.underlying t with | some (.slice e) => some e | _ => none
def kindT (t : TypeId) : Option IntKind := match P.underlying t with | some (.int k) => some k | _ => none

/-- The shape of a type's values as data. -/
def shT : Nat → TypeId → Option Sh
  | 0, _ => none
  | n + 1, t => match P.underlying t with
    | some .bool => some .bool
    | some (.int k) => some (.int k)
    | some .string => some .str
    | some (.slice e) => match P.underlying e with
      | some (.int k) => some (.fs k)
      | _ => (shT n e).map .fv
    | some (.array m e) => match P.underlying e with
      | some (.int k) => some (.arr k m)
      | _ => (shT n e).map fun s => .agg (List.replicate m s)
    | some (.struct fs) => (fs.toList.mapM fun f => shT n f.type).map .agg
    | _ => none

/-- The zero value of a type. -/
def zeroAV : Nat → TypeId → Option AV
  | 0, _ => none
  | n + 1, t => match P.underlying t with
    | some .bool => some (.bool false)
    | some (.int k) => some (.int k 0)
    | some .string => some (.str [])
    | some (.slice _) => some .nils
    | some (.pointer _) => some .nilp
    | some (.interface _) => some .nili
    | some (.array m e) => match P.underlying e with
      | some (.int k) => some (.arr k m (List.replicate m 0))
      | _ => (zeroAV n e).map fun s => .agg (List.replicate m s)
    | some (.struct fs) => (fs.toList.mapM fun f => zeroAV n f.type).map .agg
    | _ => none

end

def intsB (k : IntKind) : List Int → List Value → Bool
  | [], [] => true
  | x :: xs, .int k' y :: vs => k == k' && (x == y && intsB k xs vs)
  | _, _ => false

mutual
/-- Does the value say what the abstract value says? (Values without memory.) -/
def cvB : AV → Value → Bool
  | .bool b, .bool c => b == c
  | .int k n, .int k' m => k == k' && n == m
  | .str l, .string s => l == s.data.toList
  | .nils, .slice none 0 0 => true
  | .nilp, .pointer none => true
  | .nili, .nilIface => true
  | .arr k n xs, .agg vs => Nat.beq xs.length n && intsB k xs vs.toList
  | .agg cs, .agg vs => cvsB cs vs.toList
  | _, _ => false
def cvsB : List AV → List Value → Bool
  | [], vs => vs.isEmpty
  | c :: cs, vs => match c.isAgg with
    | true => Nat.ble c.width vs.length && (cvB c (.agg (vs.take c.width).toArray) && cvsB cs (vs.drop c.width))
    | false => match vs with
      | [] => false
      | v :: r => Nat.beq v.cells.size 1 && (cvB c v && cvsB cs r)
end

def cst : Value → Option AV
  | .bool b => some (.bool b)
  | .int k n => some (.int k n)
  | .string s => some (.str s.data.toList)
  | .slice none 0 0 => some .nils
  | .pointer none => some .nilp
  | .nilIface => some .nili
  | _ => none

def getI (xs : List Int) (i : Nat) : Int := xs.getD i 0
def getE (xs : List AV) (i : Nat) : AV := xs.getD i .undef

section
variable (P : Program) (glob : Nat → Option AV)

def ev (x : Operand) (k : AV → Pg) : Pg :=
  match x with
  | .tmp t => .slot t k
  | .const v => match cst v with
    | some a => k a
    | none => .fail
  | .global g => match glob g with
    | some t => k (.fp t)
    | none => .fail
  | .func f => k (.fn f)

def evL : List Operand → (List AV → Pg) → Pg
  | [], k => k []
  | x :: r, k => ev glob x fun a => evL r fun as => k (a :: as)

def evO (x : Option Operand) (k : Option AV → Pg) : Pg :=
  match x with
  | none => k none
  | some x => ev glob x fun a => k (some a)

def put (o : Oper) (v : AV) : Pg := match o.dst with | some d => .setSlot d v .done | none => .done

/-- A new object, named as the slot that points to it. -/
def newOb (o : Oper) (b : Ob) (v : Nat → AV) : Pg :=
  match o.dst with
  | some d => .obj d fun x => match x with
    | none => .setObj d b (.setSlot d (v d) .done)
    | some _ => .fail
  | none => .fail

def sel (b : Bool) (x y : AV) : AV :=
  match x, y with
  | .bool p, .bool q => .bool (match b with | true => p | false => q)
  | .int k m, .int k' n => match k == k' with
    | true => .int k (match b with | true => m | false => n)
    | false => match b with | true => .int k m | false => .int k' n
  | x, y => match b with | true => x | false => y

def opPick (o : Oper) (c x y : AV) : Pg := match c with | .bool b => put o (sel b x y) | _ => .fail

def opBox (o : Oper) (x : AV) : Pg := must x.stor (newOb o (.box x) fun d => .ref d 0)

def opAlloc (o : Oper) (e : TypeId) : Pg :=
  match P.info? e, zeroAV P 9 e with
  | some i, some a => match i.zero with
    | some v => must (cvB a v && Nat.beq v.cells.size a.width) (newOb o (.box a) fun d => .ref d 0)
    | none => .fail
  | _, _ => .fail

def fits (t : TypeId) (u : AV) : Bool := typOk P t && ((u.isAgg == aggT P t) && Nat.beq u.width (sizeT P t))

def ld (t : TypeId) (a : AV) (k : AV → Pg) : Pg :=
  must (typOk P t) <|
  match a with
  | .fp u => must (fits P t u && u.stor) (k u)
  | .ref d off => .obj d fun o => match o with
    | some (.box tr) => match getAt tr off (sizeT P t) (aggT P t) with
      | some u => k u
      | none => .fail
    | _ => .fail
  | .refa d off n i => .obj d fun o => match o with
    | some (.box tr) => match getAt tr off n true with
      | some (.arr k' n' xs) => must (!aggT P t && Nat.beq n n') (k (.int k' (getI xs i)))
      | _ => .fail
    | _ => .fail
  | .eref d sz i off => .obj d fun o => match o with
    | some (.row _ _ k' xs) => must (!aggT P t && (Nat.beq sz 1 && Nat.beq off 0)) (.chk (Nat.ble (i + 1) xs.length) (k (.int k' (getI xs i))))
    | some (.rows _ _ s xs) => match getAt (eta s (getE xs i)) off (sizeT P t) (aggT P t) with
      | some u => must (Nat.beq sz s.width) (.chk (Nat.ble (i + 1) xs.length) (k u))
      | none => .fail
    | _ => .fail
  | _ => .fail

def st (t : TypeId) (a v : AV) : Pg :=
  must (fits P t v && v.flat) <|
  match a with
  | .ref d off => .obj d fun o => match o with
    | some (.box tr) => match getAt tr off v.width v.isAgg with
      | some _ => .setObj d (.box (setAt tr off v)) .done
      | none => .fail
    | _ => .fail
  | .refa d off n i => .obj d fun o => match o, v with
    | some (.box tr), .int kx x => match getAt tr off n true with
      | some (.arr k' n' xs) => must (kx == k' && Nat.beq n n') (.setObj d (.box (setAt tr off (.arr k' n' (xs.set i x)))) .done)
      | _ => .fail
    | _, _ => .fail
  | .eref d sz i off => .obj d fun o => match o with
    | some (.row true e k' xs) => match v with
      | .int kx x => must (kx == k' && (Nat.beq sz 1 && Nat.beq off 0)) (.setObj d (.row true e k' (xs.set i x)) .done)
      | _ => .fail
    | some (.rows true e s xs) => match getAt (eta s (getE xs i)) off v.width v.isAgg with
      | some _ => must (Nat.beq sz s.width && shOk s (setAt (eta s (getE xs i)) off v)) (.chk (Nat.ble (i + 1) xs.length) (.setObj d (.rows true e s (xs.set i (setAt (eta s (getE xs i)) off v))) .done))
      | none => .fail
    | _ => .fail
  | _ => .fail

def opFieldAddr (o : Oper) (s : TypeId) (x : AV) (f : Nat) : Pg :=
  match P.underlying s with
  | some (.struct fs) => match fs[f]? with
    | some fd => must (typOk P fd.type && !Nat.beq (sizeT P fd.type) 0) <| match x with
      | .ref d off => put o (.ref d (off + fd.offset))
      | .eref d sz i off => put o (.eref d sz i (off + fd.offset))
      | .fp (.agg cs) => match cs[f]? with
        | some c => must (Nat.beq (AV.widths (cs.take f)) fd.offset) (put o (.fp c))
        | none => .fail
      | _ => .fail
    | none => .fail
  | _ => .fail

def inR (i : Int) (n : Nat) : Bool := decide (0 ≤ i) && decide (i < n)

def opIndexAddr (o : Oper) (t : TypeId) (x ix : AV) : Pg :=
  match ix with
  | .int _ i => match P.underlying t with
    | some (.slice e) => match x with
      | .fs k xs => must (szIs P e 1) (.chk (inR i xs.length) (put o (.fp (.int k (getI xs i.toNat)))))
      | .fv s xs => must (szIs P e s.width) (.chk (inR i xs.length) (put o (.fp (eta s (getE xs i.toNat)))))
      | .own d => .obj d fun b => match b with
        | some (.row _ _ _ xs) => must (szIs P e 1) (.chk (inR i xs.length) (put o (.eref d 1 i.toNat 0)))
        | some (.rows _ _ s xs) => must (szIs P e s.width) (.chk (inR i xs.length) (put o (.eref d s.width i.toNat 0)))
        | _ => .fail
      | .win d sz off len => must (szIs P e sz) (.chk (inR i len) (put o (.eref d sz (off + i.toNat) 0)))
      | .wina d oo n off len => must (szIs P e 1) (.chk (inR i len) (put o (.refa d oo n (off + i.toNat))))
      | _ => .fail
    | some (.array n e) => match x with
      | .ref d off => match kindT P e with
        | some _ => must (szIs P e 1) (.chk (inR i n) (put o (.refa d off n i.toNat)))
        | none => must (typOk P e) (.chk (inR i n) (put o (.ref d (off + i.toNat * sizeT P e))))
      | .fp (.arr k m xs) => must (szIs P e 1 && Nat.beq n m) (.chk (inR i n) (put o (.fp (.int k (getI xs i.toNat)))))
      | .fp (.agg cs) => match cs[i.toNat]? with
        | some c => must (typOk P e && Nat.beq (AV.widths (cs.take i.toNat)) (i.toNat * sizeT P e)) (.chk (inR i n) (put o (.fp c)))
        | none => .fail
      | _ => .fail
    | _ => .fail
  | _ => .fail

def opIndex (o : Oper) (t : TypeId) (x ix : AV) : Pg :=
  match ix with
  | .int _ i => match P.underlying t with
    | some .string => match x with
      | .str l => .chk (inR i l.length) (put o (.int .u8 ((l.getD i.toNat 0).toNat : Int)))
      | _ => .fail
    | some (.array n e) => match x with
      | .arr k m xs => must (szIs P e 1 && (!aggT P e && Nat.beq n m)) (.chk (inR i n) (put o (.int k (getI xs i.toNat))))
      | .agg cs => match cs[i.toNat]? with
        | some c => must (Nat.beq (AV.widths (cs.take i.toNat)) (i.toNat * sizeT P e) && (fits P e c && c.stor)) (.chk (inR i n) (put o c))
        | none => .fail
      | _ => .fail
    | _ => .fail
  | _ => .fail

def opField (o : Oper) (t : TypeId) (x : AV) (f : Nat) : Pg :=
  match P.underlying t with
  | some (.struct fs) => match fs[f]?, x with
    | some fd, .agg cs => match cs[f]? with
      | some c => must (Nat.beq (AV.widths (cs.take f)) fd.offset && (fits P fd.type c && c.stor)) (put o c)
      | none => .fail
    | _, _ => .fail
  | _ => .fail

def opExtract (o : Oper) (x : AV) (i : Nat) : Pg :=
  match x with
  | .tup vs => match vs[i]? with
    | some v => put o v
    | none => .fail
  | _ => .fail

mutual
def shEq : Sh → Sh → Bool
  | .int k, .int k' => k == k'
  | .bool, .bool => true
  | .str, .str => true
  | .arr k n, .arr k' n' => k == k' && Nat.beq n n'
  | .agg l, .agg l' => shsEq l l'
  | .fs k, .fs k' => k == k'
  | .fv s, .fv s' => shEq s s'
  | _, _ => false
def shsEq : List Sh → List Sh → Bool
  | [], [] => true
  | s :: l, s' :: l' => shEq s s' && shsEq l l'
  | _, _ => false
end

mutual
def fitA : Sh → AV → Bool
  | .int k, .int k' _ => k == k'
  | .bool, .bool _ => true
  | .str, .str _ => true
  | .arr k n, .arr k' n' _ => k == k' && Nat.beq n n'
  | .agg l, .agg cs => fitsA l cs
  | .fs k, .fs k' _ => k == k'
  | .fv s, .fv s' _ => shEq s s'
  | _, _ => false
def fitsA : List Sh → List AV → Bool
  | [], [] => true
  | s :: l, c :: cs => fitA s c && fitsA l cs
  | _, _ => false
end

def fitAll (s : Sh) : List AV → Bool
  | [] => true
  | x :: r => fitA s x && fitAll s r

/-- An own row, of its kind: its element type and what is in it. -/
def asRow (k : IntKind) : Ob → Option (TypeId × List Int)
  | .row true e k' xs => match k == k' with | true => some (e, xs) | false => none
  | .lit e (.int k') vs => match k == k' && fitAll (.int k) vs with | true => some (e, vs.map AV.toInt) | false => none
  | _ => none

def asRows (s : Sh) : Ob → Option (TypeId × List AV)
  | .rows true e s' xs => match shEq s s' with | true => some (e, xs) | false => none
  | .lit e s' vs => match shEq s s' && fitAll s vs with | true => some (e, vs) | false => none
  | _ => none

def snapL (f : AV → (AV → List Nat → Pg) → Pg) : List AV → (List AV → List Nat → Pg) → Pg
  | [], k => k [] []
  | a :: r, k => f a fun a' l => snapL f r fun r' l' => k (a' :: r') (l ++ l')

def snapZ (f : Sh → AV → (AV → List Nat → Pg) → Pg) : List Sh → List AV → (List AV → List Nat → Pg) → Pg
  | [], [], k => k [] []
  | s :: l, a :: r, k => f s a fun a' m => snapZ f l r fun r' m' => k (a' :: r') (m ++ m')
  | _, _, _ => .fail

/-- A value as data of its shape, and the objects whose memory it shows. -/
def snap : Nat → Sh → AV → (AV → List Nat → Pg) → Pg
  | 0, _, _, _ => .fail
  | n + 1, s, a, k =>
    match s, a with
    | .fs kd, .nils => k (.fs kd []) []
    | .fs kd, .own d => .obj d fun o => match o with
      | some (.row _ _ k' xs) => must (kd == k') (k (.fs kd xs) [d])
      | _ => .fail
    | .fs kd, .win d sz off len => .obj d fun o => match o with
      | some (.row _ _ k' xs) => must (kd == k' && Nat.beq sz 1) (.chk (Nat.ble (off + len) xs.length) (k (.fs kd ((xs.drop off).take len)) [d]))
      | _ => .fail
    | .fs kd, .wina d oo m off len => .obj d fun o => match o with
      | some (.box tr) => match getAt tr oo m true with
        | some (.arr k' m' xs) => must (kd == k' && Nat.beq m m') (.chk (Nat.ble (off + len) m) (k (.fs kd ((xs.drop off).take len)) [d]))
        | _ => .fail
      | _ => .fail
    | .fv s', .nils => k (.fv s' []) []
    | .fv s', .fv s'' xs => must (shEq s' s'') (k (.fv s' xs) [])
    | .fv s', .own d => .obj d fun o => match o with
      | some (.rows _ _ s'' xs) => must (shEq s' s'') (k (.fv s' xs) [d])
      | some (.lit _ s'' vs) => must (shEq s' s'') (snapL (snap n s') vs fun vs' l => k (.fv s' vs') (d :: l))
      | _ => .fail
    | .fv s', .win d sz off len => .obj d fun o => match o with
      | some (.rows _ _ s'' xs) => must (shEq s' s'' && Nat.beq sz s'.width) (.chk (Nat.ble (off + len) xs.length) (k (.fv s' ((xs.drop off).take len)) [d]))
      | _ => .fail
    | .agg l, .agg cs => snapZ (snap n) l cs fun cs' l => k (.agg cs') l
    | s, a => must (shOk s a) (k a [])

/-- The objects may be written no more. -/
def freezeL : List Nat → Pg → Pg
  | [], p => p
  | d :: l, p => .obj d fun o => match o with
    | some (.row _ e k xs) => .setObj d (.row false e k xs) (freezeL l p)
    | some (.rows _ e s xs) => .setObj d (.rows false e s xs) (freezeL l p)
    | some (.lit e s vs) => .setObj d .dead (freezeL l p)
    | _ => .fail

section
variable (P : Program) (glob : Nat → Option AV)

/-- A value as data of its shape that stays. -/
def frz (s : Sh) (a : AV) (k : AV → Pg) : Pg := snap 9 s a fun a' l => freezeL l (k a')

def setParts : List AV → List (Nat × AV) → Option (List AV)
  | items, [] => some items
  | items, (i, a) :: r => match items[i]? with
    | some c => match Nat.beq c.width a.width && a.stor with
      | true => setParts (items.set i a) r
      | false => none
    | none => none

def setInts (k : IntKind) : List Int → List (Nat × AV) → Option (List Int)
  | xs, [] => some xs
  | xs, (i, .int k' x) :: r => match k == k' && Nat.ble (i + 1) xs.length with
    | true => setInts k (xs.set i x) r
    | false => none
  | _, _ => none

/-- The fields lie one behind the other, each as wide as the zero value's. -/
def laidOut : Nat → List Field → List AV → Bool
  | _, [], [] => true
  | off, f :: fs, c :: cs => Nat.beq f.offset off && (szIs P f.type c.width && laidOut (off + c.width) fs cs)
  | _, _, _ => false

def opBuild (o : Oper) (t : TypeId) (idx : List Nat) (vs : List AV) : Pg :=
  match P.info? t, zeroAV P 9 t with
  | some i, some z => match i.zero with
    | some v => must (cvB z v && Nat.beq v.cells.size z.width) <| match P.underlying t, z with
      | some (.struct fs), .agg cs => must (laidOut P 0 fs.toList cs) <| match setParts cs (idx.zip vs) with
        | some cs' => put o (.agg cs')
        | none => .fail
      | some (.array m e), .arr k n xs => must (szIs P e 1 && Nat.beq m n) <| match setInts k xs (idx.zip vs) with
        | some xs' => put o (.arr k n xs')
        | none => .fail
      | some (.array m e), .agg cs => must ((cs.all fun c => szIs P e c.width) && !cs.isEmpty) <| match setParts cs (idx.zip vs) with
        | some cs' => put o (.agg cs')
        | none => .fail
      | _, _ => .fail
    | none => .fail
  | _, _ => .fail

def allInts (k : IntKind) : List AV → Option (List Int)
  | [] => some []
  | .int k' x :: r => match k == k' with
    | true => (allInts k r).map (x :: ·)
    | false => none
  | _ => none

/-- A literal's own row. -/
def opBuildSlice (o : Oper) (t : TypeId) (len : Nat) (idx : List Nat) (vs : List AV) : Pg :=
  match elemT P t with
  | some e => must (idx == List.range len && Nat.ble (len * sizeT P e) 16777216) <| match kindT P e, P.info? e with
    | some k, some i => match allInts k vs, i.zero with
      | some xs, some z => must (Nat.beq i.size 1 && Nat.beq z.cells.size 1) (newOb o (.row true e k xs) fun d => .own d)
      | _, _ => .fail
    | none, some i => match shT P 9 e, i.zero with
      | some s, some z => must ((Nat.beq i.size s.width && Nat.ble 1 s.width) && (Nat.beq z.cells.size s.width && vs.all fun v => Nat.beq v.width s.width && v.stor)) (newOb o (.lit e s vs) fun d => .own d)
      | _, _ => .fail
    | _, _ => .fail
  | none => .fail

def bound (x : Option AV) (dflt : Nat) (k : Int → Pg) : Pg :=
  match x with
  | none => k dflt
  | some (.int _ n) => k n
  | some _ => .fail

/-- lo, hi of a slice expression over so many: the third bound must lie inside. -/
def bounds (lo hi mx : Option AV) (len : Nat) (k : Nat → Nat → Pg) : Pg :=
  must (match mx, hi with | some _, none => false | _, _ => true) <|
  bound mx len fun m => bound hi len fun h => bound lo 0 fun l =>
    .chk (decide (0 ≤ l) && (decide (l ≤ h) && (decide (h ≤ m) && decide (m ≤ len)))) (k l.toNat h.toNat)

def opSlice (o : Oper) (t : TypeId) (x : AV) (lo hi mx : Option AV) : Pg :=
  match P.underlying t with
  | some .string => match x, mx with
    | .str l, none => bounds lo hi none l.length fun a b => put o (.str ((l.drop a).take (b - a)))
    | _, _ => .fail
  | some (.slice e) => match x with
    | .nils => must (typOk P e) (bounds lo hi mx 0 fun _ _ => put o .nils)
    | .fs k xs => must (szIs P e 1) (bounds lo hi mx xs.length fun a b => put o (.fs k ((xs.drop a).take (b - a))))
    | .fv s xs => must (szIs P e s.width) (bounds lo hi mx xs.length fun a b => put o (.fv s ((xs.drop a).take (b - a))))
    | .own d => .obj d fun b => match b with
      | some (.row _ _ _ xs) => must (szIs P e 1) (bounds lo hi mx xs.length fun a b => put o (.win d 1 a (b - a)))
      | some (.rows _ _ s xs) => must (szIs P e s.width) (bounds lo hi mx xs.length fun a b => put o (.win d s.width a (b - a)))
      | _ => .fail
    | .win d sz off len => must (szIs P e sz) (bounds lo hi mx len fun a b => put o (.win d sz (off + a) (b - a)))
    | .wina d oo n off len => must (szIs P e 1) (bounds lo hi mx len fun a b => put o (.wina d oo n (off + a) (b - a)))
    | _ => .fail
  | some (.array n e) => must (szIs P e 1) <| match x with
    | .ref d off => bounds lo hi mx n fun a b => put o (.wina d off n a (b - a))
    | .fp (.arr k m xs) => must (Nat.beq n m) (bounds lo hi mx n fun a b => put o (.fs k ((xs.drop a).take (b - a))))
    | _ => .fail
  | _ => .fail

def opLen (o : Oper) (t : TypeId) (x : AV) : Pg :=
  let r (n : Nat) : Pg := put o (.int .i64 n)
  match P.underlying t with
  | some .string => match x with
    | .str l => r l.length
    | _ => .fail
  | some (.array n _) => r n
  | some (.slice _) => match x with
    | .nils => r 0
    | .fs _ xs => r xs.length
    | .fv _ xs => r xs.length
    | .win _ _ _ len => r len
    | .wina _ _ _ _ len => r len
    | .own d => .obj d fun b => match b with
      | some (.row _ _ _ xs) => r xs.length
      | some (.rows _ _ _ xs) => r xs.length
      | some (.lit _ _ vs) => r vs.length
      | _ => .fail
    | _ => .fail
  | _ => .fail

def opConvert (o : Oper) (src dst : TypeId) (x : AV) : Pg :=
  match P.underlying dst with
  | some (.int k) => match x, P.underlying src with
    | .int _ n, some _ => put o (.int k (k.wrap n))
    | _, _ => .fail
  | some .string => match P.underlying src with
    | some .string => match x with
      | .str l => put o (.str l)
      | _ => .fail
    | some (.slice e) => match kindT P e with
      | some .u8 => snap 2 (.fs .u8) x fun a _ => match a with
        | .fs _ xs => put o (.str (xs.map toU8))
        | _ => .fail
      | _ => .fail
    | _ => .fail
  | some (.slice e) => match P.underlying src, x, kindT P e with
    | some .string, .str l, some .u8 => .chk (Nat.ble l.length 140737488355328) (newOb o (.row true e .u8 (l.map fun b => (b.toNat : Int))) fun d => .own d)
    | some (.slice _), .own d, some .u8 => must (Nat.beq src dst) (.obj d fun q => match q with
      | some ob => match asRow .u8 ob with
        | some (_, _ :: _) => put o (.own d)
        | _ => .fail
      | none => .fail)
    | _, _, _ => .fail
  | _ => .fail

def opUn (o : Oper) (u : UnOp) (x : AV) : Pg :=
  match u, x with
  | .not, .bool b => put o (.bool (!b))
  | .neg, .int k n => put o (.int k (k.wrap (0 - n)))
  | _, _ => .fail

mutual
/-- Equality of values without memory. -/
def eqv : AV → AV → Option Bool
  | .bool a, .bool b => some (a == b)
  | .int _ a, .int _ b => some (a == b)
  | .str a, .str b => some (a == b)
  | .arr _ _ a, .arr _ _ b => some (a == b)
  | .agg a, .agg b => eqvs a b
  | _, _ => none
def eqvs : List AV → List AV → Option Bool
  | [], [] => some true
  | a :: as, b :: bs => match eqv a b, eqvs as bs with
    | some p, some q => some (p && q)
    | _, _ => none
  | _, _ => none
end

/-- May values of this type be held against one another field by field? -/
def cmpT : Nat → Sh → TypeId → Bool
  | 0, _, _ => false
  | n + 1, s, t => match s, P.underlying t with
    | .bool, some .bool => true
    | .int k, some (.int k') => k == k'
    | .str, some .string => true
    | .arr k m, some (.array m' e) => Nat.beq m m' && (szIs P e 1 && (match P.underlying e with | some (.int k') => k == k' | _ => false))
    | .agg l, some (.struct fs) => !P.stoodInHeld t && (Nat.beq l.length fs.size && (l.zip fs.toList).all fun x => x.2.name != "_" && (cmpT n x.1 x.2.type && szIs P x.2.type x.1.width))
    | _, _ => false

def offsOk : Nat → List Sh → List Field → Bool
  | _, [], [] => true
  | off, s :: l, f :: fs => Nat.beq f.offset off && offsOk (off + s.width) l fs
  | _, _, _ => false

def intBin (op : BinOp) (k : IntKind) (x y : Int) (K : AV → Pg) : Pg :=
  match op with
  | .add => K (.int k (k.wrap (x + y)))
  | .sub => K (.int k (k.wrap (x - y)))
  | .mul => K (.int k (k.wrap (x * y)))
  | .quo => .chk (!(y == 0)) (K (.int k (k.wrap (x.tdiv y))))
  | .rem => .chk (!(y == 0)) (K (.int k (x.tmod y)))
  | .and => K (.int k (k.wrap ((BitVec.ofInt k.bits x &&& BitVec.ofInt k.bits y).toNat : Int)))
  | .or => K (.int k (k.wrap ((BitVec.ofInt k.bits x ||| BitVec.ofInt k.bits y).toNat : Int)))
  | .xor => K (.int k (k.wrap ((BitVec.ofInt k.bits x ^^^ BitVec.ofInt k.bits y).toNat : Int)))
  | .andNot => K (.int k (k.wrap ((BitVec.ofInt k.bits x &&& ~~~ BitVec.ofInt k.bits y).toNat : Int)))
  | .eql => K (.bool (x == y))
  | .neq => K (.bool (x != y))
  | .lss => K (.bool (decide (x < y)))
  | .leq => K (.bool (decide (x ≤ y)))
  | .gtr => K (.bool (decide (x > y)))
  | .geq => K (.bool (decide (x ≥ y)))
  | _ => .fail

def opBin (o : Oper) (op : BinOp) (t : TypeId) (x y : AV) : Pg :=
  let K (v : AV) : Pg := put o v
  match op, x, y with
  | .shl, .int k a, .int _ b => .chk (decide (0 ≤ b)) (K (.int k (k.wrap (a * 2 ^ (min b.toNat k.bits)))))
  | .shr, .int k a, .int _ b => .chk (decide (0 ≤ b)) (K (.int k (a.fdiv (2 ^ (min b.toNat k.bits)))))
  | op, .int k a, .int k' b => must (k == k') (intBin op k a b K)
  | .add, .str a, .str b => .chk (Nat.ble (a.length + b.length) 140737488355328) (K (.str (a ++ b)))
  | .eql, .str a, .str b => K (.bool (a == b))
  | .neq, .str a, .str b => K (.bool (!(a == b)))
  | .eql, .bool a, .bool b => must (match P.underlying t with | some .bool => true | _ => false) (K (.bool (a == b)))
  | .neq, .bool a, .bool b => must (match P.underlying t with | some .bool => true | _ => false) (K (.bool (!(a == b))))
  | _, _, _ => .fail

/-- 'append(s, x...)'. -/
def opAppend (o : Oper) (tx : TypeId) (ts : TypeId) (s x : AV) : Pg :=
  match elemT P ts, o.dst with
  | some e, some dd => match P.info? e with
    | some i => match i.zero with
      | some z =>
        -- what is there, what comes, what becomes of what was there
        let fin (ob : Ob) (n m : Nat) (p : Pg → Pg) : Pg :=
          .chk (Nat.ble ((n + m) * i.bytes) 140737488355328) (.obj dd fun q => match q with
            | none => p (.setObj dd ob (.setSlot dd (.own dd) .done))
            | some _ => .fail)
        must (Nat.beq z.cells.size i.size && Nat.beq ts tx) <|
        match kindT P e with
        | some k => must (Nat.beq i.size 1 && Nat.ble 1 i.bytes) <| snap 2 (.fs k) x fun x' l => match x' with
          | .fs _ ys => match s with
            | .nils => fin (.row true e k ys) 0 ys.length id
            | .own d => .obj d fun q => match q with
              | some ob => match asRow k ob with
                | some (e', xs) => must (Nat.beq e e' && !l.contains d) (fin (.row true e k (xs ++ ys)) xs.length ys.length fun p => .setObj d .dead p)
                | none => .fail
              | none => .fail
            | _ => .fail
          | _ => .fail
        | none => match shT P 9 e with
          | some sh => must (Nat.beq i.size sh.width && (Nat.ble 1 i.size && Nat.ble 1 i.bytes)) <| frz (.fv sh) x fun x' => match x' with
            | .fv _ ys => match s with
              | .nils => fin (.rows true e sh ys) 0 ys.length id
              | .own d => .obj d fun q => match q with
                | some ob => match asRows sh ob with
                  | some (e', xs) => must (Nat.beq e e') (fin (.rows true e sh (xs ++ ys)) xs.length ys.length fun p => .setObj d .dead p)
                  | none => .fail
                | none => .fail
              | _ => .fail
            | _ => .fail
          | none => .fail
      | none => .fail
    | none => .fail
  | _, _ => .fail

/-- 'make([]T, n)' of numbers. -/
def opMake (o : Oper) (t : TypeId) (l c : AV) : Pg :=
  match l, c, elemT P t with
  | .int _ n, .int _ m, some e => match kindT P e, P.info? e with
    | some k, some i => match i.zero with
      | some z => must (cvB (.int k 0) z && (Nat.beq i.size 1 && Nat.ble 1 i.bytes)) (.chk (decide (0 ≤ n) && (n == m && decide (n * i.bytes ≤ 140737488355328))) (newOb o (.row true e k (List.replicate n.toNat 0)) fun d => .own d))
      | none => .fail
    | _, _ => .fail
  | _, _, _ => .fail

/-- The name of a call's own result. -/
def resName (d : Nat) : Nat := 100000 + d

def snapArgs : List TypeId → List AV → (List AV → List Nat → Pg) → Pg
  | [], [], k => k [] []
  | t :: ts, a :: as, k => match shT P 9 t with
    | some s => snap 9 s a fun a' l => snapArgs ts as fun as' l' => k (a' :: as') (l ++ l')
    | none => .fail
  | _, _, _ => .fail

def asOb (t : TypeId) (v : AV) : Option Ob :=
  match elemT P t, v with
  | some e, .fs k xs => some (.row true e k xs)
  | some e, .fv s xs => some (.rows true e s xs)
  | _, _ => none

def resTypes (t : TypeId) (n : Nat) : List TypeId :=
  match n, P.underlying t with
  | 1, _ => [t]
  | _, some (.tuple ts) => ts.toList
  | _, _ => []

def resFin (o : Oper) (vs : List AV) : Pg := match vs with | [v] => put o v | vs => put o (.tup vs)

/-- The results into the state: the one of the callee's own becomes an object of this one. -/
def resPut (o : Oper) (ty : List TypeId) (own : Option Nat) (vs : List AV) : Pg :=
  match own with
  | none => resFin o vs
  | some j => match vs[j]?, ty[j]? with
    | some v, some t => match asOb P t v with
      | some b => .obj (resName (o.dst.getD 0)) fun q => match q with
        | none => .setObj (resName (o.dst.getD 0)) b (resFin o (vs.set j (.own (resName (o.dst.getD 0)))))
        | some _ => .fail
      | none => .fail
    | _, _ => .fail

def opCall (cal : FuncId → Option Cal) (o : Oper) (f : FuncId) (ts : List TypeId) (as : List AV) : Pg :=
  match cal f with
  | some c => snapArgs P ts as fun as' l => match c.dec as' with
    | some x => must (resTypes P o.type c.ty.length == c.ty) <| .call c x fun r =>
      match c.esc with
      | true => freezeL l (resPut P o c.ty c.own (c.res r))
      | false => resPut P o c.ty c.own (c.res r)
    | none => .fail
  | none => .fail

def aopCall (cal : FuncId → Option Cal) (o : Oper) (c : Call) : Pg :=
  match c.callee with
  | .builtin .len => match c.args.toList, c.argTypes.toList with
    | [x], [t] => ev glob x (opLen P o t)
    | _, _ => .fail
  | .builtin .append => match c.args.toList, c.argTypes.toList with
    | [s, x], [ts, tx] => ev glob s fun s => ev glob x fun x => opAppend P o tx ts s x
    | _, _ => .fail
  | .value (.func f) => evL glob c.args.toList fun as => opCall P cal o f c.argTypes.toList as
  | _ => .fail

def aop (cal : FuncId → Option Cal) (o : Oper) : Pg :=
  match o.op with
  | .move x => ev glob x (put o)
  | .assign x => ev glob x (put o)
  | .pick c x y => ev glob c fun c => ev glob x fun x => ev glob y fun y => opPick o c x y
  | .box _ x => ev glob x (opBox o)
  | .alloc e => opAlloc P o e
  | .load t x => ev glob x fun a => ld P t a (put o)
  | .store t x v => match o.dst with
    | none => ev glob x fun a => ev glob v fun v => st P t a v
    | some _ => .fail
  | .fieldAddr s x f => ev glob x fun a => opFieldAddr P o s a f
  | .field s x f => ev glob x fun a => opField P o s a f
  | .indexAddr t x i => ev glob x fun a => ev glob i fun i => opIndexAddr P o t a i
  | .index t x i => ev glob x fun a => ev glob i fun i => opIndex P o t a i
  | .extract x i => ev glob x fun a => opExtract o a i
  | .build t parts => evL glob (parts.toList.map (·.2)) fun vs => opBuild P o t (parts.toList.map (·.1)) vs
  | .buildSlice t len parts => evL glob (parts.toList.map (·.2)) fun vs => opBuildSlice P o t len (parts.toList.map (·.1)) vs
  | .slice t x lo hi mx => ev glob x fun a => evO glob lo fun lo => evO glob hi fun hi => evO glob mx fun mx => opSlice P o t a lo hi mx
  | .convert s d x => ev glob x (opConvert P o s d)
  | .unOp u _ x => ev glob x (opUn o u)
  | .binOp op t x y _ => ev glob x fun a => ev glob y fun b => opBin P o op t a b
  | .makeSlice t l c => ev glob l fun l => ev glob c fun c => opMake P o t l c
  | .call c => aopCall P glob cal o c
  | _ => .fail
end
end
end Go.Am
