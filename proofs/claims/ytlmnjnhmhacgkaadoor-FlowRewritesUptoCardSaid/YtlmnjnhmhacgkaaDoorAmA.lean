/-
  An abstract interpreter over the model's code: values, states, operations.
-/
import Derived.Orders
import Derived.Below
import Derived.Maps.AppendAt
section
set_option linter.unusedVariables false
namespace Go.Am
inductive Sh where
 | int (k:IntKind) | bool | str | arr (k:IntKind) (n:Nat) | agg (l:List Sh) | fs (k:IntKind) | nl (k:IntKind) | fv (s:Sh) | pt (f:Nat) | mp (f:Nat)
inductive Nm where
 | top (d:Nat)
 | mem (f i:Nat)
def Nm.beq:Nm→Nm→Bool
 | .top a,.top b=>Nat.beq a b
 | .mem f i,.mem g j=>match Nat.beq f g with | true=>Nat.beq i j | false=>false
 | _,_=>false
theorem Nm.beq_iff {a b:Nm}:Nm.beq a b=true↔a=b:=by
 cases a with
 | top x=>cases b with
  | top y=>simp [Nm.beq]
  | mem g j=>simp [Nm.beq]
 | mem f i=>cases b with
  | top y=>simp [Nm.beq]
  | mem g j=>
   by_cases h:f=g
   ·subst h; simp [Nm.beq]
   ·have:Nat.beq f g=false:=by cases hb:Nat.beq f g <;> simp_all
    simp [Nm.beq,this,h]
instance:DecidableEq Nm:=fun a b=>match h:Nm.beq a b with
 | true=>isTrue (Nm.beq_iff.1 h)
 | false=>isFalse (fun e=>by rw [Nm.beq_iff.2 e] at h; cases h)
inductive AV where
 | undef
 | bool (b:Bool)
 | int (k:IntKind) (n:Int)
 | str (l:List UInt8)
 | nils
 | nilp
 | nili
 | nilm
 | arr (k:IntKind) (n:Nat) (xs:List Int)
 | agg (cs:List AV)
 | fs (k:IntKind) (xs:List Int)
 | fv (s:Sh) (xs:List AV)
 | own (d:Nm)
 | win (d:Nm) (sz off len:Nat)
 | wina (d:Nm) (o n off len:Nat)
 | ref (d:Nm) (off:Nat)
 | refa (d:Nm) (off n i:Nat)
 | eref (d:Nm) (sz i off:Nat)
 | refw (d:Nm) (o n off m:Nat)
 | fp (t:AV)
 | tup (vs:List AV)
 | fn (f:FuncId)
 | clo (f:FuncId) (caps:List AV)
 | pt (f:Nat) (o:Option Nat)
 | mp (f:Nat) (o:Option Nat)
 | mc (es:List AV) (clk:Int)
def AV.item (x:AV) (i:Nat):AV:=match x with | .agg cs=>cs.getD i .undef | _=>.undef
def AV.toInt (x:AV):Int:=match x with | .int _ n=>n | _=>0
def AV.toBool (x:AV):Bool:=match x with | .bool b=>b | _=>false
def AV.toStr (x:AV):List UInt8:=match x with | .str l=>l | _=>[]
def AV.toInts (x:AV):List Int:=match x with | .fs _ xs=>xs | .arr _ _ xs=>xs | _=>[]
def AV.toElems (x:AV):List AV:=match x with | .fv _ xs=>xs | .tup xs=>xs | _=>[]
def AV.toPt (x:AV):Option Nat:=match x with | .pt _ o=>o | .mp _ o=>o | _=>none
def AV.ments (x:AV):List AV:=match x with | .mc es _=>es | _=>[]
def AV.mclk (x:AV):Int:=match x with | .mc _ c=>c | _=>0
mutual
def eta:Sh→AV→AV
 | .int k,x=>.int k x.toInt
 | .bool,x=>.bool x.toBool
 | .str,x=>.str x.toStr
 | .arr k n,x=>.arr k n x.toInts
 | .agg l,x=>.agg (etas l 0 x)
 | .fs k,x=>.fs k x.toInts
 | .nl k,x=>match x with
  | .nils=>.nils
  | x=>.fs k x.toInts
 | .fv s,x=>.fv s x.toElems
 | .pt f,x=>.pt f x.toPt
 | .mp f,x=>.mp f x.toPt
def etas:List Sh→Nat→AV→List AV
 | [],_,_=>[]
 | s::l,i,x=>eta s (x.item i)::etas l (i+1) x
end
def getI (xs:List Int) (i:Nat):Int:=xs.getD i 0
def getE (xs:List AV) (i:Nat):AV:=xs.getD i .undef
inductive Ob where
 | dead
 | box (t:AV)
 | row (own:Bool) (e:TypeId) (k:IntKind) (xs:List Int)
 | rows (own:Bool) (e:TypeId) (s:Sh) (xs:List AV)
 | lit (e:TypeId) (s:Sh) (vs:List AV)
 | rowS (e:TypeId) (k:IntKind) (xs sp:List Int)
 | mapo (ks vs:Sh) (es:List AV) (clk:Int)
 | iter (f i:Nat) (since:Int) (seen:List Int) (c0:Int)
structure Fam where
 e:TypeId
 s:Sh
 ks:Option Sh
 l:List AV
structure FamD where
 f:Nat
 e:TypeId
 s:Sh
 ks:Option Sh
mutual
def inF (fs:List FamD):Sh→Bool
 | .pt f=>fs.any fun D=>Nat.beq f D.f
 | .mp f=>fs.any fun D=>Nat.beq f D.f
 | .agg l=>inFs fs l
 | .fv s=>inF fs s
 | _=>true
def inFs (fs:List FamD):List Sh→Bool
 | []=>true
 | s::l=>inF fs s && inFs fs l
end
structure St where
 tm:List AV
 ob:List (Nat × Ob)
 fm:List (Nat × Fam)
def St.slot (S:St) (i:Nat):AV:=S.tm.getD i .undef
def St.setSlot (S:St) (i:Nat) (v:AV):St:={ S with tm:=S.tm.set i v }
def look:List (Nat × Ob)→Nat→Option Ob
 | [],_=>none
 | x::r,d=>match Nat.beq d x.1 with
  | true=>some x.2
  | false=>look r d
def lookF:List (Nat × Fam)→Nat→Option Fam
 | [],_=>none
 | x::r,f=>match Nat.beq f x.1 with
  | true=>some x.2
  | false=>lookF r f
def setF:List (Nat × Fam)→Nat→List AV→List (Nat × Fam)
 | [],_,_=>[]
 | x::r,f,l=>match Nat.beq f x.1 with
  | true=>(x.1,{ x.2 with l:=l })::r
  | false=>x::setF r f l
def Fam.at (F:Fam) (i:Nat):Ob:=match F.ks with
 | none=>.box (eta F.s (getE F.l i))
 | some ks=>.mapo ks F.s (getE F.l i).ments (getE F.l i).mclk
def St.obj (S:St):Nm→Option Ob
 | .top d=>look S.ob d
 | .mem f i=>match lookF S.fm f with
  | some F=>some (F.at i)
  | none=>none
def St.setObj (S:St) (d:Nat) (o:Ob):St:={ S with ob:=(d,o)::S.ob }
def St.fam (S:St) (f:Nat):Option Fam:=lookF S.fm f
def St.setFam (S:St) (f:Nat) (l:List AV):St:={ S with fm:=setF S.fm f l }
def St.has (S:St):Nm→Prop
 | .top d=>S.obj (.top d)≠none
 | .mem f i=>∃ F,S.fam f=some F∧i<F.l.length
def brO {R:Type} (b:Bool) (x y:Option R):Option R:=match b with | true=>x | false=>y
noncomputable def allO {R:Type} (m:Nat) (f:Nat→Option R):Option R:=open Classical in if h:∃ r,0<m∧∀ i,i<m→f i=some r then some h.choose else none
theorem allO_some {R:Type} {m:Nat} {f:Nat→Option R} {r:R}:allO m f=some r↔0<m∧∀ i,i<m→f i=some r:=by
 unfold allO
 constructor
 ·intro h
  split at h
  ·rename_i hh
   cases h
   exact hh.choose_spec
  ·cases h
 ·intro h
  have hh:∃ r,0<m∧∀ i,i<m→f i=some r:=⟨r,h⟩
  rw [dif_pos hh]
  have h1:=hh.choose_spec
  rw [←h1.2 0 h1.1,h.2 0 h.1]
inductive Pk where
 | val (s:Sh)
 | io (s:Sh)
 | fn (f:FuncId)
structure Cal where
 F:Nat→List AV→Option (List AV)
 ps:List Pk
 fs:List FamD
 res:List AV→List AV
 ty:List TypeId
 own:Option Nat
 esc:Bool
 ro:Bool:=false
 row:Option (TypeId × IntKind):=none
structure Env where
 glob:Nat→Option AV
 ar:TypeId→Option Nat
 am:TypeId→Option Nat
 al:TypeId→Nat→Bool
inductive Pg where
 | done
 | fail
 | slot (i:Nat) (k:AV→Pg)
 | obj (d:Nm) (k:Option Ob→Pg)
 | setSlot (i:Nat) (v:AV) (k:Pg)
 | setObj (d:Nat) (o:Ob) (k:Pg)
 | chk (b:Bool) (k:Pg)
 | call (c:Cal) (x:List AV) (k:List AV→Pg)
 | fam (f:Nat) (k:Option Fam→Pg)
 | setFam (f:Nat) (l:List AV) (k:Pg)
 | ask (m:Nat) (k:Nat→Pg)
 | br (b:Bool) (p q:Pg)
noncomputable def Pg.run (n:Nat) {R:Type}:Pg→St→(St→Option R)→Option R
 | .done,S,K=>K S
 | .fail,_,_=>none
 | .slot i k,S,K=>(k (S.slot i)).run n S K
 | .obj d k,S,K=>(k (S.obj d)).run n S K
 | .setSlot i v k,S,K=>k.run n (S.setSlot i v) K
 | .setObj d o k,S,K=>k.run n (S.setObj d o) K
 | .chk b k,S,K=>brO b (k.run n S K) none
 | .call c x k,S,K=>(c.F n x).bind fun r=>(k r).run n S K
 | .fam f k,S,K=>(k (S.fam f)).run n S K
 | .setFam f l k,S,K=>k.run n (S.setFam f l) K
 | .ask m k,S,K=>allO m fun i=>(k i).run n S K
 | .br b p q,S,K=>brO b (p.run n S K) (q.run n S K)
structure Rp where
 n:Nat
 c:Nat
def Pg.exe (n:Rp):Pg→St→Option St
 | .done,S=>some S
 | .fail,_=>none
 | .slot i k,S=>(k (S.slot i)).exe n S
 | .obj d k,S=>(k (S.obj d)).exe n S
 | .setSlot i v k,S=>k.exe n (S.setSlot i v)
 | .setObj d o k,S=>k.exe n (S.setObj d o)
 | .chk b k,S=>brO b (k.exe n S) none
 | .call c x k,S=>(c.F n.n x).bind fun r=>(k r).exe n S
 | .fam f k,S=>(k (S.fam f)).exe n S
 | .setFam f l k,S=>k.exe n (S.setFam f l)
 | .ask m k,S=>match m with
  | 0=>none
  | m+1=>(k (n.c % (m+1))).exe n S
 | .br b p q,S=>brO b (p.exe n S) (q.exe n S)
theorem run_exe {n:Nat} {R:Type} {x:R} (c:Nat):∀ (p:Pg) (S:St) (K:St→Option R),p.run n S K=some x→∃ S',p.exe ⟨n,c⟩ S=some S'∧K S' = some x
 | .done,S,K,h=>⟨S,rfl,h⟩
 | .fail,S,K,h=>by cases h
 | .slot i k,S,K,h=>run_exe c (k (S.slot i)) S K h
 | .obj d k,S,K,h=>run_exe c (k (S.obj d)) S K h
 | .setSlot i v k,S,K,h=>run_exe c k _ K h
 | .setObj d o k,S,K,h=>run_exe c k _ K h
 | .chk b k,S,K,h=>by
  cases b with
  | false=>cases h
  | true=>exact run_exe c k S K h
 | .call cl y k,S,K,h=>by
  simp only [Pg.run] at h
  cases hF:cl.F n y with
  | none=>rw [hF] at h; cases h
  | some r=>
   rw [hF] at h
   obtain ⟨S',h1,h2⟩:=run_exe c (k r) S K h
   exact ⟨S',by simp only [Pg.exe,hF,Option.bind_some]; exact h1,h2⟩
 | .fam f k,S,K,h=>run_exe c (k (S.fam f)) S K h
 | .setFam f l k,S,K,h=>run_exe c k _ K h
 | .ask m k,S,K,h=>by
  obtain ⟨h0,h1⟩:=allO_some.1 h
  cases m with
  | zero=>omega
  | succ m=>exact run_exe c (k (c % (m+1))) S K (h1 _ (Nat.mod_lt _ h0))
 | .br b p q,S,K,h=>by
  cases b with
  | false=>exact run_exe c q S K h
  | true=>exact run_exe c p S K h
end Go.Am
end
section
set_option linter.unusedVariables false
namespace Go.Am
mutual
def AV.width:AV→Nat
 | .arr _ n _=>n
 | .agg cs=>AV.widths cs
 | _=>1
def AV.widths:List AV→Nat
 | []=>0
 | a::as=>a.width+AV.widths as
end
def AV.isAgg:AV→Bool
 | .arr ..=>true
 | .agg _=>true
 | _=>false
mutual
def Sh.width:Sh→Nat
 | .arr _ n=>n
 | .agg l=>Sh.widths l
 | _=>1
def Sh.widths:List Sh→Nat
 | []=>0
 | s::l=>s.width+Sh.widths l
end
mutual
def WT:Sh→AV→Prop
 | .int k,x=>∃ n,x=.int k n
 | .bool,x=>∃ b,x=.bool b
 | .str,x=>∃ l,x=.str l
 | .arr k n,x=>∃ xs,x=.arr k n xs
 | .agg l,x=>∃ cs,x=.agg cs∧WTs l cs
 | .fs k,x=>∃ xs,x=.fs k xs
 | .nl k,x=>x=.nils∨∃ xs,x=.fs k xs
 | .fv s,x=>∃ xs,x=.fv s xs
 | .pt f,x=>∃ o,x=.pt f o
 | .mp f,x=>∃ o,x=.mp f o
def WTs:List Sh→List AV→Prop
 | [],cs=>cs=[]
 | s::l,cs=>∃ c r,cs=c::r∧WT s c∧WTs l r
end
mutual
theorem eta_of_WT:∀ (s:Sh) (x:AV),WT s x→eta s x=x
 | .int k,x,h=>by obtain ⟨n,rfl⟩:=h; rfl
 | .bool,x,h=>by obtain ⟨n,rfl⟩:=h; rfl
 | .str,x,h=>by obtain ⟨n,rfl⟩:=h; rfl
 | .arr k n,x,h=>by obtain ⟨n,rfl⟩:=h; rfl
 | .agg l,x,h=>by
  obtain ⟨cs,rfl,hc⟩:=h
  simp only [eta]
  have h2:=etas_of_WT l [] cs hc
  simp only [List.length_nil,List.nil_append] at h2
  rw [h2]
 | .fs k,x,h=>by obtain ⟨n,rfl⟩:=h; rfl
 | .nl k,x,h=>by rcases h with rfl | ⟨n,rfl⟩ <;> rfl
 | .fv s,x,h=>by obtain ⟨n,rfl⟩:=h; rfl
 | .pt f,x,h=>by obtain ⟨n,rfl⟩:=h; rfl
 | .mp f,x,h=>by obtain ⟨n,rfl⟩:=h; rfl
theorem etas_of_WT:∀ (l:List Sh) (p cs:List AV),WTs l cs→etas l p.length (.agg (p++cs))=cs
 | [],p,cs,h=>by simp only [WTs] at h; subst h; rfl
 | s::l,p,cs,h=>by
  obtain ⟨c,r,rfl,hc,hr⟩:=h
  have h1:(AV.agg (p++c::r)).item p.length=c:=by simp [AV.item]
  have h2:=etas_of_WT l (p++[c]) r hr
  simp only [List.length_append,List.length_cons,List.length_nil,Nat.zero_add,List.append_assoc,List.cons_append,List.nil_append] at h2
  simp only [etas,h1,h2,eta_of_WT s c hc]
end
mutual
theorem WT_width:∀ (s:Sh) (x:AV),WT s x→x.width=s.width
 | .int k,x,h=>by obtain ⟨n,rfl⟩:=h; rfl
 | .bool,x,h=>by obtain ⟨n,rfl⟩:=h; rfl
 | .str,x,h=>by obtain ⟨n,rfl⟩:=h; rfl
 | .arr k n,x,h=>by obtain ⟨n,rfl⟩:=h; rfl
 | .agg l,x,h=>by
  obtain ⟨cs,rfl,hc⟩:=h
  simp only [AV.width,Sh.width]
  exact WTs_width l cs hc
 | .fs k,x,h=>by obtain ⟨n,rfl⟩:=h; rfl
 | .nl k,x,h=>by rcases h with rfl | ⟨n,rfl⟩ <;> rfl
 | .fv s,x,h=>by obtain ⟨n,rfl⟩:=h; rfl
 | .pt f,x,h=>by obtain ⟨n,rfl⟩:=h; rfl
 | .mp f,x,h=>by obtain ⟨n,rfl⟩:=h; rfl
theorem WTs_width:∀ (l:List Sh) (cs:List AV),WTs l cs→AV.widths cs=Sh.widths l
 | [],cs,h=>by simp only [WTs] at h; subst h; rfl
 | s::l,cs,h=>by
  obtain ⟨c,r,rfl,hc,hr⟩:=h
  simp only [AV.widths,Sh.widths,WT_width s c hc,WTs_width l r hr]
end
def cellsAt (w:World) (a:Addr) (cs:List Value):Prop:=∀ j u,cs[j]? = some u→w.cell? (a.add j)=some u
def ints (k:IntKind) (xs:List Int):List Value:=xs.map (.int k)
mutual
def CV (w:World) (ok:Nat→Prop) (θ:Nm→Option Value):AV→Value→Prop
 | .undef,_=>True
 | .bool b,v=>v=.bool b
 | .int k n,v=>v=.int k n
 | .str l,v=>v=.string ⟨l.toArray⟩
 | .nils,v=>v=.slice none 0 0
 | .nilp,v=>v=.pointer none
 | .nili,v=>v=.nilIface
 | .arr k n xs,v=>xs.length=n∧v=.agg (ints k xs).toArray
 | .agg cs,v=>∃ vs:Array Value,v=.agg vs∧CVs w ok θ cs vs.toList
 | .fs k xs,v=>∃ A c,v=.slice A xs.length c∧xs.length≤c∧(0<xs.length→∃ ad,A=some ad∧ok ad.block∧cellsAt w ad (ints k xs))
 | .fv s xs,v=>∃ A c cs,v=.slice A xs.length c∧xs.length≤c∧(∀ x∈xs,WT s x)∧CVs w ok θ xs cs∧(0<xs.length→∃ ad,A=some ad∧ok ad.block∧cellsAt w ad cs)
 | .own d,v=>θ d=some v∧∃ A n c,v=.slice A n c
 | .win d sz off len,v=>∃ A' c',v=.slice A' len c'∧len≤c'∧(0<len→∃ g n c,θ d=some (.slice (some ⟨g,0,none⟩) n c)∧off+len≤n∧A' = some ⟨g,off * sz,none⟩)
 | .wina d o n off len,v=>∃ A' c',v=.slice A' len c'∧len≤c'∧off+len≤n∧(0<len→∃ g,θ d=some (.pointer (some ⟨g,0,none⟩))∧A' = some ⟨g,o+off,none⟩)
 | .ref d off,v=>∃ g,θ d=some (.pointer (some ⟨g,0,none⟩))∧v=.pointer (some ⟨g,off,none⟩)
 | .refa d off n i,v=>i<n∧∃ g,θ d=some (.pointer (some ⟨g,0,none⟩))∧v=.pointer (some ⟨g,off+i,none⟩)
 | .eref d sz i off,v=>∃ g n c,θ d=some (.slice (some ⟨g,0,none⟩) n c)∧i<n∧v=.pointer (some ⟨g,i * sz+off,none⟩)
 | .refw d o n off m,v=>off+m≤n∧∃ g,θ d=some (.pointer (some ⟨g,0,none⟩))∧v=.pointer (some ⟨g,o+off,none⟩)
 | .fp t,v=>∃ a u,v=.pointer (some a)∧ok a.block∧CV w ok θ t u∧cellsAt w a u.cells.toList
 | .tup vs,v=>∃ us:Array Value,v=.tuple us∧CVt w ok θ vs us.toList
 | .fn f,v=>v=.func (.func f) #[] #[]
 | .nilm,v=>v=.map none
 | .clo f caps,v=>∃ us:Array Value,v=.func (.func f) #[] us∧CVt w ok θ caps us.toList
 | .pt f o,v=>match o with
  | none=>v=.pointer none
  | some i=>θ (.mem f i)=some v∧∃ g,v=.pointer (some ⟨g,0,none⟩)
 | .mp f o,v=>match o with
  | none=>v=.map none
  | some i=>θ (.mem f i)=some v∧∃ g,v=.map (some g)
 | .mc _ _,_=>False
def CVs (w:World) (ok:Nat→Prop) (θ:Nm→Option Value):List AV→List Value→Prop
 | [],vs=>vs=[]
 | a::as,vs=>∃ v rest,vs=v.cells.toList++rest∧v.cells.size=a.width∧CV w ok θ a v∧CVs w ok θ as rest
def CVt (w:World) (ok:Nat→Prop) (θ:Nm→Option Value):List AV→List Value→Prop
 | [],vs=>vs=[]
 | a::as,vs=>∃ v rest,vs=v::rest∧CV w ok θ a v∧CVt w ok θ as rest
end
section
variable {w w' : World} {ok ok' : Nat→Prop} {θ θ' : Nm→Option Value}
theorem block_add (a:Addr) (n:Nat):(a.add n).block=a.block:=by unfold Addr.add; split <;> rfl
theorem add_lit (g o j:Nat):(⟨g,o,none⟩ : Addr).add j=⟨g,o+j,none⟩:=by unfold Addr.add; split <;> simp_all
theorem add_add' (a:Addr) (i j:Nat):(a.add i).add j=a.add (i+j):=by
 unfold Addr.add
 by_cases hi:i=0 <;> by_cases hj:j=0 <;> simp [hi,hj,Nat.add_assoc]
theorem cellsAt_mono {a:Addr} {cs:List Value} (h:w'.heap[a.block]? = w.heap[a.block]?) (hc:cellsAt w a cs):cellsAt w' a cs:=fun j u hj=>by
 rw [World.cell?_of_block (w:=w) (by rw [block_add]; exact h)]
 exact hc j u hj
structure Keeps (w w' : World) (ok ok' : Nat→Prop) (θ θ' : Nm→Option Value):Prop where
 oks:∀ b,ok b→ok' b
 heap:∀ b,ok b→w'.heap[b]? = w.heap[b]?
 nm:∀ d x,θ d=some x→θ' d=some x
mutual
theorem CV_mono (h:Keeps w w' ok ok' θ θ'):∀ (a:AV) (v:Value),CV w ok θ a v→CV w' ok' θ' a v
 | .undef,v,hv=>trivial
 | .bool b,v,hv=>hv
 | .int k n,v,hv=>hv
 | .str l,v,hv=>hv
 | .nils,v,hv=>hv
 | .nilp,v,hv=>hv
 | .nili,v,hv=>hv
 | .arr k n xs,v,hv=>hv
 | .agg cs,v,hv=>by
  obtain ⟨vs,rfl,hc⟩:=hv
  exact ⟨vs,rfl,CVs_mono h cs _ hc⟩
 | .fs k xs,v,hv=>by
  obtain ⟨A,c,rfl,hc,hr⟩:=hv
  refine ⟨A,c,rfl,hc,fun h0=>?_⟩
  obtain ⟨ad,rfl,ho,hce⟩:=hr h0
  exact ⟨ad,rfl,h.oks _ ho,cellsAt_mono (h.heap _ ho) hce⟩
 | .fv s xs,v,hv=>by
  obtain ⟨A,c,cs,rfl,hc,hw,hs,hr⟩:=hv
  refine ⟨A,c,cs,rfl,hc,hw,CVs_mono h xs cs hs,fun h0=>?_⟩
  obtain ⟨ad,rfl,ho,hce⟩:=hr h0
  exact ⟨ad,rfl,h.oks _ ho,cellsAt_mono (h.heap _ ho) hce⟩
 | .own d,v,hv=>⟨h.nm _ _ hv.1,hv.2⟩
 | .win d sz off len,v,hv=>by
  obtain ⟨A',c',rfl,hc,hr⟩:=hv
  refine ⟨A',c',rfl,hc,fun h0=>?_⟩
  obtain ⟨g,n,c,h1,h2⟩:=hr h0
  exact ⟨g,n,c,h.nm _ _ h1,h2⟩
 | .wina d o n off len,v,hv=>by
  obtain ⟨A',c',rfl,hc,hl,hr⟩:=hv
  refine ⟨A',c',rfl,hc,hl,fun h0=>?_⟩
  obtain ⟨g,h1,h2⟩:=hr h0
  exact ⟨g,h.nm _ _ h1,h2⟩
 | .ref d off,v,hv=>by
  obtain ⟨g,h1,h2⟩:=hv
  exact ⟨g,h.nm _ _ h1,h2⟩
 | .refa d off n i,v,hv=>by
  obtain ⟨hi,g,h1,h2⟩:=hv
  exact ⟨hi,g,h.nm _ _ h1,h2⟩
 | .eref d sz i off,v,hv=>by
  obtain ⟨g,n,c,h1,h2⟩:=hv
  exact ⟨g,n,c,h.nm _ _ h1,h2⟩
 | .refw d o n off m,v,hv=>by
  obtain ⟨hi,g,h1,h2⟩:=hv
  exact ⟨hi,g,h.nm _ _ h1,h2⟩
 | .fp t,v,hv=>by
  obtain ⟨a,u,rfl,ho,hu,hc⟩:=hv
  exact ⟨a,u,rfl,h.oks _ ho,CV_mono h t u hu,cellsAt_mono (h.heap _ ho) hc⟩
 | .tup vs,v,hv=>by
  obtain ⟨us,rfl,hc⟩:=hv
  exact ⟨us,rfl,CVt_mono h vs _ hc⟩
 | .fn f,v,hv=>hv
 | .nilm,v,hv=>hv
 | .clo f caps,v,hv=>by
  obtain ⟨us,rfl,hc⟩:=hv
  exact ⟨us,rfl,CVt_mono h caps _ hc⟩
 | .pt f none,v,hv=>hv
 | .pt f (some i),v,hv=>⟨h.nm _ _ hv.1,hv.2⟩
 | .mp f none,v,hv=>hv
 | .mp f (some i),v,hv=>⟨h.nm _ _ hv.1,hv.2⟩
 | .mc _ _,v,hv=>hv
theorem CVs_mono (h:Keeps w w' ok ok' θ θ'):∀ (as:List AV) (vs:List Value),CVs w ok θ as vs→CVs w' ok' θ' as vs
 | [],vs,hv=>hv
 | a::as,vs,hv=>by
  obtain ⟨v,rest,rfl,hs,h1,h2⟩:=hv
  exact ⟨v,rest,rfl,hs,CV_mono h a v h1,CVs_mono h as rest h2⟩
theorem CVt_mono (h:Keeps w w' ok ok' θ θ'):∀ (as:List AV) (vs:List Value),CVt w ok θ as vs→CVt w' ok' θ' as vs
 | [],vs,hv=>hv
 | a::as,vs,hv=>by
  obtain ⟨v,rest,rfl,h1,h2⟩:=hv
  exact ⟨v,rest,rfl,CV_mono h a v h1,CVt_mono h as rest h2⟩
end
theorem CVs_length:∀ {as:List AV} {vs:List Value},CVs w ok θ as vs→vs.length=AV.widths as
 | [],vs,h=>by simp only [CVs] at h; subst h; rfl
 | a::as,vs,h=>by
  obtain ⟨v,rest,rfl,hs,_,h2⟩:=h
  rw [List.length_append,CVs_length h2,Array.length_toList,hs]
  rfl
theorem CVs_append {as bs:List AV} {us vs:List Value} (h:CVs w ok θ as us) (k:CVs w ok θ bs vs):CVs w ok θ (as++bs) (us++vs):=by
 induction as generalizing us with
 | nil=>simp only [CVs] at h; subst h; simpa using k
 | cons a as ih=>
  obtain ⟨v,rest,rfl,hs,h1,h2⟩:=h
  exact ⟨v,rest++vs,by simp,hs,h1,ih h2⟩
theorem CVs_split:∀ {as bs:List AV} {vs:List Value},CVs w ok θ (as++bs) vs→∃ us ws,vs=us++ws∧CVs w ok θ as us∧CVs w ok θ bs ws
 | [],bs,vs,h=>⟨[],vs,rfl,rfl,h⟩
 | a::as,bs,vs,h=>by
  obtain ⟨v,rest,rfl,hs,h1,h2⟩:=h
  obtain ⟨us,ws,rfl,h3,h4⟩:=CVs_split (as:=as) h2
  exact ⟨v.cells.toList++us,ws,by simp,⟨v,us,rfl,hs,h1,h3⟩,h4⟩
theorem widths_append (as bs:List AV):AV.widths (as++bs)=AV.widths as+AV.widths bs:=by
 induction as with
 | nil=>simp [AV.widths]
 | cons a as ih=>simp [AV.widths,ih,Nat.add_assoc]
theorem CVs_get {as:List AV} {vs:List Value} (h:CVs w ok θ as vs) {i:Nat} {a:AV} (hi:as[i]? = some a) :
  ∃ v us ws,vs=us++(v.cells.toList++ws)∧us.length=AV.widths (as.take i)∧v.cells.size=a.width∧CV w ok θ a v∧CVs w ok θ (as.take i) us∧CVs w ok θ (as.drop (i+1)) ws:=by
 have hlt:i<as.length:=(List.getElem?_eq_some_iff.1 hi).1
 have ha:as[i]=a:=(List.getElem?_eq_some_iff.1 hi).2
 have hsp:as=as.take i++a::as.drop (i+1):=by
  rw [←ha,←List.drop_eq_getElem_cons hlt,List.take_append_drop]
 rw [hsp] at h
 obtain ⟨us,ws,rfl,h1,v,rest,rfl,hs,h2,h3⟩:=CVs_split h
 exact ⟨v,us,rest,rfl,CVs_length h1,hs,h2,h1,h3⟩
mutual
theorem eta_WT:∀ (s:Sh) (x:AV),WT s (eta s x)
 | .int k,x=>⟨_,rfl⟩
 | .bool,x=>⟨_,rfl⟩
 | .str,x=>⟨_,rfl⟩
 | .arr k n,x=>⟨_,rfl⟩
 | .agg l,x=>⟨_,rfl,etas_WT l 0 x⟩
 | .fs k,x=>⟨_,rfl⟩
 | .nl k,x=>by
  show (match x with | .nils=>AV.nils | x=>.fs k x.toInts)=.nils∨_
  cases x <;> first | exact .inl rfl | exact .inr ⟨_,rfl⟩
 | .fv s,x=>⟨_,rfl⟩
 | .pt f,x=>⟨_,rfl⟩
 | .mp f,x=>⟨_,rfl⟩
theorem etas_WT:∀ (l:List Sh) (i:Nat) (x:AV),WTs l (etas l i x)
 | [],_,_=>rfl
 | s::l,i,x=>⟨_,_,rfl,eta_WT s _,etas_WT l (i+1) x⟩
end
theorem WT_widths {s:Sh}:∀ {xs:List AV},(∀ x∈xs,WT s x)→AV.widths xs=xs.length * s.width
 | [],_=>by simp [AV.widths]
 | x::xs,h=>by
  have h1:=WT_width s x (h x (by simp))
  have h2:=WT_widths (xs:=xs) (fun y hy=>h y (by simp [hy]))
  simp only [AV.widths,h1,h2,List.length_cons,Nat.add_mul,Nat.one_mul]
  omega
end
end Go.Am
end
section
set_option linter.unusedVariables false
namespace Go.Am
def AV.stor (a:AV):Bool:=match a with | .undef=>false | .tup _=>false | .mc _ _=>false | _=>true
mutual
def AV.flat:AV→Bool
 | .undef=>false
 | .tup _=>false
 | .mc _ _=>false
 | .agg cs=>AV.flats cs
 | _=>true
def AV.flats:List AV→Bool
 | []=>true
 | c::cs=>c.flat && AV.flats cs
end
def must (b:Bool) (p:Pg):Pg:=match b with | true=>p | false=>.fail
def leafAt (t:AV) (off w:Nat) (g:Bool):Option AV:=match Nat.beq off 0 && (Nat.beq t.width w && (t.isAgg == g)) with
 | true=>some t
 | false=>none
mutual
def getAt:AV→Nat→Nat→Bool→Option AV
 | .agg cs,off,w,g=>match Nat.beq off 0 && (Nat.beq (AV.widths cs) w && g) with
  | true=>some (.agg cs)
  | false=>getsAt cs off w g
 | t,off,w,g=>leafAt t off w g
def getsAt:List AV→Nat→Nat→Bool→Option AV
 | [],_,_,_=>none
 | c::cs,off,w,g=>match Nat.ble (off+1) c.width with
  | true=>getAt c off w g
  | false=>getsAt cs (off - c.width) w g
end
mutual
def setAt:AV→Nat→AV→AV
 | .agg cs,off,v=>match Nat.beq off 0 && (Nat.beq (AV.widths cs) v.width && v.isAgg) with
  | true=>v
  | false=>.agg (setsAt cs off v)
 | _,_,v=>v
def setsAt:List AV→Nat→AV→List AV
 | [],_,_=>[]
 | c::cs,off,v=>match Nat.ble (off+1) c.width with
  | true=>setAt c off v::cs
  | false=>c::setsAt cs (off - c.width) v
end
mutual
def shEq:Sh→Sh→Bool
 | .int k,.int k'=>k == k'
 | .bool,.bool=>true
 | .str,.str=>true
 | .arr k n,.arr k' n'=>k == k' && Nat.beq n n'
 | .agg l,.agg l'=>shsEq l l'
 | .fs k,.fs k'=>k == k'
 | .nl k,.nl k'=>k == k'
 | .fv s,.fv s'=>shEq s s'
 | .pt f,.pt g=>Nat.beq f g
 | .mp f,.mp g=>Nat.beq f g
 | _,_=>false
def shsEq:List Sh→List Sh→Bool
 | [],[]=>true
 | s::l,s'::l'=>shEq s s' && shsEq l l'
 | _,_=>false
end
mutual
def fitA:Sh→AV→Bool
 | .int k,.int k' _=>k == k'
 | .bool,.bool _=>true
 | .str,.str _=>true
 | .arr k n,.arr k' n' _=>k == k' && Nat.beq n n'
 | .agg l,.agg cs=>fitsA l cs
 | .fs k,.fs k' _=>k == k'
 | .nl k,x=>match x with
  | .nils=>true
  | .fs k' _=>k == k'
  | _=>false
 | .fv s,.fv s' _=>shEq s s'
 | .pt f,.pt g _=>Nat.beq f g
 | .mp f,.mp g _=>Nat.beq f g
 | _,_=>false
def fitsA:List Sh→List AV→Bool
 | [],[]=>true
 | s::l,c::cs=>fitA s c && fitsA l cs
 | _,_=>false
end
def fitAll (s:Sh):List AV→Bool
 | []=>true
 | x::r=>fitA s x && fitAll s r
mutual
def nrm:Sh→AV→AV
 | .pt f,x=>match x with
  | .nilp=>.pt f none
  | .ref d off=>match d with
   | .mem g i=>match Nat.beq f g && Nat.beq off 0 with
    | true=>.pt f (some i)
    | false=>.ref (.mem g i) off
   | .top e=>.ref (.top e) off
  | x=>x
 | .mp f,x=>match x with
  | .nilm=>.mp f none
  | x=>x
 | .fs k,x=>match x with
  | .nils=>.fs k []
  | x=>x
 | .fv s,x=>match x with
  | .nils=>.fv s []
  | x=>x
 | .agg l,x=>match x with
  | .agg cs=>.agg (nrms l cs)
  | x=>x
 | _,x=>x
def nrms:List Sh→List AV→List AV
 | s::l,c::cs=>nrm s c::nrms l cs
 | _,cs=>cs
end
def wr (d:Nm) (o:Ob) (k:Pg):Pg:=match d with
 | .top d=>.setObj d o k
 | .mem f i=>.fam f fun F=>match F with
  | some F=>match F.ks,o with
   | none,.box t=>must (fitA F.s (nrm F.s t)) (.setFam f (F.l.set i (nrm F.s t)) k)
   | some ks,.mapo ks' vs' es clk=>must (shEq ks ks' && shEq F.s vs') (.setFam f (F.l.set i (.mc es clk)) k)
   | _,_=>.fail
  | none=>.fail
def wrT (d:Nm) (o:Ob) (k:Pg):Pg:=match d with
 | .top d=>.setObj d o k
 | .mem _ _=>.fail
mutual
def shOk:Sh→AV→Bool
 | .int k,.int k' _=>k == k'
 | .bool,.bool _=>true
 | .str,.str _=>true
 | .arr k n,.arr k' n' _=>k == k' && Nat.beq n n'
 | .agg l,.agg cs=>shsOk l cs
 | .fs k,.fs k' _=>k == k'
 | .pt f,.pt g _=>Nat.beq f g
 | .mp f,.mp g _=>Nat.beq f g
 | _,_=>false
def shsOk:List Sh→List AV→Bool
 | [],[]=>true
 | s::l,c::cs=>shOk s c && shsOk l cs
 | _,_=>false
end
def toU8 (n:Int):UInt8:=UInt8.ofNat n.toNat
section
variable (P:Program) (E:Env)
def aggT (t:TypeId):Bool:=match P.underlying t with | some (.struct _)=>true | some (.array _ _)=>true | _=>false
def sizeT (t:TypeId):Nat:=match P.info? t with | some i=>i.size | none=>0
def typOk (t:TypeId):Bool:=match P.info? t,P.underlying t with | some _,some _=>true | _,_=>false
def szIs (t:TypeId) (n:Nat):Bool:=typOk P t && Nat.beq (sizeT P t) n
def elemT (t:TypeId):Option TypeId:=match P.underlying t with | some (.slice e)=>some e | _=>none
def kindT (t:TypeId):Option IntKind:=match P.underlying t with | some (.int k)=>some k | _=>none
def shT:Nat→TypeId→Option Sh
 | 0,_=>none
 | n+1,t=>match P.underlying t with
  | some .bool=>some .bool
  | some (.int k)=>some (.int k)
  | some .string=>some .str
  | some (.slice e)=>match P.underlying e with
   | some (.int k)=>some (.fs k)
   | _=>(shT n e).map .fv
  | some (.array m e)=>match P.underlying e with
   | some (.int k)=>some (.arr k m)
   | _=>(shT n e).map fun s=>.agg (List.replicate m s)
  | some (.struct fs)=>(fs.toList.mapM fun f=>shT n f.type).map .agg
  | some (.pointer e)=>(E.ar e).map .pt
  | some (.map _ _)=>(E.am t).map .mp
  | _=>none
def zeroAV:Nat→TypeId→Option AV
 | 0,_=>none
 | n+1,t=>match P.underlying t with
  | some .bool=>some (.bool false)
  | some (.int k)=>some (.int k 0)
  | some .string=>some (.str [])
  | some (.slice _)=>some .nils
  | some (.pointer _)=>some .nilp
  | some (.interface _)=>some .nili
  | some (.map _ _)=>some .nilm
  | some (.array m e)=>match P.underlying e with
   | some (.int k)=>some (.arr k m (List.replicate m 0))
   | _=>(zeroAV n e).map fun s=>.agg (List.replicate m s)
  | some (.struct fs)=>(fs.toList.mapM fun f=>zeroAV n f.type).map .agg
  | _=>none
end
def intsB (k:IntKind):List Int→List Value→Bool
 | [],[]=>true
 | x::xs,.int k' y::vs=>k == k' && (x == y && intsB k xs vs)
 | _,_=>false
mutual
def cvB:AV→Value→Bool
 | .bool b,.bool c=>b == c
 | .int k n,.int k' m=>k == k' && n == m
 | .str l,.string s=>l == s.data.toList
 | .nils,.slice none 0 0=>true
 | .nilp,.pointer none=>true
 | .nilm,.map none=>true
 | .nili,.nilIface=>true
 | .arr k n xs,.agg vs=>Nat.beq xs.length n && intsB k xs vs.toList
 | .agg cs,.agg vs=>cvsB cs vs.toList
 | _,_=>false
def cvsB:List AV→List Value→Bool
 | [],vs=>vs.isEmpty
 | c::cs,vs=>match c.isAgg with
  | true=>Nat.ble c.width vs.length && (cvB c (.agg (vs.take c.width).toArray) && cvsB cs (vs.drop c.width))
  | false=>match vs with
   | []=>false
   | v::r=>Nat.beq v.cells.size 1 && (cvB c v && cvsB cs r)
end
def cst:Value→Option AV
 | .bool b=>some (.bool b)
 | .int k n=>some (.int k n)
 | .string s=>some (.str s.data.toList)
 | .slice none 0 0=>some .nils
 | .pointer none=>some .nilp
 | .map none=>some .nilm
 | .nilIface=>some .nili
 | _=>none
section
variable (P:Program) (E:Env)
def ev (x:Operand) (k:AV→Pg):Pg:=
 match x with
 | .tmp t=>.slot t k
 | .const v=>match cst v with
  | some a=>k a
  | none=>.fail
 | .global g=>match E.glob g with
  | some t=>k (.fp t)
  | none=>.fail
 | .func f=>k (.fn f)
def evL:List Operand→(List AV→Pg)→Pg
 | [],k=>k []
 | x::r,k=>ev E x fun a=>evL r fun as=>k (a::as)
def evO (x:Option Operand) (k:Option AV→Pg):Pg:=
 match x with
 | none=>k none
 | some x=>ev E x fun a=>k (some a)
def put (o:Oper) (v:AV):Pg:=match o.dst with | some d=>.setSlot d v .done | none=>.done
def newOb (o:Oper) (b:Ob) (v:Nm→AV):Pg:=
 match o.dst with
 | some d=>.obj (.top d) fun x=>match x with
  | none=>.setObj d b (.setSlot d (v (.top d)) .done)
  | some _=>.fail
 | none=>.fail
def sel (b:Bool) (x y:AV):AV:=
 match x,y with
 | .bool p,.bool q=>.bool (match b with | true=>p | false=>q)
 | .int k m,.int k' n=>match k == k' with
  | true=>.int k (match b with | true=>m | false=>n)
  | false=>match b with | true=>.int k m | false=>.int k' n
 | x,y=>match b with | true=>x | false=>y
def opPick (o:Oper) (c x y:AV):Pg:=match c with | .bool b=>put o (sel b x y) | _=>.fail
def newBox (o:Oper) (e:TypeId) (x:AV):Pg:=
 match (match o.dst with | some d=>(match E.al e d with | true=>E.ar e | false=>none) | none=>none) with
 | none=>newOb o (.box x) fun d=>.ref d 0
 | some f=>.fam f fun F=>match F with
  | none=>newOb o (.box x) fun d=>.ref d 0
  | some F=>match F.ks with
   | none=>must (Nat.beq F.e e && fitA F.s (nrm F.s x)) (.setFam f (F.l++[nrm F.s x]) (put o (.pt f (some F.l.length))))
   | some _=>.fail
def opBox (o:Oper) (e:TypeId) (x:AV):Pg:=must x.stor (newBox E o e x)
def opAlloc (o:Oper) (e:TypeId):Pg:=
 match P.info? e,zeroAV P 9 e with
 | some i,some a=>match i.zero with
  | some v=>must (cvB a v && Nat.beq v.cells.size a.width) (newBox E o e a)
  | none=>.fail
 | _,_=>.fail
def fits (t:TypeId) (u:AV):Bool:=typOk P t && ((u.isAgg == aggT P t) && Nat.beq u.width (sizeT P t))
def vw:Option Ob→Option Ob
 | some (.rowS e k xs _)=>some (.row true e k xs)
 | q=>q
def ld (t:TypeId) (a:AV) (k:AV→Pg):Pg:=
 must (typOk P t) <|
 match a with
 | .fp u=>must (fits P t u && u.stor) (k u)
 | .ref d off=>.obj d fun o=>match o with
  | some (.box tr)=>match getAt tr off (sizeT P t) (aggT P t) with
   | some u=>k u
   | none=>.fail
  | _=>.fail
 | .refa d off n i=>.obj d fun o=>match o with
  | some (.box tr)=>match getAt tr off n true with
   | some (.arr k' n' xs)=>must (!aggT P t && Nat.beq n n') (k (.int k' (getI xs i)))
   | _=>.fail
  | _=>.fail
 | .refw d oo n off m=>.obj d fun o=>match o with
  | some (.box tr)=>match getAt tr oo n true with
   | some (.arr k' n' xs)=>must (fits P t (.arr k' m ((xs.drop off).take m)) && Nat.beq n n') (k (.arr k' m ((xs.drop off).take m)))
   | _=>.fail
  | _=>.fail
 | .eref d sz i off=>.obj d fun o=>match vw o with
  | some (.row _ _ k' xs)=>must (!aggT P t && (Nat.beq sz 1 && Nat.beq off 0)) (.chk (Nat.ble (i+1) xs.length) (k (.int k' (getI xs i))))
  | some (.rows _ _ s xs)=>match getAt (eta s (getE xs i)) off (sizeT P t) (aggT P t) with
   | some u=>must (Nat.beq sz s.width) (.chk (Nat.ble (i+1) xs.length) (k u))
   | none=>.fail
  | _=>.fail
 | _=>.fail
def st (t:TypeId) (a v:AV):Pg:=
 must (fits P t v && v.flat) <|
 match a with
 | .ref d off=>.obj d fun o=>match o with
  | some (.box tr)=>match getAt tr off v.width v.isAgg with
   | some _=>wr d (.box (setAt tr off v)) .done
   | none=>.fail
  | _=>.fail
 | .refa d off n i=>.obj d fun o=>match o,v with
  | some (.box tr),.int kx x=>match getAt tr off n true with
   | some (.arr k' n' xs)=>must (kx == k' && Nat.beq n n') (wr d (.box (setAt tr off (.arr k' n' (xs.set i x)))) .done)
   | _=>.fail
  | _,_=>.fail
 | .eref d sz i off=>.obj d fun o=>match o with
  | some (.row true e k' xs)=>match v with
   | .int kx x=>must (kx == k' && (Nat.beq sz 1 && Nat.beq off 0)) (wrT d (.row true e k' (xs.set i x)) .done)
   | _=>.fail
  | some (.rowS e k' xs sp)=>match v with
   | .int kx x=>must (kx == k' && (Nat.beq sz 1 && Nat.beq off 0)) (wrT d (.rowS e k' (xs.set i x) sp) .done)
   | _=>.fail
  | some (.rows true e s xs)=>match getAt (eta s (getE xs i)) off v.width v.isAgg with
   | some _=>must (Nat.beq sz s.width && shOk s (nrm s (setAt (eta s (getE xs i)) off v))) (.chk (Nat.ble (i+1) xs.length) (wrT d (.rows true e s (xs.set i (nrm s (setAt (eta s (getE xs i)) off v)))) .done))
   | none=>.fail
  | _=>.fail
 | _=>.fail
def opFieldAddr (o:Oper) (s:TypeId) (x:AV) (f:Nat):Pg:=
 match P.underlying s with
 | some (.struct fs)=>match fs[f]? with
  | some fd=>must (typOk P fd.type && !Nat.beq (sizeT P fd.type) 0) <| match x with
   | .ref d off=>put o (.ref d (off+fd.offset))
   | .eref d sz i off=>put o (.eref d sz i (off+fd.offset))
   | .fp (.agg cs)=>match cs[f]? with
    | some c=>must (Nat.beq (AV.widths (cs.take f)) fd.offset) (put o (.fp c))
    | none=>.fail
   | _=>.fail
  | none=>.fail
 | _=>.fail
def inR (i:Int) (n:Nat):Bool:=decide (0≤i) && decide (i<n)
def homo (e:TypeId) (cs:List AV):Option Sh:=match shT P E 9 e with
 | some s=>match fitAll s cs with
  | true=>some s
  | false=>none
 | none=>none
def opIndexAddr (o:Oper) (t:TypeId) (x ix:AV):Pg:=
 match ix with
 | .int _ i=>match P.underlying t with
  | some (.slice e)=>match x with
   | .fs k xs=>must (szIs P e 1) (.chk (inR i xs.length) (put o (.fp (.int k (getI xs i.toNat)))))
   | .fv s xs=>must (szIs P e s.width) (.chk (inR i xs.length) (put o (.fp (eta s (getE xs i.toNat)))))
   | .own d=>.obj d fun b=>match vw b with
    | some (.row _ _ _ xs)=>must (szIs P e 1) (.chk (inR i xs.length) (put o (.eref d 1 i.toNat 0)))
    | some (.rows _ _ s xs)=>must (szIs P e s.width) (.chk (inR i xs.length) (put o (.eref d s.width i.toNat 0)))
    | _=>.fail
   | .win d sz off len=>must (szIs P e sz) (.chk (inR i len) (put o (.eref d sz (off+i.toNat) 0)))
   | .wina d oo n off len=>must (szIs P e 1) (.chk (inR i len) (put o (.refa d oo n (off+i.toNat))))
   | _=>.fail
  | some (.array n e)=>match x with
   | .ref d off=>match kindT P e with
    | some _=>must (szIs P e 1) (.chk (inR i n) (put o (.refa d off n i.toNat)))
    | none=>must (typOk P e) (.chk (inR i n) (put o (.ref d (off+i.toNat * sizeT P e))))
   | .fp (.arr k m xs)=>must (szIs P e 1 && Nat.beq n m) (.chk (inR i n) (put o (.fp (.int k (getI xs i.toNat)))))
   | .fp (.agg cs)=>match homo P E e cs with
    | some s=>must (szIs P e s.width && Nat.beq cs.length n) (.chk (inR i n) (put o (.fp (eta s (getE cs i.toNat)))))
    | none=>match cs[i.toNat]? with
     | some c=>must (typOk P e && Nat.beq (AV.widths (cs.take i.toNat)) (i.toNat * sizeT P e)) (.chk (inR i n) (put o (.fp c)))
     | none=>.fail
   | _=>.fail
  | _=>.fail
 | _=>.fail
def opIndex (o:Oper) (t:TypeId) (x ix:AV):Pg:=
 match ix with
 | .int _ i=>match P.underlying t with
  | some .string=>match x with
   | .str l=>.chk (inR i l.length) (put o (.int .u8 ((l.getD i.toNat 0).toNat:Int)))
   | _=>.fail
  | some (.array n e)=>match x with
   | .arr k m xs=>must (szIs P e 1 && (!aggT P e && Nat.beq n m)) (.chk (inR i n) (put o (.int k (getI xs i.toNat))))
   | .agg cs=>match homo P E e cs with
    | some s=>must (szIs P e s.width && (fits P e (eta s .undef) && Nat.beq cs.length n)) (.chk (inR i n) (put o (eta s (getE cs i.toNat))))
    | none=>match cs[i.toNat]? with
     | some c=>must (Nat.beq (AV.widths (cs.take i.toNat)) (i.toNat * sizeT P e) && (fits P e c && c.stor)) (.chk (inR i n) (put o c))
     | none=>.fail
   | _=>.fail
  | _=>.fail
 | _=>.fail
def opField (o:Oper) (t:TypeId) (x:AV) (f:Nat):Pg:=
 match P.underlying t with
 | some (.struct fs)=>match fs[f]?,x with
  | some fd,.agg cs=>match cs[f]? with
   | some c=>must (Nat.beq (AV.widths (cs.take f)) fd.offset && (fits P fd.type c && c.stor)) (put o c)
   | none=>.fail
  | _,_=>.fail
 | _=>.fail
def opExtract (o:Oper) (x:AV) (i:Nat):Pg:=
 match x with
 | .tup vs=>match vs[i]? with
  | some v=>put o v
  | none=>.fail
 | _=>.fail
def asRow (k:IntKind):Ob→Option (TypeId × List Int)
 | .row true e k' xs=>match k == k' with | true=>some (e,xs) | false=>none
 | .lit e (.int k') vs=>match k == k' && fitAll (.int k) vs with | true=>some (e,vs.map AV.toInt) | false=>none
 | .rowS e k' xs _=>match k == k' with | true=>some (e,xs) | false=>none
 | _=>none
def asRows (s:Sh):Ob→Option (TypeId × List AV)
 | .rows true e s' xs=>match shEq s s' with | true=>some (e,xs) | false=>none
 | .lit e s' vs=>match shEq s s' && fitAll s vs with | true=>some (e,vs) | false=>none
 | _=>none
def snapL (f:AV→(AV→List Nm→Pg)→Pg):List AV→(List AV→List Nm→Pg)→Pg
 | [],k=>k [] []
 | a::r,k=>f a fun a' l=>snapL f r fun r' l'=>k (a'::r') (l++l')
def snapZ (f:Sh→AV→(AV→List Nm→Pg)→Pg):List Sh→List AV→(List AV→List Nm→Pg)→Pg
 | [],[],k=>k [] []
 | s::l,a::r,k=>f s a fun a' m=>snapZ f l r fun r' m'=>k (a'::r') (m++m')
 | _,_,_=>.fail
def snap:Nat→Sh→AV→(AV→List Nm→Pg)→Pg
 | 0,_,_,_=>.fail
 | n+1,s,a,k=>
  match s,a with
  | .fs kd,.nils=>k (.fs kd []) []
  | .fs kd,.own d=>.obj d fun o=>match vw o with
   | some (.row _ _ k' xs)=>must (kd == k') (k (.fs kd xs) [d])
   | _=>.fail
  | .fs kd,.win d sz off len=>.obj d fun o=>match vw o with
   | some (.row _ _ k' xs)=>must (kd == k' && Nat.beq sz 1) (.chk (Nat.ble (off+len) xs.length) (k (.fs kd ((xs.drop off).take len)) [d]))
   | _=>.fail
  | .fs kd,.wina d oo m off len=>.obj d fun o=>match vw o with
   | some (.box tr)=>match getAt tr oo m true with
    | some (.arr k' m' xs)=>must (kd == k' && Nat.beq m m') (.chk (Nat.ble (off+len) m) (k (.fs kd ((xs.drop off).take len)) [d]))
    | _=>.fail
   | _=>.fail
  | .fv s',.nils=>k (.fv s' []) []
  | .fv s',.fv s'' xs=>must (shEq s' s'') (k (.fv s' xs) [])
  | .fv s',.own d=>.obj d fun o=>match vw o with
   | some (.rows _ _ s'' xs)=>must (shEq s' s'') (k (.fv s' xs) [d])
   | some (.lit _ s'' vs)=>must (shEq s' s'') (snapL (snap n s') vs fun vs' l=>k (.fv s' vs') (d::l))
   | _=>.fail
  | .fv s',.win d sz off len=>.obj d fun o=>match vw o with
   | some (.rows _ _ s'' xs)=>must (shEq s' s'' && Nat.beq sz s'.width) (.chk (Nat.ble (off+len) xs.length) (k (.fv s' ((xs.drop off).take len)) [d]))
   | _=>.fail
  | .agg l,.agg cs=>snapZ (snap n) l cs fun cs' l=>k (.agg cs') l
  | s,a=>must (shOk s (nrm s a)) (k (nrm s a) [])
def freezeL:List Nm→Pg→Pg
 | [],p=>p
 | d::l,p=>.obj d fun o=>match o with
  | some (.row _ e k xs)=>wrT d (.row false e k xs) (freezeL l p)
  | some (.rows _ e s xs)=>wrT d (.rows false e s xs) (freezeL l p)
  | some (.lit e s vs)=>wrT d .dead (freezeL l p)
  | some (.rowS e k xs _)=>wrT d (.row false e k xs) (freezeL l p)
  | some (.box _)=>wrT d .dead (freezeL l p)
  | _=>.fail
section
variable (P:Program) (E:Env)
def frz (s:Sh) (a:AV) (k:AV→Pg):Pg:=snap 9 s a fun a' l=>freezeL l (k a')
def stD (P:Program) (E:Env) (t:TypeId) (a v:AV):Pg:=match a with
 | .ref (.mem _ _) _=>match v with
  | .own _=>match shT P E 9 t with
   | some sh=>frz sh v fun v'=>st P t a v'
   | none=>.fail
  | _=>st P t a v
 | _=>st P t a v
def setParts:List AV→List (Nat × AV)→Option (List AV)
 | items,[]=>some items
 | items,(i,a)::r=>match items[i]? with
  | some c=>match Nat.beq c.width a.width && a.stor with
   | true=>setParts (items.set i a) r
   | false=>none
  | none=>none
def setInts (k:IntKind):List Int→List (Nat × AV)→Option (List Int)
 | xs,[]=>some xs
 | xs,(i,.int k' x)::r=>match k == k' && Nat.ble (i+1) xs.length with
  | true=>setInts k (xs.set i x) r
  | false=>none
 | _,_=>none
def laidOut:Nat→List Field→List AV→Bool
 | _,[],[]=>true
 | off,f::fs,c::cs=>Nat.beq f.offset off && (szIs P f.type c.width && laidOut (off+c.width) fs cs)
 | _,_,_=>false
def opBuild (o:Oper) (t:TypeId) (idx:List Nat) (vs:List AV):Pg:=
 match P.info? t,zeroAV P 9 t with
 | some i,some z=>match i.zero with
  | some v=>must (cvB z v && Nat.beq v.cells.size z.width) <| match P.underlying t,z with
   | some (.struct fs),.agg cs=>must (laidOut P 0 fs.toList cs) <| match setParts cs (idx.zip vs) with
    | some cs'=>put o (.agg cs')
    | none=>.fail
   | some (.array m e),.arr k n xs=>must (szIs P e 1 && Nat.beq m n) <| match setInts k xs (idx.zip vs) with
    | some xs'=>put o (.arr k n xs')
    | none=>.fail
   | some (.array m e),.agg cs=>must ((cs.all fun c=>szIs P e c.width) && !cs.isEmpty) <| match setParts cs (idx.zip vs) with
    | some cs'=>put o (.agg cs')
    | none=>.fail
   | _,_=>.fail
  | none=>.fail
 | _,_=>.fail
def allInts (k:IntKind):List AV→Option (List Int)
 | []=>some []
 | .int k' x::r=>match k == k' with
  | true=>(allInts k r).map (x::·)
  | false=>none
 | _=>none
def opBuildSlice (o:Oper) (t:TypeId) (len:Nat) (idx:List Nat) (vs:List AV):Pg:=
 match elemT P t with
 | some e=>must (idx == List.range len && Nat.ble (len * sizeT P e) 16777216) <| match kindT P e,P.info? e with
  | some k,some i=>match allInts k vs,i.zero with
   | some xs,some z=>must (Nat.beq i.size 1 && Nat.beq z.cells.size 1) (newOb o (.row true e k xs) fun d=>.own d)
   | _,_=>.fail
  | none,some i=>match shT P E 9 e,i.zero with
   | some s,some z=>must ((Nat.beq i.size s.width && Nat.ble 1 s.width) && (Nat.beq z.cells.size s.width && vs.all fun v=>Nat.beq v.width s.width && v.stor)) (newOb o (.lit e s vs) fun d=>.own d)
   | _,_=>.fail
  | _,_=>.fail
 | none=>.fail
def bound (x:Option AV) (dflt:Nat) (k:Int→Pg):Pg:=
 match x with
 | none=>k dflt
 | some (.int _ n)=>k n
 | some _=>.fail
def bounds (lo hi mx:Option AV) (len:Nat) (k:Nat→Nat→Pg):Pg:=
 must (match mx,hi with | some _,none=>false | _,_=>true) <|
 bound mx len fun m=>bound hi len fun h=>bound lo 0 fun l=>
  .chk (decide (0≤l) && (decide (l≤h) && (decide (h≤m) && decide (m≤len)))) (k l.toNat h.toNat)
def opSlice (o:Oper) (t:TypeId) (x:AV) (lo hi mx:Option AV):Pg:=
 match P.underlying t with
 | some .string=>match x,mx with
  | .str l,none=>bounds lo hi none l.length fun a b=>put o (.str ((l.drop a).take (b - a)))
  | _,_=>.fail
 | some (.slice e)=>match x with
  | .nils=>must (typOk P e) (bounds lo hi mx 0 fun _ _=>put o .nils)
  | .fs k xs=>must (szIs P e 1) (bounds lo hi mx xs.length fun a b=>put o (.fs k ((xs.drop a).take (b - a))))
  | .fv s xs=>must (szIs P e s.width) (bounds lo hi mx xs.length fun a b=>put o (.fv s ((xs.drop a).take (b - a))))
  | .own d=>.obj d fun b=>match vw b with
   | some (.row _ _ _ xs)=>must (szIs P e 1) (bounds lo hi mx xs.length fun a b=>put o (.win d 1 a (b - a)))
   | some (.rows _ _ s xs)=>must (szIs P e s.width) (bounds lo hi mx xs.length fun a b=>put o (.win d s.width a (b - a)))
   | _=>.fail
  | .win d sz off len=>must (szIs P e sz) (bounds lo hi mx len fun a b=>put o (.win d sz (off+a) (b - a)))
  | .wina d oo n off len=>must (szIs P e 1) (bounds lo hi mx len fun a b=>put o (.wina d oo n (off+a) (b - a)))
  | _=>.fail
 | some (.array n e)=>must (szIs P e 1) <| match x with
  | .ref d off=>bounds lo hi mx n fun a b=>put o (.wina d off n a (b - a))
  | .fp (.arr k m xs)=>must (Nat.beq n m) (bounds lo hi mx n fun a b=>put o (.fs k ((xs.drop a).take (b - a))))
  | _=>.fail
 | _=>.fail
def opS2a (o:Oper) (t:TypeId) (x:AV):Pg:=
 match P.underlying t with
 | some (.array m e)=>match x with
  | .wina d oo n off len=>must (Nat.ble 1 m) (.chk (Nat.ble m len) (put o (.refw d oo n off m)))
  | .fs k xs=>must (Nat.ble 1 m) (.chk (Nat.ble m xs.length) (put o (.fp (.arr k m (xs.take m)))))
  | _=>.fail
 | _=>.fail
def opLen (o:Oper) (t:TypeId) (x:AV):Pg:=
 let r (n:Nat):Pg:=put o (.int .i64 n)
 match P.underlying t with
 | some .string=>match x with
  | .str l=>r l.length
  | _=>.fail
 | some (.array n _)=>r n
 | some (.slice _)=>match x with
  | .nils=>r 0
  | .fs _ xs=>r xs.length
  | .fv _ xs=>r xs.length
  | .win _ _ _ len=>r len
  | .wina _ _ _ _ len=>r len
  | .own d=>.obj d fun b=>match vw b with
   | some (.row _ _ _ xs)=>r xs.length
   | some (.rows _ _ _ xs)=>r xs.length
   | some (.lit _ _ vs)=>r vs.length
   | _=>.fail
  | _=>.fail
 | _=>.fail
def opConvert (o:Oper) (src dst:TypeId) (x:AV):Pg:=
 match P.underlying dst with
 | some (.int k)=>match x,P.underlying src with
  | .int _ n,some _=>put o (.int k (k.wrap n))
  | _,_=>.fail
 | some .string=>match P.underlying src with
  | some .string=>match x with
   | .str l=>put o (.str l)
   | _=>.fail
  | some (.slice e)=>match kindT P e with
   | some .u8=>snap 2 (.fs .u8) x fun a _=>match a with
    | .fs _ xs=>put o (.str (xs.map toU8))
    | _=>.fail
   | _=>.fail
  | _=>.fail
 | some (.slice e)=>match P.underlying src,x,kindT P e with
  | some .string,.str l,some .u8=>.chk (Nat.ble l.length 140737488355328) (newOb o (.row true e .u8 (l.map fun b=>(b.toNat:Int))) fun d=>.own d)
  | some (.slice _),.own d,some .u8=>must (Nat.beq src dst) (.obj d fun q=>match q with
   | some ob=>match asRow .u8 ob with
    | some (_,_::_)=>put o (.own d)
    | _=>.fail
   | none=>.fail)
  | _,_,_=>.fail
 | _=>.fail
def opUn (o:Oper) (u:UnOp) (x:AV):Pg:=
 match u,x with
 | .not,.bool b=>put o (.bool (!b))
 | .neg,.int k n=>put o (.int k (k.wrap (0 - n)))
 | _,_=>.fail
def intBin (op:BinOp) (k:IntKind) (x y:Int) (K:AV→Pg):Pg:=
 match op with
 | .add=>K (.int k (k.wrap (x+y)))
 | .sub=>K (.int k (k.wrap (x - y)))
 | .mul=>K (.int k (k.wrap (x * y)))
 | .quo=>.chk (!(y == 0)) (K (.int k (k.wrap (x.tdiv y))))
 | .rem=>.chk (!(y == 0)) (K (.int k (x.tmod y)))
 | .and=>K (.int k (k.wrap ((BitVec.ofInt k.bits x &&& BitVec.ofInt k.bits y).toNat:Int)))
 | .or=>K (.int k (k.wrap ((BitVec.ofInt k.bits x ||| BitVec.ofInt k.bits y).toNat:Int)))
 | .xor=>K (.int k (k.wrap ((BitVec.ofInt k.bits x ^^^ BitVec.ofInt k.bits y).toNat:Int)))
 | .andNot=>K (.int k (k.wrap ((BitVec.ofInt k.bits x &&& ~~~ BitVec.ofInt k.bits y).toNat:Int)))
 | .eql=>K (.bool (x == y))
 | .neq=>K (.bool (x != y))
 | .lss=>K (.bool (decide (x<y)))
 | .leq=>K (.bool (decide (x≤y)))
 | .gtr=>K (.bool (decide (x > y)))
 | .geq=>K (.bool (decide (x ≥ y)))
 | _=>.fail
mutual
def keq:AV→AV→Bool
 | .bool a,.bool b=>a == b
 | .int k a,.int k' b=>k == k' && a == b
 | .str a,.str b=>a == b
 | .arr k n a,.arr k' n' b=>k == k' && (Nat.beq n n' && a == b)
 | .agg a,.agg b=>keqs a b
 | _,_=>false
def keqs:List AV→List AV→Bool
 | [],[]=>true
 | a::as,b::bs=>keq a b && keqs as bs
 | _,_=>false
end
def keyT:Nat→TypeId→Sh→Bool
 | 0,_,_=>false
 | n+1,t,s=>match P.underlying t,s with
  | some .bool,.bool=>true
  | some (.int k),.int k'=>k == k'
  | some .string,.str=>true
  | some (.array m e),.arr k m'=>Nat.beq m m' && (szIs P e 1 && (match P.underlying e with | some (.int k')=>k == k' | _=>false))
  | some (.struct fs),.agg l=>!P.stoodInHeld t && keyFs (keyT n) 0 fs.toList l
  | _,_=>false
 where
 keyFs (f:TypeId→Sh→Bool):Nat→List Field→List Sh→Bool
 | _,[],[]=>true
 | off, fd :: fs, s :: l => (Nat.beq fd.offset off && (fd.name != "_" && (szIs P fd.type s.width && f fd.type s))) && keyFs f (off + s.width) fs l
 | _,_,_=>false
def isPtr (t:TypeId):Bool:=match P.underlying t with | some (.pointer _)=>true | _=>false
def isMap (t:TypeId):Bool:=match P.underlying t with | some (.map _ _)=>true | _=>false
def eqA (t:TypeId) (x y:AV) (k:Bool→Pg):Pg:=match shT P E 9 t with
 | some s=>must (fitA s x && (fitA s y && (keyT P 9 t s && !P.eqGuardType P.depth t))) (k (keq x y))
 | none=>.fail
def opBin (o:Oper) (op:BinOp) (t:TypeId) (x y:AV):Pg:=
 let K (v:AV):Pg:=put o v
 match op,x,y with
 | .shl,.int k a,.int _ b=>.chk (decide (0≤b)) (K (.int k (k.wrap (a * 2 ^ (min b.toNat k.bits)))))
 | .shr,.int k a,.int _ b=>.chk (decide (0≤b)) (K (.int k (a.fdiv (2 ^ (min b.toNat k.bits)))))
 | op,.int k a,.int k' b=>must (k == k') (intBin op k a b K)
 | .add,.str a,.str b=>.chk (Nat.ble (a.length+b.length) 140737488355328) (K (.str (a++b)))
 | .eql,.str a,.str b=>K (.bool (a == b))
 | .neq,.str a,.str b=>K (.bool (!(a == b)))
 | .eql,.pt _ q,.nilp=>must (isPtr P t) (K (.bool q.isNone))
 | .neq,.pt _ q,.nilp=>must (isPtr P t) (K (.bool q.isSome))
 | .eql,.mp _ q,.nilm=>must (isMap P t) (K (.bool q.isNone))
 | .neq,.mp _ q,.nilm=>must (isMap P t) (K (.bool q.isSome))
 | .eql,.arr k n a,.arr k' n' b=>eqA P E t (.arr k n a) (.arr k' n' b) fun r=>K (.bool r)
 | .neq,.arr k n a,.arr k' n' b=>eqA P E t (.arr k n a) (.arr k' n' b) fun r=>K (.bool (!r))
 | .eql,.agg a,.agg b=>eqA P E t (.agg a) (.agg b) fun r=>K (.bool r)
 | .neq,.agg a,.agg b=>eqA P E t (.agg a) (.agg b) fun r=>K (.bool (!r))
 | .eql,.bool a,.bool b=>must (match P.underlying t with | some .bool=>true | _=>false) (K (.bool (a == b)))
 | .neq,.bool a,.bool b=>must (match P.underlying t with | some .bool=>true | _=>false) (K (.bool (!(a == b))))
 | _,_,_=>.fail
def isNilC (op:BinOp) (y:Operand):Option Bool:=match y with
 | .const (.slice none 0 0)=>match op with
  | .eql=>some false
  | .neq=>some true
  | _=>none
 | _=>none
def nilAsk (o:Oper) (neg e:Bool):Pg:=.br e (.ask 2 fun i=>put o (.bool (Nat.beq i 0 != neg))) (put o (.bool neg))
def opIsNil (o:Oper) (t:TypeId) (neg:Bool) (u:AV):Pg:=match P.underlying t with
 | some (.slice _)=>match u with
  | .nils=>put o (.bool (!neg))
  | .fs _ xs=>nilAsk o neg xs.isEmpty
  | .fv _ xs=>nilAsk o neg xs.isEmpty
  | _=>.fail
 | _=>.fail
def copyL (xs:List Int) (off:Nat) (ys:List Int):List Int:=xs.take off++(ys++xs.drop (off+ys.length))
def opCopy (o:Oper) (ts:TypeId) (d s:AV):Pg:=match P.underlying ts with
 | some (.slice e)=>match kindT P e,d with
  | some k,.wina dn oo m off len=>must (szIs P e 1) <| snap 2 (.fs k) s fun s' l=>match s' with
   | .fs _ ys=>must (!l.contains dn) <| .chk (Nat.ble 1 len && Nat.ble 1 ys.length) <| .obj dn fun q=>match q with
    | some (.box tr)=>match getAt tr oo m true with
     | some (.arr k' m' xs)=>must (k == k' && Nat.beq m m') (wr dn (.box (setAt tr oo (.arr k' m' (copyL xs off (ys.take len))))) (put o (.int .i64 ((min ys.length len:Nat):Int))))
     | _=>.fail
    | _=>.fail
   | _=>.fail
  | _,_=>.fail
 | _=>.fail
def opNilCheck (o:Oper) (x:AV):Pg:=match x with
 | .ref d off=>put o (.ref d off)
 | .refa d off n i=>put o (.refa d off n i)
 | .eref d sz i off=>put o (.eref d sz i off)
 | .fp t=>put o (.fp t)
 | .fn f=>put o (.fn f)
 | .clo f caps=>put o (.clo f caps)
 | .pt f q=>.chk q.isSome (put o (.ref (.mem f (q.getD 0)) 0))
 | _=>.fail
def opMin (o:Oper) (x y:AV):Pg:=match x,y with
 | .int k a,.int _ b=>put o (.int k (match decide (b<a) with | true=>b | false=>a))
 | _,_=>.fail
def opMax (o:Oper) (x y:AV):Pg:=match x,y with
 | .int k a,.int _ b=>put o (.int k (match decide (b > a) with | true=>b | false=>a))
 | _,_=>.fail
def opAppend (o:Oper) (tx:TypeId) (ts:TypeId) (s x:AV):Pg:=
 match elemT P ts,o.dst with
 | some e,some dd=>match P.info? e with
  | some i=>match i.zero with
   | some z=>
    let fin (ob:Ob) (n m:Nat) (p:Pg→Pg):Pg:=
     .chk (Nat.ble ((n+m) * i.bytes) 140737488355328) (.obj (.top dd) fun q=>match q with
      | none=>p (.setObj dd ob (.setSlot dd (.own (.top dd)) .done))
      | some _=>.fail)
    must (Nat.beq z.cells.size i.size && Nat.beq ts tx) <|
    match kindT P e with
    | some k=>must (Nat.beq i.size 1 && Nat.ble 1 i.bytes) <| snap 2 (.fs k) x fun x' l=>match x' with
     | .fs _ ys=>match s with
      | .nils=>fin (.row true e k ys) 0 ys.length id
      | .own d=>.obj d fun q=>match q with
       | some ob=>match asRow k ob with
        | some (e',xs)=>must (Nat.beq e e' && !l.contains d) (fin (.row true e k (xs++ys)) xs.length ys.length fun p=>wrT d .dead p)
        | none=>.fail
       | none=>.fail
      | _=>.fail
     | _=>.fail
    | none=>match shT P E 9 e with
     | some sh=>must (Nat.beq i.size sh.width && (Nat.ble 1 i.size && Nat.ble 1 i.bytes)) <| frz (.fv sh) x fun x'=>match x' with
      | .fv _ ys=>match s with
       | .nils=>fin (.rows true e sh ys) 0 ys.length id
       | .own d=>.obj d fun q=>match q with
        | some ob=>match asRows sh ob with
         | some (e',xs)=>must (Nat.beq e e') (fin (.rows true e sh (xs++ys)) xs.length ys.length fun p=>wrT d .dead p)
         | none=>.fail
        | none=>.fail
       | _=>.fail
      | _=>.fail
     | none=>.fail
   | none=>.fail
  | none=>.fail
 | _,_=>.fail
def opAppendZ (o:Oper) (ts:TypeId) (s x:AV):Pg:=
 match elemT P ts,o.dst,x with
 | some e,some dd,.int _ y=>match kindT P e,P.info? e with
  | some k,some i=>match i.zero with
   | some z=>
    let fin (xs:List Int) (p:Pg→Pg):Pg:=
     .chk (decide (0≤IntKind.i64.wrap y) && Nat.ble ((xs.length+(IntKind.i64.wrap y).toNat) * i.bytes) 140737488355328) (.obj (.top dd) fun q=>match q with
      | none=>p (.setObj dd (.row true e k (xs++List.replicate (IntKind.i64.wrap y).toNat 0)) (.setSlot dd (.own (.top dd)) .done))
      | some _=>.fail)
    must (cvB (.int k 0) z && (Nat.beq i.size 1 && (Nat.ble 1 i.bytes && typOk P e))) <| match s with
    | .nils=>fin [] id
    | .own d=>.obj d fun q=>match q with
     | some ob=>match asRow k ob with
      | some (e',xs)=>must (Nat.beq e e') (fin xs fun p=>wrT d .dead p)
      | none=>.fail
     | none=>.fail
    | _=>.fail
   | none=>.fail
  | _,_=>.fail
 | _,_,_=>.fail
def opMake (o:Oper) (t:TypeId) (l c:AV):Pg:=
 match l,c,elemT P t with
 | .int _ n,.int _ m,some e=>match kindT P e,P.info? e with
  | some k,some i=>match i.zero with
   | some z=>must (cvB (.int k 0) z && (Nat.beq i.size 1 && Nat.ble 1 i.bytes)) (.chk (decide (0≤n) && (n == m && decide (n * i.bytes≤140737488355328))) (newOb o (.row true e k (List.replicate n.toNat 0)) fun d=>.own d))
   | none=>.fail
  | _,_=>.fail
 | _,_,_=>.fail
def opMakeS (o:Oper) (t:TypeId) (l c:AV):Pg:=
 match l,c,elemT P t with
 | .int _ n,.int _ m,some e=>match shT P E 9 e,zeroAV P 9 e,P.info? e with
  | some s,some z,some i=>match i.zero with
   | some v=>must (cvB z v && (Nat.beq v.cells.size z.width && (fitA s (nrm s z) && (Nat.beq i.size s.width && (Nat.ble 1 s.width && Nat.ble 1 i.bytes))))) (.chk (decide (0≤n) && (n == m && decide (n * i.bytes≤140737488355328))) (newOb o (.rows true e s (List.replicate n.toNat (nrm s z))) fun d=>.own d))
   | none=>.fail
  | _,_,_=>.fail
 | _,_,_=>.fail
def resName (d:Nat):Nat:=100000+d
def par (j:Nat):Nat:=300000+j
def hasN:List Nat→Nat→Bool
 | [],_=>false
 | x::r,d=>match Nat.beq d x with | true=>true | false=>hasN r d
def doArgs:List Pk→List AV→(List AV→List Nm→List Nat→Pg)→Pg
 | [],[],k=>k [] [] []
 | .val s::ps,a::as,k=>snap 9 s (nrm s a) fun a' l=>doArgs ps as fun as' l' is=>k (a'::as') (l++l') is
 | .io s::ps,a::as,k=>match a with
  | .ref (.top d) off=>must (Nat.beq off 0) (.obj (.top d) fun o=>match o with
   | some (.box t)=>must (fitA s (nrm s t)) (doArgs ps as fun as' l' is=>must (!hasN is d) (k (nrm s t::as') l' (d::is)))
   | _=>.fail)
  | _=>.fail
 | .fn f::ps,a::as,k=>match a with
  | .fn g=>must (Nat.beq f g) (doArgs ps as fun as' l' is=>k (.nili::as') l' is)
  | _=>.fail
 | _,_,_=>.fail
def optEq:Option Sh→Option Sh→Bool
 | none,none=>true
 | some s,some t=>shEq s t
 | _,_=>false
def doFams:List FamD→(List AV→Pg)→Pg
 | [],k=>k []
 | D::r,k=>.fam D.f fun F=>match F with
  | some F=>must (Nat.beq F.e D.e && (shEq F.s D.s && optEq F.ks D.ks)) (doFams r fun xs=>k (.tup F.l::xs))
  | none=>.fail
def putIos:List Pk→List Nat→List AV→Pg→Pg
 | .io s::ps,d::is,x::xs,p=>.setObj d (.box (eta s x)) (putIos ps is xs p)
 | .io _::_,_,_,_=>.fail
 | _::ps,is,xs,p=>putIos ps is xs p
 | [],_,_,p=>p
def putFams:List FamD→List AV→Pg→Pg
 | D::r,x::xs,p=>.setFam D.f x.toElems (putFams r xs p)
 | [],_,p=>p
 | _::_,[],_=>.fail
def famsR (ro:Bool) (xs:List AV):List AV:=match ro with | true=>xs | false=>[]
def nFams (ro:Bool) (fs:List FamD):Nat:=match ro with | true=>0 | false=>fs.length
def putFamsR (ro:Bool) (fs:List FamD) (xs:List AV) (p:Pg):Pg:=match ro with | true=>p | false=>putFams fs xs p
def nIos:List Pk→Nat
 | .io _::ps=>nIos ps+1
 | _::ps=>nIos ps
 | []=>0
def Pk.sh:Pk→Sh
 | .val s=>s
 | .io s=>s
 | .fn _=>.bool
def famIn (fs:List FamD) (D:FamD):Bool:=inF fs D.s && (match D.ks with | some ks=>inF fs ks | none=>true)
def nodupF:List FamD→Bool
 | []=>true
 | D::r=>!(r.any fun D'=>Nat.beq D.f D'.f) && nodupF r
def allIn (ps:List Pk) (fs:List FamD):Bool:=(ps.all fun p=>inF fs p.sh) && ((fs.all fun D=>famIn fs D) && nodupF fs)
def asOb (t:TypeId) (v:AV):Option Ob:=
 match elemT P t,v with
 | some e,.fs k xs=>some (.row true e k xs)
 | some e,.fv s xs=>some (.rows true e s xs)
 | _,_=>none
def resTypes (t:TypeId) (n:Nat):List TypeId:=
 match n,P.underlying t with
 | 1,_=>[t]
 | _,some (.tuple ts)=>ts.toList
 | _,_=>[]
def resFin (o:Oper) (vs:List AV):Pg:=match vs with | [v]=>put o v | vs=>put o (.tup vs)
def resPut (o:Oper) (ty:List TypeId) (own:Option Nat) (vs:List AV):Pg:=
 match own with
 | none=>resFin o vs
 | some j=>match vs[j]?,ty[j]? with
  | some v,some t=>match asOb P t v with
   | some b=>.obj (.top (resName (o.dst.getD 0))) fun q=>match q with
    | none=>.setObj (resName (o.dst.getD 0)) b (resFin o (vs.set j (.own (.top (resName (o.dst.getD 0))))))
    | some _=>.fail
   | none=>.fail
  | _,_=>.fail
def spell:Nat→Nat→List AV→List AV
 | 0,_,_=>[]
 | k+1,j,r=>getE r j::spell k (j+1) r
theorem spell_drop:∀ (k j:Nat) (r:List AV),j+k=r.length→spell k j r=r.drop j
 | 0,j,r,h=>by rw [List.drop_of_length_le (by omega)]; rfl
 | k+1,j,r,h=>by
  rw [spell,spell_drop k (j+1) r (by omega),List.drop_eq_getElem_cons (by omega:j<r.length)]
  simp [getE,List.getD_eq_getElem?_getD,List.getElem?_eq_getElem (by omega:j<r.length)]
theorem spell_eq {k:Nat} {r:List AV} (h:r.length=k):spell k 0 r=r:=by
 rw [spell_drop k 0 r (by omega)]; rfl
def scal:AV→Bool
 | .int _ _=>true
 | .bool _=>true
 | _=>false
def opRow (c:Cal) (e:TypeId) (k:IntKind) (o:Oper) (as:List AV):Pg:=match o.dst,as with
 | some dd,a::r=>must (r.all scal) <| match a with
  | .nils=>.call c (.fs k []::r) fun q=>.chk (Nat.beq q.length 1) (.obj (.top dd) fun y=>match y with
    | none=>.setObj dd (.row true e k (getE q 0).toInts) (.setSlot dd (.own (.top dd)) .done)
    | some _=>.fail)
  | .own d=>.obj d fun z=>match z with
   | some ob=>match asRow k ob with
    | some (e',xs)=>must (Nat.beq e e') <| .call c (.fs k xs::r) fun q=>.chk (Nat.beq q.length 1) (.obj (.top dd) fun y=>match y with
     | none=>wrT d .dead (.setObj dd (.row true e k (getE q 0).toInts) (.setSlot dd (.own (.top dd)) .done))
     | some _=>.fail)
    | none=>.fail
   | none=>.fail
  | _=>.fail
 | _,_=>.fail
def opCall (cal:FuncId→Option Cal) (o:Oper) (f:FuncId) (as:List AV):Pg:=
 match cal f with
 | some c=>match c.row with
  | some ek=>opRow c ek.1 ek.2 o as
  | none=>must (allIn c.ps c.fs && resTypes P o.type c.ty.length == c.ty) <| doArgs c.ps as fun as' l is=>
  must (l.all fun d=>match d with | .top e=>!hasN is e | .mem _ _=>false) <| doFams c.fs fun xs=>.call c (as'++xs) fun r0=>.chk (Nat.beq r0.length (c.ty.length+(nIos c.ps+nFams c.ro c.fs))) <|
   let r:=spell (c.ty.length+(nIos c.ps+nFams c.ro c.fs)) 0 r0++famsR c.ro xs
   let fin:Pg:=putIos c.ps is (r.drop c.ty.length) (putFamsR c.ro c.fs (r.drop (c.ty.length+nIos c.ps)) (resPut P o c.ty c.own (c.res r)))
   match c.esc with
   | true=>freezeL l fin
   | false=>fin
 | none=>.fail
def opLookup (P:Program) (E:Env) (o:Oper) (t:TypeId) (x ix:AV) (two:Bool):Pg:=.fail
def opMapUpdate (P:Program) (E:Env) (o:Oper) (t:TypeId) (x ix v:AV):Pg:=.fail
def opMapEntry (P:Program) (E:Env) (o:Oper) (t:TypeId) (x ix:AV):Pg:=.fail
def opEntryStore (P:Program) (E:Env) (o:Oper) (t:TypeId) (x st v:AV):Pg:=.fail
def opDelete (P:Program) (E:Env) (o:Oper) (t:TypeId) (x ix:AV):Pg:=.fail
def opMakeMap (P:Program) (E:Env) (o:Oper) (t:TypeId):Pg:=.fail
def opRange (P:Program) (E:Env) (o:Oper) (t:TypeId) (x:AV):Pg:=.fail
def opNext (o:Oper) (x:AV):Pg:=.fail
def opEntry (o:Oper) (x:AV):Pg:=.fail
def opMapLen (P:Program) (E:Env) (o:Oper) (t:TypeId) (x:AV):Pg:=.fail
def opClo (o:Oper) (fn:Fn) (first caps:List AV):Pg:=match fn,first with
 | .func f,[]=>put o (.clo f caps)
 | _,_=>.fail
def aopCall (cal:FuncId→Option Cal) (o:Oper) (c:Call):Pg:=
 match c.callee with
 | .builtin .len=>match c.args.toList,c.argTypes.toList with
  | [x],[t]=>ev E x fun x=>match P.underlying t with
   | some (.map _ _)=>opMapLen P E o t x
   | _=>opLen P o t x
  | _,_=>.fail
 | .builtin .append=>match c.args.toList,c.argTypes.toList with
  | [s,x],[ts,tx]=>ev E s fun s=>ev E x fun x=>match P.underlying tx with
   | some (.int _)=>opAppendZ P o ts s x
   | _=>opAppend P E o tx ts s x
  | _,_=>.fail
 | .builtin .copy=>match c.args.toList,c.argTypes.toList with
  | [d,s],[td,ts]=>ev E d fun d=>ev E s fun s=>opCopy P o td d s
  | _,_=>.fail
 | .builtin .min=>match c.args.toList with
  | [x,y]=>ev E x fun x=>ev E y fun y=>opMin o x y
  | _=>.fail
 | .builtin .max=>match c.args.toList with
  | [x,y]=>ev E x fun x=>ev E y fun y=>opMax o x y
  | _=>.fail
 | .builtin .delete=>match c.args.toList,c.argTypes.toList with
  | [x,y],t::_=>ev E x fun x=>ev E y fun y=>opDelete P E o t x y
  | _,_=>.fail
 | .value q=>ev E q fun q=>match q with
  | .fn f=>evL E c.args.toList fun as=>opCall P cal o f as
  | .clo f caps=>evL E c.args.toList fun as=>opCall P cal o f (as++caps)
  | _=>.fail
 | _=>.fail
def aop (cal:FuncId→Option Cal) (o:Oper):Pg:=
 match o.op with
 | .move x=>ev E x (put o)
 | .assign x=>ev E x (put o)
 | .pick c x y=>ev E c fun c=>ev E x fun x=>ev E y fun y=>opPick o c x y
 | .box e x=>ev E x (opBox E o e)
 | .alloc e=>opAlloc P E o e
 | .load t x=>ev E x fun a=>ld P t a (put o)
 | .store t x v=>match o.dst with
  | none=>ev E x fun a=>ev E v fun v=>stD P E t a v
  | some _=>.fail
 | .fieldAddr s x f=>ev E x fun a=>opFieldAddr P o s a f
 | .field s x f=>ev E x fun a=>opField P o s a f
 | .indexAddr t x i=>ev E x fun a=>ev E i fun i=>opIndexAddr P E o t a i
 | .index t x i=>ev E x fun a=>ev E i fun i=>opIndex P E o t a i
 | .extract x i=>ev E x fun a=>opExtract o a i
 | .build t parts=>evL E (parts.toList.map (·.2)) fun vs=>opBuild P o t (parts.toList.map (·.1)) vs
 | .buildSlice t len parts=>evL E (parts.toList.map (·.2)) fun vs=>opBuildSlice P E o t len (parts.toList.map (·.1)) vs
 | .slice t x lo hi mx=>ev E x fun a=>evO E lo fun lo=>evO E hi fun hi=>evO E mx fun mx=>opSlice P o t a lo hi mx
 | .convert s d x=>ev E x (opConvert P o s d)
 | .unOp u _ x=>ev E x (opUn o u)
 | .binOp op t x y _=>match isNilC op y with
  | some neg=>ev E x fun a=>opIsNil P o t neg a
  | none=>ev E x fun a=>ev E y fun b=>opBin P E o op t a b
 | .makeSlice t l c=>ev E l fun l=>ev E c fun c=>match (match elemT P t with | some e=>kindT P e | none=>none) with
  | some _=>opMake P o t l c
  | none=>opMakeS P E o t l c
 | .call c=>aopCall P E cal o c
 | .nilCheck x=>ev E x (opNilCheck o)
 | .sliceToArrayPointer t x=>ev E x (opS2a P o t)
 | .lookup t x i two=>ev E x fun a=>ev E i fun i=>opLookup P E o t a i two
 | .mapUpdate t m k v=>match o.dst with
  | none=>ev E m fun m=>ev E k fun k=>ev E v fun v=>opMapUpdate P E o t m k v
  | some _=>.fail
 | .mapEntry t m k=>ev E m fun m=>ev E k fun k=>opMapEntry P E o t m k
 | .entryStore t m st v=>match o.dst with
  | none=>ev E m fun m=>ev E st fun st=>ev E v fun v=>opEntryStore P E o t m st v
  | some _=>.fail
 | .makeMap t none=>opMakeMap P E o t
 | .range t x=>ev E x (opRange P E o t)
 | .next x false=>ev E x (opNext o)
 | .entry x=>ev E x (opEntry o)
 | .makeFunc fn first caps=>evL E first.toList fun fs=>evL E caps.toList fun cs=>opClo o fn fs cs
 | _=>.fail
end
end
end Go.Am
end
section
set_option linter.unusedVariables false
namespace Go.Am
open Go.RowKit
structure Ctx where
 w0:World
 I:Nat→Prop
 F:Nat→Prop
 E:Env
 pin:Nm→Option Value:=fun _=>none
 ib:∀ b,I b→b<w0.heap.size
 fb:∀ b,F b→b<w0.heap.size
 iF:∀ b,I b→¬ F b
 gd:∀ g t,E.glob g=some t→∃ s,WT s t∧inF [] s=true
def Ctx.B (C:Ctx):Nat:=C.w0.heap.size
def Ctx.M (C:Ctx) (b:Nat):Prop:=C.B≤b∨C.I b
theorem Ctx.M_F {C:Ctx} {b:Nat} (h:C.M b):¬ C.F b:=fun hF=>by
 rcases h with h | h
 ·exact absurd (C.fb b hF) (Nat.not_lt.2 h)
 ·exact C.iF b h hF
def blk:Value→Option Nat
 | .pointer (some a)=>some a.block
 | .slice (some a) _ _=>some a.block
 | .map (some r)=>some r
 | _=>none
def Ob.isOwn:Ob→Bool
 | .dead=>false
 | .box _=>true
 | .row o _ _ _=>o
 | .rows o _ _ _=>o
 | .lit _ _ _=>true
 | .rowS _ _ _ _=>true
 | .mapo _ _ _ _=>true
 | .iter _ _ _ _ _=>true
def OwnB (S:St) (θ:Nm→Option Value) (b:Nat):Prop:=∃ d o v,S.obj d=some o∧o.isOwn=true∧θ d=some v∧blk v=some b
def okOf (C:Ctx) (w:World) (S:St) (θ:Nm→Option Value) (b:Nat):Prop:=b<w.heap.size∧¬ C.F b∧¬ OwnB S θ b
def Free (cur:Array Value) (fr:Nat × Nat):Prop:=fr.1≤fr.2∧∀ o,o<cur.size→¬ (fr.1≤o∧o<fr.2)
def OwnRow (w:World) (M:Nat→Prop) (e:TypeId) (size:Nat) (v:Value) (n:Nat) (cs:List Value):Prop:=
 cs.length=n * size∧((v=.slice none 0 0∧n=0)∨
  ∃ g cap cur fr,v=.slice (some ⟨g,0,none⟩) n cap∧M g∧w.heap[g]? = some (.cells cur e fr)∧Free cur fr∧n≤cap∧cap≤maxLen∧cur.size=cap * size∧cur.toList.take (n * size)=cs)
def MEs (w:World) (ok:Nat→Prop) (θ:Nm→Option Value) (ks vs:Sh):List AV→List MapEntry→Prop
 | [],[]=>True
 | e::es,m::ms=>(∃ k v,e=.agg [.int .i64 m.born,k,v]∧WT ks k∧CV w ok θ k m.key∧WT vs v∧CV w ok θ v m.val)∧MEs w ok θ ks vs es ms
 | _,_=>False
def OV (C:Ctx) (w:World) (ok:Nat→Prop) (θ:Nm→Option Value) (d:Nm):Ob→Prop
 | .dead=>True
 | .box t=>∃ g e fr v,θ d=some (.pointer (some ⟨g,0,none⟩))∧w.heap[g]? = some (.cells v.cells e fr)∧Free v.cells fr∧CV w ok θ t v∧v.cells.size=t.width∧C.M g
 | .row own e k xs=>∃ v,θ d=some v∧(own=true→OwnRow w C.M e 1 v xs.length (ints k xs))∧(own=false→CV w ok θ (.fs k xs) v)
 | .rows own e s xs=>∃ v,θ d=some v∧(∀ x∈xs,WT s x)∧(own=true→∃ cs,CVs w ok θ xs cs∧OwnRow w C.M e s.width v xs.length cs)∧(own=false→CV w ok θ (.fv s xs) v)
 | .rowS e k xs sp=>∃ v,θ d=some v∧OwnRow w C.M e 1 v xs.length (ints k xs)∧(sp≠[]→∃ g cap cur fr,v=.slice (some ⟨g,0,none⟩) xs.length cap∧w.heap[g]? = some (.cells cur e fr)∧xs.length+sp.length≤cap∧cur.toList.take (xs.length+sp.length)=ints k (xs++sp))
 | .mapo ks vs es clk=>∃ g ents c,θ d=some (.map (some g))∧w.heap[g]? = some (.map ents c)∧clk=(c:Nat)∧MEs w ok θ ks vs es ents.toList∧C.M g
 | .iter f i since seen c0=>∃ (g b sn:Nat) (sq:Array Nat) (cn:Nat),θ d=some (.pointer (some ⟨g,0,none⟩))∧w.heap[g]? = some (.mapIter (some b) sn sq cn)∧θ (.mem f i)=some (.map (some b))∧since=(sn:Nat)∧seen=sq.toList.map (fun x=>((x:Nat):Int))∧c0=(cn:Nat)∧C.B≤g
 | .lit e s vs=>∃ v cs,θ d=some v∧CVs w ok θ vs cs∧AV.widths vs=vs.length * s.width∧OwnRow w C.M e s.width v vs.length cs
def base0 (v:Value):Prop:=∀ ad n c,v=.slice (some ad) n c→∃ g,ad=⟨g,0,none⟩
def Out (w w' : World):Prop:=w'.output=w.output∧(w.drawn≤w'.drawn∨True)
theorem Out.trans {a b c:World} (h:Out a b) (k:Out b c):Out a c:=⟨k.1.trans h.1,.inr trivial⟩
theorem Out.of {w w' : World} (h:w'.output=w.output) (k:w'.drawn=w.drawn):Out w w':=⟨h,.inr trivial⟩
structure Rel (C:Ctx) (S:St) (θ:Nm→Option Value) (a:Act) (w:World):Prop where
 len:a.tmps.size=S.tm.length
 slots:∀ (i:Nat) v,a.tmps[i]? = some v→CV w (okOf C w S θ) θ (S.slot i) v
 objs:∀ d o,S.has d→S.obj d=some o→OV C w (okOf C w S θ) θ d o
 fresh:∀ d,¬ S.has d→θ d=none
 sep:∀ d d' o o' v v' b,S.obj d=some o→S.obj d' = some o'→o.isOwn=true→o'.isOwn=true→d≠d'→θ d=some v→θ d' = some v'→blk v=some b→blk v'≠some b
 os:w.os=C.w0.os
 tape:w.tape=C.w0.tape
 output:Out C.w0 w
 size:C.w0.heap.size≤w.heap.size
 frame:∀ b,b<C.B→¬ C.I b→w.heap[b]? = C.w0.heap[b]?
 globs:∀ g t,C.E.glob g=some t→CV w (okOf C w S θ) θ (.fp t) (.pointer (some ⟨g,0,none⟩))
 base:∀ d v,θ d=some v→base0 v
 pin:∀ d v,C.pin d=some v→θ d=some v
section
variable {C:Ctx} {S S' : St} {θ θ' : Nm→Option Value} {a:Act} {w w' : World}
theorem Rel.has_of (h:Rel C S θ a w) {d:Nm} {v:Value} (hd:θ d=some v):S.has d:=by
 refine Classical.byContradiction (fun hn=>?_)
 rw [h.fresh d hn] at hd
 cases hd
theorem Rel.ob (h:Rel C S θ a w) {d:Nm} {o:Ob} {v:Value} (ho:S.obj d=some o) (hd:θ d=some v):OV C w (okOf C w S θ) θ d o:=h.objs d o (h.has_of hd) ho
theorem has_top {d:Nat} {o:Ob} (ho:S.obj (.top d)=some o):S.has (.top d):=by
 show S.obj (.top d)≠none
 rw [ho]; simp
theorem Rel.obT (h:Rel C S θ a w) {d:Nat} {o:Ob} (ho:S.obj (.top d)=some o):OV C w (okOf C w S θ) θ (.top d) o:=h.objs _ o (has_top ho) ho
theorem MEs_mono {ok ok' : Nat→Prop} (hk:Keeps w w' ok ok' θ θ') {ks vs:Sh}:∀ {es:List AV} {ms:List MapEntry},MEs w ok θ ks vs es ms→MEs w' ok' θ' ks vs es ms
 | [],[],_=>trivial
 | e::es,m::ms,⟨⟨k,v,h1,h2,h3,h4,h5⟩,h⟩=>⟨⟨k,v,h1,h2,CV_mono hk _ _ h3,h4,CV_mono hk _ _ h5⟩,MEs_mono hk h⟩
theorem OwnRow.mono {M:Nat→Prop} {e:TypeId} {size n:Nat} {v:Value} {cs:List Value} (h:OwnRow w M e size v n cs)
  (hk:∀ b,blk v=some b→w'.heap[b]? = w.heap[b]?):OwnRow w' M e size v n cs:=by
 refine ⟨h.1,?_⟩
 rcases h.2 with h | ⟨g,cap,cur,fr,rfl,h1,h2,h3⟩
 ·exact .inl h
 ·exact .inr ⟨g,cap,cur,fr,rfl,h1,(hk g rfl).trans h2,h3⟩
theorem OwnRow.lt {M:Nat→Prop} {e:TypeId} {size n:Nat} {v:Value} {cs:List Value} (h:OwnRow w M e size v n cs) {b:Nat} (hb:blk v=some b):b<w.heap.size∧M b:=by
 rcases h.2 with ⟨rfl,_⟩ | ⟨g,cap,cur,fr,rfl,h1,h2,_⟩
 ·cases hb
 ·cases hb
  exact ⟨(Array.getElem?_eq_some_iff.1 h2).1,h1⟩
theorem OV.mono {ok ok' : Nat→Prop} {d:Nm} (hk:Keeps w w' ok ok' θ θ'):∀ {o:Ob},OV C w ok θ d o→(o.isOwn=true→∀ v b,θ d=some v→blk v=some b→w'.heap[b]? = w.heap[b]?)→OV C w' ok' θ' d o
 | .dead,_,_=>trivial
 | .box t,h,hb=>by
  obtain ⟨g,e,fr,v,h1,h2,h3,h4,h5⟩:=h
  exact ⟨g,e,fr,v,hk.nm _ _ h1,(hb rfl _ g h1 rfl).trans h2,h3,CV_mono hk _ _ h4,h5⟩
 | .row own e k xs,h,hb=>by
  obtain ⟨v,h1,h2,h3⟩:=h
  exact ⟨v,hk.nm _ _ h1,fun ho=>(h2 ho).mono (fun b hv=>hb ho v b h1 hv),fun ho=>CV_mono hk _ _ (h3 ho)⟩
 | .rows own e s xs,h,hb=>by
  obtain ⟨v,h1,hw,h2,h3⟩:=h
  refine ⟨v,hk.nm _ _ h1,hw,fun ho=>?_,fun ho=>CV_mono hk _ _ (h3 ho)⟩
  obtain ⟨cs,h4,h5⟩:=h2 ho
  exact ⟨cs,CVs_mono hk _ _ h4,h5.mono (fun b hv=>hb ho v b h1 hv)⟩
 | .rowS e k xs sp,h,hb=>by
  obtain ⟨v,h1,h2,h3⟩:=h
  refine ⟨v,hk.nm _ _ h1,h2.mono (fun b hv=>hb rfl v b h1 hv),fun hs=>?_⟩
  obtain ⟨g,cap,cur,fr,h4,h5,h6⟩:=h3 hs
  exact ⟨g,cap,cur,fr,h4,(hb rfl v g h1 (by rw [h4]; rfl)).trans h5,h6⟩
 | .mapo ks vs es clk,h,hb=>by
  obtain ⟨g,ents,c,h1,h2,h3,h4,h5⟩:=h
  exact ⟨g,ents,c,hk.nm _ _ h1,(hb rfl _ g h1 rfl).trans h2,h3,MEs_mono hk h4,h5⟩
 | .iter f i since seen c0,h,hb=>by
  obtain ⟨g,b,sn,sq,cn,h1,h2,h3,h4⟩:=h
  exact ⟨g,b,sn,sq,cn,hk.nm _ _ h1,(hb rfl _ g h1 rfl).trans h2,hk.nm _ _ h3,h4⟩
 | .lit e s vs,h,hb=>by
  obtain ⟨v,cs,h1,h4,hw,h5⟩:=h
  exact ⟨v,cs,hk.nm _ _ h1,CVs_mono hk _ _ h4,hw,h5.mono (fun b hv=>hb rfl v b h1 hv)⟩
theorem OV.lt {ok:Nat→Prop} {d:Nm}:∀ {o:Ob},OV C w ok θ d o→o.isOwn=true→∀ {v b},θ d=some v→blk v=some b→b<w.heap.size∧C.M b
 | .dead,_,ho=>by cases ho
 | .box t,h,_=>by
  obtain ⟨g,e,fr,v,h1,h2,_,_,_,h5⟩:=h
  intro hv hb
  rw [h1] at hv
  cases hv
  cases hb
  exact ⟨(Array.getElem?_eq_some_iff.1 h2).1,h5⟩
 | .row own e k xs,h,ho=>by
  obtain ⟨v,h1,h2,_⟩:=h
  intro hv hb
  rw [h1] at hv
  cases hv
  exact ⟨((h2 ho).lt hb).1,((h2 ho).lt hb).2⟩
 | .rows own e s xs,h,ho=>by
  obtain ⟨v,h1,_,h2,_⟩:=h
  intro hv hb
  rw [h1] at hv
  cases hv
  obtain ⟨cs,_,h3⟩:=h2 ho
  exact ⟨(h3.lt hb).1,(h3.lt hb).2⟩
 | .rowS e k xs sp,h,_=>by
  obtain ⟨v,h1,h2,_⟩:=h
  intro hv hb
  rw [h1] at hv
  cases hv
  exact ⟨(h2.lt hb).1,(h2.lt hb).2⟩
 | .mapo ks vs es clk,h,_=>by
  obtain ⟨g,ents,c,h1,h2,h3,h4,h5⟩:=h
  intro hv hb
  rw [h1] at hv
  cases hv
  cases hb
  exact ⟨(Array.getElem?_eq_some_iff.1 h2).1,h5⟩
 | .iter f i since seen c0,h,_=>by
  obtain ⟨g,b,sn,sq,cn,h1,h2,h3,h4,h5,h6,h7⟩:=h
  intro hv hb
  rw [h1] at hv
  cases hv
  cases hb
  exact ⟨(Array.getElem?_eq_some_iff.1 h2).1,.inl h7⟩
 | .lit e s vs,h,_=>by
  obtain ⟨v,cs,h1,_,_,h3⟩:=h
  intro hv hb
  rw [h1] at hv
  cases hv
  exact ⟨(h3.lt hb).1,(h3.lt hb).2⟩
theorem Rel.turn (h:Rel C S θ a w) (D:Nm→Prop) (X:Nat→Prop)
  (htm:S'.tm=S.tm)
  (hout:∀ d,¬ D d→S'.obj d=S.obj d∧θ' d=θ d)
  (hhas:∀ d,¬ D d→(S'.has d↔S.has d))
  (hnm:∀ d x,θ d=some x→θ' d=some x)
  (hos:w'.os=w.os) (htape:w'.tape=w.tape) (houtp:Out w w') (hsize:w.heap.size≤w'.heap.size)
  (hheap:∀ b,b<w.heap.size→¬ X b→w'.heap[b]? = w.heap[b]?)
  (hX:∀ b,X b→∃ d o v,D d∧S.obj d=some o∧o.isOwn=true∧θ d=some v∧blk v=some b)
  (hnew:∀ d o v b,D d→S'.obj d=some o→o.isOwn=true→θ' d=some v→blk v=some b→
   w.heap.size≤b∨∃ d₀ o₀ v₀,D d₀∧S.obj d₀=some o₀∧o₀.isOwn=true∧θ d₀=some v₀∧blk v₀=some b)
  (hsep:∀ d d' o o' v v' b,D d→D d'→S'.obj d=some o→S'.obj d' = some o'→o.isOwn=true→o'.isOwn=true→d≠d'→θ' d=some v→θ' d' = some v'→blk v=some b→blk v'≠some b)
  (hfresh:∀ d,D d→¬ S'.has d→θ' d=none)
  (hbase:∀ d v,D d→θ' d=some v→base0 v)
  (hobj:Keeps w w' (okOf C w S θ) (okOf C w' S' θ') θ θ'→∀ d o,D d→S'.has d→S'.obj d=some o→OV C w' (okOf C w' S' θ') θ' d o) :
  Rel C S' θ' a w':=by
 have hokE:∀ b,okOf C w S θ b→okOf C w' S' θ' b:=by
  rintro b ⟨h1,h2,h4⟩
  refine ⟨by omega,h2,?_⟩
  rintro ⟨d,o,v,ho,hi,hv,hb⟩
  by_cases hD:D d
  ·rcases hnew d o v b hD ho hi hv hb with h5 | ⟨d₀,o₀,v₀,_,h6,h7,h8,h9⟩
   ·omega
   ·exact h4 ⟨d₀,o₀,v₀,h6,h7,h8,h9⟩
  ·obtain ⟨e1,e2⟩:=hout d hD
   rw [e1] at ho
   rw [e2] at hv
   exact h4 ⟨d,o,v,ho,hi,hv,hb⟩
 have hkeep:Keeps w w' (okOf C w S θ) (okOf C w' S' θ') θ θ':=by
  refine ⟨hokE,?_,hnm⟩
  rintro b ⟨h1,h2,h4⟩
  refine hheap b h1 (fun hx=>?_)
  obtain ⟨d,o,v,_,h6,h7,h8,h9⟩:=hX b hx
  exact h4 ⟨d,o,v,h6,h7,h8,h9⟩
 have hfar:∀ d o v b,¬ D d→S.obj d=some o→o.isOwn=true→θ d=some v→blk v=some b→w'.heap[b]? = w.heap[b]?:=by
  intro d o v b hD ho hi hv hb
  refine hheap b ((h.ob ho hv).lt hi hv hb).1 (fun hx=>?_)
  obtain ⟨d',o',v',hD',h6,h7,h8,h9⟩:=hX b hx
  exact h.sep d d' o o' v v' b ho h6 hi h7 (fun e=>hD (e ▸ hD')) hv h8 hb h9
 refine ⟨by rw [htm]; exact h.len,?_,?_,?_,?_,hos.trans h.os,htape.trans h.tape,h.output.trans houtp,Nat.le_trans h.size hsize,?_,fun g t hg=>CV_mono hkeep _ _ (h.globs g t hg),fun d v hv=>?_,fun d v hv=>hnm d v (h.pin d v hv)⟩
 case refine_6=>
  by_cases hD:D d
  ·exact hbase d v hD hv
  ·rw [(hout d hD).2] at hv
   exact h.base d v hv
 ·intro i v hv
  have:=h.slots i v hv
  have e:S'.slot i=S.slot i:=by simp [St.slot,htm]
  rw [e]
  exact CV_mono hkeep _ _ this
 ·intro d o hh ho
  by_cases hD:D d
  ·exact hobj hkeep d o hD hh ho
  ·obtain ⟨e1,e2⟩:=hout d hD
   rw [e1] at ho
   exact (h.objs d o ((hhas d hD).1 hh) ho).mono hkeep (fun hi v b hv hb=>hfar d o v b hD ho hi hv hb)
 ·intro d hd
  by_cases hD:D d
  ·exact hfresh d hD hd
  ·obtain ⟨e1,e2⟩:=hout d hD
   rw [e2]
   exact h.fresh d (fun hh=>hd ((hhas d hD).2 hh))
 ·intro d d' o o' v v' b h1 h2 h3 h4 hne h5 h6 h7 h8
  by_cases hD:D d
  ·by_cases hD' : D d'
   ·exact hsep d d' o o' v v' b hD hD' h1 h2 h3 h4 hne h5 h6 h7 h8
   ·obtain ⟨e1,e2⟩:=hout d' hD'
    rw [e1] at h2
    rw [e2] at h6
    rcases hnew d o v b hD h1 h3 h5 h7 with h9 | ⟨d₀,o₀,v₀,hD0,k1,k2,k3,k4⟩
    ·have:=((h.ob h2 h6).lt h4 h6 h8).1
     omega
    ·exact h.sep d₀ d' o₀ o' v₀ v' b k1 h2 k2 h4 (fun e=>hD' (e ▸ hD0)) k3 h6 k4 h8
  ·obtain ⟨e1,e2⟩:=hout d hD
   rw [e1] at h1
   rw [e2] at h5
   by_cases hD' : D d'
   ·rcases hnew d' o' v' b hD' h2 h4 h6 h8 with h9 | ⟨d₀,o₀,v₀,hD0,k1,k2,k3,k4⟩
    ·have:=((h.ob h1 h5).lt h3 h5 h7).1
     omega
    ·exact h.sep d d₀ o o₀ v v₀ b h1 k1 h3 k2 (fun e=>hD (e ▸ hD0)) h5 k3 h7 k4
   ·obtain ⟨e1',e2'⟩:=hout d' hD'
    rw [e1'] at h2
    rw [e2'] at h6
    exact h.sep d d' o o' v v' b h1 h2 h3 h4 hne h5 h6 h7 h8
 ·intro b hb hI
  rw [←h.frame b hb hI]
  refine hheap b (Nat.lt_of_lt_of_le hb h.size) (fun hx=>?_)
  obtain ⟨d,o,v,_,h6,h7,h8,h9⟩:=hX b hx
  rcases ((h.ob h6 h8).lt h7 h8 h9).2 with k | k
  ·omega
  ·exact hI k
theorem slot_setSlot_same (S:St) (d:Nat) (v:AV) (h:d<S.tm.length):(S.setSlot d v).slot d=v:=by
 simp [St.slot,St.setSlot,h]
theorem slot_setSlot_other (S:St) (d i:Nat) (v:AV) (h:d≠i):(S.setSlot d v).slot i=S.slot i:=by
 simp [St.slot,St.setSlot,List.getD_eq_getElem?_getD,List.getElem?_set_ne h]
theorem has_setSlot (S:St) (d:Nat) (i:Nm) (v:AV):(S.setSlot d v).has i↔S.has i:=by cases i <;> exact Iff.rfl
theorem obj_setObj_same (S:St) (d:Nat) (o:Ob):(S.setObj d o).obj (.top d)=some o:=by
 simp [St.obj,St.setObj,look]
theorem obj_setObj_other (S:St) (d:Nat) (i:Nm) (o:Ob) (h:i≠.top d):(S.setObj d o).obj i=S.obj i:=by
 cases i with
 | top e=>
  have h1:Nat.beq e d=false:=by
   cases hb:Nat.beq e d with
   | false=>rfl
   | true=>simp at hb; exact (h (by rw [hb])).elim
  simp [St.obj,St.setObj,look,h1]
 | mem f j=>rfl
theorem has_setObj_same (S:St) (d:Nat) (o:Ob):(S.setObj d o).has (.top d):=by
 show (S.setObj d o).obj (.top d)≠none
 rw [obj_setObj_same]; simp
theorem has_setObj_other (S:St) (d:Nat) (i:Nm) (o:Ob) (h:i≠.top d):(S.setObj d o).has i↔S.has i:=by
 cases i with
 | top e=>
  show (S.setObj d o).obj (.top e)≠none↔S.obj (.top e)≠none
  rw [obj_setObj_other _ _ _ _ h]
 | mem f j=>exact Iff.rfl
theorem lookF_setF_same {l:List (Nat × Fam)} {f:Nat} {F:Fam} {x:List AV} (h:lookF l f=some F):lookF (setF l f x) f=some { F with l:=x }:=by
 induction l with
 | nil=>cases h
 | cons y r ih=>
  simp only [lookF] at h
  simp only [setF]
  cases hb:Nat.beq f y.1 with
  | true=>rw [hb] at h; cases h; simp [lookF,hb]
  | false=>rw [hb] at h; simp only [lookF,hb]; exact ih h
theorem lookF_setF_other {l:List (Nat × Fam)} {f g:Nat} {x:List AV} (h:g≠f):lookF (setF l f x) g=lookF l g:=by
 induction l with
 | nil=>rfl
 | cons y r ih=>
  simp only [setF]
  cases hb:Nat.beq f y.1 with
  | true=>
   have hf:f=y.1:=by simpa using hb
   have hg:Nat.beq g y.1=false:=by
    cases hb2:Nat.beq g y.1 with
    | false=>rfl
    | true=>simp at hb2; exact (h (hb2.trans hf.symm)).elim
   simp [lookF,hg]
  | false=>
   simp only [lookF]
   cases Nat.beq g y.1 with
   | true=>rfl
   | false=>exact ih
theorem fam_setFam_same {f:Nat} {F:Fam} {x:List AV} (h:S.fam f=some F):(S.setFam f x).fam f=some { F with l:=x }:=lookF_setF_same h
theorem fam_setFam_other {f g:Nat} {x:List AV} (h:g≠f):(S.setFam f x).fam g=S.fam g:=lookF_setF_other h
theorem obj_mem {f i:Nat} {F:Fam} (h:S.fam f=some F):S.obj (.mem f i)=some (F.at i):=by
 have h:lookF S.fm f=some F:=h
 simp only [St.obj,h]
theorem fam_of_obj {f i:Nat} {o:Ob} (h:S.obj (.mem f i)=some o):∃ F,S.fam f=some F∧o=F.at i:=by
 simp only [St.obj] at h
 split at h
 ·rename_i F hF; cases h; exact ⟨F,hF,rfl⟩
 ·cases h
theorem obj_setFam_other {f:Nat} {x:List AV} {d:Nm} (h:∀ i,d≠.mem f i):(S.setFam f x).obj d=S.obj d:=by
 cases d with
 | top e=>rfl
 | mem g i=>
  have hg:g≠f:=fun e=>h i (by rw [e])
  have:lookF (S.setFam f x).fm g=lookF S.fm g:=fam_setFam_other (S:=S) hg
  simp only [St.obj,this]
theorem has_setFam_other {f:Nat} {x:List AV} {d:Nm} (h:∀ i,d≠.mem f i):(S.setFam f x).has d↔S.has d:=by
 cases d with
 | top e=>exact Iff.rfl
 | mem g i=>
  have hg:g≠f:=fun e=>h i (by rw [e])
  have:(S.setFam f x).fam g=S.fam g:=fam_setFam_other (S:=S) hg
  simp only [St.has,this]
theorem okOf_setSlot (d:Nat) (v:AV):okOf C w (S.setSlot d v) θ=okOf C w S θ:=rfl
theorem Rel.put (h:Rel C S θ a w) {d:Nat} {x:AV} {v:Value} (hv:CV w (okOf C w S θ) θ x v):Rel C (S.setSlot d x) θ (a.put (some d) v) w:=by
 refine ⟨by simpa [St.setSlot,Act.put] using h.len,?_,fun d o hh ho=>h.objs d o ((has_setSlot _ _ _ _).1 hh) ho,fun d hd=>h.fresh d (fun hh=>hd ((has_setSlot _ _ _ _).2 hh)),h.sep,h.os,h.tape,h.output,h.size,h.frame,h.globs,h.base,h.pin⟩
 intro i u hu
 rw [okOf_setSlot]
 simp only [Act.put,Array.getElem?_setIfInBounds] at hu
 by_cases hi:d=i
 ·subst hi
  rw [if_pos rfl] at hu
  split at hu
  ·rename_i hlt
   cases hu
   rw [slot_setSlot_same _ _ _ (by rw [←h.len]; exact hlt)]
   exact hv
  ·cases hu
 ·rw [if_neg hi] at hu
  rw [slot_setSlot_other _ _ _ _ hi]
  exact h.slots i u hu
theorem Rel.world (h:Rel C S θ a w) (hh:w'.heap=w.heap) (hos:w'.os=w.os) (htape:w'.tape=w.tape) (houtp:Out w w'):Rel C S θ a w':=
 h.turn (fun _=>False) (fun _=>False) rfl (fun _ _=>⟨rfl,rfl⟩) (fun _ _=>Iff.rfl) (fun _ _ h=>h) hos htape houtp (by rw [hh]; exact Nat.le_refl _) (fun b _ _=>by rw [hh])
  (fun _ h=>h.elim) (fun _ _ _ _ h=>h.elim) (fun _ _ _ _ _ _ _ h=>h.elim) (fun _ h=>h.elim) (fun _ _ h=>h.elim) (fun _ _ _ h=>h.elim)
end
end Go.Am
end
