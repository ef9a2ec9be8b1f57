/- What an event's bytes are and what bytes tell of an event, in plain Lean: values, fields, refusals, the bytes, the reading. -/
import Derived.Test.YtepbmdlgdaedpaaGreatDoorOctetS
/- What an event's bytes are and what bytes tell of an event, in plain Lean: values, fields, refusals, the bytes, the reading. -/
namespace Go.Proofs.YtepbmdlgdaedpaaGreatDoor
open Go.RowKit Go.Dk
structure Val where
  k:Int
  n:Int
  t:List UInt8
  s:List (List UInt8)
abbrev Val.cells (v:Val) (sv:Value):List Value:=[.int .i64 v.k,.int .i64 v.n,aj v.t,sv]
def noVal:Val:=⟨0,0,[],[]⟩
def Val.In (v:Val):Prop:=(-9223372036854775808≤v.k∧v.k≤9223372036854775807)∧(-9223372036854775808≤v.n∧v.n≤9223372036854775807)
def fC (s:List (List UInt8)):Nat→Bool
  | 0=>true
  | 1=>true
  | j+2=>fC s (j+1) && !bJ .geq (s.getD j []) (s.getD (j+1) [])
def Val.formed (v:Val):Bool :=
  if (v.k≠3∧v.t≠[])∨(v.k≠5∧v.s≠[]) then false
  else if v.k=1∨v.k=4 then true
  else if v.k=2 then decide (v.n=0∨v.n=1)
  else if v.k=0∨v.k=3 then decide (v.n=0)
  else if v.k=5 then fC v.s v.s.length && decide (v.n=0)
  else false
def iT (m:List UInt8):Bool:=decide (1024<m.length)
def Val.right (v:Val):Nat :=
  if v.formed=false then 8
  else if v.k=4∧¬ (0≤v.n∧v.n≤4611686018427387904) then 111
  else if 1024<v.t.length∨v.s.any iT=true then 113
  else if 64<v.s.length then 114 else 0
def u64 (n:Int):Nat:=(n%18446744073709551616).toNat
def Val.bytes (v:Val):List UInt8:=be 1 v.k.toNat ++
  (if v.k=1∨v.k=4 then be 8 (u64 v.n) else if v.k=2 then [if v.n=1 then 1 else 0] else if v.k=3 then be 2 v.t.length++v.t else if v.k=5 then be 2 v.s.length++fJ v.s else [])
def Val.put (v:Val):List UInt8:=if v.right=0 then v.bytes else []
structure Fld where
  typed:Bool
  cased:Bool
  named:Bool
  valued:Bool
  args:Bool
  source:Bool
abbrev Fld.cells (f:Fld):List Value:=[.bool f.typed,.bool f.cased,.bool f.named,.bool f.valued,.bool f.args,.bool f.source]
def noFld:Fld:=⟨false,false,false,false,false,false⟩
def gU (op:Int):Fld:=⟨decide (op=1∨op=2),decide (op=2∨op=3∨op=4),decide (op=3∨op=4),decide (op=3),decide (op=4),decide (op=1)⟩
def lw (c:UInt8):Bool:=decide (97≤c.toNat∧c.toNat≤122)
def sU (c:UInt8):Bool:=decide (48≤c.toNat∧c.toNat≤57)
def pF (c:UInt8):Bool:=lw c || sU c || decide (c=95)
def uu (c:UInt8):Bool:=lw c || sU c || decide (c=45)
def iI (w:List UInt8):Bool:=decide (1≤w.length∧w.length≤64) && lw (bAt w 0) && w.all pF
def reserved:List (List UInt8):=[[116,121,112,101],[97,116,116,114,105,98,117,116,101],[115,116,97,103,101],[109,105,108,101,115,116,111,110,101],[115,116,101,112],[105,110],[111,112,101,110,115],[99,108,111,115,101,115],[114,101,97,99,104,101,100],[119,104,101,110],[114,101,111,112,101,110],[105,110,116],[98,111,111,108],[116,101,120,116],[116,105,109,101],[115,101,116],[111,112,116,105,111,110,97,108],[105,102],[116,104,101,110],[101,108,115,101],[111,114],[97,110,100],[110,111,116],[116,114,117,101],[102,97,108,115,101],[110,111,116,104,105,110,103],[104,97,115],[115,105,122,101],[106,111,105,110],[111,112,101,110],[99,108,111,99,107],[115,116,101,112,115],[109,105,110],[109,97,120],[100,101,102,97,117,108,116]]
def bY (w:List UInt8):Bool:=iI w && !reserved.contains w
def dS (w:List UInt8) (m:Int):Bool:=decide (1≤w.length∧(w.length:Int)≤m) && w.all uu
structure Ev where
  op:Int
  num:Int
  clk:Int
  typ:List UInt8
  cas:List UInt8
  nam:List UInt8
  v:Val
  args:List Val
  src:List UInt8
  eff:List UInt8
def Eo:Ev:=⟨0,0,0,[],[],[],noVal,[],[],List.replicate 32 0⟩
def Ev.In (e:Ev):Prop:=(-9223372036854775808≤e.op∧e.op≤9223372036854775807)∧(-9223372036854775808≤e.num∧e.num≤9223372036854775807)∧(-9223372036854775808≤e.clk∧e.clk≤9223372036854775807)∧e.v.In∧(∀ v∈e.args,v.In)∧e.eff.length=32
def Val.nothing (v:Val):Bool:=decide (v.k=0∧v.n=0∧v.t=[]∧v.s=[])
def dJ (e:Ev) (f:Fld):Bool:=(f.typed || decide (e.typ=[])) && (f.cased || decide (e.cas=[])) && (f.named || decide (e.nam=[])) && (f.valued || e.v.nothing) && (f.args || decide (e.args=[])) && (f.source || decide (e.src=[]))
def dU:List Val→Nat
  | []=>0
  | v::l=>if v.right=0 then dU l else v.right
def dw (e:Ev) (f:Fld):Nat :=
  if dJ e f=false then 8
  else if (f.cased=true∧dS e.cas 64=false)∨(f.typed=true∧bY e.typ=false)∨(f.named=true∧bY e.nam=false) then 34
  else if e.num<0∨1099511627776≤e.num then 5
  else if e.clk<0∨4611686018427387904<e.clk then 132
  else if 16<e.args.length then 7
  else if dU (e.v::e.args)=0 then (if 60000<e.src.length then 6 else 0) else dU (e.v::e.args)
def nameB (s:List UInt8):List UInt8:=be 2 s.length++s
def Ev.bytes (e:Ev) (f:Fld):List UInt8:=be 1 e.op.toNat++be 8 (u64 e.num)++be 8 (u64 e.clk)++(if f.cased then nameB e.cas else [])++(if f.typed then nameB e.typ else [])++(if f.named then nameB e.nam else [])++(if f.source then be 4 e.src.length++e.src else [])++(if f.valued then e.v.put else [])++(if f.args then be 1 e.args.length++e.args.flatMap Val.put else [])++e.eff
def jH (op:Int):Prop:=1≤op∧op≤5
instance (op:Int):Decidable (jH op):=inferInstanceAs (Decidable (_∧_))
def eY (e:Ev):Nat:=if ¬ jH e.op then 8 else if dw e (gU e.op)=0 then (if 65536<(e.bytes (gU e.op)).length then 6 else 0) else dw e (gU e.op)
def dV (e:Ev):List UInt8:=if eY e=0 then e.bytes (gU e.op) else []
structure Got (α:Type) where
  v:α
  p:Nat
  y:Nat
def got {α:Type} (r:List UInt8→Res α) (d:α) (l:List UInt8) (p y:Nat):Got α:=⟨(r (l.drop p)).val d y,(r (l.drop p)).pl p y,(r (l.drop p)).why y⟩
def i64 (n:Nat):Int:=if n<9223372036854775808 then n else (n:Int)-18446744073709551616
def dX (k:Nat) (l:List UInt8) (p y:Nat):Got Val :=
  if k=1∨k=4 then let g:=got (eQ 8) 0 l p y; ⟨⟨k,i64 g.v,[],[]⟩,g.p,g.y⟩
  else if k=2 then let g:=got jl false l p y; ⟨⟨k,if g.v then 1 else 0,[],[]⟩,g.p,g.y⟩
  else if k=3 then let g:=got (eU · 1024) [] l p y; ⟨⟨k,0,g.v,[]⟩,g.p,g.y⟩
  else if k=5 then let g:=got (fZ · 64 1024) [] l p y; ⟨⟨k,0,[],g.v⟩,g.p,g.y⟩
  else ⟨⟨k,0,[],[]⟩,p,y⟩
def cu (l:List UInt8) (p y:Nat):Got Val :=
  let g:=got (eQ 1) 0 l p y
  let b:=dX g.v l g.p g.y
  let y2:=if b.y=0∧b.v.right≠0 then 8 else b.y
  ⟨if y2=0 then b.v else noVal,b.p,y2⟩
def fQ (l:List UInt8):Nat→Nat→Nat→Got (List Val)
  | 0,p,y=>⟨[],p,y⟩
  | n+1,p,y=>if y=0 then let g:=cu l p y; let r:=fQ l n g.p g.y; ⟨g.v::r.v,r.p,r.y⟩ else ⟨[],p,y⟩
def jM {α:Type} (b:Bool) (d:α) (p y:Nat) (g:Got α):Got α:=if b then g else ⟨d,p,y⟩
def qi {α β:Type} (g:Got α) (k:α→Nat→Nat→Got β):Got β:=k g.v g.p g.y
theorem di {α β:Type} {v:α} {p y:Nat} {k:α→Nat→Nat→Got β}:qi ⟨v,p,y⟩ k=k v p y:=rfl
def iM (l:List UInt8):Got Ev :=
  qi (got (eQ 1) 0 l 0 0) fun o p y =>
  qi (got (eQ 8) 0 l p y) fun n p y =>
  qi (got (eQ 8) 0 l p y) fun c p y =>
  qi (jM (gU o).cased [] p y (got (eU · 64) [] l p y)) fun cas p y =>
  qi (jM (gU o).typed [] p y (got (eU · 64) [] l p y)) fun typ p y =>
  qi (jM (gU o).named [] p y (got (eU · 64) [] l p y)) fun nam p y =>
  qi (jM (gU o).source [] p y (got (iK · 60000) [] l p y)) fun src p y =>
  qi (jM (gU o).valued noVal p y (cu l p y)) fun v p y =>
  qi (jM (gU o).args 0 p y (got (eQ 1) 0 l p y)) fun k p y =>
  qi (fQ l k p y) fun vs p y =>
  qi (got (eF · 32) (List.replicate 32 0) l p y) fun e p y =>
  ⟨⟨o,i64 n,i64 c,typ,cas,nam,v,vs,src,e⟩,p,y⟩
def kH (raw:List UInt8):Prop:=raw.length≤65536∧jH (iM raw).v.op∧(iM raw).y=0∧(iM raw).p=raw.length∧eY (iM raw).v=0∧dV (iM raw).v=raw
instance (raw:List UInt8):Decidable (kH raw):=inferInstanceAs (Decidable (_∧_))
def mJ (raw:List UInt8):Ev:=if kH raw then (iM raw).v else Eo
def og (raw:List UInt8):Nat:=if kH raw then 0 else 8
end Go.Proofs.YtepbmdlgdaedpaaGreatDoor
