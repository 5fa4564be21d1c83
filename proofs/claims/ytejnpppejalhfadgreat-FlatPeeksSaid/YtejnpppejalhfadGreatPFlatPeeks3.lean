/- Texts that the proof stands on, one behind the other: Cx1, Cx2, Cx4, Cx5, Cx6, Cx7. -/
import Derived.Test.YtejnpppejalhfadGreatPFlatPeeks2
set_option linter.unusedVariables false
set_option linter.unusedSimpArgs false
namespace Go.Proofs.YtejnpppejalhfadGreat
set_option maxRecDepth 100000
set_option maxHeartbeats 8000000
open Go.RowKit Go.Sort
inductive Rs (α:Type) where
 |ok (a:α)
 |no (p:String)
inductive SA where
 |blk (L:List Value)
 |row (e sz:Nat) (rows:List (List Value)) (cap:Nat) (u:Bool)
 |smap (t:Nat) (es:List (Value×Value))
 |siter (l:List UInt8) (pos:Nat)
abbrev SH:=List (Nat×SA)
noncomputable def ifB {α:Type} (b:Bool) (x y:α):α:=@Bool.rec (fun _=>α) y x b
noncomputable def d4 {α:Type} (l:List (Nat×α)) (i:Nat):Option α:=@List.rec (Nat×α) (fun _=>Option α) none (fun p _ ih=>@Bool.rec (fun _=>Option α) ih (some p.2) (Nat.beq p.1 i)) l
noncomputable def a0M {α:Type} (l:List α):Nat->Option α:=@List.rec α (fun _=>Nat->Option α) (fun _=>none) (fun p _ ih i=>@Nat.rec (fun _=>Option α) (some p) (fun i _=>ih i) i) l
inductive BT (α:Type) where
 |nil
 |node (k:Nat) (v:α) (l r:BT α)
noncomputable def BT.get {α:Type} (t:BT α) (i:Nat):Option α:=@BT.rec α (fun _=>Option α) none (fun k v _ _ l r=>@Bool.rec (fun _=>Option α) (@Bool.rec (fun _=>Option α) r l (Nat.blt i k)) (some v) (Nat.beq i k)) t
noncomputable def y5 (H:SH) (i:Nat) (t:SA):SH:=@List.rec (Nat×SA) (fun _=>SH) [] (fun p r ih=>@Bool.rec (fun _=>SH) (p::ih) ((p.1,t)::r) (Nat.beq p.1 i)) H
noncomputable def q8 {α:Type} (l:List (Nat×α)) (i:Nat):List (Nat×α):=@List.rec (Nat×α) (fun _=>List (Nat×α)) [] (fun p _ ih=>@Bool.rec (fun _=>List (Nat×α)) (p::ih) ih (Nat.beq p.1 i)) l
noncomputable def x9 (H:SH) (i:Nat) (t:SA):SH:=@List.rec (Nat×SA) (fun _=>SH) [(i,t)] (fun p r ih=>@Bool.rec (fun _=>SH) (p::ih) ((i,t)::p::r) (Nat.blt p.1 i)) H
def cOk:Value->Bool
 |.bool _|.int _ _|.string _|.pointer none|.slice none _ _|.map none|.nilFunc|.nilIface=>true
 |_=>false
noncomputable def sEv (E:Fr):Operand->Option Value
 |.tmp t=>d4 E t
 |.const v=>ifB (cOk v) (some v) none
 |.func f=>some (.func (.func f) #[] #[])
 |.global _=>none
noncomputable def a4W (E:Fr) (l:List Operand):Option (List Value):=@List.rec Operand (fun _=>Option (List Value)) (some []) (fun x _ ih=>match sEv E x,ih with
  |some v,some vs=>some (v::vs)
  |_,_=>none) l
noncomputable def a7Q (E:Fr) (l:List (Nat×Operand)):Option (List (Nat×Value)):=@List.rec (Nat×Operand) (fun _=>Option (List (Nat×Value))) (some []) (fun x _ ih=>match sEv E x.2,ih with
  |some v,some vs=>some ((x.1,v)::vs)
  |_,_=>none) l
noncomputable def a23 (k:IntKind) (n:Int):Int:=match k,n with
 |.i64,.ofNat m=>ifB (Nat.blt m 9223372036854775808) (.ofNat m) (IntKind.i64.wrap (.ofNat m))
 |k,n=>k.wrap n
def a5j (f:(n:Nat)->BitVec n->BitVec n->BitVec n) (k:IntKind) (m n:Int):Value:=.int k (k.wrap (f k.bits (BitVec.ofInt k.bits m) (BitVec.ofInt k.bits n)).toNat)
noncomputable def a4q (op:BinOp) (k:IntKind) (m n:Int):Option Value:=match op with
 |.add=>some (.int k (a23 k (m + n)))
 |.sub=>some (.int k (a23 k (m - n)))
 |.mul=>some (.int k (a23 k (m * n)))
 |.quo=>ifB (decide (n=0)) none (some (.int k (a23 k (m.tdiv n))))
 |.rem=>ifB (decide (n=0)) none (some (.int k (m.tmod n)))
 |.and=>some (a5j (fun _ a b=>a &&& b) k m n)
 |.or=>some (a5j (fun _ a b=>a|||b) k m n)
 |.xor=>some (a5j (fun _ a b=>a ^^^ b) k m n)
 |.lss=>some (.bool (decide (m < n)))
 |.leq=>some (.bool (decide (m<=n)))
 |.gtr=>some (.bool (decide (n < m)))
 |.geq=>some (.bool (decide (n<=m)))
 |.eql=>some (.bool (decide (m=n)))
 |.neq=>some (.bool (!decide (m=n)))
 |_=>none
noncomputable def a5R (op:BinOp) (k k':IntKind) (m n:Int):Option Value:=match op with
 |.shl=>ifB (decide (n < 0)) none (some (.int k (k.wrap (m * 2 ^ min n.toNat k.bits))))
 |.shr=>ifB (decide (n < 0)) none (some (.int k (m.fdiv (2 ^ min n.toNat k.bits))))
 |op=>ifB (kb k k') (a4q op k m n) none
def sEqS:List Nat->List Value->List Value->Option Bool
 |[],[],[]=>some true
 |0::s,.int .i64 a::l,.int .i64 b::r=>(sEqS s l r).map (decide (a=b) && ·)
 |1::s,.string ⟨⟨a⟩⟩::l,.string ⟨⟨b⟩⟩::r=>(sEqS s l r).map (decide (a=b) && ·)
 |2::s,.bool a::l,.bool b::r=>(sEqS s l r).map (decide (a=b) && ·)
 |_,_,_=>none
abbrev EqT:=List (Nat×List Nat)
abbrev TT:=BT TI
noncomputable def a9C (op:BinOp) (l l':List UInt8):Option Value:=match op with
 |.eql=>some (.bool (decide (l=l')))
 |.neq=>some (.bool (!decide (l=l')))
 |.add=>ifB (Nat.ble (l.length + l'.length) 1000000) (some (.string ⟨(l++l').toArray⟩)) none
 |_=>none
noncomputable def a9q (T:TT) (op:BinOp) (t:TypeId) (a b:Bool):Option Value:=match T.get t,op with
 |some (.sc .bool _ _),.eql=>some (.bool (decide (a=b)))
 |some (.sc .bool _ _),.neq=>some (.bool (!decide (a=b)))
 |_,_=>none
noncomputable def a9w (q:EqT) (op:BinOp) (t:TypeId) (l l':List Value):Option Value:=match d4 q t with
 |some s=>match sEqS s l l',op with
  |some b,.eql=>some (.bool b)
  |some b,.neq=>some (.bool (!b))
  |_,_=>none
 |none=>none
noncomputable def a9H (T:TT) (op:BinOp) (t:TypeId) (p:Option Addr):Option Value:=match T.get t,op with
 |some (.sl _ _ _ _ _),.eql=>some (.bool p.isNone)
 |_,_=>none
noncomputable def a9s (T:TT) (op:BinOp) (t:TypeId) (p:Option Addr):Option Value:=match T.get t,op with
 |some (.sc (.pointer _) _ _),.eql=>some (.bool p.isNone)
 |_,_=>none
noncomputable def b1C (T:TT) (q:EqT) (op:BinOp) (t:TypeId):Value->Value->Option Value
 |.int k m,.int k' n=>a5R op k k' m n
 |.string ⟨⟨l⟩⟩,.string ⟨⟨l'⟩⟩=>a9C op l l'
 |.bool a,.bool b=>a9q T op t a b
 |.slice p _ _,.slice none 0 0=>a9H T op t p
 |.pointer p,.pointer none=>a9s T op t p
 |.agg ⟨l⟩,.agg ⟨l'⟩=>a9w q op t l l'
 |_,_=>none
noncomputable def a6t (E:Fr) (c a b:Operand):Option Value:=match sEv E c with
 |some (.bool true)=>sEv E a
 |some (.bool false)=>sEv E b
 |_=>none
noncomputable def b0S (E:Fr) (x:Operand):Option Value:=match sEv E x with
 |some (.pointer (some p))=>some (.pointer (some p))
 |_=>none
noncomputable def sFA (T:TT) (E:Fr) (s:TypeId) (x:Operand) (f:Nat):Option Value:=match T.get s,sEv E x with
 |some (.st _ fs _),some (.pointer (some ⟨g,k,none⟩))=>match a0M fs f with
  |some (o,_,_)=>some (.pointer (some ⟨g,k + o,none⟩))
  |none=>none
 |_,_=>none
noncomputable def a9M (E:Fr) (x:Operand) (i:Nat):Option Value:=match sEv E x with
 |some (.tuple vs)=>a0M vs.toList i
 |_=>none
noncomputable def b0m (E:Fr) (op:UnOp) (x:Operand):Option Value:=match op,sEv E x with
 |.not,some (.bool b)=>some (.bool (!b))
 |_,_=>none
noncomputable def sBO (T:TT) (q:EqT) (E:Fr) (op:BinOp) (t:TypeId) (x y:Operand):Option Value:=match sEv E x,sEv E y with
 |some u,some v=>b1C T q op t u v
 |_,_=>none
noncomputable def sMF (E:Fr) (fn:Go.Fn) (a b:Array Operand):Option Value:=match a4W E a.toList,a4W E b.toList with
 |some us,some vs=>some (.func fn us.toArray vs.toArray)
 |_,_=>none
noncomputable def sCv (T:TT) (E:Fr) (src dst:TypeId) (x:Operand):Option Value:=match T.get src,T.get dst,sEv E x with
 |some _,some (.sc (.int k) _ _),some (.int _ n)=>some (.int k (k.wrap n))
 |some _,some (.sc .string _ _),some (.string s)=>some (.string s)
 |_,_,_=>none
noncomputable def b1t (T:TT) (t:TypeId) (v:Value):Option Value:=match T.get t,v with
 |some (.sl _ _ _ _ _),.slice _ n _=>some (.int .i64 n)
 |some (.sc .string _ _),.string ⟨⟨l⟩⟩=>some (.int .i64 l.length)
 |_,_=>none
noncomputable def b03 (T:TT) (t:TypeId) (v:Value):Option Value:=match T.get t,v with
 |some (.sl _ _ _ _ _),.slice none _ c=>some (.int .i64 c)
 |_,_=>none
noncomputable def b1h (T:TT) (E:Fr) (b:Builtin) (args:List Operand) (ats:List TypeId):Option Value:=match b,args,ats with
 |.len,[x],[t]=>match sEv E x with
  |some v=>b1t T t v
  |none=>none
 |.cap,[x],[t]=>match sEv E x with
  |some v=>b03 T t v
  |none=>none
 |.min,[x,y],_=>match sEv E x,sEv E y with
  |some (.int .i64 m),some (.int .i64 k)=>some (.int .i64 (min m k))
  |_,_=>none
 |_,_,_=>none
noncomputable def sCP (T:TT) (E:Fr) (c:Call):Option Value:=match c.callee with
 |.builtin b=>b1h T E b c.args.toList c.argTypes.toList
 |_=>none
noncomputable def b0T (T:TT) (E:Fr) (s:TypeId) (x:Operand) (f:Nat):Option Value:=match T.get s,sEv E x with
 |some (.st _ fs _),some (.agg c)=>match a0M fs f with
  |some (o,n,true)=>some (.agg ((c.toList.drop o).take n).toArray)
  |some (o,_,false)=>a0M c.toList o
  |none=>none
 |_,_=>none
noncomputable def a93 (T:TT) (E:Fr) (t:TypeId) (parts:Array (Nat×Operand)):Option Value:=match T.get t,a7Q E parts.toList with
 |some (.st _ fs z),some ps=>(y7 (fun i=>(a0M fs i).map fun f=>(f.1,f.2.1)) z ps).map fun L=>.agg L.toArray
 |_,_=>none
noncomputable def sIA (T:TT) (E:Fr) (t:TypeId) (x y:Operand):Option Value:=match T.get t,sEv E x,sEv E y with
 |some (.sl _ sz _ _ _),some (.slice (some ⟨b,off,none⟩) m _),some (.int .i64 (.ofNat i))=>ifB (Nat.blt i m) (some (.pointer (some ⟨b,off + i * sz,none⟩))) none
 |some (.ar _ len sz _ _),some (.pointer (some ⟨b,off,none⟩)),some (.int .i64 (.ofNat i))=>ifB (Nat.blt i len) (some (.pointer (some ⟨b,off + i * sz,none⟩))) none
 |_,_,_=>none
noncomputable def sIx (T:TT) (E:Fr) (t:TypeId) (x y:Operand):Option Value:=match T.get t,sEv E x,sEv E y with
 |some (.sc .string _ _),some (.string ⟨⟨l⟩⟩),some (.int .i64 (.ofNat i))=>(a0M l i).map fun c=>.int .u8 c.toNat
 |_,_,_=>none
noncomputable def sBd:Option Value->Nat->Nat->Option Nat
 |none,z,_=>some z
 |some (.int _ (.ofNat i)),_,y=>ifB (Nat.ble i y) (some i) none
 |_,_,_=>none
noncomputable def a8E (E:Fr):Option Operand->Option (Option Value)
 |none=>some none
 |some x=>(sEv E x).map some
noncomputable def a75 (E:Fr) (lo hi:Option Operand) (len cap:Nat):Option (Nat×Nat):=match a8E E lo,a8E E hi with
 |some lo,some hi=>match sBd hi len cap with
  |some h=>match sBd lo 0 h with
   |some a=>some (a,h)
   |none=>none
  |none=>none
 |_,_=>none
noncomputable def sSl (T:TT) (E:Fr) (t:TypeId) (x:Operand) (lo hi mx:Option Operand):Option Value:=match mx,T.get t,sEv E x with
 |none,some (.sc .string _ _),some (.string ⟨⟨l⟩⟩)=>match a75 E lo hi l.length l.length with
  |some (a,h)=>some (.string ⟨((l.drop a).take (h - a)).toArray⟩)
  |none=>none
 |none,some (.sl _ sz _ _ _),some (.slice (some ⟨b,off,none⟩) m c)=>match a75 E lo hi m c with
  |some (a,h)=>ifB (Nat.beq a 0||Nat.blt a c) (some (.slice (some ⟨b,off + a * sz,none⟩) (h - a) (c - a))) none
  |none=>none
 |none,some (.sl _ _ _ _ _),some (.slice none m c)=>match a75 E lo hi m c with
  |some (a,h)=>some (.slice none (h - a) (c - a))
  |none=>none
 |_,_,_=>none
noncomputable def a5p (T:TT) (q:EqT) (E:Fr):Op->Option Value
 |.move x=>sEv E x
 |.assign x=>sEv E x
 |.pick c a b=>a6t E c a b
 |.nilCheck x=>b0S E x
 |.fieldAddr s x f=>sFA T E s x f
 |.extract x i=>a9M E x i
 |.unOp op _ x=>b0m E op x
 |.binOp op t x y _=>sBO T q E op t x y
 |.makeFunc fn a b=>sMF E fn a b
 |.convert src dst x=>sCv T E src dst x
 |.call c=>sCP T E c
 |.field s x f=>b0T T E s x f
 |.build t parts=>a93 T E t parts
 |.indexAddr t x y=>sIA T E t x y
 |.index t x y=>sIx T E t x y
 |.slice t x lo hi mx=>sSl T E t x lo hi mx
 |_=>none
noncomputable def d9 (H:SH) (i o n:Nat):Option (List Value):=match d4 H i with
 |some (.blk L)=>ifB (Nat.ble (o + n) L.length) (some ((L.drop o).take n)) none
 |some (.row _ sz rows _ _)=>match a0M rows (o / sz) with
  |some r=>ifB (Nat.ble (o % sz + n) r.length) (some ((r.drop (o % sz)).take n)) none
  |none=>none
 |_=>none
noncomputable def a2l (T:TT) (H:SH) (t:TypeId):Value->Option Value
 |.pointer (some ⟨i,o,none⟩)=>match T.get t with
  |some (.sc _ _ _)|some (.sl _ _ _ _ _)=>match d9 H i o 1 with
   |some [v]=>some v
   |_=>none
  |some (.st s _ _)|some (.ar s _ _ _ _)=>(d9 H i o s).map fun L=>.agg L.toArray
  |none=>none
 |_=>none
noncomputable def b02 (H:SH) (i o s:Nat) (c:List Value):Option SH:=ifB (Nat.beq c.length s && c.all (·.oneCell')) (match d4 H i with
 |some (.blk L)=>ifB (Nat.ble (o + s) L.length) (some (y5 H i (.blk (l7 L o c)))) none
 |some (.row e sz rows cap u)=>match a0M rows (o / sz) with
  |some r=>ifB (Nat.ble (o % sz + s) sz) (some (y5 H i (.row e sz (rows.set (o / sz) (l7 r (o % sz) c)) cap u))) none
  |none=>none
 |_=>none) none
noncomputable def a43 (T:TT) (H:SH) (t:TypeId) (v:Value):Value->Option SH
 |.pointer (some ⟨i,o,none⟩)=>match T.get t,celL v with
  |some ti,some c=>b02 H i o ti.size c
  |_,_=>none
 |_=>none
noncomputable def a0R (H:SH) (sz:Nat):Value->Option (List (List Value))
 |.slice none 0 _=>some []
 |.slice (some _) 0 _=>some []
 |.slice (some ⟨i,o,none⟩) m _=>match d4 H i with
  |some (.row _ sz' rows _ _)=>ifB (Nat.beq sz sz' && (Nat.beq (o % sz) 0 && Nat.ble (o / sz + m) rows.length)) (some ((rows.drop (o / sz)).take m)) none
  |_=>none
 |_=>none
noncomputable def a3n:List (List Value)->Option (List UInt8)
 |[]=>some []
 |[.int .u8 (.ofNat n)]::r=>ifB (Nat.blt n 256) ((a3n r).map (UInt8.ofNat n::·)) none
 |_=>none
abbrev OpR:=Option (Option Value×SH×Nat)
noncomputable def a71 (H:SH) (n e sz:Nat) (rows:List (List Value)):OpR:=some (some (.slice (some ⟨n,0,none⟩) rows.length rows.length),x9 H n (.row e sz rows rows.length true),n + 1)
noncomputable def a9J (H:SH) (n e sz m c:Nat) (news:List (List Value)) (i:Nat):OpR:=match d4 H i with
 |some (.row e' sz' rows cap u)=>ifB (Nat.beq e e' && Nat.beq sz sz')
   (ifB (Nat.beq m rows.length && Nat.beq c cap) (a71 (q8 H i) n e sz (rows++news))
    (ifB (Nat.ble (m + news.length) rows.length && Nat.ble (m + news.length) c) (some (some (.slice (some ⟨i,0,none⟩) (m + news.length) c),y5 H i (.row e sz (a0z rows news m) cap u),n)) none)) none
 |_=>none
noncomputable def a5u (H:SH) (n e sz eb:Nat) (news:List (List Value)):Value->OpR
 |.slice p m c=>match news with
  |[]=>ifB (Nat.ble m c) (some (some (.slice p m c),H,n)) none
  |_::_=>ifB (Nat.ble ((m + news.length) * (eb + 1)) 1000000) (match p with
   |none=>ifB (Nat.beq m 0 && Nat.beq c 0) (a71 H n e sz news) none
   |some ⟨i,0,none⟩=>a9J H n e sz m c news i
   |_=>none) none
 |_=>none
noncomputable def a9F (H:SH) (n e sz eb q:Nat) (z:List Value):Value->OpR
 |.slice none 0 0=>ifB (Nat.blt 0 q && (Nat.ble (q * (eb + 1)) 1000000 && z.all (·.oneCell'))) (a71 H n e sz (List.replicate q z)) none
 |_=>none
noncomputable def a44 (T:TT) (H:SH) (n:Nat) (t t':TypeId) (s u:Value):OpR:=match T.get t with
 |some (.sl e sz eb _ z)=>ifB (Nat.beq t t') (match a0R H sz u with
   |some news=>a5u H n e sz eb news s
   |none=>none) (match T.get t',u with
   |some (.sc (.int .i64) _ _),.int .i64 (.ofNat q)=>a9F H n e sz eb q z s
   |_,_=>none)
 |_=>none
noncomputable def a6F (T:TT) (H:SH) (t:TypeId) (v:Value):Option (Nat×Nat×Nat×List UInt8×Bool):=match T.get t,v with
 |some (.sl e 1 1 false [.int .u8 (.ofNat 0)]),.slice (some ⟨i,0,none⟩) m c=>match d4 H i with
  |some (.row e' 1 rows cap u)=>ifB (Nat.beq e e' && (Nat.beq m rows.length && Nat.beq c cap)) ((a3n rows).map fun l=>(i,e,cap,l,u)) none
  |_=>none
 |_,_=>none
noncomputable def a7v (T:TT) (H:SH) (n:Nat) (t:TypeId) (s u:Value):OpR:=match a6F T H t s,u with
 |some (i,e,cap,old,ub),.string ⟨⟨l⟩⟩=>some (some (.int .i64 (l.take old.length).length),y5 H i (.row e 1 (bR (l.take old.length++old.drop (l.take old.length).length)) cap ub),n)
 |_,_=>none
noncomputable def a7T (H:SH) (n:Nat) (t:TypeId) (v:Value):OpR:=match v with
 |.map (some i)=>match d4 H i with
  |some (.smap t' es)=>ifB (Nat.beq t t') (some (some (.int .i64 es.length),H,n)) none
  |_=>none
 |_=>none
noncomputable def b0F (T:TT) (E:Fr) (H:SH) (n:Nat) (b:Builtin) (args:List Operand) (ats:List TypeId):OpR:=match b,args,ats with
 |.append,[x,y],[t,t']=>match sEv E x,sEv E y with
  |some s,some u=>a44 T H n t t' s u
  |_,_=>none
 |.copy,[x,y],[t,_]=>match sEv E x,sEv E y with
  |some s,some u=>a7v T H n t s u
  |_,_=>none
 |.len,[x],[t]=>match sEv E x with
  |some v=>a7T H n t v
  |none=>none
 |_,_,_=>none
noncomputable def a87:Value->Value->Option Bool
 |.int .i64 a,.int .i64 b=>some (decide (a=b))
 |.string ⟨⟨a⟩⟩,.string ⟨⟨b⟩⟩=>some (decide (a=b))
 |_,_=>none
noncomputable def a1c (k:Value):List (Value×Value)->Option (Option Value)
 |[]=>some none
 |(x,v)::r=>match a87 k x with
  |some true=>some (some v)
  |some false=>a1c k r
  |none=>none
noncomputable def a5Q (k v:Value):List (Value×Value)->List (Value×Value)
 |[]=>[(k,v)]
 |(x,u)::r=>match a87 k x with
  |some true=>(k,v)::r
  |_=>(x,u)::a5Q k v r
noncomputable def sKO (T:TT) (t:TypeId) (k:Value):Bool:=match T.get t with
 |some (.sc (.map K _) _ _)=>match T.get K,k with
  |some (.sc (.int .i64) _ _),.int .i64 _=>true
  |some (.sc .string _ _),.string _=>true
  |_,_=>false
 |_=>false
noncomputable def a32 (T:TT) (H:SH) (t:TypeId) (i:Nat) (k:Value):Option (List (Value×Value)):=match d4 H i with
 |some (.smap t' es)=>ifB (Nat.beq t t' && sKO T t k) (some es) none
 |_=>none
noncomputable def a7s (T:TT) (ez:List (Nat×Value)) (H:SH) (n:Nat) (t:TypeId) (ok:Bool) (m k:Value):OpR:=match m with
 |.map (some i)=>match a32 T H t i k with
  |some es=>match a1c k es with
   |some (some v)=>some (some (ifB ok (.tuple #[v,.bool true]) v),H,n)
   |some none=>(d4 ez t).map fun z=>(some (ifB ok (.tuple #[z,.bool false]) z),H,n)
   |none=>none
  |none=>none
 |_=>none
noncomputable def a65 (T:TT) (H:SH) (n:Nat) (t:TypeId) (m k v:Value):OpR:=match m with
 |.map (some i)=>match a32 T H t i k with
  |some es=>match a1c k es with
   |some _=>some (none,y5 H i (.smap t (a5Q k v es)),n)
   |none=>none
  |none=>none
 |_=>none
noncomputable def b0n (T:TT) (E:Fr) (H:SH) (n:Nat) (src dst:TypeId) (x:Operand):OpR:=match T.get dst,sEv E x with
 |some (.sc .string _ _),some v=>match a6F T H src v with
  |some (_,e,_,l,_)=>match T.get e with
   |some (.sc (.int .u8) 1 (.int .u8 (.ofNat 0)))=>ifB (Nat.blt 0 l.length) (some (some (.string ⟨l.toArray⟩),H,n)) none
   |_=>none
  |none=>none
 |_,_=>none
noncomputable def sBS (T:TT) (E:Fr) (H:SH) (n:Nat) (t:TypeId) (len:Nat) (parts:Array (Nat×Operand)):OpR:=match T.get t,a7Q E parts.toList with
 |some (.sl e sz _ _ _),some ps=>match a0L 0 sz ps with
  |some rows=>ifB (Nat.beq rows.length len && (Nat.ble (len * sz) 16777216 && a1t rows)) (some (some (.slice (some ⟨n,0,none⟩) len len),x9 H n (.row e sz rows len false),n + 1)) none
  |none=>none
 |_,_=>none
noncomputable def sMk (T:TT) (E:Fr) (H:SH) (n:Nat) (t:TypeId) (x y:Operand):OpR:=match T.get t,sEv E x,sEv E y with
 |some (.sl e sz eb _ z),some (.int .i64 (.ofNat i)),some (.int .i64 (.ofNat j))=>ifB (Nat.beq i j && (Nat.ble (i * (eb + 1)) 1000000 && z.all (·.oneCell'))) (some (some (.slice (some ⟨n,0,none⟩) i i),x9 H n (.row e sz (List.replicate i z) i false),n + 1)) none
 |_,_,_=>none
noncomputable def b0H (T:TT) (E:Fr) (H:SH) (n:Nat) (t:TypeId) (x:Operand) (lo hi mx:Option Operand):OpR:=match T.get t,sEv E x,a8E E lo,hi,mx with
 |some (.sl _ _ _ _ _),some (.slice (some ⟨_,_,none⟩) m _),some (some (.int .i64 (.ofNat i))),none,none=>ifB (Nat.ble i m) (some (none,H,n)) none
 |_,_,_,_,_=>none
noncomputable def a6A (E:Fr) (H:SH) (n:Nat) (x:Operand):OpR:=match sEv E x with
 |some (.pointer (some ⟨i,0,none⟩))=>match d4 H i with
  |some (.siter l k)=>match a0M l k with
   |some b=>ifB (Nat.blt b.toNat 128) (some (some (.tuple #[.bool true,.int .i64 k,.int .i32 b.toNat]),y5 H i (.siter l (k + 1)),n)) none
   |none=>some (some (.tuple #[.bool false]),H,n)
  |_=>none
 |_=>none
noncomputable def a9W (H:SH) (n:Nat) (s:SA):OpR:=some (some (.pointer (some ⟨n,0,none⟩)),x9 H n s,n + 1)
noncomputable def sOp (T:TT) (ez:List (Nat×Value)) (E:Fr) (H:SH) (n:Nat):Op->OpR
 |.load t x=>match sEv E x with
  |some p=>(a2l T H t p).map fun v=>(some v,H,n)
  |none=>none
 |.store t x y=>match sEv E x,sEv E y with
  |some p,some v=>(a43 T H t v p).map fun H'=>(none,H',n)
  |_,_=>none
 |.box _ x=>match sEv E x with
  |some v=>match celL v with
   |some L=>a9W H n (.blk L)
   |none=>none
  |none=>none
 |.alloc t=>match T.get t with
  |some ti=>a9W H n (.blk ti.zeroCells)
  |none=>none
 |.buildSlice t len parts=>sBS T E H n t len parts
 |.makeSlice t x y=>sMk T E H n t x y
 |.call c=>match c.callee with
  |.builtin b=>b0F T E H n b c.args.toList c.argTypes.toList
  |_=>none
 |.convert src dst x=>b0n T E H n src dst x
 |.makeMap t none=>match T.get t with
  |some (.sc (.map K _) _ _)=>match T.get K with
   |some _=>some (some (.map (some n)),x9 H n (.smap t []),n + 1)
   |none=>none
  |_=>none
 |.lookup t m x ok=>match sEv E m,sEv E x with
  |some m,some k=>a7s T ez H n t ok m k
  |_,_=>none
 |.mapUpdate t m x y=>match sEv E m,sEv E x,sEv E y with
  |some m,some k,some v=>a65 T H n t m k v
  |_,_,_=>none
 |.insert t m x y=>match sEv E m,sEv E x,sEv E y with
  |some m,some k,some v=>a65 T H n t m k v
  |_,_,_=>none
 |.slice t x lo hi mx=>b0H T E H n t x lo hi mx
 |.range t x=>match T.get t,sEv E x with
  |some (.sc .string _ _),some (.string ⟨⟨l⟩⟩)=>a9W H n (.siter l 0)
  |_,_=>none
 |.next x true=>a6A E H n x
 |_=>none
inductive Pl where
 |nil
 |stop
 |take (i:Nat) (k:Pl)
 |one (i:Nat) (drop:List Nat) (k:Pl)
 |grp (w:Nat) (k:Pl)
 |alt (i:Nat) (drop:List Nat) (k more:Pl)
inductive SX where
 |normal
 |exit (i:Nat)
 |ret
structure Cx where
 T:TT
 q:EqT
 ez:List (Nat×Value)
 F:BT (Func×List (Nat×Pl))
 M:List (Nat×(List Value->Option Value))
 I:List (Nat×List (String×Nat))
abbrev a0r:=List (Nat×TypeId×Value×Value)
abbrev a19:=Nat->List Value->SH->Nat->Rs (Value×SH×Nat)
abbrev a2g:=Fr->SH->Nat->Rs (SX×Fr×SH×Nat)
noncomputable def a17 (ops:List Oper) (E:Fr) (o:Oper):Option Bool:=match o.guard with
 |none=>some true
 |some (j,b)=>match a0M ops j with
  |some oj=>match oj.dst with
   |some dj=>match d4 E dj with
    |some (.bool c)=>some (c == b)
    |some _=>some false
    |none=>none
   |none=>none
  |none=>none
noncomputable def a0a (E:Fr):Option Nat->Option Value->Fr
 |some d,some v=>(d,v)::E
 |some d,none=>q8 E d
 |none,_=>E
noncomputable def a27 (E:Fr):List Nat->Fr:=@List.rec (Nat×Value) (fun _=>List Nat->Fr) (fun _=>[]) (fun p _ ih s=>bif @List.rec Nat (fun _=>Bool) false (fun x _ h=>bif Nat.beq p.1 x then true else h) s then ih s else p::ih (p.1::s)) E
noncomputable def a1U (E:Fr):Fr:=bif Nat.blt 400 (@List.rec (Nat×Value) (fun _=>Nat) 0 (fun _ _ n=>n + 1) E) then a27 E [] else E
mutual
def vEq:Nat->Value->Value->Bool
 |0,_,_=>false
 |k + 1,a,b=>match a,b with
  |.bool a,.bool b=>a == b
  |.int j a,.int j' b=>kb j j' && decide (a=b)
  |.string ⟨⟨a⟩⟩,.string ⟨⟨b⟩⟩=>decide (a=b)
  |.pointer none,.pointer none=>true
  |.pointer (some ⟨i,o,none⟩),.pointer (some ⟨j,p,none⟩)=>Nat.beq i j && Nat.beq o p
  |.slice none m c,.slice none m' c'=>Nat.beq m m' && Nat.beq c c'
  |.slice (some ⟨i,o,none⟩) m c,.slice (some ⟨j,p,none⟩) m' c'=>Nat.beq i j && (Nat.beq o p && (Nat.beq m m' && Nat.beq c c'))
  |.map none,.map none=>true
  |.map (some i),.map (some j)=>Nat.beq i j
  |.nilFunc,.nilFunc=>true
  |.func (.func f) ⟨a⟩ ⟨b⟩,.func (.func g) ⟨c⟩ ⟨d⟩=>Nat.beq f g && (a3s k a c && a3s k b d)
  |.nilIface,.nilIface=>true
  |.iface t a,.iface t' b=>Nat.beq t t' && vEq k a b
  |.agg ⟨a⟩,.agg ⟨b⟩=>a3s k a b
  |.tuple ⟨a⟩,.tuple ⟨b⟩=>a3s k a b
  |_,_=>false
def a3s:Nat->List Value->List Value->Bool
 |0,_,_=>false
 |_ + 1,[],[]=>true
 |k + 1,a::l,b::r=>vEq k a b && a3s k l r
 |_,_,_=>false
end
def a5s:List (List Value)->List (List Value)->Bool
 |[],[]=>true
 |a::l,b::r=>a3s 1000 a b && a5s l r
 |_,_=>false
def a84:List (Value×Value)->List (Value×Value)->Bool
 |[],[]=>true
 |(a,c)::l,(b,d)::r=>vEq 1000 a b && (vEq 1000 c d && a84 l r)
 |_,_=>false
def b0q:SA->SA->Bool
 |.blk a,.blk b=>a3s 1000 a b
 |.row e s r c u,.row e' s' r' c' u'=>Nat.beq e e' && (Nat.beq s s' && (Nat.beq c c' && ((u == u') && a5s r r')))
 |.smap t a,.smap t' b=>Nat.beq t t' && a84 a b
 |.siter a i,.siter b j=>Nat.beq i j && decide (a=b)
 |_,_=>false
def hEq:SH->SH->Bool
 |[],[]=>true
 |(i,a)::l,(j,b)::r=>Nat.beq i j && (b0q a b && hEq l r)
 |_,_=>false
noncomputable def a2V (E1 E2:Fr):Fr->Bool
 |[]=>true
 |(d,_)::r=>(match d4 E1 d,d4 E2 d with
  |some u,some v=>vEq 1000 u v
  |_,_=>false) && a2V E1 E2 r
noncomputable def a0B (T:TT) (H:SH):a0r->Bool
 |[]=>true
 |(_,t,p,v)::r=>(match a2l T H t p with
  |some u=>vEq 1000 u v
  |none=>false) && a0B T H r
def z9 (dr:List Nat) (L:a0r):a0r:=L.filter fun e=>!dr.any (Nat.beq e.1)
noncomputable def a5C (T:TT) (E:Fr) (H:SH):List ResultVar->Option (List Value)
 |[]=>some []
 |.tmp t::r=>match d4 E t,a5C T E H r with
  |some v,some vs=>some (v::vs)
  |_,_=>none
 |.cell p t::r=>match d4 E p with
  |some a=>match a2l T H t a,a5C T E H r with
   |some v,some vs=>some (v::vs)
   |_,_=>none
  |none=>none
def inR (m e i:Nat):Bool:=bif Nat.blt i m then true else Nat.ble e i
mutual
def a5S:Nat->Nat->Nat->Value->Bool
 |0,_,_,_=>false
 |k + 1,m,e,v=>match v with
  |.pointer (some a)|.slice (some a) _ _=>inR m e a.block
  |.map (some i)=>inR m e i
  |.func _ ⟨a⟩ ⟨b⟩=>a2W k m e a && a2W k m e b
  |.agg ⟨a⟩|.tuple ⟨a⟩=>a2W k m e a
  |.iface _ v=>a5S k m e v
  |_=>true
def a2W:Nat->Nat->Nat->List Value->Bool
 |0,_,_,_=>false
 |_ + 1,_,_,[]=>true
 |k + 1,m,e,a::l=>a5S k m e a && a2W k m e l
end
def a9r (m e:Nat):SA->Bool
 |.blk L=>a2W 1000 m e L
 |.row _ _ rows _ _=>rows.all (a2W 1000 m e)
 |.smap _ es=>es.all fun p=>a5S 1000 m e p.1 && a5S 1000 m e p.2
 |.siter _ _=>true
noncomputable def a9y (m e:Nat) (H:SH):Nat:=@List.rec (Nat×SA) (fun _=>Nat) 0 (fun p _ ih=>bif Nat.ble e p.1 then ih else bif Nat.blt p.1 m then 0 else ih + 1) H
noncomputable def a6f (m e:Nat) (H:SH):SH:=@List.rec (Nat×SA) (fun _=>SH) [] (fun p _ ih=>@Bool.rec (fun _=>SH) ih (p::ih) (inR m e p.1)) H
noncomputable def gc (m e:Nat) (v:Value) (H:SH):SH:=bif Nat.blt 20 (a9y m e H) && (a5S 1000 m e v && (a6f m e H).all fun p=>a9r m e p.2) then a6f m e H else H
noncomputable def a9n (l:List (String×Nat)) (x:String):Option Nat:=@List.rec (String×Nat) (fun _=>Option Nat) none (fun p _ ih=>@Bool.rec (fun _=>Option Nat) ih (some p.2) (decide (p.1=x))) l
section
variable (C:Cx) (call:a19)
noncomputable def b0y (pos:String) (E:Fr) (H:SH) (n:Nat) (f:Operand) (args:List Operand):Rs (Option Value×SH×Nat):=match sEv E f,a4W E args with
 |some (.func (.func g) first caps),some vs=>match call g (first.toList++vs++caps.toList) H n with
  |.ok (v,r)=>.ok (some v,r)
  |.no p=>.no p
 |_,_=>.no pos
noncomputable def a8A (op:Op) (pos:String) (E:Fr) (H:SH) (n:Nat):Rs (Option Value×SH×Nat):=match a5p C.T C.q E op with
 |some v=>.ok (some v,H,n)
 |none=>match sOp C.T C.ez E H n op with
  |some r=>.ok r
  |none=>.no pos
noncomputable def b0g (pos:String) (E:Fr) (H:SH) (n:Nat) (f:Operand) (name:String) (args:List Operand):Rs (Option Value×SH×Nat):=match sEv E f,a4W E args with
 |some (.iface t u),some vs=>match d4 C.I t with
  |some ms=>match a9n ms name with
   |some g=>match call g (u::vs) H n with
    |.ok (v,r)=>.ok (some v,r)
    |.no p=>.no p
   |none=>.no name
  | none => .no "type"
 | _, _ => .no "receiver"
noncomputable def a95 (pos:String) (E:Fr) (H:SH) (n:Nat) (t:TypeId) (x:Operand):Rs (Option Value×SH×Nat):=match d4 C.I t,sEv E x with
 |some _,some v=>.ok (some (.iface t v),H,n)
 |_,_=>.no pos
noncomputable def a2J (op:Op) (pos:String) (E:Fr) (H:SH) (n:Nat):Rs (Option Value×SH×Nat):=match op with
 |.call c=>match c.callee with
  |.value f=>b0y call pos E H n f c.args.toList
  |.invoke f name=>b0g C call pos E H n f name c.args.toList
  |_=>a8A C (.call c) pos E H n
 |.makeInterface t x=>a95 C pos E H n t x
 |op=>a8A C op pos E H n
noncomputable def a2Y (ops l:List Oper):Fr->SH->Nat->Rs (Fr×SH×Nat):=@List.rec Oper (fun _=>Fr->SH->Nat->Rs (Fr×SH×Nat)) (fun E H n=>.ok (E,H,n)) (fun o _ ih E H n=>match a17 ops E o with
  |some true=>match a2J C call o.op o.pos E H n with
   |.ok (v,H',n')=>ih (a0a E o.dst v) H' n'
   |.no p=>.no p
  |some false=>ih (a0a E o.dst (some undef)) H n
  | none => .no "guard") l
abbrev XPl:=Nat->Nat->a0r->Fr->SH->Nat->Rs (Fr×SH×Nat)
noncomputable def a6Q (ops:List Oper) (i:Nat) (ih:XPl):XPl:=fun b z L E H n=>match a0M ops i with
 |some o=>match a17 ops E o with
  |some false=>ih b z L (a0a E o.dst (some undef)) H n
  |some true=>match o.op with
   |.load t x=>match sEv E x with
    |some a=>match a2l C.T H t a with
     |some v=>ih b z ((i,t,a,v)::L) (a0a E o.dst (some v)) H n
     | none => .no "load"
    | none => .no "loadx"
   |op=>match a5p C.T C.q E op with
    |some v=>ih b z L (a0a E o.dst (some v)) H n
    | none => .no "pure"
  | none => .no "guard"
 | none => .no "take"
noncomputable def a91 (ops:List Oper) (i:Nat) (dr:List Nat) (ih:XPl):XPl:=fun b z L E H n=>match a0M ops i with
 |some o=>match a17 ops E o with
  |some w=>match (bif w then a2J C call o.op o.pos E H n else .ok (some undef,H,n)) with
   | .ok (v, H', n') => bif a0B C.T H' (z9 dr L) then ih b z (z9 dr L) (a0a E o.dst v) H' n' else .no "early"
   |.no p=>.no p
  | none => .no "guard"
 | none => .no "one"
noncomputable def a96 (ops:List Oper) (i:Nat) (dr:List Nat) (ih:XPl) (last:Bool) (more:XPl):XPl:=fun b z L E H n=>match a0M ops i with
 |some o=>match a17 ops E o with
  |some w=>match (bif w then a2J C call o.op o.pos E H (b + z * i) else .ok (some undef,H,b + z * i)) with
   |.ok (v,H',n')=>bif Nat.ble n' (b + z * (i + 1)) && a0B C.T H' (z9 dr L) then
     (bif last then ih b z (z9 dr L) (a0a E o.dst v) H' n
      else match ih b z (z9 dr L) (a0a E o.dst v) H' n,more b z L E H n with
       | .ok (E1, H1, n1), .ok (E2, H2, n2) => bif a2V E1 E2 E1 && (hEq H1 H2 && Nat.beq n1 n2) then .ok (E1, H1, n1) else .no "ways"
       |.no p,_=>.no p
       |_,.no p=>.no p)
    else .no "early"
   |.no p=>.no p
  | none => .no "guard"
 | none => .no "alt"
def Pl.isStop:Pl->Bool
 |.stop=>true
 |_=>false
noncomputable def xPl (ops : List Oper) (p : Pl) : XPl := @Pl.rec (fun _ => XPl) (fun _ _ _ E H n => .ok (E, H, n)) (fun _ _ _ _ _ _ => .no "stop") (fun i _ ih => a6Q C ops i ih) (fun i dr _ ih => a91 C call ops i dr ih) (fun w _ ih _ _ L E H n => ih n w L E H (n + w * ops.length)) (fun i dr _ more ih im => a96 C call ops i dr ih more.isStop im) p
noncomputable def a5w (f : a2g) (k : Nat) : a2g := @Nat.rec (fun _ => a2g) (fun _ _ _ => .no "loop") (fun _ ih E H n => match f E H n with
 |.ok (.normal,E',H',n')=>ih (a1U E') H' n'
 |r=>r) k
def a7J:Nat:=100000
noncomputable def a1G (pl:List (Nat×Pl)) (c:Code):a2g:=@Code.rec (fun _=>a2g)
 (fun E H n=>.ok (.normal,E,H,n))
 (fun id ops draw E H n=>bif draw then (match d4 pl id with
   |some p=>match xPl C call ops.toList p n 0 [] E H n with
    |.ok (E',H',n')=>.ok (.normal,E',H',n')
    |.no p=>.no p
   | none => .no "plan") else (match a2Y C call ops.toList ops.toList E H n with
   |.ok (E',H',n')=>.ok (.normal,E',H',n')
   |.no p=>.no p))
 (fun _ _ x y E H n=>match x E H n with
   |.ok (.normal,E',H',n')=>y E' H' n'
   |r=>r)
 (fun o _ _ x y E H n=>match sEv E o with
   |some (.bool true)=>x E H n
   |some (.bool false)=>y E H n
   | _ => .no "cond")
 (fun i _ x E H n=>match x E H n with
   |.ok (.exit j,E',H',n')=>bif Nat.beq j i then .ok (.normal,E',H',n') else .ok (.exit j,E',H',n')
   |r=>r)
 (fun _ x=>a5w x a7J)
 (fun _ _ _ _ _ _ _ _ _ => .no "range")
 (fun i E H n=>.ok (.exit i,E,H,n))
 (fun _ _ _ _ _ => .no "scope")
 (fun _ _ _ _ => .no "label")
 (fun _ _ _ _ => .no "goto")
 (fun E H n=>.ok (.ret,E,H,n))
 (fun _ _ _ _ => .no "refuse") c
noncomputable def a6I (g:Nat) (vs:List Value) (H:SH) (n:Nat):Rs (Value×SH×Nat):=match d4 C.M g with
 |some f=>match f vs with
  |some v=>.ok (v,H,n)
  | none => .no "summary"
 |none=>match C.F.get g with
  |some (fn,pl)=>match fn.body with
   |some c=>bif Nat.ble vs.length fn.ntmps then (match a1G C call pl c (a1F 0 vs) H n with
     | .ok (.exit _, _) => .no "exit"
     |.ok (_,E',H',n')=>match a5C C.T E' H' fn.results.toList with
      |some rs=>.ok (a1e rs,gc n n' (a1e rs) H',n')
      |none=>.no fn.name
     | .no p => .no p) else .no "args"
   | none => .no "body"
  | none => .no "function"
end
noncomputable def a9K (C : Cx) (k : Nat) : a19 := @Nat.rec (fun _ => a19) (fun _ _ _ _ => .no "depth") (fun _ ih => a6I C ih) k
abbrev Ren:=Nat->Option (Nat×Nat)
mutual
def m8 (ρ:Ren):Value->Option Value
 |.bool b=>some (.bool b)
 |.int k n=>some (.int k n)
 |.string s=>some (.string s)
 |.nilFunc=>some .nilFunc
 |.nilIface=>some .nilIface
 |.pointer none=>some (.pointer none)
 |.pointer (some ⟨i,o,none⟩)=>(ρ i).map fun x=>.pointer (some ⟨x.1,o,none⟩)
 |.slice none n c=>some (.slice none n c)
 |.slice (some ⟨i,o,none⟩) n c=>(ρ i).map fun x=>.slice (some ⟨x.1,o,none⟩) n (c + x.2)
 |.map none=>some (.map none)
 |.map (some i)=>(ρ i).map fun x=>.map (some x.1)
 |.func f ⟨a⟩ ⟨b⟩=>(a0s ρ a).bind fun a'=>(a0s ρ b).map fun b'=>.func f ⟨a'⟩ ⟨b'⟩
 |.agg ⟨l⟩=>(a0s ρ l).map fun l'=>.agg ⟨l'⟩
 |.tuple ⟨l⟩=>(a0s ρ l).map fun l'=>.tuple ⟨l'⟩
 |.iface t v=>(m8 ρ v).map fun u=>.iface t u
 |_=>none
def a0s (ρ:Ren):List Value->Option (List Value)
 |[]=>some []
 |v::l=>(m8 ρ v).bind fun u=>(a0s ρ l).map fun m=>u::m
end
def VR (ρ:Ren) (v u:Value):Prop:=m8 ρ v=some u
def LR (ρ:Ren) (l m:List Value):Prop:=a0s ρ l=some m
def Rle (ρ σ:Ren):Prop:=∀ i x,ρ i=some x->σ i=some x
section
variable {ρ σ:Ren} {v u:Value} {l m:List Value}
theorem LR.nil:LR ρ [] []:=by unfold LR a0s;rfl
theorem LR.cons (h:VR ρ v u) (h2:LR ρ l m):LR ρ (v::l) (u::m):=by
 unfold LR VR at *;unfold a0s;rw [h,h2];rfl
theorem LR.inv (h:LR ρ (v::l) m):∃ u r,m=u::r/\VR ρ v u/\LR ρ l r:=by
 unfold LR a0s at h;obtain ⟨u,hu,h⟩:=xj3.1 h;obtain ⟨r,hr,h⟩:=xh4.1 h;exact ⟨u,r,h.symm,hu,hr⟩
theorem LR.nil_inv (h:LR ρ [] m):m=[]:=by
 unfold LR a0s at h
 cases h
 rfl
mutual
theorem VR.mono (hl:Rle ρ σ):∀ {v u:Value},VR ρ v u->VR σ v u
 |.bool _,_,h|.int _ _,_,h|.string _,_,h|.nilFunc,_,h|.nilIface,_,h|.pointer none,_,h|.slice none _ _,_,h|.map none,_,h=>by
  unfold VR m8 at *;exact h
 |.pointer (some ⟨i,o,none⟩),u,h=>by
  unfold VR m8 at *;obtain ⟨x,hx,hu⟩:=xh4.1 h;rw [hl i x hx,<- hu];rfl
 |.slice (some ⟨i,o,none⟩) n c,u,h=>by
  unfold VR m8 at *;obtain ⟨x,hx,hu⟩:=xh4.1 h;rw [hl i x hx,<- hu];rfl
 |.map (some i),u,h=>by
  unfold VR m8 at *;obtain ⟨x,hx,hu⟩:=xh4.1 h;rw [hl i x hx,<- hu];rfl
 |.func f ⟨a⟩ ⟨b⟩,u,h=>by
  unfold VR m8 at *;obtain ⟨a',ha,h⟩:=xj3.1 h;obtain ⟨b',hb,h⟩:=xh4.1 h;rw [show a0s σ a=some a' from LR.mono hl ha,show a0s σ b=some b' from LR.mono hl hb,<- h];rfl
 |.agg ⟨l⟩,u,h=>by
  unfold VR m8 at *;obtain ⟨a',ha,h⟩:=xh4.1 h;rw [show a0s σ l=some a' from LR.mono hl ha,<- h];rfl
 |.tuple ⟨l⟩,u,h=>by
  unfold VR m8 at *;obtain ⟨a',ha,h⟩:=xh4.1 h;rw [show a0s σ l=some a' from LR.mono hl ha,<- h];rfl
 |.iface t v,u,h=>by
  unfold VR m8 at *;obtain ⟨a',ha,h⟩:=xh4.1 h;rw [show m8 σ v=some a' from VR.mono hl ha,<- h];rfl
 |.pointer (some ⟨_,_,some _⟩),_,h|.slice (some ⟨_,_,some _⟩) _ _,_,h|.float _ _,_,h|.complex _ _ _,_,h|.chan _,_,h=>by
  unfold VR m8 at h;cases h
theorem LR.mono (hl:Rle ρ σ):∀ {l m:List Value},LR ρ l m->LR σ l m
 |[],_,h=>by rw [LR.nil_inv h];exact LR.nil
 |v::l,m,h=>by
  obtain ⟨u,r,rfl,h1,h2⟩:=LR.inv h;exact LR.cons (VR.mono hl h1) (LR.mono hl h2)
end
theorem LR.len:∀ {l m:List Value},LR ρ l m->m.length=l.length
 |[],_,h=>by rw [LR.nil_inv h]
 |v::l,m,h=>by
  obtain ⟨u,r,rfl,h1,h2⟩:=LR.inv h;simp [LR.len h2]
theorem LR.get:∀ {l m:List Value} {i:Nat} {v:Value},LR ρ l m->l[i]?=some v->∃ u,m[i]?=some u/\VR ρ v u
 |[],_,_,_,_,h=>by simp at h
 |x::l,m,i,v,hr,h=>by
  obtain ⟨u,r,rfl,h1,h2⟩:=LR.inv hr
  cases i with
  |zero=>simp at h;subst h;exact ⟨u,rfl,h1⟩
  |succ i=>simpa using LR.get h2 (by simpa using h)
theorem LR.app {l' m':List Value}:∀ {l m:List Value},LR ρ l m->LR ρ l' m'->LR ρ (l++l') (m++m')
 |[],_,h,h2=>by rw [LR.nil_inv h];exact h2
 |v::l,m,h,h2=>by
  obtain ⟨u,r,rfl,h1,h3⟩:=LR.inv h;exact LR.cons h1 (LR.app h3 h2)
theorem LR.drop:∀ {l m:List Value} (k:Nat),LR ρ l m->LR ρ (l.drop k) (m.drop k)
 |l,m,0,h=>by simpa using h
 |[],_,k + 1,h=>by rw [LR.nil_inv h];exact LR.nil
 |v::l,m,k + 1,h=>by
  obtain ⟨u,r,rfl,h1,h2⟩:=LR.inv h
  simpa using LR.drop k h2
theorem LR.take:∀ {l m:List Value} (k:Nat),LR ρ l m->LR ρ (l.take k) (m.take k)
 |l,m,0,h=>by simpa using LR.nil
 |[],_,k + 1,h=>by rw [LR.nil_inv h];exact LR.nil
 |v::l,m,k + 1,h=>by
  obtain ⟨u,r,rfl,h1,h2⟩:=LR.inv h
  simpa using LR.cons h1 (LR.take k h2)
theorem LR.set:∀ {l m:List Value} (k:Nat) {v u:Value},LR ρ l m->VR ρ v u->LR ρ (l.set k v) (m.set k u)
 |[],_,k,_,_,h,_=>by rw [LR.nil_inv h];exact LR.nil
 |x::l,m,0,_,_,h,hv=>by
  obtain ⟨u,r,rfl,h1,h2⟩:=LR.inv h;exact LR.cons hv h2
 |x::l,m,k + 1,_,_,h,hv=>by
  obtain ⟨u,r,rfl,h1,h2⟩:=LR.inv h;exact LR.cons h1 (LR.set k h2 hv)
theorem LR.setLs:∀ {c d l m:List Value} {k:Nat},LR ρ l m->LR ρ c d->LR ρ (l7 l k c) (l7 m k d)
 |[],_,l,m,k,h,h2=>by rw [LR.nil_inv h2];exact h
 |x::c,d,l,m,k,h,h2=>by
  obtain ⟨u,r,rfl,h3,h4⟩:=LR.inv h2;exact (LR.setLs (k:=k + 1) (LR.set k h h3) h4:LR ρ (l7 (l.set k x) (k + 1) c) (l7 (m.set k u) (k + 1) r))
theorem VR.one (h:VR ρ v u):u.oneCell'=v.oneCell':=by
 unfold VR at h;unfold m8 at h
 split at h
 all_goals first
  |(cases h;rfl;done)
  |(obtain ⟨_,_,rfl⟩:=xh4.1 h;rfl;done)
  |(obtain ⟨_,_,h⟩:=xj3.1 h;obtain ⟨_,_,rfl⟩:=xh4.1 h;rfl;done)
  |cases h
theorem LR.one:∀ {l m:List Value},LR ρ l m->m.all (·.oneCell')=l.all (·.oneCell')
 |[],_,h=>by rw [LR.nil_inv h]
 |v::l,m,h=>by
  obtain ⟨u,r,rfl,h1,h2⟩:=LR.inv h;simp [VR.one h1,LR.one h2]
theorem VR.celL {L:List Value} (h:VR ρ v u) (hc:celL v=some L):∃ M,Go.Proofs.YtejnpppejalhfadGreat.celL u=some M/\LR ρ L M:=by
 have h0:=h;unfold VR m8 at h
 split at h
 all_goals first
  |(cases h;cases hc;exact ⟨_,rfl,LR.cons h0 LR.nil⟩;done)
  |(obtain ⟨x,hx,rfl⟩:=xh4.1 h;cases hc;exact ⟨_,rfl,LR.cons h0 LR.nil⟩;done)
  |(obtain ⟨x,hx,rfl⟩:=xh4.1 h;cases hc;exact ⟨_,rfl,hx⟩;done)
  |(obtain ⟨_,_,h⟩:=xj3.1 h;obtain ⟨_,_,rfl⟩:=xh4.1 h;cases hc;exact ⟨_,rfl,LR.cons h0 LR.nil⟩;done)
  |(obtain ⟨x,hx,rfl⟩:=xh4.1 h;cases hc;done)
  |(cases h;done)
theorem VR.int {k:IntKind} {n:Int} (h:VR ρ (.int k n) u):u=.int k n:=by unfold VR m8 at h;cases h;rfl
theorem VR.bool {b:Bool} (h:VR ρ (.bool b) u):u=.bool b:=by unfold VR m8 at h;cases h;rfl
theorem VR.str {s:ByteArray} (h:VR ρ (.string s) u):u=.string s:=by unfold VR m8 at h;cases h;rfl
theorem VR.ptr {i o:Nat} (h:VR ρ (.pointer (some ⟨i,o,none⟩)) u):∃ x,ρ i=some x/\u=.pointer (some ⟨x.1,o,none⟩):=by
 unfold VR m8 at h;obtain ⟨x,hx,hu⟩:=xh4.1 h;exact ⟨x,hx,hu.symm⟩
theorem VR.ptr0 (h:VR ρ (.pointer none) u):u=.pointer none:=by unfold VR m8 at h;cases h;rfl
theorem VR.sl {i o n c:Nat} (h:VR ρ (.slice (some ⟨i,o,none⟩) n c) u):∃ x,ρ i=some x/\u=.slice (some ⟨x.1,o,none⟩) n (c + x.2):=by
 unfold VR m8 at h;obtain ⟨x,hx,hu⟩:=xh4.1 h;exact ⟨x,hx,hu.symm⟩
theorem VR.sl0 {n c:Nat} (h:VR ρ (.slice none n c) u):u=.slice none n c:=by unfold VR m8 at h;cases h;rfl
theorem VR.slAny {p:Option Addr} {n c:Nat} (h:VR ρ (.slice p n c) u):∃ p' c',u=.slice p' n c'/\p'.isNone=p.isNone:=by
 match p with
 |none=>exact ⟨_,_,VR.sl0 h,rfl⟩
 |some ⟨i,o,none⟩=>obtain ⟨x,_,hu⟩:=VR.sl h;exact ⟨_,_,hu,rfl⟩
 |some ⟨i,o,some s⟩=>unfold VR m8 at h;cases h
theorem VR.ptrAny {p:Option Addr} (h:VR ρ (.pointer p) u):∃ p',u=.pointer p'/\p'.isNone=p.isNone:=by
 match p with
 |none=>exact ⟨_,VR.ptr0 h,rfl⟩
 |some ⟨i,o,none⟩=>obtain ⟨x,_,hu⟩:=VR.ptr h;exact ⟨_,hu,rfl⟩
 |some ⟨i,o,some s⟩=>unfold VR m8 at h;cases h
theorem VR.mp {i:Nat} (h:VR ρ (.map (some i)) u):∃ x,ρ i=some x/\u=.map (some x.1):=by
 unfold VR m8 at h;obtain ⟨x,hx,hu⟩:=xh4.1 h;exact ⟨x,hx,hu.symm⟩
theorem VR.agg (h:VR ρ (.agg ⟨l⟩) u):∃ m,u=.agg ⟨m⟩/\LR ρ l m:=by
 unfold VR m8 at h;obtain ⟨x,hx,hu⟩:=xh4.1 h;exact ⟨x,hu.symm,hx⟩
theorem VR.tup (h:VR ρ (.tuple ⟨l⟩) u):∃ m,u=.tuple ⟨m⟩/\LR ρ l m:=by
 unfold VR m8 at h;obtain ⟨x,hx,hu⟩:=xh4.1 h;exact ⟨x,hu.symm,hx⟩
theorem VR.fun_ {f:Go.Fn} {a b:List Value} (h:VR ρ (.func f ⟨a⟩ ⟨b⟩) u):∃ a' b',u=.func f ⟨a'⟩ ⟨b'⟩/\LR ρ a a'/\LR ρ b b':=by
 unfold VR m8 at h;obtain ⟨a',ha,h⟩:=xj3.1 h;obtain ⟨b',hb,h⟩:=xh4.1 h;exact ⟨a',b',h.symm,ha,hb⟩
theorem VR.mkAgg (h:LR ρ l m):VR ρ (.agg ⟨l⟩) (.agg ⟨m⟩):=by unfold VR m8;rw [show a0s ρ l=some m from h];rfl
theorem VR.mkTup (h:LR ρ l m):VR ρ (.tuple ⟨l⟩) (.tuple ⟨m⟩):=by unfold VR m8;rw [show a0s ρ l=some m from h];rfl
theorem VR.mkPtr {i o:Nat} {x:Nat×Nat} (h:ρ i=some x):VR ρ (.pointer (some ⟨i,o,none⟩)) (.pointer (some ⟨x.1,o,none⟩)):=by unfold VR m8;rw [h];rfl
theorem VR.mkSl {i o n c:Nat} {x:Nat×Nat} (h:ρ i=some x):VR ρ (.slice (some ⟨i,o,none⟩) n c) (.slice (some ⟨x.1,o,none⟩) n (c + x.2)):=by unfold VR m8;rw [h];rfl
theorem VR.mkMap {i:Nat} {x:Nat×Nat} (h:ρ i=some x):VR ρ (.map (some i)) (.map (some x.1)):=by unfold VR m8;rw [h];rfl
theorem VR.mkFun {f:Go.Fn} {a b a' b':List Value} (h1:LR ρ a a') (h2:LR ρ b b'):VR ρ (.func f ⟨a⟩ ⟨b⟩) (.func f ⟨a'⟩ ⟨b'⟩):=by unfold VR m8;rw [show a0s ρ a=some a' from h1,show a0s ρ b=some b' from h2];rfl
theorem VR.cOk (h:cOk v=true):VR ρ v v:=by
 unfold Go.Proofs.YtejnpppejalhfadGreat.cOk at h
 split at h
 all_goals first
  |(unfold VR m8;rfl)
  |cases h
theorem VR.fn {u':Value} (h:VR ρ v u) (h2:VR ρ v u'):u'=u:=by unfold VR at *;rw [h] at h2;cases h2;rfl
end
structure HasR (ρ:Ren) (N:Nat) (ds:List Deferred) (a:Act) (E:Fr):Prop where
 size:a.tmps.size=N
 defers:a.defers=ds
 at_:∀ t v,d4 E t=some v->∃ u,VR ρ v u/\a.tmps[t]?=some u
theorem e9 {α:Type} (k:Nat) (v:α) (r:List (Nat×α)) (i:Nat):d4 ((k,v)::r) i=if k=i then some v else d4 r i:=by
 show @Bool.rec (fun _=>Option α) (d4 r i) (some v) (Nat.beq k i)=_;by_cases h:k=i
 ·subst h;rw [xj8,xd6 rfl]
 ·rw [a2A h,xd7 h]
theorem a3V {α:Type} (i:Nat):d4 ([]:List (Nat×α)) i=none:=rfl
theorem a0G {α:Type} {l:List (Nat×α)} {i:Nat} {v:α} (h:d4 l i=some v):(i,v) ∈ l:=by
 induction l with
 |nil=>cases h
 |cons p r ih=>
  obtain ⟨k,u⟩:=p;rw [e9] at h;by_cases e:k=i
  ·rw [xd6 e] at h;cases h;subst e;exact xb4
  ·rw [xd7 e] at h;exact xb5 _ (ih h)
theorem n9 {α:Type}:∀ (l:List α) (i:Nat),a0M l i=l[i]?
 |[],i=>rfl
 |p::r,0=>rfl
 |p::r,i + 1=>by
  show a0M r i=_;rw [n9 r i];rfl
theorem a99 {α:Type} (b:Bool) (x y:α):ifB b x y=if b=true then x else y:=by cases b <;> rfl
theorem a1d {α:Type} {b:Bool} {x y:Option α} {z:α} (h:ifB b x y=some z):(b=true/\x=some z)\/(b=false/\y=some z):=by
 cases b
 ·exact xc3 ⟨rfl,h⟩
 ·exact xc6 ⟨rfl,h⟩
theorem a8 {α:Type} {b:Bool} {x:Option α} {z:α} (h:ifB b x none=some z):b=true/\x=some z:=by
 rcases a1d h with h|⟨_,h⟩
 ·exact h
 ·cases h
theorem w7 {α:Type} {b:Bool} {x:Option α} {z:α} (h:ifB b none x=some z):b=false/\x=some z:=by
 rcases a1d h with ⟨_,h⟩|h
 ·cases h
 ·exact h
section
variable {ρ σ:Ren} {N:Nat} {ds:List Deferred} {a:Act} {E:Fr}
def t9 (a:Act):Fr:=(List.range a.tmps.size).map fun t=>(t,a.tmps.getD t undef)
theorem a1o {t:Nat} {u:Value} (h:a.tmps[t]?=some u):Fr.get (t9 a) t=some u:=by
 have key:∀ (l:List Nat),t ∈ l->Fr.get (l.map fun t=>(t,a.tmps.getD t undef)) t=some (a.tmps.getD t undef):=by
  intro l
  induction l with
  |nil=>intro h;cases h
  |cons x r ih=>
   intro hm;rw [xa9];simp only [Fr.get];by_cases e:x=t
   ·subst e;rw [xj8];rfl
   ·rw [a2A e];rcases xb3.1 hm with h|h
    ·exact (e h.symm).elim
    ·exact ih h
 have hlt:t < a.tmps.size:=(xa7.1 h).1;unfold t9;rw [key _ (xh3.2 hlt)];rw [xb1,h];rfl
theorem a7l {t:Nat} {u:Value} (h:Fr.get (t9 a) t=some u):a.tmps.getD t undef=u:=by
 have hm:=Fr.get_mem h;unfold t9 at hm;obtain ⟨k,_,e⟩:=xg1.1 hm
 cases e
 rfl
theorem HasR.full (h:HasR ρ N ds a E):Has N ds a (t9 a):=⟨h.size,h.defers,fun _ _=>a7l⟩
theorem HasR.mono (h:HasR ρ N ds a E) (hl:Rle ρ σ):HasR σ N ds a E:=⟨h.size,h.defers,fun t v ht=>by
 obtain ⟨u,h1,h2⟩:=h.at_ t v ht;exact ⟨u,h1.mono hl,h2⟩⟩
theorem HasR.ev (h:HasR ρ N ds a E) {x:Operand} {v:Value} (hx:sEv E x=some v):∃ u,VR ρ v u/\Fr.ev (t9 a) x=some u:=by
 cases x with
 |tmp t=>obtain ⟨u,h1,h2⟩:=h.at_ t v hx;exact ⟨u,h1,a1o h2⟩
 |const c=>
  obtain ⟨h1,h2⟩:=a8 (show ifB (cOk c) (some c) none=some v from hx)
  cases h2
  exact ⟨_,VR.cOk h1,rfl⟩
 |global g=>cases hx
 |func f=>cases hx;exact ⟨_,VR.mkFun LR.nil LR.nil,rfl⟩
theorem a6i (x:Operand) (r:List Operand):a4W E (x::r)=(match sEv E x,a4W E r with|some v,some vs=>some (v::vs)|_,_=>none):=rfl
theorem HasR.evs (h:HasR ρ N ds a E):∀ {xs:List Operand} {vs:List Value},a4W E xs=some vs->∃ us,LR ρ vs us/\Fr.evs (t9 a) xs=some us
 |[],vs,hx=>by cases hx;exact ⟨_,LR.nil,rfl⟩
 |x::r,vs,hx=>by
  rw [a6i] at hx
  split at hx
  ·rename_i v ws h1 h2
   cases hx
   obtain ⟨u,h3,h4⟩:=h.ev h1;obtain ⟨us,h5,h6⟩:=HasR.evs h h2;refine ⟨u::us,LR.cons h3 h5,?_⟩;simp only [Fr.evs,h4,h6]
  ·cases hx
def PR (ρ:Ren) (l m:List (Nat×Value)):Prop:=m.map (·.1)=l.map (·.1)/\LR ρ (l.map (·.2)) (m.map (·.2))
theorem HasR.evP (h:HasR ρ N ds a E):∀ {xs:List (Nat×Operand)} {vs:List (Nat×Value)},a7Q E xs=some vs->∃ us,PR ρ vs us/\Go.Proofs.YtejnpppejalhfadGreat.evP (t9 a) xs=some us
 |[],vs,hx=>by cases hx;exact ⟨[],⟨rfl,LR.nil⟩,rfl⟩
 |(i,x)::r,vs,hx=>by
  rw [show a7Q E ((i,x)::r)=(match sEv E x,a7Q E r with|some v,some vs=>some ((i,v)::vs)|_,_=>none) from rfl] at hx
  split at hx
  ·rename_i v ws h1 h2
   cases hx
   obtain ⟨u,h3,h4⟩:=h.ev h1;obtain ⟨us,⟨h5,h6⟩,h7⟩:=HasR.evP h h2;refine ⟨(i,u)::us,⟨by simp [h5],LR.cons h3 h6⟩,?_⟩;simp only [Go.Proofs.YtejnpppejalhfadGreat.evP,h4,h7]
  ·cases hx
theorem HasR.put (h:HasR ρ N ds a E) (d:Nat) {v u:Value} (hd:d < N) (hv:VR ρ v u):HasR ρ N ds (a.put (some d) u) ((d,v)::E):=by
 refine ⟨by simpa [Act.put] using h.size,by simpa [Act.put] using h.defers,fun t w ht=>?_⟩;rw [e9] at ht;have hs:=h.size;by_cases e:d=t
 ·subst e;rw [xd6 rfl] at ht
  cases ht
  exact ⟨u,hv,by simp [Act.put,hs,hd]⟩
 ·rw [xd7 e] at ht;obtain ⟨x,h1,h2⟩:=h.at_ t w ht;exact ⟨x,h1,by simp only [Act.put];rw [xb2 e];exact h2⟩
theorem a0h {α:Type} (E:List (Nat×α)) (d:Nat) (t:Nat):d4 (q8 E d) t=if d=t then none else d4 E t:=by
 induction E with
 |nil=>simp [a3V,show q8 ([]:List (Nat×α)) d=[] from rfl]
 |cons p r ih=>
  obtain ⟨k,v⟩:=p;have e:q8 ((k,v)::r) d=if k=d then q8 r d else (k,v)::q8 r d:=by
   show @Bool.rec (fun _=>List (Nat×α)) ((k,v)::q8 r d) (q8 r d) (Nat.beq k d)=_;by_cases h:k=d
   ·subst h;rw [xj8,xd6 rfl]
   ·rw [a2A h,xd7 h]
  rw [e,e9];by_cases h:k=d
  ·subst h;rw [xd6 rfl,ih];by_cases h2:k=t
   ·simp [h2]
   ·simp [h2]
  ·rw [xd7 h,e9,ih];by_cases h2:k=t
   ·subst h2;rw [xd6 rfl,xd6 rfl,xd7 (fun e=>h e.symm)]
   ·simp [h2]
theorem HasR.erase (h:HasR ρ N ds a E) (d:Nat) (u:Value):HasR ρ N ds (a.put (some d) u) (q8 E d):=by
 refine ⟨by simpa [Act.put] using h.size,by simpa [Act.put] using h.defers,fun t w ht=>?_⟩;rw [a0h] at ht;by_cases e:d=t
 ·rw [xd6 e] at ht;cases ht
 ·rw [xd7 e] at ht;obtain ⟨x,h1,h2⟩:=h.at_ t w ht;exact ⟨x,h1,by simp only [Act.put];rw [xb2 e];exact h2⟩
def OR (ρ:Ren):Option Value->Value->Prop
 |some v,u=>VR ρ v u
 |none,_=>True
theorem HasR.putE (h:HasR ρ N ds a E) (d:Option Nat) {v:Option Value} {u:Value} (hd:∀ k,d=some k->k < N) (hv:OR ρ v u):HasR ρ N ds (a.put d u) (a0a E d v):=by
 cases d with
 |none=>cases v <;> exact h
 |some k=>
  cases v with
  |none=>exact h.erase k u
  |some v=>exact h.put k (hd k rfl) hv
end
def TOk (P:Program) (T:TT):Prop:=∀ t ti,T.get t=some ti->a28 P t=some ti/\ti.okB=true
def QOk (P:Program) (q:EqT):Prop:=∀ t s,d4 q t=some s->∀ l l' b,sEqS s l l'=some b->a6Z P t l l' b
section
variable {P:Program} {T:TT} {q:EqT} {ρ:Ren} {N:Nat} {ds:List Deferred} {a:Act} {E:Fr} {ty:TypeId} {pos:String} {after:Array Edge} {dst:Option Nat}
theorem TOk.tabs (hT:TOk P T):∀ (ts:List Nat),∃ Tb:Tab,TabOk P Tb/\∀ t ti,t ∈ ts->T.get t=some ti->Tb.get t=some ti
 |[]=>⟨[],TabOk.nil P,fun _ _ h=>by cases h⟩
 |t::r=>by
  obtain ⟨Tb,h1,h2⟩:=TOk.tabs hT r
  cases e:T.get t with
  |none=>
   refine ⟨Tb,h1,fun t' ti hm ht=>?_⟩;rcases xb3.1 hm with rfl|hm
   ·rw [e] at ht;cases ht
   ·exact h2 t' ti hm ht
  |some ti=>
   refine ⟨(t,ti)::Tb,TabOk.cons (hT t ti e).1 (hT t ti e).2 h1,fun t' ti' hm ht=>?_⟩;simp only [Tab.get];by_cases h:t=t'
   ·subst h;rw [e] at ht
    cases ht
    rw [xj8];rfl
   ·rw [a2A h];rcases xb3.1 hm with rfl|hm
    ·exact (h rfl).elim
    ·exact h2 t' ti' hm ht
theorem a30 (k:IntKind) (n:Int):a23 k n=k.wrap n:=by
 unfold a23
 split
 ·rename_i m;rw [a99]
  split
  ·rename_i h;have h:m < 9223372036854775808:=by simpa [xb0] using h
   exact (a1k (m:=Int.ofNat m) (by show (-9223372036854775808:Int)<=(m:Int);omega) (by show (m:Int)<=9223372036854775807;omega)).symm
  ·rfl
 ·rfl
theorem a6j {op:BinOp} {k k':IntKind} {m n:Int} {v:Value} {t:TypeId} (h:a5R op k k' m n=some v) (w:World):(binOp op t (.int k m) (.int k' n)).run P w=.ok v w:=by
 unfold a5R at h
 split at h
 ·obtain ⟨h1,h2⟩:=w7 h
  cases h2
  have h1:¬ n < 0:=by simpa using h1
  simp [binOp,Op.shift,h1]
 ·obtain ⟨h1,h2⟩:=w7 h
  cases h2
  have h1:¬ n < 0:=by simpa using h1
  simp [binOp,Op.shift,h1]
 ·obtain ⟨h1,h2⟩:=a8 h;clear h;obtain rfl:=a6B h1;unfold a4q at h2
  split at h2
  all_goals first
   |(cases h2;simp [binOp,Op.intArith,a30];done)
   |(cases h2;simp [binOp,Op.intCmp,bne,a2s];done)
   |(cases h2;simp [binOp,Op.intBits,a5j];done)
   |(cases h2;done)
   |skip
  all_goals
   obtain ⟨h3,h4⟩:=w7 h2
   cases h4
   have h3:¬ n=0:=by simpa using h3
   simp [binOp,Op.intDiv,h3,a30]
theorem a36 {op:BinOp} {k k':IntKind} {m n:Int} {v:Value} (h:a5R op k k' m n=some v):VR ρ v v:=by
 apply VR.cOk;unfold a5R at h
 split at h
 ·obtain ⟨_,h2⟩:=w7 h;cases h2;rfl
 ·obtain ⟨_,h2⟩:=w7 h;cases h2;rfl
 ·obtain ⟨_,h2⟩:=a8 h;clear h;unfold a4q at h2
  split at h2
  all_goals first
   |(cases h2;done)
   |(cases h2;rfl;done)
   |(obtain ⟨_,h3⟩:=w7 h2;cases h3;rfl;done)
theorem a8D {op:BinOp} {t:TypeId} {x y:Operand} {k k':IntKind} {m n:Int} (w:World):(eqGuard op t x y (.int k m) (.int k' n)).run P w=.ok () w:=by
 unfold eqGuard
 cases op <;> rfl
theorem b0l {op:BinOp} {t yt:TypeId} {x y:Operand} {k k':IntKind} {m n:Int} {v:Value} (ha:HasR ρ N ds a E) (hx:Fr.ev (t9 a) x=some (.int k m)) (hy:Fr.ev (t9 a) y=some (.int k' n)) (h:a5R op k k' m n=some v):t8 P ⟨dst,.binOp op t x y yt,ty,pos,after,none⟩ a v:=fun w=>by
 have h1:=a6j (P:=P) (t:=t) h w;have h2:=a8D (P:=P) (op:=op) (t:=t) (x:=x) (y:=y) (k:=k) (k':=k') (m:=m) (n:=n) w;simp [execOp,ha.full.ev hx,ha.full.ev hy,h1,h2,Result.andThen]
theorem a4i:∀ {s:List Nat} {l l' m:List Value} {b:Bool},sEqS s l l'=some b->LR ρ l m->m=l:=by
 intro s l l'
 induction s,l,l' using sEqS.induct with
 |case1=>intro m b _ hr;rw [LR.nil_inv hr]
 |case2 s a l b r ih=>
  intro m c h hr;obtain ⟨u,q,rfl,h1,h2⟩:=LR.inv hr;unfold sEqS at h;obtain ⟨b',hb,_⟩:=xh4.1 h;rw [VR.int h1,ih hb h2]
 |case3 s a l b r ih=>
  intro m c h hr;obtain ⟨u,q,rfl,h1,h2⟩:=LR.inv hr;unfold sEqS at h;obtain ⟨b',hb,_⟩:=xh4.1 h;rw [VR.str h1,ih hb h2]
 |case4 s a l b r ih=>
  intro m c h hr;obtain ⟨u,q,rfl,h1,h2⟩:=LR.inv hr;unfold sEqS at h;obtain ⟨b',hb,_⟩:=xh4.1 h;rw [VR.bool h1,ih hb h2]
 |case5=>intro m b h hr;simp_all [sEqS]
theorem a25:∀ {s:List Nat} {l l' m:List Value} {b:Bool},sEqS s l l'=some b->LR ρ l' m->m=l':=by
 intro s l l'
 induction s,l,l' using sEqS.induct with
 |case1=>intro m b _ hr;rw [LR.nil_inv hr]
 |case2 s a l b r ih=>
  intro m c h hr;obtain ⟨u,q,rfl,h1,h2⟩:=LR.inv hr;unfold sEqS at h;obtain ⟨b',hb,_⟩:=xh4.1 h;rw [VR.int h1,ih hb h2]
 |case3 s a l b r ih=>
  intro m c h hr;obtain ⟨u,q,rfl,h1,h2⟩:=LR.inv hr;unfold sEqS at h;obtain ⟨b',hb,_⟩:=xh4.1 h;rw [VR.str h1,ih hb h2]
 |case4 s a l b r ih=>
  intro m c h hr;obtain ⟨u,q,rfl,h1,h2⟩:=LR.inv hr;unfold sEqS at h;obtain ⟨b',hb,_⟩:=xh4.1 h;rw [VR.bool h1,ih hb h2]
 |case5=>intro m b h hr;simp_all [sEqS]
end
section
variable {P:Program} {T:TT} {q:EqT} {ρ:Ren} {N:Nat} {ds:List Deferred} {a:Act} {E:Fr} {v:Value}
def Yl (P:Program) (ρ:Ren) (a:Act) (op:Op) (v:Value):Prop:=∃ u,VR ρ v u/\∀ dst ty pos after,t8 P ⟨dst,op,ty,pos,after,none⟩ a u
theorem Yl.pure {op:Op} {u:Value} {Tb:Tab} (hTb:TabOk P Tb) (ha:HasR ρ N ds a E) (hv:VR ρ v u) (h:k6 Tb (t9 a) op=some u):Yl P ρ a op v :=
 ⟨u,hv,fun _ _ _ _=>t7 hTb ha.full h⟩
theorem b0U (ha:HasR ρ N ds a E) {c x y:Operand} (h:a6t E c x y=some v):Yl P ρ a (.pick c x y) v:=by
 unfold a6t at h
 split at h
 ·rename_i hc;obtain ⟨u,hu,hx⟩:=ha.ev h;obtain ⟨b,hb,hc⟩:=ha.ev hc;rw [VR.bool hb] at hc;exact ⟨u,hu,fun _ _ _ _ w=>by simp [execOp,ha.full.ev hc,asBool,ha.full.ev hx]⟩
 ·rename_i hc;obtain ⟨u,hu,hx⟩:=ha.ev h;obtain ⟨b,hb,hc⟩:=ha.ev hc;rw [VR.bool hb] at hc;exact ⟨u,hu,fun _ _ _ _ w=>by simp [execOp,ha.full.ev hc,asBool,ha.full.ev hx]⟩
 ·cases h
theorem b0Y (ha:HasR ρ N ds a E) {x:Operand} (h:b0S E x=some v):Yl P ρ a (.nilCheck x) v:=by
 unfold b0S at h
 split at h
 ·rename_i p hx
  cases h
  obtain ⟨u,hu,hx⟩:=ha.ev hx;obtain ⟨p',rfl,hp⟩:=VR.ptrAny hu
  cases p' with
  |none=>cases hp
  |some p'=>exact Yl.pure (TabOk.nil P) ha hu (by simp only [k6,hx])
 ·cases h
theorem b1M (hT:TOk P T) (ha:HasR ρ N ds a E) {s:TypeId} {x:Operand} {f:Nat} (h:sFA T E s x f=some v):Yl P ρ a (.fieldAddr s x f) v:=by
 unfold sFA at h
 split at h
 ·rename_i sz fs z g k hs hx;obtain ⟨Tb,hTb,hget⟩:=hT.tabs [s];obtain ⟨u,hu,hx⟩:=ha.ev hx;obtain ⟨y,hy,rfl⟩:=VR.ptr hu;rw [n9] at h
  split at h
  ·rename_i o n b hf
   cases h
   refine Yl.pure hTb ha (VR.mkPtr hy) ?_;simp only [k6,hget s _ (by simp) hs,hx,hf]
   cases e:Nat.beq o 0 with
   |true=>rw [xa8 e];rfl
   |false=>rfl
  ·cases h
 ·cases h
theorem b1a (ha:HasR ρ N ds a E) {x:Operand} {i:Nat} (h:a9M E x i=some v):Yl P ρ a (.extract x i) v:=by
 unfold a9M at h
 split at h
 ·rename_i vs hx;obtain ⟨u,hu,hx⟩:=ha.ev hx;obtain ⟨m,rfl,hm⟩:=VR.tup hu;rw [n9] at h;obtain ⟨w,hw,hv⟩:=hm.get h;exact Yl.pure (TabOk.nil P) ha hv (by simp only [k6,hx];exact hw)
 ·cases h
theorem b00 (ha:HasR ρ N ds a E) {op:UnOp} {t:TypeId} {x:Operand} (h:b0m E op x=some v):Yl P ρ a (.unOp op t x) v:=by
 unfold b0m at h
 split at h
 ·rename_i b hx
  cases h
  obtain ⟨u,hu,hx⟩:=ha.ev hx;rw [VR.bool hu] at hx;exact Yl.pure (TabOk.nil P) ha (VR.cOk rfl) (by simp only [k6,hx])
 ·cases h
theorem b1Q (ha:HasR ρ N ds a E) {fn:Go.Fn} {x y:Array Operand} (h:sMF E fn x y=some v):Yl P ρ a (.makeFunc fn x y) v:=by
 unfold sMF at h
 split at h
 ·rename_i us vs h1 h2
  cases h
  obtain ⟨us',h3,h4⟩:=ha.evs h1;obtain ⟨vs',h5,h6⟩:=ha.evs h2;exact Yl.pure (TabOk.nil P) ha (VR.mkFun h3 h5) (by simp only [k6,h4,h6])
 ·cases h
theorem b1R (hT:TOk P T) (ha:HasR ρ N ds a E) {s t:TypeId} {x:Operand} (h:sCv T E s t x=some v):Yl P ρ a (.convert s t x) v:=by
 obtain ⟨Tb,hTb,hget⟩:=hT.tabs [s,t];unfold sCv at h
 split at h
 ·rename_i hs ht hx
  cases h
  obtain ⟨u,hu,hx⟩:=ha.ev hx;rw [VR.int hu] at hx;exact Yl.pure hTb ha (VR.cOk rfl) (by simp only [k6,hget s _ (by simp) hs,hget t _ (by simp) ht,hx])
 ·rename_i hs ht hx
  cases h
  obtain ⟨u,hu,hx⟩:=ha.ev hx;rw [VR.str hu] at hx;exact Yl.pure hTb ha (VR.cOk rfl) (by simp only [k6,hget s _ (by simp) hs,hget t _ (by simp) ht,hx])
 ·cases h
theorem b1W (hT:TOk P T) (hq:QOk P q) (ha:HasR ρ N ds a E) {op:BinOp} {t yt:TypeId} {x y:Operand} (h:sBO T q E op t x y=some v):Yl P ρ a (.binOp op t x y yt) v:=by
 obtain ⟨Tb,hTb,hget⟩:=hT.tabs [t];unfold sBO at h
 split at h
 ·rename_i v1 v2 hx hy;obtain ⟨u1,hu1,gx⟩:=ha.ev hx;obtain ⟨u2,hu2,gy⟩:=ha.ev hy;clear hx hy;unfold b1C at h
  split at h
  ·rw [VR.int hu1] at gx;rw [VR.int hu2] at gy;exact ⟨v,a36 h,fun _ _ _ _=>b0l ha gx gy h⟩
  ·rw [VR.str hu1] at gx;rw [VR.str hu2] at gy;unfold a9C at h
   split at h
   ·cases h
    exact Yl.pure hTb ha (VR.cOk rfl) (by simp only [k6,gx,gy,a5W])
   ·cases h
    exact Yl.pure hTb ha (VR.cOk rfl) (by simp only [k6,gx,gy,a5W])
   ·obtain ⟨h1,h2⟩:=a8 h
    cases h2
    have h1:=xe5 h1;exact ⟨_,VR.cOk rfl,fun _ _ _ _=>b1n gx gy (by omega) a ha.full _⟩
   ·cases h
  ·rw [VR.bool hu1] at gx;rw [VR.bool hu2] at gy;unfold a9q at h
   split at h
   ·rename_i ht
    cases h
    exact ⟨_,VR.cOk rfl,fun _ _ _ _=>b1x hTb (hget t _ (by simp) ht) gx gy a ha.full _⟩
   ·rename_i ht
    cases h
    exact ⟨_,VR.cOk rfl,fun _ _ _ _=>a9v hTb (hget t _ (by simp) ht) gx gy a ha.full _⟩
   ·cases h
  ·obtain ⟨p',c',rfl,hp⟩:=VR.slAny hu1;rw [VR.sl0 hu2] at gy;unfold a9H at h
   split at h
   ·rename_i ht
    cases h
    rw [<- hp];exact ⟨_,VR.cOk rfl,fun _ _ _ _=>a8Q hTb (hget t _ (by simp) ht) gx gy a ha.full _⟩
   ·cases h
  ·obtain ⟨p',rfl,hp⟩:=VR.ptrAny hu1;rw [VR.ptr0 hu2] at gy;unfold a9s at h
   split at h
   ·rename_i ht
    cases h
    rw [<- hp];obtain ⟨i,hun,_⟩:=hTb.sc (hget t _ (by simp) ht);refine ⟨_,VR.cOk rfl,fun _ _ _ _=>a8W ?_ gx gy a ha.full _⟩;rw [hun];unfold Program.pointee;rw [hun]
   ·cases h
  ·obtain ⟨m1,rfl,hm1⟩:=VR.agg hu1;obtain ⟨m2,rfl,hm2⟩:=VR.agg hu2;unfold a9w at h
   split at h
   ·rename_i s hs
    split at h
    ·rename_i b hb
     cases h
     obtain rfl:=a4i hb hm1;obtain rfl:=a25 hb hm2;exact ⟨_,VR.cOk rfl,fun _ _ _ _=>a9o gx gy (hq t s hs _ _ _ hb) a ha.full _⟩
    ·rename_i b hb
     cases h
     obtain rfl:=a4i hb hm1;obtain rfl:=a25 hb hm2;exact ⟨_,VR.cOk rfl,fun _ _ _ _=>b1l gx gy (hq t s hs _ _ _ hb) a ha.full _⟩
    ·cases h
   ·cases h
  ·cases h
 ·cases h
theorem a6g {α:Type} {a:Array α} {x:α} (h:a.toList=[x]):a=#[x]:=by cases a;simp_all
theorem a6X {α:Type} {a:Array α} {x y:α} (h:a.toList=[x,y]):a=#[x,y]:=by cases a;simp_all
theorem b1P (hT:TOk P T) (ha:HasR ρ N ds a E) {c:Call} (h:sCP T E c=some v):Yl P ρ a (.call c) v:=by
 obtain ⟨cl,args,ats⟩:=c;unfold sCP at h
 split at h
 ·rename_i b hc;dsimp only at hc h;subst hc;unfold b1h at h
  split at h
  ·rename_i x t h1 h2;obtain rfl:=a6g h1;obtain rfl:=a6g h2
   split at h
   ·rename_i v1 hx;obtain ⟨u1,hu1,gx⟩:=ha.ev hx;clear hx;obtain ⟨Tb,hTb,hget⟩:=hT.tabs [t];unfold b1t at h
    split at h
    ·rename_i ht
     cases h
     obtain ⟨p',c',rfl,hp⟩:=VR.slAny hu1;exact Yl.pure hTb ha (VR.cOk rfl) (by simp only [k6,hget t _ (by simp) ht,gx])
    ·rename_i ht
     cases h
     rw [VR.str hu1] at gx;exact Yl.pure hTb ha (VR.cOk rfl) (by simp only [k6,hget t _ (by simp) ht,gx])
    ·cases h
   ·cases h
  ·rename_i x t h1 h2;obtain rfl:=a6g h1;obtain rfl:=a6g h2
   split at h
   ·rename_i v1 hx;obtain ⟨u1,hu1,gx⟩:=ha.ev hx;clear hx;obtain ⟨Tb,hTb,hget⟩:=hT.tabs [t];unfold b03 at h
    split at h
    ·rename_i ht
     cases h
     rw [VR.sl0 hu1] at gx;exact ⟨_,VR.cOk rfl,fun _ _ _ _=>b1c hTb (hget t _ (by simp) ht) gx a ha.full _⟩
    ·cases h
   ·cases h
  ·rename_i x y _ h1;obtain rfl:=a6X h1
   split at h
   ·rename_i m k hx hy
    cases h
    obtain ⟨u1,hu1,hx⟩:=ha.ev hx;obtain ⟨u2,hu2,hy⟩:=ha.ev hy;rw [VR.int hu1] at hx;rw [VR.int hu2] at hy;exact ⟨_,VR.cOk rfl,fun _ _ _ _=>b1D hx hy a ha.full _⟩
   ·cases h
  ·cases h
 ·cases h
theorem b04 (hT:TOk P T) (ha:HasR ρ N ds a E) {s:TypeId} {x:Operand} {f:Nat} (h:b0T T E s x f=some v):Yl P ρ a (.field s x f) v:=by
 obtain ⟨Tb,hTb,hget⟩:=hT.tabs [s];unfold b0T at h
 split at h
 ·rename_i sz fs z c hs hx;obtain ⟨u,hu,hx⟩:=ha.ev hx;obtain ⟨m,rfl,hm⟩:=VR.agg hu;rw [n9] at h
  split at h
  ·rename_i o n hf
   cases h
   exact Yl.pure hTb ha (VR.mkAgg (hm.drop o|>.take n)) (by simp only [k6,hget s _ (by simp) hs,hx,hf])
  ·rename_i o n hf;rw [n9] at h;obtain ⟨w,hw,hv⟩:=hm.get h;exact Yl.pure hTb ha hv (by simp only [k6,hget s _ (by simp) hs,hx,hf];exact hw)
  ·cases h
 ·cases h
theorem VR.cells {u:Value} (h:VR ρ v u):LR ρ v.cells.toList u.cells.toList:=by
 have h0:=h;unfold VR m8 at h
 split at h
 all_goals first
  |(cases h;exact LR.cons h0 LR.nil;done)
  |(obtain ⟨x,hx,rfl⟩:=xh4.1 h;exact LR.cons h0 LR.nil;done)
  |(obtain ⟨x,hx,rfl⟩:=xh4.1 h;exact hx;done)
  |(obtain ⟨_,_,h⟩:=xj3.1 h;obtain ⟨_,_,rfl⟩:=xh4.1 h;exact LR.cons h0 LR.nil;done)
  |(cases h;done)
theorem PR.cons_inv {i:Nat} {x:Value} {r m:List (Nat×Value)} (h:PR ρ ((i,x)::r) m):∃ u m',m=(i,u)::m'/\VR ρ x u/\PR ρ r m':=by
 obtain ⟨h1,h2⟩:=h
 cases m with
 |nil=>cases h1
 |cons p m'=>
  obtain ⟨j,u⟩:=p;obtain ⟨u',r',e,h3,h4⟩:=LR.inv h2;simp only [xa9,List.cons.injEq] at h1 e;obtain ⟨rfl,h1⟩:=h1;obtain ⟨rfl,rfl⟩:=e;exact ⟨u,m',rfl,h3,h1,h4⟩
theorem PR.nil_inv {m:List (Nat×Value)} (h:PR ρ [] m):m=[]:=by
 obtain ⟨h1,_⟩:=h
 simpa using h1
theorem a2G {pl:Nat->Option (Nat×Nat)}:∀ {ps qs:List (Nat×Value)} {L M L':List Value},LR ρ L M->PR ρ ps qs->y7 pl L ps=some L'->∃ M',y7 pl M qs=some M'/\LR ρ L' M'
 |[],qs,L,M,L',hL,hp,h=>by
  rw [PR.nil_inv hp]
  cases h
  exact ⟨M,rfl,hL⟩
 |(i,x)::r,qs,L,M,L',hL,hp,h=>by
  obtain ⟨u,m',rfl,hx,hr⟩:=PR.cons_inv hp;simp only [y7] at h |-
  split at h
  ·rename_i o s ho;have hc:=hx.cells
   cases e:(Nat.beq x.cells.toList.length s && Nat.ble (o + s) L.length) with
   |false=>rw [e] at h;cases h
   |true=>
    rw [e] at h;rw [hc.len,hL.len,e];exact a2G (hL.setLs hc) hr h
  ·cases h
def TI.zeros:TI->List Value
 |.sc _ _ z=>z.cells.toList
 |.st _ _ z=>z
 |.ar _ _ _ _ z=>z
 |.sl _ _ _ _ z=>z
def ZOk (T:TT):Prop:=∀ t ti,T.get t=some ti->ti.zeros.all cOk=true
theorem LR.cOks:∀ {l:List Value},l.all cOk=true->LR ρ l l
 |[],_=>LR.nil
 |x::l,h=>by
  simp only [xi4,xb6] at h;exact LR.cons (VR.cOk h.1) (LR.cOks h.2)
theorem b1b (hT:TOk P T) (hZ:ZOk T) (ha:HasR ρ N ds a E) {t:TypeId} {parts:Array (Nat×Operand)} (h:a93 T E t parts=some v):Yl P ρ a (.build t parts) v:=by
 obtain ⟨Tb,hTb,hget⟩:=hT.tabs [t];unfold a93 at h
 split at h
 ·rename_i sz fs z ps ht hp;obtain ⟨qs,hq,hp⟩:=ha.evP hp;obtain ⟨L,hL,rfl⟩:=xh4.1 h;have hfun:(fun i=>(a0M fs i).map fun f=>(f.1,f.2.1))=fun i=>(fs[i]?).map fun f=>(f.1,f.2.1):=by funext i;rw [n9]
  rw [hfun] at hL;obtain ⟨M,hM,hr⟩:=a2G (LR.cOks (hZ t _ ht)) hq hL;exact ⟨_,VR.mkAgg hr,fun _ _ _ _=>a3r hTb (hget t _ (by simp) ht) hp hM a ha.full⟩
 ·cases h
theorem b1L (hT:TOk P T) (ha:HasR ρ N ds a E) {t:TypeId} {x y:Operand} (h:sIA T E t x y=some v):Yl P ρ a (.indexAddr t x y) v:=by
 obtain ⟨Tb,hTb,hget⟩:=hT.tabs [t];unfold sIA at h
 split at h
 ·rename_i ht hx hy;obtain ⟨h1,h2⟩:=a8 h
  cases h2
  obtain ⟨u,hu,hx⟩:=ha.ev hx;obtain ⟨z,hz,rfl⟩:=VR.sl hu;obtain ⟨u2,hu2,hy⟩:=ha.ev hy;rw [VR.int hu2] at hy;exact ⟨_,VR.mkPtr hz,fun _ _ _ _=>a9c hTb (hget t _ (by simp) ht) hx hy rfl (by simpa [xb0] using h1) a ha.full _⟩
 ·rename_i ht hx hy;obtain ⟨h1,h2⟩:=a8 h
  cases h2
  obtain ⟨u,hu,hx⟩:=ha.ev hx;obtain ⟨z,hz,rfl⟩:=VR.ptr hu;obtain ⟨u2,hu2,hy⟩:=ha.ev hy;rw [VR.int hu2] at hy;exact ⟨_,VR.mkPtr hz,fun _ _ _ _=>b01 hTb (hget t _ (by simp) ht) hx hy rfl (by simpa [xb0] using h1) a ha.full _⟩
 ·cases h
theorem b1U (hT:TOk P T) (ha:HasR ρ N ds a E) {t:TypeId} {x y:Operand} (h:sIx T E t x y=some v):Yl P ρ a (.index t x y) v:=by
 obtain ⟨Tb,hTb,hget⟩:=hT.tabs [t];unfold sIx at h
 split at h
 ·rename_i ht hx hy;rw [n9] at h;obtain ⟨c,hc,rfl⟩:=xh4.1 h;obtain ⟨u,hu,hx⟩:=ha.ev hx;rw [VR.str hu] at hx;obtain ⟨u2,hu2,hy⟩:=ha.ev hy;rw [VR.int hu2] at hy;exact ⟨_,VR.cOk rfl,fun _ _ _ _=>b09 hTb (hget t _ (by simp) ht) hx hy rfl hc a ha.full _⟩
 ·cases h
theorem a5e (ha:HasR ρ N ds a E) {o:Option Operand} {o':Option Value} {z y i:Nat} (h:a8E E o=some o') (hb:sBd o' z y=some i):o.map a.eval=o':=by
 cases o with
 |none=>cases h;rfl
 |some x=>
  obtain ⟨v,hv,rfl⟩:=xh4.1 (show (sEv E x).map some=some o' from h);obtain ⟨u,hu,hx⟩:=ha.ev hv;unfold sBd at hb
  split at hb
  ·rename_i e;cases e
  ·rename_i e
   cases e
   rw [VR.int hu] at hx;simp [ha.full.ev hx]
  ·cases hb
theorem a1S {o:Value} {z y i y':Nat} {code:BoundsCode} (h:sBd (some o) z y=some i) (hy:y<=y') (w:World):(Instr.sliceBound o y' code).run P w=.ok i w:=by
 unfold sBd at h
 split at h
 ·rename_i e;cases e
 ·rename_i e
  cases e
  obtain ⟨h1,h2⟩:=a8 h
  cases h2
  have h1:=xe5 h1;simp [Instr.sliceBound,asIntOf,show i<=y' by omega]
 ·cases h
theorem a2d (ha:HasR ρ N ds a E) {lo hi:Option Operand} {len cap cap' l h:Nat} {b:Bool} (hb:a75 E lo hi len cap=some (l,h)) (hc:cap<=cap') (w:World):(Instr.sliceBounds b len cap' (lo.map a.eval) (hi.map a.eval) none).run P w=.ok (l,h,cap') w:=by
 unfold a75 at hb
 split at hb
 ·rename_i lo' hi' h1 h2
  split at hb
  ·rename_i h' hh
   split at hb
   ·rename_i a' hl
    cases hb
    rw [a5e ha h1 hl,a5e ha h2 hh]
    cases hi' with
    |none=>
     cases hh
     cases lo' with
     |none=>cases hl;simp [Instr.sliceBounds]
     |some o=>simp [Instr.sliceBounds,a1S hl (xc4 _)]
    |some o2=>
     cases lo' with
     |none=>cases hl;simp [Instr.sliceBounds,a1S hh hc]
     |some o=>simp [Instr.sliceBounds,a1S hl (xc4 _),a1S hh hc]
   ·cases hb
  ·cases hb
 ·cases hb
theorem b1S (hT:TOk P T) (ha:HasR ρ N ds a E) {t:TypeId} {x:Operand} {lo hi mx:Option Operand} (h:sSl T E t x lo hi mx=some v):Yl P ρ a (.slice t x lo hi mx) v:=by
 obtain ⟨Tb,hTb,hget⟩:=hT.tabs [t];unfold sSl at h
 split at h
 ·rename_i _ _ L ht hx
  split at h
  ·rename_i l h' hb
   cases h
   obtain ⟨u,hu,hx⟩:=ha.ev hx;rw [VR.str hu] at hx;obtain ⟨_,hu,_⟩:=hTb.sc (hget t _ (by simp) ht);refine ⟨_,VR.cOk rfl,fun _ _ _ _ w=>?_⟩;have hr:=a2d (P:=P) (b:=false) ha hb (xc4 _) w;simp only [execOp,ha.full.ev hx,xj2];have hs:(⟨⟨L⟩⟩:ByteArray).size=L.length:=rfl;simp only [Sem.run_bind,run_sliceAt_string w t _ _ _ _ hu];simp [Instr.slice,run_underlying hu,hs,hr,Result.andThen];exact a3Z _ _ _
  ·cases h
 ·rename_i el sz eb ag z b off m c ht hx
  split at h
  ·rename_i l h' hb;obtain ⟨h1,h2⟩:=a8 h
   cases h2
   obtain ⟨u,hu,hx⟩:=ha.ev hx;obtain ⟨y,hy,rfl⟩:=VR.sl hu;obtain ⟨ji,zv,hun,hinfo,_,hs,_⟩:=hTb.sl (hget t _ (by simp) ht);have hr:=a2d (P:=P) (b:=true) ha hb (show c<=c + y.2 by omega);refine ⟨.slice (some ⟨y.1,off + l * sz,none⟩) (h' - l) (c + y.2 - l),?_,fun _ _ _ _ w=>?_⟩
   ·have e:c + y.2 - l=(c - l) + y.2:=by
     rw [Bool.or_eq_true] at h1;rcases h1 with h1|h1
     ·rw [xa8 h1];omega
     ·have h1:l < c:=by simpa [xb0] using h1
      omega
    rw [e];exact VR.mkSl hy
   ·simp only [execOp,ha.full.ev hx,xj2];simp [Instr.sliceAt,Instr.slice,run_underlying hun,hr w,sizeOf,typeInfo,hinfo,hs];rw [Bool.or_eq_true] at h1;rcases h1 with h1|h1
    ·rw [xa8 h1];simp [Addr.add]
    ·have h1:l < c:=by simpa [xb0] using h1
     rw [xd7 (by omega),a3R]
  ·cases h
 ·rename_i el sz eb ag z m c ht hx
  split at h
  ·rename_i l h' hb
   cases h
   obtain ⟨u,hu,hx⟩:=ha.ev hx;rw [VR.sl0 hu] at hx;obtain ⟨ji,zv,hun,hinfo,_,hs,_⟩:=hTb.sl (hget t _ (by simp) ht);have hr:=a2d (P:=P) (b:=true) ha hb (xc4 _);refine ⟨_,VR.cOk rfl,fun _ _ _ _ w=>?_⟩;simp only [execOp,ha.full.ev hx,xj2];simp [Instr.sliceAt,Instr.slice,run_underlying hun,hr w,sizeOf,typeInfo,hinfo,hs]
  ·cases h
 ·cases h
theorem a7K (hT:TOk P T) (hZ:ZOk T) (hq:QOk P q) (ha:HasR ρ N ds a E) {op:Op} (h:a5p T q E op=some v):Yl P ρ a op v:=by
 unfold a5p at h
 split at h
 ·obtain ⟨u,hu,hx⟩:=ha.ev h;exact Yl.pure (TabOk.nil P) ha hu (by simp only [k6,hx])
 ·obtain ⟨u,hu,hx⟩:=ha.ev h;exact Yl.pure (TabOk.nil P) ha hu (by simp only [k6,hx])
 ·exact b0U ha h
 ·exact b0Y ha h
 ·exact b1M hT ha h
 ·exact b1a ha h
 ·exact b00 ha h
 ·exact b1W hT hq ha h
 ·exact b1Q ha h
 ·exact b1R hT ha h
 ·exact b1P hT ha h
 ·exact b04 hT ha h
 ·exact b1b hT hZ ha h
 ·exact b1L hT ha h
 ·exact b1U hT ha h
 ·exact b1S hT ha h
 ·cases h
end
def RR (ρ:Ren) (l m:List (List Value)):Prop:=m.length=l.length/\∀ (i:Nat) r,l[i]?=some r->∃ s,m[i]?=some s/\LR ρ r s
def R2 (ρ:Ren) (l m:List (Value×Value)):Prop:=m.map (·.1)=l.map (·.1)/\LR ρ (l.map (·.2)) (m.map (·.2))
def Fits (P:Program) (ρ:Ren) (x:Nat):SA->Obj->Prop
 |.blk L,o=>∃ M t,LR ρ L M/\o=.cells M.toArray t (0,0)
 |.row e sz rows cap u,o=>∃ rs cur,RR ρ rows rs/\o=.cells cur e (0,0)/\rs.length<=cap + x/\cap + x<=maxLen/\cur.size=(cap + x) * sz/\cur.toList.take (rs.length * sz)=rs.flatten/\(∀ r ∈ rs,r.length=sz)/\(∀ r ∈ rs,r.all (·.oneCell')=true)/\(u=false->x=0)
 |.smap t es,o=>∃ arr c Kt Et D L,P.underlying t=some (.map Kt Et)/\P.underlying Kt=some D/\o=.map arr c/\MapG D arr L/\R2 ρ es L/\∀ p ∈ es,(∃ n,p.1=.int .i64 n)\/∃ s,p.1=.string s
 |.siter l k,o=>o=.stringIter ⟨l.toArray⟩ k
structure Inv (P:Program) (w0:World) (ρ:Ren) (H:SH) (w:World):Prop where
 below:Below w0.heap.size w0 w
 held:∀ i s,d4 H i=some s->∃ x o,ρ i=some x/\w.heap[x.1]?=some o/\Fits P ρ x.2 s o/\w0.heap.size<=x.1
 inj:∀ i j s t x y,d4 H i=some s->d4 H j=some t->ρ i=some x->ρ j=some y->x.1=y.1->i=j
def Fsh (ρ:Ren) (n m:Nat):Prop:=∀ j,n<=j->j < m->ρ j=none
structure Stp (ρ σ:Ren) (n m:Nat):Prop where
 le:Rle ρ σ
 only:∀ j,j < n\/m<=j->σ j=ρ j
section
variable {P:Program} {w0 w w':World} {ρ σ τ:Ren} {H:SH} {n m k i:Nat} {s s':SA} {x:Nat×Nat} {o o':Obj}
theorem Rle.refl (ρ:Ren):Rle ρ ρ:=fun _ _ h=>h
theorem Rle.trans (h:Rle ρ σ) (h2:Rle σ τ):Rle ρ τ:=fun i x hx=>h2 i x (h i x hx)
theorem Stp.refl (ρ:Ren) (n m:Nat):Stp ρ ρ n m:=⟨Rle.refl ρ,fun _ _=>rfl⟩
theorem Stp.trans (h:Stp ρ σ n m) (h2:Stp σ τ m k) (hn:n<=m) (hm:m<=k):Stp ρ τ n k:=⟨h.le.trans h2.le,fun j hj=>(h2.only j (by omega)).trans (h.only j (by omega))⟩
theorem Fsh.step (h:Fsh ρ n k) (hs:Stp ρ σ n m) (hm:n<=m):Fsh σ m k:=fun j h1 h2=>(hs.only j (xc3 h1)).trans (h j (by omega) h2)
theorem RR.mono {l r:List (List Value)} (h:RR ρ l r) (hl:Rle ρ σ):RR σ l r:=⟨h.1,fun i q hq=>by
 obtain ⟨s,h1,h2⟩:=h.2 i q hq;exact ⟨s,h1,h2.mono hl⟩⟩
theorem R2.mono {l r:List (Value×Value)} (h:R2 ρ l r) (hl:Rle ρ σ):R2 σ l r:=⟨h.1,h.2.mono hl⟩
theorem Fits.mono {x:Nat} (h:Fits P ρ x s o) (hl:Rle ρ σ):Fits P σ x s o:=by
 cases s with
 |blk L=>obtain ⟨M,t,h1,h2⟩:=h;exact ⟨M,t,h1.mono hl,h2⟩
 |row e sz rows cap u=>obtain ⟨rs,cur,h1,h2⟩:=h;exact ⟨rs,cur,h1.mono hl,h2⟩
 |smap t es=>obtain ⟨arr,c,Kt,Et,D,L,h1,h2,h3,h4,h5,h6⟩:=h;exact ⟨arr,c,Kt,Et,D,L,h1,h2,h3,h4,h5.mono hl,h6⟩
 |siter l k=>exact h
theorem a13:∀ (H:SH) (i:Nat) (s:SA) (j:Nat),d4 (y5 H i s) j=if i=j then (d4 H i).map fun _=>s else d4 H j
 |[],i,s,j=>by simp [a3V,show y5 [] i s=[] from rfl]
 |(k,t)::r,i,s,j=>by
  have e:y5 ((k,t)::r) i s=if k=i then (k,s)::r else (k,t)::y5 r i s:=by
   show @Bool.rec (fun _=>SH) ((k,t)::y5 r i s) ((k,s)::r) (Nat.beq k i)=_;by_cases h:k=i
   ·subst h;rw [xj8,xd6 rfl]
   ·rw [a2A h,xd7 h]
  rw [e];by_cases h:k=i
  ·subst h;rw [xd6 rfl,e9,e9,e9,xd6 rfl];by_cases h2:k=j <;> simp [h2]
  ·rw [xd7 h,e9,e9,e9,xd7 h,a13 r i s j];by_cases h2:k=j
   ·subst h2;rw [xd6 rfl,xd7 (fun e=>h (Eq.symm e)),xd6 rfl]
   ·rw [xd7 h2,xd7 h2]
theorem a06:∀ (H:SH) (i:Nat) (s:SA) (j:Nat),d4 H i=none->d4 (x9 H i s) j=if i=j then some s else d4 H j
 |[],i,s,j,_=>by
  show d4 [(i,s)] j=_;rw [e9]
 |(k,t)::r,i,s,j,hn=>by
  have e:x9 ((k,t)::r) i s=if k < i then (i,s)::(k,t)::r else (k,t)::x9 r i s:=by
   show @Bool.rec (fun _=>SH) ((k,t)::x9 r i s) ((i,s)::(k,t)::r) (Nat.blt k i)=_;by_cases h:k < i
   ·rw [show Nat.blt k i=true from by simpa [xb0] using h,xd6 h]
   ·rw [show Nat.blt k i=false from by cases e:Nat.blt k i;rfl;exact (h (by simpa [xb0] using e)).elim,xd7 h]
  rw [e9] at hn;rw [e];by_cases h:k < i
  ·rw [xd6 h,e9]
  ·rw [xd7 h,e9,e9];by_cases h2:k=i
   ·rw [xd6 h2] at hn;cases hn
   ·rw [xd7 h2] at hn;rw [a06 r i s j hn];by_cases h3:k=j
    ·subst h3;rw [xd6 rfl,xd7 (fun e=>h2 (Eq.symm e)),xd6 rfl]
    ·rw [xd7 h3,xd7 h3]
def upR (ρ:Ren) (n:Nat) (x:Nat×Nat):Ren:=fun i=>if i=n then some x else ρ i
theorem a0m (h:ρ n=none):Rle ρ (upR ρ n x):=fun i y hy=>by
 unfold upR;by_cases e:i=n
 ·subst e;rw [h] at hy;cases hy
 ·rw [xd7 e];exact hy
theorem a0b:upR ρ n x n=some x:=by unfold upR;rw [xd6 rfl]
theorem a4Y (h:i≠n):upR ρ n x i=ρ i:=by unfold upR;rw [xd7 h]
theorem a5n (h:ρ n=none):Stp ρ (upR ρ n x) n (n + 1):=⟨a0m h,fun j hj=>a4Y (by omega)⟩
theorem Inv.fresh (h:Inv P w0 ρ H w) (hn:ρ n=none):d4 H n=none:=by
 cases e:d4 H n with
 |none=>rfl
 |some s=>obtain ⟨x,_,hx,_⟩:=h.held n s e;rw [hn] at hx;cases hx
theorem Inv.grow (h:Inv P w0 ρ H w) (hg:w.grownBy w' none):Inv P w0 ρ H w':=by
 have hlt:∀ {b:Nat} {o:Obj},w.heap[b]?=some o->w'.heap[b]?=some o:=fun {b o} hb=>by
  rw [hg.block b (xa7.1 hb).1 (by simp)];exact hb
 refine ⟨⟨hg.os.trans h.below.os,hg.tape.trans h.below.tape,hg.output.trans h.below.output,xc5 h.below.size hg.size,fun k hk=>?_⟩,fun i s hi=>?_,h.inj⟩
 ·rw [hg.block k (xa6 hk h.below.size) (by simp)];exact h.below.block k hk
 ·obtain ⟨x,o,h1,h2,h3,h4⟩:=h.held i s hi;exact ⟨x,o,h1,hlt h2,h3,h4⟩
theorem Inv.sub {H':SH} (h:Inv P w0 ρ H w) (hs:∀ i s,d4 H' i=some s->d4 H i=some s):Inv P w0 ρ H' w :=
 ⟨h.below,fun i s hi=>h.held i s (hs i s hi),fun i j s t x y hi hj=>h.inj i j s t x y (hs i s hi) (hs j t hj)⟩
theorem Inv.upd (h:Inv P w0 ρ H w) (hi:d4 H i=some s) (hx:ρ i=some x) (hg:w.grownBy w' (some x.1)) (ho:w'.heap[x.1]?=some o') (hf:Fits P ρ x.2 s' o'):Inv P w0 ρ (y5 H i s') w':=by
 obtain ⟨x',o,h1,h2,h3,h4⟩:=h.held i s hi;rw [hx] at h1
 cases h1
 refine ⟨⟨hg.os.trans h.below.os,hg.tape.trans h.below.tape,hg.output.trans h.below.output,xc5 h.below.size hg.size,fun k hk=>?_⟩,fun j t hj=>?_,fun j k t t' y z hj hk hy hz e=>?_⟩
 ·rw [hg.block k (xa6 hk h.below.size) (fun e=>by cases e;omega)];exact h.below.block k hk
 ·rw [a13] at hj;by_cases e:i=j
  ·subst e;rw [xd6 rfl,hi] at hj
   cases hj
   exact ⟨x,o',hx,ho,hf,h4⟩
  ·rw [xd7 e] at hj;obtain ⟨y,p,g1,g2,g3,g4⟩:=h.held j t hj;refine ⟨y,p,g1,?_,g3,g4⟩;rw [hg.block y.1 (xa7.1 g2).1 (fun e2=>e (h.inj i j s t x y hi hj hx g1 (Option.some.inj e2).symm))];exact g2
 ·have old:∀ j t,d4 (y5 H i s') j=some t->∃ t',d4 H j=some t':=fun j t hj=>by
   rw [a13] at hj;by_cases e:i=j
   ·subst e;exact ⟨s,hi⟩
   ·rw [xd7 e] at hj;exact ⟨t,hj⟩
  obtain ⟨_,hj'⟩:=old j t hj;obtain ⟨_,hk'⟩:=old k t' hk;exact h.inj j k _ _ y z hj' hk' hy hz e
theorem Inv.new (h:Inv P w0 ρ H w) (hn:ρ n=none) (hg:w.grownBy w' none) (ho:w'.heap[x.1]?=some o) (hb:w.heap.size<=x.1) (hf:Fits P (upR ρ n x) x.2 s o):Inv P w0 (upR ρ n x) (x9 H n s) w':=by
 have hfr:=h.fresh hn;have hG:=h.grow hg;refine ⟨hG.below,fun j t hj=>?_,fun j k t t' y z hj hk hy hz e=>?_⟩
 ·rw [a06 _ _ _ _ hfr] at hj;by_cases e:n=j
  ·subst e;rw [xd6 rfl] at hj
   cases hj
   exact ⟨x,o,a0b,ho,hf,xc5 h.below.size hb⟩
  ·rw [xd7 e] at hj;obtain ⟨y,p,g1,g2,g3,g4⟩:=hG.held j t hj;exact ⟨y,p,a0m hn j y g1,g2,g3.mono (a0m hn),g4⟩
 ·have old:∀ j t y,d4 (x9 H n s) j=some t->upR ρ n x j=some y->(j=n/\y=x)\/(j≠n/\d4 H j=some t/\ρ j=some y):=fun j t y hj hy=>by
   rw [a06 _ _ _ _ hfr] at hj;by_cases e:n=j
   ·subst e;rw [a0b] at hy
    cases hy
    exact xc6 ⟨rfl,rfl⟩
   ·rw [xd7 e] at hj;rw [a4Y (Ne.symm e)] at hy;exact xc3 ⟨Ne.symm e,hj,hy⟩
  have low:∀ j t y,d4 H j=some t->ρ j=some y->y.1 < w.heap.size:=fun j t y hj hy=>by
   obtain ⟨y',p,g1,g2,_⟩:=h.held j t hj;rw [hy] at g1
   cases g1
   exact (xa7.1 g2).1
  rcases old j t y hj hy with ⟨rfl,rfl⟩|⟨_,h1,h2⟩
  ·rcases old k t' z hk hz with ⟨rfl,_⟩|⟨_,h3,h4⟩
   ·rfl
   ·have:=low k t' z h3 h4;omega
  ·rcases old k t' z hk hz with ⟨rfl,rfl⟩|⟨_,h3,h4⟩
   ·have:=low j t y h1 h2;omega
   ·exact h.inj j k t t' y z h1 h3 h2 h4 e
theorem Inv.move {y:Nat×Nat} (h:Inv P w0 ρ H w) (hn:ρ n=none) (hi:d4 H i=some s) (hx:ρ i=some x) (hg:w.grownBy w' (some x.1)) (ho:w'.heap[y.1]?=some o) (hb:y.1=x.1\/w.heap.size<=y.1) (hf:Fits P (upR ρ n y) y.2 s' o):Inv P w0 (upR ρ n y) (x9 (q8 H i) n s') w':=by
 have hin:i≠n:=fun e=>by subst e;rw [hn] at hx;cases hx
 obtain ⟨x',o0,h1,h2,h3,h4⟩:=h.held i s hi;rw [hx] at h1
 cases h1
 have hfr:d4 (q8 H i) n=none:=by rw [a0h,xd7 hin];exact h.fresh hn
 have old:∀ j t,d4 (x9 (q8 H i) n s') j=some t->(j=n/\t=s')\/(j≠n/\j≠i/\d4 H j=some t):=fun j t hj=>by
  rw [a06 _ _ _ _ hfr] at hj;by_cases e:n=j
  ·subst e;rw [xd6 rfl] at hj
   cases hj
   exact xc6 ⟨rfl,rfl⟩
  ·rw [xd7 e] at hj;by_cases e2:i=j
   ·rw [a0h,xd6 e2] at hj;cases hj
   ·rw [a0h,xd7 e2] at hj;exact xc3 ⟨Ne.symm e,Ne.symm e2,hj⟩
 refine ⟨⟨hg.os.trans h.below.os,hg.tape.trans h.below.tape,hg.output.trans h.below.output,xc5 h.below.size hg.size,fun k hk=>?_⟩,fun j t hj=>?_,fun j k t t' u z hj hk hu hz e=>?_⟩
 ·rw [hg.block k (xa6 hk h.below.size) (fun e=>by cases e;omega)];exact h.below.block k hk
 ·rcases old j t hj with ⟨rfl,rfl⟩|⟨e1,e2,hj⟩
  ·refine ⟨y,o,a0b,ho,hf,?_⟩;rcases hb with hb|hb
   ·rw [hb];exact h4
   ·exact xc5 h.below.size hb
  ·obtain ⟨u,p,g1,g2,g3,g4⟩:=h.held j t hj;refine ⟨u,p,a0m hn j u g1,?_,g3.mono (a0m hn),g4⟩;rw [hg.block u.1 (xa7.1 g2).1 (fun e3=>e2 (h.inj j i t s u x hj hi g1 hx (Option.some.inj e3)))];exact g2
 ·have low:∀ j t u,j≠i->d4 H j=some t->ρ j=some u->u.1 < w.heap.size/\u.1≠x.1:=fun j t u hji hj hu=>by
   obtain ⟨y',p,g1,g2,_⟩:=h.held j t hj;rw [hu] at g1
   cases g1
   exact ⟨(xa7.1 g2).1,fun e=>hji (h.inj j i t s u x hj hi hu hx e)⟩
  have up:∀ j u,j≠n->upR ρ n y j=some u->ρ j=some u:=fun j u hjn hu=>by rw [a4Y hjn] at hu;exact hu
  rcases old j t hj with ⟨rfl,rfl⟩|⟨e1,e2,hj'⟩
  ·rcases old k t' hk with ⟨rfl,_⟩|⟨e3,e4,hk⟩
   ·rfl
   ·rw [a0b] at hu
    cases hu
    have:=low k t' z e4 hk (up k z e3 hz);rcases hb with hb|hb <;> omega
  ·rcases old k t' hk with ⟨rfl,rfl⟩|⟨e3,e4,hk⟩
   ·rw [a0b] at hz
    cases hz
    have:=low j t u e2 hj' (up j u e1 hu);rcases hb with hb|hb <;> omega
   ·exact h.inj j k t t' u z hj' hk (up j u e1 hu) (up k z e3 hz) e
end
end Go.Proofs.YtejnpppejalhfadGreat
