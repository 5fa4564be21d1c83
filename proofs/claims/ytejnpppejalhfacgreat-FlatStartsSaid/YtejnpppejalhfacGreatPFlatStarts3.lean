/- Texts that the proof stands on, one behind the other: Sc25, Sc26, Sc27, Sc28, Cx1, Cx2, Cx4, Cx5, Cx6, Cx7. -/
import Derived.Laws.CopyRow
import Derived.Laws.Slices
import Derived.Lib.AppendZerosOnto
import Derived.Lib.Overlaps
import Derived.Laws.Externs
import Derived.Test.YtejnpppejalhfacGreatPFlatStarts2
set_option linter.unusedVariables false
set_option linter.unusedSimpArgs false
namespace Go.Proofs.YtejnpppejalhfacGreat
set_option maxRecDepth 100000
set_option maxHeartbeats 8000000
open Go.RowKit Go.Sort
section
variable {P:Program} {n:Nat} {ds:List Deferred} {E:Fr} {w w':World} {Q:Exit->Act->World->Prop} {ops:Array Oper} {rest:List Oper} {d:Nat} {dst:Option Nat} {ty:TypeId} {pos:String} {after:Array Edge} {F:Nat->Prop} {w0:World} {Γ:List Asr} {T:Tab}
theorem a5t (g o k:Nat):(⟨g,o,none⟩:Addr).add k=⟨g,o + k,none⟩:=by unfold Addr.add;split <;> simp_all
theorem b2w (hT:TabOk P T) {t el sz eb m c:Nat} {p:Option Addr} {ag:Bool} {z:List Value} {x:Operand} (ht:T.get t=some (.sl el sz eb ag z)) (hx:E.ev x=some (.slice p m c)):∀ a,Has n ds a E->∀ dst,x7 P ⟨dst,.call { callee:=.builtin .cap,args:=#[x],argTypes:=#[t] },ty,pos,after,none⟩ a (.int .i64 (c:Nat)):=fun a ha _ w=>by
 obtain ⟨ji,zv,hu,_⟩:=hT.sl ht;have hr:(Builtin.cap_ #[t] ty #[.slice p m c]).run P w=.ok (.int .i64 (c:Nat)) w:=by
  simp [Builtin.cap_,run_underlying hu,goInt]
 simp [execOp,resolve,invoke,builtin,ha.ev hx,hr,Result.andThen]
def a00 (rows news:List (List Value)) (k:Nat):List (List Value):=rows.take k++(news++rows.drop (k + news.length))
theorem a3z {rows news:List (List Value)} {k:Nat} (hk:k<=rows.length):(a00 rows news k).length=max rows.length (k + news.length):=by
 unfold a00;rw [xd6,xd6,xa1,xk5];omega
theorem a3B {rows:List (List Value)} {sz:Nat} (hs:∀ r ∈ rows,r.length=sz) (k:Nat):rows.flatten.take (k * sz)=(rows.take k).flatten:=by
 have h1:rows.flatten=(rows.take k).flatten++(rows.drop k).flatten:=by rw [<- xe6,xk4]
 by_cases hk:k<=rows.length
 ·have hl:(rows.take k).flatten.length=k * sz:=by
   rw [j4 (fun r hr=>hs r (xe5 hr)),xa1]
   congr 1;omega
  rw [h1,List.take_left' hl]
 ·rw [xa0 (by rw [j4 hs];exact xj2 _ (by omega)),xa0 (l:=rows) (by omega)]
theorem a62 {rows:List (List Value)} {sz:Nat} (hs:∀ r ∈ rows,r.length=sz) (k:Nat):rows.flatten.drop (k * sz)=(rows.drop k).flatten:=by
 have h1:rows.flatten=(rows.take k).flatten++(rows.drop k).flatten:=by rw [<- xe6,xk4]
 by_cases hk:k<=rows.length
 ·have hl:(rows.take k).flatten.length=k * sz:=by
   rw [j4 (fun r hr=>hs r (xe5 hr)),xa1]
   congr 1;omega
  rw [h1,List.drop_left' hl]
 ·rw [xk6 (by rw [j4 hs];exact xj2 _ (by omega)),xk6 (l:=rows) (by omega)];rfl
theorem a5E {e sz g m cap k:Nat} {rows news:List (List Value)} (h:Asr.holds w (.row e sz (.slice (some ⟨g,0,none⟩) m cap) rows)) (hk:k<=rows.length) (hn:k + news.length<=cap) (hs:∀ r ∈ news,r.length=sz) (h1:∀ r ∈ news,r.all (·.oneCell')=true) :
  ∃ w',(storeCells ⟨g,k * sz,none⟩ news.flatten).run P w=.ok () w'/\w.grownBy w' (some g)/\Asr.holds w' (.row e sz (.slice (some ⟨g,0,none⟩) (a00 rows news k).length cap) (a00 rows news k)):=by
 obtain ⟨ho,hlen,hone⟩:=h;rcases ho.2 with ⟨he,_⟩|⟨g',cap',cur,hv,_,hg,hnc,hcm,hcs,htake⟩
 ·cases he
 cases hv
 have hsl:news.flatten.length=news.length * sz:=j4 hs;have hfit:k * sz + news.flatten.length<=cur.size:=by
  rw [hsl,hcs,<- Nat.add_mul];exact xj2 _ hn
 have hst:=run_storeCells_at P g (k * sz) e news.flatten 0 cur w hg (by simpa using hfit) (fun v hv=>by
  obtain ⟨r,hr,hur⟩:=List.mem_flatten.1 hv;exact xb8.1 (h1 r hr) v hur)
 refine ⟨_,hst,⟨rfl,rfl,rfl,by simp [World.setRow,World.heap],fun j hj hne=>?_⟩,⟨⟨j4 (fun r hr=>?_),.inr ⟨g,cap,_,rfl,xf0 _,setRow_heap w g cur _ e (0,0) hg,?_,hcm,?_,?_⟩⟩,fun r hr=>?_,fun r hr=>?_⟩⟩
 ·have:g≠j:=fun e=>hne (by rw [e]);simp [World.setRow,Array.getElem?_modify,this]
 ·unfold a00 at hr;rcases xd2.1 hr with hr|hr
  ·exact hlen r (xe5 hr)
  ·rcases xd2.1 hr with hr|hr
   ·exact hs r hr
   ·exact hlen r (xk7 hr)
 ·rw [a3z hk];omega
 ·rw [hsl] at hfit |-;simp only [List.size_toArray,xd6,xa1,xk5,xf5,xe9,hsl];omega
 ·have hcl:cur.toList.length=cap * sz:=by simpa using hcs
  have hct:cur.toList.take (k * sz)=(rows.take k).flatten:=by
   rw [<- a3B hlen,<- htake,List.take_take]
   congr 1
   exact (Nat.min_eq_left (xj2 _ hk)).symm
  have hrl:(rows.take k).flatten.length=k * sz:=by
   rw [j4 (fun r hr=>hlen r (xe5 hr)),xa1]
   congr 1;omega
  simp only [xe9,xf1];rw [hct,a3z hk,xe7];unfold a00;rw [xe6,xe6];rw [List.take_append,xa0 (l:=(rows.take k).flatten) (by rw [hrl];exact xj2 _ (by omega)),hrl]
  congr 1
  rw [List.take_append,xa0 (l:=news.flatten) (by rw [hsl,<- xk8];exact xj2 _ (by omega)),hsl]
  congr 1
  by_cases hc:k + news.length<=rows.length
  ·rw [show max rows.length (k + news.length)=rows.length by omega,<- xk8,<- xk8,<- a62 hlen,<- htake];rw [show k * sz + news.length * sz=(k + news.length) * sz by rw [Nat.add_mul],List.drop_take,<- xk8]
   congr 2
   omega
  ·rw [show max rows.length (k + news.length)=k + news.length by omega,xk6 (l:=rows) (by omega)];rw [<- xk8,<- xk8,show k + news.length - k - news.length=0 by omega];simp
 ·unfold a00 at hr;rcases xd2.1 hr with hr|hr
  ·exact hlen r (xe5 hr)
  ·rcases xd2.1 hr with hr|hr
   ·exact hs r hr
   ·exact hlen r (xk7 hr)
 ·unfold a00 at hr;rcases xd2.1 hr with hr|hr
  ·exact hone r (xe5 hr)
  ·rcases xd2.1 hr with hr|hr
   ·exact h1 r hr
   ·exact hone r (xk7 hr)
theorem RoAt.drop {G:Nat->Prop} {b off sz:Nat} {rows:List (List Value)} (h:RoAt G w b off sz rows) (k:Nat):RoAt G w b (off + k * sz) sz (rows.drop k) :=
 ⟨h.lt,h.nf,fun r hr=>h.len r (xk7 hr),fun r hr=>h.one r (xk7 hr),fun i r hr j u hj=>by
  rw [xe3] at hr;have:=h.cells (k + i) r hr j u hj
  rwa [show off + k * sz + i * sz + j=off + (k + i) * sz + j by rw [Nat.add_mul];omega]⟩
theorem St.shrink (hS:St F w0 w Γ) (i:Nat) {e sz g m cap:Nat} {rows:List (List Value)} (k:Nat) (hi:Γ[i]?=some (.row e sz (.slice (some ⟨g,0,none⟩) m cap) rows)) (hk:k<=rows.length):St F w0 w (Γ.set i (.row e sz (.slice (some ⟨g,0,none⟩) k cap) (rows.take k))):=by
 refine hS.upd hi ⟨rfl,rfl,rfl,xc5 _,fun _ _ _=>rfl⟩ ?_ (fun q hq=>xc7 hq);obtain ⟨ho,hlen,hone⟩:=hS.at_ hi;rcases ho.2 with ⟨he,_⟩|⟨g',cap',cur,hv,_,hg,hnc,hcm,hcs,htake⟩
 ·cases he
 cases hv
 refine ⟨⟨j4 (fun r hr=>hlen r (xe5 hr)),.inr ⟨g,cap,cur,by rw [xa1,Nat.min_eq_left hk],xf0 _,hg,by rw [xa1];omega,hcm,hcs,?_⟩⟩,fun r hr=>hlen r (xe5 hr),fun r hr=>hone r (xe5 hr)⟩;rw [xa1,Nat.min_eq_left hk,<- a3B hlen,<- htake,List.take_take,Nat.min_eq_left (xj2 _ hk)]
end
section
variable {P:Program} {n:Nat} {ds:List Deferred} {E:Fr} {w w':World} {Q:Exit->Act->World->Prop} {ops:Array Oper} {rest:List Oper} {d:Nat} {dst:Option Nat} {ty:TypeId} {pos:String} {after:Array Edge} {F:Nat->Prop} {w0:World} {Γ:List Asr} {T:Tab}
def a8O (p:Option Addr) (m c j sz:Nat):Value:=.slice (if c=j then p else p.map fun q=>q.add (j * sz)) (m - j) (c - j)
theorem a56 (hT:TabOk P T) {t el sz eb m c j:Nat} {p:Option Addr} {ag:Bool} {z:List Value} {x y:Operand} {i:Int} (ht:T.get t=some (.sl el sz eb ag z)) (hx:E.ev x=some (.slice p m c)) (hy:E.ev y=some (.int .i64 i)) (hj:(j:Int)=i) (hm:j<=m):∀ a,Has n ds a E->∀ dst,x7 P ⟨dst,.slice t x (some y) none none,ty,pos,after,none⟩ a (a8O p m c j sz):=fun a ha _ w=>by
 obtain ⟨ji,zv,hu,hinfo,_,hs,_⟩:=hT.sl ht;subst hj;have hb:(Instr.sliceBounds true m c (some (.int .i64 (j:Int))) none none).run P w=.ok (j,m,c) w:=by
  simp [Instr.sliceBounds,run_sliceBound,hm]
 simp only [execOp,ha.ev hx,ha.ev hy,xg1,xk2];simp [Instr.sliceAt,Instr.slice,run_underlying hu,hb,sizeOf,typeInfo,hinfo,hs,a8O]
end
section
variable {P:Program} {n:Nat} {ds:List Deferred} {E:Fr} {w w':World} {Q:Exit->Act->World->Prop} {ops:Array Oper} {rest:List Oper} {d:Nat} {dst:Option Nat} {ty:TypeId} {pos:String} {after:Array Edge} {F:Nat->Prop} {w0:World} {Γ:List Asr} {T:Tab}
theorem b0x {t yt:TypeId} {x y:Operand} {p:Option Addr} (ht:P.underlying t=some (.pointer (P.pointee t))) (hx:E.ev x=some (.pointer p)) (hy:E.ev y=some (.pointer none)):∀ a,Has n ds a E->∀ dst,x7 P ⟨dst,.binOp .eql t x y yt,ty,pos,after,none⟩ a (.bool p.isNone):=fun a ha _ w=>by
 have e:=run_eql_pointer_nil (P:=P) (w:=w) t p ht;simp only [execOp,ha.ev hx,ha.ev hy,eqGuard];simp [e,Result.andThen]
end
def a8E (P:Program) (t:TypeId) (name:String) (f:FuncId):Bool:=match P.info? t,P.underlying t with
 |some i,some (.pointer _)=>match i.methods.find? (·.name == name) with
  |some m=>m.path.toList.isEmpty && (match m.func with
   |some (g,true)=>Nat.beq g f
   |_=>false)
  |none=>false
 |_,_=>false
section
variable {P:Program} {w:World}
theorem a5H {t:TypeId} {name:String} {f:FuncId} (h:a8E P t name f=true) (k:Nat) (v:Value):(method (k + 1) t v name).run P w=.ok (f,v) w:=by
 unfold a8E at h
 split at h
 ·rename_i i e hi hu
  split at h
  ·rename_i m hm;rw [xb7] at h;obtain ⟨h1,h2⟩:=h
   split at h2
   ·rename_i g hf;obtain rfl:=xa9 h2;have hp:m.path.toList=[]:=by simpa using h1
    have hi2:(typeInfo t).run P w=.ok i w:=by
     unfold typeInfo;simp [Sem.run_bind,run_program,Result.andThen_ok,hi]
    have hu2:(underlying t).run P w=.ok (.pointer e) w:=by
     unfold underlying;simp [Sem.run_bind,run_program,Result.andThen_ok,hu]
    unfold method;simp only [Sem.run_bind,hi2,Result.andThen_ok,hm,hp,hf,follow,Sem.run_pure,receiverAt,hu2,Place.get]
   ·cases h2
  ·cases h
 ·cases h
theorem a8U {E:Fr} {n:Nat} {ds:List Deferred} {dst:Option Nat} {ty:TypeId} {pos:String} {after:Array Edge} {f:FuncId} {x:Operand} {name:String} {args:Array Operand} {ats:Array TypeId} {vs:List Value} {t:TypeId} {u:Value} {Φ:Value->World->Prop} (hx:E.ev x=some (.iface t u)) (hv:E.evs args.toList=some vs) (hm:a8E P t name f=true) (h:Fn P f (u::vs) w Φ) :
  Gets P ⟨dst,.call { callee:=.invoke x name,args:=args,argTypes:=ats },ty,pos,after,none⟩ n ds E w Φ:=by
 intro a ha K Q k;obtain ⟨⟨fn,hok⟩,hc⟩:=h;have e1:args.map a.eval=vs.toArray:=by rw [<- ha.evs hv,<- xc2,xc3]
 have hd:0 < Made.depth:=by decide
 obtain ⟨kk,hk⟩:∃ kk,P.types.size + Made.depth=kk + 1:=⟨P.types.size + Made.depth - 1,by omega⟩;have hrun:(execOp a.eval ⟨dst,.call { callee:=.invoke x name,args:=args,argTypes:=ats },ty,pos,after,none⟩).run P w=.ok (.enter f (u::vs).toArray) w:=by
  simp only [execOp,resolve,ha.ev hx,Sem.run_bind,Sem.run_pure,Result.andThen_ok,invoke,e1];have e2:(#[Value.iface t u]++vs.toArray)[0]?=some (.iface t u):=by simp
  have e3:(#[Value.iface t u]++vs.toArray).extract 1 (#[Value.iface t u]++vs.toArray).size=vs.toArray:=by simp
  rw [e2,e3];simp only [callMethod,Sem.run_bind,run_program,Result.andThen_ok];rw [hk,a5H hm];simp only [Result.andThen_ok];rw [a0H hok];simp
 unfold Oper.wp;rw [hrun];exact hc.mono fun e w' ⟨v,he,hΦ⟩=>by subst he;exact k v w' hΦ
end
inductive Rs (α:Type) where
 |ok (a:α)
 |no (p:String)
inductive SA where
 |blk (L:List Value)
 |row (e sz:Nat) (rows:List (List Value)) (cap:Nat) (u:Bool)
 |smap (t:Nat) (es:List (Value×Value))
 |siter (l:List UInt8) (pos:Nat)
abbrev SH:=List (Nat×SA)
noncomputable def ifB {α:Type} (b:Bool) (x y:α):α:=@Bool.rec (fun _=>α) y x b
noncomputable def g8 {α:Type} (l:List (Nat×α)) (i:Nat):Option α:=@List.rec (Nat×α) (fun _=>Option α) none (fun p _ ih=>@Bool.rec (fun _=>Option α) ih (some p.2) (Nat.beq p.1 i)) l
noncomputable def a1m {α:Type} (l:List α):Nat->Option α:=@List.rec α (fun _=>Nat->Option α) (fun _=>none) (fun p _ ih i=>@Nat.rec (fun _=>Option α) (some p) (fun i _=>ih i) i) l
inductive BT (α:Type) where
 |nil
 |node (k:Nat) (v:α) (l r:BT α)
noncomputable def BT.get {α:Type} (t:BT α) (i:Nat):Option α:=@BT.rec α (fun _=>Option α) none (fun k v _ _ l r=>@Bool.rec (fun _=>Option α) (@Bool.rec (fun _=>Option α) r l (Nat.blt i k)) (some v) (Nat.beq i k)) t
noncomputable def a0o (H:SH) (i:Nat) (t:SA):SH:=@List.rec (Nat×SA) (fun _=>SH) [] (fun p r ih=>@Bool.rec (fun _=>SH) (p::ih) ((p.1,t)::r) (Nat.beq p.1 i)) H
noncomputable def t6 {α:Type} (l:List (Nat×α)) (i:Nat):List (Nat×α):=@List.rec (Nat×α) (fun _=>List (Nat×α)) [] (fun p _ ih=>@Bool.rec (fun _=>List (Nat×α)) (p::ih) ih (Nat.beq p.1 i)) l
noncomputable def a0p (H:SH) (i:Nat) (t:SA):SH:=@List.rec (Nat×SA) (fun _=>SH) [(i,t)] (fun p r ih=>@Bool.rec (fun _=>SH) (p::ih) ((i,t)::p::r) (Nat.blt p.1 i)) H
def cOk:Value->Bool
 |.bool _|.int _ _|.string _|.pointer none|.slice none _ _|.map none|.nilFunc|.nilIface=>true
 |_=>false
noncomputable def sEv (E:Fr):Operand->Option Value
 |.tmp t=>g8 E t
 |.const v=>ifB (cOk v) (some v) none
 |.func f=>some (.func (.func f) #[] #[])
 |.global _=>none
noncomputable def a6s (E:Fr) (l:List Operand):Option (List Value):=@List.rec Operand (fun _=>Option (List Value)) (some []) (fun x _ ih=>match sEv E x,ih with
  |some v,some vs=>some (v::vs)
  |_,_=>none) l
noncomputable def a8C (E:Fr) (l:List (Nat×Operand)):Option (List (Nat×Value)):=@List.rec (Nat×Operand) (fun _=>Option (List (Nat×Value))) (some []) (fun x _ ih=>match sEv E x.2,ih with
  |some v,some vs=>some ((x.1,v)::vs)
  |_,_=>none) l
noncomputable def a32 (k:IntKind) (n:Int):Int:=match k,n with
 |.i64,.ofNat m=>ifB (Nat.blt m 9223372036854775808) (.ofNat m) (IntKind.i64.wrap (.ofNat m))
 |k,n=>k.wrap n
def a6H (f:(n:Nat)->BitVec n->BitVec n->BitVec n) (k:IntKind) (m n:Int):Value:=.int k (k.wrap (f k.bits (BitVec.ofInt k.bits m) (BitVec.ofInt k.bits n)).toNat)
noncomputable def a5M (op:BinOp) (k:IntKind) (m n:Int):Option Value:=match op with
 |.add=>some (.int k (a32 k (m + n)))
 |.sub=>some (.int k (a32 k (m - n)))
 |.mul=>some (.int k (a32 k (m * n)))
 |.quo=>ifB (decide (n=0)) none (some (.int k (a32 k (m.tdiv n))))
 |.rem=>ifB (decide (n=0)) none (some (.int k (m.tmod n)))
 |.and=>some (a6H (fun _ a b=>a &&& b) k m n)
 |.or=>some (a6H (fun _ a b=>a|||b) k m n)
 |.xor=>some (a6H (fun _ a b=>a ^^^ b) k m n)
 |.lss=>some (.bool (decide (m < n)))
 |.leq=>some (.bool (decide (m<=n)))
 |.gtr=>some (.bool (decide (n < m)))
 |.geq=>some (.bool (decide (n<=m)))
 |.eql=>some (.bool (decide (m=n)))
 |.neq=>some (.bool (!decide (m=n)))
 |_=>none
noncomputable def a7D (op:BinOp) (k k':IntKind) (m n:Int):Option Value:=match op with
 |.shl=>ifB (decide (n < 0)) none (some (.int k (k.wrap (m * 2 ^ min n.toNat k.bits))))
 |.shr=>ifB (decide (n < 0)) none (some (.int k (m.fdiv (2 ^ min n.toNat k.bits))))
 |op=>ifB (kb k k') (a5M op k m n) none
def sEqS:List Nat->List Value->List Value->Option Bool
 |[],[],[]=>some true
 |0::s,.int .i64 a::l,.int .i64 b::r=>(sEqS s l r).map (decide (a=b) && ·)
 |1::s,.string ⟨⟨a⟩⟩::l,.string ⟨⟨b⟩⟩::r=>(sEqS s l r).map (decide (a=b) && ·)
 |2::s,.bool a::l,.bool b::r=>(sEqS s l r).map (decide (a=b) && ·)
 |_,_,_=>none
abbrev EqT:=List (Nat×List Nat)
abbrev TT:=BT TI
noncomputable def b0Q (op:BinOp) (l l':List UInt8):Option Value:=match op with
 |.eql=>some (.bool (decide (l=l')))
 |.neq=>some (.bool (!decide (l=l')))
 |.add=>ifB (Nat.ble (l.length + l'.length) 1000000) (some (.string ⟨(l++l').toArray⟩)) none
 |_=>none
noncomputable def b0U (T:TT) (op:BinOp) (t:TypeId) (a b:Bool):Option Value:=match T.get t,op with
 |some (.sc .bool _ _),.eql=>some (.bool (decide (a=b)))
 |some (.sc .bool _ _),.neq=>some (.bool (!decide (a=b)))
 |_,_=>none
noncomputable def b0W (q:EqT) (op:BinOp) (t:TypeId) (l l':List Value):Option Value:=match g8 q t with
 |some s=>match sEqS s l l',op with
  |some b,.eql=>some (.bool b)
  |some b,.neq=>some (.bool (!b))
  |_,_=>none
 |none=>none
noncomputable def b05 (T:TT) (op:BinOp) (t:TypeId) (p:Option Addr):Option Value:=match T.get t,op with
 |some (.sl _ _ _ _ _),.eql=>some (.bool p.isNone)
 |_,_=>none
noncomputable def b1d (T:TT) (op:BinOp) (t:TypeId) (p:Option Addr):Option Value:=match T.get t,op with
 |some (.sc (.pointer _) _ _),.eql=>some (.bool p.isNone)
 |_,_=>none
noncomputable def b3c (T:TT) (q:EqT) (op:BinOp) (t:TypeId):Value->Value->Option Value
 |.int k m,.int k' n=>a7D op k k' m n
 |.string ⟨⟨l⟩⟩,.string ⟨⟨l'⟩⟩=>b0Q op l l'
 |.bool a,.bool b=>b0U T op t a b
 |.slice p _ _,.slice none 0 0=>b05 T op t p
 |.pointer p,.pointer none=>b1d T op t p
 |.agg ⟨l⟩,.agg ⟨l'⟩=>b0W q op t l l'
 |_,_=>none
noncomputable def a88 (E:Fr) (c a b:Operand):Option Value:=match sEv E c with
 |some (.bool true)=>sEv E a
 |some (.bool false)=>sEv E b
 |_=>none
noncomputable def b1W (E:Fr) (x:Operand):Option Value:=match sEv E x with
 |some (.pointer (some p))=>some (.pointer (some p))
 |_=>none
noncomputable def sFA (T:TT) (E:Fr) (s:TypeId) (x:Operand) (f:Nat):Option Value:=match T.get s,sEv E x with
 |some (.st _ fs _),some (.pointer (some ⟨g,k,none⟩))=>match a1m fs f with
  |some (o,_,_)=>some (.pointer (some ⟨g,k + o,none⟩))
  |none=>none
 |_,_=>none
noncomputable def b1K (E:Fr) (x:Operand) (i:Nat):Option Value:=match sEv E x with
 |some (.tuple vs)=>a1m vs.toList i
 |_=>none
noncomputable def b1w (E:Fr) (op:UnOp) (x:Operand):Option Value:=match op,sEv E x with
 |.not,some (.bool b)=>some (.bool (!b))
 |_,_=>none
noncomputable def sBO (T:TT) (q:EqT) (E:Fr) (op:BinOp) (t:TypeId) (x y:Operand):Option Value:=match sEv E x,sEv E y with
 |some u,some v=>b3c T q op t u v
 |_,_=>none
noncomputable def sMF (E:Fr) (fn:Go.Fn) (a b:Array Operand):Option Value:=match a6s E a.toList,a6s E b.toList with
 |some us,some vs=>some (.func fn us.toArray vs.toArray)
 |_,_=>none
noncomputable def sCv (T:TT) (E:Fr) (src dst:TypeId) (x:Operand):Option Value:=match T.get src,T.get dst,sEv E x with
 |some _,some (.sc (.int k) _ _),some (.int _ n)=>some (.int k (k.wrap n))
 |some _,some (.sc .string _ _),some (.string s)=>some (.string s)
 |_,_,_=>none
noncomputable def b2L (T:TT) (t:TypeId) (v:Value):Option Value:=match T.get t,v with
 |some (.sl _ _ _ _ _),.slice _ n _=>some (.int .i64 n)
 |some (.sc .string _ _),.string ⟨⟨l⟩⟩=>some (.int .i64 l.length)
 |_,_=>none
noncomputable def b2A (T:TT) (t:TypeId) (v:Value):Option Value:=match T.get t,v with
 |some (.sl _ _ _ _ _),.slice none _ c=>some (.int .i64 c)
 |_,_=>none
noncomputable def b20 (T:TT) (E:Fr) (b:Builtin) (args:List Operand) (ats:List TypeId):Option Value:=match b,args,ats with
 |.len,[x],[t]=>match sEv E x with
  |some v=>b2L T t v
  |none=>none
 |.cap,[x],[t]=>match sEv E x with
  |some v=>b2A T t v
  |none=>none
 |.min,[x,y],_=>match sEv E x,sEv E y with
  |some (.int .i64 m),some (.int .i64 k)=>some (.int .i64 (min m k))
  |_,_=>none
 |_,_,_=>none
noncomputable def sCP (T:TT) (E:Fr) (c:Call):Option Value:=match c.callee with
 |.builtin b=>b20 T E b c.args.toList c.argTypes.toList
 |_=>none
noncomputable def b18 (T:TT) (E:Fr) (s:TypeId) (x:Operand) (f:Nat):Option Value:=match T.get s,sEv E x with
 |some (.st _ fs _),some (.agg c)=>match a1m fs f with
  |some (o,n,true)=>some (.agg ((c.toList.drop o).take n).toArray)
  |some (o,_,false)=>a1m c.toList o
  |none=>none
 |_,_=>none
noncomputable def b1Z (T:TT) (E:Fr) (t:TypeId) (parts:Array (Nat×Operand)):Option Value:=match T.get t,a8C E parts.toList with
 |some (.st _ fs z),some ps=>(a0b (fun i=>(a1m fs i).map fun f=>(f.1,f.2.1)) z ps).map fun L=>.agg L.toArray
 |_,_=>none
noncomputable def sIA (T:TT) (E:Fr) (t:TypeId) (x y:Operand):Option Value:=match T.get t,sEv E x,sEv E y with
 |some (.sl _ sz _ _ _),some (.slice (some ⟨b,off,none⟩) m _),some (.int .i64 (.ofNat i))=>ifB (Nat.blt i m) (some (.pointer (some ⟨b,off + i * sz,none⟩))) none
 |some (.ar _ len sz _ _),some (.pointer (some ⟨b,off,none⟩)),some (.int .i64 (.ofNat i))=>ifB (Nat.blt i len) (some (.pointer (some ⟨b,off + i * sz,none⟩))) none
 |_,_,_=>none
noncomputable def sIx (T:TT) (E:Fr) (t:TypeId) (x y:Operand):Option Value:=match T.get t,sEv E x,sEv E y with
 |some (.sc .string _ _),some (.string ⟨⟨l⟩⟩),some (.int .i64 (.ofNat i))=>(a1m l i).map fun c=>.int .u8 c.toNat
 |_,_,_=>none
noncomputable def sBd:Option Value->Nat->Nat->Option Nat
 |none,z,_=>some z
 |some (.int _ (.ofNat i)),_,y=>ifB (Nat.ble i y) (some i) none
 |_,_,_=>none
noncomputable def a94 (E:Fr):Option Operand->Option (Option Value)
 |none=>some none
 |some x=>(sEv E x).map some
noncomputable def a74 (E:Fr) (lo hi:Option Operand) (len cap:Nat):Option (Nat×Nat):=match a94 E lo,a94 E hi with
 |some lo,some hi=>match sBd hi len cap with
  |some h=>match sBd lo 0 h with
   |some a=>some (a,h)
   |none=>none
  |none=>none
 |_,_=>none
noncomputable def sSl (T:TT) (E:Fr) (t:TypeId) (x:Operand) (lo hi mx:Option Operand):Option Value:=match mx,T.get t,sEv E x with
 |none,some (.sc .string _ _),some (.string ⟨⟨l⟩⟩)=>match a74 E lo hi l.length l.length with
  |some (a,h)=>some (.string ⟨((l.drop a).take (h - a)).toArray⟩)
  |none=>none
 |none,some (.sl _ sz _ _ _),some (.slice (some ⟨b,off,none⟩) m c)=>match a74 E lo hi m c with
  |some (a,h)=>ifB (Nat.beq a 0||Nat.blt a c) (some (.slice (some ⟨b,off + a * sz,none⟩) (h - a) (c - a))) none
  |none=>none
 |none,some (.sl _ _ _ _ _),some (.slice none m c)=>match a74 E lo hi m c with
  |some (a,h)=>some (.slice none (h - a) (c - a))
  |none=>none
 |_,_,_=>none
noncomputable def a6D (T:TT) (q:EqT) (E:Fr):Op->Option Value
 |.move x=>sEv E x
 |.assign x=>sEv E x
 |.pick c a b=>a88 E c a b
 |.nilCheck x=>b1W E x
 |.fieldAddr s x f=>sFA T E s x f
 |.extract x i=>b1K E x i
 |.unOp op _ x=>b1w E op x
 |.binOp op t x y _=>sBO T q E op t x y
 |.makeFunc fn a b=>sMF E fn a b
 |.convert src dst x=>sCv T E src dst x
 |.call c=>sCP T E c
 |.field s x f=>b18 T E s x f
 |.build t parts=>b1Z T E t parts
 |.indexAddr t x y=>sIA T E t x y
 |.index t x y=>sIx T E t x y
 |.slice t x lo hi mx=>sSl T E t x lo hi mx
 |_=>none
noncomputable def j0 (H:SH) (i o n:Nat):Option (List Value):=match g8 H i with
 |some (.blk L)=>ifB (Nat.ble (o + n) L.length) (some ((L.drop o).take n)) none
 |some (.row _ sz rows _ _)=>match a1m rows (o / sz) with
  |some r=>ifB (Nat.ble (o % sz + n) r.length) (some ((r.drop (o % sz)).take n)) none
  |none=>none
 |_=>none
noncomputable def a3c (T:TT) (H:SH) (t:TypeId):Value->Option Value
 |.pointer (some ⟨i,o,none⟩)=>match T.get t with
  |some (.sc _ _ _)|some (.sl _ _ _ _ _)=>match j0 H i o 1 with
   |some [v]=>some v
   |_=>none
  |some (.st s _ _)|some (.ar s _ _ _ _)=>(j0 H i o s).map fun L=>.agg L.toArray
  |none=>none
 |_=>none
noncomputable def b2J (H:SH) (i o s:Nat) (c:List Value):Option SH:=ifB (Nat.beq c.length s && c.all (·.oneCell')) (match g8 H i with
 |some (.blk L)=>ifB (Nat.ble (o + s) L.length) (some (a0o H i (.blk (n8 L o c)))) none
 |some (.row e sz rows cap u)=>match a1m rows (o / sz) with
  |some r=>ifB (Nat.ble (o % sz + s) sz) (some (a0o H i (.row e sz (rows.set (o / sz) (n8 r (o % sz) c)) cap u))) none
  |none=>none
 |_=>none) none
noncomputable def a5I (T:TT) (H:SH) (t:TypeId) (v:Value):Value->Option SH
 |.pointer (some ⟨i,o,none⟩)=>match T.get t,celL v with
  |some ti,some c=>b2J H i o ti.size c
  |_,_=>none
 |_=>none
noncomputable def a1o (H:SH) (sz:Nat):Value->Option (List (List Value))
 |.slice none 0 _=>some []
 |.slice (some _) 0 _=>some []
 |.slice (some ⟨i,o,none⟩) m _=>match g8 H i with
  |some (.row _ sz' rows _ _)=>ifB (Nat.beq sz sz' && (Nat.beq (o % sz) 0 && Nat.ble (o / sz + m) rows.length)) (some ((rows.drop (o / sz)).take m)) none
  |_=>none
 |_=>none
noncomputable def a4v:List (List Value)->Option (List UInt8)
 |[]=>some []
 |[.int .u8 (.ofNat n)]::r=>ifB (Nat.blt n 256) ((a4v r).map (UInt8.ofNat n::·)) none
 |_=>none
abbrev OpR:=Option (Option Value×SH×Nat)
noncomputable def a9d (H:SH) (n e sz:Nat) (rows:List (List Value)):OpR:=some (some (.slice (some ⟨n,0,none⟩) rows.length rows.length),a0p H n (.row e sz rows rows.length true),n + 1)
noncomputable def b1b (H:SH) (n e sz m c:Nat) (news:List (List Value)) (i:Nat):OpR:=match g8 H i with
 |some (.row e' sz' rows cap u)=>ifB (Nat.beq e e' && Nat.beq sz sz')
   (ifB (Nat.beq m rows.length && Nat.beq c cap) (a9d (t6 H i) n e sz (rows++news))
    (ifB (Nat.ble (m + news.length) rows.length && Nat.ble (m + news.length) c) (some (some (.slice (some ⟨i,0,none⟩) (m + news.length) c),a0o H i (.row e sz (a00 rows news m) cap u),n)) none)) none
 |_=>none
noncomputable def a61 (H:SH) (n e sz eb:Nat) (news:List (List Value)):Value->OpR
 |.slice p m c=>match news with
  |[]=>ifB (Nat.ble m c) (some (some (.slice p m c),H,n)) none
  |_::_=>ifB (Nat.ble ((m + news.length) * (eb + 1)) 1000000) (match p with
   |none=>ifB (Nat.beq m 0 && Nat.beq c 0) (a9d H n e sz news) none
   |some ⟨i,0,none⟩=>b1b H n e sz m c news i
   |_=>none) none
 |_=>none
noncomputable def b09 (H:SH) (n e sz eb q:Nat) (z:List Value):Value->OpR
 |.slice none 0 0=>ifB (Nat.blt 0 q && (Nat.ble (q * (eb + 1)) 1000000 && z.all (·.oneCell'))) (a9d H n e sz (List.replicate q z)) none
 |_=>none
noncomputable def a5Y (T:TT) (H:SH) (n:Nat) (t t':TypeId) (s u:Value):OpR:=match T.get t with
 |some (.sl e sz eb _ z)=>ifB (Nat.beq t t') (match a1o H sz u with
   |some news=>a61 H n e sz eb news s
   |none=>none) (match T.get t',u with
   |some (.sc (.int .i64) _ _),.int .i64 (.ofNat q)=>b09 H n e sz eb q z s
   |_,_=>none)
 |_=>none
noncomputable def a8D (T:TT) (H:SH) (t:TypeId) (v:Value):Option (Nat×Nat×Nat×List UInt8×Bool):=match T.get t,v with
 |some (.sl e 1 1 false [.int .u8 (.ofNat 0)]),.slice (some ⟨i,0,none⟩) m c=>match g8 H i with
  |some (.row e' 1 rows cap u)=>ifB (Nat.beq e e' && (Nat.beq m rows.length && Nat.beq c cap)) ((a4v rows).map fun l=>(i,e,cap,l,u)) none
  |_=>none
 |_,_=>none
noncomputable def a8o (T:TT) (H:SH) (n:Nat) (t:TypeId) (s u:Value):OpR:=match a8D T H t s,u with
 |some (i,e,cap,old,ub),.string ⟨⟨l⟩⟩=>some (some (.int .i64 (l.take old.length).length),a0o H i (.row e 1 (bR (l.take old.length++old.drop (l.take old.length).length)) cap ub),n)
 |_,_=>none
noncomputable def a8x (H:SH) (n:Nat) (t:TypeId) (v:Value):OpR:=match v with
 |.map (some i)=>match g8 H i with
  |some (.smap t' es)=>ifB (Nat.beq t t') (some (some (.int .i64 es.length),H,n)) none
  |_=>none
 |_=>none
noncomputable def b2e (T:TT) (E:Fr) (H:SH) (n:Nat) (b:Builtin) (args:List Operand) (ats:List TypeId):OpR:=match b,args,ats with
 |.append,[x,y],[t,t']=>match sEv E x,sEv E y with
  |some s,some u=>a5Y T H n t t' s u
  |_,_=>none
 |.copy,[x,y],[t,_]=>match sEv E x,sEv E y with
  |some s,some u=>a8o T H n t s u
  |_,_=>none
 |.len,[x],[t]=>match sEv E x with
  |some v=>a8x H n t v
  |none=>none
 |_,_,_=>none
noncomputable def a9W:Value->Value->Option Bool
 |.int .i64 a,.int .i64 b=>some (decide (a=b))
 |.string ⟨⟨a⟩⟩,.string ⟨⟨b⟩⟩=>some (decide (a=b))
 |_,_=>none
noncomputable def a1P (k:Value):List (Value×Value)->Option (Option Value)
 |[]=>some none
 |(x,v)::r=>match a9W k x with
  |some true=>some (some v)
  |some false=>a1P k r
  |none=>none
noncomputable def a7e (k v:Value):List (Value×Value)->List (Value×Value)
 |[]=>[(k,v)]
 |(x,u)::r=>match a9W k x with
  |some true=>(k,v)::r
  |_=>(x,u)::a7e k v r
noncomputable def sKO (T:TT) (t:TypeId) (k:Value):Bool:=match T.get t with
 |some (.sc (.map K _) _ _)=>match T.get K,k with
  |some (.sc (.int .i64) _ _),.int .i64 _=>true
  |some (.sc .string _ _),.string _=>true
  |_,_=>false
 |_=>false
noncomputable def a5r (T:TT) (H:SH) (t:TypeId) (i:Nat) (k:Value):Option (List (Value×Value)):=match g8 H i with
 |some (.smap t' es)=>ifB (Nat.beq t t' && sKO T t k) (some es) none
 |_=>none
noncomputable def a8n (T:TT) (ez:List (Nat×Value)) (H:SH) (n:Nat) (t:TypeId) (ok:Bool) (m k:Value):OpR:=match m with
 |.map (some i)=>match a5r T H t i k with
  |some es=>match a1P k es with
   |some (some v)=>some (some (ifB ok (.tuple #[v,.bool true]) v),H,n)
   |some none=>(g8 ez t).map fun z=>(some (ifB ok (.tuple #[z,.bool false]) z),H,n)
   |none=>none
  |none=>none
 |_=>none
noncomputable def a8v (T:TT) (H:SH) (n:Nat) (t:TypeId) (m k v:Value):OpR:=match m with
 |.map (some i)=>match a5r T H t i k with
  |some es=>match a1P k es with
   |some _=>some (none,a0o H i (.smap t (a7e k v es)),n)
   |none=>none
  |none=>none
 |_=>none
noncomputable def b15 (T:TT) (E:Fr) (H:SH) (n:Nat) (src dst:TypeId) (x:Operand):OpR:=match T.get dst,sEv E x with
 |some (.sc .string _ _),some v=>match a8D T H src v with
  |some (_,e,_,l,_)=>match T.get e with
   |some (.sc (.int .u8) 1 (.int .u8 (.ofNat 0)))=>ifB (Nat.blt 0 l.length) (some (some (.string ⟨l.toArray⟩),H,n)) none
   |_=>none
  |none=>none
 |_,_=>none
noncomputable def sBS (T:TT) (E:Fr) (H:SH) (n:Nat) (t:TypeId) (len:Nat) (parts:Array (Nat×Operand)):OpR:=match T.get t,a8C E parts.toList with
 |some (.sl e sz _ _ _),some ps=>match a05 0 sz ps with
  |some rows=>ifB (Nat.beq rows.length len && (Nat.ble (len * sz) 16777216 && a1J rows)) (some (some (.slice (some ⟨n,0,none⟩) len len),a0p H n (.row e sz rows len false),n + 1)) none
  |none=>none
 |_,_=>none
noncomputable def sMk (T:TT) (E:Fr) (H:SH) (n:Nat) (t:TypeId) (x y:Operand):OpR:=match T.get t,sEv E x,sEv E y with
 |some (.sl e sz eb _ z),some (.int .i64 (.ofNat i)),some (.int .i64 (.ofNat j))=>ifB (Nat.beq i j && (Nat.ble (i * (eb + 1)) 1000000 && z.all (·.oneCell'))) (some (some (.slice (some ⟨n,0,none⟩) i i),a0p H n (.row e sz (List.replicate i z) i false),n + 1)) none
 |_,_,_=>none
noncomputable def b2t (T:TT) (E:Fr) (H:SH) (n:Nat) (t:TypeId) (x:Operand) (lo hi mx:Option Operand):OpR:=match T.get t,sEv E x,a94 E lo,hi,mx with
 |some (.sl _ _ _ _ _),some (.slice (some ⟨_,_,none⟩) m _),some (some (.int .i64 (.ofNat i))),none,none=>ifB (Nat.ble i m) (some (none,H,n)) none
 |_,_,_,_,_=>none
noncomputable def a7Q (E:Fr) (H:SH) (n:Nat) (x:Operand):OpR:=match sEv E x with
 |some (.pointer (some ⟨i,0,none⟩))=>match g8 H i with
  |some (.siter l k)=>match a1m l k with
   |some b=>ifB (Nat.blt b.toNat 128) (some (some (.tuple #[.bool true,.int .i64 k,.int .i32 b.toNat]),a0o H i (.siter l (k + 1)),n)) none
   |none=>some (some (.tuple #[.bool false]),H,n)
  |_=>none
 |_=>none
noncomputable def b1u (H:SH) (n:Nat) (s:SA):OpR:=some (some (.pointer (some ⟨n,0,none⟩)),a0p H n s,n + 1)
noncomputable def sOp (T:TT) (ez:List (Nat×Value)) (E:Fr) (H:SH) (n:Nat):Op->OpR
 |.load t x=>match sEv E x with
  |some p=>(a3c T H t p).map fun v=>(some v,H,n)
  |none=>none
 |.store t x y=>match sEv E x,sEv E y with
  |some p,some v=>(a5I T H t v p).map fun H'=>(none,H',n)
  |_,_=>none
 |.box _ x=>match sEv E x with
  |some v=>match celL v with
   |some L=>b1u H n (.blk L)
   |none=>none
  |none=>none
 |.alloc t=>match T.get t with
  |some ti=>b1u H n (.blk ti.zeroCells)
  |none=>none
 |.buildSlice t len parts=>sBS T E H n t len parts
 |.makeSlice t x y=>sMk T E H n t x y
 |.call c=>match c.callee with
  |.builtin b=>b2e T E H n b c.args.toList c.argTypes.toList
  |_=>none
 |.convert src dst x=>b15 T E H n src dst x
 |.makeMap t none=>match T.get t with
  |some (.sc (.map K _) _ _)=>match T.get K with
   |some _=>some (some (.map (some n)),a0p H n (.smap t []),n + 1)
   |none=>none
  |_=>none
 |.lookup t m x ok=>match sEv E m,sEv E x with
  |some m,some k=>a8n T ez H n t ok m k
  |_,_=>none
 |.mapUpdate t m x y=>match sEv E m,sEv E x,sEv E y with
  |some m,some k,some v=>a8v T H n t m k v
  |_,_,_=>none
 |.insert t m x y=>match sEv E m,sEv E x,sEv E y with
  |some m,some k,some v=>a8v T H n t m k v
  |_,_,_=>none
 |.slice t x lo hi mx=>b2t T E H n t x lo hi mx
 |.range t x=>match T.get t,sEv E x with
  |some (.sc .string _ _),some (.string ⟨⟨l⟩⟩)=>b1u H n (.siter l 0)
  |_,_=>none
 |.next x true=>a7Q E H n x
 |_=>none
inductive Pl where
 |nil
 |stop
 |take (i:Nat) (k:Pl)
 |one (i:Nat) (drop:List Nat) (k:Pl)
 |grp (w:Nat) (k:Pl)
 |alt (i:Nat) (drop:List Nat) (k more:Pl)
inductive SX where
 |normal
 |exit (i:Nat)
 |ret
structure Cx where
 T:TT
 q:EqT
 ez:List (Nat×Value)
 F:BT (Func×List (Nat×Pl))
 M:List (Nat×(List Value->Option Value))
 I:List (Nat×List (String×Nat))
abbrev a0P:=List (Nat×TypeId×Value×Value)
abbrev a2X:=Nat->List Value->SH->Nat->Rs (Value×SH×Nat)
abbrev a20:=Fr->SH->Nat->Rs (SX×Fr×SH×Nat)
noncomputable def a26 (ops:List Oper) (E:Fr) (o:Oper):Option Bool:=match o.guard with
 |none=>some true
 |some (j,b)=>match a1m ops j with
  |some oj=>match oj.dst with
   |some dj=>match g8 E dj with
    |some (.bool c)=>some (c == b)
    |some _=>some false
    |none=>none
   |none=>none
  |none=>none
noncomputable def a0y (E:Fr):Option Nat->Option Value->Fr
 |some d,some v=>(d,v)::E
 |some d,none=>t6 E d
 |none,_=>E
noncomputable def a30 (E:Fr):List Nat->Fr:=@List.rec (Nat×Value) (fun _=>List Nat->Fr) (fun _=>[]) (fun p _ ih s=>bif @List.rec Nat (fun _=>Bool) false (fun x _ h=>bif Nat.beq p.1 x then true else h) s then ih s else p::ih (p.1::s)) E
noncomputable def a2A (E:Fr):Fr:=bif Nat.blt 400 (@List.rec (Nat×Value) (fun _=>Nat) 0 (fun _ _ n=>n + 1) E) then a30 E [] else E
mutual
def vEq:Nat->Value->Value->Bool
 |0,_,_=>false
 |k + 1,a,b=>match a,b with
  |.bool a,.bool b=>a == b
  |.int j a,.int j' b=>kb j j' && decide (a=b)
  |.string ⟨⟨a⟩⟩,.string ⟨⟨b⟩⟩=>decide (a=b)
  |.pointer none,.pointer none=>true
  |.pointer (some ⟨i,o,none⟩),.pointer (some ⟨j,p,none⟩)=>Nat.beq i j && Nat.beq o p
  |.slice none m c,.slice none m' c'=>Nat.beq m m' && Nat.beq c c'
  |.slice (some ⟨i,o,none⟩) m c,.slice (some ⟨j,p,none⟩) m' c'=>Nat.beq i j && (Nat.beq o p && (Nat.beq m m' && Nat.beq c c'))
  |.map none,.map none=>true
  |.map (some i),.map (some j)=>Nat.beq i j
  |.nilFunc,.nilFunc=>true
  |.func (.func f) ⟨a⟩ ⟨b⟩,.func (.func g) ⟨c⟩ ⟨d⟩=>Nat.beq f g && (a37 k a c && a37 k b d)
  |.nilIface,.nilIface=>true
  |.iface t a,.iface t' b=>Nat.beq t t' && vEq k a b
  |.agg ⟨a⟩,.agg ⟨b⟩=>a37 k a b
  |.tuple ⟨a⟩,.tuple ⟨b⟩=>a37 k a b
  |_,_=>false
def a37:Nat->List Value->List Value->Bool
 |0,_,_=>false
 |_ + 1,[],[]=>true
 |k + 1,a::l,b::r=>vEq k a b && a37 k l r
 |_,_,_=>false
end
def a6A:List (List Value)->List (List Value)->Bool
 |[],[]=>true
 |a::l,b::r=>a37 1000 a b && a6A l r
 |_,_=>false
def b0q:List (Value×Value)->List (Value×Value)->Bool
 |[],[]=>true
 |(a,c)::l,(b,d)::r=>vEq 1000 a b && (vEq 1000 c d && b0q l r)
 |_,_=>false
def b1x:SA->SA->Bool
 |.blk a,.blk b=>a37 1000 a b
 |.row e s r c u,.row e' s' r' c' u'=>Nat.beq e e' && (Nat.beq s s' && (Nat.beq c c' && ((u == u') && a6A r r')))
 |.smap t a,.smap t' b=>Nat.beq t t' && b0q a b
 |.siter a i,.siter b j=>Nat.beq i j && decide (a=b)
 |_,_=>false
def hEq:SH->SH->Bool
 |[],[]=>true
 |(i,a)::l,(j,b)::r=>Nat.beq i j && (b1x a b && hEq l r)
 |_,_=>false
noncomputable def a3X (E1 E2:Fr):Fr->Bool
 |[]=>true
 |(d,_)::r=>(match g8 E1 d,g8 E2 d with
  |some u,some v=>vEq 1000 u v
  |_,_=>false) && a3X E1 E2 r
noncomputable def a1a (T:TT) (H:SH):a0P->Bool
 |[]=>true
 |(_,t,p,v)::r=>(match a3c T H t p with
  |some u=>vEq 1000 u v
  |none=>false) && a1a T H r
def a0B (dr:List Nat) (L:a0P):a0P:=L.filter fun e=>!dr.any (Nat.beq e.1)
noncomputable def a7r (T:TT) (E:Fr) (H:SH):List ResultVar->Option (List Value)
 |[]=>some []
 |.tmp t::r=>match g8 E t,a7r T E H r with
  |some v,some vs=>some (v::vs)
  |_,_=>none
 |.cell p t::r=>match g8 E p with
  |some a=>match a3c T H t a,a7r T E H r with
   |some v,some vs=>some (v::vs)
   |_,_=>none
  |none=>none
def inR (m e i:Nat):Bool:=bif Nat.blt i m then true else Nat.ble e i
mutual
def a7c:Nat->Nat->Nat->Value->Bool
 |0,_,_,_=>false
 |k + 1,m,e,v=>match v with
  |.pointer (some a)|.slice (some a) _ _=>inR m e a.block
  |.map (some i)=>inR m e i
  |.func _ ⟨a⟩ ⟨b⟩=>a3L k m e a && a3L k m e b
  |.agg ⟨a⟩|.tuple ⟨a⟩=>a3L k m e a
  |.iface _ v=>a7c k m e v
  |_=>true
def a3L:Nat->Nat->Nat->List Value->Bool
 |0,_,_,_=>false
 |_ + 1,_,_,[]=>true
 |k + 1,m,e,a::l=>a7c k m e a && a3L k m e l
end
def b1a (m e:Nat):SA->Bool
 |.blk L=>a3L 1000 m e L
 |.row _ _ rows _ _=>rows.all (a3L 1000 m e)
 |.smap _ es=>es.all fun p=>a7c 1000 m e p.1 && a7c 1000 m e p.2
 |.siter _ _=>true
noncomputable def b03 (m e:Nat) (H:SH):Nat:=@List.rec (Nat×SA) (fun _=>Nat) 0 (fun p _ ih=>bif Nat.ble e p.1 then ih else bif Nat.blt p.1 m then 0 else ih + 1) H
noncomputable def a7f (m e:Nat) (H:SH):SH:=@List.rec (Nat×SA) (fun _=>SH) [] (fun p _ ih=>@Bool.rec (fun _=>SH) ih (p::ih) (inR m e p.1)) H
noncomputable def gc (m e:Nat) (v:Value) (H:SH):SH:=bif Nat.blt 20 (b03 m e H) && (a7c 1000 m e v && (a7f m e H).all fun p=>b1a m e p.2) then a7f m e H else H
noncomputable def b0e (l:List (String×Nat)) (x:String):Option Nat:=@List.rec (String×Nat) (fun _=>Option Nat) none (fun p _ ih=>@Bool.rec (fun _=>Option Nat) ih (some p.2) (decide (p.1=x))) l
section
variable (C:Cx) (call:a2X)
noncomputable def b1y (pos:String) (E:Fr) (H:SH) (n:Nat) (f:Operand) (args:List Operand):Rs (Option Value×SH×Nat):=match sEv E f,a6s E args with
 |some (.func (.func g) first caps),some vs=>match call g (first.toList++vs++caps.toList) H n with
  |.ok (v,r)=>.ok (some v,r)
  |.no p=>.no p
 |_,_=>.no pos
noncomputable def b0y (op:Op) (pos:String) (E:Fr) (H:SH) (n:Nat):Rs (Option Value×SH×Nat):=match a6D C.T C.q E op with
 |some v=>.ok (some v,H,n)
 |none=>match sOp C.T C.ez E H n op with
  |some r=>.ok r
  |none=>.no pos
noncomputable def b1m (pos:String) (E:Fr) (H:SH) (n:Nat) (f:Operand) (name:String) (args:List Operand):Rs (Option Value×SH×Nat):=match sEv E f,a6s E args with
 |some (.iface t u),some vs=>match g8 C.I t with
  |some ms=>match b0e ms name with
   |some g=>match call g (u::vs) H n with
    |.ok (v,r)=>.ok (some v,r)
    |.no p=>.no p
   |none=>.no name
  | none => .no "type"
 | _, _ => .no "receiver"
noncomputable def b2l (pos:String) (E:Fr) (H:SH) (n:Nat) (t:TypeId) (x:Operand):Rs (Option Value×SH×Nat):=match g8 C.I t,sEv E x with
 |some _,some v=>.ok (some (.iface t v),H,n)
 |_,_=>.no pos
noncomputable def a3D (op:Op) (pos:String) (E:Fr) (H:SH) (n:Nat):Rs (Option Value×SH×Nat):=match op with
 |.call c=>match c.callee with
  |.value f=>b1y call pos E H n f c.args.toList
  |.invoke f name=>b1m C call pos E H n f name c.args.toList
  |_=>b0y C (.call c) pos E H n
 |.makeInterface t x=>b2l C pos E H n t x
 |op=>b0y C op pos E H n
noncomputable def a3H (ops l:List Oper):Fr->SH->Nat->Rs (Fr×SH×Nat):=@List.rec Oper (fun _=>Fr->SH->Nat->Rs (Fr×SH×Nat)) (fun E H n=>.ok (E,H,n)) (fun o _ ih E H n=>match a26 ops E o with
  |some true=>match a3D C call o.op o.pos E H n with
   |.ok (v,H',n')=>ih (a0y E o.dst v) H' n'
   |.no p=>.no p
  |some false=>ih (a0y E o.dst (some undef)) H n
  | none => .no "guard") l
abbrev XPl:=Nat->Nat->a0P->Fr->SH->Nat->Rs (Fr×SH×Nat)
noncomputable def a8P (ops:List Oper) (i:Nat) (ih:XPl):XPl:=fun b z L E H n=>match a1m ops i with
 |some o=>match a26 ops E o with
  |some false=>ih b z L (a0y E o.dst (some undef)) H n
  |some true=>match o.op with
   |.load t x=>match sEv E x with
    |some a=>match a3c C.T H t a with
     |some v=>ih b z ((i,t,a,v)::L) (a0y E o.dst (some v)) H n
     | none => .no "load"
    | none => .no "loadx"
   |op=>match a6D C.T C.q E op with
    |some v=>ih b z L (a0y E o.dst (some v)) H n
    | none => .no "pure"
  | none => .no "guard"
 | none => .no "take"
noncomputable def b1C (ops:List Oper) (i:Nat) (dr:List Nat) (ih:XPl):XPl:=fun b z L E H n=>match a1m ops i with
 |some o=>match a26 ops E o with
  |some w=>match (bif w then a3D C call o.op o.pos E H n else .ok (some undef,H,n)) with
   | .ok (v, H', n') => bif a1a C.T H' (a0B dr L) then ih b z (a0B dr L) (a0y E o.dst v) H' n' else .no "early"
   |.no p=>.no p
  | none => .no "guard"
 | none => .no "one"
noncomputable def b1D (ops:List Oper) (i:Nat) (dr:List Nat) (ih:XPl) (last:Bool) (more:XPl):XPl:=fun b z L E H n=>match a1m ops i with
 |some o=>match a26 ops E o with
  |some w=>match (bif w then a3D C call o.op o.pos E H (b + z * i) else .ok (some undef,H,b + z * i)) with
   |.ok (v,H',n')=>bif Nat.ble n' (b + z * (i + 1)) && a1a C.T H' (a0B dr L) then
     (bif last then ih b z (a0B dr L) (a0y E o.dst v) H' n
      else match ih b z (a0B dr L) (a0y E o.dst v) H' n,more b z L E H n with
       | .ok (E1, H1, n1), .ok (E2, H2, n2) => bif a3X E1 E2 E1 && (hEq H1 H2 && Nat.beq n1 n2) then .ok (E1, H1, n1) else .no "ways"
       |.no p,_=>.no p
       |_,.no p=>.no p)
    else .no "early"
   |.no p=>.no p
  | none => .no "guard"
 | none => .no "alt"
def Pl.isStop:Pl->Bool
 |.stop=>true
 |_=>false
noncomputable def xPl (ops : List Oper) (p : Pl) : XPl := @Pl.rec (fun _ => XPl) (fun _ _ _ E H n => .ok (E, H, n)) (fun _ _ _ _ _ _ => .no "stop") (fun i _ ih => a8P C ops i ih) (fun i dr _ ih => b1C C call ops i dr ih) (fun w _ ih _ _ L E H n => ih n w L E H (n + w * ops.length)) (fun i dr _ more ih im => b1D C call ops i dr ih more.isStop im) p
noncomputable def a6C (f : a20) (k : Nat) : a20 := @Nat.rec (fun _ => a20) (fun _ _ _ => .no "loop") (fun _ ih E H n => match f E H n with
 |.ok (.normal,E',H',n')=>ih (a2A E') H' n'
 |r=>r) k
def a8u:Nat:=100000
noncomputable def a2k (pl:List (Nat×Pl)) (c:Code):a20:=@Code.rec (fun _=>a20)
 (fun E H n=>.ok (.normal,E,H,n))
 (fun id ops draw E H n=>bif draw then (match g8 pl id with
   |some p=>match xPl C call ops.toList p n 0 [] E H n with
    |.ok (E',H',n')=>.ok (.normal,E',H',n')
    |.no p=>.no p
   | none => .no "plan") else (match a3H C call ops.toList ops.toList E H n with
   |.ok (E',H',n')=>.ok (.normal,E',H',n')
   |.no p=>.no p))
 (fun _ _ x y E H n=>match x E H n with
   |.ok (.normal,E',H',n')=>y E' H' n'
   |r=>r)
 (fun o _ _ x y E H n=>match sEv E o with
   |some (.bool true)=>x E H n
   |some (.bool false)=>y E H n
   | _ => .no "cond")
 (fun i _ x E H n=>match x E H n with
   |.ok (.exit j,E',H',n')=>bif Nat.beq j i then .ok (.normal,E',H',n') else .ok (.exit j,E',H',n')
   |r=>r)
 (fun _ x=>a6C x a8u)
 (fun _ _ _ _ _ _ _ _ _ => .no "range")
 (fun i E H n=>.ok (.exit i,E,H,n))
 (fun _ _ _ _ _ => .no "scope")
 (fun _ _ _ _ => .no "label")
 (fun _ _ _ _ => .no "goto")
 (fun E H n=>.ok (.ret,E,H,n))
 (fun _ _ _ _ => .no "refuse") c
noncomputable def a82 (g:Nat) (vs:List Value) (H:SH) (n:Nat):Rs (Value×SH×Nat):=match g8 C.M g with
 |some f=>match f vs with
  |some v=>.ok (v,H,n)
  | none => .no "summary"
 |none=>match C.F.get g with
  |some (fn,pl)=>match fn.body with
   |some c=>bif Nat.ble vs.length fn.ntmps then (match a2k C call pl c (a2o 0 vs) H n with
     | .ok (.exit _, _) => .no "exit"
     |.ok (_,E',H',n')=>match a7r C.T E' H' fn.results.toList with
      |some rs=>.ok (a1Z rs,gc n n' (a1Z rs) H',n')
      |none=>.no fn.name
     | .no p => .no p) else .no "args"
   | none => .no "body"
  | none => .no "function"
end
noncomputable def b1e (C : Cx) (k : Nat) : a2X := @Nat.rec (fun _ => a2X) (fun _ _ _ _ => .no "depth") (fun _ ih => a82 C ih) k
abbrev Ren:=Nat->Option (Nat×Nat)
mutual
def o8 (ρ:Ren):Value->Option Value
 |.bool b=>some (.bool b)
 |.int k n=>some (.int k n)
 |.string s=>some (.string s)
 |.nilFunc=>some .nilFunc
 |.nilIface=>some .nilIface
 |.pointer none=>some (.pointer none)
 |.pointer (some ⟨i,o,none⟩)=>(ρ i).map fun x=>.pointer (some ⟨x.1,o,none⟩)
 |.slice none n c=>some (.slice none n c)
 |.slice (some ⟨i,o,none⟩) n c=>(ρ i).map fun x=>.slice (some ⟨x.1,o,none⟩) n (c + x.2)
 |.map none=>some (.map none)
 |.map (some i)=>(ρ i).map fun x=>.map (some x.1)
 |.func f ⟨a⟩ ⟨b⟩=>(a0S ρ a).bind fun a'=>(a0S ρ b).map fun b'=>.func f ⟨a'⟩ ⟨b'⟩
 |.agg ⟨l⟩=>(a0S ρ l).map fun l'=>.agg ⟨l'⟩
 |.tuple ⟨l⟩=>(a0S ρ l).map fun l'=>.tuple ⟨l'⟩
 |.iface t v=>(o8 ρ v).map fun u=>.iface t u
 |_=>none
def a0S (ρ:Ren):List Value->Option (List Value)
 |[]=>some []
 |v::l=>(o8 ρ v).bind fun u=>(a0S ρ l).map fun m=>u::m
end
def VR (ρ:Ren) (v u:Value):Prop:=o8 ρ v=some u
def LR (ρ:Ren) (l m:List Value):Prop:=a0S ρ l=some m
def Rle (ρ σ:Ren):Prop:=∀ i x,ρ i=some x->σ i=some x
section
variable {ρ σ:Ren} {v u:Value} {l m:List Value}
theorem LR.nil:LR ρ [] []:=by unfold LR a0S;rfl
theorem LR.cons (h:VR ρ v u) (h2:LR ρ l m):LR ρ (v::l) (u::m):=by
 unfold LR VR at *;unfold a0S;rw [h,h2];rfl
theorem LR.inv (h:LR ρ (v::l) m):∃ u r,m=u::r/\VR ρ v u/\LR ρ l r:=by
 unfold LR a0S at h;obtain ⟨u,hu,h⟩:=xk3.1 h;obtain ⟨r,hr,h⟩:=xk9.1 h;exact ⟨u,r,h.symm,hu,hr⟩
theorem LR.nil_inv (h:LR ρ [] m):m=[]:=by
 unfold LR a0S at h
 cases h
 rfl
mutual
theorem VR.mono (hl:Rle ρ σ):∀ {v u:Value},VR ρ v u->VR σ v u
 |.bool _,_,h|.int _ _,_,h|.string _,_,h|.nilFunc,_,h|.nilIface,_,h|.pointer none,_,h|.slice none _ _,_,h|.map none,_,h=>by
  unfold VR o8 at *;exact h
 |.pointer (some ⟨i,o,none⟩),u,h=>by
  unfold VR o8 at *;obtain ⟨x,hx,hu⟩:=xk9.1 h;rw [hl i x hx,<- hu];rfl
 |.slice (some ⟨i,o,none⟩) n c,u,h=>by
  unfold VR o8 at *;obtain ⟨x,hx,hu⟩:=xk9.1 h;rw [hl i x hx,<- hu];rfl
 |.map (some i),u,h=>by
  unfold VR o8 at *;obtain ⟨x,hx,hu⟩:=xk9.1 h;rw [hl i x hx,<- hu];rfl
 |.func f ⟨a⟩ ⟨b⟩,u,h=>by
  unfold VR o8 at *;obtain ⟨a',ha,h⟩:=xk3.1 h;obtain ⟨b',hb,h⟩:=xk9.1 h;rw [show a0S σ a=some a' from LR.mono hl ha,show a0S σ b=some b' from LR.mono hl hb,<- h];rfl
 |.agg ⟨l⟩,u,h=>by
  unfold VR o8 at *;obtain ⟨a',ha,h⟩:=xk9.1 h;rw [show a0S σ l=some a' from LR.mono hl ha,<- h];rfl
 |.tuple ⟨l⟩,u,h=>by
  unfold VR o8 at *;obtain ⟨a',ha,h⟩:=xk9.1 h;rw [show a0S σ l=some a' from LR.mono hl ha,<- h];rfl
 |.iface t v,u,h=>by
  unfold VR o8 at *;obtain ⟨a',ha,h⟩:=xk9.1 h;rw [show o8 σ v=some a' from VR.mono hl ha,<- h];rfl
 |.pointer (some ⟨_,_,some _⟩),_,h|.slice (some ⟨_,_,some _⟩) _ _,_,h|.float _ _,_,h|.complex _ _ _,_,h|.chan _,_,h=>by
  unfold VR o8 at h;cases h
theorem LR.mono (hl:Rle ρ σ):∀ {l m:List Value},LR ρ l m->LR σ l m
 |[],_,h=>by rw [LR.nil_inv h];exact LR.nil
 |v::l,m,h=>by
  obtain ⟨u,r,rfl,h1,h2⟩:=LR.inv h;exact LR.cons (VR.mono hl h1) (LR.mono hl h2)
end
theorem LR.len:∀ {l m:List Value},LR ρ l m->m.length=l.length
 |[],_,h=>by rw [LR.nil_inv h]
 |v::l,m,h=>by
  obtain ⟨u,r,rfl,h1,h2⟩:=LR.inv h;simp [LR.len h2]
theorem LR.get:∀ {l m:List Value} {i:Nat} {v:Value},LR ρ l m->l[i]?=some v->∃ u,m[i]?=some u/\VR ρ v u
 |[],_,_,_,_,h=>by simp at h
 |x::l,m,i,v,hr,h=>by
  obtain ⟨u,r,rfl,h1,h2⟩:=LR.inv hr
  cases i with
  |zero=>simp at h;subst h;exact ⟨u,rfl,h1⟩
  |succ i=>simpa using LR.get h2 (by simpa using h)
theorem LR.app {l' m':List Value}:∀ {l m:List Value},LR ρ l m->LR ρ l' m'->LR ρ (l++l') (m++m')
 |[],_,h,h2=>by rw [LR.nil_inv h];exact h2
 |v::l,m,h,h2=>by
  obtain ⟨u,r,rfl,h1,h3⟩:=LR.inv h;exact LR.cons h1 (LR.app h3 h2)
theorem LR.drop:∀ {l m:List Value} (k:Nat),LR ρ l m->LR ρ (l.drop k) (m.drop k)
 |l,m,0,h=>by simpa using h
 |[],_,k + 1,h=>by rw [LR.nil_inv h];exact LR.nil
 |v::l,m,k + 1,h=>by
  obtain ⟨u,r,rfl,h1,h2⟩:=LR.inv h
  simpa using LR.drop k h2
theorem LR.take:∀ {l m:List Value} (k:Nat),LR ρ l m->LR ρ (l.take k) (m.take k)
 |l,m,0,h=>by simpa using LR.nil
 |[],_,k + 1,h=>by rw [LR.nil_inv h];exact LR.nil
 |v::l,m,k + 1,h=>by
  obtain ⟨u,r,rfl,h1,h2⟩:=LR.inv h
  simpa using LR.cons h1 (LR.take k h2)
theorem LR.set:∀ {l m:List Value} (k:Nat) {v u:Value},LR ρ l m->VR ρ v u->LR ρ (l.set k v) (m.set k u)
 |[],_,k,_,_,h,_=>by rw [LR.nil_inv h];exact LR.nil
 |x::l,m,0,_,_,h,hv=>by
  obtain ⟨u,r,rfl,h1,h2⟩:=LR.inv h;exact LR.cons hv h2
 |x::l,m,k + 1,_,_,h,hv=>by
  obtain ⟨u,r,rfl,h1,h2⟩:=LR.inv h;exact LR.cons h1 (LR.set k h2 hv)
theorem LR.setLs:∀ {c d l m:List Value} {k:Nat},LR ρ l m->LR ρ c d->LR ρ (n8 l k c) (n8 m k d)
 |[],_,l,m,k,h,h2=>by rw [LR.nil_inv h2];exact h
 |x::c,d,l,m,k,h,h2=>by
  obtain ⟨u,r,rfl,h3,h4⟩:=LR.inv h2;exact (LR.setLs (k:=k + 1) (LR.set k h h3) h4:LR ρ (n8 (l.set k x) (k + 1) c) (n8 (m.set k u) (k + 1) r))
theorem VR.one (h:VR ρ v u):u.oneCell'=v.oneCell':=by
 unfold VR at h;unfold o8 at h
 split at h
 all_goals first
  |(cases h;rfl;done)
  |(obtain ⟨_,_,rfl⟩:=xk9.1 h;rfl;done)
  |(obtain ⟨_,_,h⟩:=xk3.1 h;obtain ⟨_,_,rfl⟩:=xk9.1 h;rfl;done)
  |cases h
theorem LR.one:∀ {l m:List Value},LR ρ l m->m.all (·.oneCell')=l.all (·.oneCell')
 |[],_,h=>by rw [LR.nil_inv h]
 |v::l,m,h=>by
  obtain ⟨u,r,rfl,h1,h2⟩:=LR.inv h;simp [VR.one h1,LR.one h2]
theorem VR.celL {L:List Value} (h:VR ρ v u) (hc:celL v=some L):∃ M,Go.Proofs.YtejnpppejalhfacGreat.celL u=some M/\LR ρ L M:=by
 have h0:=h;unfold VR o8 at h
 split at h
 all_goals first
  |(cases h;cases hc;exact ⟨_,rfl,LR.cons h0 LR.nil⟩;done)
  |(obtain ⟨x,hx,rfl⟩:=xk9.1 h;cases hc;exact ⟨_,rfl,LR.cons h0 LR.nil⟩;done)
  |(obtain ⟨x,hx,rfl⟩:=xk9.1 h;cases hc;exact ⟨_,rfl,hx⟩;done)
  |(obtain ⟨_,_,h⟩:=xk3.1 h;obtain ⟨_,_,rfl⟩:=xk9.1 h;cases hc;exact ⟨_,rfl,LR.cons h0 LR.nil⟩;done)
  |(obtain ⟨x,hx,rfl⟩:=xk9.1 h;cases hc;done)
  |(cases h;done)
theorem VR.int {k:IntKind} {n:Int} (h:VR ρ (.int k n) u):u=.int k n:=by unfold VR o8 at h;cases h;rfl
theorem VR.bool {b:Bool} (h:VR ρ (.bool b) u):u=.bool b:=by unfold VR o8 at h;cases h;rfl
theorem VR.str {s:ByteArray} (h:VR ρ (.string s) u):u=.string s:=by unfold VR o8 at h;cases h;rfl
theorem VR.ptr {i o:Nat} (h:VR ρ (.pointer (some ⟨i,o,none⟩)) u):∃ x,ρ i=some x/\u=.pointer (some ⟨x.1,o,none⟩):=by
 unfold VR o8 at h;obtain ⟨x,hx,hu⟩:=xk9.1 h;exact ⟨x,hx,hu.symm⟩
theorem VR.ptr0 (h:VR ρ (.pointer none) u):u=.pointer none:=by unfold VR o8 at h;cases h;rfl
theorem VR.sl {i o n c:Nat} (h:VR ρ (.slice (some ⟨i,o,none⟩) n c) u):∃ x,ρ i=some x/\u=.slice (some ⟨x.1,o,none⟩) n (c + x.2):=by
 unfold VR o8 at h;obtain ⟨x,hx,hu⟩:=xk9.1 h;exact ⟨x,hx,hu.symm⟩
theorem VR.sl0 {n c:Nat} (h:VR ρ (.slice none n c) u):u=.slice none n c:=by unfold VR o8 at h;cases h;rfl
theorem VR.slAny {p:Option Addr} {n c:Nat} (h:VR ρ (.slice p n c) u):∃ p' c',u=.slice p' n c'/\p'.isNone=p.isNone:=by
 match p with
 |none=>exact ⟨_,_,VR.sl0 h,rfl⟩
 |some ⟨i,o,none⟩=>obtain ⟨x,_,hu⟩:=VR.sl h;exact ⟨_,_,hu,rfl⟩
 |some ⟨i,o,some s⟩=>unfold VR o8 at h;cases h
theorem VR.ptrAny {p:Option Addr} (h:VR ρ (.pointer p) u):∃ p',u=.pointer p'/\p'.isNone=p.isNone:=by
 match p with
 |none=>exact ⟨_,VR.ptr0 h,rfl⟩
 |some ⟨i,o,none⟩=>obtain ⟨x,_,hu⟩:=VR.ptr h;exact ⟨_,hu,rfl⟩
 |some ⟨i,o,some s⟩=>unfold VR o8 at h;cases h
theorem VR.mp {i:Nat} (h:VR ρ (.map (some i)) u):∃ x,ρ i=some x/\u=.map (some x.1):=by
 unfold VR o8 at h;obtain ⟨x,hx,hu⟩:=xk9.1 h;exact ⟨x,hx,hu.symm⟩
theorem VR.agg (h:VR ρ (.agg ⟨l⟩) u):∃ m,u=.agg ⟨m⟩/\LR ρ l m:=by
 unfold VR o8 at h;obtain ⟨x,hx,hu⟩:=xk9.1 h;exact ⟨x,hu.symm,hx⟩
theorem VR.tup (h:VR ρ (.tuple ⟨l⟩) u):∃ m,u=.tuple ⟨m⟩/\LR ρ l m:=by
 unfold VR o8 at h;obtain ⟨x,hx,hu⟩:=xk9.1 h;exact ⟨x,hu.symm,hx⟩
theorem VR.fun_ {f:Go.Fn} {a b:List Value} (h:VR ρ (.func f ⟨a⟩ ⟨b⟩) u):∃ a' b',u=.func f ⟨a'⟩ ⟨b'⟩/\LR ρ a a'/\LR ρ b b':=by
 unfold VR o8 at h;obtain ⟨a',ha,h⟩:=xk3.1 h;obtain ⟨b',hb,h⟩:=xk9.1 h;exact ⟨a',b',h.symm,ha,hb⟩
theorem VR.mkAgg (h:LR ρ l m):VR ρ (.agg ⟨l⟩) (.agg ⟨m⟩):=by unfold VR o8;rw [show a0S ρ l=some m from h];rfl
theorem VR.mkTup (h:LR ρ l m):VR ρ (.tuple ⟨l⟩) (.tuple ⟨m⟩):=by unfold VR o8;rw [show a0S ρ l=some m from h];rfl
theorem VR.mkPtr {i o:Nat} {x:Nat×Nat} (h:ρ i=some x):VR ρ (.pointer (some ⟨i,o,none⟩)) (.pointer (some ⟨x.1,o,none⟩)):=by unfold VR o8;rw [h];rfl
theorem VR.mkSl {i o n c:Nat} {x:Nat×Nat} (h:ρ i=some x):VR ρ (.slice (some ⟨i,o,none⟩) n c) (.slice (some ⟨x.1,o,none⟩) n (c + x.2)):=by unfold VR o8;rw [h];rfl
theorem VR.mkMap {i:Nat} {x:Nat×Nat} (h:ρ i=some x):VR ρ (.map (some i)) (.map (some x.1)):=by unfold VR o8;rw [h];rfl
theorem VR.mkFun {f:Go.Fn} {a b a' b':List Value} (h1:LR ρ a a') (h2:LR ρ b b'):VR ρ (.func f ⟨a⟩ ⟨b⟩) (.func f ⟨a'⟩ ⟨b'⟩):=by unfold VR o8;rw [show a0S ρ a=some a' from h1,show a0S ρ b=some b' from h2];rfl
theorem VR.cOk (h:cOk v=true):VR ρ v v:=by
 unfold Go.Proofs.YtejnpppejalhfacGreat.cOk at h
 split at h
 all_goals first
  |(unfold VR o8;rfl)
  |cases h
theorem VR.fn {u':Value} (h:VR ρ v u) (h2:VR ρ v u'):u'=u:=by unfold VR at *;rw [h] at h2;cases h2;rfl
end
structure HasR (ρ:Ren) (N:Nat) (ds:List Deferred) (a:Act) (E:Fr):Prop where
 size:a.tmps.size=N
 defers:a.defers=ds
 at_:∀ t v,g8 E t=some v->∃ u,VR ρ v u/\a.tmps[t]?=some u
theorem j3 {α:Type} (k:Nat) (v:α) (r:List (Nat×α)) (i:Nat):g8 ((k,v)::r) i=if k=i then some v else g8 r i:=by
 show @Bool.rec (fun _=>Option α) (g8 r i) (some v) (Nat.beq k i)=_;by_cases h:k=i
 ·subst h;rw [xj9,xd8 rfl]
 ·rw [a3s h,xd9 h]
theorem a4N {α:Type} (i:Nat):g8 ([]:List (Nat×α)) i=none:=rfl
theorem a1f {α:Type} {l:List (Nat×α)} {i:Nat} {v:α} (h:g8 l i=some v):(i,v) ∈ l:=by
 induction l with
 |nil=>cases h
 |cons p r ih=>
  obtain ⟨k,u⟩:=p;rw [j3] at h;by_cases e:k=i
  ·rw [xd8 e] at h;cases h;subst e;exact xb5
  ·rw [xd9 e] at h;exact xb6 _ (ih h)
theorem s4 {α:Type}:∀ (l:List α) (i:Nat),a1m l i=l[i]?
 |[],i=>rfl
 |p::r,0=>rfl
 |p::r,i + 1=>by
  show a1m r i=_;rw [s4 r i];rfl
theorem b1T {α:Type} (b:Bool) (x y:α):ifB b x y=if b=true then x else y:=by cases b <;> rfl
theorem a1R {α:Type} {b:Bool} {x y:Option α} {z:α} (h:ifB b x y=some z):(b=true/\x=some z)\/(b=false/\y=some z):=by
 cases b
 ·exact xc4 ⟨rfl,h⟩
 ·exact xc7 ⟨rfl,h⟩
theorem d6 {α:Type} {b:Bool} {x:Option α} {z:α} (h:ifB b x none=some z):b=true/\x=some z:=by
 rcases a1R h with h|⟨_,h⟩
 ·exact h
 ·cases h
theorem a0h {α:Type} {b:Bool} {x:Option α} {z:α} (h:ifB b none x=some z):b=false/\x=some z:=by
 rcases a1R h with ⟨_,h⟩|h
 ·cases h
 ·exact h
section
variable {ρ σ:Ren} {N:Nat} {ds:List Deferred} {a:Act} {E:Fr}
def a0c (a:Act):Fr:=(List.range a.tmps.size).map fun t=>(t,a.tmps.getD t undef)
theorem a17 {t:Nat} {u:Value} (h:a.tmps[t]?=some u):Fr.get (a0c a) t=some u:=by
 have key:∀ (l:List Nat),t ∈ l->Fr.get (l.map fun t=>(t,a.tmps.getD t undef)) t=some (a.tmps.getD t undef):=by
  intro l
  induction l with
  |nil=>intro h;cases h
  |cons x r ih=>
   intro hm;rw [xb0];simp only [Fr.get];by_cases e:x=t
   ·subst e;rw [xj9];rfl
   ·rw [a3s e];rcases xb4.1 hm with h|h
    ·exact (e h.symm).elim
    ·exact ih h
 have hlt:t < a.tmps.size:=(xa8.1 h).1;unfold a0c;rw [key _ (List.mem_range.2 hlt)];rw [xb2,h];rfl
theorem a9c {t:Nat} {u:Value} (h:Fr.get (a0c a) t=some u):a.tmps.getD t undef=u:=by
 have hm:=Fr.get_mem h;unfold a0c at hm;obtain ⟨k,_,e⟩:=xh9.1 hm
 cases e
 rfl
theorem HasR.full (h:HasR ρ N ds a E):Has N ds a (a0c a):=⟨h.size,h.defers,fun _ _=>a9c⟩
theorem HasR.mono (h:HasR ρ N ds a E) (hl:Rle ρ σ):HasR σ N ds a E:=⟨h.size,h.defers,fun t v ht=>by
 obtain ⟨u,h1,h2⟩:=h.at_ t v ht;exact ⟨u,h1.mono hl,h2⟩⟩
theorem HasR.ev (h:HasR ρ N ds a E) {x:Operand} {v:Value} (hx:sEv E x=some v):∃ u,VR ρ v u/\Fr.ev (a0c a) x=some u:=by
 cases x with
 |tmp t=>obtain ⟨u,h1,h2⟩:=h.at_ t v hx;exact ⟨u,h1,a17 h2⟩
 |const c=>
  obtain ⟨h1,h2⟩:=d6 (show ifB (cOk c) (some c) none=some v from hx)
  cases h2
  exact ⟨_,VR.cOk h1,rfl⟩
 |global g=>cases hx
 |func f=>cases hx;exact ⟨_,VR.mkFun LR.nil LR.nil,rfl⟩
theorem a7u (x:Operand) (r:List Operand):a6s E (x::r)=(match sEv E x,a6s E r with|some v,some vs=>some (v::vs)|_,_=>none):=rfl
theorem HasR.evs (h:HasR ρ N ds a E):∀ {xs:List Operand} {vs:List Value},a6s E xs=some vs->∃ us,LR ρ vs us/\Fr.evs (a0c a) xs=some us
 |[],vs,hx=>by cases hx;exact ⟨_,LR.nil,rfl⟩
 |x::r,vs,hx=>by
  rw [a7u] at hx
  split at hx
  ·rename_i v ws h1 h2
   cases hx
   obtain ⟨u,h3,h4⟩:=h.ev h1;obtain ⟨us,h5,h6⟩:=HasR.evs h h2;refine ⟨u::us,LR.cons h3 h5,?_⟩;simp only [Fr.evs,h4,h6]
  ·cases hx
def PR (ρ:Ren) (l m:List (Nat×Value)):Prop:=m.map (·.1)=l.map (·.1)/\LR ρ (l.map (·.2)) (m.map (·.2))
theorem HasR.evP (h:HasR ρ N ds a E):∀ {xs:List (Nat×Operand)} {vs:List (Nat×Value)},a8C E xs=some vs->∃ us,PR ρ vs us/\Go.Proofs.YtejnpppejalhfacGreat.evP (a0c a) xs=some us
 |[],vs,hx=>by cases hx;exact ⟨[],⟨rfl,LR.nil⟩,rfl⟩
 |(i,x)::r,vs,hx=>by
  rw [show a8C E ((i,x)::r)=(match sEv E x,a8C E r with|some v,some vs=>some ((i,v)::vs)|_,_=>none) from rfl] at hx
  split at hx
  ·rename_i v ws h1 h2
   cases hx
   obtain ⟨u,h3,h4⟩:=h.ev h1;obtain ⟨us,⟨h5,h6⟩,h7⟩:=HasR.evP h h2;refine ⟨(i,u)::us,⟨by simp [h5],LR.cons h3 h6⟩,?_⟩;simp only [Go.Proofs.YtejnpppejalhfacGreat.evP,h4,h7]
  ·cases hx
theorem HasR.put (h:HasR ρ N ds a E) (d:Nat) {v u:Value} (hd:d < N) (hv:VR ρ v u):HasR ρ N ds (a.put (some d) u) ((d,v)::E):=by
 refine ⟨by simpa [Act.put] using h.size,by simpa [Act.put] using h.defers,fun t w ht=>?_⟩;rw [j3] at ht;have hs:=h.size;by_cases e:d=t
 ·subst e;rw [xd8 rfl] at ht
  cases ht
  exact ⟨u,hv,by simp [Act.put,hs,hd]⟩
 ·rw [xd9 e] at ht;obtain ⟨x,h1,h2⟩:=h.at_ t w ht;exact ⟨x,h1,by simp only [Act.put];rw [xb3 e];exact h2⟩
theorem a0C {α:Type} (E:List (Nat×α)) (d:Nat) (t:Nat):g8 (t6 E d) t=if d=t then none else g8 E t:=by
 induction E with
 |nil=>simp [a4N,show t6 ([]:List (Nat×α)) d=[] from rfl]
 |cons p r ih=>
  obtain ⟨k,v⟩:=p;have e:t6 ((k,v)::r) d=if k=d then t6 r d else (k,v)::t6 r d:=by
   show @Bool.rec (fun _=>List (Nat×α)) ((k,v)::t6 r d) (t6 r d) (Nat.beq k d)=_;by_cases h:k=d
   ·subst h;rw [xj9,xd8 rfl]
   ·rw [a3s h,xd9 h]
  rw [e,j3];by_cases h:k=d
  ·subst h;rw [xd8 rfl,ih];by_cases h2:k=t
   ·simp [h2]
   ·simp [h2]
  ·rw [xd9 h,j3,ih];by_cases h2:k=t
   ·subst h2;rw [xd8 rfl,xd8 rfl,xd9 (fun e=>h e.symm)]
   ·simp [h2]
theorem HasR.erase (h:HasR ρ N ds a E) (d:Nat) (u:Value):HasR ρ N ds (a.put (some d) u) (t6 E d):=by
 refine ⟨by simpa [Act.put] using h.size,by simpa [Act.put] using h.defers,fun t w ht=>?_⟩;rw [a0C] at ht;by_cases e:d=t
 ·rw [xd8 e] at ht;cases ht
 ·rw [xd9 e] at ht;obtain ⟨x,h1,h2⟩:=h.at_ t w ht;exact ⟨x,h1,by simp only [Act.put];rw [xb3 e];exact h2⟩
def OR (ρ:Ren):Option Value->Value->Prop
 |some v,u=>VR ρ v u
 |none,_=>True
theorem HasR.putE (h:HasR ρ N ds a E) (d:Option Nat) {v:Option Value} {u:Value} (hd:∀ k,d=some k->k < N) (hv:OR ρ v u):HasR ρ N ds (a.put d u) (a0y E d v):=by
 cases d with
 |none=>cases v <;> exact h
 |some k=>
  cases v with
  |none=>exact h.erase k u
  |some v=>exact h.put k (hd k rfl) hv
end
def TOk (P:Program) (T:TT):Prop:=∀ t ti,T.get t=some ti->a4r P t=some ti/\ti.okB=true
def QOk (P:Program) (q:EqT):Prop:=∀ t s,g8 q t=some s->∀ l l' b,sEqS s l l'=some b->a3o P t l l' b
section
variable {P:Program} {T:TT} {q:EqT} {ρ:Ren} {N:Nat} {ds:List Deferred} {a:Act} {E:Fr} {ty:TypeId} {pos:String} {after:Array Edge} {dst:Option Nat}
theorem TOk.tabs (hT:TOk P T):∀ (ts:List Nat),∃ Tb:Tab,TabOk P Tb/\∀ t ti,t ∈ ts->T.get t=some ti->Tb.get t=some ti
 |[]=>⟨[],TabOk.nil P,fun _ _ h=>by cases h⟩
 |t::r=>by
  obtain ⟨Tb,h1,h2⟩:=TOk.tabs hT r
  cases e:T.get t with
  |none=>
   refine ⟨Tb,h1,fun t' ti hm ht=>?_⟩;rcases xb4.1 hm with rfl|hm
   ·rw [e] at ht;cases ht
   ·exact h2 t' ti hm ht
  |some ti=>
   refine ⟨(t,ti)::Tb,TabOk.cons (hT t ti e).1 (hT t ti e).2 h1,fun t' ti' hm ht=>?_⟩;simp only [Tab.get];by_cases h:t=t'
   ·subst h;rw [e] at ht
    cases ht
    rw [xj9];rfl
   ·rw [a3s h];rcases xb4.1 hm with rfl|hm
    ·exact (h rfl).elim
    ·exact h2 t' ti' hm ht
theorem a5n (k:IntKind) (n:Int):a32 k n=k.wrap n:=by
 unfold a32
 split
 ·rename_i m;rw [b1T]
  split
  ·rename_i h;have h:m < 9223372036854775808:=by simpa [xb1] using h
   exact (a2G (m:=Int.ofNat m) (by show (-9223372036854775808:Int)<=(m:Int);omega) (by show (m:Int)<=9223372036854775807;omega)).symm
  ·rfl
 ·rfl
theorem a9f {op:BinOp} {k k':IntKind} {m n:Int} {v:Value} {t:TypeId} (h:a7D op k k' m n=some v) (w:World):(binOp op t (.int k m) (.int k' n)).run P w=.ok v w:=by
 unfold a7D at h
 split at h
 ·obtain ⟨h1,h2⟩:=a0h h
  cases h2
  have h1:¬ n < 0:=by simpa using h1
  simp [binOp,Op.shift,h1]
 ·obtain ⟨h1,h2⟩:=a0h h
  cases h2
  have h1:¬ n < 0:=by simpa using h1
  simp [binOp,Op.shift,h1]
 ·obtain ⟨h1,h2⟩:=d6 h;clear h;obtain rfl:=a73 h1;unfold a5M at h2
  split at h2
  all_goals first
   |(cases h2;simp [binOp,Op.intArith,a5n];done)
   |(cases h2;simp [binOp,Op.intCmp,bne,a2U];done)
   |(cases h2;simp [binOp,Op.intBits,a6H];done)
   |(cases h2;done)
   |skip
  all_goals
   obtain ⟨h3,h4⟩:=a0h h2
   cases h4
   have h3:¬ n=0:=by simpa using h3
   simp [binOp,Op.intDiv,h3,a5n]
theorem a5h {op:BinOp} {k k':IntKind} {m n:Int} {v:Value} (h:a7D op k k' m n=some v):VR ρ v v:=by
 apply VR.cOk;unfold a7D at h
 split at h
 ·obtain ⟨_,h2⟩:=a0h h;cases h2;rfl
 ·obtain ⟨_,h2⟩:=a0h h;cases h2;rfl
 ·obtain ⟨_,h2⟩:=d6 h;clear h;unfold a5M at h2
  split at h2
  all_goals first
   |(cases h2;done)
   |(cases h2;rfl;done)
   |(obtain ⟨_,h3⟩:=a0h h2;cases h3;rfl;done)
theorem b0L {op:BinOp} {t:TypeId} {x y:Operand} {k k':IntKind} {m n:Int} (w:World):(eqGuard op t x y (.int k m) (.int k' n)).run P w=.ok () w:=by
 unfold eqGuard
 cases op <;> rfl
theorem b1o {op:BinOp} {t yt:TypeId} {x y:Operand} {k k':IntKind} {m n:Int} {v:Value} (ha:HasR ρ N ds a E) (hx:Fr.ev (a0c a) x=some (.int k m)) (hy:Fr.ev (a0c a) y=some (.int k' n)) (h:a7D op k k' m n=some v):x7 P ⟨dst,.binOp op t x y yt,ty,pos,after,none⟩ a v:=fun w=>by
 have h1:=a9f (P:=P) (t:=t) h w;have h2:=b0L (P:=P) (op:=op) (t:=t) (x:=x) (y:=y) (k:=k) (k':=k') (m:=m) (n:=n) w;simp [execOp,ha.full.ev hx,ha.full.ev hy,h1,h2,Result.andThen]
theorem a44:∀ {s:List Nat} {l l' m:List Value} {b:Bool},sEqS s l l'=some b->LR ρ l m->m=l:=by
 intro s l l'
 induction s,l,l' using sEqS.induct with
 |case1=>intro m b _ hr;rw [LR.nil_inv hr]
 |case2 s a l b r ih=>
  intro m c h hr;obtain ⟨u,q,rfl,h1,h2⟩:=LR.inv hr;unfold sEqS at h;obtain ⟨b',hb,_⟩:=xk9.1 h;rw [VR.int h1,ih hb h2]
 |case3 s a l b r ih=>
  intro m c h hr;obtain ⟨u,q,rfl,h1,h2⟩:=LR.inv hr;unfold sEqS at h;obtain ⟨b',hb,_⟩:=xk9.1 h;rw [VR.str h1,ih hb h2]
 |case4 s a l b r ih=>
  intro m c h hr;obtain ⟨u,q,rfl,h1,h2⟩:=LR.inv hr;unfold sEqS at h;obtain ⟨b',hb,_⟩:=xk9.1 h;rw [VR.bool h1,ih hb h2]
 |case5=>intro m b h hr;simp_all [sEqS]
theorem a3K:∀ {s:List Nat} {l l' m:List Value} {b:Bool},sEqS s l l'=some b->LR ρ l' m->m=l':=by
 intro s l l'
 induction s,l,l' using sEqS.induct with
 |case1=>intro m b _ hr;rw [LR.nil_inv hr]
 |case2 s a l b r ih=>
  intro m c h hr;obtain ⟨u,q,rfl,h1,h2⟩:=LR.inv hr;unfold sEqS at h;obtain ⟨b',hb,_⟩:=xk9.1 h;rw [VR.int h1,ih hb h2]
 |case3 s a l b r ih=>
  intro m c h hr;obtain ⟨u,q,rfl,h1,h2⟩:=LR.inv hr;unfold sEqS at h;obtain ⟨b',hb,_⟩:=xk9.1 h;rw [VR.str h1,ih hb h2]
 |case4 s a l b r ih=>
  intro m c h hr;obtain ⟨u,q,rfl,h1,h2⟩:=LR.inv hr;unfold sEqS at h;obtain ⟨b',hb,_⟩:=xk9.1 h;rw [VR.bool h1,ih hb h2]
 |case5=>intro m b h hr;simp_all [sEqS]
end
section
variable {P:Program} {T:TT} {q:EqT} {ρ:Ren} {N:Nat} {ds:List Deferred} {a:Act} {E:Fr} {v:Value}
def Yl (P:Program) (ρ:Ren) (a:Act) (op:Op) (v:Value):Prop:=∃ u,VR ρ v u/\∀ dst ty pos after,x7 P ⟨dst,op,ty,pos,after,none⟩ a u
theorem Yl.pure {op:Op} {u:Value} {Tb:Tab} (hTb:TabOk P Tb) (ha:HasR ρ N ds a E) (hv:VR ρ v u) (h:m6 Tb (a0c a) op=some u):Yl P ρ a op v :=
 ⟨u,hv,fun _ _ _ _=>t9 hTb ha.full h⟩
theorem b1t (ha:HasR ρ N ds a E) {c x y:Operand} (h:a88 E c x y=some v):Yl P ρ a (.pick c x y) v:=by
 unfold a88 at h
 split at h
 ·rename_i hc;obtain ⟨u,hu,hx⟩:=ha.ev h;obtain ⟨b,hb,hc⟩:=ha.ev hc;rw [VR.bool hb] at hc;exact ⟨u,hu,fun _ _ _ _ w=>by simp [execOp,ha.full.ev hc,asBool,ha.full.ev hx]⟩
 ·rename_i hc;obtain ⟨u,hu,hx⟩:=ha.ev h;obtain ⟨b,hb,hc⟩:=ha.ev hc;rw [VR.bool hb] at hc;exact ⟨u,hu,fun _ _ _ _ w=>by simp [execOp,ha.full.ev hc,asBool,ha.full.ev hx]⟩
 ·cases h
theorem b2E (ha:HasR ρ N ds a E) {x:Operand} (h:b1W E x=some v):Yl P ρ a (.nilCheck x) v:=by
 unfold b1W at h
 split at h
 ·rename_i p hx
  cases h
  obtain ⟨u,hu,hx⟩:=ha.ev hx;obtain ⟨p',rfl,hp⟩:=VR.ptrAny hu
  cases p' with
  |none=>cases hp
  |some p'=>exact Yl.pure (TabOk.nil P) ha hu (by simp only [m6,hx])
 ·cases h
theorem b3u (hT:TOk P T) (ha:HasR ρ N ds a E) {s:TypeId} {x:Operand} {f:Nat} (h:sFA T E s x f=some v):Yl P ρ a (.fieldAddr s x f) v:=by
 unfold sFA at h
 split at h
 ·rename_i sz fs z g k hs hx;obtain ⟨Tb,hTb,hget⟩:=hT.tabs [s];obtain ⟨u,hu,hx⟩:=ha.ev hx;obtain ⟨y,hy,rfl⟩:=VR.ptr hu;rw [s4] at h
  split at h
  ·rename_i o n b hf
   cases h
   refine Yl.pure hTb ha (VR.mkPtr hy) ?_;simp only [m6,hget s _ (by simp) hs,hx,hf]
   cases e:Nat.beq o 0 with
   |true=>rw [xa9 e];rfl
   |false=>rfl
  ·cases h
 ·cases h
theorem b2Z (ha:HasR ρ N ds a E) {x:Operand} {i:Nat} (h:b1K E x i=some v):Yl P ρ a (.extract x i) v:=by
 unfold b1K at h
 split at h
 ·rename_i vs hx;obtain ⟨u,hu,hx⟩:=ha.ev hx;obtain ⟨m,rfl,hm⟩:=VR.tup hu;rw [s4] at h;obtain ⟨w,hw,hv⟩:=hm.get h;exact Yl.pure (TabOk.nil P) ha hv (by simp only [m6,hx];exact hw)
 ·cases h
theorem b2T (ha:HasR ρ N ds a E) {op:UnOp} {t:TypeId} {x:Operand} (h:b1w E op x=some v):Yl P ρ a (.unOp op t x) v:=by
 unfold b1w at h
 split at h
 ·rename_i b hx
  cases h
  obtain ⟨u,hu,hx⟩:=ha.ev hx;rw [VR.bool hu] at hx;exact Yl.pure (TabOk.nil P) ha (VR.cOk rfl) (by simp only [m6,hx])
 ·cases h
theorem b3j (ha:HasR ρ N ds a E) {fn:Go.Fn} {x y:Array Operand} (h:sMF E fn x y=some v):Yl P ρ a (.makeFunc fn x y) v:=by
 unfold sMF at h
 split at h
 ·rename_i us vs h1 h2
  cases h
  obtain ⟨us',h3,h4⟩:=ha.evs h1;obtain ⟨vs',h5,h6⟩:=ha.evs h2;exact Yl.pure (TabOk.nil P) ha (VR.mkFun h3 h5) (by simp only [m6,h4,h6])
 ·cases h
theorem b3z (hT:TOk P T) (ha:HasR ρ N ds a E) {s t:TypeId} {x:Operand} (h:sCv T E s t x=some v):Yl P ρ a (.convert s t x) v:=by
 obtain ⟨Tb,hTb,hget⟩:=hT.tabs [s,t];unfold sCv at h
 split at h
 ·rename_i hs ht hx
  cases h
  obtain ⟨u,hu,hx⟩:=ha.ev hx;rw [VR.int hu] at hx;exact Yl.pure hTb ha (VR.cOk rfl) (by simp only [m6,hget s _ (by simp) hs,hget t _ (by simp) ht,hx])
 ·rename_i hs ht hx
  cases h
  obtain ⟨u,hu,hx⟩:=ha.ev hx;rw [VR.str hu] at hx;exact Yl.pure hTb ha (VR.cOk rfl) (by simp only [m6,hget s _ (by simp) hs,hget t _ (by simp) ht,hx])
 ·cases h
theorem b3l (hT:TOk P T) (hq:QOk P q) (ha:HasR ρ N ds a E) {op:BinOp} {t yt:TypeId} {x y:Operand} (h:sBO T q E op t x y=some v):Yl P ρ a (.binOp op t x y yt) v:=by
 obtain ⟨Tb,hTb,hget⟩:=hT.tabs [t];unfold sBO at h
 split at h
 ·rename_i v1 v2 hx hy;obtain ⟨u1,hu1,gx⟩:=ha.ev hx;obtain ⟨u2,hu2,gy⟩:=ha.ev hy;clear hx hy;unfold b3c at h
  split at h
  ·rw [VR.int hu1] at gx;rw [VR.int hu2] at gy;exact ⟨v,a5h h,fun _ _ _ _=>b1o ha gx gy h⟩
  ·rw [VR.str hu1] at gx;rw [VR.str hu2] at gy;unfold b0Q at h
   split at h
   ·cases h
    exact Yl.pure hTb ha (VR.cOk rfl) (by simp only [m6,gx,gy,a7a])
   ·cases h
    exact Yl.pure hTb ha (VR.cOk rfl) (by simp only [m6,gx,gy,a7a])
   ·obtain ⟨h1,h2⟩:=d6 h
    cases h2
    have h1:=xe8 h1;exact ⟨_,VR.cOk rfl,fun _ _ _ _=>b3a gx gy (by omega) a ha.full _⟩
   ·cases h
  ·rw [VR.bool hu1] at gx;rw [VR.bool hu2] at gy;unfold b0U at h
   split at h
   ·rename_i ht
    cases h
    exact ⟨_,VR.cOk rfl,fun _ _ _ _=>b3h hTb (hget t _ (by simp) ht) gx gy a ha.full _⟩
   ·rename_i ht
    cases h
    exact ⟨_,VR.cOk rfl,fun _ _ _ _=>b0T hTb (hget t _ (by simp) ht) gx gy a ha.full _⟩
   ·cases h
  ·obtain ⟨p',c',rfl,hp⟩:=VR.slAny hu1;rw [VR.sl0 hu2] at gy;unfold b05 at h
   split at h
   ·rename_i ht
    cases h
    rw [<- hp];exact ⟨_,VR.cOk rfl,fun _ _ _ _=>a6X hTb (hget t _ (by simp) ht) gx gy a ha.full _⟩
   ·cases h
  ·obtain ⟨p',rfl,hp⟩:=VR.ptrAny hu1;rw [VR.ptr0 hu2] at gy;unfold b1d at h
   split at h
   ·rename_i ht
    cases h
    rw [<- hp];obtain ⟨i,hun,_⟩:=hTb.sc (hget t _ (by simp) ht);refine ⟨_,VR.cOk rfl,fun _ _ _ _=>b0x ?_ gx gy a ha.full _⟩;rw [hun];unfold Program.pointee;rw [hun]
   ·cases h
  ·obtain ⟨m1,rfl,hm1⟩:=VR.agg hu1;obtain ⟨m2,rfl,hm2⟩:=VR.agg hu2;unfold b0W at h
   split at h
   ·rename_i s hs
    split at h
    ·rename_i b hb
     cases h
     obtain rfl:=a44 hb hm1;obtain rfl:=a3K hb hm2;exact ⟨_,VR.cOk rfl,fun _ _ _ _=>b0X gx gy (hq t s hs _ _ _ hb) a ha.full _⟩
    ·rename_i b hb
     cases h
     obtain rfl:=a44 hb hm1;obtain rfl:=a3K hb hm2;exact ⟨_,VR.cOk rfl,fun _ _ _ _=>b00 gx gy (hq t s hs _ _ _ hb) a ha.full _⟩
    ·cases h
   ·cases h
  ·cases h
 ·cases h
theorem a7g {α:Type} {a:Array α} {x:α} (h:a.toList=[x]):a=#[x]:=by cases a;simp_all
theorem a8Y {α:Type} {a:Array α} {x y:α} (h:a.toList=[x,y]):a=#[x,y]:=by cases a;simp_all
theorem b3H (hT:TOk P T) (ha:HasR ρ N ds a E) {c:Call} (h:sCP T E c=some v):Yl P ρ a (.call c) v:=by
 obtain ⟨cl,args,ats⟩:=c;unfold sCP at h
 split at h
 ·rename_i b hc;dsimp only at hc h;subst hc;unfold b20 at h
  split at h
  ·rename_i x t h1 h2;obtain rfl:=a7g h1;obtain rfl:=a7g h2
   split at h
   ·rename_i v1 hx;obtain ⟨u1,hu1,gx⟩:=ha.ev hx;clear hx;obtain ⟨Tb,hTb,hget⟩:=hT.tabs [t];unfold b2L at h
    split at h
    ·rename_i ht
     cases h
     obtain ⟨p',c',rfl,hp⟩:=VR.slAny hu1;exact Yl.pure hTb ha (VR.cOk rfl) (by simp only [m6,hget t _ (by simp) ht,gx])
    ·rename_i ht
     cases h
     rw [VR.str hu1] at gx;exact Yl.pure hTb ha (VR.cOk rfl) (by simp only [m6,hget t _ (by simp) ht,gx])
    ·cases h
   ·cases h
  ·rename_i x t h1 h2;obtain rfl:=a7g h1;obtain rfl:=a7g h2
   split at h
   ·rename_i v1 hx;obtain ⟨u1,hu1,gx⟩:=ha.ev hx;clear hx;obtain ⟨Tb,hTb,hget⟩:=hT.tabs [t];unfold b2A at h
    split at h
    ·rename_i ht
     cases h
     rw [VR.sl0 hu1] at gx;exact ⟨_,VR.cOk rfl,fun _ _ _ _=>b2w hTb (hget t _ (by simp) ht) gx a ha.full _⟩
    ·cases h
   ·cases h
  ·rename_i x y _ h1;obtain rfl:=a8Y h1
   split at h
   ·rename_i m k hx hy
    cases h
    obtain ⟨u1,hu1,hx⟩:=ha.ev hx;obtain ⟨u2,hu2,hy⟩:=ha.ev hy;rw [VR.int hu1] at hx;rw [VR.int hu2] at hy;exact ⟨_,VR.cOk rfl,fun _ _ _ _=>b2R hx hy a ha.full _⟩
   ·cases h
  ·cases h
 ·cases h
theorem b2H (hT:TOk P T) (ha:HasR ρ N ds a E) {s:TypeId} {x:Operand} {f:Nat} (h:b18 T E s x f=some v):Yl P ρ a (.field s x f) v:=by
 obtain ⟨Tb,hTb,hget⟩:=hT.tabs [s];unfold b18 at h
 split at h
 ·rename_i sz fs z c hs hx;obtain ⟨u,hu,hx⟩:=ha.ev hx;obtain ⟨m,rfl,hm⟩:=VR.agg hu;rw [s4] at h
  split at h
  ·rename_i o n hf
   cases h
   exact Yl.pure hTb ha (VR.mkAgg (hm.drop o|>.take n)) (by simp only [m6,hget s _ (by simp) hs,hx,hf])
  ·rename_i o n hf;rw [s4] at h;obtain ⟨w,hw,hv⟩:=hm.get h;exact Yl.pure hTb ha hv (by simp only [m6,hget s _ (by simp) hs,hx,hf];exact hw)
  ·cases h
 ·cases h
theorem VR.cells {u:Value} (h:VR ρ v u):LR ρ v.cells.toList u.cells.toList:=by
 have h0:=h;unfold VR o8 at h
 split at h
 all_goals first
  |(cases h;exact LR.cons h0 LR.nil;done)
  |(obtain ⟨x,hx,rfl⟩:=xk9.1 h;exact LR.cons h0 LR.nil;done)
  |(obtain ⟨x,hx,rfl⟩:=xk9.1 h;exact hx;done)
  |(obtain ⟨_,_,h⟩:=xk3.1 h;obtain ⟨_,_,rfl⟩:=xk9.1 h;exact LR.cons h0 LR.nil;done)
  |(cases h;done)
theorem PR.cons_inv {i:Nat} {x:Value} {r m:List (Nat×Value)} (h:PR ρ ((i,x)::r) m):∃ u m',m=(i,u)::m'/\VR ρ x u/\PR ρ r m':=by
 obtain ⟨h1,h2⟩:=h
 cases m with
 |nil=>cases h1
 |cons p m'=>
  obtain ⟨j,u⟩:=p;obtain ⟨u',r',e,h3,h4⟩:=LR.inv h2;simp only [xb0,List.cons.injEq] at h1 e;obtain ⟨rfl,h1⟩:=h1;obtain ⟨rfl,rfl⟩:=e;exact ⟨u,m',rfl,h3,h1,h4⟩
theorem PR.nil_inv {m:List (Nat×Value)} (h:PR ρ [] m):m=[]:=by
 obtain ⟨h1,_⟩:=h
 simpa using h1
theorem a3F {pl:Nat->Option (Nat×Nat)}:∀ {ps qs:List (Nat×Value)} {L M L':List Value},LR ρ L M->PR ρ ps qs->a0b pl L ps=some L'->∃ M',a0b pl M qs=some M'/\LR ρ L' M'
 |[],qs,L,M,L',hL,hp,h=>by
  rw [PR.nil_inv hp]
  cases h
  exact ⟨M,rfl,hL⟩
 |(i,x)::r,qs,L,M,L',hL,hp,h=>by
  obtain ⟨u,m',rfl,hx,hr⟩:=PR.cons_inv hp;simp only [a0b] at h |-
  split at h
  ·rename_i o s ho;have hc:=hx.cells
   cases e:(Nat.beq x.cells.toList.length s && Nat.ble (o + s) L.length) with
   |false=>rw [e] at h;cases h
   |true=>
    rw [e] at h;rw [hc.len,hL.len,e];exact a3F (hL.setLs hc) hr h
  ·cases h
def TI.zeros:TI->List Value
 |.sc _ _ z=>z.cells.toList
 |.st _ _ z=>z
 |.ar _ _ _ _ z=>z
 |.sl _ _ _ _ z=>z
def ZOk (T:TT):Prop:=∀ t ti,T.get t=some ti->ti.zeros.all cOk=true
theorem LR.cOks:∀ {l:List Value},l.all cOk=true->LR ρ l l
 |[],_=>LR.nil
 |x::l,h=>by
  simp only [xg4,xb7] at h;exact LR.cons (VR.cOk h.1) (LR.cOks h.2)
theorem b3d (hT:TOk P T) (hZ:ZOk T) (ha:HasR ρ N ds a E) {t:TypeId} {parts:Array (Nat×Operand)} (h:b1Z T E t parts=some v):Yl P ρ a (.build t parts) v:=by
 obtain ⟨Tb,hTb,hget⟩:=hT.tabs [t];unfold b1Z at h
 split at h
 ·rename_i sz fs z ps ht hp;obtain ⟨qs,hq,hp⟩:=ha.evP hp;obtain ⟨L,hL,rfl⟩:=xk9.1 h;have hfun:(fun i=>(a1m fs i).map fun f=>(f.1,f.2.1))=fun i=>(fs[i]?).map fun f=>(f.1,f.2.1):=by funext i;rw [s4]
  rw [hfun] at hL;obtain ⟨M,hM,hr⟩:=a3F (LR.cOks (hZ t _ ht)) hq hL;exact ⟨_,VR.mkAgg hr,fun _ _ _ _=>a1O hTb (hget t _ (by simp) ht) hp hM a ha.full⟩
 ·cases h
theorem b3v (hT:TOk P T) (ha:HasR ρ N ds a E) {t:TypeId} {x y:Operand} (h:sIA T E t x y=some v):Yl P ρ a (.indexAddr t x y) v:=by
 obtain ⟨Tb,hTb,hget⟩:=hT.tabs [t];unfold sIA at h
 split at h
 ·rename_i ht hx hy;obtain ⟨h1,h2⟩:=d6 h
  cases h2
  obtain ⟨u,hu,hx⟩:=ha.ev hx;obtain ⟨z,hz,rfl⟩:=VR.sl hu;obtain ⟨u2,hu2,hy⟩:=ha.ev hy;rw [VR.int hu2] at hy;exact ⟨_,VR.mkPtr hz,fun _ _ _ _=>a64 hTb (hget t _ (by simp) ht) hx hy rfl (by simpa [xb1] using h1) a ha.full _⟩
 ·rename_i ht hx hy;obtain ⟨h1,h2⟩:=d6 h
  cases h2
  obtain ⟨u,hu,hx⟩:=ha.ev hx;obtain ⟨z,hz,rfl⟩:=VR.ptr hu;obtain ⟨u2,hu2,hy⟩:=ha.ev hy;rw [VR.int hu2] at hy;exact ⟨_,VR.mkPtr hz,fun _ _ _ _=>b2O hTb (hget t _ (by simp) ht) hx hy rfl (by simpa [xb1] using h1) a ha.full _⟩
 ·cases h
theorem b3t (hT:TOk P T) (ha:HasR ρ N ds a E) {t:TypeId} {x y:Operand} (h:sIx T E t x y=some v):Yl P ρ a (.index t x y) v:=by
 obtain ⟨Tb,hTb,hget⟩:=hT.tabs [t];unfold sIx at h
 split at h
 ·rename_i ht hx hy;rw [s4] at h;obtain ⟨c,hc,rfl⟩:=xk9.1 h;obtain ⟨u,hu,hx⟩:=ha.ev hx;rw [VR.str hu] at hx;obtain ⟨u2,hu2,hy⟩:=ha.ev hy;rw [VR.int hu2] at hy;exact ⟨_,VR.cOk rfl,fun _ _ _ _=>b2S hTb (hget t _ (by simp) ht) hx hy rfl hc a ha.full _⟩
 ·cases h
theorem a6x (ha:HasR ρ N ds a E) {o:Option Operand} {o':Option Value} {z y i:Nat} (h:a94 E o=some o') (hb:sBd o' z y=some i):o.map a.eval=o':=by
 cases o with
 |none=>cases h;rfl
 |some x=>
  obtain ⟨v,hv,rfl⟩:=xk9.1 (show (sEv E x).map some=some o' from h);obtain ⟨u,hu,hx⟩:=ha.ev hv;unfold sBd at hb
  split at hb
  ·rename_i e;cases e
  ·rename_i e
   cases e
   rw [VR.int hu] at hx;simp [ha.full.ev hx]
  ·cases hb
theorem a2E {o:Value} {z y i y':Nat} {code:BoundsCode} (h:sBd (some o) z y=some i) (hy:y<=y') (w:World):(Instr.sliceBound o y' code).run P w=.ok i w:=by
 unfold sBd at h
 split at h
 ·rename_i e;cases e
 ·rename_i e
  cases e
  obtain ⟨h1,h2⟩:=d6 h
  cases h2
  have h1:=xe8 h1;simp [Instr.sliceBound,asIntOf,show i<=y' by omega]
 ·cases h
theorem a3k (ha:HasR ρ N ds a E) {lo hi:Option Operand} {len cap cap' l h:Nat} {b:Bool} (hb:a74 E lo hi len cap=some (l,h)) (hc:cap<=cap') (w:World):(Instr.sliceBounds b len cap' (lo.map a.eval) (hi.map a.eval) none).run P w=.ok (l,h,cap') w:=by
 unfold a74 at hb
 split at hb
 ·rename_i lo' hi' h1 h2
  split at hb
  ·rename_i h' hh
   split at hb
   ·rename_i a' hl
    cases hb
    rw [a6x ha h1 hl,a6x ha h2 hh]
    cases hi' with
    |none=>
     cases hh
     cases lo' with
     |none=>cases hl;simp [Instr.sliceBounds]
     |some o=>simp [Instr.sliceBounds,a2E hl (xc5 _)]
    |some o2=>
     cases lo' with
     |none=>cases hl;simp [Instr.sliceBounds,a2E hh hc]
     |some o=>simp [Instr.sliceBounds,a2E hl (xc5 _),a2E hh hc]
   ·cases hb
  ·cases hb
 ·cases hb
theorem b3k (hT:TOk P T) (ha:HasR ρ N ds a E) {t:TypeId} {x:Operand} {lo hi mx:Option Operand} (h:sSl T E t x lo hi mx=some v):Yl P ρ a (.slice t x lo hi mx) v:=by
 obtain ⟨Tb,hTb,hget⟩:=hT.tabs [t];unfold sSl at h
 split at h
 ·rename_i _ _ L ht hx
  split at h
  ·rename_i l h' hb
   cases h
   obtain ⟨u,hu,hx⟩:=ha.ev hx;rw [VR.str hu] at hx;obtain ⟨_,hu,_⟩:=hTb.sc (hget t _ (by simp) ht);refine ⟨_,VR.cOk rfl,fun _ _ _ _ w=>?_⟩;have hr:=a3k (P:=P) (b:=false) ha hb (xc5 _) w;simp only [execOp,ha.full.ev hx,xk2];have hs:(⟨⟨L⟩⟩:ByteArray).size=L.length:=rfl;simp only [Sem.run_bind,run_sliceAt_string w t _ _ _ _ hu];simp [Instr.slice,run_underlying hu,hs,hr,Result.andThen];exact a4C _ _ _
  ·cases h
 ·rename_i el sz eb ag z b off m c ht hx
  split at h
  ·rename_i l h' hb;obtain ⟨h1,h2⟩:=d6 h
   cases h2
   obtain ⟨u,hu,hx⟩:=ha.ev hx;obtain ⟨y,hy,rfl⟩:=VR.sl hu;obtain ⟨ji,zv,hun,hinfo,_,hs,_⟩:=hTb.sl (hget t _ (by simp) ht);have hr:=a3k (P:=P) (b:=true) ha hb (show c<=c + y.2 by omega);refine ⟨.slice (some ⟨y.1,off + l * sz,none⟩) (h' - l) (c + y.2 - l),?_,fun _ _ _ _ w=>?_⟩
   ·have e:c + y.2 - l=(c - l) + y.2:=by
     rw [Bool.or_eq_true] at h1;rcases h1 with h1|h1
     ·rw [xa9 h1];omega
     ·have h1:l < c:=by simpa [xb1] using h1
      omega
    rw [e];exact VR.mkSl hy
   ·simp only [execOp,ha.full.ev hx,xk2];simp [Instr.sliceAt,Instr.slice,run_underlying hun,hr w,sizeOf,typeInfo,hinfo,hs];rw [Bool.or_eq_true] at h1;rcases h1 with h1|h1
    ·rw [xa9 h1];simp [Addr.add]
    ·have h1:l < c:=by simpa [xb1] using h1
     rw [xd9 (by omega),a5t]
  ·cases h
 ·rename_i el sz eb ag z m c ht hx
  split at h
  ·rename_i l h' hb
   cases h
   obtain ⟨u,hu,hx⟩:=ha.ev hx;rw [VR.sl0 hu] at hx;obtain ⟨ji,zv,hun,hinfo,_,hs,_⟩:=hTb.sl (hget t _ (by simp) ht);have hr:=a3k (P:=P) (b:=true) ha hb (xc5 _);refine ⟨_,VR.cOk rfl,fun _ _ _ _ w=>?_⟩;simp only [execOp,ha.full.ev hx,xk2];simp [Instr.sliceAt,Instr.slice,run_underlying hun,hr w,sizeOf,typeInfo,hinfo,hs]
  ·cases h
 ·cases h
theorem a87 (hT:TOk P T) (hZ:ZOk T) (hq:QOk P q) (ha:HasR ρ N ds a E) {op:Op} (h:a6D T q E op=some v):Yl P ρ a op v:=by
 unfold a6D at h
 split at h
 ·obtain ⟨u,hu,hx⟩:=ha.ev h;exact Yl.pure (TabOk.nil P) ha hu (by simp only [m6,hx])
 ·obtain ⟨u,hu,hx⟩:=ha.ev h;exact Yl.pure (TabOk.nil P) ha hu (by simp only [m6,hx])
 ·exact b1t ha h
 ·exact b2E ha h
 ·exact b3u hT ha h
 ·exact b2Z ha h
 ·exact b2T ha h
 ·exact b3l hT hq ha h
 ·exact b3j ha h
 ·exact b3z hT ha h
 ·exact b3H hT ha h
 ·exact b2H hT ha h
 ·exact b3d hT hZ ha h
 ·exact b3v hT ha h
 ·exact b3t hT ha h
 ·exact b3k hT ha h
 ·cases h
end
def RR (ρ:Ren) (l m:List (List Value)):Prop:=m.length=l.length/\∀ (i:Nat) r,l[i]?=some r->∃ s,m[i]?=some s/\LR ρ r s
def R2 (ρ:Ren) (l m:List (Value×Value)):Prop:=m.map (·.1)=l.map (·.1)/\LR ρ (l.map (·.2)) (m.map (·.2))
def Fits (P:Program) (ρ:Ren) (x:Nat):SA->Obj->Prop
 |.blk L,o=>∃ M t,LR ρ L M/\o=.cells M.toArray t (0,0)
 |.row e sz rows cap u,o=>∃ rs cur,RR ρ rows rs/\o=.cells cur e (0,0)/\rs.length<=cap + x/\cap + x<=maxLen/\cur.size=(cap + x) * sz/\cur.toList.take (rs.length * sz)=rs.flatten/\(∀ r ∈ rs,r.length=sz)/\(∀ r ∈ rs,r.all (·.oneCell')=true)/\(u=false->x=0)
 |.smap t es,o=>∃ arr c Kt Et D L,P.underlying t=some (.map Kt Et)/\P.underlying Kt=some D/\o=.map arr c/\MapG D arr L/\R2 ρ es L/\∀ p ∈ es,(∃ n,p.1=.int .i64 n)\/∃ s,p.1=.string s
 |.siter l k,o=>o=.stringIter ⟨l.toArray⟩ k
structure Inv (P:Program) (w0:World) (ρ:Ren) (H:SH) (w:World):Prop where
 below:Below w0.heap.size w0 w
 held:∀ i s,g8 H i=some s->∃ x o,ρ i=some x/\w.heap[x.1]?=some o/\Fits P ρ x.2 s o/\w0.heap.size<=x.1
 inj:∀ i j s t x y,g8 H i=some s->g8 H j=some t->ρ i=some x->ρ j=some y->x.1=y.1->i=j
def Fsh (ρ:Ren) (n m:Nat):Prop:=∀ j,n<=j->j < m->ρ j=none
structure Stp (ρ σ:Ren) (n m:Nat):Prop where
 le:Rle ρ σ
 only:∀ j,j < n\/m<=j->σ j=ρ j
section
variable {P:Program} {w0 w w':World} {ρ σ τ:Ren} {H:SH} {n m k i:Nat} {s s':SA} {x:Nat×Nat} {o o':Obj}
theorem Rle.refl (ρ:Ren):Rle ρ ρ:=fun _ _ h=>h
theorem Rle.trans (h:Rle ρ σ) (h2:Rle σ τ):Rle ρ τ:=fun i x hx=>h2 i x (h i x hx)
theorem Stp.refl (ρ:Ren) (n m:Nat):Stp ρ ρ n m:=⟨Rle.refl ρ,fun _ _=>rfl⟩
theorem Stp.trans (h:Stp ρ σ n m) (h2:Stp σ τ m k) (hn:n<=m) (hm:m<=k):Stp ρ τ n k:=⟨h.le.trans h2.le,fun j hj=>(h2.only j (by omega)).trans (h.only j (by omega))⟩
theorem Fsh.step (h:Fsh ρ n k) (hs:Stp ρ σ n m) (hm:n<=m):Fsh σ m k:=fun j h1 h2=>(hs.only j (xc4 h1)).trans (h j (by omega) h2)
theorem RR.mono {l r:List (List Value)} (h:RR ρ l r) (hl:Rle ρ σ):RR σ l r:=⟨h.1,fun i q hq=>by
 obtain ⟨s,h1,h2⟩:=h.2 i q hq;exact ⟨s,h1,h2.mono hl⟩⟩
theorem R2.mono {l r:List (Value×Value)} (h:R2 ρ l r) (hl:Rle ρ σ):R2 σ l r:=⟨h.1,h.2.mono hl⟩
theorem Fits.mono {x:Nat} (h:Fits P ρ x s o) (hl:Rle ρ σ):Fits P σ x s o:=by
 cases s with
 |blk L=>obtain ⟨M,t,h1,h2⟩:=h;exact ⟨M,t,h1.mono hl,h2⟩
 |row e sz rows cap u=>obtain ⟨rs,cur,h1,h2⟩:=h;exact ⟨rs,cur,h1.mono hl,h2⟩
 |smap t es=>obtain ⟨arr,c,Kt,Et,D,L,h1,h2,h3,h4,h5,h6⟩:=h;exact ⟨arr,c,Kt,Et,D,L,h1,h2,h3,h4,h5.mono hl,h6⟩
 |siter l k=>exact h
theorem a28:∀ (H:SH) (i:Nat) (s:SA) (j:Nat),g8 (a0o H i s) j=if i=j then (g8 H i).map fun _=>s else g8 H j
 |[],i,s,j=>by simp [a4N,show a0o [] i s=[] from rfl]
 |(k,t)::r,i,s,j=>by
  have e:a0o ((k,t)::r) i s=if k=i then (k,s)::r else (k,t)::a0o r i s:=by
   show @Bool.rec (fun _=>SH) ((k,t)::a0o r i s) ((k,s)::r) (Nat.beq k i)=_;by_cases h:k=i
   ·subst h;rw [xj9,xd8 rfl]
   ·rw [a3s h,xd9 h]
  rw [e];by_cases h:k=i
  ·subst h;rw [xd8 rfl,j3,j3,j3,xd8 rfl];by_cases h2:k=j <;> simp [h2]
  ·rw [xd9 h,j3,j3,j3,xd9 h,a28 r i s j];by_cases h2:k=j
   ·subst h2;rw [xd8 rfl,xd9 (fun e=>h (Eq.symm e)),xd8 rfl]
   ·rw [xd9 h2,xd9 h2]
theorem a1Y:∀ (H:SH) (i:Nat) (s:SA) (j:Nat),g8 H i=none->g8 (a0p H i s) j=if i=j then some s else g8 H j
 |[],i,s,j,_=>by
  show g8 [(i,s)] j=_;rw [j3]
 |(k,t)::r,i,s,j,hn=>by
  have e:a0p ((k,t)::r) i s=if k < i then (i,s)::(k,t)::r else (k,t)::a0p r i s:=by
   show @Bool.rec (fun _=>SH) ((k,t)::a0p r i s) ((i,s)::(k,t)::r) (Nat.blt k i)=_;by_cases h:k < i
   ·rw [show Nat.blt k i=true from by simpa [xb1] using h,xd8 h]
   ·rw [show Nat.blt k i=false from by cases e:Nat.blt k i;rfl;exact (h (by simpa [xb1] using e)).elim,xd9 h]
  rw [j3] at hn;rw [e];by_cases h:k < i
  ·rw [xd8 h,j3]
  ·rw [xd9 h,j3,j3];by_cases h2:k=i
   ·rw [xd8 h2] at hn;cases hn
   ·rw [xd9 h2] at hn;rw [a1Y r i s j hn];by_cases h3:k=j
    ·subst h3;rw [xd8 rfl,xd9 (fun e=>h2 (Eq.symm e)),xd8 rfl]
    ·rw [xd9 h3,xd9 h3]
def upR (ρ:Ren) (n:Nat) (x:Nat×Nat):Ren:=fun i=>if i=n then some x else ρ i
theorem a0M (h:ρ n=none):Rle ρ (upR ρ n x):=fun i y hy=>by
 unfold upR;by_cases e:i=n
 ·subst e;rw [h] at hy;cases hy
 ·rw [xd9 e];exact hy
theorem a0G:upR ρ n x n=some x:=by unfold upR;rw [xd8 rfl]
theorem a6m (h:i≠n):upR ρ n x i=ρ i:=by unfold upR;rw [xd9 h]
theorem a6R (h:ρ n=none):Stp ρ (upR ρ n x) n (n + 1):=⟨a0M h,fun j hj=>a6m (by omega)⟩
theorem Inv.fresh (h:Inv P w0 ρ H w) (hn:ρ n=none):g8 H n=none:=by
 cases e:g8 H n with
 |none=>rfl
 |some s=>obtain ⟨x,_,hx,_⟩:=h.held n s e;rw [hn] at hx;cases hx
theorem Inv.grow (h:Inv P w0 ρ H w) (hg:w.grownBy w' none):Inv P w0 ρ H w':=by
 have hlt:∀ {b:Nat} {o:Obj},w.heap[b]?=some o->w'.heap[b]?=some o:=fun {b o} hb=>by
  rw [hg.block b (xa8.1 hb).1 (by simp)];exact hb
 refine ⟨⟨hg.os.trans h.below.os,hg.tape.trans h.below.tape,hg.output.trans h.below.output,xc6 h.below.size hg.size,fun k hk=>?_⟩,fun i s hi=>?_,h.inj⟩
 ·rw [hg.block k (xa7 hk h.below.size) (by simp)];exact h.below.block k hk
 ·obtain ⟨x,o,h1,h2,h3,h4⟩:=h.held i s hi;exact ⟨x,o,h1,hlt h2,h3,h4⟩
theorem Inv.sub {H':SH} (h:Inv P w0 ρ H w) (hs:∀ i s,g8 H' i=some s->g8 H i=some s):Inv P w0 ρ H' w :=
 ⟨h.below,fun i s hi=>h.held i s (hs i s hi),fun i j s t x y hi hj=>h.inj i j s t x y (hs i s hi) (hs j t hj)⟩
theorem Inv.upd (h:Inv P w0 ρ H w) (hi:g8 H i=some s) (hx:ρ i=some x) (hg:w.grownBy w' (some x.1)) (ho:w'.heap[x.1]?=some o') (hf:Fits P ρ x.2 s' o'):Inv P w0 ρ (a0o H i s') w':=by
 obtain ⟨x',o,h1,h2,h3,h4⟩:=h.held i s hi;rw [hx] at h1
 cases h1
 refine ⟨⟨hg.os.trans h.below.os,hg.tape.trans h.below.tape,hg.output.trans h.below.output,xc6 h.below.size hg.size,fun k hk=>?_⟩,fun j t hj=>?_,fun j k t t' y z hj hk hy hz e=>?_⟩
 ·rw [hg.block k (xa7 hk h.below.size) (fun e=>by cases e;omega)];exact h.below.block k hk
 ·rw [a28] at hj;by_cases e:i=j
  ·subst e;rw [xd8 rfl,hi] at hj
   cases hj
   exact ⟨x,o',hx,ho,hf,h4⟩
  ·rw [xd9 e] at hj;obtain ⟨y,p,g1,g2,g3,g4⟩:=h.held j t hj;refine ⟨y,p,g1,?_,g3,g4⟩;rw [hg.block y.1 (xa8.1 g2).1 (fun e2=>e (h.inj i j s t x y hi hj hx g1 (Option.some.inj e2).symm))];exact g2
 ·have old:∀ j t,g8 (a0o H i s') j=some t->∃ t',g8 H j=some t':=fun j t hj=>by
   rw [a28] at hj;by_cases e:i=j
   ·subst e;exact ⟨s,hi⟩
   ·rw [xd9 e] at hj;exact ⟨t,hj⟩
  obtain ⟨_,hj'⟩:=old j t hj;obtain ⟨_,hk'⟩:=old k t' hk;exact h.inj j k _ _ y z hj' hk' hy hz e
theorem Inv.new (h:Inv P w0 ρ H w) (hn:ρ n=none) (hg:w.grownBy w' none) (ho:w'.heap[x.1]?=some o) (hb:w.heap.size<=x.1) (hf:Fits P (upR ρ n x) x.2 s o):Inv P w0 (upR ρ n x) (a0p H n s) w':=by
 have hfr:=h.fresh hn;have hG:=h.grow hg;refine ⟨hG.below,fun j t hj=>?_,fun j k t t' y z hj hk hy hz e=>?_⟩
 ·rw [a1Y _ _ _ _ hfr] at hj;by_cases e:n=j
  ·subst e;rw [xd8 rfl] at hj
   cases hj
   exact ⟨x,o,a0G,ho,hf,xc6 h.below.size hb⟩
  ·rw [xd9 e] at hj;obtain ⟨y,p,g1,g2,g3,g4⟩:=hG.held j t hj;exact ⟨y,p,a0M hn j y g1,g2,g3.mono (a0M hn),g4⟩
 ·have old:∀ j t y,g8 (a0p H n s) j=some t->upR ρ n x j=some y->(j=n/\y=x)\/(j≠n/\g8 H j=some t/\ρ j=some y):=fun j t y hj hy=>by
   rw [a1Y _ _ _ _ hfr] at hj;by_cases e:n=j
   ·subst e;rw [a0G] at hy
    cases hy
    exact xc7 ⟨rfl,rfl⟩
   ·rw [xd9 e] at hj;rw [a6m (Ne.symm e)] at hy;exact xc4 ⟨Ne.symm e,hj,hy⟩
  have low:∀ j t y,g8 H j=some t->ρ j=some y->y.1 < w.heap.size:=fun j t y hj hy=>by
   obtain ⟨y',p,g1,g2,_⟩:=h.held j t hj;rw [hy] at g1
   cases g1
   exact (xa8.1 g2).1
  rcases old j t y hj hy with ⟨rfl,rfl⟩|⟨_,h1,h2⟩
  ·rcases old k t' z hk hz with ⟨rfl,_⟩|⟨_,h3,h4⟩
   ·rfl
   ·have:=low k t' z h3 h4;omega
  ·rcases old k t' z hk hz with ⟨rfl,rfl⟩|⟨_,h3,h4⟩
   ·have:=low j t y h1 h2;omega
   ·exact h.inj j k t t' y z h1 h3 h2 h4 e
theorem Inv.move {y:Nat×Nat} (h:Inv P w0 ρ H w) (hn:ρ n=none) (hi:g8 H i=some s) (hx:ρ i=some x) (hg:w.grownBy w' (some x.1)) (ho:w'.heap[y.1]?=some o) (hb:y.1=x.1\/w.heap.size<=y.1) (hf:Fits P (upR ρ n y) y.2 s' o):Inv P w0 (upR ρ n y) (a0p (t6 H i) n s') w':=by
 have hin:i≠n:=fun e=>by subst e;rw [hn] at hx;cases hx
 obtain ⟨x',o0,h1,h2,h3,h4⟩:=h.held i s hi;rw [hx] at h1
 cases h1
 have hfr:g8 (t6 H i) n=none:=by rw [a0C,xd9 hin];exact h.fresh hn
 have old:∀ j t,g8 (a0p (t6 H i) n s') j=some t->(j=n/\t=s')\/(j≠n/\j≠i/\g8 H j=some t):=fun j t hj=>by
  rw [a1Y _ _ _ _ hfr] at hj;by_cases e:n=j
  ·subst e;rw [xd8 rfl] at hj
   cases hj
   exact xc7 ⟨rfl,rfl⟩
  ·rw [xd9 e] at hj;by_cases e2:i=j
   ·rw [a0C,xd8 e2] at hj;cases hj
   ·rw [a0C,xd9 e2] at hj;exact xc4 ⟨Ne.symm e,Ne.symm e2,hj⟩
 refine ⟨⟨hg.os.trans h.below.os,hg.tape.trans h.below.tape,hg.output.trans h.below.output,xc6 h.below.size hg.size,fun k hk=>?_⟩,fun j t hj=>?_,fun j k t t' u z hj hk hu hz e=>?_⟩
 ·rw [hg.block k (xa7 hk h.below.size) (fun e=>by cases e;omega)];exact h.below.block k hk
 ·rcases old j t hj with ⟨rfl,rfl⟩|⟨e1,e2,hj⟩
  ·refine ⟨y,o,a0G,ho,hf,?_⟩;rcases hb with hb|hb
   ·rw [hb];exact h4
   ·exact xc6 h.below.size hb
  ·obtain ⟨u,p,g1,g2,g3,g4⟩:=h.held j t hj;refine ⟨u,p,a0M hn j u g1,?_,g3.mono (a0M hn),g4⟩;rw [hg.block u.1 (xa8.1 g2).1 (fun e3=>e2 (h.inj j i t s u x hj hi g1 hx (Option.some.inj e3)))];exact g2
 ·have low:∀ j t u,j≠i->g8 H j=some t->ρ j=some u->u.1 < w.heap.size/\u.1≠x.1:=fun j t u hji hj hu=>by
   obtain ⟨y',p,g1,g2,_⟩:=h.held j t hj;rw [hu] at g1
   cases g1
   exact ⟨(xa8.1 g2).1,fun e=>hji (h.inj j i t s u x hj hi hu hx e)⟩
  have up:∀ j u,j≠n->upR ρ n y j=some u->ρ j=some u:=fun j u hjn hu=>by rw [a6m hjn] at hu;exact hu
  rcases old j t hj with ⟨rfl,rfl⟩|⟨e1,e2,hj'⟩
  ·rcases old k t' hk with ⟨rfl,_⟩|⟨e3,e4,hk⟩
   ·rfl
   ·rw [a0G] at hu
    cases hu
    have:=low k t' z e4 hk (up k z e3 hz);rcases hb with hb|hb <;> omega
  ·rcases old k t' hk with ⟨rfl,rfl⟩|⟨e3,e4,hk⟩
   ·rw [a0G] at hz
    cases hz
    have:=low j t u e2 hj' (up j u e1 hu);rcases hb with hb|hb <;> omega
   ·exact h.inj j k t t' u z hj' hk (up j u e1 hu) (up k z e3 hz) e
end
end Go.Proofs.YtejnpppejalhfacGreat
