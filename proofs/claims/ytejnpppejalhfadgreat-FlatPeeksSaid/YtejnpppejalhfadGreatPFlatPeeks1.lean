/- Texts that the proof stands on, one behind the other: Kit, Region, Obj, Sc1, Sc2, Sc3, Sc4, Sc5, Sc6, Sc7. -/
import Derived.Handy
import Derived.Laws.BytesArg
import Derived.Laws.IdiomStrings
import Derived.Deep.Draws
import Derived.Laws.CopyOwn
import Derived.StillTail
import Derived.Lib.QuietBelow
import Derived.BigQuiet
import Derived.Great.BuildSlice
import Derived.Great.Ranges
import Derived.Great.Walk
import Derived.Deep.Quiet
import Derived.Laws.AppendOwn
import Derived.Deep.MidRow
import Derived.Laws.MakeOwn
import Derived.Maps.AppendAt
set_option linter.unusedVariables false
set_option linter.unusedSimpArgs false
namespace Go.Proofs.YtejnpppejalhfadGreat
set_option maxRecDepth 100000
set_option maxHeartbeats 8000000
abbrev xa0:=@List.take_of_length_le
abbrev xa1:=@List.length_take
abbrev xa2:=@List.length_nil
abbrev xa3:=@List.getElem?_append_right
abbrev xa4:=@List.getElem?_append_left
abbrev xa5:=@List.getElem?_eq_some_iff
abbrev xa6:=@Nat.lt_of_lt_of_le
abbrev xa7:=@Array.getElem?_eq_some_iff
abbrev xa8:=@Nat.eq_of_beq_eq_true
abbrev xa9:=@List.map_cons
abbrev xb0:=@Nat.blt_eq
abbrev xb1:=@Array.getD_eq_getD_getElem?
abbrev xb2:=@Array.getElem?_setIfInBounds_ne
abbrev xb3:=@List.mem_cons
abbrev xb4:=@List.mem_cons_self
abbrev xb5:=@List.mem_cons_of_mem
abbrev xb6:=@Bool.and_eq_true
abbrev xb7:=@List.all_eq_true
abbrev xb8:=@Bool.not_eq_true'
abbrev xb9:=@Bool.eq_iff_iff
abbrev xc0:=@List.mem_of_getElem?
abbrev xc1:=@Array.toList_map
abbrev xc2:=@Array.toArray_toList
abbrev xc3:=@Or.inr
abbrev xc4:=@Nat.le_refl
abbrev xc5:=@Nat.le_trans
abbrev xc6:=@Or.inl
abbrev xc7:=@List.pairwise_iff_getElem
abbrev xc8:=@List.mem_iff_getElem?
abbrev xc9:=@List.getElem?_set
abbrev xd0:=@List.getElem?_eq_getElem
abbrev xd1:=@List.mem_append
abbrev xd2:=@List.flatten_cons
abbrev xd3:=@Nat.succ_mul
abbrev xd4:=@List.length_append
abbrev xd5:=@List.length_cons
abbrev xd6:=@if_pos
abbrev xd7:=@if_neg
abbrev xd8:=@Nat.zero_add
abbrev xd9:=@List.eq_nil_of_length_eq_zero
abbrev xe0:=@List.getElem?_take
abbrev xe1:=@List.getElem?_drop
abbrev xe2:=@Nat.add_assoc
abbrev xe3:=@List.mem_of_mem_take
abbrev xe4:=@List.flatten_append
abbrev xe5:=@Nat.le_of_ble_eq_true
abbrev xe6:=@Nat.add_zero
abbrev xe7:=@Nat.zero_le
abbrev xe8:=@List.toList_toArray
abbrev xe9:=@List.take_length
abbrev xf0:=@Nat.pos_of_ne_zero
abbrev xf1:=@Nat.mul_le_mul_left
abbrev xf2:=@Array.length_toList
abbrev xf3:=@List.ext_getElem?
abbrev xf4:=@Nat.div_lt_of_lt_mul
abbrev xf5:=@Nat.mul_comm
abbrev xf6:=@Nat.div_add_mod
abbrev xf7:=@List.getElem?_map
abbrev xf8:=@Option.map_some
abbrev xf9:=@List.getElem?_eq_none
abbrev xg0:=@List.length_replicate
abbrev xg1:=@List.mem_map
abbrev xg2:=@List.find?_some
abbrev xg3:=@List.mem_of_find?_eq_some
abbrev xg4:=@List.nil_sublist
abbrev xg5:=@List.length_map
abbrev xg6:=@decide_eq_true
abbrev xg7:=@Nat.lt_or_ge
abbrev xg8:=@decide_eq_false
abbrev xg9:=@decide_eq_false_iff_not
abbrev xh0:=@Option.isSome_iff_exists
abbrev xh1:=@decide_eq_true_eq
abbrev xh2:=@List.mem_filter
abbrev xh3:=@List.mem_range
abbrev xh4:=@Option.map_eq_some_iff
abbrev xh5:=@List.take_append_drop
abbrev xh6:=@List.mem_singleton
abbrev xh7:=@List.getElem_toArray
abbrev xh8:=@List.getElem_cons_zero
abbrev xh9:=@List.getElem_cons_succ
abbrev xi0:=@List.drop_succ_cons
abbrev xi1:=@List.drop_zero
abbrev xi2:=@List.take_succ_cons
abbrev xi3:=@List.take_zero
abbrev xi4:=@List.all_cons
abbrev xi5:=@Bool.and_true
abbrev xi6:=@Nat.mul_le_mul_right
abbrev xi7:=@List.mem_or_eq_of_mem_set
abbrev xi8:=@of_decide_eq_true
abbrev xi9:=@List.any_eq_true
abbrev xj0:=@List.map_append
abbrev xj1:=@List.nodup_append
abbrev xj2:=@Option.map_none
abbrev xj3:=@Option.bind_eq_some_iff
abbrev xj4:=@List.length_drop
abbrev xj5:=@List.drop_of_length_le
abbrev xj6:=@List.mem_of_mem_drop
abbrev xj7:=@Nat.sub_mul
abbrev xj8:=@Nat.beq_refl
abbrev xj9:=@List.eq_of_mem_replicate
abbrev xk0:=@Array.toList_append
abbrev xk1:=@Int.toNat_of_nonneg
abbrev xk2:=@beq_eq_false_iff_ne
abbrev xk3:=@bne_iff_ne
abbrev xk4:=@bne_eq_false_iff_eq
abbrev xk5:=@Nat.lt_succ_iff_lt_or_eq
abbrev xk6:=@List.getElem_map
abbrev xk7:=@List.filter_append
abbrev xk8:=@Bool.true_and
abbrev xk9:=@Bool.and_false
abbrev xl0:=@Bool.false_and
open Go.RowKit
theorem l2 (d:Tmp) {P:Program} {ops:Array Oper} {Q:Exit->Act->World->Prop} {op:Op} {ty:TypeId} {pos:String} {after:Array Edge} {g:Option (Nat×Bool)} {rest:List Oper} {a:Act} {w:World}
  (h:wpList P ops Q (⟨some d,op,ty,pos,after,g⟩::rest) a w):wpList P ops Q (⟨some d,op,ty,pos,after,g⟩::rest) a w:=h
theorem a24 (a b:List UInt8):(⟨a.toArray⟩:ByteArray)++⟨b.toArray⟩=⟨(a++b).toArray⟩:=by
 apply ByteArray.ext;simp
theorem a0X (s:List UInt8) (a b:Nat):(⟨s.toArray⟩:ByteArray).extract a b=⟨((s.drop a).take (b - a)).toArray⟩:=by
 apply ByteArray.ext;simp [ByteArray.data_extract]
attribute [go_sem] a0X a24
@[go_sem] theorem take_drop_end (l:List UInt8) (a:Nat):(l.drop a).take (l.length - a)=l.drop a:=xa0 (by simp)
theorem hid {p:Prop} (h:p):Hid p:=h
def RB (v:Value) (w:World) (e:Ending) (w':World):Prop:=e=.returned v/\Below w.heap.size w w'
theorem a5r {P:Program} {f:FuncId} {args:Array Value} {w:World} {v:Value} (h:Calls P f args w fun e w'=>e=.returned v/\w=w'):Calls P f args w (RB v w) :=
 h.mono fun _ _ ⟨h1,h2⟩=>⟨h1,h2 ▸ Below.refl _ _⟩
theorem a6T {P:Program} {f:FuncId} {args:Array Value} {w:World} {v:Value} (h:Calls P f args w fun e w'=>e=.returned v/\Below w.heap.size w w'):Calls P f args w (RB v w):=h
theorem a3Q {W w1:World} (hb:Below W.heap.size W w1) :
  (∀ p:Addr,p.block < W.heap.size->w1.cell? p=W.cell? p)/\(∀ p:Addr,p.block < W.heap.size->w1.frozen? p=W.frozen? p) :=
 ⟨fun _ h=>hb.cell h,fun _ h=>hb.frozen h⟩
theorem bt {a b c:World} (h:Below a.heap.size a b) (k:Below b.heap.size b c):Below a.heap.size a c:=h.trans (k.mono h.size)
theorem g9 {a b:Bool} (h:a=b):Ending.returned (.bool a)=.returned (.bool b):=by rw [h]
theorem j7 {k:IntKind} {a b:Int} (h:a=b):Ending.returned (.int k a)=.returned (.int k b):=by rw [h]
def BytesAt (w:World) (g:Nat) (l:List UInt8):Prop:=∀ j (hj:j < l.length),w.cell? ⟨g,j,none⟩=some (.int .u8 (l[j].toNat:Int))/\w.frozen? ⟨g,j,none⟩=false
theorem BytesAt.below {B:Nat} {w w':World} {g:Nat} {l:List UInt8} (h:BytesAt w g l) (hb:Below B w w') (hg:g < B):BytesAt w' g l :=
 fun j hj=>⟨(hb.cell (p:=⟨g,j,none⟩) hg).trans (h j hj).1,(hb.frozen (p:=⟨g,j,none⟩) hg).trans (h j hj).2⟩
theorem a3E (w:World) (l:List UInt8) (cap:Nat) (e:TypeId) :
  BytesAt (w.drew.alloc (.cells (bytesRow ⟨l.toArray⟩ cap) e ((bytesRow ⟨l.toArray⟩ cap).size,(bytesRow ⟨l.toArray⟩ cap).size + 1))) w.heap.size l:=by
 intro j hj;refine ⟨?_,?_⟩
 ·have h:=World.cell?_alloc_mark w.drew (bytesRow ⟨l.toArray⟩ cap) e ((bytesRow ⟨l.toArray⟩ cap).size,(bytesRow ⟨l.toArray⟩ cap).size + 1) j;rw [bytesRow_at _ _ _ (by simpa using hj)] at h
  simpa using h
 ·have h:=World.frozen?_alloc_mark w.drew (bytesRow ⟨l.toArray⟩ cap) e (bytesRow ⟨l.toArray⟩ cap).size ((bytesRow ⟨l.toArray⟩ cap).size + 1) j;refine h.trans ?_;have:l.length<=(bytesRow ⟨l.toArray⟩ cap).size:=by simp [bytesRow]
  simp;omega
theorem a1i {P:Program} {w:World} {ops:Array Oper} {rest:List Oper} {o:Oper} {a:Act} {Q:Exit->Act->World->Prop} (hgd:o.guard=none) (x:Operand) (src dst e:TypeId)
  (ho:o.op=.convert src dst x) (hs:P.underlying src=some .string) (hd:P.underlying dst=some (.slice e)) (he:P.underlying e=some (.int .u8)) (l:List UInt8) (hx:a.eval x=.string ⟨l.toArray⟩)
  (B:Nat) (w0:World) (hb:Below B w0 w) (hB:B<=w.heap.size)
  (h:∀ cap w',l.length<=cap->Below B w0 w'->BytesAt w' w.heap.size l->w.heap.size < w'.heap.size->wpList P ops Q rest (a.put o.dst (.slice (some ⟨w.heap.size,0,none⟩) l.length cap)) w') :
  wpList P ops Q (o::rest) a w:=by
 refine wpList_plain hgd fun K hK=>?_;have hrun:=run_bytes_of_string (P:=P) w src dst e ⟨l.toArray⟩ hs hd he;unfold Oper.wp;simp only [execOp,ho,hx,Sem.run_bind,hrun,Result.andThen_ok,Sem.run_pure,Oper.upon_value];refine hK _ _ ?_;exact h _ _ (grownCap_ge w _ 0 e) ((hb.drew).alloc hB _) (a3E w l _ e) (by show w.heap.size < (World.alloc _ _).heap.size;simp)
theorem a18 {B:Nat} {w0 w:World} (hb:Below B w0 w) {b:Nat} (hB:B<=b) (o:Nat) (vs:List Value):Below B w0 (w.setCells b o vs):=by
 induction vs generalizing w o with
 |nil=>exact hb
 |cons v r ih=>exact ih (hb.setCell (p:=⟨b,o,none⟩) hB v) _
theorem a2B (w:World) (b o:Nat) (vs:List Value):(w.setCells b o vs).heap.size=w.heap.size:=by
 induction vs generalizing w o with
 |nil=>rfl
 |cons v r ih=>exact (ih _ _).trans (by simp [World.setCell])
theorem a1N {P:Program} {w:World} {ops:Array Oper} {rest:List Oper} {o:Oper} {a:Act} {Q:Exit->Act->World->Prop} (hgd:o.guard=none) (d s:Operand) (dT sT:TypeId)
  (ho:o.op=.call { callee:=.builtin .copy,args:=#[d,s],argTypes:=#[dT,sT] }) (elem:TypeId) (hu:P.underlying dT=some (.slice elem)) (hsz:(P.info? elem).map (·.size)=some 1)
  (dp:Option Addr) (dLen dCap:Nat) (hd:a.eval d=.slice dp dLen dCap) (l:List UInt8) (hs:a.eval s=.string ⟨l.toArray⟩)
  (g off:Nat) (old:List UInt8) (hold:BytesAt w g old) (hfit:off + (l.take dLen).length<=old.length) (hdp:0 < (l.take dLen).length->dp=some ⟨g,off,none⟩)
  (B:Nat) (w0:World) (hb:Below B w0 w) (hBg:B<=g)
  (h:∀ w',Below B w0 w'->w'.heap.size=w.heap.size->BytesAt w' g (splice old off (l.take dLen))->wpList P ops Q rest (a.put o.dst (goInt (l.take dLen).length)) w') :
  wpList P ops Q (o::rest) a w:=by
 refine wpList_plain hgd fun K hK=>?_;obtain ⟨m,hm⟩:∃ m,m=l.take dLen:=⟨_,rfl⟩;rw [<- hm] at hfit hdp h;have hml:m.length=Nat.min l.length dLen:=by rw [hm,xa1,Nat.min_comm]
 have htk:l.take dLen=l.take (Nat.min l.length dLen):=by rw [List.take_eq_take_iff];show min dLen l.length=min (min l.length dLen) l.length;omega
 have hcs:((ByteArray.extract ⟨l.toArray⟩ 0 (Nat.min l.length dLen)).data.map fun b=>Value.int .u8 (b.toNat:Int)).toList=m.map fun b=>Value.int .u8 (b.toNat:Int):=by
  rw [a0X,hm,show l.take dLen=l.take (Nat.min l.length dLen) from htk];simp
 cases hq:P.info? elem with
 |none=>simp [hq] at hsz
 |some i=>
  have hi:i.size=1:=by simpa [hq] using hsz
  have hrun:∃ w',(Builtin.copy_ #[dT,sT] o.type #[.slice dp dLen dCap,.string ⟨l.toArray⟩]).run P w=.ok (goInt m.length) w'/\Below B w0 w'/\w'.heap.size=w.heap.size/\BytesAt w' g (splice old off m):=by
   by_cases h0:m=[]
   ·refine ⟨w,?_,hb,rfl,?_⟩
    ·rw [h0] at hcs hml;simp only [xa2] at hml
     cases dp with
     |none=>simp [Builtin.copy_,run_underlying hu,Builtin.lenOf,Builtin.firstCells,sizeOf,typeInfo,hq,ByteArray.size,h0,<- hml]
     |some ad=>
      simp [Builtin.copy_,run_underlying hu,Builtin.lenOf,Builtin.firstCells,sizeOf,typeInfo,hq,ByteArray.size,h0,<- hml,storeCells]
    ·have:splice old off m=old:=by simp [splice,h0]
     rw [this];exact hold
   ·have hpos:0 < m.length:=List.length_pos_iff.2 h0;obtain rfl:=hdp hpos;have hin:∀ j,j < (m.map fun b=>Value.int .u8 (b.toNat:Int)).length->(w.cell? ⟨g,off + j,none⟩).isSome=true:=fun j hj=>by
     rw [(hold (off + j) (by simp at hj;omega)).1];rfl
    have hst:=run_storeCells_cells (P:=P) g off (m.map fun b=>Value.int .u8 (b.toNat:Int)) 0 w
     (by simpa using hin) (fun j hj=>by simpa using (hold (off + j) (by simp at hj;omega)).2) (by simp [Value.oneCell'])
    refine ⟨w.setCells g off (m.map fun b=>Value.int .u8 (b.toNat:Int)),?_,?_,?_,?_⟩
    ·simp [Builtin.copy_,run_underlying hu,Builtin.lenOf,Builtin.firstCells,sizeOf,typeInfo,hq,ByteArray.size];have e:List.take (Nat.min l.length dLen) (l.map fun b=>Value.int .u8 (b.toNat:Int))=m.map fun b=>Value.int .u8 (b.toNat:Int):=by rw [<- List.map_take,hm,htk]
     rw [e,<- hml,hst];rfl
    ·exact a18 hb hBg _ _
    ·exact a2B _ _ _ _
    ·intro j hj;have hlen:(splice old off m).length=old.length:=length_splice _ _ _ hfit;rw [hlen] at hj;have hz:=(hold j hj).2;refine ⟨?_,by rw [World.frozen?_setCells];exact hz⟩;by_cases h1:off<=j/\j < off + m.length
     ·have:=World.cell?_setCells_in g (m.map fun b=>Value.int .u8 (b.toNat:Int)) off w hin (j - off) (by simp;omega);rw [show off + (j - off)=j from by omega] at this;rw [this];have e:(splice old off m)[j]?=some m[j - off]:=by
       unfold splice;rw [xa3 (by simp;omega),xa4 (by simp;omega)];simp [show min off old.length=off from by omega]
      obtain ⟨_,e⟩:=xa5.1 e;simp [e]
     ·rw [World.cell?_setCells_out g _ off w ⟨g,j,none⟩ (fun _ _=>by simp;omega),(hold j hj).1];have e:(splice old off m)[j]?=some old[j]:=by
       unfold splice;by_cases h2:j < off
       ·rw [xa4 (by simp;omega)];simp [h2]
       ·rw [xa3 (by simp;omega),xa3 (by simp;omega)];simp [show min off old.length=off from by omega,show off + m.length + (j - off - m.length)=j from by omega]
      obtain ⟨_,e⟩:=xa5.1 e;rw [e]
  obtain ⟨w',hr,h1,h2,h3⟩:=hrun;unfold Oper.wp;simp [execOp,ho,resolve,invoke,builtin,hd,hs,hr,Result.andThen];exact hK _ _ (h w' h1 h2 h3)
theorem a1K {P:Program} {w:World} {ops:Array Oper} {rest:List Oper} {o:Oper} {a:Act} {Q:Exit->Act->World->Prop} (hgd:o.guard=none) (x:Operand) (src dst e:TypeId)
  (ho:o.op=.convert src dst x) (hs:P.underlying src=some (.slice e)) (he:P.underlying e=some (.int .u8)) (hd:P.underlying dst=some .string) (l:List UInt8) (g n cap:Nat) (hx:a.eval x=.slice (some ⟨g,0,none⟩) n cap)
  (hn:l.length=n) (hl:BytesAt w g l) (h:wpList P ops Q rest (a.put o.dst (.string ⟨l.toArray⟩)) w):wpList P ops Q (o::rest) a w:=by
 refine wpList_plain hgd fun K hK=>?_;subst hn;have hrun:=run_convert_bytes_back (P:=P) w src dst e ⟨g,0,none⟩ cap l hs he hd (fun j hj=>by
  rw [show (⟨g,0,none⟩:Addr).add j=⟨g,j,none⟩ from by unfold Addr.add;split <;> simp_all];exact (hl j hj).1)
 unfold Oper.wp;simp only [execOp,ho,hx,Sem.run_bind,hrun,Result.andThen_ok,Sem.run_pure,Oper.upon_value];exact hK _ _ h
theorem BytesAt.set {w:World} {g:Nat} {l:List UInt8} (h:BytesAt w g l) (k:Nat) (hk:k < l.length) (b:UInt8) (v:Value) (hv:v=.int .u8 (b.toNat:Int)):BytesAt (w.setCell ⟨g,k,none⟩ v) g (l.set k b):=by
 intro j hj;rw [List.length_set] at hj;subst hv;refine ⟨?_,by rw [World.frozen?_setCell];exact (h j hj).2⟩;by_cases e:j=k
 ·subst e;rw [World.cell?_setCell_same w _ _ (h j (by simpa using hj)).1];simp
 ·rw [World.cell?_setCell_other w _ _ _ (fun x=>by injection x with _ x2 _;omega),(h j (by simpa using hj)).1];simp [show ¬ k=j from fun x=>e x.symm]
end Go.Proofs.YtejnpppejalhfadGreat
namespace Go.Proofs.YtejnpppejalhfadGreat
set_option maxRecDepth 100000
set_option maxHeartbeats 8000000
open Go.RowKit Go.Sort
section
variable {P:Program} {ops:Array Oper} {md:Region.Mode} {C:World->Prop}
def FreeOf (md:Region.Mode) (ops:Array Oper) (seen:Array Bool) (i:Nat) (oi:Oper):Prop :=
 ∀ j oj,ops[j]?=some oj->j≠i->seen.getD j true=false->(∀ e ∈ oj.after,Region.binds md e=true->e.on≠i)->oi.apart ops oj=true
theorem FreeOf.more {seen:Array Bool} {i j:Nat} {oi:Oper} (h:FreeOf md ops seen i oi) (hj:seen.getD j true=false):FreeOf md ops (seen.setIfInBounds j true) i oi :=
 fun k ok hk hne hun hno=>h k ok hk hne (by
  by_cases e:j=k
  ·exact e ▸ hj
  ·rwa [getD_set_ne true e] at hun) hno
end
theorem d8 {w w':World} {d:Nat} {os:Array Obj} (h:w'=grow (redrawn w d) os):Below w.heap.size w w':=h ▸ below_regrown w d os
theorem z7 {g n:Nat} (h:g < n):g < n/\g<=n/\∀ k,g < n + k:=⟨h,Nat.le_of_lt h,fun _=>xa6 h (Nat.le_add_right _ _)⟩
theorem n7 {W w1:World} (hb:Below W.heap.size W w1) :
  (∀ p:Addr,p.block < W.heap.size->w1.cell? p=W.cell? p)/\(∀ p:Addr,p.block < W.heap.size->w1.frozen? p=W.frozen? p)/\(∀ k:Nat,k < W.heap.size->k < w1.heap.size/\k<=w1.heap.size/\∀ n,k < w1.heap.size + n) :=
 ⟨fun _ h=>hb.cell h,fun _ h=>hb.frozen h,fun _ h=>z7 (xa6 h hb.size)⟩
@[go_sem] theorem cell_grow (W:World) (d:Nat) (os:Array Obj) (p:Addr) (h:p.block < W.heap.size):(grow (redrawn W d) os).cell? p=W.cell? p:=(below_regrown W d os).cell h
@[go_sem] theorem frozen_grow (W:World) (d:Nat) (os:Array Obj) (p:Addr) (h:p.block < W.heap.size):(grow (redrawn W d) os).frozen? p=W.frozen? p:=(below_regrown W d os).frozen h
def HoldL (w:World) (g:Nat) (L:List Value):Prop:=∃ t,w.heap[g]?=some (.cells L.toArray t (0,0))
theorem HoldL.cell {w:World} {g:Nat} {L:List Value} (h:HoldL w g L) (j:Nat):w.cell? ⟨g,j,none⟩=L[j]?:=by
 obtain ⟨t,h⟩:=h;simp [World.cell?,h]
theorem HoldL.frozen {w:World} {g:Nat} {L:List Value} (h:HoldL w g L) (j:Nat):w.frozen? ⟨g,j,none⟩=false:=by
 obtain ⟨t,h⟩:=h;simp [World.frozen?,h]
theorem HoldL.lt {w:World} {g:Nat} {L:List Value} (h:HoldL w g L):g < w.heap.size:=by
 obtain ⟨t,h⟩:=h;exact (xa7.1 h).1
theorem HoldL.grown {w w':World} {B g:Nat} {L:List Value} (h:HoldL w g L) (hb:Below B w w') (hg:g < B):HoldL w' g L:=by
 obtain ⟨t,h⟩:=h;exact ⟨t,by rw [hb.block g hg];exact h⟩
theorem HoldL.kept {w w':World} {g:Nat} {L:List Value} (h:HoldL w g L) (hk:∀ k,k < w.heap.size->w'.heap[k]?=w.heap[k]?):HoldL w' g L:=by
 have hl:=h.lt;obtain ⟨t,h⟩:=h;exact ⟨t,by rw [hk g hl];exact h⟩
def Others (g:Nat) (w w':World):Prop:=w'.heap.size=w.heap.size/\∀ k,k≠g->w'.heap[k]?=w.heap[k]?
theorem HoldL.other {w w':World} {g k:Nat} {L:List Value} (h:HoldL w k L) (ho:Others g w w') (hk:k≠g):HoldL w' k L:=by
 obtain ⟨t,h⟩:=h;exact ⟨t,by rw [ho.2 k hk];exact h⟩
theorem Others.cell {w w':World} {g:Nat} (ho:Others g w w') (q:Addr) (hq:q.block≠g):w'.cell? q=w.cell? q:=World.cell?_of_block (w:=w) (ho.2 q.block hq)
theorem Others.frozen {w w':World} {g:Nat} (ho:Others g w w') (q:Addr) (hq:q.block≠g):w'.frozen? q=w.frozen? q:=World.frozen?_of_block (w:=w) (ho.2 q.block hq)
theorem HoldL.drew {w:World} {g:Nat} {L:List Value} (h:HoldL w g L):HoldL w.drew g L:=h
theorem HoldL.put {w:World} {g:Nat} {L:List Value} (h:HoldL w g L) (k:Nat) (v:Value):HoldL (w.setCell ⟨g,k,none⟩ v) g (L.set k v):=by
 obtain ⟨t,ht⟩:=h;refine ⟨t,?_⟩;rw [setCell_eq_setRow w g k _ t _ v ht,setRow_heap w g _ _ t _ ht];simp
theorem j4 (d:Tmp) {P:Program} {ops:Array Oper} {Q:Exit->Act->World->Prop} {t:TypeId} {y:Operand} {ty:TypeId} {pos:String} {after:Array Edge} {g:Option (Nat×Bool)} {rest:List Oper} {a:Act} {w:World}
  (h:wpList P ops Q (⟨none,.store t (.tmp d) y,ty,pos,after,g⟩::rest) a w):wpList P ops Q (⟨none,.store t (.tmp d) y,ty,pos,after,g⟩::rest) a w:=h
section
variable {P:Program} {w:World} {ops:Array Oper} {rest:List Oper} {o:Oper} {a:Act} {Q:Exit->Act->World->Prop}
theorem a1O (hgd:o.guard=none) (ty:TypeId) (x y:Operand) (ho:o.op=.store ty x y) (hd:o.dst=none)
  (hs:(P.info? ty).map (·.size)=some 1)
  (g k:Nat) (n:Int) (hx:a.eval x=.pointer (some ⟨g,k,none⟩)) (hy:a.eval y=.int .i64 n) (L:List Value) (h:HoldL w g L) (hk:k < L.length) (B:Nat) (w0:World) (hb:Below B w0 w) (hB:B<=g)
  (next:∀ w',HoldL w' g (L.set k (.int .i64 n))->Below B w0 w'->Others g w w'->wpList P ops Q rest a w') :
  wpList P ops Q (o::rest) a w:=by
 refine wpList_plain hgd fun K hK=>?_;have hc:w.cell? ⟨g,k,none⟩=some L[k]:=by rw [h.cell];simp
 have hf:=h.frozen k;have hrun:(storeVar ty ⟨g,k,none⟩ (.int .i64 n)).run P w=.ok () (w.setCell ⟨g,k,none⟩ (.int .i64 n)):=by
  cases hq:P.info? ty with
  |none=>simp [hq] at hs
  |some i=>
   have hs':i.size=1:=by simpa [hq] using hs
   simp [go_sem,storeVar,sizeOf,typeInfo,hq,hs',hc,hf,storeCells]
 unfold Oper.wp execOp;simp only [ho,hx,hy,Instr.storeAt,Instr.sureAddr,Sem.run_bind,Sem.run_pure,Result.andThen_ok,hrun,Oper.upon_skip];refine hK _ _ ?_;rw [hd];obtain ⟨t,ht⟩:=h;have e:=setCell_eq_setRow w g k _ t _ (.int .i64 n) ht;refine next _ ⟨t,?_⟩ (hb.setCell hB _) ⟨by simp,fun q hq=>?_⟩
 ·rw [e,setRow_heap w g _ _ t _ ht];simp
 ·rw [e,setRow_other w g q _ hq]
theorem a6 (hgd:o.guard=none) (ty:TypeId) (x y:Operand) (ho:o.op=.store ty x y) (hd:o.dst=none)
  (g:Nat) (L old:List Value) (hx:a.eval x=.pointer (some ⟨g,0,none⟩)) (hy:a.eval y=.agg L.toArray) (h:HoldL w g old)
  (hi:(P.info? ty).map (·.size)=some L.length) (hold:old.length=L.length) (h1:L.all (·.oneCell')=true) (B:Nat) (w0:World) (hb:Below B w0 w) (hB:B<=g)
  (next:∀ w',HoldL w' g L->Below B w0 w'->Others g w w'->wpList P ops Q rest a w') :
  wpList P ops Q (o::rest) a w:=by
 obtain ⟨t,ht⟩:=h;refine wpList_store_rowTo hgd ty x y ho hd g L.toArray hx hy t old.toArray ht (by simpa using hi) (by simpa using hold) (by simpa using h1) ?_;have hoth:Others g w (w.setRow g L.toArray):=⟨by simp,fun q hq=>setRow_other w g q _ hq⟩;exact next _ ⟨t,setRow_heap w g _ _ t _ ht⟩ ⟨hb.os,hb.tape,hb.output,by simpa using hb.size,fun k hk=>(hoth.2 k (by omega)).trans (hb.block k hk)⟩ hoth
theorem x8 (hgd:o.guard=none) (ty:TypeId) (x:Operand) (ho:o.op=.load ty x) (g:Nat) (L:List Value) (hx:a.eval x=.pointer (some ⟨g,0,none⟩)) (h:HoldL w g L) (d:TypeDesc)
  (hu:P.underlying ty=some d) (hd:(match d with|.struct _|.array _ _=>true|_=>false)=true) (hi:(P.info? ty).map (·.size)=some L.length)
  (next:wpList P ops Q rest (a.put o.dst (.agg L.toArray)) w):wpList P ops Q (o::rest) a w:=by
 obtain ⟨t,ht⟩:=h;exact wpList_load_row hgd ty x ho g hx t _ _ d ht hu hd (by simpa using hi) next
theorem a2n (hgd:o.guard=none) (t:TypeId) (x:Operand) (ho:o.op=.box t x) (dst:Option Tmp) (hdst:o.dst=dst) (L:List Value) (hx:a.eval x=.agg L.toArray) (B:Nat) (w0:World) (hb:Below B w0 w) (hB:B<=w.heap.size)
  (next:∀ w',HoldL w' w.heap.size L->Below B w0 w'->w.heap.size < w'.heap.size->(∀ k,k < w.heap.size->w'.heap[k]?=w.heap[k]?)->wpList P ops Q rest (a.put dst (.pointer (some ⟨w.heap.size,0,none⟩))) w') :
  wpList P ops Q (o::rest) a w:=by
 refine Go.Great.wpList_boxTo hgd t x ho dst hdst w.heap.size rfl L.toArray (by rw [hx];rfl) ?_;exact next _ ⟨t,heap_alloc_new w _⟩ (hb.alloc hB _) (by simp) (fun k hk=>Below.heap_alloc w _ k hk)
theorem a2v (hgd:o.guard=none) (dst:Option Tmp) (hdst:o.dst=dst) (L:List Value) (t:TypeId)
  (hrun:(execOp a.eval o).run P w=.ok (.value (.pointer (some ⟨w.heap.size,0,none⟩))) (w.alloc (.cells L.toArray t))) (B:Nat) (w0:World) (hb:Below B w0 w) (hB:B<=w.heap.size)
  (next:∀ w',HoldL w' w.heap.size L->Below B w0 w'->w.heap.size < w'.heap.size->(∀ k,k < w.heap.size->w'.heap[k]?=w.heap[k]?)->wpList P ops Q rest (a.put dst (.pointer (some ⟨w.heap.size,0,none⟩))) w') :
  wpList P ops Q (o::rest) a w :=
 Go.Great.wpList_allocTo hgd dst hdst _ _ hrun (next _ ⟨t,heap_alloc_new w _⟩ (hb.alloc hB _) (by simp) (fun k hk=>Below.heap_alloc w _ k hk))
theorem i4 {fn:Func} {p q:Tmp} {ty:TypeId} (h:fn.results=#[.cell p ty,.tmp q]) (tmps:Array Value) (g:Nat) (L:List Value) (v:Value) (d:TypeDesc)
  (hp:tmps.getD p undef=.pointer (some ⟨g,0,none⟩)) (hq:tmps.getD q undef=v) (hl:HoldL w g L)
  (hu:P.underlying ty=some d) (hd:(match d with|.struct _|.array _ _=>true|_=>false)=true) (hi:(P.info? ty).map (·.size)=some L.length) :
  (results fn tmps).run P w=.ok (.tuple #[.agg L.toArray,v]) w:=by
 obtain ⟨t,ht⟩:=hl;have hp':tmps[p]?.getD undef=.pointer (some ⟨g,0,none⟩):=by simpa using hp
 have hq':tmps[q]?.getD undef=v:=by simpa using hq
 simp [results,h,hp',hq',asAddr,run_loadVar_row w g t ty _ _ d ht hu hd (by simpa using hi)]
end
structure Nn (m:Nat):Prop where
theorem nn (m:Nat):Nn m:=⟨⟩
theorem a2A {a b:Nat} (h:a≠b):Nat.beq a b=false:=by
 cases e:Nat.beq a b
 ·rfl
 ·exact absurd (xa8 e) h
abbrev Fr:=List (Nat×Value)
def Fr.get:Fr->Nat->Option Value
 |[],_=>none
 |(k,v)::r,n=>bif Nat.beq k n then some v else Fr.get r n
def Fr.ev (F:Fr):Operand->Option Value
 |.tmp t=>F.get t
 |.const v=>some v
 |.global g=>some (.pointer (some ⟨g,0,none⟩))
 |.func f=>some (.func (.func f) #[] #[])
def Fr.evs (F:Fr):List Operand->Option (List Value)
 |[]=>some []
 |x::r=>match F.ev x,Fr.evs F r with
  |some v,some vs=>some (v::vs)
  |_,_=>none
structure Has (n:Nat) (ds:List Deferred) (a:Act) (F:Fr):Prop where
 size:a.tmps.size=n
 defers:a.defers=ds
 at_:∀ t v,F.get t=some v->a.tmps.getD t undef=v
theorem Has.ev {n:Nat} {ds:List Deferred} {a:Act} {F:Fr} (h:Has n ds a F) {x:Operand} {v:Value} (hx:F.ev x=some v):a.eval x=v:=by
 cases x with
 |tmp t=>exact h.at_ t v hx
 |const u=>simp only [Fr.ev,Option.some.injEq] at hx;exact hx
 |global g=>simp only [Fr.ev,Option.some.injEq] at hx;exact hx
 |func f=>simp only [Fr.ev,Option.some.injEq] at hx;exact hx
theorem Has.evs {n:Nat} {ds:List Deferred} {a:Act} {F:Fr} (h:Has n ds a F):∀ {xs:List Operand} {vs:List Value},F.evs xs=some vs->xs.map a.eval=vs:=by
 intro xs
 induction xs with
 |nil=>intro vs hx;simp [Fr.evs] at hx;simp [hx]
 |cons x r ih=>
  intro vs hx;simp only [Fr.evs] at hx
  split at hx
  ·rename_i v us h1 h2;simp only [Option.some.injEq] at hx;subst hx;rw [xa9,h.ev h1,ih h2]
  ·cases hx
theorem Has.put {n:Nat} {ds:List Deferred} {a:Act} {F:Fr} (h:Has n ds a F) (d:Nat) (v:Value) (hd:Nat.blt d n=true):Has n ds (a.put (some d) v) ((d,v)::F):=by
 have hd':d < n:=by simpa [xb0] using hd
 refine ⟨by simpa [Act.put] using h.size,by simpa [Act.put] using h.defers,fun t u ht=>?_⟩;simp only [Fr.get] at ht;by_cases e:d=t
 ·subst e;simp at ht;subst ht;simp [Act.put,h.size,hd']
 ·rw [a2A e] at ht;have:=h.at_ t u (by simpa using ht);simp only [Act.put,xb1] at *
  rwa [xb2 e]
def Fr.sub (G:Fr) (F:Fr):Prop:=∀ p ∈ G,F.get p.1=some p.2
theorem Fr.sub_nil (F:Fr):Fr.sub [] F:=fun _ h=>by cases h
theorem Fr.sub_cons {F G:Fr} {t:Nat} {v:Value} (h:F.get t=some v) (r:Fr.sub G F):Fr.sub ((t,v)::G) F:=fun p hp=>by
 rcases xb3.1 hp with rfl|hp
 ·exact h
 ·exact r p hp
theorem Fr.get_mem {F:Fr} {t:Nat} {v:Value} (h:F.get t=some v):(t,v) ∈ F:=by
 induction F with
 |nil=>cases h
 |cons p r ih=>
  simp only [Fr.get] at h;by_cases e:p.1=t
  ·subst e;simp at h;rw [<- h];exact xb4
  ·rw [a2A e] at h;exact xb5 _ (ih (by simpa using h))
theorem Has.sub {n:Nat} {ds:List Deferred} {a:Act} {F G:Fr} (h:Has n ds a F) (hs:Fr.sub G F):Has n ds a G :=
 ⟨h.size,h.defers,fun t v ht=>h.at_ t v (hs (t,v) (Fr.get_mem ht))⟩
inductive TI where
 |sc (d:TypeDesc) (size:Nat) (zero:Value)
 |st (size:Nat) (fs:List (Nat×Nat×Bool)) (zero:List Value)
 |ar (size:Nat) (len:Nat) (esz:Nat) (agg:Bool) (zero:List Value)
 |sl (elem:Nat) (esz:Nat) (ebytes:Nat) (agg:Bool) (ezero:List Value)
def z5:TypeDesc->Bool
 |.struct _|.array _ _=>true
 |_=>false
def a3g (P:Program):List Field->Option (List (Nat×Nat×Bool))
 |[]=>some []
 |f::r=>match P.info? f.type,P.underlying f.type,a3g P r with
  |some j,some d,some l=>some ((f.offset,j.size,z5 d)::l)
  |_,_,_=>none
def a28 (P:Program) (t:TypeId):Option TI :=
 match P.underlying t,P.info? t with
 |some (.struct fields),some i=>match i.zero,a3g P fields.toList with
  |some (.agg z),some fs=>some (.st i.size fs z.toList)
  |_,_=>none
 |some (.array n e),some i=>match i.zero,P.info? e,P.underlying e with
  |some (.agg z),some j,some d=>some (.ar i.size n j.size (z5 d) z.toList)
  |_,_,_=>none
 |some (.slice e),some i=>match i.size,i.zero,P.info? e,P.underlying e with
  |1,some (.slice none 0 0),some j,some d=>match j.zero with
   |some z=>some (.sl e j.size j.bytes (z5 d) z.cells.toList)
   |none=>none
  |_,_,_,_=>none
 |some d,some i=>match i.zero with
  |some z=>some (.sc d i.size z)
  |none=>none
 |none,_|_,none=>none
def TI.okB:TI->Bool
 |.sc _ s z=>Nat.beq s 1 && Nat.beq z.cells.size 1
 |.st s fs z=>Nat.beq s z.length && fs.all (fun f=>!Nat.beq f.2.1 0)
 |.ar s _ e _ z=>Nat.beq s z.length && !Nat.beq e 0
 |.sl _ e _ _ z=>Nat.beq e z.length && !Nat.beq e 0
abbrev Tab:=List (Nat×TI)
def Tab.get:Tab->Nat->Option TI
 |[],_=>none
 |(k,v)::r,n=>bif Nat.beq k n then some v else Tab.get r n
def TabOk (P:Program) (T:Tab):Prop:=∀ p ∈ T,a28 P p.1=some p.2/\p.2.okB=true
theorem TabOk.nil (P:Program):TabOk P []:=fun _ h=>by cases h
theorem TabOk.cons {P:Program} {T:Tab} {t:Nat} {i:TI} (h:a28 P t=some i) (hb:i.okB=true) (r:TabOk P T):TabOk P ((t,i)::T):=fun p hp=>by
 rcases xb3.1 hp with rfl|hp
 ·exact ⟨h,hb⟩
 ·exact r p hp
theorem TabOk.at_ {P:Program} {T:Tab} (h:TabOk P T) {t:Nat} {i:TI} (hg:T.get t=some i):a28 P t=some i/\i.okB=true:=by
 induction T with
 |nil=>cases hg
 |cons p r ih=>
  simp only [Tab.get] at hg;by_cases e:p.1=t
  ·subst e;simp at hg;rw [<- hg];exact h p xb4
  ·rw [a2A e] at hg;exact ih (fun q hq=>h q (xb5 _ hq)) (by simpa using hg)
section tables
variable {P:Program} {t:TypeId}
theorem TabOk.st {T:Tab} (hT:TabOk P T) {s:Nat} {fs:List (Nat×Nat×Bool)} {z:List Value} (hg:T.get t=some (.st s fs z)) :
  ∃ (fields:Array Field) (i:TypeInfo),P.underlying t=some (.struct fields)/\a3g P fields.toList=some fs/\P.info? t=some i/\i.size=s/\i.zero=some (.agg z.toArray)/\s=z.length/\∀ f ∈ fs,f.2.1≠0:=by
 obtain ⟨h,hb⟩:=hT.at_ hg;simp only [TI.okB,xb6,xb7,xb8] at hb;have hs:=xa8 hb.1;have hf:∀ f ∈ fs,f.2.1≠0:=fun f hf e=>by
  have:=hb.2 f hf;rw [e] at this
  cases this
 unfold a28 at h
 split at h
 ·rename_i fields i hu hi
  split at h
  ·rename_i z' fs' hz hfs;simp only [Option.some.injEq,TI.st.injEq] at h;obtain ⟨rfl,rfl,rfl⟩:=h;exact ⟨fields,i,hu,hfs,hi,rfl,by simpa using hz,hs,hf⟩
  ·cases h
 ·split at h <;> cases h
 ·split at h
  ·split at h <;> cases h
  ·cases h
 ·split at h <;> cases h
 ·cases h
 ·cases h
theorem TabOk.ar {T:Tab} (hT:TabOk P T) {s n e:Nat} {g:Bool} {z:List Value} (hg:T.get t=some (.ar s n e g z)) :
  ∃ (el:TypeId) (i j:TypeInfo),P.underlying t=some (.array n el)/\P.info? t=some i/\P.info? el=some j/\i.size=s/\i.zero=some (.agg z.toArray)/\j.size=e/\(∃ d,P.underlying el=some d/\z5 d=g)/\s=z.length/\e≠0:=by
 obtain ⟨h,hb⟩:=hT.at_ hg;simp only [TI.okB,xb6,xb8] at hb;have hs:=xa8 hb.1;have hf:e≠0:=fun k=>by
  have:=hb.2;rw [k] at this
  cases this
 unfold a28 at h
 split at h
 ·split at h <;> cases h
 ·rename_i n' el i hu hi
  split at h
  ·rename_i z' j d hz hj hd;simp only [Option.some.injEq,TI.ar.injEq] at h;obtain ⟨rfl,rfl,rfl,rfl,rfl⟩:=h;exact ⟨el,i,j,hu,hi,hj,rfl,by simpa using hz,rfl,⟨d,hd,rfl⟩,hs,hf⟩
  ·cases h
 ·split at h
  ·split at h <;> cases h
  ·cases h
 ·split at h <;> cases h
 ·cases h
 ·cases h
theorem TabOk.sl {T:Tab} (hT:TabOk P T) {el e b:Nat} {g:Bool} {z:List Value} (hg:T.get t=some (.sl el e b g z)) :
  ∃ (j:TypeInfo) (zv:Value),P.underlying t=some (.slice el)/\P.info? el=some j/\(∃ i,P.info? t=some i/\i.size=1/\i.zero=some (.slice none 0 0))/\j.size=e/\j.bytes=b/\j.zero=some zv/\zv.cells.toList=z/\(∃ d,P.underlying el=some d/\z5 d=g)/\e=z.length/\e≠0:=by
 obtain ⟨h,hb⟩:=hT.at_ hg;simp only [TI.okB,xb6,xb8] at hb;have hs:=xa8 hb.1;have hf:e≠0:=fun k=>by
  have:=hb.2;rw [k] at this
  cases this
 unfold a28 at h
 split at h
 ·split at h <;> cases h
 ·split at h <;> cases h
 ·rename_i el' i hu hi
  split at h
  ·rename_i j d hi1 hz1 hj hd
   split at h
   ·rename_i zv hz;simp only [Option.some.injEq,TI.sl.injEq] at h;obtain ⟨rfl,rfl,rfl,rfl,rfl⟩:=h;exact ⟨j,zv,hu,hj,⟨i,hi,hi1,hz1⟩,rfl,rfl,hz,rfl,⟨d,hd,rfl⟩,hs,hf⟩
   ·cases h
  ·cases h
 ·split at h <;> cases h
 ·cases h
 ·cases h
theorem TabOk.sc {T:Tab} (hT:TabOk P T) {d:TypeDesc} {s:Nat} {z:Value} (hg:T.get t=some (.sc d s z)) :
  ∃ (i:TypeInfo),P.underlying t=some d/\z5 d=false/\P.info? t=some i/\i.size=1/\i.zero=some z/\z.cells.size=1:=by
 obtain ⟨h,hb⟩:=hT.at_ hg;simp only [TI.okB,xb6] at hb;have hs:=xa8 hb.1;have hz1:=xa8 hb.2;unfold a28 at h
 split at h
 ·split at h <;> cases h
 ·split at h <;> cases h
 ·split at h
  ·split at h <;> cases h
  ·cases h
 ·rename_i d' i n1 n2 n3 hu hi
  split at h
  ·rename_i z' hz;simp only [Option.some.injEq,TI.sc.injEq] at h;obtain ⟨rfl,rfl,rfl⟩:=h;refine ⟨i,hu,?_,hi,hs,hz,hz1⟩
   cases d' <;> first|rfl|(exfalso;first|exact n1 _ rfl|exact n2 _ _ rfl)
  ·cases h
 ·cases h
 ·cases h
theorem a3j {fields:List Field} {fs:List (Nat×Nat×Bool)} (h:a3g P fields=some fs):∀ {k:Nat} {x:Nat×Nat×Bool},fs[k]?=some x ->
  ∃ (f:Field) (j:TypeInfo),fields[k]?=some f/\P.info? f.type=some j/\f.offset=x.1/\j.size=x.2.1/\(∃ d,P.underlying f.type=some d/\z5 d=x.2.2):=by
 induction fields generalizing fs with
 |nil=>intro k x hx;simp [a3g] at h;subst h;simp at hx
 |cons f r ih=>
  intro k x hx;simp only [a3g] at h
  split at h
  ·rename_i j d l hj hd hl;simp only [Option.some.injEq] at h;subst h
   cases k with
   |zero=>simp at hx;subst hx;exact ⟨f,j,rfl,hj,rfl,rfl,d,hd,rfl⟩
   |succ k=>exact ih hl (by simpa using hx)
  ·cases h
end tables
def t8 (P:Program) (o:Oper) (a:Act) (v:Value):Prop:=∀ w,(execOp a.eval o).run P w=.ok (.value v) w
def kb:IntKind->IntKind->Bool
 |.i8,.i8|.i16,.i16|.i32,.i32|.i64,.i64|.u8,.u8|.u16,.u16|.u32,.u32|.u64,.u64=>true
 |_,_=>false
theorem a6B {k k':IntKind} (h:kb k k'=true):k=k':=by cases k <;> cases k' <;> first|rfl|cases h
def a5W:BinOp->Value->Value->Option Value
 |.add,.int k m,.int k' n=>bif kb k k' then some (.int k (k.wrap (m + n))) else none
 |.sub,.int k m,.int k' n=>bif kb k k' then some (.int k (k.wrap (m - n))) else none
 |.mul,.int k m,.int k' n=>bif kb k k' then some (.int k (k.wrap (m * n))) else none
 |.lss,.int k m,.int k' n=>bif kb k k' then some (.bool (decide (m < n))) else none
 |.leq,.int k m,.int k' n=>bif kb k k' then some (.bool (decide (m<=n))) else none
 |.gtr,.int k m,.int k' n=>bif kb k k' then some (.bool (decide (n < m))) else none
 |.geq,.int k m,.int k' n=>bif kb k k' then some (.bool (decide (n<=m))) else none
 |.eql,.int k m,.int k' n=>bif kb k k' then some (.bool (decide (m=n))) else none
 |.neq,.int k m,.int k' n=>bif kb k k' then some (.bool (!decide (m=n))) else none
 |.eql,.string ⟨⟨l⟩⟩,.string ⟨⟨l'⟩⟩=>some (.bool (decide (l=l')))
 |.neq,.string ⟨⟨l⟩⟩,.string ⟨⟨l'⟩⟩=>some (.bool (!decide (l=l')))
 |_,_,_=>none
theorem a3A (l l':List UInt8):(l == l')=decide (l=l'):=by
 rw [xb9];simp
theorem a2s (m n:Int):(m == n)=decide (m=n):=rfl
theorem a7p {P:Program} {op:BinOp} {x y v:Value} {t:TypeId} (h:a5W op x y=some v) (w:World):(binOp op t x y).run P w=.ok v w:=by
 unfold a5W at h
 split at h <;> (try cases h)
 all_goals (try (rename_i k m k' n;by_cases e:kb k k'=true;rotate_left;(rw [show kb k k'=false from by simpa using e] at h;cases h);(rw [e] at h;obtain rfl:=a6B e;simp only [cond_true,Option.some.injEq] at h;subst h)))
 all_goals (try (simp [binOp,Op.intArith,Op.intCmp,Op.stringOp,a3A,a2s,bne];done))
 all_goals rfl
def k6 (T:Tab) (F:Fr):Op->Option Value
 |.move x=>F.ev x
 |.assign x=>F.ev x
 |.nilCheck x=>match F.ev x with
  |some (.pointer (some p))=>some (.pointer (some p))
  |_=>none
 |.fieldAddr s x f=>match T.get s,F.ev x with
  |some (.st _ fs _),some (.pointer (some ⟨g,k,none⟩))=>match fs[f]? with
   |some (o,_,_)=>bif Nat.beq o 0 then some (.pointer (some ⟨g,k,none⟩)) else some (.pointer (some ⟨g,k + o,none⟩))
   |none=>none
  |_,_=>none
 |.extract x i=>match F.ev x with
  |some (.tuple vs)=>vs.toList[i]?
  |_=>none
 |.unOp .not _ x=>match F.ev x with
  |some (.bool b)=>some (.bool (!b))
  |_=>none
 |.binOp op _ x y _=>match F.ev x,F.ev y with
  |some u,some v=>a5W op u v
  |_,_=>none
 |.makeFunc fn first caps=>match F.evs first.toList,F.evs caps.toList with
  |some us,some vs=>some (.func fn us.toArray vs.toArray)
  |_,_=>none
 |.convert src dst x=>match T.get src,T.get dst,F.ev x with
  |some _,some (.sc (.int k) _ _),some (.int _ n)=>some (.int k (k.wrap n))
  |some _,some (.sc .string _ _),some (.string s)=>some (.string s)
  |_,_,_=>none
 |.call { callee:=.builtin .len,args,argTypes }=>match args.toList,argTypes.toList with
  |[x],[t]=>match T.get t,F.ev x with
   |some (.sl _ _ _ _ _),some (.slice _ n _)=>some (.int .i64 n)
   |some (.sc .string _ _),some (.string ⟨⟨l⟩⟩)=>some (.int .i64 l.length)
   |_,_=>none
  |_,_=>none
 |.field s x f=>match T.get s,F.ev x with
  |some (.st _ fs _),some (.agg c)=>match fs[f]? with
   |some (o,n,true)=>some (.agg ((c.toList.drop o).take n).toArray)
   |some (o,_,false)=>c.toList[o]?
   |none=>none
  |_,_=>none
 |_=>none
theorem a2j {P:Program} {f:Field} {j:TypeInfo} (hj:P.info? f.type=some j) (h0:j.size≠0) (p:Addr) (w:World):(fieldPlace p f).run P w=.ok (p.add f.offset) w:=by
 simp [fieldPlace,sizeOf,typeInfo,hj,h0]
theorem TabOk.und {P:Program} {T:Tab} (hT:TabOk P T) {t:Nat} {i:TI} (h:T.get t=some i):∃ d,P.underlying t=some d:=by
 cases i with
 |sc d s z=>obtain ⟨_,hu,_⟩:=hT.sc h;exact ⟨_,hu⟩
 |st s fs z=>obtain ⟨_,_,hu,_⟩:=hT.st h;exact ⟨_,hu⟩
 |ar s n e g z=>obtain ⟨_,_,_,hu,_⟩:=hT.ar h;exact ⟨_,hu⟩
 |sl e z b g ez=>obtain ⟨_,_,hu,_⟩:=hT.sl h;exact ⟨_,hu⟩
theorem a1p {P:Program} {t:TypeId} {g:Bool} (hu:∃ d,P.underlying t=some d/\z5 d=g) (w:World):(isAgg t).run P w=.ok g w:=by
 obtain ⟨d,hd,h⟩:=hu;subst h;simp only [isAgg,underlying,Sem.run_bind,run_program,Result.andThen_ok,hd]
 cases d <;> rfl
theorem t7 {P:Program} {T:Tab} (hT:TabOk P T) {n:Nat} {ds:List Deferred} {a:Act} {F:Fr} (hF:Has n ds a F) {o:Oper} {v:Value} (h:k6 T F o.op=some v):t8 P o a v:=by
 intro w;unfold k6 at h
 split at h
 case h_1 x ho=>simp only [execOp,ho,hF.ev h];rfl
 case h_2 x ho=>simp only [execOp,ho,hF.ev h];rfl
 case h_3 x ho=>
  split at h
  ·rename_i p hx
   cases h
   simp only [execOp,ho,hF.ev hx];rfl
  ·cases h
 case h_4 s x f ho=>
  split at h
  ·rename_i fs z sz g k hs hx
   split at h
   ·rename_i o' sz' ag hf;obtain ⟨fields,i,hu,hfs,hi,_,_,_,hne⟩:=hT.st hs;obtain ⟨fl,j,hfl,hj,h1,h2,_⟩:=a3j hfs hf;have hj0:j.size≠0:=by rw [h2];exact hne _ (xc0 hf)
    have hfl':fields[f]?=some fl:=by simpa using hfl
    have hv:v=.pointer (some ((⟨g,k,none⟩:Addr).add o')):=by
     by_cases e:o'=0
     ·subst e;simp at h;subst h;simp [Addr.add]
     ·rw [a2A e] at h;simp at h;subst h;simp [Addr.add,e]
    have hfp:=a2j (P:=P) hj hj0 ⟨g,k,none⟩ w;rw [show fl.offset=o' from h1] at hfp;simp [execOp,ho,hF.ev hx,Instr.fieldAt,underlying,hu,hfl',Instr.sureAddr,hfp,Result.andThen,hv]
   ·cases h
  ·cases h
 case h_5 x i ho=>
  split at h
  ·rename_i vs hx;have:vs[i]?=some v:=by simpa using h
   simp [execOp,ho,hF.ev hx,Instr.extract,this]
  ·cases h
 case h_6 t x ho=>
  split at h
  ·rename_i b hx
   cases h
   simp [execOp,ho,hF.ev hx,Op.unary]
  ·cases h
 case h_7 op t x y yt ho=>
  split at h
  ·rename_i u u' hx hy;have hr:=a7p (P:=P) (t:=t) h w;have hg:(eqGuard op t x y u u').run P w=.ok () w:=by
    unfold eqGuard;unfold a5W at h
    split at h <;> first|(cases h;done)|rfl
   simp [execOp,ho,hF.ev hx,hF.ev hy,hr,hg,Result.andThen]
  ·cases h
 case h_8 fn first caps ho=>
  split at h
  ·rename_i us vs h1 h2
   cases h
   have e1:first.map a.eval=us.toArray:=by rw [<- hF.evs h1,<- xc1,xc2]
   have e2:caps.map a.eval=vs.toArray:=by rw [<- hF.evs h2,<- xc1,xc2]
   simp [execOp,ho,Instr.makeFunc,e1,e2]
  ·cases h
 case h_9 src dst x ho=>
  split at h
  ·rename_i s0 k _ _ _ m hs0 hs hx
   cases h
   obtain ⟨i,hu,_⟩:=hT.sc hs;obtain ⟨d,hd⟩:=hT.und hs0;simp [execOp,ho,hF.ev hx,convert,underlying,hd,hu,Conv.intToInt]
  ·rename_i s0 _ _ s hs0 hs hx
   cases h
   obtain ⟨i,hu,_⟩:=hT.sc hs;obtain ⟨d,hd⟩:=hT.und hs0;simp [execOp,ho,hF.ev hx,convert,underlying,hd,hu]
  ·cases h
 case h_10 args ats ho=>
  split at h
  ·rename_i x t h1 h2;have e1:args=#[x]:=by cases args;simp_all
   have e2:ats=#[t]:=by cases ats;simp_all
   subst e1 e2
   split at h
   ·rename_i _ _ _ _ _ p m c hs hx
    cases h
    obtain ⟨j,zv,hu,_⟩:=hT.sl hs;simp [execOp,ho,resolve,invoke,builtin,hF.ev hx,Builtin.len_,underlying,hu,goInt]
   ·rename_i _ _ l hs hx
    cases h
    obtain ⟨i,hu,_⟩:=hT.sc hs;simp [execOp,ho,resolve,invoke,builtin,hF.ev hx,Builtin.len_,underlying,hu];rfl
   ·cases h
  ·cases h
 case h_11 s x f ho=>
  split at h
  ·rename_i _ fs z c hs hx;obtain ⟨fields,i,hu,hfs,hi,_,_,_,hne⟩:=hT.st hs
   split at h
   ·rename_i o' sz hf;obtain ⟨fl,j,hfl,hj,h1,h2,h3⟩:=a3j hfs hf;have hfl':fields[f]?=some fl:=by simpa using hfl
    cases h
    have hag:=a1p h3 w;have h1':fl.offset=o':=h1;have h2':j.size=sz:=h2;simp [execOp,ho,hF.ev hx,Instr.field,underlying,hu,hfl',asAgg,part,hag,Result.andThen,sizeOf,typeInfo,hj,h1',h2'];apply Array.ext';simp [List.extract]
   ·rename_i o' sz hf;obtain ⟨fl,j,hfl,hj,h1,h2,h3⟩:=a3j hfs hf;have hfl':fields[f]?=some fl:=by simpa using hfl
    have hag:=a1p h3 w;have h1':fl.offset=o':=h1;have hc:c[o']?=some v:=by simpa using h
    simp [execOp,ho,hF.ev hx,Instr.field,underlying,hu,hfl',asAgg,part,hag,Result.andThen,h1',hc]
   ·cases h
  ·cases h
 case h_12=>cases h
inductive Asr where
 |blk (g:Nat) (L:List Value)
 |row (e size:Nat) (v:Value) (rows:List (List Value))
 |obj (r:Nat) (o:Obj)
def Asr.fp:Asr->Option Nat
 |.blk g _=>some g
 |.row _ _ v _=>v.ownBlock
 |.obj r _=>some r
def a8a:Obj->Bool
 |.cells ..=>true
 |_=>false
def Asr.holds (w:World):Asr->Prop
 |.blk g L=>HoldL w g L
 |.row e size v rows=>w.ownsRow 0 e size v rows.length rows.flatten/\(∀ r ∈ rows,r.length=size)/\∀ r ∈ rows,r.all (·.oneCell')=true
 |.obj r o=>w.heap[r]?=some o/\a8a o=false
def Aprt (A B:Asr):Prop:=A.fp=none\/A.fp≠B.fp
theorem Aprt.symm {A B:Asr} (h:Aprt A B):Aprt B A:=by
 unfold Aprt at *;rcases h with h|h
 ·rw [h];cases B.fp <;> simp
 ·exact xc3 (Ne.symm h)
def nF:Nat->Prop:=fun _=>False
structure St (F:Nat->Prop) (w0 w:World) (Γ:List Asr):Prop where
 os:w.os=w0.os
 tape:w.tape=w0.tape
 output:w.output=w0.output
 size:w0.heap.size<=w.heap.size
 base:∀ k,k < w0.heap.size->¬ F k->w.heap[k]?=w0.heap[k]?
 holds:∀ A ∈ Γ,A.holds w
 own:∀ A ∈ Γ,∀ k,A.fp=some k->w0.heap.size<=k\/F k
 apart:Γ.Pairwise Aprt
theorem Asr.lt {w:World} {A:Asr} (h:A.holds w) {k:Nat} (hk:A.fp=some k):k < w.heap.size:=by
 cases A with
 |blk g L=>simp only [Asr.fp,Option.some.injEq] at hk;subst hk;exact HoldL.lt h
 |row e s v rows=>exact (h.1.lt k hk).2
 |obj r o=>simp only [Asr.fp,Option.some.injEq] at hk;subst hk;exact (xa7.1 h.1).1
theorem Asr.kept {w w':World} {A:Asr} {row:Option Nat} (h:A.holds w) (hg:w.grownBy w' row) (hne:A.fp=none\/A.fp≠row):A.holds w':=by
 cases A with
 |blk g L=>
  have hl:=HoldL.lt h;obtain ⟨t,h⟩:=h;exact ⟨t,by rw [hg.block g hl (by simpa [Asr.fp] using hne)];exact h⟩
 |row e s v rows=>exact ⟨h.1.kept hg hne,h.2⟩
 |obj r o=>exact ⟨by rw [hg.block r (xa7.1 h.1).1 (by simpa [Asr.fp] using hne)];exact h.1,h.2⟩
section
variable {F:Nat->Prop} {w0 w w':World} {Γ Δ:List Asr} {A A':Asr}
theorem St.start (w:World):St nF w w []:=⟨rfl,rfl,rfl,xc4 _,fun _ _ _=>rfl,by simp,by simp,List.Pairwise.nil⟩
theorem St.below (h:St nF w0 w Γ):Below w0.heap.size w0 w:=⟨h.os,h.tape,h.output,h.size,fun k hk=>h.base k hk id⟩
theorem St.of_below (h:Below w0.heap.size w0 w):St nF w0 w []:=⟨h.os,h.tape,h.output,h.size,fun k hk _=>h.block k hk,by simp,by simp,List.Pairwise.nil⟩
theorem a0x (h:Below w.heap.size w w'):w.grownBy w' none:=⟨h.os,h.tape,h.output,h.size,fun k hk _=>h.block k hk⟩
theorem St.grow (h:St F w0 w Γ) (hg:w.grownBy w' none):St F w0 w' Γ where
 os:=hg.os.trans h.os
 tape:=hg.tape.trans h.tape
 output:=hg.output.trans h.output
 size:=xc5 h.size hg.size
 base k hk hF:=(hg.block k (xa6 hk h.size) (by simp)).trans (h.base k hk hF)
 holds A hA:=Asr.kept (h.holds A hA) hg (by cases A.fp <;> simp)
 own:=h.own
 apart:=h.apart
theorem St.new (h:St F w0 w Γ) (hg:w.grownBy w' none) (hA:A.holds w') (hn:∀ k,A.fp=some k->w.heap.size<=k):St F w0 w' (A::Γ) where
 os:=(h.grow hg).os
 tape:=(h.grow hg).tape
 output:=(h.grow hg).output
 size:=(h.grow hg).size
 base:=(h.grow hg).base
 holds B hB:=by
  rcases xb3.1 hB with rfl|hB
  ·exact hA
  ·exact (h.grow hg).holds B hB
 own B hB k hk:=by
  rcases xb3.1 hB with rfl|hB
  ·exact xc6 (xc5 h.size (hn k hk))
  ·exact h.own B hB k hk
 apart:=by
  refine List.Pairwise.cons (fun B hB=>?_) h.apart
  cases e:A.fp with
  |none=>exact xc6 e
  |some k=>
   right;intro e2;have h1:=hn k e;have h2:=Asr.lt (h.holds B hB) (e2 ▸ e);omega
theorem St.drop (h:St F w0 w (A::Γ)):St F w0 w Γ :=
 ⟨h.os,h.tape,h.output,h.size,h.base,fun B hB=>h.holds B (xb5 _ hB),fun B hB=>h.own B (xb5 _ hB),(List.pairwise_cons.1 h.apart).2⟩
theorem St.sub (h:St F w0 w Γ) (hs:Δ.Sublist Γ):St F w0 w Δ :=
 ⟨h.os,h.tape,h.output,h.size,h.base,fun B hB=>h.holds B (hs.subset hB),fun B hB=>h.own B (hs.subset hB),h.apart.sublist hs⟩
theorem St.at_ (h:St F w0 w Γ) {i:Nat} (hi:Γ[i]?=some A):A.holds w:=h.holds A (xc0 hi)
theorem a3D (h:Γ.Pairwise Aprt) {i j:Nat} {B:Asr} (hi:Γ[i]?=some A) (hj:Γ[j]?=some B) (hne:i≠j):Aprt A B:=by
 obtain ⟨hi1,rfl⟩:=xa5.1 hi;obtain ⟨hj1,rfl⟩:=xa5.1 hj;rcases Nat.lt_or_gt_of_ne hne with hlt|hlt
 ·exact xc7.1 h i j hi1 hj1 hlt
 ·exact (xc7.1 h j i hj1 hi1 hlt).symm
theorem St.upd (h:St F w0 w Γ) {i:Nat} (hi:Γ[i]?=some A) (hg:w.grownBy w' A.fp) (hA:A'.holds w') (hn:∀ k,A'.fp=some k->A.fp=some k\/w.heap.size<=k):St F w0 w' (Γ.set i A') where
 os:=hg.os.trans h.os
 tape:=hg.tape.trans h.tape
 output:=hg.output.trans h.output
 size:=xc5 h.size hg.size
 base k hk hF:=by
  refine (hg.block k (xa6 hk h.size) (fun e=>?_)).trans (h.base k hk hF);rcases h.own A (xc0 hi) k e.symm with h1|h1
  ·omega
  ·exact hF h1
 holds B hB:=by
  obtain ⟨j,hj⟩:=xc8.1 hB;rw [xc9] at hj
  split at hj
  ·split at hj
   ·cases hj;exact hA
   ·cases hj
  ·rename_i hne;refine Asr.kept (h.holds B (xc0 hj)) hg ?_;have:=a3D h.apart hj hi (fun e=>hne e.symm);exact this
 own B hB k hk:=by
  obtain ⟨j,hj⟩:=xc8.1 hB;rw [xc9] at hj
  split at hj
  ·split at hj
   ·cases hj
    rcases hn k hk with h1|h1
    ·exact h.own A (xc0 hi) k h1
    ·exact xc6 (xc5 h.size h1)
   ·cases hj
  ·exact h.own B (xc0 hj) k hk
 apart:=by
  rw [xc7];intro j k hj hk hlt;have hjl:j < Γ.length:=by simpa using hj
  have hkl:k < Γ.length:=by simpa using hk
  have key:∀ (m:Nat) (hm:m < Γ.length),m≠i->Aprt A' Γ[m]:=fun m hm hne=>by
   have hap:=a3D h.apart hi (xd0 hm) (Ne.symm hne)
   cases e:A'.fp with
   |none=>exact xc6 e
   |some q=>
    right;intro e2;have h2:=Asr.lt (h.holds Γ[m] (List.getElem_mem hm)) (e2 ▸ e);rcases hn q e with h1|h1
    ·rcases hap with hap|hap
     ·rw [hap] at h1;cases h1
     ·exact hap (h1.trans (e.symm.trans e2))
    ·omega
  rw [List.getElem_set,List.getElem_set]
  split
  ·split
   ·omega
   ·exact key k hkl (by omega)
  ·split
   ·exact (key j hjl (by omega)).symm
   ·exact xc7.1 h.apart j k hjl hkl hlt
theorem St.trans (h:St F w0 w Γ) (h2:St nF w w' Δ):St F w0 w' (Δ++Γ) where
 os:=h2.os.trans h.os
 tape:=h2.tape.trans h.tape
 output:=h2.output.trans h.output
 size:=xc5 h.size h2.size
 base k hk hF:=(h2.base k (xa6 hk h.size) id).trans (h.base k hk hF)
 holds A hA:=by
  rcases xd1.1 hA with hA|hA
  ·exact h2.holds A hA
  ·exact Asr.kept (h.holds A hA) (a0x h2.below) (by cases A.fp <;> simp)
 own A hA k hk:=by
  rcases xd1.1 hA with hA|hA
  ·rcases h2.own A hA k hk with h1|h1
   ·exact xc6 (xc5 h.size h1)
   ·exact h1.elim
  ·exact h.own A hA k hk
 apart:=by
  refine List.pairwise_append.2 ⟨h2.apart,h.apart,fun A hA B hB=>?_⟩
  cases e:A.fp with
  |none=>exact xc6 e
  |some k=>
   right;intro e2;have h3:=Asr.lt (h.holds B hB) (e2 ▸ e);rcases h2.own A hA k e with h1|h1
   ·omega
   ·exact h1
def fps (Θ:List Asr):Nat->Prop:=fun k=>∃ A ∈ Θ,A.fp=some k
theorem St.blkC (h:St F w0 w Γ) (i:Nat) {g k:Nat} {L:List Value} {v:Value} (hi:Γ[i]?=some (.blk g L)) (hk:L[k]?=some v):w.cell? ⟨g,k,none⟩=some v:=by
 rw [HoldL.cell (h.at_ hi)];exact hk
theorem a08 {rows:List (List Value)} {size:Nat} (hs:∀ r ∈ rows,r.length=size):∀ {i j:Nat} {r:List Value},rows[i]?=some r->j < size->rows.flatten[i * size + j]?=r[j]?:=by
 induction rows with
 |nil=>intro i j r h;simp at h
 |cons x rest ih=>
  intro i j r h hj;have hx:x.length=size:=hs x xb4
  cases i with
  |zero=>
   simp at h;subst h;rw [xd2,xa4 (by omega)];simp
  |succ i=>
   rw [xd2,xa3 (by rw [hx,xd3];omega)];rw [show (i + 1) * size + j - x.length=i * size + j from by rw [hx,xd3];omega];exact ih (fun r hr=>hs r (xb5 _ hr)) (by simpa using h) hj
theorem f5 {rows:List (List Value)} {size:Nat} (hs:∀ r ∈ rows,r.length=size):rows.flatten.length=rows.length * size:=by
 induction rows with
 |nil=>simp
 |cons x rest ih=>
  rw [xd2,xd4,hs x xb4,ih (fun r hr=>hs r (xb5 _ hr)),xd5,xd3];omega
theorem a7 {α:Type} {l:List α} {i:Nat} {x:α} (h:l[i]?=some x):i < l.length:=(xa5.1 h).1
theorem St.rowC (h:St F w0 w Γ) (i:Nat) {e size g n cap k j:Nat} {rows:List (List Value)} {r:List Value} {u:Value} (hi:Γ[i]?=some (.row e size (.slice (some ⟨g,0,none⟩) n cap) rows)) (hk:rows[k]?=some r) (hj:r[j]?=some u):w.cell? ⟨g,k * size + j,none⟩=some u:=by
 obtain ⟨ho,hs,_⟩:=h.at_ hi;have hjl:=a7 hj;rw [hs r (xc0 hk)] at hjl;have hc:=ho.cells (g:=g) rfl (k * size + j) u (by rw [a08 hs hk hjl];exact hj)
 rwa [show (⟨g,0,none⟩:Addr).add (k * size + j)=⟨g,k * size + j,none⟩ from by unfold Addr.add;split <;> simp_all] at hc
end
section
variable {P:Program} {n:Nat} {ds:List Deferred} {E:Fr} {w:World} {Q:Exit->Act->World->Prop} {ops:Array Oper} {rest:List Oper}
def WL (P:Program) (ops:Array Oper) (Q:Exit->Act->World->Prop) (l:List Oper) (n:Nat) (ds:List Deferred) (E:Fr) (w:World):Prop:=∀ a,Has n ds a E->wpList P ops Q l a w
def WC (P:Program) (c:Code) (Q:Exit->Act->World->Prop) (n:Nat) (ds:List Deferred) (E:Fr) (w:World):Prop:=∀ a,Has n ds a E->c.wp P Q a w
def WQ (Q:Exit->Act->World->Prop) (e:Exit) (n:Nat) (ds:List Deferred) (E:Fr) (w:World):Prop:=∀ a,Has n ds a E->Q e a w
def Gets (P:Program) (o:Oper) (n:Nat) (ds:List Deferred) (E:Fr) (w:World) (Φ:Value->World->Prop):Prop :=
 ∀ a,Has n ds a E->∀ (K:Act->World->Prop) (Q:Exit->Act->World->Prop),(∀ v w',Φ v w'->K (a.put o.dst v) w')->o.wp P a w K Q
theorem b1v {x y:Code} (h:WC P x (Exit.then (y.wp P Q) Q) n ds E w):WC P (.seq x y) Q n ds E w:=fun a ha=>wp_seq (h a ha)
theorem a9T (h:WQ Q .normal n ds E w):WC P .skip Q n ds E w:=fun a ha=>wp_skip (h a ha)
theorem b0z {i:Nat} (h:WQ Q (.exit i) n ds E w):WC P (.exit i) Q n ds E w:=fun a ha=>wp_exit (h a ha)
theorem b1q (h:WQ Q .ret n ds E w):WC P .ret Q n ds E w:=fun a ha=>wp_ret (h a ha)
theorem a9l {i:Nat} {c:Code} (h:WC P c (Exit.inBlock i Q) n ds E w):WC P (.block i c) Q n ds E w:=fun a ha=>wp_block (h a ha)
theorem a7o {i:Nat} {l:List Oper} (h:WL P l.toArray Q l n ds E w):WC P (.region i l.toArray false) Q n ds E w:=fun a ha=>wp_region_lit (h a ha)
theorem a8S {c:Operand} {x y:Code} {b:Bool} (hc:E.ev c=some (.bool b)) (ht:b=true->WC P x Q n ds E w) (hf:b=false->WC P y Q n ds E w):WC P (.cond c x y) Q n ds E w :=
 fun a ha=>wp_cond_split (ha.ev hc) (fun h=>ht h a ha) (fun h=>hf h a ha)
theorem b7 {c:Operand} {x y:Code} {b:Bool} (hc:E.ev c=some (.bool b)) (hb:b=true) (ht:WC P x Q n ds E w):WC P (.cond c x y) Q n ds E w :=
 a8S hc (fun _=>ht) (fun h=>by rw [hb] at h;cases h)
theorem j5 {c:Operand} {x y:Code} {b:Bool} (hc:E.ev c=some (.bool b)) (hb:b=false) (hf:WC P y Q n ds E w):WC P (.cond c x y) Q n ds E w :=
 a8S hc (fun h=>by rw [hb] at h;cases h) (fun _=>hf)
theorem a7M {X:Type} {c:Code} (x0:X) (Ef:X->Fr) (I:X->World->Prop) (m:X->Nat) (h0:Fr.sub (Ef x0) E) (hI:I x0 w)
  (round:∀ x w',I x w'->WC P c (Exit.then (fun a' w''=>∃ x',Has n ds a' (Ef x')/\I x' w''/\m x' < m x) Q) n ds (Ef x) w'):WC P (.loop c) Q n ds E w:=by
 intro a ha
 classical
 have key:∀ (a:Act) (w:World),(∃ k x,Has n ds a (Ef x)/\I x w/\m x=k)->∃ k x,Has n ds a (Ef x)/\I x w/\m x=k/\∀ x',Has n ds a (Ef x')->I x' w->k<=m x':=by
  intro a w ⟨k,hk⟩
  induction k using Nat.strongRecOn with
  |_ k ih=>
   obtain ⟨x,h1,h2,h3⟩:=hk;by_cases hex:∃ x',Has n ds a (Ef x')/\I x' w/\m x' < k
   ·obtain ⟨x',h4,h5,h6⟩:=hex;exact ih (m x') h6 ⟨x',h4,h5,rfl⟩
   ·exact ⟨k,x,h1,h2,h3,fun x' h4 h5=>Nat.le_of_not_lt fun h6=>hex ⟨x',h4,h5,h6⟩⟩
 have ex:∀ (a:Act) (w:World),∃ k:Nat,(∃ x,Has n ds a (Ef x)/\I x w)->∃ x,Has n ds a (Ef x)/\I x w/\m x=k/\∀ x',Has n ds a (Ef x')->I x' w->k<=m x':=by
  intro a w;by_cases h:∃ x,Has n ds a (Ef x)/\I x w
  ·obtain ⟨x,h1,h2⟩:=h;obtain ⟨k,x,h⟩:=key a w ⟨m x,x,h1,h2,rfl⟩;exact ⟨k,fun _=>⟨x,h⟩⟩
  ·exact ⟨0,fun h'=>(h h').elim⟩
 refine wp_loop (fun a w=>∃ x,Has n ds a (Ef x)/\I x w) (fun a w=>Classical.choose (ex a w)) ⟨x0,ha.sub h0,hI⟩ fun a' w' hh=>?_;obtain ⟨x,h1,h2,h3,_⟩:=Classical.choose_spec (ex a' w') hh;refine Code.wp_mono (fun e a2 w2 q=>?_) (round x w' h2 a' h1)
 cases e with
 |normal=>
  obtain ⟨x',h5,h6,h7⟩:=q;refine ⟨⟨x',h5,h6⟩,?_⟩;obtain ⟨_,_,_,_,hmin⟩:=Classical.choose_spec (ex a2 w2) ⟨x',h5,h6⟩;have:=hmin x' h5 h6;omega
 |exit i=>exact q
 |goto l=>exact q
 |ret=>exact q
 |panic c=>exact q
 |outgrown=>exact q
theorem b1p (h:WQ Q .normal n ds E w):WL P ops Q [] n ds E w:=h
theorem a9P {y:Code} {Q':Exit->Act->World->Prop} (h:WC P y Q' n ds E w):WQ (Exit.then (y.wp P Q') Q) .normal n ds E w:=h
theorem a3I {N:Act->World->Prop} {i:Nat} (h:WQ Q (.exit i) n ds E w):WQ (Exit.then N Q) (.exit i) n ds E w:=h
theorem a47 {N:Act->World->Prop} (h:WQ Q .ret n ds E w):WQ (Exit.then N Q) .ret n ds E w:=h
theorem a8M {i:Nat} (h:WQ Q .normal n ds E w):WQ (Exit.inBlock i Q) .normal n ds E w:=h
theorem a39 {i:Nat} (h:WQ Q .ret n ds E w):WQ (Exit.inBlock i Q) .ret n ds E w:=h
theorem a3u {i:Nat} (h:WQ Q .normal n ds E w):WQ (Exit.inBlock i Q) (.exit i) n ds E w:=fun a ha=>by
 show if i=i then _ else _;rw [xd6 rfl];exact h a ha
variable {d:Nat} {op:Op} {ty:TypeId} {pos:String} {after:Array Edge}
theorem a15 {Φ:Value->World->Prop} (hd:Nat.blt d n=true) (h:Gets P ⟨some d,op,ty,pos,after,none⟩ n ds E w Φ) (k:∀ v w',Φ v w'->WL P ops Q rest n ds ((d,v)::E) w'):WL P ops Q (⟨some d,op,ty,pos,after,none⟩::rest) n ds E w :=
 fun a ha=>wpList_plain rfl fun _ hK=>h a ha _ _ fun v w' hv=>hK _ _ (k v w' hv _ (ha.put d v hd))
theorem a8U {Φ:Value->World->Prop} (h:Gets P ⟨none,op,ty,pos,after,none⟩ n ds E w Φ) (k:∀ v w',Φ v w'->WL P ops Q rest n ds E w'):WL P ops Q (⟨none,op,ty,pos,after,none⟩::rest) n ds E w :=
 fun a ha=>wpList_plain rfl fun _ hK=>h a ha _ _ fun v w' hv=>hK _ _ (k v w' hv _ ha)
theorem Gets.of_runs {o:Oper} {v:Value} (h:∀ a,Has n ds a E->t8 P o a v):Gets P o n ds E w (fun v' w'=>v'=v/\w'=w):=by
 intro a ha K Q k;unfold Oper.wp;rw [h a ha w];exact k v w ⟨rfl,rfl⟩
theorem z4 {v:Value} (h:∀ a,Has n ds a E->t8 P ⟨some d,op,ty,pos,after,none⟩ a v) (hd:Nat.blt d n=true) (k:WL P ops Q rest n ds ((d,v)::E) w):WL P ops Q (⟨some d,op,ty,pos,after,none⟩::rest) n ds E w :=
 a15 hd (Gets.of_runs h) (by rintro _ _ ⟨rfl,rfl⟩;exact k)
theorem a2u {T:Tab} (hT:TabOk P T) {v:Value} (h:k6 T E op=some v) (hd:Nat.blt d n=true) (k:WL P ops Q rest n ds ((d,v)::E) w):WL P ops Q (⟨some d,op,ty,pos,after,none⟩::rest) n ds E w :=
 z4 (fun _ ha=>t7 hT ha h) hd k
theorem a0I {o oj:Oper} {j:Nat} {want b:Bool} {dj:Nat} (hg:o.guard=some (j,want)) (hj:ops[j]?=some oj) (hdj:oj.dst=some dj) (hb:E.get dj=some (.bool b)) {a:Act} (ha:Has n ds a E) (hlt:Nat.blt dj n=true) :
  Region.wanted o (yielded ops a.tmps)=(b == want):=by
 have hlt':dj < a.tmps.size:=by rw [ha.size];simpa [xb0] using hlt
 have h1:a.tmps[dj]?=some (.bool b):=by
  have:=ha.at_ dj _ hb;rw [xb1] at this;rw [Array.getElem?_eq_getElem hlt'] at this |-;exact congrArg some this
 have hy:yielded ops a.tmps j=some b:=by simp [yielded,hj,hdj,h1]
 simp only [Region.wanted,hg,hy]
 cases b <;> cases want <;> rfl
theorem i6 {j:Nat} {want b:Bool} {oj:Oper} {dj:Nat} {dst:Option Nat} (hj:ops[j]?=some oj) (hdj:oj.dst=some dj) (hlt:Nat.blt dj n=true) (hb:E.get dj=some (.bool b)) (he:b=want) (k:WL P ops Q (⟨dst,op,ty,pos,after,none⟩::rest) n ds E w) :
  WL P ops Q (⟨dst,op,ty,pos,after,some (j,want)⟩::rest) n ds E w:=fun a ha=>by
 have hw:=a0I (o:=⟨dst,op,ty,pos,after,some (j,want)⟩) rfl hj hdj hb ha hlt;have h:=k a ha;unfold wpList at h |-;rw [xd6 (show Region.wanted _ _=true from rfl)] at h;rw [xd6 (by rw [hw,he];cases want <;> rfl)];exact h
theorem q7 {j:Nat} {want b:Bool} {oj:Oper} {dj:Nat} (hj:ops[j]?=some oj) (hdj:oj.dst=some dj) (hlt:Nat.blt dj n=true) (hb:E.get dj=some (.bool b)) (he:b=!want) (hd:Nat.blt d n=true) (k:WL P ops Q rest n ds ((d,undef)::E) w) :
  WL P ops Q (⟨some d,op,ty,pos,after,some (j,want)⟩::rest) n ds E w:=fun a ha=>by
 have hw:=a0I (o:=⟨some d,op,ty,pos,after,some (j,want)⟩) rfl hj hdj hb ha hlt;unfold wpList;rw [xd7 (by rw [hw,he];cases want <;> simp)];exact k _ (ha.put d undef hd)
theorem a6O {j:Nat} {want b:Bool} {oj:Oper} {dj:Nat} {dst:Option Nat} (_hj:ops[j]?=some oj) (_hdj:oj.dst=some dj) (_hb:E.get dj=some (.bool b)) (k1:b=true->WL P ops Q (⟨dst,op,ty,pos,after,some (j,want)⟩::rest) n ds E w) (k2:b=false->WL P ops Q (⟨dst,op,ty,pos,after,some (j,want)⟩::rest) n ds E w) :
  WL P ops Q (⟨dst,op,ty,pos,after,some (j,want)⟩::rest) n ds E w:=by cases b;exact k2 rfl;exact k1 rfl
theorem d7 {c x y:Operand} {b:Bool} {v:Value} (hc:E.ev c=some (.bool b)) (hb:b=true) (hv:E.ev x=some v) (hd:Nat.blt d n=true) (k:WL P ops Q rest n ds ((d,v)::E) w):WL P ops Q (⟨some d,.pick c x y,ty,pos,after,none⟩::rest) n ds E w :=
 z4 (fun a ha w=>by simp [execOp,ha.ev hc,asBool,hb,ha.ev hv]) hd k
theorem a9 {c x y:Operand} {b:Bool} {v:Value} (hc:E.ev c=some (.bool b)) (hb:b=false) (hv:E.ev y=some v) (hd:Nat.blt d n=true) (k:WL P ops Q rest n ds ((d,v)::E) w):WL P ops Q (⟨some d,.pick c x y,ty,pos,after,none⟩::rest) n ds E w :=
 z4 (fun a ha w=>by simp [execOp,ha.ev hc,asBool,hb,ha.ev hv]) hd k
theorem a1k {m:Int} (h1:-9223372036854775808<=m) (h2:m<=9223372036854775807):IntKind.i64.wrap m=m:=IntWalk.i64_in m ⟨h1,h2⟩
theorem b1j {t yt:TypeId} {x y:Operand} {m k:Int} (hx:E.ev x=some (.int .i64 m)) (hy:E.ev y=some (.int .i64 k)) (h1:-9223372036854775808<=m + k) (h2:m + k<=9223372036854775807):∀ a,Has n ds a E->∀ dst,t8 P ⟨dst,.binOp .add t x y yt,ty,pos,after,none⟩ a (.int .i64 (m + k)):=fun a ha _ w=>by
 simp [execOp,ha.ev hx,ha.ev hy,eqGuard,binOp,Op.intArith,a1k h1 h2]
theorem a9B {t yt:TypeId} {x y:Operand} {m k:Int} (hx:E.ev x=some (.int .i64 m)) (hy:E.ev y=some (.int .i64 k)) (h1:-9223372036854775808<=m - k) (h2:m - k<=9223372036854775807):∀ a,Has n ds a E->∀ dst,t8 P ⟨dst,.binOp .sub t x y yt,ty,pos,after,none⟩ a (.int .i64 (m - k)):=fun a ha _ w=>by
 simp [execOp,ha.ev hx,ha.ev hy,eqGuard,binOp,Op.intArith,a1k h1 h2]
theorem a9c {T:Tab} (hT:TabOk P T) {t:TypeId} {x y:Operand} {el sz eb b off m c j:Nat} {ag:Bool} {z:List Value} {i:Int} (ht:T.get t=some (.sl el sz eb ag z)) (hx:E.ev x=some (.slice (some ⟨b,off,none⟩) m c)) (hy:E.ev y=some (.int .i64 i)) (hj:(j:Int)=i) (hm:j < m) :
  ∀ a,Has n ds a E->∀ dst,t8 P ⟨dst,.indexAddr t x y,ty,pos,after,none⟩ a (.pointer (some ⟨b,off + j * sz,none⟩)):=fun a ha _ w=>by
 obtain ⟨ji,zv,hu,hi,_,hs,_⟩:=hT.sl ht;subst hj;have hadd:(⟨b,off,none⟩:Addr).add (j * sz)=⟨b,off + j * sz,none⟩:=by unfold Addr.add;split <;> simp_all
 simp [execOp,ha.ev hx,ha.ev hy,Instr.indexAt,asIntOf,underlying,hu,sizeOf,typeInfo,hi,hs,hadd,hm,Result.andThen]
theorem b01 {T:Tab} (hT:TabOk P T) {t:TypeId} {x y:Operand} {s len sz g k j:Nat} {ag:Bool} {z:List Value} {i:Int} (ht:T.get t=some (.ar s len sz ag z)) (hx:E.ev x=some (.pointer (some ⟨g,k,none⟩))) (hy:E.ev y=some (.int .i64 i)) (hj:(j:Int)=i) (hm:j < len) :
  ∀ a,Has n ds a E->∀ dst,t8 P ⟨dst,.indexAddr t x y,ty,pos,after,none⟩ a (.pointer (some ⟨g,k + j * sz,none⟩)):=fun a ha _ w=>by
 obtain ⟨el,i1,j1,hu,_,hi,_,_,hs,_⟩:=hT.ar ht;subst hj;have hadd:(⟨g,k,none⟩:Addr).add (j * sz)=⟨g,k + j * sz,none⟩:=by unfold Addr.add;split <;> simp_all
 simp [execOp,ha.ev hx,ha.ev hy,Instr.indexAt,Instr.sureAddr,asIntOf,underlying,hu,sizeOf,typeInfo,hi,hs,hadd,hm,Result.andThen]
theorem b09 {t:TypeId} {T:Tab} (hT:TabOk P T) {sz:Nat} {z:Value} {x y:Operand} {l:List UInt8} {i:Int} {j:Nat} {c:UInt8} (ht:T.get t=some (.sc .string sz z)) (hx:E.ev x=some (.string ⟨l.toArray⟩)) (hy:E.ev y=some (.int .i64 i)) (hj:(j:Int)=i) (hc:l[j]?=some c) :
  ∀ a,Has n ds a E->∀ dst,t8 P ⟨dst,.index t x y,ty,pos,after,none⟩ a (.int .u8 c.toNat):=fun a ha _ w=>by
 obtain ⟨i1,hu,_⟩:=hT.sc ht;subst hj;have hc':(⟨l.toArray⟩:ByteArray)[j]?=some c:=by
  have:(⟨l.toArray⟩:ByteArray)[j]?=l.toArray[j]?:=rfl;rw [this];simpa using hc
 simp [execOp,ha.ev hx,ha.ev hy,Instr.index,asIntOf,underlying,hu,hc',Result.andThen]
end
structure RoAt (F:Nat->Prop) (w0:World) (b off sz:Nat) (rows:List (List Value)):Prop where
 lt:b < w0.heap.size
 nf:¬ F b
 len:∀ r ∈ rows,r.length=sz
 one:∀ r ∈ rows,r.all (·.oneCell')=true
 cells:∀ k r,rows[k]?=some r->∀ j u,r[j]?=some u->w0.cell? ⟨b,off + k * sz + j,none⟩=some u
def Sl (F:Nat->Prop) (w0:World) (sz:Nat) (v:Value) (rows:List (List Value)):Prop :=
 (∃ p c,v=.slice p 0 c/\rows=[])\/∃ b off cap,v=.slice (some ⟨b,off,none⟩) rows.length cap/\rows.length<=cap/\cap<=maxLen/\RoAt F w0 b off sz rows
section
variable {F:Nat->Prop} {w0 w w':World} {Γ Δ:List Asr} {A A':Asr} {b off sz:Nat} {rows:List (List Value)}
theorem St.baseC (h:St F w0 w Γ) {p:Addr} {v:Value} (hp:w0.cell? p=some v) (hn:¬ F p.block):w.cell? p=some v:=by
 rw [World.cell?_of_block (h.base p.block (World.block_lt_of_cell? w0 p hp) hn)];exact hp
theorem St.roC (h:St F w0 w Γ) (hr:RoAt F w0 b off sz rows) {k j:Nat} {r:List Value} {u:Value} (hk:rows[k]?=some r) (hj:r[j]?=some u):w.cell? ⟨b,off + k * sz + j,none⟩=some u :=
 h.baseC (hr.cells k r hk j u hj) hr.nf
theorem RoAt.now (hr:RoAt F w0 b off sz rows) (h:St F w0 w Γ):RoAt nF w b off sz rows :=
 ⟨xa6 hr.lt h.size,id,hr.len,hr.one,fun _ _ hk _ _ hj=>h.roC hr hk hj⟩
theorem Sl.now {v:Value} (hr:Sl F w0 sz v rows) (h:St F w0 w Γ):Sl nF w sz v rows:=by
 rcases hr with hr|⟨b,off,cap,h1,h2,h3,h4⟩
 ·exact xc6 hr
 ·exact xc3 ⟨b,off,cap,h1,h2,h3,h4.now h⟩
theorem St.rowRo (h:St F w0 w Γ) (i:Nat) {e n cap g:Nat} (hi:Γ[i]?=some (.row e sz (.slice (some ⟨g,0,none⟩) n cap) rows)):RoAt nF w g 0 sz rows :=
 ⟨Asr.lt (h.at_ hi) rfl,id,(h.at_ hi).2.1,(h.at_ hi).2.2,fun k r hk j u hj=>by rw [xd8];exact h.rowC i hi hk hj⟩
theorem St.rowSl (h:St F w0 w Γ) (i:Nat) {e:Nat} {v:Value} (hi:Γ[i]?=some (.row e sz v rows)):Sl nF w sz v rows:=by
 obtain ⟨ho,hs,_⟩:=h.at_ hi;rcases ho.2 with ⟨rfl,h0⟩|⟨g,cap,cur,rfl,_,_,h1,h2,_⟩
 ·exact xc6 ⟨_,_,rfl,xd9 h0⟩
 ·exact xc3 ⟨g,0,cap,rfl,h1,h2,h.rowRo i hi⟩
theorem St.rowForm (h:St F w0 w Γ) (i:Nat) {e:Nat} {v:Value} (hi:Γ[i]?=some (.row e sz v rows)):(v=.slice none 0 0/\rows=[])\/∃ g cap,v=.slice (some ⟨g,0,none⟩) rows.length cap/\rows.length<=cap/\cap<=maxLen:=by
 obtain ⟨ho,hs,_⟩:=h.at_ hi;rcases ho.2 with ⟨rfl,h0⟩|⟨g,cap,cur,rfl,_,_,h1,h2,_⟩
 ·exact xc6 ⟨rfl,xd9 h0⟩
 ·exact xc3 ⟨g,cap,rfl,h1,h2⟩
theorem Sl.form {v:Value} (h:Sl F w0 sz v rows):∃ p cap,v=.slice p rows.length cap:=by
 rcases h with ⟨p,c,rfl,rfl⟩|⟨b,off,cap,rfl,_⟩
 ·exact ⟨_,_,rfl⟩
 ·exact ⟨_,_,rfl⟩
end
def Ld (P:Program) (t:TypeId) (p:Addr) (v:Value) (w:World):Prop:=(loadVar t p).run P w=.ok v w
section
variable {P:Program} {T:Tab} {w:World} {t:TypeId}
theorem a2X {d:TypeDesc} (h:P.underlying t=some d):(isAgg t).run P w=.ok (z5 d) w:=a1p ⟨d,h,rfl⟩ w
theorem Ld.sc (hT:TabOk P T) {d:TypeDesc} {s:Nat} {z v:Value} {p:Addr} (ht:T.get t=some (.sc d s z)) (hc:w.cell? p=some v):Ld P t p v w:=by
 obtain ⟨i,hu,ha,_⟩:=hT.sc ht;have:=a2X (P:=P) (w:=w) hu;rw [ha] at this;simp [Ld,loadVar,this,load,Sem.run,hc,Result.andThen]
theorem Ld.sl (hT:TabOk P T) {el e b:Nat} {g:Bool} {z:List Value} {v:Value} {p:Addr} (ht:T.get t=some (.sl el e b g z)) (hc:w.cell? p=some v):Ld P t p v w:=by
 obtain ⟨j,zv,hu,_⟩:=hT.sl ht;have:=a2X (P:=P) (w:=w) hu;simp [Ld,loadVar,this,z5,load,Sem.run,hc,Result.andThen]
theorem Ld.st (hT:TabOk P T) {s g k:Nat} {fs:List (Nat×Nat×Bool)} {z L:List Value} (ht:T.get t=some (.st s fs z)) (hc:w.rangeAt g k L) (hl:L.length=s):Ld P t ⟨g,k,none⟩ (.agg L.toArray) w:=by
 obtain ⟨fields,i,hu,_,hi,hsz,_⟩:=hT.st ht;exact run_loadVar_mid w g k t L _ hc hu rfl (by rw [hi];simp [hsz,hl])
theorem Ld.ar (hT:TabOk P T) {s n e g k:Nat} {ag:Bool} {z L:List Value} (ht:T.get t=some (.ar s n e ag z)) (hc:w.rangeAt g k L) (hl:L.length=s):Ld P t ⟨g,k,none⟩ (.agg L.toArray) w:=by
 obtain ⟨el,i,j,hu,hi,_,hsz,_⟩:=hT.ar ht;exact run_loadVar_mid w g k t L _ hc hu rfl (by rw [hi];simp [hsz,hl])
end
section
variable {F:Nat->Prop} {w0 w w':World} {Γ Δ:List Asr} {A A':Asr} {b off sz:Nat} {rows:List (List Value)}
theorem St.blkR (h:St F w0 w Γ) (i:Nat) {g:Nat} {L:List Value} (hi:Γ[i]?=some (.blk g L)):w.rangeAt g 0 L:=fun j v hj=>by
 rw [xd8];exact h.blkC i hi hj
theorem St.blkRk (h:St F w0 w Γ) (i k m:Nat) {g:Nat} {L:List Value} (hi:Γ[i]?=some (.blk g L)):w.rangeAt g k ((L.drop k).take m):=fun j v hj=>by
 refine h.blkC i hi ?_;rw [xe0] at hj
 split at hj
 ·rw [xe1] at hj;exact hj
 ·cases hj
theorem St.rowR (h:St F w0 w Γ) (i:Nat) {e g n cap k:Nat} {r:List Value} (hi:Γ[i]?=some (.row e sz (.slice (some ⟨g,0,none⟩) n cap) rows)) (hk:rows[k]?=some r):w.rangeAt g (0 + k * sz) r:=fun j v hj=>by
 rw [xd8];exact h.rowC i hi hk hj
theorem St.roR (h:St F w0 w Γ) (hr:RoAt F w0 b off sz rows) {k:Nat} {r:List Value} (hk:rows[k]?=some r):w.rangeAt b (off + k * sz) r:=fun _ _ hj=>h.roC hr hk hj
theorem St.roC0 (h:St F w0 w Γ) (hr:RoAt F w0 b off sz rows) {k:Nat} {r:List Value} {u:Value} (hk:rows[k]?=some r) (hj:r[0]?=some u):w.cell? ⟨b,off + k * sz,none⟩=some u:=h.roC hr hk hj
end
section
variable {P:Program} {n:Nat} {ds:List Deferred} {E:Fr} {w:World} {dst:Option Nat} {ty:TypeId} {pos:String} {after:Array Edge}
theorem a6z {t:TypeId} {x:Operand} {p:Addr} {v:Value} (hx:E.ev x=some (.pointer (some p))) (h:Ld P t p v w):Gets P ⟨dst,.load t x,ty,pos,after,none⟩ n ds E w (fun v' w'=>v'=v/\w'=w):=by
 intro a ha K Q k;unfold Ld at h;simp only [Oper.wp,execOp,ha.ev hx,Instr.loadAt,Instr.sureAddr,Sem.run_bind,Sem.run_pure,Result.andThen_ok,h,Oper.upon_value];exact k _ _ ⟨rfl,rfl⟩
variable {F:Nat->Prop} {w0:World} {Γ:List Asr}
theorem a9A (hS:St F w0 w Γ) {t:TypeId} {x:Operand} {v:Value} (hx:E.ev x=some v):Gets P ⟨dst,.box t x,ty,pos,after,none⟩ n ds E w (fun v' w'=>∃ g,v'=.pointer (some ⟨g,0,none⟩)/\St F w0 w' (.blk g v.cells.toList::Γ)):=by
 intro a ha K Q k;have e:(execOp a.eval ⟨dst,.box t x,ty,pos,after,none⟩).run P w=.ok (.value (.pointer (some ⟨w.heap.size,0,none⟩))) (w.alloc (.cells v.cells t)):=by
  simp only [execOp,ha.ev hx];rfl
 unfold Oper.wp;rw [e];exact k _ _ ⟨_,rfl,hS.new (World.grownBy_alloc w _ none) ⟨t,by rw [heap_alloc_new w _]⟩ (by simp [Asr.fp])⟩
theorem a1T (hS:St F w0 w Γ) {t:TypeId} {i:TypeInfo} {z:Value} (hi:P.info? t=some i) (hz:i.zero=some z):Gets P ⟨dst,.alloc t,ty,pos,after,none⟩ n ds E w (fun v' w'=>∃ g,v'=.pointer (some ⟨g,0,none⟩)/\St F w0 w' (.blk g z.cells.toList::Γ)):=by
 intro a ha K Q k;have e:(execOp a.eval ⟨dst,.alloc t,ty,pos,after,none⟩).run P w=.ok (.value (.pointer (some ⟨w.heap.size,0,none⟩))) (w.alloc (.cells z.cells t)):=by
  simp [execOp,Instr.alloc,zeroValue,typeInfo,hi,hz,newVar,newRow,newObj,Sem.run,Result.andThen]
 unfold Oper.wp;rw [e];exact k _ _ ⟨_,rfl,hS.new (World.grownBy_alloc w _ none) ⟨t,by rw [heap_alloc_new w _]⟩ (by simp [Asr.fp])⟩
def TI.zeroCells:TI->List Value
 |.sc _ _ z=>z.cells.toList
 |.st _ _ z=>z
 |.ar _ _ _ _ z=>z
 |.sl _ _ _ _ _=>[.slice none 0 0]
def TI.size:TI->Nat
 |.sc _ s _=>s
 |.st s _ _=>s
 |.ar s _ _ _ _=>s
 |.sl _ _ _ _ _=>1
theorem a1a (hS:St F w0 w Γ) {T:Tab} (hT:TabOk P T) {t:TypeId} {i:TI} (ht:T.get t=some i) {L:List Value} (hL:some i.zeroCells=some L):Gets P ⟨dst,.alloc t,ty,pos,after,none⟩ n ds E w (fun v' w'=>∃ g,v'=.pointer (some ⟨g,0,none⟩)/\St F w0 w' (.blk g L::Γ)):=by
 cases i with
 |sc d s z=>
  obtain ⟨i,_,_,hi,_,hz,_⟩:=hT.sc ht;simp only [TI.zeroCells,Option.some.injEq] at hL;subst hL;exact a1T hS hi hz
 |st s fs z=>
  obtain ⟨_,i,_,_,hi,_,hz,_⟩:=hT.st ht;simp only [TI.zeroCells,Option.some.injEq] at hL;subst hL;have:=a1T (dst:=dst) (ty:=ty) (pos:=pos) (after:=after) (n:=n) (ds:=ds) (E:=E) hS hi hz
  simpa [Value.cells] using this
 |ar s m e g z=>
  obtain ⟨_,i,_,_,hi,_,_,hz,_⟩:=hT.ar ht;simp only [TI.zeroCells,Option.some.injEq] at hL;subst hL;have:=a1T (dst:=dst) (ty:=ty) (pos:=pos) (after:=after) (n:=n) (ds:=ds) (E:=E) hS hi hz
  simpa [Value.cells] using this
 |sl e z b g ez=>
  obtain ⟨_,_,_,_,⟨i,hi,_,hz⟩,_⟩:=hT.sl ht;simp only [TI.zeroCells,Option.some.injEq] at hL;subst hL;exact a1T hS hi hz
def l7 (L:List Value) (k:Nat):List Value->List Value
 |[]=>L
 |v::r=>l7 (L.set k v) (k + 1) r
theorem a2f (L:List Value) (k:Nat) (r:List Value):(l7 L k r).length=L.length:=by
 induction r generalizing L k with
 |nil=>rfl
 |cons v r ih=>simp [l7,ih]
theorem a2z {w:World} {g:Nat} {L:List Value} (h:HoldL w g L) (k:Nat) (vs:List Value):HoldL (w.setCells g k vs) g (l7 L k vs):=by
 induction vs generalizing w L k with
 |nil=>exact h
 |cons v r ih=>exact ih (h.put k v) (k + 1)
theorem s8 (w:World) (g k:Nat) (vs:List Value):w.grownBy (w.setCells g k vs) (some g):=by
 induction vs generalizing w k with
 |nil=>exact ⟨rfl,rfl,rfl,xc4 _,fun _ _ _=>rfl⟩
 |cons v r ih=>
  have h1:w.grownBy (w.setCell ⟨g,k,none⟩ v) (some g):=⟨rfl,rfl,rfl,by simp,fun j _ hj=>Below.heap_setCell w ⟨g,k,none⟩ v j (fun e=>hj (by simp at e;rw [e]))⟩;have h2:=ih (w.setCell ⟨g,k,none⟩ v) (k + 1);exact ⟨h2.os.trans h1.os,h2.tape.trans h1.tape,h2.output.trans h1.output,xc5 h1.size h2.size,fun j hj hne=>(h2.block j (xa6 hj h1.size) hne).trans (h1.block j hj hne)⟩
theorem a1b {t:TypeId} {g k:Nat} {v:Value} {w:World} (hsz:(P.info? t).map (·.size)=some v.cells.size) (ht:w.there g k v.cells.size) (h1:∀ u ∈ v.cells.toList,u.oneCell'=true):(storeVar t ⟨g,k,none⟩ v).run P w=.ok () (w.setCells g k v.cells.toList):=by
 have:=run_storeVar_mid (P:=P) w g k t v.cells ht hsz (by rw [Array.all_eq_true_iff_forall_mem];intro u hu;exact h1 u (by simpa using hu));unfold storeVar at this |-;exact this
theorem a1Q (hS:St F w0 w Γ) {T:Tab} (hT:TabOk P T) {t:TypeId} {ti:TI} {x y:Operand} {g k i:Nat} {v:Value} {L:List Value} (ht:T.get t=some ti) (hx:E.ev x=some (.pointer (some ⟨g,k,none⟩))) (hy:E.ev y=some v) (hi:Γ[i]?=some (.blk g L))
  (hsz:v.cells.toList.length=ti.size) (hk:k + ti.size<=L.length) (h1:∀ u ∈ v.cells.toList,u.oneCell'=true) :
  Gets P ⟨dst,.store t x y,ty,pos,after,none⟩ n ds E w (fun _ w'=>St F w0 w' (Γ.set i (.blk g (l7 L k v.cells.toList)))):=by
 intro a ha K Q kk;have hh:HoldL w g L:=hS.at_ hi;have hinfo:(P.info? t).map (·.size)=some ti.size:=by
  cases ti with
  |sc d s z=>obtain ⟨i,_,_,h,h2,_⟩:=hT.sc ht;have:=(hT.at_ ht).2;simp only [TI.okB,xb6] at this;rw [h];simp [h2,TI.size,xa8 this.1]
  |st s fs z=>obtain ⟨_,i,_,_,h,h2,_⟩:=hT.st ht;rw [h];simp [h2,TI.size]
  |ar s m e g z=>obtain ⟨_,i,_,_,h,_,h2,_⟩:=hT.ar ht;rw [h];simp [h2,TI.size]
  |sl e z b g ez=>obtain ⟨_,_,_,_,⟨i,h,h2,_⟩,_⟩:=hT.sl ht;rw [h];simp [h2,TI.size]
 have hthere:w.there g k v.cells.size:=fun j hj=>by
  have hj':j < v.cells.toList.length:=by simpa using hj
  have:k + j < L.length:=by omega
  exact ⟨by rw [hh.cell];simp [this],hh.frozen _⟩
 have e:(execOp a.eval ⟨dst,.store t x y,ty,pos,after,none⟩).run P w=.ok .skip (w.setCells g k v.cells.toList):=by
  simp only [execOp,ha.ev hx,ha.ev hy,Instr.storeAt,Instr.sureAddr,Sem.run_bind,Sem.run_pure,Result.andThen_ok];rw [a1b (by rw [hinfo];simp [<- hsz]) hthere h1];rfl
 unfold Oper.wp;rw [e];exact kk undef _ (hS.upd hi (s8 w g k _) (a2z hh k _) (fun q hq=>xc6 hq))
end
theorem a3T (A L:List Value) (k:Nat) (c:List Value):l7 (A++L) (A.length + k) c=A++l7 L k c:=by
 induction c generalizing L k with
 |nil=>rfl
 |cons v r ih=>
  simp only [l7];rw [List.set_append_right _ _ (by omega),show A.length + k - A.length=k from by omega,xe2];exact ih _ _
theorem a0W (L B:List Value) (k:Nat) (c:List Value) (h:k + c.length<=L.length):l7 (L++B) k c=l7 L k c++B:=by
 induction c generalizing L k with
 |nil=>rfl
 |cons v r ih=>
  simp only [l7,xd5] at h |-;rw [List.set_append_left _ _ (by omega)];exact ih _ _ (by simp;omega)
theorem a4b (L c:List Value) (h:L.length=c.length):l7 L 0 c=c:=by
 have:∀ (c L A:List Value),L.length=c.length->l7 (A++L) A.length c=A++c:=by
  intro c
  induction c with
  |nil=>intro L A h;simp [l7,xd9 h]
  |cons v r ih=>
   intro L A h
   cases L with
   |nil=>simp at h
   |cons x L=>
    simp only [l7];rw [List.set_append_right _ _ (by omega)];simp only [Nat.sub_self,List.set_cons_zero];have:=ih L (A++[v]) (by simpa using h)
    simpa using this
 simpa using this c L [] h
theorem a7W {rows:List (List Value)} {size:Nat} (hs:∀ r ∈ rows,r.length=size) {kk j:Nat} {r c:List Value} (hk:rows[kk]?=some r) (hj:j + c.length<=size) (B:List Value):l7 (rows.flatten++B) (kk * size + j) c=(rows.set kk (l7 r j c)).flatten++B:=by
 have hkl:=a7 hk;have hr:r.length=size:=hs r (xc0 hk);have e1:rows=rows.take kk++r::rows.drop (kk + 1):=by
  have:rows[kk]=r:=by rw [xd0 hkl] at hk;exact Option.some.inj hk
  rw [<- this];simp
 have e2:rows.set kk (l7 r j c)=rows.take kk++l7 r j c::rows.drop (kk + 1):=by rw [List.set_eq_take_append_cons_drop,xd6 hkl]
 have hl:(rows.take kk).flatten.length=kk * size:=by
  rw [f5 (fun r hr=>hs r (xe3 hr)),xa1]
  congr 1;omega
 rw [e2]
 conv=>lhs;rw [e1]
 simp only [xe4,xd2,List.append_assoc];rw [<- hl,a3T,a0W _ _ _ _ (by omega)]
def y7 (pl:Nat->Option (Nat×Nat)) (L:List Value):List (Nat×Value)->Option (List Value)
 |[]=>some L
 |(i,v)::r=>match pl i with
  |some (o,s)=>bif Nat.beq v.cells.toList.length s && Nat.ble (o + s) L.length then y7 pl (l7 L o v.cells.toList) r else none
  |none=>none
theorem a53 (c:List Value) (A:Array Value) (o:Nat):∀ k,((c.zipIdx k).foldl (fun cs (x:Value×Nat)=>cs.setIfInBounds (o + x.2) x.1) A).toList=l7 A.toList (o + k) c:=by
 induction c generalizing A with
 |nil=>intro k;rfl
 |cons v r ih=>
  intro k;simp only [List.zipIdx_cons,List.foldl_cons,l7];rw [ih];simp [xe2]
theorem a4h {pl:Nat->Option (Nat×Nat)}:∀ {parts:List (Nat×Value)} {L L':List Value},y7 pl L parts=some L'->Instr.fill pl L.toArray parts=some L'.toArray:=by
 intro parts
 induction parts with
 |nil=>intro L L' h;simp only [y7,Option.some.injEq] at h;subst h;rfl
 |cons x r ih=>
  obtain ⟨i,v⟩:=x;intro L L' h;simp only [y7] at h
  split at h
  ·rename_i o s hi;by_cases hc:(Nat.beq v.cells.toList.length s && Nat.ble (o + s) L.length)=true
   ·rw [hc] at h;simp only [xb6] at hc;have h1:=xa8 hc.1;have h2:=xe5 hc.2;have hv:v.cells.size=s:=by simpa using h1
    have e:(v.cells.zipIdx.foldl (fun (cs:Array Value) (x:Value×Nat)=>cs.setIfInBounds (o + x.2) x.1) L.toArray)=(l7 L o v.cells.toList).toArray:=by
     apply Array.ext';have:=a53 v.cells.toList L.toArray o 0;simp only [xe6] at this;rw [<- Array.foldl_toList,Array.toList_zipIdx];exact this
    have:=ih (L:=l7 L o v.cells.toList) (L':=L') h;simp only [Instr.fill,hi,hv];rw [xd7 (by simp;omega)];exact e ▸ this
   ·rw [Bool.not_eq_true] at hc;rw [hc] at h
    cases h
  ·cases h
def evP (E:Fr):List (Nat×Operand)->Option (List (Nat×Value))
 |[]=>some []
 |(i,x)::r=>match E.ev x,evP E r with
  |some v,some l=>some ((i,v)::l)
  |_,_=>none
theorem Has.evP {n:Nat} {ds:List Deferred} {a:Act} {E:Fr} (h:Has n ds a E):∀ {xs:List (Nat×Operand)} {vs:List (Nat×Value)},evP E xs=some vs->xs.map (fun p=>(p.1,a.eval p.2))=vs:=by
 intro xs
 induction xs with
 |nil=>intro vs hx;simp [Proofs.YtejnpppejalhfadGreat.evP] at hx;simp [hx]
 |cons x r ih=>
  obtain ⟨i,x⟩:=x;intro vs hx;simp only [Proofs.YtejnpppejalhfadGreat.evP] at hx
  split at hx
  ·rename_i v us h1 h2
   cases hx
   rw [xa9,ih h2,h.ev h1]
  ·cases hx
section
variable {P:Program} {n:Nat} {ds:List Deferred} {E:Fr} {w:World} {dst:Option Nat} {ty:TypeId} {pos:String} {after:Array Edge}
theorem a3r {T:Tab} (hT:TabOk P T) {t s:Nat} {fs:List (Nat×Nat×Bool)} {z L:List Value} {parts:Array (Nat×Operand)} {ps:List (Nat×Value)} (ht:T.get t=some (.st s fs z)) (hp:evP E parts.toList=some ps) (hL:y7 (fun i=>(fs[i]?).map fun f=>(f.1,f.2.1)) z ps=some L) :
  ∀ a,Has n ds a E->t8 P ⟨dst,.build t parts,ty,pos,after,none⟩ a (.agg L.toArray):=fun a ha w=>by
 obtain ⟨fields,i,hu,hfs,hi,_,hz,_,_⟩:=hT.st ht;have hpl:∀ (l:List Field) (fs:List (Nat×Nat×Bool)),a3g P l=some fs->((l.mapM fun f=>(do pure (f.offset,<- sizeOf f.type):Sem (Nat×Nat))).run P w)=.ok (fs.map fun f=>(f.1,f.2.1)) w:=by
  intro l
  induction l with
  |nil=>intro fs h;simp only [a3g,Option.some.injEq] at h;subst h;rfl
  |cons f r ih=>
   intro fs h;simp only [a3g] at h
   split at h
   ·rename_i j d l' hj hd hl
    cases h
    have e:=ih l' hl;rw [List.mapM_cons];simp only [Sem.run_bind,Sem.run_pure,Result.andThen_ok,sizeOf,typeInfo,run_program,hj,xa9];have e2:(List.mapM (fun f=>(do pure (f.offset,<- sizeOf f.type):Sem (Nat×Nat))) r).run P w=.ok (l'.map fun f=>(f.1,f.2.1)) w:=e;unfold sizeOf typeInfo at e2;rw [e2];rfl
   ·cases h
 have hpl':=hpl fields.toList fs hfs;have harr:((fields.mapM fun f=>(do pure (f.offset,<- sizeOf f.type):Sem (Nat×Nat))).run P w)=.ok (fs.map fun f=>(f.1,f.2.1)).toArray w:=by
  rw [Array.mapM_eq_mapM_toList];rw [<- bind_pure_comp,Sem.run_bind,hpl'];rfl
 have e1:(parts.map fun p=>(p.1,a.eval p.2))=ps.toArray:=by rw [<- ha.evP hp,<- xc1,xc2]
 have hf:=a4h hL;have hpe:(fun (i:Nat)=>(fs[i]?).map fun (f:Nat×Nat×Bool)=>(f.1,f.2.1))=(fun (i:Nat)=>((fs.map fun (f:Nat×Nat×Bool)=>(f.1,f.2.1)).toArray)[i]?):=by funext i;simp
 rw [hpe] at hf;have e2:(parts.map fun (x:Nat×Operand)=>match x with|(i,x)=>(i,a.eval x))=ps.toArray:=e1;simp only [execOp,e2,Instr.build,zeroValue,typeInfo,Sem.run_bind,run_program,Result.andThen_ok,hi,hz,Sem.run_pure,underlying,hu,harr,hf,Value.cells]
end
theorem a2I {w:World} {e size:Nat} {rows:List (List Value)} (hm:rows.length<=maxLen) (hs:∀ r ∈ rows,r.length=size) (h1:∀ r ∈ rows,r.all (·.oneCell')=true) :
  (Asr.row e size (.slice (some ⟨w.heap.size,0,none⟩) rows.length rows.length) rows).holds (w.alloc (.cells rows.flatten.toArray e)) :=
 ⟨⟨f5 hs,.inr ⟨w.heap.size,rows.length,rows.flatten.toArray,rfl,xe7 _,heap_alloc_new w _,xc4 _,hm,by simp [<- f5 hs],by rw [<- f5 hs,xe8,xe9]⟩⟩,hs,h1⟩
def a0L:Nat->Nat->List (Nat×Value)->Option (List (List Value))
 |_,_,[]=>some []
 |k,s,(i,v)::r=>match v,a0L (k + 1) s r with
  |.agg ⟨l⟩,some rs=>bif Nat.beq i k && Nat.beq l.length s then some (l::rs) else none
  |.tuple _,_=>none
  |u,some rs=>bif Nat.beq i k && Nat.beq s 1 then some ([u]::rs) else none
  |_,none=>none
theorem a2N {k s i:Nat} {v:Value} {r:List (Nat×Value)} {rows:List (List Value)} (h:a0L k s ((i,v)::r)=some rows):∃ rs,rows=v.cells.toList::rs/\a0L (k + 1) s r=some rs/\i=k/\v.cells.toList.length=s:=by
 simp only [a0L] at h
 split at h
 ·rename_i l rs h2;by_cases hc:(Nat.beq i k && Nat.beq l.length s)=true
  ·rw [hc] at h
   cases h
   simp only [xb6] at hc;exact ⟨rs,rfl,h2,xa8 hc.1,xa8 hc.2⟩
  ·rw [Bool.not_eq_true] at hc;rw [hc] at h;cases h
 ·cases h
 ·rename_i u _ _ rs n1 n2 h2;by_cases hc:(Nat.beq i k && Nat.beq s 1)=true
  ·rw [hc] at h
   cases h
   simp only [xb6] at hc;have e:u.cells=#[u]:=by cases u <;> first|rfl|exact (n1 _ rfl).elim
   exact ⟨rs,by rw [e],h2,xa8 hc.1,by rw [e,xa8 hc.2];rfl⟩
  ·rw [Bool.not_eq_true] at hc;rw [hc] at h;cases h
 ·cases h
theorem a21 {s:Nat}:∀ {ps:List (Nat×Value)} {k:Nat} {rows:List (List Value)} (A Z:List Value),a0L k s ps=some rows->A.length=k * s->Z.length=rows.length * s->y7 (fun i=>some (i * s,s)) (A++Z) ps=some (A++rows.flatten)/\∀ r ∈ rows,r.length=s:=by
 intro ps
 induction ps with
 |nil=>intro k rows A Z h hA hZ;simp only [a0L,Option.some.injEq] at h;subst h;simp at hZ;subst hZ;exact ⟨by simp [y7],by simp⟩
 |cons x r ih=>
  obtain ⟨i,v⟩:=x;intro k rows A Z h hA hZ;obtain ⟨rs,rfl,h2,rfl,hl⟩:=a2N h;simp only [xd5,xd3] at hZ;obtain ⟨Z1,Z2,rfl,hZ1⟩:∃ Z1 Z2,Z=Z1++Z2/\Z1.length=s:=⟨Z.take s,Z.drop s,by simp,by rw [xa1];omega⟩;have e:l7 (A++(Z1++Z2)) (i * s) v.cells.toList=(A++v.cells.toList)++Z2:=by
   have:=a3T A (Z1++Z2) 0 v.cells.toList;rw [xe6,hA] at this;rw [this,a0W _ _ _ _ (by omega),a4b _ _ (by omega)];simp
  have:=ih (A++v.cells.toList) Z2 h2 (by rw [xd4,hA,hl,xd3]) (by simp at hZ;omega);refine ⟨?_,fun r hr=>?_⟩
  ·simp only [y7,hl];rw [show (Nat.beq s s && Nat.ble (i * s + s) (A++(Z1++Z2)).length)=true from by simp [hA];omega];rw [e]
   simpa using this.1
  ·rcases xb3.1 hr with rfl|hr
   ·exact hl
   ·exact this.2 r hr
def a1t (rows:List (List Value)):Bool:=rows.all fun r=>r.all (·.oneCell')
theorem a1z {rows:List (List Value)} (h:a1t rows=true):∀ r ∈ rows,r.all (·.oneCell')=true:=fun r hr=>xb7.1 h r hr
section
variable {P:Program} {n:Nat} {ds:List Deferred} {E:Fr} {w:World} {dst:Option Nat} {ty:TypeId} {pos:String} {after:Array Edge} {F:Nat->Prop} {w0:World} {Γ:List Asr} {T:Tab}
theorem a7c (hS:St F w0 w Γ) (hT:TabOk P T) {t e sz eb len:Nat} {ag:Bool} {ez:List Value} {parts:Array (Nat×Operand)} {ps:List (Nat×Value)} {rows:List (List Value)} (ht:T.get t=some (.sl e sz eb ag ez)) (hp:evP E parts.toList=some ps) (hr:a0L 0 sz ps=some rows) (hl:Nat.beq rows.length len=true)
  (hbig:Nat.ble (len * sz) 16777216=true) (h1:a1t rows=true) :
  Gets P ⟨dst,.buildSlice t len parts,ty,pos,after,none⟩ n ds E w (fun v w'=>∃ g,v=.slice (some ⟨g,0,none⟩) len len/\St F w0 w' (.row e sz (.slice (some ⟨g,0,none⟩) len len) rows::Γ)):=by
 intro a ha K Q k;obtain ⟨j,zv,hu,hi,_,hs,_,hz,hzl,_,hsz,hs0⟩:=hT.sl ht;have hlen:=xa8 hl;have hb:=xe5 hbig;subst hlen;have e1:(parts.map fun p=>(p.1,a.eval p.2))=ps.toArray:=by rw [<- ha.evP hp,<- xc1,xc2]
 have e2:(parts.map fun (x:Nat×Operand)=>match x with|(i,x)=>(i,a.eval x))=ps.toArray:=e1;have hfil:∀ Z:List Value,Z.length=rows.length * sz->Instr.fill (fun i=>some (i * sz,sz)) Z.toArray ps=some rows.flatten.toArray:=fun Z hZ=>by
  have:=a4h ((a21 [] Z hr (by simp) hZ).1)
  simpa using this
 have hrows:=(a21 [] (List.replicate (rows.length * sz) undef) hr (by simp) (by simp)).2;have hrun:(execOp a.eval ⟨dst,.buildSlice t rows.length parts,ty,pos,after,none⟩).run P w=.ok (.value (.slice (some ⟨w.heap.size,0,none⟩) rows.length rows.length)) (w.alloc (.cells rows.flatten.toArray e)):=by
  have hfil2:∀ (zero:Array Value),Instr.fill (fun i=>some (i * sz,sz)) ((Array.range (rows.length * sz)).map (zero[·% zero.size]!)) ps=some rows.flatten.toArray:=fun zero=>by
   have:=hfil ((Array.range (rows.length * sz)).map (zero[·% zero.size]!)).toList (by simp)
   rwa [xc2] at this
  simp only [execOp,e2,Instr.buildSlice,underlying,Sem.run_bind,run_program,Result.andThen_ok,hu,Sem.run_pure,sizeOf,typeInfo,hi,hs];rw [xd7 (by omega)];by_cases h0:rows.length * sz=0
  ·simp only [h0,if_true];have:=hfil2 #[];rw [h0] at this;simp only [Sem.run_bind,Sem.run_pure,Result.andThen_ok,this];rfl
  ·rw [xd7 h0];simp only [zeroValue,typeInfo,Sem.run_bind,run_program,Result.andThen_ok,hi,Sem.run_pure,hz,hfil2];rfl
 unfold Oper.wp;rw [hrun];have hml:rows.length<=maxLen:=by
  have:1<=sz:=xf0 hs0;have:=xf1 rows.length this;unfold maxLen;omega
 exact k _ _ ⟨w.heap.size,rfl,hS.new (World.grownBy_alloc w _ none) (a2I hml hrows (a1z h1)) (by simp [Asr.fp,Value.ownBlock])⟩
theorem b0j (hS:St F w0 w Γ) (hT:TabOk P T) {t e sz eb m:Nat} {ag:Bool} {ez:List Value} {x y:Operand} {i j:Int} (ht:T.get t=some (.sl e sz eb ag ez)) (hx:E.ev x=some (.int .i64 i)) (hy:E.ev y=some (.int .i64 j)) (hi:(m:Int)=i) (hj:(m:Int)=j) (hm:m<=140737488355327) (hb:(eb:Int) * m<=281474976710656) (h1:ez.all (·.oneCell')=true) :
  Gets P ⟨dst,.makeSlice t x y,ty,pos,after,none⟩ n ds E w (fun v w'=>∃ g,v=.slice (some ⟨g,0,none⟩) m m/\St F w0 w' (.row e sz (.slice (some ⟨g,0,none⟩) m m) (List.replicate m ez)::Γ)):=by
 intro a ha K Q k;obtain ⟨ji,zv,hu,hinfo,_,hs,hby,hz,hzl,_,hsz,hs0⟩:=hT.sl ht;subst hi;subst hj;have hr:=run_make (P:=P) w t e ji zv hu hinfo hz .i64 .i64 m m (by omega) (by omega) (by rw [hby];exact hb) (by omega);have hrows:∀ r ∈ List.replicate m ez,r.length=sz:=fun r hr=>by rw [(List.mem_replicate.1 hr).2,hsz]
 have hone:∀ r ∈ List.replicate m ez,r.all (·.oneCell')=true:=fun r hr=>by rw [(List.mem_replicate.1 hr).2];exact h1
 have d9:madeCells zv.cells (m * ji.size)=(List.replicate m ez).flatten.toArray:=by
  have hsize:zv.cells.size=sz:=by rw [<- xf2,hzl,hsz]
  have hzc:zv.cells=ez.toArray:=by rw [<- hzl]
  apply Array.ext';apply xf3;intro q;rw [hs];by_cases hq:q < m * sz
  ·have hdiv:q / sz < m:=xf4 (by rw [xf5];exact hq);have hmod:=Nat.mod_lt q (xf0 hs0);have h3:=a08 hrows (i:=q / sz) (j:=q % sz) (r:=ez) (by simp [hdiv]) hmod;rw [show q / sz * sz + q % sz=q from by rw [xf5];exact xf6 q sz] at h3;simp only [madeCells,xc1,Array.toList_range,xf7,List.getElem?_range hq,xf8];rw [h3,hsize,hzc];have hmz:q % sz < ez.length:=by rw [<- hsz];exact hmod
   simp [hmz]
  ·rw [xf9 (by simp [madeCells];omega),xf9 (by rw [xe8,f5 hrows];simp;omega)]
 have hrun:(execOp a.eval ⟨dst,.makeSlice t x y,ty,pos,after,none⟩).run P w=.ok (.value (.slice (some ⟨w.heap.size,0,none⟩) m m)) (w.alloc (.cells (List.replicate m ez).flatten.toArray e)):=by
  simp only [execOp,ha.ev hx,ha.ev hy,Sem.run_bind,hr,Result.andThen_ok,Sem.run_pure,Int.toNat_natCast,d9]
 unfold Oper.wp;rw [hrun];have hal:=a2I (w:=w) (e:=e) (rows:=List.replicate m ez) (by simp;unfold maxLen;omega) hrows hone;simp only [xg0] at hal;exact k _ _ ⟨w.heap.size,rfl,hS.new (World.grownBy_alloc w _ none) hal (by simp [Asr.fp,Value.ownBlock])⟩
theorem a3G (hS:St F w0 w Γ) (hT:TabOk P T) {t e sz eb m c b off i:Nat} {ag:Bool} {ez:List Value} {x y:Operand} {v:Value} {rows news:List (List Value)} (ht:T.get t=some (.sl e sz eb ag ez)) (hx:E.ev x=some v) (hi:Γ[i]?=some (.row e sz v rows)) (hy:E.ev y=some (.slice (some ⟨b,off,none⟩) m c))
  (hn:RoAt nF w b off sz news) (hm:news.length=m) (hbig:(rows.length + m) * (eb + 1)<=140737488355328) :
  Gets P ⟨dst,.call { callee:=.builtin .append,args:=#[x,y],argTypes:=#[t,t] },ty,pos,after,none⟩ n ds E w (fun v' w'=>∃ p cap,v'=.slice p (rows.length + m) cap/\St F w0 w' (Γ.set i (.row e sz (.slice p (rows.length + m) cap) (rows++news)))):=by
 intro a ha K Q k;obtain ⟨ji,zv,hu,hinfo,_,hs,hby,hz,hzl,_,hsz,hs0⟩:=hT.sl ht;obtain ⟨ho,hlen,hone⟩:=hS.at_ hi;have hb1:(rows.length + m) * eb + (rows.length + m)<=140737488355328:=by rw [Nat.mul_succ] at hbig;exact hbig
 have hr:=run_append_own_at (P:=P) w 0 t ty e ji zv sz eb hu hinfo hz hs hby (by rw [<- xf2,hzl,hsz]) (xf0 hs0) v rows.length rows.flatten ho ⟨b,off,none⟩ m c news.flatten
  (by rw [f5 hn.len,hm])
  (fun j u hj=>by
   have hjl:j < news.length * sz:=by rw [<- f5 hn.len];exact a7 hj
   have hdiv:j / sz < news.length:=xf4 (by rw [xf5];exact hjl);have hmod:=Nat.mod_lt j (xf0 hs0);have h3:=a08 hn.len (i:=j / sz) (j:=j % sz) (xd0 hdiv) hmod;rw [show j / sz * sz + j % sz=j from by rw [xf5];exact xf6 j sz] at h3;rw [h3] at hj;have:=hn.cells (j / sz) _ (xd0 hdiv) (j % sz) u hj;rw [Addr.add_mid]
   rwa [xe2,show j / sz * sz + j % sz=j from by rw [xf5];exact xf6 j sz] at this)
  (fun u hu=>by
   obtain ⟨r,hr,hur⟩:=List.mem_flatten.1 hu;exact xb7.1 (hn.one r hr) u hur)
  (by unfold maxLen;omega) (by omega) (xe7 _)
 obtain ⟨v',w',hrun,hown,hg,_,hat⟩:=hr;have hex:(execOp a.eval ⟨dst,.call { callee:=.builtin .append,args:=#[x,y],argTypes:=#[t,t] },ty,pos,after,none⟩).run P w=.ok (.value v') w':=by
  simp [execOp,resolve,invoke,builtin,ha.ev hx,ha.ev hy,hrun,Result.andThen]
 unfold Oper.wp;rw [hex];have hown':(Asr.row e sz v' (rows++news)).holds w':=⟨by rw [xd4,xe4,hm];exact hown,fun r hr=>by
   rcases xd1.1 hr with hr|hr
   ·exact hlen r hr
   ·exact hn.len r hr,fun r hr=>by
   rcases xd1.1 hr with hr|hr
   ·exact hone r hr
   ·exact hn.one r hr⟩
 have hfp:∀ k,v'.ownBlock=some k->v.ownBlock=some k\/w.heap.size<=k:=fun q hq=>by
  rcases hat with h|h
  ·exact xc6 (h ▸ hq)
  ·rw [h] at hq;cases hq;exact xc3 (xc4 _)
 obtain ⟨p,cap,hv'⟩:∃ p cap,v'=.slice p (rows.length + m) cap:=by
  rcases hown.2 with ⟨rfl,h0⟩|⟨g,cap,cur,rfl,_⟩
  ·exact ⟨none,0,by rw [h0]⟩
  ·exact ⟨_,_,rfl⟩
 subst hv';exact k _ _ ⟨p,cap,rfl,hS.upd hi hg hown' hfp⟩
end
end Go.Proofs.YtejnpppejalhfadGreat
