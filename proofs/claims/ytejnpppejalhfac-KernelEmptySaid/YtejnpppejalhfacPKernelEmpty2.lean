/- Texts that the proof stands on, one behind the other: Sc8, Sc9, Sc10, Sc11, PlImg, Plain, PlLnk, Hold, PlArea, PlArea2, Ar1, Ar2, Ar3, Ar4, Ar7, Ar8, Ar9, Ar10, Ar17, Tab, As1, As2, Ar19, Ar20, Ar21, Ar22, Ar23. -/
import Derived.Laws.StructEq
import Derived.Lib.SliceRun
import Derived.Laws.Pointers
import Derived.WalkSpells
import Derived.Lib.AppendStr
import Derived.Laws.RangeString
import Derived.LoopN
import Derived.Handy
import Derived.Test.YtejnpppejalhfacProg
import Derived.Lib.QuietBelow
import Derived.BigQuiet
import Derived.Deep.QuietTactic
import Derived.Deep.DeepAppendWide
import Derived.Laws.OwnMore
import Derived.Laws.Cover2
import Derived.Maps.AppendAt
import Derived.Deep.RegionWith
import Derived.Deep.DeepCutAuto
import Derived.Lib.AppendZerosOnto
import Derived.Lib.Walk
import Derived.Test.YtejnpppejalhfacPKernelEmpty1
/- THE STEP CALCULUS, part 8: stores into rows; calls; the way in and the way out; regions that draw their order. -/
namespace Go.Proofs.Ytejnpppejalhfac
open Go.RowKit Go.Sort
theorem a3I {w:World} {g:Nat} {cur:Array Value} {t:TypeId} (h:w.heap[g]?=some (.cells cur t (0,0))) (k:Nat) (vs:List Value):(w.setCells g k vs).heap[g]?=some (.cells (t8 cur.toList k vs).toArray t (0,0)):=by
 induction vs generalizing w cur k with
 |nil=>exact (by simpa [t8] using h:w.heap[g]?=some (.cells (t8 cur.toList k []).toArray t (0,0)))
 |cons v r ih=>
  have e:=setCell_eq_setRow w g k cur t (0,0) v h
  have h2:(w.setCell ⟨g,k,none⟩ v).heap[g]?=some (.cells (cur.setIfInBounds k v) t (0,0)):=by rw [e];exact setRow_heap w g _ _ t _ h
  have:=ih h2 (k + 1)
  exact (by simpa [t8] using this:((w.setCell ⟨g,k,none⟩ v).setCells g (k + 1) r).heap[g]?=some (.cells (t8 cur.toList k (v::r)).toArray t (0,0)))
section
variable {P:Program} {n:Nat} {ds:List Deferred} {E:Fr} {w:World} {dst:Option Nat} {ty:TypeId} {pos:String} {after:Array Edge} {F:Nat→Prop} {w0:World} {Γ:List Asr} {T:Tab}
theorem b1c (hT:TabOk P T) {t:TypeId} {ti:TI} (ht:T.get t=some ti):(P.info? t).map (·.size)=some ti.size:=by
 cases ti with
 |sc d s z=>obtain ⟨i,_,_,h,h2,_⟩:=hT.sc ht;have:=(hT.at_ ht).2;simp only [TI.okB,Bool.and_eq_true] at this;rw [h];simp [h2,TI.size,Nat.eq_of_beq_eq_true this.1]
 |st s fs z=>obtain ⟨_,i,_,_,h,h2,_⟩:=hT.st ht;rw [h];simp [h2,TI.size]
 |ar s m e g z=>obtain ⟨_,i,_,_,h,_,h2,_⟩:=hT.ar ht;rw [h];simp [h2,TI.size]
 |sl e z b g ez=>obtain ⟨_,_,_,_,⟨i,h,h2,_⟩,_⟩:=hT.sl ht;rw [h];simp [h2,TI.size]
theorem a2t (hS:St F w0 w Γ) (hT:TabOk P T) {t:TypeId} {ti:TI} {x y:Operand} {g kk j o i e sz m cap:Nat} {v:Value} {rows:List (List Value)} {r c:List Value} (ht:T.get t=some ti) (hx:E.ev x=some (.pointer (some ⟨g,o,none⟩))) (hy:E.ev y=some v) (hi:Γ[i]?=some (.row e sz (.slice (some ⟨g,0,none⟩) m cap) rows))
  (ho:o=0 + kk * sz + j) (hr:rows[kk]?=some r) (hc:v.cells.toList=c) (hsz:c.length=ti.size) (hk:j + ti.size≤sz) (h1:c.all (·.oneCell')=true) :
  Gets P ⟨dst,.store t x y,ty,pos,after,none⟩ n ds E w (fun _ w'=>St F w0 w' (Γ.set i (.row e sz (.slice (some ⟨g,0,none⟩) m cap) (rows.set kk (t8 r j c))))):=by
 intro a ha K Q k
 obtain ⟨hown,hlen,hone⟩:=hS.at_ hi
 rcases hown.2 with ⟨hv,_⟩|⟨g',cap',cur,hv,_,hg,hmc,hcm,hcs,htake⟩
 ·cases hv
 cases hv
 have hrl:r.length=sz:=hlen r (List.mem_of_getElem? hr)
 have hkl:=j3 hr
 have hHL:HoldL w g cur.toList:=⟨e,hg⟩
 have hspan:kk * sz + sz≤rows.length * sz:=by rw [← Nat.succ_mul];exact Nat.mul_le_mul_right _ hkl
 have hcl:rows.length * sz≤cur.size:=by rw [hcs];exact Nat.mul_le_mul_right _ hmc
 have hcells:v.cells.toList.length=c.length:=by rw [hc]
 have hthere:w.there g o v.cells.size:=fun q hq=>by
  have hq':q < c.length:=by rw [← hcells];simpa using hq
  have:o + q < cur.toList.length:=by simp;omega
  exact ⟨by rw [hHL.cell];simp only [Option.isSome_iff_exists];exact ⟨_,List.getElem?_eq_getElem this⟩,hHL.frozen _⟩
 have hx':(execOp a.eval ⟨dst,.store t x y,ty,pos,after,none⟩).run P w=.ok .skip (w.setCells g o c):=by
  simp only [execOp,ha.ev hx,ha.ev hy,Instr.storeAt,Instr.sureAddr,Sem.run_bind,Sem.run_pure,Result.andThen_ok]
  rw [a4q (by rw [b1c hT ht,← hsz,← hcells];simp) hthere (by rw [hc];exact fun u hu=>List.all_eq_true.1 h1 u hu),hc]
  rfl
 unfold Oper.wp
 rw [hx']
 have hA:(Asr.row e sz (.slice (some ⟨g,0,none⟩) rows.length cap) (rows.set kk (t8 r j c))).holds (w.setCells g o c):=by
  have hl2:∀ r' ∈ rows.set kk (t8 r j c),r'.length=sz:=fun r' hr'=>by
   rcases List.mem_or_eq_of_mem_set hr' with h|h
   ·exact hlen r' h
   ·rw [h,a5E,hrl]
  refine ⟨⟨by rw [s8 hl2],.inr ⟨g,cap,_,by simp,Nat.zero_le _,a3I hg o c,by simpa using hmc,hcm,by simp [a5E,hcs],?_⟩⟩,hl2,fun r' hr'=>?_⟩
  ·have hsplit:cur.toList=rows.flatten++cur.toList.drop (rows.length * sz):=by rw [← htake];simp
   have:=b20 hlen hr (c:=c) (j:=j) (by omega) (cur.toList.drop (rows.length * sz))
   rw [← hsplit] at this
   rw [List.toList_toArray,ho,Nat.zero_add,this]
   rw [show (rows.set kk (t8 r j c)).length * sz=(rows.set kk (t8 r j c)).flatten.length from (s8 hl2).symm]
   exact List.take_left
  ·rcases List.mem_or_eq_of_mem_set hr' with h|h
   ·exact hone r' h
   ·rw [h]
    have hr1:=hone r (List.mem_of_getElem? hr)
    have:∀ (c:List Value) (L:List Value) (q:Nat),L.all (·.oneCell')=true→c.all (·.oneCell')=true→(t8 L q c).all (·.oneCell')=true:=by
     intro c
     induction c with
     |nil=>intro L q h _;exact h
     |cons x c ih=>
      intro L q h h2
      simp only [List.all_cons,Bool.and_eq_true] at h2
      refine ih _ _ ?_ h2.2
      rw [List.all_eq_true]
      intro y hy
      rcases List.mem_or_eq_of_mem_set hy with h3|h3
      ·exact List.all_eq_true.1 h y h3
      ·rw [h3];exact h2.1
    exact this c r j hr1 h1
 exact k undef _ (hS.upd hi (a1o w g o c) hA (fun q hq=>Or.inl hq))
/-! calls -/
structure a4A (P:Program) (f:FuncId) (fn:Func):Prop where
 at_:P.funcs[f]?=some fn
 name : (fn.name == "runtime.NumGoroutine") = false
 body:fn.body.isNone=false
structure Fn (P:Program) (f:FuncId) (args:List Value) (w:World) (Φ:Value→World→Prop):Prop where
 ok:∃ fn,a4A P f fn
 calls:Calls P f args.toArray w (fun e w'=>∃ v,e=.returned v∧Φ v w')
theorem Fn.mono {f:FuncId} {args:List Value} {Φ Ψ:Value→World→Prop} (h:Fn P f args w Φ) (hi:∀ v w',Φ v w'→Ψ v w'):Fn P f args w Ψ:=⟨h.ok,h.calls.mono fun _ _ ⟨v,he,hv⟩=>⟨v,he,hi v _ hv⟩⟩
theorem a4c {f:FuncId} {fn:Func} (h:a4A P f fn) (args:Array Value) (w:World):(callFunc f args).run P w=.ok (.enter f args) w:=by
 have hb:=h.body
 unfold callFunc
 simp only [Sem.run_bind,run_program,Result.andThen_ok,h.at_]
 rw [if_neg (by rw [h.name];simp),if_neg (by rw [hb];simp)]
 rfl
theorem a0o {f:FuncId} {x:Operand} {args:Array Operand} {ats:Array TypeId} {vs:List Value} {first caps:List Value} {Φ:Value→World→Prop} (hx:E.ev x=some (.func (.func f) first.toArray caps.toArray)) (hv:E.evs args.toList=some vs) (h:Fn P f (first++vs++caps) w Φ) :
  Gets P ⟨dst,.call { callee:=.value x,args:=args,argTypes:=ats },ty,pos,after,none⟩ n ds E w Φ:=by
 intro a ha K Q k
 obtain ⟨⟨fn,hok⟩,hc⟩:=h
 have e1:args.map a.eval=vs.toArray:=by rw [← ha.evs hv,← Array.toList_map,Array.toArray_toList]
 have hrun:(execOp a.eval ⟨dst,.call { callee:=.value x,args:=args,argTypes:=ats },ty,pos,after,none⟩).run P w=.ok (.enter f (first++vs++caps).toArray) w:=by
  simp only [execOp,resolve,ha.ev hx,Deferred.ofValue,Sem.run_bind,Sem.run_pure,Result.andThen_ok,invoke,e1]
  rw [a4c hok]
  simp
 unfold Oper.wp
 rw [hrun]
 exact hc.mono fun e w' ⟨v,he,hΦ⟩=>by subst he;exact k v w' hΦ
def RBf (v:Value) (w:World):Value→World→Prop:=fun v' w'=>v'=v∧St nF w w' []
theorem Fn.of_rb {f:FuncId} {fn:Func} {args:List Value} {v:Value} (hok:a4A P f fn) (h:Calls P f args.toArray w (RB v w)):Fn P f args w (RBf v w):=⟨⟨fn,hok⟩,h.mono fun _ _ ⟨he,hb⟩=>⟨v,he,rfl,St.of_below hb⟩⟩
theorem Fn.of_same {f:FuncId} {fn:Func} {args:List Value} {v:Value} (hok:a4A P f fn) (h:Calls P f args.toArray w (fun e w'=>e=.returned v∧w=w')):Fn P f args w (fun v' w'=>v'=v∧w'=w):=⟨⟨fn,hok⟩,h.mono fun _ _ ⟨he,hb⟩=>⟨v,he,rfl,hb.symm⟩⟩
theorem Fn.rb {f:FuncId} {args:List Value} {v:Value} (h:Fn P f args w (RBf v w)):Calls P f args.toArray w (RB v w):=h.calls.mono fun _ _ ⟨_,he,hv,hs⟩=>⟨by rw [he,hv],hs.below⟩
/-! the way in -/
def b0a:Nat→List Value→Fr
 |_,[]=>[]
 |k,v::r=>(k,v)::b0a (k + 1) r
theorem b0y:∀ {args:List Value} {k t:Nat} {v:Value},Fr.get (b0a k args) t=some v→k≤t∧args[t - k]?=some v:=by
 intro args
 induction args with
 |nil=>intro k t v h;cases h
 |cons x r ih=>
  intro k t v h
  simp only [b0a,Fr.get] at h
  by_cases e:k=t
  ·subst e;simp at h;subst h;simp
  ·rw [b2c e] at h
   obtain ⟨h1,h2⟩:=ih (by simpa using h)
   exact ⟨by omega,by rw [show t - k=(t - (k + 1)) + 1 from by omega];simpa using h2⟩
theorem j0 {f:FuncId} {fn:Func} {c:Code} {args:List Value} {Φ:Value→World→Prop} {m:Nat} (hok:a4A P f fn) (hb:fn.body=some c) (hm:fn.ntmps=m) (hl:Nat.ble args.length m=true)
  (h:WC P c (bodyPost P fn (fun e w'=>∃ v,e=.returned v∧Φ v w')) m [] (b0a 0 args) w):Fn P f args w Φ:=by
 refine ⟨⟨fn,hok⟩,calls_of_wp hok.at_ hb (h _ ⟨?_,rfl,fun t v ht=>?_⟩)⟩
 ·have:=Nat.le_of_ble_eq_true hl
  simp;omega
 ·obtain ⟨_,h2⟩:=b0y ht
  have hlt:=j3 h2
  rw [Nat.sub_zero] at h2 hlt
  rw [Array.getD_eq_getD_getElem?,Array.getElem?_append_left (by simpa using hlt)]
  simp [h2]
/-! the way out -/
inductive ResL (P:Program) (E:Fr) (w:World):List ResultVar→List Value→Prop where
 |nil:ResL P E w [] []
 |tmp {t:Nat} {v:Value} {r:List ResultVar} {vs:List Value} (h:E.get t=some v) (k:ResL P E w r vs):ResL P E w (.tmp t::r) (v::vs)
 |cell {t:Nat} {ty:TypeId} {a:Addr} {v:Value} {r:List ResultVar} {vs:List Value} (h:E.get t=some (.pointer (some a))) (hl:Loads P ty a v w) (k:ResL P E w r vs):ResL P E w (.cell t ty::r) (v::vs)
theorem ResL.run {rs:List ResultVar} {vs:List Value} (h:ResL P E w rs vs) {a:Act} (ha:Has n ds a E):(rs.mapM fun (x:ResultVar)=>(match x with
  |.tmp t=>(pure (a.tmps.getD t undef):Sem Value)
  |.cell p t=>do loadVar t (← asAddr (a.tmps.getD p undef)))).run P w=.ok vs w:=by
 induction h with
 |nil=>rfl
 |tmp h _ ih=>
  rw [List.mapM_cons]
  simp only [Sem.run_bind,Sem.run_pure,Result.andThen_ok,ih,ha.at_ _ _ h]
 |cell h hl _ ih=>
  unfold Loads at hl
  rw [List.mapM_cons]
  simp only [Sem.run_bind,Sem.run_pure,ha.at_ _ _ h]
  rename_i p _ _ _ _
  rw [show (asAddr (.pointer (some p)):Sem Addr)=pure p from rfl,Sem.run_pure,Result.andThen_ok,hl,Result.andThen_ok,ih]
  rfl
def b0k:List Value→Value
 |[v]=>v
 |vs=>.tuple vs.toArray
theorem b4S {fn:Func} {Φ:Value→World→Prop} {rs:List ResultVar} {vs:List Value} {v:Value} (hrs:fn.results.toList=rs) (hr:ResL P E w rs vs) (hv:b0k vs=v) (hΦ:Φ v w) {a:Act} (ha:Has n [] a E):a.defers=[]∧∃ v,(results fn a.tmps).run P w=.ok v w∧∃ u,Ending.returned v=.returned u∧Φ u w:=by
 refine ⟨ha.defers,v,?_,v,rfl,hΦ⟩
 have h:=hr.run ha
 rw [← hrs] at h
 unfold results
 rw [Array.mapM_eq_mapM_toList,Sem.run_bind]
 have h2:(List.toArray <$> (fn.results.toList.mapM fun (x:ResultVar)=>(match x with
  |.tmp t=>(pure (a.tmps.getD t undef):Sem Value)
  |.cell p t=>do loadVar t (← asAddr (a.tmps.getD p undef))))).run P w=.ok vs.toArray w:=by
  rw [← bind_pure_comp,Sem.run_bind,h]
  rfl
 refine (congrArg (fun r=>Result.andThen r _) h2).trans ?_
 subst hv
 match vs with
 |[]=>rfl
 |[x]=>rfl
 |x::y::r=>simp [b0k]
theorem a8l {fn:Func} {Φ:Value→World→Prop} {rs:List ResultVar} {vs:List Value} {v:Value} (hrs:fn.results.toList=rs) (hr:ResL P E w rs vs) (hv:b0k vs=v) (hΦ:Φ v w):WQ (bodyPost P fn (fun e w'=>∃ v,e=.returned v∧Φ v w')) .ret n [] E w:=fun _ ha=>b4S hrs hr hv hΦ ha
theorem b5S {fn:Func} {Φ:Value→World→Prop} {rs:List ResultVar} {vs:List Value} {v:Value} (hrs:fn.results.toList=rs) (hr:ResL P E w rs vs) (hv:b0k vs=v) (hΦ:Φ v w):WQ (bodyPost P fn (fun e w'=>∃ v,e=.returned v∧Φ v w')) .normal n [] E w:=fun _ ha=>b4S hrs hr hv hΦ ha
end
/-! regions that draw their order: quiet operations in whatever order, then a tail in one order -/
section
variable {P:Program} {n:Nat} {ds:List Deferred} {E:Fr} {w:World} {Q:Exit→Act→World→Prop} {ops:Array Oper} {rest:List Oper} {C:World→Prop} {d:Nat} {op:Op} {ty:TypeId} {pos:String} {after:Array Edge}
def WD (P:Program) (ops:Array Oper) (C:World→Prop) (K:Act→Prop) (l:List Oper) (n:Nat) (ds:List Deferred) (E:Fr):Prop:=∀ a,Has n ds a E→wpQuiet P ops C K l a
theorem a0X (F:Nat→Prop) (w0:World) (Γ:List Asr) {id:Nat} {l:List Oper} (m:Nat) (hm:P.follows .mixedOrders=true) (hB:Region.lexTailB .any l.toArray m=true) (hS:St F w0 w Γ)
  (h:WD P l.toArray (fun w'=>St F w0 w' Γ) (fun a'=>∀ w',St F w0 w' Γ→wpList P l.toArray Q (l.drop m) a' w') (l.take m) n ds E):WC P (.region id l.toArray true) Q n ds E w:=fun a ha=>
 a27 (C:=fun w'=>St F w0 w' Γ) m hm hB (hS.grow ⟨rfl,rfl,rfl,Nat.le_refl _,fun _ _ _=>rfl⟩) (h a ha)
theorem m7 (F:Nat→Prop) (w0:World) (Γ:List Asr) {id:Nat} {l:List Oper} (hm:P.follows .mixedOrders=true) (hB:Region.lexB .any l.toArray=true) (hS:St F w0 w Γ)
  (h:WD P l.toArray (fun w'=>St F w0 w' Γ) (fun a'=>∀ w',St F w0 w' Γ→wpList P l.toArray Q [] a' w') l n ds E):WC P (.region id l.toArray true) Q n ds E w:=fun a ha=>
 wp_region_quiet (C:=fun w'=>St F w0 w' Γ) hm hB (hS.grow ⟨rfl,rfl,rfl,Nat.le_refl _,fun _ _ _=>rfl⟩) (show wpQuiet P l.toArray _ (fun a'=>∀ w',St F w0 w' Γ→wpList P l.toArray Q [] a' w') l a from h a ha)
theorem r5 {S:World→Prop} {l:List Oper} (h:∀ w',S w'→WL P ops Q l n ds E w'):WD P ops C (fun a'=>∀ w',S w'→wpList P ops Q l a' w') [] n ds E:=fun a ha w' hw=>h w' hw a ha
theorem a38 {K:Act→Prop} {o:Oper} {a:Act} {v:Value} (hg:o.guard=none) (h:∀ w,C w→o.quietAt P a C w v) (k:wpQuiet P ops C K rest (a.put o.dst v)):wpQuiet P ops C K (o::rest) a:=by
 unfold wpQuiet
 rw [if_pos (by simp [Region.wanted,hg])]
 exact ⟨v,h,k⟩
theorem a1k {K:Act→Prop} {v:Value} (h:∀ a,Has n ds a E→a0I P ⟨some d,op,ty,pos,after,none⟩ a v) (hd:Nat.blt d n=true) (k:WD P ops C K rest n ds ((d,v)::E)):WD P ops C K (⟨some d,op,ty,pos,after,none⟩::rest) n ds E:=fun a ha=>
 a38 rfl (fun w _=>by unfold Oper.quietAt;rw [h a ha w];exact ⟨rfl,rfl⟩) (k _ (ha.put d v hd))
theorem o5 {K:Act→Prop} {T:Tab} (hT:TabOk P T) {v:Value} (h:a3Q T E op=some v) (hd:Nat.blt d n=true) (k:WD P ops C K rest n ds ((d,v)::E)):WD P ops C K (⟨some d,op,ty,pos,after,none⟩::rest) n ds E :=
 a1k (fun _ ha=>r8 hT ha h) hd k
theorem n6 {K:Act→Prop} {t:TypeId} {x:Operand} {p:Addr} {v:Value} (hx:E.ev x=some (.pointer (some p))) (h:∀ w,C w→Loads P t p v w) (hd:Nat.blt d n=true) (k:WD P ops C K rest n ds ((d,v)::E)):WD P ops C K (⟨some d,.load t x,ty,pos,after,none⟩::rest) n ds E:=fun a ha=>
 a38 (v:=v) rfl (fun w hw=>by
  have hl:=h w hw
  unfold Loads at hl
  simp only [Oper.quietAt,execOp,ha.ev hx,Instr.loadAt,Instr.sureAddr,Sem.run_bind,Sem.run_pure,Result.andThen_ok,hl]
  exact ⟨rfl,rfl⟩) (k _ (ha.put d v hd))
theorem d9 {t:TypeId} {x:Operand} {p:Addr} {v:Value} (hx:E.ev x=some (.pointer (some p))) (h:Loads P t p v w) (hd:Nat.blt d n=true) (k:WL P ops Q rest n ds ((d,v)::E) w):WL P ops Q (⟨some d,.load t x,ty,pos,after,none⟩::rest) n ds E w :=
 y7 hd (a7P hx h) (by rintro _ _ ⟨rfl,rfl⟩;exact k)
theorem a0A {F:Nat→Prop} {w0:World} {Γ:List Asr} {K:Act→Prop} {f:FuncId} {x:Operand} {args:Array Operand} {ats:Array TypeId} {vs:List Value} {first caps:List Value} {v:Value} (hx:E.ev x=some (.func (.func f) first.toArray caps.toArray)) (hv:E.evs args.toList=some vs) (h:∀ w,St F w0 w Γ→Fn P f (first++vs++caps) w (RBf v w)) (hd:Nat.blt d n=true)
  (k:WD P ops (fun w'=>St F w0 w' Γ) K rest n ds ((d,v)::E)):WD P ops (fun w'=>St F w0 w' Γ) K (⟨some d,.call { callee:=.value x,args:=args,argTypes:=ats },ty,pos,after,none⟩::rest) n ds E:=fun a ha=>
 a38 (v:=v) rfl (fun w hw=>by
  obtain ⟨⟨fn,hok⟩,hc⟩:=h w hw
  have e1:args.map a.eval=vs.toArray:=by rw [← ha.evs hv,← Array.toList_map,Array.toArray_toList]
  unfold Oper.quietAt
  simp only [execOp,resolve,ha.ev hx,Deferred.ofValue,Sem.run_bind,Sem.run_pure,Result.andThen_ok,invoke,e1]
  rw [a4c hok]
  refine ⟨rfl,?_⟩
  simp only [List.append_toArray]
  exact hc.mono fun e w' ⟨u,he,hu,hs⟩=>⟨by rw [he,hu],hw.grow (a3n hs.below)⟩) (k _ (ha.put d v hd))
theorem a3H {K:Act→Prop} {j:Nat} {want b:Bool} {oj:Oper} {dj:Nat} {dst:Option Nat} (hj:ops[j]?=some oj) (hdj:oj.dst=some dj) (hlt:Nat.blt dj n=true) (hb:E.get dj=some (.bool b)) (he:b=want) (k:WD P ops C K (⟨dst,op,ty,pos,after,none⟩::rest) n ds E) :
  WD P ops C K (⟨dst,op,ty,pos,after,some (j,want)⟩::rest) n ds E:=fun a ha=>by
 have hw:=a07 (o:=⟨dst,op,ty,pos,after,some (j,want)⟩) rfl hj hdj hb ha hlt
 have h:=k a ha
 unfold wpQuiet at h ⊢
 rw [if_pos (show Region.wanted _ _=true from rfl)] at h
 rw [if_pos (by rw [hw,he];cases want <;> rfl)]
 exact h
theorem a7A {K:Act→Prop} {j:Nat} {want b:Bool} {oj:Oper} {dj:Nat} (hj:ops[j]?=some oj) (hdj:oj.dst=some dj) (hlt:Nat.blt dj n=true) (hb:E.get dj=some (.bool b)) (he:b=!want) (hd:Nat.blt d n=true) (k:WD P ops C K rest n ds ((d,undef)::E)) :
  WD P ops C K (⟨some d,op,ty,pos,after,some (j,want)⟩::rest) n ds E:=fun a ha=>by
 have hw:=a07 (o:=⟨some d,op,ty,pos,after,some (j,want)⟩) rfl hj hdj hb ha hlt
 unfold wpQuiet
 rw [if_neg (by rw [hw,he];cases want <;> simp)]
 exact k _ (ha.put d undef hd)
theorem b5x {K:Act→Prop} {j:Nat} {want b:Bool} {oj:Oper} {dj:Nat} {dst:Option Nat} (_hj:ops[j]?=some oj) (_hdj:oj.dst=some dj) (_hb:E.get dj=some (.bool b)) (k1:b=true→WD P ops C K (⟨dst,op,ty,pos,after,some (j,want)⟩::rest) n ds E) (k2:b=false→WD P ops C K (⟨dst,op,ty,pos,after,some (j,want)⟩::rest) n ds E) :
  WD P ops C K (⟨dst,op,ty,pos,after,some (j,want)⟩::rest) n ds E:=by cases b;exact k2 rfl;exact k1 rfl
theorem a1b {K:Act→Prop} {c x y:Operand} {b:Bool} {v:Value} (hc:E.ev c=some (.bool b)) (hb:b=true) (hv:E.ev x=some v) (hd:Nat.blt d n=true) (k:WD P ops C K rest n ds ((d,v)::E)):WD P ops C K (⟨some d,.pick c x y,ty,pos,after,none⟩::rest) n ds E :=
 a1k (fun a ha w=>by simp [execOp,ha.ev hc,asBool,hb,ha.ev hv]) hd k
theorem a1L {K:Act→Prop} {c x y:Operand} {b:Bool} {v:Value} (hc:E.ev c=some (.bool b)) (hb:b=false) (hv:E.ev y=some v) (hd:Nat.blt d n=true) (k:WD P ops C K rest n ds ((d,v)::E)):WD P ops C K (⟨some d,.pick c x y,ty,pos,after,none⟩::rest) n ds E :=
 a1k (fun a ha w=>by simp [execOp,ha.ev hc,asBool,hb,ha.ev hv]) hd k
end
end Go.Proofs.Ytejnpppejalhfac
/- THE STEP CALCULUS, part 9: the rules as the walk takes them. -/
namespace Go.Proofs.Ytejnpppejalhfac
open Go.RowKit Go.Sort
def a9W:Value→Option (List Value)
 |.agg ⟨l⟩=>some l
 |.tuple _=>none
 |v=>some [v]
theorem a1I {v:Value} {L:List Value} (h:a9W v=some L):v.cells.toList=L:=by
 unfold a9W at h
 split at h <;> cases h
 ·rfl
 ·rename_i n _;cases v <;> first|rfl|exact (n _ rfl).elim
section
variable {P:Program} {n:Nat} {ds:List Deferred} {E:Fr} {w:World} {Q:Exit→Act→World→Prop} {ops:Array Oper} {rest:List Oper} {d:Nat} {ty:TypeId} {pos:String} {after:Array Edge} {T:Tab}
theorem m0 {t yt:TypeId} {x y:Operand} {m k:Int} (hx:E.ev x=some (.int .i64 m)) (hy:E.ev y=some (.int .i64 k)) (h1:-9223372036854775808≤m + k) (h2:m + k≤9223372036854775807) (hd:Nat.blt d n=true) (k':WL P ops Q rest n ds ((d,.int .i64 (m + k))::E) w):WL P ops Q (⟨some d,.binOp .add t x y yt,ty,pos,after,none⟩::rest) n ds E w:=z8 (fun a ha=>a7X hx hy h1 h2 a ha _) hd k'
theorem a1v {C:World→Prop} {K:Act→Prop} {t yt:TypeId} {x y:Operand} {m k:Int} (hx:E.ev x=some (.int .i64 m)) (hy:E.ev y=some (.int .i64 k)) (h1:-9223372036854775808≤m + k) (h2:m + k≤9223372036854775807) (hd:Nat.blt d n=true) (k':WD P ops C K rest n ds ((d,.int .i64 (m + k))::E)):WD P ops C K (⟨some d,.binOp .add t x y yt,ty,pos,after,none⟩::rest) n ds E:=a1k (fun a ha=>a7X hx hy h1 h2 a ha _) hd k'
theorem a1X {t yt:TypeId} {x y:Operand} {m k:Int} (hx:E.ev x=some (.int .i64 m)) (hy:E.ev y=some (.int .i64 k)) (h1:-9223372036854775808≤m - k) (h2:m - k≤9223372036854775807) (hd:Nat.blt d n=true) (k':WL P ops Q rest n ds ((d,.int .i64 (m - k))::E) w):WL P ops Q (⟨some d,.binOp .sub t x y yt,ty,pos,after,none⟩::rest) n ds E w:=z8 (fun a ha=>b40 hx hy h1 h2 a ha _) hd k'
theorem a3G {C:World→Prop} {K:Act→Prop} {t yt:TypeId} {x y:Operand} {m k:Int} (hx:E.ev x=some (.int .i64 m)) (hy:E.ev y=some (.int .i64 k)) (h1:-9223372036854775808≤m - k) (h2:m - k≤9223372036854775807) (hd:Nat.blt d n=true) (k':WD P ops C K rest n ds ((d,.int .i64 (m - k))::E)):WD P ops C K (⟨some d,.binOp .sub t x y yt,ty,pos,after,none⟩::rest) n ds E:=a1k (fun a ha=>b40 hx hy h1 h2 a ha _) hd k'
theorem b0f {t yt:TypeId} {x y:Operand} {m k:Int} (hx:E.ev x=some (.int .i64 m)) (hy:E.ev y=some (.int .i64 k)) (h1:-9223372036854775808≤m * k) (h2:m * k≤9223372036854775807) (hd:Nat.blt d n=true) (k':WL P ops Q rest n ds ((d,.int .i64 (m * k))::E) w):WL P ops Q (⟨some d,.binOp .mul t x y yt,ty,pos,after,none⟩::rest) n ds E w:=z8 (fun a ha=>b4Z hx hy h1 h2 a ha _) hd k'
theorem a7g {t yt:TypeId} {x y:Operand} {m k:Int} (hx:E.ev x=some (.int .i64 m)) (hy:E.ev y=some (.int .i64 k)) (h1:0≤m) (h2:m≤9223372036854775807) (h3:0 < k) (hd:Nat.blt d n=true) (k':WL P ops Q rest n ds ((d,.int .i64 (m / k))::E) w):WL P ops Q (⟨some d,.binOp .quo t x y yt,ty,pos,after,none⟩::rest) n ds E w:=z8 (fun a ha=>b5Q hx hy h1 h2 h3 a ha _) hd k'
theorem b4Y {C:World→Prop} {K:Act→Prop} {t yt:TypeId} {x y:Operand} {m k:Int} (hx:E.ev x=some (.int .i64 m)) (hy:E.ev y=some (.int .i64 k)) (h1:0≤m) (h3:0 < k) (hd:Nat.blt d n=true) (k':WD P ops C K rest n ds ((d,.int .i64 (m % k))::E)):WD P ops C K (⟨some d,.binOp .rem t x y yt,ty,pos,after,none⟩::rest) n ds E:=a1k (fun a ha=>b54 hx hy h1 h3 a ha _) hd k'
theorem p8 (hT:TabOk P T) {t:TypeId} {x y:Operand} {el sz eb b off m c j:Nat} {ag:Bool} {z:List Value} {i:Int} (ht:T.get t=some (.sl el sz eb ag z)) (hx:E.ev x=some (.slice (some ⟨b,off,none⟩) m c)) (hy:E.ev y=some (.int .i64 i)) (hj:(j:Int)=i) (hm:j < m) (hd:Nat.blt d n=true) (k':WL P ops Q rest n ds ((d,.pointer (some ⟨b,off + j * sz,none⟩))::E) w):WL P ops Q (⟨some d,.indexAddr t x y,ty,pos,after,none⟩::rest) n ds E w:=z8 (fun a ha=>a7T hT ht hx hy hj hm a ha _) hd k'
theorem a05 {C:World→Prop} {K:Act→Prop} (hT:TabOk P T) {t:TypeId} {x y:Operand} {el sz eb b off m c j:Nat} {ag:Bool} {z:List Value} {i:Int} (ht:T.get t=some (.sl el sz eb ag z)) (hx:E.ev x=some (.slice (some ⟨b,off,none⟩) m c)) (hy:E.ev y=some (.int .i64 i)) (hj:(j:Int)=i) (hm:j < m) (hd:Nat.blt d n=true) (k':WD P ops C K rest n ds ((d,.pointer (some ⟨b,off + j * sz,none⟩))::E)):WD P ops C K (⟨some d,.indexAddr t x y,ty,pos,after,none⟩::rest) n ds E:=a1k (fun a ha=>a7T hT ht hx hy hj hm a ha _) hd k'
theorem b57 {C:World→Prop} {K:Act→Prop} (hT:TabOk P T) {t:TypeId} {sz:Nat} {z:Value} {x y:Operand} {l:List UInt8} {i:Int} {j:Nat} {c:UInt8} (ht:T.get t=some (.sc .string sz z)) (hx:E.ev x=some (.string ⟨l.toArray⟩)) (hy:E.ev y=some (.int .i64 i)) (hj:(j:Int)=i) (hc:l[j]?=some c) (hd:Nat.blt d n=true) (k':WD P ops C K rest n ds ((d,.int .u8 c.toNat)::E)):WD P ops C K (⟨some d,.index t x y,ty,pos,after,none⟩::rest) n ds E:=a1k (fun a ha=>b5Z hT ht hx hy hj hc a ha _) hd k'
theorem n7 (hT:TabOk P T) {t s:Nat} {fs:List (Nat×Nat×Bool)} {z L:List Value} {parts:Array (Nat×Operand)} {ps:List (Nat×Value)} (ht:T.get t=some (.st s fs z)) (hp:evP E parts.toList=some ps) (hL:a2a (fun i=>(fs[i]?).map fun f=>(f.1,f.2.1)) z ps=some L) (hd:Nat.blt d n=true) (k':WL P ops Q rest n ds ((d,.agg L.toArray)::E) w):WL P ops Q (⟨some d,.build t parts,ty,pos,after,none⟩::rest) n ds E w:=z8 (fun a ha=>a3A hT ht hp hL a ha) hd k'
theorem b0s {C:World→Prop} {K:Act→Prop} (hT:TabOk P T) {t s:Nat} {fs:List (Nat×Nat×Bool)} {z L:List Value} {parts:Array (Nat×Operand)} {ps:List (Nat×Value)} (ht:T.get t=some (.st s fs z)) (hp:evP E parts.toList=some ps) (hL:a2a (fun i=>(fs[i]?).map fun f=>(f.1,f.2.1)) z ps=some L) (hd:Nat.blt d n=true) (k':WD P ops C K rest n ds ((d,.agg L.toArray)::E)):WD P ops C K (⟨some d,.build t parts,ty,pos,after,none⟩::rest) n ds E:=a1k (fun a ha=>a3A hT ht hp hL a ha) hd k'
/-! equality at other types -/
theorem b2q (a b:Bool):(a == b)=decide (a=b):=by cases a <;> cases b <;> rfl
theorem b5N (hT:TabOk P T) {t yt:TypeId} {x y:Operand} {a b:Bool} {s:Nat} {z:Value} (ht:T.get t=some (.sc .bool s z)) (hx:E.ev x=some (.bool a)) (hy:E.ev y=some (.bool b)):∀ c,Has n ds c E→∀ dst,a0I P ⟨dst,.binOp .eql t x y yt,ty,pos,after,none⟩ c (.bool (decide (a=b))):=fun c hc _ w=>by
 obtain ⟨i,hu,_⟩:=hT.sc ht
 have e:(Op.equal t (.bool a) (.bool b)).run P w=.ok (decide (a=b)) w:=by rw [← b2q];exact run_equalIn_bool' (P:=P) w 9999 t a b hu
 simp only [execOp,hc.ev hx,hc.ev hy,eqGuard,binOp,Sem.run_bind]
 simp [e,Result.andThen]
theorem b53 (hT:TabOk P T) {t yt:TypeId} {x y:Operand} {a b:Bool} {s:Nat} {z:Value} (ht:T.get t=some (.sc .bool s z)) (hx:E.ev x=some (.bool a)) (hy:E.ev y=some (.bool b)):∀ c,Has n ds c E→∀ dst,a0I P ⟨dst,.binOp .neq t x y yt,ty,pos,after,none⟩ c (.bool (!decide (a=b))):=fun c hc _ w=>by
 obtain ⟨i,hu,_⟩:=hT.sc ht
 have e:(Op.equal t (.bool a) (.bool b)).run P w=.ok (decide (a=b)) w:=by rw [← b2q];exact run_equalIn_bool' (P:=P) w 9999 t a b hu
 simp only [execOp,hc.ev hx,hc.ev hy,eqGuard,binOp,Sem.run_bind]
 simp [e,Result.andThen]
theorem b5J (hT:TabOk P T) {t yt:TypeId} {x y:Operand} {a b:Bool} {s:Nat} {z:Value} (ht:T.get t=some (.sc .bool s z)) (hx:E.ev x=some (.bool a)) (hy:E.ev y=some (.bool b)) (hd:Nat.blt d n=true) (k':WL P ops Q rest n ds ((d,.bool (decide (a=b)))::E) w):WL P ops Q (⟨some d,.binOp .eql t x y yt,ty,pos,after,none⟩::rest) n ds E w:=z8 (fun a ha=>b5N hT ht hx hy a ha _) hd k'
theorem b5X {C:World→Prop} {K:Act→Prop} (hT:TabOk P T) {t yt:TypeId} {x y:Operand} {a b:Bool} {s:Nat} {z:Value} (ht:T.get t=some (.sc .bool s z)) (hx:E.ev x=some (.bool a)) (hy:E.ev y=some (.bool b)) (hd:Nat.blt d n=true) (k':WD P ops C K rest n ds ((d,.bool (!decide (a=b)))::E)):WD P ops C K (⟨some d,.binOp .neq t x y yt,ty,pos,after,none⟩::rest) n ds E:=a1k (fun a ha=>b53 hT ht hx hy a ha _) hd k'
def a9X (P:Program) (t:TypeId) (X Y:List Value) (b:Bool):Prop:=(∀ w,(Op.equalIn 10000 t (.agg X.toArray) (.agg Y.toArray)).run P w=.ok b w)∧P.eqGuardType P.depth t=false
theorem b5W {t yt:TypeId} {x y:Operand} {X Y:List Value} {b:Bool} (hx:E.ev x=some (.agg X.toArray)) (hy:E.ev y=some (.agg Y.toArray)) (h:a9X P t X Y b):∀ c,Has n ds c E→∀ dst,a0I P ⟨dst,.binOp .eql t x y yt,ty,pos,after,none⟩ c (.bool b):=fun c hc _ w=>by
 simp only [execOp,hc.ev hx,hc.ev hy,Sem.run_bind,run_eqGuard_agg w _ _ _ _ _ _ h.2,Result.andThen_ok,run_eql_struct,h.1 w,Sem.run_pure]
theorem b55 {t yt:TypeId} {x y:Operand} {X Y:List Value} {b:Bool} (hx:E.ev x=some (.agg X.toArray)) (hy:E.ev y=some (.agg Y.toArray)) (h:a9X P t X Y b):∀ c,Has n ds c E→∀ dst,a0I P ⟨dst,.binOp .neq t x y yt,ty,pos,after,none⟩ c (.bool (!b)):=fun c hc _ w=>by
 simp only [execOp,hc.ev hx,hc.ev hy,Sem.run_bind,run_eqGuard_agg w _ _ _ _ _ _ h.2,Result.andThen_ok,run_neq_struct,h.1 w,Sem.run_pure]
theorem b4N {t yt:TypeId} {x y:Operand} {X Y:List Value} {b:Bool} (hx:E.ev x=some (.agg X.toArray)) (hy:E.ev y=some (.agg Y.toArray)) (h:a9X P t X Y b) (hd:Nat.blt d n=true) (k':WL P ops Q rest n ds ((d,.bool b)::E) w):WL P ops Q (⟨some d,.binOp .eql t x y yt,ty,pos,after,none⟩::rest) n ds E w:=z8 (fun a ha=>b5W hx hy h a ha _) hd k'
theorem b42 {t yt:TypeId} {x y:Operand} {X Y:List Value} {b:Bool} (hx:E.ev x=some (.agg X.toArray)) (hy:E.ev y=some (.agg Y.toArray)) (h:a9X P t X Y b) (hd:Nat.blt d n=true) (k':WL P ops Q rest n ds ((d,.bool (!b))::E) w):WL P ops Q (⟨some d,.binOp .neq t x y yt,ty,pos,after,none⟩::rest) n ds E w:=z8 (fun a ha=>b55 hx hy h a ha _) hd k'
/-! tests -/
theorem k6 {c:Operand} {x y:Code} {p:Prop} {_i:Decidable p} (hc:E.ev c=some (.bool (decide p))) (ht:decide p=true→p→WC P x Q n ds E w) (hf:decide p=false→¬ p→WC P y Q n ds E w):WC P (.cond c x y) Q n ds E w :=
 b3a hc (fun h=>ht h (of_decide_eq_true h)) (fun h=>hf h (of_decide_eq_false h))
theorem a1e {c:Operand} {x y:Code} {p:Prop} {_i:Decidable p} (hc:E.ev c=some (.bool (!decide p))) (ht:(!decide p)=true→¬ p→WC P x Q n ds E w) (hf:(!decide p)=false→p→WC P y Q n ds E w):WC P (.cond c x y) Q n ds E w :=
 b3a hc (fun h=>ht h (by simpa using h)) (fun h=>hf h (by simpa using h))
theorem a8i {c:Operand} {x y:Code} {b:Bool} (hc:E.ev c=some (.bool b)) (ht:b=true→True→WC P x Q n ds E w) (hf:b=false→True→WC P y Q n ds E w):WC P (.cond c x y) Q n ds E w :=
 b3a hc (fun h=>ht h trivial) (fun h=>hf h trivial)
section
variable {op:Op}
theorem r6 {j:Nat} {want:Bool} {p:Prop} {_i:Decidable p} {oj:Oper} {dj:Nat} {dst:Option Nat} (_hj:ops[j]?=some oj) (_hdj:oj.dst=some dj) (_hb:E.get dj=some (.bool (decide p))) (k1:decide p=true→p→WL P ops Q (⟨dst,op,ty,pos,after,some (j,want)⟩::rest) n ds E w) (k2:decide p=false→¬ p→WL P ops Q (⟨dst,op,ty,pos,after,some (j,want)⟩::rest) n ds E w) :
  WL P ops Q (⟨dst,op,ty,pos,after,some (j,want)⟩::rest) n ds E w:=a9n _hj _hdj _hb (fun h=>k1 h (of_decide_eq_true h)) (fun h=>k2 h (of_decide_eq_false h))
theorem b4o {j:Nat} {want:Bool} {p:Prop} {_i:Decidable p} {oj:Oper} {dj:Nat} {dst:Option Nat} (_hj:ops[j]?=some oj) (_hdj:oj.dst=some dj) (_hb:E.get dj=some (.bool (!decide p))) (k1:(!decide p)=true→¬ p→WL P ops Q (⟨dst,op,ty,pos,after,some (j,want)⟩::rest) n ds E w) (k2:(!decide p)=false→p→WL P ops Q (⟨dst,op,ty,pos,after,some (j,want)⟩::rest) n ds E w) :
  WL P ops Q (⟨dst,op,ty,pos,after,some (j,want)⟩::rest) n ds E w:=a9n _hj _hdj _hb (fun h=>k1 h (by simpa using h)) (fun h=>k2 h (by simpa using h))
theorem b0q {j:Nat} {want b:Bool} {oj:Oper} {dj:Nat} {dst:Option Nat} (_hj:ops[j]?=some oj) (_hdj:oj.dst=some dj) (_hb:E.get dj=some (.bool b)) (k1:b=true→True→WL P ops Q (⟨dst,op,ty,pos,after,some (j,want)⟩::rest) n ds E w) (k2:b=false→True→WL P ops Q (⟨dst,op,ty,pos,after,some (j,want)⟩::rest) n ds E w) :
  WL P ops Q (⟨dst,op,ty,pos,after,some (j,want)⟩::rest) n ds E w:=a9n _hj _hdj _hb (fun h=>k1 h trivial) (fun h=>k2 h trivial)
variable {C:World→Prop} {K:Act→Prop}
theorem a1K {j:Nat} {want:Bool} {p:Prop} {_i:Decidable p} {oj:Oper} {dj:Nat} {dst:Option Nat} (_hj:ops[j]?=some oj) (_hdj:oj.dst=some dj) (_hb:E.get dj=some (.bool (decide p))) (k1:decide p=true→p→WD P ops C K (⟨dst,op,ty,pos,after,some (j,want)⟩::rest) n ds E) (k2:decide p=false→¬ p→WD P ops C K (⟨dst,op,ty,pos,after,some (j,want)⟩::rest) n ds E) :
  WD P ops C K (⟨dst,op,ty,pos,after,some (j,want)⟩::rest) n ds E:=b5x _hj _hdj _hb (fun h=>k1 h (of_decide_eq_true h)) (fun h=>k2 h (of_decide_eq_false h))
end
/-! the ways out -/
section
variable {fn:Func} {Φ:Value→World→Prop} {v v1 v2 v3:Value}
theorem a7r (hr:ResL P E w fn.results.toList []) (hΦ:Φ (.tuple #[]) w):WQ (bodyPost P fn (fun e w'=>∃ v,e=.returned v∧Φ v w')) .ret n [] E w:=a8l rfl hr rfl hΦ
theorem j6 (hr:ResL P E w fn.results.toList [v]) (hΦ:Φ v w):WQ (bodyPost P fn (fun e w'=>∃ v,e=.returned v∧Φ v w')) .ret n [] E w:=a8l rfl hr rfl hΦ
theorem s9 (hr:ResL P E w fn.results.toList [v1,v2]) (hΦ:Φ (.tuple #[v1,v2]) w):WQ (bodyPost P fn (fun e w'=>∃ v,e=.returned v∧Φ v w')) .ret n [] E w:=a8l rfl hr rfl hΦ
theorem a1C (hr:ResL P E w fn.results.toList [v1,v2,v3]) (hΦ:Φ (.tuple #[v1,v2,v3]) w):WQ (bodyPost P fn (fun e w'=>∃ v,e=.returned v∧Φ v w')) .ret n [] E w:=a8l rfl hr rfl hΦ
theorem a11 (hr:ResL P E w fn.results.toList []) (hΦ:Φ (.tuple #[]) w):WQ (bodyPost P fn (fun e w'=>∃ v,e=.returned v∧Φ v w')) .normal n [] E w:=b5S rfl hr rfl hΦ
end
/-! memory -/
variable {F:Nat→Prop} {w0:World} {Γ:List Asr}
theorem p7 (hS:St F w0 w Γ) {t:TypeId} {x:Operand} {v:Value} {L:List Value} (hx:E.ev x=some v) (hc:a9W v=some L) (hd:Nat.blt d n=true) (k:∀ g w',St F w0 w' (.blk g L::Γ)→WL P ops Q rest n ds ((d,.pointer (some ⟨g,0,none⟩))::E) w'):WL P ops Q (⟨some d,.box t x,ty,pos,after,none⟩::rest) n ds E w :=
 y7 hd (a4e hS hx) (by rintro _ w' ⟨g,rfl,h⟩;rw [a1I hc] at h;exact k g w' h)
theorem j7 (hS:St F w0 w Γ) (hT:TabOk P T) {t:TypeId} {i:TI} {L:List Value} (ht:T.get t=some i) (hL:some i.zeroCells=some L) (hd:Nat.blt d n=true) (k:∀ g w',St F w0 w' (.blk g L::Γ)→WL P ops Q rest n ds ((d,.pointer (some ⟨g,0,none⟩))::E) w'):WL P ops Q (⟨some d,.alloc t,ty,pos,after,none⟩::rest) n ds E w :=
 y7 hd (a0r hS hT ht hL) (by rintro _ w' ⟨g,rfl,h⟩;exact k g w' h)
theorem i7 (hS:St F w0 w Γ) (hT:TabOk P T) {t:TypeId} {ti:TI} {x y:Operand} {g j i:Nat} {v:Value} {L c L':List Value} (ht:T.get t=some ti) (hx:E.ev x=some (.pointer (some ⟨g,j,none⟩))) (hy:E.ev y=some v) (hi:Γ[i]?=some (.blk g L)) (hc:a9W v=some c)
  (hsz:Nat.beq c.length ti.size=true) (hk:Nat.ble (j + ti.size) L.length=true) (h1:c.all (·.oneCell')=true) (hL:t8 L j c=L') (k:∀ w',St F w0 w' (Γ.set i (.blk g L'))→WL P ops Q rest n ds E w'):WL P ops Q (⟨none,.store t x y,ty,pos,after,none⟩::rest) n ds E w :=
 a1M (o8 hS hT ht hx hy hi (by rw [a1I hc];exact Nat.eq_of_beq_eq_true hsz) (Nat.le_of_ble_eq_true hk) (by rw [a1I hc];exact fun u hu=>List.all_eq_true.1 h1 u hu)) (by intro _ w' h;rw [a1I hc,hL] at h;exact k w' h)
theorem a8N (hS:St F w0 w Γ) (hT:TabOk P T) {t:TypeId} {ti:TI} {x y:Operand} {g kk j o i e sz m cap:Nat} {v:Value} {rows:List (List Value)} {r c r':List Value} (ht:T.get t=some ti) (hx:E.ev x=some (.pointer (some ⟨g,o,none⟩))) (hy:E.ev y=some v) (hi:Γ[i]?=some (.row e sz (.slice (some ⟨g,0,none⟩) m cap) rows))
  (ho:o=0 + kk * sz + j) (hr:rows[kk]?=some r) (hc:a9W v=some c) (hsz:Nat.beq c.length ti.size=true) (hk:Nat.ble (j + ti.size) sz=true) (h1:c.all (·.oneCell')=true) (hL:t8 r j c=r') (k:∀ w',St F w0 w' (Γ.set i (.row e sz (.slice (some ⟨g,0,none⟩) m cap) (rows.set kk r')))→WL P ops Q rest n ds E w'):WL P ops Q (⟨none,.store t x y,ty,pos,after,none⟩::rest) n ds E w :=
 a1M (a2t hS hT ht hx hy hi ho hr (a1I hc) (Nat.eq_of_beq_eq_true hsz) (Nat.le_of_ble_eq_true hk) h1) (by intro _ w' h;rw [hL] at h;exact k w' h)
theorem a0p (hS:St F w0 w Γ) (hT:TabOk P T) {t:TypeId} {ti:TI} {x y:Operand} {g kk i e sz m cap:Nat} {v:Value} {rows:List (List Value)} {r c r':List Value} (ht:T.get t=some ti) (hx:E.ev x=some (.pointer (some ⟨g,0 + kk * sz,none⟩))) (hy:E.ev y=some v) (hi:Γ[i]?=some (.row e sz (.slice (some ⟨g,0,none⟩) m cap) rows))
  (hr:rows[kk]?=some r) (hc:a9W v=some c) (hsz:Nat.beq c.length ti.size=true) (hk:Nat.ble (0 + ti.size) sz=true) (h1:c.all (·.oneCell')=true) (hL:t8 r 0 c=r') (k:∀ w',St F w0 w' (Γ.set i (.row e sz (.slice (some ⟨g,0,none⟩) m cap) (rows.set kk r')))→WL P ops Q rest n ds E w'):WL P ops Q (⟨none,.store t x y,ty,pos,after,none⟩::rest) n ds E w :=
 a8N hS hT ht hx hy hi rfl hr hc hsz hk h1 hL k
theorem a0i (hS:St F w0 w Γ) (hT:TabOk P T) {t:TypeId} {ti:TI} {x y:Operand} {g kk j i e sz m cap:Nat} {v:Value} {rows:List (List Value)} {r c r':List Value} (ht:T.get t=some ti) (hx:E.ev x=some (.pointer (some ⟨g,0 + kk * sz + j,none⟩))) (hy:E.ev y=some v) (hi:Γ[i]?=some (.row e sz (.slice (some ⟨g,0,none⟩) m cap) rows))
  (hr:rows[kk]?=some r) (hc:a9W v=some c) (hsz:Nat.beq c.length ti.size=true) (hk:Nat.ble (j + ti.size) sz=true) (h1:c.all (·.oneCell')=true) (hL:t8 r j c=r') (k:∀ w',St F w0 w' (Γ.set i (.row e sz (.slice (some ⟨g,0,none⟩) m cap) (rows.set kk r')))→WL P ops Q rest n ds E w'):WL P ops Q (⟨none,.store t x y,ty,pos,after,none⟩::rest) n ds E w :=
 a8N hS hT ht hx hy hi rfl hr hc hsz hk h1 hL k
theorem a0v (hS:St F w0 w Γ) (hT:TabOk P T) {t e sz eb len:Nat} {ag:Bool} {ez:List Value} {parts:Array (Nat×Operand)} {ps:List (Nat×Value)} {rows:List (List Value)} (ht:T.get t=some (.sl e sz eb ag ez)) (hp:evP E parts.toList=some ps) (hr:a8z 0 sz ps=some rows) (hl:Nat.beq rows.length len=true)
  (hbig:Nat.ble (len * sz) 16777216=true) (h1:a9P rows=true) (hd:Nat.blt d n=true) (k:∀ g w',St F w0 w' (.row e sz (.slice (some ⟨g,0,none⟩) len len) rows::Γ)→WL P ops Q rest n ds ((d,.slice (some ⟨g,0,none⟩) len len)::E) w'):WL P ops Q (⟨some d,.buildSlice t len parts,ty,pos,after,none⟩::rest) n ds E w :=
 y7 hd (y8 hS hT ht hp hr hl hbig h1) (by rintro _ w' ⟨g,rfl,h⟩;exact k g w' h)
theorem a7B (hS:St F w0 w Γ) (hT:TabOk P T) {t e sz eb m:Nat} {ag:Bool} {ez:List Value} {x y:Operand} {i j:Int} (ht:T.get t=some (.sl e sz eb ag ez)) (hx:E.ev x=some (.int .i64 i)) (hy:E.ev y=some (.int .i64 j)) (hi:(m:Int)=i) (hj:(m:Int)=j) (hm:m≤140737488355327) (hb:(eb:Int) * m≤281474976710656) (h1:ez.all (·.oneCell')=true) (hd:Nat.blt d n=true) (k:∀ g w',St F w0 w' (.row e sz (.slice (some ⟨g,0,none⟩) m m) (List.replicate m ez)::Γ)→WL P ops Q rest n ds ((d,.slice (some ⟨g,0,none⟩) m m)::E) w'):WL P ops Q (⟨some d,.makeSlice t x y,ty,pos,after,none⟩::rest) n ds E w :=
 y7 hd (a0t hS hT ht hx hy hi hj hm hb h1) (by rintro _ w' ⟨g,rfl,h⟩;exact k g w' h)
theorem a26 (hS:St F w0 w Γ) (hT:TabOk P T) {t e sz eb m c b off:Nat} (i:Nat) {ag:Bool} {ez:List Value} {x y:Operand} {v:Value} {rows news:List (List Value)} (ht:T.get t=some (.sl e sz eb ag ez)) (hx:E.ev x=some v) (hi:Γ[i]?=some (.row e sz v rows)) (hy:E.ev y=some (.slice (some ⟨b,off,none⟩) m c))
  (hn:RoAt nF w b off sz news) (hm:news.length=m) (hbig:(rows.length + m) * (eb + 1)≤140737488355328) (hd:Nat.blt d n=true) (k:∀ p cap w',St F w0 w' (Γ.set i (.row e sz (.slice p (rows.length + m) cap) (rows++news)))→WL P ops Q rest n ds ((d,.slice p (rows.length + m) cap)::E) w'):WL P ops Q (⟨some d,.call { callee:=.builtin .append,args:=#[x,y],argTypes:=#[t,t] },ty,pos,after,none⟩::rest) n ds E w :=
 y7 hd (a0z hS hT ht hx hi hy hn hm hbig) (by rintro _ w' ⟨p,cap,rfl,h⟩;exact k p cap w' h)
theorem e8 {f:FuncId} {x:Operand} {args:Array Operand} {ats:Array TypeId} {vs:List Value} {first caps:List Value} {Φ:Value→World→Prop} (hx:E.ev x=some (.func (.func f) first.toArray caps.toArray)) (hv:E.evs args.toList=some vs) (h:Fn P f (first++vs++caps) w Φ) (hd:Nat.blt d n=true) (k:∀ v w',Φ v w'→WL P ops Q rest n ds ((d,v)::E) w') :
  WL P ops Q (⟨some d,.call { callee:=.value x,args:=args,argTypes:=ats },ty,pos,after,none⟩::rest) n ds E w:=y7 hd (a0o hx hv h) k
end
section
variable {F:Nat→Prop} {w0 w w':World} {Γ:List Asr}
theorem St.addNil (h:St F w0 w Γ) (e sz:Nat):St F w0 w (.row e sz (.slice none 0 0) []::Γ) :=
 h.new ⟨rfl,rfl,rfl,Nat.le_refl _,fun _ _ _=>rfl⟩ ⟨World.ownsRow_nil _ _ _ _,by simp,by simp⟩ (by simp [Asr.fp,Value.ownBlock])
theorem St.rowLen (h:St F w0 w Γ) (i:Nat) {e sz n cap:Nat} {p:Option Addr} {rows:List (List Value)} (hi:Γ[i]?=some (.row e sz (.slice p n cap) rows)):n=rows.length:=by
 rcases h.rowForm i hi with ⟨h1,h2⟩|⟨g,cap',h1,_⟩
 ·cases h1;rw [h2];rfl
 ·cases h1;rfl
theorem St.rowSome (h:St F w0 w Γ) (i:Nat) {e sz n cap:Nat} {p:Option Addr} {rows:List (List Value)} (hi:Γ[i]?=some (.row e sz (.slice p n cap) rows)) (hn:0 < n):∃ g,p=some ⟨g,0,none⟩:=by
 rcases h.rowForm i hi with ⟨h1,h2⟩|⟨g,cap',h1,_⟩
 ·cases h1;omega
 ·cases h1;exact ⟨g,rfl⟩
theorem Sl.parts {sz n cap:Nat} {p:Option Addr} {rows:List (List Value)} (h:Sl F w0 sz (.slice p n cap) rows):n=rows.length∧(rows=[]∨∃ b off,p=some ⟨b,off,none⟩∧n≤cap∧cap≤maxLen∧RoAt F w0 b off sz rows):=by
 rcases h with ⟨p1,c1,h1,h2⟩|⟨b,off,cap0,h1,h2,h3,h4⟩
 ·cases h1;subst h2;exact ⟨rfl,Or.inl rfl⟩
 ·cases h1;exact ⟨rfl,Or.inr ⟨b,off,rfl,h2,h3,h4⟩⟩
def k7:List Asr→List Asr→List Asr
 |[],Γ=>Γ
 |A::Δ,Γ=>A::k7 Δ Γ
theorem a5c (Δ Γ:List Asr):k7 Δ Γ=Δ++Γ:=by
 induction Δ with
 |nil=>rfl
 |cons A Δ ih=>simp [k7,ih]
theorem St.transA {Δ:List Asr} (h:St F w0 w Γ) (h2:St nF w w' Δ):St F w0 w' (k7 Δ Γ):=by rw [a5c];exact h.trans h2
theorem St.one {A:Asr} (h:St F w0 w (A::Γ)):St F w0 w [A]:=h.sub (List.Sublist.cons_cons _ (List.nil_sublist _))
structure Bs (F:Nat→Prop) (w0:World) (p:Addr) (v:Value):Prop where
 cell:w0.cell? p=some v
 nf:¬ F p.block
theorem St.bs (h:St F w0 w Γ) {p:Addr} {v:Value} (hb:Bs F w0 p v):w.cell? p=some v:=h.baseC hb.cell hb.nf
theorem Bs.of {p:Addr} {v:Value} (h:w.cell? p=some v):Bs nF w p v:=⟨h,id⟩
end
end Go.Proofs.Ytejnpppejalhfac
/- THE STEP CALCULUS, part 10: guards over what was not run. -/
namespace Go.Proofs.Ytejnpppejalhfac
open Go.RowKit Go.Sort
section
variable {P:Program} {n:Nat} {ds:List Deferred} {E:Fr} {w:World} {Q:Exit→Act→World→Prop} {ops:Array Oper} {rest:List Oper} {C:World→Prop} {K:Act→Prop} {d:Nat} {op:Op} {ty:TypeId} {pos:String} {after:Array Edge}
theorem a4Y {o oj:Oper} {j:Nat} {want:Bool} {dj:Nat} (hg:o.guard=some (j,want)) (hj:ops[j]?=some oj) (hdj:oj.dst=some dj) (hb:E.get dj=some undef) {a:Act} (ha:Has n ds a E) (hlt:Nat.blt dj n=true) :
  Region.wanted o (yielded ops a.tmps)=false:=by
 have hlt':dj < a.tmps.size:=by rw [ha.size];simpa [Nat.blt_eq] using hlt
 have h1:a.tmps[dj]?=some undef:=by
  have:=ha.at_ dj _ hb
  rw [Array.getD_eq_getD_getElem?] at this
  rw [Array.getElem?_eq_getElem hlt'] at this ⊢
  exact congrArg some this
 have hy:yielded ops a.tmps j=none:=by simp [yielded,hj,hdj,h1,undef]
 simp only [Region.wanted,hg,hy]
 rfl
theorem a4m {j:Nat} {want:Bool} {oj:Oper} {dj:Nat} (hj:ops[j]?=some oj) (hdj:oj.dst=some dj) (hlt:Nat.blt dj n=true) (hb:E.get dj=some undef) (hd:Nat.blt d n=true) (k:WL P ops Q rest n ds ((d,undef)::E) w) :
  WL P ops Q (⟨some d,op,ty,pos,after,some (j,want)⟩::rest) n ds E w:=fun a ha=>by
 have hw:=a4Y (o:=⟨some d,op,ty,pos,after,some (j,want)⟩) rfl hj hdj hb ha hlt
 unfold wpList
 rw [if_neg (by rw [hw];simp)]
 exact k _ (ha.put d undef hd)
theorem a7S {j:Nat} {want:Bool} {oj:Oper} {dj:Nat} (hj:ops[j]?=some oj) (hdj:oj.dst=some dj) (hlt:Nat.blt dj n=true) (hb:E.get dj=some undef) (hd:Nat.blt d n=true) (k:WD P ops C K rest n ds ((d,undef)::E)) :
  WD P ops C K (⟨some d,op,ty,pos,after,some (j,want)⟩::rest) n ds E:=fun a ha=>by
 have hw:=a4Y (o:=⟨some d,op,ty,pos,after,some (j,want)⟩) rfl hj hdj hb ha hlt
 unfold wpQuiet
 rw [if_neg (by rw [hw];simp)]
 exact k _ (ha.put d undef hd)
theorem Gets.of_at {o:Oper} {v:Value} (h:∀ a,Has n ds a E→(execOp a.eval o).run P w=.ok (.value v) w):Gets P o n ds E w (fun v' w'=>v'=v∧w'=w):=by
 intro a ha K Q k
 unfold Oper.wp
 rw [h a ha]
 exact k v w ⟨rfl,rfl⟩
def Fr.only (E:Fr):List Nat→Option Fr
 |[]=>some []
 |k::r=>match Fr.get E k,Fr.only E r with
  |some v,some E'=>some ((k,v)::E')
  |_,_=>none
theorem Fr.only_sub {E:Fr}:∀ {ks:List Nat} {E':Fr},Fr.only E ks=some E'→Fr.sub E' E:=by
 intro ks
 induction ks with
 |nil=>intro E' h;cases h;exact Fr.sub_nil _
 |cons k r ih=>
  intro E' h
  unfold Fr.only at h
  split at h
  ·rename_i v E2 h1 h2
   cases h
   exact Fr.sub_cons h1 (ih h2)
  ·cases h
/-! a stretch of code that leaves what is known as it was -/
variable {F:Nat→Prop} {w0:World} {Γ:List Asr}
def Cnt (n:Nat) (ds:List Deferred) (E:Fr) (F:Nat→Prop) (w0:World) (Γ:List Asr) (d:Nat) (N:Nat) (p:Nat→Prop) (i:Nat):Act→World→Prop:=fun a' w'=>∃ i',Has n ds a' ((d,.int .i64 (i':Nat))::E)∧((i'≤N∧p i')∧St F w0 w' Γ)∧N - i' < N - i
theorem a1f {c:Code} (hS:St F w0 w Γ) (d:Nat) (ks:List Nat) {E':Fr} (hE:Fr.only E ks=some E') (N:Nat) (p:Nat→Prop) (i0:Nat) (hd:Fr.get E d=some (.int .i64 (i0:Nat))) (hN:i0≤N) (h0:p i0)
  (round:∀ i w',i≤N→p i→St F w0 w' Γ→WC P c (Exit.then (Cnt n ds E' F w0 Γ d N p i) Q) n ds ((d,.int .i64 (i:Nat))::E') w'):WC P (.loop c) Q n ds E w :=
 a9L (X:=Nat) i0 (fun i=>(d,.int .i64 (i:Nat))::E') (fun i w'=>(i≤N∧p i)∧St F w0 w' Γ) (fun i=>N - i) (Fr.sub_cons hd (Fr.only_sub hE)) ⟨⟨hN,h0⟩,hS⟩ (fun i w' h=>round i w' h.1.1 h.1.2 h.2)
theorem a02 {E':Fr} {d N i:Nat} {p:Nat→Prop} (i':Nat) (h0:Fr.sub ((d,.int .i64 (i':Nat))::E') E) (hN:i'≤N) (hp:p i') (hlt:i < i') (hS:St F w0 w Γ):WQ (Exit.then (Cnt n ds E' F w0 Γ d N p i) Q) .normal n ds E w:=fun _ ha=>⟨i',ha.sub h0,⟨⟨hN,hp⟩,hS⟩,by omega⟩
def Rnd {X:Type} (n:Nat) (ds:List Deferred) (E:Fr) (F:Nat→Prop) (w0:World) (Γ:List Asr) (vf:X→Fr) (Γf:X→List Asr) (I:X→Prop) (m:X→Nat) (x:X):Act→World→Prop:=fun a' w'=>∃ x',Has n ds a' (vf x'++E)∧(I x'∧St F w0 w' (Γf x'++Γ))∧m x' < m x
theorem Fr.sub_app {A B E:Fr} (h1:Fr.sub A E) (h2:Fr.sub B E):Fr.sub (A++B) E:=fun p hp=>(List.mem_append.1 hp).elim (h1 p) (h2 p)
theorem o6 {X:Type} {c:Code} (vf:X→Fr) (ks:List Nat) {E':Fr} (hE:Fr.only E ks=some E') (Γf:X→List Asr) (I:X→Prop) (m:X→Nat) (x0:X) (h0:Fr.sub (vf x0) E) (hI:I x0) (hS:St F w0 w (Γf x0++Γ))
  (round:∀ x w',I x→St F w0 w' (Γf x++Γ)→WC P c (Exit.then (Rnd n ds E' F w0 Γ vf Γf I m x) Q) n ds (vf x++E') w'):WC P (.loop c) Q n ds E w :=
 a9L (X:=X) x0 (fun x=>vf x++E') (fun x w'=>I x∧St F w0 w' (Γf x++Γ)) m (Fr.sub_app h0 (Fr.only_sub hE)) ⟨hI,hS⟩ (fun x w' h=>round x w' h.1 h.2)
theorem m6 {X:Type} {E':Fr} {vf:X→Fr} {Γf:X→List Asr} {I:X→Prop} {m:X→Nat} {x:X} (x':X) (h0:Fr.sub (vf x'++E') E) (hI:I x') (hS:St F w0 w (Γf x'++Γ)) (hm:m x' < m x):WQ (Exit.then (Rnd n ds E' F w0 Γ vf Γf I m x) Q) .normal n ds E w:=fun _ ha=>⟨x',ha.sub h0,⟨hI,hS⟩,hm⟩
end
end Go.Proofs.Ytejnpppejalhfac
/- THE STEP CALCULUS, part 11: bytes and strings. -/
namespace Go.Proofs.Ytejnpppejalhfac
open Go.RowKit Go.Sort
theorem a2Z (g j:Nat):(⟨g,0,none⟩:Addr).add j=⟨g,j,none⟩:=by unfold Addr.add;split <;> simp_all
def bR (l:List UInt8):List (List Value):=l.map fun b=>[.int .u8 b.toNat]
theorem a30 (l:List UInt8):(bR l).length=l.length:=by unfold bR;simp
theorem a7C (l:List UInt8):(bR l).flatten=l.map fun b=>Value.int .u8 b.toNat:=by
 unfold bR
 induction l with
 |nil=>rfl
 |cons b l ih=>simp [ih]
section
variable {P:Program} {n:Nat} {ds:List Deferred} {E:Fr} {w:World} {Q:Exit→Act→World→Prop} {ops:Array Oper} {rest:List Oper} {d:Nat} {dst:Option Nat} {ty:TypeId} {pos:String} {after:Array Edge} {F:Nat→Prop} {w0:World} {Γ:List Asr} {T:Tab}
theorem b4l (hS:St F w0 w Γ) (hT:TabOk P T) {t sz:Nat} {z:Value} {x:Operand} {l:List UInt8} (ht:T.get t=some (.sc .string sz z)) (hx:E.ev x=some (.string ⟨l.toArray⟩)) :
  Gets P ⟨dst,.range t x,ty,pos,after,none⟩ n ds E w (fun v w'=>∃ r,v=.pointer (some ⟨r,0,none⟩)∧St F w0 w' (.obj r (.stringIter ⟨l.toArray⟩ 0)::Γ)):=by
 intro a ha K Q k
 obtain ⟨_,hu,_⟩:=hT.sc ht
 have hex:(execOp a.eval ⟨dst,.range t x,ty,pos,after,none⟩).run P w=.ok (.value (.pointer (some ⟨w.heap.size,0,none⟩))) (w.iter ⟨l.toArray⟩ 0):=by
  simp [execOp,ha.ev hx,run_range_string w t _ hu,Result.andThen]
 unfold Oper.wp
 rw [hex]
 exact k _ _ ⟨_,rfl,hS.new (World.grownBy_alloc w _ none) ⟨World.iter_heap w _ 0,rfl⟩ (by simp [Asr.fp])⟩
theorem b5a (hS:St F w0 w Γ) {x:Operand} {l:List UInt8} {i r k:Nat} (hx:E.ev x=some (.pointer (some ⟨r,0,none⟩))) (hi:Γ[i]?=some (.obj r (.stringIter ⟨l.toArray⟩ k))) :
  Gets P ⟨dst,.next x true,ty,pos,after,none⟩ n ds E w (fun v w'=>(k < l.length∧v=.tuple #[.bool true,.int .i64 k,.int .i32 (Utf8.decode ⟨l.toArray⟩ k).1]∧St F w0 w' (Γ.set i (.obj r (.stringIter ⟨l.toArray⟩ (k + (Utf8.decode ⟨l.toArray⟩ k).2)))))∨(l.length≤k∧v=.tuple #[.bool false]∧w'=w)):=by
 intro a ha K Q kk
 obtain ⟨hr,_⟩:=hS.at_ hi
 by_cases hk:k < l.length
 ·have hk':k < (⟨l.toArray⟩:ByteArray).size:=hk
  have hex:(execOp a.eval ⟨dst,.next x true,ty,pos,after,none⟩).run P w=.ok (.value (.tuple #[.bool true,.int .i64 k,.int .i32 (Utf8.decode ⟨l.toArray⟩ k).1])) { w with heap:=w.heap.setIfInBounds r (.stringIter ⟨l.toArray⟩ (k + (Utf8.decode ⟨l.toArray⟩ k).2)) }:=by
   simp [execOp,ha.ev hx,Instr.next,getObj,setObj,Sem.run,hr,hk',Result.andThen,goInt]
  unfold Oper.wp
  rw [hex]
  have hrl:=(Array.getElem?_eq_some_iff.1 hr).1
  refine kk _ _ (Or.inl ⟨hk,rfl,hS.upd hi ⟨rfl,rfl,rfl,by simp,fun q hq hne=>?_⟩ ⟨by simp [hrl],rfl⟩ (fun q hq=>Or.inl hq)⟩)
  have:r≠q:=fun e=>hne (by simp [Asr.fp,e])
  simp [this]
 ·have hk':¬ k < (⟨l.toArray⟩:ByteArray).size:=hk
  have hex:(execOp a.eval ⟨dst,.next x true,ty,pos,after,none⟩).run P w=.ok (.value (.tuple #[.bool false])) w:=by
   simp [execOp,ha.ev hx,Instr.next,getObj,Sem.run,hr,hk',Result.andThen]
  unfold Oper.wp
  rw [hex]
  exact kk _ _ (Or.inr ⟨by omega,rfl,rfl⟩)
theorem b3R (hS:St F w0 w Γ) (hT:TabOk P T) {t u e i sz2:Nat} {z2:Value} {x:Operand} {v:Value} {l:List UInt8} (ht:T.get t=some (.sl e 1 1 false [.int .u8 0])) (he:T.get e=some (.sc (.int .u8) 1 (.int .u8 0))) (hu2:T.get u=some (.sc .string sz2 z2)) (hx:E.ev x=some v) (hi:Γ[i]?=some (.row e 1 v (bR l))) (hne:0 < l.length) :
  Gets P ⟨dst,.convert t u x,ty,pos,after,none⟩ n ds E w (fun v' w'=>v'=.string ⟨l.toArray⟩∧w'=w):=by
 refine Gets.of_at fun a ha=>?_
 obtain ⟨ji,zv,hu,hinfo,_⟩:=hT.sl ht
 obtain ⟨_,hus,_⟩:=hT.sc hu2
 obtain ⟨_,hue,_⟩:=hT.sc he
 rcases hS.rowForm i hi with ⟨rfl,h0⟩|⟨g,cap,rfl,_⟩
 ·have:=congrArg List.length h0
  rw [a30,List.length_nil] at this
  omega
 ·have hrun:=run_convert_bytes_back (P:=P) w t u e ⟨g,0,none⟩ cap l hu hue hus (fun j hj=>by
   rw [a2Z]
   have:=hS.rowC i hi (k:=j) (j:=0) (r:=[.int .u8 l[j].toNat]) (u:=.int .u8 l[j].toNat) (by unfold bR;simp [hj]) rfl
   simpa using this)
  rw [a30] at hx
  simp only [execOp,ha.ev hx,Sem.run_bind,hrun,Result.andThen_ok,Sem.run_pure]
theorem b6e {t yt:TypeId} {x y:Operand} {l m:List UInt8} (hx:E.ev x=some (.string ⟨l.toArray⟩)) (hy:E.ev y=some (.string ⟨m.toArray⟩)) (hb:l.length + m.length≤9223372036854775807):∀ a,Has n ds a E→∀ dst,a0I P ⟨dst,.binOp .add t x y yt,ty,pos,after,none⟩ a (.string ⟨(l++m).toArray⟩):=fun a ha _ w=>by
 have h1:¬ (9223372036854775807 < (((⟨l.toArray⟩:ByteArray).size:Int) + ((⟨m.toArray⟩:ByteArray).size:Int))):=by
  show ¬ (9223372036854775807 < ((l.length:Int) + (m.length:Int)))
  omega
 simp [execOp,ha.ev hx,ha.ev hy,eqGuard,binOp,Op.stringOp,a6W,h1]
/-! a loop, round by round -/
def WR (P:Program) (c:Code) (Q:Exit→Act→World→Prop) (m:Nat) (n:Nat) (ds:List Deferred) (E:Fr) (w:World):Prop:=∀ a,Has n ds a E→Code.rounds P c Q m a w
theorem a55 {c:Code} (m:Nat) (h:WR P c Q m n ds E w):WC P (.loop c) Q n ds E w:=fun a ha=>wp_loop_rounds m (h a ha)
theorem a2d {c:Code} {m:Nat} (h:WC P c (Exit.then (Code.rounds P c Q m) Q) n ds E w):WR P c Q (m + 1) n ds E w:=fun a ha=>h a ha
theorem a1U {c:Code} {m:Nat} {Q':Exit→Act→World→Prop} (h:WR P c Q m n ds E w):WQ (Exit.then (Code.rounds P c Q m) Q') .normal n ds E w:=h
/-! the rules as the walk takes them -/
theorem b0e (hS:St F w0 w Γ) (hT:TabOk P T) {t u e sz2:Nat} (i:Nat) {z2:Value} {x:Operand} {v:Value} {l:List UInt8} (ht:T.get t=some (.sl e 1 1 false [.int .u8 0])) (he:T.get e=some (.sc (.int .u8) 1 (.int .u8 0))) (hu2:T.get u=some (.sc .string sz2 z2)) (hx:E.ev x=some v) (hi:Γ[i]?=some (.row e 1 v (bR l))) (hne:0 < l.length) (hd:Nat.blt d n=true)
  (k:WL P ops Q rest n ds ((d,.string ⟨l.toArray⟩)::E) w):WL P ops Q (⟨some d,.convert t u x,ty,pos,after,none⟩::rest) n ds E w:=y7 hd (b3R hS hT ht he hu2 hx hi hne) (by rintro _ _ ⟨rfl,rfl⟩;exact k)
theorem b4k (hS:St F w0 w Γ) (hT:TabOk P T) {t sz:Nat} {z:Value} {x:Operand} {l:List UInt8} (ht:T.get t=some (.sc .string sz z)) (hx:E.ev x=some (.string ⟨l.toArray⟩)) (hd:Nat.blt d n=true) (k:∀ r w',St F w0 w' (.obj r (.stringIter ⟨l.toArray⟩ 0)::Γ)→WL P ops Q rest n ds ((d,.pointer (some ⟨r,0,none⟩))::E) w'):WL P ops Q (⟨some d,.range t x,ty,pos,after,none⟩::rest) n ds E w :=
 y7 hd (b4l hS hT ht hx) (by rintro _ w' ⟨r,rfl,h⟩;exact k r w' h)
theorem b3g (hS:St F w0 w Γ) {x:Operand} {l:List UInt8} {i r kk:Nat} (hx:E.ev x=some (.pointer (some ⟨r,0,none⟩))) (hi:Γ[i]?=some (.obj r (.stringIter ⟨l.toArray⟩ kk))) (hd:Nat.blt d n=true)
  (k1:∀ w',kk < l.length→St F w0 w' (Γ.set i (.obj r (.stringIter ⟨l.toArray⟩ (kk + (Utf8.decode ⟨l.toArray⟩ kk).2))))→WL P ops Q rest n ds ((d,.tuple #[.bool true,.int .i64 kk,.int .i32 (Utf8.decode ⟨l.toArray⟩ kk).1])::E) w')
  (k2:l.length≤kk→WL P ops Q rest n ds ((d,.tuple #[.bool false])::E) w):WL P ops Q (⟨some d,.next x true,ty,pos,after,none⟩::rest) n ds E w :=
 y7 hd (b5a hS hx hi) (by
  rintro _ w' (⟨h1,rfl,h2⟩|⟨h1,rfl,rfl⟩)
  ·exact k1 w' h1 h2
  ·exact k2 h1)
end
section
variable {F:Nat→Prop} {w0 w w':World} {Γ:List Asr}
end
theorem a9m {l:List UInt8} {k:Nat} {b:UInt8} (h:l[k]?=some b) (hb:b.toNat < 128):Utf8.decode ⟨l.toArray⟩ k=(b.toNat,1):=by
 obtain ⟨h1,rfl⟩:=List.getElem?_eq_some_iff.1 h
 have:=decode_ascii ⟨l.toArray⟩ k h1 hb
 exact this
theorem a7Z {l:List UInt8} {k:Nat} {b:UInt8} (h:l[k]?=some b) (hb:¬ b.toNat < 128):128≤(Utf8.decode ⟨l.toArray⟩ k).1:=by
 obtain ⟨h1,rfl⟩:=List.getElem?_eq_some_iff.1 h
 have e:(⟨l.toArray⟩:ByteArray).get! (k + 0)=l[k]:=by
  show l.toArray[k]! = _
  simp [h1]
 unfold Utf8.decode
 simp only [e,hb,if_false]
 repeat' split
 all_goals (simp_all [Utf8.runeError] <;> omega)
section
variable {P:Program} {n:Nat} {ds:List Deferred} {E:Fr} {w:World} {Q:Exit→Act→World→Prop} {ops:Array Oper} {rest:List Oper} {d:Nat} {ty:TypeId} {pos:String} {after:Array Edge} {F:Nat→Prop} {w0:World} {Γ:List Asr}
theorem b4v (hS:St F w0 w Γ) {x:Operand} {l:List UInt8} {i r kk:Nat} {b:UInt8} (hx:E.ev x=some (.pointer (some ⟨r,0,none⟩))) (hi:Γ[i]?=some (.obj r (.stringIter ⟨l.toArray⟩ kk))) (hb:l[kk]?=some b) (hd:Nat.blt d n=true)
  (k1:∀ w' c wd,(b.toNat < 128→c=b.toNat∧wd=1)→(¬ b.toNat < 128→128≤c)→St F w0 w' (Γ.set i (.obj r (.stringIter ⟨l.toArray⟩ (kk + wd))))→WL P ops Q rest n ds ((d,.tuple #[.bool true,.int .i64 kk,.int .i32 (c:Nat)])::E) w'):WL P ops Q (⟨some d,.next x true,ty,pos,after,none⟩::rest) n ds E w :=
 b3g hS hx hi hd (fun w' _ h=>k1 w' _ _ (fun hl=>by rw [a9m hb hl];exact ⟨rfl,rfl⟩) (fun hl=>a7Z hb hl) h) (fun h=>by have:=j3 hb;omega)
theorem b34 (hS:St F w0 w Γ) {x:Operand} {l:List UInt8} {i r kk:Nat} (hx:E.ev x=some (.pointer (some ⟨r,0,none⟩))) (hi:Γ[i]?=some (.obj r (.stringIter ⟨l.toArray⟩ kk))) (hb:l.length≤kk) (hd:Nat.blt d n=true)
  (k2:WL P ops Q rest n ds ((d,.tuple #[.bool false])::E) w):WL P ops Q (⟨some d,.next x true,ty,pos,after,none⟩::rest) n ds E w :=
 b3g hS hx hi hd (fun _ h _=>by omega) (fun _=>k2)
end
end Go.Proofs.Ytejnpppejalhfac
/- Images, in plain Lean. -/
namespace Go.Proofs.Ytejnpppejalhfac
open Go.RowKit Go.Sort
structure Sg where
 pg:Int
 n:Int
 data:List UInt8
 wr:Bool
 ex:Bool
 deriving DecidableEq
structure Sy where
 name:List UInt8
 at_:Int
 deriving DecidableEq
structure Rl where
 at_:Int
 name:List UInt8
 add:Int
 deriving DecidableEq
structure Im where
 name:List UInt8
 needs:List (List UInt8)
 segs:List Sg
 syms:List Sy
 rels:List Rl
 entry:Int
 deriving DecidableEq
def stC (l:List UInt8):List Value:=[.string ⟨l.toArray⟩]
def sgC (s:Sg):List Value:=[.int .i64 s.pg,.int .i64 s.n,.string ⟨s.data.toArray⟩,.bool s.wr,.bool s.ex]
def syC (s:Sy):List Value:=[.string ⟨s.name.toArray⟩,.int .i64 s.at_]
def rlC (s:Rl):List Value:=[.int .i64 s.at_,.string ⟨s.name.toArray⟩,.int .i64 s.add]
def okB (b:UInt8):Bool:=decide ((97≤(b.toNat:Int)∧(b.toNat:Int)≤122)∨(48≤(b.toNat:Int)∧(b.toNat:Int)≤57)∨(b.toNat:Int)=95)
def nmB (l:List UInt8):Bool:=decide (1≤(l.length:Int)∧(l.length:Int)≤12) && l.all okB
theorem t0 {α:Type} {p:α→Bool} {l:List α} {k:Nat} {x:α} (h:(l.take k).all p=true) (hx:l[k]?=some x) (hp:p x=true):(l.take (k + 1)).all p=true:=by
 rw [List.take_add_one,hx]
 simp only [Option.toList_some,List.all_append,h,List.all_cons,hp,List.all_nil,Bool.and_self]
theorem a1J {α:Type} {p:α→Bool} {l:List α} {k:Nat} (h:(l.take k).all p=true) (hk:l.length≤k):l.all p=true:=by
 rwa [List.take_of_length_le hk] at h
theorem a5T {α:Type} {p:α→Bool} {l:List α} {k:Nat} {x:α} (hx:l[k]?=some x) (hp:p x=false):l.all p=false:=by
 cases h:l.all p with
 |false=>rfl
 |true=>rw [List.all_eq_true.1 h x (List.mem_of_getElem? hx)] at hp;cases hp
theorem b1R {l:List UInt8} (h:¬ (1≤(l.length:Int)∧(l.length:Int)≤12)):nmB l=false:=by unfold nmB;rw [decide_eq_false h];rfl
theorem b5i {l:List UInt8} (h:1≤(l.length:Int)∧(l.length:Int)≤12):nmB l=l.all okB:=by unfold nmB;rw [decide_eq_true h];rfl
structure ImV (w:World) (I:Im) (vn vs vy vr:Value):Prop where
 needs:Sl nF w 1 vn (I.needs.map stC)
 segs:Sl nF w 5 vs (I.segs.map sgC)
 syms:Sl nF w 2 vy (I.syms.map syC)
 rels:Sl nF w 3 vr (I.rels.map rlC)
def imA (I:Im) (vn vs vy vr:Value):Value:=.agg [.string ⟨I.name.toArray⟩,vn,vs,vy,vr,.int .i64 I.entry].toArray
theorem Sl.len {w:World} {sz:Nat} {α:Type} {f:α→List Value} {l:List α} {v:Value} (h:Sl nF w sz v (l.map f)):∃ p c,v=.slice p l.length c:=by
 obtain ⟨p,c,hv⟩:=h.form
 rw [List.length_map] at hv
 exact ⟨p,c,hv⟩
theorem ImV.now {w w':World} {Γ:List Asr} {I:Im} {vn vs vy vr:Value} (h:ImV w I vn vs vy vr) (hS:St nF w w' Γ):ImV w' I vn vs vy vr:=⟨h.needs.now hS,h.segs.now hS,h.syms.now hS,h.rels.now hS⟩
theorem Sl.bound {w:World} {sz:Nat} {α:Type} {f:α→List Value} {l:List α} {v:Value} (h:Sl nF w sz v (l.map f)):(l.length:Int)≤9223372036854775807:=by
 rcases h with ⟨p,c,h1,h2⟩|⟨b,off,cap,h1,h2,h3,_⟩
 ·have:=congrArg List.length h2
  rw [List.length_map,List.length_nil] at this
  omega
 ·rw [List.length_map] at h2
  unfold maxLen at h3
  omega
theorem j9 {α β:Type} {f:α→β} {l:List α} {i:Nat} {x:α} (h:l[i]?=some x):(l.map f)[i]?=some (f x):=by rw [List.getElem?_map,h];rfl
theorem Sl.at_ {w:World} {sz:Nat} {α:Type} {f:α→List Value} {l:List α} {p:Option Addr} {n c i:Nat} (h:Sl nF w sz (.slice p n c) (l.map f)) (hi:i < l.length):∃ b off,p=some ⟨b,off,none⟩∧RoAt nF w b off sz (l.map f):=by
 rcases h.parts.2 with h2|⟨b,off,rfl,_,_,hro⟩
 ·have:=congrArg List.length h2
  rw [List.length_map,List.length_nil] at this
  omega
 ·exact ⟨b,off,rfl,hro⟩
/-! the check, step by step -/
def a8h (I:Im):Bool:=nmB I.name && (I.needs.all nmB && (I.syms.all (fun s=>nmB s.name) && I.rels.all (fun r=>decide (r.name=[])||nmB r.name)))
def a8B (I:Im):Bool:=decide (1≤(I.segs.length:Int)∧(I.segs.length:Int)≤6∧(I.needs.length:Int)≤4∧(I.syms.length:Int)≤12∧(I.rels.length:Int)≤16)
def a2m (s:Sg):Bool:=decide (0≤s.pg∧s.pg≤255∧1≤s.n∧s.n≤255 - s.pg∧(s.data.length:Int)≤s.n * 16)
def a4F (I:Im):Bool:=I.segs.all a2m
noncomputable def pB (p:Prop):Bool:=@decide p (Classical.propDecidable p)
theorem a35 {p:Prop} (h:p):pB p=true:=@decide_eq_true p (Classical.propDecidable p) h
theorem a2Y {p:Prop} (h:¬ p):pB p=false:=@decide_eq_false p (Classical.propDecidable p) h
theorem b3s {p:Prop}:pB p=true ↔ p:=@decide_eq_true_iff p (Classical.propDecidable p)
def Ch (l:List Sg):Prop:=∀ (j:Nat) (a b:Sg),l[j]?=some a→l[j + 1]?=some b→a.pg + a.n≤b.pg
def Dup (l:List (List UInt8)):Prop:=∃ (i j:Nat) (x:List UInt8),j < i∧l[i]?=some x∧l[j]?=some x
def a6a (x:Int) (s:Sg):Bool:=decide (s.pg * 16≤x∧x < (s.pg + s.n) * 16)
def own (l:List Sg) (x:Int):Option Sg:=l.find? (a6a x)
def b3r:Sg:=⟨0,0,[],false,false⟩
structure Plc (I:Im):Prop where
 syms:∀ s ∈ I.syms,(own I.segs s.at_).isSome=true
 rels:∀ (k:Nat) (r:Rl),I.rels[k]?=some r→(0≤r.at_∧r.at_≤4080)∧∀ b:Int,0≤b→b < 8→(own I.segs (r.at_ + b)).isSome=true
 step:∀ (k:Nat) (q r:Rl),I.rels[k]?=some q→I.rels[k + 1]?=some r→q.at_ + 8≤r.at_
 entry:∃ s,own I.segs I.entry=some s∧s.ex=true
 by8:I.entry.tmod 8=0
noncomputable def a6q (I:Im):Bool:=pB (Ch I.segs∧¬ Dup (I.syms.map (·.name))∧¬ Dup I.needs)
noncomputable def a8e (I:Im):Bool:=pB (Plc I)
noncomputable def t9 (I:Im):Int:=if a8h I=false then 4 else if a8B I=false then 2 else if a4F I=false then 3 else if a6q I=false then 5 else if a8e I=false then 6 else 0
theorem b1B {l:List Sg} {x:Int} {k:Nat} (h:(l.take k).all (fun s=>!a6a x s)=true) (hk:l.length≤k):own l x=none:=by
 rw [List.take_of_length_le hk,List.all_eq_true] at h
 unfold own
 rw [List.find?_eq_none]
 intro s hs
 have:=h s hs
 simpa using this
theorem b3O {l:List Sg} {x:Int} {k:Nat} {s:Sg} (h:(l.take k).all (fun s=>!a6a x s)=true) (hs:l[k]?=some s) (hx:a6a x s=true):own l x=some s:=by
 unfold own
 have e:l=l.take k++s::l.drop (k + 1):=by
  obtain ⟨h1,rfl⟩:=List.getElem?_eq_some_iff.1 hs
  rw [List.getElem_cons_drop,List.take_append_drop]
 rw [e,List.find?_append]
 have:(l.take k).find? (a6a x)=none:=by
  rw [List.find?_eq_none]
  intro t ht
  have:=List.all_eq_true.1 h t ht
  simpa using this
 rw [this,Option.none_or,List.find?_cons,hx]
theorem a6C {l:List Sg} (h:l.all a2m=true) {k:Nat} {s:Sg} (hs:l[k]?=some s):0≤s.pg∧s.pg≤255∧1≤s.n∧s.n≤255 - s.pg∧(s.data.length:Int)≤s.n * 16:=by
 have:=List.all_eq_true.1 h s (List.mem_of_getElem? hs)
 unfold a2m at this
 simpa using this
end Go.Proofs.Ytejnpppejalhfac
/- Plain facts on bytes and numbers, with no program in sight. -/
namespace Go.Proofs.Ytejnpppejalhfac
open Go.RowKit
def leB (n:Int):Nat→List UInt8
 |0=>[]
 |k + 1=>leB n k++[UInt8.ofNat ((n / 2 ^ (8 * k)) % 256).toNat]
@[go_sem] theorem leB_length (n:Int) (k:Nat):(leB n k).length=k:=by
 induction k with
 |zero=>rfl
 |succ k ih=>simp [leB,ih]
theorem b5f (j:Nat):(2:Int) ^ (8 * (j + 1))=2 ^ (8 * j) * 256:=by
 rw [show 8 * (j + 1)=8 * j + 8 from by omega,Int.pow_add]
 rfl
theorem b16 (n:Int) (j:Nat):n / 2 ^ (8 * j) / 256=n / 2 ^ (8 * (j + 1)):=by
 rw [b5f,Int.ediv_ediv_of_nonneg]
 exact Int.le_of_lt (Int.pow_pos (by decide))
def inB (off n all:Int):Bool:=decide (0≤off∧0≤n∧off≤all∧n≤all - off)
def a1B (n:Int) (size j:Nat):List UInt8:=leB n j++List.replicate (size - j) 0
theorem a1p (n:Int) (size j:Nat) (h:j≤size):(a1B n size j).length=size:=by
 unfold a1B;rw [List.length_append,leB_length,List.length_replicate];omega
theorem a9p (n:Int) (size:Nat):a1B n size size=leB n size:=by unfold a1B;simp
def a4C (n:Int) (j:Nat):UInt8:=UInt8.ofNat ((n / 2 ^ (8 * j)) % 256).toNat
theorem a8n (n:Int) (size j:Nat) (h:j < size):(a1B n size j).set j (a4C n j)=a1B n size (j + 1):=by
 unfold a1B
 rw [List.set_append_right _ _ (by rw [leB_length];exact Nat.le_refl _),leB_length,Nat.sub_self,show size - j=(size - (j + 1)) + 1 from by omega,List.replicate_succ,List.set_cons_zero]
 simp [leB,a4C]
theorem b4r (n:Int) (j:Nat) (hj:j < 8):IntKind.u64.wrap n / 2 ^ (8 * j) % 256=((a4C n j).toNat:Int):=by
 have e:((a4C n j).toNat:Int)=n / 2 ^ (8 * j) % 256:=by
  unfold a4C
  have h1:0≤n / 2 ^ (8 * j) % 256:=Int.emod_nonneg _ (by decide)
  have h2:n / 2 ^ (8 * j) % 256 < 256:=Int.emod_lt_of_pos _ (by decide)
  rw [UInt8.toNat_ofNat']
  omega
 rw [e]
 have h:j=0∨j=1∨j=2∨j=3∨j=4∨j=5∨j=6∨j=7:=by omega
 rcases h with rfl|rfl|rfl|rfl|rfl|rfl|rfl|rfl <;> simp only [IntKind.wrap_u64] <;> simp at * <;> omega
end Go.Proofs.Ytejnpppejalhfac
/- Sheets and what is linked, in plain Lean. -/
namespace Go.Proofs.Ytejnpppejalhfac
open Go.RowKit Go.Sort
structure Fx where
 off:Int
 bytes:List UInt8
 deriving DecidableEq
structure Sh where
 page:Int
 data:List UInt8
 fixes:List Fx
 deriving DecidableEq
def fxC (f:Fx):List Value:=[.int .i64 f.off,.string ⟨f.bytes.toArray⟩]
def shC (s:Sh) (u:Value):List Value:=[.int .i64 s.page,.string ⟨s.data.toArray⟩,u]
abbrev ShV (w:World) (s:Sh) (u:Value):Prop:=Sl nF w 2 u (s.fixes.map fxC)
def a5h (free:Int) (f:Fx):Bool:=decide (free≤f.off∧f.off≤16∧f.bytes≠[]∧(f.bytes.length:Int)≤16 - f.off)
def a2R (f:Fx):Int:=f.off + f.bytes.length
def a3V:Int→List Fx→Bool
 |_,[]=>true
 |free,f::r=>a5h free f && a3V (a2R f) r
def a0b (s:Sh):Bool:=decide ((1≤s.page∧s.page≤255)∧s.data.length=16) && a3V 0 s.fixes
theorem b1Z:∀ {l:List Fx} {free:Int},a3V free l=true→0≤free→free≤16→(l.length:Int)≤16 - free:=by
 intro l
 induction l with
 |nil=>intro free _ _ h;simpa using h
 |cons f r ih=>
  intro free h h0 h16
  simp only [a3V,a5h,Bool.and_eq_true,decide_eq_true_eq] at h
  obtain ⟨⟨h1,h2,h3,h4⟩,h5⟩:=h
  have hl:0 < f.bytes.length:=List.length_pos_iff.2 h3
  have:=ih h5 (by unfold a2R;omega) (by unfold a2R;omega)
  unfold a2R at this
  simp only [List.length_cons]
  omega
theorem a5R {s:Sh} (h:a0b s=true):s.fixes.length≤16:=by
 unfold a0b at h
 simp only [Bool.and_eq_true] at h
 have:=b1Z h.2 (by omega) (by omega)
 omega
theorem a2b {α:Type} {l:List α} {i:Nat} {x:α} (h:l[i]?=some x):l.drop i=x::l.drop (i + 1):=by
 obtain ⟨h1,rfl⟩:=List.getElem?_eq_some_iff.1 h
 exact List.drop_eq_getElem_cons h1
theorem b1i {l:List Fx} {i:Nat} {f:Fx} {free:Int} (h:l[i]?=some f):a3V free (l.drop i)=(a5h free f && a3V (a2R f) (l.drop (i + 1))):=by
 rw [a2b h];rfl
def a3J (d:List UInt8) (l:List Fx):List UInt8:=l.foldl (fun d f=>splice d f.off.toNat f.bytes) d
def a7d (s:Sh):List UInt8:=a3J s.data s.fixes
theorem a5w {s t:List UInt8} {off:Nat} (h:off + t.length≤s.length):(splice s off t).length=s.length:=by
 unfold splice
 simp only [List.length_append,List.length_take,List.length_drop]
 omega
theorem b07:∀ {l:List Fx} {d:List UInt8} {free:Int},a3V free l=true→0≤free→d.length=16→(a3J d l).length=16:=by
 intro l
 induction l with
 |nil=>intro d free _ _ h;exact h
 |cons f r ih=>
  intro d free h h0 hd
  simp only [a3V,a5h,Bool.and_eq_true,decide_eq_true_eq] at h
  obtain ⟨⟨h1,h2,h3,h4⟩,h5⟩:=h
  exact ih h5 (by unfold a2R;omega) (by rw [a5w (by omega)];exact hd)
theorem b1e {s:Sh} (h:a0b s=true):(a7d s).length=16:=by
 unfold a0b at h
 simp only [Bool.and_eq_true,decide_eq_true_eq] at h
 exact b07 h.2 (by omega) h.1.2
end Go.Proofs.Ytejnpppejalhfac
/- Laws on new blocks, each under a name of its own. -/
namespace Go.Proofs.Ytejnpppejalhfac
open Go.RowKit Go.Sort
section
variable {P:Program} {w:World} {ops:Array Oper} {rest:List Oper} {o:Oper} {a:Act} {Q:Exit→Act→World→Prop}
theorem a47 (hgd:o.guard=none) (dst:Option Tmp) (hdst:o.dst=dst) (L:List Value) (t:TypeId)
  (hrun:(execOp a.eval o).run P w=.ok (.value (.pointer (some ⟨w.heap.size,0,none⟩))) (w.alloc (.cells L.toArray t))) (B:Nat) (w0:World) (hb:Below B w0 w) (hB:B≤w.heap.size)
  (next:∀ g w',HoldL w' g L→B≤g→Below B w0 w'→(∀ k,k < w.heap.size→w'.heap[k]?=w.heap[k]?)→(∀ k,k < w.heap.size→k≠g)→wpList P ops Q rest (a.put dst (.pointer (some ⟨g,0,none⟩))) w') :
  wpList P ops Q (o::rest) a w :=
 a5u hgd dst hdst L t hrun B w0 hb hB fun w' h1 h2 _ h4=>next _ w' h1 hB h2 h4 fun _ h=>Nat.ne_of_lt h
end
end Go.Proofs.Ytejnpppejalhfac
/- Plain laws on areas and boards, with no program in sight. -/
namespace Go.Proofs.Ytejnpppejalhfac
structure Ar where
 pg:Int
 n:Int
 prot:Int
 z:Bool
deriving DecidableEq
namespace Ar
def fin (a:Ar):Int:=a.pg + a.n
def mk' (a:Ar):Int:=1 + 2 * a.prot + (if a.z then 8 else 0)
def ok (a:Ar):Prop:=1≤a.pg∧a.pg≤255∧1≤a.n∧a.n≤256 - a.pg∧0≤a.prot∧a.prot≤3
def alike (a b:Ar):Prop:=a.fin=b.pg∧a.prot=b.prot∧a.z=b.z
end Ar
instance (a b:Ar):Decidable (a.alike b):=by unfold Ar.alike;infer_instance
instance (a:Ar):Decidable a.ok:=by unfold Ar.ok;infer_instance
def a14:Int→List Ar→Prop
 |_,[]=>True
 |e,a::l=>a.ok∧e≤a.pg∧a14 a.fin l
def b2J:List Ar→Prop
 |[]=>True
 |[_]=>True
 |a::b::l=>¬ a.alike b∧b2J (b::l)
def a42 (l:List Ar):Prop:=a14 1 l∧b2J l
def a4j:List Ar→Int→Int
 |[],_=>0
 |a::l,p=>if a.pg≤p∧p < a.fin then a.mk' else a4j l p
theorem a8M {l:List Ar}:∀ {e p:Int},a14 e l→p < e→a4j l p=0:=by
 induction l with
 |nil=>intros;rfl
 |cons a l ih=>
  intro e p h hp
  obtain ⟨h1,h2,h3⟩:=h
  unfold a4j
  rw [if_neg (by omega)]
  exact ih h3 (by unfold Ar.fin;unfold Ar.ok at h1;omega)
theorem b5q {a:Ar} (h:a.ok):1≤a.mk':=by
 unfold Ar.ok at h;unfold Ar.mk';split <;> omega
theorem a6t {a:Ar} {l:List Ar} {p:Int} (h:a.pg≤p∧p < a.fin):a4j (a::l) p=a.mk':=by
 simp only [a4j];rw [if_pos h]
theorem a13 {a:Ar} {l:List Ar} {p:Int} (h:¬ (a.pg≤p∧p < a.fin)):a4j (a::l) p=a4j l p:=by
 simp only [a4j];rw [if_neg h]
/-! THE TEST OF AREAS, by index. -/
def a4y (l:List Ar) (i:Nat):Prop:=∃ a,l[i]?=some a∧a.ok∧∀ j b,i=j + 1→l[j]?=some b→b.fin≤a.pg∧¬ b.alike a
theorem a6L {a b:Ar} {l:List Ar} {i:Nat}:a4y (a::b::l) (i + 2) ↔ a4y (b::l) (i + 1):=by
 unfold a4y
 constructor
 ·rintro ⟨c,h1,h2,h3⟩
  exact ⟨c,h1,h2,fun j d hj hd=>h3 (j + 1) d (by omega) (by simpa using hd)⟩
 ·rintro ⟨c,h1,h2,h3⟩
  refine ⟨c,h1,h2,fun j d hj hd=>?_⟩
  cases j with
  |zero=>omega
  |succ j=>exact h3 j d (by omega) (by simpa using hd)
theorem a9f {l:List Ar} {e e':Int} (h:a14 e l) (he:e'≤e):a14 e' l:=by
 cases l with
 |nil=>trivial
 |cons a l=>exact ⟨h.1,by have:=h.2.1;omega,h.2.2⟩
theorem a2X (l:List Ar):a42 l ↔ ∀ i,i < l.length→a4y l i:=by
 unfold a42
 induction l with
 |nil=>exact ⟨fun _ i hi=>by simp at hi,fun _=>⟨trivial,trivial⟩⟩
 |cons a l ih=>
  cases l with
  |nil=>
   constructor
   ·rintro ⟨⟨h1,h2,_⟩,_⟩ i hi
    have:i=0:=by simpa using hi
    subst this
    exact ⟨a,rfl,h1,fun j b hj=>by omega⟩
   ·intro h
    obtain ⟨c,hc,h1,_⟩:=h 0 (by simp)
    simp at hc
    subst hc
    exact ⟨⟨h1,by unfold Ar.ok at h1;omega,trivial⟩,trivial⟩
  |cons b l=>
   constructor
   ·rintro ⟨⟨h1,h2,h3⟩,h4,h5⟩ i hi
    have hb:a42 (b::l):=⟨a9f h3 (by unfold Ar.fin;unfold Ar.ok at h1;omega),h5⟩
    match i with
    |0=>exact ⟨a,rfl,h1,fun j b hj=>by omega⟩
    |1=>
     obtain ⟨c,hc,g1,_⟩:=ih.1 hb 0 (by simp)
     simp at hc
     subst hc
     refine ⟨b,rfl,g1,fun j d hj hd=>?_⟩
     obtain rfl:j=0:=by omega
     simp at hd
     subst hd
     exact ⟨h3.2.1,h4⟩
    |i + 2=>exact a6L.2 (ih.1 hb (i + 1) (by simpa using hi))
   ·intro h
    have hb:a14 1 (b::l)∧b2J (b::l):=ih.2 fun i hi=>by
     cases i with
     |zero=>
      obtain ⟨c,hc,g1,_⟩:=h 1 (by simp)
      exact ⟨c,by simpa using hc,g1,fun j d hj=>by omega⟩
     |succ i=>exact a6L.1 (h (i + 2) (by simpa using hi))
    obtain ⟨c,hc,g1,_⟩:=h 0 (by simp)
    simp at hc
    subst hc
    obtain ⟨d,hd,g2,g3⟩:=h 1 (by simp)
    simp at hd
    subst hd
    obtain ⟨g4,g5⟩:=g3 0 a rfl rfl
    exact ⟨⟨g1,by unfold Ar.ok at g1;omega,⟨hb.1.1,g4,hb.1.2.2⟩⟩,g5,hb.2⟩
instance (l:List Ar):Decidable (a42 l):=decidable_of_iff (∀ i:Fin l.length,l[i].ok∧∀ h:0 < i.1,l[i.1 - 1].fin≤l[i].pg∧¬ l[i.1 - 1].alike l[i]) (by
 rw [a2X]
 constructor
 ·intro h i hi
  obtain ⟨h1,h2⟩:=h ⟨i,hi⟩
  refine ⟨l[i],by simp [hi],h1,fun j b hj hb=>?_⟩
  subst hj
  obtain ⟨_,rfl⟩:=List.getElem?_eq_some_iff.1 hb
  exact h2 (by simp)
 ·intro h i
  obtain ⟨a,ha,h1,h2⟩:=h i.1 i.2
  obtain ⟨_,rfl⟩:=List.getElem?_eq_some_iff.1 ha
  refine ⟨h1,fun h0=>?_⟩
  exact h2 (i.1 - 1) _ (by omega) (List.getElem?_eq_some_iff.2 ⟨by omega,rfl⟩))
def q7 (l:List Ar):Int:=if 255 < l.length then 2 else if a42 l then 0 else 1
/-! BOARDS -/
end Go.Proofs.Ytejnpppejalhfac
/- Plain laws on areas: cut, joined, turned. -/
namespace Go.Proofs.Ytejnpppejalhfac
def a5v:Int→List Ar→Int
 |e,[]=>e
 |_,a::l=>a5v a.fin l
theorem b2t {o:List Ar}:∀ {e:Int},a14 e o→e≤a5v e o:=by
 induction o with
 |nil=>intro e _;exact Int.le_refl _
 |cons a o ih=>
  intro e h
  have:=ih h.2.2
  have h1:=h.1
  have h2:=h.2.1
  unfold Ar.ok at h1
  unfold a5v
  unfold Ar.fin at *
  omega
def z9 (out:List Ar) (a:Ar):List Ar :=
 match out.getLast? with
 |some b=>if b.alike a then out.dropLast++[{ b with n:=b.n + a.n }] else out++[a]
 |none=>out++[a]
/-! CUT -/
/-! TURNED -/
def y6:List Ar→Int
 |[]=>0
 |a::l=>a.n + y6 l
theorem b0E {l:List Ar}:∀ {q q':Int},a14 q l→a5v q l≤q'→q≤q'→y6 l≤q' - q∧(y6 l=q' - q ↔ ∀ p,q≤p→p < q'→a4j l p≠0):=by
 induction l with
 |nil=>
  intro q q' _ _ hq
  refine ⟨by simp [y6];omega,fun h p h1 h2=>by simp [y6] at h;omega,fun h=>?_⟩
  simp only [y6]
  rcases Int.lt_or_eq_of_le hq with hlt|he
  ·exact absurd rfl (h q (Int.le_refl _) hlt)
  ·omega
 |cons a l ih=>
  intro q q' h he hq
  obtain ⟨h1,h2,h3⟩:=h
  have hok:=h1
  unfold Ar.ok at hok
  have hf:a.fin=a.pg + a.n:=rfl
  have hge:=b2t h3
  have hp:=b5q h1
  obtain ⟨i1,i2⟩:=ih h3 he (by unfold a5v at he;omega)
  simp only [y6]
  refine ⟨by omega,fun hs p g1 g2=>?_,fun hall=>?_⟩
  ·by_cases c:p < a.fin
   ·rw [a6t (by omega)];omega
   ·rw [a13 (by omega)]
    exact i2.1 (by omega) p (by omega) g2
  ·have hq2:a.pg=q:=by
    rcases Int.lt_or_eq_of_le h2 with hlt|e
    ·have hle:q < q':=by unfold a5v at he;omega
     exact absurd (by rw [a13 (by omega),a8M h3 (by omega)]) (hall q (Int.le_refl _) hle)
    ·omega
   have:=i2.2 fun p g1 g2=>by
    have:=hall p (by omega) g2
    rwa [a13 (by omega)] at this
   omega
end Go.Proofs.Ytejnpppejalhfac
/- Areas in memory; the contracts of span, end, one. -/
namespace Go.Proofs.Ytejnpppejalhfac
open Go.RowKit Go.Sort
def arC (a:Ar):List Value:=[.int .i64 a.pg,.int .i64 a.n,.int .i64 a.prot,.bool a.z]
def CellsAr (w:World) (b o:Nat) (a:Ar):Prop :=
 w.cell? ⟨b,o,none⟩=some (.int .i64 a.pg)∧w.cell? ⟨b,o + 1,none⟩=some (.int .i64 a.n)∧w.cell? ⟨b,o + 2,none⟩=some (.int .i64 a.prot)∧w.cell? ⟨b,o + 3,none⟩=some (.bool a.z)
def SlAr (w:World) (v:Value) (L:List Ar):Prop :=
 (∃ p c,v=.slice p 0 c∧L=[])∨∃ b off cap,v=.slice (some ⟨b,off,none⟩) L.length cap∧b < w.heap.size∧L.length≤cap∧cap≤maxLen∧∀ i a,L[i]?=some a→CellsAr w b (off + i * 4) a
theorem CellsAr.grown {w w':World} {B b o:Nat} {a:Ar} (h:CellsAr w b o a) (hb:Below B w w') (hB:b < B):CellsAr w' b o a:=by
 obtain ⟨h0,h1,h2,h3⟩:=h
 exact ⟨by rw [hb.cell (p:=⟨b,o,none⟩) hB];exact h0,by rw [hb.cell (p:=⟨b,o + 1,none⟩) hB];exact h1,by rw [hb.cell (p:=⟨b,o + 2,none⟩) hB];exact h2,by rw [hb.cell (p:=⟨b,o + 3,none⟩) hB];exact h3⟩
theorem SlAr.grown {w w':World} {v:Value} {L:List Ar} (h:SlAr w v L) (hb:Below w.heap.size w w'):SlAr w' v L:=by
 rcases h with h|⟨b,off,cap,h1,h2,h3,h4,h5⟩
 ·exact Or.inl h
 ·exact Or.inr ⟨b,off,cap,h1,Nat.lt_of_lt_of_le h2 hb.size,h3,h4,fun i a ha=>(h5 i a ha).grown hb h2⟩
def b3n (page pages prot:Int):Bool:=decide (1≤page∧page≤255∧1≤pages∧pages≤256 - page∧0≤prot∧prot≤3)
set_option maxRecDepth 100000 in
set_option maxHeartbeats 1000000 in
theorem b2H (page pages prot:Int) (w:World):Calls Try.prog 57 #[.int .i64 page,.int .i64 pages,.int .i64 prot] w fun e w'=>e=.returned (.bool (b3n page pages prot))∧w=w':=by
 have hs:=hid (show b3n page pages prot=decide (1≤page∧page≤255∧1≤pages∧pages≤256 - page∧0≤prot∧prot≤3) from rfl)
 generalize b3n page pages prot=r at *
 go_enter Try.func57,Try.ntmps57
 go_wp2
 all_goals
  go_ret
  refine ⟨a5I ?_,rfl⟩
  rw [hs.out,Bool.eq_iff_iff]
  simp
  try omega
set_option maxRecDepth 100000 in
set_option maxHeartbeats 1000000 in
theorem a7s (a:Ar) (w:World):Calls Try.prog 46 #[.agg (arC a).toArray] w (RB (.int .i64 (wrap64 a.fin)) w):=by
 unfold arC Ar.fin
 go_enter Try.func46,Try.ntmps46
 go_wp2
 go_ret
 exact ⟨rfl,(by repeat (first|(with_reducible exact Below.refl _ _)|(with_reducible refine Below.alloc ?_ (by (omega)) _)))⟩
set_option maxRecDepth 100000 in
set_option maxHeartbeats 1000000 in
theorem b3y (a b:Ar) (w:World) (ha:wrap64 a.fin=a.fin):Calls Try.prog 58 #[.agg (arC a).toArray,.agg (arC b).toArray] w (RB (.bool (decide (a.alike b))) w):=by
 have HE:=hid (fun w=>a7s a w)
 rw [ha] at HE
 clear ha
 have HS:=hid (show decide (a.alike b)=decide (a.fin=b.pg∧a.prot=b.prot∧a.z=b.z) from rfl)
 generalize decide (a.alike b)=r at *
 generalize a.fin=f at *
 unfold arC at *
 have key:∀ r1 r2 r3:Bool,(f == b.pg)=r1→(a.prot == b.prot)=r2→(a.z == b.z)=r3→Calls Try.prog 58 #[.agg [.int .i64 a.pg,.int .i64 a.n,.int .i64 a.prot,.bool a.z].toArray,.agg [.int .i64 b.pg,.int .i64 b.n,.int .i64 b.prot,.bool b.z].toArray] w (RB (.bool (r1 && r2 && r3)) w):=by
  intro r1 r2 r3 h1 h2 h3
  cases r1
  ·clear h2 h3
   go_enter Try.func58,Try.ntmps58
   go_wp2
   refine wp_region_quiet_below (by kernel_rfl) (by kernel_rfl) ?_
   repeat ((go_big_quiet_step ((go_at_call 46;exact Calls.regrown_of (HE.out _)))))
   refine wpQuiet_nil ?_
   intro wq hw'
   obtain ⟨⟨dq,osq⟩,hw''⟩:=hw'
   have hbr:=a0R hw''
   clear hw''
   first
    |(have hbn:=bt hbq hbr;clear hcq hfq hzq hbq hbr;have hbq:=hbn;clear hbn)
    |(have hbq:=hbr;clear hbr)
   obtain ⟨hcq,hfq,hzq⟩:=a2U hbq
   go_wp2
   go_ret
   exact ⟨rfl,(by repeat (first|(with_reducible exact Below.refl _ _)|(with_reducible refine Below.alloc ?_ (by first|omega|(simp;done)) _)|(refine bt ?_ (by with_reducible assumption))))⟩
  cases r2
  ·clear h3
   go_enter Try.func58,Try.ntmps58
   go_wp2
   refine wp_region_quiet_below (by kernel_rfl) (by kernel_rfl) ?_
   repeat ((go_big_quiet_step ((go_at_call 46;exact Calls.regrown_of (HE.out _)))))
   refine wpQuiet_nil ?_
   intro wq hw'
   obtain ⟨⟨dq,osq⟩,hw''⟩:=hw'
   have hbr:=a0R hw''
   clear hw''
   first
    |(have hbn:=bt hbq hbr;clear hcq hfq hzq hbq hbr;have hbq:=hbn;clear hbn)
    |(have hbq:=hbr;clear hbr)
   obtain ⟨hcq,hfq,hzq⟩:=a2U hbq
   go_wp2
   go_ret
   exact ⟨rfl,(by repeat (first|(with_reducible exact Below.refl _ _)|(with_reducible refine Below.alloc ?_ (by first|omega|(simp;done)) _)|(refine bt ?_ (by with_reducible assumption))))⟩
  ·go_enter Try.func58,Try.ntmps58
   go_wp2
   refine wp_region_quiet_below (by kernel_rfl) (by kernel_rfl) ?_
   repeat ((go_big_quiet_step ((go_at_call 46;exact Calls.regrown_of (HE.out _)))))
   refine wpQuiet_nil ?_
   intro wq hw'
   obtain ⟨⟨dq,osq⟩,hw''⟩:=hw'
   have hbr:=a0R hw''
   clear hw''
   first
    |(have hbn:=bt hbq hbr;clear hcq hfq hzq hbq hbr;have hbq:=hbn;clear hbn)
    |(have hbq:=hbr;clear hbr)
   obtain ⟨hcq,hfq,hzq⟩:=a2U hbq
   go_wp2
   go_ret
   exact ⟨a5I (by simp),(by repeat (first|(with_reducible exact Below.refl _ _)|(with_reducible refine Below.alloc ?_ (by first|omega|(simp;done)) _)|(refine bt ?_ (by with_reducible assumption))))⟩
 have:=key _ _ _ rfl rfl rfl
 rwa [show (f == b.pg && a.prot == b.prot && a.z == b.z)=r from by rw [HS.out,Bool.eq_iff_iff];simp [and_assoc]] at this
end Go.Proofs.Ytejnpppejalhfac
/- The contract of area.Check. -/
namespace Go.Proofs.Ytejnpppejalhfac
open Go.RowKit Go.Sort
theorem a2I (n:Int) (h1:-1000000000000≤n) (h2:n≤1000000000000):wrap64 n=n:=by unfold wrap64;omega
theorem a4u {a:Ar} (h:a.ok):wrap64 a.fin=a.fin:=by unfold Ar.ok at h;unfold Ar.fin;exact a2I _ (by omega) (by omega)
theorem a8y {L:List Ar} (h:255 < L.length):q7 L=2:=by unfold q7;rw [if_pos h]
theorem a8a {L:List Ar} (h:¬ 255 < L.length) (hg:∀ i,i < L.length→a4y L i):q7 L=0:=by unfold q7;rw [if_neg h,if_pos ((a2X L).2 hg)]
theorem a3O {L:List Ar} (h:¬ 255 < L.length) {i:Nat} (hi:i < L.length) (hg:¬ a4y L i):q7 L=1:=by
 unfold q7;rw [if_neg h,if_neg fun g=>hg ((a2X L).1 g i hi)]
set_option maxRecDepth 100000 in
set_option maxHeartbeats 4000000 in
theorem b1b (p:Option Addr) (c:Nat) (w:World):Calls Try.prog 30 #[.slice p 0 c] w (RB (.int .i64 0) w):=by
 go_enter Try.func30,Try.ntmps30
 go_wp2
 go_loopw [10] (fun vi wr=>vi=.int .i64 0∧wr=w) (fun _ _=>0)
 case atStart=>exact ⟨rfl,rfl⟩
 case round=>
  obtain ⟨rfl,rfl⟩:=hrel
  go_wp2
  go_ret
  exact ⟨rfl,(by repeat ((with_reducible exact Below.refl _ _)))⟩
theorem b0z {L:List Ar} {a:Ar} (ha:L[0]?=some a) (h:a.ok):a4y L 0:=⟨a,ha,h,fun j b hj=>by omega⟩
theorem b2I {L:List Ar} {i:Nat} {a:Ar} (ha:L[i]?=some a) (h:¬ a.ok):¬ a4y L i:=by
 rintro ⟨c,hc,h1,_⟩
 rw [ha] at hc;cases hc;exact h h1
theorem a7a {L:List Ar} {k:Nat} {a b:Ar} (ha:L[k + 1]?=some a) (hb:L[k]?=some b):a4y L (k + 1) ↔ a.ok∧b.fin≤a.pg∧¬ b.alike a:=by
 constructor
 ·rintro ⟨c,hc,h1,h2⟩
  rw [ha] at hc;cases hc
  exact ⟨h1,h2 k b rfl hb⟩
 ·rintro ⟨h1,h2,h3⟩
  refine ⟨a,ha,h1,fun j d hj hd=>?_⟩
  obtain rfl:j=k:=by omega
  rw [hb] at hd;cases hd
  exact ⟨h2,h3⟩
theorem a90 {L:List Ar} {k:Nat} {b:Ar} (hb:L[k]?=some b) (h:a4y L k):b.ok:=by
 obtain ⟨c,hc,h1,_⟩:=h
 rw [hb] at hc;cases hc;exact h1
set_option maxRecDepth 100000 in
set_option maxHeartbeats 4000000 in
theorem b1G (b off cap:Nat) (L:List Ar) (w:World) (hbl:b < w.heap.size) (hcap:L.length≤cap) (hmax:cap≤maxLen) (hcells:∀ i a,L[i]?=some a→CellsAr w b (off + i * 4) a) :
  Calls Try.prog 30 #[.slice (some ⟨b,off,none⟩) L.length cap] w (RB (.int .i64 (q7 L)) w):=by
 unfold maxLen at hmax
 by_cases hm:255 < L.length
 ·have HC:=hid (a8y hm)
  generalize q7 L=r at *
  go_enter Try.func30,Try.ntmps30
  go_wp2
  go_ret
  exact ⟨a16 HC.out.symm,(by repeat ((with_reducible exact Below.refl _ _)))⟩
 have HC:=hid hcells
 clear hcells
 obtain ⟨r,hr⟩:∃ r,r=q7 L:=⟨_,rfl⟩
 rw [← hr]
 have HR:=hid hr;clear hr
 go_enter Try.func30,Try.ntmps30
 go_wp2
 go_loopw [10] (fun vi wr=>∃ i:Nat,i≤L.length∧vi=.int .i64 i∧Below w.heap.size w wr∧Hid (∀ j,j < i→a4y L j)) (fun vi _=>L.length - (intOf vi).toNat)
 case atStart=>exact ⟨0,by omega,rfl,Below.refl _ _,fun j hj=>by omega⟩
 case round=>
  obtain ⟨i,hi,rfl,hb,HO⟩:=hrel
  by_cases hlt:i < L.length
  ·obtain ⟨a,ha⟩:∃ a,L[i]?=some a:=⟨L[i],by simp [hlt]⟩
   obtain ⟨c0,c1,c2,c3⟩:=(HC.out i a ha).grown hb hbl
   have hbr:=a8X (Nat.lt_of_lt_of_le hbl hb.size)
   have hsz:=hb.size
   have HE:Hid True:=hid trivial
   have HN:Hid True:=hid trivial
   obtain ⟨s,hs⟩:∃ s,s=decide a.ok:=⟨_,rfl⟩
   have HS:Hid (∀ w,Calls Try.prog 57 #[.int .i64 a.pg,.int .i64 a.n,.int .i64 a.prot] w (RB (.bool s) w)):=fun w=>by rw [hs];exact b3V (b2H a.pg a.n a.prot w)
   cases s
   ·have HX:=hid (b2I ha (by simpa using hs.symm))
    clear hs
    go_wp2
    refine wp_region_quiet_below (by kernel_rfl) (by kernel_rfl) ?_
    repeat ((go_big_quiet_step (((go_at_call 57;exact Calls.regrown_of (HS.out _))))))
    refine wpQuiet_nil ?_
    intro wq hw'
    obtain ⟨⟨dq,osq⟩,hw''⟩:=hw'
    have hbr:=a0R hw''
    clear hw''
    first
     |(have hbn:=bt hbq hbr;clear hcq hfq hzq hbq hbr;have hbq:=hbn;clear hbn)
     |(have hbq:=hbr;clear hbr)
    obtain ⟨hcq,hfq,hzq⟩:=a2U hbq
    go_wp2
    go_ret
    exact ⟨a16 (by rw [HR.out,a3O hm hlt HX.out]),(by repeat (first|(with_reducible assumption)|(with_reducible refine Below.alloc ?_ (by (omega)) _)|(refine bt ?_ (by with_reducible assumption))))⟩
   have hok:a.ok:=by simpa using hs.symm
   clear hs
   match i with
   |0=>
    have HX:=hid (b0z ha hok)
    clear hok
    simp only [Nat.zero_mul,Nat.add_zero] at c0 c1 c2 c3
    go_wp2
    refine wp_region_quiet_below (by kernel_rfl) (by kernel_rfl) ?_
    repeat ((go_big_quiet_step (((go_at_call 57;exact Calls.regrown_of (HS.out _))))))
    refine wpQuiet_nil ?_
    intro wq hw'
    obtain ⟨⟨dq,osq⟩,hw''⟩:=hw'
    have hbr:=a0R hw''
    clear hw''
    first
     |(have hbn:=bt hbq hbr;clear hcq hfq hzq hbq hbr;have hbq:=hbn;clear hbn)
     |(have hbq:=hbr;clear hbr)
    obtain ⟨hcq,hfq,hzq⟩:=a2U hbq
    go_wp2
    go_roundw
    case rel=>
     refine ⟨0 + 1,by omega,by go_num,(by repeat (first|(with_reducible assumption)|(with_reducible refine Below.alloc ?_ (by (omega)) _)|(refine bt ?_ (by with_reducible assumption)))),fun j hj=>?_⟩
     rcases Nat.lt_succ_iff_lt_or_eq.1 hj with h|h
     ·exact HO.out j h
     ·subst h;exact HX.out
    case measure=>simp [intOf];omega
   |k + 1=>
    obtain ⟨q,hq⟩:∃ q,L[k]?=some q:=⟨L[k],by simp⟩
    have hqo:=a90 hq (HO.out k (by omega))
    obtain ⟨d0,d1,d2,d3⟩:=(HC.out k q hq).grown hb hbl
    have HA:=hid (a7a ha hq)
    have HE:=hid (fun w=>a7s q w)
    rw [a4u hqo] at HE
    obtain ⟨o,ho⟩:∃ o,o=decide (q.alike a):=⟨_,rfl⟩
    have HN:=hid (fun w=>b3y q a w (a4u hqo))
    rw [← ho] at HN
    unfold arC at HE HN
    have HF:=hid (show q.fin=q.fin from rfl)
    by_cases hl:a.pg < q.fin
    ·have HX:Hid (¬ a4y L (k + 1)):=fun h=>by have:=(HA.out.1 h).2.1;omega
     have hl':decide (a.pg < q.fin)=true:=by simpa using hl
     clear hl hok hqo ho
     generalize q.fin=f at *
     go_wp2
     refine wp_region_quiet_below (by kernel_rfl) (by kernel_rfl) ?_
     repeat ((go_big_quiet_step ((first|(go_at_call 57;exact Calls.regrown_of (HS.out _))|(go_at_call 46;exact Calls.regrown_of (HE.out _))))))
     refine wpQuiet_nil ?_
     intro wq hw'
     obtain ⟨⟨dq,osq⟩,hw''⟩:=hw'
     have hbr:=a0R hw''
     clear hw''
     first
      |(have hbn:=bt hbq hbr;clear hcq hfq hzq hbq hbr;have hbq:=hbn;clear hbn)
      |(have hbq:=hbr;clear hbr)
     obtain ⟨hcq,hfq,hzq⟩:=a2U hbq
     go_wp2
     go_ret
     exact ⟨a16 (by rw [HR.out,a3O hm hlt HX.out]),(by repeat (first|(with_reducible assumption)|(with_reducible refine Below.alloc ?_ (by (omega)) _)|(refine bt ?_ (by with_reducible assumption))))⟩
    have hl':decide (a.pg < q.fin)=false:=by simpa using hl
    cases o
    ·have HX:Hid (a4y L (k + 1)):=HA.out.2 ⟨hok,by omega,by simpa using ho.symm⟩
     clear hl hok hqo ho
     generalize q.fin=f at *
     go_wp2
     refine wp_region_quiet_below (by kernel_rfl) (by kernel_rfl) ?_
     repeat ((go_big_quiet_step ((first|(go_at_call 57;exact Calls.regrown_of (HS.out _))|(go_at_call 46;exact Calls.regrown_of (HE.out _))|(go_at_call 58;exact Calls.regrown_of (HN.out _))))))
     refine wpQuiet_nil ?_
     intro wq hw'
     obtain ⟨⟨dq,osq⟩,hw''⟩:=hw'
     have hbr:=a0R hw''
     clear hw''
     first
      |(have hbn:=bt hbq hbr;clear hcq hfq hzq hbq hbr;have hbq:=hbn;clear hbn)
      |(have hbq:=hbr;clear hbr)
     obtain ⟨hcq,hfq,hzq⟩:=a2U hbq
     go_wp2
     go_roundw
     case rel=>
      refine ⟨(k + 1) + 1,by omega,by go_num,(by repeat (first|(with_reducible assumption)|(with_reducible refine Below.alloc ?_ (by (omega)) _)|(refine bt ?_ (by with_reducible assumption)))),fun j hj=>?_⟩
      rcases Nat.lt_succ_iff_lt_or_eq.1 hj with h|h
      ·exact HO.out j h
      ·subst h;exact HX.out
     case measure=>simp [intOf];omega
    ·have HX:Hid (¬ a4y L (k + 1)):=fun h=>(HA.out.1 h).2.2 (by simpa using ho.symm)
     clear hl hok hqo ho
     generalize q.fin=f at *
     go_wp2
     refine wp_region_quiet_below (by kernel_rfl) (by kernel_rfl) ?_
     repeat ((go_big_quiet_step ((first|(go_at_call 57;exact Calls.regrown_of (HS.out _))|(go_at_call 46;exact Calls.regrown_of (HE.out _))|(go_at_call 58;exact Calls.regrown_of (HN.out _))))))
     refine wpQuiet_nil ?_
     intro wq hw'
     obtain ⟨⟨dq,osq⟩,hw''⟩:=hw'
     have hbr:=a0R hw''
     clear hw''
     first
      |(have hbn:=bt hbq hbr;clear hcq hfq hzq hbq hbr;have hbq:=hbn;clear hbn)
      |(have hbq:=hbr;clear hbr)
     obtain ⟨hcq,hfq,hzq⟩:=a2U hbq
     go_wp2
     go_ret
     exact ⟨a16 (by rw [HR.out,a3O hm hlt HX.out]),(by repeat (first|(with_reducible assumption)|(with_reducible refine Below.alloc ?_ (by (omega)) _)|(refine bt ?_ (by with_reducible assumption))))⟩
  ·go_wp2
   go_ret
   have:i=L.length:=by omega
   subst this
   refine ⟨a16 ?_,hb⟩
   rw [HR.out,a8a hm HO.out]
end Go.Proofs.Ytejnpppejalhfac
/- The contracts of area.Total, Find, and of the reference's Pages, AreaAt. -/
namespace Go.Proofs.Ytejnpppejalhfac
open Go.RowKit Go.Sort
theorem a4v {v:Value} {L:List Ar} {w:World} (h:SlAr w v L):Calls Try.prog 30 #[v] w (RB (.int .i64 (q7 L)) w):=by
 rcases h with ⟨p,c,rfl,rfl⟩|⟨b,off,cap,rfl,h2,h3,h4,h5⟩
 ·exact b1b p c w
 ·exact b1G b off cap L w h2 h3 h4 h5
theorem a4J {L:List Ar}:∀ {i:Nat} {a:Ar},L[i]?=some a→y6 (L.take (i + 1))=y6 (L.take i) + a.n:=by
 induction L with
 |nil=>intro i a h;simp at h
 |cons c L ih=>
  intro i a h
  cases i with
  |zero=>simp at h;subst h;simp [y6]
  |succ i=>simp only [List.take_succ_cons,y6];rw [ih (by simpa using h)];omega
theorem a9E {L:List Ar} (h:∀ (i:Nat) (a:Ar),L[i]?=some a→a.ok):∀ i:Nat,i≤L.length→0≤y6 (L.take i)∧y6 (L.take i)≤255 * (i:Int):=by
 intro i
 induction i with
 |zero=>intro _;simp [y6]
 |succ i ih=>
  intro hi
  obtain ⟨h1,h2⟩:=ih (by omega)
  have ha:=h i L[i] (by simp [hi])
  rw [a4J (a:=L[i]) (by simp [hi])]
  unfold Ar.ok at ha
  omega
theorem a1t {L:List Ar} (h:a42 L):∀ (i:Nat) (a:Ar),L[i]?=some a→a.ok:=fun i a ha=>a90 ha ((a2X L).1 h i (by
 obtain ⟨hi,_⟩:=List.getElem?_eq_some_iff.1 ha;exact hi))
theorem a0h {L:List Ar}:q7 L=0 ↔ L.length≤255∧a42 L:=by
 unfold q7
 split
 ·exact ⟨fun h=>by omega,fun h=>by omega⟩
 ·split
  ·exact ⟨fun _=>⟨by omega,by assumption⟩,fun _=>rfl⟩
  ·exact ⟨fun h=>by omega,fun h=>absurd h.2 (by assumption)⟩
set_option maxRecDepth 100000 in
set_option maxHeartbeats 4000000 in
theorem b0N {v:Value} {L:List Ar} {w:World} (h:SlAr w v L) (hc:q7 L≠0):Calls Try.prog 12 #[v] w (RB (.int .i64 0) w):=by
 have HC:=hid (a4v h)
 have hn:(q7 L == 0)=false:=by rw [beq_eq_false_iff_ne];exact hc
 clear h hc
 generalize q7 L=r at *
 go_enter Try.func12,Try.ntmps12
 go_wp2_with (first|(go_at_call 30;(with_reducible refine (HC.out).mono ?_);rintro e w1 ⟨rfl,hb1⟩))
 go_ret
 exact ⟨rfl,(by repeat ((with_reducible assumption)))⟩
set_option maxRecDepth 100000 in
set_option maxHeartbeats 4000000 in
theorem a9u {v:Value} {L:List Ar} {w:World} (h:SlAr w v L) (hc:q7 L=0):Calls Try.prog 12 #[v] w (RB (.int .i64 (y6 L)) w):=by
 have HC:=hid (a4v h)
 rw [hc] at HC
 obtain ⟨hlen,hg⟩:=a0h.1 hc
 have hok:=a1t hg
 have HB:=hid (a9E hok)
 clear hc hg
 rcases h with ⟨p,c,rfl,rfl⟩|⟨b,off,cap,rfl,hbl,hcap,hmax,hcells⟩
 ·go_enter Try.func12,Try.ntmps12
  go_wp2_with (first|(go_at_call 30;(with_reducible refine (HC.out).mono ?_);rintro e w1 ⟨rfl,hb1⟩))
  go_loopw [3,11] (fun vn vi wr=>vn=.int .i64 0∧vi=.int .i64 0∧wr=w1) (fun _ _ _=>0)
  case atStart=>exact ⟨rfl,rfl,rfl⟩
  case round=>
   obtain ⟨rfl,rfl,rfl⟩:=hrel
   go_wp2
   go_ret
   exact ⟨rfl,(by repeat ((with_reducible assumption)))⟩
 ·unfold maxLen at hmax
  have HL:=hid hcells
  have HO:=hid hok
  clear hcells hok
  go_enter Try.func12,Try.ntmps12
  go_wp2_with (first|(go_at_call 30;(with_reducible refine (HC.out).mono ?_);rintro e w1 ⟨rfl,hb1⟩))
  go_loopw [3,11] (fun vn vi wr=>∃ i:Nat,i≤L.length∧vi=.int .i64 i∧vn=.int .i64 (y6 (L.take i))∧Below w.heap.size w wr) (fun _ vi _=>L.length - (intOf vi).toNat)
  case atStart=>exact ⟨0,by omega,rfl,by simp [y6],hb1⟩
  case round=>
   obtain ⟨i,hi,rfl,rfl,hb⟩:=hrel
   by_cases hlt:i < L.length
   ·obtain ⟨a,ha⟩:∃ a,L[i]?=some a:=⟨L[i],by simp [hlt]⟩
    obtain ⟨c0,c1,c2,c3⟩:=(HL.out i a ha).grown hb hbl
    have hbr:=a8X (Nat.lt_of_lt_of_le hbl hb.size)
    have hsz:=hb.size
    have hs:=a4J ha
    have hn:=HB.out i hi
    have hn2:=HO.out i a ha
    unfold Ar.ok at hn2
    have hw:wrap64 (y6 (L.take i) + a.n)=y6 (L.take i) + a.n:=a2I _ (by omega) (by omega)
    have HS:=hid hs
    clear hs hn hn2
    generalize y6 (L.take i)=q at *
    go_wp2
    go_roundw
    case rel=>exact ⟨i + 1,by omega,by go_num,by rw [HS.out,hw],(by repeat (first|(with_reducible assumption)|(with_reducible refine Below.alloc ?_ (by (omega)) _)))⟩
    case measure=>simp [intOf];omega
   ·go_wp2
    go_ret
    have:i=L.length:=by omega
    subst this
    exact ⟨a16 (by simp),hb⟩
end Go.Proofs.Ytejnpppejalhfac
/- The contracts of the reference's Pages, AreaAt. -/
namespace Go.Proofs.Ytejnpppejalhfac
open Go.RowKit Go.Sort
def a52:Ar:=⟨0,0,0,false⟩
def a0K (page:Int) (a:Ar):Bool:=decide (a.pg≤page∧page < a.fin)
def v7 (L:List Ar) (page:Int):Option Ar:=L.find? (a0K page)
theorem a80 {L:List Ar} {page:Int}:∀ {i:Nat} {a:Ar},(∀ (j:Nat) (b:Ar),j < i→L[j]?=some b→a0K page b=false)→L[i]?=some a→a0K page a=true→v7 L page=some a:=by
 unfold v7
 induction L with
 |nil=>intro i a _ h;simp at h
 |cons c L ih=>
  intro i a h1 h2 h3
  cases i with
  |zero=>simp at h2;subst h2;rw [List.find?_cons,h3]
  |succ i=>
   have hc:=h1 0 c (by omega) rfl
   rw [List.find?_cons,hc]
   exact ih (i:=i) (fun j b hj hb=>h1 (j + 1) b (by omega) (by simpa using hb)) (by simpa using h2) h3
theorem a5O {L:List Ar} {page:Int} (h:∀ (j:Nat) (b:Ar),j < L.length→L[j]?=some b→a0K page b=false):v7 L page=none:=by
 unfold v7
 rw [List.find?_eq_none]
 intro x hx
 obtain ⟨j,hj,rfl⟩:=List.getElem_of_mem hx
 have:=h j L[j] hj (by simp)
 simp [this]
def zl4:List Value:=[.int .i64 0,.int .i64 0,.int .i64 0,.bool false]
def a3b (o:Option Ar):Value:=.tuple #[.agg (arC (o.getD a52)).toArray,.bool o.isSome]
end Go.Proofs.Ytejnpppejalhfac
/- The contracts of the reference's mark and boardOf. -/
namespace Go.Proofs.Ytejnpppejalhfac
open Go.RowKit Go.Sort
instance riseDec:(e:Int)→(l:List Ar)→Decidable (a14 e l)
 |_,[]=>isTrue trivial
 |e,a::l=>by
  unfold a14
  have:=riseDec a.fin l
  infer_instance
end Go.Proofs.Ytejnpppejalhfac
/- The contract of the reference's boardOf. -/
namespace Go.Proofs.Ytejnpppejalhfac
open Go.RowKit Go.Sort
end Go.Proofs.Ytejnpppejalhfac
/- Rows of areas that a call owns; the contract of the reference's areasOf. -/
namespace Go.Proofs.Ytejnpppejalhfac
open Go.RowKit Go.Sort
end Go.Proofs.Ytejnpppejalhfac
/- The contract of the reference's SameAreas. -/
namespace Go.Proofs.Ytejnpppejalhfac
open Go.RowKit Go.Sort
end Go.Proofs.Ytejnpppejalhfac
/- joined: the plain side. -/
namespace Go.Proofs.Ytejnpppejalhfac
open Go.RowKit Go.Sort
theorem a7F (J:List Ar) (a:Ar):(z9 J a).length≤J.length + 1:=by
 unfold z9
 split
 ·split <;> simp
 ·simp
end Go.Proofs.Ytejnpppejalhfac
/- The types of this program that the step calculus meets (printed by tab.py). -/
namespace Go.Proofs.Ytejnpppejalhfac
open Go.RowKit Go.Sort
def tab:Tab:=[
 (3,.sc (.int .i64) 1 (.int .i64 0)),
 (27,.st 5 [(0,1,false),(1,1,false),(2,1,false),(3,1,false),(4,1,false)] [.slice none 0 0,.slice none 0 0,.slice none 0 0,.slice none 0 0,.int .i64 0]),
 (39,.sl 55 3 24 true [.int .i64 0,.int .i64 0,.int .i64 0]),
 (9,.sc .string 1 (.string ⟨#[]⟩)),
 (71,.st 4 [(0,1,false),(1,1,false),(2,1,false),(3,1,false)] [.int .i64 0,.int .i64 0,.int .i64 0,.bool false]),
 (55,.st 3 [(0,1,false),(1,1,false),(2,1,false)] [.int .i64 0,.int .i64 0,.int .i64 0]),
 (38,.sl 71 4 32 true [.int .i64 0,.int .i64 0,.int .i64 0,.bool false]),
 (116,.st 6 [(0,1,false),(1,1,false),(2,1,false),(3,1,false),(4,1,false),(5,1,false)] [.string ⟨#[]⟩,.slice none 0 0,.slice none 0 0,.slice none 0 0,.slice none 0 0,.int .i64 0]),
 (110,.st 5 [(0,1,false),(1,1,false),(2,1,false),(3,1,false),(4,1,false)] [.int .i64 0,.int .i64 0,.string ⟨#[]⟩,.bool false,.bool false]),
 (23,.sl 43 4 32 true [.string ⟨#[]⟩,.int .i64 0,.bool false,.bool false]),
 (65,.st 2 [(0,1,false),(1,1,false)] [.int .i64 0,.int .i64 0]),
 (58,.st 7 [(0,5,true),(5,1,false),(6,1,false)] [.slice none 0 0,.slice none 0 0,.slice none 0 0,.slice none 0 0,.int .i64 0,.int .i64 0,.slice none 0 0]),
 (25,.sl 41 3 56 true [.bool false,.slice none 0 0,.slice none 0 0]),
 (62,.st 3 [(0,1,false),(1,1,false),(2,1,false)] [.slice none 0 0,.slice none 0 0,.int .i64 0]),
 (41,.st 3 [(0,1,false),(1,1,false),(2,1,false)] [.bool false,.slice none 0 0,.slice none 0 0]),
 (97,.st 3 [(0,1,false),(1,1,false),(2,1,false)] [.int .i64 0,.string ⟨#[]⟩,.slice none 0 0]),
 (43,.st 4 [(0,1,false),(1,1,false),(2,1,false),(3,1,false)] [.string ⟨#[]⟩,.int .i64 0,.bool false,.bool false]),
 (24,.sl 45 2 24 true [.string ⟨#[]⟩,.int .i64 0]),
 (22,.sl 97 3 48 true [.int .i64 0,.string ⟨#[]⟩,.slice none 0 0]),
 (111,.sl 110 5 40 true [.int .i64 0,.int .i64 0,.string ⟨#[]⟩,.bool false,.bool false]),
 (47,.sc (.pointer 58) 1 (.pointer none)),
 (90,.sl 137 7 56 true [.int .i64 0,.int .i64 0,.int .i64 0,.int .i64 0,.int .i64 0,.int .i64 0,.bool false]),
 (4,.sc .bool 1 (.bool false)),
 (112,.sl 9 1 16 false [.string ⟨#[]⟩]),
 (153,.st 7 [(0,6,true),(6,1,false)] [.string ⟨#[]⟩,.slice none 0 0,.slice none 0 0,.slice none 0 0,.slice none 0 0,.int .i64 0,.int .i64 0]),
 (45,.st 2 [(0,1,false),(1,1,false)] [.string ⟨#[]⟩,.int .i64 0]),
 (123,.sl 5 1 1 false [.int .u8 0]),
 (170,.st 3 [(0,1,false),(1,1,false),(2,1,false)] [.int .i64 0,.string ⟨#[]⟩,.int .i64 0]),
 (149,.st 4 [(0,1,false),(1,1,false),(2,1,false),(3,1,false)] [.map none,.map none,.slice none 0 0,.int .i64 0]),
 (143,.sl 116 6 120 true [.string ⟨#[]⟩,.slice none 0 0,.slice none 0 0,.slice none 0 0,.slice none 0 0,.int .i64 0]),
 (147,.sl 153 7 128 true [.string ⟨#[]⟩,.slice none 0 0,.slice none 0 0,.slice none 0 0,.slice none 0 0,.int .i64 0,.int .i64 0]),
 (56,.sl 3 1 8 false [.int .i64 0]),
 (95,.sl 100 2 24 true [.int .i64 0,.string ⟨#[]⟩]),
 (178,.st 2 [(0,1,false),(1,1,false)] [.string ⟨#[]⟩,.int .i64 0]),
 (100,.st 2 [(0,1,false),(1,1,false)] [.int .i64 0,.string ⟨#[]⟩]),
 (113,.sl 178 2 24 true [.string ⟨#[]⟩,.int .i64 0]),
 (114,.sl 170 3 32 true [.int .i64 0,.string ⟨#[]⟩,.int .i64 0]),
 (83,.sl 90 1 24 false [.slice none 0 0]),
 (85,.st 4 [(0,1,false),(1,1,false),(2,1,false),(3,1,false)] [.pointer none,.slice none 0 0,.slice none 0 0,.int .i64 0]),
 (137,.st 7 [(0,3,true),(3,4,true)] [.int .i64 0,.int .i64 0,.int .i64 0,.int .i64 0,.int .i64 0,.int .i64 0,.bool false]),
 (82,.sc (.pointer 85) 1 (.pointer none)),
 (146,.sc (.map 9 3) 1 (.map none)),
 (108,.st 5 [(0,1,false),(1,1,false),(2,1,false),(3,1,false),(4,1,false)] [.int .i64 0,.int .i64 0,.int .i64 0,.int .i64 0,.int .i64 0]),
 (145,.sc (.map 9 116) 1 (.map none)),
 (79,.sc (.pointer 27) 1 (.pointer none)),
 (163,.sl 143 1 24 false [.slice none 0 0]),
 (159,.sc (.int .u64) 1 (.int .u64 0)),
 (167,.sc (.map 3 175) 1 (.map none)),
 (144,.sc (.pointer 149) 1 (.pointer none)),
 (5,.sc (.int .u8) 1 (.int .u8 0)),
 (81,.sc (.func #[55] #[4] false) 1 (.nilFunc)),
 (165,.sl 151 1 8 false [.nilFunc]),
 (190,.sc (.func #[21] #[4] false) 1 (.nilFunc)),
 (183,.sc (.int .u64) 1 (.int .u64 0)),
 (88,.sc (.func #[41] #[4] false) 1 (.nilFunc)),
 (122,.sc (.func #[120,3,3] #[] false) 1 (.nilFunc)),
 (129,.sc (.func #[55,3] #[3] false) 1 (.nilFunc)),
 (139,.sc (.func #[137] #[4] false) 1 (.nilFunc)),
 (151,.sc (.func #[116] #[28] false) 1 (.nilFunc)),
 (127,.sc (.func #[71,3] #[3] false) 1 (.nilFunc)),
 (131,.sc (.func #[97,3] #[3] false) 1 (.nilFunc)),
 (155,.sc (.pointer 62) 1 (.pointer none)),
 (120,.sc (.pointer 43) 1 (.pointer none)),
 (186,.sc (.func #[43] #[4] false) 1 (.nilFunc)),
 (195,.sc (.func #[45] #[4] false) 1 (.nilFunc)),
 (21,.sc (.int .i32) 1 (.int .i32 0))]
set_option maxRecDepth 100000 in
theorem c8:TabOk Try.prog tab:=by
 unfold tab
 repeat (first|exact TabOk.nil _|refine TabOk.cons (by kernel_rfl) (by rfl) ?_)
end Go.Proofs.Ytejnpppejalhfac
/- area.end, area.one, by the step calculus. -/
namespace Go.Proofs.Ytejnpppejalhfac
open Go.RowKit Go.Sort
end Go.Proofs.Ytejnpppejalhfac
/- area.joined, by the step calculus. -/
namespace Go.Proofs.Ytejnpppejalhfac
open Go.RowKit Go.Sort
theorem b3x {L:List Ar}:∀ {e:Int},a14 e L→∀ (i:Nat) (a:Ar),L[i]?=some a→a.ok:=by
 induction L with
 |nil=>intro e _ i a h;simp at h
 |cons b L ih=>
  intro e h i a ha
  cases i with
  |zero=>simp at ha;subst ha;exact h.1
  |succ i=>exact ih h.2.2 i a (by simpa using ha)
end Go.Proofs.Ytejnpppejalhfac
/- The contract of area.cut. -/
namespace Go.Proofs.Ytejnpppejalhfac
open Go.RowKit Go.Sort
def RowsApart (v u:Value):Prop:=v.ownBlock=none∨v.ownBlock≠u.ownBlock
theorem RowsApart.symm {v u:Value} (h:RowsApart v u):RowsApart u v:=by
 unfold RowsApart at *
 cases hv:v.ownBlock <;> cases hu:u.ownBlock <;> simp_all
 omega
end Go.Proofs.Ytejnpppejalhfac
/- The contract of area.cut. -/
namespace Go.Proofs.Ytejnpppejalhfac
open Go.RowKit Go.Sort
end Go.Proofs.Ytejnpppejalhfac
/- slices.Grow of a nil slice of areas; slices.Concat of three. -/
namespace Go.Proofs.Ytejnpppejalhfac
open Go.RowKit Go.Sort
end Go.Proofs.Ytejnpppejalhfac
/- slices.Concat of rows of areas. -/
namespace Go.Proofs.Ytejnpppejalhfac
open Go.RowKit Go.Sort
end Go.Proofs.Ytejnpppejalhfac
/- slices.Concat of three rows of areas: the walk. -/
namespace Go.Proofs.Ytejnpppejalhfac
open Go.RowKit Go.Sort
theorem SlAr.below {w w':World} {v:Value} {L:List Ar} (h:SlAr w v L) (hb:Below w.heap.size w w'):SlAr w' v L:=by
 rcases h with h|⟨b,off,cap,rfl,h2,h3,h4,h5⟩
 ·exact Or.inl h
 ·exact Or.inr ⟨b,off,cap,rfl,Nat.lt_of_lt_of_le h2 hb.size,h3,h4,fun i a ha=>(h5 i a ha).grown hb h2⟩
end Go.Proofs.Ytejnpppejalhfac
