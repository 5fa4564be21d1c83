/- Texts that the proof stands on, one behind the other: Sc8, Sc9, Sc10, Sc11, PlImg, Plain, PlLnk, Hold, PlArea, PlArea2, Ar1, Ar2, Ar3. -/
import Derived.Laws.StructEq
import Derived.Lib.SliceRun
import Derived.Laws.Pointers
import Derived.WalkSpells
import Derived.Lib.AppendStr
import Derived.Laws.RangeString
import Derived.LoopN
import Derived.Handy
import Derived.Test.YtejnpppejalhfabGreatProg
import Derived.Lib.QuietBelow
import Derived.BigQuiet
import Derived.Deep.QuietTactic
import Derived.Test.YtejnpppejalhfabGreatPRestKernels1
set_option linter.unusedVariables false
set_option linter.unusedSimpArgs false
namespace Go.Proofs.YtejnpppejalhfabGreat
set_option maxRecDepth 100000
set_option maxHeartbeats 8000000
open Go.RowKit Go.Sort
theorem a38 {w:World} {g:Nat} {cur:Array Value} {t:TypeId} (h:w.heap[g]?=some (.cells cur t (0,0))) (k:Nat) (vs:List Value):(w.setCells g k vs).heap[g]?=some (.cells (o6 cur.toList k vs).toArray t (0,0)):=by
 induction vs generalizing w cur k with
 |nil=>exact (by simpa [o6] using h:w.heap[g]?=some (.cells (o6 cur.toList k []).toArray t (0,0)))
 |cons v r ih=>
  have e:=setCell_eq_setRow w g k cur t (0,0) v h;have h2:(w.setCell ⟨g,k,none⟩ v).heap[g]?=some (.cells (cur.setIfInBounds k v) t (0,0)):=by rw [e];exact setRow_heap w g _ _ t _ h
  have:=ih h2 (k + 1);exact (by simpa [o6] using this:((w.setCell ⟨g,k,none⟩ v).setCells g (k + 1) r).heap[g]?=some (.cells (o6 cur.toList k (v::r)).toArray t (0,0)))
section
variable {P:Program} {n:Nat} {ds:List Deferred} {E:Fr} {w:World} {dst:Option Nat} {ty:TypeId} {pos:String} {after:Array Edge} {F:Nat->Prop} {w0:World} {Γ:List Asr} {T:Tab}
theorem b2j (hT:TabOk P T) {t:TypeId} {ti:TI} (ht:T.get t=some ti):(P.info? t).map (·.size)=some ti.size:=by
 cases ti with
 |sc d s z=>obtain ⟨i,_,_,h,h2,_⟩:=hT.sc ht;have:=(hT.at_ ht).2;simp only [TI.okB,xb2] at this;rw [h];simp [h2,TI.size,xb9 this.1]
 |st s fs z=>obtain ⟨_,i,_,_,h,h2,_⟩:=hT.st ht;rw [h];simp [h2,TI.size]
 |ar s m e g z=>obtain ⟨_,i,_,_,h,_,h2,_⟩:=hT.ar ht;rw [h];simp [h2,TI.size]
 |sl e z b g ez=>obtain ⟨_,_,_,_,⟨i,h,h2,_⟩,_⟩:=hT.sl ht;rw [h];simp [h2,TI.size]
theorem a2V (hS:St F w0 w Γ) (hT:TabOk P T) {t:TypeId} {ti:TI} {x y:Operand} {g kk j o i e sz m cap:Nat} {v:Value} {rows:List (List Value)} {r c:List Value} (ht:T.get t=some ti) (hx:E.ev x=some (.pointer (some ⟨g,o,none⟩))) (hy:E.ev y=some v) (hi:Γ[i]?=some (.row e sz (.slice (some ⟨g,0,none⟩) m cap) rows))
  (ho:o=0 + kk * sz + j) (hr:rows[kk]?=some r) (hc:v.cells.toList=c) (hsz:c.length=ti.size) (hk:j + ti.size<=sz) (h1:c.all (·.oneCell')=true) :
  Gets P ⟨dst,.store t x y,ty,pos,after,none⟩ n ds E w (fun _ w'=>St F w0 w' (Γ.set i (.row e sz (.slice (some ⟨g,0,none⟩) m cap) (rows.set kk (o6 r j c))))):=by
 intro a ha K Q k;obtain ⟨hown,hlen,hone⟩:=hS.at_ hi;rcases hown.2 with ⟨hv,_⟩|⟨g',cap',cur,hv,_,hg,hmc,hcm,hcs,htake⟩
 ·cases hv
 cases hv
 have hrl:r.length=sz:=hlen r (xd0 hr);have hkl:=d6 hr;have hHL:HoldL w g cur.toList:=⟨e,hg⟩;have hspan:kk * sz + sz<=rows.length * sz:=by rw [<- xe8];exact xj6 _ hkl
 have hcl:rows.length * sz<=cur.size:=by rw [hcs];exact xj6 _ hmc
 have t3:v.cells.toList.length=c.length:=by rw [hc]
 have hthere:w.there g o v.cells.size:=fun q hq=>by
  have hq':q < c.length:=by rw [<- t3];simpa using hq
  have:o + q < cur.toList.length:=by simp;omega
  exact ⟨by rw [hHL.cell];simp only [xi2];exact ⟨_,xe1 this⟩,hHL.frozen _⟩
 have hx':(execOp a.eval ⟨dst,.store t x y,ty,pos,after,none⟩).run P w=.ok .skip (w.setCells g o c):=by
  simp only [execOp,ha.ev hx,ha.ev hy,Instr.storeAt,Instr.sureAddr,Sem.run_bind,Sem.run_pure,Result.andThen_ok];rw [a4L (by rw [b2j hT ht,<- hsz,<- t3];simp) hthere (by rw [hc];exact fun u hu=>xc7.1 h1 u hu),hc];rfl
 unfold Oper.wp;rw [hx'];have hA:(Asr.row e sz (.slice (some ⟨g,0,none⟩) rows.length cap) (rows.set kk (o6 r j c))).holds (w.setCells g o c):=by
  have hl2:∀ r' ∈ rows.set kk (o6 r j c),r'.length=sz:=fun r' hr'=>by
   rcases xm8 hr' with h|h
   ·exact hlen r' h
   ·rw [h,a68,hrl]
  refine ⟨⟨by rw [o4 hl2],.inr ⟨g,cap,_,by simp,xg4 _,a38 hg o c,by simpa using hmc,hcm,by simp [a68,hcs],?_⟩⟩,hl2,fun r' hr'=>?_⟩
  ·have hsplit:cur.toList=rows.flatten++cur.toList.drop (rows.length * sz):=by rw [<- htake];simp
   have:=b4g hlen hr (c:=c) (j:=j) (by omega) (cur.toList.drop (rows.length * sz));rw [<- hsplit] at this;rw [xg5,ho,xa9,this];rw [show (rows.set kk (o6 r j c)).length * sz=(rows.set kk (o6 r j c)).flatten.length from (o4 hl2).symm];exact List.take_left
  ·rcases xm8 hr' with h|h
   ·exact hone r' h
   ·rw [h];have hr1:=hone r (xd0 hr);have:∀ (c:List Value) (L:List Value) (q:Nat),L.all (·.oneCell')=true->c.all (·.oneCell')=true->(o6 L q c).all (·.oneCell')=true:=by
     intro c
     induction c with
     |nil=>intro L q h _;exact h
     |cons x c ih=>
      intro L q h h2;simp only [xo6,xb2] at h2;refine ih _ _ ?_ h2.2;rw [xc7];intro y hy;rcases xm8 hy with h3|h3
      ·exact xc7.1 h y h3
      ·rw [h3];exact h2.1
    exact this c r j hr1 h1
 exact k undef _ (hS.upd hi (a1R w g o c) hA (fun q hq=>xd6 hq))
structure a3D (P:Program) (f:FuncId) (fn:Func):Prop where
 at_:P.funcs[f]?=some fn
 name : (fn.name == "runtime.NumGoroutine") = false
 body:fn.body.isNone=false
structure Fn (P:Program) (f:FuncId) (args:List Value) (w:World) (Φ:Value->World->Prop):Prop where
 ok:∃ fn,a3D P f fn
 calls:Calls P f args.toArray w (fun e w'=>∃ v,e=.returned v/\Φ v w')
theorem Fn.mono {f:FuncId} {args:List Value} {Φ Ψ:Value->World->Prop} (h:Fn P f args w Φ) (hi:∀ v w',Φ v w'->Ψ v w'):Fn P f args w Ψ:=⟨h.ok,h.calls.mono fun _ _ ⟨v,he,hv⟩=>⟨v,he,hi v _ hv⟩⟩
theorem a4U {f:FuncId} {fn:Func} (h:a3D P f fn) (args:Array Value) (w:World):(callFunc f args).run P w=.ok (.enter f args) w:=by
 have hb:=h.body;unfold callFunc;simp only [Sem.run_bind,run_program,Result.andThen_ok,h.at_];rw [xf1 (by rw [h.name];simp),xf1 (by rw [hb];simp)];rfl
theorem s9 {f:FuncId} {x:Operand} {args:Array Operand} {ats:Array TypeId} {vs:List Value} {first caps:List Value} {Φ:Value->World->Prop} (hx:E.ev x=some (.func (.func f) first.toArray caps.toArray)) (hv:E.evs args.toList=some vs) (h:Fn P f (first++vs++caps) w Φ) :
  Gets P ⟨dst,.call { callee:=.value x,args:=args,argTypes:=ats },ty,pos,after,none⟩ n ds E w Φ:=by
 intro a ha K Q k;obtain ⟨⟨fn,hok⟩,hc⟩:=h;have e1:args.map a.eval=vs.toArray:=by rw [<- ha.evs hv,<- xd1,xd2]
 have hrun:(execOp a.eval ⟨dst,.call { callee:=.value x,args:=args,argTypes:=ats },ty,pos,after,none⟩).run P w=.ok (.enter f (first++vs++caps).toArray) w:=by
  simp only [execOp,resolve,ha.ev hx,Deferred.ofValue,Sem.run_bind,Sem.run_pure,Result.andThen_ok,invoke,e1];rw [a4U hok];simp
 unfold Oper.wp;rw [hrun];exact hc.mono fun e w' ⟨v,he,hΦ⟩=>by subst he;exact k v w' hΦ
def RBf (v:Value) (w:World):Value->World->Prop:=fun v' w'=>v'=v/\St nF w w' []
theorem Fn.of_rb {f:FuncId} {fn:Func} {args:List Value} {v:Value} (hok:a3D P f fn) (h:Calls P f args.toArray w (RB v w)):Fn P f args w (RBf v w):=⟨⟨fn,hok⟩,h.mono fun _ _ ⟨he,hb⟩=>⟨v,he,rfl,St.of_below hb⟩⟩
theorem Fn.of_same {f:FuncId} {fn:Func} {args:List Value} {v:Value} (hok:a3D P f fn) (h:Calls P f args.toArray w (fun e w'=>e=.returned v/\w=w')):Fn P f args w (fun v' w'=>v'=v/\w'=w):=⟨⟨fn,hok⟩,h.mono fun _ _ ⟨he,hb⟩=>⟨v,he,rfl,hb.symm⟩⟩
theorem Fn.rb {f:FuncId} {args:List Value} {v:Value} (h:Fn P f args w (RBf v w)):Calls P f args.toArray w (RB v w):=h.calls.mono fun _ _ ⟨_,he,hv,hs⟩=>⟨by rw [he,hv],hs.below⟩
def a5t:Nat->List Value->Fr
 |_,[]=>[]
 |k,v::r=>(k,v)::a5t (k + 1) r
theorem b14:∀ {args:List Value} {k t:Nat} {v:Value},Fr.get (a5t k args) t=some v->k<=t/\args[t - k]?=some v:=by
 intro args
 induction args with
 |nil=>intro k t v h;cases h
 |cons x r ih=>
  intro k t v h;simp only [a5t,Fr.get] at h;by_cases e:k=t
  ·subst e;simp at h;subst h;simp
  ·rw [a7w e] at h;obtain ⟨h1,h2⟩:=ih (by simpa using h);exact ⟨by omega,by rw [show t - k=(t - (k + 1)) + 1 from by omega];simpa using h2⟩
theorem b29 {f:FuncId} {fn:Func} {c:Code} {args:List Value} {Φ:Value->World->Prop} {m:Nat} (hok:a3D P f fn) (hb:fn.body=some c) (hm:fn.ntmps=m) (hl:Nat.ble args.length m=true)
  (h:WC P c (bodyPost P fn (fun e w'=>∃ v,e=.returned v/\Φ v w')) m [] (a5t 0 args) w):Fn P f args w Φ:=by
 refine ⟨⟨fn,hok⟩,calls_of_wp hok.at_ hb (h _ ⟨?_,rfl,fun t v ht=>?_⟩)⟩
 ·have:=xg1 hl;simp;omega
 ·obtain ⟨_,h2⟩:=b14 ht;have hlt:=d6 h2;rw [Nat.sub_zero] at h2 hlt;rw [xc2,Array.getElem?_append_left (by simpa using hlt)];simp [h2]
inductive ResL (P:Program) (E:Fr) (w:World):List ResultVar->List Value->Prop where
 |nil:ResL P E w [] []
 |tmp {t:Nat} {v:Value} {r:List ResultVar} {vs:List Value} (h:E.get t=some v) (k:ResL P E w r vs):ResL P E w (.tmp t::r) (v::vs)
 |cell {t:Nat} {ty:TypeId} {a:Addr} {v:Value} {r:List ResultVar} {vs:List Value} (h:E.get t=some (.pointer (some a))) (hl:Ld P ty a v w) (k:ResL P E w r vs):ResL P E w (.cell t ty::r) (v::vs)
theorem ResL.run {rs:List ResultVar} {vs:List Value} (h:ResL P E w rs vs) {a:Act} (ha:Has n ds a E):(rs.mapM fun (x:ResultVar)=>(match x with
  |.tmp t=>(pure (a.tmps.getD t undef):Sem Value)
  |.cell p t=>do loadVar t (<- asAddr (a.tmps.getD p undef)))).run P w=.ok vs w:=by
 induction h with
 |nil=>rfl
 |tmp h _ ih=>
  rw [List.mapM_cons];simp only [Sem.run_bind,Sem.run_pure,Result.andThen_ok,ih,ha.at_ _ _ h]
 |cell h hl _ ih=>
  unfold Ld at hl;rw [List.mapM_cons];simp only [Sem.run_bind,Sem.run_pure,ha.at_ _ _ h];rename_i p _ _ _ _;rw [show (asAddr (.pointer (some p)):Sem Addr)=pure p from rfl,Sem.run_pure,Result.andThen_ok,hl,Result.andThen_ok,ih];rfl
def a4c:List Value->Value
 |[v]=>v
 |vs=>.tuple vs.toArray
theorem b37 {fn:Func} {Φ:Value->World->Prop} {rs:List ResultVar} {vs:List Value} {v:Value} (hrs:fn.results.toList=rs) (hr:ResL P E w rs vs) (hv:a4c vs=v) (hΦ:Φ v w) {a:Act} (ha:Has n [] a E):a.defers=[]/\∃ v,(results fn a.tmps).run P w=.ok v w/\∃ u,Ending.returned v=.returned u/\Φ u w:=by
 refine ⟨ha.defers,v,?_,v,rfl,hΦ⟩;have h:=hr.run ha;rw [<- hrs] at h;unfold results;rw [Array.mapM_eq_mapM_toList,Sem.run_bind];have h2:(List.toArray <$> (fn.results.toList.mapM fun (x:ResultVar)=>(match x with
  |.tmp t=>(pure (a.tmps.getD t undef):Sem Value)
  |.cell p t=>do loadVar t (<- asAddr (a.tmps.getD p undef))))).run P w=.ok vs.toArray w:=by
  rw [<- bind_pure_comp,Sem.run_bind,h];rfl
 refine (congrArg (fun r=>Result.andThen r _) h2).trans ?_;subst hv
 match vs with
 |[]=>rfl
 |[x]=>rfl
 |x::y::r=>simp [a4c]
theorem a9A {fn:Func} {Φ:Value->World->Prop} {rs:List ResultVar} {vs:List Value} {v:Value} (hrs:fn.results.toList=rs) (hr:ResL P E w rs vs) (hv:a4c vs=v) (hΦ:Φ v w):WQ (bodyPost P fn (fun e w'=>∃ v,e=.returned v/\Φ v w')) .ret n [] E w:=fun _ ha=>b37 hrs hr hv hΦ ha
theorem b7h {fn:Func} {Φ:Value->World->Prop} {rs:List ResultVar} {vs:List Value} {v:Value} (hrs:fn.results.toList=rs) (hr:ResL P E w rs vs) (hv:a4c vs=v) (hΦ:Φ v w):WQ (bodyPost P fn (fun e w'=>∃ v,e=.returned v/\Φ v w')) .normal n [] E w:=fun _ ha=>b37 hrs hr hv hΦ ha
end
section
variable {P:Program} {n:Nat} {ds:List Deferred} {E:Fr} {w:World} {Q:Exit->Act->World->Prop} {ops:Array Oper} {rest:List Oper} {C:World->Prop} {d:Nat} {op:Op} {ty:TypeId} {pos:String} {after:Array Edge}
def WD (P:Program) (ops:Array Oper) (C:World->Prop) (K:Act->Prop) (l:List Oper) (n:Nat) (ds:List Deferred) (E:Fr):Prop:=∀ a,Has n ds a E->wpQuiet P ops C K l a
theorem a0p (F:Nat->Prop) (w0:World) (Γ:List Asr) {id:Nat} {l:List Oper} (m:Nat) (hm:P.follows .mixedOrders=true) (hB:Region.lexTailB .any l.toArray m=true) (hS:St F w0 w Γ)
  (h:WD P l.toArray (fun w'=>St F w0 w' Γ) (fun a'=>∀ w',St F w0 w' Γ->wpList P l.toArray Q (l.drop m) a' w') (l.take m) n ds E):WC P (.region id l.toArray true) Q n ds E w:=fun a ha=>
 a3y (C:=fun w'=>St F w0 w' Γ) m hm hB (hS.grow ⟨rfl,rfl,rfl,xd4 _,fun _ _ _=>rfl⟩) (h a ha)
theorem d9 (F:Nat->Prop) (w0:World) (Γ:List Asr) {id:Nat} {l:List Oper} (hm:P.follows .mixedOrders=true) (hB:Region.lexB .any l.toArray=true) (hS:St F w0 w Γ)
  (h:WD P l.toArray (fun w'=>St F w0 w' Γ) (fun a'=>∀ w',St F w0 w' Γ->wpList P l.toArray Q [] a' w') l n ds E):WC P (.region id l.toArray true) Q n ds E w:=fun a ha=>
 wp_region_quiet (C:=fun w'=>St F w0 w' Γ) hm hB (hS.grow ⟨rfl,rfl,rfl,xd4 _,fun _ _ _=>rfl⟩) (show wpQuiet P l.toArray _ (fun a'=>∀ w',St F w0 w' Γ->wpList P l.toArray Q [] a' w') l a from h a ha)
theorem j7 {S:World->Prop} {l:List Oper} (h:∀ w',S w'->WL P ops Q l n ds E w'):WD P ops C (fun a'=>∀ w',S w'->wpList P ops Q l a' w') [] n ds E:=fun a ha w' hw=>h w' hw a ha
theorem a6B {K:Act->Prop} {o:Oper} {a:Act} {v:Value} (hg:o.guard=none) (h:∀ w,C w->o.quietAt P a C w v) (k:wpQuiet P ops C K rest (a.put o.dst v)):wpQuiet P ops C K (o::rest) a:=by
 unfold wpQuiet;rw [xf0 (by simp [Region.wanted,hg])];exact ⟨v,h,k⟩
theorem a2J {K:Act->Prop} {v:Value} (h:∀ a,Has n ds a E->a05 P ⟨some d,op,ty,pos,after,none⟩ a v) (hd:Nat.blt d n=true) (k:WD P ops C K rest n ds ((d,v)::E)):WD P ops C K (⟨some d,op,ty,pos,after,none⟩::rest) n ds E:=fun a ha=>
 a6B rfl (fun w _=>by unfold Oper.quietAt;rw [h a ha w];exact ⟨rfl,rfl⟩) (k _ (ha.put d v hd))
theorem i7 {K:Act->Prop} {T:Tab} (hT:TabOk P T) {v:Value} (h:a0i T E op=some v) (hd:Nat.blt d n=true) (k:WD P ops C K rest n ds ((d,v)::E)):WD P ops C K (⟨some d,op,ty,pos,after,none⟩::rest) n ds E :=
 a2J (fun _ ha=>l6 hT ha h) hd k
theorem i9 {K:Act->Prop} {t:TypeId} {x:Operand} {p:Addr} {v:Value} (hx:E.ev x=some (.pointer (some p))) (h:∀ w,C w->Ld P t p v w) (hd:Nat.blt d n=true) (k:WD P ops C K rest n ds ((d,v)::E)):WD P ops C K (⟨some d,.load t x,ty,pos,after,none⟩::rest) n ds E:=fun a ha=>
 a6B (v:=v) rfl (fun w hw=>by
  have hl:=h w hw;unfold Ld at hl;simp only [Oper.quietAt,execOp,ha.ev hx,Instr.loadAt,Instr.sureAddr,Sem.run_bind,Sem.run_pure,Result.andThen_ok,hl];exact ⟨rfl,rfl⟩) (k _ (ha.put d v hd))
theorem a9 {t:TypeId} {x:Operand} {p:Addr} {v:Value} (hx:E.ev x=some (.pointer (some p))) (h:Ld P t p v w) (hd:Nat.blt d n=true) (k:WL P ops Q rest n ds ((d,v)::E) w):WL P ops Q (⟨some d,.load t x,ty,pos,after,none⟩::rest) n ds E w :=
 a09 hd (b00 hx h) (by rintro _ _ ⟨rfl,rfl⟩;exact k)
theorem b61 {F:Nat->Prop} {w0:World} {Γ:List Asr} {K:Act->Prop} {f:FuncId} {x:Operand} {args:Array Operand} {ats:Array TypeId} {vs:List Value} {first caps:List Value} {v:Value} (hx:E.ev x=some (.func (.func f) first.toArray caps.toArray)) (hv:E.evs args.toList=some vs) (h:∀ w,St F w0 w Γ->Fn P f (first++vs++caps) w (RBf v w)) (hd:Nat.blt d n=true)
  (k:WD P ops (fun w'=>St F w0 w' Γ) K rest n ds ((d,v)::E)):WD P ops (fun w'=>St F w0 w' Γ) K (⟨some d,.call { callee:=.value x,args:=args,argTypes:=ats },ty,pos,after,none⟩::rest) n ds E:=fun a ha=>
 a6B (v:=v) rfl (fun w hw=>by
  obtain ⟨⟨fn,hok⟩,hc⟩:=h w hw;have e1:args.map a.eval=vs.toArray:=by rw [<- ha.evs hv,<- xd1,xd2]
  unfold Oper.quietAt;simp only [execOp,resolve,ha.ev hx,Deferred.ofValue,Sem.run_bind,Sem.run_pure,Result.andThen_ok,invoke,e1];rw [a4U hok];refine ⟨rfl,?_⟩;simp only [List.append_toArray];exact hc.mono fun e w' ⟨u,he,hu,hs⟩=>⟨by rw [he,hu],hw.grow (a3w hs.below)⟩) (k _ (ha.put d v hd))
theorem a0t {K:Act->Prop} {j:Nat} {want b:Bool} {oj:Oper} {dj:Nat} {dst:Option Nat} (hj:ops[j]?=some oj) (hdj:oj.dst=some dj) (hlt:Nat.blt dj n=true) (hb:E.get dj=some (.bool b)) (he:b=want) (k:WD P ops C K (⟨dst,op,ty,pos,after,none⟩::rest) n ds E) :
  WD P ops C K (⟨dst,op,ty,pos,after,some (j,want)⟩::rest) n ds E:=fun a ha=>by
 have hw:=a1B (o:=⟨dst,op,ty,pos,after,some (j,want)⟩) rfl hj hdj hb ha hlt;have h:=k a ha;unfold wpQuiet at h |-;rw [xf0 (show Region.wanted _ _=true from rfl)] at h;rw [xf0 (by rw [hw,he];cases want <;> rfl)];exact h
theorem a14 {K:Act->Prop} {j:Nat} {want b:Bool} {oj:Oper} {dj:Nat} (hj:ops[j]?=some oj) (hdj:oj.dst=some dj) (hlt:Nat.blt dj n=true) (hb:E.get dj=some (.bool b)) (he:b=!want) (hd:Nat.blt d n=true) (k:WD P ops C K rest n ds ((d,undef)::E)) :
  WD P ops C K (⟨some d,op,ty,pos,after,some (j,want)⟩::rest) n ds E:=fun a ha=>by
 have hw:=a1B (o:=⟨some d,op,ty,pos,after,some (j,want)⟩) rfl hj hdj hb ha hlt;unfold wpQuiet;rw [xf1 (by rw [hw,he];cases want <;> simp)];exact k _ (ha.put d undef hd)
theorem b6S {K:Act->Prop} {j:Nat} {want b:Bool} {oj:Oper} {dj:Nat} {dst:Option Nat} (_hj:ops[j]?=some oj) (_hdj:oj.dst=some dj) (_hb:E.get dj=some (.bool b)) (k1:b=true->WD P ops C K (⟨dst,op,ty,pos,after,some (j,want)⟩::rest) n ds E) (k2:b=false->WD P ops C K (⟨dst,op,ty,pos,after,some (j,want)⟩::rest) n ds E) :
  WD P ops C K (⟨dst,op,ty,pos,after,some (j,want)⟩::rest) n ds E:=by cases b;exact k2 rfl;exact k1 rfl
theorem t7 {K:Act->Prop} {c x y:Operand} {b:Bool} {v:Value} (hc:E.ev c=some (.bool b)) (hb:b=true) (hv:E.ev x=some v) (hd:Nat.blt d n=true) (k:WD P ops C K rest n ds ((d,v)::E)):WD P ops C K (⟨some d,.pick c x y,ty,pos,after,none⟩::rest) n ds E :=
 a2J (fun a ha w=>by simp [execOp,ha.ev hc,asBool,hb,ha.ev hv]) hd k
theorem r7 {K:Act->Prop} {c x y:Operand} {b:Bool} {v:Value} (hc:E.ev c=some (.bool b)) (hb:b=false) (hv:E.ev y=some v) (hd:Nat.blt d n=true) (k:WD P ops C K rest n ds ((d,v)::E)):WD P ops C K (⟨some d,.pick c x y,ty,pos,after,none⟩::rest) n ds E :=
 a2J (fun a ha w=>by simp [execOp,ha.ev hc,asBool,hb,ha.ev hv]) hd k
end
end Go.Proofs.YtejnpppejalhfabGreat
namespace Go.Proofs.YtejnpppejalhfabGreat
set_option maxRecDepth 100000
set_option maxHeartbeats 8000000
open Go.RowKit Go.Sort
def celL:Value->Option (List Value)
 |.agg ⟨l⟩=>some l
 |.tuple _=>none
 |v=>some [v]
theorem a1q {v:Value} {L:List Value} (h:celL v=some L):v.cells.toList=L:=by
 unfold celL at h
 split at h <;> cases h
 ·rfl
 ·rename_i n _;cases v <;> first|rfl|exact (n _ rfl).elim
section
variable {P:Program} {n:Nat} {ds:List Deferred} {E:Fr} {w:World} {Q:Exit->Act->World->Prop} {ops:Array Oper} {rest:List Oper} {d:Nat} {ty:TypeId} {pos:String} {after:Array Edge} {T:Tab}
theorem j4 {t yt:TypeId} {x y:Operand} {m k:Int} (hx:E.ev x=some (.int .i64 m)) (hy:E.ev y=some (.int .i64 k)) (h1:-9223372036854775808<=m + k) (h2:m + k<=9223372036854775807) (hd:Nat.blt d n=true) (k':WL P ops Q rest n ds ((d,.int .i64 (m + k))::E) w):WL P ops Q (⟨some d,.binOp .add t x y yt,ty,pos,after,none⟩::rest) n ds E w:=a0v (fun a ha=>b55 hx hy h1 h2 a ha _) hd k'
theorem b39 {C:World->Prop} {K:Act->Prop} {t yt:TypeId} {x y:Operand} {m k:Int} (hx:E.ev x=some (.int .i64 m)) (hy:E.ev y=some (.int .i64 k)) (h1:-9223372036854775808<=m + k) (h2:m + k<=9223372036854775807) (hd:Nat.blt d n=true) (k':WD P ops C K rest n ds ((d,.int .i64 (m + k))::E)):WD P ops C K (⟨some d,.binOp .add t x y yt,ty,pos,after,none⟩::rest) n ds E:=a2J (fun a ha=>b55 hx hy h1 h2 a ha _) hd k'
theorem a0m {t yt:TypeId} {x y:Operand} {m k:Int} (hx:E.ev x=some (.int .i64 m)) (hy:E.ev y=some (.int .i64 k)) (h1:-9223372036854775808<=m - k) (h2:m - k<=9223372036854775807) (hd:Nat.blt d n=true) (k':WL P ops Q rest n ds ((d,.int .i64 (m - k))::E) w):WL P ops Q (⟨some d,.binOp .sub t x y yt,ty,pos,after,none⟩::rest) n ds E w:=a0v (fun a ha=>b5N hx hy h1 h2 a ha _) hd k'
theorem a1C {C:World->Prop} {K:Act->Prop} {t yt:TypeId} {x y:Operand} {m k:Int} (hx:E.ev x=some (.int .i64 m)) (hy:E.ev y=some (.int .i64 k)) (h1:-9223372036854775808<=m - k) (h2:m - k<=9223372036854775807) (hd:Nat.blt d n=true) (k':WD P ops C K rest n ds ((d,.int .i64 (m - k))::E)):WD P ops C K (⟨some d,.binOp .sub t x y yt,ty,pos,after,none⟩::rest) n ds E:=a2J (fun a ha=>b5N hx hy h1 h2 a ha _) hd k'
theorem b1a {t yt:TypeId} {x y:Operand} {m k:Int} (hx:E.ev x=some (.int .i64 m)) (hy:E.ev y=some (.int .i64 k)) (h1:0<=m) (h2:m<=9223372036854775807) (h3:0 < k) (hd:Nat.blt d n=true) (k':WL P ops Q rest n ds ((d,.int .i64 (m / k))::E) w):WL P ops Q (⟨some d,.binOp .quo t x y yt,ty,pos,after,none⟩::rest) n ds E w:=a0v (fun a ha=>b7v hx hy h1 h2 h3 a ha _) hd k'
theorem l7 (hT:TabOk P T) {t:TypeId} {x y:Operand} {el sz eb b off m c j:Nat} {ag:Bool} {z:List Value} {i:Int} (ht:T.get t=some (.sl el sz eb ag z)) (hx:E.ev x=some (.slice (some ⟨b,off,none⟩) m c)) (hy:E.ev y=some (.int .i64 i)) (hj:(j:Int)=i) (hm:j < m) (hd:Nat.blt d n=true) (k':WL P ops Q rest n ds ((d,.pointer (some ⟨b,off + j * sz,none⟩))::E) w):WL P ops Q (⟨some d,.indexAddr t x y,ty,pos,after,none⟩::rest) n ds E w:=a0v (fun a ha=>a5i hT ht hx hy hj hm a ha _) hd k'
theorem y8 {C:World->Prop} {K:Act->Prop} (hT:TabOk P T) {t:TypeId} {x y:Operand} {el sz eb b off m c j:Nat} {ag:Bool} {z:List Value} {i:Int} (ht:T.get t=some (.sl el sz eb ag z)) (hx:E.ev x=some (.slice (some ⟨b,off,none⟩) m c)) (hy:E.ev y=some (.int .i64 i)) (hj:(j:Int)=i) (hm:j < m) (hd:Nat.blt d n=true) (k':WD P ops C K rest n ds ((d,.pointer (some ⟨b,off + j * sz,none⟩))::E)):WD P ops C K (⟨some d,.indexAddr t x y,ty,pos,after,none⟩::rest) n ds E:=a2J (fun a ha=>a5i hT ht hx hy hj hm a ha _) hd k'
theorem n7 (hT:TabOk P T) {t s:Nat} {fs:List (Nat×Nat×Bool)} {z L:List Value} {parts:Array (Nat×Operand)} {ps:List (Nat×Value)} (ht:T.get t=some (.st s fs z)) (hp:evP E parts.toList=some ps) (hL:a2b (fun i=>(fs[i]?).map fun f=>(f.1,f.2.1)) z ps=some L) (hd:Nat.blt d n=true) (k':WL P ops Q rest n ds ((d,.agg L.toArray)::E) w):WL P ops Q (⟨some d,.build t parts,ty,pos,after,none⟩::rest) n ds E w:=a0v (fun a ha=>a3O hT ht hp hL a ha) hd k'
theorem a1Z {C:World->Prop} {K:Act->Prop} (hT:TabOk P T) {t s:Nat} {fs:List (Nat×Nat×Bool)} {z L:List Value} {parts:Array (Nat×Operand)} {ps:List (Nat×Value)} (ht:T.get t=some (.st s fs z)) (hp:evP E parts.toList=some ps) (hL:a2b (fun i=>(fs[i]?).map fun f=>(f.1,f.2.1)) z ps=some L) (hd:Nat.blt d n=true) (k':WD P ops C K rest n ds ((d,.agg L.toArray)::E)):WD P ops C K (⟨some d,.build t parts,ty,pos,after,none⟩::rest) n ds E:=a2J (fun a ha=>a3O hT ht hp hL a ha) hd k'
theorem b4e (a b:Bool):(a == b)=decide (a=b):=by cases a <;> cases b <;> rfl
theorem b50 (hT:TabOk P T) {t yt:TypeId} {x y:Operand} {a b:Bool} {s:Nat} {z:Value} (ht:T.get t=some (.sc .bool s z)) (hx:E.ev x=some (.bool a)) (hy:E.ev y=some (.bool b)):∀ c,Has n ds c E->∀ dst,a05 P ⟨dst,.binOp .eql t x y yt,ty,pos,after,none⟩ c (.bool (decide (a=b))):=fun c hc _ w=>by
 obtain ⟨i,hu,_⟩:=hT.sc ht;have e:(Op.equal t (.bool a) (.bool b)).run P w=.ok (decide (a=b)) w:=by rw [<- b4e];exact run_equalIn_bool' (P:=P) w 9999 t a b hu
 simp only [execOp,hc.ev hx,hc.ev hy,eqGuard,binOp,Sem.run_bind];simp [e,Result.andThen]
theorem b20 (hT:TabOk P T) {t yt:TypeId} {x y:Operand} {a b:Bool} {s:Nat} {z:Value} (ht:T.get t=some (.sc .bool s z)) (hx:E.ev x=some (.bool a)) (hy:E.ev y=some (.bool b)):∀ c,Has n ds c E->∀ dst,a05 P ⟨dst,.binOp .neq t x y yt,ty,pos,after,none⟩ c (.bool (!decide (a=b))):=fun c hc _ w=>by
 obtain ⟨i,hu,_⟩:=hT.sc ht;have e:(Op.equal t (.bool a) (.bool b)).run P w=.ok (decide (a=b)) w:=by rw [<- b4e];exact run_equalIn_bool' (P:=P) w 9999 t a b hu
 simp only [execOp,hc.ev hx,hc.ev hy,eqGuard,binOp,Sem.run_bind];simp [e,Result.andThen]
theorem b5X (hT:TabOk P T) {t yt:TypeId} {x y:Operand} {a b:Bool} {s:Nat} {z:Value} (ht:T.get t=some (.sc .bool s z)) (hx:E.ev x=some (.bool a)) (hy:E.ev y=some (.bool b)) (hd:Nat.blt d n=true) (k':WL P ops Q rest n ds ((d,.bool (decide (a=b)))::E) w):WL P ops Q (⟨some d,.binOp .eql t x y yt,ty,pos,after,none⟩::rest) n ds E w:=a0v (fun a ha=>b50 hT ht hx hy a ha _) hd k'
theorem b5T (hT:TabOk P T) {t yt:TypeId} {x y:Operand} {a b:Bool} {s:Nat} {z:Value} (ht:T.get t=some (.sc .bool s z)) (hx:E.ev x=some (.bool a)) (hy:E.ev y=some (.bool b)) (hd:Nat.blt d n=true) (k':WL P ops Q rest n ds ((d,.bool (!decide (a=b)))::E) w):WL P ops Q (⟨some d,.binOp .neq t x y yt,ty,pos,after,none⟩::rest) n ds E w:=a0v (fun a ha=>b20 hT ht hx hy a ha _) hd k'
theorem b7x {C:World->Prop} {K:Act->Prop} (hT:TabOk P T) {t yt:TypeId} {x y:Operand} {a b:Bool} {s:Nat} {z:Value} (ht:T.get t=some (.sc .bool s z)) (hx:E.ev x=some (.bool a)) (hy:E.ev y=some (.bool b)) (hd:Nat.blt d n=true) (k':WD P ops C K rest n ds ((d,.bool (!decide (a=b)))::E)):WD P ops C K (⟨some d,.binOp .neq t x y yt,ty,pos,after,none⟩::rest) n ds E:=a2J (fun a ha=>b20 hT ht hx hy a ha _) hd k'
def a7n (P:Program) (t:TypeId) (X Y:List Value) (b:Bool):Prop:=(∀ w,(Op.equalIn 10000 t (.agg X.toArray) (.agg Y.toArray)).run P w=.ok b w)/\P.eqGuardType P.depth t=false
theorem b5S {t yt:TypeId} {x y:Operand} {X Y:List Value} {b:Bool} (hx:E.ev x=some (.agg X.toArray)) (hy:E.ev y=some (.agg Y.toArray)) (h:a7n P t X Y b):∀ c,Has n ds c E->∀ dst,a05 P ⟨dst,.binOp .eql t x y yt,ty,pos,after,none⟩ c (.bool b):=fun c hc _ w=>by
 simp only [execOp,hc.ev hx,hc.ev hy,Sem.run_bind,run_eqGuard_agg w _ _ _ _ _ _ h.2,Result.andThen_ok,run_eql_struct,h.1 w,Sem.run_pure]
theorem b4h {t yt:TypeId} {x y:Operand} {X Y:List Value} {b:Bool} (hx:E.ev x=some (.agg X.toArray)) (hy:E.ev y=some (.agg Y.toArray)) (h:a7n P t X Y b):∀ c,Has n ds c E->∀ dst,a05 P ⟨dst,.binOp .neq t x y yt,ty,pos,after,none⟩ c (.bool (!b)):=fun c hc _ w=>by
 simp only [execOp,hc.ev hx,hc.ev hy,Sem.run_bind,run_eqGuard_agg w _ _ _ _ _ _ h.2,Result.andThen_ok,run_neq_struct,h.1 w,Sem.run_pure]
theorem b7E {t yt:TypeId} {x y:Operand} {X Y:List Value} {b:Bool} (hx:E.ev x=some (.agg X.toArray)) (hy:E.ev y=some (.agg Y.toArray)) (h:a7n P t X Y b) (hd:Nat.blt d n=true) (k':WL P ops Q rest n ds ((d,.bool b)::E) w):WL P ops Q (⟨some d,.binOp .eql t x y yt,ty,pos,after,none⟩::rest) n ds E w:=a0v (fun a ha=>b5S hx hy h a ha _) hd k'
theorem b1C {t yt:TypeId} {x y:Operand} {X Y:List Value} {b:Bool} (hx:E.ev x=some (.agg X.toArray)) (hy:E.ev y=some (.agg Y.toArray)) (h:a7n P t X Y b) (hd:Nat.blt d n=true) (k':WL P ops Q rest n ds ((d,.bool (!b))::E) w):WL P ops Q (⟨some d,.binOp .neq t x y yt,ty,pos,after,none⟩::rest) n ds E w:=a0v (fun a ha=>b4h hx hy h a ha _) hd k'
theorem a6k {C:World->Prop} {K:Act->Prop} {t yt:TypeId} {x y:Operand} {X Y:List Value} {b:Bool} (hx:E.ev x=some (.agg X.toArray)) (hy:E.ev y=some (.agg Y.toArray)) (h:a7n P t X Y b) (hd:Nat.blt d n=true) (k':WD P ops C K rest n ds ((d,.bool (!b))::E)):WD P ops C K (⟨some d,.binOp .neq t x y yt,ty,pos,after,none⟩::rest) n ds E:=a2J (fun a ha=>b4h hx hy h a ha _) hd k'
theorem b9 {c:Operand} {x y:Code} {p:Prop} {_i:Decidable p} (hc:E.ev c=some (.bool (decide p))) (ht:decide p=true->p->WC P x Q n ds E w) (hf:decide p=false->¬ p->WC P y Q n ds E w):WC P (.cond c x y) Q n ds E w :=
 b3D hc (fun h=>ht h (xn9 h)) (fun h=>hf h (of_decide_eq_false h))
theorem a08 {c:Operand} {x y:Code} {p:Prop} {_i:Decidable p} (hc:E.ev c=some (.bool (!decide p))) (ht:(!decide p)=true->¬ p->WC P x Q n ds E w) (hf:(!decide p)=false->p->WC P y Q n ds E w):WC P (.cond c x y) Q n ds E w :=
 b3D hc (fun h=>ht h (by simpa using h)) (fun h=>hf h (by simpa using h))
theorem b7R {c:Operand} {x y:Code} {b:Bool} (hc:E.ev c=some (.bool b)) (ht:b=true->True->WC P x Q n ds E w) (hf:b=false->True->WC P y Q n ds E w):WC P (.cond c x y) Q n ds E w :=
 b3D hc (fun h=>ht h trivial) (fun h=>hf h trivial)
section
variable {op:Op}
theorem q7 {j:Nat} {want:Bool} {p:Prop} {_i:Decidable p} {oj:Oper} {dj:Nat} {dst:Option Nat} (_hj:ops[j]?=some oj) (_hdj:oj.dst=some dj) (_hb:E.get dj=some (.bool (decide p))) (k1:decide p=true->p->WL P ops Q (⟨dst,op,ty,pos,after,some (j,want)⟩::rest) n ds E w) (k2:decide p=false->¬ p->WL P ops Q (⟨dst,op,ty,pos,after,some (j,want)⟩::rest) n ds E w) :
  WL P ops Q (⟨dst,op,ty,pos,after,some (j,want)⟩::rest) n ds E w:=b0K _hj _hdj _hb (fun h=>k1 h (xn9 h)) (fun h=>k2 h (of_decide_eq_false h))
theorem a13 {j:Nat} {want:Bool} {p:Prop} {_i:Decidable p} {oj:Oper} {dj:Nat} {dst:Option Nat} (_hj:ops[j]?=some oj) (_hdj:oj.dst=some dj) (_hb:E.get dj=some (.bool (!decide p))) (k1:(!decide p)=true->¬ p->WL P ops Q (⟨dst,op,ty,pos,after,some (j,want)⟩::rest) n ds E w) (k2:(!decide p)=false->p->WL P ops Q (⟨dst,op,ty,pos,after,some (j,want)⟩::rest) n ds E w) :
  WL P ops Q (⟨dst,op,ty,pos,after,some (j,want)⟩::rest) n ds E w:=b0K _hj _hdj _hb (fun h=>k1 h (by simpa using h)) (fun h=>k2 h (by simpa using h))
theorem b4X {j:Nat} {want b:Bool} {oj:Oper} {dj:Nat} {dst:Option Nat} (_hj:ops[j]?=some oj) (_hdj:oj.dst=some dj) (_hb:E.get dj=some (.bool b)) (k1:b=true->True->WL P ops Q (⟨dst,op,ty,pos,after,some (j,want)⟩::rest) n ds E w) (k2:b=false->True->WL P ops Q (⟨dst,op,ty,pos,after,some (j,want)⟩::rest) n ds E w) :
  WL P ops Q (⟨dst,op,ty,pos,after,some (j,want)⟩::rest) n ds E w:=b0K _hj _hdj _hb (fun h=>k1 h trivial) (fun h=>k2 h trivial)
variable {C:World->Prop} {K:Act->Prop}
theorem a0F {j:Nat} {want:Bool} {p:Prop} {_i:Decidable p} {oj:Oper} {dj:Nat} {dst:Option Nat} (_hj:ops[j]?=some oj) (_hdj:oj.dst=some dj) (_hb:E.get dj=some (.bool (decide p))) (k1:decide p=true->p->WD P ops C K (⟨dst,op,ty,pos,after,some (j,want)⟩::rest) n ds E) (k2:decide p=false->¬ p->WD P ops C K (⟨dst,op,ty,pos,after,some (j,want)⟩::rest) n ds E) :
  WD P ops C K (⟨dst,op,ty,pos,after,some (j,want)⟩::rest) n ds E:=b6S _hj _hdj _hb (fun h=>k1 h (xn9 h)) (fun h=>k2 h (of_decide_eq_false h))
end
section
variable {fn:Func} {Φ:Value->World->Prop} {v v1 v2 v3:Value}
theorem b0d (hr:ResL P E w fn.results.toList []) (hΦ:Φ (.tuple #[]) w):WQ (bodyPost P fn (fun e w'=>∃ v,e=.returned v/\Φ v w')) .ret n [] E w:=a9A rfl hr rfl hΦ
theorem a0U (hr:ResL P E w fn.results.toList [v]) (hΦ:Φ v w):WQ (bodyPost P fn (fun e w'=>∃ v,e=.returned v/\Φ v w')) .ret n [] E w:=a9A rfl hr rfl hΦ
theorem a26 (hr:ResL P E w fn.results.toList [v1,v2]) (hΦ:Φ (.tuple #[v1,v2]) w):WQ (bodyPost P fn (fun e w'=>∃ v,e=.returned v/\Φ v w')) .ret n [] E w:=a9A rfl hr rfl hΦ
theorem a3L (hr:ResL P E w fn.results.toList [v1,v2,v3]) (hΦ:Φ (.tuple #[v1,v2,v3]) w):WQ (bodyPost P fn (fun e w'=>∃ v,e=.returned v/\Φ v w')) .ret n [] E w:=a9A rfl hr rfl hΦ
theorem b69 (hr:ResL P E w fn.results.toList []) (hΦ:Φ (.tuple #[]) w):WQ (bodyPost P fn (fun e w'=>∃ v,e=.returned v/\Φ v w')) .normal n [] E w:=b7h rfl hr rfl hΦ
end
variable {F:Nat->Prop} {w0:World} {Γ:List Asr}
theorem l8 (hS:St F w0 w Γ) {t:TypeId} {x:Operand} {v:Value} {L:List Value} (hx:E.ev x=some v) (hc:celL v=some L) (hd:Nat.blt d n=true) (k:∀ g w',St F w0 w' (.blk g L::Γ)->WL P ops Q rest n ds ((d,.pointer (some ⟨g,0,none⟩))::E) w'):WL P ops Q (⟨some d,.box t x,ty,pos,after,none⟩::rest) n ds E w :=
 a09 hd (a4e hS hx) (by rintro _ w' ⟨g,rfl,h⟩;rw [a1q hc] at h;exact k g w' h)
theorem d8 (hS:St F w0 w Γ) (hT:TabOk P T) {t:TypeId} {i:TI} {L:List Value} (ht:T.get t=some i) (hL:some i.zeroCells=some L) (hd:Nat.blt d n=true) (k:∀ g w',St F w0 w' (.blk g L::Γ)->WL P ops Q rest n ds ((d,.pointer (some ⟨g,0,none⟩))::E) w'):WL P ops Q (⟨some d,.alloc t,ty,pos,after,none⟩::rest) n ds E w :=
 a09 hd (v9 hS hT ht hL) (by rintro _ w' ⟨g,rfl,h⟩;exact k g w' h)
theorem b8 (hS:St F w0 w Γ) (hT:TabOk P T) {t:TypeId} {ti:TI} {x y:Operand} {g j i:Nat} {v:Value} {L c L':List Value} (ht:T.get t=some ti) (hx:E.ev x=some (.pointer (some ⟨g,j,none⟩))) (hy:E.ev y=some v) (hi:Γ[i]?=some (.blk g L)) (hc:celL v=some c)
  (hsz:Nat.beq c.length ti.size=true) (hk:Nat.ble (j + ti.size) L.length=true) (h1:c.all (·.oneCell')=true) (hL:o6 L j c=L') (k:∀ w',St F w0 w' (Γ.set i (.blk g L'))->WL P ops Q rest n ds E w'):WL P ops Q (⟨none,.store t x y,ty,pos,after,none⟩::rest) n ds E w :=
 a8j (m7 hS hT ht hx hy hi (by rw [a1q hc];exact xb9 hsz) (xg1 hk) (by rw [a1q hc];exact fun u hu=>xc7.1 h1 u hu)) (by intro _ w' h;rw [a1q hc,hL] at h;exact k w' h)
theorem a9S (hS:St F w0 w Γ) (hT:TabOk P T) {t:TypeId} {ti:TI} {x y:Operand} {g kk j o i e sz m cap:Nat} {v:Value} {rows:List (List Value)} {r c r':List Value} (ht:T.get t=some ti) (hx:E.ev x=some (.pointer (some ⟨g,o,none⟩))) (hy:E.ev y=some v) (hi:Γ[i]?=some (.row e sz (.slice (some ⟨g,0,none⟩) m cap) rows))
  (ho:o=0 + kk * sz + j) (hr:rows[kk]?=some r) (hc:celL v=some c) (hsz:Nat.beq c.length ti.size=true) (hk:Nat.ble (j + ti.size) sz=true) (h1:c.all (·.oneCell')=true) (hL:o6 r j c=r') (k:∀ w',St F w0 w' (Γ.set i (.row e sz (.slice (some ⟨g,0,none⟩) m cap) (rows.set kk r')))->WL P ops Q rest n ds E w'):WL P ops Q (⟨none,.store t x y,ty,pos,after,none⟩::rest) n ds E w :=
 a8j (a2V hS hT ht hx hy hi ho hr (a1q hc) (xb9 hsz) (xg1 hk) h1) (by intro _ w' h;rw [hL] at h;exact k w' h)
theorem o5 (hS:St F w0 w Γ) (hT:TabOk P T) {t:TypeId} {ti:TI} {x y:Operand} {g kk i e sz m cap:Nat} {v:Value} {rows:List (List Value)} {r c r':List Value} (ht:T.get t=some ti) (hx:E.ev x=some (.pointer (some ⟨g,0 + kk * sz,none⟩))) (hy:E.ev y=some v) (hi:Γ[i]?=some (.row e sz (.slice (some ⟨g,0,none⟩) m cap) rows))
  (hr:rows[kk]?=some r) (hc:celL v=some c) (hsz:Nat.beq c.length ti.size=true) (hk:Nat.ble (0 + ti.size) sz=true) (h1:c.all (·.oneCell')=true) (hL:o6 r 0 c=r') (k:∀ w',St F w0 w' (Γ.set i (.row e sz (.slice (some ⟨g,0,none⟩) m cap) (rows.set kk r')))->WL P ops Q rest n ds E w'):WL P ops Q (⟨none,.store t x y,ty,pos,after,none⟩::rest) n ds E w :=
 a9S hS hT ht hx hy hi rfl hr hc hsz hk h1 hL k
theorem t5 (hS:St F w0 w Γ) (hT:TabOk P T) {t:TypeId} {ti:TI} {x y:Operand} {g kk j i e sz m cap:Nat} {v:Value} {rows:List (List Value)} {r c r':List Value} (ht:T.get t=some ti) (hx:E.ev x=some (.pointer (some ⟨g,0 + kk * sz + j,none⟩))) (hy:E.ev y=some v) (hi:Γ[i]?=some (.row e sz (.slice (some ⟨g,0,none⟩) m cap) rows))
  (hr:rows[kk]?=some r) (hc:celL v=some c) (hsz:Nat.beq c.length ti.size=true) (hk:Nat.ble (j + ti.size) sz=true) (h1:c.all (·.oneCell')=true) (hL:o6 r j c=r') (k:∀ w',St F w0 w' (Γ.set i (.row e sz (.slice (some ⟨g,0,none⟩) m cap) (rows.set kk r')))->WL P ops Q rest n ds E w'):WL P ops Q (⟨none,.store t x y,ty,pos,after,none⟩::rest) n ds E w :=
 a9S hS hT ht hx hy hi rfl hr hc hsz hk h1 hL k
theorem a0R (hS:St F w0 w Γ) (hT:TabOk P T) {t e sz eb len:Nat} {ag:Bool} {ez:List Value} {parts:Array (Nat×Operand)} {ps:List (Nat×Value)} {rows:List (List Value)} (ht:T.get t=some (.sl e sz eb ag ez)) (hp:evP E parts.toList=some ps) (hr:a3N 0 sz ps=some rows) (hl:Nat.beq rows.length len=true)
  (hbig:Nat.ble (len * sz) 16777216=true) (h1:a4E rows=true) (hd:Nat.blt d n=true) (k:∀ g w',St F w0 w' (.row e sz (.slice (some ⟨g,0,none⟩) len len) rows::Γ)->WL P ops Q rest n ds ((d,.slice (some ⟨g,0,none⟩) len len)::E) w'):WL P ops Q (⟨some d,.buildSlice t len parts,ty,pos,after,none⟩::rest) n ds E w :=
 a09 hd (o7 hS hT ht hp hr hl hbig h1) (by rintro _ w' ⟨g,rfl,h⟩;exact k g w' h)
theorem b4w (hS:St F w0 w Γ) (hT:TabOk P T) {t e sz eb m:Nat} {ag:Bool} {ez:List Value} {x y:Operand} {i j:Int} (ht:T.get t=some (.sl e sz eb ag ez)) (hx:E.ev x=some (.int .i64 i)) (hy:E.ev y=some (.int .i64 j)) (hi:(m:Int)=i) (hj:(m:Int)=j) (hm:m<=140737488355327) (hb:(eb:Int) * m<=281474976710656) (h1:ez.all (·.oneCell')=true) (hd:Nat.blt d n=true) (k:∀ g w',St F w0 w' (.row e sz (.slice (some ⟨g,0,none⟩) m m) (List.replicate m ez)::Γ)->WL P ops Q rest n ds ((d,.slice (some ⟨g,0,none⟩) m m)::E) w'):WL P ops Q (⟨some d,.makeSlice t x y,ty,pos,after,none⟩::rest) n ds E w :=
 a09 hd (y0 hS hT ht hx hy hi hj hm hb h1) (by rintro _ w' ⟨g,rfl,h⟩;exact k g w' h)
theorem a2s (hS:St F w0 w Γ) (hT:TabOk P T) {t e sz eb m c b off:Nat} (i:Nat) {ag:Bool} {ez:List Value} {x y:Operand} {v:Value} {rows news:List (List Value)} (ht:T.get t=some (.sl e sz eb ag ez)) (hx:E.ev x=some v) (hi:Γ[i]?=some (.row e sz v rows)) (hy:E.ev y=some (.slice (some ⟨b,off,none⟩) m c))
  (hn:RoAt nF w b off sz news) (hm:news.length=m) (hbig:(rows.length + m) * (eb + 1)<=140737488355328) (hd:Nat.blt d n=true) (k:∀ p cap w',St F w0 w' (Γ.set i (.row e sz (.slice p (rows.length + m) cap) (rows++news)))->WL P ops Q rest n ds ((d,.slice p (rows.length + m) cap)::E) w'):WL P ops Q (⟨some d,.call { callee:=.builtin .append,args:=#[x,y],argTypes:=#[t,t] },ty,pos,after,none⟩::rest) n ds E w :=
 a09 hd (a0x hS hT ht hx hi hy hn hm hbig) (by rintro _ w' ⟨p,cap,rfl,h⟩;exact k p cap w' h)
theorem a8q {f:FuncId} {x:Operand} {args:Array Operand} {ats:Array TypeId} {vs:List Value} {first caps:List Value} {Φ:Value->World->Prop} (hx:E.ev x=some (.func (.func f) first.toArray caps.toArray)) (hv:E.evs args.toList=some vs) (h:Fn P f (first++vs++caps) w Φ) (hd:Nat.blt d n=true) (k:∀ v w',Φ v w'->WL P ops Q rest n ds ((d,v)::E) w') :
  WL P ops Q (⟨some d,.call { callee:=.value x,args:=args,argTypes:=ats },ty,pos,after,none⟩::rest) n ds E w:=a09 hd (s9 hx hv h) k
end
section
variable {F:Nat->Prop} {w0 w w':World} {Γ:List Asr}
theorem St.addNil (h:St F w0 w Γ) (e sz:Nat):St F w0 w (.row e sz (.slice none 0 0) []::Γ) :=
 h.new ⟨rfl,rfl,rfl,xd4 _,fun _ _ _=>rfl⟩ ⟨World.ownsRow_nil _ _ _ _,by simp,by simp⟩ (by simp [Asr.fp,Value.ownBlock])
theorem St.rowSome (h:St F w0 w Γ) (i:Nat) {e sz n cap:Nat} {p:Option Addr} {rows:List (List Value)} (hi:Γ[i]?=some (.row e sz (.slice p n cap) rows)) (hn:0 < n):∃ g,p=some ⟨g,0,none⟩:=by
 rcases h.rowForm i hi with ⟨h1,h2⟩|⟨g,cap',h1,_⟩
 ·cases h1;omega
 ·cases h1;exact ⟨g,rfl⟩
theorem Sl.parts {sz n cap:Nat} {p:Option Addr} {rows:List (List Value)} (h:Sl F w0 sz (.slice p n cap) rows):n=rows.length/\(rows=[]\/∃ b off,p=some ⟨b,off,none⟩/\n<=cap/\cap<=maxLen/\RoAt F w0 b off sz rows):=by
 rcases h with ⟨p1,c1,h1,h2⟩|⟨b,off,cap0,h1,h2,h3,h4⟩
 ·cases h1;subst h2;exact ⟨rfl,xd6 rfl⟩
 ·cases h1;exact ⟨rfl,xd3 ⟨b,off,rfl,h2,h3,h4⟩⟩
def v6:List Asr->List Asr->List Asr
 |[],Γ=>Γ
 |A::Δ,Γ=>A::v6 Δ Γ
theorem a55 (Δ Γ:List Asr):v6 Δ Γ=Δ++Γ:=by
 induction Δ with
 |nil=>rfl
 |cons A Δ ih=>simp [v6,ih]
theorem St.transA {Δ:List Asr} (h:St F w0 w Γ) (h2:St nF w w' Δ):St F w0 w' (v6 Δ Γ):=by rw [a55];exact h.trans h2
theorem St.one {A:Asr} (h:St F w0 w (A::Γ)):St F w0 w [A]:=h.sub (List.Sublist.cons_cons _ (xj1 _))
structure Bs (F:Nat->Prop) (w0:World) (p:Addr) (v:Value):Prop where
 cell:w0.cell? p=some v
 nf:¬ F p.block
theorem St.bs (h:St F w0 w Γ) {p:Addr} {v:Value} (hb:Bs F w0 p v):w.cell? p=some v:=h.baseC hb.cell hb.nf
theorem Bs.of {p:Addr} {v:Value} (h:w.cell? p=some v):Bs nF w p v:=⟨h,id⟩
end
end Go.Proofs.YtejnpppejalhfabGreat
namespace Go.Proofs.YtejnpppejalhfabGreat
set_option maxRecDepth 100000
set_option maxHeartbeats 8000000
open Go.RowKit Go.Sort
section
variable {P:Program} {n:Nat} {ds:List Deferred} {E:Fr} {w:World} {Q:Exit->Act->World->Prop} {ops:Array Oper} {rest:List Oper} {C:World->Prop} {K:Act->Prop} {d:Nat} {op:Op} {ty:TypeId} {pos:String} {after:Array Edge}
theorem a5w {o oj:Oper} {j:Nat} {want:Bool} {dj:Nat} (hg:o.guard=some (j,want)) (hj:ops[j]?=some oj) (hdj:oj.dst=some dj) (hb:E.get dj=some undef) {a:Act} (ha:Has n ds a E) (hlt:Nat.blt dj n=true) :
  Region.wanted o (yielded ops a.tmps)=false:=by
 have hlt':dj < a.tmps.size:=by rw [ha.size];simpa [xc1] using hlt
 have h1:a.tmps[dj]?=some undef:=by
  have:=ha.at_ dj _ hb;rw [xc2] at this;rw [Array.getElem?_eq_getElem hlt'] at this |-;exact congrArg some this
 have hy:yielded ops a.tmps j=none:=by simp [yielded,hj,hdj,h1,undef]
 simp only [Region.wanted,hg,hy];rfl
theorem a1r {j:Nat} {want:Bool} {oj:Oper} {dj:Nat} (hj:ops[j]?=some oj) (hdj:oj.dst=some dj) (hlt:Nat.blt dj n=true) (hb:E.get dj=some undef) (hd:Nat.blt d n=true) (k:WL P ops Q rest n ds ((d,undef)::E) w) :
  WL P ops Q (⟨some d,op,ty,pos,after,some (j,want)⟩::rest) n ds E w:=fun a ha=>by
 have hw:=a5w (o:=⟨some d,op,ty,pos,after,some (j,want)⟩) rfl hj hdj hb ha hlt;unfold wpList;rw [xf1 (by rw [hw];simp)];exact k _ (ha.put d undef hd)
theorem a2G {j:Nat} {want:Bool} {oj:Oper} {dj:Nat} (hj:ops[j]?=some oj) (hdj:oj.dst=some dj) (hlt:Nat.blt dj n=true) (hb:E.get dj=some undef) (hd:Nat.blt d n=true) (k:WD P ops C K rest n ds ((d,undef)::E)) :
  WD P ops C K (⟨some d,op,ty,pos,after,some (j,want)⟩::rest) n ds E:=fun a ha=>by
 have hw:=a5w (o:=⟨some d,op,ty,pos,after,some (j,want)⟩) rfl hj hdj hb ha hlt;unfold wpQuiet;rw [xf1 (by rw [hw];simp)];exact k _ (ha.put d undef hd)
theorem Gets.of_at {o:Oper} {v:Value} (h:∀ a,Has n ds a E->(execOp a.eval o).run P w=.ok (.value v) w):Gets P o n ds E w (fun v' w'=>v'=v/\w'=w):=by
 intro a ha K Q k;unfold Oper.wp;rw [h a ha];exact k v w ⟨rfl,rfl⟩
def Fr.only (E:Fr):List Nat->Option Fr
 |[]=>some []
 |k::r=>match Fr.get E k,Fr.only E r with
  |some v,some E'=>some ((k,v)::E')
  |_,_=>none
theorem Fr.only_sub {E:Fr}:∀ {ks:List Nat} {E':Fr},Fr.only E ks=some E'->Fr.sub E' E:=by
 intro ks
 induction ks with
 |nil=>intro E' h;cases h;exact Fr.sub_nil _
 |cons k r ih=>
  intro E' h;unfold Fr.only at h
  split at h
  ·rename_i v E2 h1 h2
   cases h
   exact Fr.sub_cons h1 (ih h2)
  ·cases h
variable {F:Nat->Prop} {w0:World} {Γ:List Asr}
def Cnt (n:Nat) (ds:List Deferred) (E:Fr) (F:Nat->Prop) (w0:World) (Γ:List Asr) (d:Nat) (N:Nat) (p:Nat->Prop) (i:Nat):Act->World->Prop:=fun a' w'=>∃ i',Has n ds a' ((d,.int .i64 (i':Nat))::E)/\((i'<=N/\p i')/\St F w0 w' Γ)/\N - i' < N - i
theorem a2j {c:Code} (hS:St F w0 w Γ) (d:Nat) (ks:List Nat) {E':Fr} (hE:Fr.only E ks=some E') (N:Nat) (p:Nat->Prop) (i0:Nat) (hd:Fr.get E d=some (.int .i64 (i0:Nat))) (hN:i0<=N) (h0:p i0)
  (round:∀ i w',i<=N->p i->St F w0 w' Γ->WC P c (Exit.then (Cnt n ds E' F w0 Γ d N p i) Q) n ds ((d,.int .i64 (i:Nat))::E') w'):WC P (.loop c) Q n ds E w :=
 b4y (X:=Nat) i0 (fun i=>(d,.int .i64 (i:Nat))::E') (fun i w'=>(i<=N/\p i)/\St F w0 w' Γ) (fun i=>N - i) (Fr.sub_cons hd (Fr.only_sub hE)) ⟨⟨hN,h0⟩,hS⟩ (fun i w' h=>round i w' h.1.1 h.1.2 h.2)
theorem a0O {E':Fr} {d N i:Nat} {p:Nat->Prop} (i':Nat) (h0:Fr.sub ((d,.int .i64 (i':Nat))::E') E) (hN:i'<=N) (hp:p i') (hlt:i < i') (hS:St F w0 w Γ):WQ (Exit.then (Cnt n ds E' F w0 Γ d N p i) Q) .normal n ds E w:=fun _ ha=>⟨i',ha.sub h0,⟨⟨hN,hp⟩,hS⟩,by omega⟩
def Rnd {X:Type} (n:Nat) (ds:List Deferred) (E:Fr) (F:Nat->Prop) (w0:World) (Γ:List Asr) (vf:X->Fr) (Γf:X->List Asr) (I:X->Prop) (m:X->Nat) (x:X):Act->World->Prop:=fun a' w'=>∃ x',Has n ds a' (vf x'++E)/\(I x'/\St F w0 w' (Γf x'++Γ))/\m x' < m x
theorem Fr.sub_app {A B E:Fr} (h1:Fr.sub A E) (h2:Fr.sub B E):Fr.sub (A++B) E:=fun p hp=>(xe3.1 hp).elim (h1 p) (h2 p)
theorem k9 {X:Type} {c:Code} (vf:X->Fr) (ks:List Nat) {E':Fr} (hE:Fr.only E ks=some E') (Γf:X->List Asr) (I:X->Prop) (m:X->Nat) (x0:X) (h0:Fr.sub (vf x0) E) (hI:I x0) (hS:St F w0 w (Γf x0++Γ))
  (round:∀ x w',I x->St F w0 w' (Γf x++Γ)->WC P c (Exit.then (Rnd n ds E' F w0 Γ vf Γf I m x) Q) n ds (vf x++E') w'):WC P (.loop c) Q n ds E w :=
 b4y (X:=X) x0 (fun x=>vf x++E') (fun x w'=>I x/\St F w0 w' (Γf x++Γ)) m (Fr.sub_app h0 (Fr.only_sub hE)) ⟨hI,hS⟩ (fun x w' h=>round x w' h.1 h.2)
theorem e9 {X:Type} {E':Fr} {vf:X->Fr} {Γf:X->List Asr} {I:X->Prop} {m:X->Nat} {x:X} (x':X) (h0:Fr.sub (vf x'++E') E) (hI:I x') (hS:St F w0 w (Γf x'++Γ)) (hm:m x' < m x):WQ (Exit.then (Rnd n ds E' F w0 Γ vf Γf I m x) Q) .normal n ds E w:=fun _ ha=>⟨x',ha.sub h0,⟨hI,hS⟩,hm⟩
end
theorem a5N (g j:Nat):(⟨g,0,none⟩:Addr).add j=⟨g,j,none⟩:=by unfold Addr.add;split <;> simp_all
def bR (l:List UInt8):List (List Value):=l.map fun b=>[.int .u8 b.toNat]
theorem a4l (l:List UInt8):(bR l).length=l.length:=by unfold bR;simp
theorem a8O (l:List UInt8):(bR l).flatten=l.map fun b=>Value.int .u8 b.toNat:=by
 unfold bR
 induction l with
 |nil=>rfl
 |cons b l ih=>simp [ih]
section
variable {P:Program} {n:Nat} {ds:List Deferred} {E:Fr} {w:World} {Q:Exit->Act->World->Prop} {ops:Array Oper} {rest:List Oper} {d:Nat} {dst:Option Nat} {ty:TypeId} {pos:String} {after:Array Edge} {F:Nat->Prop} {w0:World} {Γ:List Asr} {T:Tab}
theorem b5D (hS:St F w0 w Γ) (hT:TabOk P T) {t sz:Nat} {z:Value} {x:Operand} {l:List UInt8} (ht:T.get t=some (.sc .string sz z)) (hx:E.ev x=some (.string ⟨l.toArray⟩)) :
  Gets P ⟨dst,.range t x,ty,pos,after,none⟩ n ds E w (fun v w'=>∃ r,v=.pointer (some ⟨r,0,none⟩)/\St F w0 w' (.obj r (.stringIter ⟨l.toArray⟩ 0)::Γ)):=by
 intro a ha K Q k;obtain ⟨_,hu,_⟩:=hT.sc ht;have hex:(execOp a.eval ⟨dst,.range t x,ty,pos,after,none⟩).run P w=.ok (.value (.pointer (some ⟨w.heap.size,0,none⟩))) (w.iter ⟨l.toArray⟩ 0):=by
  simp [execOp,ha.ev hx,run_range_string w t _ hu,Result.andThen]
 unfold Oper.wp;rw [hex];exact k _ _ ⟨_,rfl,hS.new (World.grownBy_alloc w _ none) ⟨World.iter_heap w _ 0,rfl⟩ (by simp [Asr.fp])⟩
theorem b3W (hS:St F w0 w Γ) {x:Operand} {l:List UInt8} {i r k:Nat} (hx:E.ev x=some (.pointer (some ⟨r,0,none⟩))) (hi:Γ[i]?=some (.obj r (.stringIter ⟨l.toArray⟩ k))) :
  Gets P ⟨dst,.next x true,ty,pos,after,none⟩ n ds E w (fun v w'=>(k < l.length/\v=.tuple #[.bool true,.int .i64 k,.int .i32 (Utf8.decode ⟨l.toArray⟩ k).1]/\St F w0 w' (Γ.set i (.obj r (.stringIter ⟨l.toArray⟩ (k + (Utf8.decode ⟨l.toArray⟩ k).2)))))\/(l.length<=k/\v=.tuple #[.bool false]/\w'=w)):=by
 intro a ha K Q kk;obtain ⟨hr,_⟩:=hS.at_ hi;by_cases hk:k < l.length
 ·have hk':k < (⟨l.toArray⟩:ByteArray).size:=hk;have hex:(execOp a.eval ⟨dst,.next x true,ty,pos,after,none⟩).run P w=.ok (.value (.tuple #[.bool true,.int .i64 k,.int .i32 (Utf8.decode ⟨l.toArray⟩ k).1])) { w with heap:=w.heap.setIfInBounds r (.stringIter ⟨l.toArray⟩ (k + (Utf8.decode ⟨l.toArray⟩ k).2)) }:=by
   simp [execOp,ha.ev hx,Instr.next,getObj,setObj,Sem.run,hr,hk',Result.andThen,goInt]
  unfold Oper.wp;rw [hex];have hrl:=(xb8.1 hr).1;refine kk _ _ (xd6 ⟨hk,rfl,hS.upd hi ⟨rfl,rfl,rfl,by simp,fun q hq hne=>?_⟩ ⟨by simp [hrl],rfl⟩ (fun q hq=>xd6 hq)⟩);have:r≠q:=fun e=>hne (by simp [Asr.fp,e]);simp [this]
 ·have hk':¬ k < (⟨l.toArray⟩:ByteArray).size:=hk;have hex:(execOp a.eval ⟨dst,.next x true,ty,pos,after,none⟩).run P w=.ok (.value (.tuple #[.bool false])) w:=by
   simp [execOp,ha.ev hx,Instr.next,getObj,Sem.run,hr,hk',Result.andThen]
  unfold Oper.wp;rw [hex];exact kk _ _ (xd3 ⟨by omega,rfl,rfl⟩)
theorem b5b (hS:St F w0 w Γ) (hT:TabOk P T) {t u e i sz2:Nat} {z2:Value} {x:Operand} {v:Value} {l:List UInt8} (ht:T.get t=some (.sl e 1 1 false [.int .u8 0])) (he:T.get e=some (.sc (.int .u8) 1 (.int .u8 0))) (hu2:T.get u=some (.sc .string sz2 z2)) (hx:E.ev x=some v) (hi:Γ[i]?=some (.row e 1 v (bR l))) (hne:0 < l.length) :
  Gets P ⟨dst,.convert t u x,ty,pos,after,none⟩ n ds E w (fun v' w'=>v'=.string ⟨l.toArray⟩/\w'=w):=by
 refine Gets.of_at fun a ha=>?_;obtain ⟨ji,zv,hu,hinfo,_⟩:=hT.sl ht;obtain ⟨_,hus,_⟩:=hT.sc hu2;obtain ⟨_,hue,_⟩:=hT.sc he;rcases hS.rowForm i hi with ⟨rfl,h0⟩|⟨g,cap,rfl,_⟩
 ·have:=congrArg List.length h0;rw [a4l,xa2] at this;omega
 ·have hrun:=run_convert_bytes_back (P:=P) w t u e ⟨g,0,none⟩ cap l hu hue hus (fun j hj=>by
   rw [a5N];have:=hS.rowC i hi (k:=j) (j:=0) (r:=[.int .u8 l[j].toNat]) (u:=.int .u8 l[j].toNat) (by unfold bR;simp [hj]) rfl
   simpa using this)
  rw [a4l] at hx;simp only [execOp,ha.ev hx,Sem.run_bind,hrun,Result.andThen_ok,Sem.run_pure]
theorem b7M {t yt:TypeId} {x y:Operand} {l m:List UInt8} (hx:E.ev x=some (.string ⟨l.toArray⟩)) (hy:E.ev y=some (.string ⟨m.toArray⟩)) (hb:l.length + m.length<=9223372036854775807):∀ a,Has n ds a E->∀ dst,a05 P ⟨dst,.binOp .add t x y yt,ty,pos,after,none⟩ a (.string ⟨(l++m).toArray⟩):=fun a ha _ w=>by
 have h1:¬ (9223372036854775807 < (((⟨l.toArray⟩:ByteArray).size:Int) + ((⟨m.toArray⟩:ByteArray).size:Int))):=by
  show ¬ (9223372036854775807 < ((l.length:Int) + (m.length:Int)));omega
 simp [execOp,ha.ev hx,ha.ev hy,eqGuard,binOp,Op.stringOp,a79,h1]
end
section
variable {F:Nat->Prop} {w0 w w':World} {Γ:List Asr}
end
theorem b0o {l:List UInt8} {k:Nat} {b:UInt8} (h:l[k]?=some b) (hb:b.toNat < 128):Utf8.decode ⟨l.toArray⟩ k=(b.toNat,1):=by
 obtain ⟨h1,rfl⟩:=xa7.1 h;have:=decode_ascii ⟨l.toArray⟩ k h1 hb;exact this
section
variable {P:Program} {n:Nat} {ds:List Deferred} {E:Fr} {w:World} {Q:Exit->Act->World->Prop} {ops:Array Oper} {rest:List Oper} {d:Nat} {ty:TypeId} {pos:String} {after:Array Edge} {F:Nat->Prop} {w0:World} {Γ:List Asr}
end
structure Sg where
 pg:Int
 n:Int
 data:List UInt8
 wr:Bool
 ex:Bool
 deriving DecidableEq
structure Sy where
 name:List UInt8
 at_:Int
 deriving DecidableEq
structure Rl where
 at_:Int
 name:List UInt8
 add:Int
 deriving DecidableEq
structure Im where
 name:List UInt8
 needs:List (List UInt8)
 segs:List Sg
 syms:List Sy
 rels:List Rl
 entry:Int
 deriving DecidableEq
def stC (l:List UInt8):List Value:=[.string ⟨l.toArray⟩]
def sgC (s:Sg):List Value:=[.int .i64 s.pg,.int .i64 s.n,.string ⟨s.data.toArray⟩,.bool s.wr,.bool s.ex]
def syC (s:Sy):List Value:=[.string ⟨s.name.toArray⟩,.int .i64 s.at_]
def rlC (s:Rl):List Value:=[.int .i64 s.at_,.string ⟨s.name.toArray⟩,.int .i64 s.add]
def okB (b:UInt8):Bool:=decide ((97<=(b.toNat:Int)/\(b.toNat:Int)<=122)\/(48<=(b.toNat:Int)/\(b.toNat:Int)<=57)\/(b.toNat:Int)=95)
def nmB (l:List UInt8):Bool:=decide (1<=(l.length:Int)/\(l.length:Int)<=12) && l.all okB
theorem a0B {α:Type} {p:α->Bool} {l:List α} {k:Nat} {x:α} (h:(l.take k).all p=true) (hx:l[k]?=some x) (hp:p x=true):(l.take (k + 1)).all p=true:=by
 rw [xp6,hx];simp only [xp7,List.all_append,h,xo6,hp,List.all_nil,Bool.and_self]
structure ImV (w:World) (I:Im) (vn vs vy vr:Value):Prop where
 needs:Sl nF w 1 vn (I.needs.map stC)
 segs:Sl nF w 5 vs (I.segs.map sgC)
 syms:Sl nF w 2 vy (I.syms.map syC)
 rels:Sl nF w 3 vr (I.rels.map rlC)
theorem Sl.len {w:World} {sz:Nat} {α:Type} {f:α->List Value} {l:List α} {v:Value} (h:Sl nF w sz v (l.map f)):∃ p c,v=.slice p l.length c:=by
 obtain ⟨p,c,hv⟩:=h.form;rw [xi9] at hv;exact ⟨p,c,hv⟩
theorem ImV.now {w w':World} {Γ:List Asr} {I:Im} {vn vs vy vr:Value} (h:ImV w I vn vs vy vr) (hS:St nF w w' Γ):ImV w' I vn vs vy vr:=⟨h.needs.now hS,h.segs.now hS,h.syms.now hS,h.rels.now hS⟩
theorem Sl.bound {w:World} {sz:Nat} {α:Type} {f:α->List Value} {l:List α} {v:Value} (h:Sl nF w sz v (l.map f)):(l.length:Int)<=9223372036854775807:=by
 rcases h with ⟨p,c,h1,h2⟩|⟨b,off,cap,h1,h2,h3,_⟩
 ·have:=congrArg List.length h2;rw [xi9,xa2] at this;omega
 ·rw [xi9] at h2;unfold maxLen at h3;omega
theorem c9 {α β:Type} {f:α->β} {l:List α} {i:Nat} {x:α} (h:l[i]?=some x):(l.map f)[i]?=some (f x):=by rw [xh6,h];rfl
theorem Sl.at_ {w:World} {sz:Nat} {α:Type} {f:α->List Value} {l:List α} {p:Option Addr} {n c i:Nat} (h:Sl nF w sz (.slice p n c) (l.map f)) (hi:i < l.length):∃ b off,p=some ⟨b,off,none⟩/\RoAt nF w b off sz (l.map f):=by
 rcases h.parts.2 with h2|⟨b,off,rfl,_,_,hro⟩
 ·have:=congrArg List.length h2;rw [xi9,xa2] at this;omega
 ·exact ⟨b,off,rfl,hro⟩
def b7X (I:Im):Bool:=nmB I.name && (I.needs.all nmB && (I.syms.all (fun s=>nmB s.name) && I.rels.all (fun r=>decide (r.name=[])||nmB r.name)))
def b7S (I:Im):Bool:=decide (1<=(I.segs.length:Int)/\(I.segs.length:Int)<=6/\(I.needs.length:Int)<=4/\(I.syms.length:Int)<=12/\(I.rels.length:Int)<=16)
def b7c (s:Sg):Bool:=decide (0<=s.pg/\s.pg<=255/\1<=s.n/\s.n<=255 - s.pg/\(s.data.length:Int)<=s.n * 16)
def b78 (I:Im):Bool:=I.segs.all b7c
noncomputable def pB (p:Prop):Bool:=@decide p (Classical.propDecidable p)
def Ch (l:List Sg):Prop:=∀ (j:Nat) (a b:Sg),l[j]?=some a->l[j + 1]?=some b->a.pg + a.n<=b.pg
def Dup (l:List (List UInt8)):Prop:=∃ (i j:Nat) (x:List UInt8),j < i/\l[i]?=some x/\l[j]?=some x
def b72 (x:Int) (s:Sg):Bool:=decide (s.pg * 16<=x/\x < (s.pg + s.n) * 16)
def own (l:List Sg) (x:Int):Option Sg:=l.find? (b72 x)
structure Plc (I:Im):Prop where
 syms:∀ s ∈ I.syms,(own I.segs s.at_).isSome=true
 rels:∀ (k:Nat) (r:Rl),I.rels[k]?=some r->(0<=r.at_/\r.at_<=4080)/\∀ b:Int,0<=b->b < 8->(own I.segs (r.at_ + b)).isSome=true
 step:∀ (k:Nat) (q r:Rl),I.rels[k]?=some q->I.rels[k + 1]?=some r->q.at_ + 8<=r.at_
 entry:∃ s,own I.segs I.entry=some s/\s.ex=true
 by8:I.entry.tmod 8=0
noncomputable def b79 (I:Im):Bool:=pB (Ch I.segs/\¬ Dup (I.syms.map (·.name))/\¬ Dup I.needs)
noncomputable def b7Z (I:Im):Bool:=pB (Plc I)
noncomputable def b5G (I:Im):Int:=if b7X I=false then 4 else if b7S I=false then 2 else if b78 I=false then 3 else if b79 I=false then 5 else if b7Z I=false then 6 else 0
end Go.Proofs.YtejnpppejalhfabGreat
namespace Go.Proofs.YtejnpppejalhfabGreat
set_option maxRecDepth 100000
set_option maxHeartbeats 8000000
open Go.RowKit
def leB (n:Int):Nat->List UInt8
 |0=>[]
 |k + 1=>leB n k++[UInt8.ofNat ((n / 2 ^ (8 * k)) % 256).toNat]
@[go_sem] theorem leB_length (n:Int) (k:Nat):(leB n k).length=k:=by
 induction k with
 |zero=>rfl
 |succ k ih=>simp [leB,ih]
def inB (off n all:Int):Bool:=decide (0<=off/\0<=n/\off<=all/\n<=all - off)
end Go.Proofs.YtejnpppejalhfabGreat
namespace Go.Proofs.YtejnpppejalhfabGreat
set_option maxRecDepth 100000
set_option maxHeartbeats 8000000
open Go.RowKit Go.Sort
structure Fx where
 off:Int
 bytes:List UInt8
 deriving DecidableEq
structure Sh where
 page:Int
 data:List UInt8
 fixes:List Fx
 deriving DecidableEq
def fxC (f:Fx):List Value:=[.int .i64 f.off,.string ⟨f.bytes.toArray⟩]
def shC (s:Sh) (u:Value):List Value:=[.int .i64 s.page,.string ⟨s.data.toArray⟩,u]
abbrev ShV (w:World) (s:Sh) (u:Value):Prop:=Sl nF w 2 u (s.fixes.map fxC)
def a39 (free:Int) (f:Fx):Bool:=decide (free<=f.off/\f.off<=16/\f.bytes≠[]/\(f.bytes.length:Int)<=16 - f.off)
def a18 (f:Fx):Int:=f.off + f.bytes.length
def a3p:Int->List Fx->Bool
 |_,[]=>true
 |free,f::r=>a39 free f && a3p (a18 f) r
def t8 (s:Sh):Bool:=decide ((1<=s.page/\s.page<=255)/\s.data.length=16) && a3p 0 s.fixes
theorem b4z:∀ {l:List Fx} {free:Int},a3p free l=true->0<=free->free<=16->(l.length:Int)<=16 - free:=by
 intro l
 induction l with
 |nil=>intro free _ _ h;simpa using h
 |cons f r ih=>
  intro free h h0 h16;simp only [a3p,a39,xb2,xb3] at h;obtain ⟨⟨h1,h2,h3,h4⟩,h5⟩:=h;have hl:0 < f.bytes.length:=xa3.2 h3;have:=ih h5 (by unfold a18;omega) (by unfold a18;omega);unfold a18 at this;simp only [xb1];omega
theorem a4n {s:Sh} (h:t8 s=true):s.fixes.length<=16:=by
 unfold t8 at h;simp only [xb2] at h;have:=b4z h.2 (by omega) (by omega);omega
theorem a3a {α:Type} {l:List α} {i:Nat} {x:α} (h:l[i]?=some x):l.drop i=x::l.drop (i + 1):=by
 obtain ⟨h1,rfl⟩:=xa7.1 h;exact List.drop_eq_getElem_cons h1
theorem a78 {l:List Fx} {i:Nat} {f:Fx} {free:Int} (h:l[i]?=some f):a3p free (l.drop i)=(a39 free f && a3p (a18 f) (l.drop (i + 1))):=by
 rw [a3a h];rfl
def a3k (d:List UInt8) (l:List Fx):List UInt8:=l.foldl (fun d f=>splice d f.off.toNat f.bytes) d
def a5A (s:Sh):List UInt8:=a3k s.data s.fixes
theorem a6v {s t:List UInt8} {off:Nat} (h:off + t.length<=s.length):(splice s off t).length=s.length:=by
 unfold splice;simp only [xe9,xa1,xb5];omega
theorem b1Z:∀ {l:List Fx} {d:List UInt8} {free:Int},a3p free l=true->0<=free->d.length=16->(a3k d l).length=16:=by
 intro l
 induction l with
 |nil=>intro d free _ _ h;exact h
 |cons f r ih=>
  intro d free h h0 hd;simp only [a3p,a39,xb2,xb3] at h;obtain ⟨⟨h1,h2,h3,h4⟩,h5⟩:=h;exact ih h5 (by unfold a18;omega) (by rw [a6v (by omega)];exact hd)
theorem b2l {s:Sh} (h:t8 s=true):(a5A s).length=16:=by
 unfold t8 at h;simp only [xb2,xb3] at h;exact b1Z h.2 (by omega) h.1.2
section
variable {P:Program} {w:World} {ops:Array Oper} {rest:List Oper} {o:Oper} {a:Act} {Q:Exit->Act->World->Prop}
theorem o9 (hgd:o.guard=none) (dst:Option Tmp) (hdst:o.dst=dst) (L:List Value) (t:TypeId)
  (hrun:(execOp a.eval o).run P w=.ok (.value (.pointer (some ⟨w.heap.size,0,none⟩))) (w.alloc (.cells L.toArray t))) (B:Nat) (w0:World) (hb:Below B w0 w) (hB:B<=w.heap.size)
  (next:∀ g w',HoldL w' g L->B<=g->Below B w0 w'->(∀ k,k < w.heap.size->w'.heap[k]?=w.heap[k]?)->(∀ k,k < w.heap.size->k≠g)->wpList P ops Q rest (a.put dst (.pointer (some ⟨g,0,none⟩))) w') :
  wpList P ops Q (o::rest) a w :=
 a6j hgd dst hdst L t hrun B w0 hb hB fun w' h1 h2 _ h4=>next _ w' h1 hB h2 h4 fun _ h=>Nat.ne_of_lt h
theorem a5W (hgd:o.guard=none) (t:TypeId) (x:Operand) (ho:o.op=.box t x) (dst:Option Tmp) (hdst:o.dst=dst) (L:List Value) (hx:a.eval x=.agg L.toArray) (B:Nat) (w0:World) (hb:Below B w0 w) (hB:B<=w.heap.size)
  (next:∀ g w',HoldL w' g L->B<=g->Below B w0 w'->(∀ k,k < w.heap.size->w'.heap[k]?=w.heap[k]?)->(∀ k,k < w.heap.size->k≠g)->wpList P ops Q rest (a.put dst (.pointer (some ⟨g,0,none⟩))) w') :
  wpList P ops Q (o::rest) a w :=
 a6l hgd t x ho dst hdst L hx B w0 hb hB fun w' h1 h2 _ h4=>next _ w' h1 hB h2 h4 fun _ h=>Nat.ne_of_lt h
end
end Go.Proofs.YtejnpppejalhfabGreat
namespace Go.Proofs.YtejnpppejalhfabGreat
set_option maxRecDepth 100000
set_option maxHeartbeats 8000000
structure Ar where
 pg:Int
 n:Int
 prot:Int
 z:Bool
deriving DecidableEq
namespace Ar
def fin (a:Ar):Int:=a.pg + a.n
def mk' (a:Ar):Int:=1 + 2 * a.prot + (if a.z then 8 else 0)
def ok (a:Ar):Prop:=1<=a.pg/\a.pg<=255/\1<=a.n/\a.n<=256 - a.pg/\0<=a.prot/\a.prot<=3
def alike (a b:Ar):Prop:=a.fin=b.pg/\a.prot=b.prot/\a.z=b.z
end Ar
instance (a b:Ar):Decidable (a.alike b):=by unfold Ar.alike;infer_instance
instance (a:Ar):Decidable a.ok:=by unfold Ar.ok;infer_instance
def x6:Int->List Ar->Prop
 |_,[]=>True
 |e,a::l=>a.ok/\e<=a.pg/\x6 a.fin l
def a3i:List Ar->Prop
 |[]=>True
 |[_]=>True
 |a::b::l=>¬ a.alike b/\a3i (b::l)
def a4q (l:List Ar):Prop:=x6 1 l/\a3i l
def s7:List Ar->Int->Int
 |[],_=>0
 |a::l,p=>if a.pg<=p/\p < a.fin then a.mk' else s7 l p
def a2c:List Ar->List Ar
 |[]=>[]
 |[a]=>[{ a with n:=a.n + 1 }]
 |a::l=>a::a2c l
def a2D (b:Int->Int) (out:List Ar) (p:Int):List Ar :=
 if b p=0 then out else if b (p - 1)=b p then a2c out else out++[⟨p,1,(b p - 1) % 8 / 2,decide (8<=b p - 1)⟩]
def a0q (b:Int->Int):Nat->List Ar
 |0=>[]
 |k + 1=>a2D b (a0q b k) (k + 1)
def a1K:List Ar->Int->List Ar
 |[],_=>[]
 |a::l,k=>if k < a.pg then [] else if a.fin<=k + 1 then a::a1K l k else [{ a with n:=k + 1 - a.pg }]
theorem a0r {l:List Ar}:∀ {e p:Int},x6 e l->p < e->s7 l p=0:=by
 induction l with
 |nil=>intros;rfl
 |cons a l ih=>
  intro e p h hp;obtain ⟨h1,h2,h3⟩:=h;unfold s7;rw [xf1 (by omega)];exact ih h3 (by unfold Ar.fin;unfold Ar.ok at h1;omega)
theorem b4o {a:Ar} (h:a.ok):1<=a.mk':=by
 unfold Ar.ok at h;unfold Ar.mk';split <;> omega
theorem a8o {a:Ar} (h:a.ok):(a.mk' - 1) % 8 / 2=a.prot:=by
 unfold Ar.ok at h;unfold Ar.mk';split <;> omega
theorem b6x {a:Ar} (h:a.ok):decide (8<=a.mk' - 1)=a.z:=by
 unfold Ar.ok at h;unfold Ar.mk';cases a.z <;> simp <;> omega
theorem b6D {a b:Ar} (ha:a.ok) (hb:b.ok) (h:a.mk'=b.mk'):a.prot=b.prot/\a.z=b.z:=by
 refine ⟨?_,?_⟩
 ·rw [<- a8o ha,<- a8o hb,h]
 ·rw [<- b6x ha,<- b6x hb,h]
theorem a4s {l:List Ar}:∀ {e k:Int},x6 e l->k < e->a1K l k=[]:=by
 cases l with
 |nil=>intros;rfl
 |cons a l=>intro e k h hk;unfold a1K;rw [xf0 (by have:=h.2.1;omega)]
theorem a4f (a:Ar) {l:List Ar} (h:l≠[]):a2c (a::l)=a::a2c l:=by
 cases l with
 |nil=>exact absurd rfl h
 |cons b l=>rfl
theorem a0S {a:Ar} {l:List Ar} {p:Int} (h:a.pg<=p/\p < a.fin):s7 (a::l) p=a.mk':=by
 simp only [s7];rw [xf0 h]
theorem y5 {a:Ar} {l:List Ar} {p:Int} (h:¬ (a.pg<=p/\p < a.fin)):s7 (a::l) p=s7 l p:=by
 simp only [s7];rw [xf1 h]
theorem a97 {l:List Ar}:∀ {e p:Int},x6 e l->a3i l->1<=e->e<=p->a1K l p=a2D (s7 l) (a1K l (p - 1)) p:=by
 induction l with
 |nil=>intro e p _ _ _ _;simp [a1K,a2D,s7]
 |cons a l ih=>
  intro e p h ha he hp;obtain ⟨h1,h2,h3⟩:=h;have hpos:=b4o h1;have hok:=h1;unfold Ar.ok at hok;by_cases c1:p < a.pg
  ·-- ahead of a
   unfold a2D;rw [y5 (by omega),a0r h3 (by unfold Ar.fin;omega),xf0 rfl];simp only [a1K];rw [xf0 c1,xf0 (by omega)]
  by_cases c2:p=a.pg
  ·-- a begins
   unfold a2D;rw [a0S (by unfold Ar.fin;omega),xf1 (by omega),y5 (by omega),a0r h3 (by unfold Ar.fin;omega),xf1 (by omega),a8o h1,b6x h1];simp only [a1K];rw [xf1 c1,xf0 (show p - 1 < a.pg by omega)];subst c2;by_cases c3:a.fin<=a.pg + 1
   ·rw [xf0 c3,a4s h3 (by unfold Ar.fin;omega)];have:a.n=1:=by unfold Ar.fin at c3;omega
    cases a;simp_all
   ·rw [xf1 c3];simp only [List.nil_append];rw [show a.pg + 1 - a.pg=1 by omega]
  by_cases c3:p < a.fin
  ·-- within a
   unfold a2D;rw [a0S (by omega),xf1 (by omega),a0S (by omega),xf0 rfl];simp only [a1K];rw [xf1 c1,xf1 (show ¬ p - 1 < a.pg by omega),xf1 (show ¬ a.fin<=p - 1 + 1 by omega)];unfold a2c;by_cases c4:a.fin<=p + 1
   ·rw [xf0 c4,a4s h3 (show p < a.fin by omega)];have:a.n=p + 1 - a.pg:=by unfold Ar.fin at *;omega
    simp only;rw [show p - 1 + 1 - a.pg + 1=a.n by omega]
   ·rw [xf1 c4];simp only;rw [show p - 1 + 1 - a.pg + 1=p + 1 - a.pg by omega]
  ·-- behind a
   have hl:a3i l:=by cases l with
    |nil=>trivial
    |cons b l=>exact ha.2
   have s:=ih h3 hl (by unfold Ar.fin;omega) (show a.fin<=p by omega);have e1:a1K (a::l) p=a::a1K l p:=by simp only [a1K];rw [xf1 c1,xf0 (by omega)]
   have e2:a1K (a::l) (p - 1)=a::a1K l (p - 1):=by simp only [a1K];rw [xf1 (by omega),xf0 (by omega)]
   rw [e1,e2,s];unfold a2D;rw [y5 (by omega)];by_cases c4:s7 l p=0
   ·rw [xf0 c4,xf0 c4]
   rw [xf1 c4,xf1 c4];by_cases c5:a.fin<=p - 1
   ·rw [y5 (by omega)];by_cases c6:s7 l (p - 1)=s7 l p
    ·rw [xf0 c6,xf0 c6,a4f];intro hn
     cases l with
     |nil=>exact c4 rfl
     |cons b l=>
      simp only [a1K] at hn;by_cases c7:p - 1 < b.pg
      ·have hb:=h3;have:s7 (b::l) (p - 1)=0:=by
        rw [y5 (by omega),a0r hb.2.2 (by unfold Ar.fin;have:=hb.1;unfold Ar.ok at this;omega)]
       omega
      ·rw [xf1 c7] at hn
       split at hn <;> exact List.cons_ne_nil _ _ hn
    ·rw [xf1 c6,xf1 c6];rfl
   ·-- just behind a
    have c6:p=a.fin:=by omega
    rw [a0S (by omega),a0r h3 (show p - 1 < a.fin by omega),xf1 (by omega),xf1 ?_]
    ·rfl
    ·intro hm
     cases l with
     |nil=>exact c4 rfl
     |cons b l=>
      obtain ⟨g1,g2,g3⟩:=h3;by_cases c7:p < b.pg
      ·exact c4 (by rw [y5 (by omega),a0r g3 (by unfold Ar.fin;unfold Ar.ok at g1;omega)])
      ·have c8:b.pg=p:=by omega
       rw [a0S (by unfold Ar.fin;unfold Ar.ok at g1;omega)] at hm;obtain ⟨q1,q2⟩:=b6D h1 g1 hm;exact ha.1 ⟨by omega,q1,q2⟩
theorem a9H {l:List Ar} (h:a4q l) (k:Nat):a0q (s7 l) k=a1K l k:=by
 induction k with
 |zero=>rw [show ((0:Nat):Int)=0 from rfl,a4s h.1 (by omega)];rfl
 |succ k ih=>
  unfold a0q;rw [ih];have:=a97 (p:=(k:Int) + 1) h.1 h.2 (by omega) (by omega);rw [show (k:Int) + 1 - 1=k by omega] at this;rw [<- this];rfl
theorem b1U {l:List Ar}:∀ {e:Int},x6 e l->a1K l 255=l:=by
 induction l with
 |nil=>intros;rfl
 |cons a l ih=>
  intro e h;obtain ⟨h1,h2,h3⟩:=h;have hok:=h1;unfold Ar.ok at hok;simp only [a1K];rw [xf1 (by omega),xf0 (by unfold Ar.fin;omega),ih h3]
theorem a3M {l:List Ar} (h:a4q l):a0q (s7 l) 255=l:=by
 rw [a9H h];exact b1U h.1
def a44 (l:List Ar) (i:Nat):Prop:=∃ a,l[i]?=some a/\a.ok/\∀ j b,i=j + 1->l[j]?=some b->b.fin<=a.pg/\¬ b.alike a
theorem a71 {a b:Ar} {l:List Ar} {i:Nat}:a44 (a::b::l) (i + 2) ↔ a44 (b::l) (i + 1):=by
 unfold a44;constructor
 ·rintro ⟨c,h1,h2,h3⟩;exact ⟨c,h1,h2,fun j d hj hd=>h3 (j + 1) d (by omega) (by simpa using hd)⟩
 ·rintro ⟨c,h1,h2,h3⟩;refine ⟨c,h1,h2,fun j d hj hd=>?_⟩
  cases j with
  |zero=>omega
  |succ j=>exact h3 j d (by omega) (by simpa using hd)
theorem b0k {l:List Ar} {e e':Int} (h:x6 e l) (he:e'<=e):x6 e' l:=by
 cases l with
 |nil=>trivial
 |cons a l=>exact ⟨h.1,by have:=h.2.1;omega,h.2.2⟩
theorem a3z (l:List Ar):a4q l ↔ ∀ i,i < l.length->a44 l i:=by
 unfold a4q
 induction l with
 |nil=>exact ⟨fun _ i hi=>by simp at hi,fun _=>⟨trivial,trivial⟩⟩
 |cons a l ih=>
  cases l with
  |nil=>
   constructor
   ·rintro ⟨⟨h1,h2,_⟩,_⟩ i hi;have:i=0:=by simpa using hi
    subst this;exact ⟨a,rfl,h1,fun j b hj=>by omega⟩
   ·intro h;obtain ⟨c,hc,h1,_⟩:=h 0 (by simp);simp at hc;subst hc;exact ⟨⟨h1,by unfold Ar.ok at h1;omega,trivial⟩,trivial⟩
  |cons b l=>
   constructor
   ·rintro ⟨⟨h1,h2,h3⟩,h4,h5⟩ i hi;have hb:a4q (b::l):=⟨b0k h3 (by unfold Ar.fin;unfold Ar.ok at h1;omega),h5⟩
    match i with
    |0=>exact ⟨a,rfl,h1,fun j b hj=>by omega⟩
    |1=>
     obtain ⟨c,hc,g1,_⟩:=ih.1 hb 0 (by simp);simp at hc;subst hc;refine ⟨b,rfl,g1,fun j d hj hd=>?_⟩;obtain rfl:j=0:=by omega
     simp at hd;subst hd;exact ⟨h3.2.1,h4⟩
    |i + 2=>exact a71.2 (ih.1 hb (i + 1) (by simpa using hi))
   ·intro h;have hb:x6 1 (b::l)/\a3i (b::l):=ih.2 fun i hi=>by
     cases i with
     |zero=>
      obtain ⟨c,hc,g1,_⟩:=h 1 (by simp);exact ⟨c,by simpa using hc,g1,fun j d hj=>by omega⟩
     |succ i=>exact a71.1 (h (i + 2) (by simpa using hi))
    obtain ⟨c,hc,g1,_⟩:=h 0 (by simp);simp at hc;subst hc;obtain ⟨d,hd,g2,g3⟩:=h 1 (by simp);simp at hd;subst hd;obtain ⟨g4,g5⟩:=g3 0 a rfl rfl;exact ⟨⟨g1,by unfold Ar.ok at g1;omega,⟨hb.1.1,g4,hb.1.2.2⟩⟩,g5,hb.2⟩
instance (l:List Ar):Decidable (a4q l):=decidable_of_iff (∀ i:Fin l.length,l[i].ok/\∀ h:0 < i.1,l[i.1 - 1].fin<=l[i].pg/\¬ l[i.1 - 1].alike l[i]) (by
 rw [a3z];constructor
 ·intro h i hi;obtain ⟨h1,h2⟩:=h ⟨i,hi⟩;refine ⟨l[i],by simp [hi],h1,fun j b hj hb=>?_⟩;subst hj;obtain ⟨_,rfl⟩:=xa7.1 hb;exact h2 (by simp)
 ·intro h i;obtain ⟨a,ha,h1,h2⟩:=h i.1 i.2;obtain ⟨_,rfl⟩:=xa7.1 ha;refine ⟨h1,fun h0=>?_⟩;exact h2 (i.1 - 1) _ (by omega) (xa7.2 ⟨by omega,rfl⟩))
def l5 (l:List Ar):Int:=if 255 < l.length then 2 else if a4q l then 0 else 1
def b2e (n:Int):Prop:=n=0\/(1<=n/\n<=16/\n % 2=1)
theorem b5A {a:Ar} (h:a.ok):b2e a.mk':=by
 right;unfold Ar.ok at h;unfold Ar.mk';split <;> omega
theorem a4g {l:List Ar}:∀ {e:Int} (p:Int),x6 e l->b2e (s7 l p):=by
 induction l with
 |nil=>intros;exact xd6 rfl
 |cons a l ih=>
  intro e p h;unfold s7
  split
  ·exact b5A h.1
  ·exact ih p h.2.2
def b6y (b:Int->Int) (k:Int) (l:List Ar):Prop:=∀ a,l.getLast?=some a->a.fin<=k + 1/\(a.fin=k + 1->b k≠0/\a.prot=(b k - 1) % 8 / 2/\a.z=decide (8<=b k - 1)) 
theorem b0Z {l:List Ar} {a:Ar} (h:a3i l) (hl:∀ b,l.getLast?=some b->¬ b.alike a):a3i (l++[a]):=by
 induction l with
 |nil=>trivial
 |cons c l ih=>
  cases l with
  |nil=>exact ⟨hl c rfl,trivial⟩
  |cons d l=>exact ⟨h.1,ih h.2 (fun b hb=>hl b (by simpa using hb))⟩
theorem a2C (l:List Ar) (a:Ar):a2c (l++[a])=l++[{ a with n:=a.n + 1 }]:=by
 induction l with
 |nil=>rfl
 |cons c l ih=>rw [List.cons_append,a4f c (by simp),ih];rfl
theorem b0y {l:List Ar} {a a':Ar} (h:a3i (l++[a])) (h1:a'.pg=a.pg) (h2:a'.prot=a.prot) (h3:a'.z=a.z):a3i (l++[a']):=by
 induction l with
 |nil=>trivial
 |cons c l ih=>
  cases l with
  |nil=>
   refine ⟨fun hc=>h.1 ?_,trivial⟩;unfold Ar.alike at *;rw [h1,h2,h3] at hc;exact hc
  |cons d l=>exact ⟨h.1,ih h.2⟩
theorem a5u (b:Int->Int) (hm:∀ p,b2e (b p)) (h0:b 0=0) (k:Nat):a3i (a0q b k)/\b6y b k (a0q b k)/\(b k≠0->∃ l a,a0q b k=l++[a]/\a.fin=(k:Int) + 1):=by
 induction k with
 |zero=>exact ⟨trivial,fun a ha=>by simp [a0q] at ha,fun h=>absurd h0 h⟩
 |succ k ih=>
  obtain ⟨h1,h2,h3⟩:=ih;unfold a0q a2D;rw [show (k:Int) + 1 - 1=k by omega,show ((k + 1:Nat):Int)=(k:Int) + 1 by omega];by_cases c1:b ((k:Int) + 1)=0
  ·rw [xf0 c1];refine ⟨h1,fun a ha=>?_,fun h=>absurd c1 h⟩;obtain ⟨g1,_⟩:=h2 a ha;exact ⟨by omega,fun g=>by omega⟩
  rw [xf1 c1];by_cases c2:b (k:Int)=b ((k:Int) + 1)
  ·rw [xf0 c2];obtain ⟨l,a,hla,hfin⟩:=h3 (by omega);rw [hla,a2C];rw [hla] at h1 h2;obtain ⟨_,g2⟩:=h2 a (by simp);obtain ⟨_,g3,g4⟩:=g2 hfin;refine ⟨b0y h1 rfl rfl rfl,fun a' ha'=>?_,fun _=>⟨l,_,rfl,?_⟩⟩
   ·simp at ha';subst ha';rw [<- c2];exact ⟨by unfold Ar.fin at *;simp only;omega,fun _=>⟨by omega,g3,g4⟩⟩
   ·unfold Ar.fin at *;simp only;omega
  ·rw [xf1 c2];refine ⟨b0Z h1 fun c hc hal=>?_,fun a' ha'=>?_,fun _=>⟨_,_,rfl,?_⟩⟩
   ·obtain ⟨g1,g2⟩:=h2 c hc;unfold Ar.alike at hal;simp only at hal;obtain ⟨q1,q2,q3⟩:=hal;obtain ⟨q4,q5,q6⟩:=g2 q1;rw [q5] at q2;rw [q6] at q3;have m1:=hm k;have m2:=hm (k + 1);unfold b2e at m1 m2;have q3':(8<=b k - 1) ↔ (8<=b (k + 1) - 1):=by simpa using q3
    omega
   ·simp at ha';subst ha';exact ⟨by unfold Ar.fin;simp only;omega,fun _=>⟨c1,rfl,rfl⟩⟩
   ·unfold Ar.fin;simp only
theorem a5x {l:List Ar} (h:x6 1 l):a0q (s7 l) 255=l ↔ a3i l:=by
 constructor
 ·intro e;have:=(a5u (s7 l) (fun p=>a4g p h) (a0r h (by omega)) 255).1
  rwa [e] at this
 ·intro ha;exact a3M ⟨h,ha⟩
def a1k:Int->List Ar->Int
 |e,[]=>e
 |_,a::l=>a1k a.fin l
theorem a2i {o x:List Ar}:∀ {e:Int},x6 e (o++x) ↔ x6 e o/\x6 (a1k e o) x:=by
 induction o with
 |nil=>intro e;simp [x6,a1k]
 |cons a o ih=>intro e;simp only [List.cons_append,x6,a1k,ih];exact ⟨fun ⟨a,b,c,d⟩=>⟨⟨a,b,c⟩,d⟩,fun ⟨⟨a,b,c⟩,d⟩=>⟨a,b,c,d⟩⟩
theorem b0n {o:List Ar} {b:Ar}:∀ {e:Int},a1k e (o++[b])=b.fin:=by
 induction o with
 |nil=>intro e;rfl
 |cons a o ih=>intro e;exact ih
theorem a4P {o:List Ar}:∀ {e:Int},x6 e o->e<=a1k e o:=by
 induction o with
 |nil=>intro e _;exact xi7 _
 |cons a o ih=>
  intro e h;have:=ih h.2.2;have h1:=h.1;have h2:=h.2.1;unfold Ar.ok at h1;unfold a1k;unfold Ar.fin at *;omega
def a9R (out:List Ar) (a:Ar):List Ar :=
 match out.getLast? with
 |some b=>if b.alike a then out.dropLast++[{ b with n:=b.n + a.n }] else out++[a]
 |none=>out++[a]
theorem a9X {l:List Ar}:∀ {e p:Int},x6 e l->a1k e l<=p->s7 l p=0:=by
 induction l with
 |nil=>intros;rfl
 |cons a l ih=>
  intro e p h hp;have:=a4P h.2.2;unfold a1k at hp;rw [y5 (by omega)];exact ih h.2.2 hp
theorem b2A {o x:List Ar}:∀ {e p:Int},x6 e (o++x)->s7 (o++x) p=s7 o p + s7 x p:=by
 induction o with
 |nil=>intro e p _;simp [s7]
 |cons a o ih=>
  intro e p h;obtain ⟨h1,h2,h3⟩:=h;have h4:=a2i.1 h3;have h5:=a4P h4.1;simp only [List.cons_append,s7];by_cases c:a.pg<=p/\p < a.fin
  ·rw [xf0 c,xf0 c,a0r h4.2 (by omega)];omega
  ·rw [xf1 c,xf1 c];exact ih h3
def y9:List Ar->Int
 |[]=>0
 |a::l=>a.n + y9 l
theorem b1Y {l:List Ar}:∀ {q q':Int},x6 q l->a1k q l<=q'->q<=q'->y9 l<=q' - q/\(y9 l=q' - q ↔ ∀ p,q<=p->p < q'->s7 l p≠0):=by
 induction l with
 |nil=>
  intro q q' _ _ hq;refine ⟨by simp [y9];omega,fun h p h1 h2=>by simp [y9] at h;omega,fun h=>?_⟩;simp only [y9];rcases Int.lt_or_eq_of_le hq with hlt|he
  ·exact absurd rfl (h q (xi7 _) hlt)
  ·omega
 |cons a l ih=>
  intro q q' h he hq;obtain ⟨h1,h2,h3⟩:=h;have hok:=h1;unfold Ar.ok at hok;have hf:a.fin=a.pg + a.n:=rfl;have hge:=a4P h3;have hp:=b4o h1;obtain ⟨i1,i2⟩:=ih h3 he (by unfold a1k at he;omega);simp only [y9];refine ⟨by omega,fun hs p g1 g2=>?_,fun hall=>?_⟩
  ·by_cases c:p < a.fin
   ·rw [a0S (by omega)];omega
   ·rw [y5 (by omega)];exact i2.1 (by omega) p (by omega) g2
  ·have hq2:a.pg=q:=by
    rcases Int.lt_or_eq_of_le h2 with hlt|e
    ·have hle:q < q':=by unfold a1k at he;omega
     exact absurd (by rw [y5 (by omega),a0r h3 (by omega)]) (hall q (xi7 _) hle)
    ·omega
   have:=i2.2 fun p g1 g2=>by
    have:=hall p (by omega) g2
    rwa [y5 (by omega)] at this
   omega
end Go.Proofs.YtejnpppejalhfabGreat
namespace Go.Proofs.YtejnpppejalhfabGreat
set_option maxRecDepth 100000
set_option maxHeartbeats 8000000
open Go.RowKit Go.Sort
def arC (a:Ar):List Value:=[.int .i64 a.pg,.int .i64 a.n,.int .i64 a.prot,.bool a.z]
def CellsAr (w:World) (b o:Nat) (a:Ar):Prop :=
 w.cell? ⟨b,o,none⟩=some (.int .i64 a.pg)/\w.cell? ⟨b,o + 1,none⟩=some (.int .i64 a.n)/\w.cell? ⟨b,o + 2,none⟩=some (.int .i64 a.prot)/\w.cell? ⟨b,o + 3,none⟩=some (.bool a.z)
def SlAr (w:World) (v:Value) (L:List Ar):Prop :=
 (∃ p c,v=.slice p 0 c/\L=[])\/∃ b off cap,v=.slice (some ⟨b,off,none⟩) L.length cap/\b < w.heap.size/\L.length<=cap/\cap<=maxLen/\∀ i a,L[i]?=some a->CellsAr w b (off + i * 4) a
theorem CellsAr.grown {w w':World} {B b o:Nat} {a:Ar} (h:CellsAr w b o a) (hb:Below B w w') (hB:b < B):CellsAr w' b o a:=by
 obtain ⟨h0,h1,h2,h3⟩:=h;exact ⟨by rw [hb.cell (p:=⟨b,o,none⟩) hB];exact h0,by rw [hb.cell (p:=⟨b,o + 1,none⟩) hB];exact h1,by rw [hb.cell (p:=⟨b,o + 2,none⟩) hB];exact h2,by rw [hb.cell (p:=⟨b,o + 3,none⟩) hB];exact h3⟩
theorem SlAr.grown {w w':World} {v:Value} {L:List Ar} (h:SlAr w v L) (hb:Below w.heap.size w w'):SlAr w' v L:=by
 rcases h with h|⟨b,off,cap,h1,h2,h3,h4,h5⟩
 ·exact xd6 h
 ·exact xd3 ⟨b,off,cap,h1,xb7 h2 hb.size,h3,h4,fun i a ha=>(h5 i a ha).grown hb h2⟩
def b4L (page pages prot:Int):Bool:=decide (1<=page/\page<=255/\1<=pages/\pages<=256 - page/\0<=prot/\prot<=3)
theorem b3O (page pages prot:Int) (w:World):Calls Tryz.prog 139 #[.int .i64 page,.int .i64 pages,.int .i64 prot] w fun e w'=>e=.returned (.bool (b4L page pages prot))/\w=w':=by
 have hs:=hid (show b4L page pages prot=decide (1<=page/\page<=255/\1<=pages/\pages<=256 - page/\0<=prot/\prot<=3) from rfl);generalize b4L page pages prot=r at *
 go_enter Tryz.func139,Tryz.ntmps139
 go_wp2
 all_goals
  go_ret
  refine ⟨a0f ?_,rfl⟩;rw [hs.out,xc9];simp
  try omega
theorem a8t (a:Ar) (w:World):Calls Tryz.prog 127 #[.agg (arC a).toArray] w (RB (.int .i64 (wrap64 a.fin)) w):=by
 unfold arC Ar.fin
 go_enter Tryz.func127,Tryz.ntmps127
 go_wp2
 go_ret
 exact ⟨rfl,(by repeat (first|with_reducible exact Below.refl _ _|with_reducible refine Below.alloc ?_ (by (omega)) _))⟩
theorem b4P (a b:Ar) (w:World) (ha:wrap64 a.fin=a.fin):Calls Tryz.prog 140 #[.agg (arC a).toArray,.agg (arC b).toArray] w (RB (.bool (decide (a.alike b))) w):=by
 have HE:=hid (fun w=>a8t a w);rw [ha] at HE;clear ha;have HS:=hid (show decide (a.alike b)=decide (a.fin=b.pg/\a.prot=b.prot/\a.z=b.z) from rfl);generalize decide (a.alike b)=r at *;generalize a.fin=f at *;unfold arC at *;have key:∀ r1 r2 r3:Bool,(f == b.pg)=r1->(a.prot == b.prot)=r2->(a.z == b.z)=r3->Calls Tryz.prog 140 #[.agg [.int .i64 a.pg,.int .i64 a.n,.int .i64 a.prot,.bool a.z].toArray,.agg [.int .i64 b.pg,.int .i64 b.n,.int .i64 b.prot,.bool b.z].toArray] w (RB (.bool (r1 && r2 && r3)) w):=by
  intro r1 r2 r3 h1 h2 h3
  cases r1
  ·clear h2 h3
   go_enter Tryz.func140,Tryz.ntmps140
   go_wp2
   refine wp_region_quiet_below (by kernel_rfl) (by kernel_rfl) ?_
   repeat ((go_big_quiet_step ((go_at_call 127;exact Calls.regrown_of (HE.out _)))))
   refine wpQuiet_nil ?_;intro wq hw';obtain ⟨⟨dq,osq⟩,hw''⟩:=hw';have hbr:=t2 hw'';clear hw''
   first
    |(have hbn:=bt hbq hbr;clear hcq hfq hzq hbq hbr;have hbq:=hbn;clear hbn)
    |(have hbq:=hbr;clear hbr)
   obtain ⟨hcq,hfq,hzq⟩:=a0V hbq
   go_wp2
   go_ret
   exact ⟨rfl,(by repeat (first|with_reducible exact Below.refl _ _|with_reducible refine Below.alloc ?_ (by first|omega|(simp;done)) _|refine bt ?_ (by with_reducible assumption)))⟩
  cases r2
  ·clear h3
   go_enter Tryz.func140,Tryz.ntmps140
   go_wp2
   refine wp_region_quiet_below (by kernel_rfl) (by kernel_rfl) ?_
   repeat ((go_big_quiet_step ((go_at_call 127;exact Calls.regrown_of (HE.out _)))))
   refine wpQuiet_nil ?_;intro wq hw';obtain ⟨⟨dq,osq⟩,hw''⟩:=hw';have hbr:=t2 hw'';clear hw''
   first
    |(have hbn:=bt hbq hbr;clear hcq hfq hzq hbq hbr;have hbq:=hbn;clear hbn)
    |(have hbq:=hbr;clear hbr)
   obtain ⟨hcq,hfq,hzq⟩:=a0V hbq
   go_wp2
   go_ret
   exact ⟨rfl,(by repeat (first|with_reducible exact Below.refl _ _|with_reducible refine Below.alloc ?_ (by first|omega|(simp;done)) _|refine bt ?_ (by with_reducible assumption)))⟩
  ·go_enter Tryz.func140,Tryz.ntmps140
   go_wp2
   refine wp_region_quiet_below (by kernel_rfl) (by kernel_rfl) ?_
   repeat ((go_big_quiet_step ((go_at_call 127;exact Calls.regrown_of (HE.out _)))))
   refine wpQuiet_nil ?_;intro wq hw';obtain ⟨⟨dq,osq⟩,hw''⟩:=hw';have hbr:=t2 hw'';clear hw''
   first
    |(have hbn:=bt hbq hbr;clear hcq hfq hzq hbq hbr;have hbq:=hbn;clear hbn)
    |(have hbq:=hbr;clear hbr)
   obtain ⟨hcq,hfq,hzq⟩:=a0V hbq
   go_wp2
   go_ret
   exact ⟨a0f (by simp),(by repeat (first|with_reducible exact Below.refl _ _|with_reducible refine Below.alloc ?_ (by first|omega|(simp;done)) _|refine bt ?_ (by with_reducible assumption)))⟩
 have:=key _ _ _ rfl rfl rfl
 rwa [show (f == b.pg && a.prot == b.prot && a.z == b.z)=r from by rw [HS.out,xc9];simp [and_assoc]] at this
theorem z9 (n:Int) (h1:-1000000000000<=n) (h2:n<=1000000000000):wrap64 n=n:=by unfold wrap64;omega
theorem a3r {a:Ar} (h:a.ok):wrap64 a.fin=a.fin:=by unfold Ar.ok at h;unfold Ar.fin;exact z9 _ (by omega) (by omega)
theorem a5K {L:List Ar} (h:255 < L.length):l5 L=2:=by unfold l5;rw [xf0 h]
theorem a9c {L:List Ar} (h:¬ 255 < L.length) (hg:∀ i,i < L.length->a44 L i):l5 L=0:=by unfold l5;rw [xf1 h,xf0 ((a3z L).2 hg)]
theorem a1s {L:List Ar} (h:¬ 255 < L.length) {i:Nat} (hi:i < L.length) (hg:¬ a44 L i):l5 L=1:=by
 unfold l5;rw [xf1 h,xf1 fun g=>hg ((a3z L).1 g i hi)]
theorem b16 (p:Option Addr) (c:Nat) (w:World):Calls Tryz.prog 100 #[.slice p 0 c] w (RB (.int .i64 0) w):=by
 go_enter Tryz.func100,Tryz.ntmps100
 go_wp2
 go_loopw [10] (fun vi wr=>vi=.int .i64 0/\wr=w) (fun _ _=>0)
 case atStart=>exact ⟨rfl,rfl⟩
 case round=>
  obtain ⟨rfl,rfl⟩:=hrel
  go_wp2
  go_ret
  exact ⟨rfl,(by repeat ((with_reducible exact Below.refl _ _)))⟩
theorem b2g {L:List Ar} {a:Ar} (ha:L[0]?=some a) (h:a.ok):a44 L 0:=⟨a,ha,h,fun j b hj=>by omega⟩
theorem a3K {L:List Ar} {i:Nat} {a:Ar} (ha:L[i]?=some a) (h:¬ a.ok):¬ a44 L i:=by
 rintro ⟨c,hc,h1,_⟩;rw [ha] at hc;cases hc;exact h h1
theorem a7x {L:List Ar} {k:Nat} {a b:Ar} (ha:L[k + 1]?=some a) (hb:L[k]?=some b):a44 L (k + 1) ↔ a.ok/\b.fin<=a.pg/\¬ b.alike a:=by
 constructor
 ·rintro ⟨c,hc,h1,h2⟩;rw [ha] at hc;cases hc;exact ⟨h1,h2 k b rfl hb⟩
 ·rintro ⟨h1,h2,h3⟩;refine ⟨a,ha,h1,fun j d hj hd=>?_⟩;obtain rfl:j=k:=by omega
  rw [hb] at hd;cases hd;exact ⟨h2,h3⟩
theorem b1v {L:List Ar} {k:Nat} {b:Ar} (hb:L[k]?=some b) (h:a44 L k):b.ok:=by
 obtain ⟨c,hc,h1,_⟩:=h;rw [hb] at hc;cases hc;exact h1
theorem b1S (b off cap:Nat) (L:List Ar) (w:World) (hbl:b < w.heap.size) (hcap:L.length<=cap) (hmax:cap<=maxLen) (t3:∀ i a,L[i]?=some a->CellsAr w b (off + i * 4) a) :
  Calls Tryz.prog 100 #[.slice (some ⟨b,off,none⟩) L.length cap] w (RB (.int .i64 (l5 L)) w):=by
 unfold maxLen at hmax;by_cases hm:255 < L.length
 ·have HC:=hid (a5K hm);generalize l5 L=r at *
  go_enter Tryz.func100,Tryz.ntmps100
  go_wp2
  go_ret
  exact ⟨a0k HC.out.symm,(by repeat ((with_reducible exact Below.refl _ _)))⟩
 have HC:=hid t3;clear t3;obtain ⟨r,hr⟩:∃ r,r=l5 L:=⟨_,rfl⟩;rw [<- hr];have HR:=hid hr;clear hr
 go_enter Tryz.func100,Tryz.ntmps100
 go_wp2
 go_loopw [10] (fun vi wr=>∃ i:Nat,i<=L.length/\vi=.int .i64 i/\Below w.heap.size w wr/\Hid (∀ j,j < i->a44 L j)) (fun vi _=>L.length - (intOf vi).toNat)
 case atStart=>exact ⟨0,by omega,rfl,Below.refl _ _,fun j hj=>by omega⟩
 case round=>
  obtain ⟨i,hi,rfl,hb,HO⟩:=hrel;by_cases hlt:i < L.length
  ·obtain ⟨a,ha⟩:∃ a,L[i]?=some a:=⟨L[i],by simp [hlt]⟩;obtain ⟨c0,c1,c2,c3⟩:=(HC.out i a ha).grown hb hbl;have hbr:=a20 (xb7 hbl hb.size);have hsz:=hb.size;have HE:Hid True:=hid trivial;have HN:Hid True:=hid trivial;obtain ⟨s,hs⟩:∃ s,s=decide a.ok:=⟨_,rfl⟩;have HS:Hid (∀ w,Calls Tryz.prog 139 #[.int .i64 a.pg,.int .i64 a.n,.int .i64 a.prot] w (RB (.bool s) w)):=fun w=>by rw [hs];exact b1z (b3O a.pg a.n a.prot w)
   cases s
   ·have HX:=hid (a3K ha (by simpa using hs.symm));clear hs
    go_wp2
    refine wp_region_quiet_below (by kernel_rfl) (by kernel_rfl) ?_
    repeat ((go_big_quiet_step ((go_at_call 139;exact Calls.regrown_of (HS.out _)))))
    refine wpQuiet_nil ?_;intro wq hw';obtain ⟨⟨dq,osq⟩,hw''⟩:=hw';have hbr:=t2 hw'';clear hw''
    first
     |(have hbn:=bt hbq hbr;clear hcq hfq hzq hbq hbr;have hbq:=hbn;clear hbn)
     |(have hbq:=hbr;clear hbr)
    obtain ⟨hcq,hfq,hzq⟩:=a0V hbq
    go_wp2
    go_ret
    exact ⟨a0k (by rw [HR.out,a1s hm hlt HX.out]),(by repeat (first|with_reducible assumption|with_reducible refine Below.alloc ?_ (by (omega)) _|refine bt ?_ (by with_reducible assumption)))⟩
   have hok:a.ok:=by simpa using hs.symm
   clear hs
   match i with
   |0=>
    have HX:=hid (b2g ha hok);clear hok;simp only [Nat.zero_mul,xg2] at c0 c1 c2 c3
    go_wp2
    refine wp_region_quiet_below (by kernel_rfl) (by kernel_rfl) ?_
    repeat ((go_big_quiet_step ((go_at_call 139;exact Calls.regrown_of (HS.out _)))))
    refine wpQuiet_nil ?_;intro wq hw';obtain ⟨⟨dq,osq⟩,hw''⟩:=hw';have hbr:=t2 hw'';clear hw''
    first
     |(have hbn:=bt hbq hbr;clear hcq hfq hzq hbq hbr;have hbq:=hbn;clear hbn)
     |(have hbq:=hbr;clear hbr)
    obtain ⟨hcq,hfq,hzq⟩:=a0V hbq
    go_wp2
    go_roundw
    case rel=>
     refine ⟨0 + 1,by omega,by go_num,(by repeat (first|with_reducible assumption|with_reducible refine Below.alloc ?_ (by (omega)) _|refine bt ?_ (by with_reducible assumption))),fun j hj=>?_⟩;rcases xp8.1 hj with h|h
     ·exact HO.out j h
     ·subst h;exact HX.out
    case measure=>simp [intOf];omega
   |k + 1=>
    obtain ⟨q,hq⟩:∃ q,L[k]?=some q:=⟨L[k],by simp⟩;have hqo:=b1v hq (HO.out k (by omega));obtain ⟨d0,d1,d2,d3⟩:=(HC.out k q hq).grown hb hbl;have HA:=hid (a7x ha hq);have HE:=hid (fun w=>a8t q w);rw [a3r hqo] at HE;obtain ⟨o,ho⟩:∃ o,o=decide (q.alike a):=⟨_,rfl⟩;have HN:=hid (fun w=>b4P q a w (a3r hqo));rw [<- ho] at HN;unfold arC at HE HN;have HF:=hid (show q.fin=q.fin from rfl);by_cases hl:a.pg < q.fin
    ·have HX:Hid (¬ a44 L (k + 1)):=fun h=>by have:=(HA.out.1 h).2.1;omega
     have hl':decide (a.pg < q.fin)=true:=by simpa using hl
     clear hl hok hqo ho;generalize q.fin=f at *
     go_wp2
     refine wp_region_quiet_below (by kernel_rfl) (by kernel_rfl) ?_
     repeat ((go_big_quiet_step ((first|go_at_call 139;exact Calls.regrown_of (HS.out _)|go_at_call 127;exact Calls.regrown_of (HE.out _)))))
     refine wpQuiet_nil ?_;intro wq hw';obtain ⟨⟨dq,osq⟩,hw''⟩:=hw';have hbr:=t2 hw'';clear hw''
     first
      |(have hbn:=bt hbq hbr;clear hcq hfq hzq hbq hbr;have hbq:=hbn;clear hbn)
      |(have hbq:=hbr;clear hbr)
     obtain ⟨hcq,hfq,hzq⟩:=a0V hbq
     go_wp2
     go_ret
     exact ⟨a0k (by rw [HR.out,a1s hm hlt HX.out]),(by repeat (first|with_reducible assumption|with_reducible refine Below.alloc ?_ (by (omega)) _|refine bt ?_ (by with_reducible assumption)))⟩
    have hl':decide (a.pg < q.fin)=false:=by simpa using hl
    cases o
    ·have HX:Hid (a44 L (k + 1)):=HA.out.2 ⟨hok,by omega,by simpa using ho.symm⟩;clear hl hok hqo ho;generalize q.fin=f at *
     go_wp2
     refine wp_region_quiet_below (by kernel_rfl) (by kernel_rfl) ?_
     repeat ((go_big_quiet_step ((first|go_at_call 139;exact Calls.regrown_of (HS.out _)|go_at_call 127;exact Calls.regrown_of (HE.out _)|go_at_call 140;exact Calls.regrown_of (HN.out _)))))
     refine wpQuiet_nil ?_;intro wq hw';obtain ⟨⟨dq,osq⟩,hw''⟩:=hw';have hbr:=t2 hw'';clear hw''
     first
      |(have hbn:=bt hbq hbr;clear hcq hfq hzq hbq hbr;have hbq:=hbn;clear hbn)
      |(have hbq:=hbr;clear hbr)
     obtain ⟨hcq,hfq,hzq⟩:=a0V hbq
     go_wp2
     go_roundw
     case rel=>
      refine ⟨(k + 1) + 1,by omega,by go_num,(by repeat (first|with_reducible assumption|with_reducible refine Below.alloc ?_ (by (omega)) _|refine bt ?_ (by with_reducible assumption))),fun j hj=>?_⟩;rcases xp8.1 hj with h|h
      ·exact HO.out j h
      ·subst h;exact HX.out
     case measure=>simp [intOf];omega
    ·have HX:Hid (¬ a44 L (k + 1)):=fun h=>(HA.out.1 h).2.2 (by simpa using ho.symm);clear hl hok hqo ho;generalize q.fin=f at *
     go_wp2
     refine wp_region_quiet_below (by kernel_rfl) (by kernel_rfl) ?_
     repeat ((go_big_quiet_step ((first|go_at_call 139;exact Calls.regrown_of (HS.out _)|go_at_call 127;exact Calls.regrown_of (HE.out _)|go_at_call 140;exact Calls.regrown_of (HN.out _)))))
     refine wpQuiet_nil ?_;intro wq hw';obtain ⟨⟨dq,osq⟩,hw''⟩:=hw';have hbr:=t2 hw'';clear hw''
     first
      |(have hbn:=bt hbq hbr;clear hcq hfq hzq hbq hbr;have hbq:=hbn;clear hbn)
      |(have hbq:=hbr;clear hbr)
     obtain ⟨hcq,hfq,hzq⟩:=a0V hbq
     go_wp2
     go_ret
     exact ⟨a0k (by rw [HR.out,a1s hm hlt HX.out]),(by repeat (first|with_reducible assumption|with_reducible refine Below.alloc ?_ (by (omega)) _|refine bt ?_ (by with_reducible assumption)))⟩
  ·go_wp2
   go_ret
   have:i=L.length:=by omega
   subst this;refine ⟨a0k ?_,hb⟩;rw [HR.out,a9c hm HO.out]
theorem a4T {v:Value} {L:List Ar} {w:World} (h:SlAr w v L):Calls Tryz.prog 100 #[v] w (RB (.int .i64 (l5 L)) w):=by
 rcases h with ⟨p,c,rfl,rfl⟩|⟨b,off,cap,rfl,h2,h3,h4,h5⟩
 ·exact b16 p c w
 ·exact b1S b off cap L w h2 h3 h4 h5
theorem a30 {L:List Ar}:∀ {i:Nat} {a:Ar},L[i]?=some a->y9 (L.take (i + 1))=y9 (L.take i) + a.n:=by
 induction L with
 |nil=>intro i a h;simp at h
 |cons c L ih=>
  intro i a h
  cases i with
  |zero=>simp at h;subst h;simp [y9]
  |succ i=>simp only [xl2,y9];rw [ih (by simpa using h)];omega
theorem a7h {L:List Ar} (h:∀ (i:Nat) (a:Ar),L[i]?=some a->a.ok):∀ i:Nat,i<=L.length->0<=y9 (L.take i)/\y9 (L.take i)<=255 * (i:Int):=by
 intro i
 induction i with
 |zero=>intro _;simp [y9]
 |succ i ih=>
  intro hi;obtain ⟨h1,h2⟩:=ih (by omega);have ha:=h i L[i] (by simp [hi]);rw [a30 (a:=L[i]) (by simp [hi])];unfold Ar.ok at ha;omega
theorem a0X {L:List Ar} (h:a4q L):∀ (i:Nat) (a:Ar),L[i]?=some a->a.ok:=fun i a ha=>b1v ha ((a3z L).1 h i (by
 obtain ⟨hi,_⟩:=xa7.1 ha;exact hi))
theorem x7 {L:List Ar}:l5 L=0 ↔ L.length<=255/\a4q L:=by
 unfold l5
 split
 ·exact ⟨fun h=>by omega,fun h=>by omega⟩
 ·split
  ·exact ⟨fun _=>⟨by omega,by assumption⟩,fun _=>rfl⟩
  ·exact ⟨fun h=>by omega,fun h=>absurd h.2 (by assumption)⟩
theorem b2L {v:Value} {L:List Ar} {w:World} (h:SlAr w v L) (hc:l5 L≠0):Calls Tryz.prog 53 #[v] w (RB (.int .i64 0) w):=by
 have HC:=hid (a4T h);have hn:(l5 L == 0)=false:=by rw [beq_eq_false_iff_ne];exact hc
 clear h hc;generalize l5 L=r at *
 go_enter Tryz.func53,Tryz.ntmps53
 go_wp2_with (first|go_at_call 100;(with_reducible refine (HC.out).mono ?_);rintro e w1 ⟨rfl,hb1⟩)
 go_ret
 exact ⟨rfl,(by repeat ((with_reducible assumption)))⟩
theorem b0r {v:Value} {L:List Ar} {w:World} (h:SlAr w v L) (hc:l5 L=0):Calls Tryz.prog 53 #[v] w (RB (.int .i64 (y9 L)) w):=by
 have HC:=hid (a4T h);rw [hc] at HC;obtain ⟨hlen,hg⟩:=x7.1 hc;have hok:=a0X hg;have HB:=hid (a7h hok);clear hc hg;rcases h with ⟨p,c,rfl,rfl⟩|⟨b,off,cap,rfl,hbl,hcap,hmax,t3⟩
 ·go_enter Tryz.func53,Tryz.ntmps53
  go_wp2_with (first|go_at_call 100;(with_reducible refine (HC.out).mono ?_);rintro e w1 ⟨rfl,hb1⟩)
  go_loopw [3,11] (fun vn vi wr=>vn=.int .i64 0/\vi=.int .i64 0/\wr=w1) (fun _ _ _=>0)
  case atStart=>exact ⟨rfl,rfl,rfl⟩
  case round=>
   obtain ⟨rfl,rfl,rfl⟩:=hrel
   go_wp2
   go_ret
   exact ⟨rfl,(by repeat ((with_reducible assumption)))⟩
 ·unfold maxLen at hmax;have HL:=hid t3;have HO:=hid hok;clear t3 hok
  go_enter Tryz.func53,Tryz.ntmps53
  go_wp2_with (first|go_at_call 100;(with_reducible refine (HC.out).mono ?_);rintro e w1 ⟨rfl,hb1⟩)
  go_loopw [3,11] (fun vn vi wr=>∃ i:Nat,i<=L.length/\vi=.int .i64 i/\vn=.int .i64 (y9 (L.take i))/\Below w.heap.size w wr) (fun _ vi _=>L.length - (intOf vi).toNat)
  case atStart=>exact ⟨0,by omega,rfl,by simp [y9],hb1⟩
  case round=>
   obtain ⟨i,hi,rfl,rfl,hb⟩:=hrel;by_cases hlt:i < L.length
   ·obtain ⟨a,ha⟩:∃ a,L[i]?=some a:=⟨L[i],by simp [hlt]⟩;obtain ⟨c0,c1,c2,c3⟩:=(HL.out i a ha).grown hb hbl;have hbr:=a20 (xb7 hbl hb.size);have hsz:=hb.size;have hs:=a30 ha;have hn:=HB.out i hi;have hn2:=HO.out i a ha;unfold Ar.ok at hn2;have hw:wrap64 (y9 (L.take i) + a.n)=y9 (L.take i) + a.n:=z9 _ (by omega) (by omega);have HS:=hid hs;clear hs hn hn2;generalize y9 (L.take i)=q at *
    go_wp2
    go_roundw
    case rel=>exact ⟨i + 1,by omega,by go_num,by rw [HS.out,hw],(by repeat (first|with_reducible assumption|with_reducible refine Below.alloc ?_ (by (omega)) _))⟩
    case measure=>simp [intOf];omega
   ·go_wp2
    go_ret
    have:i=L.length:=by omega
    subst this;exact ⟨a0k (by simp),hb⟩
end Go.Proofs.YtejnpppejalhfabGreat
