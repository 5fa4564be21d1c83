/- Texts that the proof stands on, one behind the other: Sc8, Sc9, Sc10, Sc11, Sc12, Sc14, Sc15, Sc16, Sc17, Sc18, Sc19, Map, Sc20, Sc21, Sc22, Sc23, Sc24, Sc25, Sc26, Sc27, Sc28. -/
import Derived.Laws.StructEq
import Derived.Lib.SliceRun
import Derived.Laws.Pointers
import Derived.WalkSpells
import Derived.Lib.AppendStr
import Derived.Laws.RangeString
import Derived.LoopN
import Derived.Laws.OwnMore
import Derived.OrdersHeld
import Derived.WalkLawsBesides
import Derived.Recover
import Derived.Laws.Strings2
import Derived.Laws.Strings3
import Derived.MapKept
import Derived.Laws.IdiomCopy
import Derived.Laws.CopyRow
import Derived.Laws.Slices
import Derived.Lib.AppendZerosOnto
import Derived.Lib.Overlaps
import Derived.Laws.Externs
import Derived.Test.YtejnpppejalhfadGreatPFlatPeeks1
set_option linter.unusedVariables false
set_option linter.unusedSimpArgs false
namespace Go.Proofs.YtejnpppejalhfadGreat
set_option maxRecDepth 100000
set_option maxHeartbeats 8000000
open Go.RowKit Go.Sort
theorem a0Q {w:World} {g:Nat} {cur:Array Value} {t:TypeId} (h:w.heap[g]?=some (.cells cur t (0,0))) (k:Nat) (vs:List Value):(w.setCells g k vs).heap[g]?=some (.cells (l7 cur.toList k vs).toArray t (0,0)):=by
 induction vs generalizing w cur k with
 |nil=>exact (by simpa [l7] using h:w.heap[g]?=some (.cells (l7 cur.toList k []).toArray t (0,0)))
 |cons v r ih=>
  have e:=setCell_eq_setRow w g k cur t (0,0) v h;have h2:(w.setCell ⟨g,k,none⟩ v).heap[g]?=some (.cells (cur.setIfInBounds k v) t (0,0)):=by rw [e];exact setRow_heap w g _ _ t _ h
  have:=ih h2 (k + 1);exact (by simpa [l7] using this:((w.setCell ⟨g,k,none⟩ v).setCells g (k + 1) r).heap[g]?=some (.cells (l7 cur.toList k (v::r)).toArray t (0,0)))
section
variable {P:Program} {n:Nat} {ds:List Deferred} {E:Fr} {w:World} {dst:Option Nat} {ty:TypeId} {pos:String} {after:Array Edge} {F:Nat->Prop} {w0:World} {Γ:List Asr} {T:Tab}
theorem a5U (hT:TabOk P T) {t:TypeId} {ti:TI} (ht:T.get t=some ti):(P.info? t).map (·.size)=some ti.size:=by
 cases ti with
 |sc d s z=>obtain ⟨i,_,_,h,h2,_⟩:=hT.sc ht;have:=(hT.at_ ht).2;simp only [TI.okB,xb6] at this;rw [h];simp [h2,TI.size,xa8 this.1]
 |st s fs z=>obtain ⟨_,i,_,_,h,h2,_⟩:=hT.st ht;rw [h];simp [h2,TI.size]
 |ar s m e g z=>obtain ⟨_,i,_,_,h,_,h2,_⟩:=hT.ar ht;rw [h];simp [h2,TI.size]
 |sl e z b g ez=>obtain ⟨_,_,_,_,⟨i,h,h2,_⟩,_⟩:=hT.sl ht;rw [h];simp [h2,TI.size]
theorem a7Y (hS:St F w0 w Γ) (hT:TabOk P T) {t:TypeId} {ti:TI} {x y:Operand} {g kk j o i e sz m cap:Nat} {v:Value} {rows:List (List Value)} {r c:List Value} (ht:T.get t=some ti) (hx:E.ev x=some (.pointer (some ⟨g,o,none⟩))) (hy:E.ev y=some v) (hi:Γ[i]?=some (.row e sz (.slice (some ⟨g,0,none⟩) m cap) rows))
  (ho:o=0 + kk * sz + j) (hr:rows[kk]?=some r) (hc:v.cells.toList=c) (hsz:c.length=ti.size) (hk:j + ti.size<=sz) (h1:c.all (·.oneCell')=true) :
  Gets P ⟨dst,.store t x y,ty,pos,after,none⟩ n ds E w (fun _ w'=>St F w0 w' (Γ.set i (.row e sz (.slice (some ⟨g,0,none⟩) m cap) (rows.set kk (l7 r j c))))):=by
 intro a ha K Q k;obtain ⟨hown,hlen,hone⟩:=hS.at_ hi;rcases hown.2 with ⟨hv,_⟩|⟨g',cap',cur,hv,_,hg,hmc,hcm,hcs,htake⟩
 ·cases hv
 cases hv
 have hrl:r.length=sz:=hlen r (xc0 hr);have hkl:=a7 hr;have hHL:HoldL w g cur.toList:=⟨e,hg⟩;have hspan:kk * sz + sz<=rows.length * sz:=by rw [<- xd3];exact xi6 _ hkl
 have hcl:rows.length * sz<=cur.size:=by rw [hcs];exact xi6 _ hmc
 have d9:v.cells.toList.length=c.length:=by rw [hc]
 have hthere:w.there g o v.cells.size:=fun q hq=>by
  have hq':q < c.length:=by rw [<- d9];simpa using hq
  have:o + q < cur.toList.length:=by simp;omega
  exact ⟨by rw [hHL.cell];simp only [xh0];exact ⟨_,xd0 this⟩,hHL.frozen _⟩
 have hx':(execOp a.eval ⟨dst,.store t x y,ty,pos,after,none⟩).run P w=.ok .skip (w.setCells g o c):=by
  simp only [execOp,ha.ev hx,ha.ev hy,Instr.storeAt,Instr.sureAddr,Sem.run_bind,Sem.run_pure,Result.andThen_ok];rw [a1b (by rw [a5U hT ht,<- hsz,<- d9];simp) hthere (by rw [hc];exact fun u hu=>xb7.1 h1 u hu),hc];rfl
 unfold Oper.wp;rw [hx'];have hA:(Asr.row e sz (.slice (some ⟨g,0,none⟩) rows.length cap) (rows.set kk (l7 r j c))).holds (w.setCells g o c):=by
  have hl2:∀ r' ∈ rows.set kk (l7 r j c),r'.length=sz:=fun r' hr'=>by
   rcases xi7 hr' with h|h
   ·exact hlen r' h
   ·rw [h,a2f,hrl]
  refine ⟨⟨by rw [f5 hl2],.inr ⟨g,cap,_,by simp,xe7 _,a0Q hg o c,by simpa using hmc,hcm,by simp [a2f,hcs],?_⟩⟩,hl2,fun r' hr'=>?_⟩
  ·have hsplit:cur.toList=rows.flatten++cur.toList.drop (rows.length * sz):=by rw [<- htake];simp
   have:=a7W hlen hr (c:=c) (j:=j) (by omega) (cur.toList.drop (rows.length * sz));rw [<- hsplit] at this;rw [xe8,ho,xd8,this];rw [show (rows.set kk (l7 r j c)).length * sz=(rows.set kk (l7 r j c)).flatten.length from (f5 hl2).symm];exact List.take_left
  ·rcases xi7 hr' with h|h
   ·exact hone r' h
   ·rw [h];have hr1:=hone r (xc0 hr);have:∀ (c:List Value) (L:List Value) (q:Nat),L.all (·.oneCell')=true->c.all (·.oneCell')=true->(l7 L q c).all (·.oneCell')=true:=by
     intro c
     induction c with
     |nil=>intro L q h _;exact h
     |cons x c ih=>
      intro L q h h2;simp only [xi4,xb6] at h2;refine ih _ _ ?_ h2.2;rw [xb7];intro y hy;rcases xi7 hy with h3|h3
      ·exact xb7.1 h y h3
      ·rw [h3];exact h2.1
    exact this c r j hr1 h1
 exact k undef _ (hS.upd hi (s8 w g o c) hA (fun q hq=>xc6 hq))
structure j9 (P:Program) (f:FuncId) (fn:Func):Prop where
 at_:P.funcs[f]?=some fn
 name : (fn.name == "runtime.NumGoroutine") = false
 body:fn.body.isNone=false
structure Fn (P:Program) (f:FuncId) (args:List Value) (w:World) (Φ:Value->World->Prop):Prop where
 ok:∃ fn,j9 P f fn
 calls:Calls P f args.toArray w (fun e w'=>∃ v,e=.returned v/\Φ v w')
theorem Fn.mono {f:FuncId} {args:List Value} {Φ Ψ:Value->World->Prop} (h:Fn P f args w Φ) (hi:∀ v w',Φ v w'->Ψ v w'):Fn P f args w Ψ:=⟨h.ok,h.calls.mono fun _ _ ⟨v,he,hv⟩=>⟨v,he,hi v _ hv⟩⟩
theorem a0f {f:FuncId} {fn:Func} (h:j9 P f fn) (args:Array Value) (w:World):(callFunc f args).run P w=.ok (.enter f args) w:=by
 have hb:=h.body;unfold callFunc;simp only [Sem.run_bind,run_program,Result.andThen_ok,h.at_];rw [xd7 (by rw [h.name];simp),xd7 (by rw [hb];simp)];rfl
theorem a3x {f:FuncId} {x:Operand} {args:Array Operand} {ats:Array TypeId} {vs:List Value} {first caps:List Value} {Φ:Value->World->Prop} (hx:E.ev x=some (.func (.func f) first.toArray caps.toArray)) (hv:E.evs args.toList=some vs) (h:Fn P f (first++vs++caps) w Φ) :
  Gets P ⟨dst,.call { callee:=.value x,args:=args,argTypes:=ats },ty,pos,after,none⟩ n ds E w Φ:=by
 intro a ha K Q k;obtain ⟨⟨fn,hok⟩,hc⟩:=h;have e1:args.map a.eval=vs.toArray:=by rw [<- ha.evs hv,<- xc1,xc2]
 have hrun:(execOp a.eval ⟨dst,.call { callee:=.value x,args:=args,argTypes:=ats },ty,pos,after,none⟩).run P w=.ok (.enter f (first++vs++caps).toArray) w:=by
  simp only [execOp,resolve,ha.ev hx,Deferred.ofValue,Sem.run_bind,Sem.run_pure,Result.andThen_ok,invoke,e1];rw [a0f hok];simp
 unfold Oper.wp;rw [hrun];exact hc.mono fun e w' ⟨v,he,hΦ⟩=>by subst he;exact k v w' hΦ
def RBf (v:Value) (w:World):Value->World->Prop:=fun v' w'=>v'=v/\St nF w w' []
theorem Fn.of_rb {f:FuncId} {fn:Func} {args:List Value} {v:Value} (hok:j9 P f fn) (h:Calls P f args.toArray w (RB v w)):Fn P f args w (RBf v w):=⟨⟨fn,hok⟩,h.mono fun _ _ ⟨he,hb⟩=>⟨v,he,rfl,St.of_below hb⟩⟩
theorem Fn.of_same {f:FuncId} {fn:Func} {args:List Value} {v:Value} (hok:j9 P f fn) (h:Calls P f args.toArray w (fun e w'=>e=.returned v/\w=w')):Fn P f args w (fun v' w'=>v'=v/\w'=w):=⟨⟨fn,hok⟩,h.mono fun _ _ ⟨he,hb⟩=>⟨v,he,rfl,hb.symm⟩⟩
theorem Fn.rb {f:FuncId} {args:List Value} {v:Value} (h:Fn P f args w (RBf v w)):Calls P f args.toArray w (RB v w):=h.calls.mono fun _ _ ⟨_,he,hv,hs⟩=>⟨by rw [he,hv],hs.below⟩
def a1F:Nat->List Value->Fr
 |_,[]=>[]
 |k,v::r=>(k,v)::a1F (k + 1) r
theorem a56:∀ {args:List Value} {k t:Nat} {v:Value},Fr.get (a1F k args) t=some v->k<=t/\args[t - k]?=some v:=by
 intro args
 induction args with
 |nil=>intro k t v h;cases h
 |cons x r ih=>
  intro k t v h;simp only [a1F,Fr.get] at h;by_cases e:k=t
  ·subst e;simp at h;subst h;simp
  ·rw [a2A e] at h;obtain ⟨h1,h2⟩:=ih (by simpa using h);exact ⟨by omega,by rw [show t - k=(t - (k + 1)) + 1 from by omega];simpa using h2⟩
theorem a7H {f:FuncId} {fn:Func} {c:Code} {args:List Value} {Φ:Value->World->Prop} {m:Nat} (hok:j9 P f fn) (hb:fn.body=some c) (hm:fn.ntmps=m) (hl:Nat.ble args.length m=true)
  (h:WC P c (bodyPost P fn (fun e w'=>∃ v,e=.returned v/\Φ v w')) m [] (a1F 0 args) w):Fn P f args w Φ:=by
 refine ⟨⟨fn,hok⟩,calls_of_wp hok.at_ hb (h _ ⟨?_,rfl,fun t v ht=>?_⟩)⟩
 ·have:=xe5 hl;simp;omega
 ·obtain ⟨_,h2⟩:=a56 ht;have hlt:=a7 h2;rw [Nat.sub_zero] at h2 hlt;rw [xb1,Array.getElem?_append_left (by simpa using hlt)];simp [h2]
inductive ResL (P:Program) (E:Fr) (w:World):List ResultVar->List Value->Prop where
 |nil:ResL P E w [] []
 |tmp {t:Nat} {v:Value} {r:List ResultVar} {vs:List Value} (h:E.get t=some v) (k:ResL P E w r vs):ResL P E w (.tmp t::r) (v::vs)
 |cell {t:Nat} {ty:TypeId} {a:Addr} {v:Value} {r:List ResultVar} {vs:List Value} (h:E.get t=some (.pointer (some a))) (hl:Ld P ty a v w) (k:ResL P E w r vs):ResL P E w (.cell t ty::r) (v::vs)
theorem ResL.run {rs:List ResultVar} {vs:List Value} (h:ResL P E w rs vs) {a:Act} (ha:Has n ds a E):(rs.mapM fun (x:ResultVar)=>(match x with
  |.tmp t=>(pure (a.tmps.getD t undef):Sem Value)
  |.cell p t=>do loadVar t (<- asAddr (a.tmps.getD p undef)))).run P w=.ok vs w:=by
 induction h with
 |nil=>rfl
 |tmp h _ ih=>
  rw [List.mapM_cons];simp only [Sem.run_bind,Sem.run_pure,Result.andThen_ok,ih,ha.at_ _ _ h]
 |cell h hl _ ih=>
  unfold Ld at hl;rw [List.mapM_cons];simp only [Sem.run_bind,Sem.run_pure,ha.at_ _ _ h];rename_i p _ _ _ _;rw [show (asAddr (.pointer (some p)):Sem Addr)=pure p from rfl,Sem.run_pure,Result.andThen_ok,hl,Result.andThen_ok,ih];rfl
def a1e:List Value->Value
 |[v]=>v
 |vs=>.tuple vs.toArray
theorem a9G {fn:Func} {Φ:Value->World->Prop} {rs:List ResultVar} {vs:List Value} {v:Value} (hrs:fn.results.toList=rs) (hr:ResL P E w rs vs) (hv:a1e vs=v) (hΦ:Φ v w) {a:Act} (ha:Has n [] a E):a.defers=[]/\∃ v,(results fn a.tmps).run P w=.ok v w/\∃ u,Ending.returned v=.returned u/\Φ u w:=by
 refine ⟨ha.defers,v,?_,v,rfl,hΦ⟩;have h:=hr.run ha;rw [<- hrs] at h;unfold results;rw [Array.mapM_eq_mapM_toList,Sem.run_bind];have h2:(List.toArray <$> (fn.results.toList.mapM fun (x:ResultVar)=>(match x with
  |.tmp t=>(pure (a.tmps.getD t undef):Sem Value)
  |.cell p t=>do loadVar t (<- asAddr (a.tmps.getD p undef))))).run P w=.ok vs.toArray w:=by
  rw [<- bind_pure_comp,Sem.run_bind,h];rfl
 refine (congrArg (fun r=>Result.andThen r _) h2).trans ?_;subst hv
 match vs with
 |[]=>rfl
 |[x]=>rfl
 |x::y::r=>simp [a1e]
theorem a9x {fn:Func} {Φ:Value->World->Prop} {rs:List ResultVar} {vs:List Value} {v:Value} (hrs:fn.results.toList=rs) (hr:ResL P E w rs vs) (hv:a1e vs=v) (hΦ:Φ v w):WQ (bodyPost P fn (fun e w'=>∃ v,e=.returned v/\Φ v w')) .ret n [] E w:=fun _ ha=>a9G hrs hr hv hΦ ha
end
section
variable {P:Program} {n:Nat} {ds:List Deferred} {E:Fr} {w:World} {Q:Exit->Act->World->Prop} {ops:Array Oper} {rest:List Oper} {C:World->Prop} {d:Nat} {op:Op} {ty:TypeId} {pos:String} {after:Array Edge}
def WD (P:Program) (ops:Array Oper) (C:World->Prop) (K:Act->Prop) (l:List Oper) (n:Nat) (ds:List Deferred) (E:Fr):Prop:=∀ a,Has n ds a E->wpQuiet P ops C K l a
theorem b9 (F:Nat->Prop) (w0:World) (Γ:List Asr) {id:Nat} {l:List Oper} (hm:P.follows .mixedOrders=true) (hB:Region.lexB .any l.toArray=true) (hS:St F w0 w Γ)
  (h:WD P l.toArray (fun w'=>St F w0 w' Γ) (fun a'=>∀ w',St F w0 w' Γ->wpList P l.toArray Q [] a' w') l n ds E):WC P (.region id l.toArray true) Q n ds E w:=fun a ha=>
 wp_region_quiet (C:=fun w'=>St F w0 w' Γ) hm hB (hS.grow ⟨rfl,rfl,rfl,xc4 _,fun _ _ _=>rfl⟩) (show wpQuiet P l.toArray _ (fun a'=>∀ w',St F w0 w' Γ->wpList P l.toArray Q [] a' w') l a from h a ha)
theorem o3 {S:World->Prop} {l:List Oper} (h:∀ w',S w'->WL P ops Q l n ds E w'):WD P ops C (fun a'=>∀ w',S w'->wpList P ops Q l a' w') [] n ds E:=fun a ha w' hw=>h w' hw a ha
theorem a2p {K:Act->Prop} {o:Oper} {a:Act} {v:Value} (hg:o.guard=none) (h:∀ w,C w->o.quietAt P a C w v) (k:wpQuiet P ops C K rest (a.put o.dst v)):wpQuiet P ops C K (o::rest) a:=by
 unfold wpQuiet;rw [xd6 (by simp [Region.wanted,hg])];exact ⟨v,h,k⟩
theorem a2b {K:Act->Prop} {v:Value} (h:∀ a,Has n ds a E->t8 P ⟨some d,op,ty,pos,after,none⟩ a v) (hd:Nat.blt d n=true) (k:WD P ops C K rest n ds ((d,v)::E)):WD P ops C K (⟨some d,op,ty,pos,after,none⟩::rest) n ds E:=fun a ha=>
 a2p rfl (fun w _=>by unfold Oper.quietAt;rw [h a ha w];exact ⟨rfl,rfl⟩) (k _ (ha.put d v hd))
theorem j8 {K:Act->Prop} {T:Tab} (hT:TabOk P T) {v:Value} (h:k6 T E op=some v) (hd:Nat.blt d n=true) (k:WD P ops C K rest n ds ((d,v)::E)):WD P ops C K (⟨some d,op,ty,pos,after,none⟩::rest) n ds E :=
 a2b (fun _ ha=>t7 hT ha h) hd k
theorem l5 {K:Act->Prop} {t:TypeId} {x:Operand} {p:Addr} {v:Value} (hx:E.ev x=some (.pointer (some p))) (h:∀ w,C w->Ld P t p v w) (hd:Nat.blt d n=true) (k:WD P ops C K rest n ds ((d,v)::E)):WD P ops C K (⟨some d,.load t x,ty,pos,after,none⟩::rest) n ds E:=fun a ha=>
 a2p (v:=v) rfl (fun w hw=>by
  have hl:=h w hw;unfold Ld at hl;simp only [Oper.quietAt,execOp,ha.ev hx,Instr.loadAt,Instr.sureAddr,Sem.run_bind,Sem.run_pure,Result.andThen_ok,hl];exact ⟨rfl,rfl⟩) (k _ (ha.put d v hd))
theorem a5 {t:TypeId} {x:Operand} {p:Addr} {v:Value} (hx:E.ev x=some (.pointer (some p))) (h:Ld P t p v w) (hd:Nat.blt d n=true) (k:WL P ops Q rest n ds ((d,v)::E) w):WL P ops Q (⟨some d,.load t x,ty,pos,after,none⟩::rest) n ds E w :=
 a15 hd (a6z hx h) (by rintro _ _ ⟨rfl,rfl⟩;exact k)
theorem a92 {F:Nat->Prop} {w0:World} {Γ:List Asr} {K:Act->Prop} {f:FuncId} {x:Operand} {args:Array Operand} {ats:Array TypeId} {vs:List Value} {first caps:List Value} {v:Value} (hx:E.ev x=some (.func (.func f) first.toArray caps.toArray)) (hv:E.evs args.toList=some vs) (h:∀ w,St F w0 w Γ->Fn P f (first++vs++caps) w (RBf v w)) (hd:Nat.blt d n=true)
  (k:WD P ops (fun w'=>St F w0 w' Γ) K rest n ds ((d,v)::E)):WD P ops (fun w'=>St F w0 w' Γ) K (⟨some d,.call { callee:=.value x,args:=args,argTypes:=ats },ty,pos,after,none⟩::rest) n ds E:=fun a ha=>
 a2p (v:=v) rfl (fun w hw=>by
  obtain ⟨⟨fn,hok⟩,hc⟩:=h w hw;have e1:args.map a.eval=vs.toArray:=by rw [<- ha.evs hv,<- xc1,xc2]
  unfold Oper.quietAt;simp only [execOp,resolve,ha.ev hx,Deferred.ofValue,Sem.run_bind,Sem.run_pure,Result.andThen_ok,invoke,e1];rw [a0f hok];refine ⟨rfl,?_⟩;simp only [List.append_toArray];exact hc.mono fun e w' ⟨u,he,hu,hs⟩=>⟨by rw [he,hu],hw.grow (a0x hs.below)⟩) (k _ (ha.put d v hd))
theorem r9 {K:Act->Prop} {j:Nat} {want b:Bool} {oj:Oper} {dj:Nat} {dst:Option Nat} (hj:ops[j]?=some oj) (hdj:oj.dst=some dj) (hlt:Nat.blt dj n=true) (hb:E.get dj=some (.bool b)) (he:b=want) (k:WD P ops C K (⟨dst,op,ty,pos,after,none⟩::rest) n ds E) :
  WD P ops C K (⟨dst,op,ty,pos,after,some (j,want)⟩::rest) n ds E:=fun a ha=>by
 have hw:=a0I (o:=⟨dst,op,ty,pos,after,some (j,want)⟩) rfl hj hdj hb ha hlt;have h:=k a ha;unfold wpQuiet at h |-;rw [xd6 (show Region.wanted _ _=true from rfl)] at h;rw [xd6 (by rw [hw,he];cases want <;> rfl)];exact h
theorem a0Z {K:Act->Prop} {j:Nat} {want b:Bool} {oj:Oper} {dj:Nat} (hj:ops[j]?=some oj) (hdj:oj.dst=some dj) (hlt:Nat.blt dj n=true) (hb:E.get dj=some (.bool b)) (he:b=!want) (hd:Nat.blt d n=true) (k:WD P ops C K rest n ds ((d,undef)::E)) :
  WD P ops C K (⟨some d,op,ty,pos,after,some (j,want)⟩::rest) n ds E:=fun a ha=>by
 have hw:=a0I (o:=⟨some d,op,ty,pos,after,some (j,want)⟩) rfl hj hdj hb ha hlt;unfold wpQuiet;rw [xd7 (by rw [hw,he];cases want <;> simp)];exact k _ (ha.put d undef hd)
theorem n5 {K:Act->Prop} {c x y:Operand} {b:Bool} {v:Value} (hc:E.ev c=some (.bool b)) (hb:b=true) (hv:E.ev x=some v) (hd:Nat.blt d n=true) (k:WD P ops C K rest n ds ((d,v)::E)):WD P ops C K (⟨some d,.pick c x y,ty,pos,after,none⟩::rest) n ds E :=
 a2b (fun a ha w=>by simp [execOp,ha.ev hc,asBool,hb,ha.ev hv]) hd k
theorem k7 {K:Act->Prop} {c x y:Operand} {b:Bool} {v:Value} (hc:E.ev c=some (.bool b)) (hb:b=false) (hv:E.ev y=some v) (hd:Nat.blt d n=true) (k:WD P ops C K rest n ds ((d,v)::E)):WD P ops C K (⟨some d,.pick c x y,ty,pos,after,none⟩::rest) n ds E :=
 a2b (fun a ha w=>by simp [execOp,ha.ev hc,asBool,hb,ha.ev hv]) hd k
end
end Go.Proofs.YtejnpppejalhfadGreat
namespace Go.Proofs.YtejnpppejalhfadGreat
set_option maxRecDepth 100000
set_option maxHeartbeats 8000000
open Go.RowKit Go.Sort
def celL:Value->Option (List Value)
 |.agg ⟨l⟩=>some l
 |.tuple _=>none
 |v=>some [v]
theorem a0g {v:Value} {L:List Value} (h:celL v=some L):v.cells.toList=L:=by
 unfold celL at h
 split at h <;> cases h
 ·rfl
 ·rename_i n _;cases v <;> first|rfl|exact (n _ rfl).elim
section
variable {P:Program} {n:Nat} {ds:List Deferred} {E:Fr} {w:World} {Q:Exit->Act->World->Prop} {ops:Array Oper} {rest:List Oper} {d:Nat} {ty:TypeId} {pos:String} {after:Array Edge} {T:Tab}
theorem a0q {t yt:TypeId} {x y:Operand} {m k:Int} (hx:E.ev x=some (.int .i64 m)) (hy:E.ev y=some (.int .i64 k)) (h1:-9223372036854775808<=m + k) (h2:m + k<=9223372036854775807) (hd:Nat.blt d n=true) (k':WL P ops Q rest n ds ((d,.int .i64 (m + k))::E) w):WL P ops Q (⟨some d,.binOp .add t x y yt,ty,pos,after,none⟩::rest) n ds E w:=z4 (fun a ha=>b1j hx hy h1 h2 a ha _) hd k'
theorem a9I {t yt:TypeId} {x y:Operand} {m k:Int} (hx:E.ev x=some (.int .i64 m)) (hy:E.ev y=some (.int .i64 k)) (h1:-9223372036854775808<=m - k) (h2:m - k<=9223372036854775807) (hd:Nat.blt d n=true) (k':WL P ops Q rest n ds ((d,.int .i64 (m - k))::E) w):WL P ops Q (⟨some d,.binOp .sub t x y yt,ty,pos,after,none⟩::rest) n ds E w:=z4 (fun a ha=>a9B hx hy h1 h2 a ha _) hd k'
theorem a3B {C:World->Prop} {K:Act->Prop} {t yt:TypeId} {x y:Operand} {m k:Int} (hx:E.ev x=some (.int .i64 m)) (hy:E.ev y=some (.int .i64 k)) (h1:-9223372036854775808<=m - k) (h2:m - k<=9223372036854775807) (hd:Nat.blt d n=true) (k':WD P ops C K rest n ds ((d,.int .i64 (m - k))::E)):WD P ops C K (⟨some d,.binOp .sub t x y yt,ty,pos,after,none⟩::rest) n ds E:=a2b (fun a ha=>a9B hx hy h1 h2 a ha _) hd k'
theorem p8 (hT:TabOk P T) {t:TypeId} {x y:Operand} {el sz eb b off m c j:Nat} {ag:Bool} {z:List Value} {i:Int} (ht:T.get t=some (.sl el sz eb ag z)) (hx:E.ev x=some (.slice (some ⟨b,off,none⟩) m c)) (hy:E.ev y=some (.int .i64 i)) (hj:(j:Int)=i) (hm:j < m) (hd:Nat.blt d n=true) (k':WL P ops Q rest n ds ((d,.pointer (some ⟨b,off + j * sz,none⟩))::E) w):WL P ops Q (⟨some d,.indexAddr t x y,ty,pos,after,none⟩::rest) n ds E w:=z4 (fun a ha=>a9c hT ht hx hy hj hm a ha _) hd k'
theorem a0N {C:World->Prop} {K:Act->Prop} (hT:TabOk P T) {t:TypeId} {x y:Operand} {el sz eb b off m c j:Nat} {ag:Bool} {z:List Value} {i:Int} (ht:T.get t=some (.sl el sz eb ag z)) (hx:E.ev x=some (.slice (some ⟨b,off,none⟩) m c)) (hy:E.ev y=some (.int .i64 i)) (hj:(j:Int)=i) (hm:j < m) (hd:Nat.blt d n=true) (k':WD P ops C K rest n ds ((d,.pointer (some ⟨b,off + j * sz,none⟩))::E)):WD P ops C K (⟨some d,.indexAddr t x y,ty,pos,after,none⟩::rest) n ds E:=a2b (fun a ha=>a9c hT ht hx hy hj hm a ha _) hd k'
theorem a0l (hT:TabOk P T) {t s:Nat} {fs:List (Nat×Nat×Bool)} {z L:List Value} {parts:Array (Nat×Operand)} {ps:List (Nat×Value)} (ht:T.get t=some (.st s fs z)) (hp:evP E parts.toList=some ps) (hL:y7 (fun i=>(fs[i]?).map fun f=>(f.1,f.2.1)) z ps=some L) (hd:Nat.blt d n=true) (k':WL P ops Q rest n ds ((d,.agg L.toArray)::E) w):WL P ops Q (⟨some d,.build t parts,ty,pos,after,none⟩::rest) n ds E w:=z4 (fun a ha=>a3r hT ht hp hL a ha) hd k'
theorem a69 (a b:Bool):(a == b)=decide (a=b):=by cases a <;> cases b <;> rfl
theorem b1x (hT:TabOk P T) {t yt:TypeId} {x y:Operand} {a b:Bool} {s:Nat} {z:Value} (ht:T.get t=some (.sc .bool s z)) (hx:E.ev x=some (.bool a)) (hy:E.ev y=some (.bool b)):∀ c,Has n ds c E->∀ dst,t8 P ⟨dst,.binOp .eql t x y yt,ty,pos,after,none⟩ c (.bool (decide (a=b))):=fun c hc _ w=>by
 obtain ⟨i,hu,_⟩:=hT.sc ht;have e:(Op.equal t (.bool a) (.bool b)).run P w=.ok (decide (a=b)) w:=by rw [<- a69];exact run_equalIn_bool' (P:=P) w 9999 t a b hu
 simp only [execOp,hc.ev hx,hc.ev hy,eqGuard,binOp,Sem.run_bind];simp [e,Result.andThen]
theorem a9v (hT:TabOk P T) {t yt:TypeId} {x y:Operand} {a b:Bool} {s:Nat} {z:Value} (ht:T.get t=some (.sc .bool s z)) (hx:E.ev x=some (.bool a)) (hy:E.ev y=some (.bool b)):∀ c,Has n ds c E->∀ dst,t8 P ⟨dst,.binOp .neq t x y yt,ty,pos,after,none⟩ c (.bool (!decide (a=b))):=fun c hc _ w=>by
 obtain ⟨i,hu,_⟩:=hT.sc ht;have e:(Op.equal t (.bool a) (.bool b)).run P w=.ok (decide (a=b)) w:=by rw [<- a69];exact run_equalIn_bool' (P:=P) w 9999 t a b hu
 simp only [execOp,hc.ev hx,hc.ev hy,eqGuard,binOp,Sem.run_bind];simp [e,Result.andThen]
theorem a1E (hT:TabOk P T) {t yt:TypeId} {x y:Operand} {a b:Bool} {s:Nat} {z:Value} (ht:T.get t=some (.sc .bool s z)) (hx:E.ev x=some (.bool a)) (hy:E.ev y=some (.bool b)) (hd:Nat.blt d n=true) (k':WL P ops Q rest n ds ((d,.bool (!decide (a=b)))::E) w):WL P ops Q (⟨some d,.binOp .neq t x y yt,ty,pos,after,none⟩::rest) n ds E w:=z4 (fun a ha=>a9v hT ht hx hy a ha _) hd k'
def a6Z (P:Program) (t:TypeId) (X Y:List Value) (b:Bool):Prop:=(∀ w,(Op.equalIn 10000 t (.agg X.toArray) (.agg Y.toArray)).run P w=.ok b w)/\P.eqGuardType P.depth t=false
theorem a9o {t yt:TypeId} {x y:Operand} {X Y:List Value} {b:Bool} (hx:E.ev x=some (.agg X.toArray)) (hy:E.ev y=some (.agg Y.toArray)) (h:a6Z P t X Y b):∀ c,Has n ds c E->∀ dst,t8 P ⟨dst,.binOp .eql t x y yt,ty,pos,after,none⟩ c (.bool b):=fun c hc _ w=>by
 simp only [execOp,hc.ev hx,hc.ev hy,Sem.run_bind,run_eqGuard_agg w _ _ _ _ _ _ h.2,Result.andThen_ok,run_eql_struct,h.1 w,Sem.run_pure]
theorem b1l {t yt:TypeId} {x y:Operand} {X Y:List Value} {b:Bool} (hx:E.ev x=some (.agg X.toArray)) (hy:E.ev y=some (.agg Y.toArray)) (h:a6Z P t X Y b):∀ c,Has n ds c E->∀ dst,t8 P ⟨dst,.binOp .neq t x y yt,ty,pos,after,none⟩ c (.bool (!b)):=fun c hc _ w=>by
 simp only [execOp,hc.ev hx,hc.ev hy,Sem.run_bind,run_eqGuard_agg w _ _ _ _ _ _ h.2,Result.andThen_ok,run_neq_struct,h.1 w,Sem.run_pure]
theorem a3X {t yt:TypeId} {x y:Operand} {X Y:List Value} {b:Bool} (hx:E.ev x=some (.agg X.toArray)) (hy:E.ev y=some (.agg Y.toArray)) (h:a6Z P t X Y b) (hd:Nat.blt d n=true) (k':WL P ops Q rest n ds ((d,.bool b)::E) w):WL P ops Q (⟨some d,.binOp .eql t x y yt,ty,pos,after,none⟩::rest) n ds E w:=z4 (fun a ha=>a9o hx hy h a ha _) hd k'
theorem i5 {c:Operand} {x y:Code} {p:Prop} {_i:Decidable p} (hc:E.ev c=some (.bool (decide p))) (ht:decide p=true->p->WC P x Q n ds E w) (hf:decide p=false->¬ p->WC P y Q n ds E w):WC P (.cond c x y) Q n ds E w :=
 a8S hc (fun h=>ht h (xi8 h)) (fun h=>hf h (of_decide_eq_false h))
theorem a9D {c:Operand} {x y:Code} {p:Prop} {_i:Decidable p} (hc:E.ev c=some (.bool (!decide p))) (ht:(!decide p)=true->¬ p->WC P x Q n ds E w) (hf:(!decide p)=false->p->WC P y Q n ds E w):WC P (.cond c x y) Q n ds E w :=
 a8S hc (fun h=>ht h (by simpa using h)) (fun h=>hf h (by simpa using h))
section
variable {op:Op}
theorem a0d {j:Nat} {want:Bool} {p:Prop} {_i:Decidable p} {oj:Oper} {dj:Nat} {dst:Option Nat} (_hj:ops[j]?=some oj) (_hdj:oj.dst=some dj) (_hb:E.get dj=some (.bool (decide p))) (k1:decide p=true->p->WL P ops Q (⟨dst,op,ty,pos,after,some (j,want)⟩::rest) n ds E w) (k2:decide p=false->¬ p->WL P ops Q (⟨dst,op,ty,pos,after,some (j,want)⟩::rest) n ds E w) :
  WL P ops Q (⟨dst,op,ty,pos,after,some (j,want)⟩::rest) n ds E w:=a6O _hj _hdj _hb (fun h=>k1 h (xi8 h)) (fun h=>k2 h (of_decide_eq_false h))
theorem s4 {j:Nat} {want:Bool} {p:Prop} {_i:Decidable p} {oj:Oper} {dj:Nat} {dst:Option Nat} (_hj:ops[j]?=some oj) (_hdj:oj.dst=some dj) (_hb:E.get dj=some (.bool (!decide p))) (k1:(!decide p)=true->¬ p->WL P ops Q (⟨dst,op,ty,pos,after,some (j,want)⟩::rest) n ds E w) (k2:(!decide p)=false->p->WL P ops Q (⟨dst,op,ty,pos,after,some (j,want)⟩::rest) n ds E w) :
  WL P ops Q (⟨dst,op,ty,pos,after,some (j,want)⟩::rest) n ds E w:=a6O _hj _hdj _hb (fun h=>k1 h (by simpa using h)) (fun h=>k2 h (by simpa using h))
variable {C:World->Prop} {K:Act->Prop}
end
section
variable {fn:Func} {Φ:Value->World->Prop} {v v1 v2 v3:Value}
theorem a94 (hr:ResL P E w fn.results.toList [v]) (hΦ:Φ v w):WQ (bodyPost P fn (fun e w'=>∃ v,e=.returned v/\Φ v w')) .ret n [] E w:=a9x rfl hr rfl hΦ
theorem b0P (hr:ResL P E w fn.results.toList [v1,v2]) (hΦ:Φ (.tuple #[v1,v2]) w):WQ (bodyPost P fn (fun e w'=>∃ v,e=.returned v/\Φ v w')) .ret n [] E w:=a9x rfl hr rfl hΦ
end
variable {F:Nat->Prop} {w0:World} {Γ:List Asr}
theorem f8 (hS:St F w0 w Γ) {t:TypeId} {x:Operand} {v:Value} {L:List Value} (hx:E.ev x=some v) (hc:celL v=some L) (hd:Nat.blt d n=true) (k:∀ g w',St F w0 w' (.blk g L::Γ)->WL P ops Q rest n ds ((d,.pointer (some ⟨g,0,none⟩))::E) w'):WL P ops Q (⟨some d,.box t x,ty,pos,after,none⟩::rest) n ds E w :=
 a15 hd (a9A hS hx) (by rintro _ w' ⟨g,rfl,h⟩;rw [a0g hc] at h;exact k g w' h)
theorem l8 (hS:St F w0 w Γ) (hT:TabOk P T) {t:TypeId} {i:TI} {L:List Value} (ht:T.get t=some i) (hL:some i.zeroCells=some L) (hd:Nat.blt d n=true) (k:∀ g w',St F w0 w' (.blk g L::Γ)->WL P ops Q rest n ds ((d,.pointer (some ⟨g,0,none⟩))::E) w'):WL P ops Q (⟨some d,.alloc t,ty,pos,after,none⟩::rest) n ds E w :=
 a15 hd (a1a hS hT ht hL) (by rintro _ w' ⟨g,rfl,h⟩;exact k g w' h)
theorem l9 (hS:St F w0 w Γ) (hT:TabOk P T) {t:TypeId} {ti:TI} {x y:Operand} {g j i:Nat} {v:Value} {L c L':List Value} (ht:T.get t=some ti) (hx:E.ev x=some (.pointer (some ⟨g,j,none⟩))) (hy:E.ev y=some v) (hi:Γ[i]?=some (.blk g L)) (hc:celL v=some c)
  (hsz:Nat.beq c.length ti.size=true) (hk:Nat.ble (j + ti.size) L.length=true) (h1:c.all (·.oneCell')=true) (hL:l7 L j c=L') (k:∀ w',St F w0 w' (Γ.set i (.blk g L'))->WL P ops Q rest n ds E w'):WL P ops Q (⟨none,.store t x y,ty,pos,after,none⟩::rest) n ds E w :=
 a8U (a1Q hS hT ht hx hy hi (by rw [a0g hc];exact xa8 hsz) (xe5 hk) (by rw [a0g hc];exact fun u hu=>xb7.1 h1 u hu)) (by intro _ w' h;rw [a0g hc,hL] at h;exact k w' h)
theorem a64 {f:FuncId} {x:Operand} {args:Array Operand} {ats:Array TypeId} {vs:List Value} {first caps:List Value} {Φ:Value->World->Prop} (hx:E.ev x=some (.func (.func f) first.toArray caps.toArray)) (hv:E.evs args.toList=some vs) (h:Fn P f (first++vs++caps) w Φ) (hd:Nat.blt d n=true) (k:∀ v w',Φ v w'->WL P ops Q rest n ds ((d,v)::E) w') :
  WL P ops Q (⟨some d,.call { callee:=.value x,args:=args,argTypes:=ats },ty,pos,after,none⟩::rest) n ds E w:=a15 hd (a3x hx hv h) k
end
section
variable {F:Nat->Prop} {w0 w w':World} {Γ:List Asr}
theorem St.addNil (h:St F w0 w Γ) (e sz:Nat):St F w0 w (.row e sz (.slice none 0 0) []::Γ) :=
 h.new ⟨rfl,rfl,rfl,xc4 _,fun _ _ _=>rfl⟩ ⟨World.ownsRow_nil _ _ _ _,by simp,by simp⟩ (by simp [Asr.fp,Value.ownBlock])
theorem St.rowSome (h:St F w0 w Γ) (i:Nat) {e sz n cap:Nat} {p:Option Addr} {rows:List (List Value)} (hi:Γ[i]?=some (.row e sz (.slice p n cap) rows)) (hn:0 < n):∃ g,p=some ⟨g,0,none⟩:=by
 rcases h.rowForm i hi with ⟨h1,h2⟩|⟨g,cap',h1,_⟩
 ·cases h1;omega
 ·cases h1;exact ⟨g,rfl⟩
theorem Sl.parts {sz n cap:Nat} {p:Option Addr} {rows:List (List Value)} (h:Sl F w0 sz (.slice p n cap) rows):n=rows.length/\(rows=[]\/∃ b off,p=some ⟨b,off,none⟩/\n<=cap/\cap<=maxLen/\RoAt F w0 b off sz rows):=by
 rcases h with ⟨p1,c1,h1,h2⟩|⟨b,off,cap0,h1,h2,h3,h4⟩
 ·cases h1;subst h2;exact ⟨rfl,xc6 rfl⟩
 ·cases h1;exact ⟨rfl,xc3 ⟨b,off,rfl,h2,h3,h4⟩⟩
def a4I:List Asr->List Asr->List Asr
 |[],Γ=>Γ
 |A::Δ,Γ=>A::a4I Δ Γ
theorem a79 (Δ Γ:List Asr):a4I Δ Γ=Δ++Γ:=by
 induction Δ with
 |nil=>rfl
 |cons A Δ ih=>simp [a4I,ih]
theorem St.transA {Δ:List Asr} (h:St F w0 w Γ) (h2:St nF w w' Δ):St F w0 w' (a4I Δ Γ):=by rw [a79];exact h.trans h2
theorem St.one {A:Asr} (h:St F w0 w (A::Γ)):St F w0 w [A]:=h.sub (List.Sublist.cons_cons _ (xg4 _))
structure Bs (F:Nat->Prop) (w0:World) (p:Addr) (v:Value):Prop where
 cell:w0.cell? p=some v
 nf:¬ F p.block
theorem St.bs (h:St F w0 w Γ) {p:Addr} {v:Value} (hb:Bs F w0 p v):w.cell? p=some v:=h.baseC hb.cell hb.nf
theorem Bs.of {p:Addr} {v:Value} (h:w.cell? p=some v):Bs nF w p v:=⟨h,id⟩
end
end Go.Proofs.YtejnpppejalhfadGreat
namespace Go.Proofs.YtejnpppejalhfadGreat
set_option maxRecDepth 100000
set_option maxHeartbeats 8000000
open Go.RowKit Go.Sort
section
variable {P:Program} {n:Nat} {ds:List Deferred} {E:Fr} {w:World} {Q:Exit->Act->World->Prop} {ops:Array Oper} {rest:List Oper} {C:World->Prop} {K:Act->Prop} {d:Nat} {op:Op} {ty:TypeId} {pos:String} {after:Array Edge}
theorem a1B {o oj:Oper} {j:Nat} {want:Bool} {dj:Nat} (hg:o.guard=some (j,want)) (hj:ops[j]?=some oj) (hdj:oj.dst=some dj) (hb:E.get dj=some undef) {a:Act} (ha:Has n ds a E) (hlt:Nat.blt dj n=true) :
  Region.wanted o (yielded ops a.tmps)=false:=by
 have hlt':dj < a.tmps.size:=by rw [ha.size];simpa [xb0] using hlt
 have h1:a.tmps[dj]?=some undef:=by
  have:=ha.at_ dj _ hb;rw [xb1] at this;rw [Array.getElem?_eq_getElem hlt'] at this |-;exact congrArg some this
 have hy:yielded ops a.tmps j=none:=by simp [yielded,hj,hdj,h1,undef]
 simp only [Region.wanted,hg,hy];rfl
theorem a8T {j:Nat} {want:Bool} {oj:Oper} {dj:Nat} (hj:ops[j]?=some oj) (hdj:oj.dst=some dj) (hlt:Nat.blt dj n=true) (hb:E.get dj=some undef) (hd:Nat.blt d n=true) (k:WL P ops Q rest n ds ((d,undef)::E) w) :
  WL P ops Q (⟨some d,op,ty,pos,after,some (j,want)⟩::rest) n ds E w:=fun a ha=>by
 have hw:=a1B (o:=⟨some d,op,ty,pos,after,some (j,want)⟩) rfl hj hdj hb ha hlt;unfold wpList;rw [xd7 (by rw [hw];simp)];exact k _ (ha.put d undef hd)
theorem a0c {j:Nat} {want:Bool} {oj:Oper} {dj:Nat} (hj:ops[j]?=some oj) (hdj:oj.dst=some dj) (hlt:Nat.blt dj n=true) (hb:E.get dj=some undef) (hd:Nat.blt d n=true) (k:WD P ops C K rest n ds ((d,undef)::E)) :
  WD P ops C K (⟨some d,op,ty,pos,after,some (j,want)⟩::rest) n ds E:=fun a ha=>by
 have hw:=a1B (o:=⟨some d,op,ty,pos,after,some (j,want)⟩) rfl hj hdj hb ha hlt;unfold wpQuiet;rw [xd7 (by rw [hw];simp)];exact k _ (ha.put d undef hd)
theorem Gets.of_at {o:Oper} {v:Value} (h:∀ a,Has n ds a E->(execOp a.eval o).run P w=.ok (.value v) w):Gets P o n ds E w (fun v' w'=>v'=v/\w'=w):=by
 intro a ha K Q k;unfold Oper.wp;rw [h a ha];exact k v w ⟨rfl,rfl⟩
def Fr.only (E:Fr):List Nat->Option Fr
 |[]=>some []
 |k::r=>match Fr.get E k,Fr.only E r with
  |some v,some E'=>some ((k,v)::E')
  |_,_=>none
theorem Fr.only_sub {E:Fr}:∀ {ks:List Nat} {E':Fr},Fr.only E ks=some E'->Fr.sub E' E:=by
 intro ks
 induction ks with
 |nil=>intro E' h;cases h;exact Fr.sub_nil _
 |cons k r ih=>
  intro E' h;unfold Fr.only at h
  split at h
  ·rename_i v E2 h1 h2
   cases h
   exact Fr.sub_cons h1 (ih h2)
  ·cases h
variable {F:Nat->Prop} {w0:World} {Γ:List Asr}
def Cnt (n:Nat) (ds:List Deferred) (E:Fr) (F:Nat->Prop) (w0:World) (Γ:List Asr) (d:Nat) (N:Nat) (p:Nat->Prop) (i:Nat):Act->World->Prop:=fun a' w'=>∃ i',Has n ds a' ((d,.int .i64 (i':Nat))::E)/\((i'<=N/\p i')/\St F w0 w' Γ)/\N - i' < N - i
theorem a9b {c:Code} (hS:St F w0 w Γ) (d:Nat) (ks:List Nat) {E':Fr} (hE:Fr.only E ks=some E') (N:Nat) (p:Nat->Prop) (i0:Nat) (hd:Fr.get E d=some (.int .i64 (i0:Nat))) (hN:i0<=N) (h0:p i0)
  (round:∀ i w',i<=N->p i->St F w0 w' Γ->WC P c (Exit.then (Cnt n ds E' F w0 Γ d N p i) Q) n ds ((d,.int .i64 (i:Nat))::E') w'):WC P (.loop c) Q n ds E w :=
 a7M (X:=Nat) i0 (fun i=>(d,.int .i64 (i:Nat))::E') (fun i w'=>(i<=N/\p i)/\St F w0 w' Γ) (fun i=>N - i) (Fr.sub_cons hd (Fr.only_sub hE)) ⟨⟨hN,h0⟩,hS⟩ (fun i w' h=>round i w' h.1.1 h.1.2 h.2)
theorem a83 {E':Fr} {d N i:Nat} {p:Nat->Prop} (i':Nat) (h0:Fr.sub ((d,.int .i64 (i':Nat))::E') E) (hN:i'<=N) (hp:p i') (hlt:i < i') (hS:St F w0 w Γ):WQ (Exit.then (Cnt n ds E' F w0 Γ d N p i) Q) .normal n ds E w:=fun _ ha=>⟨i',ha.sub h0,⟨⟨hN,hp⟩,hS⟩,by omega⟩
def Rnd {X:Type} (n:Nat) (ds:List Deferred) (E:Fr) (F:Nat->Prop) (w0:World) (Γ:List Asr) (vf:X->Fr) (Γf:X->List Asr) (I:X->Prop) (m:X->Nat) (x:X):Act->World->Prop:=fun a' w'=>∃ x',Has n ds a' (vf x'++E)/\(I x'/\St F w0 w' (Γf x'++Γ))/\m x' < m x
theorem Fr.sub_app {A B E:Fr} (h1:Fr.sub A E) (h2:Fr.sub B E):Fr.sub (A++B) E:=fun p hp=>(xd1.1 hp).elim (h1 p) (h2 p)
theorem y8 {X:Type} {c:Code} (vf:X->Fr) (ks:List Nat) {E':Fr} (hE:Fr.only E ks=some E') (Γf:X->List Asr) (I:X->Prop) (m:X->Nat) (x0:X) (h0:Fr.sub (vf x0) E) (hI:I x0) (hS:St F w0 w (Γf x0++Γ))
  (round:∀ x w',I x->St F w0 w' (Γf x++Γ)->WC P c (Exit.then (Rnd n ds E' F w0 Γ vf Γf I m x) Q) n ds (vf x++E') w'):WC P (.loop c) Q n ds E w :=
 a7M (X:=X) x0 (fun x=>vf x++E') (fun x w'=>I x/\St F w0 w' (Γf x++Γ)) m (Fr.sub_app h0 (Fr.only_sub hE)) ⟨hI,hS⟩ (fun x w' h=>round x w' h.1 h.2)
theorem o9 {X:Type} {E':Fr} {vf:X->Fr} {Γf:X->List Asr} {I:X->Prop} {m:X->Nat} {x:X} (x':X) (h0:Fr.sub (vf x'++E') E) (hI:I x') (hS:St F w0 w (Γf x'++Γ)) (hm:m x' < m x):WQ (Exit.then (Rnd n ds E' F w0 Γ vf Γf I m x) Q) .normal n ds E w:=fun _ ha=>⟨x',ha.sub h0,⟨hI,hS⟩,hm⟩
end
theorem a37 (g j:Nat):(⟨g,0,none⟩:Addr).add j=⟨g,j,none⟩:=by unfold Addr.add;split <;> simp_all
def bR (l:List UInt8):List (List Value):=l.map fun b=>[.int .u8 b.toNat]
theorem a0U (l:List UInt8):(bR l).length=l.length:=by unfold bR;simp
theorem a3f (l:List UInt8):(bR l).flatten=l.map fun b=>Value.int .u8 b.toNat:=by
 unfold bR
 induction l with
 |nil=>rfl
 |cons b l ih=>simp [ih]
section
variable {P:Program} {n:Nat} {ds:List Deferred} {E:Fr} {w:World} {Q:Exit->Act->World->Prop} {ops:Array Oper} {rest:List Oper} {d:Nat} {dst:Option Nat} {ty:TypeId} {pos:String} {after:Array Edge} {F:Nat->Prop} {w0:World} {Γ:List Asr} {T:Tab}
theorem a8g (hS:St F w0 w Γ) (hT:TabOk P T) {t sz:Nat} {z:Value} {x:Operand} {l:List UInt8} (ht:T.get t=some (.sc .string sz z)) (hx:E.ev x=some (.string ⟨l.toArray⟩)) :
  Gets P ⟨dst,.range t x,ty,pos,after,none⟩ n ds E w (fun v w'=>∃ r,v=.pointer (some ⟨r,0,none⟩)/\St F w0 w' (.obj r (.stringIter ⟨l.toArray⟩ 0)::Γ)):=by
 intro a ha K Q k;obtain ⟨_,hu,_⟩:=hT.sc ht;have hex:(execOp a.eval ⟨dst,.range t x,ty,pos,after,none⟩).run P w=.ok (.value (.pointer (some ⟨w.heap.size,0,none⟩))) (w.iter ⟨l.toArray⟩ 0):=by
  simp [execOp,ha.ev hx,run_range_string w t _ hu,Result.andThen]
 unfold Oper.wp;rw [hex];exact k _ _ ⟨_,rfl,hS.new (World.grownBy_alloc w _ none) ⟨World.iter_heap w _ 0,rfl⟩ (by simp [Asr.fp])⟩
theorem a6R (hS:St F w0 w Γ) {x:Operand} {l:List UInt8} {i r k:Nat} (hx:E.ev x=some (.pointer (some ⟨r,0,none⟩))) (hi:Γ[i]?=some (.obj r (.stringIter ⟨l.toArray⟩ k))) :
  Gets P ⟨dst,.next x true,ty,pos,after,none⟩ n ds E w (fun v w'=>(k < l.length/\v=.tuple #[.bool true,.int .i64 k,.int .i32 (Utf8.decode ⟨l.toArray⟩ k).1]/\St F w0 w' (Γ.set i (.obj r (.stringIter ⟨l.toArray⟩ (k + (Utf8.decode ⟨l.toArray⟩ k).2)))))\/(l.length<=k/\v=.tuple #[.bool false]/\w'=w)):=by
 intro a ha K Q kk;obtain ⟨hr,_⟩:=hS.at_ hi;by_cases hk:k < l.length
 ·have hk':k < (⟨l.toArray⟩:ByteArray).size:=hk;have hex:(execOp a.eval ⟨dst,.next x true,ty,pos,after,none⟩).run P w=.ok (.value (.tuple #[.bool true,.int .i64 k,.int .i32 (Utf8.decode ⟨l.toArray⟩ k).1])) { w with heap:=w.heap.setIfInBounds r (.stringIter ⟨l.toArray⟩ (k + (Utf8.decode ⟨l.toArray⟩ k).2)) }:=by
   simp [execOp,ha.ev hx,Instr.next,getObj,setObj,Sem.run,hr,hk',Result.andThen,goInt]
  unfold Oper.wp;rw [hex];have hrl:=(xa7.1 hr).1;refine kk _ _ (xc6 ⟨hk,rfl,hS.upd hi ⟨rfl,rfl,rfl,by simp,fun q hq hne=>?_⟩ ⟨by simp [hrl],rfl⟩ (fun q hq=>xc6 hq)⟩);have:r≠q:=fun e=>hne (by simp [Asr.fp,e]);simp [this]
 ·have hk':¬ k < (⟨l.toArray⟩:ByteArray).size:=hk;have hex:(execOp a.eval ⟨dst,.next x true,ty,pos,after,none⟩).run P w=.ok (.value (.tuple #[.bool false])) w:=by
   simp [execOp,ha.ev hx,Instr.next,getObj,Sem.run,hr,hk',Result.andThen]
  unfold Oper.wp;rw [hex];exact kk _ _ (xc3 ⟨by omega,rfl,rfl⟩)
theorem a8O (hS:St F w0 w Γ) (hT:TabOk P T) {t u e i sz2:Nat} {z2:Value} {x:Operand} {v:Value} {l:List UInt8} (ht:T.get t=some (.sl e 1 1 false [.int .u8 0])) (he:T.get e=some (.sc (.int .u8) 1 (.int .u8 0))) (hu2:T.get u=some (.sc .string sz2 z2)) (hx:E.ev x=some v) (hi:Γ[i]?=some (.row e 1 v (bR l))) (hne:0 < l.length) :
  Gets P ⟨dst,.convert t u x,ty,pos,after,none⟩ n ds E w (fun v' w'=>v'=.string ⟨l.toArray⟩/\w'=w):=by
 refine Gets.of_at fun a ha=>?_;obtain ⟨ji,zv,hu,hinfo,_⟩:=hT.sl ht;obtain ⟨_,hus,_⟩:=hT.sc hu2;obtain ⟨_,hue,_⟩:=hT.sc he;rcases hS.rowForm i hi with ⟨rfl,h0⟩|⟨g,cap,rfl,_⟩
 ·have:=congrArg List.length h0;rw [a0U,xa2] at this;omega
 ·have hrun:=run_convert_bytes_back (P:=P) w t u e ⟨g,0,none⟩ cap l hu hue hus (fun j hj=>by
   rw [a37];have:=hS.rowC i hi (k:=j) (j:=0) (r:=[.int .u8 l[j].toNat]) (u:=.int .u8 l[j].toNat) (by unfold bR;simp [hj]) rfl
   simpa using this)
  rw [a0U] at hx;simp only [execOp,ha.ev hx,Sem.run_bind,hrun,Result.andThen_ok,Sem.run_pure]
theorem b1n {t yt:TypeId} {x y:Operand} {l m:List UInt8} (hx:E.ev x=some (.string ⟨l.toArray⟩)) (hy:E.ev y=some (.string ⟨m.toArray⟩)) (hb:l.length + m.length<=9223372036854775807):∀ a,Has n ds a E->∀ dst,t8 P ⟨dst,.binOp .add t x y yt,ty,pos,after,none⟩ a (.string ⟨(l++m).toArray⟩):=fun a ha _ w=>by
 have h1:¬ (9223372036854775807 < (((⟨l.toArray⟩:ByteArray).size:Int) + ((⟨m.toArray⟩:ByteArray).size:Int))):=by
  show ¬ (9223372036854775807 < ((l.length:Int) + (m.length:Int)));omega
 simp [execOp,ha.ev hx,ha.ev hy,eqGuard,binOp,Op.stringOp,a24,h1]
end
section
variable {F:Nat->Prop} {w0 w w':World} {Γ:List Asr}
end
theorem a46 {l:List UInt8} {k:Nat} {b:UInt8} (h:l[k]?=some b) (hb:b.toNat < 128):Utf8.decode ⟨l.toArray⟩ k=(b.toNat,1):=by
 obtain ⟨h1,rfl⟩:=xa5.1 h;have:=decode_ascii ⟨l.toArray⟩ k h1 hb;exact this
section
variable {P:Program} {n:Nat} {ds:List Deferred} {E:Fr} {w:World} {Q:Exit->Act->World->Prop} {ops:Array Oper} {rest:List Oper} {d:Nat} {ty:TypeId} {pos:String} {after:Array Edge} {F:Nat->Prop} {w0:World} {Γ:List Asr}
end
section
variable {P:Program} {n:Nat} {ds:List Deferred} {E:Fr} {w:World} {Q:Exit->Act->World->Prop} {ops:Array Oper} {rest:List Oper} {d:Nat} {dst:Option Nat} {ty:TypeId} {pos:String} {after:Array Edge} {F:Nat->Prop} {w0:World} {Γ:List Asr} {T:Tab}
end
section
variable {P:Program} {n:Nat} {ds:List Deferred} {E:Fr} {w:World} {Q:Exit->Act->World->Prop} {ops:Array Oper} {S:World->Prop} {fuel:Nat} {li:Array Bool} {d:Nat} {op:Op} {ty:TypeId} {pos:String} {after:Array Edge} {F:Nat->Prop} {w0:World} {Γ:List Asr} {T:Tab}
def WA (P:Program) (ops:Array Oper) (Q:Exit->Act->World->Prop) (S:World->Prop) (fuel:Nat) (li:Array Bool) (n:Nat) (ds:List Deferred) (E:Fr) (w:World):Prop:=∀ a,Has n ds a E->wpAnyH P .any ops Q S fuel li a w
def WO (P:Program) (ops:Array Oper) (Q:Exit->Act->World->Prop) (S:World->Prop) (fuel:Nat) (li:Array Bool) (n:Nat) (ds:List Deferred) (E:Fr) (w:World) (i:Nat):Prop:=∀ a,Has n ds a E->wpOp P ops Q i (fun a' w'=>S w'/\wpAnyH P .any ops Q S fuel (li.setIfInBounds i true) a' w') a w
theorem a9O (S:World->Prop) {id:Nat} {l:List Oper} (m:Nat) (hl:l.length=m) (hS:St F w0 w Γ) (hm:P.follows .mixedOrders=true) (h:∀ w1,St F w0 w1 Γ->WA P l.toArray Q S m (Array.replicate m false) n ds E w1):WC P (.region id l.toArray true) Q n ds E w:=fun a ha=>by
 subst hl;exact wp_region_held (S:=S) hm (h { w with drawn:=w.drawn + 1 } (hS.grow ⟨rfl,rfl,rfl,xc4 _,fun _ _ _=>rfl⟩) a ha)
theorem a7S (hr:Region.ready .any ops li=[]) (h:WQ Q .normal n ds E w):WA P ops Q S fuel li n ds E w:=fun a ha=>wpAnyH_done hr (h a ha) fuel
theorem b0E {i:Nat} (_C:Nn i) {v:Value} (hT:TabOk P T) (hi:ops[i]?=some ⟨some d,op,ty,pos,after,none⟩) (hs:Region.noSelect ops=true) (hf:Region.free .any ops li i=true) (hr:(Region.ready .any ops li).contains i=true)
  (hQ:∀ c (a:Act) w,Q (.panic c) (a.put (some d) v) w->Q (.panic c) a w) (hS:S w) (hv:k6 T E op=some v) (hd:Nat.blt d n=true) (k:WA P ops Q S fuel (li.setIfInBounds i true) n ds ((d,v)::E) w):WA P ops Q S (fuel + 1) li n ds E w:=fun a ha=>
 wpAnyH_take hi hs hf hr hQ (xc6 ⟨rfl,fun w _=>t7 hT ha hv w⟩) hS (k _ (ha.put d v hd))
theorem a8b {i:Nat} (_C:Nn i) {t:TypeId} {x:Operand} {p:Addr} {v:Value} (hi:ops[i]?=some ⟨some d,.load t x,ty,pos,after,none⟩) (hs:Region.noSelect ops=true) (hf:Region.free .any ops li i=true) (hr:(Region.ready .any ops li).contains i=true)
  (hQ:∀ c (a:Act) w,Q (.panic c) (a.put (some d) v) w->Q (.panic c) a w) (hS:S w) (hx:E.ev x=some (.pointer (some p))) (hl:∀ w,S w->Ld P t p v w) (hd:Nat.blt d n=true) (k:WA P ops Q S fuel (li.setIfInBounds i true) n ds ((d,v)::E) w):WA P ops Q S (fuel + 1) li n ds E w:=fun a ha=>
 wpAnyH_take hi hs hf hr hQ (xc6 ⟨rfl,fun w hw=>by
  have h:=hl w hw;unfold Ld at h;simp only [execOp,ha.ev hx,Instr.loadAt,Instr.sureAddr,Sem.run_bind,Sem.run_pure,Result.andThen_ok,h]⟩) hS (k _ (ha.put d v hd))
theorem a5l {i:Nat} (hr:Region.ready .any ops li=[i]) (h:WO P ops Q S fuel li n ds E w i):WA P ops Q S (fuel + 1) li n ds E w:=fun a ha=>
 wpAnyH_all hr (by simp) (fun j hj=>by
  have:j=i:=by simpa using hj
  subst this;exact h a ha)
theorem b0X {i j:Nat} (hr:Region.ready .any ops li=[i,j]) (h1:WO P ops Q S fuel li n ds E w i) (h2:WO P ops Q S fuel li n ds E w j):WA P ops Q S (fuel + 1) li n ds E w:=fun a ha=>
 wpAnyH_all hr (by simp) (fun k hk=>by
  have:k=i\/k=j:=by simpa using hk
  rcases this with rfl|rfl
  ·exact h1 a ha
  ·exact h2 a ha)
theorem a3q {i:Nat} {Φ:Value->World->Prop} (hi:ops[i]?=some ⟨some d,op,ty,pos,after,none⟩) (h:Gets P ⟨some d,op,ty,pos,after,none⟩ n ds E w Φ) (hd:Nat.blt d n=true) (k:∀ v w',Φ v w'->S w'/\WA P ops Q S fuel (li.setIfInBounds i true) n ds ((d,v)::E) w'):WO P ops Q S fuel li n ds E w i:=fun a ha=>by
 unfold wpOp;simp only [hi];rw [xd6 (show Region.wanted _ _=true from rfl)];exact xc6 (h a ha _ _ fun v w' hv=>⟨(k v w' hv).1,(k v w' hv).2 _ (ha.put d v hd)⟩)
theorem a5x {i:Nat} {Φ:Value->World->Prop} (hi:ops[i]?=some ⟨none,op,ty,pos,after,none⟩) (h:Gets P ⟨none,op,ty,pos,after,none⟩ n ds E w Φ) (k:∀ v w',Φ v w'->S w'/\WA P ops Q S fuel (li.setIfInBounds i true) n ds E w'):WO P ops Q S fuel li n ds E w i:=fun a ha=>by
 unfold wpOp;simp only [hi];rw [xd6 (show Region.wanted _ _=true from rfl)];exact xc6 (h a ha _ _ fun v w' hv=>⟨(k v w' hv).1,(k v w' hv).2 _ ha⟩)
end
def RP (c:List PanicEntry) (Φ:Value->World->Prop) (Ψ:World->Prop) (e:Ending) (w':World):Prop:=(∃ v,e=.returned v/\Φ v w')\/(e=.panicked c/\Ψ w')
structure FnP (P:Program) (f:FuncId) (args:List Value) (w:World) (c:List PanicEntry) (Φ:Value->World->Prop) (Ψ:World->Prop):Prop where
 ok:∃ fn,j9 P f fn
 calls:Calls P f args.toArray w (RP c Φ Ψ)
section
variable {P:Program} {n:Nat} {ds:List Deferred} {E:Fr} {w:World} {Q:Exit->Act->World->Prop} {ops:Array Oper} {rest:List Oper} {d:Nat} {dst:Option Nat} {op:Op} {ty:TypeId} {pos:String} {after:Array Edge} {T:Tab} {c:List PanicEntry}
theorem FnP.mono {f:FuncId} {args:List Value} {Φ Φ':Value->World->Prop} {Ψ Ψ':World->Prop} (h:FnP P f args w c Φ Ψ) (h1:∀ v w',Φ v w'->Φ' v w') (h2:∀ w',Ψ w'->Ψ' w'):FnP P f args w c Φ' Ψ' :=
 ⟨h.ok,h.calls.mono fun _ _ h=>by
  rcases h with ⟨v,e,hv⟩|⟨e,hw⟩
  ·exact xc6 ⟨v,e,h1 v _ hv⟩
  ·exact xc3 ⟨e,h2 _ hw⟩⟩
end
section
variable {P:Program} {n:Nat} {E:Fr} {w:World} {c:List PanicEntry} {fn:Func} {Φ:Value->World->Prop} {Ψ:World->Prop} {v v1 v2:Value}
end
section
variable {P:Program} {n:Nat} {ds:List Deferred} {E:Fr} {w:World} {Q:Exit->Act->World->Prop} {ops:Array Oper} {rest:List Oper} {d:Nat} {dst:Option Nat} {op:Op} {ty:TypeId} {pos:String} {after:Array Edge} {T:Tab}
theorem a3Z (l:List UInt8) (a b:Nat):(⟨l.toArray⟩:ByteArray).extract a b=⟨((l.drop a).take (b - a)).toArray⟩:=ByteArray.extract_mk l a b
end
section
variable {P:Program} {n:Nat} {E:Fr} {w:World} {fn:Func} {Φ:Value->World->Prop}
end
section
variable {P:Program} {ops:Array Oper} {Q:Exit->Act->World->Prop} {S:World->Prop} {q:Nat}
end
section
variable {P:Program} {n:Nat} {ds:List Deferred} {E:Fr} {w:World} {Q:Exit->Act->World->Prop} {ops:Array Oper} {S:World->Prop} {q fuel:Nat} {li:Array Bool} {d:Nat} {op:Op} {ty:TypeId} {pos:String} {after:Array Edge} {F:Nat->Prop} {w0:World} {Γ:List Asr} {T:Tab} {c:List PanicEntry}
def t2 (ops:Array Oper) (q i:Nat):Bool:=match ops[q]? with
 |some o=>o.after.toList.any (fun e=>Region.binds .any e && Nat.beq e.on i)
 |none=>false
theorem a68 {q i:Nat} (h:t2 ops q i=true):∃ oq,ops[q]?=some oq/\∃ e ∈ oq.after,Region.binds .any e=true/\e.on=i:=by
 unfold t2 at h
 split at h
 ·rename_i o ho;obtain ⟨e,he,h2⟩:=xi9.1 h;simp only [xb6] at h2;exact ⟨o,ho,e,by simpa using he,h2.1,xa8 h2.2⟩
 ·cases h
end
section
variable {P:Program} {n:Nat} {ds:List Deferred} {E:Fr} {w:World} {Q:Exit->Act->World->Prop} {ops:Array Oper} {rest:List Oper} {d:Nat} {dst:Option Nat} {op:Op} {ty:TypeId} {pos:String} {after:Array Edge} {T:Tab}
end
section
variable {P:Program} {n:Nat} {ds:List Deferred} {E:Fr} {w:World} {Q:Exit->Act->World->Prop} {ops:Array Oper} {S:World->Prop} {q fuel:Nat} {li:Array Bool} {d:Nat} {op:Op} {ty:TypeId} {pos:String} {after:Array Edge} {T:Tab}
theorem Gets.pure {dst:Option Nat} {op:Op} {v:Value} (hT:TabOk P T) (hv:k6 T E op=some v):Gets P ⟨dst,op,ty,pos,after,none⟩ n ds E w (fun v' w'=>v'=v/\w'=w):=Gets.of_runs fun _ ha=>t7 hT ha hv
theorem Gets.build {dst:Option Nat} (hT:TabOk P T) {t s:Nat} {fs:List (Nat×Nat×Bool)} {z L:List Value} {parts:Array (Nat×Operand)} {ps:List (Nat×Value)} (ht:T.get t=some (.st s fs z)) (hp:evP E parts.toList=some ps) (hL:y7 (fun i=>(fs[i]?).map fun f=>(f.1,f.2.1)) z ps=some L):Gets P ⟨dst,.build t parts,ty,pos,after,none⟩ n ds E w (fun v' w'=>v'=.agg L.toArray/\w'=w):=Gets.of_runs fun _ ha=>a3r hT ht hp hL _ ha
end
section
variable {F:Nat->Prop} {w0 w w':World} {Γ Δ:List Asr}
end
section
variable {P:Program} {n:Nat} {ds:List Deferred} {E:Fr} {w:World} {Q:Exit->Act->World->Prop} {ops:Array Oper} {rest:List Oper} {d:Nat} {ty:TypeId} {pos:String} {after:Array Edge}
theorem a8Z {F:Nat->Prop} {w0:World} {Γ:List Asr} {id:Nat} {l:List Oper} (m:Nat) (hl:l.length=m) (hS:St F w0 w Γ) (hm:P.follows .mixedOrders=true) (h:∀ w1,St F w0 w1 Γ->WA P l.toArray Q (fun w'=>St F w0 w' Γ) m (Array.replicate m false) n ds E w1):WC P (.region id l.toArray true) Q n ds E w:=a9O _ m hl hS hm h
theorem a8L {i:Nat} (_C:Nn i) {S:World->Prop} {fuel:Nat} {li:Array Bool} {op:Op} {v:Value} (hi:ops[i]?=some ⟨some d,op,ty,pos,after,none⟩) (hs:Region.noSelect ops=true) (hf:Region.free .any ops li i=true) (hr:(Region.ready .any ops li).contains i=true)
  (hQ:∀ c (a:Act) w,Q (.panic c) (a.put (some d) v) w->Q (.panic c) a w) (hS:S w) (h:∀ a,Has n ds a E->t8 P ⟨some d,op,ty,pos,after,none⟩ a v) (hd:Nat.blt d n=true) (k:WA P ops Q S fuel (li.setIfInBounds i true) n ds ((d,v)::E) w):WA P ops Q S (fuel + 1) li n ds E w:=fun a ha=>
 wpAnyH_take hi hs hf hr hQ (xc6 ⟨rfl,fun w _=>h a ha w⟩) hS (k _ (ha.put d v hd))
theorem b1X {i:Nat} (_C:Nn i) {T:Tab} {S:World->Prop} {fuel:Nat} {li:Array Bool} (hT:TabOk P T) {t:TypeId} {x y:Operand} {el sz eb b off m c j:Nat} {ag:Bool} {z:List Value} {ii:Int} (hi:ops[i]?=some ⟨some d,.indexAddr t x y,ty,pos,after,none⟩) (hs:Region.noSelect ops=true) (hf:Region.free .any ops li i=true) (hr:(Region.ready .any ops li).contains i=true)
  (hQ:∀ c (a:Act) w v,Q (.panic c) (a.put (some d) v) w->Q (.panic c) a w) (hS:S w) (ht:T.get t=some (.sl el sz eb ag z)) (hx:E.ev x=some (.slice (some ⟨b,off,none⟩) m c)) (hy:E.ev y=some (.int .i64 ii)) (hj:(j:Int)=ii) (hm:j < m) (hd:Nat.blt d n=true) (k:WA P ops Q S fuel (li.setIfInBounds i true) n ds ((d,.pointer (some ⟨b,off + j * sz,none⟩))::E) w):WA P ops Q S (fuel + 1) li n ds E w :=
 a8L _C hi hs hf hr (fun c a w h=>hQ c a w _ h) hS (fun a ha=>a9c hT ht hx hy hj hm a ha _) hd k
end
end Go.Proofs.YtejnpppejalhfadGreat
namespace Go.Proofs.YtejnpppejalhfadGreat
set_option maxRecDepth 100000
set_option maxHeartbeats 8000000
open Go.RowKit Go.MapKept
structure MapAt (d:TypeDesc) (w:World) (r:Nat) (L:List (Value×Value)):Prop where
 held:∃ es c,w.heap[r]?=some (.map es c)/\es.toList.map (fun e=>(e.key,e.val))=L
 keys:∀ p ∈ L,IsKey d p.1
 once:(L.map (·.1)).Nodup
section
variable {P:Program} {d:TypeDesc} {w w':World} {r:Nat} {L:List (Value×Value)} {T K E:TypeId} {k v:Value}
theorem MapAt.lt (h:MapAt d w r L):r < w.heap.size:=by
 obtain ⟨es,c,hb,_⟩:=h.held;exact (xa7.1 hb).1
theorem MapAt.keep (h:MapAt d w r L) (hk:w'.heap[r]?=w.heap[r]?):MapAt d w' r L:=by
 obtain ⟨es,c,hb,hl⟩:=h.held;exact ⟨⟨es,c,hk.trans hb,hl⟩,h.keys,h.once⟩
theorem MapAt.below {B:Nat} (h:MapAt d w r L) (hb:Below B w w') (hr:r < B):MapAt d w' r L:=h.keep (hb.block r hr)
theorem MapAt.grown (h:MapAt d w r L) (hb:Below w.heap.size w w'):MapAt d w' r L:=h.below hb h.lt
theorem MapAt.made (d:TypeDesc) (w:World):MapAt d (w.alloc (.map #[] 0)) w.heap.size [] :=
 ⟨⟨#[],0,(heap_alloc w _).1,rfl⟩,by simp,by simp⟩
theorem a1C (hk:IsKey d k):∀ (l:List MapEntry) (i:Nat),(∀ e ∈ l,IsKey d e.key)->((l.map (·.key)).Nodup)->(∃ e ∈ l,e.key=k/\e.val=v)->∃ j,j < l.length/\Instr.findNow d k l i=some (some (i + j,v))/\((l[j]?).map (·.key))=some k:=by
 intro l i hl hn ⟨e,he,hek,hev⟩;rcases findNow_spec hk l i hl with ⟨_,h2⟩|⟨j,e',h1,h2,h3⟩
 ·exact (h2 e he hek).elim
 ·have hj:j < l.length:=(xa5.1 h2).1;have e':e'=e:=by
   obtain ⟨j2,hj2,hje⟩:=List.getElem_of_mem he;have a1:l[j]=e':=(xa5.1 h2).2;have:j=j2:=by
    have hnd:=xc7.1 hn;rcases Nat.lt_trichotomy j j2 with hlt|heq|hgt
    ·exact (hnd j j2 (by simpa using hj) (by simpa using hj2) hlt (by simp [a1,hje,h3,hek])).elim
    ·exact heq
    ·exact (hnd j2 j (by simpa using hj2) (by simpa using hj) hgt (by simp [a1,hje,h3,hek])).elim
   subst this;rw [<- a1,hje]
  subst e';exact ⟨j,hj,by rw [h1,hev],by rw [h2];simp [h3]⟩
theorem a0i (hk:IsKey d k) (l:List MapEntry) (i:Nat) (hl:∀ e ∈ l,IsKey d e.key) (hno:∀ e ∈ l,e.key≠k):Instr.findNow d k l i=some none:=by
 rcases findNow_spec hk l i hl with ⟨h1,_⟩|⟨j,e,_,h2,h3⟩
 ·exact h1
 ·exact (hno e (xc0 h2) h3).elim
theorem a0u (ht:P.underlying T=some (.map K E)) (hd:P.underlying K=some d) (h:MapAt d w r L) (hk:IsKey d k) (hm:(k,v) ∈ L) (ok:Bool) :
  (Instr.lookup T (.map (some r)) k ok).run P w=.ok (if ok then .tuple #[v,.bool true] else v) w:=by
 obtain ⟨es,c,hb,rfl⟩:=h.held;obtain ⟨e,he,hee⟩:=xg1.1 hm;simp only [Prod.mk.injEq] at hee;have hkeys:∀ e ∈ es.toList,IsKey d e.key:=fun e he=>h.keys (e.key,e.val) (xg1.2 ⟨e,he,rfl⟩);have hnd:(es.toList.map (·.key)).Nodup:=by have:=h.once;simpa [List.map_map,Function.comp_def] using this
 obtain ⟨j,_,hf,_⟩:=a1C (v:=v) hk es.toList 0 hkeys hnd ⟨e,he,hee.1,hee.2⟩;have h1:=run_checkKey (P:=P) (w:=w) hd hk es.isEmpty 9999;have h2:=run_findKey (P:=P) (w:=w) hd hf
 cases ok <;> simp [Instr.lookup,run_underlying ht,Go.MapKept.run_getObj_map hb,h1,h2,Result.andThen]
theorem a0o (ht:P.underlying T=some (.map K E)) (hd:P.underlying K=some d) (h:MapAt d w r L) (hk:IsKey d k) (hm:∀ v,(k,v) ∉ L) {z:Value} (hz:(zeroValue E).run P w=.ok z w) (ok:Bool) :
  (Instr.lookup T (.map (some r)) k ok).run P w=.ok (if ok then .tuple #[z,.bool false] else z) w:=by
 obtain ⟨es,c,hb,rfl⟩:=h.held;have hkeys:∀ e ∈ es.toList,IsKey d e.key:=fun e he=>h.keys (e.key,e.val) (xg1.2 ⟨e,he,rfl⟩);have hf:=a0i hk es.toList 0 hkeys (fun e he hek=>hm e.val (xg1.2 ⟨e,he,by rw [<- hek]⟩));have h1:=run_checkKey (P:=P) (w:=w) hd hk es.isEmpty 9999;have h2:=run_findKey (P:=P) (w:=w) hd hf
 cases ok <;> simp [Instr.lookup,run_underlying ht,Go.MapKept.run_getObj_map hb,h1,h2,hz,Result.andThen]
theorem a11 (ht:P.underlying T=some (.map K E)) (hd:P.underlying K=some d) (h:MapAt d w r L) (hk:IsKey d k) (hm:∀ v,(k,v) ∉ L) :
  ∃ w',(Instr.mapUpdate T (.map (some r)) k v).run P w=.ok () w'/\MapAt d w' r (L++[(k,v)])/\(∀ B w0,Below B w0 w->B<=r->Below B w0 w')/\w'.heap.size=w.heap.size/\(∀ g,g≠r->w'.heap[g]?=w.heap[g]?):=by
 obtain ⟨es,c,hb,rfl⟩:=h.held;have hkeys:∀ e ∈ es.toList,IsKey d e.key:=fun e he=>h.keys (e.key,e.val) (xg1.2 ⟨e,he,rfl⟩);have hno:∀ e ∈ es.toList,e.key≠k:=fun e he hek=>hm e.val (xg1.2 ⟨e,he,by rw [<- hek]⟩);have hf:=a0i hk es.toList 0 hkeys hno;have h1:=run_checkKey (P:=P) (w:=w) hd hk false 9999;have h2:=run_findKey (P:=P) (w:=w) hd hf;have y5:=heap_set (o':=Obj.map (es.push { key:=k,val:=v,born:=c }) (c + 1)) hb;refine ⟨{ w with heap:=w.heap.setIfInBounds r (.map (es.push { key:=k,val:=v,born:=c }) (c + 1)) },?_,⟨⟨_,_,y5.1,by simp⟩,?_,?_⟩,?_,by simp,fun g hg=>y5.2 g hg⟩
 ·simp [Instr.mapUpdate,run_underlying ht,Go.MapKept.run_getObj_map hb,h1,h2,Result.andThen,run_setObj_map _ hb]
 ·intro p hp;rcases xd1.1 hp with hp|hp
  ·exact h.keys p hp
  ·have:p=(k,v):=by simpa using hp
   subst this;exact hk
 ·rw [xj0,xj1];refine ⟨h.once,by simp,fun a ha b hb'=>?_⟩;have:b=k:=by simpa using hb'
  subst this;rintro rfl;obtain ⟨p,hp,hpk⟩:=xg1.1 ha;exact hm p.2 (by rw [<- hpk];exact hp)
 ·intro B w0 hB hBr;exact hB.trans ⟨rfl,rfl,rfl,by simp,fun g hg=>y5.2 g (by omega)⟩
theorem a2k {ops:Array Oper} {Q:Exit->Act->World->Prop} {t:Tmp} {ty:TypeId} {pos:String} {after:Array Edge} {rest:List Oper} {a:Act} (d:TypeDesc) (B:Nat) (w0:World) (hb:Below B w0 w) (hB:B<=w.heap.size)
  (next:∀ w',MapAt d w' w.heap.size []->Below B w0 w'->w'.heap.size=w.heap.size + 1->(∀ g,g < w.heap.size->w'.heap[g]?=w.heap[g]?)->wpList P ops Q rest (a.put (some t) (.map (some w.heap.size))) w'):wpList P ops Q (⟨some t,.makeMap T none,ty,pos,after,none⟩::rest) a w:=by
 refine wpList_plain rfl fun Kt hK=>?_;unfold Oper.wp;simp only [execOp,xj2,run_makeMap,Sem.run_bind,Result.andThen_ok,Sem.run_pure,Oper.upon_value];exact hK _ _ (next _ (MapAt.made d w) (hb.alloc hB _) (by simp) (fun g hg=>Below.heap_alloc w _ g hg))
theorem b6 (n:Int) {ops:Array Oper} {Q:Exit->Act->World->Prop} {T:TypeId} {m v:Operand} {ty:TypeId} {pos:String} {after:Array Edge} {g:Option (Nat×Bool)} {rest:List Oper} {a:Act} {w:World}
  (h:wpList P ops Q (⟨none,.insert T m (.const (.int .i64 n)) v,ty,pos,after,g⟩::rest) a w):wpList P ops Q (⟨none,.insert T m (.const (.int .i64 n)) v,ty,pos,after,g⟩::rest) a w:=h
theorem b5 {ops:Array Oper} {Q:Exit->Act->World->Prop} {m kx vx:Operand} {ty:TypeId} {pos:String} {after:Array Edge} {rest:List Oper} {a:Act} (ht:P.underlying T=some (.map K E)) (hd:P.underlying K=some d)
  (r:Nat) (k v:Value) (L:List (Value×Value)) (hmv:a.eval m=.map (some r)) (hkv:a.eval kx=k) (hvv:a.eval vx=v) (h:MapAt d w r L) (hk:IsKey d k) (hm:∀ v,(k,v) ∉ L) (B:Nat) (w0:World) (hb:Below B w0 w) (hBr:B<=r)
  (next:∀ w',MapAt d w' r (L++[(k,v)])->Below B w0 w'->w'.heap.size=w.heap.size->(∀ g,g≠r->w'.heap[g]?=w.heap[g]?)->wpList P ops Q rest a w'):wpList P ops Q (⟨none,.insert T m kx vx,ty,pos,after,none⟩::rest) a w:=by
 obtain ⟨w',hr,h1,h2,h3,h4⟩:=a11 (v:=v) ht hd h hk hm;refine wpList_plain rfl fun Kt hK=>?_;unfold Oper.wp;simp only [execOp,hmv,hkv,hvv,Sem.run_bind,hr,Result.andThen_ok,Sem.run_pure,Oper.upon_skip];exact hK _ _ (next w' h1 (h2 B w0 hb hBr) h3 h4)
end
end Go.Proofs.YtejnpppejalhfadGreat
namespace Go.Proofs.YtejnpppejalhfadGreat
set_option maxRecDepth 100000
set_option maxHeartbeats 8000000
open Go.RowKit Go.Sort Go.MapKept
structure MapG (D:TypeDesc) (es:Array MapEntry) (L:List (Value×Value)):Prop where
 held:es.toList.map (fun e=>(e.key,e.val))=L
 keys:∀ p ∈ L,IsKey D p.1
 once:(L.map (·.1)).Nodup
theorem MapG.nil (D:TypeDesc):MapG D #[] []:=⟨rfl,by simp,by simp⟩
theorem MapG.at_ {D:TypeDesc} {w:World} {r c:Nat} {es:Array MapEntry} {L:List (Value×Value)} (h:MapG D es L) (hr:w.heap[r]?=some (.map es c)):MapAt D w r L:=⟨⟨es,c,hr,h.held⟩,h.keys,h.once⟩
theorem MapG.size {D:TypeDesc} {es:Array MapEntry} {L:List (Value×Value)} (h:MapG D es L):es.size=L.length:=by
 have:=congrArg List.length h.held
 simpa using this
section
variable {P:Program} {n:Nat} {ds:List Deferred} {E:Fr} {w:World} {Q:Exit->Act->World->Prop} {ops:Array Oper} {rest:List Oper} {d:Nat} {dst:Option Nat} {ty:TypeId} {pos:String} {after:Array Edge} {F:Nat->Prop} {w0:World} {Γ:List Asr} {T:Tab} {D:TypeDesc}
theorem b0r (hS:St F w0 w Γ) {t Kt Et:TypeId} {m x:Operand} {r c i:Nat} {es:Array MapEntry} {L:List (Value×Value)} {k v:Value} (ht:P.underlying t=some (.map Kt Et)) (hK:P.underlying Kt=some D) (hm:E.ev m=some (.map (some r))) (hx:E.ev x=some k) (hi:Γ[i]?=some (.obj r (.map es c))) (hL:MapG D es L) (hk:IsKey D k) (hv:(k,v) ∈ L) (ok:Bool) :
  Gets P ⟨dst,.lookup t m x ok,ty,pos,after,none⟩ n ds E w (fun v' w'=>v'=(if ok then .tuple #[v,.bool true] else v)/\w'=w):=Gets.of_at fun a ha=>by
 have hat:=hL.at_ (hS.at_ hi).1;have hrun:=a0u ht hK hat hk hv ok;simp only [execOp,ha.ev hm,ha.ev hx,Sem.run_bind,hrun,Result.andThen_ok,Sem.run_pure]
theorem a9g (hS:St F w0 w Γ) {t Kt Et:TypeId} {m x:Operand} {r c i:Nat} {es:Array MapEntry} {L:List (Value×Value)} {k z:Value} (ht:P.underlying t=some (.map Kt Et)) (hK:P.underlying Kt=some D) (hz:(P.info? Et).bind (·.zero)=some z) (hm:E.ev m=some (.map (some r))) (hx:E.ev x=some k) (hi:Γ[i]?=some (.obj r (.map es c))) (hL:MapG D es L) (hk:IsKey D k) (hv:∀ v,(k,v) ∉ L) (ok:Bool) :
  Gets P ⟨dst,.lookup t m x ok,ty,pos,after,none⟩ n ds E w (fun v' w'=>v'=(if ok then .tuple #[z,.bool false] else z)/\w'=w):=Gets.of_at fun a ha=>by
 have hat:=hL.at_ (hS.at_ hi).1;obtain ⟨zi,hzi,hz2⟩:=xj3.1 hz;have hz':(zeroValue Et).run P w=.ok z w:=by simp [zeroValue,typeInfo,hzi,hz2]
 have hrun:=a0o ht hK hat hk hv hz' ok;simp only [execOp,ha.ev hm,ha.ev hx,Sem.run_bind,hrun,Result.andThen_ok,Sem.run_pure]
theorem a7u {t Kt Et:TypeId} {r c:Nat} {es:Array MapEntry} {L:List (Value×Value)} {k u v:Value} (ht:P.underlying t=some (.map Kt Et)) (hK:P.underlying Kt=some D) (hr:w.heap[r]?=some (.map es c)) (hL:MapG D es L) (hk:IsKey D k) (hm:(k,u) ∈ L) :
  ∃ es' j,(Instr.mapUpdate t (.map (some r)) k v).run P w=.ok () { w with heap:=w.heap.setIfInBounds r (.map es' c) }/\(∃ u',L[j]?=some (k,u'))/\MapG D es' (L.set j (k,v)):=by
 have hat:=hL.at_ hr;have hkeys:∀ e ∈ es.toList,IsKey D e.key:=fun e he=>hat.keys (e.key,e.val) (by rw [<- hL.held];exact xg1.2 ⟨e,he,rfl⟩);have hnd:(es.toList.map (·.key)).Nodup:=by
  have:=hat.once;rw [<- hL.held,List.map_map] at this;exact this
 have hmem:∃ e ∈ es.toList,e.key=k/\e.val=u:=by
  have:((k,u):Value×Value) ∈ es.toList.map (fun e=>(e.key,e.val)):=by rw [hL.held];exact hm
  obtain ⟨e,he,h2⟩:=xg1.1 this;simp only [Prod.mk.injEq] at h2;exact ⟨e,he,h2⟩
 obtain ⟨j,hj,hf,hkj⟩:=a1C (v:=u) hk es.toList 0 hkeys hnd hmem;rw [xd8] at hf;have h1:=run_checkKey (P:=P) (w:=w) hK hk false 9999;have h2:=run_findKey (P:=P) (w:=w) hK hf;have hjs:j < es.size:=by simpa using hj
 have hkj':(es[j]?.map (·.key)).getD k=k:=by
  rw [show es[j]?=es.toList[j]? by simp,hkj];rfl
 have h3:=run_keyThatStays (P:=P) (w:=w) hk;have hLj:∃ u',L[j]?=some (k,u'):=by
  have h4:=congrArg (fun l=>l[j]?) hL.held;simp only [xf7] at h4;have h5:es.toList[j]?=some es[j]:=by simp [hjs]
  rw [h5] at h4 hkj;simp only [xf8,Option.some.injEq] at h4 hkj;exact ⟨es[j].val,by rw [<- h4,hkj]⟩
 refine ⟨es.modify j fun e=>{ e with key:=k,val:=v },j,?_,hLj,⟨?_,?_,?_⟩⟩
 ·simp only [Instr.mapUpdate,run_underlying ht,Go.MapKept.run_getObj_map hr,h1,h2,Result.andThen_ok,Sem.run_bind,hkj',h3,run_setObj_map _ hr]
 ·refine xf3 fun m=>?_;rw [<- hL.held,Array.toList_modify,xf7,List.getElem?_modify,xc9,xf7,xg5];by_cases e:j=m
  ·subst e;have:es.toList[j]?=some es[j]:=by simp [hjs]
   rw [this,xd6 rfl,xd6 hj];simp
  ·simp [e]
 ·intro p hp;rcases xi7 hp with h|h
  ·exact hL.keys p h
  ·rw [h];exact hk
 ·obtain ⟨u',hq⟩:=hLj;rw [List.map_set];have:(L.map (·.1)).set j k=L.map (·.1):=by
   refine xf3 fun m=>?_;rw [xc9]
   split
   ·rename_i e;subst e;simp only [xg5,xf7,hq,xf8];rw [xd6 (a7 hq)]
   ·rfl
  rw [show (k,v).1=k from rfl,this];exact hL.once
theorem a6K {t Kt Et:TypeId} {r c:Nat} {es:Array MapEntry} {L:List (Value×Value)} {k v:Value} (ht:P.underlying t=some (.map Kt Et)) (hK:P.underlying Kt=some D) (hr:w.heap[r]?=some (.map es c)) (hL:MapG D es L) (hk:IsKey D k) (hm:∀ v,(k,v) ∉ L) :
  ∃ es' c',(Instr.mapUpdate t (.map (some r)) k v).run P w=.ok () { w with heap:=w.heap.setIfInBounds r (.map es' c') }/\MapG D es' (L++[(k,v)]):=by
 have hat:=hL.at_ hr;have hkeys:∀ e ∈ es.toList,IsKey D e.key:=fun e he=>hat.keys (e.key,e.val) (by rw [<- hL.held];exact xg1.2 ⟨e,he,rfl⟩);have hno:∀ e ∈ es.toList,e.key≠k:=fun e he hek=>by
  have:(e.key,e.val) ∈ L:=by rw [<- hL.held];exact xg1.2 ⟨e,he,rfl⟩
  exact hm e.val (by rw [<- hek];exact this)
 have hf:=a0i hk es.toList 0 hkeys hno;have h1:=run_checkKey (P:=P) (w:=w) hK hk false 9999;have h2:=run_findKey (P:=P) (w:=w) hK hf;refine ⟨es.push { key:=k,val:=v,born:=c },c + 1,?_,⟨by simp [hL.held],fun p hp=>?_,?_⟩⟩
 ·simp only [Instr.mapUpdate,run_underlying ht,Go.MapKept.run_getObj_map hr,h1,h2,Result.andThen_ok,Sem.run_bind,run_setObj_map _ hr]
 ·rcases xd1.1 hp with h|h
  ·exact hL.keys p h
  ·have:p=(k,v):=by simpa using h
   rw [this];exact hk
 ·rw [xj0,xj1];refine ⟨hL.once,by simp,fun a ha b hb'=>?_⟩;have:b=k:=by simpa using hb'
  subst this;rintro rfl;obtain ⟨p,hp,hpk⟩:=xg1.1 ha;exact hm p.2 (by rw [<- hpk];exact hp)
theorem St.updMap (hS:St F w0 w Γ) {r c i:Nat} {es:Array MapEntry} (hi:Γ[i]?=some (.obj r (.map es c))) (es':Array MapEntry) (c':Nat):St F w0 { w with heap:=w.heap.setIfInBounds r (.map es' c') } (Γ.set i (.obj r (.map es' c'))):=by
 have hr:=(hS.at_ hi).1;have y5:=heap_set (o':=Obj.map es' c') hr;exact hS.upd hi ⟨rfl,rfl,rfl,by simp,fun g _ hg=>y5.2 g (fun e=>hg (by simp [Asr.fp,e]))⟩ ⟨y5.1,rfl⟩ (fun q hq=>xc6 hq)
theorem b0O (hS:St F w0 w Γ) {t Kt Et:TypeId} {m x y:Operand} {r c i:Nat} {es:Array MapEntry} {L:List (Value×Value)} {k v:Value} (ht:P.underlying t=some (.map Kt Et)) (hK:P.underlying Kt=some D) (hm:E.ev m=some (.map (some r))) (hx:E.ev x=some k) (hy:E.ev y=some v) (hi:Γ[i]?=some (.obj r (.map es c))) (hL:MapG D es L) (hk:IsKey D k) (hn:∀ v,(k,v) ∉ L) :
  Gets P ⟨dst,.mapUpdate t m x y,ty,pos,after,none⟩ n ds E w (fun _ w'=>∃ es' c',MapG D es' (L++[(k,v)])/\St F w0 w' (Γ.set i (.obj r (.map es' c')))):=fun a ha K Q kk=>by
 obtain ⟨es',c',hrun,h1⟩:=a6K (v:=v) ht hK (hS.at_ hi).1 hL hk hn;have hex:(execOp a.eval ⟨dst,.mapUpdate t m x y,ty,pos,after,none⟩).run P w=.ok .skip { w with heap:=w.heap.setIfInBounds r (.map es' c') }:=by
  simp only [execOp,ha.ev hm,ha.ev hx,ha.ev hy,Sem.run_bind,hrun,Result.andThen_ok,Sem.run_pure]
 unfold Oper.wp;rw [hex];exact kk undef _ ⟨es',c',h1,hS.updMap hi es' c'⟩
theorem b0k (hS:St F w0 w Γ) {t Kt Et:TypeId} {m x y:Operand} {r c i:Nat} {es:Array MapEntry} {L:List (Value×Value)} {k u v:Value} (ht:P.underlying t=some (.map Kt Et)) (hK:P.underlying Kt=some D) (hm:E.ev m=some (.map (some r))) (hx:E.ev x=some k) (hy:E.ev y=some v) (hi:Γ[i]?=some (.obj r (.map es c))) (hL:MapG D es L) (hk:IsKey D k) (hu:(k,u) ∈ L) :
  Gets P ⟨dst,.mapUpdate t m x y,ty,pos,after,none⟩ n ds E w (fun _ w'=>∃ es' c' j u',L[j]?=some (k,u')/\MapG D es' (L.set j (k,v))/\St F w0 w' (Γ.set i (.obj r (.map es' c')))):=fun a ha K Q kk=>by
 obtain ⟨es',j,hrun,⟨u',h1⟩,h2⟩:=a7u (v:=v) ht hK (hS.at_ hi).1 hL hk hu;have hex:(execOp a.eval ⟨dst,.mapUpdate t m x y,ty,pos,after,none⟩).run P w=.ok .skip { w with heap:=w.heap.setIfInBounds r (.map es' c) }:=by
  simp only [execOp,ha.ev hm,ha.ev hx,ha.ev hy,Sem.run_bind,hrun,Result.andThen_ok,Sem.run_pure]
 unfold Oper.wp;rw [hex];exact kk undef _ ⟨es',c,j,u',h1,h2,hS.updMap hi es' c⟩
theorem a5Y (hS:St F w0 w Γ) {t:TypeId}:Gets P ⟨dst,.makeMap t none,ty,pos,after,none⟩ n ds E w (fun v w'=>∃ r,v=.map (some r)/\St F w0 w' (.obj r (.map #[] 0)::Γ)):=fun a ha K Q k=>by
 have hex:(execOp a.eval ⟨dst,.makeMap t none,ty,pos,after,none⟩).run P w=.ok (.value (.map (some w.heap.size))) (w.alloc (.map #[] 0)):=by
  simp only [execOp];rfl
 unfold Oper.wp;rw [hex];exact k _ _ ⟨_,rfl,hS.new (World.grownBy_alloc w _ none) ⟨(heap_alloc w _).1,rfl⟩ (by simp [Asr.fp])⟩
end
end Go.Proofs.YtejnpppejalhfadGreat
namespace Go.Proofs.YtejnpppejalhfadGreat
set_option maxRecDepth 100000
set_option maxHeartbeats 8000000
open Go.RowKit Go.Sort
section
variable {P:Program} {n:Nat} {ds:List Deferred} {E:Fr} {w:World} {Q:Exit->Act->World->Prop} {ops:Array Oper} {rest:List Oper} {d:Nat} {dst:Option Nat} {ty:TypeId} {pos:String} {after:Array Edge} {F:Nat->Prop} {w0:World} {Γ:List Asr} {T:Tab}
theorem b1D {x y:Operand} {ats:Array TypeId} {m k:Int} (hx:E.ev x=some (.int .i64 m)) (hy:E.ev y=some (.int .i64 k)):∀ a,Has n ds a E->∀ dst,t8 P ⟨dst,.call { callee:=.builtin .min,args:=#[x,y],argTypes:=ats },ty,pos,after,none⟩ a (.int .i64 (min m k)):=fun a ha dst w=>by
 have e:(if k < m then k else m)=min m k:=by omega
 simp [execOp,resolve,invoke,builtin,ha.ev hx,ha.ev hy,Builtin.min_,Builtin.min2,Result.andThen,e]
theorem a7z (old c:List Value) (h:c.length<=old.length):l7 old 0 c=c++old.drop c.length:=by
 conv=>lhs;rw [<- xh5 c.length old]
 rw [a0W _ _ _ _ (by simp;omega),a4b _ _ (by simp;omega)]
theorem a86 (hS:St F w0 w Γ) (hT:TabOk P T) {t u e m cap g i:Nat} {ty2:TypeId} {x y:Operand} {old l:List UInt8} (ht:T.get t=some (.sl e 1 1 false [.int .u8 0])) (hx:E.ev x=some (.slice (some ⟨g,0,none⟩) m cap)) (hi:Γ[i]?=some (.row e 1 (.slice (some ⟨g,0,none⟩) m cap) (bR old))) (hy:E.ev y=some (.string ⟨l.toArray⟩)) :
  Gets P ⟨dst,.call { callee:=.builtin .copy,args:=#[x,y],argTypes:=#[t,u] },ty2,pos,after,none⟩ n ds E w (fun v' w'=>v'=.int .i64 ((l.take m).length:Nat)/\St F w0 w' (Γ.set i (.row e 1 (.slice (some ⟨g,0,none⟩) m cap) (bR (l.take m++old.drop (l.take m).length))))):=by
 intro a ha K Q k;obtain ⟨hown,hlen,hone⟩:=hS.at_ hi;rcases hown.2 with ⟨hv,_⟩|⟨g',cap',cur,hv,_,hg,hmc,hcm,hcs,htake⟩
 ·cases hv
 have hol:(bR old).length=old.length:=a0U old
 cases hv
 rw [hol] at hmc htake hx hi;simp only [hol] at k;obtain ⟨c,hc⟩:∃ c,c=l.take old.length:=⟨_,rfl⟩;have hcl:c.length=min l.length old.length:=by rw [hc,xa1];omega
 have hHL:HoldL w g cur.toList:=⟨e,hg⟩;have hcu:old.length<=cur.size:=by rw [hcs];omega
 obtain ⟨ji,zv,hu,hinfo,_,hs,hby,hz,hzl,_,hsz,hs0⟩:=hT.sl ht;have hst:=run_storeCells_cells (P:=P) g 0 (c.map fun b=>Value.int .u8 (b.toNat:Int)) 0 w (fun j hj=>by
  rw [xg5] at hj;rw [hHL.cell];simp only [xh0];exact ⟨_,xd0 (by simp;omega)⟩) (fun j _=>hHL.frozen _) (by simp [Value.oneCell'])
 have hcs2:((ByteArray.extract ⟨l.toArray⟩ 0 (Nat.min l.length old.length)).data.map fun b=>Value.int .u8 (b.toNat:Int)).toList=c.map fun b=>Value.int .u8 (b.toNat:Int):=by
  rw [a0X,hc,show l.take old.length=l.take (Nat.min l.length old.length) by rw [List.take_eq_take_iff];show min old.length l.length=min (min l.length old.length) l.length;omega];simp
 have hrun:(Builtin.copy_ #[t,u] ty2 #[.slice (some ⟨g,0,none⟩) old.length cap,.string ⟨l.toArray⟩]).run P w=.ok (goInt c.length) (w.setCells g 0 (c.map fun b=>Value.int .u8 (b.toNat:Int))):=by
  simp [Builtin.copy_,run_underlying hu,Builtin.lenOf,Builtin.firstCells,sizeOf,typeInfo,hinfo,hs,ByteArray.size];have e:List.take (Nat.min l.length old.length) (l.map fun b=>Value.int .u8 (b.toNat:Int))=c.map fun b=>Value.int .u8 (b.toNat:Int):=by rw [<- List.map_take,hc,show l.take old.length=l.take (Nat.min l.length old.length) by rw [List.take_eq_take_iff];show min old.length l.length=min (min l.length old.length) l.length;omega]
  rw [e,hst,hcl];rfl
 have hex:(execOp a.eval ⟨dst,.call { callee:=.builtin .copy,args:=#[x,y],argTypes:=#[t,u] },ty2,pos,after,none⟩).run P w=.ok (.value (.int .i64 (c.length:Nat))) (w.setCells g 0 (c.map fun b=>Value.int .u8 (b.toNat:Int))):=by
  simp [execOp,resolve,invoke,builtin,ha.ev hx,ha.ev hy,hrun,Result.andThen,goInt]
 unfold Oper.wp;rw [hex];simp only [<- hc] at k;have hcel:(bR (c++old.drop c.length)).length=old.length:=by rw [a0U,xd4,xj4];omega
 refine k _ _ ⟨rfl,hS.upd hi (s8 w g 0 _) ⟨⟨?_,.inr ⟨g,cap,_,by rw [hcel],xe7 _,a0Q hg 0 _,by rw [hcel];exact hmc,hcm,by simp [a2f,hcs],?_⟩⟩,?_,?_⟩ (fun q hq=>xc6 hq)⟩
 ·rw [a3f,xg5,hcel,xd4,xj4];omega
 ·rw [hcel,Nat.mul_one,xe8,a7z _ _ (by simp;omega),a3f,xj0,xg5,List.take_append];rw [Nat.mul_one,a3f] at htake;have h1:(c.map fun b=>Value.int .u8 (b.toNat:Int)).take old.length=c.map fun b=>Value.int .u8 (b.toNat:Int):=xa0 (by rw [xg5];omega);rw [h1,xg5,List.map_drop,<- htake,List.drop_take]
 ·intro r hr;unfold bR at hr;obtain ⟨b,_,rfl⟩:=xg1.1 hr;rfl
 ·intro r hr;unfold bR at hr;obtain ⟨b,_,rfl⟩:=xg1.1 hr;rfl
end
end Go.Proofs.YtejnpppejalhfadGreat
namespace Go.Proofs.YtejnpppejalhfadGreat
set_option maxRecDepth 100000
set_option maxHeartbeats 8000000
open Go.RowKit Go.Sort Go.MapKept
section
variable {P:Program} {n:Nat} {ds:List Deferred} {E:Fr} {w:World} {Q:Exit->Act->World->Prop} {ops:Array Oper} {rest:List Oper} {d:Nat} {dst:Option Nat} {ty:TypeId} {pos:String} {after:Array Edge} {F:Nat->Prop} {w0:World} {Γ:List Asr} {T:Tab}
theorem a6p (hS:St F w0 w Γ) {t Kt Et:TypeId} {x:Operand} {r c i:Nat} {es:Array MapEntry} (ht:P.underlying t=some (.map Kt Et)) (hx:E.ev x=some (.map (some r))) (hi:Γ[i]?=some (.obj r (.map es c))) :
  Gets P ⟨dst,.call { callee:=.builtin .len,args:=#[x],argTypes:=#[t] },ty,pos,after,none⟩ n ds E w (fun v' w'=>v'=.int .i64 (es.size:Nat)/\w'=w):=Gets.of_at fun a ha=>by
 have hr:(Builtin.len_ #[t] ty #[.map (some r)]).run P w=.ok (.int .i64 es.size) w:=by
  simp [Builtin.len_,run_underlying ht,Go.MapKept.run_getObj_map (hS.at_ hi).1,goInt]
 simp [execOp,resolve,invoke,builtin,ha.ev hx,hr,Result.andThen]
end
end Go.Proofs.YtejnpppejalhfadGreat
namespace Go.Proofs.YtejnpppejalhfadGreat
set_option maxRecDepth 100000
set_option maxHeartbeats 8000000
open Go.RowKit Go.Sort
section
variable {P:Program} {n:Nat} {ds:List Deferred} {E:Fr} {w:World} {Q:Exit->Act->World->Prop} {ops:Array Oper} {rest:List Oper} {d:Nat} {dst:Option Nat} {ty:TypeId} {pos:String} {after:Array Edge} {F:Nat->Prop} {w0:World} {Γ:List Asr} {T:Tab}
theorem a9U {t yt:TypeId} {x y:Operand} {m:Int} (hx:E.ev x=some (.int .u64 m)) (hy:E.ev y=some (.int .u64 1)) (h0:0<=m) (h1:m<=18446744073709551615):∀ a,Has n ds a E->∀ dst,t8 P ⟨dst,.binOp .shr t x y yt,ty,pos,after,none⟩ a (.int .u64 (m / 2)):=fun a ha _ w=>by
 simp only [execOp,ha.ev hx,ha.ev hy];simp [eqGuard,binOp,go_sem]
theorem b0v {t yt:TypeId} {x y:Operand} {m:Int} (hx:E.ev x=some (.int .u64 m)) (hy:E.ev y=some (.int .u64 1)) (h0:0<=m) (h1:m<=18446744073709551615) (hd:Nat.blt d n=true) (k':WL P ops Q rest n ds ((d,.int .u64 (m / 2))::E) w):WL P ops Q (⟨some d,.binOp .shr t x y yt,ty,pos,after,none⟩::rest) n ds E w:=z4 (fun a ha=>a9U hx hy h0 h1 a ha _) hd k'
theorem a7t {m:Int} (h0:0<=m) (h1:m<=18446744073709551615):IntKind.u64.wrap (IntKind.i64.wrap m)=m:=by
 rw [IntKind.wrap_u64,IntKind.wrap_i64];omega
theorem a7X {t yt:TypeId} {x y:Operand} {m:Int} (hx:E.ev x=some (.int .u64 (IntKind.u64.wrap m))) (hy:E.ev y=some (.int .u64 1)) (hd:Nat.blt d n=true) (k':WL P ops Q rest n ds ((d,.int .u64 (IntKind.u64.wrap m / 2))::E) w):WL P ops Q (⟨some d,.binOp .shr t x y yt,ty,pos,after,none⟩::rest) n ds E w :=
 b0v hx hy (by rw [IntKind.wrap_u64];omega) (by rw [IntKind.wrap_u64];omega) hd k'
theorem a2Z {m:Int} {h:Nat} (h0:0<=m) (h1:m<=18446744073709551615) (h2:m / 2=(h:Nat)) (h3:h<=9223372036854775807):IntKind.i64.wrap (IntKind.u64.wrap (IntKind.i64.wrap m) / 2)=(h:Nat):=by
 rw [a7t h0 h1,h2,a1k (by omega) (by omega)]
theorem a8Q (hT:TabOk P T) {t e sz eb:Nat} {ag:Bool} {ez:List Value} {yt:TypeId} {x y:Operand} {p:Option Addr} {m c:Nat} (ht:T.get t=some (.sl e sz eb ag ez)) (hx:E.ev x=some (.slice p m c)) (hy:E.ev y=some (.slice none 0 0)):∀ a,Has n ds a E->∀ dst,t8 P ⟨dst,.binOp .eql t x y yt,ty,pos,after,none⟩ a (.bool p.isNone):=fun a ha _ w=>by
 obtain ⟨ji,zv,hu,_⟩:=hT.sl ht;have e:=Go.Lib.run_eql_slice_nil (P:=P) w t _ p m c 0 0 hu;simp only [execOp,ha.ev hx,ha.ev hy,eqGuard];simp [e,Result.andThen]
end
section
variable {P:Program} {n:Nat} {ds:List Deferred} {E:Fr} {w:World} {Q:Exit->Act->World->Prop} {ops:Array Oper} {S:World->Prop} {fuel:Nat} {li:Array Bool} {d:Nat} {op:Op} {ty:TypeId} {pos:String} {after:Array Edge} {F:Nat->Prop} {w0:World} {Γ:List Asr} {T:Tab}
theorem a63 {X:Type} (vf:X->Fr) (Γf:X->List Asr) (p:X->Prop) {x y:Code} {Q1 Q2:Exit->Act->World->Prop} (hx:WC P x (Exit.then (fun a' w'=>∃ m,Has n ds a' (vf m)/\(p m/\St F w0 w' (Γf m))) Q2) n ds E w) (hz:∀ m w',p m->St F w0 w' (Γf m)->WC P y Q1 n ds (vf m) w'):WC P x (Exit.then (y.wp P Q1) Q2) n ds E w:=fun a ha=>
 Code.wp_mono (fun e a' w' q=>by
  cases e with
  |normal=>obtain ⟨m,h1,h2,h3⟩:=q;exact hz m w' h2 h3 a' h1
  |exit i=>exact q
  |goto l=>exact q
  |ret=>exact q
  |panic c=>exact q
  |outgrown=>exact q) (hx a ha)
theorem a3h {X:Type} {vf:X->Fr} {Γf:X->List Asr} {p:X->Prop} {Q2:Exit->Act->World->Prop} (m:X) (h0:Fr.sub (vf m) E) (hp:p m) (hS:St F w0 w (Γf m)):WQ (Exit.then (fun a' w'=>∃ m,Has n ds a' (vf m)/\(p m/\St F w0 w' (Γf m))) Q2) .normal n ds E w:=fun _ ha=>⟨m,ha.sub h0,hp,hS⟩
theorem St.slMem {e sz:Nat} {v:Value} {rows:List (List Value)} (hS:St F w0 w Γ) (h:Asr.row e sz v rows ∈ Γ):Sl nF w sz v rows:=by
 obtain ⟨j,hj⟩:=xc8.1 h;exact hS.rowSl j hj
end
section
variable {P:Program} {n:Nat} {ds:List Deferred} {E:Fr} {w w':World} {Q:Exit->Act->World->Prop} {ops:Array Oper} {rest:List Oper} {d:Nat} {dst:Option Nat} {ty:TypeId} {pos:String} {after:Array Edge} {F:Nat->Prop} {w0:World} {Γ:List Asr} {T:Tab}
theorem a3R (g o k:Nat):(⟨g,o,none⟩:Addr).add k=⟨g,o + k,none⟩:=by unfold Addr.add;split <;> simp_all
theorem b1c (hT:TabOk P T) {t el sz eb m c:Nat} {p:Option Addr} {ag:Bool} {z:List Value} {x:Operand} (ht:T.get t=some (.sl el sz eb ag z)) (hx:E.ev x=some (.slice p m c)):∀ a,Has n ds a E->∀ dst,t8 P ⟨dst,.call { callee:=.builtin .cap,args:=#[x],argTypes:=#[t] },ty,pos,after,none⟩ a (.int .i64 (c:Nat)):=fun a ha _ w=>by
 obtain ⟨ji,zv,hu,_⟩:=hT.sl ht;have hr:(Builtin.cap_ #[t] ty #[.slice p m c]).run P w=.ok (.int .i64 (c:Nat)) w:=by
  simp [Builtin.cap_,run_underlying hu,goInt]
 simp [execOp,resolve,invoke,builtin,ha.ev hx,hr,Result.andThen]
def a0z (rows news:List (List Value)) (k:Nat):List (List Value):=rows.take k++(news++rows.drop (k + news.length))
theorem a2P {rows news:List (List Value)} {k:Nat} (hk:k<=rows.length):(a0z rows news k).length=max rows.length (k + news.length):=by
 unfold a0z;rw [xd4,xd4,xa1,xj4];omega
theorem a2T {rows:List (List Value)} {sz:Nat} (hs:∀ r ∈ rows,r.length=sz) (k:Nat):rows.flatten.take (k * sz)=(rows.take k).flatten:=by
 have h1:rows.flatten=(rows.take k).flatten++(rows.drop k).flatten:=by rw [<- xe4,xh5]
 by_cases hk:k<=rows.length
 ·have hl:(rows.take k).flatten.length=k * sz:=by
   rw [f5 (fun r hr=>hs r (xe3 hr)),xa1]
   congr 1;omega
  rw [h1,List.take_left' hl]
 ·rw [xa0 (by rw [f5 hs];exact xi6 _ (by omega)),xa0 (l:=rows) (by omega)]
theorem a5z {rows:List (List Value)} {sz:Nat} (hs:∀ r ∈ rows,r.length=sz) (k:Nat):rows.flatten.drop (k * sz)=(rows.drop k).flatten:=by
 have h1:rows.flatten=(rows.take k).flatten++(rows.drop k).flatten:=by rw [<- xe4,xh5]
 by_cases hk:k<=rows.length
 ·have hl:(rows.take k).flatten.length=k * sz:=by
   rw [f5 (fun r hr=>hs r (xe3 hr)),xa1]
   congr 1;omega
  rw [h1,List.drop_left' hl]
 ·rw [xj5 (by rw [f5 hs];exact xi6 _ (by omega)),xj5 (l:=rows) (by omega)];rfl
theorem a4C {e sz g m cap k:Nat} {rows news:List (List Value)} (h:Asr.holds w (.row e sz (.slice (some ⟨g,0,none⟩) m cap) rows)) (hk:k<=rows.length) (hn:k + news.length<=cap) (hs:∀ r ∈ news,r.length=sz) (h1:∀ r ∈ news,r.all (·.oneCell')=true) :
  ∃ w',(storeCells ⟨g,k * sz,none⟩ news.flatten).run P w=.ok () w'/\w.grownBy w' (some g)/\Asr.holds w' (.row e sz (.slice (some ⟨g,0,none⟩) (a0z rows news k).length cap) (a0z rows news k)):=by
 obtain ⟨ho,hlen,hone⟩:=h;rcases ho.2 with ⟨he,_⟩|⟨g',cap',cur,hv,_,hg,hnc,hcm,hcs,htake⟩
 ·cases he
 cases hv
 have hsl:news.flatten.length=news.length * sz:=f5 hs;have hfit:k * sz + news.flatten.length<=cur.size:=by
  rw [hsl,hcs,<- Nat.add_mul];exact xi6 _ hn
 have hst:=run_storeCells_at P g (k * sz) e news.flatten 0 cur w hg (by simpa using hfit) (fun v hv=>by
  obtain ⟨r,hr,hur⟩:=List.mem_flatten.1 hv;exact xb7.1 (h1 r hr) v hur)
 refine ⟨_,hst,⟨rfl,rfl,rfl,by simp [World.setRow,World.heap],fun j hj hne=>?_⟩,⟨⟨f5 (fun r hr=>?_),.inr ⟨g,cap,_,rfl,xe7 _,setRow_heap w g cur _ e (0,0) hg,?_,hcm,?_,?_⟩⟩,fun r hr=>?_,fun r hr=>?_⟩⟩
 ·have:g≠j:=fun e=>hne (by rw [e]);simp [World.setRow,Array.getElem?_modify,this]
 ·unfold a0z at hr;rcases xd1.1 hr with hr|hr
  ·exact hlen r (xe3 hr)
  ·rcases xd1.1 hr with hr|hr
   ·exact hs r hr
   ·exact hlen r (xj6 hr)
 ·rw [a2P hk];omega
 ·rw [hsl] at hfit |-;simp only [List.size_toArray,xd4,xa1,xj4,xf2,xe6,hsl];omega
 ·have hcl:cur.toList.length=cap * sz:=by simpa using hcs
  have hct:cur.toList.take (k * sz)=(rows.take k).flatten:=by
   rw [<- a2T hlen,<- htake,List.take_take]
   congr 1
   exact (Nat.min_eq_left (xi6 _ hk)).symm
  have hrl:(rows.take k).flatten.length=k * sz:=by
   rw [f5 (fun r hr=>hlen r (xe3 hr)),xa1]
   congr 1;omega
  simp only [xe6,xe8];rw [hct,a2P hk,List.append_assoc];unfold a0z;rw [xe4,xe4];rw [List.take_append,xa0 (l:=(rows.take k).flatten) (by rw [hrl];exact xi6 _ (by omega)),hrl]
  congr 1
  rw [List.take_append,xa0 (l:=news.flatten) (by rw [hsl,<- xj7];exact xi6 _ (by omega)),hsl]
  congr 1
  by_cases hc:k + news.length<=rows.length
  ·rw [show max rows.length (k + news.length)=rows.length by omega,<- xj7,<- xj7,<- a5z hlen,<- htake];rw [show k * sz + news.length * sz=(k + news.length) * sz by rw [Nat.add_mul],List.drop_take,<- xj7]
   congr 2
   omega
  ·rw [show max rows.length (k + news.length)=k + news.length by omega,xj5 (l:=rows) (by omega)];rw [<- xj7,<- xj7,show k + news.length - k - news.length=0 by omega];simp
 ·unfold a0z at hr;rcases xd1.1 hr with hr|hr
  ·exact hlen r (xe3 hr)
  ·rcases xd1.1 hr with hr|hr
   ·exact hs r hr
   ·exact hlen r (xj6 hr)
 ·unfold a0z at hr;rcases xd1.1 hr with hr|hr
  ·exact hone r (xe3 hr)
  ·rcases xd1.1 hr with hr|hr
   ·exact h1 r hr
   ·exact hone r (xj6 hr)
theorem RoAt.drop {G:Nat->Prop} {b off sz:Nat} {rows:List (List Value)} (h:RoAt G w b off sz rows) (k:Nat):RoAt G w b (off + k * sz) sz (rows.drop k) :=
 ⟨h.lt,h.nf,fun r hr=>h.len r (xj6 hr),fun r hr=>h.one r (xj6 hr),fun i r hr j u hj=>by
  rw [xe1] at hr;have:=h.cells (k + i) r hr j u hj
  rwa [show off + k * sz + i * sz + j=off + (k + i) * sz + j by rw [Nat.add_mul];omega]⟩
theorem St.shrink (hS:St F w0 w Γ) (i:Nat) {e sz g m cap:Nat} {rows:List (List Value)} (k:Nat) (hi:Γ[i]?=some (.row e sz (.slice (some ⟨g,0,none⟩) m cap) rows)) (hk:k<=rows.length):St F w0 w (Γ.set i (.row e sz (.slice (some ⟨g,0,none⟩) k cap) (rows.take k))):=by
 refine hS.upd hi ⟨rfl,rfl,rfl,xc4 _,fun _ _ _=>rfl⟩ ?_ (fun q hq=>xc6 hq);obtain ⟨ho,hlen,hone⟩:=hS.at_ hi;rcases ho.2 with ⟨he,_⟩|⟨g',cap',cur,hv,_,hg,hnc,hcm,hcs,htake⟩
 ·cases he
 cases hv
 refine ⟨⟨f5 (fun r hr=>hlen r (xe3 hr)),.inr ⟨g,cap,cur,by rw [xa1,Nat.min_eq_left hk],xe7 _,hg,by rw [xa1];omega,hcm,hcs,?_⟩⟩,fun r hr=>hlen r (xe3 hr),fun r hr=>hone r (xe3 hr)⟩;rw [xa1,Nat.min_eq_left hk,<- a2T hlen,<- htake,List.take_take,Nat.min_eq_left (xi6 _ hk)]
end
section
variable {P:Program} {n:Nat} {ds:List Deferred} {E:Fr} {w w':World} {Q:Exit->Act->World->Prop} {ops:Array Oper} {rest:List Oper} {d:Nat} {dst:Option Nat} {ty:TypeId} {pos:String} {after:Array Edge} {F:Nat->Prop} {w0:World} {Γ:List Asr} {T:Tab}
def a6S (p:Option Addr) (m c j sz:Nat):Value:=.slice (if c=j then p else p.map fun q=>q.add (j * sz)) (m - j) (c - j)
theorem a4L (hT:TabOk P T) {t el sz eb m c j:Nat} {p:Option Addr} {ag:Bool} {z:List Value} {x y:Operand} {i:Int} (ht:T.get t=some (.sl el sz eb ag z)) (hx:E.ev x=some (.slice p m c)) (hy:E.ev y=some (.int .i64 i)) (hj:(j:Int)=i) (hm:j<=m):∀ a,Has n ds a E->∀ dst,t8 P ⟨dst,.slice t x (some y) none none,ty,pos,after,none⟩ a (a6S p m c j sz):=fun a ha _ w=>by
 obtain ⟨ji,zv,hu,hinfo,_,hs,_⟩:=hT.sl ht;subst hj;have hb:(Instr.sliceBounds true m c (some (.int .i64 (j:Int))) none none).run P w=.ok (j,m,c) w:=by
  simp [Instr.sliceBounds,run_sliceBound,hm]
 simp only [execOp,ha.ev hx,ha.ev hy,xf8,xj2];simp [Instr.sliceAt,Instr.slice,run_underlying hu,hb,sizeOf,typeInfo,hinfo,hs,a6S]
end
section
variable {P:Program} {n:Nat} {ds:List Deferred} {E:Fr} {w w':World} {Q:Exit->Act->World->Prop} {ops:Array Oper} {rest:List Oper} {d:Nat} {dst:Option Nat} {ty:TypeId} {pos:String} {after:Array Edge} {F:Nat->Prop} {w0:World} {Γ:List Asr} {T:Tab}
theorem a8W {t yt:TypeId} {x y:Operand} {p:Option Addr} (ht:P.underlying t=some (.pointer (P.pointee t))) (hx:E.ev x=some (.pointer p)) (hy:E.ev y=some (.pointer none)):∀ a,Has n ds a E->∀ dst,t8 P ⟨dst,.binOp .eql t x y yt,ty,pos,after,none⟩ a (.bool p.isNone):=fun a ha _ w=>by
 have e:=run_eql_pointer_nil (P:=P) (w:=w) t p ht;simp only [execOp,ha.ev hx,ha.ev hy,eqGuard];simp [e,Result.andThen]
end
def a7m (P:Program) (t:TypeId) (name:String) (f:FuncId):Bool:=match P.info? t,P.underlying t with
 |some i,some (.pointer _)=>match i.methods.find? (·.name == name) with
  |some m=>m.path.toList.isEmpty && (match m.func with
   |some (g,true)=>Nat.beq g f
   |_=>false)
  |none=>false
 |_,_=>false
section
variable {P:Program} {w:World}
theorem a4p {t:TypeId} {name:String} {f:FuncId} (h:a7m P t name f=true) (k:Nat) (v:Value):(method (k + 1) t v name).run P w=.ok (f,v) w:=by
 unfold a7m at h
 split at h
 ·rename_i i e hi hu
  split at h
  ·rename_i m hm;rw [xb6] at h;obtain ⟨h1,h2⟩:=h
   split at h2
   ·rename_i g hf;obtain rfl:=xa8 h2;have hp:m.path.toList=[]:=by simpa using h1
    have hi2:(typeInfo t).run P w=.ok i w:=by
     unfold typeInfo;simp [Sem.run_bind,run_program,Result.andThen_ok,hi]
    have hu2:(underlying t).run P w=.ok (.pointer e) w:=by
     unfold underlying;simp [Sem.run_bind,run_program,Result.andThen_ok,hu]
    unfold method;simp only [Sem.run_bind,hi2,Result.andThen_ok,hm,hp,hf,follow,Sem.run_pure,receiverAt,hu2,Place.get]
   ·cases h2
  ·cases h
 ·cases h
theorem a6V {E:Fr} {n:Nat} {ds:List Deferred} {dst:Option Nat} {ty:TypeId} {pos:String} {after:Array Edge} {f:FuncId} {x:Operand} {name:String} {args:Array Operand} {ats:Array TypeId} {vs:List Value} {t:TypeId} {u:Value} {Φ:Value->World->Prop} (hx:E.ev x=some (.iface t u)) (hv:E.evs args.toList=some vs) (hm:a7m P t name f=true) (h:Fn P f (u::vs) w Φ) :
  Gets P ⟨dst,.call { callee:=.invoke x name,args:=args,argTypes:=ats },ty,pos,after,none⟩ n ds E w Φ:=by
 intro a ha K Q k;obtain ⟨⟨fn,hok⟩,hc⟩:=h;have e1:args.map a.eval=vs.toArray:=by rw [<- ha.evs hv,<- xc1,xc2]
 have hd:0 < Made.depth:=by decide
 obtain ⟨kk,hk⟩:∃ kk,P.types.size + Made.depth=kk + 1:=⟨P.types.size + Made.depth - 1,by omega⟩;have hrun:(execOp a.eval ⟨dst,.call { callee:=.invoke x name,args:=args,argTypes:=ats },ty,pos,after,none⟩).run P w=.ok (.enter f (u::vs).toArray) w:=by
  simp only [execOp,resolve,ha.ev hx,Sem.run_bind,Sem.run_pure,Result.andThen_ok,invoke,e1];have e2:(#[Value.iface t u]++vs.toArray)[0]?=some (.iface t u):=by simp
  have e3:(#[Value.iface t u]++vs.toArray).extract 1 (#[Value.iface t u]++vs.toArray).size=vs.toArray:=by simp
  rw [e2,e3];simp only [callMethod,Sem.run_bind,run_program,Result.andThen_ok];rw [hk,a4p hm];simp only [Result.andThen_ok];rw [a0f hok];simp
 unfold Oper.wp;rw [hrun];exact hc.mono fun e w' ⟨v,he,hΦ⟩=>by subst he;exact k v w' hΦ
end
end Go.Proofs.YtejnpppejalhfadGreat
