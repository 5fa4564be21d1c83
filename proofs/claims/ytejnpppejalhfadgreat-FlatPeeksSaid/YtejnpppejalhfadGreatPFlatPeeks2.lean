/- Texts that the proof stands on, one behind the other: Sc8, Sc9, Sc10, Sc11, PlImg, Plain, PlLnk, PlArea, Hold, PlArea2, Ar1, Ar2, Ar3, Ar4, Ar7. -/
import Derived.Laws.StructEq
import Derived.Lib.SliceRun
import Derived.Laws.Pointers
import Derived.WalkSpells
import Derived.Lib.AppendStr
import Derived.Laws.RangeString
import Derived.LoopN
import Derived.Handy
import Derived.Test.YtejnpppejalhfadGreatProg
import Derived.Lib.QuietBelow
import Derived.BigQuiet
import Derived.Deep.QuietTactic
import Derived.Test.YtejnpppejalhfadGreatPFlatPeeks1
set_option linter.unusedVariables false
set_option linter.unusedSimpArgs false
namespace Go.Proofs.YtejnpppejalhfadGreat
set_option maxRecDepth 100000
set_option maxHeartbeats 8000000
open Go.RowKit Go.Sort
theorem a0T {w:World} {g:Nat} {cur:Array Value} {t:TypeId} (h:w.heap[g]?=some (.cells cur t (0,0))) (k:Nat) (vs:List Value):(w.setCells g k vs).heap[g]?=some (.cells (l9 cur.toList k vs).toArray t (0,0)):=by
 induction vs generalizing w cur k with
 |nil=>exact (by simpa [l9] using h:w.heap[g]?=some (.cells (l9 cur.toList k []).toArray t (0,0)))
 |cons v r ih=>
  have e:=setCell_eq_setRow w g k cur t (0,0) v h;have h2:(w.setCell ⟨g,k,none⟩ v).heap[g]?=some (.cells (cur.setIfInBounds k v) t (0,0)):=by rw [e];exact setRow_heap w g _ _ t _ h
  have:=ih h2 (k + 1);exact (by simpa [l9] using this:((w.setCell ⟨g,k,none⟩ v).setCells g (k + 1) r).heap[g]?=some (.cells (l9 cur.toList k (v::r)).toArray t (0,0)))
section
variable {P:Program} {n:Nat} {ds:List Deferred} {E:Fr} {w:World} {dst:Option Nat} {ty:TypeId} {pos:String} {after:Array Edge} {F:Nat->Prop} {w0:World} {Γ:List Asr} {T:Tab}
theorem a58 (hT:TabOk P T) {t:TypeId} {ti:TI} (ht:T.get t=some ti):(P.info? t).map (·.size)=some ti.size:=by
 cases ti with
 |sc d s z=>obtain ⟨i,_,_,h,h2,_⟩:=hT.sc ht;have:=(hT.at_ ht).2;simp only [TI.okB,xb6] at this;rw [h];simp [h2,TI.size,xa8 this.1]
 |st s fs z=>obtain ⟨_,i,_,_,h,h2,_⟩:=hT.st ht;rw [h];simp [h2,TI.size]
 |ar s m e g z=>obtain ⟨_,i,_,_,h,_,h2,_⟩:=hT.ar ht;rw [h];simp [h2,TI.size]
 |sl e z b g ez=>obtain ⟨_,_,_,_,⟨i,h,h2,_⟩,_⟩:=hT.sl ht;rw [h];simp [h2,TI.size]
theorem a7C (hS:St F w0 w Γ) (hT:TabOk P T) {t:TypeId} {ti:TI} {x y:Operand} {g kk j o i e sz m cap:Nat} {v:Value} {rows:List (List Value)} {r c:List Value} (ht:T.get t=some ti) (hx:E.ev x=some (.pointer (some ⟨g,o,none⟩))) (hy:E.ev y=some v) (hi:Γ[i]?=some (.row e sz (.slice (some ⟨g,0,none⟩) m cap) rows))
  (ho:o=0 + kk * sz + j) (hr:rows[kk]?=some r) (hc:v.cells.toList=c) (hsz:c.length=ti.size) (hk:j + ti.size<=sz) (h1:c.all (·.oneCell')=true) :
  Gets P ⟨dst,.store t x y,ty,pos,after,none⟩ n ds E w (fun _ w'=>St F w0 w' (Γ.set i (.row e sz (.slice (some ⟨g,0,none⟩) m cap) (rows.set kk (l9 r j c))))):=by
 intro a ha K Q k;obtain ⟨hown,hlen,hone⟩:=hS.at_ hi;rcases hown.2 with ⟨hv,_⟩|⟨g',cap',cur,hv,_,hg,hmc,hcm,hcs,htake⟩
 ·cases hv
 cases hv
 have hrl:r.length=sz:=hlen r (xc0 hr);have hkl:=a7 hr;have hHL:HoldL w g cur.toList:=⟨e,hg⟩;have hspan:kk * sz + sz<=rows.length * sz:=by rw [<- xd3];exact xg1 _ hkl
 have hcl:rows.length * sz<=cur.size:=by rw [hcs];exact xg1 _ hmc
 have d9:v.cells.toList.length=c.length:=by rw [hc]
 have hthere:w.there g o v.cells.size:=fun q hq=>by
  have hq':q < c.length:=by rw [<- d9];simpa using hq
  have:o + q < cur.toList.length:=by simp;omega
  exact ⟨by rw [hHL.cell];simp only [xg2];exact ⟨_,xd0 this⟩,hHL.frozen _⟩
 have hx':(execOp a.eval ⟨dst,.store t x y,ty,pos,after,none⟩).run P w=.ok .skip (w.setCells g o c):=by
  simp only [execOp,ha.ev hx,ha.ev hy,Instr.storeAt,Instr.sureAddr,Sem.run_bind,Sem.run_pure,Result.andThen_ok];rw [a06 (by rw [a58 hT ht,<- hsz,<- d9];simp) hthere (by rw [hc];exact fun u hu=>xb7.1 h1 u hu),hc];rfl
 unfold Oper.wp;rw [hx'];have hA:(Asr.row e sz (.slice (some ⟨g,0,none⟩) rows.length cap) (rows.set kk (l9 r j c))).holds (w.setCells g o c):=by
  have hl2:∀ r' ∈ rows.set kk (l9 r j c),r'.length=sz:=fun r' hr'=>by
   rcases xg3 hr' with h|h
   ·exact hlen r' h
   ·rw [h,a2p,hrl]
  refine ⟨⟨by rw [f8 hl2],.inr ⟨g,cap,_,by simp,xe7 _,a0T hg o c,by simpa using hmc,hcm,by simp [a2p,hcs],?_⟩⟩,hl2,fun r' hr'=>?_⟩
  ·have hsplit:cur.toList=rows.flatten++cur.toList.drop (rows.length * sz):=by rw [<- htake];simp
   have:=a7D hlen hr (c:=c) (j:=j) (by omega) (cur.toList.drop (rows.length * sz));rw [<- hsplit] at this;rw [xe8,ho,xd8,this];rw [show (rows.set kk (l9 r j c)).length * sz=(rows.set kk (l9 r j c)).flatten.length from (f8 hl2).symm];exact List.take_left
  ·rcases xg3 hr' with h|h
   ·exact hone r' h
   ·rw [h];have hr1:=hone r (xc0 hr);have:∀ (c:List Value) (L:List Value) (q:Nat),L.all (·.oneCell')=true->c.all (·.oneCell')=true->(l9 L q c).all (·.oneCell')=true:=by
     intro c
     induction c with
     |nil=>intro L q h _;exact h
     |cons x c ih=>
      intro L q h h2;simp only [xg4,xb6] at h2;refine ih _ _ ?_ h2.2;rw [xb7];intro y hy;rcases xg3 hy with h3|h3
      ·exact xb7.1 h y h3
      ·rw [h3];exact h2.1
    exact this c r j hr1 h1
 exact k undef _ (hS.upd hi (s9 w g o c) hA (fun q hq=>xc6 hq))
structure j8 (P:Program) (f:FuncId) (fn:Func):Prop where
 at_:P.funcs[f]?=some fn
 name : (fn.name == "runtime.NumGoroutine") = false
 body:fn.body.isNone=false
structure Fn (P:Program) (f:FuncId) (args:List Value) (w:World) (Φ:Value->World->Prop):Prop where
 ok:∃ fn,j8 P f fn
 calls:Calls P f args.toArray w (fun e w'=>∃ v,e=.returned v/\Φ v w')
theorem Fn.mono {f:FuncId} {args:List Value} {Φ Ψ:Value->World->Prop} (h:Fn P f args w Φ) (hi:∀ v w',Φ v w'->Ψ v w'):Fn P f args w Ψ:=⟨h.ok,h.calls.mono fun _ _ ⟨v,he,hv⟩=>⟨v,he,hi v _ hv⟩⟩
theorem a0d {f:FuncId} {fn:Func} (h:j8 P f fn) (args:Array Value) (w:World):(callFunc f args).run P w=.ok (.enter f args) w:=by
 have hb:=h.body;unfold callFunc;simp only [Sem.run_bind,run_program,Result.andThen_ok,h.at_];rw [xd7 (by rw [h.name];simp),xd7 (by rw [hb];simp)];rfl
theorem a3n {f:FuncId} {x:Operand} {args:Array Operand} {ats:Array TypeId} {vs:List Value} {first caps:List Value} {Φ:Value->World->Prop} (hx:E.ev x=some (.func (.func f) first.toArray caps.toArray)) (hv:E.evs args.toList=some vs) (h:Fn P f (first++vs++caps) w Φ) :
  Gets P ⟨dst,.call { callee:=.value x,args:=args,argTypes:=ats },ty,pos,after,none⟩ n ds E w Φ:=by
 intro a ha K Q k;obtain ⟨⟨fn,hok⟩,hc⟩:=h;have e1:args.map a.eval=vs.toArray:=by rw [<- ha.evs hv,<- xc1,xc2]
 have hrun:(execOp a.eval ⟨dst,.call { callee:=.value x,args:=args,argTypes:=ats },ty,pos,after,none⟩).run P w=.ok (.enter f (first++vs++caps).toArray) w:=by
  simp only [execOp,resolve,ha.ev hx,Deferred.ofValue,Sem.run_bind,Sem.run_pure,Result.andThen_ok,invoke,e1];rw [a0d hok];simp
 unfold Oper.wp;rw [hrun];exact hc.mono fun e w' ⟨v,he,hΦ⟩=>by subst he;exact k v w' hΦ
def RBf (v:Value) (w:World):Value->World->Prop:=fun v' w'=>v'=v/\St nF w w' []
theorem Fn.of_rb {f:FuncId} {fn:Func} {args:List Value} {v:Value} (hok:j8 P f fn) (h:Calls P f args.toArray w (RB v w)):Fn P f args w (RBf v w):=⟨⟨fn,hok⟩,h.mono fun _ _ ⟨he,hb⟩=>⟨v,he,rfl,St.of_below hb⟩⟩
theorem Fn.of_same {f:FuncId} {fn:Func} {args:List Value} {v:Value} (hok:j8 P f fn) (h:Calls P f args.toArray w (fun e w'=>e=.returned v/\w=w')):Fn P f args w (fun v' w'=>v'=v/\w'=w):=⟨⟨fn,hok⟩,h.mono fun _ _ ⟨he,hb⟩=>⟨v,he,rfl,hb.symm⟩⟩
theorem Fn.rb {f:FuncId} {args:List Value} {v:Value} (h:Fn P f args w (RBf v w)):Calls P f args.toArray w (RB v w):=h.calls.mono fun _ _ ⟨_,he,hv,hs⟩=>⟨by rw [he,hv],hs.below⟩
def a1H:Nat->List Value->Fr
 |_,[]=>[]
 |k,v::r=>(k,v)::a1H (k + 1) r
theorem a5Q:∀ {args:List Value} {k t:Nat} {v:Value},Fr.get (a1H k args) t=some v->k<=t/\args[t - k]?=some v:=by
 intro args
 induction args with
 |nil=>intro k t v h;cases h
 |cons x r ih=>
  intro k t v h;simp only [a1H,Fr.get] at h;by_cases e:k=t
  ·subst e;simp at h;subst h;simp
  ·rw [a2x e] at h;obtain ⟨h1,h2⟩:=ih (by simpa using h);exact ⟨by omega,by rw [show t - k=(t - (k + 1)) + 1 from by omega];simpa using h2⟩
theorem a6L {f:FuncId} {fn:Func} {c:Code} {args:List Value} {Φ:Value->World->Prop} {m:Nat} (hok:j8 P f fn) (hb:fn.body=some c) (hm:fn.ntmps=m) (hl:Nat.ble args.length m=true)
  (h:WC P c (bodyPost P fn (fun e w'=>∃ v,e=.returned v/\Φ v w')) m [] (a1H 0 args) w):Fn P f args w Φ:=by
 refine ⟨⟨fn,hok⟩,calls_of_wp hok.at_ hb (h _ ⟨?_,rfl,fun t v ht=>?_⟩)⟩
 ·have:=xe5 hl;simp;omega
 ·obtain ⟨_,h2⟩:=a5Q ht;have hlt:=a7 h2;rw [Nat.sub_zero] at h2 hlt;rw [xb1,Array.getElem?_append_left (by simpa using hlt)];simp [h2]
inductive ResL (P:Program) (E:Fr) (w:World):List ResultVar->List Value->Prop where
 |nil:ResL P E w [] []
 |tmp {t:Nat} {v:Value} {r:List ResultVar} {vs:List Value} (h:E.get t=some v) (k:ResL P E w r vs):ResL P E w (.tmp t::r) (v::vs)
 |cell {t:Nat} {ty:TypeId} {a:Addr} {v:Value} {r:List ResultVar} {vs:List Value} (h:E.get t=some (.pointer (some a))) (hl:Ld P ty a v w) (k:ResL P E w r vs):ResL P E w (.cell t ty::r) (v::vs)
theorem ResL.run {rs:List ResultVar} {vs:List Value} (h:ResL P E w rs vs) {a:Act} (ha:Has n ds a E):(rs.mapM fun (x:ResultVar)=>(match x with
  |.tmp t=>(pure (a.tmps.getD t undef):Sem Value)
  |.cell p t=>do loadVar t (<- asAddr (a.tmps.getD p undef)))).run P w=.ok vs w:=by
 induction h with
 |nil=>rfl
 |tmp h _ ih=>
  rw [List.mapM_cons];simp only [Sem.run_bind,Sem.run_pure,Result.andThen_ok,ih,ha.at_ _ _ h]
 |cell h hl _ ih=>
  unfold Ld at hl;rw [List.mapM_cons];simp only [Sem.run_bind,Sem.run_pure,ha.at_ _ _ h];rename_i p _ _ _ _;rw [show (asAddr (.pointer (some p)):Sem Addr)=pure p from rfl,Sem.run_pure,Result.andThen_ok,hl,Result.andThen_ok,ih];rfl
def a1b:List Value->Value
 |[v]=>v
 |vs=>.tuple vs.toArray
theorem a9K {fn:Func} {Φ:Value->World->Prop} {rs:List ResultVar} {vs:List Value} {v:Value} (hrs:fn.results.toList=rs) (hr:ResL P E w rs vs) (hv:a1b vs=v) (hΦ:Φ v w) {a:Act} (ha:Has n [] a E):a.defers=[]/\∃ v,(results fn a.tmps).run P w=.ok v w/\∃ u,Ending.returned v=.returned u/\Φ u w:=by
 refine ⟨ha.defers,v,?_,v,rfl,hΦ⟩;have h:=hr.run ha;rw [<- hrs] at h;unfold results;rw [Array.mapM_eq_mapM_toList,Sem.run_bind];have h2:(List.toArray <$> (fn.results.toList.mapM fun (x:ResultVar)=>(match x with
  |.tmp t=>(pure (a.tmps.getD t undef):Sem Value)
  |.cell p t=>do loadVar t (<- asAddr (a.tmps.getD p undef))))).run P w=.ok vs.toArray w:=by
  rw [<- bind_pure_comp,Sem.run_bind,h];rfl
 refine (congrArg (fun r=>Result.andThen r _) h2).trans ?_;subst hv
 match vs with
 |[]=>rfl
 |[x]=>rfl
 |x::y::r=>simp [a1b]
theorem a9w {fn:Func} {Φ:Value->World->Prop} {rs:List ResultVar} {vs:List Value} {v:Value} (hrs:fn.results.toList=rs) (hr:ResL P E w rs vs) (hv:a1b vs=v) (hΦ:Φ v w):WQ (bodyPost P fn (fun e w'=>∃ v,e=.returned v/\Φ v w')) .ret n [] E w:=fun _ ha=>a9K hrs hr hv hΦ ha
end
section
variable {P:Program} {n:Nat} {ds:List Deferred} {E:Fr} {w:World} {Q:Exit->Act->World->Prop} {ops:Array Oper} {rest:List Oper} {C:World->Prop} {d:Nat} {op:Op} {ty:TypeId} {pos:String} {after:Array Edge}
def WD (P:Program) (ops:Array Oper) (C:World->Prop) (K:Act->Prop) (l:List Oper) (n:Nat) (ds:List Deferred) (E:Fr):Prop:=∀ a,Has n ds a E->wpQuiet P ops C K l a
theorem b9 (F:Nat->Prop) (w0:World) (Γ:List Asr) {id:Nat} {l:List Oper} (hm:P.follows .mixedOrders=true) (hB:Region.lexB .any l.toArray=true) (hS:St F w0 w Γ)
  (h:WD P l.toArray (fun w'=>St F w0 w' Γ) (fun a'=>∀ w',St F w0 w' Γ->wpList P l.toArray Q [] a' w') l n ds E):WC P (.region id l.toArray true) Q n ds E w:=fun a ha=>
 wp_region_quiet (C:=fun w'=>St F w0 w' Γ) hm hB (hS.grow ⟨rfl,rfl,rfl,xc4 _,fun _ _ _=>rfl⟩) (show wpQuiet P l.toArray _ (fun a'=>∀ w',St F w0 w' Γ->wpList P l.toArray Q [] a' w') l a from h a ha)
theorem o3 {S:World->Prop} {l:List Oper} (h:∀ w',S w'->WL P ops Q l n ds E w'):WD P ops C (fun a'=>∀ w',S w'->wpList P ops Q l a' w') [] n ds E:=fun a ha w' hw=>h w' hw a ha
theorem a2k {K:Act->Prop} {o:Oper} {a:Act} {v:Value} (hg:o.guard=none) (h:∀ w,C w->o.quietAt P a C w v) (k:wpQuiet P ops C K rest (a.put o.dst v)):wpQuiet P ops C K (o::rest) a:=by
 unfold wpQuiet;rw [xd6 (by simp [Region.wanted,hg])];exact ⟨v,h,k⟩
theorem a2f {K:Act->Prop} {v:Value} (h:∀ a,Has n ds a E->t8 P ⟨some d,op,ty,pos,after,none⟩ a v) (hd:Nat.blt d n=true) (k:WD P ops C K rest n ds ((d,v)::E)):WD P ops C K (⟨some d,op,ty,pos,after,none⟩::rest) n ds E:=fun a ha=>
 a2k rfl (fun w _=>by unfold Oper.quietAt;rw [h a ha w];exact ⟨rfl,rfl⟩) (k _ (ha.put d v hd))
theorem k7 {K:Act->Prop} {T:Tab} (hT:TabOk P T) {v:Value} (h:j9 T E op=some v) (hd:Nat.blt d n=true) (k:WD P ops C K rest n ds ((d,v)::E)):WD P ops C K (⟨some d,op,ty,pos,after,none⟩::rest) n ds E :=
 a2f (fun _ ha=>t7 hT ha h) hd k
theorem l6 {K:Act->Prop} {t:TypeId} {x:Operand} {p:Addr} {v:Value} (hx:E.ev x=some (.pointer (some p))) (h:∀ w,C w->Ld P t p v w) (hd:Nat.blt d n=true) (k:WD P ops C K rest n ds ((d,v)::E)):WD P ops C K (⟨some d,.load t x,ty,pos,after,none⟩::rest) n ds E:=fun a ha=>
 a2k (v:=v) rfl (fun w hw=>by
  have hl:=h w hw;unfold Ld at hl;simp only [Oper.quietAt,execOp,ha.ev hx,Instr.loadAt,Instr.sureAddr,Sem.run_bind,Sem.run_pure,Result.andThen_ok,hl];exact ⟨rfl,rfl⟩) (k _ (ha.put d v hd))
theorem a5 {t:TypeId} {x:Operand} {p:Addr} {v:Value} (hx:E.ev x=some (.pointer (some p))) (h:Ld P t p v w) (hd:Nat.blt d n=true) (k:WL P ops Q rest n ds ((d,v)::E) w):WL P ops Q (⟨some d,.load t x,ty,pos,after,none⟩::rest) n ds E w :=
 a1W hd (a7I hx h) (by rintro _ _ ⟨rfl,rfl⟩;exact k)
theorem a93 {F:Nat->Prop} {w0:World} {Γ:List Asr} {K:Act->Prop} {f:FuncId} {x:Operand} {args:Array Operand} {ats:Array TypeId} {vs:List Value} {first caps:List Value} {v:Value} (hx:E.ev x=some (.func (.func f) first.toArray caps.toArray)) (hv:E.evs args.toList=some vs) (h:∀ w,St F w0 w Γ->Fn P f (first++vs++caps) w (RBf v w)) (hd:Nat.blt d n=true)
  (k:WD P ops (fun w'=>St F w0 w' Γ) K rest n ds ((d,v)::E)):WD P ops (fun w'=>St F w0 w' Γ) K (⟨some d,.call { callee:=.value x,args:=args,argTypes:=ats },ty,pos,after,none⟩::rest) n ds E:=fun a ha=>
 a2k (v:=v) rfl (fun w hw=>by
  obtain ⟨⟨fn,hok⟩,hc⟩:=h w hw;have e1:args.map a.eval=vs.toArray:=by rw [<- ha.evs hv,<- xc1,xc2]
  unfold Oper.quietAt;simp only [execOp,resolve,ha.ev hx,Deferred.ofValue,Sem.run_bind,Sem.run_pure,Result.andThen_ok,invoke,e1];rw [a0d hok];refine ⟨rfl,?_⟩;simp only [List.append_toArray];exact hc.mono fun e w' ⟨u,he,hu,hs⟩=>⟨by rw [he,hu],hw.grow (a0D hs.below)⟩) (k _ (ha.put d v hd))
theorem q9 {K:Act->Prop} {j:Nat} {want b:Bool} {oj:Oper} {dj:Nat} {dst:Option Nat} (hj:ops[j]?=some oj) (hdj:oj.dst=some dj) (hlt:Nat.blt dj n=true) (hb:E.get dj=some (.bool b)) (he:b=want) (k:WD P ops C K (⟨dst,op,ty,pos,after,none⟩::rest) n ds E) :
  WD P ops C K (⟨dst,op,ty,pos,after,some (j,want)⟩::rest) n ds E:=fun a ha=>by
 have hw:=a0I (o:=⟨dst,op,ty,pos,after,some (j,want)⟩) rfl hj hdj hb ha hlt;have h:=k a ha;unfold wpQuiet at h |-;rw [xd6 (show Region.wanted _ _=true from rfl)] at h;rw [xd6 (by rw [hw,he];cases want <;> rfl)];exact h
theorem a01 {K:Act->Prop} {j:Nat} {want b:Bool} {oj:Oper} {dj:Nat} (hj:ops[j]?=some oj) (hdj:oj.dst=some dj) (hlt:Nat.blt dj n=true) (hb:E.get dj=some (.bool b)) (he:b=!want) (hd:Nat.blt d n=true) (k:WD P ops C K rest n ds ((d,undef)::E)) :
  WD P ops C K (⟨some d,op,ty,pos,after,some (j,want)⟩::rest) n ds E:=fun a ha=>by
 have hw:=a0I (o:=⟨some d,op,ty,pos,after,some (j,want)⟩) rfl hj hdj hb ha hlt;unfold wpQuiet;rw [xd7 (by rw [hw,he];cases want <;> simp)];exact k _ (ha.put d undef hd)
theorem n5 {K:Act->Prop} {c x y:Operand} {b:Bool} {v:Value} (hc:E.ev c=some (.bool b)) (hb:b=true) (hv:E.ev x=some v) (hd:Nat.blt d n=true) (k:WD P ops C K rest n ds ((d,v)::E)):WD P ops C K (⟨some d,.pick c x y,ty,pos,after,none⟩::rest) n ds E :=
 a2f (fun a ha w=>by simp [execOp,ha.ev hc,asBool,hb,ha.ev hv]) hd k
theorem k6 {K:Act->Prop} {c x y:Operand} {b:Bool} {v:Value} (hc:E.ev c=some (.bool b)) (hb:b=false) (hv:E.ev y=some v) (hd:Nat.blt d n=true) (k:WD P ops C K rest n ds ((d,v)::E)):WD P ops C K (⟨some d,.pick c x y,ty,pos,after,none⟩::rest) n ds E :=
 a2f (fun a ha w=>by simp [execOp,ha.ev hc,asBool,hb,ha.ev hv]) hd k
end
end Go.Proofs.YtejnpppejalhfadGreat
namespace Go.Proofs.YtejnpppejalhfadGreat
set_option maxRecDepth 100000
set_option maxHeartbeats 8000000
open Go.RowKit Go.Sort
def celL:Value->Option (List Value)
 |.agg ⟨l⟩=>some l
 |.tuple _=>none
 |v=>some [v]
theorem a0h {v:Value} {L:List Value} (h:celL v=some L):v.cells.toList=L:=by
 unfold celL at h
 split at h <;> cases h
 ·rfl
 ·rename_i n _;cases v <;> first|rfl|exact (n _ rfl).elim
section
variable {P:Program} {n:Nat} {ds:List Deferred} {E:Fr} {w:World} {Q:Exit->Act->World->Prop} {ops:Array Oper} {rest:List Oper} {d:Nat} {ty:TypeId} {pos:String} {after:Array Edge} {T:Tab}
theorem a0n {t yt:TypeId} {x y:Operand} {m k:Int} (hx:E.ev x=some (.int .i64 m)) (hy:E.ev y=some (.int .i64 k)) (h1:-9223372036854775808<=m + k) (h2:m + k<=9223372036854775807) (hd:Nat.blt d n=true) (k':WL P ops Q rest n ds ((d,.int .i64 (m + k))::E) w):WL P ops Q (⟨some d,.binOp .add t x y yt,ty,pos,after,none⟩::rest) n ds E w:=z5 (fun a ha=>b1s hx hy h1 h2 a ha _) hd k'
theorem a9C {t yt:TypeId} {x y:Operand} {m k:Int} (hx:E.ev x=some (.int .i64 m)) (hy:E.ev y=some (.int .i64 k)) (h1:-9223372036854775808<=m - k) (h2:m - k<=9223372036854775807) (hd:Nat.blt d n=true) (k':WL P ops Q rest n ds ((d,.int .i64 (m - k))::E) w):WL P ops Q (⟨some d,.binOp .sub t x y yt,ty,pos,after,none⟩::rest) n ds E w:=z5 (fun a ha=>a9t hx hy h1 h2 a ha _) hd k'
theorem a31 {C:World->Prop} {K:Act->Prop} {t yt:TypeId} {x y:Operand} {m k:Int} (hx:E.ev x=some (.int .i64 m)) (hy:E.ev y=some (.int .i64 k)) (h1:-9223372036854775808<=m - k) (h2:m - k<=9223372036854775807) (hd:Nat.blt d n=true) (k':WD P ops C K rest n ds ((d,.int .i64 (m - k))::E)):WD P ops C K (⟨some d,.binOp .sub t x y yt,ty,pos,after,none⟩::rest) n ds E:=a2f (fun a ha=>a9t hx hy h1 h2 a ha _) hd k'
theorem p9 (hT:TabOk P T) {t:TypeId} {x y:Operand} {el sz eb b off m c j:Nat} {ag:Bool} {z:List Value} {i:Int} (ht:T.get t=some (.sl el sz eb ag z)) (hx:E.ev x=some (.slice (some ⟨b,off,none⟩) m c)) (hy:E.ev y=some (.int .i64 i)) (hj:(j:Int)=i) (hm:j < m) (hd:Nat.blt d n=true) (k':WL P ops Q rest n ds ((d,.pointer (some ⟨b,off + j * sz,none⟩))::E) w):WL P ops Q (⟨some d,.indexAddr t x y,ty,pos,after,none⟩::rest) n ds E w:=z5 (fun a ha=>a8c hT ht hx hy hj hm a ha _) hd k'
theorem a0O {C:World->Prop} {K:Act->Prop} (hT:TabOk P T) {t:TypeId} {x y:Operand} {el sz eb b off m c j:Nat} {ag:Bool} {z:List Value} {i:Int} (ht:T.get t=some (.sl el sz eb ag z)) (hx:E.ev x=some (.slice (some ⟨b,off,none⟩) m c)) (hy:E.ev y=some (.int .i64 i)) (hj:(j:Int)=i) (hm:j < m) (hd:Nat.blt d n=true) (k':WD P ops C K rest n ds ((d,.pointer (some ⟨b,off + j * sz,none⟩))::E)):WD P ops C K (⟨some d,.indexAddr t x y,ty,pos,after,none⟩::rest) n ds E:=a2f (fun a ha=>a8c hT ht hx hy hj hm a ha _) hd k'
theorem a0m (hT:TabOk P T) {t s:Nat} {fs:List (Nat×Nat×Bool)} {z L:List Value} {parts:Array (Nat×Operand)} {ps:List (Nat×Value)} (ht:T.get t=some (.st s fs z)) (hp:evP E parts.toList=some ps) (hL:y6 (fun i=>(fs[i]?).map fun f=>(f.1,f.2.1)) z ps=some L) (hd:Nat.blt d n=true) (k':WL P ops Q rest n ds ((d,.agg L.toArray)::E) w):WL P ops Q (⟨some d,.build t parts,ty,pos,after,none⟩::rest) n ds E w:=z5 (fun a ha=>a3f hT ht hp hL a ha) hd k'
theorem a7u (a b:Bool):(a == b)=decide (a=b):=by cases a <;> cases b <;> rfl
theorem b05 (hT:TabOk P T) {t yt:TypeId} {x y:Operand} {a b:Bool} {s:Nat} {z:Value} (ht:T.get t=some (.sc .bool s z)) (hx:E.ev x=some (.bool a)) (hy:E.ev y=some (.bool b)):∀ c,Has n ds c E->∀ dst,t8 P ⟨dst,.binOp .eql t x y yt,ty,pos,after,none⟩ c (.bool (decide (a=b))):=fun c hc _ w=>by
 obtain ⟨i,hu,_⟩:=hT.sc ht;have e:(Op.equal t (.bool a) (.bool b)).run P w=.ok (decide (a=b)) w:=by rw [<- a7u];exact run_equalIn_bool' (P:=P) w 9999 t a b hu
 simp only [execOp,hc.ev hx,hc.ev hy,eqGuard,binOp,Sem.run_bind];simp [e,Result.andThen]
theorem a9B (hT:TabOk P T) {t yt:TypeId} {x y:Operand} {a b:Bool} {s:Nat} {z:Value} (ht:T.get t=some (.sc .bool s z)) (hx:E.ev x=some (.bool a)) (hy:E.ev y=some (.bool b)):∀ c,Has n ds c E->∀ dst,t8 P ⟨dst,.binOp .neq t x y yt,ty,pos,after,none⟩ c (.bool (!decide (a=b))):=fun c hc _ w=>by
 obtain ⟨i,hu,_⟩:=hT.sc ht;have e:(Op.equal t (.bool a) (.bool b)).run P w=.ok (decide (a=b)) w:=by rw [<- a7u];exact run_equalIn_bool' (P:=P) w 9999 t a b hu
 simp only [execOp,hc.ev hx,hc.ev hy,eqGuard,binOp,Sem.run_bind];simp [e,Result.andThen]
theorem a1E (hT:TabOk P T) {t yt:TypeId} {x y:Operand} {a b:Bool} {s:Nat} {z:Value} (ht:T.get t=some (.sc .bool s z)) (hx:E.ev x=some (.bool a)) (hy:E.ev y=some (.bool b)) (hd:Nat.blt d n=true) (k':WL P ops Q rest n ds ((d,.bool (!decide (a=b)))::E) w):WL P ops Q (⟨some d,.binOp .neq t x y yt,ty,pos,after,none⟩::rest) n ds E w:=z5 (fun a ha=>a9B hT ht hx hy a ha _) hd k'
def a6M (P:Program) (t:TypeId) (X Y:List Value) (b:Bool):Prop:=(∀ w,(Op.equalIn 10000 t (.agg X.toArray) (.agg Y.toArray)).run P w=.ok b w)/\P.eqGuardType P.depth t=false
theorem a9I {t yt:TypeId} {x y:Operand} {X Y:List Value} {b:Bool} (hx:E.ev x=some (.agg X.toArray)) (hy:E.ev y=some (.agg Y.toArray)) (h:a6M P t X Y b):∀ c,Has n ds c E->∀ dst,t8 P ⟨dst,.binOp .eql t x y yt,ty,pos,after,none⟩ c (.bool b):=fun c hc _ w=>by
 simp only [execOp,hc.ev hx,hc.ev hy,Sem.run_bind,run_eqGuard_agg w _ _ _ _ _ _ h.2,Result.andThen_ok,run_eql_struct,h.1 w,Sem.run_pure]
theorem b1e {t yt:TypeId} {x y:Operand} {X Y:List Value} {b:Bool} (hx:E.ev x=some (.agg X.toArray)) (hy:E.ev y=some (.agg Y.toArray)) (h:a6M P t X Y b):∀ c,Has n ds c E->∀ dst,t8 P ⟨dst,.binOp .neq t x y yt,ty,pos,after,none⟩ c (.bool (!b)):=fun c hc _ w=>by
 simp only [execOp,hc.ev hx,hc.ev hy,Sem.run_bind,run_eqGuard_agg w _ _ _ _ _ _ h.2,Result.andThen_ok,run_neq_struct,h.1 w,Sem.run_pure]
theorem a3T {t yt:TypeId} {x y:Operand} {X Y:List Value} {b:Bool} (hx:E.ev x=some (.agg X.toArray)) (hy:E.ev y=some (.agg Y.toArray)) (h:a6M P t X Y b) (hd:Nat.blt d n=true) (k':WL P ops Q rest n ds ((d,.bool b)::E) w):WL P ops Q (⟨some d,.binOp .eql t x y yt,ty,pos,after,none⟩::rest) n ds E w:=z5 (fun a ha=>a9I hx hy h a ha _) hd k'
theorem i5 {c:Operand} {x y:Code} {p:Prop} {_i:Decidable p} (hc:E.ev c=some (.bool (decide p))) (ht:decide p=true->p->WC P x Q n ds E w) (hf:decide p=false->¬ p->WC P y Q n ds E w):WC P (.cond c x y) Q n ds E w :=
 a8P hc (fun h=>ht h (xg5 h)) (fun h=>hf h (of_decide_eq_false h))
theorem a9G {c:Operand} {x y:Code} {p:Prop} {_i:Decidable p} (hc:E.ev c=some (.bool (!decide p))) (ht:(!decide p)=true->¬ p->WC P x Q n ds E w) (hf:(!decide p)=false->p->WC P y Q n ds E w):WC P (.cond c x y) Q n ds E w :=
 a8P hc (fun h=>ht h (by simpa using h)) (fun h=>hf h (by simpa using h))
section
variable {op:Op}
theorem a0f {j:Nat} {want:Bool} {p:Prop} {_i:Decidable p} {oj:Oper} {dj:Nat} {dst:Option Nat} (_hj:ops[j]?=some oj) (_hdj:oj.dst=some dj) (_hb:E.get dj=some (.bool (decide p))) (k1:decide p=true->p->WL P ops Q (⟨dst,op,ty,pos,after,some (j,want)⟩::rest) n ds E w) (k2:decide p=false->¬ p->WL P ops Q (⟨dst,op,ty,pos,after,some (j,want)⟩::rest) n ds E w) :
  WL P ops Q (⟨dst,op,ty,pos,after,some (j,want)⟩::rest) n ds E w:=a66 _hj _hdj _hb (fun h=>k1 h (xg5 h)) (fun h=>k2 h (of_decide_eq_false h))
theorem s4 {j:Nat} {want:Bool} {p:Prop} {_i:Decidable p} {oj:Oper} {dj:Nat} {dst:Option Nat} (_hj:ops[j]?=some oj) (_hdj:oj.dst=some dj) (_hb:E.get dj=some (.bool (!decide p))) (k1:(!decide p)=true->¬ p->WL P ops Q (⟨dst,op,ty,pos,after,some (j,want)⟩::rest) n ds E w) (k2:(!decide p)=false->p->WL P ops Q (⟨dst,op,ty,pos,after,some (j,want)⟩::rest) n ds E w) :
  WL P ops Q (⟨dst,op,ty,pos,after,some (j,want)⟩::rest) n ds E w:=a66 _hj _hdj _hb (fun h=>k1 h (by simpa using h)) (fun h=>k2 h (by simpa using h))
variable {C:World->Prop} {K:Act->Prop}
end
section
variable {fn:Func} {Φ:Value->World->Prop} {v v1 v2 v3:Value}
theorem b0z (hr:ResL P E w fn.results.toList [v]) (hΦ:Φ v w):WQ (bodyPost P fn (fun e w'=>∃ v,e=.returned v/\Φ v w')) .ret n [] E w:=a9w rfl hr rfl hΦ
theorem b0S (hr:ResL P E w fn.results.toList [v1,v2]) (hΦ:Φ (.tuple #[v1,v2]) w):WQ (bodyPost P fn (fun e w'=>∃ v,e=.returned v/\Φ v w')) .ret n [] E w:=a9w rfl hr rfl hΦ
end
variable {F:Nat->Prop} {w0:World} {Γ:List Asr}
theorem f5 (hS:St F w0 w Γ) {t:TypeId} {x:Operand} {v:Value} {L:List Value} (hx:E.ev x=some v) (hc:celL v=some L) (hd:Nat.blt d n=true) (k:∀ g w',St F w0 w' (.blk g L::Γ)->WL P ops Q rest n ds ((d,.pointer (some ⟨g,0,none⟩))::E) w'):WL P ops Q (⟨some d,.box t x,ty,pos,after,none⟩::rest) n ds E w :=
 a1W hd (a9D hS hx) (by rintro _ w' ⟨g,rfl,h⟩;rw [a0h hc] at h;exact k g w' h)
theorem l8 (hS:St F w0 w Γ) (hT:TabOk P T) {t:TypeId} {i:TI} {L:List Value} (ht:T.get t=some i) (hL:some i.zeroCells=some L) (hd:Nat.blt d n=true) (k:∀ g w',St F w0 w' (.blk g L::Γ)->WL P ops Q rest n ds ((d,.pointer (some ⟨g,0,none⟩))::E) w'):WL P ops Q (⟨some d,.alloc t,ty,pos,after,none⟩::rest) n ds E w :=
 a1W hd (a1f hS hT ht hL) (by rintro _ w' ⟨g,rfl,h⟩;exact k g w' h)
theorem l7 (hS:St F w0 w Γ) (hT:TabOk P T) {t:TypeId} {ti:TI} {x y:Operand} {g j i:Nat} {v:Value} {L c L':List Value} (ht:T.get t=some ti) (hx:E.ev x=some (.pointer (some ⟨g,j,none⟩))) (hy:E.ev y=some v) (hi:Γ[i]?=some (.blk g L)) (hc:celL v=some c)
  (hsz:Nat.beq c.length ti.size=true) (hk:Nat.ble (j + ti.size) L.length=true) (h1:c.all (·.oneCell')=true) (hL:l9 L j c=L') (k:∀ w',St F w0 w' (Γ.set i (.blk g L'))->WL P ops Q rest n ds E w'):WL P ops Q (⟨none,.store t x y,ty,pos,after,none⟩::rest) n ds E w :=
 a88 (a1V hS hT ht hx hy hi (by rw [a0h hc];exact xa8 hsz) (xe5 hk) (by rw [a0h hc];exact fun u hu=>xb7.1 h1 u hu)) (by intro _ w' h;rw [a0h hc,hL] at h;exact k w' h)
theorem a7N {f:FuncId} {x:Operand} {args:Array Operand} {ats:Array TypeId} {vs:List Value} {first caps:List Value} {Φ:Value->World->Prop} (hx:E.ev x=some (.func (.func f) first.toArray caps.toArray)) (hv:E.evs args.toList=some vs) (h:Fn P f (first++vs++caps) w Φ) (hd:Nat.blt d n=true) (k:∀ v w',Φ v w'->WL P ops Q rest n ds ((d,v)::E) w') :
  WL P ops Q (⟨some d,.call { callee:=.value x,args:=args,argTypes:=ats },ty,pos,after,none⟩::rest) n ds E w:=a1W hd (a3n hx hv h) k
end
section
variable {F:Nat->Prop} {w0 w w':World} {Γ:List Asr}
theorem St.addNil (h:St F w0 w Γ) (e sz:Nat):St F w0 w (.row e sz (.slice none 0 0) []::Γ) :=
 h.new ⟨rfl,rfl,rfl,xc4 _,fun _ _ _=>rfl⟩ ⟨World.ownsRow_nil _ _ _ _,by simp,by simp⟩ (by simp [Asr.fp,Value.ownBlock])
theorem St.rowSome (h:St F w0 w Γ) (i:Nat) {e sz n cap:Nat} {p:Option Addr} {rows:List (List Value)} (hi:Γ[i]?=some (.row e sz (.slice p n cap) rows)) (hn:0 < n):∃ g,p=some ⟨g,0,none⟩:=by
 rcases h.rowForm i hi with ⟨h1,h2⟩|⟨g,cap',h1,_⟩
 ·cases h1;omega
 ·cases h1;exact ⟨g,rfl⟩
theorem Sl.parts {sz n cap:Nat} {p:Option Addr} {rows:List (List Value)} (h:Sl F w0 sz (.slice p n cap) rows):n=rows.length/\(rows=[]\/∃ b off,p=some ⟨b,off,none⟩/\n<=cap/\cap<=maxLen/\RoAt F w0 b off sz rows):=by
 rcases h with ⟨p1,c1,h1,h2⟩|⟨b,off,cap0,h1,h2,h3,h4⟩
 ·cases h1;subst h2;exact ⟨rfl,xc6 rfl⟩
 ·cases h1;exact ⟨rfl,xc3 ⟨b,off,rfl,h2,h3,h4⟩⟩
def a4n:List Asr->List Asr->List Asr
 |[],Γ=>Γ
 |A::Δ,Γ=>A::a4n Δ Γ
theorem a8E (Δ Γ:List Asr):a4n Δ Γ=Δ++Γ:=by
 induction Δ with
 |nil=>rfl
 |cons A Δ ih=>simp [a4n,ih]
theorem St.transA {Δ:List Asr} (h:St F w0 w Γ) (h2:St nF w w' Δ):St F w0 w' (a4n Δ Γ):=by rw [a8E];exact h.trans h2
theorem St.one {A:Asr} (h:St F w0 w (A::Γ)):St F w0 w [A]:=h.sub (List.Sublist.cons_cons _ (xg6 _))
structure Bs (F:Nat->Prop) (w0:World) (p:Addr) (v:Value):Prop where
 cell:w0.cell? p=some v
 nf:¬ F p.block
theorem St.bs (h:St F w0 w Γ) {p:Addr} {v:Value} (hb:Bs F w0 p v):w.cell? p=some v:=h.baseC hb.cell hb.nf
theorem Bs.of {p:Addr} {v:Value} (h:w.cell? p=some v):Bs nF w p v:=⟨h,id⟩
end
end Go.Proofs.YtejnpppejalhfadGreat
namespace Go.Proofs.YtejnpppejalhfadGreat
set_option maxRecDepth 100000
set_option maxHeartbeats 8000000
open Go.RowKit Go.Sort
section
variable {P:Program} {n:Nat} {ds:List Deferred} {E:Fr} {w:World} {Q:Exit->Act->World->Prop} {ops:Array Oper} {rest:List Oper} {C:World->Prop} {K:Act->Prop} {d:Nat} {op:Op} {ty:TypeId} {pos:String} {after:Array Edge}
theorem a1C {o oj:Oper} {j:Nat} {want:Bool} {dj:Nat} (hg:o.guard=some (j,want)) (hj:ops[j]?=some oj) (hdj:oj.dst=some dj) (hb:E.get dj=some undef) {a:Act} (ha:Has n ds a E) (hlt:Nat.blt dj n=true) :
  Region.wanted o (yielded ops a.tmps)=false:=by
 have hlt':dj < a.tmps.size:=by rw [ha.size];simpa [xb0] using hlt
 have h1:a.tmps[dj]?=some undef:=by
  have:=ha.at_ dj _ hb;rw [xb1] at this;rw [Array.getElem?_eq_getElem hlt'] at this |-;exact congrArg some this
 have hy:yielded ops a.tmps j=none:=by simp [yielded,hj,hdj,h1,undef]
 simp only [Region.wanted,hg,hy];rfl
theorem a9h {j:Nat} {want:Bool} {oj:Oper} {dj:Nat} (hj:ops[j]?=some oj) (hdj:oj.dst=some dj) (hlt:Nat.blt dj n=true) (hb:E.get dj=some undef) (hd:Nat.blt d n=true) (k:WL P ops Q rest n ds ((d,undef)::E) w) :
  WL P ops Q (⟨some d,op,ty,pos,after,some (j,want)⟩::rest) n ds E w:=fun a ha=>by
 have hw:=a1C (o:=⟨some d,op,ty,pos,after,some (j,want)⟩) rfl hj hdj hb ha hlt;unfold wpList;rw [xd7 (by rw [hw];simp)];exact k _ (ha.put d undef hd)
theorem a0c {j:Nat} {want:Bool} {oj:Oper} {dj:Nat} (hj:ops[j]?=some oj) (hdj:oj.dst=some dj) (hlt:Nat.blt dj n=true) (hb:E.get dj=some undef) (hd:Nat.blt d n=true) (k:WD P ops C K rest n ds ((d,undef)::E)) :
  WD P ops C K (⟨some d,op,ty,pos,after,some (j,want)⟩::rest) n ds E:=fun a ha=>by
 have hw:=a1C (o:=⟨some d,op,ty,pos,after,some (j,want)⟩) rfl hj hdj hb ha hlt;unfold wpQuiet;rw [xd7 (by rw [hw];simp)];exact k _ (ha.put d undef hd)
theorem Gets.of_at {o:Oper} {v:Value} (h:∀ a,Has n ds a E->(execOp a.eval o).run P w=.ok (.value v) w):Gets P o n ds E w (fun v' w'=>v'=v/\w'=w):=by
 intro a ha K Q k;unfold Oper.wp;rw [h a ha];exact k v w ⟨rfl,rfl⟩
def Fr.only (E:Fr):List Nat->Option Fr
 |[]=>some []
 |k::r=>match Fr.get E k,Fr.only E r with
  |some v,some E'=>some ((k,v)::E')
  |_,_=>none
theorem Fr.only_sub {E:Fr}:∀ {ks:List Nat} {E':Fr},Fr.only E ks=some E'->Fr.sub E' E:=by
 intro ks
 induction ks with
 |nil=>intro E' h;cases h;exact Fr.sub_nil _
 |cons k r ih=>
  intro E' h;unfold Fr.only at h
  split at h
  ·rename_i v E2 h1 h2
   cases h
   exact Fr.sub_cons h1 (ih h2)
  ·cases h
variable {F:Nat->Prop} {w0:World} {Γ:List Asr}
def Cnt (n:Nat) (ds:List Deferred) (E:Fr) (F:Nat->Prop) (w0:World) (Γ:List Asr) (d:Nat) (N:Nat) (p:Nat->Prop) (i:Nat):Act->World->Prop:=fun a' w'=>∃ i',Has n ds a' ((d,.int .i64 (i':Nat))::E)/\((i'<=N/\p i')/\St F w0 w' Γ)/\N - i' < N - i
theorem a8O {c:Code} (hS:St F w0 w Γ) (d:Nat) (ks:List Nat) {E':Fr} (hE:Fr.only E ks=some E') (N:Nat) (p:Nat->Prop) (i0:Nat) (hd:Fr.get E d=some (.int .i64 (i0:Nat))) (hN:i0<=N) (h0:p i0)
  (round:∀ i w',i<=N->p i->St F w0 w' Γ->WC P c (Exit.then (Cnt n ds E' F w0 Γ d N p i) Q) n ds ((d,.int .i64 (i:Nat))::E') w'):WC P (.loop c) Q n ds E w :=
 a6X (X:=Nat) i0 (fun i=>(d,.int .i64 (i:Nat))::E') (fun i w'=>(i<=N/\p i)/\St F w0 w' Γ) (fun i=>N - i) (Fr.sub_cons hd (Fr.only_sub hE)) ⟨⟨hN,h0⟩,hS⟩ (fun i w' h=>round i w' h.1.1 h.1.2 h.2)
theorem a8e {E':Fr} {d N i:Nat} {p:Nat->Prop} (i':Nat) (h0:Fr.sub ((d,.int .i64 (i':Nat))::E') E) (hN:i'<=N) (hp:p i') (hlt:i < i') (hS:St F w0 w Γ):WQ (Exit.then (Cnt n ds E' F w0 Γ d N p i) Q) .normal n ds E w:=fun _ ha=>⟨i',ha.sub h0,⟨⟨hN,hp⟩,hS⟩,by omega⟩
def Rnd {X:Type} (n:Nat) (ds:List Deferred) (E:Fr) (F:Nat->Prop) (w0:World) (Γ:List Asr) (vf:X->Fr) (Γf:X->List Asr) (I:X->Prop) (m:X->Nat) (x:X):Act->World->Prop:=fun a' w'=>∃ x',Has n ds a' (vf x'++E)/\(I x'/\St F w0 w' (Γf x'++Γ))/\m x' < m x
theorem Fr.sub_app {A B E:Fr} (h1:Fr.sub A E) (h2:Fr.sub B E):Fr.sub (A++B) E:=fun p hp=>(xd1.1 hp).elim (h1 p) (h2 p)
theorem z3 {X:Type} {c:Code} (vf:X->Fr) (ks:List Nat) {E':Fr} (hE:Fr.only E ks=some E') (Γf:X->List Asr) (I:X->Prop) (m:X->Nat) (x0:X) (h0:Fr.sub (vf x0) E) (hI:I x0) (hS:St F w0 w (Γf x0++Γ))
  (round:∀ x w',I x->St F w0 w' (Γf x++Γ)->WC P c (Exit.then (Rnd n ds E' F w0 Γ vf Γf I m x) Q) n ds (vf x++E') w'):WC P (.loop c) Q n ds E w :=
 a6X (X:=X) x0 (fun x=>vf x++E') (fun x w'=>I x/\St F w0 w' (Γf x++Γ)) m (Fr.sub_app h0 (Fr.only_sub hE)) ⟨hI,hS⟩ (fun x w' h=>round x w' h.1 h.2)
theorem p7 {X:Type} {E':Fr} {vf:X->Fr} {Γf:X->List Asr} {I:X->Prop} {m:X->Nat} {x:X} (x':X) (h0:Fr.sub (vf x'++E') E) (hI:I x') (hS:St F w0 w (Γf x'++Γ)) (hm:m x' < m x):WQ (Exit.then (Rnd n ds E' F w0 Γ vf Γf I m x) Q) .normal n ds E w:=fun _ ha=>⟨x',ha.sub h0,⟨hI,hS⟩,hm⟩
end
theorem a4i (g j:Nat):(⟨g,0,none⟩:Addr).add j=⟨g,j,none⟩:=by unfold Addr.add;split <;> simp_all
def bR (l:List UInt8):List (List Value):=l.map fun b=>[.int .u8 b.toNat]
theorem a02 (l:List UInt8):(bR l).length=l.length:=by unfold bR;simp
theorem a3s (l:List UInt8):(bR l).flatten=l.map fun b=>Value.int .u8 b.toNat:=by
 unfold bR
 induction l with
 |nil=>rfl
 |cons b l ih=>simp [ih]
section
variable {P:Program} {n:Nat} {ds:List Deferred} {E:Fr} {w:World} {Q:Exit->Act->World->Prop} {ops:Array Oper} {rest:List Oper} {d:Nat} {dst:Option Nat} {ty:TypeId} {pos:String} {after:Array Edge} {F:Nat->Prop} {w0:World} {Γ:List Asr} {T:Tab}
theorem a8k (hS:St F w0 w Γ) (hT:TabOk P T) {t sz:Nat} {z:Value} {x:Operand} {l:List UInt8} (ht:T.get t=some (.sc .string sz z)) (hx:E.ev x=some (.string ⟨l.toArray⟩)) :
  Gets P ⟨dst,.range t x,ty,pos,after,none⟩ n ds E w (fun v w'=>∃ r,v=.pointer (some ⟨r,0,none⟩)/\St F w0 w' (.obj r (.stringIter ⟨l.toArray⟩ 0)::Γ)):=by
 intro a ha K Q k;obtain ⟨_,hu,_⟩:=hT.sc ht;have hex:(execOp a.eval ⟨dst,.range t x,ty,pos,after,none⟩).run P w=.ok (.value (.pointer (some ⟨w.heap.size,0,none⟩))) (w.iter ⟨l.toArray⟩ 0):=by
  simp [execOp,ha.ev hx,run_range_string w t _ hu,Result.andThen]
 unfold Oper.wp;rw [hex];exact k _ _ ⟨_,rfl,hS.new (World.grownBy_alloc w _ none) ⟨World.iter_heap w _ 0,rfl⟩ (by simp [Asr.fp])⟩
theorem a7l (hS:St F w0 w Γ) {x:Operand} {l:List UInt8} {i r k:Nat} (hx:E.ev x=some (.pointer (some ⟨r,0,none⟩))) (hi:Γ[i]?=some (.obj r (.stringIter ⟨l.toArray⟩ k))) :
  Gets P ⟨dst,.next x true,ty,pos,after,none⟩ n ds E w (fun v w'=>(k < l.length/\v=.tuple #[.bool true,.int .i64 k,.int .i32 (Utf8.decode ⟨l.toArray⟩ k).1]/\St F w0 w' (Γ.set i (.obj r (.stringIter ⟨l.toArray⟩ (k + (Utf8.decode ⟨l.toArray⟩ k).2)))))\/(l.length<=k/\v=.tuple #[.bool false]/\w'=w)):=by
 intro a ha K Q kk;obtain ⟨hr,_⟩:=hS.at_ hi;by_cases hk:k < l.length
 ·have hk':k < (⟨l.toArray⟩:ByteArray).size:=hk;have hex:(execOp a.eval ⟨dst,.next x true,ty,pos,after,none⟩).run P w=.ok (.value (.tuple #[.bool true,.int .i64 k,.int .i32 (Utf8.decode ⟨l.toArray⟩ k).1])) { w with heap:=w.heap.setIfInBounds r (.stringIter ⟨l.toArray⟩ (k + (Utf8.decode ⟨l.toArray⟩ k).2)) }:=by
   simp [execOp,ha.ev hx,Instr.next,getObj,setObj,Sem.run,hr,hk',Result.andThen,goInt]
  unfold Oper.wp;rw [hex];have hrl:=(xa7.1 hr).1;refine kk _ _ (xc6 ⟨hk,rfl,hS.upd hi ⟨rfl,rfl,rfl,by simp,fun q hq hne=>?_⟩ ⟨by simp [hrl],rfl⟩ (fun q hq=>xc6 hq)⟩);have:r≠q:=fun e=>hne (by simp [Asr.fp,e]);simp [this]
 ·have hk':¬ k < (⟨l.toArray⟩:ByteArray).size:=hk;have hex:(execOp a.eval ⟨dst,.next x true,ty,pos,after,none⟩).run P w=.ok (.value (.tuple #[.bool false])) w:=by
   simp [execOp,ha.ev hx,Instr.next,getObj,Sem.run,hr,hk',Result.andThen]
  unfold Oper.wp;rw [hex];exact kk _ _ (xc3 ⟨by omega,rfl,rfl⟩)
theorem a8u (hS:St F w0 w Γ) (hT:TabOk P T) {t u e i sz2:Nat} {z2:Value} {x:Operand} {v:Value} {l:List UInt8} (ht:T.get t=some (.sl e 1 1 false [.int .u8 0])) (he:T.get e=some (.sc (.int .u8) 1 (.int .u8 0))) (hu2:T.get u=some (.sc .string sz2 z2)) (hx:E.ev x=some v) (hi:Γ[i]?=some (.row e 1 v (bR l))) (hne:0 < l.length) :
  Gets P ⟨dst,.convert t u x,ty,pos,after,none⟩ n ds E w (fun v' w'=>v'=.string ⟨l.toArray⟩/\w'=w):=by
 refine Gets.of_at fun a ha=>?_;obtain ⟨ji,zv,hu,hinfo,_⟩:=hT.sl ht;obtain ⟨_,hus,_⟩:=hT.sc hu2;obtain ⟨_,hue,_⟩:=hT.sc he;rcases hS.rowForm i hi with ⟨rfl,h0⟩|⟨g,cap,rfl,_⟩
 ·have:=congrArg List.length h0;rw [a02,xa2] at this;omega
 ·have hrun:=run_convert_bytes_back (P:=P) w t u e ⟨g,0,none⟩ cap l hu hue hus (fun j hj=>by
   rw [a4i];have:=hS.rowC i hi (k:=j) (j:=0) (r:=[.int .u8 l[j].toNat]) (u:=.int .u8 l[j].toNat) (by unfold bR;simp [hj]) rfl
   simpa using this)
  rw [a02] at hx;simp only [execOp,ha.ev hx,Sem.run_bind,hrun,Result.andThen_ok,Sem.run_pure]
theorem b1A {t yt:TypeId} {x y:Operand} {l m:List UInt8} (hx:E.ev x=some (.string ⟨l.toArray⟩)) (hy:E.ev y=some (.string ⟨m.toArray⟩)) (hb:l.length + m.length<=9223372036854775807):∀ a,Has n ds a E->∀ dst,t8 P ⟨dst,.binOp .add t x y yt,ty,pos,after,none⟩ a (.string ⟨(l++m).toArray⟩):=fun a ha _ w=>by
 have h1:¬ (9223372036854775807 < (((⟨l.toArray⟩:ByteArray).size:Int) + ((⟨m.toArray⟩:ByteArray).size:Int))):=by
  show ¬ (9223372036854775807 < ((l.length:Int) + (m.length:Int)));omega
 simp [execOp,ha.ev hx,ha.ev hy,eqGuard,binOp,Op.stringOp,a2E,h1]
end
section
variable {F:Nat->Prop} {w0 w w':World} {Γ:List Asr}
end
theorem a4m {l:List UInt8} {k:Nat} {b:UInt8} (h:l[k]?=some b) (hb:b.toNat < 128):Utf8.decode ⟨l.toArray⟩ k=(b.toNat,1):=by
 obtain ⟨h1,rfl⟩:=xa5.1 h;have:=decode_ascii ⟨l.toArray⟩ k h1 hb;exact this
section
variable {P:Program} {n:Nat} {ds:List Deferred} {E:Fr} {w:World} {Q:Exit->Act->World->Prop} {ops:Array Oper} {rest:List Oper} {d:Nat} {ty:TypeId} {pos:String} {after:Array Edge} {F:Nat->Prop} {w0:World} {Γ:List Asr}
end
structure Sg where
 pg:Int
 n:Int
 data:List UInt8
 wr:Bool
 ex:Bool
 deriving DecidableEq
structure Sy where
 name:List UInt8
 at_:Int
 deriving DecidableEq
structure Rl where
 at_:Int
 name:List UInt8
 add:Int
 deriving DecidableEq
structure Im where
 name:List UInt8
 needs:List (List UInt8)
 segs:List Sg
 syms:List Sy
 rels:List Rl
 entry:Int
 deriving DecidableEq
def stC (l:List UInt8):List Value:=[.string ⟨l.toArray⟩]
def sgC (s:Sg):List Value:=[.int .i64 s.pg,.int .i64 s.n,.string ⟨s.data.toArray⟩,.bool s.wr,.bool s.ex]
def syC (s:Sy):List Value:=[.string ⟨s.name.toArray⟩,.int .i64 s.at_]
def rlC (s:Rl):List Value:=[.int .i64 s.at_,.string ⟨s.name.toArray⟩,.int .i64 s.add]
def okB (b:UInt8):Bool:=decide ((97<=(b.toNat:Int)/\(b.toNat:Int)<=122)\/(48<=(b.toNat:Int)/\(b.toNat:Int)<=57)\/(b.toNat:Int)=95)
def nmB (l:List UInt8):Bool:=decide (1<=(l.length:Int)/\(l.length:Int)<=12) && l.all okB
structure ImV (w:World) (I:Im) (vn vs vy vr:Value):Prop where
 needs:Sl nF w 1 vn (I.needs.map stC)
 segs:Sl nF w 5 vs (I.segs.map sgC)
 syms:Sl nF w 2 vy (I.syms.map syC)
 rels:Sl nF w 3 vr (I.rels.map rlC)
theorem Sl.len {w:World} {sz:Nat} {α:Type} {f:α->List Value} {l:List α} {v:Value} (h:Sl nF w sz v (l.map f)):∃ p c,v=.slice p l.length c:=by
 obtain ⟨p,c,hv⟩:=h.form;rw [xg7] at hv;exact ⟨p,c,hv⟩
theorem ImV.now {w w':World} {Γ:List Asr} {I:Im} {vn vs vy vr:Value} (h:ImV w I vn vs vy vr) (hS:St nF w w' Γ):ImV w' I vn vs vy vr:=⟨h.needs.now hS,h.segs.now hS,h.syms.now hS,h.rels.now hS⟩
theorem Sl.bound {w:World} {sz:Nat} {α:Type} {f:α->List Value} {l:List α} {v:Value} (h:Sl nF w sz v (l.map f)):(l.length:Int)<=9223372036854775807:=by
 rcases h with ⟨p,c,h1,h2⟩|⟨b,off,cap,h1,h2,h3,_⟩
 ·have:=congrArg List.length h2;rw [xg7,xa2] at this;omega
 ·rw [xg7] at h2;unfold maxLen at h3;omega
theorem j3 {α β:Type} {f:α->β} {l:List α} {i:Nat} {x:α} (h:l[i]?=some x):(l.map f)[i]?=some (f x):=by rw [xf7,h];rfl
theorem Sl.at_ {w:World} {sz:Nat} {α:Type} {f:α->List Value} {l:List α} {p:Option Addr} {n c i:Nat} (h:Sl nF w sz (.slice p n c) (l.map f)) (hi:i < l.length):∃ b off,p=some ⟨b,off,none⟩/\RoAt nF w b off sz (l.map f):=by
 rcases h.parts.2 with h2|⟨b,off,rfl,_,_,hro⟩
 ·have:=congrArg List.length h2;rw [xg7,xa2] at this;omega
 ·exact ⟨b,off,rfl,hro⟩
def b1X (I:Im):Bool:=nmB I.name && (I.needs.all nmB && (I.syms.all (fun s=>nmB s.name) && I.rels.all (fun r=>decide (r.name=[])||nmB r.name)))
def b10 (I:Im):Bool:=decide (1<=(I.segs.length:Int)/\(I.segs.length:Int)<=6/\(I.needs.length:Int)<=4/\(I.syms.length:Int)<=12/\(I.rels.length:Int)<=16)
def b0m (s:Sg):Bool:=decide (0<=s.pg/\s.pg<=255/\1<=s.n/\s.n<=255 - s.pg/\(s.data.length:Int)<=s.n * 16)
def b1I (I:Im):Bool:=I.segs.all b0m
noncomputable def pB (p:Prop):Bool:=@decide p (Classical.propDecidable p)
def Ch (l:List Sg):Prop:=∀ (j:Nat) (a b:Sg),l[j]?=some a->l[j + 1]?=some b->a.pg + a.n<=b.pg
def Dup (l:List (List UInt8)):Prop:=∃ (i j:Nat) (x:List UInt8),j < i/\l[i]?=some x/\l[j]?=some x
def b1F (x:Int) (s:Sg):Bool:=decide (s.pg * 16<=x/\x < (s.pg + s.n) * 16)
def own (l:List Sg) (x:Int):Option Sg:=l.find? (b1F x)
structure Plc (I:Im):Prop where
 syms:∀ s ∈ I.syms,(own I.segs s.at_).isSome=true
 rels:∀ (k:Nat) (r:Rl),I.rels[k]?=some r->(0<=r.at_/\r.at_<=4080)/\∀ b:Int,0<=b->b < 8->(own I.segs (r.at_ + b)).isSome=true
 step:∀ (k:Nat) (q r:Rl),I.rels[k]?=some q->I.rels[k + 1]?=some r->q.at_ + 8<=r.at_
 entry:∃ s,own I.segs I.entry=some s/\s.ex=true
 by8:I.entry.tmod 8=0
noncomputable def b1L (I:Im):Bool:=pB (Ch I.segs/\¬ Dup (I.syms.map (·.name))/\¬ Dup I.needs)
noncomputable def b1T (I:Im):Bool:=pB (Plc I)
noncomputable def a8K (I:Im):Int:=if b1X I=false then 4 else if b10 I=false then 2 else if b1I I=false then 3 else if b1L I=false then 5 else if b1T I=false then 6 else 0
end Go.Proofs.YtejnpppejalhfadGreat
namespace Go.Proofs.YtejnpppejalhfadGreat
set_option maxRecDepth 100000
set_option maxHeartbeats 8000000
open Go.RowKit
def leB (n:Int):Nat->List UInt8
 |0=>[]
 |k + 1=>leB n k++[UInt8.ofNat ((n / 2 ^ (8 * k)) % 256).toNat]
@[go_sem] theorem leB_length (n:Int) (k:Nat):(leB n k).length=k:=by
 induction k with
 |zero=>rfl
 |succ k ih=>simp [leB,ih]
def inB (off n all:Int):Bool:=decide (0<=off/\0<=n/\off<=all/\n<=all - off)
theorem a3M (b:UInt8):wrap64 (b.toNat:Int)=(b.toNat:Int):=by
 have:=b.toNat_lt;unfold wrap64;omega
end Go.Proofs.YtejnpppejalhfadGreat
namespace Go.Proofs.YtejnpppejalhfadGreat
set_option maxRecDepth 100000
set_option maxHeartbeats 8000000
open Go.RowKit Go.Sort
structure Fx where
 off:Int
 bytes:List UInt8
 deriving DecidableEq
structure Sh where
 page:Int
 data:List UInt8
 fixes:List Fx
 deriving DecidableEq
def fxC (f:Fx):List Value:=[.int .i64 f.off,.string ⟨f.bytes.toArray⟩]
def shC (s:Sh) (u:Value):List Value:=[.int .i64 s.page,.string ⟨s.data.toArray⟩,u]
abbrev ShV (w:World) (s:Sh) (u:Value):Prop:=Sl nF w 2 u (s.fixes.map fxC)
def b08 (free:Int) (f:Fx):Bool:=decide (free<=f.off/\f.off<=16/\f.bytes≠[]/\(f.bytes.length:Int)<=16 - f.off)
def b1b (f:Fx):Int:=f.off + f.bytes.length
def b06:Int->List Fx->Bool
 |_,[]=>true
 |free,f::r=>b08 free f && b06 (b1b f) r
def a9O (s:Sh):Bool:=decide ((1<=s.page/\s.page<=255)/\s.data.length=16) && b06 0 s.fixes
def b0Y (d:List UInt8) (l:List Fx):List UInt8:=l.foldl (fun d f=>splice d f.off.toNat f.bytes) d
def b1z (s:Sh):List UInt8:=b0Y s.data s.fixes
end Go.Proofs.YtejnpppejalhfadGreat
namespace Go.Proofs.YtejnpppejalhfadGreat
set_option maxRecDepth 100000
set_option maxHeartbeats 8000000
structure Ar where
 pg:Int
 n:Int
 prot:Int
 z:Bool
deriving DecidableEq
namespace Ar
def fin (a:Ar):Int:=a.pg + a.n
def mk' (a:Ar):Int:=1 + 2 * a.prot + (if a.z then 8 else 0)
def ok (a:Ar):Prop:=1<=a.pg/\a.pg<=255/\1<=a.n/\a.n<=256 - a.pg/\0<=a.prot/\a.prot<=3
def alike (a b:Ar):Prop:=a.fin=b.pg/\a.prot=b.prot/\a.z=b.z
end Ar
instance (a b:Ar):Decidable (a.alike b):=by unfold Ar.alike;infer_instance
instance (a:Ar):Decidable a.ok:=by unfold Ar.ok;infer_instance
def j0:Int->List Ar->Prop
 |_,[]=>True
 |e,a::l=>a.ok/\e<=a.pg/\j0 a.fin l
def a0r:List Ar->Prop
 |[]=>True
 |[_]=>True
 |a::b::l=>¬ a.alike b/\a0r (b::l)
def a1d (l:List Ar):Prop:=j0 1 l/\a0r l
def d6:List Ar->Int->Int
 |[],_=>0
 |a::l,p=>if a.pg<=p/\p < a.fin then a.mk' else d6 l p
def t6:List Ar->List Ar
 |[]=>[]
 |[a]=>[{ a with n:=a.n + 1 }]
 |a::l=>a::t6 l
def y7 (b:Int->Int) (out:List Ar) (p:Int):List Ar :=
 if b p=0 then out else if b (p - 1)=b p then t6 out else out++[⟨p,1,(b p - 1) % 8 / 2,decide (8<=b p - 1)⟩]
def l0 (b:Int->Int):Nat->List Ar
 |0=>[]
 |k + 1=>y7 b (l0 b k) (k + 1)
def s6:List Ar->Int->List Ar
 |[],_=>[]
 |a::l,k=>if k < a.pg then [] else if a.fin<=k + 1 then a::s6 l k else [{ a with n:=k + 1 - a.pg }]
theorem m6 {l:List Ar}:∀ {e p:Int},j0 e l->p < e->d6 l p=0:=by
 induction l with
 |nil=>intros;rfl
 |cons a l ih=>
  intro e p h hp;obtain ⟨h1,h2,h3⟩:=h;unfold d6;rw [xd7 (by omega)];exact ih h3 (by unfold Ar.fin;unfold Ar.ok at h1;omega)
theorem b0n {a:Ar} (h:a.ok):1<=a.mk':=by
 unfold Ar.ok at h;unfold Ar.mk';split <;> omega
theorem a3l {a:Ar} (h:a.ok):(a.mk' - 1) % 8 / 2=a.prot:=by
 unfold Ar.ok at h;unfold Ar.mk';split <;> omega
theorem b0I {a:Ar} (h:a.ok):decide (8<=a.mk' - 1)=a.z:=by
 unfold Ar.ok at h;unfold Ar.mk';cases a.z <;> simp <;> omega
theorem b0G {a b:Ar} (ha:a.ok) (hb:b.ok) (h:a.mk'=b.mk'):a.prot=b.prot/\a.z=b.z:=by
 refine ⟨?_,?_⟩
 ·rw [<- a3l ha,<- a3l hb,h]
 ·rw [<- b0I ha,<- b0I hb,h]
theorem a0U {l:List Ar}:∀ {e k:Int},j0 e l->k < e->s6 l k=[]:=by
 cases l with
 |nil=>intros;rfl
 |cons a l=>intro e k h hk;unfold s6;rw [xd6 (by have:=h.2.1;omega)]
theorem a0Q (a:Ar) {l:List Ar} (h:l≠[]):t6 (a::l)=a::t6 l:=by
 cases l with
 |nil=>exact absurd rfl h
 |cons b l=>rfl
theorem o8 {a:Ar} {l:List Ar} {p:Int} (h:a.pg<=p/\p < a.fin):d6 (a::l) p=a.mk':=by
 simp only [d6];rw [xd6 h]
theorem l3 {a:Ar} {l:List Ar} {p:Int} (h:¬ (a.pg<=p/\p < a.fin)):d6 (a::l) p=d6 l p:=by
 simp only [d6];rw [xd7 h]
theorem a4J {l:List Ar}:∀ {e p:Int},j0 e l->a0r l->1<=e->e<=p->s6 l p=y7 (d6 l) (s6 l (p - 1)) p:=by
 induction l with
 |nil=>intro e p _ _ _ _;simp [s6,y7,d6]
 |cons a l ih=>
  intro e p h ha he hp;obtain ⟨h1,h2,h3⟩:=h;have hpos:=b0n h1;have hok:=h1;unfold Ar.ok at hok;by_cases c1:p < a.pg
  ·-- ahead of a
   unfold y7;rw [l3 (by omega),m6 h3 (by unfold Ar.fin;omega),xd6 rfl];simp only [s6];rw [xd6 c1,xd6 (by omega)]
  by_cases c2:p=a.pg
  ·-- a begins
   unfold y7;rw [o8 (by unfold Ar.fin;omega),xd7 (by omega),l3 (by omega),m6 h3 (by unfold Ar.fin;omega),xd7 (by omega),a3l h1,b0I h1];simp only [s6];rw [xd7 c1,xd6 (show p - 1 < a.pg by omega)];subst c2;by_cases c3:a.fin<=a.pg + 1
   ·rw [xd6 c3,a0U h3 (by unfold Ar.fin;omega)];have:a.n=1:=by unfold Ar.fin at c3;omega
    cases a;simp_all
   ·rw [xd7 c3];simp only [List.nil_append];rw [show a.pg + 1 - a.pg=1 by omega]
  by_cases c3:p < a.fin
  ·-- within a
   unfold y7;rw [o8 (by omega),xd7 (by omega),o8 (by omega),xd6 rfl];simp only [s6];rw [xd7 c1,xd7 (show ¬ p - 1 < a.pg by omega),xd7 (show ¬ a.fin<=p - 1 + 1 by omega)];unfold t6;by_cases c4:a.fin<=p + 1
   ·rw [xd6 c4,a0U h3 (show p < a.fin by omega)];have:a.n=p + 1 - a.pg:=by unfold Ar.fin at *;omega
    simp only;rw [show p - 1 + 1 - a.pg + 1=a.n by omega]
   ·rw [xd7 c4];simp only;rw [show p - 1 + 1 - a.pg + 1=p + 1 - a.pg by omega]
  ·-- behind a
   have hl:a0r l:=by cases l with
    |nil=>trivial
    |cons b l=>exact ha.2
   have s:=ih h3 hl (by unfold Ar.fin;omega) (show a.fin<=p by omega);have e1:s6 (a::l) p=a::s6 l p:=by simp only [s6];rw [xd7 c1,xd6 (by omega)]
   have e2:s6 (a::l) (p - 1)=a::s6 l (p - 1):=by simp only [s6];rw [xd7 (by omega),xd6 (by omega)]
   rw [e1,e2,s];unfold y7;rw [l3 (by omega)];by_cases c4:d6 l p=0
   ·rw [xd6 c4,xd6 c4]
   rw [xd7 c4,xd7 c4];by_cases c5:a.fin<=p - 1
   ·rw [l3 (by omega)];by_cases c6:d6 l (p - 1)=d6 l p
    ·rw [xd6 c6,xd6 c6,a0Q];intro hn
     cases l with
     |nil=>exact c4 rfl
     |cons b l=>
      simp only [s6] at hn;by_cases c7:p - 1 < b.pg
      ·have hb:=h3;have:d6 (b::l) (p - 1)=0:=by
        rw [l3 (by omega),m6 hb.2.2 (by unfold Ar.fin;have:=hb.1;unfold Ar.ok at this;omega)]
       omega
      ·rw [xd7 c7] at hn
       split at hn <;> exact List.cons_ne_nil _ _ hn
    ·rw [xd7 c6,xd7 c6];rfl
   ·-- just behind a
    have c6:p=a.fin:=by omega
    rw [o8 (by omega),m6 h3 (show p - 1 < a.fin by omega),xd7 (by omega),xd7 ?_]
    ·rfl
    ·intro hm
     cases l with
     |nil=>exact c4 rfl
     |cons b l=>
      obtain ⟨g1,g2,g3⟩:=h3;by_cases c7:p < b.pg
      ·exact c4 (by rw [l3 (by omega),m6 g3 (by unfold Ar.fin;unfold Ar.ok at g1;omega)])
      ·have c8:b.pg=p:=by omega
       rw [o8 (by unfold Ar.fin;unfold Ar.ok at g1;omega)] at hm;obtain ⟨q1,q2⟩:=b0G h1 g1 hm;exact ha.1 ⟨by omega,q1,q2⟩
theorem a4d {l:List Ar} (h:a1d l) (k:Nat):l0 (d6 l) k=s6 l k:=by
 induction k with
 |zero=>rw [show ((0:Nat):Int)=0 from rfl,a0U h.1 (by omega)];rfl
 |succ k ih=>
  unfold l0;rw [ih];have:=a4J (p:=(k:Int) + 1) h.1 h.2 (by omega) (by omega);rw [show (k:Int) + 1 - 1=k by omega] at this;rw [<- this];rfl
theorem a6e {l:List Ar}:∀ {e:Int},j0 e l->s6 l 255=l:=by
 induction l with
 |nil=>intros;rfl
 |cons a l ih=>
  intro e h;obtain ⟨h1,h2,h3⟩:=h;have hok:=h1;unfold Ar.ok at hok;simp only [s6];rw [xd7 (by omega),xd6 (by unfold Ar.fin;omega),ih h3]
theorem a0C {l:List Ar} (h:a1d l):l0 (d6 l) 255=l:=by
 rw [a4d h];exact a6e h.1
def a1m (l:List Ar) (i:Nat):Prop:=∃ a,l[i]?=some a/\a.ok/\∀ j b,i=j + 1->l[j]?=some b->b.fin<=a.pg/\¬ b.alike a
theorem a2L {a b:Ar} {l:List Ar} {i:Nat}:a1m (a::b::l) (i + 2) ↔ a1m (b::l) (i + 1):=by
 unfold a1m;constructor
 ·rintro ⟨c,h1,h2,h3⟩;exact ⟨c,h1,h2,fun j d hj hd=>h3 (j + 1) d (by omega) (by simpa using hd)⟩
 ·rintro ⟨c,h1,h2,h3⟩;refine ⟨c,h1,h2,fun j d hj hd=>?_⟩
  cases j with
  |zero=>omega
  |succ j=>exact h3 j d (by omega) (by simpa using hd)
theorem a4B {l:List Ar} {e e':Int} (h:j0 e l) (he:e'<=e):j0 e' l:=by
 cases l with
 |nil=>trivial
 |cons a l=>exact ⟨h.1,by have:=h.2.1;omega,h.2.2⟩
theorem a0x (l:List Ar):a1d l ↔ ∀ i,i < l.length->a1m l i:=by
 unfold a1d
 induction l with
 |nil=>exact ⟨fun _ i hi=>by simp at hi,fun _=>⟨trivial,trivial⟩⟩
 |cons a l ih=>
  cases l with
  |nil=>
   constructor
   ·rintro ⟨⟨h1,h2,_⟩,_⟩ i hi;have:i=0:=by simpa using hi
    subst this;exact ⟨a,rfl,h1,fun j b hj=>by omega⟩
   ·intro h;obtain ⟨c,hc,h1,_⟩:=h 0 (by simp);simp at hc;subst hc;exact ⟨⟨h1,by unfold Ar.ok at h1;omega,trivial⟩,trivial⟩
  |cons b l=>
   constructor
   ·rintro ⟨⟨h1,h2,h3⟩,h4,h5⟩ i hi;have hb:a1d (b::l):=⟨a4B h3 (by unfold Ar.fin;unfold Ar.ok at h1;omega),h5⟩
    match i with
    |0=>exact ⟨a,rfl,h1,fun j b hj=>by omega⟩
    |1=>
     obtain ⟨c,hc,g1,_⟩:=ih.1 hb 0 (by simp);simp at hc;subst hc;refine ⟨b,rfl,g1,fun j d hj hd=>?_⟩;obtain rfl:j=0:=by omega
     simp at hd;subst hd;exact ⟨h3.2.1,h4⟩
    |i + 2=>exact a2L.2 (ih.1 hb (i + 1) (by simpa using hi))
   ·intro h;have hb:j0 1 (b::l)/\a0r (b::l):=ih.2 fun i hi=>by
     cases i with
     |zero=>
      obtain ⟨c,hc,g1,_⟩:=h 1 (by simp);exact ⟨c,by simpa using hc,g1,fun j d hj=>by omega⟩
     |succ i=>exact a2L.1 (h (i + 2) (by simpa using hi))
    obtain ⟨c,hc,g1,_⟩:=h 0 (by simp);simp at hc;subst hc;obtain ⟨d,hd,g2,g3⟩:=h 1 (by simp);simp at hd;subst hd;obtain ⟨g4,g5⟩:=g3 0 a rfl rfl;exact ⟨⟨g1,by unfold Ar.ok at g1;omega,⟨hb.1.1,g4,hb.1.2.2⟩⟩,g5,hb.2⟩
instance (l:List Ar):Decidable (a1d l):=decidable_of_iff (∀ i:Fin l.length,l[i].ok/\∀ h:0 < i.1,l[i.1 - 1].fin<=l[i].pg/\¬ l[i.1 - 1].alike l[i]) (by
 rw [a0x];constructor
 ·intro h i hi;obtain ⟨h1,h2⟩:=h ⟨i,hi⟩;refine ⟨l[i],by simp [hi],h1,fun j b hj hb=>?_⟩;subst hj;obtain ⟨_,rfl⟩:=xa5.1 hb;exact h2 (by simp)
 ·intro h i;obtain ⟨a,ha,h1,h2⟩:=h i.1 i.2;obtain ⟨_,rfl⟩:=xa5.1 ha;refine ⟨h1,fun h0=>?_⟩;exact h2 (i.1 - 1) _ (by omega) (xa5.2 ⟨by omega,rfl⟩))
def b4 (l:List Ar):Int:=if 255 < l.length then 2 else if a1d l then 0 else 1
def a50 (n:Int):Prop:=n=0\/(1<=n/\n<=16/\n % 2=1)
theorem a9d {a:Ar} (h:a.ok):a50 a.mk':=by
 right;unfold Ar.ok at h;unfold Ar.mk';split <;> omega
theorem a0X {l:List Ar}:∀ {e:Int} (p:Int),j0 e l->a50 (d6 l p):=by
 induction l with
 |nil=>intros;exact xc6 rfl
 |cons a l ih=>
  intro e p h;unfold d6
  split
  ·exact a9d h.1
  ·exact ih p h.2.2
def b0F (b:Int->Int) (k:Int) (l:List Ar):Prop:=∀ a,l.getLast?=some a->a.fin<=k + 1/\(a.fin=k + 1->b k≠0/\a.prot=(b k - 1) % 8 / 2/\a.z=decide (8<=b k - 1)) 
theorem a4p {l:List Ar} {a:Ar} (h:a0r l) (hl:∀ b,l.getLast?=some b->¬ b.alike a):a0r (l++[a]):=by
 induction l with
 |nil=>trivial
 |cons c l ih=>
  cases l with
  |nil=>exact ⟨hl c rfl,trivial⟩
  |cons d l=>exact ⟨h.1,ih h.2 (fun b hb=>hl b (by simpa using hb))⟩
theorem y8 (l:List Ar) (a:Ar):t6 (l++[a])=l++[{ a with n:=a.n + 1 }]:=by
 induction l with
 |nil=>rfl
 |cons c l ih=>rw [List.cons_append,a0Q c (by simp),ih];rfl
theorem a4V {l:List Ar} {a a':Ar} (h:a0r (l++[a])) (h1:a'.pg=a.pg) (h2:a'.prot=a.prot) (h3:a'.z=a.z):a0r (l++[a']):=by
 induction l with
 |nil=>trivial
 |cons c l ih=>
  cases l with
  |nil=>
   refine ⟨fun hc=>h.1 ?_,trivial⟩;unfold Ar.alike at *;rw [h1,h2,h3] at hc;exact hc
  |cons d l=>exact ⟨h.1,ih h.2⟩
theorem a1y (b:Int->Int) (hm:∀ p,a50 (b p)) (h0:b 0=0) (k:Nat):a0r (l0 b k)/\b0F b k (l0 b k)/\(b k≠0->∃ l a,l0 b k=l++[a]/\a.fin=(k:Int) + 1):=by
 induction k with
 |zero=>exact ⟨trivial,fun a ha=>by simp [l0] at ha,fun h=>absurd h0 h⟩
 |succ k ih=>
  obtain ⟨h1,h2,h3⟩:=ih;unfold l0 y7;rw [show (k:Int) + 1 - 1=k by omega,show ((k + 1:Nat):Int)=(k:Int) + 1 by omega];by_cases c1:b ((k:Int) + 1)=0
  ·rw [xd6 c1];refine ⟨h1,fun a ha=>?_,fun h=>absurd c1 h⟩;obtain ⟨g1,_⟩:=h2 a ha;exact ⟨by omega,fun g=>by omega⟩
  rw [xd7 c1];by_cases c2:b (k:Int)=b ((k:Int) + 1)
  ·rw [xd6 c2];obtain ⟨l,a,hla,hfin⟩:=h3 (by omega);rw [hla,y8];rw [hla] at h1 h2;obtain ⟨_,g2⟩:=h2 a (by simp);obtain ⟨_,g3,g4⟩:=g2 hfin;refine ⟨a4V h1 rfl rfl rfl,fun a' ha'=>?_,fun _=>⟨l,_,rfl,?_⟩⟩
   ·simp at ha';subst ha';rw [<- c2];exact ⟨by unfold Ar.fin at *;simp only;omega,fun _=>⟨by omega,g3,g4⟩⟩
   ·unfold Ar.fin at *;simp only;omega
  ·rw [xd7 c2];refine ⟨a4p h1 fun c hc hal=>?_,fun a' ha'=>?_,fun _=>⟨_,_,rfl,?_⟩⟩
   ·obtain ⟨g1,g2⟩:=h2 c hc;unfold Ar.alike at hal;simp only at hal;obtain ⟨q1,q2,q3⟩:=hal;obtain ⟨q4,q5,q6⟩:=g2 q1;rw [q5] at q2;rw [q6] at q3;have m1:=hm k;have m2:=hm (k + 1);unfold a50 at m1 m2;have q3':(8<=b k - 1) ↔ (8<=b (k + 1) - 1):=by simpa using q3
    omega
   ·simp at ha';subst ha';exact ⟨by unfold Ar.fin;simp only;omega,fun _=>⟨c1,rfl,rfl⟩⟩
   ·unfold Ar.fin;simp only
theorem a1A {l:List Ar} (h:j0 1 l):l0 (d6 l) 255=l ↔ a0r l:=by
 constructor
 ·intro e;have:=(a1y (d6 l) (fun p=>a0X p h) (m6 h (by omega)) 255).1
  rwa [e] at this
 ·intro ha;exact a0C ⟨h,ha⟩
end Go.Proofs.YtejnpppejalhfadGreat
namespace Go.Proofs.YtejnpppejalhfadGreat
set_option maxRecDepth 100000
set_option maxHeartbeats 8000000
open Go.RowKit Go.Sort
section
variable {P:Program} {w:World} {ops:Array Oper} {rest:List Oper} {o:Oper} {a:Act} {Q:Exit->Act->World->Prop}
theorem b8 (hgd:o.guard=none) (dst:Option Tmp) (hdst:o.dst=dst) (L:List Value) (t:TypeId)
  (hrun:(execOp a.eval o).run P w=.ok (.value (.pointer (some ⟨w.heap.size,0,none⟩))) (w.alloc (.cells L.toArray t))) (B:Nat) (w0:World) (hb:Below B w0 w) (hB:B<=w.heap.size)
  (next:∀ g w',HoldL w' g L->B<=g->Below B w0 w'->(∀ k,k < w.heap.size->w'.heap[k]?=w.heap[k]?)->(∀ k,k < w.heap.size->k≠g)->wpList P ops Q rest (a.put dst (.pointer (some ⟨g,0,none⟩))) w') :
  wpList P ops Q (o::rest) a w :=
 a2c hgd dst hdst L t hrun B w0 hb hB fun w' h1 h2 _ h4=>next _ w' h1 hB h2 h4 fun _ h=>Nat.ne_of_lt h
theorem a1N (hgd:o.guard=none) (t:TypeId) (x:Operand) (ho:o.op=.box t x) (dst:Option Tmp) (hdst:o.dst=dst) (L:List Value) (hx:a.eval x=.agg L.toArray) (B:Nat) (w0:World) (hb:Below B w0 w) (hB:B<=w.heap.size)
  (next:∀ g w',HoldL w' g L->B<=g->Below B w0 w'->(∀ k,k < w.heap.size->w'.heap[k]?=w.heap[k]?)->(∀ k,k < w.heap.size->k≠g)->wpList P ops Q rest (a.put dst (.pointer (some ⟨g,0,none⟩))) w') :
  wpList P ops Q (o::rest) a w :=
 a1X hgd t x ho dst hdst L hx B w0 hb hB fun w' h1 h2 _ h4=>next _ w' h1 hB h2 h4 fun _ h=>Nat.ne_of_lt h
end
end Go.Proofs.YtejnpppejalhfadGreat
namespace Go.Proofs.YtejnpppejalhfadGreat
set_option maxRecDepth 100000
set_option maxHeartbeats 8000000
def t5:Int->List Ar->Int
 |e,[]=>e
 |_,a::l=>t5 a.fin l
theorem w5 {o x:List Ar}:∀ {e:Int},j0 e (o++x) ↔ j0 e o/\j0 (t5 e o) x:=by
 induction o with
 |nil=>intro e;simp [j0,t5]
 |cons a o ih=>intro e;simp only [List.cons_append,j0,t5,ih];exact ⟨fun ⟨a,b,c,d⟩=>⟨⟨a,b,c⟩,d⟩,fun ⟨⟨a,b,c⟩,d⟩=>⟨a,b,c,d⟩⟩
theorem a43 {o:List Ar} {b:Ar}:∀ {e:Int},t5 e (o++[b])=b.fin:=by
 induction o with
 |nil=>intro e;rfl
 |cons a o ih=>intro e;exact ih
theorem a2l {o:List Ar}:∀ {e:Int},j0 e o->e<=t5 e o:=by
 induction o with
 |nil=>intro e _;exact Int.le_refl _
 |cons a o ih=>
  intro e h;have:=ih h.2.2;have h1:=h.1;have h2:=h.2.1;unfold Ar.ok at h1;unfold t5;unfold Ar.fin at *;omega
def a3S (out:List Ar) (a:Ar):List Ar :=
 match out.getLast? with
 |some b=>if b.alike a then out.dropLast++[{ b with n:=b.n + a.n }] else out++[a]
 |none=>out++[a]
theorem a3U {l:List Ar}:∀ {e p:Int},j0 e l->t5 e l<=p->d6 l p=0:=by
 induction l with
 |nil=>intros;rfl
 |cons a l ih=>
  intro e p h hp;have:=a2l h.2.2;unfold t5 at hp;rw [l3 (by omega)];exact ih h.2.2 hp
theorem a5E {o x:List Ar}:∀ {e p:Int},j0 e (o++x)->d6 (o++x) p=d6 o p + d6 x p:=by
 induction o with
 |nil=>intro e p _;simp [d6]
 |cons a o ih=>
  intro e p h;obtain ⟨h1,h2,h3⟩:=h;have h4:=w5.1 h3;have h5:=a2l h4.1;simp only [List.cons_append,d6];by_cases c:a.pg<=p/\p < a.fin
  ·rw [xd6 c,xd6 c,m6 h4.2 (by omega)];omega
  ·rw [xd7 c,xd7 c];exact ih h3
def o5:List Ar->Int
 |[]=>0
 |a::l=>a.n + o5 l
end Go.Proofs.YtejnpppejalhfadGreat
namespace Go.Proofs.YtejnpppejalhfadGreat
set_option maxRecDepth 100000
set_option maxHeartbeats 8000000
open Go.RowKit Go.Sort
def arC (a:Ar):List Value:=[.int .i64 a.pg,.int .i64 a.n,.int .i64 a.prot,.bool a.z]
def CellsAr (w:World) (b o:Nat) (a:Ar):Prop :=
 w.cell? ⟨b,o,none⟩=some (.int .i64 a.pg)/\w.cell? ⟨b,o + 1,none⟩=some (.int .i64 a.n)/\w.cell? ⟨b,o + 2,none⟩=some (.int .i64 a.prot)/\w.cell? ⟨b,o + 3,none⟩=some (.bool a.z)
def SlAr (w:World) (v:Value) (L:List Ar):Prop :=
 (∃ p c,v=.slice p 0 c/\L=[])\/∃ b off cap,v=.slice (some ⟨b,off,none⟩) L.length cap/\b < w.heap.size/\L.length<=cap/\cap<=maxLen/\∀ i a,L[i]?=some a->CellsAr w b (off + i * 4) a
theorem CellsAr.grown {w w':World} {B b o:Nat} {a:Ar} (h:CellsAr w b o a) (hb:Below B w w') (hB:b < B):CellsAr w' b o a:=by
 obtain ⟨h0,h1,h2,h3⟩:=h;exact ⟨by rw [hb.cell (p:=⟨b,o,none⟩) hB];exact h0,by rw [hb.cell (p:=⟨b,o + 1,none⟩) hB];exact h1,by rw [hb.cell (p:=⟨b,o + 2,none⟩) hB];exact h2,by rw [hb.cell (p:=⟨b,o + 3,none⟩) hB];exact h3⟩
theorem SlAr.grown {w w':World} {v:Value} {L:List Ar} (h:SlAr w v L) (hb:Below w.heap.size w w'):SlAr w' v L:=by
 rcases h with h|⟨b,off,cap,h1,h2,h3,h4,h5⟩
 ·exact xc6 h
 ·exact xc3 ⟨b,off,cap,h1,xa6 h2 hb.size,h3,h4,fun i a ha=>(h5 i a ha).grown hb h2⟩
def a6l (page pages prot:Int):Bool:=decide (1<=page/\page<=255/\1<=pages/\pages<=256 - page/\0<=prot/\prot<=3)
theorem a7V (page pages prot:Int) (w:World):Calls Tryz.prog 143 #[.int .i64 page,.int .i64 pages,.int .i64 prot] w fun e w'=>e=.returned (.bool (a6l page pages prot))/\w=w':=by
 have hs:=hid (show a6l page pages prot=decide (1<=page/\page<=255/\1<=pages/\pages<=256 - page/\0<=prot/\prot<=3) from rfl);generalize a6l page pages prot=r at *
 go_enter Tryz.func143,Tryz.ntmps143
 go_wp2
 all_goals
  go_ret
  refine ⟨g9 ?_,rfl⟩;rw [hs.out,xb9];simp
  try omega
theorem a3a (a:Ar) (w:World):Calls Tryz.prog 144 #[.agg (arC a).toArray] w (RB (.int .i64 (wrap64 a.fin)) w):=by
 unfold arC Ar.fin
 go_enter Tryz.func144,Tryz.ntmps144
 go_wp2
 go_ret
 exact ⟨rfl,(by repeat (first|with_reducible exact Below.refl _ _|with_reducible refine Below.alloc ?_ (by (omega)) _))⟩
theorem a80 (a b:Ar) (w:World) (ha:wrap64 a.fin=a.fin):Calls Tryz.prog 145 #[.agg (arC a).toArray,.agg (arC b).toArray] w (RB (.bool (decide (a.alike b))) w):=by
 have HE:=hid (fun w=>a3a a w);rw [ha] at HE;clear ha;have HS:=hid (show decide (a.alike b)=decide (a.fin=b.pg/\a.prot=b.prot/\a.z=b.z) from rfl);generalize decide (a.alike b)=r at *;generalize a.fin=f at *;unfold arC at *;have key:∀ r1 r2 r3:Bool,(f == b.pg)=r1->(a.prot == b.prot)=r2->(a.z == b.z)=r3->Calls Tryz.prog 145 #[.agg [.int .i64 a.pg,.int .i64 a.n,.int .i64 a.prot,.bool a.z].toArray,.agg [.int .i64 b.pg,.int .i64 b.n,.int .i64 b.prot,.bool b.z].toArray] w (RB (.bool (r1 && r2 && r3)) w):=by
  intro r1 r2 r3 h1 h2 h3
  cases r1
  ·clear h2 h3
   go_enter Tryz.func145,Tryz.ntmps145
   go_wp2
   refine wp_region_quiet_below (by kernel_rfl) (by kernel_rfl) ?_
   repeat ((go_big_quiet_step ((go_at_call 144;exact Calls.regrown_of (HE.out _)))))
   refine wpQuiet_nil ?_;intro wq hw';obtain ⟨⟨dq,osq⟩,hw''⟩:=hw';have hbr:=d8 hw'';clear hw''
   first
    |(have hbn:=bt hbq hbr;clear hcq hfq hzq hbq hbr;have hbq:=hbn;clear hbn)
    |(have hbq:=hbr;clear hbr)
   obtain ⟨hcq,hfq,hzq⟩:=n8 hbq
   go_wp2
   go_ret
   exact ⟨rfl,(by repeat (first|with_reducible exact Below.refl _ _|with_reducible refine Below.alloc ?_ (by first|omega|(simp;done)) _|refine bt ?_ (by with_reducible assumption)))⟩
  cases r2
  ·clear h3
   go_enter Tryz.func145,Tryz.ntmps145
   go_wp2
   refine wp_region_quiet_below (by kernel_rfl) (by kernel_rfl) ?_
   repeat ((go_big_quiet_step ((go_at_call 144;exact Calls.regrown_of (HE.out _)))))
   refine wpQuiet_nil ?_;intro wq hw';obtain ⟨⟨dq,osq⟩,hw''⟩:=hw';have hbr:=d8 hw'';clear hw''
   first
    |(have hbn:=bt hbq hbr;clear hcq hfq hzq hbq hbr;have hbq:=hbn;clear hbn)
    |(have hbq:=hbr;clear hbr)
   obtain ⟨hcq,hfq,hzq⟩:=n8 hbq
   go_wp2
   go_ret
   exact ⟨rfl,(by repeat (first|with_reducible exact Below.refl _ _|with_reducible refine Below.alloc ?_ (by first|omega|(simp;done)) _|refine bt ?_ (by with_reducible assumption)))⟩
  ·go_enter Tryz.func145,Tryz.ntmps145
   go_wp2
   refine wp_region_quiet_below (by kernel_rfl) (by kernel_rfl) ?_
   repeat ((go_big_quiet_step ((go_at_call 144;exact Calls.regrown_of (HE.out _)))))
   refine wpQuiet_nil ?_;intro wq hw';obtain ⟨⟨dq,osq⟩,hw''⟩:=hw';have hbr:=d8 hw'';clear hw''
   first
    |(have hbn:=bt hbq hbr;clear hcq hfq hzq hbq hbr;have hbq:=hbn;clear hbn)
    |(have hbq:=hbr;clear hbr)
   obtain ⟨hcq,hfq,hzq⟩:=n8 hbq
   go_wp2
   go_ret
   exact ⟨g9 (by simp),(by repeat (first|with_reducible exact Below.refl _ _|with_reducible refine Below.alloc ?_ (by first|omega|(simp;done)) _|refine bt ?_ (by with_reducible assumption)))⟩
 have:=key _ _ _ rfl rfl rfl
 rwa [show (f == b.pg && a.prot == b.prot && a.z == b.z)=r from by rw [HS.out,xb9];simp [and_assoc]] at this
theorem i9 (n:Int) (h1:-1000000000000<=n) (h2:n<=1000000000000):wrap64 n=n:=by unfold wrap64;omega
theorem a0G {a:Ar} (h:a.ok):wrap64 a.fin=a.fin:=by unfold Ar.ok at h;unfold Ar.fin;exact i9 _ (by omega) (by omega)
theorem a1F {L:List Ar} (h:255 < L.length):b4 L=2:=by unfold b4;rw [xd6 h]
theorem a38 {L:List Ar} (h:¬ 255 < L.length) (hg:∀ i,i < L.length->a1m L i):b4 L=0:=by unfold b4;rw [xd7 h,xd6 ((a0x L).2 hg)]
theorem q7 {L:List Ar} (h:¬ 255 < L.length) {i:Nat} (hi:i < L.length) (hg:¬ a1m L i):b4 L=1:=by
 unfold b4;rw [xd7 h,xd7 fun g=>hg ((a0x L).1 g i hi)]
theorem a59 (p:Option Addr) (c:Nat) (w:World):Calls Tryz.prog 112 #[.slice p 0 c] w (RB (.int .i64 0) w):=by
 go_enter Tryz.func112,Tryz.ntmps112
 go_wp2
 go_loopw [10] (fun vi wr=>vi=.int .i64 0/\wr=w) (fun _ _=>0)
 case atStart=>exact ⟨rfl,rfl⟩
 case round=>
  obtain ⟨rfl,rfl⟩:=hrel
  go_wp2
  go_ret
  exact ⟨rfl,(by repeat ((with_reducible exact Below.refl _ _)))⟩
theorem a57 {L:List Ar} {a:Ar} (ha:L[0]?=some a) (h:a.ok):a1m L 0:=⟨a,ha,h,fun j b hj=>by omega⟩
theorem a0w {L:List Ar} {i:Nat} {a:Ar} (ha:L[i]?=some a) (h:¬ a.ok):¬ a1m L i:=by
 rintro ⟨c,hc,h1,_⟩;rw [ha] at hc;cases hc;exact h h1
theorem a26 {L:List Ar} {k:Nat} {a b:Ar} (ha:L[k + 1]?=some a) (hb:L[k]?=some b):a1m L (k + 1) ↔ a.ok/\b.fin<=a.pg/\¬ b.alike a:=by
 constructor
 ·rintro ⟨c,hc,h1,h2⟩;rw [ha] at hc;cases hc;exact ⟨h1,h2 k b rfl hb⟩
 ·rintro ⟨h1,h2,h3⟩;refine ⟨a,ha,h1,fun j d hj hd=>?_⟩;obtain rfl:j=k:=by omega
  rw [hb] at hd;cases hd;exact ⟨h2,h3⟩
theorem a5o {L:List Ar} {k:Nat} {b:Ar} (hb:L[k]?=some b) (h:a1m L k):b.ok:=by
 obtain ⟨c,hc,h1,_⟩:=h;rw [hb] at hc;cases hc;exact h1
theorem a5V (b off cap:Nat) (L:List Ar) (w:World) (hbl:b < w.heap.size) (hcap:L.length<=cap) (hmax:cap<=maxLen) (d9:∀ i a,L[i]?=some a->CellsAr w b (off + i * 4) a) :
  Calls Tryz.prog 112 #[.slice (some ⟨b,off,none⟩) L.length cap] w (RB (.int .i64 (b4 L)) w):=by
 unfold maxLen at hmax;by_cases hm:255 < L.length
 ·have HC:=hid (a1F hm);generalize b4 L=r at *
  go_enter Tryz.func112,Tryz.ntmps112
  go_wp2
  go_ret
  exact ⟨j7 HC.out.symm,(by repeat ((with_reducible exact Below.refl _ _)))⟩
 have HC:=hid d9;clear d9;obtain ⟨r,hr⟩:∃ r,r=b4 L:=⟨_,rfl⟩;rw [<- hr];have HR:=hid hr;clear hr
 go_enter Tryz.func112,Tryz.ntmps112
 go_wp2
 go_loopw [10] (fun vi wr=>∃ i:Nat,i<=L.length/\vi=.int .i64 i/\Below w.heap.size w wr/\Hid (∀ j,j < i->a1m L j)) (fun vi _=>L.length - (intOf vi).toNat)
 case atStart=>exact ⟨0,by omega,rfl,Below.refl _ _,fun j hj=>by omega⟩
 case round=>
  obtain ⟨i,hi,rfl,hb,HO⟩:=hrel;by_cases hlt:i < L.length
  ·obtain ⟨a,ha⟩:∃ a,L[i]?=some a:=⟨L[i],by simp [hlt]⟩;obtain ⟨c0,c1,c2,c3⟩:=(HC.out i a ha).grown hb hbl;have hbr:=z9 (xa6 hbl hb.size);have hsz:=hb.size;have HE:Hid True:=hid trivial;have HN:Hid True:=hid trivial;obtain ⟨s,hs⟩:∃ s,s=decide a.ok:=⟨_,rfl⟩;have HS:Hid (∀ w,Calls Tryz.prog 143 #[.int .i64 a.pg,.int .i64 a.n,.int .i64 a.prot] w (RB (.bool s) w)):=fun w=>by rw [hs];exact a5l (a7V a.pg a.n a.prot w)
   cases s
   ·have HX:=hid (a0w ha (by simpa using hs.symm));clear hs
    go_wp2
    refine wp_region_quiet_below (by kernel_rfl) (by kernel_rfl) ?_
    repeat ((go_big_quiet_step ((go_at_call 143;exact Calls.regrown_of (HS.out _)))))
    refine wpQuiet_nil ?_;intro wq hw';obtain ⟨⟨dq,osq⟩,hw''⟩:=hw';have hbr:=d8 hw'';clear hw''
    first
     |(have hbn:=bt hbq hbr;clear hcq hfq hzq hbq hbr;have hbq:=hbn;clear hbn)
     |(have hbq:=hbr;clear hbr)
    obtain ⟨hcq,hfq,hzq⟩:=n8 hbq
    go_wp2
    go_ret
    exact ⟨j7 (by rw [HR.out,q7 hm hlt HX.out]),(by repeat (first|with_reducible assumption|with_reducible refine Below.alloc ?_ (by (omega)) _|refine bt ?_ (by with_reducible assumption)))⟩
   have hok:a.ok:=by simpa using hs.symm
   clear hs
   match i with
   |0=>
    have HX:=hid (a57 ha hok);clear hok;simp only [Nat.zero_mul,xe6] at c0 c1 c2 c3
    go_wp2
    refine wp_region_quiet_below (by kernel_rfl) (by kernel_rfl) ?_
    repeat ((go_big_quiet_step ((go_at_call 143;exact Calls.regrown_of (HS.out _)))))
    refine wpQuiet_nil ?_;intro wq hw';obtain ⟨⟨dq,osq⟩,hw''⟩:=hw';have hbr:=d8 hw'';clear hw''
    first
     |(have hbn:=bt hbq hbr;clear hcq hfq hzq hbq hbr;have hbq:=hbn;clear hbn)
     |(have hbq:=hbr;clear hbr)
    obtain ⟨hcq,hfq,hzq⟩:=n8 hbq
    go_wp2
    go_roundw
    case rel=>
     refine ⟨0 + 1,by omega,by go_num,(by repeat (first|with_reducible assumption|with_reducible refine Below.alloc ?_ (by (omega)) _|refine bt ?_ (by with_reducible assumption))),fun j hj=>?_⟩;rcases xg8.1 hj with h|h
     ·exact HO.out j h
     ·subst h;exact HX.out
    case measure=>simp [intOf];omega
   |k + 1=>
    obtain ⟨q,hq⟩:∃ q,L[k]?=some q:=⟨L[k],by simp⟩;have hqo:=a5o hq (HO.out k (by omega));obtain ⟨d0,d1,d2,d3⟩:=(HC.out k q hq).grown hb hbl;have HA:=hid (a26 ha hq);have HE:=hid (fun w=>a3a q w);rw [a0G hqo] at HE;obtain ⟨o,ho⟩:∃ o,o=decide (q.alike a):=⟨_,rfl⟩;have HN:=hid (fun w=>a80 q a w (a0G hqo));rw [<- ho] at HN;unfold arC at HE HN;have HF:=hid (show q.fin=q.fin from rfl);by_cases hl:a.pg < q.fin
    ·have HX:Hid (¬ a1m L (k + 1)):=fun h=>by have:=(HA.out.1 h).2.1;omega
     have hl':decide (a.pg < q.fin)=true:=by simpa using hl
     clear hl hok hqo ho;generalize q.fin=f at *
     go_wp2
     refine wp_region_quiet_below (by kernel_rfl) (by kernel_rfl) ?_
     repeat ((go_big_quiet_step ((first|go_at_call 143;exact Calls.regrown_of (HS.out _)|go_at_call 144;exact Calls.regrown_of (HE.out _)))))
     refine wpQuiet_nil ?_;intro wq hw';obtain ⟨⟨dq,osq⟩,hw''⟩:=hw';have hbr:=d8 hw'';clear hw''
     first
      |(have hbn:=bt hbq hbr;clear hcq hfq hzq hbq hbr;have hbq:=hbn;clear hbn)
      |(have hbq:=hbr;clear hbr)
     obtain ⟨hcq,hfq,hzq⟩:=n8 hbq
     go_wp2
     go_ret
     exact ⟨j7 (by rw [HR.out,q7 hm hlt HX.out]),(by repeat (first|with_reducible assumption|with_reducible refine Below.alloc ?_ (by (omega)) _|refine bt ?_ (by with_reducible assumption)))⟩
    have hl':decide (a.pg < q.fin)=false:=by simpa using hl
    cases o
    ·have HX:Hid (a1m L (k + 1)):=HA.out.2 ⟨hok,by omega,by simpa using ho.symm⟩;clear hl hok hqo ho;generalize q.fin=f at *
     go_wp2
     refine wp_region_quiet_below (by kernel_rfl) (by kernel_rfl) ?_
     repeat ((go_big_quiet_step ((first|go_at_call 143;exact Calls.regrown_of (HS.out _)|go_at_call 144;exact Calls.regrown_of (HE.out _)|go_at_call 145;exact Calls.regrown_of (HN.out _)))))
     refine wpQuiet_nil ?_;intro wq hw';obtain ⟨⟨dq,osq⟩,hw''⟩:=hw';have hbr:=d8 hw'';clear hw''
     first
      |(have hbn:=bt hbq hbr;clear hcq hfq hzq hbq hbr;have hbq:=hbn;clear hbn)
      |(have hbq:=hbr;clear hbr)
     obtain ⟨hcq,hfq,hzq⟩:=n8 hbq
     go_wp2
     go_roundw
     case rel=>
      refine ⟨(k + 1) + 1,by omega,by go_num,(by repeat (first|with_reducible assumption|with_reducible refine Below.alloc ?_ (by (omega)) _|refine bt ?_ (by with_reducible assumption))),fun j hj=>?_⟩;rcases xg8.1 hj with h|h
      ·exact HO.out j h
      ·subst h;exact HX.out
     case measure=>simp [intOf];omega
    ·have HX:Hid (¬ a1m L (k + 1)):=fun h=>(HA.out.1 h).2.2 (by simpa using ho.symm);clear hl hok hqo ho;generalize q.fin=f at *
     go_wp2
     refine wp_region_quiet_below (by kernel_rfl) (by kernel_rfl) ?_
     repeat ((go_big_quiet_step ((first|go_at_call 143;exact Calls.regrown_of (HS.out _)|go_at_call 144;exact Calls.regrown_of (HE.out _)|go_at_call 145;exact Calls.regrown_of (HN.out _)))))
     refine wpQuiet_nil ?_;intro wq hw';obtain ⟨⟨dq,osq⟩,hw''⟩:=hw';have hbr:=d8 hw'';clear hw''
     first
      |(have hbn:=bt hbq hbr;clear hcq hfq hzq hbq hbr;have hbq:=hbn;clear hbn)
      |(have hbq:=hbr;clear hbr)
     obtain ⟨hcq,hfq,hzq⟩:=n8 hbq
     go_wp2
     go_ret
     exact ⟨j7 (by rw [HR.out,q7 hm hlt HX.out]),(by repeat (first|with_reducible assumption|with_reducible refine Below.alloc ?_ (by (omega)) _|refine bt ?_ (by with_reducible assumption)))⟩
  ·go_wp2
   go_ret
   have:i=L.length:=by omega
   subst this;refine ⟨j7 ?_,hb⟩;rw [HR.out,a38 hm HO.out]
theorem a1a {v:Value} {L:List Ar} {w:World} (h:SlAr w v L):Calls Tryz.prog 112 #[v] w (RB (.int .i64 (b4 L)) w):=by
 rcases h with ⟨p,c,rfl,rfl⟩|⟨b,off,cap,rfl,h2,h3,h4,h5⟩
 ·exact a59 p c w
 ·exact a5V b off cap L w h2 h3 h4 h5
theorem a0H {L:List Ar}:∀ {i:Nat} {a:Ar},L[i]?=some a->o5 (L.take (i + 1))=o5 (L.take i) + a.n:=by
 induction L with
 |nil=>intro i a h;simp at h
 |cons c L ih=>
  intro i a h
  cases i with
  |zero=>simp at h;subst h;simp [o5]
  |succ i=>simp only [xg9,o5];rw [ih (by simpa using h)];omega
theorem a2o {L:List Ar} (h:∀ (i:Nat) (a:Ar),L[i]?=some a->a.ok):∀ i:Nat,i<=L.length->0<=o5 (L.take i)/\o5 (L.take i)<=255 * (i:Int):=by
 intro i
 induction i with
 |zero=>intro _;simp [o5]
 |succ i ih=>
  intro hi;obtain ⟨h1,h2⟩:=ih (by omega);have ha:=h i L[i] (by simp [hi]);rw [a0H (a:=L[i]) (by simp [hi])];unfold Ar.ok at ha;omega
theorem t3 {L:List Ar} (h:a1d L):∀ (i:Nat) (a:Ar),L[i]?=some a->a.ok:=fun i a ha=>a5o ha ((a0x L).1 h i (by
 obtain ⟨hi,_⟩:=xa5.1 ha;exact hi))
theorem m9 {L:List Ar}:b4 L=0 ↔ L.length<=255/\a1d L:=by
 unfold b4
 split
 ·exact ⟨fun h=>by omega,fun h=>by omega⟩
 ·split
  ·exact ⟨fun _=>⟨by omega,by assumption⟩,fun _=>rfl⟩
  ·exact ⟨fun h=>by omega,fun h=>absurd h.2 (by assumption)⟩
theorem a5R {v:Value} {L:List Ar} {w:World} (h:SlAr w v L) (hc:b4 L≠0):Calls Tryz.prog 113 #[v] w (RB (.int .i64 0) w):=by
 have HC:=hid (a1a h);have hn:(b4 L == 0)=false:=by rw [xh0];exact hc
 clear h hc;generalize b4 L=r at *
 go_enter Tryz.func113,Tryz.ntmps113
 go_wp2_with (first|go_at_call 112;(with_reducible refine (HC.out).mono ?_);rintro e w1 ⟨rfl,hb1⟩)
 go_ret
 exact ⟨rfl,(by repeat ((with_reducible assumption)))⟩
theorem a4u {v:Value} {L:List Ar} {w:World} (h:SlAr w v L) (hc:b4 L=0):Calls Tryz.prog 113 #[v] w (RB (.int .i64 (o5 L)) w):=by
 have HC:=hid (a1a h);rw [hc] at HC;obtain ⟨hlen,hg⟩:=m9.1 hc;have hok:=t3 hg;have HB:=hid (a2o hok);clear hc hg;rcases h with ⟨p,c,rfl,rfl⟩|⟨b,off,cap,rfl,hbl,hcap,hmax,d9⟩
 ·go_enter Tryz.func113,Tryz.ntmps113
  go_wp2_with (first|go_at_call 112;(with_reducible refine (HC.out).mono ?_);rintro e w1 ⟨rfl,hb1⟩)
  go_loopw [3,11] (fun vn vi wr=>vn=.int .i64 0/\vi=.int .i64 0/\wr=w1) (fun _ _ _=>0)
  case atStart=>exact ⟨rfl,rfl,rfl⟩
  case round=>
   obtain ⟨rfl,rfl,rfl⟩:=hrel
   go_wp2
   go_ret
   exact ⟨rfl,(by repeat ((with_reducible assumption)))⟩
 ·unfold maxLen at hmax;have HL:=hid d9;have HO:=hid hok;clear d9 hok
  go_enter Tryz.func113,Tryz.ntmps113
  go_wp2_with (first|go_at_call 112;(with_reducible refine (HC.out).mono ?_);rintro e w1 ⟨rfl,hb1⟩)
  go_loopw [3,11] (fun vn vi wr=>∃ i:Nat,i<=L.length/\vi=.int .i64 i/\vn=.int .i64 (o5 (L.take i))/\Below w.heap.size w wr) (fun _ vi _=>L.length - (intOf vi).toNat)
  case atStart=>exact ⟨0,by omega,rfl,by simp [o5],hb1⟩
  case round=>
   obtain ⟨i,hi,rfl,rfl,hb⟩:=hrel;by_cases hlt:i < L.length
   ·obtain ⟨a,ha⟩:∃ a,L[i]?=some a:=⟨L[i],by simp [hlt]⟩;obtain ⟨c0,c1,c2,c3⟩:=(HL.out i a ha).grown hb hbl;have hbr:=z9 (xa6 hbl hb.size);have hsz:=hb.size;have hs:=a0H ha;have hn:=HB.out i hi;have hn2:=HO.out i a ha;unfold Ar.ok at hn2;have hw:wrap64 (o5 (L.take i) + a.n)=o5 (L.take i) + a.n:=i9 _ (by omega) (by omega);have HS:=hid hs;clear hs hn hn2;generalize o5 (L.take i)=q at *
    go_wp2
    go_roundw
    case rel=>exact ⟨i + 1,by omega,by go_num,by rw [HS.out,hw],(by repeat (first|with_reducible assumption|with_reducible refine Below.alloc ?_ (by (omega)) _))⟩
    case measure=>simp [intOf];omega
   ·go_wp2
    go_ret
    have:i=L.length:=by omega
    subst this;exact ⟨j7 (by simp),hb⟩
theorem a4R {v:Value} {L:List Ar} {w:World} (h:SlAr w v L) (hc:b4 L=0):Calls Tryz.prog 57 #[v] w (RB (.int .i64 (o5 L)) w):=by
 obtain ⟨hlen,hg⟩:=m9.1 hc;have hok:=t3 hg;have HB:=hid (a2o hok);clear hc hg;rcases h with ⟨p,c,rfl,rfl⟩|⟨b,off,cap,rfl,hbl,hcap,hmax,d9⟩
 ·go_enter Tryz.func57,Tryz.ntmps57
  go_wp2
  go_loopw [3,4] (fun vn vi wr=>vn=.int .i64 0/\vi=.int .i64 0/\wr=w) (fun _ _ _=>0)
  case atStart=>exact ⟨rfl,rfl,rfl⟩
  case round=>
   obtain ⟨rfl,rfl,rfl⟩:=hrel
   go_wp2
   go_ret
   exact ⟨rfl,(by repeat ((with_reducible exact Below.refl _ _)))⟩
 ·unfold maxLen at hmax;have HL:=hid d9;have HO:=hid hok;clear d9 hok
  go_enter Tryz.func57,Tryz.ntmps57
  go_wp2
  go_loopw [3,4] (fun vn vi wr=>∃ i:Nat,i<=L.length/\vi=.int .i64 i/\vn=.int .i64 (o5 (L.take i))/\Below w.heap.size w wr) (fun _ vi _=>L.length - (intOf vi).toNat)
  case atStart=>exact ⟨0,by omega,rfl,by simp [o5],Below.refl _ _⟩
  case round=>
   obtain ⟨i,hi,rfl,rfl,hb⟩:=hrel;by_cases hlt:i < L.length
   ·obtain ⟨a,ha⟩:∃ a,L[i]?=some a:=⟨L[i],by simp [hlt]⟩;obtain ⟨c0,c1,c2,c3⟩:=(HL.out i a ha).grown hb hbl;have hbr:=z9 (xa6 hbl hb.size);have hsz:=hb.size;have hs:=a0H ha;have hn:=HB.out i hi;have hn2:=HO.out i a ha;unfold Ar.ok at hn2;have hw:wrap64 (o5 (L.take i) + a.n)=o5 (L.take i) + a.n:=i9 _ (by omega) (by omega);have HS:=hid hs;clear hs hn hn2;generalize o5 (L.take i)=q at *
    go_wp2
    go_roundw
    case rel=>exact ⟨i + 1,by omega,by go_num,by rw [HS.out,hw],(by repeat ((with_reducible assumption)))⟩
    case measure=>simp [intOf];omega
   ·go_wp2
    go_ret
    have:i=L.length:=by omega
    subst this;exact ⟨j7 (by simp),hb⟩
def a3i:Ar:=⟨0,0,0,false⟩
def s8 (page:Int) (a:Ar):Bool:=decide (a.pg<=page/\page < a.fin)
def l4 (L:List Ar) (page:Int):Option Ar:=L.find? (s8 page)
theorem a2t {L:List Ar} {page:Int}:∀ {i:Nat} {a:Ar},(∀ (j:Nat) (b:Ar),j < i->L[j]?=some b->s8 page b=false)->L[i]?=some a->s8 page a=true->l4 L page=some a:=by
 unfold l4
 induction L with
 |nil=>intro i a _ h;simp at h
 |cons c L ih=>
  intro i a h1 h2 h3
  cases i with
  |zero=>simp at h2;subst h2;rw [List.find?_cons,h3]
  |succ i=>
   have hc:=h1 0 c (by omega) rfl;rw [List.find?_cons,hc];exact ih (i:=i) (fun j b hj hb=>h1 (j + 1) b (by omega) (by simpa using hb)) (by simpa using h2) h3
theorem a03 {L:List Ar} {page:Int} (h:∀ (j:Nat) (b:Ar),j < L.length->L[j]?=some b->s8 page b=false):l4 L page=none:=by
 unfold l4;rw [List.find?_eq_none];intro x hx;obtain ⟨j,hj,rfl⟩:=List.getElem_of_mem hx;have:=h j L[j] hj (by simp);simp [this]
def zl4:List Value:=[.int .i64 0,.int .i64 0,.int .i64 0,.bool false]
def a2i (o:Option Ar):Value:=.tuple #[.agg (arC (o.getD a3i)).toArray,.bool o.isSome]
theorem a4M {v:Value} {L:List Ar} {w:World} (page:Int) (h:SlAr w v L) (hok:∀ (i:Nat) (a:Ar),L[i]?=some a->a.ok):Calls Tryz.prog 58 #[v,.int .i64 page] w (RB (a2i (l4 L page)) w):=by
 have hsz:(Tryz.prog.info? 119).map (·.size)=some 4:=by kernel_rfl
 have Hsz:=hid hsz;clear hsz;have hbw:=Below.refl w.heap.size w;rcases h with ⟨p,c,rfl,rfl⟩|⟨b,off,cap,rfl,hbl,hcap,hmax,d9⟩
 ·go_enter Tryz.func58,Tryz.ntmps58
  go_wp2_with (first|(with_reducible refine l2 4 ?_);refine b8 rfl (some 4) rfl (zl4) 119 (by kernel_rfl) w.heap.size w hbw hbw.size ?_;intro g4 wn4 hL4 hB4 hbn hkn hnn;skip;clear hbw hkn hnn;have hbw:=hbn;clear hbn)
  go_loopw [6] (fun vi wr=>vi=.int .i64 0/\wr=wn4) (fun _ _=>0)
  case atStart=>exact ⟨rfl,rfl⟩
  case round=>
   obtain ⟨rfl,rfl⟩:=hrel
   go_wp2_with (first|(with_reducible refine j4 4 ?_);refine a6 rfl 119 (.tmp 4) (.tmp 39) rfl rfl g4 (zl4) (zl4) rfl rfl hL4 Hsz.out rfl rfl w.heap.size w hbw hB4 ?_;intro wp4 hLn hbn hon;skip;clear hL4 hbw hon;have hL4:=hLn;have hbw:=hbn;clear hLn hbn)
   refine bodyPost_ret (v:=.tuple #[.agg (zl4).toArray,.bool false]) (i4 rfl _ g4 (zl4) (.bool false) _ rfl rfl hL4 Tryz.underlying119 rfl Hsz.out) rfl ⟨by rw [(show l4 [] page=none from rfl)];rfl,hbw⟩
 ·unfold maxLen at hmax;have HL:=hid d9;have HO:=hid hok;clear d9 hok
  go_enter Tryz.func58,Tryz.ntmps58
  go_wp2_with (first|(with_reducible refine l2 4 ?_);refine b8 rfl (some 4) rfl (zl4) 119 (by kernel_rfl) w.heap.size w hbw hbw.size ?_;intro g4 wn4 hL4 hB4 hbn hkn hnn;skip;clear hbw hkn hnn;have hbw:=hbn;clear hbn)
  go_loopw [6] (fun vi wr=>∃ i:Nat,i<=L.length/\vi=.int .i64 i/\Below w.heap.size w wr/\HoldL wr g4 zl4/\Hid (∀ (j:Nat) (b:Ar),j < i->L[j]?=some b->s8 page b=false)) (fun vi _=>L.length - (intOf vi).toNat)
  case atStart=>exact ⟨0,by omega,rfl,hbw,hL4,fun j b hj=>by omega⟩
  case round=>
   clear hbw hL4;obtain ⟨i,hi,rfl,hbw,hL4,HN⟩:=hrel;by_cases hlt:i < L.length
   ·obtain ⟨a,ha⟩:∃ a,L[i]?=some a:=⟨L[i],by simp [hlt]⟩;obtain ⟨c0,c1,c2,c3⟩:=(HL.out i a ha).grown hbw hbl;have hao:=HO.out i a ha;have hfw:=a0G hao;have hbr:=z9 (xa6 hbl hbw.size);have hsz:=hbw.size;have HF:Hid (s8 page a=decide (a.pg<=page/\page < a.fin)):=hid rfl;have hdef:a.fin=a.pg + a.n:=rfl;rw [hdef] at hfw;have HD:=hid hdef;clear hdef hao;by_cases h1:a.pg<=page
    ·by_cases h2:page < a.fin
     ·have HX:Hid (l4 L page=some a):=a2t HN.out ha (by rw [HF.out];simp [h1,h2]);have h1':decide (a.pg<=page)=true:=by simpa using h1
      have h2':decide (page < a.pg + a.n)=true:=by simpa [<- HD.out] using h2
      clear h1 h2
      go_wp2
      refine wp_region_quiet_below (by kernel_rfl) (by kernel_rfl) ?_
      repeat ((go_big_quiet_step ((fail))))
      refine wpQuiet_nil ?_;intro wq hw';obtain ⟨⟨dq,osq⟩,hw''⟩:=hw';have hbr:=d8 hw'';clear hw''
      first
       |(have hbn:=bt hbq hbr;clear hcq hfq hzq hbq hbr;have hbq:=hbn;clear hbn)
       |(have hbq:=hbr;clear hbr)
      obtain ⟨hcq,hfq,hzq⟩:=n8 hbq;have hL4:=hL4.grown hbq hL4.lt;have hbw:=bt hbw hbq
      go_wp2_with (first|(with_reducible refine j4 4 ?_);refine a6 rfl 119 (.tmp 4) (.tmp 38) rfl rfl g4 ([.int .i64 a.pg,.int .i64 a.n,.int .i64 a.prot,.bool a.z]) (zl4) rfl rfl hL4 Hsz.out rfl rfl w.heap.size w hbw hB4 ?_;intro wp4 hLn hbn hon;skip;clear hL4 hbw hon;have hL4:=hLn;have hbw:=hbn;clear hLn hbn)
      refine bodyPost_ret (v:=.tuple #[.agg ([.int .i64 a.pg,.int .i64 a.n,.int .i64 a.prot,.bool a.z]).toArray,.bool true]) (i4 rfl _ g4 ([.int .i64 a.pg,.int .i64 a.n,.int .i64 a.prot,.bool a.z]) (.bool true) _ rfl rfl hL4 Tryz.underlying119 rfl Hsz.out) rfl ⟨by rw [HX.out];rfl,hbw⟩
     ·have HX:Hid (s8 page a=false):=by refine hid ?_;rw [HF.out];simp [h2]
      have h1':decide (a.pg<=page)=true:=by simpa using h1
      have h2':decide (page < a.pg + a.n)=false:=by simpa [<- HD.out] using h2
      clear h1 h2
      go_wp2
      refine wp_region_quiet_below (by kernel_rfl) (by kernel_rfl) ?_
      repeat ((go_big_quiet_step ((fail))))
      refine wpQuiet_nil ?_;intro wq hw';obtain ⟨⟨dq,osq⟩,hw''⟩:=hw';have hbr:=d8 hw'';clear hw''
      first
       |(have hbn:=bt hbq hbr;clear hcq hfq hzq hbq hbr;have hbq:=hbn;clear hbn)
       |(have hbq:=hbr;clear hbr)
      obtain ⟨hcq,hfq,hzq⟩:=n8 hbq;have hL4:=hL4.grown hbq hL4.lt;have hbw:=bt hbw hbq
      go_wp2
      go_roundw
      case rel=>
       refine ⟨i + 1,by omega,by go_num,hbw,hL4,fun j b hj hb=>?_⟩;rcases xg8.1 hj with h|h
       ·exact HN.out j b h hb
       ·subst h;rw [ha] at hb;cases hb;exact HX.out
      case measure=>simp [intOf];omega
    ·have HX:Hid (s8 page a=false):=by refine hid ?_;rw [HF.out];simp [h1]
     have h1':decide (a.pg<=page)=false:=by simpa using h1
     clear h1
     go_wp2
     refine wp_region_quiet_below (by kernel_rfl) (by kernel_rfl) ?_
     repeat ((go_big_quiet_step ((fail))))
     refine wpQuiet_nil ?_;intro wq hw';obtain ⟨⟨dq,osq⟩,hw''⟩:=hw';have hbr:=d8 hw'';clear hw''
     first
      |(have hbn:=bt hbq hbr;clear hcq hfq hzq hbq hbr;have hbq:=hbn;clear hbn)
      |(have hbq:=hbr;clear hbr)
     obtain ⟨hcq,hfq,hzq⟩:=n8 hbq;have hL4:=hL4.grown hbq hL4.lt;have hbw:=bt hbw hbq
     go_wp2
     go_roundw
     case rel=>
      refine ⟨i + 1,by omega,by go_num,hbw,hL4,fun j b hj hb=>?_⟩;rcases xg8.1 hj with h|h
      ·exact HN.out j b h hb
      ·subst h;rw [ha] at hb;cases hb;exact HX.out
     case measure=>simp [intOf];omega
   ·have:i=L.length:=by omega
    subst this;have HX:=hid (a03 HN.out)
    go_wp2_with (first|(with_reducible refine j4 4 ?_);refine a6 rfl 119 (.tmp 4) (.tmp 39) rfl rfl g4 (zl4) (zl4) rfl rfl hL4 Hsz.out rfl rfl w.heap.size w hbw hB4 ?_;intro wp4 hLn hbn hon;skip;clear hL4 hbw hon;have hL4:=hLn;have hbw:=hbn;clear hLn hbn)
    refine bodyPost_ret (v:=.tuple #[.agg (zl4).toArray,.bool false]) (i4 rfl _ g4 (zl4) (.bool false) _ rfl rfl hL4 Tryz.underlying119 rfl Hsz.out) rfl ⟨by rw [HX.out];rfl,hbw⟩
theorem a6G (prot:Int) (z:Bool) (h:0<=prot/\prot<=3) (w:World):Calls Tryz.prog 140 #[.int .i64 prot,.bool z] w fun e w'=>e=.returned (.int .i64 (1 + 2 * prot + (if z then 8 else 0)))/\w=w':=by
 obtain ⟨h1,h2⟩:=h
 cases z
 ·go_enter Tryz.func140,Tryz.ntmps140
  go_wp2
  go_ret
  exact ⟨j7 (by simp),rfl⟩
 ·go_enter Tryz.func140,Tryz.ntmps140
  go_wp2
  go_ret
  exact ⟨j7 (by simp),rfl⟩
def bdC (b:Int->Int):List Value:=(List.range 256).map fun p:Nat=>Value.int .i64 (b p)
theorem g8 (b:Int->Int):(bdC b).length=256:=by simp [bdC]
theorem a4F (b:Int->Int) (p:Nat) (h:p < 256):(bdC b)[p]?=some (.int .i64 (b p)):=by simp [bdC,h]
theorem a9g (b:Int->Int) (p:Nat) (n:Int):(bdC b).set p (.int .i64 n)=bdC (fun x=>if x=p then n else b x):=by
 apply xf3;intro i;by_cases hi:i < 256
 ·rw [a4F _ _ hi];by_cases e:p=i
  ·subst e;rw [List.getElem?_set_self (by rw [g8];exact hi)];simp
  ·rw [List.getElem?_set_ne e,a4F _ _ hi];rw [xd7 (by omega)]
 ·rw [xf9 (by rw [List.length_set,g8];omega),xf9 (by rw [g8];omega)]
theorem a3v {b b':Int->Int} (h:∀ p:Int,0<=p->p<=255->b p=b' p):bdC b=bdC b':=by
 unfold bdC;apply List.map_congr_left;intro p hp;rw [xh1] at hp;rw [h p (by omega) (by omega)]
theorem a0k (b:Int->Int):(bdC b).all (·.oneCell')=true:=by simp [bdC,Value.oneCell']
theorem a4W {o:List Ar} {a:Ar} {e:Int} (h:j0 e (o++[a])) (p:Int):d6 (o++[a]) p=if a.pg<=p/\p < a.fin then a.mk' else d6 o p:=by
 rw [a5E h];simp only [d6]
 split
 ·rename_i hc;have h2:=w5.1 h;rw [a3U h2.1 (by have:=h2.2.2.1;omega)];omega
 ·omega
theorem a4Y {L:List Ar} {i:Nat} {a:Ar} (ha:L[i]?=some a):L.take (i + 1)=L.take i++[a]:=by
 obtain ⟨hi,rfl⟩:=xa5.1 ha;rw [List.take_succ_eq_append_getElem hi]
theorem a5z {L:List Ar} {e:Int} (h:j0 e L) (i:Nat):j0 e (L.take i):=by
 rw [<- xh2 i L] at h;exact (w5.1 h).1
theorem a24 {o:List Ar} {a:Ar} {e:Int}:j0 e (o++[a]) ↔ j0 e o/\a.ok/\t5 e o<=a.pg:=by
 rw [w5];exact ⟨fun ⟨h1,h2,h3,_⟩=>⟨h1,h2,h3⟩,fun ⟨h1,h2,h3⟩=>⟨h1,h2,h3,trivial⟩⟩
def a0v (o:List Ar) (a:Ar) (q:Int) (x:Int):Int:=if a.pg<=x/\x < q then a.mk' else d6 o x
theorem a3u (o:List Ar) (a:Ar):bdC (a0v o a a.pg)=bdC (d6 o):=a3v fun p _ _=>by unfold a0v;rw [xd7 (by omega)]
theorem a34 (o:List Ar) (a:Ar) (q:Nat) (h:a.pg<=q):(bdC (a0v o a q)).set q (.int .i64 a.mk')=bdC (a0v o a ((q:Int) + 1)):=by
 rw [a9g];refine a3v fun p _ _=>?_;unfold a0v;by_cases e:p=q
 ·rw [xd6 e,xd6 (by omega)]
 ·rw [xd7 e];by_cases c:a.pg<=p/\p < q
  ·rw [xd6 c,xd6 (by omega)]
  ·rw [xd7 c,xd7 (by omega)]
theorem a4r {o:List Ar} {a:Ar} {e:Int} (h:j0 e (o++[a])):bdC (a0v o a a.fin)=bdC (d6 (o++[a])):=a3v fun p _ _=>by
 rw [a4W h];rfl
instance riseDec:(e:Int)->(l:List Ar)->Decidable (j0 e l)
 |_,[]=>isTrue trivial
 |e,a::l=>by
  unfold j0;have:=riseDec a.fin l
  infer_instance
def s7 (L:List Ar) (w:World) (e:Ending) (w':World):Prop :=
 ∃ b:Int->Int,e=.returned (.tuple #[.agg (bdC b).toArray,.bool (decide (j0 1 L))])/\Below w.heap.size w w'/\(j0 1 L->bdC b=bdC (d6 L))
end Go.Proofs.YtejnpppejalhfadGreat
