/- Texts that the proof stands on, one behind the other: Map, Sc20, Sc21, Sc22, Sc23, Sc24, Sc25, Sc26, Sc27, Sc28, Choose, Im1, Fl1, PlLnk2, PlKer, Bits, BitsF, Lk1, Lk2, Lk3, Ke1, PlLnk3, Lk4, Lk5, PlLnk4, Lk6, PlLnk5, PlFix, PlLay, PlLink, Lk8, Lk7, Lk9, Lk10, Lk11, Im2, Im3, Im4, Sc13, Im5, Im6, Im7, Im8, Lk12, Lk14, Lk15, Im9, Im10, Lk16, PlOf, PlRd, Im21, Lk17, Lk18, Ke2, Lk19, Ke3, Ke4, Ke5. -/
import Derived.MapKept
import Derived.Laws.IdiomCopy
import Derived.Laws.CopyRow
import Derived.Laws.Slices
import Derived.Lib.AppendZerosOnto
import Derived.Lib.Overlaps
import Derived.Laws.Externs
import Derived.Lib.QuietBelow
import Derived.Test.YtejnpppejalhfadGreatProg
import Derived.Handy
import Derived.BigQuiet
import Derived.Deep.QuietTactic
import Derived.WalkSpells
import Derived.Test.YtejnpppejalhfadGreatPFlatPeeks3
set_option linter.unusedVariables false
set_option linter.unusedSimpArgs false
namespace Go.Proofs.YtejnpppejalhfadGreat
set_option maxRecDepth 100000
set_option maxHeartbeats 8000000
open Go.RowKit Go.MapKept
structure MapAt (d:TypeDesc) (w:World) (r:Nat) (L:List (Value×Value)):Prop where
 held:∃ es c,w.heap[r]?=some (.map es c)/\es.toList.map (fun e=>(e.key,e.val))=L
 keys:∀ p ∈ L,IsKey d p.1
 once:(L.map (·.1)).Nodup
section
variable {P:Program} {d:TypeDesc} {w w':World} {r:Nat} {L:List (Value×Value)} {T K E:TypeId} {k v:Value}
theorem MapAt.lt (h:MapAt d w r L):r < w.heap.size:=by
 obtain ⟨es,c,hb,_⟩:=h.held;exact (xa7.1 hb).1
theorem MapAt.keep (h:MapAt d w r L) (hk:w'.heap[r]?=w.heap[r]?):MapAt d w' r L:=by
 obtain ⟨es,c,hb,hl⟩:=h.held;exact ⟨⟨es,c,hk.trans hb,hl⟩,h.keys,h.once⟩
theorem MapAt.below {B:Nat} (h:MapAt d w r L) (hb:Below B w w') (hr:r < B):MapAt d w' r L:=h.keep (hb.block r hr)
theorem MapAt.grown (h:MapAt d w r L) (hb:Below w.heap.size w w'):MapAt d w' r L:=h.below hb h.lt
theorem MapAt.made (d:TypeDesc) (w:World):MapAt d (w.alloc (.map #[] 0)) w.heap.size [] :=
 ⟨⟨#[],0,(heap_alloc w _).1,rfl⟩,by simp,by simp⟩
theorem a1G (hk:IsKey d k):∀ (l:List MapEntry) (i:Nat),(∀ e ∈ l,IsKey d e.key)->((l.map (·.key)).Nodup)->(∃ e ∈ l,e.key=k/\e.val=v)->∃ j,j < l.length/\Instr.findNow d k l i=some (some (i + j,v))/\((l[j]?).map (·.key))=some k:=by
 intro l i hl hn ⟨e,he,hek,hev⟩;rcases findNow_spec hk l i hl with ⟨_,h2⟩|⟨j,e',h1,h2,h3⟩
 ·exact (h2 e he hek).elim
 ·have hj:j < l.length:=(xa5.1 h2).1;have e':e'=e:=by
   obtain ⟨j2,hj2,hje⟩:=List.getElem_of_mem he;have a1:l[j]=e':=(xa5.1 h2).2;have:j=j2:=by
    have hnd:=xc7.1 hn;rcases Nat.lt_trichotomy j j2 with hlt|heq|hgt
    ·exact (hnd j j2 (by simpa using hj) (by simpa using hj2) hlt (by simp [a1,hje,h3,hek])).elim
    ·exact heq
    ·exact (hnd j2 j (by simpa using hj2) (by simpa using hj) hgt (by simp [a1,hje,h3,hek])).elim
   subst this;rw [<- a1,hje]
  subst e';exact ⟨j,hj,by rw [h1,hev],by rw [h2];simp [h3]⟩
theorem a0i (hk:IsKey d k) (l:List MapEntry) (i:Nat) (hl:∀ e ∈ l,IsKey d e.key) (hno:∀ e ∈ l,e.key≠k):Instr.findNow d k l i=some none:=by
 rcases findNow_spec hk l i hl with ⟨h1,_⟩|⟨j,e,_,h2,h3⟩
 ·exact h1
 ·exact (hno e (xc0 h2) h3).elim
theorem a0E (ht:P.underlying T=some (.map K E)) (hd:P.underlying K=some d) (h:MapAt d w r L) (hk:IsKey d k) (hm:(k,v) ∈ L) (ok:Bool) :
  (Instr.lookup T (.map (some r)) k ok).run P w=.ok (if ok then .tuple #[v,.bool true] else v) w:=by
 obtain ⟨es,c,hb,rfl⟩:=h.held;obtain ⟨e,he,hee⟩:=xi0.1 hm;simp only [Prod.mk.injEq] at hee;have hkeys:∀ e ∈ es.toList,IsKey d e.key:=fun e he=>h.keys (e.key,e.val) (xi0.2 ⟨e,he,rfl⟩);have hnd:(es.toList.map (·.key)).Nodup:=by have:=h.once;simpa [List.map_map,Function.comp_def] using this
 obtain ⟨j,_,hf,_⟩:=a1G (v:=v) hk es.toList 0 hkeys hnd ⟨e,he,hee.1,hee.2⟩;have h1:=run_checkKey (P:=P) (w:=w) hd hk es.isEmpty 9999;have h2:=run_findKey (P:=P) (w:=w) hd hf
 cases ok <;> simp [Instr.lookup,run_underlying ht,Go.MapKept.run_getObj_map hb,h1,h2,Result.andThen]
theorem a0q (ht:P.underlying T=some (.map K E)) (hd:P.underlying K=some d) (h:MapAt d w r L) (hk:IsKey d k) (hm:∀ v,(k,v) ∉ L) {z:Value} (hz:(zeroValue E).run P w=.ok z w) (ok:Bool) :
  (Instr.lookup T (.map (some r)) k ok).run P w=.ok (if ok then .tuple #[z,.bool false] else z) w:=by
 obtain ⟨es,c,hb,rfl⟩:=h.held;have hkeys:∀ e ∈ es.toList,IsKey d e.key:=fun e he=>h.keys (e.key,e.val) (xi0.2 ⟨e,he,rfl⟩);have hf:=a0i hk es.toList 0 hkeys (fun e he hek=>hm e.val (xi0.2 ⟨e,he,by rw [<- hek]⟩));have h1:=run_checkKey (P:=P) (w:=w) hd hk es.isEmpty 9999;have h2:=run_findKey (P:=P) (w:=w) hd hf
 cases ok <;> simp [Instr.lookup,run_underlying ht,Go.MapKept.run_getObj_map hb,h1,h2,hz,Result.andThen]
theorem a2m (ht:P.underlying T=some (.map K E)) (hd:P.underlying K=some d) (h:MapAt d w r L) (hk:IsKey d k) (hm:∀ v,(k,v) ∉ L) :
  ∃ w',(Instr.mapUpdate T (.map (some r)) k v).run P w=.ok () w'/\MapAt d w' r (L++[(k,v)])/\(∀ B w0,Below B w0 w->B<=r->Below B w0 w')/\w'.heap.size=w.heap.size/\(∀ g,g≠r->w'.heap[g]?=w.heap[g]?):=by
 obtain ⟨es,c,hb,rfl⟩:=h.held;have hkeys:∀ e ∈ es.toList,IsKey d e.key:=fun e he=>h.keys (e.key,e.val) (xi0.2 ⟨e,he,rfl⟩);have hno:∀ e ∈ es.toList,e.key≠k:=fun e he hek=>hm e.val (xi0.2 ⟨e,he,by rw [<- hek]⟩);have hf:=a0i hk es.toList 0 hkeys hno;have h1:=run_checkKey (P:=P) (w:=w) hd hk false 9999;have h2:=run_findKey (P:=P) (w:=w) hd hf;have y5:=heap_set (o':=Obj.map (es.push { key:=k,val:=v,born:=c }) (c + 1)) hb;refine ⟨{ w with heap:=w.heap.setIfInBounds r (.map (es.push { key:=k,val:=v,born:=c }) (c + 1)) },?_,⟨⟨_,_,y5.1,by simp⟩,?_,?_⟩,?_,by simp,fun g hg=>y5.2 g hg⟩
 ·simp [Instr.mapUpdate,run_underlying ht,Go.MapKept.run_getObj_map hb,h1,h2,Result.andThen,run_setObj_map _ hb]
 ·intro p hp;rcases xd1.1 hp with hp|hp
  ·exact h.keys p hp
  ·have:p=(k,v):=by simpa using hp
   subst this;exact hk
 ·rw [xi1,xi2];refine ⟨h.once,by simp,fun a ha b hb'=>?_⟩;have:b=k:=by simpa using hb'
  subst this;rintro rfl;obtain ⟨p,hp,hpk⟩:=xi0.1 ha;exact hm p.2 (by rw [<- hpk];exact hp)
 ·intro B w0 hB hBr;exact hB.trans ⟨rfl,rfl,rfl,by simp,fun g hg=>y5.2 g (by omega)⟩
theorem a2n {ops:Array Oper} {Q:Exit->Act->World->Prop} {t:Tmp} {ty:TypeId} {pos:String} {after:Array Edge} {rest:List Oper} {a:Act} (d:TypeDesc) (B:Nat) (w0:World) (hb:Below B w0 w) (hB:B<=w.heap.size)
  (next:∀ w',MapAt d w' w.heap.size []->Below B w0 w'->w'.heap.size=w.heap.size + 1->(∀ g,g < w.heap.size->w'.heap[g]?=w.heap[g]?)->wpList P ops Q rest (a.put (some t) (.map (some w.heap.size))) w'):wpList P ops Q (⟨some t,.makeMap T none,ty,pos,after,none⟩::rest) a w:=by
 refine wpList_plain rfl fun Kt hK=>?_;unfold Oper.wp;simp only [execOp,xi3,run_makeMap,Sem.run_bind,Result.andThen_ok,Sem.run_pure,Oper.upon_value];exact hK _ _ (next _ (MapAt.made d w) (hb.alloc hB _) (by simp) (fun g hg=>Below.heap_alloc w _ g hg))
theorem b5 (n:Int) {ops:Array Oper} {Q:Exit->Act->World->Prop} {T:TypeId} {m v:Operand} {ty:TypeId} {pos:String} {after:Array Edge} {g:Option (Nat×Bool)} {rest:List Oper} {a:Act} {w:World}
  (h:wpList P ops Q (⟨none,.insert T m (.const (.int .i64 n)) v,ty,pos,after,g⟩::rest) a w):wpList P ops Q (⟨none,.insert T m (.const (.int .i64 n)) v,ty,pos,after,g⟩::rest) a w:=h
theorem b6 {ops:Array Oper} {Q:Exit->Act->World->Prop} {m kx vx:Operand} {ty:TypeId} {pos:String} {after:Array Edge} {rest:List Oper} {a:Act} (ht:P.underlying T=some (.map K E)) (hd:P.underlying K=some d)
  (r:Nat) (k v:Value) (L:List (Value×Value)) (hmv:a.eval m=.map (some r)) (hkv:a.eval kx=k) (hvv:a.eval vx=v) (h:MapAt d w r L) (hk:IsKey d k) (hm:∀ v,(k,v) ∉ L) (B:Nat) (w0:World) (hb:Below B w0 w) (hBr:B<=r)
  (next:∀ w',MapAt d w' r (L++[(k,v)])->Below B w0 w'->w'.heap.size=w.heap.size->(∀ g,g≠r->w'.heap[g]?=w.heap[g]?)->wpList P ops Q rest a w'):wpList P ops Q (⟨none,.insert T m kx vx,ty,pos,after,none⟩::rest) a w:=by
 obtain ⟨w',hr,h1,h2,h3,h4⟩:=a2m (v:=v) ht hd h hk hm;refine wpList_plain rfl fun Kt hK=>?_;unfold Oper.wp;simp only [execOp,hmv,hkv,hvv,Sem.run_bind,hr,Result.andThen_ok,Sem.run_pure,Oper.upon_skip];exact hK _ _ (next w' h1 (h2 B w0 hb hBr) h3 h4)
end
end Go.Proofs.YtejnpppejalhfadGreat
namespace Go.Proofs.YtejnpppejalhfadGreat
set_option maxRecDepth 100000
set_option maxHeartbeats 8000000
open Go.RowKit Go.Sort Go.MapKept
structure MapG (D:TypeDesc) (es:Array MapEntry) (L:List (Value×Value)):Prop where
 held:es.toList.map (fun e=>(e.key,e.val))=L
 keys:∀ p ∈ L,IsKey D p.1
 once:(L.map (·.1)).Nodup
theorem MapG.nil (D:TypeDesc):MapG D #[] []:=⟨rfl,by simp,by simp⟩
theorem MapG.at_ {D:TypeDesc} {w:World} {r c:Nat} {es:Array MapEntry} {L:List (Value×Value)} (h:MapG D es L) (hr:w.heap[r]?=some (.map es c)):MapAt D w r L:=⟨⟨es,c,hr,h.held⟩,h.keys,h.once⟩
theorem MapG.size {D:TypeDesc} {es:Array MapEntry} {L:List (Value×Value)} (h:MapG D es L):es.size=L.length:=by
 have:=congrArg List.length h.held
 simpa using this
section
variable {P:Program} {n:Nat} {ds:List Deferred} {E:Fr} {w:World} {Q:Exit->Act->World->Prop} {ops:Array Oper} {rest:List Oper} {d:Nat} {dst:Option Nat} {ty:TypeId} {pos:String} {after:Array Edge} {F:Nat->Prop} {w0:World} {Γ:List Asr} {T:Tab} {D:TypeDesc}
theorem b0J (hS:St F w0 w Γ) {t Kt Et:TypeId} {m x:Operand} {r c i:Nat} {es:Array MapEntry} {L:List (Value×Value)} {k v:Value} (ht:P.underlying t=some (.map Kt Et)) (hK:P.underlying Kt=some D) (hm:E.ev m=some (.map (some r))) (hx:E.ev x=some k) (hi:Γ[i]?=some (.obj r (.map es c))) (hL:MapG D es L) (hk:IsKey D k) (hv:(k,v) ∈ L) (ok:Bool) :
  Gets P ⟨dst,.lookup t m x ok,ty,pos,after,none⟩ n ds E w (fun v' w'=>v'=(if ok then .tuple #[v,.bool true] else v)/\w'=w):=Gets.of_at fun a ha=>by
 have hat:=hL.at_ (hS.at_ hi).1;have hrun:=a0E ht hK hat hk hv ok;simp only [execOp,ha.ev hm,ha.ev hx,Sem.run_bind,hrun,Result.andThen_ok,Sem.run_pure]
theorem a9j (hS:St F w0 w Γ) {t Kt Et:TypeId} {m x:Operand} {r c i:Nat} {es:Array MapEntry} {L:List (Value×Value)} {k z:Value} (ht:P.underlying t=some (.map Kt Et)) (hK:P.underlying Kt=some D) (hz:(P.info? Et).bind (·.zero)=some z) (hm:E.ev m=some (.map (some r))) (hx:E.ev x=some k) (hi:Γ[i]?=some (.obj r (.map es c))) (hL:MapG D es L) (hk:IsKey D k) (hv:∀ v,(k,v) ∉ L) (ok:Bool) :
  Gets P ⟨dst,.lookup t m x ok,ty,pos,after,none⟩ n ds E w (fun v' w'=>v'=(if ok then .tuple #[z,.bool false] else z)/\w'=w):=Gets.of_at fun a ha=>by
 have hat:=hL.at_ (hS.at_ hi).1;obtain ⟨zi,hzi,hz2⟩:=xi4.1 hz;have hz':(zeroValue Et).run P w=.ok z w:=by simp [zeroValue,typeInfo,hzi,hz2]
 have hrun:=a0q ht hK hat hk hv hz' ok;simp only [execOp,ha.ev hm,ha.ev hx,Sem.run_bind,hrun,Result.andThen_ok,Sem.run_pure]
theorem a7W {t Kt Et:TypeId} {r c:Nat} {es:Array MapEntry} {L:List (Value×Value)} {k u v:Value} (ht:P.underlying t=some (.map Kt Et)) (hK:P.underlying Kt=some D) (hr:w.heap[r]?=some (.map es c)) (hL:MapG D es L) (hk:IsKey D k) (hm:(k,u) ∈ L) :
  ∃ es' j,(Instr.mapUpdate t (.map (some r)) k v).run P w=.ok () { w with heap:=w.heap.setIfInBounds r (.map es' c) }/\(∃ u',L[j]?=some (k,u'))/\MapG D es' (L.set j (k,v)):=by
 have hat:=hL.at_ hr;have hkeys:∀ e ∈ es.toList,IsKey D e.key:=fun e he=>hat.keys (e.key,e.val) (by rw [<- hL.held];exact xi0.2 ⟨e,he,rfl⟩);have hnd:(es.toList.map (·.key)).Nodup:=by
  have:=hat.once;rw [<- hL.held,List.map_map] at this;exact this
 have hmem:∃ e ∈ es.toList,e.key=k/\e.val=u:=by
  have:((k,u):Value×Value) ∈ es.toList.map (fun e=>(e.key,e.val)):=by rw [hL.held];exact hm
  obtain ⟨e,he,h2⟩:=xi0.1 this;simp only [Prod.mk.injEq] at h2;exact ⟨e,he,h2⟩
 obtain ⟨j,hj,hf,hkj⟩:=a1G (v:=u) hk es.toList 0 hkeys hnd hmem;rw [xd8] at hf;have h1:=run_checkKey (P:=P) (w:=w) hK hk false 9999;have h2:=run_findKey (P:=P) (w:=w) hK hf;have hjs:j < es.size:=by simpa using hj
 have hkj':(es[j]?.map (·.key)).getD k=k:=by
  rw [show es[j]?=es.toList[j]? by simp,hkj];rfl
 have h3:=run_keyThatStays (P:=P) (w:=w) hk;have hLj:∃ u',L[j]?=some (k,u'):=by
  have h4:=congrArg (fun l=>l[j]?) hL.held;simp only [xf7] at h4;have h5:es.toList[j]?=some es[j]:=by simp [hjs]
  rw [h5] at h4 hkj;simp only [xf8,Option.some.injEq] at h4 hkj;exact ⟨es[j].val,by rw [<- h4,hkj]⟩
 refine ⟨es.modify j fun e=>{ e with key:=k,val:=v },j,?_,hLj,⟨?_,?_,?_⟩⟩
 ·simp only [Instr.mapUpdate,run_underlying ht,Go.MapKept.run_getObj_map hr,h1,h2,Result.andThen_ok,Sem.run_bind,hkj',h3,run_setObj_map _ hr]
 ·refine xf3 fun m=>?_;rw [<- hL.held,Array.toList_modify,xf7,List.getElem?_modify,xc9,xf7,xg7];by_cases e:j=m
  ·subst e;have:es.toList[j]?=some es[j]:=by simp [hjs]
   rw [this,xd6 rfl,xd6 hj];simp
  ·simp [e]
 ·intro p hp;rcases xg3 hp with h|h
  ·exact hL.keys p h
  ·rw [h];exact hk
 ·obtain ⟨u',hq⟩:=hLj;rw [List.map_set];have:(L.map (·.1)).set j k=L.map (·.1):=by
   refine xf3 fun m=>?_;rw [xc9]
   split
   ·rename_i e;subst e;simp only [xg7,xf7,hq,xf8];rw [xd6 (a7 hq)]
   ·rfl
  rw [show (k,v).1=k from rfl,this];exact hL.once
theorem a6J {t Kt Et:TypeId} {r c:Nat} {es:Array MapEntry} {L:List (Value×Value)} {k v:Value} (ht:P.underlying t=some (.map Kt Et)) (hK:P.underlying Kt=some D) (hr:w.heap[r]?=some (.map es c)) (hL:MapG D es L) (hk:IsKey D k) (hm:∀ v,(k,v) ∉ L) :
  ∃ es' c',(Instr.mapUpdate t (.map (some r)) k v).run P w=.ok () { w with heap:=w.heap.setIfInBounds r (.map es' c') }/\MapG D es' (L++[(k,v)]):=by
 have hat:=hL.at_ hr;have hkeys:∀ e ∈ es.toList,IsKey D e.key:=fun e he=>hat.keys (e.key,e.val) (by rw [<- hL.held];exact xi0.2 ⟨e,he,rfl⟩);have hno:∀ e ∈ es.toList,e.key≠k:=fun e he hek=>by
  have:(e.key,e.val) ∈ L:=by rw [<- hL.held];exact xi0.2 ⟨e,he,rfl⟩
  exact hm e.val (by rw [<- hek];exact this)
 have hf:=a0i hk es.toList 0 hkeys hno;have h1:=run_checkKey (P:=P) (w:=w) hK hk false 9999;have h2:=run_findKey (P:=P) (w:=w) hK hf;refine ⟨es.push { key:=k,val:=v,born:=c },c + 1,?_,⟨by simp [hL.held],fun p hp=>?_,?_⟩⟩
 ·simp only [Instr.mapUpdate,run_underlying ht,Go.MapKept.run_getObj_map hr,h1,h2,Result.andThen_ok,Sem.run_bind,run_setObj_map _ hr]
 ·rcases xd1.1 hp with h|h
  ·exact hL.keys p h
  ·have:p=(k,v):=by simpa using h
   rw [this];exact hk
 ·rw [xi1,xi2];refine ⟨hL.once,by simp,fun a ha b hb'=>?_⟩;have:b=k:=by simpa using hb'
  subst this;rintro rfl;obtain ⟨p,hp,hpk⟩:=xi0.1 ha;exact hm p.2 (by rw [<- hpk];exact hp)
theorem St.updMap (hS:St F w0 w Γ) {r c i:Nat} {es:Array MapEntry} (hi:Γ[i]?=some (.obj r (.map es c))) (es':Array MapEntry) (c':Nat):St F w0 { w with heap:=w.heap.setIfInBounds r (.map es' c') } (Γ.set i (.obj r (.map es' c'))):=by
 have hr:=(hS.at_ hi).1;have y5:=heap_set (o':=Obj.map es' c') hr;exact hS.upd hi ⟨rfl,rfl,rfl,by simp,fun g _ hg=>y5.2 g (fun e=>hg (by simp [Asr.fp,e]))⟩ ⟨y5.1,rfl⟩ (fun q hq=>xc6 hq)
theorem b0l (hS:St F w0 w Γ) {t Kt Et:TypeId} {m x y:Operand} {r c i:Nat} {es:Array MapEntry} {L:List (Value×Value)} {k v:Value} (ht:P.underlying t=some (.map Kt Et)) (hK:P.underlying Kt=some D) (hm:E.ev m=some (.map (some r))) (hx:E.ev x=some k) (hy:E.ev y=some v) (hi:Γ[i]?=some (.obj r (.map es c))) (hL:MapG D es L) (hk:IsKey D k) (hn:∀ v,(k,v) ∉ L) :
  Gets P ⟨dst,.mapUpdate t m x y,ty,pos,after,none⟩ n ds E w (fun _ w'=>∃ es' c',MapG D es' (L++[(k,v)])/\St F w0 w' (Γ.set i (.obj r (.map es' c')))):=fun a ha K Q kk=>by
 obtain ⟨es',c',hrun,h1⟩:=a6J (v:=v) ht hK (hS.at_ hi).1 hL hk hn;have hex:(execOp a.eval ⟨dst,.mapUpdate t m x y,ty,pos,after,none⟩).run P w=.ok .skip { w with heap:=w.heap.setIfInBounds r (.map es' c') }:=by
  simp only [execOp,ha.ev hm,ha.ev hx,ha.ev hy,Sem.run_bind,hrun,Result.andThen_ok,Sem.run_pure]
 unfold Oper.wp;rw [hex];exact kk undef _ ⟨es',c',h1,hS.updMap hi es' c'⟩
theorem b0a (hS:St F w0 w Γ) {t Kt Et:TypeId} {m x y:Operand} {r c i:Nat} {es:Array MapEntry} {L:List (Value×Value)} {k u v:Value} (ht:P.underlying t=some (.map Kt Et)) (hK:P.underlying Kt=some D) (hm:E.ev m=some (.map (some r))) (hx:E.ev x=some k) (hy:E.ev y=some v) (hi:Γ[i]?=some (.obj r (.map es c))) (hL:MapG D es L) (hk:IsKey D k) (hu:(k,u) ∈ L) :
  Gets P ⟨dst,.mapUpdate t m x y,ty,pos,after,none⟩ n ds E w (fun _ w'=>∃ es' c' j u',L[j]?=some (k,u')/\MapG D es' (L.set j (k,v))/\St F w0 w' (Γ.set i (.obj r (.map es' c')))):=fun a ha K Q kk=>by
 obtain ⟨es',j,hrun,⟨u',h1⟩,h2⟩:=a7W (v:=v) ht hK (hS.at_ hi).1 hL hk hu;have hex:(execOp a.eval ⟨dst,.mapUpdate t m x y,ty,pos,after,none⟩).run P w=.ok .skip { w with heap:=w.heap.setIfInBounds r (.map es' c) }:=by
  simp only [execOp,ha.ev hm,ha.ev hx,ha.ev hy,Sem.run_bind,hrun,Result.andThen_ok,Sem.run_pure]
 unfold Oper.wp;rw [hex];exact kk undef _ ⟨es',c,j,u',h1,h2,hS.updMap hi es' c⟩
theorem a5D (hS:St F w0 w Γ) {t:TypeId}:Gets P ⟨dst,.makeMap t none,ty,pos,after,none⟩ n ds E w (fun v w'=>∃ r,v=.map (some r)/\St F w0 w' (.obj r (.map #[] 0)::Γ)):=fun a ha K Q k=>by
 have hex:(execOp a.eval ⟨dst,.makeMap t none,ty,pos,after,none⟩).run P w=.ok (.value (.map (some w.heap.size))) (w.alloc (.map #[] 0)):=by
  simp only [execOp];rfl
 unfold Oper.wp;rw [hex];exact k _ _ ⟨_,rfl,hS.new (World.grownBy_alloc w _ none) ⟨(heap_alloc w _).1,rfl⟩ (by simp [Asr.fp])⟩
end
end Go.Proofs.YtejnpppejalhfadGreat
namespace Go.Proofs.YtejnpppejalhfadGreat
set_option maxRecDepth 100000
set_option maxHeartbeats 8000000
open Go.RowKit Go.Sort
section
variable {P:Program} {n:Nat} {ds:List Deferred} {E:Fr} {w:World} {Q:Exit->Act->World->Prop} {ops:Array Oper} {rest:List Oper} {d:Nat} {dst:Option Nat} {ty:TypeId} {pos:String} {after:Array Edge} {F:Nat->Prop} {w0:World} {Γ:List Asr} {T:Tab}
theorem b1t {x y:Operand} {ats:Array TypeId} {m k:Int} (hx:E.ev x=some (.int .i64 m)) (hy:E.ev y=some (.int .i64 k)):∀ a,Has n ds a E->∀ dst,t8 P ⟨dst,.call { callee:=.builtin .min,args:=#[x,y],argTypes:=ats },ty,pos,after,none⟩ a (.int .i64 (min m k)):=fun a ha dst w=>by
 have e:(if k < m then k else m)=min m k:=by omega
 simp [execOp,resolve,invoke,builtin,ha.ev hx,ha.ev hy,Builtin.min_,Builtin.min2,Result.andThen,e]
theorem a60 (old c:List Value) (h:c.length<=old.length):l9 old 0 c=c++old.drop c.length:=by
 conv=>lhs;rw [<- xh2 c.length old]
 rw [a04 _ _ _ _ (by simp;omega),a36 _ _ (by simp;omega)]
theorem a81 (hS:St F w0 w Γ) (hT:TabOk P T) {t u e m cap g i:Nat} {ty2:TypeId} {x y:Operand} {old l:List UInt8} (ht:T.get t=some (.sl e 1 1 false [.int .u8 0])) (hx:E.ev x=some (.slice (some ⟨g,0,none⟩) m cap)) (hi:Γ[i]?=some (.row e 1 (.slice (some ⟨g,0,none⟩) m cap) (bR old))) (hy:E.ev y=some (.string ⟨l.toArray⟩)) :
  Gets P ⟨dst,.call { callee:=.builtin .copy,args:=#[x,y],argTypes:=#[t,u] },ty2,pos,after,none⟩ n ds E w (fun v' w'=>v'=.int .i64 ((l.take m).length:Nat)/\St F w0 w' (Γ.set i (.row e 1 (.slice (some ⟨g,0,none⟩) m cap) (bR (l.take m++old.drop (l.take m).length))))):=by
 intro a ha K Q k;obtain ⟨hown,hlen,hone⟩:=hS.at_ hi;rcases hown.2 with ⟨hv,_⟩|⟨g',cap',cur,hv,_,hg,hmc,hcm,hcs,htake⟩
 ·cases hv
 have hol:(bR old).length=old.length:=a02 old
 cases hv
 rw [hol] at hmc htake hx hi;simp only [hol] at k;obtain ⟨c,hc⟩:∃ c,c=l.take old.length:=⟨_,rfl⟩;have hcl:c.length=min l.length old.length:=by rw [hc,xa1];omega
 have hHL:HoldL w g cur.toList:=⟨e,hg⟩;have hcu:old.length<=cur.size:=by rw [hcs];omega
 obtain ⟨ji,zv,hu,hinfo,_,hs,hby,hz,hzl,_,hsz,hs0⟩:=hT.sl ht;have hst:=run_storeCells_cells (P:=P) g 0 (c.map fun b=>Value.int .u8 (b.toNat:Int)) 0 w (fun j hj=>by
  rw [xg7] at hj;rw [hHL.cell];simp only [xg2];exact ⟨_,xd0 (by simp;omega)⟩) (fun j _=>hHL.frozen _) (by simp [Value.oneCell'])
 have hcs2:((ByteArray.extract ⟨l.toArray⟩ 0 (Nat.min l.length old.length)).data.map fun b=>Value.int .u8 (b.toNat:Int)).toList=c.map fun b=>Value.int .u8 (b.toNat:Int):=by
  rw [a00,hc,show l.take old.length=l.take (Nat.min l.length old.length) by rw [List.take_eq_take_iff];show min old.length l.length=min (min l.length old.length) l.length;omega];simp
 have hrun:(Builtin.copy_ #[t,u] ty2 #[.slice (some ⟨g,0,none⟩) old.length cap,.string ⟨l.toArray⟩]).run P w=.ok (goInt c.length) (w.setCells g 0 (c.map fun b=>Value.int .u8 (b.toNat:Int))):=by
  simp [Builtin.copy_,run_underlying hu,Builtin.lenOf,Builtin.firstCells,sizeOf,typeInfo,hinfo,hs,ByteArray.size];have e:List.take (Nat.min l.length old.length) (l.map fun b=>Value.int .u8 (b.toNat:Int))=c.map fun b=>Value.int .u8 (b.toNat:Int):=by rw [<- List.map_take,hc,show l.take old.length=l.take (Nat.min l.length old.length) by rw [List.take_eq_take_iff];show min old.length l.length=min (min l.length old.length) l.length;omega]
  rw [e,hst,hcl];rfl
 have hex:(execOp a.eval ⟨dst,.call { callee:=.builtin .copy,args:=#[x,y],argTypes:=#[t,u] },ty2,pos,after,none⟩).run P w=.ok (.value (.int .i64 (c.length:Nat))) (w.setCells g 0 (c.map fun b=>Value.int .u8 (b.toNat:Int))):=by
  simp [execOp,resolve,invoke,builtin,ha.ev hx,ha.ev hy,hrun,Result.andThen,goInt]
 unfold Oper.wp;rw [hex];simp only [<- hc] at k;have hcel:(bR (c++old.drop c.length)).length=old.length:=by rw [a02,xd4,xi5];omega
 refine k _ _ ⟨rfl,hS.upd hi (s9 w g 0 _) ⟨⟨?_,.inr ⟨g,cap,_,by rw [hcel],xe7 _,a0T hg 0 _,by rw [hcel];exact hmc,hcm,by simp [a2p,hcs],?_⟩⟩,?_,?_⟩ (fun q hq=>xc6 hq)⟩
 ·rw [a3s,xg7,hcel,xd4,xi5];omega
 ·rw [hcel,Nat.mul_one,xe8,a60 _ _ (by simp;omega),a3s,xi1,xg7,List.take_append];rw [Nat.mul_one,a3s] at htake;have h1:(c.map fun b=>Value.int .u8 (b.toNat:Int)).take old.length=c.map fun b=>Value.int .u8 (b.toNat:Int):=xa0 (by rw [xg7];omega);rw [h1,xg7,List.map_drop,<- htake,List.drop_take]
 ·intro r hr;unfold bR at hr;obtain ⟨b,_,rfl⟩:=xi0.1 hr;rfl
 ·intro r hr;unfold bR at hr;obtain ⟨b,_,rfl⟩:=xi0.1 hr;rfl
end
end Go.Proofs.YtejnpppejalhfadGreat
namespace Go.Proofs.YtejnpppejalhfadGreat
set_option maxRecDepth 100000
set_option maxHeartbeats 8000000
open Go.RowKit Go.Sort Go.MapKept
section
variable {P:Program} {n:Nat} {ds:List Deferred} {E:Fr} {w:World} {Q:Exit->Act->World->Prop} {ops:Array Oper} {rest:List Oper} {d:Nat} {dst:Option Nat} {ty:TypeId} {pos:String} {after:Array Edge} {F:Nat->Prop} {w0:World} {Γ:List Asr} {T:Tab}
theorem a6K (hS:St F w0 w Γ) {t Kt Et:TypeId} {x:Operand} {r c i:Nat} {es:Array MapEntry} (ht:P.underlying t=some (.map Kt Et)) (hx:E.ev x=some (.map (some r))) (hi:Γ[i]?=some (.obj r (.map es c))) :
  Gets P ⟨dst,.call { callee:=.builtin .len,args:=#[x],argTypes:=#[t] },ty,pos,after,none⟩ n ds E w (fun v' w'=>v'=.int .i64 (es.size:Nat)/\w'=w):=Gets.of_at fun a ha=>by
 have hr:(Builtin.len_ #[t] ty #[.map (some r)]).run P w=.ok (.int .i64 es.size) w:=by
  simp [Builtin.len_,run_underlying ht,Go.MapKept.run_getObj_map (hS.at_ hi).1,goInt]
 simp [execOp,resolve,invoke,builtin,ha.ev hx,hr,Result.andThen]
end
end Go.Proofs.YtejnpppejalhfadGreat
namespace Go.Proofs.YtejnpppejalhfadGreat
set_option maxRecDepth 100000
set_option maxHeartbeats 8000000
open Go.RowKit Go.Sort
section
variable {P:Program} {n:Nat} {ds:List Deferred} {E:Fr} {w:World} {Q:Exit->Act->World->Prop} {ops:Array Oper} {rest:List Oper} {d:Nat} {dst:Option Nat} {ty:TypeId} {pos:String} {after:Array Edge} {F:Nat->Prop} {w0:World} {Γ:List Asr} {T:Tab}
theorem a91 {t yt:TypeId} {x y:Operand} {m:Int} (hx:E.ev x=some (.int .u64 m)) (hy:E.ev y=some (.int .u64 1)) (h0:0<=m) (h1:m<=18446744073709551615):∀ a,Has n ds a E->∀ dst,t8 P ⟨dst,.binOp .shr t x y yt,ty,pos,after,none⟩ a (.int .u64 (m / 2)):=fun a ha _ w=>by
 simp only [execOp,ha.ev hx,ha.ev hy];simp [eqGuard,binOp,go_sem]
theorem b0v {t yt:TypeId} {x y:Operand} {m:Int} (hx:E.ev x=some (.int .u64 m)) (hy:E.ev y=some (.int .u64 1)) (h0:0<=m) (h1:m<=18446744073709551615) (hd:Nat.blt d n=true) (k':WL P ops Q rest n ds ((d,.int .u64 (m / 2))::E) w):WL P ops Q (⟨some d,.binOp .shr t x y yt,ty,pos,after,none⟩::rest) n ds E w:=z5 (fun a ha=>a91 hx hy h0 h1 a ha _) hd k'
theorem a7M {m:Int} (h0:0<=m) (h1:m<=18446744073709551615):IntKind.u64.wrap (IntKind.i64.wrap m)=m:=by
 rw [IntKind.wrap_u64,IntKind.wrap_i64];omega
theorem a7F {t yt:TypeId} {x y:Operand} {m:Int} (hx:E.ev x=some (.int .u64 (IntKind.u64.wrap m))) (hy:E.ev y=some (.int .u64 1)) (hd:Nat.blt d n=true) (k':WL P ops Q rest n ds ((d,.int .u64 (IntKind.u64.wrap m / 2))::E) w):WL P ops Q (⟨some d,.binOp .shr t x y yt,ty,pos,after,none⟩::rest) n ds E w :=
 b0v hx hy (by rw [IntKind.wrap_u64];omega) (by rw [IntKind.wrap_u64];omega) hd k'
theorem a22 {m:Int} {h:Nat} (h0:0<=m) (h1:m<=18446744073709551615) (h2:m / 2=(h:Nat)) (h3:h<=9223372036854775807):IntKind.i64.wrap (IntKind.u64.wrap (IntKind.i64.wrap m) / 2)=(h:Nat):=by
 rw [a7M h0 h1,h2,a07 (by omega) (by omega)]
theorem a87 (hT:TabOk P T) {t e sz eb:Nat} {ag:Bool} {ez:List Value} {yt:TypeId} {x y:Operand} {p:Option Addr} {m c:Nat} (ht:T.get t=some (.sl e sz eb ag ez)) (hx:E.ev x=some (.slice p m c)) (hy:E.ev y=some (.slice none 0 0)):∀ a,Has n ds a E->∀ dst,t8 P ⟨dst,.binOp .eql t x y yt,ty,pos,after,none⟩ a (.bool p.isNone):=fun a ha _ w=>by
 obtain ⟨ji,zv,hu,_⟩:=hT.sl ht;have e:=Go.Lib.run_eql_slice_nil (P:=P) w t _ p m c 0 0 hu;simp only [execOp,ha.ev hx,ha.ev hy,eqGuard];simp [e,Result.andThen]
end
section
variable {P:Program} {n:Nat} {ds:List Deferred} {E:Fr} {w:World} {Q:Exit->Act->World->Prop} {ops:Array Oper} {S:World->Prop} {fuel:Nat} {li:Array Bool} {d:Nat} {op:Op} {ty:TypeId} {pos:String} {after:Array Edge} {F:Nat->Prop} {w0:World} {Γ:List Asr} {T:Tab}
theorem a72 {X:Type} (vf:X->Fr) (Γf:X->List Asr) (p:X->Prop) {x y:Code} {Q1 Q2:Exit->Act->World->Prop} (hx:WC P x (Exit.then (fun a' w'=>∃ m,Has n ds a' (vf m)/\(p m/\St F w0 w' (Γf m))) Q2) n ds E w) (hz:∀ m w',p m->St F w0 w' (Γf m)->WC P y Q1 n ds (vf m) w'):WC P x (Exit.then (y.wp P Q1) Q2) n ds E w:=fun a ha=>
 Code.wp_mono (fun e a' w' q=>by
  cases e with
  |normal=>obtain ⟨m,h1,h2,h3⟩:=q;exact hz m w' h2 h3 a' h1
  |exit i=>exact q
  |goto l=>exact q
  |ret=>exact q
  |panic c=>exact q
  |outgrown=>exact q) (hx a ha)
theorem a3q {X:Type} {vf:X->Fr} {Γf:X->List Asr} {p:X->Prop} {Q2:Exit->Act->World->Prop} (m:X) (h0:Fr.sub (vf m) E) (hp:p m) (hS:St F w0 w (Γf m)):WQ (Exit.then (fun a' w'=>∃ m,Has n ds a' (vf m)/\(p m/\St F w0 w' (Γf m))) Q2) .normal n ds E w:=fun _ ha=>⟨m,ha.sub h0,hp,hS⟩
theorem St.slMem {e sz:Nat} {v:Value} {rows:List (List Value)} (hS:St F w0 w Γ) (h:Asr.row e sz v rows ∈ Γ):Sl nF w sz v rows:=by
 obtain ⟨j,hj⟩:=xc8.1 h;exact hS.rowSl j hj
end
section
variable {P:Program} {n:Nat} {ds:List Deferred} {E:Fr} {w w':World} {Q:Exit->Act->World->Prop} {ops:Array Oper} {rest:List Oper} {d:Nat} {dst:Option Nat} {ty:TypeId} {pos:String} {after:Array Edge} {F:Nat->Prop} {w0:World} {Γ:List Asr} {T:Tab}
theorem a3P (g o k:Nat):(⟨g,o,none⟩:Addr).add k=⟨g,o + k,none⟩:=by unfold Addr.add;split <;> simp_all
theorem b00 (hT:TabOk P T) {t el sz eb m c:Nat} {p:Option Addr} {ag:Bool} {z:List Value} {x:Operand} (ht:T.get t=some (.sl el sz eb ag z)) (hx:E.ev x=some (.slice p m c)):∀ a,Has n ds a E->∀ dst,t8 P ⟨dst,.call { callee:=.builtin .cap,args:=#[x],argTypes:=#[t] },ty,pos,after,none⟩ a (.int .i64 (c:Nat)):=fun a ha _ w=>by
 obtain ⟨ji,zv,hu,_⟩:=hT.sl ht;have hr:(Builtin.cap_ #[t] ty #[.slice p m c]).run P w=.ok (.int .i64 (c:Nat)) w:=by
  simp [Builtin.cap_,run_underlying hu,goInt]
 simp [execOp,resolve,invoke,builtin,ha.ev hx,hr,Result.andThen]
def a0B (rows news:List (List Value)) (k:Nat):List (List Value):=rows.take k++(news++rows.drop (k + news.length))
theorem a2I {rows news:List (List Value)} {k:Nat} (hk:k<=rows.length):(a0B rows news k).length=max rows.length (k + news.length):=by
 unfold a0B;rw [xd4,xd4,xa1,xi5];omega
theorem a25 {rows:List (List Value)} {sz:Nat} (hs:∀ r ∈ rows,r.length=sz) (k:Nat):rows.flatten.take (k * sz)=(rows.take k).flatten:=by
 have h1:rows.flatten=(rows.take k).flatten++(rows.drop k).flatten:=by rw [<- xe4,xh2]
 by_cases hk:k<=rows.length
 ·have hl:(rows.take k).flatten.length=k * sz:=by
   rw [f8 (fun r hr=>hs r (xe3 hr)),xa1]
   congr 1;omega
  rw [h1,List.take_left' hl]
 ·rw [xa0 (by rw [f8 hs];exact xg1 _ (by omega)),xa0 (l:=rows) (by omega)]
theorem a6a {rows:List (List Value)} {sz:Nat} (hs:∀ r ∈ rows,r.length=sz) (k:Nat):rows.flatten.drop (k * sz)=(rows.drop k).flatten:=by
 have h1:rows.flatten=(rows.take k).flatten++(rows.drop k).flatten:=by rw [<- xe4,xh2]
 by_cases hk:k<=rows.length
 ·have hl:(rows.take k).flatten.length=k * sz:=by
   rw [f8 (fun r hr=>hs r (xe3 hr)),xa1]
   congr 1;omega
  rw [h1,List.drop_left' hl]
 ·rw [xi6 (by rw [f8 hs];exact xg1 _ (by omega)),xi6 (l:=rows) (by omega)];rfl
theorem a4C {e sz g m cap k:Nat} {rows news:List (List Value)} (h:Asr.holds w (.row e sz (.slice (some ⟨g,0,none⟩) m cap) rows)) (hk:k<=rows.length) (hn:k + news.length<=cap) (hs:∀ r ∈ news,r.length=sz) (h1:∀ r ∈ news,r.all (·.oneCell')=true) :
  ∃ w',(storeCells ⟨g,k * sz,none⟩ news.flatten).run P w=.ok () w'/\w.grownBy w' (some g)/\Asr.holds w' (.row e sz (.slice (some ⟨g,0,none⟩) (a0B rows news k).length cap) (a0B rows news k)):=by
 obtain ⟨ho,hlen,hone⟩:=h;rcases ho.2 with ⟨he,_⟩|⟨g',cap',cur,hv,_,hg,hnc,hcm,hcs,htake⟩
 ·cases he
 cases hv
 have hsl:news.flatten.length=news.length * sz:=f8 hs;have hfit:k * sz + news.flatten.length<=cur.size:=by
  rw [hsl,hcs,<- Nat.add_mul];exact xg1 _ hn
 have hst:=run_storeCells_at P g (k * sz) e news.flatten 0 cur w hg (by simpa using hfit) (fun v hv=>by
  obtain ⟨r,hr,hur⟩:=List.mem_flatten.1 hv;exact xb7.1 (h1 r hr) v hur)
 refine ⟨_,hst,⟨rfl,rfl,rfl,by simp [World.setRow,World.heap],fun j hj hne=>?_⟩,⟨⟨f8 (fun r hr=>?_),.inr ⟨g,cap,_,rfl,xe7 _,setRow_heap w g cur _ e (0,0) hg,?_,hcm,?_,?_⟩⟩,fun r hr=>?_,fun r hr=>?_⟩⟩
 ·have:g≠j:=fun e=>hne (by rw [e]);simp [World.setRow,Array.getElem?_modify,this]
 ·unfold a0B at hr;rcases xd1.1 hr with hr|hr
  ·exact hlen r (xe3 hr)
  ·rcases xd1.1 hr with hr|hr
   ·exact hs r hr
   ·exact hlen r (xi7 hr)
 ·rw [a2I hk];omega
 ·rw [hsl] at hfit |-;simp only [List.size_toArray,xd4,xa1,xi5,xf2,xe6,hsl];omega
 ·have hcl:cur.toList.length=cap * sz:=by simpa using hcs
  have hct:cur.toList.take (k * sz)=(rows.take k).flatten:=by
   rw [<- a25 hlen,<- htake,List.take_take]
   congr 1
   exact (Nat.min_eq_left (xg1 _ hk)).symm
  have hrl:(rows.take k).flatten.length=k * sz:=by
   rw [f8 (fun r hr=>hlen r (xe3 hr)),xa1]
   congr 1;omega
  simp only [xe6,xe8];rw [hct,a2I hk,List.append_assoc];unfold a0B;rw [xe4,xe4];rw [List.take_append,xa0 (l:=(rows.take k).flatten) (by rw [hrl];exact xg1 _ (by omega)),hrl]
  congr 1
  rw [List.take_append,xa0 (l:=news.flatten) (by rw [hsl,<- xi8];exact xg1 _ (by omega)),hsl]
  congr 1
  by_cases hc:k + news.length<=rows.length
  ·rw [show max rows.length (k + news.length)=rows.length by omega,<- xi8,<- xi8,<- a6a hlen,<- htake];rw [show k * sz + news.length * sz=(k + news.length) * sz by rw [Nat.add_mul],List.drop_take,<- xi8]
   congr 2
   omega
  ·rw [show max rows.length (k + news.length)=k + news.length by omega,xi6 (l:=rows) (by omega)];rw [<- xi8,<- xi8,show k + news.length - k - news.length=0 by omega];simp
 ·unfold a0B at hr;rcases xd1.1 hr with hr|hr
  ·exact hlen r (xe3 hr)
  ·rcases xd1.1 hr with hr|hr
   ·exact hs r hr
   ·exact hlen r (xi7 hr)
 ·unfold a0B at hr;rcases xd1.1 hr with hr|hr
  ·exact hone r (xe3 hr)
  ·rcases xd1.1 hr with hr|hr
   ·exact h1 r hr
   ·exact hone r (xi7 hr)
theorem RoAt.drop {G:Nat->Prop} {b off sz:Nat} {rows:List (List Value)} (h:RoAt G w b off sz rows) (k:Nat):RoAt G w b (off + k * sz) sz (rows.drop k) :=
 ⟨h.lt,h.nf,fun r hr=>h.len r (xi7 hr),fun r hr=>h.one r (xi7 hr),fun i r hr j u hj=>by
  rw [xe1] at hr;have:=h.cells (k + i) r hr j u hj
  rwa [show off + k * sz + i * sz + j=off + (k + i) * sz + j by rw [Nat.add_mul];omega]⟩
theorem St.shrink (hS:St F w0 w Γ) (i:Nat) {e sz g m cap:Nat} {rows:List (List Value)} (k:Nat) (hi:Γ[i]?=some (.row e sz (.slice (some ⟨g,0,none⟩) m cap) rows)) (hk:k<=rows.length):St F w0 w (Γ.set i (.row e sz (.slice (some ⟨g,0,none⟩) k cap) (rows.take k))):=by
 refine hS.upd hi ⟨rfl,rfl,rfl,xc4 _,fun _ _ _=>rfl⟩ ?_ (fun q hq=>xc6 hq);obtain ⟨ho,hlen,hone⟩:=hS.at_ hi;rcases ho.2 with ⟨he,_⟩|⟨g',cap',cur,hv,_,hg,hnc,hcm,hcs,htake⟩
 ·cases he
 cases hv
 refine ⟨⟨f8 (fun r hr=>hlen r (xe3 hr)),.inr ⟨g,cap,cur,by rw [xa1,Nat.min_eq_left hk],xe7 _,hg,by rw [xa1];omega,hcm,hcs,?_⟩⟩,fun r hr=>hlen r (xe3 hr),fun r hr=>hone r (xe3 hr)⟩;rw [xa1,Nat.min_eq_left hk,<- a25 hlen,<- htake,List.take_take,Nat.min_eq_left (xg1 _ hk)]
end
section
variable {P:Program} {n:Nat} {ds:List Deferred} {E:Fr} {w w':World} {Q:Exit->Act->World->Prop} {ops:Array Oper} {rest:List Oper} {d:Nat} {dst:Option Nat} {ty:TypeId} {pos:String} {after:Array Edge} {F:Nat->Prop} {w0:World} {Γ:List Asr} {T:Tab}
def a6x (p:Option Addr) (m c j sz:Nat):Value:=.slice (if c=j then p else p.map fun q=>q.add (j * sz)) (m - j) (c - j)
theorem a4T (hT:TabOk P T) {t el sz eb m c j:Nat} {p:Option Addr} {ag:Bool} {z:List Value} {x y:Operand} {i:Int} (ht:T.get t=some (.sl el sz eb ag z)) (hx:E.ev x=some (.slice p m c)) (hy:E.ev y=some (.int .i64 i)) (hj:(j:Int)=i) (hm:j<=m):∀ a,Has n ds a E->∀ dst,t8 P ⟨dst,.slice t x (some y) none none,ty,pos,after,none⟩ a (a6x p m c j sz):=fun a ha _ w=>by
 obtain ⟨ji,zv,hu,hinfo,_,hs,_⟩:=hT.sl ht;subst hj;have hb:(Instr.sliceBounds true m c (some (.int .i64 (j:Int))) none none).run P w=.ok (j,m,c) w:=by
  simp [Instr.sliceBounds,run_sliceBound,hm]
 simp only [execOp,ha.ev hx,ha.ev hy,xf8,xi3];simp [Instr.sliceAt,Instr.slice,run_underlying hu,hb,sizeOf,typeInfo,hinfo,hs,a6x]
end
section
variable {P:Program} {n:Nat} {ds:List Deferred} {E:Fr} {w w':World} {Q:Exit->Act->World->Prop} {ops:Array Oper} {rest:List Oper} {d:Nat} {dst:Option Nat} {ty:TypeId} {pos:String} {after:Array Edge} {F:Nat->Prop} {w0:World} {Γ:List Asr} {T:Tab}
theorem a85 {t yt:TypeId} {x y:Operand} {p:Option Addr} (ht:P.underlying t=some (.pointer (P.pointee t))) (hx:E.ev x=some (.pointer p)) (hy:E.ev y=some (.pointer none)):∀ a,Has n ds a E->∀ dst,t8 P ⟨dst,.binOp .eql t x y yt,ty,pos,after,none⟩ a (.bool p.isNone):=fun a ha _ w=>by
 have e:=run_eql_pointer_nil (P:=P) (w:=w) t p ht;simp only [execOp,ha.ev hx,ha.ev hy,eqGuard];simp [e,Result.andThen]
end
def a7r (P:Program) (t:TypeId) (name:String) (f:FuncId):Bool:=match P.info? t,P.underlying t with
 |some i,some (.pointer _)=>match i.methods.find? (·.name == name) with
  |some m=>m.path.toList.isEmpty && (match m.func with
   |some (g,true)=>Nat.beq g f
   |_=>false)
  |none=>false
 |_,_=>false
section
variable {P:Program} {w:World}
theorem a4l {t:TypeId} {name:String} {f:FuncId} (h:a7r P t name f=true) (k:Nat) (v:Value):(method (k + 1) t v name).run P w=.ok (f,v) w:=by
 unfold a7r at h
 split at h
 ·rename_i i e hi hu
  split at h
  ·rename_i m hm;rw [xb6] at h;obtain ⟨h1,h2⟩:=h
   split at h2
   ·rename_i g hf;obtain rfl:=xa8 h2;have hp:m.path.toList=[]:=by simpa using h1
    have hi2:(typeInfo t).run P w=.ok i w:=by
     unfold typeInfo;simp [Sem.run_bind,run_program,Result.andThen_ok,hi]
    have hu2:(underlying t).run P w=.ok (.pointer e) w:=by
     unfold underlying;simp [Sem.run_bind,run_program,Result.andThen_ok,hu]
    unfold method;simp only [Sem.run_bind,hi2,Result.andThen_ok,hm,hp,hf,follow,Sem.run_pure,receiverAt,hu2,Place.get]
   ·cases h2
  ·cases h
 ·cases h
theorem a6I {E:Fr} {n:Nat} {ds:List Deferred} {dst:Option Nat} {ty:TypeId} {pos:String} {after:Array Edge} {f:FuncId} {x:Operand} {name:String} {args:Array Operand} {ats:Array TypeId} {vs:List Value} {t:TypeId} {u:Value} {Φ:Value->World->Prop} (hx:E.ev x=some (.iface t u)) (hv:E.evs args.toList=some vs) (hm:a7r P t name f=true) (h:Fn P f (u::vs) w Φ) :
  Gets P ⟨dst,.call { callee:=.invoke x name,args:=args,argTypes:=ats },ty,pos,after,none⟩ n ds E w Φ:=by
 intro a ha K Q k;obtain ⟨⟨fn,hok⟩,hc⟩:=h;have e1:args.map a.eval=vs.toArray:=by rw [<- ha.evs hv,<- xc1,xc2]
 have hd:0 < Made.depth:=by decide
 obtain ⟨kk,hk⟩:∃ kk,P.types.size + Made.depth=kk + 1:=⟨P.types.size + Made.depth - 1,by omega⟩;have hrun:(execOp a.eval ⟨dst,.call { callee:=.invoke x name,args:=args,argTypes:=ats },ty,pos,after,none⟩).run P w=.ok (.enter f (u::vs).toArray) w:=by
  simp only [execOp,resolve,ha.ev hx,Sem.run_bind,Sem.run_pure,Result.andThen_ok,invoke,e1];have e2:(#[Value.iface t u]++vs.toArray)[0]?=some (.iface t u):=by simp
  have e3:(#[Value.iface t u]++vs.toArray).extract 1 (#[Value.iface t u]++vs.toArray).size=vs.toArray:=by simp
  rw [e2,e3];simp only [callMethod,Sem.run_bind,run_program,Result.andThen_ok];rw [hk,a4l hm];simp only [Result.andThen_ok];rw [a0d hok];simp
 unfold Oper.wp;rw [hrun];exact hc.mono fun e w' ⟨v,he,hΦ⟩=>by subst he;exact k v w' hΦ
end
theorem i3 (x a b:Int) (w:World):Fn Tryz.prog 38 [.int .i64 x,.int .i64 a,.int .i64 b] w (RBf (.bool (decide (a<=x/\x<=b))) w):=by
 refine yEn Tryz.func38 Tryz.ntmps38 (by kernel_rfl) (by kernel_rfl) rfl rfl ?_;have hS:=St.start w
 repeat' (first|(with_reducible apply a4 a0);rfl;rfl;rfl|refine yDn (by with_reducible constructor) ?_|(with_reducible apply i6);(iterate 4 rfl);assumption|(with_reducible apply q8);(iterate 4 rfl);assumption;rfl|(with_reducible apply d7);rfl;assumption;rfl;rfl|(with_reducible apply a9);rfl;assumption;rfl;rfl|(with_reducible apply a0f);rfl;rfl;rfl;all_goals (intro hb hp;try (exfalso;omega)))
 ·(refine i2 rfl ?_)
  exact ⟨by simp [hp],hS⟩
 ·(refine i2 rfl ?_)
  exact ⟨by simp;omega,hS⟩
theorem n7 {α:Type} {l:List α} {i:Nat} (h:(i:Int) < l.length):∃ x,l[i]?=some x:=⟨l[i]'(by omega),by simp⟩
def ftC (p:Int×Int):List Value:=[.int .i64 p.1,.int .i64 p.2]
theorem a7g (a b:Int×Int):a6M Tryz.prog 76 (ftC a) (ftC b) (decide (a=b)):=by
 refine ⟨fun w=>?_,by kernel_rfl⟩;obtain ⟨a1,a2⟩:=a;obtain ⟨b1,b2⟩:=b;unfold ftC;simp [go_sem]
 repeat' split
 all_goals simp_all
theorem a8v (p:Pc) (live:Bool) (w:World):Fn Tryz.prog 107 [.agg (prC p).toArray,.bool live] w (RBf (.bool (m7 p live)) w):=by
 obtain ⟨r0,r1,r2,r3,r4,r5,r6,r7,pc,state,code,fk,fa⟩:=p;unfold prC;dsimp only;by_cases hs:state=1
 ·have hd1:decide (state=1)=true:=xh4 hs
  cases live with
  |false=>
   refine yEn Tryz.func107 Tryz.ntmps107 (by kernel_rfl) (by kernel_rfl) rfl rfl ?_;have hS:=St.start w
   repeat' (first|(with_reducible apply a4 a0);rfl;rfl;rfl|(with_reducible apply a5);rfl;(apply Ld.sc a0;rfl;exact hS.blkC 0 rfl rfl);rfl|refine yDn (by with_reducible constructor) ?_|(with_reducible apply q8);(iterate 4 rfl);rfl;rfl|(with_reducible apply a9);rfl;rfl;rfl;rfl|(with_reducible apply b7);rfl;assumption|(with_reducible apply f5 hS);rfl;rfl;rfl;clear hS;intro g w' hS)
   (refine i2 rfl ?_)
   exact ⟨by unfold m7;simp [hs,hd1],hS.sub (xg6 _)⟩
  |true=>
   by_cases hc:code=0
   ·have hdc:decide (code=0)=true:=xh4 hc;refine yEn Tryz.func107 Tryz.ntmps107 (by kernel_rfl) (by kernel_rfl) rfl rfl ?_;have hS:=St.start w
    repeat' (first|(with_reducible apply a4 a0);rfl;rfl;rfl|(with_reducible apply a5);rfl;(apply Ld.sc a0;rfl;exact hS.blkC 0 rfl rfl);rfl|(with_reducible apply a0m a0);rfl;rfl;exact (rfl:_=some [_,_]);rfl|refine yDn (by with_reducible constructor) ?_|((with_reducible apply i6);(iterate 4 rfl);first|rfl|assumption)|(with_reducible apply d7);rfl;(first|rfl|assumption);rfl;rfl|(with_reducible apply b7);rfl;assumption|(with_reducible apply f5 hS);rfl;rfl;rfl;clear hS;intro g w' hS|(with_reducible apply a0y a0);rfl;rfl;rfl;refine ⟨_,hS.blkRk 0 11 2 rfl,rfl,?_⟩|(with_reducible apply a3T);rfl;rfl;exact a7g (fk,fa) (0,0);rfl)
    (refine i2 rfl ?_)
    exact ⟨by unfold m7;simp [hs,hc],hS.sub (xg6 _)⟩
   ·have hdc:decide (code=0)=false:=xh3 hc;refine yEn Tryz.func107 Tryz.ntmps107 (by kernel_rfl) (by kernel_rfl) rfl rfl ?_;have hS:=St.start w
    repeat' (first|(with_reducible apply a4 a0);rfl;rfl;rfl|(with_reducible apply a5);rfl;(apply Ld.sc a0;rfl;exact hS.blkC 0 rfl rfl);rfl|refine yDn (by with_reducible constructor) ?_|(with_reducible apply i6);(iterate 4 rfl);rfl|(with_reducible apply q8);(iterate 4 rfl);assumption;rfl|(with_reducible apply d7);rfl;rfl;rfl;rfl|(with_reducible apply a9);rfl;assumption;rfl;rfl|(with_reducible apply b7);rfl;assumption|(with_reducible apply f5 hS);rfl;rfl;rfl;clear hS;intro g w' hS)
    (refine i2 rfl ?_)
    exact ⟨by unfold m7;simp [hs,hc],hS.sub (xg6 _)⟩
 have hd1:decide (state=1)=false:=xh3 hs;by_cases hs2:state=2
 ·have hd2:decide (state=2)=true:=xh4 hs2
  cases live with
  |false=>
   refine yEn Tryz.func107 Tryz.ntmps107 (by kernel_rfl) (by kernel_rfl) rfl rfl ?_;have hS:=St.start w
   repeat' (first|(with_reducible apply a4 a0);rfl;rfl;rfl|(with_reducible apply a5);rfl;(apply Ld.sc a0;rfl;exact hS.blkC 0 rfl rfl);rfl|(with_reducible apply a0m a0);rfl;rfl;exact (rfl:_=some [_,_]);rfl|refine yDn (by with_reducible constructor) ?_|(with_reducible apply i6);(iterate 4 rfl);rfl|(with_reducible apply d7);rfl;rfl;rfl;rfl|(with_reducible apply b7);rfl;assumption|(with_reducible apply j5);rfl;assumption|(with_reducible apply f5 hS);rfl;rfl;rfl;clear hS;intro g w' hS|(with_reducible apply a0y a0);rfl;rfl;rfl;refine ⟨_,hS.blkRk 0 11 2 rfl,rfl,?_⟩|(with_reducible apply a3T);rfl;rfl;exact a7g (fk,fa) (0,0);rfl)
   (refine i2 rfl ?_)
   exact ⟨by unfold m7;simp [hs,hs2],hS.sub (xg6 _)⟩
  |true=>
   refine yEn Tryz.func107 Tryz.ntmps107 (by kernel_rfl) (by kernel_rfl) rfl rfl ?_;have hS:=St.start w
   repeat' (first|(with_reducible apply a4 a0);rfl;rfl;rfl|(with_reducible apply a5);rfl;(apply Ld.sc a0;rfl;exact hS.blkC 0 rfl rfl);rfl|refine yDn (by with_reducible constructor) ?_|(with_reducible apply q8);(iterate 4 rfl);rfl;rfl|(with_reducible apply a9);rfl;rfl;rfl;rfl|(with_reducible apply b7);rfl;assumption|(with_reducible apply j5);rfl;assumption|(with_reducible apply f5 hS);rfl;rfl;rfl;clear hS;intro g w' hS)
   (refine i2 rfl ?_)
   exact ⟨by unfold m7;simp [hs,hs2],hS.sub (xg6 _)⟩
 have hd2:decide (state=2)=false:=xh3 hs2;by_cases hs3:state=3;rotate_left
 ·have hd3:decide (state=3)=false:=xh3 hs3;refine yEn Tryz.func107 Tryz.ntmps107 (by kernel_rfl) (by kernel_rfl) rfl rfl ?_;have hS:=St.start w
  repeat' (first|(with_reducible apply a4 a0);rfl;rfl;rfl|(with_reducible apply a5);rfl;(apply Ld.sc a0;rfl;exact hS.blkC 0 rfl rfl);rfl|refine yDn (by with_reducible constructor) ?_|(with_reducible apply j5);rfl;assumption|(with_reducible apply f5 hS);rfl;rfl;rfl;clear hS;intro g w' hS)
  (refine i2 rfl ?_)
  exact ⟨by unfold m7;simp [hs,hs2,hs3],hS.sub (xg6 _)⟩
 have hd3:decide (state=3)=true:=xh4 hs3
 cases live with
 |true=>
  refine yEn Tryz.func107 Tryz.ntmps107 (by kernel_rfl) (by kernel_rfl) rfl rfl ?_;have hS:=St.start w
  repeat' (first|(with_reducible apply a4 a0);rfl;rfl;rfl|(with_reducible apply a5);rfl;(apply Ld.sc a0;rfl;exact hS.blkC 0 rfl rfl);rfl|refine yDn (by with_reducible constructor) ?_|(with_reducible apply q8);(iterate 4 rfl);rfl;rfl|(with_reducible apply a9);rfl;rfl;rfl;rfl|(with_reducible apply b7);rfl;assumption|(with_reducible apply j5);rfl;assumption|(with_reducible apply f5 hS);rfl;rfl;rfl;clear hS;intro g w' hS)
  (refine i2 rfl ?_)
  exact ⟨by unfold m7;simp [hs,hs3],hS.sub (xg6 _)⟩
 |false=>
  by_cases hc:code=0;rotate_left
  ·have hdc:decide (code=0)=false:=xh3 hc;refine yEn Tryz.func107 Tryz.ntmps107 (by kernel_rfl) (by kernel_rfl) rfl rfl ?_;have hS:=St.start w
   repeat' (first|(with_reducible apply a4 a0);rfl;rfl;rfl|(with_reducible apply a5);rfl;(apply Ld.sc a0;rfl;exact hS.blkC 0 rfl rfl);rfl|refine yDn (by with_reducible constructor) ?_|(with_reducible apply i6);(iterate 4 rfl);rfl|(with_reducible apply q8);(iterate 4 rfl);(first|rfl|assumption);rfl|(with_reducible apply d7);rfl;rfl;rfl;rfl|(with_reducible apply a9);rfl;(first|rfl|assumption);rfl;rfl|(with_reducible apply b7);rfl;assumption|(with_reducible apply j5);rfl;assumption|(with_reducible apply f5 hS);rfl;rfl;rfl;clear hS;intro g w' hS)
   (refine i2 rfl ?_)
   exact ⟨by unfold m7;simp [hs,hs3,hc],hS.sub (xg6 _)⟩
  have hdc:decide (code=0)=true:=xh4 hc;by_cases hk:1<=fk
  ·have hdk:decide (1<=fk)=true:=xh4 hk;refine yEn Tryz.func107 Tryz.ntmps107 (by kernel_rfl) (by kernel_rfl) rfl rfl ?_;have hS:=St.start w
   repeat' (first|(with_reducible apply a4 a0);rfl;rfl;rfl|(with_reducible apply a5);rfl;(apply Ld.sc a0;rfl;exact hS.blkC 0 rfl rfl);rfl|refine yDn (by with_reducible constructor) ?_|((with_reducible apply i6);(iterate 4 rfl);first|rfl|assumption)|(with_reducible apply d7);rfl;(first|rfl|assumption);rfl;rfl|(with_reducible apply b7);rfl;assumption|(with_reducible apply j5);rfl;assumption|(with_reducible apply f5 hS);rfl;rfl;rfl;clear hS;intro g w' hS)
   (refine i2 rfl ?_)
   exact ⟨by unfold m7;simp [hs,hs3,hc,hk],hS.sub (xg6 _)⟩
  ·have hdk:decide (1<=fk)=false:=xh3 hk;refine yEn Tryz.func107 Tryz.ntmps107 (by kernel_rfl) (by kernel_rfl) rfl rfl ?_;have hS:=St.start w
   repeat' (first|(with_reducible apply a4 a0);rfl;rfl;rfl|(with_reducible apply a5);rfl;(apply Ld.sc a0;rfl;exact hS.blkC 0 rfl rfl);rfl|refine yDn (by with_reducible constructor) ?_|((with_reducible apply i6);(iterate 4 rfl);first|rfl|assumption)|(with_reducible apply q8);(iterate 4 rfl);assumption;rfl|(with_reducible apply d7);rfl;(first|rfl|assumption);rfl;rfl|(with_reducible apply a9);rfl;assumption;rfl;rfl|(with_reducible apply b7);rfl;assumption|(with_reducible apply j5);rfl;assumption|(with_reducible apply f5 hS);rfl;rfl;rfl;clear hS;intro g w' hS)
   (refine i2 rfl ?_)
   exact ⟨by unfold m7;simp [hs,hs3,hc,hk],hS.sub (xg6 _)⟩
theorem a3C (p:Pc) (live:Bool) (w:World):Fn Tryz.prog 37 [.agg (prC p).toArray,.bool live] w (RBf (.bool (m7 p live)) w):=by
 obtain ⟨r0,r1,r2,r3,r4,r5,r6,r7,pc,state,code,fk,fa⟩:=p;unfold prC;dsimp only;have hin:1<=state/\state<=3 ↔ state=1\/state=2\/state=3:=by omega
 by_cases hw:1<=state/\state<=3;rotate_left
 ·have hdw:decide (1<=state/\state<=3)=false:=xh3 hw;have hs:¬state=1:=by omega
  have hs2:¬state=2:=by omega
  have hs3:¬state=3:=by omega
  refine yEn Tryz.func37 Tryz.ntmps37 (by kernel_rfl) (by kernel_rfl) rfl rfl ?_;have hS:=St.start w
  repeat' (first|(with_reducible apply a4 a0);rfl;rfl;rfl|(with_reducible apply a5);rfl;(apply Ld.sc a0;rfl;exact hS.blkC 0 rfl rfl);rfl|refine yDn (by with_reducible constructor) ?_|(with_reducible apply q8);(iterate 4 rfl);(first|rfl|assumption);rfl|(with_reducible apply a9h);(iterate 5 rfl)|(with_reducible apply d7);rfl;(first|rfl|assumption);rfl;rfl|(with_reducible apply b7);rfl;rfl|(with_reducible apply f5 hS);rfl;rfl;rfl;clear hS;intro g w' hS|(with_reducible apply s4);rfl;rfl;rfl;all_goals (intro hb hp;try (exfalso;omega))|(with_reducible apply d5 hS);rfl;rfl;rfl;refine ⟨_,i3 _ _ _ _,?_⟩;clear hS;intro w' hS)
  (refine i2 rfl ?_)
  exact ⟨by unfold m7;simp [hs,hs2,hs3],hS.sub (xg6 _)⟩
 have hdw:decide (1<=state/\state<=3)=true:=xh4 hw;by_cases hs:state=1
 ·have hd1:decide (state=1)=true:=xh4 hs;have hd2:decide (state=2)=false:=xh3 (by omega);have hd3:decide (state=3)=false:=xh3 (by omega);have hbt:(!decide (true=decide (state=1)))=false:=by rw [hd1];rfl
  have hbf:(!decide (false=decide (state=1)))=true:=by rw [hd1];rfl
  by_cases hc:code=0
  ·have hdc:decide (code=0)=true:=xh4 hc
   cases live with
   |false=>
    refine yEn Tryz.func37 Tryz.ntmps37 (by kernel_rfl) (by kernel_rfl) rfl rfl ?_;have hS:=St.start w
    repeat' (first|(with_reducible apply a4 a0);rfl;rfl;rfl|(with_reducible apply a5);rfl;(apply Ld.sc a0;rfl;exact hS.blkC 0 rfl rfl);rfl|(with_reducible apply a1E a0);(iterate 4 rfl)|refine yDn (by with_reducible constructor) ?_|((with_reducible apply i6);(iterate 4 rfl);first|rfl|assumption)|(with_reducible apply q8);(iterate 4 rfl);assumption;rfl|(with_reducible apply a9);rfl;(first|rfl|assumption);rfl;rfl|(with_reducible apply b7);rfl;assumption|(with_reducible apply f5 hS);rfl;rfl;rfl;clear hS;intro g w' hS|(with_reducible apply s4);rfl;rfl;rfl;all_goals (intro hb hp;try (exfalso;omega))|(with_reducible apply d5 hS);rfl;rfl;rfl;refine ⟨_,i3 _ _ _ _,?_⟩;clear hS;intro w' hS)
    (refine i2 rfl ?_)
    exact ⟨by unfold m7;simp [hs,hc],hS.sub (xg6 _)⟩
   |true=>
    refine yEn Tryz.func37 Tryz.ntmps37 (by kernel_rfl) (by kernel_rfl) rfl rfl ?_;have hS:=St.start w
    repeat' (first|(with_reducible apply a4 a0);rfl;rfl;rfl|(with_reducible apply a5);rfl;(apply Ld.sc a0;rfl;exact hS.blkC 0 rfl rfl);rfl|(with_reducible apply a1E a0);(iterate 4 rfl)|(with_reducible apply a0m a0);rfl;rfl;exact (rfl:_=some [_,_]);rfl|refine yDn (by with_reducible constructor) ?_|((with_reducible apply i6);(iterate 4 rfl);first|rfl|assumption)|(with_reducible apply q8);(iterate 4 rfl);assumption;rfl|(with_reducible apply a9);rfl;(first|rfl|assumption);rfl;rfl|(with_reducible apply j5);rfl;assumption|(with_reducible apply f5 hS);rfl;rfl;rfl;clear hS;intro g w' hS|(with_reducible apply s4);rfl;rfl;rfl;all_goals (intro hb hp;try (exfalso;omega))|(with_reducible apply d5 hS);rfl;rfl;rfl;refine ⟨_,i3 _ _ _ _,?_⟩;clear hS;intro w' hS|(with_reducible apply a0y a0);rfl;rfl;rfl;refine ⟨_,hS.blkRk 0 11 2 rfl,rfl,?_⟩|(with_reducible apply a3T);rfl;rfl;exact a7g (fk,fa) (0,0);rfl)
    (refine i2 rfl ?_)
    exact ⟨by unfold m7;simp [hs,hc],hS.sub (xg6 _)⟩
  ·have hdc:decide (code=0)=false:=xh3 hc;refine yEn Tryz.func37 Tryz.ntmps37 (by kernel_rfl) (by kernel_rfl) rfl rfl ?_;have hS:=St.start w
   repeat' (first|(with_reducible apply a4 a0);rfl;rfl;rfl|(with_reducible apply a5);rfl;(apply Ld.sc a0;rfl;exact hS.blkC 0 rfl rfl);rfl|refine yDn (by with_reducible constructor) ?_|(with_reducible apply i6);(iterate 4 rfl);assumption|(with_reducible apply q8);(iterate 4 rfl);assumption;rfl|(with_reducible apply d7);rfl;assumption;rfl;rfl|(with_reducible apply a9);rfl;assumption;rfl;rfl|(with_reducible apply b7);rfl;rfl|(with_reducible apply f5 hS);rfl;rfl;rfl;clear hS;intro g w' hS|(with_reducible apply s4);rfl;rfl;rfl;all_goals (intro hb hp;try (exfalso;omega))|(with_reducible apply d5 hS);rfl;rfl;rfl;refine ⟨_,i3 _ _ _ _,?_⟩;clear hS;intro w' hS)
   (refine i2 rfl ?_)
   exact ⟨by unfold m7;simp [hs,hc],hS.sub (xg6 _)⟩
 have hd1:decide (state=1)=false:=xh3 hs;have hbt:(!decide (true=decide (state=1)))=true:=by rw [hd1];rfl
 have hbf:(!decide (false=decide (state=1)))=false:=by rw [hd1];rfl
 by_cases hs2:state=2
 ·have hd2:decide (state=2)=true:=xh4 hs2;have hd3:decide (state=3)=false:=xh3 (by omega);by_cases hc:code=0
  ·have hdc:decide (code=0)=true:=xh4 hc
   cases live with
   |false=>
    refine yEn Tryz.func37 Tryz.ntmps37 (by kernel_rfl) (by kernel_rfl) rfl rfl ?_;have hS:=St.start w
    repeat' (first|(with_reducible apply a4 a0);rfl;rfl;rfl|(with_reducible apply a5);rfl;(apply Ld.sc a0;rfl;exact hS.blkC 0 rfl rfl);rfl|(with_reducible apply a1E a0);(iterate 4 rfl)|(with_reducible apply a0m a0);rfl;rfl;exact (rfl:_=some [_,_]);rfl|refine yDn (by with_reducible constructor) ?_|((with_reducible apply i6);(iterate 4 rfl);first|rfl|assumption)|(with_reducible apply q8);(iterate 4 rfl);assumption;rfl|(with_reducible apply a9);rfl;(first|rfl|assumption);rfl;rfl|(with_reducible apply j5);rfl;assumption|(with_reducible apply f5 hS);rfl;rfl;rfl;clear hS;intro g w' hS|(with_reducible apply s4);rfl;rfl;rfl;all_goals (intro hb hp;try (exfalso;omega))|(with_reducible apply d5 hS);rfl;rfl;rfl;refine ⟨_,i3 _ _ _ _,?_⟩;clear hS;intro w' hS|(with_reducible apply a0y a0);rfl;rfl;rfl;refine ⟨_,hS.blkRk 0 11 2 rfl,rfl,?_⟩|(with_reducible apply a3T);rfl;rfl;exact a7g (fk,fa) (0,0);rfl)
    (refine i2 rfl ?_)
    exact ⟨by unfold m7;simp [hs,hs2],hS.sub (xg6 _)⟩
   |true=>
    refine yEn Tryz.func37 Tryz.ntmps37 (by kernel_rfl) (by kernel_rfl) rfl rfl ?_;have hS:=St.start w
    repeat' (first|(with_reducible apply a4 a0);rfl;rfl;rfl|(with_reducible apply a5);rfl;(apply Ld.sc a0;rfl;exact hS.blkC 0 rfl rfl);rfl|(with_reducible apply a1E a0);(iterate 4 rfl)|refine yDn (by with_reducible constructor) ?_|((with_reducible apply i6);(iterate 4 rfl);first|rfl|assumption)|(with_reducible apply q8);(iterate 4 rfl);assumption;rfl|(with_reducible apply a9);rfl;(first|rfl|assumption);rfl;rfl|(with_reducible apply b7);rfl;assumption|(with_reducible apply f5 hS);rfl;rfl;rfl;clear hS;intro g w' hS|(with_reducible apply s4);rfl;rfl;rfl;all_goals (intro hb hp;try (exfalso;omega))|(with_reducible apply d5 hS);rfl;rfl;rfl;refine ⟨_,i3 _ _ _ _,?_⟩;clear hS;intro w' hS)
    (refine i2 rfl ?_)
    exact ⟨by unfold m7;simp [hs,hs2],hS.sub (xg6 _)⟩
  ·have hdc:decide (code=0)=false:=xh3 hc
   cases live with
   |false=>
    refine yEn Tryz.func37 Tryz.ntmps37 (by kernel_rfl) (by kernel_rfl) rfl rfl ?_;have hS:=St.start w
    repeat' (first|(with_reducible apply a4 a0);rfl;rfl;rfl|(with_reducible apply a5);rfl;(apply Ld.sc a0;rfl;exact hS.blkC 0 rfl rfl);rfl|(with_reducible apply a1E a0);(iterate 4 rfl)|(with_reducible apply a0m a0);rfl;rfl;exact (rfl:_=some [_,_]);rfl|refine yDn (by with_reducible constructor) ?_|(with_reducible apply i6);(iterate 4 rfl);assumption|(with_reducible apply d7);rfl;assumption;rfl;rfl|(with_reducible apply a9);rfl;assumption;rfl;rfl|(with_reducible apply j5);rfl;assumption|(with_reducible apply f5 hS);rfl;rfl;rfl;clear hS;intro g w' hS|(with_reducible apply s4);rfl;rfl;rfl;all_goals (intro hb hp;try (exfalso;omega))|(with_reducible apply d5 hS);rfl;rfl;rfl;refine ⟨_,i3 _ _ _ _,?_⟩;clear hS;intro w' hS|(with_reducible apply a0y a0);rfl;rfl;rfl;refine ⟨_,hS.blkRk 0 11 2 rfl,rfl,?_⟩|(with_reducible apply a3T);rfl;rfl;exact a7g (fk,fa) (0,0);rfl)
    (refine i2 rfl ?_)
    exact ⟨by unfold m7;simp [hs,hs2],hS.sub (xg6 _)⟩
   |true=>
    refine yEn Tryz.func37 Tryz.ntmps37 (by kernel_rfl) (by kernel_rfl) rfl rfl ?_;have hS:=St.start w
    repeat' (first|(with_reducible apply a4 a0);rfl;rfl;rfl|(with_reducible apply a5);rfl;(apply Ld.sc a0;rfl;exact hS.blkC 0 rfl rfl);rfl|(with_reducible apply a1E a0);(iterate 4 rfl)|refine yDn (by with_reducible constructor) ?_|(with_reducible apply i6);(iterate 4 rfl);assumption|(with_reducible apply d7);rfl;assumption;rfl;rfl|(with_reducible apply a9);rfl;assumption;rfl;rfl|(with_reducible apply b7);rfl;assumption|(with_reducible apply f5 hS);rfl;rfl;rfl;clear hS;intro g w' hS|(with_reducible apply s4);rfl;rfl;rfl;all_goals (intro hb hp;try (exfalso;omega))|(with_reducible apply d5 hS);rfl;rfl;rfl;refine ⟨_,i3 _ _ _ _,?_⟩;clear hS;intro w' hS)
    (refine i2 rfl ?_)
    exact ⟨by unfold m7;simp [hs,hs2],hS.sub (xg6 _)⟩
 have hd2:decide (state=2)=false:=xh3 hs2;have hs3:state=3:=by omega
 have hd3:decide (state=3)=true:=xh4 hs3;by_cases hc:code=0
 ·have hdc:decide (code=0)=true:=xh4 hc
  cases live with
  |false=>
   refine yEn Tryz.func37 Tryz.ntmps37 (by kernel_rfl) (by kernel_rfl) rfl rfl ?_;have hS:=St.start w
   repeat' (first|(with_reducible apply a4 a0);rfl;rfl;rfl|(with_reducible apply a5);rfl;(apply Ld.sc a0;rfl;exact hS.blkC 0 rfl rfl);rfl|(with_reducible apply a1E a0);(iterate 4 rfl)|refine yDn (by with_reducible constructor) ?_|((with_reducible apply i6);(iterate 4 rfl);first|rfl|assumption)|(with_reducible apply q8);(iterate 4 rfl);assumption;rfl|(with_reducible apply a9);rfl;(first|rfl|assumption);rfl;rfl|(with_reducible apply b7);rfl;assumption|(with_reducible apply j5);rfl;assumption|(with_reducible apply f5 hS);rfl;rfl;rfl;clear hS;intro g w' hS|(with_reducible apply s4);rfl;rfl;rfl;all_goals (intro hb hp;try (exfalso;omega))|(with_reducible apply d5 hS);rfl;rfl;rfl;refine ⟨_,i3 _ _ _ _,?_⟩;clear hS;intro w' hS)
   (refine i2 rfl ?_)
   exact ⟨by unfold m7;simp [hs,hs3,hc],hS.sub (xg6 _)⟩
  |true=>
   refine yEn Tryz.func37 Tryz.ntmps37 (by kernel_rfl) (by kernel_rfl) rfl rfl ?_;have hS:=St.start w
   repeat' (first|(with_reducible apply a4 a0);rfl;rfl;rfl|(with_reducible apply a5);rfl;(apply Ld.sc a0;rfl;exact hS.blkC 0 rfl rfl);rfl|(with_reducible apply a1E a0);(iterate 4 rfl)|refine yDn (by with_reducible constructor) ?_|((with_reducible apply i6);(iterate 4 rfl);first|rfl|assumption)|(with_reducible apply q8);(iterate 4 rfl);assumption;rfl|(with_reducible apply a9);rfl;(first|rfl|assumption);rfl;rfl|(with_reducible apply b7);rfl;assumption|(with_reducible apply f5 hS);rfl;rfl;rfl;clear hS;intro g w' hS|(with_reducible apply s4);rfl;rfl;rfl;all_goals (intro hb hp;try (exfalso;omega))|(with_reducible apply d5 hS);rfl;rfl;rfl;refine ⟨_,i3 _ _ _ _,?_⟩;clear hS;intro w' hS)
   (refine i2 rfl ?_)
   exact ⟨by unfold m7;simp [hs,hs3,hc],hS.sub (xg6 _)⟩
 ·have hdc:decide (code=0)=false:=xh3 hc;refine yEn Tryz.func37 Tryz.ntmps37 (by kernel_rfl) (by kernel_rfl) rfl rfl ?_;have hS:=St.start w
  repeat' (first|(with_reducible apply a4 a0);rfl;rfl;rfl|(with_reducible apply a5);rfl;(apply Ld.sc a0;rfl;exact hS.blkC 0 rfl rfl);rfl|refine yDn (by with_reducible constructor) ?_|(with_reducible apply i6);(iterate 4 rfl);assumption|(with_reducible apply q8);(iterate 4 rfl);assumption;rfl|(with_reducible apply d7);rfl;assumption;rfl;rfl|(with_reducible apply a9);rfl;assumption;rfl;rfl|(with_reducible apply b7);rfl;rfl|(with_reducible apply f5 hS);rfl;rfl;rfl;clear hS;intro g w' hS|(with_reducible apply s4);rfl;rfl;rfl;all_goals (intro hb hp;try (exfalso;omega))|(with_reducible apply d5 hS);rfl;rfl;rfl;refine ⟨_,i3 _ _ _ _,?_⟩;clear hS;intro w' hS)
  (refine i2 rfl ?_)
  exact ⟨by unfold m7;simp [hs,hs3,hc],hS.sub (xg6 _)⟩
def a9y:Int->List Sh->Bool
 |_,[]=>true
 |last,s::r=>a9O s && (decide (last < s.page) && a9y s.page r)
structure ShsV (w:World) (Lp:List (Sh×Value)) (vs:Value):Prop where
 sl:Sl nF w 3 vs (Lp.map fun p=>shC p.1 p.2)
 fx:∀ p ∈ Lp,ShV w p.1 p.2
theorem ShsV.now {w w':World} {Γ:List Asr} {Lp:List (Sh×Value)} {vs:Value} (h:ShsV w Lp vs) (hS:St nF w w' Γ):ShsV w' Lp vs:=⟨h.sl.now hS,fun p hp=>(h.fx p hp).now hS⟩
def shs (Lp:List (Sh×Value)):List Sh:=Lp.map (·.1)
theorem a6O {A:List Ar} (hc:b4 A=0) {p:Int} {a:Ar} (h:l4 A p=some a):a.ok/\1<=p:=by
 have hg:=(m9.1 hc).2;have hok:=a5g hg.1 h;have:=xi9 h;unfold s8 at this;rw [xj0] at this;unfold Ar.ok at hok;exact ⟨hok,by omega⟩
structure Fm where
 data:List UInt8
 refs:Int
 dirty:Bool
 seen:Bool
 deriving DecidableEq
structure Sw where
 data:List UInt8
 refs:Int
 deriving DecidableEq
structure En where
 page:Int
 kind:Int
 at_:Int
 deriving DecidableEq
structure Sc where
 live:Bool
 areas:List Ar
 entries:List En
 deriving DecidableEq
structure Ker where
 sheets:List Sh
 frames:List Fm
 slots:List Sw
 spaces:List Sc
 hand:Int
def fm0:Fm:=⟨[],0,false,false⟩
def sw0:Sw:=⟨[],0⟩
def fmC (f:Fm):List Value:=[.string ⟨f.data.toArray⟩,.int .i64 f.refs,.bool f.dirty,.bool f.seen]
def swC (s:Sw):List Value:=[.string ⟨s.data.toArray⟩,.int .i64 s.refs]
def enC (e:En):List Value:=[.int .i64 e.page,.int .i64 e.kind,.int .i64 e.at_]
structure Sp where
 s:Sc
 va:Value
 ve:Value
def spC (p:Sp):List Value:=[.bool p.s.live,p.va,p.ve]
structure KV where
 sh:List (Sh×Value)
 fr:List Fm
 sl:List Sw
 sp:List Sp
 hand:Int
 vsh:Value
 vfr:Value
 vsl:Value
 vsp:Value
def KV.K (k:KV):Ker:=⟨shs k.sh,k.fr,k.sl,k.sp.map (·.s),k.hand⟩
structure SpV (w:World) (p:Sp):Prop where
 ar:Sl nF w 4 p.va (p.s.areas.map arC)
 en:Sl nF w 3 p.ve (p.s.entries.map enC)
structure KerV (w:World) (k:KV):Prop where
 sh:ShsV w k.sh k.vsh
 fr:Sl nF w 4 k.vfr (k.fr.map fmC)
 sl:Sl nF w 2 k.vsl (k.sl.map swC)
 sp:Sl nF w 3 k.vsp (k.sp.map spC)
 spv:∀ p ∈ k.sp,SpV w p
theorem SpV.now {w w':World} {Γ:List Asr} {p:Sp} (h:SpV w p) (hS:St nF w w' Γ):SpV w' p:=⟨h.ar.now hS,h.en.now hS⟩
theorem KerV.now {w w':World} {Γ:List Asr} {k:KV} (h:KerV w k) (hS:St nF w w' Γ):KerV w' k:=⟨h.sh.now hS,h.fr.now hS,h.sl.now hS,h.sp.now hS,fun p hp=>(h.spv p hp).now hS⟩
def b1O (l:List Sh) (p:Int):Option Sh:=l.find? fun s=>decide (s.page=p)
def a6Z (l:List Sh) (z:Bool) (p:Int):Option (List UInt8):=if z then some (List.replicate 16 0) else (b1O l p).map b1z
abbrev Nm:=En×Ar
def b0g (s:Sc) (e:En):Nm:=(e,(l4 s.areas e.page).getD a3i)
def a1v (l:List Sc) (kind at_:Int):List Nm:=l.flatMap fun s=>(s.entries.filter fun e=>decide (e.kind=kind/\e.at_=at_)).map (b0g s)
def a7Z (A:List Ar) (nf ns:Int) (last:Int) (e:En):Bool:=(l4 A e.page).isSome && decide (last < e.page/\((e.kind=1/\0<=e.at_/\e.at_ < nf)\/(e.kind=2/\0<=e.at_/\e.at_ < ns)))
def a4a (A:List Ar) (nf ns:Int):Int->List En->Bool
 |_,[]=>true
 |last,e::r=>a7Z A nf ns last e && a4a A nf ns e.page r
def a7b (l:List Sh) (A:List Ar):Bool:=A.all fun a=>(List.range a.n.toNat).all fun i=>(a6Z l a.z (a.pg + (i:Nat))).isSome
def a46 (l:List Sh) (nf ns:Int) (s:Sc):Bool:=if s.live then decide (b4 s.areas=0) && (a7b l s.areas && a4a s.areas nf ns 0 s.entries) else decide (s.areas=[]/\s.entries=[])
def b02 (l:List Sc):Int:=(l.map fun s=>o5 s.areas).sum
def lbd (l:List Int) (t:Int):Nat:=(l.takeWhile fun p=>decide (p < t)).length
theorem a7S {l:List Int} {t:Int} {i:Nat} (hi:i<=l.length) (h1:∀ (j:Nat) (p:Int),j < i->l[j]?=some p->p < t) (h2:∀ (p:Int),l[i]?=some p->t<=p):lbd l t=i:=by
 unfold lbd
 induction l generalizing i with
 |nil=>simp at hi;subst hi;rfl
 |cons a l ih=>
  cases i with
  |zero=>
   have:=h2 a rfl;rw [List.takeWhile_cons,xd7 (by simpa using this)];rfl
  |succ i=>
   have:=h1 0 a (by omega) rfl;rw [List.takeWhile_cons,xd6 (by simpa using this),xd5,ih (by simpa using hi) (fun j p hj hp=>h1 (j + 1) p (by omega) (by simpa using hp)) (fun p hp=>h2 p (by simpa using hp))]
def Rises (l:List Int):Prop:=l.Pairwise (·< ·)
theorem Rises.at_ {l:List Int} (h:Rises l) {i j:Nat} {a b:Int} (hij:i < j) (ha:l[i]?=some a) (hb:l[j]?=some b):a < b:=by
 obtain ⟨h1,rfl⟩:=xa5.1 ha;obtain ⟨h2,rfl⟩:=xa5.1 hb;exact xc7.1 h i j h1 h2 hij
theorem a9i {l:List Int} (h:Rises l) {i:Nat} {t:Int} (hi:l[i]?=some t):lbd l t=i :=
 a7S (Nat.le_of_lt (a7 hi)) (fun _ _ hj hp=>h.at_ hj hp hi) (fun p hp=>by rw [hi] at hp;cases hp;exact Int.le_refl _)
theorem a16 {l:List Int} (h:Rises l) (t:Int):(l[lbd l t]?=some t) ↔ t ∈ l:=by
 constructor
 ·intro hh;exact xc0 hh
 ·intro hm;obtain ⟨i,hi⟩:=xc8.1 hm;rw [a9i h hi];exact hi
end Go.Proofs.YtejnpppejalhfadGreat
namespace Go.Proofs.YtejnpppejalhfadGreat
set_option maxRecDepth 100000
set_option maxHeartbeats 8000000
open Go.RowKit
theorem a7q (off n all:Int):inB off n all=(decide (0<=off) && (decide (0<=n) && (decide (off<=all) && decide (n<=all - off)))):=by
 unfold inB;simp
theorem a6j (off n all:Int) (w:World) (h:0<=all) (h2:all<=9223372036854775807) :
  Calls Tryz.prog 148 #[.int .i64 off,.int .i64 n,.int .i64 all] w fun e w'=>e=.returned (.bool (inB off n all))/\w=w':=by
 have hs:=hid (a7q off n all)
 go_enter Tryz.func148,Tryz.ntmps148
 go_wp2
 all_goals
  go_ret
  refine ⟨g9 ?_,rfl⟩;rw [hs.out]
  first
   |(rw [IntWalk.wrap64_in (all - off) ⟨by omega,by omega⟩];simp [*];done)
   |(rw [xb9];simp;omega)
theorem a8a (off n all:Nat) (h:off + n<=all):inB off n all=true:=by
 unfold inB;simp;omega
theorem a89 (s t:List UInt8) (off:Nat) (w:World) (hs:s.length<=maxLen) (h:off + t.length<=s.length) :
  Calls Tryz.prog 116 #[.string ⟨s.toArray⟩,.int .i64 off,.string ⟨t.toArray⟩] w fun e w'=>e=.returned (.tuple #[.string ⟨(splice s off t).toArray⟩,.int .i64 0])/\Below w.heap.size w w':=by
 unfold maxLen at hs;have hin:=a8a off t.length s.length h;have hin2:=hid hin;clear hin
 go_enter Tryz.func116,Tryz.ntmps116
 have hsz5:(Tryz.prog.info? 5).map (·.size)=some 1:=by kernel_rfl
 have Hsz5:=hid hsz5;clear hsz5
 go_wp2_with (first|go_at_call 148;(with_reducible refine (a6j _ _ _ _ (by omega) (by omega)).mono ?_);rintro e w' ⟨rfl,rfl⟩;rw [hin2.out]|(with_reducible refine l2 17 ?_);refine a1g rfl (.tmp 16) 9 194 5 rfl Tryz.underlying9 Tryz.underlying194 Tryz.underlying5 s rfl w.heap.size w (Below.refl _ _) (xc4 _) ?_;intro cap w1 hcap hb1 hby1 hsz1;have HB:=hid hby1;clear hby1|(with_reducible refine l2 22 ?_);refine a1J rfl (.tmp 20) (.tmp 21) 194 9 rfl 5 Tryz.underlying194 Hsz5.out _ (s.length - off) _ rfl t rfl w.heap.size off s HB.out ?c1 ?c2 w.heap.size w hb1 (xc4 _) ?_;(case c1=>go_must (rw [xa1];omega));(case c2=>go_must (rw [xa1];intro h0;rw [xd7 (by omega)]));intro w2 hb2 hsz2 hby2;have HB2:=hid hby2;clear hby2|(with_reducible refine l2 24 ?_);refine a1L rfl (.tmp 23) 194 9 5 rfl Tryz.underlying194 Tryz.underlying5 Tryz.underlying9 _ w.heap.size s.length _ rfl ?c3 HB2.out ?_;(case c3=>go_must (exact length_splice _ _ _ (by rw [xa1];omega)));clear HB2)
 all_goals
  go_ret2
  refine ⟨?_,hb2⟩;show Ending.returned (.tuple #[.string ⟨(splice s off (t.take (s.length - off))).toArray⟩,.int .i64 0])=_;rw [xa0 (show t.length<=s.length - off from by omega)]
theorem b0y (s t:List UInt8) (off:Int) (w:World) (hs:s.length<=maxLen) (h:inB off t.length s.length=false) :
  Calls Tryz.prog 116 #[.string ⟨s.toArray⟩,.int .i64 off,.string ⟨t.toArray⟩] w fun e w'=>e=.returned (.tuple #[.string ⟨#[]⟩,.int .i64 3])/\w=w':=by
 unfold maxLen at hs
 go_enter Tryz.func116,Tryz.ntmps116
 go_wp2_with (go_at_call 148;(with_reducible refine (a6j _ _ _ _ (by omega) (by omega)).mono ?_);rintro e w' ⟨rfl,rfl⟩;rw [h])
 go_ret2
 exact ⟨rfl,rfl⟩
end Go.Proofs.YtejnpppejalhfadGreat
namespace Go.Proofs.YtejnpppejalhfadGreat
set_option maxRecDepth 100000
set_option maxHeartbeats 8000000
open Go.RowKit Go.Sort
theorem b0U (s t:List UInt8) (off:Int) (w:World) (hs:s.length<=maxLen):Fn Tryz.prog 116 [.string ⟨s.toArray⟩,.int .i64 off,.string ⟨t.toArray⟩] w (RBf (.tuple #[.string ⟨(if inB off t.length s.length=true then splice s off.toNat t else []).toArray⟩,.int .i64 (if inB off t.length s.length=true then 0 else 3)]) w):=by
 by_cases h:inB off t.length s.length=true
 ·rw [xd6 h,xd6 h];unfold inB at h;simp only [xj0] at h;have h1:=a89 s t off.toNat w hs (by omega);rw [xj1 (by omega)] at h1;exact Fn.of_rb ⟨Tryz.func116,by kernel_rfl,by kernel_rfl⟩ (a7B h1)
 ·rw [xd7 h,xd7 h];exact (Fn.of_same ⟨Tryz.func116,by kernel_rfl,by kernel_rfl⟩ (b0y s t off w hs (by simpa using h))).mono (by rintro v w' ⟨rfl,rfl⟩;exact ⟨rfl,St.start _⟩)
def BsV (l:List Int) (t:Int):Value:=.tuple #[.int .i64 (lbd l t:Nat),.bool (decide (t ∈ l))]
structure Ob where
 im:Im
 vn:Value
 vs:Value
 vy:Value
 vr:Value
 at_:Int
def imC (I:Im) (vn vs vy vr:Value):List Value:=[.string ⟨I.name.toArray⟩,vn,vs,vy,vr,.int .i64 I.entry]
abbrev ObV (w:World) (o:Ob):Prop:=ImV w o.im o.vn o.vs o.vy o.vr
def stK (l:List UInt8):Value:=.string ⟨l.toArray⟩
def PlI (es:Array MapEntry) (os:List Ob):Prop:=∃ L,MapG .string es L/\L.map (·.1)=os.map fun o=>stK o.im.name
theorem PlI.mem {es:Array MapEntry} {os:List Ob} {L:List (Value×Value)} (h:L.map (·.1)=os.map fun o=>stK o.im.name) (nm:List UInt8):(∃ v,(stK nm,v) ∈ L) ↔ ∃ o ∈ os,o.im.name=nm:=by
 constructor
 ·rintro ⟨v,hv⟩;have:stK nm ∈ L.map (·.1):=xi0.2 ⟨_,hv,rfl⟩;rw [h] at this;obtain ⟨o,ho,e⟩:=xi0.1 this;unfold stK at e;exact ⟨o,ho,by simpa using e⟩
 ·rintro ⟨o,ho,rfl⟩;have:stK o.im.name ∈ L.map (·.1):=by rw [h];exact xi0.2 ⟨o,ho,rfl⟩
  obtain ⟨p,hp,e⟩:=xi0.1 this;exact ⟨p.2,by rw [<- e];exact hp⟩
def a33 (os:List Ob) (nm:List UInt8):Bool:=os.any fun o=>decide (o.im.name=nm)
theorem a3z {os:List Ob} {nm:List UInt8}:a33 os nm=true ↔ ∃ o ∈ os,o.im.name=nm:=by unfold a33;simp
def y9 (I:Im):Int:=match I.segs.getLast? with
 |some s=>s.pg + s.n
 |none=>0
def a68 (os:List Ob) (next:Int) (I:Im) (vn vs vy vr:Value):List Ob:=if a33 os I.name=true then os else os++[⟨I,vn,vs,vy,vr,next * 16⟩]
def a2b (os:List Ob) (next:Int) (I:Im):Int:=if a33 os I.name=true then next else next + y9 I
structure ImF (F:Nat->Prop) (w:World) (o:Ob):Prop where
 needs:Sl F w 1 o.vn (o.im.needs.map stC)
 segs:Sl F w 5 o.vs (o.im.segs.map sgC)
 syms:Sl F w 2 o.vy (o.im.syms.map syC)
 rels:Sl F w 3 o.vr (o.im.rels.map rlC)
theorem ImF.now {F:Nat->Prop} {w w':World} {Γ:List Asr} {o:Ob} (h:ImF F w o) (hS:St F w w' Γ):ObV w' o:=⟨h.needs.now hS,h.segs.now hS,h.syms.now hS,h.rels.now hS⟩
def b1l (o:Ob):Value:=.agg (imC o.im o.vn o.vs o.vy o.vr).toArray
def OfB (B:List Ob) (o:Ob):Prop:=∃ a:Int,{ o with at_:=a } ∈ B
structure b1m (I:Im):Prop where
 s1:1<=I.segs.length
 s2:I.segs.all b0m=true
 s3:I.segs.length<=6
def a0b (s:List Ob×Int) (o:Ob):List Ob×Int:=(a68 s.1 s.2 o.im o.vn o.vs o.vy o.vr,a2b s.1 s.2 o.im)
structure AllI (B:List Ob) (s:List Ob×Int):Prop where
 sub:∀ o ∈ s.1,OfB B o
 nd:(s.1.map fun o=>o.im.name).Nodup
 lo:1<=s.2
 hi:s.2<=1 + 255 * s.1.length
theorem a20 {α:Type} [DecidableEq α]:∀ {l m:List α},l.Nodup->(∀ x ∈ l,x ∈ m)->l.length<=m.length
 |[],_,_,_=>by simp
 |a::l,m,h,hs=>by
  rw [List.nodup_cons] at h;have ha:=hs a (by simp);have:=a20 (l:=l) (m:=m.erase a) h.2 fun x hx=>by
   refine (List.mem_erase_of_ne ?_).2 (hs x (xb5 _ hx));rintro rfl;exact h.1 hx
  rw [List.length_erase_of_mem ha] at this;have hm:0 < m.length:=List.length_pos_of_mem ha;rw [xd5];omega
theorem AllI.len {B:List Ob} {s:List Ob×Int} (h:AllI B s):s.1.length<=B.length:=by
 have:=a20 (m:=B.map fun o=>o.im.name) h.nd fun x hx=>by
  obtain ⟨o,ho,rfl⟩:=xi0.1 hx;obtain ⟨a,ha⟩:=h.sub o ho;exact xi0.2 ⟨_,ha,rfl⟩
 simpa using this
theorem a4K {I:Im} (h:b1m I):0<=y9 I/\y9 I<=255:=by
 unfold y9
 split
 ·rename_i s hs;have:=xb7.1 h.s2 s (List.mem_of_getLast? hs);unfold b0m at this;have:=xg5 this;omega
 ·omega
theorem AllI.step {B:List Ob} {s:List Ob×Int} {o:Ob} (h:AllI B s) (ho:o ∈ B) (hI:b1m o.im):AllI B (a0b s o):=by
 unfold a0b a68 a2b;by_cases hp:a33 s.1 o.im.name=true
 ·rw [xd6 hp,xd6 hp];exact h
 ·rw [xd7 hp,xd7 hp];have hl:=a4K hI;refine ⟨fun x hx=>?_,?_,?_,?_⟩
  ·rcases xd1.1 hx with h1|h1
   ·exact h.sub x h1
   ·have:x=⟨o.im,o.vn,o.vs,o.vy,o.vr,s.2 * 16⟩:=by simpa using h1
    exact ⟨o.at_,by rw [this];exact ho⟩
  ·rw [xi1,xi2];refine ⟨h.nd,by simp,fun a ha b hb=>?_⟩;have:b=o.im.name:=by simpa using hb
   subst this;rintro rfl;obtain ⟨x,hx,e⟩:=xi0.1 ha;exact hp (a3z.2 ⟨x,hx,e⟩)
  ·have:=h.lo;show 1<=s.2 + y9 o.im;omega
  ·have:=h.hi;show s.2 + y9 o.im<=1 + 255 * ((s.1++[_]).length:Int);rw [xd4];simp only [xd5,xa2];omega
section
variable {F:Nat->Prop} {w0 w w':World} {Γ Δ:List Asr}
end
structure Bx where
 g:Nat
 pg:Int
 data:List UInt8
 p:Option Addr
 c:Nat
 fx:List Fx
def Bx.v (b:Bx):Value:=.slice b.p b.fx.length b.c
def AOk (A:List Ar):Prop:=∀ a ∈ A,a.z=false/\0<=a.pg/\0<=a.n/\a.pg + a.n<=200000/\0<=a.prot/\a.prot<=3
theorem AOk.step {A:List Ar} {a:Ar} (h:AOk A) (ha:a.z=false/\0<=a.pg/\0<=a.n/\a.pg + a.n<=200000/\0<=a.prot/\a.prot<=3):AOk (a3S A a):=by
 unfold a3S
 split
 ·rename_i b hb;have hbm:=h b (List.mem_of_getLast? hb)
  split
  ·rename_i hal;unfold Ar.alike at hal;intro x hx;rcases xd1.1 hx with h1|h1
   ·exact h x ((List.dropLast_sublist A).subset h1)
   ·obtain rfl:x={ b with n:=b.n + a.n }:=by simpa using h1
    have e1:b.fin=a.pg:=hal.1;unfold Ar.fin at e1;obtain ⟨q1,q2,q3,q4,q5,q6⟩:=hbm;obtain ⟨p1,p2,p3,p4,p5,p6⟩:=ha;refine ⟨q1,q2,?_,?_,q5,q6⟩
    ·show 0<=b.n + a.n;omega
    ·show b.pg + (b.n + a.n)<=200000;omega
  ·intro x hx;rcases xd1.1 hx with h1|h1
   ·exact h x h1
   ·obtain rfl:x=a:=by simpa using h1
    exact ha
 ·intro x hx;rcases xd1.1 hx with h1|h1
  ·exact h x h1
  ·obtain rfl:x=a:=by simpa using h1
   exact ha
def a0P:List Ob->Int
 |[]=>0
 |o::l=>y9 o.im + a0P l
theorem a6g (l m:List Ob):a0P (l++m)=a0P l + a0P m:=by
 induction l with
 |nil=>simp [a0P]
 |cons o l ih=>simp only [List.cons_append,a0P,ih];omega
structure PkI (s:List Ob×Int):Prop where
 nx:s.2=1 + a0P s.1
 at_:∀ (i:Nat) (o:Ob),s.1[i]?=some o->o.at_=(1 + a0P (s.1.take i)) * 16
theorem PkI.start:PkI ([],1):=⟨rfl,fun i o h=>by simp at h⟩
theorem PkI.step {s:List Ob×Int} (o:Ob) (h:PkI s):PkI (a0b s o):=by
 unfold a0b a68 a2b;by_cases hp:a33 s.1 o.im.name=true
 ·rw [xd6 hp,xd6 hp];exact h
 ·rw [xd7 hp,xd7 hp];refine ⟨?_,fun i x hx=>?_⟩
  ·show s.2 + y9 o.im=1 + a0P (s.1++[_]);rw [a6g,h.nx];simp only [a0P];omega
  ·dsimp only at hx |-;rcases xh8 i s.1.length with hi|hi
   ·rw [xa4 hi] at hx;rw [List.take_append_of_le_length (by omega)];exact h.at_ i x hx
   ·rw [xa3 hi] at hx;obtain ⟨h1,h2⟩:=xa5.1 hx;simp only [List.length_singleton] at h1;obtain rfl:i=s.1.length:=by omega
    simp only [Nat.sub_self,xj2] at h2;subst h2;rw [List.take_left];show s.2 * 16=_;rw [h.nx]
end Go.Proofs.YtejnpppejalhfadGreat
namespace Go.Proofs.YtejnpppejalhfadGreat
set_option maxRecDepth 100000
set_option maxHeartbeats 8000000
open Go.RowKit Go.Sort Go.MapKept
structure MapN (es:Array MapEntry) (L:List (List UInt8×Int)):Prop where
 held:es.toList.map (fun e=>(e.key,e.val))=L.map fun p=>(Value.string ⟨p.1.toArray⟩,Value.int .i64 p.2)
 once:(L.map (·.1)).Nodup
theorem MapN.nil:MapN #[] []:=⟨rfl,by simp⟩
theorem a8V {a b:List UInt8} (h:Value.string ⟨a.toArray⟩=Value.string ⟨b.toArray⟩):a=b:=by
 simpa using h
theorem MapN.at_ {w:World} {r c:Nat} {es:Array MapEntry} {L:List (List UInt8×Int)} (h:MapN es L) (hr:w.heap[r]?=some (.map es c)):MapAt .string w r (L.map fun p=>(Value.string ⟨p.1.toArray⟩,Value.int .i64 p.2)):=by
 refine ⟨⟨es,c,hr,h.held⟩,fun p hp=>?_,?_⟩
 ·obtain ⟨q,_,rfl⟩:=xi0.1 hp;trivial
 ·rw [List.map_map];have:(Prod.fst ∘ fun p:List UInt8×Int=>(Value.string ⟨p.1.toArray⟩,Value.int .i64 p.2))=(fun x:List UInt8=>Value.string ⟨x.toArray⟩) ∘ (·.1):=rfl;rw [this,<- List.map_map];exact List.Pairwise.map _ (fun a b hab e=>hab (a8V e)) h.once
section
variable {P:Program} {n:Nat} {ds:List Deferred} {E:Fr} {w:World} {Q:Exit->Act->World->Prop} {ops:Array Oper} {rest:List Oper} {d:Nat} {ty:TypeId} {pos:String} {after:Array Edge} {F:Nat->Prop} {w0:World} {Γ:List Asr} {T:Tab}
end
end Go.Proofs.YtejnpppejalhfadGreat
namespace Go.Proofs.YtejnpppejalhfadGreat
set_option maxRecDepth 100000
set_option maxHeartbeats 8000000
open Go.RowKit Go.Sort
structure PlR (I:Im) (i:Nat):Prop where
 rels:∀ (k:Nat) (r:Rl),k < i->I.rels[k]?=some r->(0<=r.at_/\r.at_<=4080)/\∀ b:Int,0<=b->b < 8->(own I.segs (r.at_ + b)).isSome=true
 step:∀ (k:Nat) (q r:Rl),k + 1 < i->I.rels[k]?=some q->I.rels[k + 1]?=some r->q.at_ + 8<=r.at_
theorem PlR.zero (I:Im):PlR I 0:=⟨by intros;omega,by intros;omega⟩
theorem PlR.succ {I:Im} {i:Nat} {x:Rl} (h:PlR I i) (hx:I.rels[i]?=some x) (h1:0<=x.at_/\x.at_<=4080) (h2:∀ b:Int,0<=b->b < 8->(own I.segs (x.at_ + b)).isSome=true) (h3:∀ q,0 < i->I.rels[i - 1]?=some q->q.at_ + 8<=x.at_):PlR I (i + 1) where
 rels k r hk hr:=by
  by_cases e:k=i
  ·subst e;rw [hx] at hr;cases hr;exact ⟨h1,h2⟩
  ·exact h.rels k r (by omega) hr
 step k q r hk hq hr:=by
  by_cases e:k + 1=i
  ·subst e;rw [hx] at hr;cases hr;exact h3 q (by omega) (by simpa using hq)
  ·exact h.step k q r (by omega) hq hr
def kvI (o:Ob):Value×Value:=(stK o.im.name,b1l o)
def MapB (B:List Ob) (i:Nat) (L:List (Value×Value)):Prop:=(((B.take i).map fun o=>o.im.name).Nodup->L=(B.take i).map kvI)/\(¬ ((B.take i).map fun o=>o.im.name).Nodup->L.length < i)/\L.length<=i
theorem MapB.start (B:List Ob):MapB B 0 []:=⟨fun _=>rfl,fun h=>absurd (by simp) h,xc4 _⟩
theorem MapB.mem {B:List Ob} {i:Nat} {L:List (Value×Value)} (h:L=(B.take i).map kvI) (nm:List UInt8):(∃ v,(stK nm,v) ∈ L) ↔ nm ∈ (B.take i).map fun o=>o.im.name:=by
 rw [h];constructor
 ·rintro ⟨v,hv⟩;obtain ⟨o,ho,e⟩:=xi0.1 hv;have e1:=congrArg Prod.fst e;unfold kvI stK at e1;exact xi0.2 ⟨o,ho,by simpa using e1⟩
 ·intro hn;obtain ⟨o,ho,rfl⟩:=xi0.1 hn;exact ⟨b1l o,xi0.2 ⟨o,ho,rfl⟩⟩
theorem a49 {α:Type} {l:List α} {x:α}:(l++[x]).Nodup ↔ l.Nodup/\x ∉ l:=by
 rw [xi2];constructor
 ·rintro ⟨h1,-,h3⟩;exact ⟨h1,fun h=>h3 x h x (by simp) rfl⟩
 ·rintro ⟨h1,h2⟩;refine ⟨h1,by simp,fun a ha b hb=>?_⟩;have:b=x:=by simpa using hb
  subst this;rintro rfl;exact h2 ha
theorem MapB.new {B:List Ob} {i:Nat} {L:List (Value×Value)} {o:Ob} (h:MapB B i L) (ho:B[i]?=some o) (hn:∀ v,(stK o.im.name,v) ∉ L):MapB B (i + 1) (L++[kvI o]):=by
 unfold MapB;rw [List.take_add_one,ho];simp only [Option.toList_some,xi1,xa9,List.map_nil,xd4,xd5,xa2];rw [a49];refine ⟨fun ⟨h1,h2⟩=>by rw [h.1 h1],fun hno=>?_,by have:=h.2.2;omega⟩;by_cases h1:((B.take i).map fun o=>o.im.name).Nodup
 ·exfalso;have hin:o.im.name ∈ (B.take i).map fun o=>o.im.name:=Classical.byContradiction fun hc=>hno ⟨h1,hc⟩;obtain ⟨v,hv⟩:=(MapB.mem (h.1 h1) o.im.name).2 hin;exact hn v hv
 ·have:=h.2.1 h1;omega
theorem MapB.old {B:List Ob} {i j:Nat} {L:List (Value×Value)} {o:Ob} {u:Value} {x:Value×Value} (h:MapB B i L) (ho:B[i]?=some o) (hu:(stK o.im.name,u) ∈ L):MapB B (i + 1) (L.set j x):=by
 unfold MapB;rw [List.take_add_one,ho];simp only [Option.toList_some,xi1,xa9,List.map_nil,List.length_set];rw [a49];refine ⟨fun ⟨h1,h2⟩=>absurd ((MapB.mem (h.1 h1) o.im.name).1 ⟨u,hu⟩) h2,fun hno=>?_,by have:=h.2.2;omega⟩;have:=h.2.2;omega
structure OrdI (B:List Ob) (ord:List Nat) (s:List Ob×Int):Prop where
 len:s.1.length=ord.length
 at_:∀ (i k:Nat),ord[i]?=some k->∃ (o:Ob) (a:Int),B[k]?=some o/\s.1[i]?=some { o with at_:=a }
theorem a7p {B:List Ob} (h:(B.map fun o=>o.im.name).Nodup) {i j:Nat} {a b:Ob} (ha:B[i]?=some a) (hb:B[j]?=some b) (he:a.im.name=b.im.name):i=j:=by
 obtain ⟨h1,rfl⟩:=xa5.1 ha;obtain ⟨h2,rfl⟩:=xa5.1 hb;unfold List.Nodup at h;rw [xc7] at h;rcases Nat.lt_trichotomy i j with hlt|heq|hlt
 ·exact absurd (by rw [xj3,xj3];exact he) (h i j (by simpa using h1) (by simpa using h2) hlt)
 ·exact heq
 ·exact absurd (by rw [xj3,xj3];exact he.symm) (h j i (by simpa using h2) (by simpa using h1) hlt)
theorem OrdI.mem {B:List Ob} {ord:List Nat} {s:List Ob×Int} {k:Nat} {o:Ob} (h:OrdI B ord s) (hn:(B.map fun o=>o.im.name).Nodup) (hk:B[k]?=some o):k ∈ ord ↔ a33 s.1 o.im.name=true:=by
 rw [a3z];constructor
 ·intro hm;obtain ⟨i,hi⟩:=xc8.1 hm;obtain ⟨o',a,h1,h2⟩:=h.at_ i k hi;rw [hk] at h1
  cases h1
  exact ⟨_,xc0 h2,rfl⟩
 ·rintro ⟨x,hx,hxn⟩;obtain ⟨i,hi⟩:=xc8.1 hx;have hil:i < ord.length:=by have:=a7 hi;have:=h.len;omega
  obtain ⟨k',hk'⟩:=n7 (l:=ord) (i:=i) (by omega);obtain ⟨o',a,h1,h2⟩:=h.at_ i k' hk';rw [hi] at h2
  cases h2
  have:=a7p hn hk h1 hxn.symm;subst this;exact xc0 hk'
theorem OrdI.old {B:List Ob} {ord:List Nat} {s:List Ob×Int} {k:Nat} {o:Ob} (h:OrdI B ord s) (hn:(B.map fun o=>o.im.name).Nodup) (hk:B[k]?=some o) (hm:k ∈ ord):OrdI B ord (a0b s o):=by
 have:=(h.mem hn hk).1 hm;unfold a0b a68 a2b;rw [xd6 this,xd6 this];exact h
theorem OrdI.new {B:List Ob} {ord:List Nat} {s:List Ob×Int} {k:Nat} {o:Ob} (h:OrdI B ord s) (hn:(B.map fun o=>o.im.name).Nodup) (hk:B[k]?=some o) (hm:k ∉ ord):OrdI B (ord++[k]) (a0b s o):=by
 have hp:¬ a33 s.1 o.im.name=true:=fun hc=>hm ((h.mem hn hk).2 hc);unfold a0b a68 a2b;rw [xd7 hp,xd7 hp];refine ⟨by simp [h.len],fun i j hj=>?_⟩;rcases xh8 i ord.length with hi|hi
 ·rw [xa4 hi] at hj;obtain ⟨o',a,h1,h2⟩:=h.at_ i j hj;exact ⟨o',a,h1,by rw [xa4 (by rw [h.len];exact hi)];exact h2⟩
 ·rw [xa3 hi] at hj;obtain ⟨h1,h2⟩:=xa5.1 hj;simp only [List.length_singleton] at h1;obtain rfl:i=ord.length:=by omega
  simp only [Nat.sub_self,xj2] at h2;subst h2;exact ⟨o,s.2 * 16,hk,by rw [<- h.len,xa3 (by omega)];simp⟩
theorem OrdI.start {B:List Ob} {M:Ob} (h:B[0]?=some M):OrdI B [0] (a0b ([],1) M):=by
 refine ⟨rfl,fun i k hk=>?_⟩
 cases i with
 |zero=>
  obtain rfl:0=k:=by simpa using hk
  exact ⟨M,16,h,rfl⟩
 |succ i=>simp at hk
theorem eb (b:Bool) {c:Bool} (h:b=c):Value.bool b=.bool c:=by rw [h]
structure ObsI (w:World) (os:List Ob):Prop where
 v:∀ o ∈ os,ObV w o
 b:∀ o ∈ os,∃ b:Int,o.at_=b * 16/\1<=b/\b<=1800
 y:∀ o ∈ os,∀ s ∈ o.im.syms,-9223372036854775808<=o.at_ + s.at_/\o.at_ + s.at_<=9223372036854775807
 n:os.length<=7
 k:∀ o ∈ os,a8K o.im=0
theorem ObsI.now {w w':World} {os:List Ob} {Γ:List Asr} (h:ObsI w os) (hS:St nF w w' Γ):ObsI w' os:=⟨fun o ho=>(h.v o ho).now hS,h.b,h.y,h.n,h.k⟩
abbrev Bs8:=List UInt8
section
variable {α:Type} {one:Bs8->Option (α×Bs8)}
end
theorem wrap64_in {m:Int} (h1:-9223372036854775808<=m) (h2:m<=9223372036854775807):wrap64 m=m:=by unfold wrap64;omega
section
variable {P:Program} {n:Nat} {ds:List Deferred} {E:Fr} {w:World} {dst:Option Nat} {ty:TypeId} {pos:String} {after:Array Edge} {F:Nat->Prop} {w0:World} {Γ:List Asr} {T:Tab}
end
section
variable {P:Program} {n:Nat} {ds:List Deferred} {E:Fr} {w:World} {Q:Exit->Act->World->Prop} {ops:Array Oper} {S:World->Prop} {q fuel:Nat} {li:Array Bool} {d:Nat} {op:Op} {ty:TypeId} {pos:String} {after:Array Edge} {T:Tab}
end
section
variable {P:Program} {n:Nat} {ds:List Deferred} {E E':Fr} {w:World} {F:Nat->Prop} {w0:World} {Γ:List Asr}
end
theorem ShsV.one {w:World} {l:List (Sh×Value)} {v:Value} (h:ShsV w l v):∀ p ∈ l,p.2.oneCell'=true:=fun p hp=>by
 obtain ⟨a,c,hpc⟩:=(h.fx p hp).len;rw [hpc];rfl
end Go.Proofs.YtejnpppejalhfadGreat
