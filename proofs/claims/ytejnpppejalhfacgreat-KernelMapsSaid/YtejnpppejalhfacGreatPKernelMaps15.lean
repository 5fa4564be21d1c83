/- Texts that the proof stands on, one behind the other: Cx10, Cx11, Cx12, Cx13, Cx14, Cx3, CyK. -/
import Derived.Test.YtejnpppejalhfacGreatPKernelMaps14
set_option linter.unusedVariables false
set_option linter.unusedSimpArgs false
namespace Go.Proofs.YtejnpppejalhfacGreat
set_option maxRecDepth 100000
set_option maxHeartbeats 8000000
open Go.RowKit Go.Sort Go.MapKept
def b4J (P:Program) (ez:List (Nat×Value)):Prop:=∀ t z,o3 ez t=some z->∀ Kt Et,P.underlying t=some (.map Kt Et)->(P.info? Et).bind (·.zero)=some z/\∀ ρ,VR ρ z z
section
variable {P:Program} {T:TT} {q:EqT} {w0 w w':World} {ρ σ:Ren} {N:Nat} {ds:List Deferred} {a:Act} {E:Fr} {H:SH} {n:Nat} {x:Nat×Nat} {i:Nat}
theorem b6k (hT:TOk P T) {t e sz eb:Nat} {ag:Bool} {zz:List Value} {y z:Operand} {p:Option Addr} {m c:Nat} {u:Value} (ht:T.get t=some (.sl e sz eb ag zz)) (hy:sEv E y=some (.slice p m c)) (hz:sEv E z=some u) (hr:a3y H sz u=some []) (hm:m<=c):Snd P (.call { callee:=.builtin .append,args:=#[y,z],argTypes:=#[t,t] }) E H n (some (.slice p m c),H,n) :=
 Snd.of_gets fun {w0 w ρ N ds a} ha hI=>by
  obtain ⟨Tb,hTb,hget⟩:=hT.tabs [t];obtain ⟨v1,hv1,gy⟩:=ha.ev hy;obtain ⟨v2,hv2,gz⟩:=ha.ev hz;have h2:∃ p2 c2,v2=.slice p2 0 c2:=by
   unfold a3y at hr
   split at hr
   ·obtain ⟨p',c',e,_⟩:=VR.slAny hv2;exact ⟨p',c',e⟩
   ·obtain ⟨p',c',e,_⟩:=VR.slAny hv2;exact ⟨p',c',e⟩
   ·rename_i i o m' c' hm'
    split at hr
    ·obtain ⟨h1,h2⟩:=l5 hr;simp only [xb1] at h1;have h3:=xf6 h1.2.2;have h4:=congrArg (Option.map List.length) h2;simp only [xh1,xa1,xb4,xa2,Option.some.injEq] at h4;obtain ⟨p',c'',e,_⟩:=VR.slAny hv2;exact ⟨p',c'',by rw [e,show m'=0 by omega]⟩
    ·cases hr
   ·cases hr
  obtain ⟨p2,c2,rfl⟩:=h2;have hv:∃ p' c',v1=.slice p' m c'/\m<=c':=by
   match p,hv1 with
   |none,hv1=>exact ⟨_,_,VR.sl0 hv1,hm⟩
   |some ⟨i,o,none⟩,hv1=>obtain ⟨x,_,e⟩:=VR.sl hv1;exact ⟨_,_,e,by omega⟩
   |some ⟨i,o,some s⟩,hv1=>unfold VR a0z at hv1;cases hv1
  obtain ⟨p',c',rfl,hm'⟩:=hv;refine ⟨_,hv1,fun dst ty pos after=>Gets.of_at fun b hB=>?_⟩;have hrun:=b3V hTb (hget t _ (by simp) ht) p' p2 m c' c2 hm' ty w;simp [execOp,resolve,invoke,builtin,hB.ev gy,hB.ev gz,hrun,Result.andThen]
theorem a6f {zv:Value} {ez:List Value} {sz:Nat} (hzl:zv.cells.toList=ez) (hsz:sz=ez.length) (hs0:sz≠0) (dl:Nat):(Builtin.zeroCells zv.cells dl).toList=(List.replicate dl ez).flatten:=by
 have hzs:zv.cells.size=sz:=by rw [<- xg5,hzl,hsz]
 have hfl:(List.replicate dl ez).flatten.length=dl * sz:=by rw [o9 (size:=sz) (fun r hr=>by rw [xk2 hr,hsz]),xh4]
 refine xg6 fun j=>?_;unfold Builtin.zeroCells;rw [hzs];by_cases hj:j < dl * sz
 ·have hdiv:j / sz < (List.replicate dl ez).length:=by rw [xh4];exact xg7 (by rw [xg8];exact hj)
  have hmod:=Nat.mod_lt j (xg2 hs0);have h3:=a3p (rows:=List.replicate dl ez) (size:=sz) (fun r hr=>by rw [xk2 hr,hsz]) (i:=j / sz) (j:=j % sz) (xd8 hdiv) hmod;rw [show j / sz * sz + j % sz=j from by rw [xg8];exact xg9 j sz] at h3;rw [h3,List.getElem_replicate];have hml:j % sz < zv.cells.size:=by rw [hzs];exact hmod
  simp [hj,hml,<- hzl]
 ·rw [xh2 (by simp;omega),xh2 (by rw [hfl];omega)]
theorem b7A (hT:TOk P T) (hZ:ZOk T) {t tn e sz eb s2 m:Nat} {ag:Bool} {zz:List Value} {z2:Value} {y z:Operand} (ht:T.get t=some (.sl e sz eb ag zz)) (htn:T.get tn=some (.sc (.int .i64) s2 z2)) (hy:sEv E y=some (.slice none 0 0)) (hz:sEv E z=some (.int .i64 (.ofNat m))) (hm:0 < m) (hbig:m * (eb + 1)<=1000000) (h1:zz.all (·.oneCell')=true):Snd P (.call { callee:=.builtin .append,args:=#[y,z],argTypes:=#[t,tn] }) E H n (some (.slice (some ⟨n,0,none⟩) (List.replicate m zz).length (List.replicate m zz).length),a15 H n (.row e sz (List.replicate m zz) (List.replicate m zz).length true),n + 1) :=
 Snd.of_new fun {w0 w ρ N ds a} ha hI dst ty pos after=>by
  obtain ⟨Tb,hTb,hget⟩:=hT.tabs [t,tn];obtain ⟨v1,hv1,gy⟩:=ha.ev hy;rw [VR.sl0 hv1] at gy;obtain ⟨v2,hv2,gz⟩:=ha.ev hz;rw [VR.int hv2] at gz;obtain ⟨ji,zv,hu,hinfo,_,hs,hby,hz0,hzl,_,hsz,hs0⟩:=hTb.sl (hget t _ (by simp) ht);obtain ⟨_,hun,_⟩:=hTb.sc (hget tn _ (by simp) htn);have hmul:m * (eb + 1)=m * eb + m:=Nat.mul_succ m eb;intro b hB K Q kk;have hold:(Builtin.firstCells ji.size 0 (.slice none 0 0)).run P w.drew=.ok ([]:List Value).toArray w.drew:=rfl;have hrun:=Go.Lib.run_append_grow_zeros (P:=P) w t tn ty e ji zv .i64 .i64 hu hun hinfo hz0 none 0 0 [] hold m hm (by rw [hs];exact xg2 hs0) (by omega) (by omega) (by rw [hby];omega) (by rw [hby,xa8];exact growslice_fits (by omega) (by omega));rw [xa8] at hrun;have hex:(execOp b.eval ⟨dst,.call { callee:=.builtin .append,args:=#[y,z],argTypes:=#[t,tn] },ty,pos,after,none⟩).run P w=.ok (.value (.slice (some ⟨w.heap.size,0,none⟩) m (grownCap w m 0 e))) (w.drew.alloc (.cells ((([]:List Value).toArray++Builtin.zeroCells zv.cells m++Builtin.zeroCells zv.cells (grownCap w m 0 e - m))) e)):=by
   simp only [Int.ofNat_eq_natCast] at gz;simp [execOp,resolve,invoke,builtin,hB.ev gy,hB.ev gz,hrun,Result.andThen]
  unfold Oper.wp;rw [hex];have hge:=grownCap_ge w m 0 e;have hcm:=grownCap_le_maxLen w m 0 e (by unfold maxLen;omega);have hz2:=LR.cOks (ρ:=ρ) (hZ t _ ht);have hlr:(List.replicate m zz).length=m:=xh4;refine kk _ _ ⟨(w.heap.size,grownCap w m 0 e - m),fun τ _ hτ=>?_,⟨rfl,rfl,rfl,by simp,fun k hk _=>heap_alloc_old w.drew _ hk⟩,xd2 _,_,heap_alloc_new w.drew _,fun τ hτ _=>?_⟩
  ·rw [hlr];have:=VR.mkSl (o:=0) (n:=m) (c:=m) hτ;rw [show m + (w.heap.size,grownCap w m 0 e - m).2=grownCap w m 0 e from by simp only;omega] at this;exact this
  ·have hfl:(List.replicate m zz).flatten.length=m * sz:=by rw [o9 (size:=sz) (fun r hr=>by rw [xk2 hr,hsz]),xh4]
   refine ⟨List.replicate m zz,_,RR.rep (LR.cOks (hZ t _ ht)) m,rfl,by rw [hlr];simp only;omega,by rw [hlr];simp only;omega,?_,?_,fun r hr=>by rw [xk2 hr,hsz],fun r hr=>by rw [xk2 hr];exact h1,fun h=>by cases h⟩
   ·rw [<- xg5,xn5,xn5,a6f hzl hsz hs0,a6f hzl hsz hs0,xg0,List.nil_append,xe5,hfl,hlr];rw [o9 (size:=sz) (fun r hr=>by rw [xk2 hr,hsz]),xh4,<- Nat.add_mul]
   ·rw [xn5,xn5,a6f hzl hsz hs0,xg0,List.nil_append,hlr,<- hfl,List.take_left'];rfl
theorem a4o {k x:Value} {b:Bool} (h:b47 k x=some b):(b=true ↔ x=k):=by
 unfold b47 at h
 split at h
 ·cases h;simp [eq_comm]
 ·cases h;simp [eq_comm]
 ·cases h
theorem a4G {k:Value}:∀ {es:List (Value×Value)} {v:Value},a4l k es=some (some v)->(k,v) ∈ es
 |[],_,h=>by cases h
 |(x,u)::r,v,h=>by
  unfold a4l at h
  split at h
  ·rename_i hk
   cases h
   rw [(a4o hk).1 rfl];exact xc4
  ·exact xc5 _ (a4G h)
  ·cases h
theorem a3U {k:Value}:∀ {es:List (Value×Value)},a4l k es=some none->∀ p ∈ es,p.1≠k
 |[],_=>by simp
 |(x,u)::r,h=>by
  unfold a4l at h
  split at h
  ·cases h
  ·rename_i hk;intro p hp;rcases xc3.1 hp with rfl|hp
   ·exact fun e=>by have:=(a4o hk).2 e;cases this
   ·exact a3U h p hp
  ·cases h
theorem a6z {k v:Value}:∀ {es:List (Value×Value)},(∀ p ∈ es,p.1≠k)->b1t k v es=es++[(k,v)]
 |[],_=>rfl
 |(x,u)::r,h=>by
  unfold b1t
  split
  ·rename_i hk;exact (h _ xc4 ((a4o hk).1 rfl)).elim
  ·rw [a6z fun p hp=>h p (xc5 _ hp)];rfl
theorem a8a {k v:Value}:∀ {es:List (Value×Value)} {j:Nat} {u:Value},(es.map (·.1)).Nodup->es[j]?=some (k,u)->(∃ w,a4l k es=some (some w))->b1t k v es=es.set j (k,v)
 |[],_,_,_,h,_=>by simp at h
 |(x,w)::r,j,u,hn,h,hf=>by
  obtain ⟨w',hf⟩:=hf;unfold a4l at hf;unfold b1t;rw [xb9,List.nodup_cons] at hn
  split at hf
  ·rename_i hk;rw [hk];have hx:=(a4o hk).1 rfl
   cases j with
   |zero=>rfl
   |succ j=>
    have:k ∈ r.map (·.1):=xh6.2 ⟨(k,u),xc8 (by simpa using h),rfl⟩;subst hx;exact (hn.1 this).elim
  ·rename_i hk;rw [hk]
   cases j with
   |zero=>
    simp at h;have:=(a4o hk).2 h.1
    cases this
   |succ j=>
    dsimp only;rw [a8a hn.2 (by simpa using h) ⟨w',hf⟩];rfl
  ·cases hf
theorem R2.at_ {es L:List (Value×Value)} (h:R2 ρ es L) {j:Nat} {k v:Value} (hj:es[j]?=some (k,v)):∃ u,L[j]?=some (k,u)/\VR ρ v u:=by
 obtain ⟨h1,h2⟩:=h;obtain ⟨u,hu,hv⟩:=h2.get (i:=j) (v:=v) (by rw [xh0,hj];rfl);rw [xh0] at hu;obtain ⟨p,hp,e⟩:=xn2.1 hu;have h3:(L.map (·.1))[j]?=some k:=by rw [h1,xh0,hj];rfl
 rw [xh0,hp] at h3;simp only [xh1,Option.some.injEq] at h3;exact ⟨u,by rw [hp];congr 1;exact Prod.ext h3 e,hv⟩
theorem R2.at' {es L:List (Value×Value)} (h:R2 ρ es L) {j:Nat} {k u:Value} (hj:L[j]?=some (k,u)):∃ v,es[j]?=some (k,v):=by
 obtain ⟨h1,h2⟩:=h;have h3:(es.map (·.1))[j]?=some k:=by rw [<- h1,xh0,hj];rfl
 rw [xh0] at h3;obtain ⟨p,hp,e⟩:=xn2.1 h3;exact ⟨p.2,by rw [hp,<- e]⟩
theorem R2.len {es L:List (Value×Value)} (h:R2 ρ es L):L.length=es.length:=by
 have:=congrArg List.length h.1
 simpa using this
theorem R2.set {es L:List (Value×Value)} (h:R2 ρ es L) {j:Nat} {k v u:Value} (hv:VR ρ v u):R2 ρ (es.set j (k,v)) (L.set j (k,u)):=by
 refine ⟨by rw [xk6,xk6,h.1],?_⟩;rw [xk6,xk6];exact h.2.set j hv
theorem R2.snoc {es L:List (Value×Value)} (h:R2 ρ es L) {k v u:Value} (hv:VR ρ v u):R2 ρ (es++[(k,v)]) (L++[(k,u)]):=by
 refine ⟨by rw [xj3,xj3,h.1];rfl,?_⟩;rw [xj3,xj3];exact h.2.app (LR.cons hv LR.nil)
theorem b2b (hT:TOk P T) (hI:Inv P w0 ρ H w) {t:TypeId} {k:Value} {es:List (Value×Value)} (h:a79 T H t i k=some es):o3 H i=some (.smap t es)/\∃ x arr c Kt Et D L,ρ i=some x/\w.heap[x.1]?=some (.map arr c)/\P.underlying t=some (.map Kt Et)/\P.underlying Kt=some D/\MapG D arr L/\R2 ρ es L/\IsKey D k/\(∀ p ∈ es,(∃ n,p.1=.int .i64 n)\/∃ s,p.1=.string s)/\((∃ n,k=.int .i64 n)\/∃ s,k=.string s):=by
 unfold a79 at h
 split at h
 ·rename_i t' es' hi;obtain ⟨h1,h2⟩:=l5 h
  cases h2
  rw [xb1] at h1;obtain ⟨h1,h2⟩:=h1;obtain rfl:=xb8 h1;refine ⟨hi,?_⟩;obtain ⟨x,ob,g1,g2,g3,_⟩:=hI.held _ _ hi;obtain ⟨arr,c,Kt,Et,D,L,e1,e2,rfl,e4,e5,e6⟩:=g3;refine ⟨x,arr,c,Kt,Et,D,L,g1,g2,e1,e2,e4,e5,?_,e6,?_⟩
  ·unfold sKO at h2
   split at h2
   ·rename_i K _ _ _ ht;obtain ⟨Tb,hTb,hget⟩:=hT.tabs [t,K];obtain ⟨_,hu,_⟩:=hTb.sc (hget t _ (by simp) ht);rw [e1] at hu
    cases hu
    split at h2
    ·rename_i hk;obtain ⟨_,hu,_⟩:=hTb.sc (hget _ _ (by simp) hk);rw [e2] at hu
     cases hu
     rfl
    ·rename_i hk;obtain ⟨_,hu,_⟩:=hTb.sc (hget _ _ (by simp) hk);rw [e2] at hu
     cases hu
     exact trivial
    ·cases h2
   ·cases h2
  ·unfold sKO at h2
   split at h2
   ·split at h2
    ·exact xd4 ⟨_,rfl⟩
    ·exact xd1 ⟨_,rfl⟩
    ·cases h2
   ·cases h2
 ·cases h
theorem VR.key {k u:Value} (hk:(∃ n,k=.int .i64 n)\/∃ s,k=.string s) (h:VR ρ k u):u=k:=by
 rcases hk with ⟨n,rfl⟩|⟨s,rfl⟩
 ·exact VR.int h
 ·exact VR.str h
theorem b6K (hT:TOk P T) {ez:List (Nat×Value)} (hE:b4J P ez) {t:TypeId} {ok:Bool} {y z:Operand} {m k:Value} {r:Option Value×SH×Nat} (hy:sEv E y=some m) (hz:sEv E z=some k) (h:b2T T ez H n t ok m k=some r):Snd P (.lookup t y z ok) E H n r:=by
 unfold b2T at h
 split at h
 ·rename_i i
  split at h
  ·rename_i es hm
   split at h
   ·rename_i v hf
    cases h
    refine Snd.of_gets fun {w0 w ρ N ds a} ha hI=>?_;obtain ⟨hi,x,arr,c,Kt,Et,D,L,g1,g2,e1,e2,e4,e5,e6,_,e7⟩:=b2b hT hI hm;obtain ⟨v1,hv1,gy⟩:=ha.ev hy;obtain ⟨x',hx,rfl⟩:=VR.mp hv1;rw [g1] at hx;cases hx;obtain ⟨v2,hv2,gz⟩:=ha.ev hz;rw [VR.key e7 hv2] at gz;obtain ⟨j,hj⟩:=xd6.1 (a4G hf);obtain ⟨u,hu,huv⟩:=e5.at_ hj;have hh:Asr.holds w (.obj x.1 (.map arr c)):=⟨g2,rfl⟩;refine ⟨_,?_,fun _ _ _ _=>b6Q (St.self hh) e1 e2 gy gz (i:=0) rfl e4 e6 (xc8 hu) ok⟩
    cases ok
    ·exact huv
    ·exact VR.mkTup (LR.cons huv (LR.cOks rfl))
   ·rename_i hf;obtain ⟨z0,hz0,rfl⟩:=xn2.1 h;refine Snd.of_gets fun {w0 w ρ N ds a} ha hI=>?_;obtain ⟨hi,x,arr,c,Kt,Et,D,L,g1,g2,e1,e2,e4,e5,e6,_,e7⟩:=b2b hT hI hm;obtain ⟨v1,hv1,gy⟩:=ha.ev hy;obtain ⟨x',hx,rfl⟩:=VR.mp hv1;rw [g1] at hx;cases hx;obtain ⟨v2,hv2,gz⟩:=ha.ev hz;rw [VR.key e7 hv2] at gz;have hh:Asr.holds w (.obj x.1 (.map arr c)):=⟨g2,rfl⟩;obtain ⟨hz1,hz2⟩:=hE t z0 hz0 Kt Et e1;refine ⟨_,?_,fun _ _ _ _=>b4u (St.self hh) e1 e2 hz1 gy gz (i:=0) rfl e4 e6 (fun v hv=>?_) ok⟩
    ·cases ok
     ·exact hz2 ρ
     ·exact VR.mkTup (LR.cons (hz2 ρ) (LR.cOks rfl))
    ·obtain ⟨j,hj⟩:=xd6.1 hv;obtain ⟨v',hv'⟩:=e5.at' hj;exact a3U hf _ (xc8 hv') rfl
   ·cases h
  ·cases h
 ·cases h
theorem b7x (hT:TOk P T) {t:TypeId} {y z u:Operand} {m k v:Value} {r:Option Value×SH×Nat} (hy:sEv E y=some m) (hz:sEv E z=some k) (hu:sEv E u=some v) (h:b6l T H n t m k v=some r):Snd P (.mapUpdate t y z u) E H n r:=by
 unfold b6l at h
 split at h
 ·rename_i i
  split at h
  ·rename_i es hm
   split at h
   ·rename_i fo hf
    cases h
    have hi:o3 H i=some (.smap t es):=by
     unfold a79 at hm
     split at hm
     ·rename_i hi;obtain ⟨h1,h2⟩:=l5 hm
      cases h2
      rw [xb1] at h1;rw [xb8 h1.1];exact hi
     ·cases hm
    refine Snd.of_upd hi fun {w0 w ρ N ds a x ob} ha hI hx hob hf' dst ty pos after=>?_;obtain ⟨_,x',arr,c,Kt,Et,D,L,g1,g2,e1,e2,e4,e5,e6,e8,e7⟩:=b2b hT hI hm;rw [hx] at g1;cases g1;obtain ⟨v1,hv1,gy⟩:=ha.ev hy;obtain ⟨x',hx',rfl⟩:=VR.mp hv1;rw [hx] at hx';cases hx';obtain ⟨v2,hv2,gz⟩:=ha.ev hz;rw [VR.key e7 hv2] at gz;obtain ⟨v3,hv3,gu⟩:=ha.ev hu;have hh:Asr.holds w (.obj x.1 (.map arr c)):=⟨g2,rfl⟩;intro b hB K Q kk
    cases fo with
    |none=>
     have hmiss:=a3U hf;refine b6n (St.self hh) e1 e2 gy gz gu (i:=0) rfl e4 e6 (fun v hv=>?_) b hB K Q fun u' w' ⟨es',c',hG,hS⟩=>kk u' w' ⟨trivial,hS.grown1 rfl,_,(hS.at_ (i:=0) rfl).1,?_⟩
     ·obtain ⟨j,hj⟩:=xd6.1 hv;obtain ⟨v',hv'⟩:=e5.at' hj;exact hmiss _ (xc8 hv') rfl
     ·rw [a6z hmiss];refine ⟨es',c',Kt,Et,D,_,e1,e2,rfl,hG,e5.snoc hv3,fun p hp=>?_⟩;rcases xd9.1 hp with hp|hp
      ·exact e8 p hp
      ·rw [xn4.1 hp];exact e7
    |some w1=>
     obtain ⟨j,hj⟩:=xd6.1 (a4G hf);obtain ⟨u0,hu0,_⟩:=e5.at_ hj;refine b6I (St.self hh) e1 e2 gy gz gu (i:=0) rfl e4 e6 (xc8 hu0) b hB K Q fun u' w' ⟨es',c',j2,u2,hj2,hG,hS⟩=>kk u' w' ⟨trivial,hS.grown1 rfl,_,(hS.at_ (i:=0) rfl).1,?_⟩;obtain ⟨v',hv'⟩:=e5.at' hj2;have hnd:(es.map (·.1)).Nodup:=by rw [<- e5.1];exact e4.once
     rw [a8a hnd hv' ⟨w1,hf⟩];refine ⟨es',c',Kt,Et,D,_,e1,e2,rfl,hG,e5.set hv3,fun p hp=>?_⟩;rcases xm3 hp with hp|hp
     ·exact e8 p hp
     ·rw [hp];exact e7
   ·cases h
  ·cases h
 ·cases h
theorem b5Z {t:TypeId} {y:Operand} {v:Value} {r:Option Value×SH×Nat} (hy:sEv E y=some v) (h:b13 H n t v=some r):Snd P (.call { callee:=.builtin .len,args:=#[y],argTypes:=#[t] }) E H n r:=by
 unfold b13 at h
 split at h
 ·rename_i i
  split at h
  ·rename_i t' es hi;obtain ⟨h1,h2⟩:=l5 h
   cases h2
   obtain rfl:=xb8 h1;refine Snd.of_gets fun {w0 w ρ N ds a} ha hI=>?_;obtain ⟨v1,hv1,gy⟩:=ha.ev hy;obtain ⟨x',hx,rfl⟩:=VR.mp hv1;obtain ⟨x,ob,g1,g2,g3,_⟩:=hI.held _ _ hi;rw [hx] at g1;cases g1;obtain ⟨arr,c,Kt,Et,D,L,e1,e2,rfl,e4,e5,e6⟩:=g3;have hh:Asr.holds w (.obj x'.1 (.map arr c)):=⟨g2,rfl⟩;refine ⟨_,VR.cOk rfl,fun dst ty pos after b hB K Q kk=>b3W (St.self hh) e1 gy (i:=0) rfl b hB K Q fun v' w' hv=>kk v' w' ⟨?_,hv.2⟩⟩;rw [hv.1,e4.size,e5.len]
  ·cases h
 ·cases h
theorem b7X (hT:TOk P T) {t K:TypeId} {Et:TypeId} {s:Nat} {z:Value} {tk:TI} (ht:T.get t=some (.sc (.map K Et) s z)) (hk:T.get K=some tk):Snd P (.makeMap t none) E H n (some (.map (some n)),a15 H n (.smap t []),n + 1) :=
 Snd.of_new fun {w0 w ρ N ds a} ha hI dst ty pos after=>by
  obtain ⟨Tb,hTb,hget⟩:=hT.tabs [t,K];obtain ⟨_,hu,_⟩:=hTb.sc (hget t _ (by simp) ht);obtain ⟨D,hD⟩:=hTb.und (hget K _ (by simp) hk);intro b hB K' Q kk;refine b1L (St.start _) b hB K' Q fun u' w' ⟨g,e,hS⟩=>kk u' w' ⟨(g,0),fun τ _ hτ=>by rw [e];exact VR.mkMap hτ,hS.drop.grown0,b24 hS rfl,_,(hS.at_ (i:=0) rfl).1,fun τ _ _=>⟨#[],0,K,Et,D,[],hu,hD,rfl,MapG.nil D,⟨rfl,LR.nil⟩,by simp⟩⟩
end
end Go.Proofs.YtejnpppejalhfacGreat
namespace Go.Proofs.YtejnpppejalhfacGreat
set_option maxRecDepth 100000
set_option maxHeartbeats 8000000
open Go.RowKit Go.Sort
section
variable {P:Program} {T:TT} {q:EqT} {w0 w w':World} {ρ σ:Ren} {N:Nat} {ds:List Deferred} {a:Act} {E:Fr} {H:SH} {n:Nat} {x:Nat×Nat} {i:Nat}
theorem b7f (hT:TOk P T) {t:TypeId} {y:Operand} {lo hi mx:Option Operand} {r:Option Value×SH×Nat} (h:b54 T E H n t y lo hi mx=some r):Snd P (.slice t y lo hi mx) E H n r:=by
 unfold b54 at h
 split at h
 ·rename_i ht hy hlo;obtain ⟨h1,h2⟩:=l5 h
  cases h2
  have h1:=xf6 h1;obtain ⟨Tb,hTb,hget⟩:=hT.tabs [t];refine Snd.of_runs fun {ρ N ds a} ha=>?_;obtain ⟨v1,hv1,gy⟩:=ha.ev hy;obtain ⟨x,hx,rfl⟩:=VR.sl hv1
  cases lo with
  |none=>cases hlo
  |some l=>
   obtain ⟨v,hv,e⟩:=xn2.1 (show (sEv E l).map some=_ from hlo)
   cases e
   obtain ⟨v2,hv2,gl⟩:=ha.ev hv;rw [VR.int hv2] at gl;exact ⟨_,trivial,fun _ _ _ _=>a9U hTb (hget t _ (by simp) ht) gy gl rfl h1 a ha.full _⟩
 ·cases h
theorem b2j {sz:Nat} {u:Value} {rows:List (List Value)} (h:a3y H sz u=some rows):∃ p m c,u=.slice p m c:=by
 unfold a3y at h
 split at h
 ·exact ⟨_,_,_,rfl⟩
 ·exact ⟨_,_,_,rfl⟩
 ·exact ⟨_,_,_,rfl⟩
 ·cases h
theorem b7h (hT:TOk P T) (hZ:ZOk T) {t t':TypeId} {y z:Operand} {s u:Value} {r:Option Value×SH×Nat} (hy:sEv E y=some s) (hz:sEv E z=some u) (h:a9h T H n t t' s u=some r):Snd P (.call { callee:=.builtin .append,args:=#[y,z],argTypes:=#[t,t'] }) E H n r:=by
 unfold a9h at h
 split at h
 ·rename_i e sz eb ag zz ht;rcases a4p h with ⟨h1,g⟩|⟨_,g⟩
  ·clear h;obtain rfl:=xb8 h1
   split at g
   ·rename_i news hr;have hu:=b2j hr;unfold b0A at g
    split at g
    ·rename_i p m c
     split at g
     ·obtain ⟨h2,g2⟩:=l5 g
      cases g2
      exact b6k hT ht hy hz hr (xf6 h2)
     ·rename_i n0 nr;obtain ⟨h2,g2⟩:=l5 g;clear g;have h2:=xf6 h2;have hne:n0::nr≠[]:=by simp
      generalize n0::nr=news at g2 h2 hr hne
      split at g2
      ·obtain ⟨h3,g3⟩:=l5 g2
       cases g3
       rw [xb1] at h3;obtain rfl:=xb8 h3.1;obtain rfl:=xb8 h3.2;exact b4C hT ht hy hz hu hr hne (by simpa using h2)
      ·rename_i i;unfold b5s at g2
       split at g2
       ·rename_i e' sz' rows cap ub hi;obtain ⟨h3,g3⟩:=l5 g2;clear g2;rw [xb1] at h3;obtain rfl:=xb8 h3.1;obtain rfl:=xb8 h3.2;rcases a4p g3 with ⟨h4,g4⟩|⟨_,g4⟩
        ·clear g3
         cases g4
         rw [xb1] at h4;obtain rfl:=xb8 h4.1;obtain rfl:=xb8 h4.2;exact b4N hT ht hi hy hz hu hr hne h2
        ·clear g3;obtain ⟨h4,g5⟩:=l5 g4
         cases g5
         rw [xb1] at h4;exact b5N hT ht hi hy hz hu hr hne (xf6 h4.1) (xf6 h4.2)
       ·cases g2
      ·cases g2
    ·cases g
   ·cases g
  ·clear h
   split at g
   ·rename_i s2 z2 m ht';unfold b5J at g
    split at g
    ·obtain ⟨h2,g2⟩:=l5 g
     cases g2
     simp only [xb1] at h2;exact b7A hT hZ ht ht' hy hz (by simpa [xc0] using h2.1) (xf6 h2.2.1) h2.2.2
    ·cases g
   ·cases g
 ·cases h
theorem b7j (hT:TOk P T) (hZ:ZOk T) {b:Builtin} {args:Array Operand} {ats:Array TypeId} {r:Option Value×SH×Nat} (h:b5X T E H n b args.toList ats.toList=some r):Snd P (.call { callee:=.builtin b,args:=args,argTypes:=ats }) E H n r:=by
 unfold b5X at h
 split at h
 ·rename_i x y t t' h1 h2;obtain rfl:=b32 h1;obtain rfl:=b32 h2
  split at h
  ·rename_i s u hx hy;exact b7h hT hZ hx hy h
  ·cases h
 ·rename_i x y t t' h1 h2;obtain rfl:=b32 h1;obtain rfl:=b32 h2
  split at h
  ·rename_i s u hx hy;exact b6C hT hx hy h
  ·cases h
 ·rename_i x t h1 h2;obtain rfl:=b1D h1;obtain rfl:=b1D h2
  split at h
  ·rename_i v hx;exact b5Z hx h
  ·cases h
 ·cases h
theorem b7N (hT:TOk P T) (hZ:ZOk T) {ez:List (Nat×Value)} (hE:b4J P ez) {op:Op} {r:Option Value×SH×Nat} (h:sOp T ez E H n op=some r):Snd P op E H n r:=by
 unfold sOp at h
 split at h
 ·split at h
  ·rename_i p hx;obtain ⟨v,hv,rfl⟩:=xn2.1 h;exact b5P hT hx hv
  ·cases h
 ·split at h
  ·rename_i p v hx hy;obtain ⟨H',hv,rfl⟩:=xn2.1 h;exact b4f hT hx hy hv
  ·cases h
 ·split at h
  ·rename_i v hx
   split at h
   ·rename_i L hL
    cases h
    exact b69 hx hL
   ·cases h
  ·cases h
 ·split at h
  ·rename_i ti ht
   cases h
   exact b4E hT hZ ht
  ·cases h
 ·exact b7L hT h
 ·exact b7W hT hZ h
 ·rename_i c;obtain ⟨cl,args,ats⟩:=c
  split at h
  ·rename_i b hb;dsimp only at hb h;subst hb;exact b7j hT hZ h
  ·cases h
 ·exact b7t hT h
 ·split at h
  ·rename_i ht
   split at h
   ·rename_i hk
    cases h
    exact b7X hT ht hk
   ·cases h
  ·cases h
 ·split at h
  ·rename_i m k hx hy;exact b6K hT hE hx hy h
  ·cases h
 ·split at h
  ·rename_i m k v hx hy hz;exact b7x hT hx hy hz h
  ·cases h
 ·exact b7f hT h
 ·split at h
  ·rename_i ht hx
   cases h
   exact b4o hT hx ⟨_,_,ht⟩
  ·cases h
 ·exact b59 h
 ·cases h
end
section
variable {P:Program} {ops:Array Oper} {Q:Exit->Act->World->Prop}
abbrev Ea:=List (Nat×(World->Prop))
def a0M (ops:Array Oper) (j:Nat) (L:Ea):Ea:=L.filter fun p=>!a0T ops j p.1
def wpT (P:Program) (ops:Array Oper) (Q:Exit->Act->World->Prop):Nat->Ea->Array Bool->Act->World->Prop
 |0,_,li,a,w=>Region.ready .any ops li=[]/\Q .normal a w
 |f + 1,L,li,a,w=>(Region.ready .any ops li=[]->Q .normal a w)/\∀ j ∈ Region.ready .any ops li,wpOp P ops Q j (fun a' w'=>(∀ p ∈ a0M ops j L,p.2 w')/\wpT P ops Q f (a0M ops j L) (li.setIfInBounds j true) a' w') a w
theorem b0d:∀ (f:Nat) (L:Ea) (li:Array Bool) (a:Act) (w:World),wpT P ops Q f L li a w->wpAny P .any ops Q f li a w
 |0,_,_,_,_,h=>h
 |f + 1,L,_,_,_,h=>⟨h.1,fun i hi=>wpOp_mono (fun a' w' h'=>b0d f _ _ a' w' h'.2) (h.2 i hi)⟩
theorem a5j:∀ (f:Nat) {L L':Ea} {li:Array Bool} {a:Act} {w:World},(∀ p ∈ L',p ∈ L)->wpT P ops Q f L li a w->wpT P ops Q f L' li a w
 |0,_,_,_,_,_,_,h=>h
 |f + 1,L,L',_,_,_,hs,h=>⟨h.1,fun i hi=>wpOp_mono (fun a' w' h'=>by
   have hk:∀ p ∈ a0M ops i L',p ∈ a0M ops i L:=fun p hp=>by
    have:=xh8.1 hp;exact xh8.2 ⟨hs p this.1,this.2⟩
   exact ⟨fun p hp=>h'.1 p (hk p hp),a5j f hk h'.2⟩) (h.2 i hi)⟩
theorem a5Z {i:Nat} {oi:Oper} {v:Value} {S:World->Prop} (hi:ops[i]?=some oi) (hsel:∀ (j:Nat) (o:Oper) cs b,ops[j]?=some o->o.op≠.select cs b)
  (hQ:∀ c a w,Q (.panic c) (a.put oi.dst v) w->Q (.panic c) a w) :
  ∀ (fuel:Nat) (L:Ea) (li:Array Bool) (a:Act) (w:World),
   (∀ j oj,ops[j]?=some oj->j≠i->li.getD j true=false->(∀ e ∈ oj.after,Region.binds .any e=true->e.on≠i)->oi.apart ops oj=true) ->
   i ∈ Region.ready .any ops li->YieldsIf P ops S oi v a->S w->(∀ p ∈ L,p.2 w) ->
   wpT P ops Q fuel ((i,S)::L) (li.setIfInBounds i true) (a.put oi.dst v) w->wpT P ops Q (fuel + 1) L li a w:=by
 intro fuel;have step:∀ (li:Array Bool) (j:Nat),i ∈ Region.ready .any ops li->j ∈ Region.ready .any ops li->∀ oj,ops[j]?=some oj->∀ e ∈ oj.after,Region.binds .any e=true->e.on≠i:=by
  intro li j hr hj oj hoj e he hb heq;obtain ⟨_,o,ho,hall⟩:=mem_ready.1 hj;rw [hoj] at ho
  cases ho
  have h1:=hall e he hb;have h0:=(mem_ready.1 hr).1;rw [heq] at h1;rcases xn6 i li.size with h'|h'
  ·simp [h'] at h0 h1;rw [h0] at h1;cases h1
  ·simp [xn7 h'] at h1
 have nowait:∀ (li:Array Bool) (j:Nat),i ∈ Region.ready .any ops li->j ∈ Region.ready .any ops li->a0T ops j i=false:=fun li j hr hj=>by
  cases e:a0T ops j i with
  |false=>rfl
  |true=>
   obtain ⟨oq,hoq,e',he,hb,heq⟩:=a8b e;exact (step li j hr hj oq hoq e' he hb heq).elim
 induction fuel with
 |zero=>
  intro L li a w _ hr hy hS hL H;refine ⟨fun h=>(by rw [h] at hr;cases hr),fun j hj=>?_⟩;by_cases hji:j=i
  ·subst hji;exact hy.wpOp hi hS ⟨fun p hp=>hL p (xh8.1 hp).1,H⟩
  ·have:=ready_mono hj hji;rw [H.1] at this
   cases this
 |succ fuel ih=>
  intro L li a w hfree hr hy hS hL H;refine ⟨fun h=>(by rw [h] at hr;cases hr),fun j hj=>?_⟩;by_cases hji:j=i
  ·subst hji;exact hy.wpOp hi hS ⟨fun p hp=>hL p (xh8.1 hp).1,a5j _ (fun p hp=>xc5 _ (xh8.1 hp).1) H⟩
  ·have hnw:=nowait li j hr hj;have h1:=H.2 j (ready_mono hj hji);obtain ⟨hjun,oj,hoj,_⟩:=mem_ready.1 hj;have h2:=wpOp_putIf hoj (hfree j oj hoj hji hjun (step li j hr hj oj hoj)) (fun cs b=>hsel i oi cs b hi) (fun cs b=>hsel j oj cs b hoj) hQ hy h1;have hfree':∀ k ok,ops[k]?=some ok->k≠i->(li.setIfInBounds j true).getD k true=false ->
     (∀ e ∈ ok.after,Region.binds .any e=true->e.on≠i)->oi.apart ops ok=true:=fun k ok hk hki hun hno=>by
    refine hfree k ok hk hki ?_ hno;by_cases hjk:j=k
    ·subst hjk;exact hjun
    ·rw [getD_set_ne true hjk] at hun;exact hun
   have hkeep:a0M ops j ((i,S)::L)=(i,S)::a0M ops j L:=by
    unfold a0M;rw [List.filter_cons,hnw];rfl
   refine wpOp_mono (fun a' w' h3=>?_) h2;obtain ⟨h4,h5,h6⟩:=h3;rw [hkeep] at h5 h6;refine ⟨fun p hp=>h5 p (xc5 _ hp),ih (a0M ops j L) (li.setIfInBounds j true) a' w' hfree' (ready_mono hr (Ne.symm hji)) h4 (h5 _ xc4) (fun p hp=>h5 p (xc5 _ hp)) ?_⟩;rw [xa9 _ _ hji];exact h6
end
def PQ (Q:Exit->Act->World->Prop):Prop:=∀ c (a:Act) w d v,Q (.panic c) (a.put d v) w->Q (.panic c) a w
def a2e (P:Program) (call:a5M):Prop:=∀ g vs H n v H' n',call g vs H n=.ok (v,H',n')->n<=n'/\∀ {w0 w:World} {ρ:Ren} {hi:Nat} {us:List Value},LR ρ vs us->Inv P w0 ρ H w->Fsh ρ n hi->n'<=hi->Fn P g us w (fun u w'=>∃ σ,Stp ρ σ n n'/\VR σ v u/\Inv P w0 σ H' w')
structure COk (P:Program) (C:Cx):Prop where
 T:TOk P C.T
 Z:ZOk C.T
 q:QOk P C.q
 ez:b4J P C.ez
section
variable {P:Program} {C:Cx} {call:a5M} {w0 w w':World} {ρ σ:Ren} {N:Nat} {ds:List Deferred} {a:Act} {E E':Fr} {H H':SH} {n n':Nat} {Q:Exit->Act->World->Prop}
theorem a8d {o:Oper} {K:Act->World->Prop} (h:Oper.wp P ⟨o.dst,o.op,o.type,o.pos,o.after,none⟩ a w K Q):o.wp P a w K Q:=h
theorem b0o (hC:COk P C) {op:Op} {pos:String} {r:Option Value×SH×Nat} (h:b4K C op pos E H n=.ok r):Snd P op E H n r:=by
 unfold b4K at h
 split at h
 ·rename_i v hv
  cases h
  exact Snd.of_yl fun ha=>b2f hC.T hC.Z hC.q ha hv
 ·split at h
  ·rename_i r' hr
   cases h
   exact b7N hC.T hC.Z hC.ez hr
  ·cases h
theorem b1V (hc:a2e P call) {f:Operand} {args:Array Operand} {ats:Array TypeId} {pos:String} {r:Option Value×SH×Nat} (h:b58 call pos E H n f args.toList=.ok r):Snd P (.call { callee:=.value f,args:=args,argTypes:=ats }) E H n r:=by
 unfold b58 at h
 split at h
 ·rename_i g first caps vs hf hv
  split at h
  ·rename_i v r' hr
   cases h
   obtain ⟨H',n'⟩:=r';obtain ⟨hle,hs⟩:=hc g _ H n v H' n' hr;refine ⟨hle,fun {w0 w ρ N ds a hi} ha hI hF hn dst ty pos after K Q kk=>?_⟩;obtain ⟨u,hu,gf⟩:=ha.ev hf;obtain ⟨us,hus,gv⟩:=ha.evs hv;obtain ⟨first',caps',rfl,h1,h2⟩:=VR.fun_ (a:=first.toList) (b:=caps.toList) hu;refine a1k gf gv (hs ((h1.app hus).app h2) hI hF hn) a ha.full K Q fun v' w' ⟨σ,hσ,hv',hI'⟩=>kk v' w' σ hσ hv' hI'
  ·cases h
 ·cases h
theorem a5u (hC:COk P C) (hc:a2e P call) {op:Op} {pos:String} {r:Option Value×SH×Nat} (h:a6B C call op pos E H n=.ok r):Snd P op E H n r:=by
 unfold a6B at h
 split at h
 ·rename_i c;obtain ⟨cl,args,ats⟩:=c
  split at h
  ·rename_i f hf;dsimp only at hf h;subst hf;exact b1V hc h
  ·exact b0o hC h
 ·exact b0o hC h
theorem a1X {ops:Array Oper} {o:Oper} {b:Bool} (ha:HasR ρ N ds a E) (h:a5F ops.toList E o=some b):Region.wanted o (yielded ops a.tmps)=b:=by
 unfold a5F at h
 split at h
 ·rename_i hg
  cases h
  simp [Region.wanted,hg]
 ·rename_i j wb hg;rw [a0v] at h
  split at h
  ·rename_i oj hj;have hj:ops[j]?=some oj:=by simpa using hj
   split at h
   ·rename_i dj hdj
    split at h
    ·rename_i c hb
     cases h
     obtain ⟨u,hu,hat⟩:=ha.at_ dj _ hb;rw [VR.bool hu] at hat;have hy:yielded ops a.tmps j=some c:=by simp [yielded,hj,hdj,hat]
     simp only [Region.wanted,hg,hy]
     cases c <;> cases wb <;> rfl
    ·rename_i v hne hb
     cases h
     obtain ⟨u,hu,hat⟩:=ha.at_ dj _ hb;have hy:yielded ops a.tmps j=none:=by
      simp only [yielded,hj,hdj,hat,Option.bind_some]
      cases u with
      |bool c=>
       exfalso;unfold VR a0z at hu
       split at hu
       all_goals first
        |(cases hu;exact hne _ rfl)
        |(obtain ⟨_,_,hu⟩:=xn2.1 hu;cases hu;done)
        |(obtain ⟨_,_,hu⟩:=xn1.1 hu;obtain ⟨_,_,hu⟩:=xn2.1 hu;cases hu;done)
        |(cases hu;done)
      |_=>rfl
     simp only [Region.wanted,hg,hy];rfl
    ·cases h
   ·cases h
  ·cases h
def a8u (N:Nat) (o:Oper):Bool:=match o.dst with
 |some d=>Nat.blt d N
 |none=>true
theorem a4A {o:Oper} (h:a8u N o=true):∀ k,o.dst=some k->k < N:=fun k hk=>by
 unfold a8u at h;rw [hk] at h
 simpa [xc0] using h
theorem VR.undef:VR ρ Go.undef Go.undef:=VR.mkTup LR.nil
theorem a4n (hC:COk P C) (hc:a2e P call) {ops:Array Oper}:∀ {l:List Oper} {E:Fr} {H:SH} {n:Nat},l.all (a8u N)=true->a6O C call ops.toList l E H n=.ok (E',H',n')->n<=n'/\∀ {w0 w:World} {ρ:Ren} {ds:List Deferred} {a:Act} {hi:Nat},HasR ρ N ds a E->Inv P w0 ρ H w->Fsh ρ n hi->n'<=hi->(∀ a' w' σ,Stp ρ σ n n'->HasR σ N ds a' E'->Inv P w0 σ H' w'->Q .normal a' w')->wpList P ops Q l a w
 |[],E,H,n,_,h=>by
  cases h
  exact ⟨xd2 _,fun ha hI _ _ k=>k _ _ _ (Stp.refl _ _ _) ha hI⟩
 |o::r,E,H,n,hd,h=>by
  simp only [xi9,xb1] at hd;rw [show a6O C call ops.toList (o::r) E H n=(match a5F ops.toList E o with
   |some true=>match a6B C call o.op o.pos E H n with
    |.ok (v,H',n')=>a6O C call ops.toList r (a2s E o.dst v) H' n'
    |.no p=>.no p
   |some false=>a6O C call ops.toList r (a2s E o.dst (some undef)) H n
   | none => .no "guard") from rfl] at h
  split at h
  ·rename_i hw
   split at h
   ·rename_i v H1 n1 hr;obtain ⟨h1,h2⟩:=a5u hC hc hr;obtain ⟨h3,h4⟩:=a4n hC hc hd.2 h;refine ⟨xd3 h1 h3,fun {w0 w ρ ds a hi} ha hI hF hn k=>?_⟩;unfold wpList;rw [xe6 (a1X ha hw)];exact xd4 (a8d (h2 ha hI hF (xd3 h3 hn) _ _ _ _ _ _ fun u w1 σ hσ hu hI1=>h4 ((ha.mono hσ.le).putE o.dst (a4A hd.1) hu) hI1 (hF.step hσ h1) hn fun a' w' τ hτ ha' hI'=>k a' w' τ (hσ.trans hτ h1 h3) ha' hI'))
   ·cases h
  ·rename_i hw;obtain ⟨h3,h4⟩:=a4n hC hc hd.2 h;refine ⟨h3,fun {w0 w ρ ds a hi} ha hI hF hn k=>?_⟩;unfold wpList;rw [xe7 (by rw [a1X ha hw];simp)];exact h4 (ha.putE o.dst (a4A hd.1) VR.undef) hI hF hn k
  ·cases h
end
def a8V:Pl->List Nat
 |.alt i _ _ more=>i::a8V more
 |_=>[]
noncomputable def plB (ops:Array Oper) (p:Pl):(Nat->Array Bool->Bool)×(Nat->Array Bool->Bool):=@Pl.rec (fun _=>(Nat->Array Bool->Bool)×(Nat->Array Bool->Bool))
 (fun _ li=>(Region.ready .any ops li).isEmpty,fun _ _=>false)
 (fun _ _=>false,fun _ _=>true)
 (fun i _ k=>(fun f li=>match f with
  |0=>false
  |f + 1=>Nat.blt i ops.size && (Region.free .any ops li i && ((Region.ready .any ops li).contains i && k.1 f (li.setIfInBounds i true))),fun _ _=>false))
 (fun i dr _ k=>(fun f li=>match f with
  |0=>false
  |f + 1=>(Region.ready .any ops li).all (Nat.beq i) && ((Region.ready .any ops li).contains i && (dr.all (a0T ops i) && k.1 f (li.setIfInBounds i true))),fun _ _=>false))
 (fun _ _ k=>(k.1,fun _ _=>false))
 (fun i dr p more k m=>(fun f li=>match f with
  |0=>false
  |f + 1=>(Region.ready .any ops li).all (fun j=>(i::a8V more).any (Nat.beq j)) && ((Region.ready .any ops li).contains i && (Nat.blt i ops.size && (!li.getD i true && (dr.all (a0T ops i) && (k.1 f (li.setIfInBounds i true) && m.2 f li))))),
  fun f li=>Nat.blt i ops.size && (!li.getD i true && (dr.all (a0T ops i) && (k.1 f (li.setIfInBounds i true) && m.2 f li))))) p
section
variable {P:Program} {C:Cx} {call:a5M} {w0 w w':World} {ρ σ:Ren} {N:Nat} {ds:List Deferred} {a:Act} {E E':Fr} {H H':SH} {n n':Nat} {Q:Exit->Act->World->Prop} {ops:Array Oper}
inductive EL (P:Program) (ρ:Ren) (w:World):a2T->Ea->Prop where
 |nil:EL P ρ w [] []
 |cons {i:Nat} {t:TypeId} {pv v:Value} {p:Addr} {u:Value} {L:a2T} {M:Ea} (hp:VR ρ pv (.pointer (some p))) (hv:VR ρ v u) (hl:Ld P t p u w) (h:EL P ρ w L M):EL P ρ w ((i,t,pv,v)::L) ((i,fun w=>Ld P t p u w)::M)
 |triv {i:Nat} {L:a2T} {M:Ea} (h:EL P ρ w L M):EL P ρ w L ((i,fun _=>True)::M)
theorem EL.all {L:a2T} {M:Ea} (h:EL P ρ w L M):∀ p ∈ M,p.2 w:=by
 induction h with
 |nil=>simp
 |cons _ _ hl _ ih=>
  intro p hp;rcases xc3.1 hp with rfl|hp
  ·exact hl
  ·exact ih p hp
 |triv _ ih=>
  intro p hp;rcases xc3.1 hp with rfl|hp
  ·trivial
  ·exact ih p hp
mutual
theorem a4K:∀ (k:Nat) {a b:Value},vEq k a b=true->a=b
 |0,_,_,h=>by cases h
 |k + 1,a,b,h=>by
  unfold vEq at h
  split at h
  ·simp at h;rw [h]
  ·rw [xb1] at h;rw [b3O h.1,xn8 h.2]
  ·rw [xn8 h]
  ·rfl
  ·rw [xb1] at h;rw [xb8 h.1,xb8 h.2]
  ·rw [xb1] at h;rw [xb8 h.1,xb8 h.2]
  ·simp only [xb1] at h;rw [xb8 h.1,xb8 h.2.1,xb8 h.2.2.1,xb8 h.2.2.2]
  ·rfl
  ·rw [xb8 h]
  ·rfl
  ·simp only [xb1] at h;rw [xb8 h.1,a2G k h.2.1,a2G k h.2.2]
  ·rfl
  ·rw [a2G k h]
  ·rw [a2G k h]
  ·cases h
theorem a2G:∀ (k:Nat) {a b:List Value},a7G k a b=true->a=b
 |0,_,_,h=>by cases h
 |k + 1,a,b,h=>by
  unfold a7G at h
  split at h
  ·rename_i e;cases e
  ·rfl
  ·rename_i e
   cases e
   rw [xb1] at h;rw [a4K _ h.1,a2G _ h.2]
  ·cases h
end
theorem a8C:∀ {a b:List (List Value)},b0y a b=true->a=b
 |[],[],_=>rfl
 |a::l,b::r,h=>by
  unfold b0y at h;rw [xb1] at h;rw [a2G _ h.1,a8C h.2]
 |[],_::_,h=>by cases h
 |_::_,[],h=>by cases h
theorem b0h:∀ {a b:List (Value×Value)},b41 a b=true->a=b
 |[],[],_=>rfl
 |(a,c)::l,(b,d)::r,h=>by
  unfold b41 at h;simp only [xb1] at h;rw [a4K _ h.1,a4K _ h.2.1,b0h h.2.2]
 |[],_::_,h=>by cases h
 |_::_,[],h=>by cases h
theorem b5l {a b:SA} (h:b5M a b=true):a=b:=by
 unfold b5M at h
 split at h
 ·rw [a2G _ h]
 ·simp only [xb1,beq_iff_eq] at h;rw [xb8 h.1,xb8 h.2.1,xb8 h.2.2.1,h.2.2.2.1,a8C h.2.2.2.2]
 ·rw [xb1] at h;rw [xb8 h.1,b0h h.2]
 ·rw [xb1] at h;rw [xb8 h.1,xn8 h.2]
 ·cases h
theorem b2J:∀ {a b:SH},hEq a b=true->a=b
 |[],[],_=>rfl
 |(i,a)::l,(j,b)::r,h=>by
  unfold hEq at h;simp only [xb1] at h;rw [xb8 h.1,b5l h.2.1,b2J h.2.2]
 |[],_::_,h=>by cases h
 |_::_,[],h=>by cases h
theorem a64 {E1 E2:Fr}:∀ {l:Fr},a6E E1 E2 l=true->∀ d v,(d,v) ∈ l->∃ u,o3 E1 d=some u/\o3 E2 d=some u
 |[],_,d,v,h=>by cases h
 |(d',v')::r,h,d,v,hm=>by
  unfold a6E at h;rw [xb1] at h;rcases xc3.1 hm with e|hm
  ·cases e
   have h1:=h.1
   split at h1
   ·rename_i u u' e1 e2;exact ⟨u,e1,by rw [e2,a4K _ h1]⟩
   ·cases h1
  ·exact a64 h.2 d v hm
theorem HasR.same {E1 E2:Fr} (h:HasR ρ N ds a E2) (he:a6E E1 E2 E1=true):HasR ρ N ds a E1:=⟨h.size,h.defers,fun t v ht=>by
 obtain ⟨u,e1,e2⟩:=a64 he t v (a4f ht);rw [ht] at e1
 cases e1
 exact h.at_ t v e2⟩
theorem EL.still (hT:TOk P C.T) {L:a2T} {M:Ea} {j:Nat} {dr:List Nat} (h:EL P ρ w L M) (hd:dr.all (a0T ops j)=true) (hs:a3c C.T H' (a2v dr L)=true) (hI:Inv P w0 σ H' w') (hle:Rle ρ σ):∃ M',EL P σ w' (a2v dr L) M'/\∀ p ∈ a0M ops j M,p ∈ M':=by
 induction h with
 |nil=>exact ⟨[],EL.nil,fun p hp=>by simp [a0M] at hp⟩
 |@triv i L M h ih=>
  obtain ⟨M',h1,h2⟩:=ih hs;refine ⟨_,EL.triv (i:=i) h1,fun q hq=>?_⟩;obtain ⟨hq1,hq2⟩:=xh8.1 hq;rcases xc3.1 hq1 with rfl|hq1
  ·exact xc4
  ·exact xc5 _ (h2 q (xh8.2 ⟨hq1,hq2⟩))
 |@cons i t pv v p u L M hp hv hl h ih=>
  unfold a2v at hs |-;rw [List.filter_cons] at hs |-
  cases e:dr.any (Nat.beq i) with
  |true=>
   simp only [e,Bool.not_true,xn9,if_false] at hs |-;obtain ⟨M',h1,h2⟩:=ih hs;refine ⟨M',h1,fun q hq=>?_⟩;obtain ⟨hq1,hq2⟩:=xh8.1 hq;rcases xc3.1 hq1 with rfl|hq1
   ·obtain ⟨k,hk,hki⟩:=xo0.1 e;obtain rfl:=xb8 hki;have:=xc6.1 hd _ hk;rw [this] at hq2
    cases hq2
   ·exact h2 q (xh8.2 ⟨hq1,hq2⟩)
  |false=>
   simp only [e,Bool.not_false,if_true] at hs |-;unfold a3c at hs;rw [xb1] at hs;obtain ⟨M',h1,h2⟩:=ih hs.2;have hs1:=hs.1
   split at hs1
   ·rename_i u' hu';obtain rfl:=a4K _ hs1;obtain ⟨b,o,x,e1,e2,e3⟩:=a7z hT hI hu' (hp.mono hle)
    cases e1
    obtain rfl:=VR.fn (hv.mono hle) e2;refine ⟨_,EL.cons (hp.mono hle) (hv.mono hle) e3 h1,fun q hq=>?_⟩;obtain ⟨hq1,hq2⟩:=xh8.1 hq;rcases xc3.1 hq1 with rfl|hq1
    ·exact xc4
    ·exact xc5 _ (h2 q (xh8.2 ⟨hq1,hq2⟩))
   ·cases hs1
theorem EL.mono {L:a2T} {M:Ea} (h:EL P ρ w L M) (hle:Rle ρ σ):EL P σ w L M:=by
 induction h with
 |nil=>exact EL.nil
 |cons hp hv hl _ ih=>exact EL.cons (hp.mono hle) (hv.mono hle) hl ih
 |triv _ ih=>exact EL.triv ih
theorem Stp.join {τ:Ren} {x y m0:Nat} (h:Stp ρ σ x y) (h2:Stp σ τ m0 n') (hx:m0<=x) (hy:y<=n'):Stp ρ τ m0 n' :=
 ⟨h.le.trans h2.le,fun j hj=>(h2.only j hj).trans (h.only j (by omega))⟩
structure PS (P:Program) (w0:World) (ρ:Ren) (N:Nat) (ds:List Deferred) (a:Act) (E:Fr) (H:SH) (w:World) (n hi b z:Nat) (li:Array Bool) (L:a2T) (M:Ea) (size m0:Nat):Prop where
 ha:HasR ρ N ds a E
 hI:Inv P w0 ρ H w
 hF:Fsh ρ n hi
 hG:∀ j,j < size->li.getD j true=false->Fsh ρ (b + z * j) (b + z * (j + 1))
 hb:m0<=b
 hbn:b + z * size<=n
 hL:EL P ρ w L M
theorem a6P {li:Array Bool} {i j:Nat} (h:(li.setIfInBounds i true).getD j true=false):li.getD j true=false/\j≠i:=by
 by_cases e:i=j
 ·subst e;rcases xn6 i li.size with h'|h'
  ·simp [h'] at h
  ·simp [xn7 (show (li.setIfInBounds i true).size<=i by simpa using h')] at h
 ·rw [getD_set_ne true e] at h;exact ⟨h,Ne.symm e⟩
theorem b7c {z i j s:Nat} (h:i < j) (hj:j<=s):z * (i + 1)<=z * j/\z * j<=z * s:=⟨xg3 z h,xg3 z hj⟩
theorem PS.next {hi b z m0 i x n1:Nat} {li:Array Bool} {L:a2T} {M:Ea} {dr:List Nat} {v:Option Value} {u:Value} {o:Oper} (hT:TOk P C.T) (h:PS P w0 ρ N ds a E H w n hi b z li L M ops.size m0) (hd:a8u N o=true) (hσ:Stp ρ σ x n1) (hu:OR σ v u) (hI:Inv P w0 σ H' w') (hdr:dr.all (a0T ops i)=true) (hst:a3c C.T H' (a2v dr L)=true)
  (hx:(x=n/\n'=n1)\/(x=b + z * i/\n1<=b + z * (i + 1)/\i < ops.size/\n'=n)) (hle:x<=n1) :
  ∃ M',(∀ p ∈ a0M ops i M,p ∈ M')/\PS P w0 σ N ds (a.put o.dst u) (a2s E o.dst v) H' w' n' hi b z (li.setIfInBounds i true) (a2v dr L) M' ops.size m0:=by
 obtain ⟨M',h1,h2⟩:=h.hL.still hT hdr hst hI hσ.le;refine ⟨M',h2,(h.ha.mono hσ.le).putE o.dst (a4A hd) hu,hI,fun j hj1 hj2=>?_,fun j hj hl k hk1 hk2=>?_,h.hb,?_,h1⟩
 ·rcases hx with ⟨rfl,rfl⟩|⟨rfl,hx,hi',rfl⟩
  ·exact (hσ.only j (xd1 hj1)).trans (h.hF j (by omega) hj2)
  ·have:z * (i + 1)<=z * ops.size:=xg3 z hi';have:=h.hbn;exact (hσ.only j (xd1 (by omega))).trans (h.hF j (by omega) hj2)
 ·obtain ⟨hl,hne⟩:=a6P hl;have h0:=h.hG j hj hl k hk1 hk2;have hj2:z * (j + 1)<=z * ops.size:=xg3 z hj;have:=h.hbn;rcases hx with ⟨rfl,rfl⟩|⟨rfl,hx,hi',rfl⟩
  ·exact (hσ.only k (xd4 (by omega))).trans h0
  ·rcases Nat.lt_or_gt_of_ne hne with hlt|hlt
   ·have:=(b7c (z:=z) (s:=ops.size) hlt (by omega)).1;exact (hσ.only k (xd4 (by omega))).trans h0
   ·have:=(b7c (z:=z) (s:=ops.size) hlt (by omega)).1;exact (hσ.only k (xd1 (by omega))).trans h0
 ·have:=h.hbn;rcases hx with ⟨rfl,rfl⟩|⟨rfl,hx,hi',rfl⟩ <;> omega
theorem b0E {i:Nat} {o:Oper} {b:Bool} {K:Act->World->Prop} (hi:ops[i]?=some o) (hw:Region.wanted o (yielded ops a.tmps)=b) (h1:b=true->Oper.wp P ⟨o.dst,o.op,o.type,o.pos,o.after,none⟩ a w K Q) (h2:b=false->K (a.put o.dst undef) w):wpOp P ops Q i K a w:=by
 unfold wpOp;simp only [hi]
 cases b with
 |true=>rw [xe6 hw];exact xd4 (a8d (h1 rfl))
 |false=>rw [xe7 (by rw [hw];simp)];exact h2 rfl
theorem b6B (hC:COk P C) (hc:a2e P call) (hQ:PQ Q) (hsel:Region.noSelect ops=true) (hd:ops.toList.all (a8u N)=true) (p:Pl) :
  (∀ f li b z L E H n E' H' n',(plB ops p).1 f li=true->xPl C call ops.toList p b z L E H n=.ok (E',H',n')->n<=n'/\∀ {w0 w:World} {ρ:Ren} {ds:List Deferred} {a:Act} {hi m0:Nat} {M:Ea},PS P w0 ρ N ds a E H w n hi b z li L M ops.size m0->n'<=hi->(∀ a' w' σ,Stp ρ σ m0 n'->HasR σ N ds a' E'->Inv P w0 σ H' w'->Q .normal a' w')->wpT P ops Q f M li a w) /\
  (∀ f li b z L E H n E' H' n',(plB ops p).2 f li=true->xPl C call ops.toList p b z L E H n=.ok (E',H',n')->n<=n'/\∀ {w0 w:World} {ρ:Ren} {ds:List Deferred} {a:Act} {hi m0:Nat} {M:Ea},PS P w0 ρ N ds a E H w n hi b z li L M ops.size m0->n'<=hi->(∀ a' w' σ,Stp ρ σ m0 n'->HasR σ N ds a' E'->Inv P w0 σ H' w'->Q .normal a' w')->∀ j ∈ a8V p,wpOp P ops Q j (fun a' w'=>(∀ q ∈ a0M ops j M,q.2 w')/\wpT P ops Q f (a0M ops j M) (li.setIfInBounds j true) a' w') a w):=by
 have hdo:∀ {i:Nat} {o:Oper},ops[i]?=some o->a8u N o=true:=fun {i o} hi=>xc6.1 hd o (by
  have:ops.toList[i]?=some o:=by simpa using hi
  exact xc8 this)
 induction p with
 |nil=>
  refine ⟨fun f li b z L E H n E' H' n' hp h=>?_,fun f li b z L E H n E' H' n' hp h=>by cases hp⟩
  cases h
  have hr:Region.ready .any ops li=[]:=List.isEmpty_iff.1 hp;refine ⟨xd2 _,fun hS hn k=>?_⟩;have hq:=k _ _ _ (Stp.refl _ _ _) hS.ha hS.hI
  cases f with
  |zero=>exact ⟨hr,hq⟩
  |succ f=>exact ⟨fun _=>hq,by rw [hr];simp⟩
 |stop=>
  exact ⟨fun f li b z L E H n E' H' n' hp h=>(by cases hp),fun f li b z L E H n E' H' n' hp h=>by cases h⟩
 |take i p ih=>
  refine ⟨fun f li b z L E H n E' H' n' hp h=>?_,fun f li b z L E H n E' H' n' hp h=>by cases hp⟩
  cases f with
  |zero=>cases hp
  |succ f=>
  replace hp:(Nat.blt i ops.size && (Region.free .any ops li i && ((Region.ready .any ops li).contains i && (plB ops p).1 f (li.setIfInBounds i true))))=true:=hp;simp only [xb1] at hp;obtain ⟨hp1,hp2,hp3,hp4⟩:=hp;replace h:b3F C ops.toList i (xPl C call ops.toList p) b z L E H n=.ok (E',H',n'):=h;unfold b3F at h;rw [a0v] at h
  split at h
  ·rename_i o ho;have ho:ops[i]?=some o:=by simpa using ho
   have hQ':∀ v c (a:Act) w,Q (.panic c) (a.put o.dst v) w->Q (.panic c) a w:=fun v c a w=>hQ c a w o.dst v;have hsp:=Region.noSelect_spec hsel;have hrm:i ∈ Region.ready .any ops li:=by simpa using hp3
   have G:∀ {z:Nat} {ρ:Ren},(∀ j,j < ops.size->li.getD j true=false->Fsh ρ (b + z * j) (b + z * (j + 1)))->∀ j,j < ops.size->(li.setIfInBounds i true).getD j true=false->Fsh ρ (b + z * j) (b + z * (j + 1)):=fun hG j hj hl=>hG j hj (a6P hl).1
   split at h
   ·rename_i hw;obtain ⟨h1,h2⟩:=ih.1 f _ _ _ _ _ _ _ _ _ _ hp4 h;refine ⟨h1,fun {w0 w ρ ds a hi m0 M} hS hn k=>?_⟩;refine a5Z (S:=fun _=>True) ho hsp (hQ' undef) f M li a w (Region.free_spec ho hp2) hrm (xd1 ⟨a1X hS.ha hw,rfl⟩) trivial hS.hL.all ?_;exact h2 ⟨hS.ha.putE o.dst (a4A (hdo ho)) VR.undef,hS.hI,hS.hF,G hS.hG,hS.hb,hS.hbn,EL.triv hS.hL⟩ hn k
   ·rename_i hw
    split at h
    ·rename_i t x hop
     split at h
     ·rename_i pv hx
      split at h
      ·rename_i v hv;obtain ⟨h1,h2⟩:=ih.1 f _ _ _ _ _ _ _ _ _ _ hp4 h;refine ⟨h1,fun {w0 w ρ ds a hi m0 M} hS hn k=>?_⟩;obtain ⟨p',hp',gx⟩:=hS.ha.ev hx;obtain ⟨bb,oo,u,rfl,hu,hl⟩:=a7z hC.T hS.hI hv hp';refine a5Z (S:=fun w=>Ld P t ⟨bb,oo,none⟩ u w) ho hsp (hQ' u) f M li a w (Region.free_spec ho hp2) hrm (xd4 ⟨a1X hS.ha hw,fun w2 hw2=>?_⟩) hl hS.hL.all ?_
       ·have hw2:(loadVar t ⟨bb,oo,none⟩).run P w2=.ok u w2:=hw2;obtain ⟨dst,op,ty,pos,after,g⟩:=o;dsimp only at hop;subst hop;simp only [execOp,hS.ha.full.ev gx,Instr.loadAt,Instr.sureAddr,Sem.run_bind,Sem.run_pure,Result.andThen_ok,hw2]
       ·exact h2 ⟨hS.ha.putE o.dst (a4A (hdo ho)) (v:=some v) hu,hS.hI,hS.hF,G hS.hG,hS.hb,hS.hbn,EL.cons hp' hu hl hS.hL⟩ hn k
      ·cases h
     ·cases h
    ·split at h
     ·rename_i v hv;obtain ⟨h1,h2⟩:=ih.1 f _ _ _ _ _ _ _ _ _ _ hp4 h;refine ⟨h1,fun {w0 w ρ ds a hi m0 M} hS hn k=>?_⟩;obtain ⟨u,hu,hr⟩:=b2f hC.T hC.Z hC.q hS.ha hv;refine a5Z (S:=fun _=>True) ho hsp (hQ' u) f M li a w (Region.free_spec ho hp2) hrm (xd4 ⟨a1X hS.ha hw,fun w2 _=>hr o.dst o.type o.pos o.after w2⟩) trivial hS.hL.all ?_;exact h2 ⟨hS.ha.putE o.dst (a4A (hdo ho)) (v:=some v) hu,hS.hI,hS.hF,G hS.hG,hS.hb,hS.hbn,EL.triv hS.hL⟩ hn k
     ·cases h
   ·cases h
  ·cases h
 |one i dr p ih=>
  refine ⟨fun f li b z L E H n E' H' n' hp h=>?_,fun f li b z L E H n E' H' n' hp h=>by cases hp⟩
  cases f with
  |zero=>cases hp
  |succ f=>
  replace hp:((Region.ready .any ops li).all (Nat.beq i) && ((Region.ready .any ops li).contains i && (dr.all (a0T ops i) && (plB ops p).1 f (li.setIfInBounds i true))))=true:=hp;simp only [xb1] at hp;obtain ⟨hp1,hp2,hp3,hp4⟩:=hp;replace h:b56 C call ops.toList i dr (xPl C call ops.toList p) b z L E H n=.ok (E',H',n'):=h;unfold b56 at h;rw [a0v] at h
  split at h
  ·rename_i o ho;have ho:ops[i]?=some o:=by simpa using ho
   split at h
   ·rename_i wb hw
    split at h
    ·rename_i v H1 n1 hr;have key:n<=n1/\(wb=true->Snd P o.op E H n (v,H1,n1))/\(wb=false->v=some undef/\H1=H/\n1=n):=by
      cases wb with
      |true=>
       have:=a5u hC hc hr;exact ⟨this.1,fun _=>this,fun h=>by cases h⟩
      |false=>cases hr;exact ⟨xd2 _,(fun h=>by cases h),fun _=>⟨rfl,rfl,rfl⟩⟩
     cases hst:a3c C.T H1 (a2v dr L) with
     |false=>rw [hst] at h;cases h
     |true=>
     rw [hst] at h;obtain ⟨h1,h2⟩:=ih.1 f _ _ _ _ _ _ _ _ _ _ hp4 h;refine ⟨xd3 key.1 h1,fun {w0 w ρ ds a hi m0 M} hS hn k=>⟨fun h0=>(by rw [h0] at hp2;cases hp2),fun j hj=>?_⟩⟩;obtain rfl:=xb8 (xc6.1 hp1 j hj);have fin:∀ u w' σ,Stp ρ σ n n1->OR σ v u->Inv P w0 σ H1 w'->(∀ q ∈ a0M ops i M,q.2 w')/\wpT P ops Q f (a0M ops i M) (li.setIfInBounds i true) (a.put o.dst u) w':=fun u w' σ hσ hu hI=>by
      obtain ⟨M',h3,h4⟩:=hS.next hC.T (hdo ho) hσ hu hI hp3 hst (xd4 ⟨rfl,rfl⟩) key.1;have hm:m0<=n:=by have:=hS.hb;have:=hS.hbn;omega
      exact ⟨fun q hq=>h4.hL.all q (h3 q hq),a5j f h3 (h2 h4 hn fun a' w' τ hτ ha' hI'=>k a' w' τ (hσ.join hτ hm h1) ha' hI')⟩
     refine b0E ho (a1X hS.ha hw) (fun e=>(key.2.1 e).2 hS.ha hS.hI hS.hF (xd3 h1 hn) _ _ _ _ _ _ fin) fun e=>?_;obtain ⟨rfl,rfl,rfl⟩:=key.2.2 e;exact fin _ _ ρ (Stp.refl _ _ _) VR.undef hS.hI
    ·cases h
   ·cases h
  ·cases h
 |grp wd p ih=>
  refine ⟨fun f li b z L E H n E' H' n' hp h=>?_,fun f li b z L E H n E' H' n' hp h=>by cases hp⟩;replace h:xPl C call ops.toList p n wd L E H (n + wd * ops.toList.length)=.ok (E',H',n'):=h;obtain ⟨h1,h2⟩:=ih.1 f _ _ _ _ _ _ _ _ _ _ hp h;rw [xg5] at h1 h2;refine ⟨by omega,fun {w0 w ρ ds a hi m0 M} hS hn k=>h2 ⟨hS.ha,hS.hI,fun j hj1 hj2=>hS.hF j (by omega) hj2,fun j hj hl q hq1 hq2=>?_,?_,xd2 _,hS.hL⟩ hn k⟩
  ·have:wd * (j + 1)<=wd * ops.size:=xg3 wd hj;exact hS.hF q (by omega) (by omega)
  ·have:=hS.hb;have:=hS.hbn;omega
 |alt i dr p more ih im=>
  have chain:∀ f li b z L E H n E' H' n',(Nat.blt i ops.size && (!li.getD i true && (dr.all (a0T ops i) && ((plB ops p).1 f (li.setIfInBounds i true) && (plB ops more).2 f li))))=true->xPl C call ops.toList (.alt i dr p more) b z L E H n=.ok (E',H',n')->n<=n'/\∀ {w0 w:World} {ρ:Ren} {ds:List Deferred} {a:Act} {hi m0:Nat} {M:Ea},PS P w0 ρ N ds a E H w n hi b z li L M ops.size m0->n'<=hi->(∀ a' w' σ,Stp ρ σ m0 n'->HasR σ N ds a' E'->Inv P w0 σ H' w'->Q .normal a' w')->∀ j ∈ a8V (.alt i dr p more),wpOp P ops Q j (fun a' w'=>(∀ q ∈ a0M ops j M,q.2 w')/\wpT P ops Q f (a0M ops j M) (li.setIfInBounds j true) a' w') a w:=by
   intro f li b z L E H n E' H' n' hp h;simp only [xb1,xc7] at hp;obtain ⟨hp1,hp2,hp3,hp4,hp5⟩:=hp;have hp1:i < ops.size:=by simpa [xc0] using hp1
   replace h:b6g C call ops.toList i dr (xPl C call ops.toList p) more.isStop (xPl C call ops.toList more) b z L E H n=.ok (E',H',n'):=h;unfold b6g at h;rw [a0v] at h
   split at h
   ·rename_i o ho;have ho:ops[i]?=some o:=by simpa using ho
    split at h
    ·rename_i wb hw
     split at h
     ·rename_i v H1 n1 hr;have key:b + z * i<=n1/\(wb=true->Snd P o.op E H (b + z * i) (v,H1,n1))/\(wb=false->v=some undef/\H1=H/\n1=b + z * i):=by
       cases wb with
       |true=>
        have:=a5u hC hc hr;exact ⟨this.1,fun _=>this,fun h=>by cases h⟩
       |false=>cases hr;exact ⟨xd2 _,(fun h=>by cases h),fun _=>⟨rfl,rfl,rfl⟩⟩
      cases hst:(Nat.ble n1 (b + z * (i + 1)) && a3c C.T H1 (a2v dr L)) with
      |false=>rw [hst] at h;cases h
      |true=>
      rw [hst] at h;rw [xb1] at hst;obtain ⟨hst1,hst2⟩:=hst;have hst1:=xf6 hst1;have first:∀ {E1:Fr} {H2:SH} {n2:Nat},xPl C call ops.toList p b z (a2v dr L) (a2s E o.dst v) H1 n=.ok (E1,H2,n2)->n<=n2/\∀ {w0 w:World} {ρ:Ren} {ds:List Deferred} {a:Act} {hi m0:Nat} {M:Ea},PS P w0 ρ N ds a E H w n hi b z li L M ops.size m0->n2<=hi->(∀ a' w' σ,Stp ρ σ m0 n2->HasR σ N ds a' E1->Inv P w0 σ H2 w'->Q .normal a' w')->wpOp P ops Q i (fun a' w'=>(∀ q ∈ a0M ops i M,q.2 w')/\wpT P ops Q f (a0M ops i M) (li.setIfInBounds i true) a' w') a w:=by
       intro E1 H2 n2 hx;obtain ⟨h1,h2⟩:=ih.1 f _ _ _ _ _ _ _ _ _ _ hp4 hx;refine ⟨h1,fun {w0 w ρ ds a hi m0 M} hS hn k=>?_⟩;have fin:∀ u w' σ,Stp ρ σ (b + z * i) n1->OR σ v u->Inv P w0 σ H1 w'->(∀ q ∈ a0M ops i M,q.2 w')/\wpT P ops Q f (a0M ops i M) (li.setIfInBounds i true) (a.put o.dst u) w':=fun u w' σ hσ hu hI=>by
        obtain ⟨M',h3,h4⟩:=hS.next hC.T (hdo ho) hσ hu hI hp3 hst2 (xd1 ⟨rfl,hst1,hp1,rfl⟩) key.1;have hm:m0<=b + z * i:=by have:=hS.hb;omega
        have hz:z * (i + 1)<=z * ops.size:=xg3 z hp1;have:=hS.hbn;exact ⟨fun q hq=>h4.hL.all q (h3 q hq),a5j f h3 (h2 h4 hn fun a' w' τ hτ ha' hI'=>k a' w' τ (hσ.join hτ hm (by omega)) ha' hI')⟩
       refine b0E ho (a1X hS.ha hw) (fun e=>(key.2.1 e).2 hS.ha hS.hI (hi:=b + z * (i + 1)) (hS.hG i hp1 hp2) hst1 _ _ _ _ _ _ fin) fun e=>?_;obtain ⟨rfl,rfl,rfl⟩:=key.2.2 e;exact fin _ _ ρ (Stp.refl _ _ _) VR.undef hS.hI
      cases hl:more.isStop with
      |true=>
       rw [hl] at h;obtain ⟨h1,h2⟩:=first h;refine ⟨h1,fun {w0 w ρ ds a hi m0 M} hS hn k j hj=>?_⟩;have he:a8V more=[]:=by cases more <;> first|rfl|cases hl
       rcases xc3.1 (show j ∈ i::a8V more from hj) with rfl|hj
       ·exact h2 hS hn k
       ·rw [he] at hj;cases hj
      |false=>
       rw [hl] at h;dsimp only [cond_true,cond_false] at h
       split at h
       ·rename_i E1 H1' n1' E2 H2 n2 hx1 hx2
        cases hs:(a6E E1 E2 E1 && (hEq H1' H2 && Nat.beq n1' n2)) with
        |false=>rw [hs] at h;cases h
        |true=>
        rw [hs] at h
        cases h
        simp only [xb1] at hs;obtain ⟨hs1,hs2,hs3⟩:=hs;obtain rfl:=b2J hs2;obtain rfl:=xb8 hs3;obtain ⟨h1,h2⟩:=first hx1;obtain ⟨h3,h4⟩:=im.2 f _ _ _ _ _ _ _ _ _ _ hp5 hx2;refine ⟨h1,fun {w0 w ρ ds a hi m0 M} hS hn k j hj=>?_⟩;rcases xc3.1 (show j ∈ i::a8V more from hj) with rfl|hj
        ·exact h2 hS hn k
        ·exact h4 hS hn (fun a' w' σ hσ ha' hI'=>k a' w' σ hσ (ha'.same hs1) hI') j hj
       ·cases h
       ·cases h
     ·cases h
    ·cases h
   ·cases h
  refine ⟨fun f li b z L E H n E' H' n' hp h=>?_,fun f li b z L E H n E' H' n' hp h=>chain f li b z L E H n E' H' n' hp h⟩
  cases f with
  |zero=>cases hp
  |succ f=>
  replace hp:((Region.ready .any ops li).all (fun j=>(i::a8V more).any (Nat.beq j)) && ((Region.ready .any ops li).contains i && (Nat.blt i ops.size && (!li.getD i true && (dr.all (a0T ops i) && ((plB ops p).1 f (li.setIfInBounds i true) && (plB ops more).2 f li))))))=true:=hp;rw [xb1,xb1] at hp;obtain ⟨hp1,hp2,hp3⟩:=hp;obtain ⟨h1,h2⟩:=chain f li b z L E H n E' H' n' hp3 h;refine ⟨h1,fun {w0 w ρ ds a hi m0 M} hS hn k=>⟨fun h0=>(by rw [h0] at hp2;cases hp2),fun j hj=>h2 hS hn k j ?_⟩⟩;obtain ⟨q,hq,hqj⟩:=xo0.1 (xc6.1 hp1 j hj);rw [xb8 hqj];exact hq
end
noncomputable def a4m (N:Nat) (pl:List (Nat×Pl)) (c:Code):Bool:=@Code.rec (fun _=>Bool) true
 (fun id ops draw=>ops.toList.all (a8u N) && (bif draw then (match o3 pl id with
   |some p=>Region.noSelect ops && (plB ops p).1 ops.size (Array.replicate ops.size false)
   |none=>true) else true))
 (fun _ _ x y=>x && y) (fun _ _ _ x y=>x && y) (fun _ _ x=>x) (fun _ x=>x) (fun _ _ _ _ _ _=>true) (fun _=>true) (fun _ _=>true) (fun _=>true) (fun _=>true) true (fun _=>true) c
inductive BT.All {α:Type} (p:Nat->α->Prop):BT α->Prop where
 |nil:BT.All p .nil
 |node {k:Nat} {v:α} {l r:BT α} (h:p k v) (hl:BT.All p l) (hr:BT.All p r):BT.All p (.node k v l r)
theorem BT.All.get {α:Type} {p:Nat->α->Prop} {t:BT α} (h:BT.All p t) {i:Nat} {v:α} (hg:t.get i=some v):p i v:=by
 induction h with
 |nil=>cases hg
 |@node k u l r hp hl hr ihl ihr=>
  replace hg:@Bool.rec (fun _=>Option α) (@Bool.rec (fun _=>Option α) (r.get i) (l.get i) (Nat.blt i k)) (some u) (Nat.beq i k)=some v:=hg
  cases e:Nat.beq i k with
  |true=>
   rw [e] at hg
   cases hg
   rw [xb8 e];exact hp
  |false=>
   rw [e] at hg
   cases e2:Nat.blt i k with
   |true=>rw [e2] at hg;exact ihl hg
   |false=>rw [e2] at hg;exact ihr hg
structure FOk (P:Program) (C:Cx):Prop where
 ok:COk P C
 mixed:P.follows .mixedOrders=true
 F:BT.All (fun g (x:Func×List (Nat×Pl))=>a25 P g x.1/\∃ c,x.1.body=some c/\a4m x.1.ntmps x.2 c=true) C.F
 M:∀ g f,o3 C.M g=some f->∀ vs v,f vs=some v->vs.all cOk=true/\(∀ ρ,VR ρ v v)/\∀ w,Fn P g vs w (RBf v w)
def toX:SX->Exit
 |.normal=>.normal
 |.exit i=>.exit i
 |.ret=>.ret
section
variable {P:Program} {C:Cx} {call:a5M} {w0 w w':World} {ρ σ:Ren} {N:Nat} {ds:List Deferred} {a:Act} {E E':Fr} {H H':SH} {n n':Nat} {Q:Exit->Act->World->Prop}
theorem PQ.then {x:Act->World->Prop} (h:PQ Q):PQ (Exit.then x Q):=fun c a w d v hq=>h c a w d v hq
theorem PQ.block {i:Nat} (h:PQ Q):PQ (Exit.inBlock i Q):=fun c a w d v hq=>h c a w d v hq
theorem a4C:∀ (E:Fr) (s:List Nat) {t:Nat} {v:Value},o3 (a6T E s) t=some v->o3 E t=some v/\t ∉ s
 |[],s,t,v,h=>by cases h
 |(k,u)::r,s,t,v,h=>by
  have hany:∀ s:List Nat,@List.rec Nat (fun _=>Bool) false (fun x _ h=>bif Nat.beq k x then true else h) s=s.any (Nat.beq k):=fun s=>by
   induction s with
   |nil=>rfl
   |cons x s ih=>simp only [List.any_cons];rw [<- ih];cases Nat.beq k x <;> rfl
  have e:a6T ((k,u)::r) s=bif s.any (Nat.beq k) then a6T r s else (k,u)::a6T r (k::s):=by rw [<- hany];rfl
  rw [e] at h
  cases hs:s.any (Nat.beq k) with
  |true=>
   rw [hs] at h;obtain ⟨h1,h2⟩:=a4C r s h;obtain ⟨x,hx,hkx⟩:=xo0.1 hs;have hkx:=xb8 hkx;refine ⟨?_,h2⟩;rw [p8,xe7 (fun e=>h2 (by rw [<- e,hkx];exact hx))];exact h1
  |false=>
   rw [hs] at h;replace h:o3 ((k,u)::a6T r (k::s)) t=some v:=h;rw [p8] at h |-;by_cases ek:k=t
   ·rw [xe6 ek] at h |-;refine ⟨h,fun hm=>?_⟩;have:s.any (Nat.beq k)=true:=xo0.2 ⟨t,hm,by rw [ek];exact xn3 _⟩;rw [hs] at this
    cases this
   ·rw [xe7 ek] at h |-;obtain ⟨h1,h2⟩:=a4C r (k::s) h;exact ⟨h1,fun hm=>h2 (xc5 _ hm)⟩
theorem HasR.shrink (h:HasR ρ N ds a E):HasR ρ N ds a (a5d E):=⟨h.size,h.defers,fun t v ht=>by
 unfold a5d at ht
 cases e:Nat.blt 400 (@List.rec (Nat×Value) (fun _=>Nat) 0 (fun _ _ n=>n + 1) E) with
 |true=>rw [e] at ht;exact h.at_ t v (a4C E [] ht).1
 |false=>rw [e] at ht;exact h.at_ t v ht⟩
def b0z (P:Program) (c:Code) (N:Nat) (f:a5Q):Prop:=∀ E H n e E' H' n',f E H n=.ok (e,E',H',n')->n<=n'/\∀ {w0 w:World} {ρ:Ren} {ds:List Deferred} {a:Act} {hi:Nat} {Q:Exit->Act->World->Prop},PQ Q->HasR ρ N ds a E->Inv P w0 ρ H w->Fsh ρ n hi->n'<=hi->(∀ a' w' σ,Stp ρ σ n n'->HasR σ N ds a' E'->Inv P w0 σ H' w'->Q (toX e) a' w')->c.wp P Q a w
theorem b2i {c:Code} {f:a5Q} (hf:b0z P c N f):∀ k E H n e E' H' n',b0i f k E H n=.ok (e,E',H',n')->n<=n'/\∀ {w0 w:World} {ρ:Ren} {ds:List Deferred} {a:Act} {hi:Nat} {Q:Exit->Act->World->Prop},PQ Q->HasR ρ N ds a E->Inv P w0 ρ H w->Fsh ρ n hi->n'<=hi->(∀ a' w' σ,Stp ρ σ n n'->HasR σ N ds a' E'->Inv P w0 σ H' w'->Q (toX e) a' w')->Code.rounds P c Q k a w:=by
 intro k
 induction k with
 |zero=>intro E H n e E' H' n' h;cases h
 |succ k ih=>
  intro E H n e E' H' n' h;replace h:(match f E H n with
   |.ok (.normal,E',H',n')=>b0i f k (a5d E') H' n'
   |r=>r)=.ok (e,E',H',n'):=h
  split at h
  ·rename_i E1 H1 n1 hr;obtain ⟨h1,h2⟩:=hf _ _ _ _ _ _ _ hr;obtain ⟨h3,h4⟩:=ih _ _ _ _ _ _ _ h;refine ⟨xd3 h1 h3,fun {w0 w ρ ds a hi Q} hQ ha hI hF hn kk=>?_⟩;rw [rounds_succ];exact h2 hQ.then ha hI hF (xd3 h3 hn) fun a' w' σ hσ ha' hI'=>h4 hQ ha'.shrink hI' (hF.step hσ h1) hn fun a2 w2 τ hτ ha2 hI2=>kk a2 w2 τ (hσ.trans hτ h1 h3) ha2 hI2
  ·rename_i hne;obtain ⟨h1,h2⟩:=hf _ _ _ _ _ _ _ h;refine ⟨h1,fun {w0 w ρ ds a hi Q} hQ ha hI hF hn kk=>?_⟩;rw [rounds_succ];refine h2 hQ.then ha hI hF hn fun a' w' σ hσ ha' hI'=>?_;have:=kk a' w' σ hσ ha' hI'
   cases e with
   |normal=>exact (hne _ _ _ h).elim
   |exit i=>exact this
   |ret=>exact this
theorem b2c (hC:FOk P C) (hc:a2e P call) (pl:List (Nat×Pl)) (c:Code) (hB:a4m N pl c=true):b0z P c N (a4Z C call pl c):=by
 induction c with
 |skip=>
  intro E H n e E' H' n' h
  cases h
  exact ⟨xd2 _,fun hQ ha hI hF hn k=>wp_skip (k _ _ _ (Stp.refl _ _ _) ha hI)⟩
 |region id ops draw=>
  intro E H n e E' H' n' h;replace hB:(ops.toList.all (a8u N) && (bif draw then (match o3 pl id with
   |some p=>Region.noSelect ops && (plB ops p).1 ops.size (Array.replicate ops.size false)
   |none=>true) else true))=true:=hB
  rw [xb1] at hB;obtain ⟨hd,hB⟩:=hB
  cases draw with
  |false=>
   replace h:(match a6O C call ops.toList ops.toList E H n with
    |.ok (E',H',n')=>Rs.ok (SX.normal,E',H',n')
    |.no p=>.no p)=.ok (e,E',H',n'):=h
   split at h
   ·rename_i E1 H1 n1 hr
    cases h
    obtain ⟨h1,_⟩:=a4n (Q:=fun _ _ _=>True) hC.ok hc hd hr;refine ⟨h1,fun {w0 w ρ ds a hi Q} hQ ha hI hF hn k=>?_⟩;obtain ⟨_,h2⟩:=a4n (Q:=Q) hC.ok hc hd hr;have:=wp_region_lit (id:=id) (l:=ops.toList) (h2 ha hI hF hn k)
    simpa using this
   ·cases h
  |true=>
   replace h:(match o3 pl id with
    |some p=>match xPl C call ops.toList p n 0 [] E H n with
     |.ok (E',H',n')=>Rs.ok (SX.normal,E',H',n')
     |.no p=>.no p
    | none => .no "plan") = .ok (e, E', H', n') := h
   split at h
   ·rename_i p hp;rw [hp] at hB;dsimp only [cond_true] at hB;rw [xb1] at hB
    split at h
    ·rename_i E1 H1 n1 hr
     cases h
     have hpl:=fun (Q:Exit->Act->World->Prop) (hQ:PQ Q)=>(b6B hC.ok hc hQ hB.1 hd p).1 _ _ _ _ _ _ _ _ _ _ _ hB.2 hr;refine ⟨(hpl (fun _ _ _=>True) (fun _ _ _ _ _ _=>trivial)).1,fun {w0 w ρ ds a hi Q} hQ ha hI hF hn k=>?_⟩;refine wp_region_any hC.mixed (b0d _ [] _ _ _ ((hpl Q hQ).2 (hi:=hi) (m0:=n) ⟨ha,hI.grow ⟨rfl,rfl,rfl,xd2 _,fun _ _ _=>rfl⟩,hF,fun j _ _ q h1 h2=>by simp at h1 h2;omega,xd2 _,by simp,EL.nil⟩ hn k))
    ·cases h
   ·cases h
 |seq x y ihx ihy=>
  intro E H n e E' H' n' h;replace hB:(a4m N pl x && a4m N pl y)=true:=hB;rw [xb1] at hB;replace h:(match a4Z C call pl x E H n with
   |.ok (.normal,E',H',n')=>a4Z C call pl y E' H' n'
   |r=>r)=.ok (e,E',H',n'):=h
  split at h
  ·rename_i E1 H1 n1 hr;obtain ⟨h1,h2⟩:=ihx hB.1 _ _ _ _ _ _ _ hr;obtain ⟨h3,h4⟩:=ihy hB.2 _ _ _ _ _ _ _ h;refine ⟨xd3 h1 h3,fun {w0 w ρ ds a hi Q} hQ ha hI hF hn k=>wp_seq ?_⟩;exact h2 hQ.then ha hI hF (xd3 h3 hn) fun a' w' σ hσ ha' hI'=>h4 hQ ha' hI' (hF.step hσ h1) hn fun a2 w2 τ hτ ha2 hI2=>k a2 w2 τ (hσ.trans hτ h1 h3) ha2 hI2
  ·rename_i hne;obtain ⟨h1,h2⟩:=ihx hB.1 _ _ _ _ _ _ _ h;refine ⟨h1,fun {w0 w ρ ds a hi Q} hQ ha hI hF hn k=>wp_seq ?_⟩;refine h2 hQ.then ha hI hF hn fun a' w' σ hσ ha' hI'=>?_;have:=k a' w' σ hσ ha' hI'
   cases e with
   |normal=>exact (hne _ _ _ h).elim
   |exit i=>exact this
   |ret=>exact this
 |cond o x y ihx ihy=>
  intro E H n e E' H' n' h;replace hB:(a4m N pl x && a4m N pl y)=true:=hB;rw [xb1] at hB;replace h:(match sEv E o with
   |some (.bool true)=>a4Z C call pl x E H n
   |some (.bool false)=>a4Z C call pl y E H n
   | _ => Rs.no "cond") = .ok (e, E', H', n') := h
  split at h
  ·rename_i ho;obtain ⟨h1,h2⟩:=ihx hB.1 _ _ _ _ _ _ _ h;refine ⟨h1,fun {w0 w ρ ds a hi Q} hQ ha hI hF hn k=>?_⟩;obtain ⟨u,hu,go⟩:=ha.ev ho;rw [VR.bool hu] at go;exact wp_cond_split (ha.full.ev go) (fun _=>h2 hQ ha hI hF hn k) (fun e=>by cases e)
  ·rename_i ho;obtain ⟨h1,h2⟩:=ihy hB.2 _ _ _ _ _ _ _ h;refine ⟨h1,fun {w0 w ρ ds a hi Q} hQ ha hI hF hn k=>?_⟩;obtain ⟨u,hu,go⟩:=ha.ev ho;rw [VR.bool hu] at go;exact wp_cond_split (ha.full.ev go) (fun e=>by cases e) (fun _=>h2 hQ ha hI hF hn k)
  ·cases h
 |block i x ih=>
  intro E H n e E' H' n' h;replace hB:a4m N pl x=true:=hB;replace h:(match a4Z C call pl x E H n with
   |.ok (.exit j,E',H',n')=>bif Nat.beq j i then Rs.ok (SX.normal,E',H',n') else Rs.ok (SX.exit j,E',H',n')
   |r=>r)=.ok (e,E',H',n'):=h
  split at h
  ·rename_i j E1 H1 n1 hr;obtain ⟨h1,h2⟩:=ih hB _ _ _ _ _ _ _ hr
   cases hj:Nat.beq j i with
   |true=>
    rw [hj] at h
    cases h
    obtain rfl:=xb8 hj;refine ⟨h1,fun {w0 w ρ ds a hi Q} hQ ha hI hF hn k=>wp_block (h2 hQ.block ha hI hF hn fun a' w' σ hσ ha' hI'=>?_)⟩;show if j=j then _ else _;rw [xe6 rfl];exact k a' w' σ hσ ha' hI'
   |false=>
    rw [hj] at h
    cases h
    have hne:j≠i:=fun e=>by subst e;rw [xn3] at hj;cases hj
    refine ⟨h1,fun {w0 w ρ ds a hi Q} hQ ha hI hF hn k=>wp_block (h2 hQ.block ha hI hF hn fun a' w' σ hσ ha' hI'=>?_)⟩;show if j=i then _ else _;rw [xe7 hne];exact k a' w' σ hσ ha' hI'
  ·rename_i hne;obtain ⟨h1,h2⟩:=ih hB _ _ _ _ _ _ _ h;refine ⟨h1,fun {w0 w ρ ds a hi Q} hQ ha hI hF hn k=>wp_block (h2 hQ.block ha hI hF hn fun a' w' σ hσ ha' hI'=>?_)⟩;have:=k a' w' σ hσ ha' hI'
   cases e with
   |normal=>exact this
   |exit j=>exact (hne _ _ _ _ h).elim
   |ret=>exact this
 |loop x ih=>
  intro E H n e E' H' n' h;replace hB:a4m N pl x=true:=hB;replace h:b0i (a4Z C call pl x) b2C E H n=.ok (e,E',H',n'):=h;generalize b2C=kk at h;obtain ⟨h1,h2⟩:=b2i (ih hB) kk _ _ _ _ _ _ _ h;exact ⟨h1,fun hQ ha hI hF hn k=>wp_loop_rounds kk (h2 hQ ha hI hF hn k)⟩
 |rangeFunc f ps x y _ _=>intro E H n e E' H' n' h;cases h
 |exit i=>
  intro E H n e E' H' n' h
  cases h
  exact ⟨xd2 _,fun hQ ha hI hF hn k=>wp_exit (k _ _ _ (Stp.refl _ _ _) ha hI)⟩
 |scope x _=>intro E H n e E' H' n' h;cases h
 |label l=>intro E H n e E' H' n' h;cases h
 |goto l=>intro E H n e E' H' n' h;cases h
 |ret=>
  intro E H n e E' H' n' h
  cases h
  exact ⟨xd2 _,fun hQ ha hI hF hn k=>wp_ret (k _ _ _ (Stp.refl _ _ _) ha hI)⟩
 |refuse s=>intro E H n e E' H' n' h;cases h
theorem a7T (hT:TOk P C.T) (ha:HasR ρ N ds a E) (hI:Inv P w0 ρ H w):∀ {rs:List ResultVar} {vs:List Value},b0H C.T E H rs=some vs->∃ us,LR ρ vs us/\ResL P (a1P a) w rs us
 |[],vs,h=>by cases h;exact ⟨[],LR.nil,ResL.nil⟩
 |.tmp t::r,vs,h=>by
  unfold b0H at h
  split at h
  ·rename_i v vs' h1 h2
   cases h
   obtain ⟨u,hu,hat⟩:=ha.at_ t v h1;obtain ⟨us,h3,h4⟩:=a7T hT ha hI h2;exact ⟨u::us,LR.cons hu h3,ResL.tmp (a4F hat) h4⟩
  ·cases h
 |.cell p t::r,vs,h=>by
  unfold b0H at h
  split at h
  ·rename_i pv hp
   split at h
   ·rename_i v vs' h1 h2
    cases h
    obtain ⟨p',hp',hat⟩:=ha.at_ p pv hp;obtain ⟨b,o,u,rfl,hu,hl⟩:=a7z hT hI h1 hp';obtain ⟨us,h3,h4⟩:=a7T hT ha hI h2;exact ⟨u::us,LR.cons hu h3,ResL.cell (a4F hat) hl h4⟩
   ·cases h
  ·cases h
theorem VR.pack {vs us:List Value} (h:LR ρ vs us):VR ρ (a3B vs) (a3B us):=by
 match vs,us,h with
 |[],us,h=>rw [LR.nil_inv h];exact VR.mkTup LR.nil
 |[v],us,h=>
  obtain ⟨u,r,rfl,h1,h2⟩:=LR.inv h;rw [LR.nil_inv h2];exact h1
 |v::v2::r,us,h=>
  obtain ⟨u,r',rfl,h1,h2⟩:=LR.inv h;obtain ⟨u2,r2,rfl,h3,h4⟩:=LR.inv h2;exact VR.mkTup h
theorem a5q (m:Nat):∀ (H:SH) {i:Nat} {s:SA},o3 (b1s m H) i=some s->o3 H i=some s/\i < m
 |[],i,s,h=>by cases h
 |(k,t)::r,i,s,h=>by
  replace h:o3 (@Bool.rec (fun _=>SH) (b1s m r) ((k,t)::b1s m r) (Nat.blt k m)) i=some s:=h
  cases e:Nat.blt k m with
  |true=>
   rw [e] at h;have e:k < m:=by simpa [xc0] using e
   rw [p8] at h |-;by_cases hk:k=i
   ·rw [xe6 hk] at h |-;exact ⟨h,by omega⟩
   ·rw [xe7 hk] at h |-;exact a5q m r h
  |false=>
   rw [e] at h;obtain ⟨h1,h2⟩:=a5q m r h;have hk:k≠i:=fun e2=>by
    subst e2;have:Nat.blt k m=true:=by simpa [xc0] using h2
    rw [e] at this
    cases this
   rw [p8,xe7 hk];exact ⟨h1,h2⟩
theorem b51 {m:Nat} {v:Value} {i:Nat} {s:SA} (h:o3 (gc m v H) i=some s):o3 H i=some s:=by
 unfold gc at h
 cases e:(Nat.blt 20 (b5H m H) && (b3h 1000 m v && (b1s m H).all fun p=>b5A m p.2)) with
 |true=>rw [e] at h;exact (a5q m H h).1
 |false=>rw [e] at h;exact h
theorem a51:∀ {vs us:List Value} {k t:Nat} {v:Value},LR ρ vs us->o3 (a40 k vs) t=some v->k<=t/\∃ u,us[t - k]?=some u/\VR ρ v u
 |[],us,k,t,v,_,h=>by cases h
 |x::vs,us,k,t,v,hr,h=>by
  obtain ⟨u,r,rfl,h1,h2⟩:=LR.inv hr;replace h:o3 ((k,x)::a40 (k + 1) vs) t=some v:=h;rw [p8] at h;by_cases e:k=t
  ·rw [xe6 e] at h
   cases h
   subst e;exact ⟨xd2 _,u,by simp,h1⟩
  ·rw [xe7 e] at h;obtain ⟨h3,u',h4,h5⟩:=a51 h2 h;exact ⟨by omega,u',by rw [show t - k=(t - (k + 1)) + 1 from by omega];simpa using h4,h5⟩
theorem b3s (hC:FOk P C) (hc:a2e P call):a2e P (b28 C call):=by
 intro g vs H n v H' n' h;unfold b28 at h
 split at h
 ·rename_i f hf
  split at h
  ·rename_i u hu
   cases h
   refine ⟨xd2 _,fun {w0 w ρ hi us} hr hI hF hn=>?_⟩;obtain ⟨h1,h2,h3⟩:=hC.M g f hf vs _ hu;have e:us=vs:=by
    have:=LR.cOks (ρ:=ρ) h1;unfold LR at hr this;rw [hr] at this
    cases this
    rfl
   rw [e];exact (h3 w).mono fun v' w' ⟨e1,hS⟩=>⟨ρ,Stp.refl _ _ _,by rw [e1];exact h2 ρ,hI.grow (St.grown0 hS)⟩
  ·cases h
 ·split at h
  ·rename_i fn pl hf;obtain ⟨hok,c',hb',hB⟩:=hC.F.get hf
   split at h
   ·rename_i c hb;obtain rfl:c=c':=by rw [hb] at hb';exact Option.some.inj hb'
    cases hl:Nat.ble vs.length fn.ntmps with
    |false=>rw [hl] at h;cases h
    |true=>
    rw [hl] at h;dsimp only [cond_true] at h
    split at h
    ·cases h
    ·rename_i e E1 H1 n1 hne hr
     split at h
     ·rename_i rs hrs
      cases h
      obtain ⟨h1,h2⟩:=b2c hC hc pl c hB _ _ _ _ _ _ _ hr;refine ⟨h1,fun {w0 w ρ hi us} hus hI hF hn=>⟨⟨fn,hok⟩,?_⟩⟩;refine calls_of_wp hok.at_ hb (h2 (fun c a w d v hq=>by cases d <;> exact hq) ⟨?_,rfl,fun t v ht=>?_⟩ hI hF hn fun a' w' σ hσ ha' hI'=>?_)
      ·have:=xf6 hl;have:=hus.len;simp;omega
      ·obtain ⟨_,u,hu,hv⟩:=a51 hus ht;rw [Nat.sub_zero] at hu;have hlt:=f7 hu;exact ⟨u,hv,by rw [Array.getElem?_append_left (by simpa using hlt)];simpa using hu⟩
      ·obtain ⟨us',h3,h4⟩:=a7T hC.ok.T ha' hI' hrs;have q:=b3M (P:=P) (fn:=fn) (Φ:=fun u w'=>∃ σ,Stp ρ σ n n'/\VR σ (a3B rs) u/\Inv P w0 σ (gc n (a3B rs) H1) w') rfl h4 rfl ⟨σ,hσ,VR.pack h3,hI'.sub fun i s hs=>b51 hs⟩ ha'.full
       cases e with
       |normal=>exact q
       |exit i=>exact (hne _ rfl).elim
       |ret=>exact q
     ·cases h
    ·cases h
   ·cases h
  ·cases h
theorem b4c (hC:FOk P C) (k:Nat):a2e P (b5z C k):=by
 induction k with
 |zero=>intro g vs H n v H' n' h;cases h
 |succ k ih=>exact b3s hC ih
noncomputable def xIs (r:Rs (Value×SH×Nat)) (v:Value):Bool:=match r with
 |.ok (u,_,_)=>vEq 1000 u v
 |.no _=>false
theorem b6A (hC:FOk P C) {g:Nat} {vs:List Value} {v:Value} (k:Nat) (h:xIs (b5z C k g vs [] 0) v=true) (hvs:vs.all cOk=true) (hv:∀ ρ,VR ρ v v) (w:World):Fn P g vs w (RBf v w):=by
 unfold xIs at h
 split at h
 ·rename_i u H n hr;obtain rfl:=a4K _ h;obtain ⟨h1,h2⟩:=b4c hC k _ _ _ _ _ _ _ hr;refine (h2 (w0:=w) (w:=w) (ρ:=fun _=>none) (hi:=n) (LR.cOks hvs) ⟨⟨rfl,rfl,rfl,xd2 _,fun _ _=>rfl⟩,(fun i s h=>by cases h),(fun i j s t x y h=>by cases h)⟩ (fun _ _ _=>rfl) (xd2 _)).mono fun u' w' ⟨σ,hσ,hu,hI⟩=>?_;exact ⟨VR.fn (hv σ) hu,St.of_below hI.below⟩
 ·cases h
end
def cxQ:EqT:=[(84,[1,0,2,2]),(88,[1,0]),(99,[0,0])]
noncomputable def b7q:List Value->Option Value
 |[.string ⟨⟨s⟩⟩,.int .i64 off,.string ⟨⟨t⟩⟩]=>ifB (inB off t.length s.length && Nat.ble s.length 100000) (some (.tuple #[.string ⟨(splice s off.toNat t).toArray⟩,.int .i64 0])) none
 |_=>none
noncomputable def cxM:List (Nat×(List Value->Option Value)):=[(110,b7q)]
theorem b7k {ρ:Ren} {z:Value} {l:List Value} (h:celL z=some l) (hl:l.all cOk=true):VR ρ z z:=by
 cases z
 all_goals first
  |(cases h;exact VR.mkAgg (LR.cOks hl);done)
  |(cases h;exact VR.cOk (by simpa using hl);done)
  |(cases h;done)
def zOk (z:Value):Bool:=match celL z with
 |some l=>l.all cOk
 |none=>false
def ForA {α:Type} (p:α->Prop):List α->Prop
 |[]=>True
 |x::r=>p x/\ForA p r
theorem ForA.nil {α:Type} {p:α->Prop}:ForA p []:=trivial
theorem ForA.cons {α:Type} {p:α->Prop} {x:α} {l:List α} (h:p x) (h':ForA p l):ForA p (x::l):=⟨h,h'⟩
theorem ForA.mem {α:Type} {p:α->Prop}:∀ {l:List α},ForA p l->∀ x ∈ l,p x
 |[],_,x,h=>by cases h
 |y::r,⟨h1,h2⟩,x,h=>by
  rcases xc3.1 h with rfl|h
  ·exact h1
  ·exact ForA.mem h2 x h
theorem b5d {P:Program} {ez:List (Nat×Value)} (h:ForA (fun p=>∃ Kt Et,P.underlying p.1=some (.map Kt Et)/\(P.info? Et).bind (·.zero)=some p.2/\zOk p.2=true) ez):b4J P ez:=fun t z hg Kt Et hu=>by
 obtain ⟨K,E,h1,h2,h3⟩:=h.mem _ (a4f hg);dsimp only at h1 h2 h3;rw [hu] at h1
 cases h1
 refine ⟨h2,fun ρ=>?_⟩;unfold zOk at h3
 split at h3
 ·rename_i l hl;exact b7k hl h3
 ·cases h3
theorem b6o:∀ g f,o3 cxM g=some f->∀ vs v,f vs=some v->vs.all cOk=true/\(∀ ρ,VR ρ v v)/\∀ w,Fn Tryz.prog g vs w (RBf v w):=by
 intro g f h vs v hv;have hm:=a4f h;unfold cxM at hm;rw [xn4] at hm
 cases hm
 unfold b7q at hv
 split at hv
 ·rename_i s off t;obtain ⟨h1,h2⟩:=l5 hv
  cases h2
  rw [xb1] at h1;have h3:=xf6 h1.2;refine ⟨rfl,fun ρ=>VR.mkTup (LR.cOks rfl),fun w=>?_⟩;have:=b3X s t off w (by unfold maxLen;omega);rw [xe6 h1.1,xe6 h1.1] at this;exact this
 ·cases hv
theorem a5K {l l':List Value} {b:Bool} (h:sEqS [] l l'=some b):l=[]/\l'=[]/\b=true:=by
 cases l <;> cases l' <;> simp_all [sEqS]
theorem a7j {s:List Nat} {l l':List Value} {b:Bool} (h:sEqS (0::s) l l'=some b):∃ x y m m' c,l=.int .i64 x::m/\l'=.int .i64 y::m'/\sEqS s m m'=some c/\b=(decide (x=y) && c):=by
 unfold sEqS at h
 split at h
 all_goals first
  |(cases h;done)
  |(exfalso;simp_all;done)
  |(obtain ⟨c,hc,rfl⟩:=xn2.1 h;simp_all;done)
  |(obtain ⟨c,hc,rfl⟩:=xn2.1 h;rename_i e;cases e;exact ⟨_,_,_,_,c,rfl,rfl,hc,rfl⟩)
theorem b2M {s:List Nat} {l l':List Value} {b:Bool} (h:sEqS (1::s) l l'=some b):∃ x y m m' c,l=.string ⟨⟨x⟩⟩::m/\l'=.string ⟨⟨y⟩⟩::m'/\sEqS s m m'=some c/\b=(decide (x=y) && c):=by
 unfold sEqS at h
 split at h
 all_goals first
  |(cases h;done)
  |(exfalso;simp_all;done)
  |(obtain ⟨c,hc,rfl⟩:=xn2.1 h;simp_all;done)
  |(obtain ⟨c,hc,rfl⟩:=xn2.1 h;rename_i e;cases e;exact ⟨_,_,_,_,c,rfl,rfl,hc,rfl⟩)
theorem b2F {s:List Nat} {l l':List Value} {b:Bool} (h:sEqS (2::s) l l'=some b):∃ x y m m' c,l=.bool x::m/\l'=.bool y::m'/\sEqS s m m'=some c/\b=(decide (x=y) && c):=by
 unfold sEqS at h
 split at h
 all_goals first
  |(cases h;done)
  |(exfalso;simp_all;done)
  |(obtain ⟨c,hc,rfl⟩:=xn2.1 h;simp_all;done)
  |(obtain ⟨c,hc,rfl⟩:=xn2.1 h;rename_i e;cases e;exact ⟨_,_,_,_,c,rfl,rfl,hc,rfl⟩)
theorem b6p:QOk Tryz.prog cxQ:=fun t s h l l' b hb=>by
 have hm:=a4f h;unfold cxQ at hm;simp only [xc3,List.not_mem_nil,or_false,Prod.mk.injEq] at hm;rcases hm with ⟨rfl,rfl⟩|⟨rfl,rfl⟩|⟨rfl,rfl⟩
 ·obtain ⟨x1,y1,m1,n1,c1,rfl,rfl,hb1,rfl⟩:=b2M hb;obtain ⟨x2,y2,m2,n2,c2,rfl,rfl,hb2,rfl⟩:=a7j hb1;obtain ⟨x3,y3,m3,n3,c3,rfl,rfl,hb3,rfl⟩:=b2F hb2;obtain ⟨x4,y4,m4,n4,c4,rfl,rfl,hb4,rfl⟩:=b2F hb3;obtain ⟨rfl,rfl,rfl⟩:=a5K hb4;refine ⟨fun w=>?_,by kernel_rfl⟩;simp [go_sem]
  repeat' split
  all_goals simp_all
 ·obtain ⟨x1,y1,m1,n1,c1,rfl,rfl,hb1,rfl⟩:=b2M hb;obtain ⟨x2,y2,m2,n2,c2,rfl,rfl,hb2,rfl⟩:=a7j hb1;obtain ⟨rfl,rfl,rfl⟩:=a5K hb2;refine ⟨fun w=>?_,by kernel_rfl⟩;simp [go_sem]
  repeat' split
  all_goals simp_all
 ·obtain ⟨x1,y1,m1,n1,c1,rfl,rfl,hb1,rfl⟩:=a7j hb;obtain ⟨x2,y2,m2,n2,c2,rfl,rfl,hb2,rfl⟩:=a7j hb1;obtain ⟨rfl,rfl,rfl⟩:=a5K hb2;refine ⟨fun w=>?_,by kernel_rfl⟩;simp [go_sem]
  repeat' split
  all_goals simp_all
set_option maxRecDepth 100000
set_option maxHeartbeats 4000000
noncomputable def b6P:BT (Func×List (Nat×Pl)):=.node 158 (Tryz.f158,[]) (.node 105 (Tryz.f105,[(11,.take 0 (.take 1 (.take 2 (.take 3 (.take 4 (.take 5 (.take 6 (.one 7 [3,5,6] .nil)))))))),(18,.take 0 (.take 1 (.take 2 (.take 3 (.take 4 (.take 5 (.take 6 (.take 7 (.take 8 (.take 9 (.take 10 (.one 11 [] (.one 12 [3,6,8] .nil)))))))))))))]) (.node 57 (Tryz.f57,[(9,.take 0 (.take 1 (.take 2 (.take 3 (.take 4 (.one 5 [3] (.take 6 (.take 7 (.take 8 (.take 9 (.take 10 .nil))))))))))),(12,.take 0 (.take 1 (.take 2 (.take 3 (.take 4 (.take 5 (.take 6 (.take 7 (.take 8 (.take 9 (.take 10 (.take 11 (.take 12 (.take 13 .nil)))))))))))))),(13,.take 0 (.take 1 (.take 2 (.take 3 (.take 4 (.take 5 (.take 6 (.take 7 (.take 8 (.take 9 (.take 10 (.take 11 (.take 12 (.take 13 .nil))))))))))))))]) (.node 44 (Tryz.f44,[(1,.take 0 (.take 1 (.take 2 (.take 3 (.take 4 (.take 5 (.take 6 (.take 7 (.take 8 (.take 9 (.take 10 .nil)))))))))))]) (.node 41 (Tryz.f41,[]) (.node 14 (Tryz.f14,[]) (.node 10 (Tryz.f10,[(6,.take 0 (.take 2 (.take 9 (.take 10 (.take 11 (.one 1 [] (.one 3 [] (.take 4 (.take 5 (.take 6 (.one 7 [6] (.take 8 (.take 12 (.take 13 .nil)))))))))))))),(12,.take 0 (.take 1 (.take 2 (.take 3 (.take 4 (.take 5 (.take 6 (.take 7 (.take 8 (.take 9 (.take 10 (.take 11 (.take 12 (.one 13 [4,6,9] .nil)))))))))))))),(13,.take 0 (.take 1 (.take 2 (.take 3 (.take 4 (.take 5 (.take 6 (.take 7 (.take 8 (.take 9 (.take 10 (.take 11 (.take 12 (.one 13 [4,6,9] .nil)))))))))))))),(15,.take 0 (.take 1 (.take 2 (.take 3 (.take 4 (.take 5 (.take 6 (.take 9 (.one 7 [6] (.take 8 (.take 10 (.take 11 (.one 12 [11] (.one 13 [5] (.take 14 (.take 15 (.take 16 (.one 17 [] .nil)))))))))))))))))),(16,.take 0 (.take 1 (.take 2 (.take 3 (.take 4 (.take 5 (.take 6 (.one 7 [3] (.take 8 (.take 9 .nil))))))))))]) .nil .nil) .nil) (.node 43 (Tryz.f43,[]) (.node 42 (Tryz.f42,[]) .nil .nil) .nil)) (.node 54 (Tryz.f54,[]) (.node 53 (Tryz.f53,[(12,.take 0 (.take 1 (.take 2 (.take 4 (.take 6 (.take 7 (.take 8 (.grp 16777216 (.alt 3 [] (.alt 5 [] (.alt 9 [] (.take 10 (.alt 11 [] (.alt 12 [1,7] (.take 13 .nil) .stop) .stop)) .stop) (.alt 9 [] (.alt 5 [] (.take 10 (.alt 11 [] (.alt 12 [1,7] (.take 13 .nil) .stop) .stop)) .stop) .stop)) (.alt 5 [] (.alt 3 [] (.alt 9 [] (.take 10 (.alt 11 [] (.alt 12 [1,7] (.take 13 .nil) .stop) .stop)) .stop) (.alt 9 [] (.alt 3 [] (.take 10 (.alt 11 [] (.alt 12 [1,7] (.take 13 .nil) .stop) .stop)) .stop) .stop)) (.alt 9 [] (.alt 3 [] (.alt 5 [] (.take 10 (.alt 11 [] (.alt 12 [1,7] (.take 13 .nil) .stop) .stop)) .stop) (.alt 5 [] (.alt 3 [] (.take 10 (.alt 11 [] (.alt 12 [1,7] (.take 13 .nil) .stop) .stop)) .stop) .stop)) .stop)))))))))))]) (.node 45 (Tryz.f45,[(1,.take 0 (.take 1 (.take 2 (.take 3 (.take 5 (.take 6 (.grp 4096 (.alt 4 [3] (.alt 7 [6] (.take 8 (.alt 9 [] (.alt 10 [1] .nil .stop) .stop)) (.alt 9 [] (.alt 7 [6] (.take 8 (.alt 10 [1] .nil .stop)) .stop) .stop)) (.alt 9 [] (.alt 4 [3] (.alt 7 [6] (.take 8 (.alt 10 [1] .nil .stop)) .stop) .stop) .stop))))))))),(11,.take 0 (.take 1 (.take 2 (.take 3 (.take 4 (.take 5 (.take 7 (.take 8 (.one 6 [5] (.one 9 [8] (.take 10 (.one 11 [] (.one 12 [1] (.take 13 (.one 14 [3] .nil)))))))))))))))]) .nil .nil) .nil) (.node 56 (Tryz.f56,[(5,.take 0 (.take 1 (.take 2 (.one 3 [] (.take 4 (.one 5 [1] (.take 6 .nil))))))),(8,.take 0 (.take 1 (.take 2 (.take 3 (.take 4 (.take 6 (.take 7 (.grp 16777216 (.alt 5 [4] (.alt 8 [3] (.take 9 (.alt 10 [6] (.take 11 .nil) .stop)) .stop) (.alt 8 [3] (.alt 5 [4] (.take 9 (.alt 10 [6] (.take 11 .nil) .stop)) .stop) .stop))))))))))]) (.node 55 (Tryz.f55,[(3,.take 0 (.take 1 (.take 2 (.one 3 [] (.one 4 [1] (.take 5 .nil)))))),(5,.take 0 (.take 1 (.take 2 (.take 3 (.take 4 (.take 5 (.one 6 [3] (.one 7 [4] (.take 8 .nil)))))))))]) .nil .nil) .nil))) (.node 99 (Tryz.f99,[]) (.node 91 (Tryz.f91,[]) (.node 90 (Tryz.f90,[(4,.take 0 (.take 1 (.take 2 (.take 3 (.take 4 (.one 5 [4] (.take 6 .nil)))))))]) (.node 78 (Tryz.f78,[(3,.take 0 (.take 1 (.take 2 (.take 4 (.take 5 (.take 6 (.grp 4096 (.alt 3 [] (.alt 7 [] (.take 8 (.alt 9 [] (.alt 10 [] (.alt 11 [1,5] .nil .stop) .stop) (.alt 10 [] (.alt 9 [] (.alt 11 [1,5] .nil .stop) .stop) .stop))) (.alt 10 [] (.alt 7 [] (.take 8 (.alt 9 [] (.alt 11 [1,5] .nil .stop) .stop)) .stop) .stop)) (.alt 7 [] (.alt 3 [] (.take 8 (.alt 9 [] (.alt 10 [] (.alt 11 [1,5] .nil .stop) .stop) (.alt 10 [] (.alt 9 [] (.alt 11 [1,5] .nil .stop) .stop) .stop))) (.alt 10 [] (.alt 3 [] (.take 8 (.alt 9 [] (.alt 11 [1,5] .nil .stop) .stop)) .stop) .stop)) (.alt 10 [] (.alt 3 [] (.alt 7 [] (.take 8 (.alt 9 [] (.alt 11 [1,5] .nil .stop) .stop)) .stop) (.alt 7 [] (.alt 3 [] (.take 8 (.alt 9 [] (.alt 11 [1,5] .nil .stop) .stop)) .stop) .stop)) .stop)))))))))),(4,.take 0 (.take 1 (.one 2 [1] (.take 3 (.take 4 (.take 5 (.take 6 (.take 7 (.take 8 (.take 9 (.take 10 (.take 11 (.take 12 (.take 13 (.take 14 (.take 15 (.take 16 (.take 17 (.take 18 (.take 19 (.take 20 (.one 21 [19] (.take 22 (.take 23 (.take 24 (.take 25 (.take 26 (.take 27 (.take 28 (.take 29 (.take 30 (.take 31 (.take 32 .nil))))))))))))))))))))))))))))))))),(9,.take 0 (.take 1 (.take 2 (.take 3 (.take 4 (.take 5 (.take 6 (.take 7 (.take 8 (.one 9 [0,1,8] (.take 10 .nil)))))))))))]) .nil .nil) .nil) (.node 98 (Tryz.f98,[(6,.take 0 (.take 1 (.take 2 (.take 3 (.take 4 (.take 5 (.one 6 [1,3,5] (.take 7 (.take 8 (.take 9 (.take 10 (.take 11 (.take 12 (.take 13 (.take 14 (.take 15 (.take 16 (.take 17 (.take 18 (.one 19 [18] (.take 20 (.take 21 (.take 22 (.take 23 (.take 24 (.take 25 (.take 26 (.take 27 (.one 28 [26,27] (.take 29 (.take 30 (.take 31 .nil))))))))))))))))))))))))))))))))]) (.node 92 (Tryz.f92,[]) .nil .nil) .nil)) (.node 102 (Tryz.f102,[]) (.node 101 (Tryz.f101,[]) (.node 100 (Tryz.f100,[]) .nil .nil) .nil) (.node 104 (Tryz.f104,[]) (.node 103 (Tryz.f103,[(2,.take 0 (.take 1 (.take 2 (.take 3 (.take 4 (.take 5 (.take 6 (.take 7 (.take 8 .nil))))))))),(6,.take 0 (.take 1 (.take 2 (.take 3 (.take 4 (.take 5 (.take 6 (.take 7 (.take 8 .nil)))))))))]) .nil .nil) .nil)))) (.node 127 (Tryz.f127,[(5,.take 0 (.take 1 (.take 2 (.take 3 (.take 4 (.take 5 (.one 6 [5] (.take 7 (.take 8 (.take 9 (.one 10 [3] .nil))))))))))),(12,.take 0 (.take 1 (.take 2 (.take 3 (.take 4 (.take 5 (.one 6 [3,4] (.take 7 (.take 8 (.take 9 (.take 10 (.take 11 .nil)))))))))))),(27,.take 0 (.take 1 (.take 2 (.take 3 (.take 4 (.take 5 (.take 6 (.take 7 (.take 8 (.take 9 (.take 10 (.one 11 [] (.one 12 [7] (.take 13 (.one 14 [2,5,8,9] .nil)))))))))))))))]) (.node 112 (Tryz.f112,[]) (.node 108 (Tryz.f108,[(4,.take 0 (.take 1 (.take 2 (.take 3 (.take 4 (.take 5 (.take 6 (.take 7 (.take 8 (.take 9 (.take 10 (.take 11 (.take 12 (.take 13 (.take 14 (.take 15 (.one 16 [] .nil)))))))))))))))))]) (.node 107 (Tryz.f107,[(10,.take 0 (.take 1 (.one 2 [0] (.take 3 .nil))))]) (.node 106 (Tryz.f106,[(1,.take 0 (.take 1 (.take 3 (.take 4 (.take 7 (.take 8 (.take 11 (.take 12 (.take 15 (.take 16 (.one 2 [1] (.one 5 [4] (.take 6 (.one 9 [8] (.take 10 (.one 13 [12] (.take 14 (.one 17 [16] (.take 18 (.take 19 .nil))))))))))))))))))))]) .nil .nil) .nil) (.node 111 (Tryz.f111,[(0,.take 0 (.take 1 (.take 2 (.take 3 (.take 4 (.take 5 (.take 6 (.take 7 (.take 8 (.one 9 [0,5] .nil))))))))))]) (.node 109 (Tryz.f109,[(0,.take 0 (.take 1 (.take 2 (.take 3 (.take 4 (.take 5 (.take 6 (.take 7 (.take 8 (.take 9 (.take 10 (.one 11 [4] (.take 12 (.take 13 (.take 14 (.take 15 (.take 16 (.one 17 [6] .nil))))))))))))))))))]) .nil .nil) .nil)) (.node 124 (Tryz.f124,[(5,.take 0 (.take 1 (.take 2 (.take 3 (.take 4 (.take 5 (.take 6 (.take 7 (.take 8 (.take 9 (.take 10 (.take 11 (.take 12 (.take 13 (.take 14 (.take 15 (.take 16 .nil)))))))))))))))))]) (.node 114 (Tryz.f114,[]) (.node 113 (Tryz.f113,[]) .nil .nil) .nil) (.node 126 (Tryz.f126,[]) (.node 125 (Tryz.f125,[]) .nil .nil) .nil))) (.node 153 (Tryz.f153,[]) (.node 145 (Tryz.f145,[]) (.node 129 (Tryz.f129,[]) (.node 128 (Tryz.f128,[(5,.take 0 (.take 1 (.take 2 (.take 3 (.take 4 (.take 5 (.take 6 (.take 7 (.take 8 (.take 9 (.take 10 (.take 11 (.take 12 (.one 13 [3,7,12] (.take 14 (.take 15 (.take 16 (.take 17 (.take 18 .nil)))))))))))))))))))]) .nil .nil) .nil) (.node 152 (Tryz.f152,[]) (.node 148 (Tryz.f148,[]) .nil .nil) .nil)) (.node 156 (Tryz.f156,[]) (.node 155 (Tryz.f155,[]) (.node 154 (Tryz.f154,[(1,.take 0 (.take 2 (.take 3 (.one 1 [0] (.take 4 (.take 5 (.take 6 (.take 7 (.take 8 (.take 9 (.take 10 (.take 11 (.take 12 (.take 13 (.take 14 (.take 15 (.take 16 (.take 17 (.take 18 (.take 19 .nil))))))))))))))))))))]) .nil .nil) .nil) (.node 157 (Tryz.f157,[]) .nil .nil))))) (.node 197 (Tryz.f197,[]) (.node 175 (Tryz.f175,[(1,.take 0 (.take 1 (.take 2 (.take 3 (.take 4 (.take 5 (.take 6 (.take 7 (.take 8 (.take 9 (.take 10 (.take 11 (.take 12 (.take 13 (.take 14 (.take 15 (.take 16 (.take 17 (.take 18 (.take 19 (.take 20 .nil)))))))))))))))))))))]) (.node 165 (Tryz.f165,[]) (.node 161 (Tryz.f161,[(3,.take 0 (.take 1 (.take 2 (.take 3 (.take 4 (.one 5 [3] (.take 6 (.take 7 (.take 8 (.take 9 (.take 10 .nil))))))))))),(6,.take 0 (.take 1 (.take 2 (.take 3 (.take 4 (.take 5 (.take 6 (.take 7 (.take 8 (.take 9 (.take 10 (.take 11 (.take 12 .nil))))))))))))),(9,.take 0 (.take 1 (.take 2 (.take 3 (.take 4 (.take 5 (.take 6 (.take 7 (.take 8 (.one 9 [8] (.one 10 [4] (.take 11 (.take 12 (.one 13 [] .nil)))))))))))))),(10,.take 0 (.take 1 (.take 2 (.take 3 (.take 4 (.take 5 (.take 6 (.take 7 (.take 8 (.take 9 (.take 10 .nil))))))))))),(15,.take 0 (.take 1 (.take 2 (.take 3 (.take 4 (.take 5 (.take 6 (.take 7 (.take 8 (.take 9 (.take 10 (.take 11 (.one 12 [3,7] .nil))))))))))))),(16,.take 0 (.take 1 (.take 2 (.take 3 (.take 4 (.take 5 (.take 6 (.take 7 (.take 8 (.take 9 (.take 10 (.take 11 (.take 12 (.take 13 (.take 14 (.take 15 (.take 16 (.take 17 (.take 18 .nil)))))))))))))))))))]) (.node 160 (Tryz.f160,[]) (.node 159 (Tryz.f159,[(18,.take 0 (.take 1 (.take 2 (.take 3 (.grp 4096 (.alt 4 [3] (.take 5 (.alt 6 [] (.alt 7 [2] .nil .stop) .stop)) (.alt 6 [] (.alt 4 [3] (.take 5 (.alt 7 [2] .nil .stop)) .stop) .stop))))))),(20,.take 0 (.take 1 (.take 2 (.take 3 (.take 4 (.take 5 (.take 6 (.take 7 (.take 8 (.take 9 (.take 10 (.take 11 (.take 12 (.take 13 (.take 14 (.take 15 (.take 16 (.take 17 (.take 18 (.take 19 (.take 20 (.take 21 (.take 22 (.take 23 (.take 24 (.take 25 (.take 26 (.take 27 (.take 28 (.take 29 (.take 30 (.take 31 (.take 32 (.take 33 (.take 34 (.take 35 (.take 36 (.take 37 (.take 38 .nil))))))))))))))))))))))))))))))))))))))),(21,.take 0 (.take 1 (.take 2 (.take 3 (.take 4 (.take 5 (.take 6 (.take 7 (.take 8 (.take 9 (.take 10 (.take 11 (.take 12 (.take 13 (.one 14 [3,8,10] .nil))))))))))))))),(22,.take 0 (.take 1 (.take 2 (.take 3 (.take 4 (.take 5 (.one 6 [5] (.one 7 [4] (.take 8 (.take 9 (.one 10 [] .nil))))))))))),(26,.take 0 (.take 1 (.take 2 (.take 3 (.take 4 (.take 5 (.take 6 (.take 7 (.take 8 (.one 9 [] (.take 10 (.take 11 (.one 12 [11] (.one 13 [4] (.take 14 (.take 15 (.one 16 [] .nil)))))))))))))))))]) .nil .nil) .nil) (.node 164 (Tryz.f164,[]) (.node 163 (Tryz.f163,[]) .nil .nil) .nil)) (.node 168 (Tryz.f168,[]) (.node 167 (Tryz.f167,[]) (.node 166 (Tryz.f166,[]) .nil .nil) .nil) (.node 174 (Tryz.f174,[]) (.node 173 (Tryz.f173,[]) .nil .nil) .nil))) (.node 191 (Tryz.f191,[(11,.take 0 (.take 1 (.take 2 (.take 3 (.take 4 (.take 5 (.take 6 (.take 7 (.take 8 (.take 9 (.take 10 (.take 11 (.take 12 (.take 13 (.take 14 (.take 15 (.take 16 (.take 17 (.take 18 (.take 19 (.take 20 (.take 21 (.take 22 (.take 23 (.take 24 .nil)))))))))))))))))))))))))]) (.node 188 (Tryz.f188,[]) (.node 187 (Tryz.f187,[]) (.node 186 (Tryz.f186,[]) .nil .nil) .nil) (.node 190 (Tryz.f190,[(4,.take 0 (.take 1 (.take 2 (.take 3 (.take 4 (.take 5 (.take 6 (.take 7 (.take 8 (.take 9 (.take 10 (.take 11 (.take 12 (.take 13 (.take 14 (.take 15 (.take 16 (.take 17 (.take 18 (.take 19 (.take 20 (.take 21 .nil))))))))))))))))))))))]) (.node 189 (Tryz.f189,[]) .nil .nil) .nil)) (.node 194 (Tryz.f194,[]) (.node 193 (Tryz.f193,[]) (.node 192 (Tryz.f192,[(1,.take 0 (.take 1 (.take 2 (.take 3 (.take 4 (.take 5 (.one 6 [3,5] (.take 7 (.take 8 (.take 9 (.take 10 (.take 11 .nil)))))))))))),(5,.take 0 (.take 1 (.take 2 (.take 3 (.take 4 (.take 5 (.take 6 (.take 7 (.take 8 (.take 9 (.take 10 (.one 11 [3,5,9] .nil)))))))))))),(6,.take 0 (.take 1 (.take 2 (.take 3 (.take 4 (.take 5 (.take 6 (.take 7 (.take 8 (.take 9 (.take 10 (.take 11 (.one 12 [] (.one 13 [4] (.take 14 (.take 15 (.one 16 [5,9] .nil))))))))))))))))),(7,.take 0 (.take 1 (.take 2 (.take 3 (.take 4 (.take 5 (.take 6 (.take 7 (.take 8 (.take 9 (.take 10 (.take 11 (.one 12 [3,5,7] .nil)))))))))))))]) .nil .nil) .nil) (.node 196 (Tryz.f196,[(4,.take 0 (.take 1 (.take 2 (.take 3 (.take 4 (.take 5 (.take 6 (.take 7 (.take 8 (.take 9 (.one 10 [] (.one 11 [4] (.take 12 (.take 13 (.one 14 [] .nil))))))))))))))),(5,.take 0 (.take 1 (.take 2 (.take 3 (.take 4 (.take 5 (.take 6 (.take 7 .nil))))))))]) (.node 195 (Tryz.f195,[]) .nil .nil) .nil)))) (.node 223 (Tryz.f223,[]) (.node 214 (Tryz.f214,[]) (.node 201 (Tryz.f201,[]) (.node 199 (Tryz.f199,[(6,.take 0 (.take 1 (.take 2 (.take 3 (.take 4 (.take 5 (.take 6 (.take 7 (.take 8 (.take 9 (.take 10 (.take 11 .nil))))))))))))]) (.node 198 (Tryz.f198,[(8,.take 0 (.take 1 (.take 2 (.take 3 (.take 4 (.take 5 (.take 6 (.one 7 [6] (.one 8 [4] (.take 9 (.take 10 (.one 11 [] .nil))))))))))))]) .nil .nil) .nil) (.node 213 (Tryz.f213,[]) (.node 212 (Tryz.f212,[]) .nil .nil) .nil)) (.node 217 (Tryz.f217,[]) (.node 216 (Tryz.f216,[]) (.node 215 (Tryz.f215,[(11,.take 0 (.take 1 (.take 2 (.take 3 (.take 4 (.take 5 (.take 6 (.take 7 (.one 8 [] .nil))))))))),(15,.take 0 (.take 1 (.take 2 (.take 3 (.take 4 (.take 5 (.take 6 (.take 7 (.one 8 [] .nil)))))))))]) .nil .nil) .nil) (.node 219 (Tryz.f219,[(3,.take 0 (.take 1 (.take 2 (.take 3 (.take 4 (.take 5 (.take 6 (.take 7 (.take 8 (.take 9 (.take 10 (.take 11 (.take 12 (.take 13 (.take 14 (.take 15 (.take 16 (.take 17 (.take 18 (.take 19 (.take 20 (.take 21 (.take 22 (.take 23 (.take 24 (.take 25 (.one 26 [4,10,14,19,23] .nil))))))))))))))))))))))))))),(13,.take 0 (.take 1 (.take 2 (.take 3 (.take 4 (.take 5 (.take 6 (.take 7 (.take 8 (.take 9 (.take 10 (.take 11 (.take 12 (.one 13 [6,8,10] .nil)))))))))))))),(15,.take 0 (.take 1 (.take 2 (.take 3 (.take 4 (.take 5 (.take 6 (.one 7 [] (.take 8 (.take 9 (.one 10 [4] .nil)))))))))))]) (.node 218 (Tryz.f218,[]) .nil .nil) .nil))) (.node 230 (Tryz.f230,[]) (.node 227 (Tryz.f227,[]) (.node 226 (Tryz.f226,[]) (.node 224 (Tryz.f224,[]) .nil .nil) .nil) (.node 229 (Tryz.f229,[]) (.node 228 (Tryz.f228,[]) .nil .nil) .nil)) (.node 233 (Tryz.f233,[]) (.node 232 (Tryz.f232,[]) (.node 231 (Tryz.f231,[]) .nil .nil) .nil) (.node 234 (Tryz.f234,[(3,.take 0 (.take 1 (.take 2 (.take 3 (.take 4 (.take 5 (.take 6 (.take 7 (.take 8 (.take 9 (.take 10 (.take 11 (.take 12 (.one 13 [7,11] (.take 14 (.one 15 [] .nil))))))))))))))))]) .nil .nil)))))
def b6z:TT:=.node 170 (.sl 300 3 32 true [.int .i64 0,.string ⟨#[]⟩,.int .i64 0]) (.node 78 (.st 3 [(0,1,false),(1,1,false),(2,1,false)] [.bool false,.slice none 0 0,.slice none 0 0]) (.node 25 (.sl 78 3 56 true [.bool false,.slice none 0 0,.slice none 0 0]) (.node 21 (.sc (.int .i32) 1 (.int .i32 0)) (.node 5 (.sc (.int .u8) 1 (.int .u8 0)) (.node 4 (.sc .bool 1 (.bool false)) (.node 3 (.sc (.int .i64) 1 (.int .i64 0)) .nil .nil) .nil) (.node 9 (.sc .string 1 (.string ⟨#[]⟩)) .nil .nil)) (.node 23 (.sl 84 4 32 true [.string ⟨#[]⟩,.int .i64 0,.bool false,.bool false]) (.node 22 (.sl 142 3 48 true [.int .i64 0,.string ⟨#[]⟩,.slice none 0 0]) .nil .nil) (.node 24 (.sl 88 2 24 true [.string ⟨#[]⟩,.int .i64 0]) .nil .nil))) (.node 41 (.st 3 [(0,1,false),(1,1,false),(2,1,false)] [.slice none 0 0,.slice none 0 0,.int .i64 0]) (.node 28 (.sc (.int .i64) 1 (.int .i64 0)) (.node 27 (.st 5 [(0,1,false),(1,1,false),(2,1,false),(3,1,false),(4,1,false)] [.slice none 0 0,.slice none 0 0,.slice none 0 0,.slice none 0 0,.int .i64 0]) .nil .nil) (.node 39 (.sl 136 4 32 true [.int .i64 0,.int .i64 0,.int .i64 0,.bool false]) .nil .nil)) (.node 71 (.sc (.pointer 86) 1 (.pointer none)) (.node 53 (.sl 3 1 8 false [.int .i64 0]) .nil .nil) (.node 76 (.sl 82 3 24 true [.int .i64 0,.int .i64 0,.int .i64 0]) .nil .nil)))) (.node 140 (.sl 156 2 24 true [.int .i64 0,.string ⟨#[]⟩]) (.node 91 (.sc (.func #[82] #[4] false) 1 (.nilFunc)) (.node 86 (.st 7 [(0,5,true),(5,1,false),(6,1,false)] [.slice none 0 0,.slice none 0 0,.slice none 0 0,.slice none 0 0,.int .i64 0,.int .i64 0,.slice none 0 0]) (.node 84 (.st 4 [(0,1,false),(1,1,false),(2,1,false),(3,1,false)] [.string ⟨#[]⟩,.int .i64 0,.bool false,.bool false]) (.node 82 (.st 3 [(0,1,false),(1,1,false),(2,1,false)] [.int .i64 0,.int .i64 0,.int .i64 0]) .nil .nil) .nil) (.node 88 (.st 2 [(0,1,false),(1,1,false)] [.string ⟨#[]⟩,.int .i64 0]) .nil .nil)) (.node 99 (.st 2 [(0,1,false),(1,1,false)] [.int .i64 0,.int .i64 0]) (.node 95 (.sc (.pointer 27) 1 (.pointer none)) .nil .nil) (.node 136 (.st 4 [(0,1,false),(1,1,false),(2,1,false),(3,1,false)] [.int .i64 0,.int .i64 0,.int .i64 0,.bool false]) .nil .nil))) (.node 166 (.st 5 [(0,1,false),(1,1,false),(2,1,false),(3,1,false),(4,1,false)] [.int .i64 0,.int .i64 0,.string ⟨#[]⟩,.bool false,.bool false]) (.node 156 (.st 2 [(0,1,false),(1,1,false)] [.int .i64 0,.string ⟨#[]⟩]) (.node 142 (.st 3 [(0,1,false),(1,1,false),(2,1,false)] [.int .i64 0,.string ⟨#[]⟩,.slice none 0 0]) .nil .nil) (.node 164 (.st 5 [(0,1,false),(1,1,false),(2,1,false),(3,1,false),(4,1,false)] [.int .i64 0,.int .i64 0,.int .i64 0,.int .i64 0,.int .i64 0]) .nil .nil)) (.node 168 (.sl 9 1 16 false [.string ⟨#[]⟩]) (.node 167 (.sl 166 5 40 true [.int .i64 0,.int .i64 0,.string ⟨#[]⟩,.bool false,.bool false]) .nil .nil) (.node 169 (.sl 324 2 24 true [.string ⟨#[]⟩,.int .i64 0]) .nil .nil))))) (.node 250 (.st 7 [(0,6,true),(6,1,false)] [.string ⟨#[]⟩,.slice none 0 0,.slice none 0 0,.slice none 0 0,.slice none 0 0,.int .i64 0,.int .i64 0]) (.node 202 (.sl 268 7 56 true [.int .i64 0,.int .i64 0,.int .i64 0,.int .i64 0,.int .i64 0,.int .i64 0,.bool false]) (.node 195 (.sc (.pointer 198) 1 (.pointer none)) (.node 178 (.sc (.func #[176,3,3] #[] false) 1 (.nilFunc)) (.node 176 (.sc (.pointer 84) 1 (.pointer none)) (.node 172 (.st 6 [(0,1,false),(1,1,false),(2,1,false),(3,1,false),(4,1,false),(5,1,false)] [.string ⟨#[]⟩,.slice none 0 0,.slice none 0 0,.slice none 0 0,.slice none 0 0,.int .i64 0]) .nil .nil) .nil) (.node 179 (.sl 5 1 1 false [.int .u8 0]) .nil .nil)) (.node 198 (.st 4 [(0,1,false),(1,1,false),(2,1,false),(3,1,false)] [.pointer none,.slice none 0 0,.slice none 0 0,.int .i64 0]) (.node 196 (.sl 202 1 24 false [.slice none 0 0]) .nil .nil) (.node 200 (.sc (.func #[78] #[4] false) 1 (.nilFunc)) .nil .nil))) (.node 243 (.sc (.map 9 3) 1 (.map none)) (.node 241 (.sc (.pointer 246) 1 (.pointer none)) (.node 240 (.sl 172 6 120 true [.string ⟨#[]⟩,.slice none 0 0,.slice none 0 0,.slice none 0 0,.slice none 0 0,.int .i64 0]) .nil .nil) (.node 242 (.sc (.map 9 172) 1 (.map none)) .nil .nil)) (.node 246 (.st 4 [(0,1,false),(1,1,false),(2,1,false),(3,1,false)] [.map none,.map none,.slice none 0 0,.int .i64 0]) (.node 244 (.sl 250 7 128 true [.string ⟨#[]⟩,.slice none 0 0,.slice none 0 0,.slice none 0 0,.slice none 0 0,.int .i64 0,.int .i64 0]) .nil .nil) (.node 248 (.sc (.func #[172] #[28] false) 1 (.nilFunc)) .nil .nil)))) (.node 295 (.sl 248 1 8 false [.nilFunc]) (.node 268 (.st 7 [(0,3,true),(3,4,true)] [.int .i64 0,.int .i64 0,.int .i64 0,.int .i64 0,.int .i64 0,.int .i64 0,.bool false]) (.node 259 (.sc (.func #[82,3] #[3] false) 1 (.nilFunc)) (.node 257 (.sc (.func #[136,3] #[3] false) 1 (.nilFunc)) (.node 252 (.sc (.pointer 41) 1 (.pointer none)) .nil .nil) .nil) (.node 261 (.sc (.func #[142,3] #[3] false) 1 (.nilFunc)) .nil .nil)) (.node 285 (.sc (.int .u64) 1 (.int .u64 0)) (.node 270 (.sc (.func #[268] #[4] false) 1 (.nilFunc)) .nil .nil) (.node 293 (.sl 240 1 24 false [.slice none 0 0]) .nil .nil))) (.node 324 (.st 2 [(0,1,false),(1,1,false)] [.string ⟨#[]⟩,.int .i64 0]) (.node 300 (.st 3 [(0,1,false),(1,1,false),(2,1,false)] [.int .i64 0,.string ⟨#[]⟩,.int .i64 0]) (.node 297 (.sc (.map 3 305) 1 (.map none)) .nil .nil) (.node 321 (.sc (.int .u64) 1 (.int .u64 0)) .nil .nil)) (.node 344 (.sc (.func #[21] #[4] false) 1 (.nilFunc)) (.node 331 (.sc (.func #[84] #[4] false) 1 (.nilFunc)) .nil .nil) (.node 349 (.sc (.func #[88] #[4] false) 1 (.nilFunc)) .nil .nil)))))
def b53:List (Nat×Value):=[(242,.agg #[.string ⟨#[]⟩,.slice none 0 0,.slice none 0 0,.slice none 0 0,.slice none 0 0,.int .i64 0]),(243,.int .i64 0),(297,.pointer none),(336,.agg #[.bool false,.bool false,.bool false])]
noncomputable def cxK:Cx:=⟨b6z,cxQ,b53,b6P,cxM⟩
theorem b7d:FOk Tryz.prog cxK:=by
 have hT:BT.All (fun t ti=>(a7m Tryz.prog t=some ti/\ti.okB=true)/\ti.zeros.all cOk=true) b6z:=by
  unfold b6z
  repeat' (first|exact BT.All.nil|refine BT.All.node ⟨⟨by kernel_rfl,by kernel_rfl⟩,by kernel_rfl⟩ ?_ ?_)
 have hZ:ForA (fun p:Nat×Value=>∃ Kt Et,Tryz.prog.underlying p.1=some (.map Kt Et)/\(Tryz.prog.info? Et).bind (·.zero)=some p.2/\zOk p.2=true) b53:=by
  unfold b53;exact ForA.cons ⟨9,172,by kernel_rfl,by kernel_rfl,by kernel_rfl⟩ (ForA.cons ⟨9,3,by kernel_rfl,by kernel_rfl,by kernel_rfl⟩ (ForA.cons ⟨3,305,by kernel_rfl,by kernel_rfl,by kernel_rfl⟩ (ForA.cons ⟨3,334,by kernel_rfl,by kernel_rfl,by kernel_rfl⟩ (ForA.nil))))
 have hF:BT.All (fun g (x:Func×List (Nat×Pl))=>a25 Tryz.prog g x.1/\∃ c,x.1.body=some c/\a4m x.1.ntmps x.2 c=true) b6P:=by
  unfold b6P
  repeat' (first|exact BT.All.nil|refine BT.All.node ⟨⟨by kernel_rfl,by kernel_rfl,by kernel_rfl⟩,_,rfl,by kernel_rfl⟩ ?_ ?_)
 exact ⟨⟨fun t ti h=>(hT.get h).1,fun t ti h=>(hT.get h).2,b6p,b5d hZ⟩,by kernel_rfl,hF,b6o⟩
theorem a5b (w:World):Fn Tryz.prog 14 [] w (RBf (.bool true) w):=b6A b7d 60 (by kernel_rfl) rfl (fun _=>VR.cOk (v:=.bool true) rfl) w
end Go.Proofs.YtejnpppejalhfacGreat
