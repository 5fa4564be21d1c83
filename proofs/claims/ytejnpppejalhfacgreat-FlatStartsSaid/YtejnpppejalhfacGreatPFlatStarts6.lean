/- Texts that the proof stands on, one behind the other: Lk18, Ke2, Lk19, Ke3, Ke4, Ke5, PlKer2, Ke6, Fl2, Fl3, Fl4, Fl5, Fl6, Fl7, Ke7, Ke8, Ke9, Ke10. -/
import Derived.Lib.QuietBelow
import Derived.Test.YtejnpppejalhfacGreatPFlatStarts5
set_option linter.unusedVariables false
set_option linter.unusedSimpArgs false
namespace Go.Proofs.YtejnpppejalhfacGreat
set_option maxRecDepth 100000
set_option maxHeartbeats 8000000
open Go.RowKit Go.Sort
section
variable {P:Program} {n:Nat} {ds:List Deferred} {E:Fr} {w:World} {dst:Option Nat} {ty:TypeId} {pos:String} {after:Array Edge} {F:Nat->Prop} {w0:World} {Γ:List Asr} {T:Tab}
end
section
variable {P:Program} {n:Nat} {ds:List Deferred} {E:Fr} {w:World} {Q:Exit->Act->World->Prop} {ops:Array Oper} {S:World->Prop} {q fuel:Nat} {li:Array Bool} {d:Nat} {op:Op} {ty:TypeId} {pos:String} {after:Array Edge} {T:Tab}
theorem a5w {i:Nat} (_C:Nn i) {v:Value} (hi:ops[i]?=some ⟨some d,op,ty,pos,after,none⟩) (hs:Region.noSelect ops=true) (hf:Region.free .any ops li i=true) (hr:(Region.ready .any ops li).contains i=true) (hqi:Nat.beq q i=false)
  (hQ:∀ c (a:Act) w,Q (.panic c) (a.put (some d) v) w->Q (.panic c) a w) (hS:li.getD q false=true\/S w) (h:∀ a,Has n ds a E->x7 P ⟨some d,op,ty,pos,after,none⟩ a v) (hd:Nat.blt d n=true) (k:WT P ops Q S q fuel (li.setIfInBounds i true) n ds ((d,v)::E) w):WT P ops Q S q (fuel + 1) li n ds E w:=fun a ha=>
 a3X hi (Region.noSelect_spec hs) hQ (fun e=>by subst e;rw [xg9] at hqi;cases hqi) fuel li a w (Region.free_spec hi hf) (by simpa using hr) hS (xc7 ⟨rfl,fun w _=>h a ha w⟩) (k _ (ha.put d v hd))
theorem a91 {i:Nat} (_C:Nn i) (hT:TabOk P T) {t s:Nat} {fs:List (Nat×Nat×Bool)} {z L:List Value} {parts:Array (Nat×Operand)} {ps:List (Nat×Value)} (hi:ops[i]?=some ⟨some d,.build t parts,ty,pos,after,none⟩) (hs:Region.noSelect ops=true) (hf:Region.free .any ops li i=true) (hr:(Region.ready .any ops li).contains i=true) (hqi:Nat.beq q i=false)
  (hQ:∀ c (a:Act) w v,Q (.panic c) (a.put (some d) v) w->Q (.panic c) a w) (hS:li.getD q false=true\/S w) (ht:T.get t=some (.st s fs z)) (hp:evP E parts.toList=some ps) (hL:a0c (fun i=>(fs[i]?).map fun f=>(f.1,f.2.1)) z ps=some L) (hd:Nat.blt d n=true) (k:WT P ops Q S q fuel (li.setIfInBounds i true) n ds ((d,.agg L.toArray)::E) w):WT P ops Q S q (fuel + 1) li n ds E w :=
 a5w _C hi hs hf hr hqi (fun c a w=>hQ c a w _) hS (fun a ha=>a1W hT ht hp hL a ha) hd k
end
section
variable {P:Program} {n:Nat} {ds:List Deferred} {E E':Fr} {w:World} {F:Nat->Prop} {w0:World} {Γ:List Asr}
end
theorem a16:∀ {l:List Sh} {last:Int},a0k last l=true->(∀ s ∈ l,j7 s=true/\last < s.page)/\Rises (l.map fun s=>s.page)
 |[],_,_=>⟨by simp,List.Pairwise.nil⟩
 |s::l,last,h=>by
  replace h:(j7 s && (decide (last < s.page) && a0k s.page l))=true:=h;simp only [xb7,xh5] at h;obtain ⟨h1,h2,h3⟩:=h;obtain ⟨i1,i2⟩:=a16 h3;refine ⟨fun x hx=>?_,List.Pairwise.cons (fun p hp=>?_) i2⟩
  ·rcases xb4.1 hx with rfl|hx
   ·exact ⟨h1,h2⟩
   ·exact ⟨(i1 x hx).1,by have:=(i1 x hx).2;omega⟩
  ·obtain ⟨x,hx,rfl⟩:=xi0.1 hp;exact (i1 x hx).2
theorem ShsV.one {w:World} {l:List (Sh×Value)} {v:Value} (h:ShsV w l v):∀ p ∈ l,p.2.oneCell'=true:=fun p hp=>by
 obtain ⟨a,c,hpc⟩:=(h.fx p hp).len;rw [hpc];rfl
abbrev NL:=List (Value×List Nm)
def Grown (A B:NL) (kind:Int) (ns:List Nm):Prop:=B.length=A.length/\∀ (i:Nat) x,A[i]?=some x->∃ v,B[i]?=some (v,x.2++ns.filter fun (n:Nm)=>decide (n.1.kind=kind/\n.1.at_=((i:Nat):Int)))
theorem Grown.refl (A:NL) (kind:Int):Grown A A kind []:=⟨rfl,fun i x h=>⟨x.1,by simpa using h⟩⟩
theorem Grown.skip {A B:NL} {kind:Int} {ns:List Nm} {n:Nm} (h:Grown A B kind ns) (hn:n.1.kind≠kind):Grown A B kind (ns++[n]):=⟨h.1,fun i x hx=>by
 obtain ⟨v,hv⟩:=h.2 i x hx;refine ⟨v,?_⟩;rw [hv,xl4,List.filter_cons_of_neg (by simp [hn]),List.filter_nil,xk0]⟩
theorem Grown.put {A B:NL} {kind:Int} {ns:List Nm} {n:Nm} {j:Nat} {y:Value×List Nm} {v:Value} (h:Grown A B kind ns) (hn:n.1.kind=kind) (hj:n.1.at_=(j:Nat)) (hy:B[j]?=some y):Grown A (B.set j (v,y.2++[n])) kind (ns++[n]):=⟨by rw [List.length_set];exact h.1,fun i x hx=>by
 obtain ⟨u,hu⟩:=h.2 i x hx;by_cases e:j=i
 ·subst e;rw [hy] at hu
  cases hu
  refine ⟨v,?_⟩;rw [xd0];simp [(xa6.1 hy).1,xl4,hn,hj]
 ·refine ⟨u,?_⟩;rw [List.getElem?_set_ne e,hu,xl4,List.filter_cons_of_neg (by rw [hn,hj];simp;omega),List.filter_nil,xk0]⟩
theorem Grown.trans {A B C:NL} {kind:Int} {ns ms:List Nm} (h:Grown A B kind ns) (h2:Grown B C kind ms):Grown A C kind (ns++ms):=⟨h2.1.trans h.1,fun i x hx=>by
 obtain ⟨v,hv⟩:=h.2 i x hx;obtain ⟨u,hu⟩:=h2.2 i _ hv;exact ⟨u,by rw [hu,xl4,xe7]⟩⟩
structure ShsF (F:Nat->Prop) (w:World) (Lp:List (Sh×Value)) (vs:Value):Prop where
 sl:Sl F w 3 vs (Lp.map fun p=>shC p.1 p.2)
 fx:∀ p ∈ Lp,Sl F w 2 p.2 (p.1.fixes.map fxC)
theorem ShsF.now {F:Nat->Prop} {w w':World} {Γ:List Asr} {l:List (Sh×Value)} {v:Value} (h:ShsF F w l v) (hS:St F w w' Γ):ShsV w' l v:=⟨h.sl.now hS,fun p hp=>(h.fx p hp).now hS⟩
theorem ShsF.of {w:World} {l:List (Sh×Value)} {v:Value} (h:ShsV w l v):ShsF nF w l v:=⟨h.sl,fun p hp=>h.fx p hp⟩
theorem a9K {P:Program} {n:Nat} {ds:List Deferred} {E:Fr} {w:World} {Q:Exit->Act->World->Prop} {F:Nat->Prop} {w0:World} {Γ:List Asr} (k q:Nat) {id:Nat} {l:List Oper} (m:Nat) (hl:l.length=m) (hS:St F w0 w Γ) (hm:P.follows .mixedOrders=true) (h:∀ w1,St F w0 w1 Γ->WT P l.toArray Q (fun w'=>St F w0 w' (Γ.take k)) q m (Array.replicate m false) n ds E w1):WC P (.region id l.toArray true) Q n ds E w:=b16 _ q m hl hS hm h
theorem a9j {α β:Type} (A:List α) (B:List β) (hA:(A.length:Int)<=9223372036854775807) (hB:(B.length:Int)<=9223372036854775807):decide (IntKind.i64.wrap ((A.length:Int) + (B.length:Int))=0)=decide (A=[]/\B=[]):=by
 refine decide_eq_decide.2 ⟨fun h=>?_,fun ⟨h1,h2⟩=>by rw [h1,h2];rfl⟩;have h2:A.length=0/\B.length=0:=by
  simp only [IntKind.wrap,IntKind.signed,IntKind.bits] at h;omega
 exact ⟨xe1 h2.1,xe1 h2.2⟩
theorem a0E {α:Type} {l:List α} {i:Nat} {x:α} (h:l[i]?=some x):l.take (i + 1)=l.take i++[x]:=by
 obtain ⟨h1,rfl⟩:=xa6.1 h;rw [xj4,xd1 h1];rfl
theorem a3T {l:List Wd} {n:Int} {i:Nat} {x:Wd} (h:l[i]?=some x):a0O (l.take (i + 1)) n=(a0O (l.take i) n && (decide (0<=x.proc) && decide (x.proc < n))):=by
 unfold a0O;rw [a0E h,List.all_append,xi9,xj0,xj1]
theorem a3g {l:List Wd} {n:Int} {i:Nat} {x:Wd} (h:l[i]?=some x) (hb:(decide (0<=x.proc) && decide (x.proc < n))=false):a0O l n=false:=by
 unfold a0O;rw [List.all_eq_false];exact ⟨x,xc1 h,by rw [hb];simp⟩
theorem b0e {w:World} {v:Value} {l:List Wd} (hL:Sl nF w 2 v (l.map wdC)) (n:Int):Fn Tryz.prog 79 [v,.int .i64 n] w (RBf (.bool (a0O l n)) w):=by
 have bnd:=hL.bound;obtain ⟨p,c,rfl⟩:=hL.len;refine yEn Tryz.func79 Tryz.ntmps79 (by kernel_rfl) (by kernel_rfl) rfl rfl ?_;have hS:=St.start w
 repeat' (first|(with_reducible apply a5 a4);rfl;rfl;rfl|refine yDn (by with_reducible constructor) ?_)
 refine o6 (F:=nF) (w0:=w) (X:=Nat) (fun x=>[(9,.int .i64 (x:Nat))]) [1,7,8] rfl (fun _=>[]) (fun i=>i<=l.length/\a0O (l.take i) n=true) (fun i=>l.length - i) 0 (by exact Fr.sub_of rfl) ⟨xf0 _,rfl⟩ hS ?_;clear hS;rintro i w1 ⟨hi,ht⟩ hS;dsimp only [List.cons_append,List.nil_append] at hi ht hS |-;by_cases hlt:i < l.length
 ·obtain ⟨x,hx⟩:=l9 (l:=l) (i:=i) (by omega);have hrow:=i7 (f:=wdC) hx;obtain ⟨b,off,rfl,hro⟩:=hL.at_ (i:=i) hlt;unfold wdC at hrow;have hst:=a3T (n:=n) hx;rw [ht,xl0] at hst;by_cases h0:x.proc < 0
  ·have hd0:decide (x.proc < 0)=true:=xh7 h0;have hbad:=a3g (n:=n) hx (by rw [xh9 (show ¬0<=x.proc by omega)];rfl)
   repeat' (first|(with_reducible apply a5 a4);rfl;rfl;rfl|(with_reducible apply a6);rfl;(first|apply Ld.sc a4;rfl;exact hS.blkC 0 rfl rfl|apply Ld.st a4;rfl;exact hS.roR (by assumption) (by assumption);rfl);rfl|(with_reducible apply t3 a4);rfl;rfl;rfl;rfl;omega;rfl|refine yDn (by with_reducible constructor) ?_|(with_reducible apply o4);(iterate 4 rfl);assumption;rfl|(with_reducible apply d9);rfl;assumption;rfl;rfl|(with_reducible apply a9);rfl;rfl|(with_reducible apply b8 hS a4);rfl;rfl;rfl;clear hS;intro g w' hS|(with_reducible apply b7 hS a4 (i:=0));(iterate 8 rfl);exact (rfl:_=[_,_]);clear hS;intro w' hS;simp only [List.set] at hS|(with_reducible apply b6);rfl;all_goals (intro hb hp;try (exfalso;omega)))
   (refine d4 rfl ?_)
   exact ⟨by rw [hbad],hS.sub (xh8 _)⟩
  have hd0:decide (x.proc < 0)=false:=xh9 h0;by_cases h1:n<=x.proc
  ·have hd1:decide (n<=x.proc)=true:=xh7 h1;have hbad:=a3g (n:=n) hx (by rw [xh9 (show ¬x.proc < n by omega),xl5])
   repeat' (first|(with_reducible apply a5 a4);rfl;rfl;rfl|(with_reducible apply a6);rfl;(first|apply Ld.sc a4;rfl;exact hS.blkC 0 rfl rfl|apply Ld.st a4;rfl;exact hS.roR (by assumption) (by assumption);rfl);rfl|(with_reducible apply t3 a4);rfl;rfl;rfl;rfl;omega;rfl|refine yDn (by with_reducible constructor) ?_|(with_reducible apply e9);(iterate 4 rfl);assumption|(with_reducible apply a7);rfl;assumption;rfl;rfl|(with_reducible apply a9);rfl;assumption|(with_reducible apply b8 hS a4);rfl;rfl;rfl;clear hS;intro g w' hS|(with_reducible apply b7 hS a4 (i:=0));(iterate 8 rfl);exact (rfl:_=[_,_]);clear hS;intro w' hS;simp only [List.set] at hS|(with_reducible apply b6);rfl;all_goals (intro hb hp;try (exfalso;omega)))
   (refine d4 rfl ?_)
   exact ⟨by rw [hbad],hS.sub (xh8 _)⟩
  have hd1:decide (n<=x.proc)=false:=xh9 h1;rw [xh7 (show 0<=x.proc by omega),xh7 (show x.proc < n by omega)] at hst
  repeat' (first|(with_reducible apply a5 a4);rfl;rfl;rfl|(with_reducible apply a6);rfl;(first|apply Ld.sc a4;rfl;exact hS.blkC 0 rfl rfl|apply Ld.st a4;rfl;exact hS.roR (by assumption) (by assumption);rfl);rfl|(with_reducible apply t3 a4);rfl;rfl;rfl;rfl;omega;rfl|(with_reducible apply o9);rfl;rfl;omega;omega;rfl|refine yDn (by with_reducible constructor) ?_|(with_reducible apply e9);(iterate 4 rfl);assumption|(with_reducible apply a7);rfl;assumption;rfl;rfl|(with_reducible apply f8);rfl;assumption|(with_reducible apply b8 hS a4);rfl;rfl;rfl;clear hS;intro g w' hS|(with_reducible apply b7 hS a4 (i:=0));(iterate 8 rfl);exact (rfl:_=[_,_]);clear hS;intro w' hS;simp only [List.set] at hS|(with_reducible apply b6);rfl;all_goals (intro hb hp;try (exfalso;omega)))
  exact m8 (i + 1) (by exact Fr.sub_of rfl) ⟨by omega,hst⟩ hS.drop (by omega)
 ·obtain rfl:i=l.length:=by omega
  rw [xf2] at ht
  repeat' (first|(with_reducible apply a5 a4);rfl;rfl;rfl|refine yDn (by with_reducible constructor) ?_|(with_reducible apply b6);rfl;all_goals (intro hb hp;try (exfalso;omega)))
  (refine d4 rfl ?_)
  exact ⟨by rw [ht],hS.sub (xh8 _)⟩
theorem a4f {w:World} {v:Value} {l:List Wd} (hL:Sl nF w 2 v (l.map wdC)) (n:Nat) (hn:(n:Int)<=9223372036854775807):Fn Tryz.prog 82 [v,.int .i64 (n:Nat)] w (RBf (.bool (a0O l (n:Nat))) w):=by
 have bnd:=hL.bound;obtain ⟨p,c,rfl⟩:=hL.len;refine yEn Tryz.func82 Tryz.ntmps82 (by kernel_rfl) (by kernel_rfl) rfl rfl ?_;have hS:=St.start w
 repeat' (first|(with_reducible apply a5 a4);rfl;rfl;rfl|refine yDn (by with_reducible constructor) ?_)
 refine o6 (F:=nF) (w0:=w) (X:=Nat) (fun x=>[(5,.int .i64 (x:Nat))]) [0,1] rfl (fun _=>[]) (fun i=>i<=l.length/\a0O (l.take i) (n:Nat)=true) (fun i=>l.length - i) 0 (by exact Fr.sub_of rfl) ⟨xf0 _,rfl⟩ hS ?_;clear hS;rintro i w1 ⟨hi,ht⟩ hS;dsimp only [List.cons_append,List.nil_append] at hi ht hS |-;by_cases hlt:i < l.length
 ·obtain ⟨x,hx⟩:=l9 (l:=l) (i:=i) (by omega);have hrow:=i7 (f:=wdC) hx;obtain ⟨b,off,rfl,hro⟩:=hL.at_ (i:=i) hlt;unfold wdC at hrow;have hst:=a3T (n:=(n:Nat)) hx;rw [ht,xl0] at hst;by_cases h0:0<=x.proc/\x.proc<=(n:Nat) - 1
  ·have hd0:decide (0<=x.proc/\x.proc<=((n:Nat):Int) - 1)=true:=xh7 h0;rw [xh7 h0.1,xh7 (show x.proc < (n:Nat) by omega)] at hst
   repeat' (first|(with_reducible apply a5 a4);rfl;rfl;rfl|(with_reducible apply a6);rfl;(apply Ld.sc a4;rfl;exact hS.roC0 (by assumption) (by assumption) rfl);rfl|(with_reducible apply t3 a4);rfl;rfl;rfl;rfl;omega;rfl|(with_reducible apply o9);rfl;rfl;omega;omega;rfl|(with_reducible apply a3L);rfl;rfl;omega;omega;rfl|refine yDn (by with_reducible constructor) ?_|(with_reducible apply b6);rfl;all_goals (intro hb hp;try (exfalso;omega))|(with_reducible apply a2o);rfl;all_goals (intro hb hp;try (exfalso;omega))|(with_reducible apply b5 hS);rfl;rfl;rfl;refine ⟨_,d7 _ _ _ _,?_⟩;clear hS;intro w' hS)
   exact m8 (i + 1) (by exact Fr.sub_of rfl) ⟨by omega,hst⟩ hS (by omega)
  ·have hd0:decide (0<=x.proc/\x.proc<=((n:Nat):Int) - 1)=false:=xh9 h0;have hbad:=a3g (n:=(n:Nat)) hx (by
    by_cases h1:0<=x.proc
    ·rw [xh9 (show ¬x.proc < (n:Nat) by omega),xl5]
    ·rw [xh9 h1,xl1])
   repeat' (first|(with_reducible apply a5 a4);rfl;rfl;rfl|(with_reducible apply a6);rfl;(apply Ld.sc a4;rfl;exact hS.roC0 (by assumption) (by assumption) rfl);rfl|(with_reducible apply t3 a4);rfl;rfl;rfl;rfl;omega;rfl|(with_reducible apply a3L);rfl;rfl;omega;omega;rfl|refine yDn (by with_reducible constructor) ?_|(with_reducible apply b6);rfl;all_goals (intro hb hp;try (exfalso;omega))|(with_reducible apply a2o);rfl;all_goals (intro hb hp;try (exfalso;omega))|(with_reducible apply b5 hS);rfl;rfl;rfl;refine ⟨_,d7 _ _ _ _,?_⟩;clear hS;intro w' hS)
   (refine d4 rfl ?_)
   exact ⟨by rw [hbad],hS.sub (xh8 _)⟩
 ·obtain rfl:i=l.length:=by omega
  rw [xf2] at ht
  repeat' (first|(with_reducible apply a5 a4);rfl;rfl;rfl|refine yDn (by with_reducible constructor) ?_|(with_reducible apply b6);rfl;all_goals (intro hb hp;try (exfalso;omega)))
  (refine d4 rfl ?_)
  exact ⟨by rw [ht],hS.sub (xh8 _)⟩
theorem a1V {A:List Ar} {l:List Fp} {n:Nat}:y7 A l (n + 1)=(y7 A l n && r8 A l n):=by
 unfold y7;rw [List.range_succ,List.all_append,xi9,xj0,xj1]
theorem s5 {A:List Ar} {l:List Fp} {n i:Nat} (hi:i < n) (h:r8 A l i=false):y7 A l n=false:=by
 unfold y7;rw [List.all_eq_false];exact ⟨i,List.mem_range.2 hi,by rw [h];simp⟩
theorem a67 {w:World} {x:Fs} {va vp:Value} (har:Sl nF w 4 va (x.areas.map arC)) (hpg:Sl nF w 2 vp (x.pages.map fpC)):Fn Tryz.prog 95 [.agg #[.bool x.live,va,vp]] w (RBf (.bool (fsB x)) w):=by
 have b1:=har.bound;have b2:=hpg.bound;have hck:=fun w1 (h:Sl nF w1 4 va (x.areas.map arC))=>a3k h;have hto:=fun w1 (h:Sl nF w1 4 va (x.areas.map arC))=>a5f h;have hfi0:=fun w1 (h:Sl nF w1 4 va (x.areas.map arC)) (p:Int)=>a6I p h;obtain ⟨live,ars,pgs⟩:=x;dsimp only at har hpg b1 b2 hck hto hfi0 |-;obtain ⟨pa,ca,rfl⟩:=har.len;obtain ⟨pp,cp,rfl⟩:=hpg.len
 cases live with
 |false=>
  have hs:=a9j ars pgs b1 b2;refine yEn Tryz.func95 Tryz.ntmps95 (by kernel_rfl) (by kernel_rfl) rfl rfl ?_;have hS:=St.start w
  repeat' (first|(with_reducible apply a5 a4);rfl;rfl;rfl|(with_reducible apply a6);rfl;(first|apply Ld.sc a4;rfl;exact hS.blkC 0 rfl rfl|apply Ld.sl a4;rfl;exact hS.blkC 0 rfl rfl);rfl|(with_reducible apply a9f a4);rfl;rfl|refine yDn (by with_reducible constructor) ?_|(with_reducible apply a9);rfl;rfl|(with_reducible apply d8 hS);rfl;rfl;rfl;clear hS;intro g w' hS)
  (refine d4 rfl ?_)
  exact ⟨by unfold fsB;rw [xd9 (by simp)];simp [hs],hS.sub (xh8 _)⟩
 |true=>
  by_cases hc:b4 ars=0;rotate_left
  ·have hd:(!decide (b4 ars=0))=true:=by rw [xh9 hc];rfl
   refine yEn Tryz.func95 Tryz.ntmps95 (by kernel_rfl) (by kernel_rfl) rfl rfl ?_;have hS:=St.start w
   repeat' (first|(with_reducible apply a5 a4);rfl;rfl;rfl|(with_reducible apply a6);rfl;(apply Ld.sc a4;rfl;exact hS.blkC 0 rfl rfl);rfl|refine yDn (by with_reducible constructor) ?_|(with_reducible apply f8);rfl;rfl|(with_reducible apply d8 hS);rfl;rfl;rfl;clear hS;intro g w' hS)
   (focus ((with_reducible apply a8 _ _ _ (by kernel_rfl) (by kernel_rfl) hS);(repeat' (first|(first|(with_reducible apply i4 a4);rfl;rfl|(with_reducible apply i6);rfl;(intro wd hd;replace hd:St _ _ wd _:=hd;(apply Ld.sl a4;rfl;exact hd.blkC 0 rfl rfl));rfl|(first|(with_reducible apply a0S);(iterate 4 rfl);assumption;rfl|(with_reducible apply l6);rfl;assumption;rfl;rfl))|(with_reducible apply b9);rfl;rfl;rfl;refine ⟨_,fun wd hd=>hck _ (har.now hd),?_⟩));all_goals ((with_reducible apply l3);intro w' hS';clear hS;have hS:=hS';clear hS')))
   repeat' (first|(with_reducible apply a5 a4);rfl;rfl;rfl|refine yDn (by with_reducible constructor) ?_|(with_reducible apply a9);rfl;rfl)
   (refine d4 rfl ?_)
   exact ⟨by unfold fsB;rw [xd8 rfl,xh9 hc,xl1],hS.sub (xh8 _)⟩
  have hdc:(!decide (b4 ars=0))=false:=by rw [xh7 hc];rfl
  simp only [xd8 hc] at hto;by_cases hn:(pgs.length:Int)=l7 ars;rotate_left
  ·have hdn:(!decide ((pgs.length:Int)=l7 ars))=true:=by rw [xh9 hn];rfl
   refine yEn Tryz.func95 Tryz.ntmps95 (by kernel_rfl) (by kernel_rfl) rfl rfl ?_;have hS:=St.start w
   repeat' (first|(with_reducible apply a5 a4);rfl;rfl;rfl|(with_reducible apply a6);rfl;(apply Ld.sc a4;rfl;exact hS.blkC 0 rfl rfl);rfl|refine yDn (by with_reducible constructor) ?_|(with_reducible apply f8);rfl;rfl|(with_reducible apply d8 hS);rfl;rfl;rfl;clear hS;intro g w' hS)
   (focus ((with_reducible apply a8 _ _ _ (by kernel_rfl) (by kernel_rfl) hS);(repeat' (first|(first|(with_reducible apply i4 a4);rfl;rfl|(with_reducible apply i6);rfl;(intro wd hd;replace hd:St _ _ wd _:=hd;(apply Ld.sl a4;rfl;exact hd.blkC 0 rfl rfl));rfl|(first|(with_reducible apply p7);(iterate 4 rfl);assumption|(with_reducible apply l2);rfl;assumption;rfl;rfl))|(with_reducible apply b9);rfl;rfl;rfl;refine ⟨_,fun wd hd=>hck _ (har.now hd),?_⟩|(with_reducible apply b9);rfl;rfl;rfl;refine ⟨_,fun wd hd=>hto _ (har.now hd),?_⟩));all_goals ((with_reducible apply l3);intro w' hS';clear hS;have hS:=hS';clear hS')))
   repeat' (first|(with_reducible apply a5 a4);rfl;rfl;rfl|refine yDn (by with_reducible constructor) ?_|(with_reducible apply a9);rfl;assumption)
   (refine d4 rfl ?_)
   exact ⟨by unfold fsB;rw [xd8 rfl];simp [hn],hS.sub (xh8 _)⟩
  have hdn:(!decide ((pgs.length:Int)=l7 ars))=false:=by rw [xh7 hn];rfl
  have hfsB:fsB ⟨true,ars,pgs⟩=y7 ars pgs pgs.length:=by unfold fsB;rw [xd8 rfl];simp [hc,hn]
  rw [hfsB];refine yEn Tryz.func95 Tryz.ntmps95 (by kernel_rfl) (by kernel_rfl) rfl rfl ?_;have hS:=St.start w
  (repeat ((refine yDn (by with_reducible constructor) ?_)))
  (((with_reducible apply d8 hS);rfl;rfl;rfl);clear hS;intro g1 w' hS)
  repeat' (first|(with_reducible apply a5 a4);rfl;rfl;rfl|(with_reducible apply a6);rfl;(apply Ld.sc a4;rfl;exact hS.blkC 0 rfl rfl);rfl|refine yDn (by with_reducible constructor) ?_|(with_reducible apply f8);rfl;rfl)
  (focus ((with_reducible apply a8 _ _ _ (by kernel_rfl) (by kernel_rfl) hS);(repeat' (first|(first|(with_reducible apply i4 a4);rfl;rfl|(with_reducible apply i6);rfl;(intro wd hd;replace hd:St _ _ wd _:=hd;(apply Ld.sl a4;rfl;exact hd.blkC 0 rfl rfl));rfl|(first|(with_reducible apply p7);(iterate 4 rfl);assumption|(with_reducible apply l2);rfl;assumption;rfl;rfl))|(with_reducible apply b9);rfl;rfl;rfl;refine ⟨_,fun wd hd=>hck _ (har.now hd),?_⟩|(with_reducible apply b9);rfl;rfl;rfl;refine ⟨_,fun wd hd=>hto _ (har.now hd),?_⟩));all_goals ((with_reducible apply l3);intro w' hS';clear hS;have hS:=hS';clear hS')))
  repeat' (first|(with_reducible apply a5 a4);rfl;rfl;rfl|(with_reducible apply a6);rfl;(apply Ld.sl a4;rfl;exact hS.blkC 0 rfl rfl);rfl|refine yDn (by with_reducible constructor) ?_|(with_reducible apply f8);rfl;assumption)
  refine o6 (F:=nF) (w0:=w) (X:=Nat) (fun i=>[(34,.int .i64 (i:Nat))]) [1,32,33] rfl (fun _=>[]) (fun i=>i<=pgs.length/\y7 ars pgs i=true) (fun i=>pgs.length - i) 0 (by exact Fr.sub_of rfl) ⟨xf0 _,rfl⟩ hS ?_;clear hS;rintro i w1 ⟨hi,hpb⟩ hS;dsimp only [List.cons_append,List.nil_append] at hi hpb hS |-;by_cases hlt:i < pgs.length;rotate_left
  ·obtain rfl:i=pgs.length:=by omega
   repeat' (first|(with_reducible apply a5 a4);rfl;rfl;rfl|refine yDn (by with_reducible constructor) ?_|(with_reducible apply b6);rfl;all_goals (intro hb hp;try (exfalso;omega)))
   (refine d4 rfl ?_)
   exact ⟨by rw [hpb],hS.sub (xh8 _)⟩
  obtain ⟨x,hx⟩:=l9 (l:=pgs) (i:=i) (by omega);have hrow:=i7 (f:=fpC) hx;obtain ⟨b,off,rfl,hro⟩:=hpg.at_ (i:=i) hlt;unfold fpC at hrow;have hfi:=fun w1 (h:Sl nF w1 4 (.slice pa ars.length ca) (ars.map arC))=>hfi0 w1 h x.page;rw [a58 hc] at hfi;have hst:=a1V (A:=ars) (l:=pgs) (n:=i);rw [hpb,xl0] at hst;have bx:(x.data.length:Int)=16 ↔ x.data.length=16:=by omega
  cases hfa:k6 ars x.page with
  |none=>
   rw [hfa] at hfi;unfold a26 arC at hfi;dsimp only [Option.getD,Option.isSome] at hfi;have hbad:=s5 (A:=ars) (n:=pgs.length) hlt (by unfold r8;rw [hx];dsimp only;rw [hfa];rfl)
   repeat' (first|(with_reducible apply a5 a4);rfl;rfl;rfl|(with_reducible apply a6);rfl;(first|apply Ld.sc a4;rfl;exact hS.blkC 0 rfl rfl|apply Ld.sl a4;rfl;exact hS.blkC 1 rfl rfl|apply Ld.st a4;rfl;exact hS.roR (by assumption) (by assumption);rfl);rfl|(with_reducible apply t3 a4);rfl;rfl;rfl;rfl;omega;rfl|refine yDn (by with_reducible constructor) ?_|(with_reducible apply b8 hS a4);rfl;rfl;rfl;clear hS;intro g w' hS|(with_reducible apply b7 hS a4 (i:=0));(iterate 8 rfl);(first|exact (rfl:_=[_,_])|exact (rfl:_=[_,_,_,_]));clear hS;intro w' hS;simp only [List.set] at hS|(with_reducible apply b6);rfl;all_goals (intro hb hp;try (exfalso;omega))|(with_reducible apply b5 hS);rfl;rfl;rfl;refine ⟨_,hfi _ (har.now hS),?_⟩;clear hS;intro w' hS)
   (focus ((with_reducible apply a8 _ _ _ (by kernel_rfl) (by kernel_rfl) hS);(repeat' ((first|(with_reducible apply i4 a4);rfl;rfl|(first|(with_reducible apply a0S);(iterate 4 rfl);rfl;rfl|(with_reducible apply a0q);(iterate 5 rfl)|(with_reducible apply l6);rfl;rfl;rfl;rfl))));all_goals ((with_reducible apply l3);intro w' hS';clear hS;have hS:=hS';clear hS')))
   repeat' (first|(with_reducible apply a5 a4);rfl;rfl;rfl|refine yDn (by with_reducible constructor) ?_|(with_reducible apply a9);rfl;rfl)
   (refine d4 rfl ?_)
   exact ⟨by rw [hbad],hS.sub (xh8 _)⟩
  |some a=>
   rw [hfa] at hfi;unfold a26 arC at hfi;dsimp only [Option.getD,Option.isSome] at hfi;by_cases hl:x.data.length=16;rotate_left
   ·have hdl:(!decide ((x.data.length:Int)=16))=true:=by rw [xh9 (fun h=>hl (bx.1 h))];rfl
    have hbad:=s5 (A:=ars) (n:=pgs.length) hlt (by unfold r8;rw [hx];dsimp only;rw [xh9 hl,xl1,xl5])
    repeat' (first|(with_reducible apply a5 a4);rfl;rfl;rfl|(with_reducible apply a6);rfl;(first|apply Ld.sc a4;rfl;exact hS.blkC 0 rfl rfl|apply Ld.sl a4;rfl;exact hS.blkC 1 rfl rfl|apply Ld.st a4;rfl;exact hS.roR (by assumption) (by assumption);rfl);rfl|(with_reducible apply t3 a4);rfl;rfl;rfl;rfl;omega;rfl|refine yDn (by with_reducible constructor) ?_|(with_reducible apply b8 hS a4);rfl;rfl;rfl;clear hS;intro g w' hS|(with_reducible apply b7 hS a4 (i:=0));(iterate 8 rfl);(first|exact (rfl:_=[_,_])|exact (rfl:_=[_,_,_,_]));clear hS;intro w' hS;simp only [List.set] at hS|(with_reducible apply b6);rfl;all_goals (intro hb hp;try (exfalso;omega))|(with_reducible apply b5 hS);rfl;rfl;rfl;refine ⟨_,hfi _ (har.now hS),?_⟩;clear hS;intro w' hS)
    (focus ((with_reducible apply a8 _ _ _ (by kernel_rfl) (by kernel_rfl) hS);(repeat' ((first|(with_reducible apply i4 a4);rfl;rfl|(with_reducible apply i6);rfl;(intro wd hd;replace hd:St _ _ wd _:=hd;(apply Ld.sc a4;rfl;exact hd.blkC 1 rfl rfl));rfl|(first|(with_reducible apply p7);(iterate 4 rfl);rfl|(with_reducible apply a0S);(iterate 4 rfl);assumption;rfl|(with_reducible apply a0q);(iterate 5 rfl)|(with_reducible apply l6);rfl;assumption;rfl;rfl|(with_reducible apply l2);rfl;rfl;rfl;rfl))));all_goals ((with_reducible apply l3);intro w' hS';clear hS;have hS:=hS';clear hS')))
    repeat' (first|(with_reducible apply a5 a4);rfl;rfl;rfl|refine yDn (by with_reducible constructor) ?_|(with_reducible apply a9);rfl;rfl)
    (refine d4 rfl ?_)
    exact ⟨by rw [hbad],hS.sub (xh8 _)⟩
   have hdl:(!decide ((x.data.length:Int)=16))=false:=by rw [xh7 (bx.2 hl)];rfl
   cases i with
   |zero=>
    have hd0:decide ((0:Int) < ((0:Nat):Int))=false:=rfl;have hok:r8 ars pgs 0=true:=by
     unfold r8;rw [hx];dsimp only;rw [hfa,xh7 hl];rfl
    rw [hok] at hst
    repeat' (first|(with_reducible apply a5 a4);rfl;rfl;rfl|(with_reducible apply a6);rfl;(first|apply Ld.sc a4;rfl;exact hS.blkC 0 rfl rfl|apply Ld.sl a4;rfl;exact hS.blkC 1 rfl rfl|apply Ld.st a4;rfl;exact hS.roR (by assumption) (by assumption);rfl);rfl|(with_reducible apply t3 a4);rfl;rfl;rfl;rfl;omega;rfl|refine yDn (by with_reducible constructor) ?_|(with_reducible apply b8 hS a4);rfl;rfl;rfl;clear hS;intro g w' hS|(with_reducible apply b7 hS a4 (i:=0));(iterate 8 rfl);(first|exact (rfl:_=[_,_])|exact (rfl:_=[_,_,_,_]));clear hS;intro w' hS;simp only [List.set] at hS|(with_reducible apply b6);rfl;all_goals (intro hb hp;try (exfalso;omega))|(with_reducible apply b5 hS);rfl;rfl;rfl;refine ⟨_,hfi _ (har.now hS),?_⟩;clear hS;intro w' hS)
    (focus ((with_reducible apply a8 _ _ _ (by kernel_rfl) (by kernel_rfl) hS);(repeat' ((first|(with_reducible apply i4 a4);rfl;rfl|(with_reducible apply i6);rfl;(intro wd hd;replace hd:St _ _ wd _:=hd;(apply Ld.sc a4;rfl;exact hd.blkC 1 rfl rfl));rfl|(first|((with_reducible apply p7);(iterate 4 rfl);first|rfl|assumption)|(with_reducible apply a0S);(iterate 4 rfl);rfl;rfl|(with_reducible apply l2);rfl;(first|rfl|assumption);rfl;rfl))));all_goals ((with_reducible apply l3);intro w' hS';clear hS;have hS:=hS';clear hS')))
    repeat' (first|(with_reducible apply a5 a4);rfl;rfl;rfl|(with_reducible apply o9);rfl;rfl;omega;omega;rfl|refine yDn (by with_reducible constructor) ?_|(with_reducible apply f8);rfl;rfl)
    exact m8 1 (by exact Fr.sub_of rfl) ⟨by omega,hst⟩ hS.drop.drop (by omega)
   |succ j=>
    have hd0:decide ((0:Int) < ((j + 1:Nat):Int))=true:=xh7 (by omega);obtain ⟨q,hq⟩:=l9 (l:=pgs) (i:=j) (by omega);have hjj:(((j + 1:Nat):Int) - 1).toNat=j:=by omega
    have hrowq:(pgs.map fpC)[(((j + 1:Nat):Int) - 1).toNat]?=some [.int .i64 q.page,.string ⟨q.data.toArray⟩]:=by rw [hjj];exact i7 (f:=fpC) hq
    by_cases hr:x.page<=q.page
    ·have hdr:decide (x.page<=q.page)=true:=xh7 hr;have hbad:=s5 (A:=ars) (n:=pgs.length) hlt (by unfold r8;rw [hx];dsimp only;rw [hq];dsimp only;rw [xh9 (show ¬q.page < x.page by omega),xl5,xl5])
     repeat' (first|(with_reducible apply a5 a4);rfl;rfl;rfl|(with_reducible apply a6);rfl;(first|apply Ld.sc a4;rfl;exact hS.blkC 0 rfl rfl|apply Ld.sl a4;rfl;exact hS.blkC 1 rfl rfl|apply Ld.st a4;rfl;exact hS.roR (by assumption) (by assumption);rfl);rfl|(with_reducible apply t3 a4);rfl;rfl;rfl;rfl;omega;rfl|refine yDn (by with_reducible constructor) ?_|(with_reducible apply b8 hS a4);rfl;rfl;rfl;clear hS;intro g w' hS|(with_reducible apply b7 hS a4 (i:=0));(iterate 8 rfl);(first|exact (rfl:_=[_,_])|exact (rfl:_=[_,_,_,_]));clear hS;intro w' hS;simp only [List.set] at hS|(with_reducible apply b6);rfl;all_goals (intro hb hp;try (exfalso;omega))|(with_reducible apply b5 hS);rfl;rfl;rfl;refine ⟨_,hfi _ (har.now hS),?_⟩;clear hS;intro w' hS)
     (focus ((with_reducible apply a8 _ _ _ (by kernel_rfl) (by kernel_rfl) hS);(repeat' ((first|(with_reducible apply a2Q);rfl;rfl;omega;omega;rfl|(with_reducible apply i4 a4);rfl;rfl|(with_reducible apply i6);rfl;(intro wd hd;replace hd:St _ _ wd _:=hd;(first|apply Ld.sc a4;rfl;(first|exact hd.blkC 1 rfl rfl|exact hd.roC0 (by assumption) (by assumption) rfl)|apply Ld.sl a4;rfl;exact hd.blkC 2 rfl rfl));rfl|(with_reducible apply z9 a4);rfl;rfl;rfl;exact xk9 (by omega);omega;rfl|(first|((with_reducible apply p7);(iterate 4 rfl);first|rfl|assumption)|(with_reducible apply l6);rfl;assumption;rfl;rfl|(with_reducible apply l2);rfl;(first|rfl|assumption);rfl;rfl))));all_goals ((with_reducible apply l3);intro w' hS';clear hS;have hS:=hS';clear hS')))
     repeat' (first|(with_reducible apply a5 a4);rfl;rfl;rfl|refine yDn (by with_reducible constructor) ?_|(with_reducible apply a9);rfl;assumption)
     (refine d4 rfl ?_)
     exact ⟨by rw [hbad],hS.sub (xh8 _)⟩
    ·have hdr:decide (x.page<=q.page)=false:=xh9 hr;have hok:r8 ars pgs (j + 1)=true:=by
      unfold r8;rw [hx];dsimp only;rw [hq];dsimp only;rw [hfa,xh7 hl,xh7 (show q.page < x.page by omega)];rfl
     rw [hok] at hst
     repeat' (first|(with_reducible apply a5 a4);rfl;rfl;rfl|(with_reducible apply a6);rfl;(first|apply Ld.sc a4;rfl;exact hS.blkC 0 rfl rfl|apply Ld.sl a4;rfl;exact hS.blkC 1 rfl rfl|apply Ld.st a4;rfl;exact hS.roR (by assumption) (by assumption);rfl);rfl|(with_reducible apply t3 a4);rfl;rfl;rfl;rfl;omega;rfl|refine yDn (by with_reducible constructor) ?_|(with_reducible apply b8 hS a4);rfl;rfl;rfl;clear hS;intro g w' hS|(with_reducible apply b7 hS a4 (i:=0));(iterate 8 rfl);(first|exact (rfl:_=[_,_])|exact (rfl:_=[_,_,_,_]));clear hS;intro w' hS;simp only [List.set] at hS|(with_reducible apply b6);rfl;all_goals (intro hb hp;try (exfalso;omega))|(with_reducible apply b5 hS);rfl;rfl;rfl;refine ⟨_,hfi _ (har.now hS),?_⟩;clear hS;intro w' hS)
     (focus ((with_reducible apply a8 _ _ _ (by kernel_rfl) (by kernel_rfl) hS);(repeat' ((first|(with_reducible apply a2Q);rfl;rfl;omega;omega;rfl|(with_reducible apply i4 a4);rfl;rfl|(with_reducible apply i6);rfl;(intro wd hd;replace hd:St _ _ wd _:=hd;(first|apply Ld.sc a4;rfl;(first|exact hd.blkC 1 rfl rfl|exact hd.roC0 (by assumption) (by assumption) rfl)|apply Ld.sl a4;rfl;exact hd.blkC 2 rfl rfl));rfl|(with_reducible apply z9 a4);rfl;rfl;rfl;exact xk9 (by omega);omega;rfl|(first|((with_reducible apply p7);(iterate 4 rfl);first|rfl|assumption)|(with_reducible apply l6);rfl;assumption;rfl;rfl|(with_reducible apply l2);rfl;(first|rfl|assumption);rfl;rfl))));all_goals ((with_reducible apply l3);intro w' hS';clear hS;have hS:=hS';clear hS')))
     repeat' (first|(with_reducible apply a5 a4);rfl;rfl;rfl|(with_reducible apply o9);rfl;rfl;omega;omega;rfl|refine yDn (by with_reducible constructor) ?_|(with_reducible apply f8);rfl;assumption)
     exact m8 (j + 1 + 1) (by exact Fr.sub_of rfl) ⟨by omega,hst⟩ hS.drop.drop (by omega)
structure FlOk (w:World) (f:FlV):Prop where
 sp:Sl nF w 3 f.vsp (f.sp.map fsC)
 ar:∀ x ∈ f.sp,Sl nF w 4 x.2.1 (x.1.areas.map arC)
 pg:∀ x ∈ f.sp,Sl nF w 2 x.2.2 (x.1.pages.map fpC)
 pr:Sl nF w 13 f.vpr (f.pr.map prC)
 out:Sl nF w 2 f.vout (f.out.map wdC)
theorem FlOk.now {w w':World} {Γ:List Asr} {f:FlV} (h:FlOk w f) (hS:St nF w w' Γ):FlOk w' f:=⟨h.sp.now hS,fun x hx=>(h.ar x hx).now hS,fun x hx=>(h.pg x hx).now hS,h.pr.now hS,h.out.now hS⟩
theorem a9N {x:Fs} (h:fsB x=true):x.pages.length<=65025:=by
 unfold fsB at h
 split at h
 ·simp only [xb7,xh5] at h;obtain ⟨h1,h2,-⟩:=h;obtain ⟨h3,h4⟩:=o3.1 h1;have:=a60 (v9 h4) x.areas.length;rw [xf2] at this;omega
 ·simp only [xb7,xh5] at h;rw [h.2];exact xf0 _
theorem a3G {l:List (Fs×Value×Value)} {i:Nat} {x:Fs×Value×Value} (h:l[i]?=some x):a0z (l.take (i + 1))=a0z (l.take i) + x.1.pages.length:=by
 unfold a0z;rw [a0E h,xk2,List.sum_append];simp
theorem a49 {g:Nat->Bool} {i:Nat}:(List.range (i + 1)).all g=((List.range i).all g && g i):=by
 rw [List.range_succ,List.all_append,xi9,xj0,xj1]
theorem v8 {g:Nat->Bool} {n i:Nat} (hi:i < n) (h:g i=false):(List.range n).all g=false:=by
 rw [List.all_eq_false];exact ⟨i,List.mem_range.2 hi,by rw [h];simp⟩
theorem a39 {w:World} {f:FlV} (hK:FlOk w f):Fn Tryz.prog 39 [.agg (flC f).toArray] w (RBf (.int .i64 (p9 f)) w):=by
 obtain ⟨m1,m2,m3,m4,m5⟩:=hK;have b1:=m1.bound;have b2:=m4.bound;have b3:=m5.bound;obtain ⟨slots,sp,pr,out,vsp,vpr,vout⟩:=f;dsimp only at m1 m2 m3 m4 m5 b1 b2 b3 |-;obtain ⟨p1,c1,rfl⟩:=m1.len;obtain ⟨p2,c2,rfl⟩:=m4.len;obtain ⟨p3,c3,rfl⟩:=m5.len;unfold flC;dsimp only;by_cases h1:sp.length < 1
 ·have hd1:decide ((sp.length:Int) < 1)=true:=xh7 (by omega);refine yEn Tryz.func39 Tryz.ntmps39 (by kernel_rfl) (by kernel_rfl) rfl rfl ?_;have hS:=St.start w
  repeat' (first|(with_reducible apply a5 a4);rfl;rfl;rfl|(with_reducible apply a6);rfl;(apply Ld.sl a4;rfl;exact hS.blkC 0 rfl rfl);rfl|refine yDn (by with_reducible constructor) ?_|(with_reducible apply o4);(iterate 4 rfl);(first|rfl|assumption);rfl|(with_reducible apply d9);rfl;(first|rfl|assumption);rfl;rfl|(with_reducible apply a9);rfl;rfl|(with_reducible apply d8 hS);rfl;rfl;rfl;clear hS;intro g w' hS)
  (refine d4 rfl ?_)
  exact ⟨by unfold p9;rw [xd8 (by unfold y8;dsimp only;omega)],hS.sub (xh8 _)⟩
 have hd1:decide ((sp.length:Int) < 1)=false:=xh9 (by omega);by_cases h2:4 < sp.length
 ·have hd2:decide ((4:Int) < (sp.length:Int))=true:=xh7 (by omega);refine yEn Tryz.func39 Tryz.ntmps39 (by kernel_rfl) (by kernel_rfl) rfl rfl ?_;have hS:=St.start w
  repeat' (first|(with_reducible apply a5 a4);rfl;rfl;rfl|(with_reducible apply a6);rfl;(apply Ld.sl a4;rfl;exact hS.blkC 0 rfl rfl);rfl|refine yDn (by with_reducible constructor) ?_|(with_reducible apply e9);(iterate 4 rfl);assumption|(with_reducible apply o4);(iterate 4 rfl);(first|rfl|assumption);rfl|(with_reducible apply d9);rfl;(first|rfl|assumption);rfl;rfl|(with_reducible apply a7);rfl;assumption;rfl;rfl|(with_reducible apply a9);rfl;rfl|(with_reducible apply d8 hS);rfl;rfl;rfl;clear hS;intro g w' hS)
  (refine d4 rfl ?_)
  exact ⟨by unfold p9;rw [xd8 (by unfold y8;dsimp only;omega)],hS.sub (xh8 _)⟩
 have hd2:decide ((4:Int) < (sp.length:Int))=false:=xh9 (by omega);by_cases h3:pr.length=sp.length;rotate_left
 ·have hd3:(!decide ((pr.length:Int)=(sp.length:Int)))=true:=by rw [xh9 (by omega)];rfl
  refine yEn Tryz.func39 Tryz.ntmps39 (by kernel_rfl) (by kernel_rfl) rfl rfl ?_;have hS:=St.start w
  repeat' (first|(with_reducible apply a5 a4);rfl;rfl;rfl|(with_reducible apply a6);rfl;(apply Ld.sl a4;rfl;exact hS.blkC 0 rfl rfl);rfl|refine yDn (by with_reducible constructor) ?_|(with_reducible apply e9);(iterate 4 rfl);assumption|(with_reducible apply o4);(iterate 4 rfl);(first|rfl|assumption);rfl|(with_reducible apply d9);rfl;(first|rfl|assumption);rfl;rfl|(with_reducible apply a7);rfl;assumption;rfl;rfl|(with_reducible apply a9);rfl;rfl|(with_reducible apply d8 hS);rfl;rfl;rfl;clear hS;intro g w' hS)
  (refine d4 rfl ?_)
  exact ⟨by unfold p9;rw [xd8 (by unfold y8;dsimp only;omega)],hS.sub (xh8 _)⟩
 have hd3:(!decide ((pr.length:Int)=(sp.length:Int)))=false:=by rw [xh7 (by omega)];rfl
 by_cases h4:slots < 0
 ·have hd4:decide (slots < 0)=true:=xh7 h4;refine yEn Tryz.func39 Tryz.ntmps39 (by kernel_rfl) (by kernel_rfl) rfl rfl ?_;have hS:=St.start w
  repeat' (first|(with_reducible apply a5 a4);rfl;rfl;rfl|(with_reducible apply a6);rfl;(first|apply Ld.sc a4;rfl;exact hS.blkC 0 rfl rfl|apply Ld.sl a4;rfl;exact hS.blkC 0 rfl rfl);rfl|refine yDn (by with_reducible constructor) ?_|(with_reducible apply e9);(iterate 4 rfl);assumption|(with_reducible apply o4);(iterate 4 rfl);(first|rfl|assumption);rfl|(with_reducible apply d9);rfl;(first|rfl|assumption);rfl;rfl|(with_reducible apply a7);rfl;assumption;rfl;rfl|(with_reducible apply a9);rfl;rfl|(with_reducible apply d8 hS);rfl;rfl;rfl;clear hS;intro g w' hS)
  (refine d4 rfl ?_)
  exact ⟨by unfold p9;rw [xd8 (by unfold y8;dsimp only;omega)],hS.sub (xh8 _)⟩
 have hd4:decide (slots < 0)=false:=xh9 h4;by_cases h5:512 < slots
 ·have hd5:decide (512 < slots)=true:=xh7 h5;refine yEn Tryz.func39 Tryz.ntmps39 (by kernel_rfl) (by kernel_rfl) rfl rfl ?_;have hS:=St.start w
  repeat' (first|(with_reducible apply a5 a4);rfl;rfl;rfl|(with_reducible apply a6);rfl;(first|apply Ld.sc a4;rfl;exact hS.blkC 0 rfl rfl|apply Ld.sl a4;rfl;exact hS.blkC 0 rfl rfl);rfl|refine yDn (by with_reducible constructor) ?_|(with_reducible apply e9);(iterate 4 rfl);assumption|(with_reducible apply o4);(iterate 4 rfl);assumption;rfl|(with_reducible apply d9);rfl;assumption;rfl;rfl|(with_reducible apply a7);rfl;assumption;rfl;rfl|(with_reducible apply a9);rfl;rfl|(with_reducible apply d8 hS);rfl;rfl;rfl;clear hS;intro g w' hS)
  (refine d4 rfl ?_)
  exact ⟨by unfold p9;rw [xd8 (by unfold y8;dsimp only;omega)],hS.sub (xh8 _)⟩
 have hd5:decide (512 < slots)=false:=xh9 h5;by_cases h6:2000 < out.length
 ·have hd6:decide ((2000:Int) < (out.length:Int))=true:=xh7 (by omega);refine yEn Tryz.func39 Tryz.ntmps39 (by kernel_rfl) (by kernel_rfl) rfl rfl ?_;have hS:=St.start w
  repeat' (first|(with_reducible apply a5 a4);rfl;rfl;rfl|(with_reducible apply a6);rfl;(first|apply Ld.sc a4;rfl;exact hS.blkC 0 rfl rfl|apply Ld.sl a4;rfl;exact hS.blkC 0 rfl rfl);rfl|refine yDn (by with_reducible constructor) ?_|(with_reducible apply e9);(iterate 4 rfl);assumption|(with_reducible apply a7);rfl;assumption;rfl;rfl|(with_reducible apply a9);rfl;assumption|(with_reducible apply d8 hS);rfl;rfl;rfl;clear hS;intro g w' hS)
  (refine d4 rfl ?_)
  exact ⟨by unfold p9;rw [xd8 (by unfold y8;dsimp only;omega)],hS.sub (xh8 _)⟩
 have hd6:decide ((2000:Int) < (out.length:Int))=false:=xh9 (by omega);have hfl:¬y8 ⟨slots,sp,pr,out,.slice p1 sp.length c1,.slice p2 pr.length c2,.slice p3 out.length c3⟩:=by unfold y8;dsimp only;omega
 unfold p9;rw [xd9 hfl];dsimp only;refine yEn Tryz.func39 Tryz.ntmps39 (by kernel_rfl) (by kernel_rfl) rfl rfl ?_;have hS:=St.start w
 (repeat ((refine yDn (by with_reducible constructor) ?_)))
 (((with_reducible apply d8 hS);rfl;rfl;rfl);clear hS;intro g1 w' hS)
 repeat' (first|(with_reducible apply a5 a4);rfl;rfl;rfl|(with_reducible apply a6);rfl;(first|apply Ld.sc a4;rfl;exact hS.blkC 0 rfl rfl|apply Ld.sl a4;rfl;exact hS.blkC 0 rfl rfl);rfl|refine yDn (by with_reducible constructor) ?_|(with_reducible apply e9);(iterate 4 rfl);assumption|(with_reducible apply a7);rfl;assumption;rfl;rfl|(with_reducible apply f8);rfl;assumption)
 obtain ⟨g0,hf0⟩:∃ g0:Nat->Bool,g0=a79 ⟨slots,sp,pr,out,.slice p1 sp.length c1,.slice p2 pr.length c2,.slice p3 out.length c3⟩:=⟨_,rfl⟩;have hspk:∀ (i:Nat) x p,sp[i]?=some x->pr[i]?=some p->g0 i=(fsB x.1 && o5 p x.1.live):=fun i x p h1 h2=>by
  rw [hf0];unfold a79;dsimp only;rw [h1,h2]
 rw [<- hf0];clear hf0 hfl;refine o6 (F:=nF) (w0:=w) (X:=Nat) (fun i=>[(44,.int .i64 (i:Nat)),(3,.int .i64 (a0z (sp.take i):Nat))]) [1,42,43] rfl (fun _=>[]) (fun i=>i<=sp.length/\(List.range i).all g0=true/\a0z (sp.take i)<=65025 * i) (fun i=>sp.length - i) 0 (by exact Fr.sub_of rfl) ⟨xf0 _,rfl,xf0 _⟩ hS ?_;clear hS;rintro i w1 ⟨hi,hal,hsm⟩ hS;dsimp only [List.cons_append,List.nil_append] at hi hal hsm hS |-;by_cases hlt:i < sp.length;rotate_left
 ·obtain rfl:i=sp.length:=by omega
  rw [xf2] at hsm |-;have hto:=fun w1 (h:Sl nF w1 2 (.slice p3 out.length c3) (out.map wdC))=>b0e h (pr.length:Nat);rw [hal,xl0];by_cases hg:slots < (a0z sp:Nat)
  ·have hdg:decide (slots < ((a0z sp:Nat):Int))=true:=xh7 hg
   repeat' (first|(with_reducible apply a5 a4);rfl;rfl;rfl|(with_reducible apply a6);rfl;(apply Ld.sc a4;rfl;exact hS.blkC 0 rfl rfl);rfl|refine yDn (by with_reducible constructor) ?_|(with_reducible apply o4);(iterate 4 rfl);assumption;rfl|(with_reducible apply d9);rfl;assumption;rfl;rfl|(with_reducible apply a9);rfl;rfl|(with_reducible apply b6);rfl;all_goals (intro hb hp;try (exfalso;omega)))
   (refine d4 rfl ?_)
   exact ⟨by rw [xh9 (show ¬((a0z sp:Nat):Int)<=slots by omega),xl1];rfl,hS.sub (xh8 _)⟩
  have hdg:decide (slots < ((a0z sp:Nat):Int))=false:=xh9 hg;rw [xh7 (show ((a0z sp:Nat):Int)<=slots by omega),xl0]
  cases ht:a0O out (pr.length:Nat) with
  |true=>
   simp only [ht] at hto
   repeat' (first|(with_reducible apply a5 a4);rfl;rfl;rfl|(with_reducible apply a6);rfl;(first|apply Ld.sc a4;rfl;exact hS.blkC 0 rfl rfl|apply Ld.sl a4;rfl;exact hS.blkC 0 rfl rfl);rfl|refine yDn (by with_reducible constructor) ?_|(with_reducible apply e9);(iterate 4 rfl);assumption|(with_reducible apply a7);rfl;assumption;rfl;rfl|(with_reducible apply f8);rfl;rfl|(with_reducible apply b6);rfl;all_goals (intro hb hp;try (exfalso;omega))|(with_reducible apply b5 hS);rfl;rfl;rfl;refine ⟨_,hto _ (m5.now hS),?_⟩;clear hS;intro w' hS)
   (refine d4 rfl ?_)
   exact ⟨rfl,hS.sub (xh8 _)⟩
  |false=>
   simp only [ht] at hto
   repeat' (first|(with_reducible apply a5 a4);rfl;rfl;rfl|(with_reducible apply a6);rfl;(first|apply Ld.sc a4;rfl;exact hS.blkC 0 rfl rfl|apply Ld.sl a4;rfl;exact hS.blkC 0 rfl rfl);rfl|refine yDn (by with_reducible constructor) ?_|(with_reducible apply e9);(iterate 4 rfl);assumption|(with_reducible apply a7);rfl;assumption;rfl;rfl|(with_reducible apply a9);rfl;rfl|(with_reducible apply b6);rfl;all_goals (intro hb hp;try (exfalso;omega))|(with_reducible apply b5 hS);rfl;rfl;rfl;refine ⟨_,hto _ (m5.now hS),?_⟩;clear hS;intro w' hS)
   (refine d4 rfl ?_)
   exact ⟨rfl,hS.sub (xh8 _)⟩
 obtain ⟨x,hx⟩:=l9 (l:=sp) (i:=i) (by omega);obtain ⟨p,hp⟩:=l9 (l:=pr) (i:=i) (by omega);have hxm:=xc1 hx;have hrow:=i7 (f:=fsC) hx;have hrow2:=i7 (f:=prC) hp;obtain ⟨b,off,rfl,hro⟩:=m1.at_ (i:=i) hlt;obtain ⟨b',off',rfl,hro2⟩:=m4.at_ (i:=i) (by omega);unfold fsC at hrow;have hsp:=fun w1 (h1:Sl nF w1 4 x.2.1 (x.1.areas.map arC)) (h2:Sl nF w1 2 x.2.2 (x.1.pages.map fpC))=>a67 h1 h2;have hfn:=fun w1=>b0n p x.1.live w1;have hk:=hspk i x p hx hp;have hst:=a49 (g:=g0) (i:=i);rw [hal,xl0] at hst;have hss:=a3G hx;have har:=m2 x hxm;have hpg:=m3 x hxm;unfold prC at hfn hrow2;obtain ⟨⟨live,ars,pgs⟩,va,vp⟩:=x;dsimp only at hrow hsp hfn hk hss har hpg;obtain ⟨pa,ca,rfl⟩:=har.len;obtain ⟨pp,cp,rfl⟩:=hpg.len
 cases hsb:fsB ⟨live,ars,pgs⟩ with
 |false=>
  rw [hsb,xl1] at hk;have hbad:=v8 hlt hk;simp only [hsb] at hsp
  repeat' (first|(with_reducible apply a5 a4);rfl;rfl;rfl|(with_reducible apply a6);rfl;(apply Ld.st a4;rfl;exact hS.roR (by assumption) (by assumption);rfl);rfl|(with_reducible apply t3 a4);rfl;rfl;rfl;rfl;omega;rfl|refine yDn (by with_reducible constructor) ?_|(with_reducible apply b8 hS a4);rfl;rfl;rfl;clear hS;intro g w' hS|(with_reducible apply b7 hS a4 (i:=0));(iterate 8 rfl);exact (rfl:_=[_,_,_]);clear hS;intro w' hS;simp only [List.set] at hS|(with_reducible apply b6);rfl;all_goals (intro hb hp;try (exfalso;omega)))
  (focus ((with_reducible apply a8 _ _ _ (by kernel_rfl) (by kernel_rfl) hS);(repeat' (first|(first|(with_reducible apply i4 a4);rfl;rfl|(with_reducible apply i6);rfl;(intro wd hd;replace hd:St _ _ wd _:=hd;(apply Ld.st a4;rfl;exact hd.blkR 0 rfl;rfl));rfl|(first|(with_reducible apply a0S);(iterate 4 rfl);rfl;rfl|(with_reducible apply l6);rfl;rfl;rfl;rfl))|(with_reducible apply b9);rfl;rfl;rfl;refine ⟨_,fun wd hd=>hsp _ (har.now hd) (hpg.now hd),?_⟩));all_goals ((with_reducible apply l3);intro w' hS';clear hS;have hS:=hS';clear hS')))
  repeat' (first|(with_reducible apply a5 a4);rfl;rfl;rfl|refine yDn (by with_reducible constructor) ?_|(with_reducible apply a9);rfl;rfl)
  (refine d4 rfl ?_)
  exact ⟨by rw [hbad];rfl,hS.sub (xh8 _)⟩
 |true=>
  have hpl:=a9N hsb;dsimp only at hpl;simp only [hsb] at hsp
  cases hfb:o5 p live with
  |false=>
   rw [hsb,hfb] at hk;have hbad:=v8 hlt hk;simp only [hfb] at hfn
   repeat' (first|(with_reducible apply a5 a4);rfl;rfl;rfl|(with_reducible apply a6);rfl;(apply Ld.st a4;rfl;exact hS.roR (by assumption) (by assumption);rfl);rfl|(with_reducible apply t3 a4);rfl;rfl;rfl;rfl;omega;rfl|refine yDn (by with_reducible constructor) ?_|(with_reducible apply b8 hS a4);rfl;rfl;rfl;clear hS;intro g w' hS|(with_reducible apply b7 hS a4 (i:=0));(iterate 8 rfl);exact (rfl:_=[_,_,_]);clear hS;intro w' hS;simp only [List.set] at hS|(with_reducible apply b6);rfl;all_goals (intro hb hp;try (exfalso;omega)))
   (focus ((with_reducible apply a8 _ _ _ (by kernel_rfl) (by kernel_rfl) hS);(repeat' (first|(first|(with_reducible apply i4 a4);rfl;rfl|(with_reducible apply i6);rfl;(intro wd hd;replace hd:St _ _ wd _:=hd;(first|apply Ld.sc a4;rfl;exact hd.blkC 0 rfl rfl|apply Ld.sl a4;rfl;exact hd.blkC 1 rfl rfl|apply Ld.st a4;rfl;(first|exact hd.blkR 0 rfl|exact hd.roR (by assumption) (by assumption));rfl));rfl|(with_reducible apply z9 a4);rfl;rfl;rfl;rfl;omega;rfl|(first|(with_reducible apply p7);(iterate 4 rfl);rfl|(with_reducible apply l2);rfl;rfl;rfl;rfl))|(with_reducible apply b9);rfl;rfl;rfl;refine ⟨_,fun wd hd=>hsp _ (har.now hd) (hpg.now hd),?_⟩|(with_reducible apply b9);rfl;rfl;rfl;refine ⟨_,fun wd hd=>hfn _,?_⟩));all_goals ((with_reducible apply l3);intro w' hS';clear hS;have hS:=hS';clear hS')))
   repeat' (first|(with_reducible apply a5 a4);rfl;rfl;rfl|refine yDn (by with_reducible constructor) ?_|(with_reducible apply a9);rfl;rfl)
   (refine d4 rfl ?_)
   exact ⟨by rw [hbad];rfl,hS.sub (xh8 _)⟩
  |true=>
   rw [hsb,hfb] at hk;rw [hk] at hst;simp only [hfb] at hfn
   repeat' (first|(with_reducible apply a5 a4);rfl;rfl;rfl|(with_reducible apply a6);rfl;(apply Ld.st a4;rfl;exact hS.roR (by assumption) (by assumption);rfl);rfl|(with_reducible apply t3 a4);rfl;rfl;rfl;rfl;omega;rfl|refine yDn (by with_reducible constructor) ?_|(with_reducible apply b8 hS a4);rfl;rfl;rfl;clear hS;intro g w' hS|(with_reducible apply b7 hS a4 (i:=0));(iterate 8 rfl);exact (rfl:_=[_,_,_]);clear hS;intro w' hS;simp only [List.set] at hS|(with_reducible apply b6);rfl;all_goals (intro hb hp;try (exfalso;omega)))
   (focus ((with_reducible apply a8 _ _ _ (by kernel_rfl) (by kernel_rfl) hS);(repeat' (first|(first|(with_reducible apply i4 a4);rfl;rfl|(with_reducible apply i6);rfl;(intro wd hd;replace hd:St _ _ wd _:=hd;(first|apply Ld.sc a4;rfl;exact hd.blkC 0 rfl rfl|apply Ld.sl a4;rfl;exact hd.blkC 1 rfl rfl|apply Ld.st a4;rfl;(first|exact hd.blkR 0 rfl|exact hd.roR (by assumption) (by assumption));rfl));rfl|(with_reducible apply z9 a4);rfl;rfl;rfl;rfl;omega;rfl|(first|(with_reducible apply p7);(iterate 4 rfl);rfl|(with_reducible apply l2);rfl;rfl;rfl;rfl))|(with_reducible apply b9);rfl;rfl;rfl;refine ⟨_,fun wd hd=>hsp _ (har.now hd) (hpg.now hd),?_⟩|(with_reducible apply b9);rfl;rfl;rfl;refine ⟨_,fun wd hd=>hfn _,?_⟩));all_goals ((with_reducible apply l3);intro w' hS';clear hS;have hS:=hS';clear hS')))
   repeat' (first|(with_reducible apply a5 a4);rfl;rfl;rfl|(with_reducible apply a6);rfl;(apply Ld.sl a4;rfl;exact hS.blkC 0 rfl rfl);rfl|(with_reducible apply o9);rfl;rfl;omega;omega;rfl|refine yDn (by with_reducible constructor) ?_|(with_reducible apply f8);rfl;rfl)
   refine m8 (i + 1) (by rw [hss];exact Fr.sub_of rfl) ⟨by omega,hst,by rw [hss];omega⟩ hS.drop (by omega)
def pr1 (entry:Int):Pc:=⟨0,0,0,0,0,0,0,0,entry,1,0,0,0⟩
theorem a46 (entry:Int) (w:World):Fn Tryz.prog 72 [.int .i64 entry] w (fun v w'=>∃ g,v=.slice (some ⟨g,0,none⟩) 1 1/\St nF w w' [.row 123 13 (.slice (some ⟨g,0,none⟩) 1 1) ([pr1 entry].map prC)]):=by
 refine yEn Tryz.func72 Tryz.ntmps72 (by kernel_rfl) (by kernel_rfl) rfl rfl ?_;have hS:=St.start w
 repeat' (first|(with_reducible apply a5 a4);rfl;rfl;rfl|(with_reducible apply s6 a4);rfl;rfl;rfl;rfl|refine yDn (by with_reducible constructor) ?_|(with_reducible apply a01 hS a4);(iterate 7 rfl);clear hS;intro g w' hS)
 (refine d4 rfl ?_)
 exact ⟨_,rfl,hS⟩
theorem a3U (va vs:Value) (entry:Int) (w:World):Fn Tryz.prog 75 [.agg #[va,vs,.int .i64 entry]] w (fun v w'=>∃ g,v=.slice (some ⟨g,0,none⟩) 1 1/\St nF w w' [.row 123 13 (.slice (some ⟨g,0,none⟩) 1 1) ([pr1 entry].map prC)]):=by
 refine yEn Tryz.func75 Tryz.ntmps75 (by kernel_rfl) (by kernel_rfl) rfl rfl ?_;have hS:=St.start w
 repeat' (first|(with_reducible apply a5 a4);rfl;rfl;rfl|(with_reducible apply a6);rfl;(apply Ld.sc a4;rfl;exact hS.blkC 0 rfl rfl);rfl|(with_reducible apply s6 a4);rfl;rfl;rfl;rfl|refine yDn (by with_reducible constructor) ?_|(with_reducible apply d8 hS);rfl;rfl;rfl;clear hS;intro g w' hS|(with_reducible apply a01 hS a4);(iterate 7 rfl);clear hS;intro g w' hS)
 (refine d4 rfl ?_)
 exact ⟨_,rfl,hS.sub (.cons_cons _ (xh8 _))⟩
theorem a8r (z0 z1 z2 z3 z4 z5 z6 z7:Int) (w:World):(Op.equalIn 9999 121 (.agg #[.int .i64 z0,.int .i64 z1,.int .i64 z2,.int .i64 z3,.int .i64 z4,.int .i64 z5,.int .i64 z6,.int .i64 z7]) (.agg #[.int .i64 z0,.int .i64 z1,.int .i64 z2,.int .i64 z3,.int .i64 z4,.int .i64 z5,.int .i64 z6,.int .i64 z7])).run Tryz.prog w=.ok true w:=by
 have u3:=Tryz.underlying3;have a3:=Tryz.isAgg3;have z3:=Tryz.sizeOf3;rw [show (9999:Nat)=9998 + 1 from rfl,Op.equalIn];simp only [Sem.run_bind,run_underlying Tryz.underlying121,Result.andThen_ok];simp only [Std.Legacy.Range.forIn_eq_forIn_range',Std.Legacy.Range.size,Nat.sub_zero,Nat.add_sub_cancel,Nat.div_one,List.range'_succ,List.range'_zero,List.forIn_cons,List.forIn_nil]
 go_simp
theorem b3i (a:Pc):a3s Tryz.prog 123 (prC a) (prC a) true:=by
 refine ⟨fun w=>?_,by kernel_rfl⟩;have heq:=a8r
 cases a
 unfold prC;simp [go_sem,heq]
theorem b3z (a b:Wd):a3s Tryz.prog 120 (wdC a) (wdC b) (decide (a=b)):=by
 refine ⟨fun w=>?_,by kernel_rfl⟩
 cases a
 cases b
 unfold wdC;simp [go_sem]
 repeat' split
 all_goals simp_all
theorem b2x (a:Wd):a3s Tryz.prog 120 (wdC a) (wdC a) true:=by
 have h:=b3z a a;rw [xh7 rfl] at h;exact h
theorem a4z {w:World} {v v':Value} {l:List Pc} (hL:Sl nF w 13 v (l.map prC)) (hM:Sl nF w 13 v' (l.map prC)):Fn Tryz.prog 31 [v,v'] w (RBf (.bool true) w):=by
 have b1:=hL.bound;obtain ⟨p,c,rfl⟩:=hL.len;obtain ⟨p',c',rfl⟩:=hM.len;have hdl:(!decide ((l.length:Int)=(l.length:Int)))=false:=by rw [xh7 rfl];rfl
 refine yEn Tryz.func31 Tryz.ntmps31 (by kernel_rfl) (by kernel_rfl) rfl rfl ?_;have hS:=St.start w
 repeat' (first|(with_reducible apply a5 a4);rfl;rfl;rfl|refine yDn (by with_reducible constructor) ?_|(with_reducible apply f8);rfl;assumption)
 refine o6 (F:=nF) (w0:=w) (X:=Nat) (fun i=>[(5,.int .i64 (i:Nat))]) [0,1] rfl (fun _=>[]) (fun i=>i<=l.length) (fun i=>l.length - i) 0 (by exact Fr.sub_of rfl) (xf0 _) hS ?_;clear hS;rintro i w1 hi hS;dsimp only [List.cons_append,List.nil_append] at hi hS |-;by_cases hlt:i < l.length;rotate_left
 ·obtain rfl:i=l.length:=by omega
  repeat' (first|(with_reducible apply a5 a4);rfl;rfl;rfl|refine yDn (by with_reducible constructor) ?_|(with_reducible apply b6);rfl;all_goals (intro hb hp;try (exfalso;omega)))
  (refine d4 rfl ?_)
  exact ⟨rfl,hS.sub (xh8 _)⟩
 obtain ⟨x,hx⟩:=l9 (l:=l) (i:=i) (by omega);have hrow:=i7 (f:=prC) hx;obtain ⟨b,off,rfl,hro⟩:=hL.at_ (i:=i) hlt;obtain ⟨b',off',rfl,hro2⟩:=hM.at_ (i:=i) hlt;have heq:=b3i x;unfold prC at hrow heq
 repeat' (first|(with_reducible apply a5 a4);rfl;rfl;rfl|refine yDn (by with_reducible constructor) ?_|(with_reducible apply b6);rfl;all_goals (intro hb hp;try (exfalso;omega)))
 (focus ((with_reducible apply a8 _ _ _ (by kernel_rfl) (by kernel_rfl) hS);(repeat' (first|(first|(with_reducible apply i4 a4);rfl;rfl|(with_reducible apply i6);rfl;(intro wd hd;replace hd:St _ _ wd _:=hd;(apply Ld.st a4;rfl;exact hd.roR (by assumption) (by assumption);rfl));rfl|(with_reducible apply z9 a4);rfl;rfl;rfl;rfl;omega;rfl)|(with_reducible apply a6M);rfl;rfl;exact heq;rfl));all_goals ((with_reducible apply l3);intro w' hS';clear hS;have hS:=hS';clear hS')))
 repeat' (first|(with_reducible apply a5 a4);rfl;rfl;rfl|(with_reducible apply o9);rfl;rfl;omega;omega;rfl|refine yDn (by with_reducible constructor) ?_|(with_reducible apply f8);rfl;rfl)
 exact m8 (i + 1) (by exact Fr.sub_of rfl) (by omega) hS (by omega)
theorem a4y {w:World} {v v':Value} {l:List Wd} (hL:Sl nF w 2 v (l.map wdC)) (hM:Sl nF w 2 v' (l.map wdC)):Fn Tryz.prog 32 [v,v'] w (RBf (.bool true) w):=by
 have b1:=hL.bound;obtain ⟨p,c,rfl⟩:=hL.len;obtain ⟨p',c',rfl⟩:=hM.len;have hdl:(!decide ((l.length:Int)=(l.length:Int)))=false:=by rw [xh7 rfl];rfl
 refine yEn Tryz.func32 Tryz.ntmps32 (by kernel_rfl) (by kernel_rfl) rfl rfl ?_;have hS:=St.start w
 repeat' (first|(with_reducible apply a5 a4);rfl;rfl;rfl|refine yDn (by with_reducible constructor) ?_|(with_reducible apply f8);rfl;assumption)
 refine o6 (F:=nF) (w0:=w) (X:=Nat) (fun i=>[(5,.int .i64 (i:Nat))]) [0,1] rfl (fun _=>[]) (fun i=>i<=l.length) (fun i=>l.length - i) 0 (by exact Fr.sub_of rfl) (xf0 _) hS ?_;clear hS;rintro i w1 hi hS;dsimp only [List.cons_append,List.nil_append] at hi hS |-;by_cases hlt:i < l.length;rotate_left
 ·obtain rfl:i=l.length:=by omega
  repeat' (first|(with_reducible apply a5 a4);rfl;rfl;rfl|refine yDn (by with_reducible constructor) ?_|(with_reducible apply b6);rfl;all_goals (intro hb hp;try (exfalso;omega)))
  (refine d4 rfl ?_)
  exact ⟨rfl,hS.sub (xh8 _)⟩
 obtain ⟨x,hx⟩:=l9 (l:=l) (i:=i) (by omega);have hrow:=i7 (f:=wdC) hx;obtain ⟨b,off,rfl,hro⟩:=hL.at_ (i:=i) hlt;obtain ⟨b',off',rfl,hro2⟩:=hM.at_ (i:=i) hlt;have heq:=b2x x;unfold wdC at hrow heq
 repeat' (first|(with_reducible apply a5 a4);rfl;rfl;rfl|refine yDn (by with_reducible constructor) ?_|(with_reducible apply b6);rfl;all_goals (intro hb hp;try (exfalso;omega)))
 (focus ((with_reducible apply a8 _ _ _ (by kernel_rfl) (by kernel_rfl) hS);(repeat' (first|(first|(with_reducible apply i4 a4);rfl;rfl|(with_reducible apply i6);rfl;(intro wd hd;replace hd:St _ _ wd _:=hd;(apply Ld.st a4;rfl;exact hd.roR (by assumption) (by assumption);rfl));rfl|(with_reducible apply z9 a4);rfl;rfl;rfl;rfl;omega;rfl)|(with_reducible apply a6M);rfl;rfl;exact heq;rfl));all_goals ((with_reducible apply l3);intro w' hS';clear hS;have hS:=hS';clear hS')))
 repeat' (first|(with_reducible apply a5 a4);rfl;rfl;rfl|(with_reducible apply o9);rfl;rfl;omega;omega;rfl|refine yDn (by with_reducible constructor) ?_|(with_reducible apply f8);rfl;rfl)
 exact m8 (i + 1) (by exact Fr.sub_of rfl) (by omega) hS (by omega)
def a1Q (A:List Ar) (L:List Sh) (en slots:Int):Int:=if l8 A L en=0 then (if slots < 0\/512 < slots then 3 else if slots < l7 A then 8 else 0) else l8 A L en
theorem b2L {A:List Ar} {L:List Sh} {en:Int} (h:l8 A L en=0):b4 A=0:=by
 unfold l8 at h;by_cases h1:b4 A=0
 ·exact h1
 ·rw [xd9 h1] at h;exact absurd h h1
theorem a37 {w:World} {A:List Ar} {Lp:List (Sh×Value)} {va vs:Value} {en:Int} (hA:Sl nF w 4 va (A.map arC)) (hL:ShsV w Lp vs) (hen:-9223372036854775808<=en) (hen2:en<=9223372036854775807) (slots:Int):Fn Tryz.prog 35 [lkA va vs en,.int .i64 slots] w (RBf (.int .i64 (a1Q A (shs Lp) en slots)) w):=by
 have hchk:=fun w1 Γ1 (h:St nF w w1 Γ1)=>a28 (hA.now h) (hL.now h) hen hen2;have hpg:=fun w1 Γ1 (h:St nF w w1 Γ1) hc=>a3c (hA.now h) hc;obtain ⟨pa,ca,rfl⟩:=hA.len;obtain ⟨ph,ch,rfl⟩:=hL.sl.len;unfold a1Q;unfold lkA at hchk |-;have hlk:=fun h=>b2L (A:=A) (L:=shs Lp) (en:=en) h;generalize l8 A (shs Lp) en=c at hchk hlk |-;by_cases h0:c=0;rotate_left
 ·rw [xd9 h0];have hd:(!decide (c=0))=true:=by rw [xh9 h0];rfl
  refine yEn Tryz.func35 Tryz.ntmps35 (by kernel_rfl) (by kernel_rfl) rfl rfl ?_;have hS:=St.start w
  repeat' (first|(with_reducible apply a5 a4);rfl;rfl;rfl|(with_reducible apply a6);rfl;(apply Ld.st a4;rfl;exact hS.blkR 0 rfl;rfl);rfl|refine yDn (by with_reducible constructor) ?_|(with_reducible apply a9);rfl;assumption|(with_reducible apply d8 hS);rfl;rfl;rfl;clear hS;intro g w' hS|(with_reducible apply b5 hS);rfl;rfl;rfl;refine ⟨_,hchk _ _ hS,?_⟩;clear hS;intro w' hS)
  (refine d4 rfl ?_)
  exact ⟨rfl,hS.sub (xh8 _)⟩
 rw [xd8 h0];have hpg:=fun w1 Γ1 (h:St nF w w1 Γ1)=>hpg w1 Γ1 h (hlk h0);have hd:(!decide (c=0))=false:=by rw [xh7 h0];rfl
 by_cases h2:0<=slots/\slots<=512;rotate_left
 ·rw [xd8 (by omega)];have hd2:(!decide (0<=slots/\slots<=512))=true:=by rw [xh9 h2];rfl
  refine yEn Tryz.func35 Tryz.ntmps35 (by kernel_rfl) (by kernel_rfl) rfl rfl ?_;have hS:=St.start w
  repeat' (first|(with_reducible apply a5 a4);rfl;rfl;rfl|(with_reducible apply a6);rfl;(apply Ld.st a4;rfl;exact hS.blkR 0 rfl;rfl);rfl|refine yDn (by with_reducible constructor) ?_|(with_reducible apply a9);rfl;assumption|(with_reducible apply f8);rfl;assumption|(with_reducible apply d8 hS);rfl;rfl;rfl;clear hS;intro g w' hS|(with_reducible apply b5 hS);rfl;rfl;rfl;refine ⟨_,hchk _ _ hS,?_⟩;clear hS;intro w' hS|(with_reducible apply b5 hS);rfl;rfl;rfl;refine ⟨_,d7 _ _ _ _,?_⟩;clear hS;intro w' hS)
  (refine d4 rfl ?_)
  exact ⟨rfl,hS.sub (xh8 _)⟩
 rw [xd9 (by omega)];have hd2:(!decide (0<=slots/\slots<=512))=false:=by rw [xh7 h2];rfl
 by_cases h3:slots < l7 A
 ·rw [xd8 h3];have hd3:decide (slots < l7 A)=true:=xh7 h3;refine yEn Tryz.func35 Tryz.ntmps35 (by kernel_rfl) (by kernel_rfl) rfl rfl ?_;have hS:=St.start w
  repeat' (first|(with_reducible apply a5 a4);rfl;rfl;rfl|(with_reducible apply a6);rfl;(first|apply Ld.sl a4;rfl;exact hS.blkC 0 rfl rfl|apply Ld.st a4;rfl;exact hS.blkR 0 rfl;rfl);rfl|refine yDn (by with_reducible constructor) ?_|(with_reducible apply a9);rfl;assumption|(with_reducible apply f8);rfl;assumption|(with_reducible apply d8 hS);rfl;rfl;rfl;clear hS;intro g w' hS|(with_reducible apply b5 hS);rfl;rfl;rfl;refine ⟨_,hchk _ _ hS,?_⟩;clear hS;intro w' hS|(with_reducible apply b5 hS);rfl;rfl;rfl;refine ⟨_,d7 _ _ _ _,?_⟩;clear hS;intro w' hS|(with_reducible apply b5 hS);rfl;rfl;rfl;refine ⟨_,hpg _ _ hS,?_⟩;clear hS;intro w' hS)
  (refine d4 rfl ?_)
  exact ⟨rfl,hS.sub (xh8 _)⟩
 ·rw [xd9 h3];have hd3:decide (slots < l7 A)=false:=xh9 h3;refine yEn Tryz.func35 Tryz.ntmps35 (by kernel_rfl) (by kernel_rfl) rfl rfl ?_;have hS:=St.start w
  repeat' (first|(with_reducible apply a5 a4);rfl;rfl;rfl|(with_reducible apply a6);rfl;(first|apply Ld.sl a4;rfl;exact hS.blkC 0 rfl rfl|apply Ld.st a4;rfl;exact hS.blkR 0 rfl;rfl);rfl|refine yDn (by with_reducible constructor) ?_|(with_reducible apply f8);rfl;assumption|(with_reducible apply d8 hS);rfl;rfl;rfl;clear hS;intro g w' hS|(with_reducible apply b5 hS);rfl;rfl;rfl;refine ⟨_,hchk _ _ hS,?_⟩;clear hS;intro w' hS|(with_reducible apply b5 hS);rfl;rfl;rfl;refine ⟨_,d7 _ _ _ _,?_⟩;clear hS;intro w' hS|(with_reducible apply b5 hS);rfl;rfl;rfl;refine ⟨_,hpg _ _ hS,?_⟩;clear hS;intro w' hS)
  (refine d4 rfl ?_)
  exact ⟨rfl,hS.sub (xh8 _)⟩
end Go.Proofs.YtejnpppejalhfacGreat
